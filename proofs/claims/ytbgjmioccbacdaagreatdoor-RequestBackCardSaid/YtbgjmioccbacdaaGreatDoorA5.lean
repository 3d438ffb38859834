import Derived.Test.YtbgjmioccbacdaaGreatDoorA4
import Derived.Lib.ConvBytes
import Derived.MapKept
set_option linter.all false
namespace Go.Proofs.YtbgjmioccbacdaaGreatDoor.Vm
open Classical
section
variable {P:Program} {C:Ctx} {V0:Nat->Value} {O0 O:Own} {w0 w:World} {m:Nat->Value} {st:St} {a:Act} {o:Oper}
theorem Ai5 {c:Call} {s y:Operand} {t u:Nat} {tu:TI} (hC:TOk P C) (hS:Sim V0 O0 w0 O m st a w) {d:Tmp} (hd:o.dst=some d) (ho:o.op= .call c) (hcal:c.callee= .builtin .append) (hargs:c.args= #[s,y]) (hty:c.argTypes.toList=[t,u])
 (htu:C.T u=some tu) (hsl:Yk tu.d=true) {fet:Fet} (hf:OL st.Jp fet) {x' y':A} (hx:J8 O st.Jp m w (a.eval s) x') (hy:J8 O st.Jp m w (a.eval y) y')
 (hok:J5 (iZ C fet d t x' y').ok) (hfr: ∀ p∈(iZ C fet d t x' y').new,st.fresh p.1=true):Good P V0 O0 w0 (apply st o (iZ C fet d t x' y')) o a w:=by
 intro next Q hn
 have hF:FOk O st.Jp m w fet:=fun q x h=>⟨hf q x h,hS.Jp q x (hf q x h)⟩
 unfold iZ at *
 obtain⟨ti,e,te,ht,hte,hd',he⟩:=WI hok;rw[he]at hok hfr hn;clear he;split at hok
 .rename_i q;obtain⟨r,hr,he⟩:=JL hok;rw[he]at hok;dsimp only at hfr hn;rw[he]at hfr hn;clear he;obtain⟨hok1,hok2⟩:=hok.append;obtain⟨h1,h2⟩:=hok2.cons;obtain⟨h2,h3⟩:=h2.cons;obtain⟨h3,h4⟩:=h3.cons;have h1:=Dp h1;have h2:=Dp h2;have h3:0<te.cs.length:=by rw[<- h2];simpa [Ep]using h3
  have h2:r.l.t.len=te.cs.length:=h2;have h4:(r.l.xs.length+(Rt fet r.l.t y').2.length)*(te.bytes+1)<=140737488355328:=by simpa using h4.cons.1
  obtain⟨news,hsrc⟩:=src_of (P:=P) hF hy hok1;have hq:=NK hr;obtain⟨hv,hO⟩:=hx.own hF hq;have hq':=hf _ _ hq;rw[h2]at hsrc;refine zY (frz:=r.frz) (l:=r.l) (l':=⟨r.l.t,r.l.xs++(Rt fet r.l.t y').2⟩) (del:=[q]) hC hS hd ho hcal hargs hty ht hte hd' htu hsl hsrc h3 (by rw[Sl.KI,Sl.KI];exact h4) (Nl (hfr _ Du)) (Sl.Ant _ _ _) h2 h2 ?_ next Q (fun O' m' a' w' h=>hn O' m' a' w' ?_)
  .rcases hO.2 with ⟨h5,h6,h7⟩ | ⟨h5,g,cap,cur,h6,h7,_⟩
   .exact .inl ⟨h5,h6,by rw[hv,h7]⟩
   .refine .inr ⟨h5,q,g,cap,cur,rfl,?_,h6,by rw[hv,h6],?_⟩
    .rw[hq',h1]
    .rw[h1];exact h7
  .rw[We hd];rw[h1]at h;exact h
 .obtain⟨hok1,hok2⟩:=hok.append;obtain⟨h3,h4⟩:=hok2.cons;have h3:0<te.cs.length:=by simpa [Ep]using h3
  have h4:(Rt fet (tyl te.cs) y').2.length*(te.bytes+1)<=140737488355328:=by simpa using h4.cons.1
  obtain⟨news,hsrc⟩:=src_of (P:=P) hF hy hok1;rw[V4]at hsrc;refine zY (frz:=false) (l:=⟨tyl te.cs,[]⟩) (l':=⟨tyl te.cs,(Rt fet (tyl te.cs) y').2⟩) (del:=[]) hC hS hd ho hcal hargs hty ht hte hd' htu hsl hsrc h3 (by rw[Sl.Anv,Sl.KI];simpa using h4) (Nl (hfr _ Du)) (by rw[Sl.Anv];rfl) (V4 _) (V4 _) (.inl ⟨trivial,rfl,hx⟩) next Q (fun O' m' a' w' h=>hn O' m' a' w' ?_)
  rw[We hd];exact h
 .exact(JE hok).elim
theorem Ak5 {t:Nat} {x:Operand} (hC:TOk P C) (hS:Sim V0 O0 w0 O m st a w) {d:Tmp} (hd:o.dst=some d) (ho:o.op= .box t x) {x':A} (hx:J8 O st.Jp m w (a.eval x) x') (hids: ∀ i∈x'.ids,i∈st.ids\/(Jv st.Jp i).isSome)
 (hok:J5 (Wh C d t x').ok) (hfr: ∀ p∈(Wh C d t x').new,st.fresh p.1=true) (hnd:nodup ((Wh C d t x').new.map (·.1))=true):Good P V0 O0 w0 (apply st o (Wh C d t x')) o a w:=by
 refine AgG hC hS hx hids hd (fun ti ht hv hs=> ?_) hok hfr hnd;simp only[execOp,ho,Instr.box,newVar,newRow,D8];rfl
theorem Ag8 {t:Nat} {ti:TI} (hC:TOk P C) (hS:Sim V0 O0 w0 O m st a w) {d:Tmp} (hd:o.dst=some d) (ho:o.op= .alloc t) (ht:C.T t=some ti)
 (hok:J5 (Wh C d t (.agg (ti.cs.map CK.zero))).ok) (hfr: ∀ p∈(Wh C d t (.agg (ti.cs.map CK.zero))).new,st.fresh p.1=true) (hnd:nodup ((Wh C d t (.agg (ti.cs.map CK.zero))).new.map (·.1))=true) :
 Good P V0 O0 w0 (apply st o (Wh C d t (.agg (ti.cs.map CK.zero)))) o a w:=by
 obtain⟨i,z,h1,h2,_,h3⟩:=Aiw (O:=O) (Jp:=st.Jp) (m:=m) (w:=w) (hC.is ht);refine AgG (v:=.agg z.cells) (x:=.agg (ti.cs.map CK.zero)) hC hS ⟨z.cells,rfl,h3.1,h3.2⟩ (fun j hj=> ?_) hd (fun ti ht hv hs=> ?_) hok hfr hnd
 .exfalso
  have: ∀ ks:List CK,(ks.map CK.zero).flatMap A.Nc=[]:=by
   intro ks
   induction ks with
   | nil=>rfl
   | cons k ks ih=>rw[Eb,FD,ih];cases k<;>rfl
  have hj':j∈(ti.cs.map CK.zero).flatMap A.Nc:=hj;rw[this]at hj';cases hj'
 .simp only[execOp,ho,Instr.alloc,D8,zeroValue,typeInfo,run_program,Result.andThen_ok,h1,h2,Sem.run_pure,newVar,newRow];rfl
theorem xR {t:Nat} {ti:TI} (hT:V8 P t ti) {v:Value} {b k:Nat} (hs:v.cells.size=ti.cs.length) (h1: ∀ j,j<v.cells.size->(v.cells.getD j undef).oneCell'=true) (hc: ∀ j,j<v.cells.size->(w.cell? (at' b (k+j))).isSome=true) (hf: ∀ j,j<v.cells.size->w.frozen? (at' b (k+j))=false) :
 (storeVar t (at' b k) v).run P w= .ok () (w.setCells b k v.cells.toList):=by
 have:=run_storeCells_cells (P:=P) b k v.cells.toList 0 w (fun j hj=>by simpa using hc j (by simpa using hj)) (fun j hj=>by simpa using hf j (by simpa using hj)) (fun u hu=>by obtain⟨j,hj,he⟩:=F9.1 hu;have:=h1 j (by simpa using hj);rw[Dn,D6 (by simpa using hj)]at this;rw[<- he];simpa using this);unfold storeVar;simp only[D8,hT.OC,Result.andThen_ok];all_goals simp_all[hs,at']
theorem AfV {t:Nat} {x y:Operand} (hC:TOk P C) (hS:Sim V0 O0 w0 O m st a w) (hd:o.dst=none) (ho:o.op= .store t x y) {fet:Fet} (hf:OL st.Jp fet) {q off:Nat} {v':A} (hx:J8 O st.Jp m w (a.eval x) (.ptr q off)) (hy:J8 O st.Jp m w (a.eval y) v')
 (hids: ∀ i∈v'.ids,i∈st.ids\/(Jv st.Jp i).isSome)
 (hok:J5 (UT C fet t (.ptr q off) v').ok) (hfr: ∀ p∈(UT C fet t (.ptr q off) v').new,st.fresh p.1=true) (hnd:nodup ((UT C fet t (.ptr q off) v').new.map (·.1))=true):Good P V0 O0 w0 (apply st o (UT C fet t (.ptr q off) v')) o a w:=by
 intro next Q hn
 have hF:FOk O st.Jp m w fet:=fun q x h=>⟨hf q x h,hS.Jp q x (hf q x h)⟩
 unfold UT at *
 obtain⟨ti,ht,he⟩:=Kt hok;rw[he]at hok hfr hnd hn;clear he;dsimp only at hok hfr hnd hn;obtain⟨cs,hcs,he⟩:=JL hok;rw[he]at hok hfr hnd hn;clear he;obtain⟨h1,h2⟩:=hok.cons;obtain⟨h2,h3⟩:=h2.cons;have h2:=Dp h2;obtain⟨h3,h30⟩:=h3.cons;have h3:=DI h3;have h30:0<ti.cs.length:=by simpa [Ep]using h30.cons.1
 have hT:=hC.is ht;obtain⟨b,base,g1,g2,g3⟩:=hx.ptr hF (KX hcs);have hq:=hf _ _ (KX hcs);have hvc:=hy.cells h1;have hvs:v'.cells.length=ti.cs.length:=h2;have hsz:(a.eval y).cells.size=ti.cs.length:=by rw[hvc.1,h2]
 have hr:(execOp a.eval o).run P w= .ok .skip (w.setCells b (base+off) (a.eval y).cells.toList):=by
  have:=xR (P:=P) (w:=w) (b:=b) (k:=base+off) hT hsz (fun j hj=>(hvc.2 j (by rw[<- hvc.1];exact hj)).one) (fun j hj=>by
   obtain⟨_,_,u,g4,_⟩:=g3 (off+j) (by omega);rw[EE,g4];rfl) (fun j hj=>by
   obtain⟨_,g4,_⟩:=g3 (off+j) (by omega);rw[EE];exact g4)
  simp only[execOp,ho,Instr.storeAt,Instr.sureAddr,g2,D8,Sem.run_pure,Result.andThen_ok,this]
 unfold Oper.wp;rw[hr,Oper.upon_skip];obtain⟨_,_,u0,hu0,_⟩:=g3 off (by omega)
 obtain⟨c,e,fr,hblk⟩: ∃ c e fr,w.heap[b]? =some (.cells c e fr):=by
  unfold World.cell? at hu0;dsimp only at hu0;split at hu0
  .rename_i c e fr hh;exact⟨c,e,fr,hh⟩
  .cases hu0
 have hcell: ∀ k u,w.cell? (at' b k)=some u->c[k]? =some u:=by intro k u hu;simp only[World.cell?,hblk]at hu;simpa using hu
 have hend:base+off+(a.eval y).cells.toList.length<=c.size:=by rw[Array.length_toList,hsz];obtain⟨_,_,u,hu,_⟩:=g3 (off+(ti.cs.length - 1)) (by omega);have:=hcell _ _ hu;have:=(DT.1 this).1;omega
 obtain⟨c',k1,k2,k3,k4,k5,k6,k7,k8⟩:=Zi b (a.eval y).cells.toList (base+off) w hblk hend;rw[Array.length_toList,hsz]at k3
 have hout: ∀ k,(k<base+off\/base+off+ti.cs.length<=k)->c'[k]? =c[k]? :=by
  intro k hk;by_cases hks:k<c.size
  .have:=k3 k;rw[AvH]at this;rw[getD_eq,getD_eq hks,this]
  .rw[FP (by omega),FP (by omega)]
 have hown: ∀ k,base+off<=k->k<base+off+ti.cs.length->O b k=some q:=by intro k hk1 hk2;have:=(g3 (k - base) (by omega)).1;rwa [show base+(k - base)=k from by omega]at this
 let w':=w.setCells b (base+off) (a.eval y).cells.toList
 have hM:Moves O (fun i=>i=q) w w':=by
  refine Moves.row k6 k7 k8 k5 hblk k1 k4 k2 (fun k hk=>hout k ?_) (.inl ⟨base+off,q,?_,hown _ (DW _) (by omega),rfl⟩)
  .rcases Ec k (base+off)with h | h
   .exact .inl h
   .right;rcases Ec k (base+off+ti.cs.length)with h' | h'
    .exact absurd rfl (hk q (hown k h h'))
    .exact h'
  .rw[Array.length_toList,hsz]at hend;omega
 have hP:Passes O O (fun i=>i=q) w.heap.size:=⟨fun _ _ _ h=>h,fun _ _ _ _ h _=>h⟩
 have hpr:=hM.JW hP;let ad:=KY (MM fet q+1+off) (adK C (q / 256 - 128) ti) v'.cells;let m':Nat->Value:=fun i=>if has (ad.2.map (·.1)) i then .slice none 0 0 else m i;let Nw:Nat->Prop:=fun i=> ∃ p∈ad.2,p.1=i;have hNw: ∀ i,Nw i->Qu st i:=by rintro i ⟨p,hp,rfl⟩;exact Nl (hfr p hp)
 have hm_not: ∀ i,¬ Nw i->m' i=m i:=by intro i hi;refine Dt (fun h=>hi ?_);obtain⟨p,hp,hpe⟩:=DF.1 (NC.1 h);exact⟨p,hp,hpe⟩
 have hmad: ∀ p∈ad.2,m' p.1= .slice none 0 0:=fun p hp=>Dw (NC.2 (DF.2 ⟨p,hp,rfl⟩));have hqN: ¬ Nw q:=fun h=>by rw[(hNw q h).2]at hq;cases hq
 let objs':=JC (Kw (JC st.Jp [(q,.box (splice cs off ad.1))]) []) ad.2;have hnewO: ∀ p∈ad.2,Jv objs' p.1=some p.2:=fun p hp=>lY hnd (by exact hp)
 have hget: ∀ i z,Jv objs' i=some z->(i,z)∈ad.2\/(¬ Nw i/\i=q/\z= .box (splice cs off ad.1))\/(¬ Nw i/\i≠q/\Jv st.Jp i=some z):=by
  intro i z hz;rcases WZ hz with h | ⟨hno,_,h⟩
  .exact .inl h
  .have hni: ¬ Nw i:=by rintro ⟨p,hp,rfl⟩;exact hno p.2 hp
   rcases h with h | ⟨hno',h⟩
   .simp only[Eh]at h;injection h with e1 e2;exact .inr (.inl ⟨hni,e1,e2⟩)
   .exact .inr (.inr ⟨hni,fun hiq=>hno' (.box (splice cs off ad.1)) (by rw[hiq];exact List.mem_singleton_self _),h⟩)
 have hE:Rz st.Jp m objs' m' Nw:=by
  intro i z hz;rcases hget i z hz with h | ⟨hni,h1',h2'⟩ | ⟨hni,_,h⟩
  .exact .inl ⟨_,h,rfl⟩
  .subst h1';subst h2';exact .inr ⟨_,hq,rfl,hm_not _ hni⟩
  .exact .inr ⟨z,h,rfl,hm_not _ hni⟩
 have hadl:ad.1.length=ti.cs.length:=by rw[(Zv (adK C (q / 256 - 128) ti) v'.cells (MM fet q+1+off)).1,hvs]
 have happ:apply st o {ok:=[v'.isVal,Nat.beq v'.cells.length ti.cs.length,Nat.ble (off+ti.cs.length) cs.length,Nat.blt 0 ti.cs.length],val:=.undef,upd:=[(q,.box (splice cs off ad.1))],new:=ad.2}= {tmps:=put st.tmps none .undef,Jp:=objs'}:=by unfold apply;rw[hd]
 refine hn O m' _ _ ?_;rw[happ,hd];refine hS.next (st':= {tmps:=put st.tmps none .undef,Jp:=objs'}) (d:=none) (x:=.undef) (T:=fun i=>i=q) (Nw:=Nw) hM hP (fun b k _ h=>h) hE (fun n hn'=>(hNw n hn').both) (fun r hr=>by rw[hr,hq];rfl) (fun i z hz=> ?_) rfl (fun h=>absurd rfl h);rcases hget i z hz with h | ⟨hni,h1',h2'⟩ | ⟨hni,hiq,h⟩
 .right;obtain⟨⟨e',sz',h4⟩,_⟩:=(Zv (adK C (q / 256 - 128) ti) v'.cells (MM fet q+1+off)).2.2 _ h;dsimp only at h4;subst h4;exact⟨⟨by simp [Sl.es],.inl ⟨trivial,rfl,hmad _ h⟩⟩,(hNw _ ⟨_,h,rfl⟩).ne⟩
 .right;subst h1';subst h2'
  have hcs':RN O objs' m' w' (a.eval y).cells ad.1:=hvc.AjC (ks:=(adK C (i / 256 - 128) ti)) (id:=MM fet i+1+off) hpr hE (fun j hj r hr' hn'=>by
   rcases hids r (tK h1 hj hr')with hh | hh
   .exact(hNw r hn').1 hh
   .rw[(hNw r hn').2]at hh;cases hh) (fun p hp=>⟨hnewO p hp,hmad p hp⟩)
  refine⟨⟨b,base,by rw[hm_not _ hni];exact g1,fun j hj=> ?_⟩,hS.ids _ _ hq⟩;rw[Zk _ _ _ (by rw[hadl];omega)]at hj;obtain⟨g4,g5,u,g6,g7⟩:=g3 j hj;refine⟨g4,by rw[hM.frozen (cell_lt g6)];exact g5,?_⟩;rw[iR _ _ _ _ (by rw[hadl];omega),hadl];have hcell': ∀ k,w'.cell? (at' b k)=c'[k]? :=by intro k;simp only[World.cell?];rw[k1];rfl
  rw[hcell'];have hjs:base+j<c.size:=(DT.1 (hcell _ _ g6)).1;by_cases hin:off<=j/\j<off+ti.cs.length
  .rw[Dw hin];refine⟨_,getD_eq,?_⟩;rw[k3,AvI];have e1:(a.eval y).cells.toList.getD (base+j - (base+off)) undef=(a.eval y).cells.getD (j - off) undef:=by rw[Dn,Dj,DY,show base+j - (base+off)=j - off from by omega]
   rw[e1];exact hcs'.2 (j - off) (by rw[hadl];omega)
  .rw[Dt hin,hout _ (by omega)];exact⟨u,hcell _ _ g6,g7.step hpr hE (fun r hr' hn'=>(hNw r hn').1 (Xy hq (TP hj hr')))⟩
 .exact .inl ⟨hiq,h,hm_not _ hni⟩
end
section
variable {P:Program} {C:Ctx} {V0:Nat->Value} {O0 O:Own} {w0 w:World} {m:Nat->Value} {st:St} {a:Act} {o:Oper}
theorem xQ (hS:Sim V0 O0 w0 O m st a w) {q e g cap k0:Nat} {l l':Sl} {cur:Array Value} {vs:List Value} {xs:List A}
 (hq:Jv st.Jp q=some (.arr e false l)) (hm:m q= .slice (some (at' g 0)) l.es.length cap) (hg:NJ w g cur e) (hln:l'.es.length=l.es.length) (hls:l'.sz=l.sz) (hle:k0+xs.length<=l.es.length*l.sz) (hl:vs.length=xs.length) (h0:0<xs.length)
 (hel: ∀ r j,r<l.es.length->j<l.sz->(l'.es.getD r []).getD j .undef=if k0<=r*l.sz+j/\r*l.sz+j<k0+xs.length then xs.getD (r*l.sz+j - k0) .undef else(l.es.getD r []).getD j .undef)
 (hv: ∀ j,j<xs.length->Jw O w (vs.getD j undef) (xs.getD j .undef)) :
 Sim V0 O0 w0 O m {st with Jp:=L9 st.Jp q (.arr e false l')} a (w.setCells g k0 vs):=by
 obtain⟨hsz,hr⟩:=hS.Jp q _ hq
 obtain⟨g',cap',cur',h2,h3,h4,h5,h6,h7,h8,h9⟩: ∃ g' cap' cur',m q= .slice (some (at' g' 0)) l.es.length cap'/\NJ w g' cur' e/\l.es.length<=cap'/\cap'<=maxLen/\cur'.size=cap'*l.sz /\
  (∀ i j,i<l.es.length->j<l.sz-> ∃ u,cur'[i*l.sz+j]? =some u/\Jw O w u ((l.es.getD i []).getD j .undef))/\(∀ k,k<cur'.size->l.es.length*l.sz<=k->O g' k=some q)/\(∀ k,k<l.es.length*l.sz->O g' k=if false then none else some q):=by
  rcases hr with ⟨_,_,h⟩ | ⟨_,h⟩
  .rw[hm]at h;cases h
  .exact h
 rw[hm]at h2;injection h2 with h2 _ hcc;injection h2 with h2;injection h2 with h2;subst h2;subst hcc;obtain⟨h3,_⟩:=hg.inj h3;subst h3;obtain⟨fr,hg,hfr0⟩:=hg;have hmul:l.es.length*l.sz<=cap*l.sz:=DN _ h4;obtain⟨c',k1,k2,k3,k4,k5,k6,k7,k8⟩:=Zi g vs k0 w hg (by rw[hl];omega);rw[hl]at k3;let w':=w.setCells g k0 vs;have hout: ∀ k,(k<k0\/k0+xs.length<=k)->c'[k]? =cur[k]? :=by all_goals grind[getD_eq]
 have hown: ∀ k,k<l.es.length*l.sz->O g k=some q:=by intro k hk;simpa using h9 k hk
 have hM:Moves O (fun i=>i=q) w w':=by
  refine Moves.row k6 k7 k8 k5 hg k1 k4 k2 (fun k hk=>hout k ?_) (.inl ⟨k0,q,by omega,hown _ (by omega),rfl⟩);rcases Ec k k0 with h | h
  .exact .inl h
  .right;rcases Ec k (k0+xs.length)with h' | h'
   .exact absurd rfl (hk q (hown k (by omega)))
   .exact h'
 have hP:Passes O O (fun i=>i=q) w.heap.size:=⟨fun _ _ _ h=>h,fun _ _ _ _ h _=>h⟩
 have hpr:=hM.JW hP;have hE:Rz st.Jp m (L9 st.Jp q (.arr e false l')) m (fun _=>False):=by intro r y hy;all_goals grind[Ky,Obj.shp]
 have:=hS.next (st':= {st with Jp:=L9 st.Jp q (.arr e false l')}) (d:=none) (v:=undef) (x:=.undef) (T:=fun i=>i=q) (Nw:=fun _=>False) hM hP (fun b k _ h=>h) hE (fun _ h=>h.elim) (fun r hr=>by rw[hr,hq];rfl) (fun r y hy=> ?_) rfl (fun h=>absurd rfl h)
 .exact this
 .rw[Ky]at hy;by_cases hrq:r=q
  .right;subst hrq;rw[Dw rfl]at hy;injection hy with hy;subst hy;refine⟨?_,hS.ids _ _ hq⟩;simp only[KZ];rw[hln];refine⟨fun x hx=>Sl.es_len _ x hx,.inr ⟨trivial,g,cap,c',hm,⟨fr,k1,by rw[k2];exact hfr0⟩,h4,h5,by rw[k2,hls];exact h6,fun r' j hr' hj=> ?_,fun k hk hge=> ?_,fun k hk=> ?_⟩⟩
   .rw[hls]at hj ⊢;obtain⟨u,h10,h11⟩:=h7 r' j hr' hj;have hlt:r'*l.sz+j<l.es.length*l.sz:=by have:(r'+1)*l.sz<=l.es.length*l.sz:=DN _ hr';rw[Ei]at this;omega
    rw[hel r' j hr' hj];by_cases hin:k0<=r'*l.sz+j/\r'*l.sz+j<k0+xs.length
    .rw[Dw hin];refine⟨_,getD_eq,?_⟩;rw[k3,Dw hin];exact(hv _ (by omega)).JW hpr
    .rw[Dt hin,hout _ (by omega)];exact⟨u,h10,h11.JW hpr⟩
   .rw[hls]at hge;rw[k2]at hk;exact h8 k hk hge
   .rw[hls]at hk;simpa using hown k hk
  .rw[Dt hrq]at hy;exact .inl ⟨hrq,hy,rfl⟩
theorem AkV {t:Ty} {cs:List A} (h:(ZN t cs).1=true):(⟨t,(ZN t cs).2⟩:Sl).es=cs.map fun c=>[c]:=by simp_all[ZN,Sl.es,Ty.SG,Ty]
theorem Ajv: ∀(l:List (Nat×Obj)) (u:List (Nat×Obj)) (p:Nat×Obj),JC l (u++[p])=L9 (JC l u) p.1 p.2:=by
 intro l u p
 induction u generalizing l with
 | nil=>rfl
 | cons s u ih=>exact ih _
theorem AfW {t:Nat} {x y:Operand} (hC:TOk P C) (hS:Sim V0 O0 w0 O m st a w) (hd:o.dst=none) (ho:o.op= .store t x y) {fet:Fet} (hf:OL st.Jp fet) {q i off:Nat} {v':A} (hx:J8 O st.Jp m w (a.eval x) (.Kq q i off)) (hy:J8 O st.Jp m w (a.eval y) v')
 (hok:J5 (UT C fet t (.Kq q i off) v').ok):Good P V0 O0 w0 (apply st o (UT C fet t (.Kq q i off) v')) o a w:=by
 intro next Q hn
 unfold UT at *
 obtain⟨ti,ht,he⟩:=Kt hok;rw[he]at hok hn;clear he;dsimp only at hok hn;obtain⟨r,hr,he⟩:=JL hok;rw[he]at hok hn;clear he
 have main: ∀(l':Sl) (δ :Dl),J5 (KF fet ti.cs v'.cells).1->r.frz=false->has ((KF fet ti.cs v'.cells).2.2.map (·.1)) q=false->i<r.l.es.length->i*r.l.sz+off+ti.cs.length<=r.l.es.length*r.l.sz->0<ti.cs.length ->
  l'.es.length=r.l.es.length->l'.sz=r.l.sz->(∀ r' j,r'<r.l.es.length->j<r.l.sz->(l'.es.getD r' []).getD j .undef=if i*r.l.sz+off<=r'*r.l.sz+j/\r'*r.l.sz+j<i*r.l.sz+off+(KF fet ti.cs v'.cells).2.1.length then(KF fet ti.cs v'.cells).2.1.getD (r'*r.l.sz+j - (i*r.l.sz+off)) .undef else(r.l.es.getD r' []).getD j .undef) ->
  δ = {ok:= δ.ok,val:=.undef,upd:=(KF fet ti.cs v'.cells).2.2++[(q,.arr r.e false l')]}->(∀ O' m' a' w',Sim V0 O0 w0 O' m' (apply st o δ) a' w'->next a' w')->o.wp P a w next Q:=by
  intro l' δ hok1 h1 hno h3 hrow' h4 hln hls hel hδ hn;have hT:=hC.is ht;have hval:=oU hok1;have hvc:=hy.cells hval;obtain⟨g1,g2,g3,g4⟩:=UQ hf ti.cs v'.cells (fun j=>(a.eval y).cells.getD j undef) (fun j hj=>hvc.2 j hj) hok1;obtain⟨O1,hS1,hp1,hle1,hv1,hE1,_⟩:=hS.freezes _ g3;have hq:=hf _ _ (NK hr);have hqU: ∀ p∈(KF fet ti.cs v'.cells).2.2,p.1≠q:=by intro p hp he;have:has ((KF fet ti.cs v'.cells).2.2.map (·.1)) q=true:=NC.2 (DF.2 ⟨p,hp,he⟩);rw[this]at hno;cases hno
  have hq1:Jv (JC st.Jp (KF fet ti.cs v'.cells).2.2) q=some (.arr r.e false r.l):=by rw[MI _ _ _ hqU,hq,h1]
  have hx':JF O st.Jp m w (a.eval x) (.Kq q i off):=hx;obtain⟨_,hx'⟩:=hx';rw[hq]at hx';simp only[Option.map_some,Obj.shp]at hx';obtain⟨g,n',cap,h5,h6⟩:=hx' h3;obtain⟨hsz,hr'⟩:=hS1.Jp q _ hq1
  obtain⟨cur,h7,h8⟩: ∃ cur,m q= .slice (some (at' g 0)) r.l.es.length cap/\NJ w g cur r.e/\cur.size=cap*r.l.sz/\r.l.es.length<=cap:=by
   rcases hr' with ⟨_,h9,_⟩ | ⟨h9,g',cap',cur,h10,h11,h12,h13,h14,_⟩
   .rw[h9]at h3;simp at h3
   .have h10':=h10;rw[h5]at h10';injection h10' with q1 q2 q3;injection q1 with q1;injection q1 with q1;subst q1;subst q3;exact⟨cur,h10,h11,h14,h12⟩
  obtain⟨h8,h9,h10⟩:=h8;have hsz2:(a.eval y).cells.size=ti.cs.length:=by rw[hvc.1,g2]
  have hrow:i*r.l.sz+off+ti.cs.length<=cur.size:=by have:r.l.es.length*r.l.sz<=cap*r.l.sz:=DN _ h10;omega
  have hrun:(execOp a.eval o).run P w= .ok .skip (w.setCells g (i*r.l.sz+off) (a.eval y).cells.toList):=by
   have:=xR (P:=P) (w:=w) (b:=g) (k:=i*r.l.sz+off) hT hsz2 (fun j hj=>(hvc.2 j (by rw[<- hvc.1];exact hj)).one) (fun j hj=>by
    have hlt:i*r.l.sz+off+j<cur.size:=by omega
    rw[h8.cell];simp [hlt]) (fun j hj=>h8.frozen (by omega))
   simp only[execOp,ho,Instr.storeAt,Instr.sureAddr,h6,D8,Sem.run_pure,Result.andThen_ok,this]
  unfold Oper.wp;rw[hrun,Oper.upon_skip]
  have hfin:=xQ hS1 (k0:=i*r.l.sz+off) (l':=l') (vs:=(a.eval y).cells.toList) (xs:=(KF fet ti.cs v'.cells).2.1) hq1 h7 h8 hln hls (by rw[g1];exact hrow') (by rw[Array.length_toList,hsz2,g1]) (by rw[g1];exact h4) hel (fun j hj=>by
   rw[g1]at hj;have e1:(a.eval y).cells.toList.getD j undef=(a.eval y).cells.getD j undef:=by rw[Dn,Dj,DY]
   rw[e1];exact g4 hp1 hv1 j hj)
  refine hn O1 m _ _ ?_;have happ:apply st o δ = {tmps:=st.tmps,Jp:=L9 (JC st.Jp (KF fet ti.cs v'.cells).2.2) q (.arr r.e false l')}:=by rw[hδ];unfold apply;rw[hd,Ajv];rfl
  rw[happ,hd];exact hfin
 cases hrow:isRow ti r.l i off with
 | true =>
  rw[hrow]at hok hn;simp only[cond_true]at hok hn;obtain⟨hok1,hok2⟩:=hok.append;obtain⟨h1,h2⟩:=hok2.cons;obtain⟨hset,h2⟩:=h2.cons;obtain⟨h2,h3⟩:=h2.cons;obtain⟨_,h3⟩:=h3.cons;obtain⟨h4,hno⟩:=h3.cons;have hno:=hno.cons.1;simp only[isRow,Dq]at hrow;obtain⟨⟨⟨r4,r1⟩,r3⟩,r2⟩:=hrow;have r1:=Dp r1;have r2:=Dp r2;have r3:=Dp r3;have h2:=Dp h2;have h4:0<ti.cs.length:=by simpa [Ep]using h4
  have hpl:(KF fet ti.cs v'.cells).2.1.length=ti.cs.length:=(UQ hf ti.cs v'.cells (fun j=>(a.eval y).cells.getD j undef) (fun j hj=>(hy.cells (oU hok1)).2 j hj) hok1).1;have hes:=AkV hset;have hxl:ti.cs.length=r.l.es.length:=by rw[Sl.KI];exact h2
  subst r2;subst r3;refine main ⟨r.l.t,(ZN r.l.t (KF fet ti.cs v'.cells).2.1).2⟩ _ hok1 (by simpa using h1) (by simpa using hno) (by omega) (by rw[r1];omega) h4 (by rw[hes,Dx,hpl,hxl]) rfl (fun r' j hr' hj=> ?_) rfl hn;rw[r1]at hj ⊢;have:j=0:=by omega
  subst this;rw[hes,AvI];have e:r'*1+0 - (0*1+0)=r':=by omega
  rw[e];simp [Dj,show r'<(KF fet ti.cs v'.cells).2.1.length by omega]
 | false =>
  rw[hrow]at hok hn;simp only[cond_false]at hok hn;obtain⟨hok1,hok2⟩:=hok.append;obtain⟨h1,h2⟩:=hok2.cons;obtain⟨hset,h2⟩:=h2.cons;obtain⟨h2,h3⟩:=h2.cons;obtain⟨h3,h4⟩:=h3.cons;obtain⟨h4,hno⟩:=h4.cons;have hno:=hno.cons.1;have h4:0<ti.cs.length:=by simpa [Ep]using h4
  have h2:=DI h2;have h3':i<r.l.xs.length:=by simpa using h3
  have h3:i<r.l.es.length:=by rw[Sl.KI];exact h3'
  have hpl:(KF fet ti.cs v'.cells).2.1.length=ti.cs.length:=(UQ hf ti.cs v'.cells (fun j=>(a.eval y).cells.getD j undef) (fun j hj=>(hy.cells (oU hok1)).2 j hj) hok1).1;have hes:=Sl.AsZ r.l h3' hset;have hmul: ∀ {x y:Nat},x<y->x*r.l.sz+r.l.sz<=y*r.l.sz:=fun h=>by have:=DN r.l.sz h;rw[Nat.succ_mul]at this;exact this
  refine main (r.l.set i off (KF fet ti.cs v'.cells).2.1).2 _ hok1 (by simpa using h1) (by simpa using hno) h3 (by have:=hmul h3;omega) h4 (by rw[hes,F7]) rfl (fun r' j hr' hj=> ?_) rfl hn;have hei:(r.l.es.getD i []).length=r.l.sz:=Sl.es_len _ _ (by rw[Dj,D9 h3];simp);rw[hes];by_cases hri:r'=i
  .subst hri;have e1:(r.l.es.set r' (splice (r.l.es.getD r' []) off (KF fet ti.cs v'.cells).2.1)).getD r' []=splice (r.l.es.getD r' []) off (KF fet ti.cs v'.cells).2.1:=by simp [Dj,hr']
   rw[e1,iR _ _ _ _ (by omega)];by_cases hin:off<=j/\j<off+(KF fet ti.cs v'.cells).2.1.length
   .rw[Dw hin,AvI,show r'*r.l.sz+j - (r'*r.l.sz+off)=j - off from by omega]
   .rw[Dt hin,AvH]
  .have e1:(r.l.es.set i (splice (r.l.es.getD i []) off (KF fet ti.cs v'.cells).2.1)).getD r' []=r.l.es.getD r' []:=by
    simp only[Dj,FC];rw[Dt (fun h=>hri h.symm)]
   rw[e1,Dt ?_];rcases Iz hri with h | h
   .have:=hmul h;omega
   .have:=hmul h;omega
theorem Ao7 {fet:Fet} {t:Nat} {x l:Operand} (hC:TOk P C) (hf:FOk O st.Jp m w fet) (ho:o.op= .slice t x (some l) none none) {x' l':A} (hx:J8 O st.Jp m w (a.eval x) x') (hl:J8 O st.Jp m w (a.eval l) l')
 (hok:J5 (qE C fet t x' l').ok):Pure P O st.Jp m a w o (qE C fet t x' l'):=by
 unfold qE at hok ⊢;obtain⟨ti,ht,he⟩:=Kt hok;rw[he]at hok ⊢;clear he;cases x' with
 | own q =>
  dsimp only at hok ⊢;obtain⟨ro,hro,he⟩:=JL hok;rw[he]at hok ⊢;clear he;obtain⟨n,hn,he⟩:=JL hok;rw[he]at hok ⊢;clear he;obtain⟨e,hel,he⟩:=JL hok;rw[he]at hok ⊢;clear he;obtain⟨te,hte,he⟩:=Kt hok;rw[he]at hok ⊢;clear he;obtain⟨h1,h2⟩:=hok.cons;obtain⟨h2,h3⟩:=h2.cons;have h3:=h3.cons.1;have h1:=Dp h1;have h2:0<=n:=by simpa using h2
  obtain⟨k,rfl⟩:=EP h2;have h3:k<ro.l.es.length:=by all_goals grind[Sl.KI]
  obtain⟨kk,rfl⟩:=UI hn;have hl:=hl.int;obtain⟨h4,_,h5⟩:=hx.own hf (NK hro);have hg:=(hf _ _ (NK hro)).1;rcases h5 with ⟨_,h6,_⟩ | ⟨_,g,cap,cur,h6,h7,h8,_⟩
  .rw[h6]at h3;simp at h3
  .have hd:=RX hel;have hu:=(hC.is ht).run w;rw[hd]at hu;have hs:=(hC.is hte).OC w
   have hb:(Instr.sliceBounds true ro.l.es.length cap (some (a.eval l)) none none).run P w= .ok (k,ro.l.es.length,cap) w:=by
    have:k<=ro.l.es.length:=by omega
    simp [Instr.sliceBounds,Instr.sliceBound,hl,asIntOf,this]
   refine⟨⟨.slice (some (at' g (k*ro.l.sz))) (ro.l.es.length - k) (cap - k),?_,?_⟩,rfl,rfl,rfl⟩
   .have hne: ¬ cap=k:=by omega
    simp only[execOp,ho,Instr.sliceAt,D8,hu,Result.andThen_ok,Instr.slice,h4,h6,Option.map_none,Option.map_some,hb,hs,Sem.run_pure,Dt hne,<- h1];simp [RP]
   .show JF O st.Jp m w _ (.osl q k);simp only[JF,hg,Option.map_some,Obj.shp];exact⟨rfl,fun _=>⟨g,cap,h6,rfl⟩⟩
 | _=>exact(JE hok).elim
theorem Anf {c:Call} {x y:Operand} {ts':List Nat} (hC:TOk P C) (hS:Sim V0 O0 w0 O m st a w) (ho:o.op= .call c) (hcal:c.callee= .builtin .copy) (hargs:c.args= #[x,y]) (hts:c.argTypes.toList=ts') {fet:Fet} (hf:OL st.Jp fet) {x' y':A}
 (hx:J8 O st.Jp m w (a.eval x) x') (hy:J8 O st.Jp m w (a.eval y) y') (hok:J5 (Agk C fet ts' x' y').ok):Good P V0 O0 w0 (apply st o (Agk C fet ts' x' y')) o a w:=by
 intro next Q hn
 unfold Agk at *
 split at hok
 .rename_i t u;dsimp only at hn;obtain⟨ti,e,te,ht,hte,hd',he⟩:=WI hok;rw[he]at hok hn;clear he;cases x' with
  | osl q k =>
   dsimp only at hok hn;obtain⟨r,hr,he⟩:=JL hok;rw[he]at hok hn;clear he;obtain⟨ys,hys,he⟩:=JL hok;rw[he]at hok hn;clear he;obtain⟨s,hs,he⟩:=JL hok;rw[he]at hok hn;clear he;obtain⟨h1,h2⟩:=hok.cons;obtain⟨h2,h3⟩:=h2.cons;obtain⟨h3,h4⟩:=h3.cons;obtain⟨h4,h5⟩:=h4.cons;have h5:k+s.length<=ys.length:=by simpa using h5.cons.1
   have h40:0<s.length:=by simpa using h4
   have hz:r.frz=false:=by simpa using h3
   clear h3;have h2:=Dp h2;have:=xU hs;subst this;have hrl:=Sl.QQ hys;clear hys;obtain⟨ys,rfl⟩: ∃ zs:List Int,zs=ys:=⟨ys,rfl⟩
   obtain⟨re,rf,rl⟩:=r;have h5':k+s.length<=ys.length:=h5;clear h5;dsimp only at hrl hz hn;subst hrl;subst hz;have hq:=hf q _ (NK hr);dsimp only at hq;have hes: ∀ zs:List Int,(⟨SL,zs⟩:Sl).es=zs.map fun z=>[A.int .u8 z]:=fun zs=>rfl;have hlen:(⟨SL,ys⟩:Sl).es.length=ys.length:=by rw[hes,Dx]
   obtain⟨bs,hb,hbl⟩:=hy.str;have hsz:bs.size=s.length:=by rw[Un,hbl]
   obtain⟨_,hrow⟩:=hS.Jp q _ hq;have hx':JF O st.Jp m w (a.eval x) (.osl q k):=hx;simp only[JF,hq,Option.map_some,Obj.shp]at hx';obtain⟨g,cap,g1,g2⟩:=hx'.2 (by rw[hlen];omega);rcases hrow with ⟨_,h6,_⟩ | ⟨_,g',cap',cur,k1,k2,k3,k4,k5,k6,k7,k8⟩
   .rw[hes]at h6;have h6:=congrArg List.length h6;rw[Dx,List.length_nil]at h6;omega
   .rw[g1]at k1;injection k1 with q1 q2 q3;injection q1 with q1;injection q1 with q1;subst q1;subst q3;have hszb:(⟨SL,ys⟩:Sl).sz=1:=rfl;rw[hszb]at g2 k5 k7 k8;rw[hlen]at g2 k3 k7 k8;let vs:List Value:=bs.data.toList.map fun b=>Value.int .u8 (b.toNat:Int);have hvl:vs.length=s.length:=by show(List.map _ _).length=_;rw[Dx,<- hbl]
    have hfit:k+s.length<=cur.size:=by omega
    have hst:=run_storeCells_cells (P:=P) g k vs 0 w (fun j hj=>by
     rw[Nat.add_zero];have:k+j<cur.size:=by omega
     have:=k2.cell (k+j);rw[this,D6 (by omega)];rfl) (fun j hj=>by rw[Nat.add_zero];exact k2.frozen (by omega)) (fun v hv=>by obtain⟨b,_,rfl⟩:=DF.1 hv;rfl)
    have hu:=(hC.is ht).run w;rw[hte]at hu;have hsize:=(hC.is hd').OC w;have hmin:Nat.min s.length (ys.length - k)=s.length:=IY (by omega);have hfc:(Builtin.firstCells te.cs.length s.length (.string bs)).run P w= .ok vs.toArray w:=by rw[<- hsz];simp [Builtin.firstCells,vs];rw[<- G9];simp
    have hat:c.argTypes= #[t,u]:=by have:=congrArg List.toArray hts;simpa using this
    have hrun:(execOp a.eval o).run P w= .ok (.value (.int .i64 (s.length:Int))) (w.setCells g k vs):=by simp only[execOp,ho,resolve,hcal,hargs,hat,invoke,builtin,Builtin.copy_];simp [hu,g2,hb,Builtin.lenOf,hsize,hsz];simp [hmin,hfc,hst,goInt]
    unfold Oper.wp;rw[hrun,Oper.upon_value];have hput:(iK ys k s).length=ys.length:=by unfold iK;simp;omega
    have hsim:=xQ hS (k0:=k) (l':=⟨SL,iK ys k s⟩) (vs:=vs) (xs:=s.map fun b=>A.int .u8 (b.toNat:Int)) hq g1 k2 (by rw[hes,hes,Dx,Dx,hput]) rfl (by rw[Dx,hlen,hszb];omega) (by rw[hvl,Dx]) (by rw[Dx];exact h40) (fun r' j hr' hj=>by
     rw[hszb]at hj ⊢;have:j=0:=by omega
     subst this;rw[hlen]at hr';have e1: ∀ zs:List Int,r'<zs.length->((⟨SL,zs⟩:Sl).es.getD r' []).getD 0 .undef= .int .u8 (zs.getD r' 0):=by intro zs hz;rw[hes];simp [Dj,hz]
     rw[e1 _ (by rw[hput];exact hr'),e1 _ hr',Dx,EU,Nat.add_zero];unfold iK;rw[Dj,Eg,Ib,Ea,IY (by omega)];by_cases h0:r'<k
     .rw[Dw h0,AvH,Gv h0,<- Dj]
     .rw[Dt h0,Ib,Dx];by_cases h7:r' - k<s.length
      .rw[Dw h7,AvI];simp [Dj,h7]
      .rw[Dt h7,AvH,Gi,show k+s.length+(r' - k - s.length)=r' by omega,<- Dj]) (fun j hj=>by
     rw[Dx]at hj;have e1:vs.getD j undef= .int .u8 ((s.getD j 0).toNat:Int):=by simp [vs,Dj,hbl,hj]
     have e2:(s.map fun b=>A.int .u8 (b.toNat:Int)).getD j .undef= .int .u8 ((s.getD j 0).toNat:Int):=by simp [Dj,hj]
     rw[e1,e2];exact .int _ _)
    refine hn O m _ _ ?_;have hfin:=hsim.put o.dst (x:=.int .i64 (s.length:Int)) (v:=.int .i64 (s.length:Int)) (.mkInt _ _);exact hfin
  | _=>exact(JE hok).elim
 .exact(JE hok).elim
end
open Go.Lib (bytesWorld bytesCells bytesWorld_at_old bytesWorld_at_new bytesWorld_size)
section
variable {P:Program} {C:Ctx} {V0:Nat->Value} {O0 O:Own} {w0 w:World} {m:Nat->Value} {st:St} {a:Act} {o:Oper}
theorem Ai9 (w:World) (e:TypeId) (s:ByteArray):Moves O (fun _=>False) w (bytesWorld w e s):=by refine⟨rfl,rfl,rfl,?_,fun b hb=>.inl (bytesWorld_at_old w e s b hb)⟩;rw[bytesWorld_size];omega
theorem Ak7 {s t:Nat} {x:Operand} (hC:TOk P C) (hS:Sim V0 O0 w0 O m st a w) {d:Tmp} (hd:o.dst=some d) (ho:o.op= .convert s t x) {l:List UInt8} (hx:J8 O st.Jp m w (a.eval x) (.str l))
 (hok:J5 (tH C d s t l).ok) (hfr: ∀ p∈(tH C d s t l).new,st.fresh p.1=true):Good P V0 O0 w0 (apply st o (tH C d s t l)) o a w:=by
 intro next Q hn
 unfold tH at *
 obtain⟨ts,hts,he⟩:=Kt hok;rw[he]at hok hfr hn;clear he;obtain⟨ti,e,te,ht,hte,hd',he⟩:=WI hok;rw[he]at hok hfr hn;clear he;obtain⟨h1,h2⟩:=hok.cons;have h2:=h2.cons.1;have hlen:l.length<=140737488355328:=by simpa using h2
 have hde:=Ahy h1;have hue:=(hC.is hd').d;rw[hde]at hue;have hut:=(hC.is ht).d;rw[hte]at hut;obtain⟨b,hb,hl⟩:=hx.str;have hbl:b.size=l.length:=by rw[Un,hl]
 have hr:(execOp a.eval o).run P w= .ok (.value (.slice (some (at' w.heap.size 0)) b.size (grownCap w b.size 0 e))) (bytesWorld w e b):=by have:=Go.Lib.run_convert_string_bytes (P:=P) w s t e b (hC.is hts).d hut hue;simp only[execOp,ho,hb,D8,this];rfl
 unfold Oper.wp;rw[hr,Oper.upon_value,hd];have hge:=grownCap_ge w b.size 0 e;have hes:(⟨SL,l.map (fun(b:UInt8)=>((b.toNat:Int)))⟩:Sl).es=l.map (fun(x:UInt8)=>[A.int .u8 (x.toNat:Int)]):=by show List.map (Ty.int IntKind.u8 Ty.nil).cells (List.map (fun(b:UInt8)=>((b.toNat:Int))) l)=_;exact EO.trans rfl
 have hesl:(⟨SL,l.map (fun(b:UInt8)=>((b.toNat:Int)))⟩:Sl).es.length=b.size:=by rw[hes,Dx,hbl]
 have hcs:(bytesCells w e b).size=grownCap w b.size 0 e:=by simp [bytesCells];have:b.data.size=b.size:=rfl;omega
 obtain⟨O',m',h⟩:=Aao hS (Ai9 w e b) (d:=d) (e:=e) (cap:=grownCap w b.size 0 e) (frz:=false) (l:=⟨SL,l.map (fun(b:UInt8)=>((b.toNat:Int)))⟩) (del:=[]) (cur:=bytesCells w e b)
  ⟨_,bytesWorld_at_new w e b,.inr (DW _)⟩ (by rw[hesl];exact hge) (grownCap_le_maxLen w _ _ _ (by unfold maxLen;omega)) (by rw[hcs];show _=_*1;omega) ⟨Sl.es_len _,fun i j hi hj=>by
    have hj0:j=0:=by have:j<1:=hj;omega
    subst hj0;rw[hesl]at hi;have hi':i<l.length:=by omega
    have hi2:i<b.data.toList.length:=by rw[hl];exact hi'
    refine⟨.int .u8 (l.getD i 0).toNat,?_,?_⟩
    .have hlt:i<b.data.size:=hi;show(bytesCells w e b)[i*1+0]? =_;rw[EU,Nat.add_zero];unfold bytesCells;rw[E8 (by simpa using hlt)];rw[Array.getElem?_map];have:b.data[i]? =some (l.getD i 0):=by rw[<- DY,hl,Dj,D9 hi'];rfl
     rw[this];rfl
    .rw[hes];have:(l.map (fun(x:UInt8)=>[A.int .u8 (x.toNat:Int)])).getD i []=[A.int .u8 ((l.getD i 0).toNat:Int)]:=by simp [Dj,hi']
     rw[this];exact .int _ _⟩ (Nl (hfr _ Du))
 rw[hesl]at h;refine hn O' m' _ _ ?_;rw[We hd];exact h
theorem Ane {s t:Nat} {x:Operand} (hC:TOk P C) (hS:Sim V0 O0 w0 O m st a w) (ho:o.op= .convert s t x) {fet:Fet} (hf:OL st.Jp fet) {x':A} (hx:J8 O st.Jp m w (a.eval x) x')
 (hok:J5 (yC C o fet s t x').ok) (hfr: ∀ p∈(yC C o fet s t x').new,st.fresh p.1=true):Good P V0 O0 w0 (apply st o (yC C o fet s t x')) o a w:=by
 have hF:FOk O st.Jp m w fet:=fun q x h=>⟨hf q x h,hS.Jp q x (hf q x h)⟩
 by_cases hs: ∃ l,x'= .str l
 .obtain⟨l,rfl⟩:=hs;unfold yC at *
  dsimp only at hok hfr ⊢;obtain⟨tt,htt,he⟩:=Kt hok;rw[he]at hok hfr ⊢;clear he;cases hb:Ahx tt.d with
  | true =>rw[hb]at hok hfr;simp only[cond_true]at hok hfr ⊢;obtain⟨d,hd,he⟩:=JL hok;rw[he]at hok hfr ⊢;clear he;exact Ak7 hC hS hd ho hx hok hfr
  | false =>rw[hb]at hok;simp only[cond_false]at hok ⊢;exact(uO hC hF ho hx hok).good hS
 .have e:yC C o fet s t x'=Yh C fet s t x':=by
   cases x'<;>first | rfl | exact absurd ⟨_,rfl⟩ hs
  rw[e]at hok ⊢;exact(uO hC hF ho hx hok).good hS
theorem ArD (n:Nat) (cs:List CK) {i j:Nat} (hi:i<n) (hj:j<cs.length):((List.replicate n cs).flatten).getD (i*cs.length+j) .oth=cs.getD j .oth:=by
 induction n generalizing i with
 | zero=>omega
 | succ n ih =>
  rw[List.replicate_succ,List.flatten_cons,Dj];cases i with
  | zero=>rw[Em (by omega),Hg,DR,<- Dj]
  | succ i =>rw[Ei,Nat.one_mul,E5 (by omega),show i*cs.length+cs.length+j - cs.length=i*cs.length+j from by omega,<- Dj];exact ih (by omega)
theorem wM {t n:Nat} {l:Sl} {cur:Array Value} (hS:Sim V0 O0 w0 O m st a w) {d:Tmp} (hd:o.dst=some d) (hr:(execOp a.eval o).run P w= .ok (.value (.pointer (some (at' w.heap.size 0)))) (w.alloc (.cells cur t)))
 (hn:l.xs.length=n) (hmax:n<=16777216) (hsz:cur.size=n*l.sz) (hheld:Held O w cur l.sz l.es) (hfresh:Qu st (b2 d)) :
 Good P V0 O0 w0 {tmps:=st.tmps.set d (.Kq (b2 d) 0 0),Jp:=JC (Kw st.Jp []) [(b2 d,.arr t false l)]} o a w:=by
 intro next Q hnx
 unfold Oper.wp;rw[hr,Oper.upon_value,hd];obtain⟨O',m',h⟩:=X3 hS (Moves.refl _ _ w) rfl (d:=d) (e:=t) (cap:=n) (frz:=false) (l:=l) (cur:=cur) (del:=[]) (by rw[Sl.KI,hn];exact DW _) (by unfold maxLen;omega) hsz hheld hfresh;rw[Sl.KI,hn]at h;refine hnx O' m' _ _ ?_;by_cases hdt:d<st.tmps.length
 .
  have hslot:=h.tmps d (by simpa using hdt)
  have hself:(a.put (some d) (.slice (some (at' w.heap.size 0)) n n)).tmps.getD d undef= .slice (some (at' w.heap.size 0)) n n:=by
   have hs:d<a.tmps.size:=by rw[hS.size];exact hdt
   simp [Act.put,Dn,hs]
  have hself2:(st.tmps.set d (.own (b2 d))).getD d .undef= .own (b2 d):=by simp [Dj,hdt]
  rw[hself,hself2]at hslot;have hc:JF O' (JC (Kw st.Jp []) [(b2 d,.arr t false l)]) m' (w.alloc (.cells cur t)) (.slice (some (at' w.heap.size 0)) n n) (.own (b2 d)):=hslot;have hg:Jv (JC (Kw st.Jp []) [(b2 d,Obj.arr t false l)]) (b2 d)=some (.arr t false l):=by simp only[JC];rw[Ky,Dw rfl]
  have hm: .slice (some (at' w.heap.size 0)) n n=m' (b2 d):=by have:=hc.2;rw[hg]at this;exact this
  have hcr:JF O' (JC (Kw st.Jp []) [(b2 d,.arr t false l)]) m' (w.alloc (.cells cur t)) (.pointer (some (at' w.heap.size 0))) (.Kq (b2 d) 0 0):=by simp only[JF,hg,Option.map_some,Obj.shp];exact⟨rfl,fun _=>⟨w.heap.size,n,n,hm.symm,by simp⟩⟩
  have hnew:=h.put (some d) (x:=.Kq (b2 d) 0 0) (v:=.pointer (some (at' w.heap.size 0))) hcr.toT;have e1:put (st.tmps.set d (.own (b2 d))) (some d) (.Kq (b2 d) 0 0)=st.tmps.set d (.Kq (b2 d) 0 0):=by simp [put]
  have e2:(a.put (some d) (.slice (some (at' w.heap.size 0)) n n)).put (some d) (.pointer (some (at' w.heap.size 0)))=a.put (some d) (.pointer (some (at' w.heap.size 0))):=by simp [Act.put]
  rw[e2]at hnew;dsimp only at hnew;rw[e1]at hnew;exact hnew
 .have e1: ∀ x,st.tmps.set d x=st.tmps:=fun x=>List.set_eq_of_length_le (IK hdt)
  have e2: ∀ v,a.put (some d) v=a:=by
   intro v;have hs: ¬ d<a.tmps.size:=by rw[hS.size];exact hdt
   have:a.tmps.setIfInBounds d v=a.tmps:=by simp [Array.setIfInBounds,hs]
   simp only[Act.put,this]
  rw[e1,e2]at h;rw[e1,e2];exact h
theorem Afw {t n e:Nat} {ti te:TI} (hC:TOk P C) (hS:Sim V0 O0 w0 O m st a w) {d:Tmp} (hd:o.dst=some d) (ho:o.op= .alloc t) (ht:C.T t=some ti)
 (hp:te.cs.all CK.plain=true) (h0:0<te.cs.length) (hn0:0<n) (hn:n<=16777216) (hcs:ti.cs=(List.replicate n te.cs).flatten) (hfresh:Qu st (b2 d)) :
 Good P V0 O0 w0 {tmps:=st.tmps.set d (.Kq (b2 d) 0 0),Jp:=JC (Kw st.Jp []) [(b2 d,.arr t false ⟨tyl te.cs,List.replicate n (tyl te.cs).zero⟩)]} o a w:=by
 have hT:=hC.is ht;obtain⟨i,z,g1,g2,g3,g4,g5,g6⟩:=hT.i;have hsz:z.cells.size=ti.cs.length:=by rw[<- Array.length_toList];exact(TD (O:=O) (Jp:=[]) (m:=fun _=>undef) (w:=w) _ _ g5).1
 have hlen:ti.cs.length=n*te.cs.length:=by rw[hcs];simp
 have hpl:ti.cs.all CK.plain=true:=by rw[hcs,D7];intro k hk;obtain⟨l,hl,hkl⟩:=List.mem_flatten.1 hk;rw[F8 hl]at hkl;exact D7.1 hp k hkl
 have hv:=Zm (O:=O) (w:=w) _ _ g5 hpl;have hr:(execOp a.eval o).run P w= .ok (.value (.pointer (some (at' w.heap.size 0)))) (w.alloc (.cells z.cells t)):=by simp only[execOp,ho,Instr.alloc,D8,zeroValue,typeInfo,run_program,Result.andThen_ok,g1,g4,Sem.run_pure,newVar,newRow];rfl
 have hel:(⟨tyl te.cs,List.replicate n (tyl te.cs).zero⟩:Sl).es=List.replicate n (te.cs.map CK.OZ):=Sl.aS _ _ hp;have hsl:(⟨tyl te.cs,List.replicate n (tyl te.cs).zero⟩:Sl).sz=te.cs.length:=V4 _
 exact wM hS hd hr (by rw[Eo]) hn (by rw[hsz,hlen,hsl])
  ⟨Sl.es_len _,fun r j hrl hj=>by
    rw[hsl]at hj ⊢;rw[Sl.KI,Eo]at hrl;have hlt:r*te.cs.length+j<n*te.cs.length:=by have:(r+1)*te.cs.length<=n*te.cs.length:=DN _ hrl;rw[Ei]at this;omega
    refine⟨z.cells.toList.getD (r*te.cs.length+j) undef,?_,?_⟩
    .rw[Dj,DY];rw[D6 (by omega)];rfl
    .have:=hv (r*te.cs.length+j) (by omega)
     have e1:(ti.cs.map CK.OZ).getD (r*te.cs.length+j) .undef=(te.cs.map CK.OZ).getD j .undef:=by
      have e2:(ti.cs.map CK.OZ).getD (r*te.cs.length+j) .undef=(ti.cs.getD (r*te.cs.length+j) .oth).OZ:=by
       have:r*te.cs.length+j<ti.cs.length:=by omega
       simp [Dj,this]
      have e3:(te.cs.map CK.OZ).getD j .undef=(te.cs.getD j .oth).OZ:=by simp [Dj,hj]
      rw[e2,e3,hcs,ArD n te.cs hrl hj]
     rw[e1]at this;rw[hel];have e4:(List.replicate n (te.cs.map CK.OZ)).getD r []=te.cs.map CK.OZ:=by simp [Dj,hrl]
     rw[e4];exact this⟩ hfresh
theorem AmP {t:Nat} {x:Operand} {y:A} (hC:TOk P C) (hS:Sim V0 O0 w0 O m st a w) {d:Tmp} (hd:o.dst=some d) (ho:o.op= .box t x) (hx:J8 O st.Jp m w (a.eval x) y) (hids: ∀ i∈y.ids,i∈st.ids\/(Jv st.Jp i).isSome)
 (hok:J5 (sW C d t y).ok) (hfr: ∀ p∈(sW C d t y).new,st.fresh p.1=true) (hnd:nodup ((sW C d t y).new.map (·.1))=true):Good P V0 O0 w0 (apply st o (sW C d t y)) o a w:=by
 unfold sW at *
 cases hI:AqB C t with
 | none=>rw[hI]at hok hfr hnd;exact Ak5 hC hS hd ho hx hids hok hfr hnd
 | some q =>
  obtain⟨n,k⟩:=q;rw[hI]at hok hfr hnd;dsimp only at hok hfr hnd ⊢;cases y with
  | agg cs =>
   dsimp only at hok hfr hnd ⊢;obtain⟨h1,h2⟩:=hok.cons;obtain⟨h2,h3⟩:=h2.cons;have h3:=DI h3.cons.1;have h2:=Dp h2;obtain⟨vs,g1,g2,g3⟩:=hx;have hr:(execOp a.eval o).run P w= .ok (.value (.pointer (some (at' w.heap.size 0)))) (w.alloc (.cells vs t)):=by simp only[execOp,ho,Instr.box,g1,D8,Sem.run_pure,Result.andThen_ok,newVar,newRow];rfl
   rw[We hd];refine wM (n:=n) hS hd hr (by show(cs.map A.toI).length=n;rw[Dx,h2]) h3 (by show vs.size=n*1;rw[g2,h2,EU]) ⟨Sl.es_len _,fun r j hr hj=> ?_⟩ (Nl (hfr _ Du));have hj:j<1:=hj;have:j=0:=by omega
   subst this;have hr:r<cs.length:=by rw[Sl.KI]at hr;have hr:r<(cs.map A.toI).length:=hr;rwa [Dx]at hr
   refine⟨vs.getD r undef,?_,?_⟩
   .show vs[r*1+0]? =_;rw[EU,Nat.add_zero,Dn,D6 (by omega)];rfl
   .have h4:=g3 r hr;have h5:=D7.1 h1 cs[r] (EZ hr);have e1:cs.getD r .undef=cs[r]:=by simp [Dj,hr]
    have e2:((⟨.int k .nil,cs.map A.toI⟩:Sl).es.getD r []).getD 0 .undef= .int k cs[r].toI:=by have:(⟨.int k .nil,cs.map A.toI⟩:Sl).es=cs.map fun c=>[A.int k c.toI]:=EO (f:=A.toI) (g:=fun x=>[A.int k x]) (l:=cs);rw[this];simp [Dj,hr]
    rw[e2];rw[e1]at h4;generalize cs[r]=c at h4 h5
    cases c<;>first
     | (rename_i k' x;have:=Rq (show A.kEq k k'=true from h5);subst this;exact h4)
     | cases h5
  | _=>exact(JE hok).elim
theorem Ai4 {t:Nat} (hC:TOk P C) (hS:Sim V0 O0 w0 O m st a w) {d:Tmp} (hd:o.dst=some d) (ho:o.op= .alloc t)
 (hok:J5 (YC C d t).ok) (hfr: ∀ p∈(YC C d t).new,st.fresh p.1=true) (hnd:nodup ((YC C d t).new.map (·.1))=true):Good P V0 O0 w0 (apply st o (YC C d t)) o a w:=by
 unfold YC at *
 obtain⟨ti,ht,he⟩:=Kt hok;rw[he]at hok hfr hnd ⊢;clear he;cases ha:lZ ti.d with
 | some p =>obtain⟨n,e⟩:=p;rw[ha]at hok hfr;dsimp only at hok hfr ⊢;obtain⟨te,hte,he⟩:=Kt hok;rw[he]at hok hfr ⊢;clear he;obtain⟨h1,h2⟩:=hok.cons;obtain⟨h2,h3⟩:=h2.cons;obtain⟨h3,h4⟩:=h3.cons;obtain⟨h4,h5⟩:=h4.cons;have h5:=h5.cons.1;rw[We hd];exact Afw (n:=n) (e:=e) hC hS hd ho ht h1 (by simpa [Ep]using h2) (by simpa [Ep]using h3) (DI h4) (by simpa using h5) (Nl (hfr _ Du))
 | none =>rw[ha]at hok hfr hnd;exact Ag8 hC hS hd ho ht hok hfr hnd
end
open Classical MapKept
def Ty.ZP {α :Type} (r:Ty) (p:Ty.pr α r.Val r) (hu:r= .nil->True):r.mk2 (r.hd p) (r.tl p)=p:=by cases r<;>rfl
def Ty.same_eq: ∀(t:Ty) (a b:t.Val),t.same a b=true->a=b
 | .nil,_,_,_=>rfl
 | .bool r,a,b,h=>by simp only[Ty.same,Dq]at h;rw[<- Ty.ZP r a (fun _=>trivial),<- Ty.ZP r b (fun _=>trivial),FY h.1,Ty.same_eq r _ _ h.2]
 | .int _ r,a,b,h=>by simp only[Ty.same,Dq]at h;rw[<- Ty.ZP r a (fun _=>trivial),<- Ty.ZP r b (fun _=>trivial),FY h.1,Ty.same_eq r _ _ h.2]
 | .str r,a,b,h=>by simp only[Ty.same,Dq]at h;rw[<- Ty.ZP r a (fun _=>trivial),<- Ty.ZP r b (fun _=>trivial),FY h.1,Ty.same_eq r _ _ h.2]
 | .sl _ _ _,_,_,h=>by cases h
 | .ptr _,_,_,h=>by cases h
 | .fn _,_,_,h=>by cases h
 | .mp _ _ _,_,_,h=>by cases h
def Adl:List A->List A->Bool
 | .str x::xs,.str y::ys=>(x==y)&&Adl xs ys
 | _,_=>true
def Lt:Nat->Ty
 | 0=>.nil
 | n+1=>.str (Lt n)
def Ao0: ∀(n:Nat) (a b:(Lt n).Val),(Lt n).same a b=Adl ((Lt n).cells a) ((Lt n).cells b):=by
 intro n
 induction n with
 | zero=>intro a b;rfl
 | succ n ih=>intro a b;show((_==_)&&_)=((_==_)&&_);rw[ih]
def Ait (n:Nat):tyl (List.replicate n [CK.str]).flatten=Lt n:=by
 induction n with
 | zero=>rfl
 | succ n ih=>grind[tyl,Lt]
def Su: ∀(n:Nat) (a:(Lt n).Val) (j:Nat),j<n-> ∃ s,((Lt n).cells a).getD j .undef= .str s:=by
 intro n
 induction n with
 | zero=>intro a j h;omega
 | succ n ih =>
  intro a j h;cases j with
  | zero=>exact⟨_,rfl⟩
  | succ j=>exact ih _ j (by omega)
def fnd {β :Type} (t:Ty) (k:t.Val):List MapEntry->List (t.Val× β)->Nat->Option (Nat×Value)
 | e::es,p::l,i=>bif t.same k p.1 then some (i,e.val)else fnd t k es l (i+1)
 | _,_,_=>none
def AaT {β :Type} {t:Ty} {k:t.Val}: ∀(es:List MapEntry) (l:List (t.Val× β)) (i:Nat),es.length=l.length ->
 (fnd t k es l i=none/\TR t k l=none/\(∀ x,Zg t k x l=l++[(k,x)])/\iE t k l=l) \/
 ∃ j e p,fnd t k es l i=some (i+j,e.val)/\es[j]? =some e/\l[j]? =some p/\p.1=k/\TR t k l=some p.2/\(∀ x,Zg t k x l=l.set j (p.1,x))/\iE t k l=l.eraseIdx j:=by
 intro es
 induction es with
 | nil =>
  intro l i h;cases l with
  | nil=>exact .inl ⟨rfl,rfl,fun _=>rfl,rfl⟩
  | cons _ _=>cases h
 | cons e es ih =>
  intro l i h;cases l with
  | nil=>cases h
  | cons p l =>
   cases hs:t.same k p.1 with
   | true =>refine .inr ⟨0,e,p,by simp [fnd,hs],rfl,rfl,(Ty.same_eq _ _ _ hs).symm,by simp [TR,hs],fun x=>by simp [Zg,hs],by simp [iE,hs]⟩
   | false =>
    rcases ih l (i+1) (by simpa using h)with ⟨h1,h2,h3,h4⟩ | ⟨j,e',p',h1,h2,h3,h4,h5,h6,h7⟩
    .simp_all[fnd,hs,TR,Zg,iE,Ty]
    .exact .inr ⟨j+1,e',p',by simp only[fnd,hs,cond_false,h1];congr 2;omega,by simpa using h2,by simpa using h3,h4,by simp [TR,hs,h5],fun x=>by simp [Zg,hs,h6],by simp [iE,hs,h7]⟩
section
variable {P:Program} {C:Ctx} {V0:Nat->Value} {O0 O:Own} {w0 w:World} {m:Nat->Value} {st:St} {a:Act} {o:Oper}
structure y9 (P:Program) (O:Own) (w:World) (kt:TypeId) (t:Ty):Prop where
 check: ∀(e:Bool) (v:Value) (k:t.Val),NT O w v (PD (t.cells k))->(Instr.checkKey e 10000 kt v).run P w= .ok () w
 find: ∀ {β :Type} (v:Value) (k:t.Val) (es:List MapEntry) (l:List (t.Val× β)),NT O w v (PD (t.cells k))->es.length=l.length->(∀(i:Nat) e p,es[i]? =some e->l[i]? =some p->NT O w e.key (PD (t.cells p.1))) ->
  (Instr.findKey kt v es).run P w= .ok (fnd t k es l 0) w
 stays: ∀(v u:Value) (k:t.Val),NT O w v (PD (t.cells k))->NT O w u (PD (t.cells k))->(Instr.keyThatStays u v).run P w= .ok v w
theorem Aad {β :Type} {t:Ty} {k:t.Val} {d:TypeDesc} {v:Value}: ∀(es:List MapEntry) (l:List (t.Val× β)) (i:Nat),es.length=l.length->(∀(i:Nat) (e:MapEntry) (p:t.Val× β),es[i]? =some e->l[i]? =some p->Instr.sameNow d v e.key=some (t.same k p.1)) ->
 Instr.findNow d v es i=some (fnd t k es l i):=by
 intro es
 induction es with
 | nil=>intro l i h _;cases l<;>rfl
 | cons e es ih =>
  intro l i h hs;cases l with
  | nil=>cases h
  | cons p l =>
   have h0:=hs 0 e p rfl rfl;have h1:=ih l (i+1) (by simpa using h) (fun i e p he hp=>hs (i+1) e p (by simpa using he) (by simpa using hp));cases hb:t.same k p.1 with
   | true=>rw[hb]at h0;simp [Instr.findNow,h0,fnd,hb]
   | false=>rw[hb]at h0;simp [Instr.findNow,h0,fnd,hb,h1]
theorem AbH {β :Type} {t:Ty} {k:t.Val} {kt:TypeId} {v:Value}: ∀(es:List MapEntry) (l:List (t.Val× β)) (i:Nat),es.length=l.length->(∀(i:Nat) (e:MapEntry) (p:t.Val× β),es[i]? =some e->l[i]? =some p->(Op.equal kt v e.key).run P w= .ok (t.same k p.1) w) ->
 (Instr.findAsking kt v es i).run P w= .ok (fnd t k es l i) w:=by
 intro es
 induction es with
 | nil=>intro l i h _;cases l<;>first | rfl | cases h
 | cons e es ih =>
  intro l i h hs;cases l with
  | nil=>cases h
  | cons p l =>
   have h0:=hs 0 e p rfl rfl;have h1:=ih l (i+1) (by simpa using h) (fun i e p he hp=>hs (i+1) e p (by simpa using he) (by simpa using hp));cases hb:t.same k p.1 with
   | true=>rw[hb]at h0;simp [Instr.findAsking,h0,fnd,hb]
   | false=>rw[hb]at h0;simp [Instr.findAsking,h0,fnd,hb,h1]
theorem VR {a b:ByteArray} (h:a.data.toList=b.data.toList):a=b:=by obtain⟨⟨x⟩⟩:=a;all_goals simp_all
theorem dO (a b:ByteArray):(a==b)=(a.data.toList==b.data.toList):=by rw[Bool.eq_iff_iff,bytes_beq,EK];exact⟨fun h=>by rw[h],VR⟩
theorem Jw.str' {v:Value} {s:List UInt8} (h:Jw O w v (.str s)): ∃ b:ByteArray,v= .string b/\b.data.toList=s:=by cases h;exact⟨_,rfl,rfl⟩
theorem Jw.int' {v:Value} {k:IntKind} {n:Int} (h:Jw O w v (.int k n)):v= .int k n:=by cases h;rfl
theorem Aqk (k k':List UInt8):(Ty.str .nil).same k k'=(k==k'):=Gh _
theorem Aqj (q:IntKind) (k k':Int):(Ty.int q .nil).same k k'=(k==k'):=Gh _
theorem Ajt (q:IntKind) (a b:Int):Instr.sameNow (.int q) (.int q a) (.int q b)=some (a==b):=by simp [Instr.sameNow]
theorem AnJ {kt:TypeId} (hu:P.underlying kt=some .string):y9 P O w kt (.str .nil) where
 check e v k h:=by obtain⟨b,rfl,_⟩:=Jw.str' (show Jw O w v (.str k)from h);exact run_checkKey hu (show IsKey .string (.string b)from trivial) e 9999
 find v k es l h hl hes:=by
  obtain⟨b,rfl,hb⟩:=Jw.str' (show Jw O w v (.str k)from h)
  have hn:Instr.findNow .string (.string b) es 0=some (fnd (.str .nil) k es l 0):=Aad es l 0 hl fun i e p he hp=>by
   obtain⟨b',h1,h2⟩:=Jw.str' (show Jw O w e.key (.str p.1)from hes i e p he hp);rw[h1];have e1:Instr.sameNow .string (.string b) (.string b')=some (b==b'):=by simp [Instr.sameNow]
   all_goals grind[Aqk,dO]
  simp [Instr.findKey,DL hu,hn]
 stays v u k h h':=by
  obtain⟨b,rfl,hb⟩:=Jw.str' (show Jw O w v (.str k)from h);obtain⟨b',rfl,hb'⟩:=Jw.str' (show Jw O w u (.str k)from h');obtain rfl:b'=b:=VR (by rw[hb,hb']);have:(b'==b')=true:=by rw[dO];simp
  simp [Instr.keyThatStays,Instr.sameBits,this]
theorem AnI {kt:TypeId} {q:IntKind} (hu:P.underlying kt=some (.int q)):y9 P O w kt (.int q .nil) where
 check e v k h:=by obtain rfl:=Jw.int' (show Jw O w v (.int q k)from h);exact run_checkKey hu (show IsKey (.int q) (.int q k)from rfl) e 9999
 find v k es l h hl hes:=by
  obtain rfl:=Jw.int' (show Jw O w v (.int q k)from h);have hn:Instr.findNow (.int q) (.int q k) es 0=some (fnd (.int q .nil) k es l 0):=Aad es l 0 hl fun i e p he hp=>by rw[Jw.int' (show Jw O w e.key (.int q p.1)from hes i e p he hp)];exact(Ajt q k p.1).trans (congrArg some (Aqj q k p.1).symm)
  simp [Instr.findKey,DL hu,hn]
 stays v u k h h':=by
  obtain rfl:=Jw.int' (show Jw O w v (.int q k)from h);obtain rfl:=Jw.int' (show Jw O w u (.int q k)from h');have:((k:Int)==(k:Int))=true:=by simp
  have:Instr.sameBits 10000 (.int q k) (.int q k)=true:=by
   have: ∀ n:Int,Instr.sameBits 10000 (.int q n) (.int q n)=true:=fun n=>by simp [Instr.sameBits]
   exact this k
  simp [Instr.keyThatStays,this]
theorem oJ {cs:List A} (h:cs.length≠1):PD cs= .agg cs:=by
 unfold PD;split
 .simp at h
 .rfl
theorem AnH {e:TypeId} {d:Nat} (hue:P.underlying e=some .string) {xs ys:Array Value} {cs ds:List A} (hx: ∀ j,j<cs.length->Jw O w (xs.getD j undef) (cs.getD j .undef)) (hxs:xs.size=cs.length)
 (hy: ∀ j,j<ds.length->Jw O w (ys.getD j undef) (ds.getD j .undef)) (hys:ys.size=ds.length) (hl:cs.length=ds.length) (hc: ∀ j,j<cs.length-> ∃ s,cs.getD j .undef= .str s) (hd: ∀ j,j<ds.length-> ∃ s,ds.getD j .undef= .str s) :
 ∀(n i:Nat),i+n=cs.length->(Op.eqItems (d+1) e 1 xs ys (List.range' i n)).run P w= .ok (Adl (cs.drop i) (ds.drop i)) w:=by
 intro n
 induction n with
 | zero =>intro i hi;have:cs.drop i=[]:=G8 (by omega);rw[this];rfl
 | succ n ih =>
  intro i hi;have hi':i<cs.length:=by omega
  obtain⟨s,hs⟩:=hc i hi';obtain⟨s',hs'⟩:=hd i (by omega);have hx1:=hx i hi';have hy1:=hy i (by omega);rw[hs]at hx1;rw[hs']at hy1;obtain⟨b,hb1,hb2⟩:=hx1.str';obtain⟨b',hb1',hb2'⟩:=hy1.str'
  have ex:xs[i]? =some (.string b):=by
   have:i<xs.size:=by omega
   rw[D6 this,<- hb1,Dn,D6 this];rfl
  have ey:ys[i]? =some (.string b'):=by
   have:i<ys.size:=by omega
   rw[D6 this,<- hb1',Dn,D6 this];rfl
  have hpk:P.plainKey e=true:=by simp [Program.plainKey,hue]
  have p1:=run_part_plain w hpk (off:=i*1) (by rw[EU];exact ex);have p2:=run_part_plain w hpk (off:=i*1) (by rw[EU];exact ey);have p3:=run_equalIn_string (P:=P) w d e b b' hue;have ec:cs.drop i= .str s::cs.drop (i+1):=by rw[Et hi',<- hs,Dj,D9 hi'];rfl
  have ed:ds.drop i= .str s'::ds.drop (i+1):=by rw[Et (by omega),<- hs',Dj,D9 (by omega)];rfl
  rw[List.range'_succ,ec,ed];have ih':=ih (i+1) (by omega);simp only[Op.eqItems,D8,p1,p2,p3,Result.andThen_ok];rw[fF,fF,hb2,hb2'];cases hbb:(s==s')with
  | false=>simp [Adl,hbb]
  | true=>simp [Adl,hbb,ih']
theorem AdJ {e:TypeId} {em:Bool} {d:Nat} (hue:P.underlying e=some .string) (hsz:(sizeOf e).run P w= .ok 1 w) {xs:Array Value} {n:Nat} (hx: ∀ j,j<n-> ∃ b,xs[j]? =some (.string b)) :
 ∀(is:List Nat),(∀ i∈is,i<n)->(forIn is PUnit.unit fun i _=>do Instr.checkKey em (d+1) e (<- part e xs (i*(<- sizeOf e)));pure (ForInStep.yield PUnit.unit)).run P w= .ok PUnit.unit w:=by
 intro is
 induction is with
 | nil=>intro _;simp
 | cons j is ih =>
  intro h;obtain⟨b,hb⟩:=hx j (h j (by simp));have hpk:P.plainKey e=true:=by simp [Program.plainKey,hue]
  have p1:=run_part_plain w hpk (off:=j*1) (by rw[EU];exact hb);have p2:=run_checkKey (P:=P) (w:=w) hue (k:=.string b) trivial em d;simp only[List.forIn_cons,D8,hsz,Result.andThen_ok,p1,p2,Sem.run_pure];exact ih (fun i hi=>h i (by simp [hi]))
theorem NT.agg' {v:Value} {cs:List A} (h:NT O w v (.agg cs)): ∃ vs:Array Value,v= .agg vs/\vs.size=cs.length/\ ∀ j,j<cs.length->Jw O w (vs.getD j undef) (cs.getD j .undef):=h
theorem Alv {kt e:TypeId} {n:Nat} {ie:TypeInfo} (hu:P.underlying kt=some (.array n e)) (hue:P.underlying e=some .string) (hie:P.info? e=some ie) (his:ie.size=1) (hn:1<n):y9 P O w kt (Lt n):=by
 have hlen: ∀ k:(Lt n).Val,((Lt n).cells k).length=n:=fun k=>by
  rw[Ty.MQ];have: ∀ n,(Lt n).len=n:=by intro n;induction n with | zero=>rfl | succ n ih=>simp [Lt,Ty.len,ih]
  exact this n
 have hag: ∀ k:(Lt n).Val,PD ((Lt n).cells k)= .agg ((Lt n).cells k):=fun k=>oJ (by rw[hlen];omega);have hce:P.cellsOf e=1:=by simp [Program.cellsOf,hie,his]
 have hsz:(sizeOf e).run P w= .ok 1 w:=by simp [sizeOf,typeInfo,hie,his]
 have hstr: ∀ {vs:Array Value} {k:(Lt n).Val},vs.size=n->(∀ j,j<n->Jw O w (vs.getD j undef) (((Lt n).cells k).getD j .undef))-> ∀ j,j<n-> ∃ b,vs[j]? =some (.string b):=by
  intro vs k hs h j hj;obtain⟨s,hs'⟩:=Su n k j hj;have h1:=h j hj;rw[hs']at h1;obtain⟨b,hb,_⟩:=h1.str';have hj':j<vs.size:=by omega
  exact⟨b,by rw[D6 hj',<- hb,Dn,D6 hj'];rfl⟩
 refine⟨fun em v k h=> ?_,fun v k es l h hl hes=> ?_,fun v u k h h'=> ?_⟩
 .rw[hag]at h;obtain⟨vs,rfl,h1,h2⟩:=h.agg';rw[hlen]at h1 h2;rw[show(10000:Nat)=9998+1+1 from rfl,Instr.checkKey];simp only[D8,DL hu,Result.andThen_ok];simp only[Std.Legacy.Range.forIn_eq_forIn_range',Std.Legacy.Range.size,Nat.sub_zero,Nat.add_one_sub_one,Nat.div_one];rw[AdJ (em:=em) (d:=9998) hue hsz (hstr h1 h2) (List.range' 0 n) (fun i hi=>by simpa using hi)];rfl
 .rw[hag]at h;obtain⟨vs,rfl,h1,h2⟩:=h.agg';rw[hlen]at h1 h2;have eqs: ∀(i:Nat) (e':MapEntry) p,es[i]? =some e'->l[i]? =some p->(Op.equal kt (.agg vs) e'.key).run P w= .ok ((Lt n).same k p.1) w:=by intro i e' p he hp;have h3:=hes i e' p he hp;rw[hag]at h3;obtain⟨us,h4,h5,h6⟩:=h3.agg';rw[hlen]at h5 h6;rw[h4];show(Op.equalIn 10000 kt _ _).run P w=_;rw[show(10000:Nat)=9999+1 from rfl,run_equalIn_array w 9999 vs us hu hie,hce,Ic,Ao0];have:=AnH (P:=P) (O:=O) (w:=w) (d:=9998) hue (xs:=vs) (ys:=us) (cs:=(Lt n).cells k) (ds:=(Lt n).cells p.1) (by rw[hlen];exact h2) (by rw[hlen];exact h1) (by rw[hlen];exact h6) (by rw[hlen];exact h5) (by rw[hlen,hlen]) (by rw[hlen];exact Su n k) (by rw[hlen];exact Su n p.1) n 0 (by rw[hlen];omega);simpa using this
  have hnow: ∀(es:List MapEntry) (i:Nat),Instr.findNow (.array n e) (.agg vs) es i=if es=[]then some none else none:=by
   intro es i;cases es with
   | nil=>rfl
   | cons e' es=>simp [Instr.findNow,Instr.sameNow]
  simp only[Instr.findKey,D8,DL hu,Result.andThen_ok,hnow];cases es with
  | nil=>cases l<;>first | simp [fnd] | cases hl
  | cons e' es =>rw[Dt (by simp)];exact AbH _ l 0 hl eqs
 .rw[hag]at h h';obtain⟨vs,rfl,h1,h2⟩:=h.agg';obtain⟨us,rfl,h3,h4⟩:=h'.agg';have e:us=vs:=by rw[hlen]at h1 h2 h3 h4;apply Fe (by omega);intro j hj1 hj2;obtain⟨s,hs⟩:=Su n k j (by omega);have a1:=h2 j (by omega);have a2:=h4 j (by omega);rw[hs]at a1 a2;obtain⟨b1,e1,f1⟩:=a1.str';obtain⟨b2,e2,f2⟩:=a2.str';rw[Dn,D6 hj2]at e1;rw[Dn,D6 hj1]at e2;have e1:vs[j]=_:=e1;have e2:us[j]=_:=e2;rw[e1,e2,VR (f1.trans f2.symm)]
  subst e
  have hsb:Instr.sameBits 10000 (.agg us) (.agg us)=true:=by
   show((us.size==us.size)&&(us.toList.zip us.toList).all _)=true;rw[Dq];refine⟨by simp,D7.2 fun p hp=> ?_⟩;obtain⟨i,hi⟩:=List.mem_iff_getElem?.1 hp;rw[FW]at hi;rw[hlen]at h1 h2;have hi1:i<us.size:=by have:=(Fb.1 hi.1).1;simpa using this
   obtain⟨b,hb⟩:=hstr h1 h2 i (by omega);have q1:p.1= .string b:=by have:=hi.1;rw[DY,hb]at this;injection this with this;exact this.symm
   have q2:p.2= .string b:=by have:=hi.2;rw[DY,hb]at this;injection this with this;exact this.symm
   obtain⟨p1,p2⟩:=p;dsimp only at q1 q2;subst q1;subst q2;show(b==b)=true;rw[dO];simp
  simp [Instr.keyThatStays,hsb]
theorem AbV {em:Bool} {d:Nat} {vs:Array Value}: ∀(fs:List Field),(∀ f∈fs,P.underlying f.type=some .string/\ ∃ b,vs[f.offset]? =some (.string b)) ->
 (forIn fs PUnit.unit fun(f:Field) _=>do if f.name≠ "_" then do {Instr.checkKey em (d+1) f.type (<- part f.type vs f.offset);pure (ForInStep.yield PUnit.unit)}else do {pure PUnit.unit;pure (ForInStep.yield PUnit.unit)}).run P w= .ok PUnit.unit w:=by
 intro fs
 induction fs with
 | nil=>intro _;simp
 | cons f fs ih =>
  intro h;obtain⟨h1,b,hb⟩:=h f (by simp);have hpk:P.plainKey f.type=true:=by simp [Program.plainKey,h1]
  have p1:=run_part_plain w hpk (off:=f.offset) hb;have p2:=run_checkKey (P:=P) (w:=w) h1 (k:=.string b) trivial em d;have ih:=ih (fun g hg=>h g (by simp [hg]));rw[List.forIn_cons,D8];by_cases hn:f.name≠ "_"
  .rw[Dw hn];simp only[D8,p1,p2,Result.andThen_ok,Sem.run_pure];exact ih
  .rw[Dt hn];simp only[D8,Result.andThen_ok,Sem.run_pure];exact ih
theorem Ah1 {kt:TypeId} {fs:Array Field} {n:Nat} (hu:P.underlying kt=some (.struct fs)) (hfs:fs.toList.length=n) (hf: ∀(i:Nat) (f:Field),fs.toList[i]? =some f->P.underlying f.type=some .string/\f.offset=i) (hn:1<n)
 (heq: ∀(vs us:Array Value) (k k':(Lt n).Val),(∀ j,j<n->Jw O w (vs.getD j undef) (((Lt n).cells k).getD j .undef))->vs.size=n->(∀ j,j<n->Jw O w (us.getD j undef) (((Lt n).cells k').getD j .undef))->us.size=n->(Op.equalIn 10000 kt (.agg vs) (.agg us)).run P w= .ok ((Lt n).same k k') w):y9 P O w kt (Lt n):=by
 have hlen: ∀ k:(Lt n).Val,((Lt n).cells k).length=n:=fun k=>by
  rw[Ty.MQ];have: ∀ n,(Lt n).len=n:=by intro n;induction n with | zero=>rfl | succ n ih=>simp [Lt,Ty.len,ih]
  exact this n
 have hag: ∀ k:(Lt n).Val,PD ((Lt n).cells k)= .agg ((Lt n).cells k):=fun k=>oJ (by rw[hlen];omega)
 have hstr: ∀ {vs:Array Value} {k:(Lt n).Val},vs.size=n->(∀ j,j<n->Jw O w (vs.getD j undef) (((Lt n).cells k).getD j .undef))-> ∀ j,j<n-> ∃ b,vs[j]? =some (.string b):=by
  intro vs k hs h j hj;obtain⟨s,hs'⟩:=Su n k j hj;have h1:=h j hj;rw[hs']at h1;obtain⟨b,hb,_⟩:=h1.str';have hj':j<vs.size:=by omega
  exact⟨b,by rw[D6 hj',<- hb,Dn,D6 hj'];rfl⟩
 refine⟨fun em v k h=> ?_,fun v k es l h hl hes=> ?_,fun v u k h h'=> ?_⟩
 .rw[hag]at h;obtain⟨vs,rfl,h1,h2⟩:=h.agg';rw[hlen]at h1 h2;rw[show(10000:Nat)=9998+1+1 from rfl,Instr.checkKey];simp only[D8,DL hu,Result.andThen_ok];rw[<- Array.forIn_toList];rw[AbV (P:=P) (w:=w) (vs:=vs) (em:=em) (d:=9998) fs.toList fun f hm=> ?_]
  .rfl
  obtain⟨i,hi⟩:=List.mem_iff_getElem?.1 hm;obtain⟨a1,a2⟩:=hf i f hi;have hin:i<n:=by rw[<- hfs];exact(Fb.1 hi).1
  rw[a2];exact⟨a1,hstr h1 h2 i hin⟩
 .rw[hag]at h;obtain⟨vs,rfl,h1,h2⟩:=h.agg';rw[hlen]at h1 h2;have eqs: ∀(i:Nat) (e':MapEntry) p,es[i]? =some e'->l[i]? =some p->(Op.equal kt (.agg vs) e'.key).run P w= .ok ((Lt n).same k p.1) w:=by intro i e' p he hp;have h3:=hes i e' p he hp;rw[hag]at h3;obtain⟨us,h4,h5,h6⟩:=h3.agg';rw[hlen]at h5 h6;rw[h4];show(Op.equalIn 10000 kt _ _).run P w=_;exact heq vs us k p.1 h2 h1 h6 h5
  have hnow: ∀(es:List MapEntry) (i:Nat),Instr.findNow (.struct fs) (.agg vs) es i=if es=[]then some none else none:=by
   intro es i;cases es with
   | nil=>rfl
   | cons e' es=>simp [Instr.findNow,Instr.sameNow]
  simp only[Instr.findKey,D8,DL hu,Result.andThen_ok,hnow];cases es with
  | nil=>cases l<;>first | simp [fnd] | cases hl
  | cons e' es =>rw[Dt (by simp)];exact AbH _ l 0 hl eqs
 .rw[hag]at h h';obtain⟨vs,rfl,h1,h2⟩:=h.agg';obtain⟨us,rfl,h3,h4⟩:=h'.agg';have e:us=vs:=by rw[hlen]at h1 h2 h3 h4;apply Fe (by omega);intro j hj1 hj2;obtain⟨s,hs⟩:=Su n k j (by omega);have a1:=h2 j (by omega);have a2:=h4 j (by omega);rw[hs]at a1 a2;obtain⟨b1,e1,f1⟩:=a1.str';obtain⟨b2,e2,f2⟩:=a2.str';rw[Dn,D6 hj2]at e1;rw[Dn,D6 hj1]at e2;have e1:vs[j]=_:=e1;have e2:us[j]=_:=e2;rw[e1,e2,VR (f1.trans f2.symm)]
  subst e
  have hsb:Instr.sameBits 10000 (.agg us) (.agg us)=true:=by
   show((us.size==us.size)&&(us.toList.zip us.toList).all _)=true;rw[Dq];refine⟨by simp,D7.2 fun p hp=> ?_⟩;obtain⟨i,hi⟩:=List.mem_iff_getElem?.1 hp;rw[FW]at hi;rw[hlen]at h1 h2;have hi1:i<us.size:=by have:=(Fb.1 hi.1).1;simpa using this
   obtain⟨b,hb⟩:=hstr h1 h2 i (by omega);have q1:p.1= .string b:=by have:=hi.1;rw[DY,hb]at this;injection this with this;exact this.symm
   have q2:p.2= .string b:=by have:=hi.2;rw[DY,hb]at this;injection this with this;exact this.symm
   obtain⟨p1,p2⟩:=p;dsimp only at q1 q2;subst q1;subst q2;show(b==b)=true;rw[dO];simp
  simp [Instr.keyThatStays,hsb]
theorem AdY: ∀(fs:List Field) (n:Nat) (ks:List CK),RY P fs n=some ks->ks.all kT=true->fs.length=ks.length/\ ∀(i:Nat) (f:Field),fs[i]? =some f->P.underlying f.type=some .string/\f.name≠ "_" /\f.offset=n+i:=by
 intro fs
 induction fs with
 | nil =>intro n ks h _;injection h with h;subst h;exact⟨rfl,fun i f h=>by simp at h⟩
 | cons f fs ih =>
  intro n ks h hs;unfold RY at h;split at h
  .rename_i ks' hd hf;cases hb:(f.name != "_" &&Nat.beq f.offset n)with
   | false=>rw[hb]at h;cases h
   | true=>rw[hb]at h;injection h with h;subst h;cases hs
  .rename_i k ks' hd hf;cases hb:(f.name != "_" &&Nat.beq f.offset n)with
   | false=>rw[hb]at h;cases h
   | true=>rw[hb]at h;injection h with h;subst h;cases hs
  .rename_i ks' hd hf;cases hb:(f.name != "_" &&Nat.beq f.offset n)with
   | false=>rw[hb]at h;cases h
   | true =>
    rw[hb]at h;injection h with h;subst h;obtain⟨h1,h2⟩:=ih _ _ hf (by simpa [kT]using hs);rw[Dq]at hb;refine⟨by simp [h1],fun i g hg=> ?_⟩;cases i with
    | zero =>
     have hg:f=g:=by simpa using hg
     subst hg;exact⟨hd,by simpa using hb.1,Dp hb.2⟩
    | succ i =>obtain⟨a1,a2,a3⟩:=h2 i g (by simpa using hg);exact⟨a1,a2,by omega⟩
  .cases h
theorem Asu: ∀(ks:List CK),ks.all kT=true->ks=(List.replicate ks.length [CK.str]).flatten:=by
 intro ks
 induction ks with
 | nil=>intro _;rfl
 | cons k ks ih =>intro h;rw[List.all_cons,Dq]at h;rw[List.length_cons,List.replicate_succ,List.flatten_cons,<- ih h.2];cases k<;>first | rfl | cases h.1
theorem AgI: ∀(ks:List CK) (n:Nat) (a b:(Lt n).Val),ks.all kT=true->ks.length=n->Qv ks ((Lt n).cells a) ((Lt n).cells b)=(true,(Lt n).same a b):=by
 intro ks
 induction ks with
 | nil=>intro n a b _ h;subst h;rfl
 | cons k ks ih =>
  intro n a b h hn;subst hn;rw[List.all_cons,Dq]at h;have e:=ih ks.length (Ty.tl (Lt ks.length) a) (Ty.tl (Lt ks.length) b) h.2 rfl;cases k with
  | str =>show((true&&_,(_==_)&&_):Bool×Bool)=(true,(_==_)&&_);rw[e];rfl
  | _=>cases h.1
theorem ApB (hC:TOk P C) {t:Nat} {ta:TI} (ht:C.T t=some ta) (h:Aly C ta=true):y9 P O w t (tyl ta.cs):=by
 have hT:=hC.is ht;have hu:=hT.d;have hck:=hT.ck;unfold Aly at h;split at h
 .rename_i hd;rw[hd]at hu;have:ta.cs=[.str]:=by simp [OH,hu]at hck;exact hck.symm
  rw[this];exact AnJ hu
 .rename_i q hd;rw[hd]at hu;have:ta.cs=[.int q]:=by simp [OH,hu]at hck;exact hck.symm
  rw[this];exact AnI hu
 .rename_i n e hd;rw[hd]at hu;split at h
  .rename_i te hte;simp only[Dq,Ep]at h;have hTe:=hC.is hte;have hde:=vT h.1;have hue:=hTe.d;rw[hde]at hue;have hcse:te.cs=[.str]:=by have:=hTe.ck;simp [OH,hue]at this;exact this.symm
   have hcs:ta.cs=(List.replicate n [CK.str]).flatten:=by
    rw[show(20:Nat)=18+1+1 from rfl]at hck;unfold OH at hck;simp only[hu]at hck;have he:OH P (18+1) e=some [.str]:=by simp [OH,hue]
    rw[he]at hck;dsimp only at hck;cases hb:Nat.ble (n* [CK.str].length) 4096 with
    | false=>rw[hb]at hck;cases hck
    | true=>rw[hb]at hck;injection hck with hck;exact hck.symm
   rw[hcs,Ait];obtain⟨i,z,h1,h2,_⟩:=hTe.i;exact Alv hu hue h1 (by rw[h2,hcse];rfl) h.2
  .cases h
 .rename_i fs hd;simp only[Dq,Ep]at h;obtain⟨⟨⟨h1,h2⟩,h3⟩,h4⟩:=h;rw[hd]at hu;have h3:=Dp h3;have hcs:=Asu ta.cs h2;have hn:(List.replicate ta.cs.length [CK.str]).flatten.length=ta.cs.length:=by rw[<- hcs]
  rw[hcs,Ait];generalize hnn:ta.cs.length=n at *
  have hfk:RY P fs.toList 0=some ta.cmp:=by
   have hc:=hT.cmp;rw[hd]at hc;unfold Agj at hc;dsimp only at hc;split at hc
   .rename_i ks hks;cases hb:(!(P.stoodInHeld t)&& !(P.eqGuardType P.depth t))with
    | false=>rw[hb]at hc;rw[hc]at h3;simp at h3;omega
    | true=>rw[hb]at hc;rw[hc];exact hks
   .rw[hc]at h3;simp at h3;omega
  obtain⟨k1,k2⟩:=AdY _ _ _ hfk h1;rw[h3]at k1
  exact Ah1 hu k1 (fun i f hf=>by obtain⟨a,b,c⟩:=k2 i f hf;exact⟨a,by omega⟩) h4 fun vs us k k' r1 l1 r2 l2=>by
   have hl: ∀ k:(Lt n).Val,((Lt n).cells k).length=n:=fun k=>by
    rw[Ty.MQ];have: ∀ n,(Lt n).len=n:=by intro n;induction n with | zero=>rfl | succ n ih=>simp [Lt,Ty.len,ih]
    exact this n
   have hce:=AgI ta.cmp n k k' h1 h3
   have:=AdL (Jp:=[]) (m:=fun _=>undef) hT (vs:=vs) (us:=us) (x:=(Lt n).cells k) (y:=(Lt n).cells k') (by rw[hl,l1]) (by rw[hl,l2])
    (fun j hj=>by obtain⟨s,hs⟩:=Su n k j (by rw[hl]at hj;exact hj);have:=r1 j (by rw[hl]at hj;exact hj);rw[hs]at this ⊢;exact this)
    (fun j hj=>by obtain⟨s,hs⟩:=Su n k' j (by rw[hl]at hj;exact hj);have:=r2 j (by rw[hl]at hj;exact hj);rw[hs]at this ⊢;exact this)
    (by cases hq:ta.cmp with | nil=>rw[hq]at h3;simp at h3;omega | cons _ _=>rfl) (by rw[hce])
   rw[hce]at this;exact this.2
 .cases h
end
end Go.Proofs.YtbgjmioccbacdaaGreatDoor.Vm
