import Derived.Test.YtbnphelpndnnfaaGreatDoorA2
import Derived.Laws.Small
import Derived.Laws.Tables
set_option linter.all false
namespace Go.Proofs.YtbnphelpndnnfaaGreatDoor.Vm
section
variable {P:Program} {C:Ctx} {O:Own} {objs:List (Nat×Obj)} {m:Nat->Value} {a:Act} {w:World} {o:Oper} {fet:Fet}
theorem getD_eq {vs:Array Value} {j:Nat} (h:j<vs.size):vs[j]? =some (vs.getD j undef):=by
  rw[Array.getD_eq_getD_getElem?,Array.getElem?_eq_getElem h];rfl
theorem part_run {t:Nat} {ti:TI} (hT:TyIs P t ti) {vs:Array Value} {cs:List A} {off:Nat} (h1:vs.size=cs.length) (h2: ∀ j,j<cs.length->CRel O objs m w (vs.getD j undef) (cs.getD j .undef))
    (h3:off+ti.cs.length<=cs.length) (h4:0<ti.cs.length): ∃ v,(part t vs off).run P w= .ok v w/\T1 O objs m w v (partA ti cs off):=by
  unfold part partA
  simp only[Sem.run_bind,hT.runAgg,Result.andThen_ok]
  cases hg:ti.agg with
  | true =>
    refine⟨.agg (vs.extract off (off+ti.cs.length)),by simp [hT.runSize],_,rfl,by simp;omega,fun j hj=> ?_⟩
    simp only[List.length_take,List.length_drop]at hj
    have hb:=h2 (off+j) (by omega)
    have e1:(vs.extract off (off+ti.cs.length)).getD j undef=vs.getD (off+j) undef:=by
      rw[Array.getD_eq_getD_getElem?,Array.getD_eq_getD_getElem?,Array.getElem?_extract]
      rw[if_pos (by omega)]
    have e2:((cs.drop off).take ti.cs.length).getD j .undef=cs.getD (off+j) .undef:=by
      simp only[List.getD_eq_getElem?_getD,List.getElem?_take,List.getElem?_drop]
      rw[if_pos (by omega)]
    rw[e1];simp only[e2];exact hb
  | false =>
    have hb:=h2 off (by omega)
    refine⟨vs.getD off undef,?_,?_⟩
    ·have:=getD_eq (vs:=vs) (j:=off) (by omega)
     generalize vs.getD off undef=z at *
     simp [this]
    ·simp only[cond_false]
     generalize cs.getD off .undef=c at *
     cases c<;>first | exact hb | exact hb.elim
theorem placeS_some {d:TypeDesc} {f:Nat} {p:Nat×TI} (h:placeS C d f=some p): ∃ fs x,d= .struct fs/\fs[f]? =some x/\x.offset=p.1/\C.T x.type=some p.2:=by
  unfold placeS at h
  split at h
  ·rename_i fs
   split at h
   ·rename_i x hx
    split at h
    ·rename_i ti ht
     injection h with h;subst h
     exact⟨fs,x,rfl,by simpa using hx,rfl,ht⟩
    ·cases h
   ·cases h
  ·cases h
theorem field_pure {t f:Nat} {x:Operand} (hC:TOk P C) (ho:o.op= .field t x f) {x':A} (hx:TRel O objs m w (a.eval x) x') (hok:AllT (fieldX C t f x').ok):Pure P O objs m a w o (fieldX C t f x'):=by
  unfold fieldX at hok ⊢
  obtain⟨ti,ht,he⟩:=tiOf_ok hok
  rw[he]at hok ⊢;clear he
  obtain⟨p,hp,he⟩:=optX_ok hok
  rw[he]at hok ⊢;clear he
  obtain⟨cs,hcs,he⟩:=optX_ok hok
  rw[he]at hok ⊢;clear he
  obtain⟨fs,fx,hd,hfx,hoff,htf⟩:=placeS_some hp
  have:x'= .agg cs:=by unfold agg? at hcs;split at hcs<;>simp_all
  subst this
  obtain⟨vs,h1,h2,h3⟩:=hx
  obtain⟨h4,h5⟩:=hok.cons
  have h5:=h5.cons.1
  have h4:=Nat.le_of_ble_eq_true h4
  have h5:0<p.2.cs.length:=by simpa [Nat.blt_eq]using h5
  have hu:=(hC.is ht).run w
  rw[hd]at hu
  obtain⟨v,hv,hr⟩:=part_run (off:=p.1) (hC.is htf) h2 h3 h4 h5
  refine⟨⟨v,?_,hr.toT⟩,rfl,rfl,rfl⟩
  simp [execOp,ho,Instr.field,hu,hfx,h1,asAgg,hoff,hv]
theorem addr_rel {x':A} {v:Value} {off n:Nat} (hf:FOk O objs m w fet) (hx:TRel O objs m w v x') (hok:AllT (addrX off n fet x').ok) :
    ∃ b k,v= .pointer (some (at' b k))/\TRel O objs m w (.pointer (some (at' b (k+off)))) (addrX off n fet x').val/\(addrX off n fet x').new=[]/\(addrX off n fet x').upd=[]/\(addrX off n fet x').del=[]:=by
  unfold addrX at hok ⊢
  split at hok
  ·obtain⟨cs,hcs,he⟩:=optX_ok hok
   rw[he]at hok ⊢;clear he
   rename_i q p
   obtain⟨b,base,h1,h2,h3⟩:=hx.ptr hf (box?_some hcs)
   refine⟨b,base+p,h2,?_,rfl,rfl,rfl⟩
   have hg:=(hf _ _ (box?_some hcs)).1
   show CRel O objs m w _ (.ptr q (p+off))
   simp only[CRel,hg,Option.map_some,Obj.shp]
   exact⟨rfl,b,base,h1,by rw[Nat.add_assoc]⟩
  ·rename_i cs
   obtain⟨b,k,h1,h2⟩:=(show CRel O objs m w v (.elt cs)from hx)
   refine⟨b,k,h1,?_,rfl,rfl,rfl⟩
   refine⟨b,k+off,rfl,fun j hj=> ?_⟩
   simp only[List.length_drop]at hj
   have:=h2 (off+j) (by omega)
   rw[Nat.add_assoc]
   have e:(cs.drop off).getD j .undef=cs.getD (off+j) .undef:=by simp [List.getD_eq_getElem?_getD,List.getElem?_drop]
   rw[e];exact this
  ·rename_i q i p
   obtain⟨r,hr,he⟩:=optX_ok hok
   rw[he]at hok ⊢;clear he
   have hi:i<r.l.es.length:=by rw[Sl.es_length];simpa [Dl.g]using hok.cons.1
   have hx':CRel O objs m w v (.oelt q i p):=hx
   have hg:=(hf _ _ (arr?_some hr)).1
   simp only[CRel,hg,Option.map_some,Obj.shp]at hx'
   obtain⟨g,n',cap,h1,h2⟩:=hx'.2 hi
   refine⟨g,_,h2,?_,rfl,rfl,rfl⟩
   show CRel O objs m w _ (.oelt q i (p+off))
   simp only[CRel,hg,Option.map_some,Obj.shp]
   refine⟨rfl,fun _=> ?_⟩
   exact⟨g,n',cap,h1,by rw[Nat.add_assoc]⟩
  ·exact(not_AllT_no hok).elim
theorem fieldAddr_pure {t f:Nat} {x:Operand} (hC:TOk P C) (hf:FOk O objs m w fet) (ho:o.op= .fieldAddr t x f) {x':A} (hx:TRel O objs m w (a.eval x) x') (hok:AllT (fieldAddrX C fet t f x').ok):Pure P O objs m a w o (fieldAddrX C fet t f x'):=by
  unfold fieldAddrX at hok ⊢
  obtain⟨ti,ht,he⟩:=tiOf_ok hok
  rw[he]at hok ⊢;clear he
  obtain⟨p,hp,he⟩:=optX_ok hok
  rw[he]at hok ⊢;clear he
  obtain⟨fs,fx,hd,hfx,hoff,htf⟩:=placeS_some hp
  obtain⟨h1,h2⟩:=hok.cons
  have h1:0<p.2.cs.length:=by simpa [Nat.blt_eq]using h1
  obtain⟨b,k,h3,h4,h5,h6,h7⟩:=addr_rel hf hx h2
  have hu:=(hC.is ht).run w
  rw[hd]at hu
  have hs:=(hC.is htf).runSize w
  refine⟨⟨_,?_,h4⟩,h5,h6,h7⟩
  have h0:p.2.cs.length≠0:=by omega
  simp [execOp,ho,Instr.fieldAt,hu,hfx,h3,Instr.sureAddr,fieldPlace,hs,h0,add_at,hoff]
theorem indexAddr_pure {t:Nat} {x i:Operand} (hC:TOk P C) (hf:FOk O objs m w fet) (ho:o.op= .indexAddr t x i) {x' i':A} (hx:TRel O objs m w (a.eval x) x') (hi:TRel O objs m w (a.eval i) i')
    (hok:AllT (indexAddrX C fet t x' i').ok):Pure P O objs m a w o (indexAddrX C fet t x' i'):=by
  unfold indexAddrX at hok ⊢
  split at hok
  ·rename_i q i0 off0
   obtain⟨n,hn,he⟩:=optX_ok hok
   rw[he]at hok ⊢;clear he
   obtain⟨k,rfl⟩:=int?_some hn
   have hi:=hi.int
   obtain⟨ti,ht,he⟩:=tiOf_ok hok
   rw[he]at hok ⊢;clear he
   obtain⟨p,hp,he⟩:=optX_ok hok
   rw[he]at hok ⊢;clear he
   obtain⟨te,hte,he⟩:=tiOf_ok hok
   rw[he]at hok ⊢;clear he
   obtain⟨r,hr,he⟩:=optX_ok hok
   rw[he]at hok ⊢;clear he
   obtain⟨h1,h2⟩:=hok.cons
   obtain⟨h2,h3⟩:=h2.cons
   obtain⟨h3,h4⟩:=h3.cons
   obtain⟨h4,h5⟩:=h4.cons
   obtain⟨h5,h6⟩:=h5.cons
   have h6:=h6.cons.1
   have h1:=Nat.eq_of_beq_eq_true h1
   have h2:=Nat.eq_of_beq_eq_true h2
   have h3:=Nat.eq_of_beq_eq_true h3
   subst h1;subst h2
   have h4:0<=n:=by simpa using h4
   have h5:n<(p.1:Int):=by simpa using h5
   have h6:n.toNat<r.l.es.length:=by rw[Sl.es_length];simpa using h6
   have hx':CRel O objs m w (a.eval x) (.oelt q 0 0):=hx
   have hg:=(hf _ _ (arr?_some hr)).1
   simp only[CRel,hg,Option.map_some,Obj.shp]at hx'
   obtain⟨g,n',cap,e1,e2⟩:=hx'.2 (by omega)
   have hd:ti.d= .array p.1 p.2:=by
     unfold arr2? at hp
     split at hp
     ·rename_i hd;injection hp with hp;rw[hd,<- hp]
     ·cases hp
   have hu:=(hC.is ht).run w
   rw[hd]at hu
   have hs:=(hC.is hte).runSize w
   refine⟨⟨.pointer (some (at' g (n.toNat*te.cs.length))),?_,?_⟩,rfl,rfl,rfl⟩
   ·have e2':a.eval x= .pointer (some (at' g 0)):=by rw[e2];simp
    simp [execOp,ho,Instr.indexAt,hi,asIntOf,hu,e2',Instr.sureAddr,h4,h5,hs,add_at]
   ·show CRel O objs m w _ (.oelt q n.toNat 0)
    simp only[CRel,hg,Option.map_some,Obj.shp]
    refine⟨rfl,fun _=>⟨g,n',cap,e1,by rw[h3];rfl⟩⟩
  ·rename_i cs
   obtain⟨n,hn,he⟩:=optX_ok hok
   rw[he]at hok ⊢;clear he
   obtain⟨k,rfl⟩:=int?_some hn
   have hi:=hi.int
   obtain⟨m',e,kk,te,he,hu,hte,hcs,_⟩:=arrOf_ok hC hok
   rw[he]at hok ⊢
   obtain⟨h1,h2,h3,h4,h5⟩:=nthI_rel hok
   obtain⟨b,off,g1,g2⟩:=(show CRel O objs m w _ (.elt cs)from hx)
   have hs:=(hC.is hte).runSize w
   have hrun:=run_underlying hu w
   refine⟨⟨.pointer (some (at' b (off+n.toNat))),?_,?_⟩,rfl,rfl,rfl⟩
   ·simp [execOp,ho,Instr.indexAt,hi,asIntOf,hrun,g1,Instr.sureAddr,h2,h3,hs,hcs,add_at]
   ·refine⟨b,off+n.toNat,rfl,fun j hj=> ?_⟩
    have:j=0:=by simpa using hj
    subst this
    obtain⟨a1,u,a2,a3⟩:=g2 n.toNat h4
    rw[h5]at a3
    exact⟨a1,u,a2,a3⟩
  ·rename_i y hne _
   clear hne
   obtain⟨n,hn,he⟩:=optX_ok hok
   rw[he]at hok ⊢;clear he
   obtain⟨k,rfl⟩:=int?_some hn
   have hi:=hi.int
   unfold elemOf at hok ⊢
   obtain⟨ti,ht,he⟩:=tiOf_ok hok
   rw[he]at hok ⊢;clear he
   obtain⟨e,hel,he⟩:=optX_ok hok
   rw[he]at hok ⊢;clear he
   obtain⟨te,hte,he⟩:=tiOf_ok hok
   rw[he]at hok ⊢;clear he
   have hu:=(hC.is ht).run w
   rw[elem?_some hel]at hu
   have hs:=(hC.is hte).runSize w
   have run: ∀ b off len cap,a.eval x= .slice (some (at' b off)) len cap->0<=n->n<(len:Int)->(execOp a.eval o).run P w= .ok (.value (.pointer (some (at' b (off+n.toNat*te.cs.length))))) w:=by
     intro b off len cap h1 h2 h3
     simp [execOp,ho,Instr.indexAt,hi,asIntOf,hu,h1,h2,h3,hs,add_at]
   dsimp only at hok ⊢
   split at hok
   ·rename_i q _
    obtain⟨r,hr,he⟩:=optX_ok hok
    rw[he]at hok
    rw[he];clear he
    obtain⟨h1,h2⟩:=hok.cons
    obtain⟨h2,h3⟩:=h2.cons
    have h3:=h3.cons.1
    have h1:=Nat.eq_of_beq_eq_true h1
    have h2:0<=n:=by simpa using h2
    have h3:n<(r.l.es.length:Int):=by rw[Sl.es_length];simpa using h3
    obtain⟨h4,_,h5⟩:=hx.own hf (arr?_some hr)
    have hg:=(hf _ _ (arr?_some hr)).1
    rcases h5 with ⟨_,h6,_⟩ | ⟨_,g,cap,cur,h6,_⟩
    ·rw[h6]at h3;simp at h3;omega
    ·refine⟨⟨_,run g 0 _ cap (by rw[h4,h6]) h2 h3,?_⟩,rfl,rfl,rfl⟩
     show CRel O objs m w _ (.oelt q n.toNat 0)
     simp only[CRel,hg,Option.map_some,Obj.shp]
     refine⟨rfl,fun _=> ?_⟩
     exact⟨g,_,_,h6,by rw[<- h1];simp⟩
   ·rename_i l _
    obtain⟨h1,h2⟩:=hok.cons
    obtain⟨h0,h2⟩:=h2.cons
    obtain⟨h2,h3⟩:=h2.cons
    have h3:=h3.cons.1
    have h1:=Nat.eq_of_beq_eq_true h1
    have h2:0<=n:=by simpa using h2
    have h3:n<(l.es.length:Int):=by rw[Sl.es_length];simpa using h3
    have hx':VRel O w (a.eval x) (.sl l):=hx
    generalize hv:a.eval x=v at hx'
    cases hx' with
    | nil=>simp [Sl.es]at h3;omega
    | sl0=>simp [Sl.es]at h3;omega
    | @sl b off cap _ vs hc hm hr =>
      refine⟨⟨_,run b off _ cap hv h2 h3,?_⟩,rfl,rfl,rfl⟩
      have hj:n.toNat<l.es.length:=by omega
      refine⟨b,_,rfl,fun j hjj=> ?_⟩
      rw[Sl.at_length]at hjj
      obtain⟨h4,h5⟩:=hm n.toNat j hj hjj
      rw[<- h1,Nat.add_assoc]
      rw[l.at_eq (by rw[<- Sl.es_length];exact hj)]
      exact⟨h4,_,h5,hr n.toNat j hj hjj⟩
   ·rename_i q k _
    obtain⟨cs,hb,he⟩:=optX_ok hok
    rw[he]at hok
    rw[he];clear he
    obtain⟨h1,h2⟩:=hok.cons
    obtain⟨h2,h3⟩:=h2.cons
    have h3:=h3.cons.1
    have h1:=Nat.eq_of_beq_eq_true h1
    have h2:0<=n:=by simpa using h2
    rw[Nat.blt_eq]at h3
    have hg:=(hf _ _ (box?_some hb)).1
    have hc:CRel O objs m w (a.eval x) (.bsl q k):=hx
    have hc:=hc.2
    rw[hg]at hc
    obtain⟨b,base,e1,e2⟩:=hc
    refine⟨⟨_,run b base _ k e2 h2 (by omega),?_⟩,rfl,rfl,rfl⟩
    show CRel O objs m w _ (.ptr q n.toNat)
    refine⟨rfl,?_⟩
    rw[hg,h1,Nat.mul_one]
    exact⟨b,base,e1,rfl⟩
   ·exact(not_AllT_no hok).elim
theorem nilCheck_pure {x:Operand} (hf:FOk O objs m w fet) (ho:o.op= .nilCheck x) {x':A} (hx:TRel O objs m w (a.eval x) x') (hok:AllT (nilCheckX fet x').ok):Pure P O objs m a w o (nilCheckX fet x'):=by
  unfold nilCheckX at hok ⊢
  split at hok
  ·obtain⟨cs,hcs,he⟩:=optX_ok hok
   rw[he]at hok ⊢;clear he
   obtain⟨b,base,h1,h2,h3⟩:=hx.ptr hf (box?_some hcs)
   refine⟨⟨a.eval x,?_,hx⟩,rfl,rfl,rfl⟩
   rw[h2]
   simp [execOp,ho,h2]
  ·exact(not_AllT_no hok).elim
theorem VRel.one {u:Value} {c:A} (h:VRel O w u c):u.oneCell'=true:=by
  induction h<;>first | rfl | assumption
theorem force_rel {k:CK} {u:Value} {c:A} (h:VRel O w u c) (hok:AllT (force k c).1):CRel O objs m w u (force k c).2:=by
  cases k with
  | bool=>have:=hok.cons.1;cases h<;>simp [A.isB]at this;exact .bool _
  | int k =>
    have:=hok.cons.1
    cases h<;>simp [A.isI]at this
    have:=kEq_eq this
    subst this
    exact .int _ _
  | str=>have:=hok.cons.1;cases h<;>simp [A.isS]at this;exact .str _
  | sl e sz =>
    have:=hok.cons.1
    cases h with
    | nil t=>exact .nil _
    | sl0 a t=>exact VRel.sl0 _ _
    | sl vs h1 h2 h3=>exact .sl vs h1 h2 h3
    | _=>simp [A.isSl]at this
  | ptr=>have:=hok.cons.1;cases h<;>simp [A.isNilp]at this;exact .nilp
  | fn =>
    have:=hok.cons.1
    cases h<;>simp [A.isFn]at this
    ·exact VRel.fn _
    ·exact VRel.nilfn
  | mp _ _=>have:=hok.cons.1;cases this
  | bx _=>have:=hok.cons.1;cases this
  | sln e sz =>
    have:=hok.cons.1
    cases h with
    | sln h hn=>exact .sln h hn
    | _=>simp [A.isSln]at this
  | oth=>exact h.one
theorem forces_len (cs:List A) (ks:List CK): ∀ off,(forces cs ks off).2.length=ks.length:=by
  induction ks with
  | nil=>intro off;rfl
  | cons k ks ih=>intro off;simp [forces,ih]
theorem forces_rel (cs:List A) (ks:List CK): ∀(off:Nat) (f:Nat->Value),(∀ j,j<ks.length->VRel O w (f j) (cs.getD (off+j) .undef))->AllT (forces cs ks off).1 ->
    ∀ j,j<ks.length->CRel O objs m w (f j) ((forces cs ks off).2.getD j .undef):=by
  induction ks with
  | nil=>intro off f _ _ j hj;simp at hj
  | cons k ks ih =>
    intro off f h hok j hj
    obtain⟨h1,h2⟩:=hok.append
    cases j with
    | zero=>exact force_rel (by have:=h 0 (by simp);simpa using this) h1
    | succ j =>
      have:=ih (off+1) (fun j=>f (j+1)) (fun j hj=>by have:=h (j+1) (by simpa using hj);rwa [show off+(j+1)=off+1+j from by omega]at this) h2 j (by simpa using hj)
      simpa [forces]using this
theorem loadVar_cells {t:Nat} {ti:TI} (hT:TyIs P t ti) {b k:Nat} (f:Nat->Value) (hc: ∀ j,j<ti.cs.length->w.cell? (at' b (k+j))=some (f j)) (h0:ti.agg=false->0<ti.cs.length) :
    (loadVar t (at' b k)).run P w= .ok (if ti.agg then .agg ((List.range ti.cs.length).map f).toArray else f 0) w:=by
  unfold loadVar
  simp only[Sem.run_bind,hT.runAgg,Result.andThen_ok]
  cases hg:ti.agg with
  | true =>
    have:=run_loadCells (P:=P) w (at' b k) ti.cs.length f (fun j hj=>by rw[add_at];exact hc j hj)
    simp [hT.runSize,this]
  | false =>
    have:=hc 0 (h0 hg)
    simp only[Nat.add_zero]at this
    simp [this]
theorem one?_some {α :Type} {l:List α} {k: α} (h:one? l=some k):l=[k]:=by
  unfold one? at h;split at h<;>simp_all
theorem loadF_run {t:Nat} {ti:TI} (hT:TyIs P t ti) {b k off:Nat} {cs:List A} {pre:List Bool} (hc: ∀ j,j<ti.cs.length-> ∃ u,w.cell? (at' b (k+j))=some u/\VRel O w u (cs.getD (off+j) .undef))
    (hok:AllT (loadF ti cs off pre).ok): ∃ v,(loadVar t (at' b k)).run P w= .ok v w/\TRel O objs m w v (loadF ti cs off pre).val/\(loadF ti cs off pre).new=[]/\(loadF ti cs off pre).upd=[]/\(loadF ti cs off pre).del=[]:=by
  have hf: ∀ j,j<ti.cs.length->w.cell? (at' b (k+j))=some ((w.cell? (at' b (k+j))).getD undef)/\VRel O w ((w.cell? (at' b (k+j))).getD undef) (cs.getD (off+j) .undef):=by
    intro j hj
    obtain⟨u,h1,h2⟩:=hc j hj
    rw[h1];exact⟨rfl,h2⟩
  unfold loadF at hok ⊢
  cases hg:ti.agg with
  | true =>
    rw[hg]at hok
    simp only[cond_true]at hok ⊢
    obtain⟨_,h2⟩:=hok.append
    refine⟨_,loadVar_cells hT (fun j=>(w.cell? (at' b (k+j))).getD undef) (fun j hj=>(hf j hj).1) (by simp [hg]),?_,rfl,rfl,rfl⟩
    rw[hg]
    refine⟨_,rfl,by simp [forces_len],fun j hj=> ?_⟩
    rw[forces_len]at hj
    have:=forces_rel (objs:=objs) (m:=m) cs ti.cs off (fun j=>(w.cell? (at' b (k+j))).getD undef) (fun j hj=>(hf j hj).2) h2 j hj
    have e:(((List.range ti.cs.length).map fun j=>(w.cell? (at' b (k+j))).getD undef).toArray).getD j undef=(w.cell? (at' b (k+j))).getD undef:=by
      rw[Array.getD_eq_getD_getElem?];simp [hj]
    rw[e];exact this
  | false =>
    rw[hg]at hok
    simp only[cond_false]at hok ⊢
    obtain⟨kk,hk,he⟩:=optX_ok hok
    rw[he]at hok ⊢;clear he
    have hone:=one?_some hk
    obtain⟨_,h2⟩:=hok.append
    have h0:0<ti.cs.length:=by rw[hone];simp
    refine⟨_,loadVar_cells hT (fun j=>(w.cell? (at' b (k+j))).getD undef) (fun j hj=>(hf j hj).1) (fun _=>h0),?_,rfl,rfl,rfl⟩
    rw[hg]
    have:=(hf 0 h0).2
    exact(force_rel this h2).toT
theorem isPtrK_eq {l:List CK} (h:isPtrK l=true):l=[.ptr]:=by
  unfold isPtrK at h
  split at h
  ·rfl
  ·cases h
theorem load_pure {t:Nat} {x:Operand} (hC:TOk P C) (hf:FOk O objs m w fet) (ho:o.op= .load t x) {x':A} (hx:TRel O objs m w (a.eval x) x') (hok:AllT (loadX C fet t x').ok):Pure P O objs m a w o (loadX C fet t x'):=by
  unfold loadX at hok ⊢
  obtain⟨ti,ht,he⟩:=tiOf_ok hok
  rw[he]at hok ⊢;clear he
  have hT:=hC.is ht
  have run: ∀ b k v,a.eval x= .pointer (some (at' b k))->(loadVar t (at' b k)).run P w= .ok v w->(execOp a.eval o).run P w= .ok (.value v) w:=by
    intro b k v h1 h2
    simp [execOp,ho,Instr.loadAt,Instr.sureAddr,h1,h2]
  split at hok
  ·obtain⟨cs,hcs,he⟩:=optX_ok hok
   rw[he]at hok
   rw[he];clear he
   rename_i q off
   obtain⟨b,base,h1,h2,h3⟩:=hx.ptr hf (box?_some hcs)
   obtain⟨h4,h5⟩:=hok.cons
   have h4:=Nat.le_of_ble_eq_true h4
   have h5:0<ti.cs.length:=by simpa [Nat.blt_eq]using h5.cons.1
   have hc: ∀ j,j<ti.cs.length->w.cell? (at' b (base+off+j))=some ((w.cell? (at' b (base+off+j))).getD undef)/\CRel O objs m w ((w.cell? (at' b (base+off+j))).getD undef) (cs.getD (off+j) .undef):=by
     intro j hj
     obtain⟨_,_,u,h6,h7⟩:=h3 (off+j) (by omega)
     rw[Nat.add_assoc,h6];exact⟨rfl,h7⟩
   have hl:=loadVar_cells hT (fun j=>(w.cell? (at' b (base+off+j))).getD undef) (fun j hj=>(hc j hj).1) (fun _=>h5)
   refine⟨⟨_,run _ _ _ h2 hl,?_⟩,rfl,rfl,rfl⟩
   simp only[Dl.g,partA]
   cases hg:ti.agg with
   | true =>
     refine⟨_,rfl,by simp;omega,fun j hj=> ?_⟩
     simp only[List.length_take,List.length_drop]at hj
     have e:(((List.range ti.cs.length).map fun j=>(w.cell? (at' b (base+off+j))).getD undef).toArray).getD j undef=(w.cell? (at' b (base+off+j))).getD undef:=by
       rw[Array.getD_eq_getD_getElem?];simp [show j<ti.cs.length from by omega]
     have e2:((cs.drop off).take ti.cs.length).getD j .undef=cs.getD (off+j) .undef:=by
       simp only[List.getD_eq_getElem?_getD,List.getElem?_take,List.getElem?_drop]
       rw[if_pos (by omega)]
     simp only[e2]
     rw[e];exact(hc j (by omega)).2
   | false=>exact(hc 0 h5).2.toT
  ·rename_i cs
   obtain⟨b,k,h1,h2⟩:=(show CRel O objs m w _ (.elt cs)from hx)
   have hle:ti.cs.length<=cs.length:=by
     have hA:AllT [Nat.ble ti.cs.length cs.length]:=by
       unfold loadF at hok
       cases hg:ti.agg with
       | true=>rw[hg]at hok;exact(hok.append).1
       | false =>
         rw[hg]at hok
         obtain⟨kk,hk,he⟩:=optX_ok hok
         simp only[cond_false]at hok
         rw[he]at hok;exact(hok.append).1
     exact Nat.le_of_ble_eq_true hA.cons.1
   obtain⟨v,h3,h4,h5,h6,h7⟩:=loadF_run (objs:=objs) (m:=m) (k:=k) (off:=0) hT (fun j hj=>by
     obtain⟨_,u,h8,h9⟩:=h2 j (by omega)
     exact⟨u,h8,by simpa using h9⟩) hok
   exact⟨⟨v,run _ _ _ h1 h3,h4⟩,h5,h6,h7⟩
  ·rename_i k q
   obtain⟨h1,h2⟩:=hok.cons
   obtain⟨h2,h3⟩:=h2.cons
   have h3:ti.agg=false:=by simpa using h3.cons.1
   have h1:=Nat.eq_of_beq_eq_true h1
   subst h1
   have h2:=isPtrK_eq h2
   obtain⟨_,p,hp1,⟨b,j,e1,e2,e3⟩,hc⟩:=(show CRel O objs m w (a.eval x) (.clo 0 q)from hx)
   have hl:=loadVar_cells (P:=P) (w:=w) hT (b:=b) (k:=j) (fun _=>p) (fun i hi=>by
     have:i=0:=by rw[h2]at hi;simpa using hi
     subst this;exact e3) (fun _=>by rw[h2];decide)
   rw[h3]at hl
   refine⟨⟨_,run _ _ _ e1 hl,?_⟩,rfl,rfl,rfl⟩
   exact⟨hp1,hc⟩
  ·rename_i q i off
   obtain⟨r,hr,he⟩:=optX_ok hok
   rw[he]at hok
   rw[he];clear he
   cases hrow:isRow ti r.l i off with
   | true =>
     rw[hrow]at hok
     simp only[cond_true]at hok ⊢
     simp only[isRow,Bool.and_eq_true]at hrow
     obtain⟨⟨⟨r4,r1⟩,r3⟩,r2⟩:=hrow
     have r1:=Nat.eq_of_beq_eq_true r1
     have r2:=Nat.eq_of_beq_eq_true r2
     have r3:=Nat.eq_of_beq_eq_true r3
     have r4:1<ti.cs.length:=by simpa [Nat.blt_eq]using r4
     subst r2;subst r3
     have hA:AllT [Nat.ble ti.cs.length r.l.xs.length,true]:=by
       unfold loadF at hok
       cases hg:ti.agg with
       | true=>rw[hg]at hok;exact(hok.append).1
       | false =>
         rw[hg]at hok
         obtain⟨kk,hk,he⟩:=optX_ok hok
         simp only[cond_false]at hok
         rw[he]at hok;exact(hok.append).1
     have hle':=Nat.le_of_ble_eq_true hA.cons.1
     have hle:ti.cs.length<=r.l.es.length:=by rw[Sl.es_length];exact hle'
     obtain⟨hg,hsz,hO⟩:=hf _ _ (arr?_some hr)
     have hx':CRel O objs m w (a.eval x) (.oelt q 0 0):=hx
     simp only[CRel,hg,Option.map_some,Obj.shp]at hx'
     obtain⟨g,n',cap,h1,h2⟩:=hx'.2 (by omega)
     rcases hO with ⟨_,h3,_⟩ | ⟨_,g',cap',cur,h3,h4,h5,h6,h7,h8,_⟩
     ·rw[h3,List.length_nil]at hle;omega
     ·rw[h1]at h3
      injection h3 with h3 h3' h3''
      injection h3 with h3;injection h3 with h3
      subst h3
      obtain⟨v,h13,h14,h15,h16,h17⟩:=loadF_run (objs:=objs) (m:=m) (O:=O) (b:=g) (k:=0*r.l.sz+0) (off:=0) (cs:=rowCells r.l ti.cs.length) hT (fun j hj=>by
        obtain⟨u,h9,h10⟩:=h8 j 0 (by omega) (by omega)
        have e:(rowCells r.l ti.cs.length).getD (0+j) .undef=(r.l.es.getD j []).getD 0 .undef:=by
          rw[<- r.l.at_eq (Nat.lt_of_lt_of_le hj hle')]
          simp [rowCells,List.getD_eq_getElem?_getD,hj]
        rw[e]
        refine⟨u,?_,h10⟩
        rw[h4.cell,r1,Nat.mul_one,Nat.add_zero]at *
        simpa using h9) hok
      exact⟨⟨v,run _ _ _ h2 h13,h14⟩,h15,h16,h17⟩
   | false =>
   rw[hrow]at hok
   simp only[cond_false]at hok ⊢
   have hA:AllT [Nat.ble (off+ti.cs.length) r.l.sz,decide (i<r.l.xs.length)]:=by
     unfold loadF at hok
     cases hg:ti.agg with
     | true=>rw[hg]at hok;exact(hok.append).1
     | false =>
       rw[hg]at hok
       obtain⟨kk,hk,he⟩:=optX_ok hok
       simp only[cond_false]at hok
       rw[he]at hok;exact(hok.append).1
   obtain⟨hle,hi⟩:=hA.cons
   have hle:=Nat.le_of_ble_eq_true hle
   have hi':i<r.l.xs.length:=by simpa using hi.cons.1
   have hi:i<r.l.es.length:=by rw[Sl.es_length];exact hi'
   obtain⟨hg,hsz,hO⟩:=hf _ _ (arr?_some hr)
   have hx':CRel O objs m w (a.eval x) (.oelt q i off):=hx
   simp only[CRel,hg,Option.map_some,Obj.shp]at hx'
   obtain⟨g,n',cap,h1,h2⟩:=hx'.2 hi
   rcases hO with ⟨_,h3,_⟩ | ⟨_,g',cap',cur,h3,h4,h5,h6,h7,h8,_⟩
   ·rw[h3]at hi;simp at hi
   ·rw[h1]at h3
    injection h3 with h3 h3' h3''
    injection h3 with h3;injection h3 with h3
    subst h3
    obtain⟨v,h13,h14,h15,h16,h17⟩:=loadF_run (objs:=objs) (m:=m) (O:=O) (b:=g) (k:=i*r.l.sz+off) (off:=off) (cs:=r.l.at i) hT (fun j hj=>by
      obtain⟨u,h9,h10⟩:=h8 i (off+j) hi (by omega)
      rw[r.l.at_eq hi']
      refine⟨u,?_,h10⟩
      rw[h4.cell,Nat.add_assoc];exact h9) hok
    exact⟨⟨v,run _ _ _ h2 h13,h14⟩,h15,h16,h17⟩
  ·exact(not_AllT_no hok).elim
end
end Go.Proofs.YtbnphelpndnnfaaGreatDoor.Vm
namespace Go.Proofs.YtbnphelpndnnfaaGreatDoor.Vm
section
variable {P:Program} {C:Ctx} {O:Own} {objs:List (Nat×Obj)} {m:Nat->Value} {a:Act} {w:World} {o:Oper} {fet:Fet}
def RdIs (w:World) (O:Own) (v:Value) (l:Sl):Prop :=
  (∃ ad,v= .slice ad 0 0/\l.xs=[])\/ ∃ b k c,v= .slice (some (at' b k)) l.es.length c/\l.es.length<=c /\
      ∀ i j,i<l.es.length->j<l.sz-> ∃ u,w.cell? (at' b (k+(i*l.sz+j)))=some u/\VRel O w u ((l.es.getD i []).getD j .undef)
theorem xs_nil {l:Sl} (h:l.es=[]):l.xs=[]:=by simp_all[Sl.es]
theorem VRel.ofNil {l:Sl} (h:l.es=[]):VRel O w (.slice none 0 0) (.sl l):=by
  obtain⟨t,xs⟩:=l
  have:xs=[]:=xs_nil h
  subst this
  exact .nil t
theorem rd_run {x:A} {v:Value} (hf:FOk O objs m w fet) (hx:TRel O objs m w v x) (hok:AllT (rd fet x).1):RdIs w O v (rd fet x).2:=by
  rcases rd_cases hok with ⟨n,e,frz,l,rfl,hg,hl⟩ | ⟨rfl,hl⟩ | ⟨l,rfl,hl⟩<;>rw[hl]
  ·obtain⟨h1,h0,h2⟩:=hx.own hf hg
   rcases h2 with ⟨h3,h4,h5⟩ | ⟨h3,g,cap,cur,h4,h5,h6,h7,h8,h9,_⟩
   ·exact .inl ⟨none,by rw[h1,h5],xs_nil h4⟩
   ·refine .inr ⟨g,0,cap,by rw[h1,h4],h6,fun i j hi hj=> ?_⟩
    obtain⟨u,h10,h11⟩:=h9 i j hi hj
    exact⟨u,by rw[Nat.zero_add,h5.cell];exact h10,h11⟩
  ·exact .inl ⟨none,hx,rfl⟩
  ·have hx':VRel O w v (.sl l):=hx
   cases hx' with
   | nil=>exact .inl ⟨none,rfl,rfl⟩
   | sl0 ad=>exact .inl ⟨some ad,rfl,rfl⟩
   | @sl b off cap _ vs hc hm hr=>exact .inr ⟨b,off,cap,rfl,hc,fun i j hi hj=>⟨vs i j,(hm i j hi hj).2,hr i j hi hj⟩⟩
theorem rdT_run {t:Ty} {x:A} {v:Value} (hf:FOk O objs m w fet) (hx:TRel O objs m w v x) (hok:AllT (rdT fet t x).1):RdIs w O v ⟨t,(rdT fet t x).2⟩:=by
  by_cases hn:x= .nils
  ·subst hn
   exact .inl ⟨none,hx,rfl⟩
  ·have hr:rdT fet t x=match (rd fet x).2.cast t with | some xs=>((rd fet x).1,xs) | none=>([false],[]):=by
     cases x<;>first | rfl | exact absurd rfl hn
   rw[hr]at hok ⊢
   cases hc:(rd fet x).2.cast t with
   | none=>simp_all[Ty,FOk,TRel,AllT,rdT,RdIs]
   | some xs=>grind[rd_run,Sl.cast_some]
theorem isByte_lt {n:Int} (h:isByte n=true):0<=n/\n<256:=by
  unfold isByte at h
  simpa using h
theorem isU8D_eq {d:TypeDesc} (h:isU8D d=true):d= .int .u8:=by grind[isU8D]
theorem convert_pure {s t:Nat} {x:Operand} (hC:TOk P C) (hf:FOk O objs m w fet) (ho:o.op= .convert s t x) {x':A} (hx:TRel O objs m w (a.eval x) x') (hok:AllT (convertX C fet s t x').ok) :
    Pure P O objs m a w o (convertX C fet s t x'):=by
  unfold convertX at hok ⊢
  obtain⟨ts,hts,he⟩:=tiOf_ok hok
  rw[he]at hok ⊢;clear he
  obtain⟨tt,htt,he⟩:=tiOf_ok hok
  rw[he]at hok ⊢;clear he
  have hus:=(hC.is hts).run w
  have hut:=(hC.is htt).run w
  split at hok
  ·rename_i k j n hd
   rw[hd]at hut
   have h1:=hx.int
   refine⟨⟨.int k (k.wrap n),?_,.mkInt _ _⟩,rfl,rfl,rfl⟩
   simp only[execOp,ho,convert,Sem.run_bind,hus,hut,Result.andThen_ok,h1]
   cases ts.d<;>simp [Conv.intToInt]
  ·rename_i l hd
   rw[hd]at hut
   obtain⟨b,hb,hl⟩:=hx.str
   refine⟨⟨.string b,?_,.mkStr _ hl⟩,rfl,rfl,rfl⟩
   simp only[execOp,ho,convert,Sem.run_bind,hus,hut,Result.andThen_ok,hb]
   cases ts.d<;>simp
  ·exact(not_AllT_no hok).elim
  ·rename_i y _ _ hd _ _
   rw[hd]at hut
   obtain⟨e,hel,he⟩:=optX_ok hok
   rw[he]at hok ⊢;clear he
   obtain⟨te,hte,he⟩:=tiOf_ok hok
   rw[he]at hok ⊢;clear he
   obtain⟨h1,h2⟩:=hok.cons
   obtain⟨h2,h3⟩:=h2.append
   have h3:=h3.cons.1
   have hde:=isU8D_eq h1
   have hes:=elem?_some hel
   have hue:=(hC.is hte).d
   rw[hde]at hue
   have hus':=(hC.is hts).d
   rw[hes]at hus'
   have hr:RdIs w O (a.eval x) ⟨byteT,(rdB fet y).2⟩:=rdT_run (t:=byteT) hf hx h2
   generalize hL:(rdB fet y).2=bs at *
   have hes:(⟨byteT,bs⟩:Sl).es.length=bs.length:=Sl.es_length _
   rcases hr with ⟨ad,hv,hn⟩ | ⟨b,k,c,hv,hc,hcell⟩
   ·have hn:bs=[]:=hn
    refine⟨⟨.string .empty,?_,.mkStr _ (by rw[hn];rfl)⟩,rfl,rfl,rfl⟩
    cases ad with
    | none =>
      have:=run_convert_bytes_string (P:=P) w s t e none 0 0 hus' hue (by rw[(hC.is htt).d,hd])
      simp only[execOp,ho,hv,Sem.run_bind,this]
      rfl
    | some ad =>
      have:=run_convert_bytes_back (P:=P) w s t e ad 0 [] hus' hue (by rw[(hC.is htt).d,hd]) (fun j hj=>absurd hj (Nat.not_lt_zero j))
      simp only[List.length_nil]at this
      simp only[execOp,ho,hv,Sem.run_bind,this]
      rfl
   ·refine⟨⟨.string ⟨(List.map byteOf bs).toArray⟩,?_,.mkStr _ (by simp)⟩,rfl,rfl,rfl⟩
    have:=run_convert_bytes_back (P:=P) w s t e (at' b k) c (List.map byteOf bs) hus' hue (by rw[(hC.is htt).d,hd]) (fun j hj=>by
      have hj':j<bs.length:=by simpa using hj
      obtain⟨u,h4,h5⟩:=hcell j 0 (by rw[hes];exact hj') (by show 0<1;omega)
      have hb:isByte (bs.getD j 0)=true:=by
        refine(List.all_eq_true.1 h3) _ ?_
        rw[List.getD_eq_getElem?_getD,List.getElem?_eq_getElem hj'];simp
      obtain⟨h7,h8⟩:=isByte_lt hb
      have h6:(⟨byteT,bs⟩:Sl).es.getD j []=[A.int .u8 (bs.getD j 0)]:=by
        rw[<- Sl.at_eq _ hj'];rfl
      rw[h6]at h5
      simp only[List.getD_cons_zero]at h5
      have hu:u= .int .u8 (bs.getD j 0):=by cases h5;rfl
      have h4':w.cell? (at' b (k+(j*1+0)))=some u:=h4
      rw[add_at,show k+j=k+(j*1+0)from by omega,h4',hu]
      have:(List.map byteOf bs)[j]'hj=UInt8.ofNat (bs.getD j 0).toNat:=by
        rw[List.getElem_map,List.getD_eq_getElem?_getD,List.getElem?_eq_getElem hj'];rfl
      rw[this]
      have:((UInt8.ofNat (bs.getD j 0).toNat).toNat:Int)=bs.getD j 0:=by
        rw[UInt8.toNat_ofNat'];omega
      rw[this])
    simp only[List.length_map]at this
    rw[hes]at hv
    simp only[execOp,ho,hv,Sem.run_bind,this]
    rfl
  ·exact(not_AllT_no hok).elim
theorem min_pure {c:Call} {x y:Operand} (ho:o.op= .call c) (hcal:c.callee= .builtin .min) (hargs:c.args= #[x,y]) {x' y':A} (hx:TRel O objs m w (a.eval x) x') (hy:TRel O objs m w (a.eval y) y')
    (hok:AllT (minX x' y').ok):Pure P O objs m a w o (minX x' y'):=by
  unfold minX at hok ⊢
  split at hok
  ·rename_i k p k' q
   cases hk:A.kEq k k' with
   | false=>rw[hk]at hok;exact(not_AllT_no hok).elim
   | true =>
     have:=kEq_eq hk
     subst this
     refine⟨⟨.int k (if q<p then q else p),?_,?_⟩,rfl,rfl,rfl⟩
     ·have h:=run_min_int2 (P:=P) (w:=w) c.argTypes o.type k k p q
      simp [execOp,ho,resolve,hcal,hargs,invoke,builtin,hx.int,hy.int,h]
     ·show TRel O objs m w _ (.int k (bif decide (q<p)then q else p))
      by_cases h:q<p<;>simp only[h,decide_true,decide_false,cond_true,cond_false,if_true,if_false]<;>exact .mkInt _ _
  ·exact(not_AllT_no hok).elim
theorem max_pure {c:Call} {x y:Operand} (ho:o.op= .call c) (hcal:c.callee= .builtin .max) (hargs:c.args= #[x,y]) {x' y':A} (hx:TRel O objs m w (a.eval x) x') (hy:TRel O objs m w (a.eval y) y')
    (hok:AllT (maxX x' y').ok):Pure P O objs m a w o (maxX x' y'):=by
  unfold maxX at hok ⊢
  split at hok
  ·rename_i k p k' q
   cases hk:A.kEq k k' with
   | false=>rw[hk]at hok;exact(not_AllT_no hok).elim
   | true =>
     have:=kEq_eq hk
     subst this
     refine⟨⟨.int k (if q>p then q else p),?_,?_⟩,rfl,rfl,rfl⟩
     ·have h:=run_max_int2 (P:=P) (w:=w) c.argTypes o.type k k p q
      simp [execOp,ho,resolve,hcal,hargs,invoke,builtin,hx.int,hy.int,h]
     ·show TRel O objs m w _ (.int k (bif decide (p<q)then q else p))
      by_cases h:p<q<;>simp only[h,gt_iff_lt,decide_true,decide_false,cond_true,cond_false,if_true,if_false]<;>exact .mkInt _ _
  ·exact(not_AllT_no hok).elim
end
end Go.Proofs.YtbnphelpndnnfaaGreatDoor.Vm
namespace Go.Proofs.YtbnphelpndnnfaaGreatDoor.Vm
section
variable {P:Program} {C:Ctx} {O:Own} {objs:List (Nat×Obj)} {m:Nat->Value} {a:Act} {w:World} {o:Oper} {fet:Fet}
def CsRel (O:Own) (objs:List (Nat×Obj)) (m:Nat->Value) (w:World) (vs:Array Value) (cs:List A):Prop :=
  vs.size=cs.length/\ ∀ j,j<cs.length->CRel O objs m w (vs.getD j undef) (cs.getD j .undef)
theorem CRel.one {v:Value} {x:A} (h:CRel O objs m w v x):v.oneCell'=true:=by
  cases x with
  | undef=>exact h
  | bool _=>cases h;rfl
  | int _ _=>cases h;rfl
  | str _=>cases h;rfl
  | sl _=>cases h<;>rfl
  | sln _=>exact VRel.one h
  | nils=>have h':v=_:=h;subst h';rfl
  | nilp=>cases h;rfl
  | ptr _ _=>exact h.1
  | own _=>exact h.1
  | oelt _ _ _=>exact h.1
  | clo _ _=>exact h.1
  | bsl _ _=>exact h.1
  | osl _ _=>exact h.1
  | elt _=>obtain⟨_,_,h,_⟩:=h;subst h;rfl
  | fn _=>cases h<;>rfl
  | _=>exact h.elim
theorem oneCell_cells {v:Value} (h:v.oneCell'=true):v.cells= #[v]:=by cases v<;>first | rfl | cases h
theorem TRel.cells {v:Value} {x:A} (h:TRel O objs m w v x) (hv:x.isVal=true):CsRel O objs m w v.cells x.cells:=by
  have cell:CRel O objs m w v x->x.cells=[x]->CsRel O objs m w v.cells x.cells:=by
    intro hc he
    rw[he,oneCell_cells hc.one]
    refine⟨rfl,fun j hj=> ?_⟩
    have:j=0:=by simpa using hj
    subst this;exact hc
  cases x with
  | agg cs =>
    obtain⟨vs,h1,h2,h3⟩:=h
    subst h1;exact⟨h2,h3⟩
  | undef=>cases hv
  | tup _=>cases hv
  | usl _ _ _=>cases hv
  | ump _=>cases hv
  | box _=>cases hv
  | cbx _ _=>cases hv
  | cnd _ _=>cases hv
  | _=>exact cell h rfl
theorem getD_foldl_set (l:List Value): ∀(k off:Nat) (cs:Array Value) (i:Nat),off+k+l.length<=cs.size ->
    ((l.zipIdx k).foldl (fun cs (p:Value×Nat)=>cs.setIfInBounds (off+p.2) p.1) cs).size=cs.size /\
    ((l.zipIdx k).foldl (fun cs (p:Value×Nat)=>cs.setIfInBounds (off+p.2) p.1) cs).getD i undef=if off+k<=i/\i<off+k+l.length then l.getD (i - (off+k)) undef else cs.getD i undef:=by
  induction l with
  | nil =>
    intro k off cs i _
    refine⟨rfl,?_⟩
    rw[if_neg (by simp)];rfl
  | cons v l ih =>
    intro k off cs i h
    simp only[List.zipIdx_cons,List.foldl_cons]
    simp only[List.length_cons]at h ⊢
    obtain⟨h1,h2⟩:=ih (k+1) off (cs.setIfInBounds (off+k) v) i (by simp;omega)
    refine⟨by rw[h1];simp,?_⟩
    rw[h2]
    by_cases hi:off+(k+1)<=i/\i<off+(k+1)+l.length
    ·rw[if_pos hi,if_pos (by omega),show i - (off+k)=(i - (off+(k+1)))+1 from by omega];rfl
    ·rw[if_neg hi]
     by_cases hk:i=off+k
     ·subst hk
      rw[if_pos (by omega),Array.getD_eq_getD_getElem?,Array.getElem?_setIfInBounds]
      all_goals grind
     ·rw[if_neg (by omega),Array.getD_eq_getD_getElem?,Array.getElem?_setIfInBounds,if_neg (by omega),<- Array.getD_eq_getD_getElem?]
theorem splice_getD (l:List A) (off:Nat) (vs:List A) (i:Nat) (h:off+vs.length<=l.length):(splice l off vs).getD i .undef=if off<=i/\i<off+vs.length then vs.getD (i - off) .undef else l.getD i .undef:=by
  unfold splice
  all_goals grind[splice]
theorem splice_length (l:List A) (off:Nat) (vs:List A) (h:off+vs.length<=l.length):(splice l off vs).length=l.length:=by
  unfold splice;simp;omega
theorem CsRel.splice {vs us:Array Value} {cs xs:List A} {off:Nat} (h:CsRel O objs m w vs cs) (hu:CsRel O objs m w us xs) (hle:off+xs.length<=cs.length) :
    CsRel O objs m w (us.zipIdx.foldl (fun cs (c,j)=>cs.setIfInBounds (off+j) c) vs) (splice cs off xs):=by
  have e:us.zipIdx.foldl (fun cs (c,j)=>cs.setIfInBounds (off+j) c) vs=(us.toList.zipIdx 0).foldl (fun cs (p:Value×Nat)=>cs.setIfInBounds (off+p.2) p.1) vs:=by
    rw[<- Array.foldl_toList];simp
  rw[e]
  have hl:off+0+us.toList.length<=vs.size:=by rw[Array.length_toList,hu.1,h.1];omega
  refine⟨by rw[(getD_foldl_set us.toList 0 off vs 0 hl).1,h.1,splice_length _ _ _ hle],fun j hj=> ?_⟩
  rw[splice_length _ _ _ hle]at hj
  rw[(getD_foldl_set us.toList 0 off vs j hl).2,splice_getD _ _ _ _ hle]
  rw[Array.length_toList,hu.1]
  by_cases hi:off<=j/\j<off+xs.length
  ·rw[if_pos (by omega),if_pos hi,Nat.add_zero]
   have:=hu.2 (j - off) (by omega)
   have e:us.toList.getD (j - off) undef=us.getD (j - off) undef:=by
     rw[Array.getD_eq_getD_getElem?,List.getD_eq_getElem?_getD,Array.getElem?_toList]
   rw[e];exact this
  ·rw[if_neg (by omega),if_neg hi];exact h.2 j hj
def placeV (P:Program) (d:TypeDesc) (i:Nat):Option (Nat×Nat) :=
  match d with
  | .struct fs=>(fs[i]?).bind fun f=>(P.info? f.type).map fun j=>(f.offset,j.size)
  | .array _ e=>(P.info? e).map fun j=>(i*j.size,j.size)
  | _=>none
theorem fill_rel (hC:TOk P C) {d:TypeDesc} {place:Nat->Option (Nat×Nat)} (hp: ∀ i p,placeV P d i=some p->place i=some p): ∀(xs:List (Nat×A)) (ps:List (Nat×Value)) (vs:Array Value) (cs cs':List A),
    xs.length=ps.length->(∀(j:Nat) (x:Nat×A) (p:Nat×Value),xs[j]? =some x->ps[j]? =some p->p.1=x.1/\TRel O objs m w p.2 x.2)->CsRel O objs m w vs cs->fill C d xs cs=some cs' ->
    ∃ vs',Instr.fill place vs ps=some vs'/\CsRel O objs m w vs' cs':=by
  intro xs
  induction xs with
  | nil =>
    intro ps vs cs cs' hl _ hcs hf
    cases ps with
    | nil=>simp only[fill]at hf;injection hf with hf;subst hf;exact⟨vs,rfl,hcs⟩
    | cons _ _=>simp at hl
  | cons x xs ih =>
    intro ps vs cs cs' hl hr hcs hf
    cases ps with
    | nil=>simp at hl
    | cons p ps =>
      obtain⟨i,x⟩:=x
      obtain⟨i',v⟩:=p
      obtain⟨h1,h2⟩:=hr 0 (i,x) (i',v) rfl rfl
      dsimp only at h1 h2
      subst h1
      simp only[fill]at hf
      cases hpl:placeAt C d i' with
      | none=>rw[hpl]at hf;cases hf
      | some q =>
        obtain⟨off,ti⟩:=q
        rw[hpl]at hf
        dsimp only at hf
        cases hb:(x.isVal&&Nat.beq x.cells.length ti.cs.length&&Nat.ble (off+ti.cs.length) cs.length)with
        | false=>rw[hb]at hf;cases hf
        | true =>
          rw[hb]at hf
          simp only[cond_true]at hf
          simp only[Bool.and_eq_true,nbeq,decide_eq_true_eq]at hb
          obtain⟨⟨hb1,hb2⟩,hb3⟩:=hb
          have hb3:=Nat.le_of_ble_eq_true hb3
          have hv:=h2.cells hb1
          have hpv:placeV P d i'=some (off,ti.cs.length):=by
            unfold placeAt at hpl
            unfold placeV
            split at hpl
            ·rename_i fs
             split at hpl
             ·rename_i f hf'
              split at hpl
              ·rename_i tf htf
               injection hpl with hpl;injection hpl with e1 e2
               subst e1;subst e2
               obtain⟨i0,z,h3,h4,_⟩:=(hC.is htf).i
               have:fs[i']? =some f:=by simpa using hf'
               simp [this,h3,h4]
              ·cases hpl
             ·cases hpl
            ·rename_i n e
             split at hpl
             ·rename_i tf htf
              cases hlt:Nat.blt i' n with
              | false=>rw[hlt]at hpl;cases hpl
              | true =>
                rw[hlt]at hpl
                injection hpl with hpl;injection hpl with e1 e2
                subst e2
                obtain⟨i0,z,h3,h4,_⟩:=(hC.is htf).i
                simp [h3,h4,<- e1]
             ·cases hpl
            ·cases hpl
          have hnext:=hcs.splice (off:=off) hv (by omega)
          obtain⟨vs',h5,h6⟩:=ih ps _ _ _ (by simpa using hl) (fun j x p hx hp=>hr (j+1) x p (by simpa using hx) (by simpa using hp)) hnext hf
          refine⟨vs',?_,h6⟩
          simp only[Instr.fill,hp _ _ hpv]
          have: ¬(v.cells.size≠ti.cs.length||decide (off+v.cells.size>vs.size))=true:=by
            rw[hv.1,hcs.1,hb2];simp;omega
          rw[if_neg (by simpa using this)]
          exact h5
theorem zeroFits_rel: ∀(vs:List Value) (ks:List CK),zeroFits vs ks=true->vs.length=ks.length/\ ∀ j,j<ks.length->CRel O objs m w (vs.getD j undef) ((ks.map CK.zero).getD j .undef):=by
  intro vs
  induction vs with
  | nil=>intro ks h;cases ks with
    | nil=>exact⟨rfl,fun j hj=>by simp at hj⟩
    | cons _ _=>simp [zeroFits]at h
  | cons v vs ih =>
    intro ks h
    cases ks with
    | nil=>cases v<;>simp [zeroFits]at h
    | cons k ks =>
      have step:zeroFits vs ks=true->CRel O objs m w v k.zero->(v::vs).length=(k::ks).length/\ ∀ j,j<(k::ks).length->CRel O objs m w ((v::vs).getD j undef) (((k::ks).map CK.zero).getD j .undef):=by
        intro hz hv
        obtain⟨h1,h2⟩:=ih ks hz
        refine⟨by simp [h1],fun j hj=> ?_⟩
        cases j with
        | zero=>exact hv
        | succ j=>simpa using h2 j (by simpa using hj)
      cases k with
      | bool=>cases v with
        | bool b=>cases b<;>simp [zeroFits]at h;exact step h (.bool _)
        | _=>simp [zeroFits]at h
      | int k'=>cases v with
        | int k'' n =>
          have h':A.kEq k'' k'=true/\n=0/\zeroFits vs ks=true:=by
            clear step ih
            unfold zeroFits at h
            split at h<;>simp_all
          obtain⟨h1,h2,h3⟩:=h'
          have:=kEq_eq h1
          subst this;subst h2
          exact step h3 (.int _ _)
        | _=>simp [zeroFits]at h
      | str=>cases v with
        | string s =>
          simp only[zeroFits,Bool.and_eq_true]at h
          have hs:s.data.toList=[]:=by simpa using h.1
          refine step h.2 ?_
          show VRel O w (.string s) (.str [])
          rw[<- hs];exact .str s
        | _=>simp [zeroFits]at h
      | sl e sz=>cases v with
        | slice ad l c =>
          have h':ad=none/\l=0/\c=0/\zeroFits vs ks=true:=by
            clear step ih
            unfold zeroFits at h
            split at h<;>simp_all
          obtain⟨h1,h2,h3,h4⟩:=h'
          subst h1;subst h2;subst h3
          exact step h4 rfl
        | _=>simp [zeroFits]at h
      | ptr=>cases v with
        | pointer ad=>cases ad<;>simp [zeroFits]at h;exact step h .nilp
        | _=>simp [zeroFits]at h
      | fn=>cases v with
        | nilFunc=>simp [zeroFits]at h;exact step h VRel.nilfn
        | _=>simp [zeroFits]at h
      | sln _ _=>cases v<;>simp [zeroFits]at h
      | mp _ _=>cases v<;>simp [zeroFits]at h
      | bx _=>cases v<;>simp [zeroFits]at h
      | oth =>
        have:v.oneCell'=true/\zeroFits vs ks=true:=by
          cases v<;>simpa [zeroFits]using h
        exact step this.2 this.1
theorem ckOf_info {n t:Nat} {ks:List CK} (h:ckOf P n t=some ks): ∃ i,P.info? t=some i:=by
  cases n with
  | zero=>simp [ckOf]at h
  | succ n =>
    cases hi:P.info? t with
    | some i=>exact⟨i,rfl⟩
    | none =>
      have hu:P.underlying t=none:=by simp [Program.underlying,hi]
      simp [ckOf,hu]at h
theorem ckOf_struct {n t:Nat} {ks:List CK} {fs:Array Field} (h:ckOf P n t=some ks) (hu:P.underlying t=some (.struct fs)): ∀ f∈fs.toList,∃ i,P.info? f.type=some i:=by
  cases n with
  | zero=>simp [ckOf]at h
  | succ n =>
    simp only[ckOf,hu]at h
    revert h
    generalize fs.toList=l
    induction l generalizing ks with
    | nil=>intro _ f hf;cases hf
    | cons g l ih=>grind[ckOf_info]
theorem ckOf_array {n t c e:Nat} {ks:List CK} (h:ckOf P n t=some ks) (hu:P.underlying t=some (.array c e)): ∃ i,P.info? e=some i:=by
  cases n with
  | zero=>simp [ckOf]at h
  | succ n=>grind[ckOf,ckOf_info]
theorem mapM_places {P:Program}: ∀(l:List Field),(∀ f∈l,∃ i,P.info? f.type=some i)->l.mapM (fun f=>(P.info? f.type).map fun i=>(f.offset,i.size))=some (l.map fun f=>(f.offset,P.cellsOf f.type)):=by
  intro l
  induction l with
  | nil=>intro _;rfl
  | cons f l ih =>
    intro h
    obtain⟨i,hi⟩:=h f List.mem_cons_self
    have:=ih (fun g hg=>h g (List.mem_cons_of_mem _ hg))
    simp [List.mapM_cons,hi,this,Program.cellsOf]
theorem zero_rel {t:Nat} {ti:TI} (hT:TyIs P t ti): ∃ i z,P.info? t=some i/\i.zero=some z/\isAggD ti.d=isAggV z/\CsRel O objs m w z.cells (ti.cs.map CK.zero):=by
  obtain⟨i,z,h1,h2,h3,h4,h5,h6⟩:=hT.i
  obtain⟨h7,h8⟩:=zeroFits_rel (O:=O) (objs:=objs) (m:=m) (w:=w) _ _ h5
  all_goals simp_all[isAggD,isAggV,CsRel,CK.zero]
theorem build_pure {t:Nat} {ps:Array (Nat×Operand)} (hC:TOk P C) (ho:o.op= .build t ps) {xs:List (Nat×A)} (hl:xs.length=ps.size) (hx: ∀(j:Nat) (x:Nat×A) (p:Nat×Operand),xs[j]? =some x->ps[j]? =some p->p.1=x.1/\TRel O objs m w (a.eval p.2) x.2)
    (hok:AllT (buildX C t xs).ok):Pure P O objs m a w o (buildX C t xs):=by
  unfold buildX at hok ⊢
  obtain⟨ti,ht,he⟩:=tiOf_ok hok
  rw[he]at hok ⊢;clear he
  obtain⟨cs,hcs,he⟩:=optX_ok hok
  rw[he]at hok ⊢;clear he
  have hT:=hC.is ht
  obtain⟨i,z,h1,h2,_,h3⟩:=zero_rel (O:=O) (objs:=objs) (m:=m) (w:=w) hT
  have key: ∃ place:Nat->Option (Nat×Nat),(∀ i p,placeV P ti.d i=some p->place i=some p)/\ ∀ vs,Instr.fill place z.cells (ps.map (fun(i,x)=>(i,a.eval x))).toList=some vs->P.built t (ps.map (fun(i,x)=>(i,a.eval x))).toList=some vs:=by
    have hu:=hT.d
    cases hd:ti.d with
    | struct fs =>
      rw[hd]at hu
      have hinf:=ckOf_struct hT.ck hu
      refine⟨fun i=>(fs.toList.map fun f=>(f.offset,P.cellsOf f.type)).toArray[i]?,fun i p hp=> ?_,fun vs hvs=> ?_⟩
      ·simp only[placeV]at hp
       cases hf:fs[i]? with
       | none=>rw[hf]at hp;cases hp
       | some f =>
         rw[hf]at hp
         simp only[Option.bind_some]at hp
         cases hi:P.info? f.type with
         | none=>rw[hi]at hp;cases hp
         | some j =>
           rw[hi]at hp
           simp at hp
           subst hp
           simp [hf,Program.cellsOf,hi]
      ·unfold Program.built
       simp only[h1,hu,h2,mapM_places _ hinf]
       exact hvs
    | array n e =>
      rw[hd]at hu
      obtain⟨ie,hie⟩:=ckOf_array hT.ck hu
      refine⟨fun i=>some (i*ie.size,ie.size),fun i p hp=> ?_,fun vs hvs=> ?_⟩
      ·grind[placeV]
      ·unfold Program.built
       simp only[h1,hu,h2,hie]
       exact hvs
    | _ =>
      have:=hok.cons.1
      rw[agg_isAggD,hd]at this
      cases this
  obtain⟨place,hp,hb⟩:=key
  obtain⟨vs,h4,h5⟩:=fill_rel (O:=O) (objs:=objs) (m:=m) (w:=w) hC hp xs (ps.map (fun(i,x)=>(i,a.eval x))).toList z.cells _ cs (by simp [hl]) (fun j x p hxj hpj=>by
    simp only[Array.toList_map,List.getElem?_map]at hpj
    cases hq:ps.toList[j]? with
    | none=>rw[hq]at hpj;cases hpj
    | some q =>
      rw[hq]at hpj
      injection hpj with hpj
      subst hpj
      exact hx j x q hxj (by simpa using hq)) h3 hcs
  have:=run_build (P:=P) w t _ _ (hb vs h4)
  refine⟨⟨.agg vs,?_,?_⟩,rfl,rfl,rfl⟩
  ·simp only[execOp,ho,Sem.run_bind,this,Result.andThen_ok,Sem.run_pure]
  ·exact⟨vs,rfl,h5.1,h5.2⟩
end
end Go.Proofs.YtbnphelpndnnfaaGreatDoor.Vm
namespace Go.Proofs.YtbnphelpndnnfaaGreatDoor.Vm
structure Sim (V0:Nat->Value) (O0:Own) (w0:World) (O:Own) (m:Nat->Value) (st:St) (a:Act) (w:World):Prop where
  defers:a.defers=[]
  size:a.tmps.size=st.tmps.length
  tmps: ∀ t,t<st.tmps.length->TRel O st.objs m w (a.tmps.getD t undef) (st.tmps.getD t .undef)
  objs: ∀ o x,aget st.objs o=some x->ORel O st.objs m w o x
  frame:Moves O0 (fun o=>o≠255) w0 w
  own: ∀ b k o,b<w0.heap.size->O b k=some o->o≠255-> ∃ o0,O0 b k=some o0/\o0≠255
  ids: ∀ o x,aget st.objs o=some x->o≠255
  less: ∀ b k,b<w0.heap.size->O b k≠none->O0 b k≠none
  root: ∀ o,rootId o=true->(aget st.objs o).isSome->m o=V0 o
  junk: ∀ b k,b<w0.heap.size->O0 b k=some 255->O b k=some 255
  inv:Inv O0 w0
theorem Sim.invNow {V0:Nat->Value} {O0 O:Own} {w0 w:World} {m:Nat->Value} {st:St} {a:Act} (hS:Sim V0 O0 w0 O m st a w):Inv O w:=by
  refine⟨fun g j p ht=> ?_,fun g n ht=> ?_⟩
  ·obtain⟨h1,v,h2,h3⟩:=hS.inv.1 g j p ht
   have hb:=cell_lt h2
   refine⟨?_,v,?_,h3⟩
   ·cases h:O g j with
    | none=>rfl
    | some o=>exact absurd h1 (hS.less g j hb (by rw[h];simp))
   ·rw[hS.frame.cell hb (fun o ho=>by rw[h1]at ho;cases ho)];exact h2
  ·obtain⟨c,e,fr,h1,h2⟩:=hS.inv.2 g n ht
   have hg:g<w0.heap.size:=(Array.getElem?_eq_some_iff.1 h1).1
   rcases hS.frame.blk g hg with he | ⟨d,d',e',fr',k1,k2,k3,_⟩ | ⟨es,ck,es',ck',o,k1,_⟩
   all_goals simp_all[Own,Inv]
theorem Moves.trans0 {O0 O:Own} {T:Nat->Prop} {w0 w w':World} (h:Moves O0 (fun o=>o≠255) w0 w) (h':Moves O T w w') (hO: ∀ b k o,b<w0.heap.size->O b k=some o->o≠255-> ∃ o0,O0 b k=some o0/\o0≠255) (hT: ¬ T 255) :
    Moves O0 (fun o=>o≠255) w0 w':=by
  refine⟨h'.os.trans h.os,h'.tape.trans h.tape,h'.output.trans h.output,Nat.le_trans h.size h'.size,fun b hb=> ?_⟩
  have hb':b<w.heap.size:=Nat.lt_of_lt_of_le hb h.size
  have up: ∀ k o,O b k=some o->T o-> ∃ o',O0 b k=some o'/\o'≠255:=fun k o ho ht=>hO b k o hb ho (fun e=>hT (by rw[<- e];exact ht))
  rcases h'.blk b hb' with he' | ⟨c,c',e,fr,h1,h2,h3,h4,k,o,h5,h6,h7⟩ | ⟨es,ck,es',ck',o,h1,h2,h3,h4⟩
  ·rcases h.blk b hb with he | ⟨d,d',e,fr,h1,h2,h3,h4,h5⟩ | ⟨es,ck,es',ck',o,h1,h2,h3,h4⟩
   ·exact .inl (he'.trans he)
   ·exact .inr (.inl ⟨d,d',e,fr,h1,he'.trans h2,h3,h4,h5⟩)
   ·simp_all[Own]
  ·obtain⟨o',ho',hne'⟩:=up k o h6 h7
   rcases h.blk b hb with he | ⟨d,d',e',fr',g1,g2,g3,g4,g5⟩ | ⟨es,ck,es',ck',o1,g1,g2,g3,g4⟩
   ·refine .inr (.inl ⟨c,c',e,fr,he▸h1,h2,h3,fun i hi=>h4 i (fun o'' ho'' ht=> ?_),k,o',h5,ho',hne'⟩)
    obtain⟨o3,ho3,hn3⟩:=up i o'' ho'' ht
    exact hi o3 ho3 hn3
   ·rw[g2]at h1
    injection h1 with h1;injection h1 with q1 q2 q3
    subst q1;subst q2;subst q3
    refine .inr (.inl ⟨d,c',e',fr',g1,h2,h3.trans g3,fun i hi=> ?_,k,o',by omega,ho',hne'⟩)
    rw[h4 i (fun o'' ho'' ht=> ?_),g4 i hi]
    obtain⟨o3,ho3,hn3⟩:=up i o'' ho'' ht
    exact hi o3 ho3 hn3
   ·simp_all[Own]
  ·obtain⟨o',ho',hne'⟩:=up 0 o h3 h4
   rcases h.blk b hb with he | ⟨d,d',e',fr',g1,g2,g3,g4,g5⟩ | ⟨es1,ck1,es1',ck1',o1,g1,g2,g3,g4⟩
   ·exact .inr (.inr ⟨es,ck,es',ck',o',he▸h1,h2,ho',hne'⟩)
   all_goals simp_all[Own]
theorem put_getD (tmps:List A) (d:Option Tmp) (v:A) (t:Nat) (h:t<tmps.length):(put tmps d v).getD t .undef=if d=some t then v else tmps.getD t .undef:=by
  cases d with
  | none=>simp [put]
  | some d =>
    simp only[put,List.getD_eq_getElem?_getD,List.getElem?_set]
    by_cases hd:d=t
    ·subst hd;simp [h]
    ·simp [hd]
theorem put_length (tmps:List A) (d:Option Tmp) (v:A):(put tmps d v).length=tmps.length:=by cases d<;>simp [put]
theorem actPut_getD (a:Act) (d:Option Tmp) (v:Value) (t:Nat) (h:t<a.tmps.size):(a.put d v).tmps.getD t undef=if d=some t then v else a.tmps.getD t undef:=by
  cases d with
  | none=>simp [Act.put]
  | some d =>
    simp only[Act.put,Array.getD_eq_getD_getElem?,Array.getElem?_setIfInBounds]
    by_cases hd:d=t
    ·subst hd;simp [h]
    ·simp [hd]
theorem actPut_size (a:Act) (d:Option Tmp) (v:Value):(a.put d v).tmps.size=a.tmps.size:=by cases d<;>simp [Act.put]
theorem actPut_defers (a:Act) (d:Option Tmp) (v:Value):(a.put d v).defers=a.defers:=by cases d<;>rfl
theorem mem_ids_tmps {st:St} {t n:Nat} (ht:t<st.tmps.length) (h:n∈(st.tmps.getD t .undef).ids):n∈st.ids:=List.mem_append_left _ (mem_flat ht h)
theorem aget_mem {l:List (Nat×Obj)} {o:Nat} {x:Obj} (h:aget l o=some x):(o,x)∈l:=by
  induction l with
  | nil=>cases h
  | cons p r ih=>grind[aget_cons]
theorem mem_ids_objs {st:St} {o n:Nat} {x:Obj} (ho:aget st.objs o=some x) (h:n∈x.ids):n∈st.ids :=
  List.mem_append_right _ (List.mem_flatMap.2 ⟨(o,x),aget_mem ho,h⟩)
structure Fresh (st:St) (n:Nat):Prop where
  ids:n∉st.ids
  objs:aget st.objs n=none
  ne:n≠255
  root:rootId n=false
theorem Fresh.both {st:St} {n:Nat} (h:Fresh st n):n∉st.ids/\rootId n=false:=⟨h.ids,h.root⟩
theorem fresh_not {st:St} {n:Nat} (h:st.fresh n=true):Fresh st n:=by
  unfold St.fresh at h
  simp only[Bool.and_eq_true,Bool.not_eq_true',Option.isNone_iff_eq_none]at h
  refine⟨fun hm=> ?_,h.1.1.2,fun e=> ?_,h.2⟩
  ·have:has st.ids n=true:=List.any_eq_true.2 ⟨n,hm,by simp⟩
   rw[this]at h;cases h.1.1.1
  ·simp_all
theorem Sim.next {V0:Nat->Value} {O0 O O':Own} {w0 w w':World} {m m':Nat->Value} {st st':St} {a:Act} {T Nw:Nat->Prop} {d:Option Tmp} {v:Value} {x:A}
    (hS:Sim V0 O0 w0 O m st a w) (hM:Moves O T w w') (hP:Passes O O' T w.heap.size) (hO: ∀ b k,b<w.heap.size->O' b k≠none->O b k≠none)
    (hE:Exts st.objs m st'.objs m' Nw) (hN: ∀ n,Nw n->n∉st.ids/\rootId n=false)
    (hT: ∀ o,T o->(aget st.objs o).isSome)
    (hobj: ∀ o y,aget st'.objs o=some y->(¬ T o/\aget st.objs o=some y/\m' o=m o)\/(ORel O' st'.objs m' w' o y/\o≠255))
    (ht:st'.tmps=put st.tmps d x) (hx:d≠none->TRel O' st'.objs m' w' v x):Sim V0 O0 w0 O' m' st' (a.put d v) w':=by
  have hpr:=hM.pres hP
  have hT255: ¬ T 255:=fun h=>by
    obtain⟨x,hx⟩:=Option.isSome_iff_exists.1 (hT 255 h)
    exact hS.ids 255 x hx rfl
  refine⟨by rw[actPut_defers];exact hS.defers,by rw[actPut_size,ht,put_length];exact hS.size,fun t htl=> ?_,fun o y ho=> ?_,hS.frame.trans0 hM hS.own hT255,fun b k q hb h hne=> ?_,fun o y ho=> ?_,fun b k hb h=>hS.less b k hb (hO b k (Nat.lt_of_lt_of_le hb hS.frame.size) h),fun o hr ho=> ?_,fun b k hb h=>hP.keep b k 255 (Nat.lt_of_lt_of_le hb hS.frame.size) (hS.junk b k hb h) hT255,hS.inv⟩
  ·rw[ht,put_length]at htl
   rw[ht,put_getD _ _ _ _ htl,actPut_getD _ _ _ _ (by rw[hS.size];exact htl)]
   by_cases hd:d=some t
   ·rw[if_pos hd,if_pos hd];exact hx (by rw[hd];simp)
   ·rw[if_neg hd,if_neg hd]
    exact(hS.tmps t htl).step hpr hE (fun i hi hn=>(hN i hn).1 (mem_ids_tmps htl hi))
  ·rcases hobj o y ho with ⟨h1,h2,h3⟩ | h
   ·exact(hS.objs o y h2).step hM hP hE h1 h3 (fun i hi hn=>(hN i hn).1 (mem_ids_objs h2 hi))
   ·exact h.1
  ·have hb':=Nat.lt_of_lt_of_le hb hS.frame.size
   cases hq:O b k with
   | none=>exact absurd hq (hO b k hb' (by rw[h];simp))
   | some r =>
     by_cases hr:r=255
     ·subst hr
      have:=hP.keep b k 255 hb' hq hT255
      rw[h]at this;injection this with this;exact absurd this hne
     ·exact hS.own b k r hb hq hr
  ·rcases hobj o y ho with ⟨_,h2,_⟩ | h
   ·exact hS.ids o y h2
   ·exact h.2
  ·obtain⟨y,hy⟩:=Option.isSome_iff_exists.1 ho
   rcases hE o y hy with h | ⟨x,h1,_,h3⟩
   ·rw[(hN o h).2]at hr;cases hr
   ·rw[h3];exact hS.root o hr (by rw[h1];rfl)
theorem Sim.put {V0:Nat->Value} {O0 O:Own} {w0 w:World} {m:Nat->Value} {st:St} {a:Act} (hS:Sim V0 O0 w0 O m st a w) (d:Option Tmp) {v:Value} {x:A} (hx:TRel O st.objs m w v x) :
    Sim V0 O0 w0 O m {st with tmps:=Vm.put st.tmps d x} (a.put d v) w :=
  hS.next (st':= {st with tmps:=Vm.put st.tmps d x}) (T:=fun _=>False) (Nw:=fun _=>False) (Moves.refl O _ w) ⟨fun _ _ _ h=>h,fun _ _ _ _ h _=>h⟩ (fun _ _ _ h=>h) (fun _ y ho=>.inr ⟨y,ho,rfl,rfl⟩) (fun _ h=>h.elim) (fun _ h=>h.elim)
    (fun _ _ ho=>.inl ⟨id,ho,rfl⟩) rfl (fun _=>hx)
def Good (P:Program) (V0:Nat->Value) (O0:Own) (w0:World) (st':St) (o:Oper) (a:Act) (w:World):Prop :=
  ∀(next:Act->World->Prop) (Q:Exit->Act->World->Prop),(∀ O' m' a' w',Sim V0 O0 w0 O' m' st' a' w'->next a' w')->o.wp P a w next Q
theorem Pure.good {P:Program} {V0:Nat->Value} {O0 O:Own} {w0 w:World} {m:Nat->Value} {st:St} {a:Act} {o:Oper} {δ :Dl} (hS:Sim V0 O0 w0 O m st a w) (h:Pure P O st.objs m a w o δ):Good P V0 O0 w0 (apply st o δ) o a w:=by
  intro next Q hn
  obtain⟨v,hr,hx⟩:=h.run
  unfold Oper.wp
  rw[hr,Oper.upon_value]
  refine hn O m _ _ ?_
  have:apply st o δ = {st with tmps:=put st.tmps o.dst δ.val}:=by
    unfold apply;rw[h.new,h.upd,h.del];rfl
  rw[this]
  exact hS.put o.dst hx
theorem eval_rel {V0:Nat->Value} {O0 O:Own} {w0 w:World} {m:Nat->Value} {st:St} {a:Act} (hS:Sim V0 O0 w0 O m st a w) (x:Operand):TRel O st.objs m w (a.eval x) (evalA st.tmps x):=by
  have cell: ∀ v:Value,TRel O st.objs m w v (cellConst v)/\(v.oneCell'=true->CRel O st.objs m w v (cellConst v)):=by
    intro v
    unfold cellConst
    split
    ·exact⟨.mkBool _,fun _=>VRel.bool _⟩
    ·exact⟨.mkInt _ _,fun _=>VRel.int _ _⟩
    ·exact⟨.mkStr _ rfl,fun _=>VRel.str _⟩
    ·exact⟨rfl,fun _=>rfl⟩
    ·exact⟨VRel.nilp,fun _=>VRel.nilp⟩
    ·exact⟨VRel.nilfn,fun _=>VRel.nilfn⟩
    ·exact⟨trivial,fun h=>h⟩
  cases x with
  | tmp t =>
    by_cases ht:t<st.tmps.length
    ·exact hS.tmps t ht
    ·have:evalA st.tmps (.tmp t)= .undef:=by
       simp [evalA,List.getD_eq_getElem?_getD,List.getElem?_eq_none (Nat.le_of_not_lt ht)]
     rw[this];trivial
  | const v =>
    show TRel O st.objs m w v (ofConst v)
    unfold ofConst
    split
    ·rename_i vs
     cases hall:vs.toList.all Value.oneCell' with
     | false=>trivial
     | true =>
       rw[List.all_eq_true]at hall
       refine⟨vs,rfl,by simp,fun j hj=> ?_⟩
       have hj':j<vs.size:=by simpa using hj
       have e1:vs.getD j undef=vs[j]:=by rw[Array.getD_eq_getD_getElem?,Array.getElem?_eq_getElem hj'];rfl
       have e2:(vs.toList.map cellConst).getD j .undef=cellConst vs[j]:=by
         simp [List.getD_eq_getElem?_getD,hj']
       rw[e1,e2]
       exact(cell _).2 (hall _ (by simp))
    ·exact(cell v).1
  | global g =>
    show TRel O st.objs m w (.pointer (some ⟨g,0,none⟩)) (tabA (tabI g))
    cases hg:tabI g with
    | none=>trivial
    | some q =>
      obtain⟨k,ns⟩:=q
      refine⟨g,0,rfl,fun j hj=> ?_⟩
      have hj:j<ns.length:=by simpa using hj
      obtain⟨h1,v,h2,h3⟩:=hS.invNow.1 g j _ (by rw[tabP_eq hg];exact if_pos hj)
      rw[Nat.zero_add]
      refine⟨h1,v,h2,?_⟩
      have e:(ns.map (A.int k)).getD j .undef= .int k (ns.getD j 0):=by simp [List.getD_eq_getElem?_getD,hj]
      rw[e,h3]
      exact .int _ _
  | func f=>exact VRel.fn f
theorem Moves.push {O:Own} {T:Nat->Prop} {w:World} (x:Go.Obj):Moves O T w (w.alloc x) :=
  ⟨rfl,rfl,rfl,by show _<=(w.heap.push x).size;simp,fun b hb=>.inl (heap_alloc_old w x hb)⟩
theorem heap_new (w:World) (x:Go.Obj):(w.alloc x).heap[w.heap.size]? =some x:=by show(w.heap.push x)[_]? =_;simp
theorem Moves.drew (O:Own) (T:Nat->Prop) (w:World):Moves O T w w.drew:=⟨rfl,rfl,rfl,Nat.le_refl _,fun _ _=>.inl rfl⟩
theorem Moves.then {O:Own} {T:Nat->Prop} {w w' w'':World} (h:Moves O T w w') (h':Moves O T w' w''):Moves O T w w'':=by
  refine⟨h'.os.trans h.os,h'.tape.trans h.tape,h'.output.trans h.output,Nat.le_trans h.size h'.size,fun b hb=> ?_⟩
  have hb':b<w'.heap.size:=Nat.lt_of_lt_of_le hb h.size
  rcases h'.blk b hb' with he' | ⟨c,c',e,fr,h1,h2,h3,h4,h5⟩ | ⟨es,ck,es',ck',o,h1,h2,h3,h4⟩
  ·rcases h.blk b hb with he | ⟨d,d',e,fr,h1,h2,h3,h4,h5⟩ | ⟨es,ck,es',ck',o,h1,h2,h3,h4⟩
   ·exact .inl (he'.trans he)
   ·exact .inr (.inl ⟨d,d',e,fr,h1,he'.trans h2,h3,h4,h5⟩)
   ·simp_all[Own]
  ·rcases h.blk b hb with he | ⟨d,d',e',fr',g1,g2,g3,g4,g5⟩ | ⟨es,ck,es',ck',o,g1,g2,g3,g4⟩
   ·exact .inr (.inl ⟨c,c',e,fr,he▸h1,h2,h3,h4,h5⟩)
   ·rw[g2]at h1
    injection h1 with h1;injection h1 with q1 q2 q3
    subst q1;subst q2;subst q3
    exact .inr (.inl ⟨d,c',e',fr',g1,h2,h3.trans g3,fun i hi=>by rw[h4 i hi,g4 i hi],g5⟩)
   ·simp_all[Own]
  ·rcases h.blk b hb with he | ⟨d,d',e',fr',g1,g2,g3,g4,g5⟩ | ⟨es1,ck1,es1',ck1',o1,g1,g2,g3,g4⟩
   ·exact .inr (.inr ⟨es,ck,es',ck',o,he▸h1,h2,h3,h4⟩)
   all_goals simp_all[Own]
theorem Moves.row {O:Own} {T:Nat->Prop} {w w':World} {g:Nat} {c c':Array Value} {e:TypeId} {fr:Nat×Nat} (hos:w'.os=w.os) (ht:w'.tape=w.tape) (hout:w'.output=w.output) (hs:w'.heap.size=w.heap.size)
    (hg:w.heap[g]? =some (.cells c e fr)) (hg':w'.heap[g]? =some (.cells c' e fr)) (hoth: ∀ b,b≠g->w'.heap[b]? =w.heap[b]?) (hsz:c'.size=c.size) (hk: ∀ k,(∀ o,O g k=some o-> ¬ T o)->c'[k]? =c[k]?)
    (hex:(∃ k o,k<c.size/\O g k=some o/\T o)\/c'=c):Moves O T w w':=by
  refine⟨hos,ht,hout,by omega,fun b _=> ?_⟩
  by_cases hb:b=g
  ·subst hb
   rcases hex with hex | hex
   ·exact .inr (.inl ⟨c,c',e,fr,hg,hg',hsz,hk,hex⟩)
   ·subst hex;exact .inl (hg'.trans hg.symm)
  ·exact .inl (hoth b hb)
theorem Moves.map {O:Own} {T:Nat->Prop} {w w':World} {r:Nat} {es es':Array MapEntry} {ck ck':Nat} (hos:w'.os=w.os) (ht:w'.tape=w.tape) (hout:w'.output=w.output) (hs:w'.heap.size=w.heap.size)
    (hg:w.heap[r]? =some (.map es ck)) (hg':w'.heap[r]? =some (.map es' ck')) (hoth: ∀ b,b≠r->w'.heap[b]? =w.heap[b]?) {o:Nat} (ho:O r 0=some o) (hT:T o):Moves O T w w':=by
  refine⟨hos,ht,hout,by omega,fun b _=> ?_⟩
  by_cases hb:b=r
  ·simp_all[Own,hs]
  ·exact .inl (hoth b hb)
theorem setCell_heap (w:World) (b k:Nat) (v:Value) {c:Array Value} {e:TypeId} {fr:Nat×Nat} (hg:w.heap[b]? =some (.cells c e fr)) :
    (w.setCell (at' b k) v).heap[b]? =some (.cells (c.setIfInBounds k v) e fr)/\(∀ b',b'≠b->(w.setCell (at' b k) v).heap[b']? =w.heap[b']?)/\(w.setCell (at' b k) v).heap.size=w.heap.size:=by
  refine⟨?_,fun b' hb=> ?_,by simp [World.setCell]⟩
  ·simp [World.setCell,Array.getElem?_modify,hg]
  ·simp only[World.setCell,Array.getElem?_modify]
   rw[if_neg (fun h=>hb h.symm)]
theorem setCells_heap (b:Nat): ∀(vs:List Value) (k:Nat) (w:World) {c:Array Value} {e:TypeId} {fr:Nat×Nat},w.heap[b]? =some (.cells c e fr)->k+vs.length<=c.size ->
    ∃ c',(w.setCells b k vs).heap[b]? =some (.cells c' e fr)/\c'.size=c.size/\(∀ i,c'.getD i undef=if k<=i/\i<k+vs.length then vs.getD (i - k) undef else c.getD i undef) /\
      (∀ b',b'≠b->(w.setCells b k vs).heap[b']? =w.heap[b']?)/\(w.setCells b k vs).heap.size=w.heap.size/\(w.setCells b k vs).os=w.os/\(w.setCells b k vs).tape=w.tape/\(w.setCells b k vs).output=w.output:=by
  intro vs
  induction vs with
  | nil=>intro k w c e fr hg _;exact⟨c,hg,rfl,fun i=>by rw[if_neg (by simp)],fun _ _=>rfl,rfl,rfl,rfl,rfl⟩
  | cons v vs ih =>
    intro k w c e fr hg hle
    simp only[List.length_cons]at hle
    obtain⟨h1,h2,h3⟩:=setCell_heap w b k v hg
    obtain⟨c',h4,h5,h6,h7,h8,h9,h10,h11⟩:=ih (k+1) (w.setCell (at' b k) v) h1 (by simp;omega)
    refine⟨c',h4,by rw[h5];simp,fun i=> ?_,fun b' hb=>(h7 b' hb).trans (h2 b' hb),h8.trans h3,h9,h10,h11⟩
    rw[h6 i]
    simp only[List.length_cons]
    by_cases hi:k+1<=i/\i<k+1+vs.length
    ·rw[if_pos hi,if_pos (by omega),show i - k=(i - (k+1))+1 from by omega];rfl
    ·rw[if_neg hi]
     by_cases hk:i=k
     ·subst hk
      rw[if_pos (by omega),Array.getD_eq_getD_getElem?,Array.getElem?_setIfInBounds,if_pos rfl,if_pos (by omega)]
      simp
     ·rw[if_neg (by omega),Array.getD_eq_getD_getElem?,Array.getElem?_setIfInBounds,if_neg (by omega),<- Array.getD_eq_getD_getElem?]
theorem adopt_spec: ∀(ks:List CK) (cs:List A) (id:Nat),(adopt id ks cs).1.length=cs.length /\
    (∀ j,j<cs.length->(adopt id ks cs).1.getD j .undef=cs.getD j .undef\/(cs.getD j .undef= .nils/\(adopt id ks cs).1.getD j .undef= .own (id+j)/\ ∃ e sz,(id+j,Obj.arr e false ⟨sz,[]⟩)∈(adopt id ks cs).2)) /\
    (∀ p∈(adopt id ks cs).2,(∃ e sz,p.2= .arr e false ⟨sz,[]⟩)/\ ∃ j,j<cs.length/\p.1=id+j):=by
  intro ks
  induction ks with
  | nil=>grind[adopt]
  | cons k ks ih =>
    intro cs id
    cases cs with
    | nil=>grind[adopt]
    | cons c cs =>
      obtain⟨h1,h2,h3⟩:=ih cs (id+1)
      have other:adopt id (k::ks) (c::cs)=(c::(adopt (id+1) ks cs).1,(adopt (id+1) ks cs).2) ->
          (adopt id (k::ks) (c::cs)).1.length=(c::cs).length /\
          (∀ j,j<(c::cs).length->(adopt id (k::ks) (c::cs)).1.getD j .undef=(c::cs).getD j .undef\/((c::cs).getD j .undef= .nils/\(adopt id (k::ks) (c::cs)).1.getD j .undef= .own (id+j)/\ ∃ e sz,(id+j,Obj.arr e false ⟨sz,[]⟩)∈(adopt id (k::ks) (c::cs)).2)) /\
          (∀ p∈(adopt id (k::ks) (c::cs)).2,(∃ e sz,p.2= .arr e false ⟨sz,[]⟩)/\ ∃ j,j<(c::cs).length/\p.1=id+j):=by
        intro he
        rw[he]
        refine⟨by simp [h1],fun j hj=> ?_,fun p hp=> ?_⟩
        ·cases j with
         | zero=>exact .inl rfl
         | succ j=>grind[CK,adopt]
        ·obtain⟨ha,j,hj,hb⟩:=h3 p hp
         exact⟨ha,j+1,by simpa using hj,by omega⟩
      by_cases hc:c= .nils/\ ∃ e sz,k= .sl e sz
      ·obtain⟨hc,e,sz,hk⟩:=hc
       subst hc;subst hk
       have he:adopt id (.sl e sz::ks) (.nils::cs)=(.own id::(adopt (id+1) ks cs).1,(id,.arr e false ⟨sz,[]⟩)::(adopt (id+1) ks cs).2):=rfl
       rw[he]
       refine⟨by simp [h1],fun j hj=> ?_,fun p hp=> ?_⟩
       ·cases j with
        | zero=>grind[CK,adopt]
        | succ j=>grind[CK,adopt]
       ·rcases List.mem_cons.1 hp with rfl | hp
        ·grind[CK,adopt]
        ·obtain⟨ha,j,hj,hb⟩:=h3 p hp
         exact⟨ha,j+1,by simpa using hj,by omega⟩
      ·refine other ?_
       cases k<;>cases c<;>first | rfl | exact absurd ⟨rfl,_,_,rfl⟩ hc
theorem has_mem {l:List Nat} {n:Nat}:has l n=true↔n∈l:=by simp_all[has]
theorem nodup_uniq: ∀ {l:List (Nat×Obj)},nodup (l.map (·.1))=true-> ∀ {n x y},(n,x)∈l->(n,y)∈l->x=y:=by
  intro l
  induction l with
  | nil=>intro _ n x y h;cases h
  | cons p l ih =>
    intro h n x y hx hy
    simp only[List.map_cons,nodup,Bool.and_eq_true,Bool.not_eq_true']at h
    have hno: ∀ z,(p.1,z)∉l:=by
      intro z hz
      have:has (l.map (·.1)) p.1=true:=has_mem.2 (List.mem_map.2 ⟨_,hz,rfl⟩)
      rw[this]at h;cases h.1
    all_goals grind[Obj,nodup]
theorem aget_apply {objs:List (Nat×Obj)} {upd new:List (Nat×Obj)} {del:List Nat} {o:Nat} {x:Obj} (h:aget (setAll (delAll (setAll objs upd) del) new) o=some x) :
    (o,x)∈new\/((∀ y,(o,y)∉new)/\o∉del/\((o,x)∈upd\/((∀ y,(o,y)∉upd)/\aget objs o=some x))):=by
  by_cases hn: ∃ p∈new,p.1=o
  ·obtain⟨y,hy,he⟩:=aget_setAll_mem new (delAll (setAll objs upd) del) o hn
   rw[he]at h;injection h with h;subst h;exact .inl hy
  ·have hn': ∀ y,(o,y)∉new:=fun y hy=>hn ⟨_,hy,rfl⟩
   rw[aget_setAll_not _ _ _ (fun p hp e=>hn ⟨p,hp,e⟩),aget_delAll]at h
   by_cases hd:o∈del
   ·rw[if_pos hd]at h;cases h
   ·rw[if_neg hd]at h
    refine .inr ⟨hn',hd,?_⟩
    by_cases hu: ∃ p∈upd,p.1=o
    ·obtain⟨y,hy,he⟩:=aget_setAll_mem upd objs o hu
     rw[he]at h;injection h with h;subst h;exact .inl hy
    ·grind[aget_setAll_not]
theorem aget_new {objs:List (Nat×Obj)} {upd new:List (Nat×Obj)} {del:List Nat} (hnd:nodup (new.map (·.1))=true) {o:Nat} {x:Obj} (h:(o,x)∈new):aget (setAll (delAll (setAll objs upd) del) new) o=some x:=by
  obtain⟨y,hy,he⟩:=aget_setAll_mem new (delAll (setAll objs upd) del) o ⟨_,h,rfl⟩
  rw[he,nodup_uniq hnd h hy]
section
variable {P:Program} {C:Ctx} {V0:Nat->Value} {O0 O:Own} {w0 w:World} {m:Nat->Value} {st:St} {a:Act} {o:Oper}
theorem CRel.nils {objs:List (Nat×Obj)} {v:Value} (h:CRel O objs m w v .nils):v= .slice none 0 0:=h
theorem CsRel.adopted {O':Own} {w':World} {objs':List (Nat×Obj)} {m':Nat->Value} {vs:Array Value} {cs:List A} {ks:List CK} {id:Nat} {Nw:Nat->Prop} (h:CsRel O st.objs m w vs cs) (hp:Pres O w O' w') (hE:Exts st.objs m objs' m' Nw)
    (hN: ∀ j,j<cs.length-> ∀ i∈(cs.getD j .undef).ids1,¬ Nw i) (hnew: ∀ p∈(adopt id ks cs).2,aget objs' p.1=some p.2/\m' p.1= .slice none 0 0):CsRel O' objs' m' w' vs (adopt id ks cs).1:=by
  obtain⟨h1,h2,_⟩:=adopt_spec ks cs id
  refine⟨by rw[h1];exact h.1,fun j hj=> ?_⟩
  rw[h1]at hj
  rcases h2 j hj with he | ⟨hn,he,e,sz,hm⟩
  ·rw[he];exact(h.2 j hj).step hp hE (hN j hj)
  ·have:=h.2 j hj
   rw[hn]at this
   have hv:=this.nils
   rw[he,hv]
   obtain⟨g1,g2⟩:=hnew _ hm
   dsimp only at g1 g2
   refine⟨rfl,?_⟩
   rw[g1];exact g2.symm
theorem cells_ids {x:A} (hv:x.isVal=true) {j:Nat} (hj:j<x.cells.length) {i:Nat} (hi:i∈(x.cells.getD j .undef).ids1):i∈x.ids:=by
  cases x with
  | agg cs=>exact mem_flat (f:=A.ids1) hj hi
  | undef=>cases hv
  | tup _=>cases hv
  | usl _ _ _=>cases hv
  | ump _=>cases hv
  | box _=>cases hv
  | cbx _ _=>cases hv
  | cnd _ _=>cases hv
  | _ =>
    have:j=0:=by simpa [A.cells]using hj
    subst this
    exact hi
theorem box_good' {vs:Array Value} {cs:List A} {ks:List CK} {t:Nat} {r:Value} {y:A} {okl:List Bool} (hS:Sim V0 O0 w0 O m st a w) (hcs:CsRel O st.objs m w vs cs) (hids: ∀ j,j<cs.length-> ∀ i∈(cs.getD j .undef).ids1,i∈st.ids\/(aget st.objs i).isSome) {d:Nat} (hd:o.dst=some d)
    (hr:(execOp a.eval o).run P w= .ok (.value r) (w.alloc (.cells vs t)))
    (hy: ∀(O':Own) (objs':List (Nat×Obj)) (m':Nat->Value) (w':World) (c:List A),aget objs' (b2 d)=some (.box c)->m' (b2 d)= .pointer (some (at' w.heap.size 0))->TRel O' objs' m' w' r y)
    (hfr: ∀ p∈(b2 d,Obj.box (adopt (b2 d+1) ks cs).1)::(adopt (b2 d+1) ks cs).2,st.fresh p.1=true) (hnd:nodup (((b2 d,Obj.box (adopt (b2 d+1) ks cs).1)::(adopt (b2 d+1) ks cs).2).map (·.1))=true) :
    Good P V0 O0 w0 (apply st o {ok:=okl,val:=y,new:=(b2 d,.box (adopt (b2 d+1) ks cs).1)::(adopt (b2 d+1) ks cs).2}) o a w:=by
  intro next Q hn
  unfold Oper.wp
  rw[hr,Oper.upon_value]
  let ad:=adopt (b2 d+1) ks cs
  let m':Nat->Value:=fun i=>if i=b2 d then .pointer (some (at' w.heap.size 0))else if has (ad.2.map (·.1)) i then .slice none 0 0 else m i
  let O':Own:=fun b k=>if b=w.heap.size then some (b2 d)else O b k
  let Nw:Nat->Prop:=fun i=> ∃ p∈((b2 d,Obj.box ad.1)::ad.2),p.1=i
  have hNw: ∀ i,Nw i->Fresh st i:=by
    rintro i ⟨p,hp,rfl⟩
    exact fresh_not (hfr p hp)
  refine hn O' m' _ _ ?_
  have hobjs:(apply st o {ok:=okl,val:=y,new:=(b2 d,.box ad.1)::ad.2}).objs=setAll (delAll (setAll st.objs []) []) ((b2 d,.box ad.1)::ad.2):=rfl
  have hnewO: ∀ p∈((b2 d,Obj.box ad.1)::ad.2),aget (setAll (delAll (setAll st.objs []) []) ((b2 d,.box ad.1)::ad.2)) p.1=some p.2:=fun p hp=>aget_new hnd (by exact hp)
  have hb2:has (ad.2.map (·.1)) (b2 d)=false:=by
    simp only[List.map_cons,nodup,Bool.and_eq_true,Bool.not_eq_true']at hnd
    exact hnd.1
  have hmad: ∀ p∈ad.2,m' p.1= .slice none 0 0:=by
    intro p hp
    have h3:has (ad.2.map (·.1)) p.1=true:=has_mem.2 (List.mem_map.2 ⟨p,hp,rfl⟩)
    have h4:p.1≠b2 d:=fun e=>by rw[e,hb2]at h3;cases h3
    show(if p.1=b2 d then _ else _)=_
    rw[if_neg h4,if_pos h3]
  have hE:Exts st.objs m (setAll (delAll (setAll st.objs []) []) ((b2 d,.box ad.1)::ad.2)) m' Nw:=by
    intro i y hy
    rcases aget_apply hy with hy' | ⟨hno,_,hy' | ⟨_,hy'⟩⟩
    ·exact .inl ⟨_,hy',rfl⟩
    ·cases hy'
    ·refine .inr ⟨y,hy',rfl,?_⟩
     have h3:i≠b2 d:=fun e=>hno (.box ad.1) (by rw[e];exact List.mem_cons_self)
     have h4:has (ad.2.map (·.1)) i=false:=by
       cases hh:has (ad.2.map (·.1)) i with
       | false=>rfl
       | true =>
         obtain⟨p,hp,hpe⟩:=List.mem_map.1 (has_mem.1 hh)
         exact absurd (List.mem_cons_of_mem _ (by rw[<- hpe];exact hp)) (hno p.2)
     show(if i=b2 d then _ else _)=_
     rw[if_neg h3,h4];rfl
  have hM:Moves O (fun _=>False) w (w.alloc (.cells vs t)):=Moves.push _
  have hP:Passes O O' (fun _=>False) w.heap.size:=⟨fun b k hb h=>by show(if b=_ then _ else _)=_;rw[if_neg (Nat.ne_of_lt hb)];exact h,fun b k q hb h _=>by show(if b=_ then _ else _)=_;rw[if_neg (Nat.ne_of_lt hb)];exact h⟩
  have hpr:=hM.pres hP
  have hnewblk: ∀ k,(w.alloc (.cells vs t)).cell? (at' w.heap.size k)=vs[k]? :=by
    intro k;exact World.cell?_alloc_at vs t _ _ rfl
  refine hS.next (T:=fun _=>False) (Nw:=Nw) hM hP (fun b k hb h=> ?_) hE (fun n hn'=>(hNw n hn').both) (fun _ h=>h.elim) (fun q y hy=> ?_) rfl (fun _=> ?_)
  ·have:O' b k=O b k:=if_neg (Nat.ne_of_lt hb)
   rw[this]at h;exact h
  ·rcases aget_apply hy with hy' | ⟨hno,_,hy' | ⟨_,hy'⟩⟩
   ·right
    rcases List.mem_cons.1 hy' with e | hy'
    ·injection e with e1 e2
     subst e1;subst e2
     refine⟨⟨w.heap.size,0,if_pos rfl,fun j hj=> ?_⟩,(hNw _ ⟨_,List.mem_cons_self,rfl⟩).ne⟩
     have hcs':CsRel O' _ m' _ vs ad.1:=hcs.adopted (ks:=ks) (id:=b2 d+1) hpr hE (fun j hj i hi hn'=>by
       rcases hids j hj i hi with hh | hh
       ·exact(hNw i hn').1 hh
       ·rw[(hNw i hn').2]at hh;cases hh) (fun p hp=>⟨hnewO p (List.mem_cons_of_mem _ hp),hmad p hp⟩)
     have hjs:j<vs.size:=by rw[hcs'.1];exact hj
     refine⟨if_pos rfl,by simp only[World.frozen?,heap_new];simp,vs.getD j undef,?_,hcs'.2 j hj⟩
     rw[hnewblk]
     simp only[Nat.zero_add]
     exact getD_eq hjs
    ·obtain⟨⟨e,sz,h3⟩,_⟩:=(adopt_spec ks cs (b2 d+1)).2.2 _ hy'
     dsimp only at h3
     subst h3
     exact⟨⟨by simp [Sl.es],.inl ⟨trivial,rfl,hmad _ hy'⟩⟩,(hNw _ ⟨_,List.mem_cons_of_mem _ hy',rfl⟩).ne⟩
   ·cases hy'
   ·left
    refine⟨id,hy',?_⟩
    rcases hE q y hy with hn' | ⟨_,h3,_,h4⟩
    ·rw[(hNw q hn').2]at hy';cases hy'
    ·exact h4
  ·exact hy _ _ _ _ _ (hnewO (b2 d,.box ad.1) List.mem_cons_self) (if_pos rfl)
theorem box_good {t:Nat} {v:Value} {x:A} (hC:TOk P C) (hS:Sim V0 O0 w0 O m st a w) (hx:TRel O st.objs m w v x) (hids: ∀ i∈x.ids,i∈st.ids\/(aget st.objs i).isSome) {d:Nat} (hd:o.dst=some d)
    (hrun: ∀ ti,C.T t=some ti->x.isVal=true->v.cells.size=ti.cs.length->(execOp a.eval o).run P w= .ok (.value (.pointer (some (at' w.heap.size 0)))) (w.alloc (.cells v.cells t)))
    (hok:AllT (boxX C d t x).ok) (hfr: ∀ p∈(boxX C d t x).new,st.fresh p.1=true) (hnd:nodup ((boxX C d t x).new.map (·.1))=true):Good P V0 O0 w0 (apply st o (boxX C d t x)) o a w:=by
  unfold boxX at *
  obtain⟨ti,ht,he⟩:=tiOf_ok hok
  rw[he]at hok hfr hnd ⊢;clear he
  obtain⟨h1,h2⟩:=hok.cons
  have h2:=Nat.eq_of_beq_eq_true h2.cons.1
  have hcs:=hx.cells h1
  refine box_good' (ks:=adK C d ti) hS hcs (fun j hj i hi=>hids i (cells_ids h1 hj hi)) hd (hrun ti ht h1 (by rw[hcs.1,h2])) (fun O' objs' m' w' c hc hm=> ?_) hfr hnd
  show CRel O' objs' m' w' _ (.ptr (b2 d) 0)
  refine⟨rfl,?_⟩
  rw[hc]
  exact⟨w.heap.size,0,hm,rfl⟩
end
