import Derived.Test.YtbaomhegdndpnaaGreatDoorA3
import Derived.Laws.Small
import Derived.Laws.Tables
set_option linter.all false
namespace Go.Proofs.YtbaomhegdndpnaaGreatDoor.Vm
section
variable {P:Program} {C:Ctx} {O:Own} {Aa:List (Nat×Obj)} {m:Nat->Value} {a:Act} {w:World} {o:Oper} {fet:Fet}
theorem getD_eq {vs:Array Value} {j:Nat} (h:j<vs.size):vs[j]? =some (vs.getD j undef):=by
  rw[Array.getD_eq_getD_getElem?,Array.getElem?_eq_getElem h];rfl
theorem Aek {t:Nat} {ti:TI} (hT:Iq P t ti) {vs:Array Value} {cs:List A} {off:Nat} (h1:vs.size=cs.length) (h2: ∀ j,j<cs.length->Aw O Aa m w (vs.getD j undef) (cs.getD j .undef))
    (h3:off+ti.cs.length<=cs.length) (h4:0<ti.cs.length): ∃ v,(part t vs off).run P w= .ok v w/\T1 O Aa m w v (YZ ti cs off):=by
  unfold part YZ
  simp only[Sem.run_bind,hT.yB,Result.andThen_ok]
  cases hg:ti.agg with
  | true =>
    refine⟨.agg (vs.extract off (off+ti.cs.length)),by simp [hT.Eb],_,rfl,by simp;omega,fun j hj=> ?_⟩
    simp only[List.length_take,List.length_drop]at hj
    have hb:=h2 (off+j) (by omega)
    have e1:(vs.extract off (off+ti.cs.length)).getD j undef=vs.getD (off+j) undef:=by
      rw[Array.getD_eq_getD_getElem?,Array.getD_eq_getD_getElem?,Array.getElem?_extract]
      rw[if_pos (by omega)]
    have e2:((cs.drop off).take ti.cs.length).getD j .undef=cs.getD (off+j) .undef:=by
      simp only[List.getD_eq_getElem?_getD,List.getElem?_take,List.getElem?_drop]
      rw[if_pos (by omega)]
    rw[e1];simp only[e2];exact hb
  | false =>
    have hb:=h2 off (by omega)
    refine⟨vs.getD off undef,?_,?_⟩
    ·have:=getD_eq (vs:=vs) (j:=off) (by omega)
     generalize vs.getD off undef=z at *
     simp [this]
    ·simp only[cond_false]
     generalize cs.getD off .undef=c at *
     cases c<;>first | exact hb | exact hb.elim
theorem ZZ {d:TypeDesc} {f:Nat} {p:Nat×TI} (h:jL C d f=some p): ∃ fs x,d= .struct fs/\fs[f]? =some x/\x.offset=p.1/\C.T x.type=some p.2:=by
  unfold jL at h
  split at h
  ·rename_i fs
   split at h
   ·rename_i x hx
    split at h
    ·rename_i ti ht
     injection h with h;subst h
     exact⟨fs,x,rfl,by simpa using hx,rfl,ht⟩
    ·cases h
   ·cases h
  ·cases h
theorem Abi {t f:Nat} {x:Operand} (hC:TOk P C) (ho:o.op= .field t x f) {x':A} (hx:Au O Aa m w (a.eval x) x') (hok:Am (gK C t f x').ok):Pure P O Aa m a w o (gK C t f x'):=by
  unfold gK at hok ⊢
  obtain⟨ti,ht,he⟩:=Ba hok
  rw[he]at hok ⊢;clear he
  obtain⟨p,hp,he⟩:=AA hok
  rw[he]at hok ⊢;clear he
  obtain⟨cs,hcs,he⟩:=AA hok
  rw[he]at hok ⊢;clear he
  obtain⟨fs,fx,hd,hfx,hoff,htf⟩:=ZZ hp
  have:x'= .agg cs:=by unfold Afq at hcs;split at hcs<;>simp_all
  subst this
  obtain⟨vs,h1,h2,h3⟩:=hx
  obtain⟨h4,h5⟩:=hok.cons
  have h5:=h5.cons.1
  have h4:=Nat.le_of_ble_eq_true h4
  have h5:0<p.2.cs.length:=by simpa [Nat.blt_eq]using h5
  have hu:=(hC.is ht).run w
  rw[hd]at hu
  obtain⟨v,hv,hr⟩:=Aek (off:=p.1) (hC.is htf) h2 h3 h4 h5
  refine⟨⟨v,?_,hr.toT⟩,rfl,rfl,rfl⟩
  simp [execOp,ho,Instr.field,hu,hfx,h1,asAgg,hoff,hv]
theorem Ad5 {x':A} {v:Value} {off n:Nat} (hf:FOk O Aa m w fet) (hx:Au O Aa m w v x') (hok:Am (OC off n fet x').ok) :
    ∃ b k,v= .pointer (some (at' b k))/\Au O Aa m w (.pointer (some (at' b (k+off)))) (OC off n fet x').val/\(OC off n fet x').new=[]/\(OC off n fet x').upd=[]/\(OC off n fet x').del=[]:=by
  unfold OC at hok ⊢
  split at hok
  ·obtain⟨cs,hcs,he⟩:=AA hok
   rw[he]at hok ⊢;clear he
   rename_i q p
   obtain⟨b,base,h1,h2,h3⟩:=hx.ptr hf (BK hcs)
   refine⟨b,base+p,h2,?_,rfl,rfl,rfl⟩
   have hg:=(hf _ _ (BK hcs)).1
   show Aw O Aa m w _ (.ptr q (p+off))
   simp only[Aw,hg,Option.map_some,Obj.shp]
   exact⟨rfl,b,base,h1,by rw[Nat.add_assoc]⟩
  ·rename_i cs
   obtain⟨b,k,h1,h2⟩:=(show Aw O Aa m w v (.elt cs)from hx)
   refine⟨b,k,h1,?_,rfl,rfl,rfl⟩
   refine⟨b,k+off,rfl,fun j hj=> ?_⟩
   simp only[List.length_drop]at hj
   have:=h2 (off+j) (by omega)
   rw[Nat.add_assoc]
   have e:(cs.drop off).getD j .undef=cs.getD (off+j) .undef:=by simp [List.getD_eq_getElem?_getD,List.getElem?_drop]
   rw[e];exact this
  ·rename_i q i p
   obtain⟨r,hr,he⟩:=AA hok
   rw[he]at hok ⊢;clear he
   have hi:i<r.l.es.length:=by rw[Sl.Bj];simpa [Dl.g]using hok.cons.1
   have hx':Aw O Aa m w v (.AV q i p):=hx
   have hg:=(hf _ _ (CY hr)).1
   simp only[Aw,hg,Option.map_some,Obj.shp]at hx'
   obtain⟨g,n',cap,h1,h2⟩:=hx'.2 hi
   refine⟨g,_,h2,?_,rfl,rfl,rfl⟩
   show Aw O Aa m w _ (.AV q i (p+off))
   simp only[Aw,hg,Option.map_some,Obj.shp]
   refine⟨rfl,fun _=> ?_⟩
   exact⟨g,n',cap,h1,by rw[Nat.add_assoc]⟩
  ·exact(Az hok).elim
theorem mD {t f:Nat} {x:Operand} (hC:TOk P C) (hf:FOk O Aa m w fet) (ho:o.op= .fieldAddr t x f) {x':A} (hx:Au O Aa m w (a.eval x) x') (hok:Am (H9 C fet t f x').ok):Pure P O Aa m a w o (H9 C fet t f x'):=by
  unfold H9 at hok ⊢
  obtain⟨ti,ht,he⟩:=Ba hok
  rw[he]at hok ⊢;clear he
  obtain⟨p,hp,he⟩:=AA hok
  rw[he]at hok ⊢;clear he
  obtain⟨fs,fx,hd,hfx,hoff,htf⟩:=ZZ hp
  obtain⟨h1,h2⟩:=hok.cons
  have h1:0<p.2.cs.length:=by simpa [Nat.blt_eq]using h1
  obtain⟨b,k,h3,h4,h5,h6,h7⟩:=Ad5 hf hx h2
  have hu:=(hC.is ht).run w
  rw[hd]at hu
  have hs:=(hC.is htf).Eb w
  refine⟨⟨_,?_,h4⟩,h5,h6,h7⟩
  have h0:p.2.cs.length≠0:=by omega
  simp [execOp,ho,Instr.fieldAt,hu,hfx,h3,Instr.sureAddr,fieldPlace,hs,h0,Fh,hoff]
theorem mQ {t:Nat} {x i:Operand} (hC:TOk P C) (hf:FOk O Aa m w fet) (ho:o.op= .indexAddr t x i) {x' i':A} (hx:Au O Aa m w (a.eval x) x') (hi:Au O Aa m w (a.eval i) i')
    (hok:Am (OQ C fet t x' i').ok):Pure P O Aa m a w o (OQ C fet t x' i'):=by
  unfold OQ at hok ⊢
  split at hok
  ·rename_i q i0 off0
   obtain⟨n,hn,he⟩:=AA hok
   rw[he]at hok ⊢;clear he
   obtain⟨k,rfl⟩:=Hg hn
   have hi:=hi.int
   obtain⟨ti,ht,he⟩:=Ba hok
   rw[he]at hok ⊢;clear he
   obtain⟨p,hp,he⟩:=AA hok
   rw[he]at hok ⊢;clear he
   obtain⟨te,hte,he⟩:=Ba hok
   rw[he]at hok ⊢;clear he
   obtain⟨r,hr,he⟩:=AA hok
   rw[he]at hok ⊢;clear he
   obtain⟨h1,h2⟩:=hok.cons
   obtain⟨h2,h3⟩:=h2.cons
   obtain⟨h3,h4⟩:=h3.cons
   obtain⟨h4,h5⟩:=h4.cons
   obtain⟨h5,h6⟩:=h5.cons
   have h6:=h6.cons.1
   have h1:=Nat.eq_of_beq_eq_true h1
   have h2:=Nat.eq_of_beq_eq_true h2
   have h3:=Nat.eq_of_beq_eq_true h3
   subst h1;subst h2
   have h4:0<=n:=by simpa using h4
   have h5:n<(p.1:Int):=by simpa using h5
   have h6:n.toNat<r.l.es.length:=by rw[Sl.Bj];simpa using h6
   have hx':Aw O Aa m w (a.eval x) (.AV q 0 0):=hx
   have hg:=(hf _ _ (CY hr)).1
   simp only[Aw,hg,Option.map_some,Obj.shp]at hx'
   obtain⟨g,n',cap,e1,e2⟩:=hx'.2 (by omega)
   have hd:ti.d= .array p.1 p.2:=by
     unfold UC at hp
     split at hp
     ·rename_i hd;injection hp with hp;rw[hd,<- hp]
     ·cases hp
   have hu:=(hC.is ht).run w
   rw[hd]at hu
   have hs:=(hC.is hte).Eb w
   refine⟨⟨.pointer (some (at' g (n.toNat*te.cs.length))),?_,?_⟩,rfl,rfl,rfl⟩
   ·have e2':a.eval x= .pointer (some (at' g 0)):=by rw[e2];simp
    simp [execOp,ho,Instr.indexAt,hi,asIntOf,hu,e2',Instr.sureAddr,h4,h5,hs,Fh]
   ·show Aw O Aa m w _ (.AV q n.toNat 0)
    simp only[Aw,hg,Option.map_some,Obj.shp]
    refine⟨rfl,fun _=>⟨g,n',cap,e1,by rw[h3];rfl⟩⟩
  ·rename_i cs
   obtain⟨n,hn,he⟩:=AA hok
   rw[he]at hok ⊢;clear he
   obtain⟨k,rfl⟩:=Hg hn
   have hi:=hi.int
   obtain⟨m',e,kk,te,he,hu,hte,hcs,_⟩:=uV hC hok
   rw[he]at hok ⊢
   obtain⟨h1,h2,h3,h4,h5⟩:=xC hok
   obtain⟨b,off,g1,g2⟩:=(show Aw O Aa m w _ (.elt cs)from hx)
   have hs:=(hC.is hte).Eb w
   have hrun:=run_underlying hu w
   refine⟨⟨.pointer (some (at' b (off+n.toNat))),?_,?_⟩,rfl,rfl,rfl⟩
   ·simp [execOp,ho,Instr.indexAt,hi,asIntOf,hrun,g1,Instr.sureAddr,h2,h3,hs,hcs,Fh]
   ·refine⟨b,off+n.toNat,rfl,fun j hj=> ?_⟩
    have:j=0:=by simpa using hj
    subst this
    obtain⟨a1,u,a2,a3⟩:=g2 n.toNat h4
    rw[h5]at a3
    exact⟨a1,u,a2,a3⟩
  ·rename_i y hne _
   clear hne
   obtain⟨n,hn,he⟩:=AA hok
   rw[he]at hok ⊢;clear he
   obtain⟨k,rfl⟩:=Hg hn
   have hi:=hi.int
   unfold elemOf at hok ⊢
   obtain⟨ti,ht,he⟩:=Ba hok
   rw[he]at hok ⊢;clear he
   obtain⟨e,hel,he⟩:=AA hok
   rw[he]at hok ⊢;clear he
   obtain⟨te,hte,he⟩:=Ba hok
   rw[he]at hok ⊢;clear he
   have hu:=(hC.is ht).run w
   rw[FY hel]at hu
   have hs:=(hC.is hte).Eb w
   have run: ∀ b off len cap,a.eval x= .slice (some (at' b off)) len cap->0<=n->n<(len:Int)->(execOp a.eval o).run P w= .ok (.value (.pointer (some (at' b (off+n.toNat*te.cs.length))))) w:=by
     intro b off len cap h1 h2 h3
     simp [execOp,ho,Instr.indexAt,hi,asIntOf,hu,h1,h2,h3,hs,Fh]
   dsimp only at hok ⊢
   split at hok
   ·rename_i q _
    obtain⟨r,hr,he⟩:=AA hok
    rw[he]at hok
    rw[he];clear he
    obtain⟨h1,h2⟩:=hok.cons
    obtain⟨h2,h3⟩:=h2.cons
    have h3:=h3.cons.1
    have h1:=Nat.eq_of_beq_eq_true h1
    have h2:0<=n:=by simpa using h2
    have h3:n<(r.l.es.length:Int):=by rw[Sl.Bj];simpa using h3
    obtain⟨h4,_,h5⟩:=hx.own hf (CY hr)
    have hg:=(hf _ _ (CY hr)).1
    rcases h5 with ⟨_,h6,_⟩ | ⟨_,g,cap,cur,h6,_⟩
    ·rw[h6]at h3;simp at h3;omega
    ·refine⟨⟨_,run g 0 _ cap (by rw[h4,h6]) h2 h3,?_⟩,rfl,rfl,rfl⟩
     show Aw O Aa m w _ (.AV q n.toNat 0)
     simp only[Aw,hg,Option.map_some,Obj.shp]
     refine⟨rfl,fun _=> ?_⟩
     exact⟨g,_,_,h6,by rw[<- h1];simp⟩
   ·rename_i l _
    obtain⟨h1,h2⟩:=hok.cons
    obtain⟨h0,h2⟩:=h2.cons
    obtain⟨h2,h3⟩:=h2.cons
    have h3:=h3.cons.1
    have h1:=Nat.eq_of_beq_eq_true h1
    have h2:0<=n:=by simpa using h2
    have h3:n<(l.es.length:Int):=by rw[Sl.Bj];simpa using h3
    have hx':Ak O w (a.eval x) (.sl l):=hx
    generalize hv:a.eval x=v at hx'
    cases hx' with
    | nil=>simp [Sl.es]at h3;omega
    | sl0=>simp [Sl.es]at h3;omega
    | @sl b off cap _ vs hc hm hr =>
      refine⟨⟨_,run b off _ cap hv h2 h3,?_⟩,rfl,rfl,rfl⟩
      have hj:n.toNat<l.es.length:=by omega
      refine⟨b,_,rfl,fun j hjj=> ?_⟩
      rw[Sl.Ack]at hjj
      obtain⟨h4,h5⟩:=hm n.toNat j hj hjj
      rw[<- h1,Nat.add_assoc]
      rw[l.at_eq (by rw[<- Sl.Bj];exact hj)]
      exact⟨h4,_,h5,hr n.toNat j hj hjj⟩
   ·rename_i q k _
    obtain⟨cs,hb,he⟩:=AA hok
    rw[he]at hok
    rw[he];clear he
    obtain⟨h1,h2⟩:=hok.cons
    obtain⟨h2,h3⟩:=h2.cons
    have h3:=h3.cons.1
    have h1:=Nat.eq_of_beq_eq_true h1
    have h2:0<=n:=by simpa using h2
    rw[Nat.blt_eq]at h3
    have hg:=(hf _ _ (BK hb)).1
    have hc:Aw O Aa m w (a.eval x) (.bsl q k):=hx
    have hc:=hc.2
    rw[hg]at hc
    obtain⟨b,base,e1,e2⟩:=hc
    refine⟨⟨_,run b base _ k e2 h2 (by omega),?_⟩,rfl,rfl,rfl⟩
    show Aw O Aa m w _ (.ptr q n.toNat)
    refine⟨rfl,?_⟩
    rw[hg,h1,Nat.mul_one]
    exact⟨b,base,e1,rfl⟩
   ·exact(Az hok).elim
theorem rG {x:Operand} (hf:FOk O Aa m w fet) (ho:o.op= .nilCheck x) {x':A} (hx:Au O Aa m w (a.eval x) x') (hok:Am (J4 fet x').ok):Pure P O Aa m a w o (J4 fet x'):=by
  unfold J4 at hok ⊢
  split at hok
  ·obtain⟨cs,hcs,he⟩:=AA hok
   rw[he]at hok ⊢;clear he
   obtain⟨b,base,h1,h2,h3⟩:=hx.ptr hf (BK hcs)
   refine⟨⟨a.eval x,?_,hx⟩,rfl,rfl,rfl⟩
   rw[h2]
   simp [execOp,ho,h2]
  ·exact(Az hok).elim
theorem Ak.one {u:Value} {c:A} (h:Ak O w u c):u.oneCell'=true:=by
  induction h<;>first | rfl | assumption
theorem XR {k:CK} {u:Value} {c:A} (h:Ak O w u c) (hok:Am (force k c).1):Aw O Aa m w u (force k c).2:=by
  cases k with
  | bool=>have:=hok.cons.1;cases h<;>simp [A.isB]at this;exact .bool _
  | int k =>
    have:=hok.cons.1
    cases h<;>simp [A.isI]at this
    have:=ES this
    subst this
    exact .int _ _
  | str=>have:=hok.cons.1;cases h<;>simp [A.isS]at this;exact .str _
  | sl e sz =>
    have:=hok.cons.1
    cases h with
    | nil t=>exact .nil _
    | sl0 a t=>exact Ak.sl0 _ _
    | sl vs h1 h2 h3=>exact .sl vs h1 h2 h3
    | _=>simp [A.mW]at this
  | ptr=>have:=hok.cons.1;cases h<;>simp [A.Uc]at this;exact .BN
  | fn =>
    have:=hok.cons.1
    cases h<;>simp [A.isFn]at this
    ·exact Ak.fn _
    ·exact Ak.Rx
  | mp _ _=>have:=hok.cons.1;cases this
  | bx _=>have:=hok.cons.1;cases this
  | sln e sz =>
    have:=hok.cons.1
    cases h with
    | sln h hn=>exact .sln h hn
    | _=>simp [A.YV]at this
  | oth=>exact h.one
theorem gX (cs:List A) (ks:List CK): ∀ off,(forces cs ks off).2.length=ks.length:=by
  induction ks with
  | nil=>intro off;rfl
  | cons k ks ih=>intro off;simp [forces,ih]
theorem Abm (cs:List A) (ks:List CK): ∀(off:Nat) (f:Nat->Value),(∀ j,j<ks.length->Ak O w (f j) (cs.getD (off+j) .undef))->Am (forces cs ks off).1 ->
    ∀ j,j<ks.length->Aw O Aa m w (f j) ((forces cs ks off).2.getD j .undef):=by
  induction ks with
  | nil=>intro off f _ _ j hj;simp at hj
  | cons k ks ih =>
    intro off f h hok j hj
    obtain⟨h1,h2⟩:=hok.append
    cases j with
    | zero=>exact XR (by have:=h 0 (by simp);simpa using this) h1
    | succ j =>
      have:=ih (off+1) (fun j=>f (j+1)) (fun j hj=>by have:=h (j+1) (by simpa using hj);rwa [show off+(j+1)=off+1+j from by omega]at this) h2 j (by simpa using hj)
      simpa [forces]using this
theorem IY {t:Nat} {ti:TI} (hT:Iq P t ti) {b k:Nat} (f:Nat->Value) (hc: ∀ j,j<ti.cs.length->w.cell? (at' b (k+j))=some (f j)) (h0:ti.agg=false->0<ti.cs.length) :
    (loadVar t (at' b k)).run P w= .ok (if ti.agg then .agg ((List.range ti.cs.length).map f).toArray else f 0) w:=by
  unfold loadVar
  simp only[Sem.run_bind,hT.yB,Result.andThen_ok]
  cases hg:ti.agg with
  | true =>
    have:=run_loadCells (P:=P) w (at' b k) ti.cs.length f (fun j hj=>by rw[Fh];exact hc j hj)
    simp [hT.Eb,this]
  | false =>
    have:=hc 0 (h0 hg)
    simp only[Nat.add_zero]at this
    simp [this]
theorem pW {α :Type} {l:List α} {k: α} (h:one? l=some k):l=[k]:=by
  unfold one? at h;split at h<;>simp_all
theorem Yj {t:Nat} {ti:TI} (hT:Iq P t ti) {b k off:Nat} {cs:List A} {pre:List Bool} (hc: ∀ j,j<ti.cs.length-> ∃ u,w.cell? (at' b (k+j))=some u/\Ak O w u (cs.getD (off+j) .undef))
    (hok:Am (IX ti cs off pre).ok): ∃ v,(loadVar t (at' b k)).run P w= .ok v w/\Au O Aa m w v (IX ti cs off pre).val/\(IX ti cs off pre).new=[]/\(IX ti cs off pre).upd=[]/\(IX ti cs off pre).del=[]:=by
  have hf: ∀ j,j<ti.cs.length->w.cell? (at' b (k+j))=some ((w.cell? (at' b (k+j))).getD undef)/\Ak O w ((w.cell? (at' b (k+j))).getD undef) (cs.getD (off+j) .undef):=by
    intro j hj
    obtain⟨u,h1,h2⟩:=hc j hj
    rw[h1];exact⟨rfl,h2⟩
  unfold IX at hok ⊢
  cases hg:ti.agg with
  | true =>
    rw[hg]at hok
    simp only[cond_true]at hok ⊢
    obtain⟨_,h2⟩:=hok.append
    refine⟨_,IY hT (fun j=>(w.cell? (at' b (k+j))).getD undef) (fun j hj=>(hf j hj).1) (by simp [hg]),?_,rfl,rfl,rfl⟩
    rw[hg]
    refine⟨_,rfl,by simp [gX],fun j hj=> ?_⟩
    rw[gX]at hj
    have:=Abm (Aa:=Aa) (m:=m) cs ti.cs off (fun j=>(w.cell? (at' b (k+j))).getD undef) (fun j hj=>(hf j hj).2) h2 j hj
    have e:(((List.range ti.cs.length).map fun j=>(w.cell? (at' b (k+j))).getD undef).toArray).getD j undef=(w.cell? (at' b (k+j))).getD undef:=by
      rw[Array.getD_eq_getD_getElem?];simp [hj]
    rw[e];exact this
  | false =>
    rw[hg]at hok
    simp only[cond_false]at hok ⊢
    obtain⟨kk,hk,he⟩:=AA hok
    rw[he]at hok ⊢;clear he
    have hone:=pW hk
    obtain⟨_,h2⟩:=hok.append
    have h0:0<ti.cs.length:=by rw[hone];simp
    refine⟨_,IY hT (fun j=>(w.cell? (at' b (k+j))).getD undef) (fun j hj=>(hf j hj).1) (fun _=>h0),?_,rfl,rfl,rfl⟩
    rw[hg]
    have:=(hf 0 h0).2
    exact(XR this h2).toT
theorem pF {l:List CK} (h:iQ l=true):l=[.ptr]:=by
  unfold iQ at h
  split at h
  ·rfl
  ·cases h
theorem pJ {t:Nat} {x:Operand} (hC:TOk P C) (hf:FOk O Aa m w fet) (ho:o.op= .load t x) {x':A} (hx:Au O Aa m w (a.eval x) x') (hok:Am (Mc C fet t x').ok):Pure P O Aa m a w o (Mc C fet t x'):=by
  unfold Mc at hok ⊢
  obtain⟨ti,ht,he⟩:=Ba hok
  rw[he]at hok ⊢;clear he
  have hT:=hC.is ht
  have run: ∀ b k v,a.eval x= .pointer (some (at' b k))->(loadVar t (at' b k)).run P w= .ok v w->(execOp a.eval o).run P w= .ok (.value v) w:=by
    intro b k v h1 h2
    simp [execOp,ho,Instr.loadAt,Instr.sureAddr,h1,h2]
  split at hok
  ·obtain⟨cs,hcs,he⟩:=AA hok
   rw[he]at hok
   rw[he];clear he
   rename_i q off
   obtain⟨b,base,h1,h2,h3⟩:=hx.ptr hf (BK hcs)
   obtain⟨h4,h5⟩:=hok.cons
   have h4:=Nat.le_of_ble_eq_true h4
   have h5:0<ti.cs.length:=by simpa [Nat.blt_eq]using h5.cons.1
   have hc: ∀ j,j<ti.cs.length->w.cell? (at' b (base+off+j))=some ((w.cell? (at' b (base+off+j))).getD undef)/\Aw O Aa m w ((w.cell? (at' b (base+off+j))).getD undef) (cs.getD (off+j) .undef):=by
     intro j hj
     obtain⟨_,_,u,h6,h7⟩:=h3 (off+j) (by omega)
     rw[Nat.add_assoc,h6];exact⟨rfl,h7⟩
   have hl:=IY hT (fun j=>(w.cell? (at' b (base+off+j))).getD undef) (fun j hj=>(hc j hj).1) (fun _=>h5)
   refine⟨⟨_,run _ _ _ h2 hl,?_⟩,rfl,rfl,rfl⟩
   simp only[Dl.g,YZ]
   cases hg:ti.agg with
   | true =>
     refine⟨_,rfl,by simp;omega,fun j hj=> ?_⟩
     simp only[List.length_take,List.length_drop]at hj
     have e:(((List.range ti.cs.length).map fun j=>(w.cell? (at' b (base+off+j))).getD undef).toArray).getD j undef=(w.cell? (at' b (base+off+j))).getD undef:=by
       rw[Array.getD_eq_getD_getElem?];simp [show j<ti.cs.length from by omega]
     have e2:((cs.drop off).take ti.cs.length).getD j .undef=cs.getD (off+j) .undef:=by
       simp only[List.getD_eq_getElem?_getD,List.getElem?_take,List.getElem?_drop]
       rw[if_pos (by omega)]
     simp only[e2]
     rw[e];exact(hc j (by omega)).2
   | false=>exact(hc 0 h5).2.toT
  ·rename_i cs
   obtain⟨b,k,h1,h2⟩:=(show Aw O Aa m w _ (.elt cs)from hx)
   have hle:ti.cs.length<=cs.length:=by
     have hA:Am [Nat.ble ti.cs.length cs.length]:=by
       unfold IX at hok
       cases hg:ti.agg with
       | true=>rw[hg]at hok;exact(hok.append).1
       | false =>
         rw[hg]at hok
         obtain⟨kk,hk,he⟩:=AA hok
         simp only[cond_false]at hok
         rw[he]at hok;exact(hok.append).1
     exact Nat.le_of_ble_eq_true hA.cons.1
   obtain⟨v,h3,h4,h5,h6,h7⟩:=Yj (Aa:=Aa) (m:=m) (k:=k) (off:=0) hT (fun j hj=>by
     obtain⟨_,u,h8,h9⟩:=h2 j (by omega)
     exact⟨u,h8,by simpa using h9⟩) hok
   exact⟨⟨v,run _ _ _ h1 h3,h4⟩,h5,h6,h7⟩
  ·rename_i k q
   obtain⟨h1,h2⟩:=hok.cons
   obtain⟨h2,h3⟩:=h2.cons
   have h3:ti.agg=false:=by simpa using h3.cons.1
   have h1:=Nat.eq_of_beq_eq_true h1
   subst h1
   have h2:=pF h2
   obtain⟨_,p,hp1,⟨b,j,e1,e2,e3⟩,hc⟩:=(show Aw O Aa m w (a.eval x) (.clo 0 q)from hx)
   have hl:=IY (P:=P) (w:=w) hT (b:=b) (k:=j) (fun _=>p) (fun i hi=>by
     have:i=0:=by rw[h2]at hi;simpa using hi
     subst this;exact e3) (fun _=>by rw[h2];decide)
   rw[h3]at hl
   refine⟨⟨_,run _ _ _ e1 hl,?_⟩,rfl,rfl,rfl⟩
   exact⟨hp1,hc⟩
  ·rename_i q i off
   obtain⟨r,hr,he⟩:=AA hok
   rw[he]at hok
   rw[he];clear he
   cases hrow:isRow ti r.l i off with
   | true =>
     rw[hrow]at hok
     simp only[cond_true]at hok ⊢
     simp only[isRow,Bool.and_eq_true]at hrow
     obtain⟨⟨⟨r4,r1⟩,r3⟩,r2⟩:=hrow
     have r1:=Nat.eq_of_beq_eq_true r1
     have r2:=Nat.eq_of_beq_eq_true r2
     have r3:=Nat.eq_of_beq_eq_true r3
     have r4:1<ti.cs.length:=by simpa [Nat.blt_eq]using r4
     subst r2;subst r3
     have hA:Am [Nat.ble ti.cs.length r.l.xs.length,true]:=by
       unfold IX at hok
       cases hg:ti.agg with
       | true=>rw[hg]at hok;exact(hok.append).1
       | false =>
         rw[hg]at hok
         obtain⟨kk,hk,he⟩:=AA hok
         simp only[cond_false]at hok
         rw[he]at hok;exact(hok.append).1
     have hle':=Nat.le_of_ble_eq_true hA.cons.1
     have hle:ti.cs.length<=r.l.es.length:=by rw[Sl.Bj];exact hle'
     obtain⟨hg,hsz,hO⟩:=hf _ _ (CY hr)
     have hx':Aw O Aa m w (a.eval x) (.AV q 0 0):=hx
     simp only[Aw,hg,Option.map_some,Obj.shp]at hx'
     obtain⟨g,n',cap,h1,h2⟩:=hx'.2 (by omega)
     rcases hO with ⟨_,h3,_⟩ | ⟨_,g',cap',cur,h3,h4,h5,h6,h7,h8,_⟩
     ·rw[h3,List.length_nil]at hle;omega
     ·rw[h1]at h3
      injection h3 with h3 h3' h3''
      injection h3 with h3;injection h3 with h3
      subst h3
      obtain⟨v,h13,h14,h15,h16,h17⟩:=Yj (Aa:=Aa) (m:=m) (O:=O) (b:=g) (k:=0*r.l.sz+0) (off:=0) (cs:=VH r.l ti.cs.length) hT (fun j hj=>by
        obtain⟨u,h9,h10⟩:=h8 j 0 (by omega) (by omega)
        have e:(VH r.l ti.cs.length).getD (0+j) .undef=(r.l.es.getD j []).getD 0 .undef:=by
          rw[<- r.l.at_eq (Nat.lt_of_lt_of_le hj hle')]
          simp [VH,List.getD_eq_getElem?_getD,hj]
        rw[e]
        refine⟨u,?_,h10⟩
        rw[h4.cell,r1,Nat.mul_one,Nat.add_zero]at *
        simpa using h9) hok
      exact⟨⟨v,run _ _ _ h2 h13,h14⟩,h15,h16,h17⟩
   | false =>
   rw[hrow]at hok
   simp only[cond_false]at hok ⊢
   have hA:Am [Nat.ble (off+ti.cs.length) r.l.sz,decide (i<r.l.xs.length)]:=by
     unfold IX at hok
     cases hg:ti.agg with
     | true=>rw[hg]at hok;exact(hok.append).1
     | false =>
       rw[hg]at hok
       obtain⟨kk,hk,he⟩:=AA hok
       simp only[cond_false]at hok
       rw[he]at hok;exact(hok.append).1
   obtain⟨hle,hi⟩:=hA.cons
   have hle:=Nat.le_of_ble_eq_true hle
   have hi':i<r.l.xs.length:=by simpa using hi.cons.1
   have hi:i<r.l.es.length:=by rw[Sl.Bj];exact hi'
   obtain⟨hg,hsz,hO⟩:=hf _ _ (CY hr)
   have hx':Aw O Aa m w (a.eval x) (.AV q i off):=hx
   simp only[Aw,hg,Option.map_some,Obj.shp]at hx'
   obtain⟨g,n',cap,h1,h2⟩:=hx'.2 hi
   rcases hO with ⟨_,h3,_⟩ | ⟨_,g',cap',cur,h3,h4,h5,h6,h7,h8,_⟩
   ·rw[h3]at hi;simp at hi
   ·rw[h1]at h3
    injection h3 with h3 h3' h3''
    injection h3 with h3;injection h3 with h3
    subst h3
    obtain⟨v,h13,h14,h15,h16,h17⟩:=Yj (Aa:=Aa) (m:=m) (O:=O) (b:=g) (k:=i*r.l.sz+off) (off:=off) (cs:=r.l.at i) hT (fun j hj=>by
      obtain⟨u,h9,h10⟩:=h8 i (off+j) hi (by omega)
      rw[r.l.at_eq hi']
      refine⟨u,?_,h10⟩
      rw[h4.cell,Nat.add_assoc];exact h9) hok
    exact⟨⟨v,run _ _ _ h2 h13,h14⟩,h15,h16,h17⟩
  ·exact(Az hok).elim
end
end Go.Proofs.YtbaomhegdndpnaaGreatDoor.Vm
namespace Go.Proofs.YtbaomhegdndpnaaGreatDoor.Vm
section
variable {P:Program} {C:Ctx} {O:Own} {Aa:List (Nat×Obj)} {m:Nat->Value} {a:Act} {w:World} {o:Oper} {fet:Fet}
def uQ (w:World) (O:Own) (v:Value) (l:Sl):Prop :=
  (∃ ad,v= .slice ad 0 0/\l.xs=[])\/ ∃ b k c,v= .slice (some (at' b k)) l.es.length c/\l.es.length<=c /\
      ∀ i j,i<l.es.length->j<l.sz-> ∃ u,w.cell? (at' b (k+(i*l.sz+j)))=some u/\Ak O w u ((l.es.getD i []).getD j .undef)
theorem kQ {l:Sl} (h:l.es=[]):l.xs=[]:=by simp_all[Sl.es]
theorem Ak.ofNil {l:Sl} (h:l.es=[]):Ak O w (.slice none 0 0) (.sl l):=by
  obtain⟨t,xs⟩:=l
  have:xs=[]:=kQ h
  subst this
  exact .nil t
theorem AfI {x:A} {v:Value} (hf:FOk O Aa m w fet) (hx:Au O Aa m w v x) (hok:Am (rd fet x).1):uQ w O v (rd fet x).2:=by
  rcases xW hok with ⟨n,e,frz,l,rfl,hg,hl⟩ | ⟨rfl,hl⟩ | ⟨l,rfl,hl⟩<;>rw[hl]
  ·obtain⟨h1,h0,h2⟩:=hx.own hf hg
   rcases h2 with ⟨h3,h4,h5⟩ | ⟨h3,g,cap,cur,h4,h5,h6,h7,h8,h9,_⟩
   ·exact .inl ⟨none,by rw[h1,h5],kQ h4⟩
   ·refine .inr ⟨g,0,cap,by rw[h1,h4],h6,fun i j hi hj=> ?_⟩
    obtain⟨u,h10,h11⟩:=h9 i j hi hj
    exact⟨u,by rw[Nat.zero_add,h5.cell];exact h10,h11⟩
  ·exact .inl ⟨none,hx,rfl⟩
  ·have hx':Ak O w v (.sl l):=hx
   cases hx' with
   | nil=>exact .inl ⟨none,rfl,rfl⟩
   | sl0 ad=>exact .inl ⟨some ad,rfl,rfl⟩
   | @sl b off cap _ vs hc hm hr=>exact .inr ⟨b,off,cap,rfl,hc,fun i j hi hj=>⟨vs i j,(hm i j hi hj).2,hr i j hi hj⟩⟩
theorem Aa3 {t:Ty} {x:A} {v:Value} (hf:FOk O Aa m w fet) (hx:Au O Aa m w v x) (hok:Am (rdT fet t x).1):uQ w O v ⟨t,(rdT fet t x).2⟩:=by
  by_cases hn:x= .BB
  ·subst hn
   exact .inl ⟨none,hx,rfl⟩
  ·have hr:rdT fet t x=match (rd fet x).2.cast t with | some xs=>((rd fet x).1,xs) | none=>([false],[]):=by
     cases x<;>first | rfl | exact absurd rfl hn
   rw[hr]at hok ⊢
   cases hc:(rd fet x).2.cast t with
   | none=>simp_all[Ty,FOk,Au,Am,rdT,uQ]
   | some xs=>grind[AfI,Sl.EH]
theorem AcL {n:Int} (h:isByte n=true):0<=n/\n<256:=by
  unfold isByte at h
  simpa using h
theorem wP {d:TypeDesc} (h:iU d=true):d= .int .u8:=by grind[iU]
theorem Xp {s t:Nat} {x:Operand} (hC:TOk P C) (hf:FOk O Aa m w fet) (ho:o.op= .convert s t x) {x':A} (hx:Au O Aa m w (a.eval x) x') (hok:Am (Ls C fet s t x').ok) :
    Pure P O Aa m a w o (Ls C fet s t x'):=by
  unfold Ls at hok ⊢
  obtain⟨ts,hts,he⟩:=Ba hok
  rw[he]at hok ⊢;clear he
  obtain⟨tt,htt,he⟩:=Ba hok
  rw[he]at hok ⊢;clear he
  have hus:=(hC.is hts).run w
  have hut:=(hC.is htt).run w
  split at hok
  ·rename_i k j n hd
   rw[hd]at hut
   have h1:=hx.int
   refine⟨⟨.int k (k.wrap n),?_,.mkInt _ _⟩,rfl,rfl,rfl⟩
   simp only[execOp,ho,convert,Sem.run_bind,hus,hut,Result.andThen_ok,h1]
   cases ts.d<;>simp [Conv.intToInt]
  ·rename_i l hd
   rw[hd]at hut
   obtain⟨b,hb,hl⟩:=hx.str
   refine⟨⟨.string b,?_,.mkStr _ hl⟩,rfl,rfl,rfl⟩
   simp only[execOp,ho,convert,Sem.run_bind,hus,hut,Result.andThen_ok,hb]
   cases ts.d<;>simp
  ·exact(Az hok).elim
  ·rename_i y _ _ hd _ _
   rw[hd]at hut
   obtain⟨e,hel,he⟩:=AA hok
   rw[he]at hok ⊢;clear he
   obtain⟨te,hte,he⟩:=Ba hok
   rw[he]at hok ⊢;clear he
   obtain⟨h1,h2⟩:=hok.cons
   obtain⟨h2,h3⟩:=h2.append
   have h3:=h3.cons.1
   have hde:=wP h1
   have hes:=FY hel
   have hue:=(hC.is hte).d
   rw[hde]at hue
   have hus':=(hC.is hts).d
   rw[hes]at hus'
   have hr:uQ w O (a.eval x) ⟨FC,(rdB fet y).2⟩:=Aa3 (t:=FC) hf hx h2
   generalize hL:(rdB fet y).2=bs at *
   have hes:(⟨FC,bs⟩:Sl).es.length=bs.length:=Sl.Bj _
   rcases hr with ⟨ad,hv,hn⟩ | ⟨b,k,c,hv,hc,hcell⟩
   ·have hn:bs=[]:=hn
    refine⟨⟨.string .empty,?_,.mkStr _ (by rw[hn];rfl)⟩,rfl,rfl,rfl⟩
    cases ad with
    | none =>
      have:=run_convert_bytes_string (P:=P) w s t e none 0 0 hus' hue (by rw[(hC.is htt).d,hd])
      simp only[execOp,ho,hv,Sem.run_bind,this]
      rfl
    | some ad =>
      have:=run_convert_bytes_back (P:=P) w s t e ad 0 [] hus' hue (by rw[(hC.is htt).d,hd]) (fun j hj=>absurd hj (Nat.not_lt_zero j))
      simp only[List.length_nil]at this
      simp only[execOp,ho,hv,Sem.run_bind,this]
      rfl
   ·refine⟨⟨.string ⟨(List.map byteOf bs).toArray⟩,?_,.mkStr _ (by simp)⟩,rfl,rfl,rfl⟩
    have:=run_convert_bytes_back (P:=P) w s t e (at' b k) c (List.map byteOf bs) hus' hue (by rw[(hC.is htt).d,hd]) (fun j hj=>by
      have hj':j<bs.length:=by simpa using hj
      obtain⟨u,h4,h5⟩:=hcell j 0 (by rw[hes];exact hj') (by show 0<1;omega)
      have hb:isByte (bs.getD j 0)=true:=by
        refine(List.all_eq_true.1 h3) _ ?_
        rw[List.getD_eq_getElem?_getD,List.getElem?_eq_getElem hj'];simp
      obtain⟨h7,h8⟩:=AcL hb
      have h6:(⟨FC,bs⟩:Sl).es.getD j []=[A.int .u8 (bs.getD j 0)]:=by
        rw[<- Sl.at_eq _ hj'];rfl
      rw[h6]at h5
      simp only[List.getD_cons_zero]at h5
      have hu:u= .int .u8 (bs.getD j 0):=by cases h5;rfl
      have h4':w.cell? (at' b (k+(j*1+0)))=some u:=h4
      rw[Fh,show k+j=k+(j*1+0)from by omega,h4',hu]
      have:(List.map byteOf bs)[j]'hj=UInt8.ofNat (bs.getD j 0).toNat:=by
        rw[List.getElem_map,List.getD_eq_getElem?_getD,List.getElem?_eq_getElem hj'];rfl
      rw[this]
      have:((UInt8.ofNat (bs.getD j 0).toNat).toNat:Int)=bs.getD j 0:=by
        rw[UInt8.toNat_ofNat'];omega
      rw[this])
    simp only[List.length_map]at this
    rw[hes]at hv
    simp only[execOp,ho,hv,Sem.run_bind,this]
    rfl
  ·exact(Az hok).elim
theorem Aeh {c:Call} {x y:Operand} (ho:o.op= .call c) (hcal:c.callee= .builtin .min) (hargs:c.args= #[x,y]) {x' y':A} (hx:Au O Aa m w (a.eval x) x') (hy:Au O Aa m w (a.eval y) y')
    (hok:Am (Ab8 x' y').ok):Pure P O Aa m a w o (Ab8 x' y'):=by
  unfold Ab8 at hok ⊢
  split at hok
  ·rename_i k p k' q
   cases hk:A.kEq k k' with
   | false=>rw[hk]at hok;exact(Az hok).elim
   | true =>
     have:=ES hk
     subst this
     refine⟨⟨.int k (if q<p then q else p),?_,?_⟩,rfl,rfl,rfl⟩
     ·have h:=run_min_int2 (P:=P) (w:=w) c.argTypes o.type k k p q
      simp [execOp,ho,resolve,hcal,hargs,invoke,builtin,hx.int,hy.int,h]
     ·show Au O Aa m w _ (.int k (bif decide (q<p)then q else p))
      by_cases h:q<p<;>simp only[h,decide_true,decide_false,cond_true,cond_false,if_true,if_false]<;>exact .mkInt _ _
  ·exact(Az hok).elim
theorem Aef {c:Call} {x y:Operand} (ho:o.op= .call c) (hcal:c.callee= .builtin .max) (hargs:c.args= #[x,y]) {x' y':A} (hx:Au O Aa m w (a.eval x) x') (hy:Au O Aa m w (a.eval y) y')
    (hok:Am (Ab6 x' y').ok):Pure P O Aa m a w o (Ab6 x' y'):=by
  unfold Ab6 at hok ⊢
  split at hok
  ·rename_i k p k' q
   cases hk:A.kEq k k' with
   | false=>rw[hk]at hok;exact(Az hok).elim
   | true =>
     have:=ES hk
     subst this
     refine⟨⟨.int k (if q>p then q else p),?_,?_⟩,rfl,rfl,rfl⟩
     ·have h:=run_max_int2 (P:=P) (w:=w) c.argTypes o.type k k p q
      simp [execOp,ho,resolve,hcal,hargs,invoke,builtin,hx.int,hy.int,h]
     ·show Au O Aa m w _ (.int k (bif decide (p<q)then q else p))
      by_cases h:p<q<;>simp only[h,gt_iff_lt,decide_true,decide_false,cond_true,cond_false,if_true,if_false]<;>exact .mkInt _ _
  ·exact(Az hok).elim
end
end Go.Proofs.YtbaomhegdndpnaaGreatDoor.Vm
namespace Go.Proofs.YtbaomhegdndpnaaGreatDoor.Vm
section
variable {P:Program} {C:Ctx} {O:Own} {Aa:List (Nat×Obj)} {m:Nat->Value} {a:Act} {w:World} {o:Oper} {fet:Fet}
def Fg (O:Own) (Aa:List (Nat×Obj)) (m:Nat->Value) (w:World) (vs:Array Value) (cs:List A):Prop :=
  vs.size=cs.length/\ ∀ j,j<cs.length->Aw O Aa m w (vs.getD j undef) (cs.getD j .undef)
theorem Aw.one {v:Value} {x:A} (h:Aw O Aa m w v x):v.oneCell'=true:=by
  cases x with
  | undef=>exact h
  | bool _=>cases h;rfl
  | int _ _=>cases h;rfl
  | str _=>cases h;rfl
  | sl _=>cases h<;>rfl
  | sln _=>exact Ak.one h
  | BB=>have h':v=_:=h;subst h';rfl
  | BN=>cases h;rfl
  | ptr _ _=>exact h.1
  | own _=>exact h.1
  | AV _ _ _=>exact h.1
  | clo _ _=>exact h.1
  | bsl _ _=>exact h.1
  | osl _ _=>exact h.1
  | elt _=>obtain⟨_,_,h,_⟩:=h;subst h;rfl
  | fn _=>cases h<;>rfl
  | _=>exact h.elim
theorem oneCell_cells {v:Value} (h:v.oneCell'=true):v.cells= #[v]:=by cases v<;>first | rfl | cases h
theorem Au.cells {v:Value} {x:A} (h:Au O Aa m w v x) (hv:x.isVal=true):Fg O Aa m w v.cells x.cells:=by
  have cell:Aw O Aa m w v x->x.cells=[x]->Fg O Aa m w v.cells x.cells:=by
    intro hc he
    rw[he,oneCell_cells hc.one]
    refine⟨rfl,fun j hj=> ?_⟩
    have:j=0:=by simpa using hj
    subst this;exact hc
  cases x with
  | agg cs =>
    obtain⟨vs,h1,h2,h3⟩:=h
    subst h1;exact⟨h2,h3⟩
  | undef=>cases hv
  | tup _=>cases hv
  | usl _ _ _=>cases hv
  | ump _=>cases hv
  | box _=>cases hv
  | cbx _ _=>cases hv
  | cnd _ _=>cases hv
  | _=>exact cell h rfl
theorem HY (l:List Value): ∀(k off:Nat) (cs:Array Value) (i:Nat),off+k+l.length<=cs.size ->
    ((l.zipIdx k).foldl (fun cs (p:Value×Nat)=>cs.setIfInBounds (off+p.2) p.1) cs).size=cs.size /\
    ((l.zipIdx k).foldl (fun cs (p:Value×Nat)=>cs.setIfInBounds (off+p.2) p.1) cs).getD i undef=if off+k<=i/\i<off+k+l.length then l.getD (i - (off+k)) undef else cs.getD i undef:=by
  induction l with
  | nil =>
    intro k off cs i _
    refine⟨rfl,?_⟩
    rw[if_neg (by simp)];rfl
  | cons v l ih =>
    intro k off cs i h
    simp only[List.zipIdx_cons,List.foldl_cons]
    simp only[List.length_cons]at h ⊢
    obtain⟨h1,h2⟩:=ih (k+1) off (cs.setIfInBounds (off+k) v) i (by simp;omega)
    refine⟨by rw[h1];simp,?_⟩
    rw[h2]
    by_cases hi:off+(k+1)<=i/\i<off+(k+1)+l.length
    ·rw[if_pos hi,if_pos (by omega),show i - (off+k)=(i - (off+(k+1)))+1 from by omega];rfl
    ·rw[if_neg hi]
     by_cases hk:i=off+k
     ·subst hk
      rw[if_pos (by omega),Array.getD_eq_getD_getElem?,Array.getElem?_setIfInBounds]
      all_goals grind
     ·rw[if_neg (by omega),Array.getD_eq_getD_getElem?,Array.getElem?_setIfInBounds,if_neg (by omega),<- Array.getD_eq_getD_getElem?]
theorem Tj (l:List A) (off:Nat) (vs:List A) (i:Nat) (h:off+vs.length<=l.length):(splice l off vs).getD i .undef=if off<=i/\i<off+vs.length then vs.getD (i - off) .undef else l.getD i .undef:=by
  unfold splice
  all_goals grind[splice]
theorem Oa (l:List A) (off:Nat) (vs:List A) (h:off+vs.length<=l.length):(splice l off vs).length=l.length:=by
  unfold splice;simp;omega
theorem Fg.splice {vs us:Array Value} {cs xs:List A} {off:Nat} (h:Fg O Aa m w vs cs) (hu:Fg O Aa m w us xs) (hle:off+xs.length<=cs.length) :
    Fg O Aa m w (us.zipIdx.foldl (fun cs (c,j)=>cs.setIfInBounds (off+j) c) vs) (splice cs off xs):=by
  have e:us.zipIdx.foldl (fun cs (c,j)=>cs.setIfInBounds (off+j) c) vs=(us.toList.zipIdx 0).foldl (fun cs (p:Value×Nat)=>cs.setIfInBounds (off+p.2) p.1) vs:=by
    rw[<- Array.foldl_toList];simp
  rw[e]
  have hl:off+0+us.toList.length<=vs.size:=by rw[Array.length_toList,hu.1,h.1];omega
  refine⟨by rw[(HY us.toList 0 off vs 0 hl).1,h.1,Oa _ _ _ hle],fun j hj=> ?_⟩
  rw[Oa _ _ _ hle]at hj
  rw[(HY us.toList 0 off vs j hl).2,Tj _ _ _ _ hle]
  rw[Array.length_toList,hu.1]
  by_cases hi:off<=j/\j<off+xs.length
  ·rw[if_pos (by omega),if_pos hi,Nat.add_zero]
   have:=hu.2 (j - off) (by omega)
   have e:us.toList.getD (j - off) undef=us.getD (j - off) undef:=by
     rw[Array.getD_eq_getD_getElem?,List.getD_eq_getElem?_getD,Array.getElem?_toList]
   rw[e];exact this
  ·rw[if_neg (by omega),if_neg hi];exact h.2 j hj
def Qv (P:Program) (d:TypeDesc) (i:Nat):Option (Nat×Nat) :=
  match d with
  | .struct fs=>(fs[i]?).bind fun f=>(P.info? f.type).map fun j=>(f.offset,j.size)
  | .array _ e=>(P.info? e).map fun j=>(i*j.size,j.size)
  | _=>none
theorem wB (hC:TOk P C) {d:TypeDesc} {place:Nat->Option (Nat×Nat)} (hp: ∀ i p,Qv P d i=some p->place i=some p): ∀(xs:List (Nat×A)) (ps:List (Nat×Value)) (vs:Array Value) (cs cs':List A),
    xs.length=ps.length->(∀(j:Nat) (x:Nat×A) (p:Nat×Value),xs[j]? =some x->ps[j]? =some p->p.1=x.1/\Au O Aa m w p.2 x.2)->Fg O Aa m w vs cs->fill C d xs cs=some cs' ->
    ∃ vs',Instr.fill place vs ps=some vs'/\Fg O Aa m w vs' cs':=by
  intro xs
  induction xs with
  | nil =>
    intro ps vs cs cs' hl _ hcs hf
    cases ps with
    | nil=>simp only[fill]at hf;injection hf with hf;subst hf;exact⟨vs,rfl,hcs⟩
    | cons _ _=>simp at hl
  | cons x xs ih =>
    intro ps vs cs cs' hl hr hcs hf
    cases ps with
    | nil=>simp at hl
    | cons p ps =>
      obtain⟨i,x⟩:=x
      obtain⟨i',v⟩:=p
      obtain⟨h1,h2⟩:=hr 0 (i,x) (i',v) rfl rfl
      dsimp only at h1 h2
      subst h1
      simp only[fill]at hf
      cases hpl:Za C d i' with
      | none=>rw[hpl]at hf;cases hf
      | some q =>
        obtain⟨off,ti⟩:=q
        rw[hpl]at hf
        dsimp only at hf
        cases hb:(x.isVal&&Nat.beq x.cells.length ti.cs.length&&Nat.ble (off+ti.cs.length) cs.length)with
        | false=>rw[hb]at hf;cases hf
        | true =>
          rw[hb]at hf
          simp only[cond_true]at hf
          simp only[Bool.and_eq_true,I4,decide_eq_true_eq]at hb
          obtain⟨⟨hb1,hb2⟩,hb3⟩:=hb
          have hb3:=Nat.le_of_ble_eq_true hb3
          have hv:=h2.cells hb1
          have hpv:Qv P d i'=some (off,ti.cs.length):=by
            unfold Za at hpl
            unfold Qv
            split at hpl
            ·rename_i fs
             split at hpl
             ·rename_i f hf'
              split at hpl
              ·rename_i tf htf
               injection hpl with hpl;injection hpl with e1 e2
               subst e1;subst e2
               obtain⟨i0,z,h3,h4,_⟩:=(hC.is htf).i
               have:fs[i']? =some f:=by simpa using hf'
               simp [this,h3,h4]
              ·cases hpl
             ·cases hpl
            ·rename_i n e
             split at hpl
             ·rename_i tf htf
              cases hlt:Nat.blt i' n with
              | false=>rw[hlt]at hpl;cases hpl
              | true =>
                rw[hlt]at hpl
                injection hpl with hpl;injection hpl with e1 e2
                subst e2
                obtain⟨i0,z,h3,h4,_⟩:=(hC.is htf).i
                simp [h3,h4,<- e1]
             ·cases hpl
            ·cases hpl
          have hnext:=hcs.splice (off:=off) hv (by omega)
          obtain⟨vs',h5,h6⟩:=ih ps _ _ _ (by simpa using hl) (fun j x p hx hp=>hr (j+1) x p (by simpa using hx) (by simpa using hp)) hnext hf
          refine⟨vs',?_,h6⟩
          simp only[Instr.fill,hp _ _ hpv]
          have: ¬(v.cells.size≠ti.cs.length||decide (off+v.cells.size>vs.size))=true:=by
            rw[hv.1,hcs.1,hb2];simp;omega
          rw[if_neg (by simpa using this)]
          exact h5
theorem FU: ∀(vs:List Value) (ks:List CK),Bf vs ks=true->vs.length=ks.length/\ ∀ j,j<ks.length->Aw O Aa m w (vs.getD j undef) ((ks.map CK.zero).getD j .undef):=by
  intro vs
  induction vs with
  | nil=>intro ks h;cases ks with
    | nil=>exact⟨rfl,fun j hj=>by simp at hj⟩
    | cons _ _=>simp [Bf]at h
  | cons v vs ih =>
    intro ks h
    cases ks with
    | nil=>cases v<;>simp [Bf]at h
    | cons k ks =>
      have step:Bf vs ks=true->Aw O Aa m w v k.zero->(v::vs).length=(k::ks).length/\ ∀ j,j<(k::ks).length->Aw O Aa m w ((v::vs).getD j undef) (((k::ks).map CK.zero).getD j .undef):=by
        intro hz hv
        obtain⟨h1,h2⟩:=ih ks hz
        refine⟨by simp [h1],fun j hj=> ?_⟩
        cases j with
        | zero=>exact hv
        | succ j=>simpa using h2 j (by simpa using hj)
      cases k with
      | bool=>cases v with
        | bool b=>cases b<;>simp [Bf]at h;exact step h (.bool _)
        | _=>simp [Bf]at h
      | int k'=>cases v with
        | int k'' n =>
          have h':A.kEq k'' k'=true/\n=0/\Bf vs ks=true:=by
            clear step ih
            unfold Bf at h
            split at h<;>simp_all
          obtain⟨h1,h2,h3⟩:=h'
          have:=ES h1
          subst this;subst h2
          exact step h3 (.int _ _)
        | _=>simp [Bf]at h
      | str=>cases v with
        | string s =>
          simp only[Bf,Bool.and_eq_true]at h
          have hs:s.data.toList=[]:=by simpa using h.1
          refine step h.2 ?_
          show Ak O w (.string s) (.str [])
          rw[<- hs];exact .str s
        | _=>simp [Bf]at h
      | sl e sz=>cases v with
        | slice ad l c =>
          have h':ad=none/\l=0/\c=0/\Bf vs ks=true:=by
            clear step ih
            unfold Bf at h
            split at h<;>simp_all
          obtain⟨h1,h2,h3,h4⟩:=h'
          subst h1;subst h2;subst h3
          exact step h4 rfl
        | _=>simp [Bf]at h
      | ptr=>cases v with
        | pointer ad=>cases ad<;>simp [Bf]at h;exact step h .BN
        | _=>simp [Bf]at h
      | fn=>cases v with
        | nilFunc=>simp [Bf]at h;exact step h Ak.Rx
        | _=>simp [Bf]at h
      | sln _ _=>cases v<;>simp [Bf]at h
      | mp _ _=>cases v<;>simp [Bf]at h
      | bx _=>cases v<;>simp [Bf]at h
      | oth =>
        have:v.oneCell'=true/\Bf vs ks=true:=by
          cases v<;>simpa [Bf]using h
        exact step this.2 this.1
theorem oP {n t:Nat} {ks:List CK} (h:Dy P n t=some ks): ∃ i,P.info? t=some i:=by
  cases n with
  | zero=>simp [Dy]at h
  | succ n =>
    cases hi:P.info? t with
    | some i=>exact⟨i,rfl⟩
    | none =>
      have hu:P.underlying t=none:=by simp [Program.underlying,hi]
      simp [Dy,hu]at h
theorem zB {n t:Nat} {ks:List CK} {fs:Array Field} (h:Dy P n t=some ks) (hu:P.underlying t=some (.struct fs)): ∀ f∈fs.toList,∃ i,P.info? f.type=some i:=by
  cases n with
  | zero=>simp [Dy]at h
  | succ n =>
    simp only[Dy,hu]at h
    revert h
    generalize fs.toList=l
    induction l generalizing ks with
    | nil=>intro _ f hf;cases hf
    | cons g l ih=>grind[oP]
theorem AaS {n t c e:Nat} {ks:List CK} (h:Dy P n t=some ks) (hu:P.underlying t=some (.array c e)): ∃ i,P.info? e=some i:=by
  cases n with
  | zero=>simp [Dy]at h
  | succ n=>grind[Dy,oP]
theorem zW {P:Program}: ∀(l:List Field),(∀ f∈l,∃ i,P.info? f.type=some i)->l.mapM (fun f=>(P.info? f.type).map fun i=>(f.offset,i.size))=some (l.map fun f=>(f.offset,P.cellsOf f.type)):=by
  intro l
  induction l with
  | nil=>intro _;rfl
  | cons f l ih =>
    intro h
    obtain⟨i,hi⟩:=h f List.mem_cons_self
    have:=ih (fun g hg=>h g (List.mem_cons_of_mem _ hg))
    simp [List.mapM_cons,hi,this,Program.cellsOf]
theorem yO {t:Nat} {ti:TI} (hT:Iq P t ti): ∃ i z,P.info? t=some i/\i.zero=some z/\JW ti.d=Qj z/\Fg O Aa m w z.cells (ti.cs.map CK.zero):=by
  obtain⟨i,z,h1,h2,h3,h4,h5,h6⟩:=hT.i
  obtain⟨h7,h8⟩:=FU (O:=O) (Aa:=Aa) (m:=m) (w:=w) _ _ h5
  all_goals simp_all[JW,Qj,Fg,CK.zero]
theorem AaO {t:Nat} {ps:Array (Nat×Operand)} (hC:TOk P C) (ho:o.op= .build t ps) {xs:List (Nat×A)} (hl:xs.length=ps.size) (hx: ∀(j:Nat) (x:Nat×A) (p:Nat×Operand),xs[j]? =some x->ps[j]? =some p->p.1=x.1/\Au O Aa m w (a.eval p.2) x.2)
    (hok:Am (Xj C t xs).ok):Pure P O Aa m a w o (Xj C t xs):=by
  unfold Xj at hok ⊢
  obtain⟨ti,ht,he⟩:=Ba hok
  rw[he]at hok ⊢;clear he
  obtain⟨cs,hcs,he⟩:=AA hok
  rw[he]at hok ⊢;clear he
  have hT:=hC.is ht
  obtain⟨i,z,h1,h2,_,h3⟩:=yO (O:=O) (Aa:=Aa) (m:=m) (w:=w) hT
  have key: ∃ place:Nat->Option (Nat×Nat),(∀ i p,Qv P ti.d i=some p->place i=some p)/\ ∀ vs,Instr.fill place z.cells (ps.map (fun(i,x)=>(i,a.eval x))).toList=some vs->P.built t (ps.map (fun(i,x)=>(i,a.eval x))).toList=some vs:=by
    have hu:=hT.d
    cases hd:ti.d with
    | struct fs =>
      rw[hd]at hu
      have hinf:=zB hT.ck hu
      refine⟨fun i=>(fs.toList.map fun f=>(f.offset,P.cellsOf f.type)).toArray[i]?,fun i p hp=> ?_,fun vs hvs=> ?_⟩
      ·simp only[Qv]at hp
       cases hf:fs[i]? with
       | none=>rw[hf]at hp;cases hp
       | some f =>
         rw[hf]at hp
         simp only[Option.bind_some]at hp
         cases hi:P.info? f.type with
         | none=>rw[hi]at hp;cases hp
         | some j =>
           rw[hi]at hp
           simp at hp
           subst hp
           simp [hf,Program.cellsOf,hi]
      ·unfold Program.built
       simp only[h1,hu,h2,zW _ hinf]
       exact hvs
    | array n e =>
      rw[hd]at hu
      obtain⟨ie,hie⟩:=AaS hT.ck hu
      refine⟨fun i=>some (i*ie.size,ie.size),fun i p hp=> ?_,fun vs hvs=> ?_⟩
      ·grind[Qv]
      ·unfold Program.built
       simp only[h1,hu,h2,hie]
       exact hvs
    | _ =>
      have:=hok.cons.1
      rw[dU,hd]at this
      cases this
  obtain⟨place,hp,hb⟩:=key
  obtain⟨vs,h4,h5⟩:=wB (O:=O) (Aa:=Aa) (m:=m) (w:=w) hC hp xs (ps.map (fun(i,x)=>(i,a.eval x))).toList z.cells _ cs (by simp [hl]) (fun j x p hxj hpj=>by
    simp only[Array.toList_map,List.getElem?_map]at hpj
    cases hq:ps.toList[j]? with
    | none=>rw[hq]at hpj;cases hpj
    | some q =>
      rw[hq]at hpj
      injection hpj with hpj
      subst hpj
      exact hx j x q hxj (by simpa using hq)) h3 hcs
  have:=run_build (P:=P) w t _ _ (hb vs h4)
  refine⟨⟨.agg vs,?_,?_⟩,rfl,rfl,rfl⟩
  ·simp only[execOp,ho,Sem.run_bind,this,Result.andThen_ok,Sem.run_pure]
  ·exact⟨vs,rfl,h5.1,h5.2⟩
end
