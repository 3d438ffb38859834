/-
  CertextCheck: the law returns true whatever the input; machine, functions, plain law (part 5 of 47.)
-/
import Derived.Test.YtadefjgbcapakaaGreatDoorA4
import Derived.Laws.Small
set_option linter.unusedVariables false
set_option linter.unusedSimpArgs false
namespace Go.Proofs.YtadefjgbcapakaaGreatDoor.Vm
section
variable {P:Program} {C:Ctx} {O:Own} {Aa:List (Nat×Obj)} {m:Nat→Value} {a:Act} {w:World} {o:Oper} {fet:Fet}
theorem getD_eq {vs:Array Value} {j:Nat} (h:j<vs.size):vs[j]? =some (vs.getD j undef):=by
  rw[Array.getD_eq_getD_getElem?,Array.getElem?_eq_getElem h];rfl
theorem Amd {t:Nat} {ti:TI} (hT:MI P t ti) {vs:Array Value} {cs:List A} {off:Nat} (h1:vs.size=cs.length) (h2: ∀ j,j<cs.length→AV O Aa m w (vs.getD j undef) (cs.getD j .undef))
    (h3:off+ti.cs.length≤cs.length) (h4:0<ti.cs.length): ∃ v,(part t vs off).run P w= .ok v w∧T1 O Aa m w v (zT ti cs off):=by
  unfold part zT
  simp only[Sem.run_bind,hT.AkK,Result.andThen_ok]
  cases hg:ti.agg with
  | true =>
    refine⟨.agg (vs.extract off (off+ti.cs.length)),by simp [hT.JZ],_,rfl,by simp;omega,fun j hj=> ?_⟩
    simp only[List.length_take,List.length_drop]at hj
    have hb:=h2 (off+j) (by omega)
    have e1:(vs.extract off (off+ti.cs.length)).getD j undef=vs.getD (off+j) undef:=by
      rw[Array.getD_eq_getD_getElem?,Array.getD_eq_getD_getElem?,Array.getElem?_extract]
      rw[if_pos (by omega)]
    have e2:((cs.drop off).take ti.cs.length).getD j .undef=cs.getD (off+j) .undef:=by
      simp only[List.getD_eq_getElem?_getD,List.getElem?_take,List.getElem?_drop]
      rw[if_pos (by omega)]
    rw[e1];simp only[e2];exact hb
  | false =>
    have hb:=h2 off (by omega)
    refine⟨vs.getD off undef,?_,?_⟩
    ·have:=getD_eq (vs:=vs) (j:=off) (by omega)
     generalize vs.getD off undef=z at *
     simp [this]
    ·simp only[cond_false]
     generalize cs.getD off .undef=c at *
     cases c<;>first | exact hb | exact hb.elim
theorem qW {d:TypeDesc} {f:Nat} {p:Nat×TI} (h:zV C d f=some p): ∃ fs x,d= .struct fs∧fs[f]? =some x∧x.offset=p.1∧C.T x.type=some p.2:=by
  unfold zV at h
  split at h
  ·rename_i fs
   split at h
   ·rename_i x hx
    split at h
    ·rename_i ti ht
     injection h with h;subst h
     exact⟨fs,x,rfl,by simpa using hx,rfl,ht⟩
    ·cases h
   ·cases h
  ·cases h
theorem Air {t f:Nat} {x:Operand} (hC:TOk P C) (ho:o.op= .field t x f) {x':A} (hx:AB O Aa m w (a.eval x) x') (hok:AA (y9 C t f x').ok):Pure P O Aa m a w o (y9 C t f x'):=by
  unfold y9 at hok ⊢
  obtain⟨ti,ht,he⟩:=BB hok
  rw[he]at hok ⊢;clear he
  obtain⟨p,hp,he⟩:=Be hok
  rw[he]at hok ⊢;clear he
  obtain⟨cs,hcs,he⟩:=Be hok
  rw[he]at hok ⊢;clear he
  obtain⟨fs,fx,hd,hfx,hoff,htf⟩:=qW hp
  have:x'= .agg cs:=by unfold An8 at hcs;split at hcs<;>simp_all
  subst this
  obtain⟨vs,h1,h2,h3⟩:=hx
  obtain⟨h4,h5⟩:=hok.cons
  have h5:=h5.cons.1
  have h4:=Nat.le_of_ble_eq_true h4
  have h5:0<p.2.cs.length:=by simpa [Nat.blt_eq]using h5
  have hu:=(hC.is ht).run w
  rw[hd]at hu
  obtain⟨v,hv,hr⟩:=Amd (off:=p.1) (hC.is htf) h2 h3 h4 h5
  refine⟨⟨v,?_,hr.toT⟩,rfl,rfl,rfl⟩
  simp [execOp,ho,Instr.field,hu,hfx,h1,asAgg,hoff,hv]
theorem Ali {x':A} {v:Value} {off n:Nat} (hf:FOk O Aa m w fet) (hx:AB O Aa m w v x') (hok:AA (Y5 off n fet x').ok) :
    ∃ b k,v= .pointer (some (at' b k))∧AB O Aa m w (.pointer (some (at' b (k+off)))) (Y5 off n fet x').val∧(Y5 off n fet x').new=[]∧(Y5 off n fet x').upd=[]∧(Y5 off n fet x').del=[]:=by
  unfold Y5 at hok ⊢
  split at hok
  ·obtain⟨cs,hcs,he⟩:=Be hok
   rw[he]at hok ⊢;clear he
   rename_i q p
   obtain⟨b,base,h1,h2,h3⟩:=hx.ptr hf (Gv hcs)
   refine⟨b,base+p,h2,?_,rfl,rfl,rfl⟩
   have hg:=(hf _ _ (Gv hcs)).1
   show AV O Aa m w _ (.ptr q (p+off))
   simp only[AV,hg,Option.map_some,Obj.shp]
   exact⟨rfl,b,base,h1,by rw[Nat.add_assoc]⟩
  ·rename_i cs
   obtain⟨b,k,h1,h2⟩:=(show AV O Aa m w v (.elt cs)from hx)
   refine⟨b,k,h1,?_,rfl,rfl,rfl⟩
   refine⟨b,k+off,rfl,fun j hj=> ?_⟩
   simp only[List.length_drop]at hj
   have:=h2 (off+j) (by omega)
   rw[Nat.add_assoc]
   have e:(cs.drop off).getD j .undef=cs.getD (off+j) .undef:=by simp [List.getD_eq_getElem?_getD,List.getElem?_drop]
   rw[e];exact this
  ·rename_i q i p
   obtain⟨r,hr,he⟩:=Be hok
   rw[he]at hok ⊢;clear he
   have hi:i<r.l.es.length:=by rw[Sl.BQ];simpa [Dl.g]using hok.cons.1
   have hx':AV O Aa m w v (.CB q i p):=hx
   have hg:=(hf _ _ (Gu hr)).1
   simp only[AV,hg,Option.map_some,Obj.shp]at hx'
   obtain⟨g,n',cap,h1,h2⟩:=hx'.2 hi
   refine⟨g,_,h2,?_,rfl,rfl,rfl⟩
   show AV O Aa m w _ (.CB q i (p+off))
   simp only[AV,hg,Option.map_some,Obj.shp]
   refine⟨rfl,fun _=> ?_⟩
   exact⟨g,n',cap,h1,by rw[Nat.add_assoc]⟩
  ·exact(AU hok).elim
theorem AaS {t f:Nat} {x:Operand} (hC:TOk P C) (hf:FOk O Aa m w fet) (ho:o.op= .fieldAddr t x f) {x':A} (hx:AB O Aa m w (a.eval x) x') (hok:AA (Tz C fet t f x').ok):Pure P O Aa m a w o (Tz C fet t f x'):=by
  unfold Tz at hok ⊢
  obtain⟨ti,ht,he⟩:=BB hok
  rw[he]at hok ⊢;clear he
  obtain⟨p,hp,he⟩:=Be hok
  rw[he]at hok ⊢;clear he
  obtain⟨fs,fx,hd,hfx,hoff,htf⟩:=qW hp
  obtain⟨h1,h2⟩:=hok.cons
  have h1:0<p.2.cs.length:=by simpa [Nat.blt_eq]using h1
  obtain⟨b,k,h3,h4,h5,h6,h7⟩:=Ali hf hx h2
  have hu:=(hC.is ht).run w
  rw[hd]at hu
  have hs:=(hC.is htf).JZ w
  refine⟨⟨_,?_,h4⟩,h5,h6,h7⟩
  have h0:p.2.cs.length≠0:=by omega
  simp [execOp,ho,Instr.fieldAt,hu,hfx,h3,Instr.sureAddr,fieldPlace,hs,h0,JD,hoff]
theorem Abf {t:Nat} {x i:Operand} (hC:TOk P C) (hf:FOk O Aa m w fet) (ho:o.op= .indexAddr t x i) {x' i':A} (hx:AB O Aa m w (a.eval x) x') (hi:AB O Aa m w (a.eval i) i')
    (hok:AA (TC C fet t x' i').ok):Pure P O Aa m a w o (TC C fet t x' i'):=by
  unfold TC at hok ⊢
  split at hok
  ·rename_i q i0 off0
   obtain⟨n,hn,he⟩:=Be hok
   rw[he]at hok ⊢;clear he
   obtain⟨k,rfl⟩:=Rn hn
   have hi:=hi.int
   obtain⟨ti,ht,he⟩:=BB hok
   rw[he]at hok ⊢;clear he
   obtain⟨p,hp,he⟩:=Be hok
   rw[he]at hok ⊢;clear he
   obtain⟨te,hte,he⟩:=BB hok
   rw[he]at hok ⊢;clear he
   obtain⟨r,hr,he⟩:=Be hok
   rw[he]at hok ⊢;clear he
   obtain⟨h1,h2⟩:=hok.cons
   obtain⟨h2,h3⟩:=h2.cons
   obtain⟨h3,h4⟩:=h3.cons
   obtain⟨h4,h5⟩:=h4.cons
   obtain⟨h5,h6⟩:=h5.cons
   have h6:=h6.cons.1
   have h1:=Nat.eq_of_beq_eq_true h1
   have h2:=Nat.eq_of_beq_eq_true h2
   have h3:=Nat.eq_of_beq_eq_true h3
   subst h1;subst h2
   have h4:0≤n:=by simpa using h4
   have h5:n<(p.1:Int):=by simpa using h5
   have h6:n.toNat<r.l.es.length:=by rw[Sl.BQ];simpa using h6
   have hx':AV O Aa m w (a.eval x) (.CB q 0 0):=hx
   have hg:=(hf _ _ (Gu hr)).1
   simp only[AV,hg,Option.map_some,Obj.shp]at hx'
   obtain⟨g,n',cap,e1,e2⟩:=hx'.2 (by omega)
   have hd:ti.d= .array p.1 p.2:=by
     unfold AdT at hp
     split at hp
     ·rename_i hd;injection hp with hp;rw[hd, ←hp]
     ·cases hp
   have hu:=(hC.is ht).run w
   rw[hd]at hu
   have hs:=(hC.is hte).JZ w
   refine⟨⟨.pointer (some (at' g (n.toNat*te.cs.length))),?_,?_⟩,rfl,rfl,rfl⟩
   ·have e2':a.eval x= .pointer (some (at' g 0)):=by rw[e2];simp
    simp [execOp,ho,Instr.indexAt,hi,asIntOf,hu,e2',Instr.sureAddr,h4,h5,hs,JD]
   ·show AV O Aa m w _ (.CB q n.toNat 0)
    simp only[AV,hg,Option.map_some,Obj.shp]
    refine⟨rfl,fun _=>⟨g,n',cap,e1,by rw[h3];rfl⟩⟩
  ·rename_i y hne
   clear hne
   obtain⟨n,hn,he⟩:=Be hok
   rw[he]at hok ⊢;clear he
   obtain⟨k,rfl⟩:=Rn hn
   have hi:=hi.int
   unfold elemOf at hok ⊢
   obtain⟨ti,ht,he⟩:=BB hok
   rw[he]at hok ⊢;clear he
   obtain⟨e,hel,he⟩:=Be hok
   rw[he]at hok ⊢;clear he
   obtain⟨te,hte,he⟩:=BB hok
   rw[he]at hok ⊢;clear he
   have hu:=(hC.is ht).run w
   rw[LD hel]at hu
   have hs:=(hC.is hte).JZ w
   have run: ∀ b off len cap,a.eval x= .slice (some (at' b off)) len cap→0≤n→n<(len:Int)→(execOp a.eval o).run P w= .ok (.value (.pointer (some (at' b (off+n.toNat*te.cs.length))))) w:=by
     intro b off len cap h1 h2 h3
     simp [execOp,ho,Instr.indexAt,hi,asIntOf,hu,h1,h2,h3,hs,JD]
   dsimp only at hok ⊢
   split at hok
   ·rename_i q
    obtain⟨r,hr,he⟩:=Be hok
    rw[he]at hok
    rw[he];clear he
    obtain⟨h1,h2⟩:=hok.cons
    obtain⟨h2,h3⟩:=h2.cons
    have h3:=h3.cons.1
    have h1:=Nat.eq_of_beq_eq_true h1
    have h2:0≤n:=by simpa using h2
    have h3:n<(r.l.es.length:Int):=by rw[Sl.BQ];simpa using h3
    obtain⟨h4,_,h5⟩:=hx.own hf (Gu hr)
    have hg:=(hf _ _ (Gu hr)).1
    rcases h5 with ⟨_,h6,_⟩ | ⟨_,g,cap,cur,h6,_⟩
    ·rw[h6]at h3;simp at h3;omega
    ·refine⟨⟨_,run g 0 _ cap (by rw[h4,h6]) h2 h3,?_⟩,rfl,rfl,rfl⟩
     show AV O Aa m w _ (.CB q n.toNat 0)
     simp only[AV,hg,Option.map_some,Obj.shp]
     refine⟨rfl,fun _=> ?_⟩
     exact⟨g,_,_,h6,by rw[← h1];simp⟩
   ·rename_i l
    obtain⟨h1,h2⟩:=hok.cons
    obtain⟨h0,h2⟩:=h2.cons
    obtain⟨h2,h3⟩:=h2.cons
    have h3:=h3.cons.1
    have h1:=Nat.eq_of_beq_eq_true h1
    have h2:0≤n:=by simpa using h2
    have h3:n<(l.es.length:Int):=by rw[Sl.BQ];simpa using h3
    have hx':Am O w (a.eval x) (.sl l):=hx
    generalize hv:a.eval x=v at hx'
    cases hx' with
    | nil=>simp [Sl.es]at h3;omega
    | sl0=>simp [Sl.es]at h3;omega
    | @sl b off cap _ vs hc hm hr =>
      refine⟨⟨_,run b off _ cap hv h2 h3,?_⟩,rfl,rfl,rfl⟩
      have hj:n.toNat<l.es.length:=by omega
      refine⟨b,_,rfl,fun j hjj=> ?_⟩
      rw[Sl.AjB]at hjj
      obtain⟨h4,h5⟩:=hm n.toNat j hj hjj
      rw[← h1,Nat.add_assoc]
      rw[l.at_eq (by rw[← Sl.BQ];exact hj)]
      exact⟨h4,_,h5,hr n.toNat j hj hjj⟩
   ·exact(AU hok).elim
theorem Adi {x:Operand} (hf:FOk O Aa m w fet) (ho:o.op= .nilCheck x) {x':A} (hx:AB O Aa m w (a.eval x) x') (hok:AA (VL fet x').ok):Pure P O Aa m a w o (VL fet x'):=by
  unfold VL at hok ⊢
  split at hok
  ·obtain⟨cs,hcs,he⟩:=Be hok
   rw[he]at hok ⊢;clear he
   obtain⟨b,base,h1,h2,h3⟩:=hx.ptr hf (Gv hcs)
   refine⟨⟨a.eval x,?_,hx⟩,rfl,rfl,rfl⟩
   rw[h2]
   simp [execOp,ho,h2]
  ·exact(AU hok).elim
theorem Am.one {u:Value} {c:A} (h:Am O w u c):u.oneCell'=true:=by
  induction h<;>first | rfl | assumption
theorem iH {k:CK} {u:Value} {c:A} (h:Am O w u c) (hok:AA (force k c).1):AV O Aa m w u (force k c).2:=by
  cases k with
  | bool=>have:=hok.cons.1;cases h<;>simp [A.isB]at this;exact .bool _
  | int k =>
    have:=hok.cons.1
    cases h<;>simp [A.isI]at this
    have:=JL this
    subst this
    exact .int _ _
  | str=>have:=hok.cons.1;cases h<;>simp [A.isS]at this;exact .str _
  | sl e sz =>
    have:=hok.cons.1
    cases h with
    | nil t=>exact .nil _
    | sl0 a t=>exact Am.sl0 _ _
    | sl vs h1 h2 h3=>exact .sl vs h1 h2 h3
    | _=>simp [A.Afh]at this
  | ptr=>have:=hok.cons.1;cases h<;>simp [A.iU]at this;exact .Dw
  | fn =>
    have:=hok.cons.1
    cases h<;>simp [A.isFn]at this
    ·exact Am.fn _
    ·exact Am.VM
  | mp _ _=>have:=hok.cons.1;cases this
  | sln e sz =>
    have:=hok.cons.1
    cases h with
    | sln h hn=>exact .sln h hn
    | _=>simp [A.Aee]at this
  | oth=>exact h.one
theorem yD (cs:List A) (ks:List CK): ∀ off,(forces cs ks off).2.length=ks.length:=by
  induction ks with
  | nil=>intro off;rfl
  | cons k ks ih=>intro off;simp [forces,ih]
theorem Aiw (cs:List A) (ks:List CK): ∀(off:Nat) (f:Nat→Value),(∀ j,j<ks.length→Am O w (f j) (cs.getD (off+j) .undef))→AA (forces cs ks off).1 →
    ∀ j,j<ks.length→AV O Aa m w (f j) ((forces cs ks off).2.getD j .undef):=by
  induction ks with
  | nil=>intro off f _ _ j hj;simp at hj
  | cons k ks ih =>
    intro off f h hok j hj
    obtain⟨h1,h2⟩:=hok.append
    cases j with
    | zero=>exact iH (by have:=h 0 (by simp);simpa using this) h1
    | succ j =>
      have:=ih (off+1) (fun j=>f (j+1)) (fun j hj=>by have:=h (j+1) (by simpa using hj);rwa [show off+(j+1)=off+1+j from by omega]at this) h2 j (by simpa using hj)
      simpa [forces]using this
theorem Sv {t:Nat} {ti:TI} (hT:MI P t ti) {b k:Nat} (f:Nat→Value) (hc: ∀ j,j<ti.cs.length→w.cell? (at' b (k+j))=some (f j)) (h0:ti.agg=false→0<ti.cs.length) :
    (loadVar t (at' b k)).run P w= .ok (if ti.agg then .agg ((List.range ti.cs.length).map f).toArray else f 0) w:=by
  unfold loadVar
  simp only[Sem.run_bind,hT.AkK,Result.andThen_ok]
  cases hg:ti.agg with
  | true =>
    have:=run_loadCells (P:=P) w (at' b k) ti.cs.length f (fun j hj=>by rw[JD];exact hc j hj)
    simp [hT.JZ,this]
  | false =>
    have:=hc 0 (h0 hg)
    simp only[Nat.add_zero]at this
    simp [this]
theorem Acv {α :Type} {l:List α} {k: α} (h:one? l=some k):l=[k]:=by
  unfold one? at h;split at h<;>simp_all
theorem Acj {t:Nat} {ti:TI} (hT:MI P t ti) {b k off:Nat} {cs:List A} {pre:List Bool} (hc: ∀ j,j<ti.cs.length→ ∃ u,w.cell? (at' b (k+j))=some u∧Am O w u (cs.getD (off+j) .undef))
    (hok:AA (QH ti cs off pre).ok): ∃ v,(loadVar t (at' b k)).run P w= .ok v w∧AB O Aa m w v (QH ti cs off pre).val∧(QH ti cs off pre).new=[]∧(QH ti cs off pre).upd=[]∧(QH ti cs off pre).del=[]:=by
  have hf: ∀ j,j<ti.cs.length→w.cell? (at' b (k+j))=some ((w.cell? (at' b (k+j))).getD undef)∧Am O w ((w.cell? (at' b (k+j))).getD undef) (cs.getD (off+j) .undef):=by
    intro j hj
    obtain⟨u,h1,h2⟩:=hc j hj
    rw[h1];exact⟨rfl,h2⟩
  unfold QH at hok ⊢
  cases hg:ti.agg with
  | true =>
    rw[hg]at hok
    simp only[cond_true]at hok ⊢
    obtain⟨_,h2⟩:=hok.append
    refine⟨_,Sv hT (fun j=>(w.cell? (at' b (k+j))).getD undef) (fun j hj=>(hf j hj).1) (by simp [hg]),?_,rfl,rfl,rfl⟩
    rw[hg]
    refine⟨_,rfl,by simp [yD],fun j hj=> ?_⟩
    rw[yD]at hj
    have:=Aiw (Aa:=Aa) (m:=m) cs ti.cs off (fun j=>(w.cell? (at' b (k+j))).getD undef) (fun j hj=>(hf j hj).2) h2 j hj
    have e:(((List.range ti.cs.length).map fun j=>(w.cell? (at' b (k+j))).getD undef).toArray).getD j undef=(w.cell? (at' b (k+j))).getD undef:=by
      rw[Array.getD_eq_getD_getElem?];simp [hj]
    rw[e];exact this
  | false =>
    rw[hg]at hok
    simp only[cond_false]at hok ⊢
    obtain⟨kk,hk,he⟩:=Be hok
    rw[he]at hok ⊢;clear he
    have hone:=Acv hk
    obtain⟨_,h2⟩:=hok.append
    have h0:0<ti.cs.length:=by rw[hone];simp
    refine⟨_,Sv hT (fun j=>(w.cell? (at' b (k+j))).getD undef) (fun j hj=>(hf j hj).1) (fun _=>h0),?_,rfl,rfl,rfl⟩
    rw[hg]
    have:=(hf 0 h0).2
    exact(iH this h2).toT
theorem Ack {t:Nat} {x:Operand} (hC:TOk P C) (hf:FOk O Aa m w fet) (ho:o.op= .load t x) {x':A} (hx:AB O Aa m w (a.eval x) x') (hok:AA (mZ C fet t x').ok):Pure P O Aa m a w o (mZ C fet t x'):=by
  unfold mZ at hok ⊢
  obtain⟨ti,ht,he⟩:=BB hok
  rw[he]at hok ⊢;clear he
  have hT:=hC.is ht
  have run: ∀ b k v,a.eval x= .pointer (some (at' b k))→(loadVar t (at' b k)).run P w= .ok v w→(execOp a.eval o).run P w= .ok (.value v) w:=by
    intro b k v h1 h2
    simp [execOp,ho,Instr.loadAt,Instr.sureAddr,h1,h2]
  split at hok
  ·obtain⟨cs,hcs,he⟩:=Be hok
   rw[he]at hok
   rw[he];clear he
   rename_i q off
   obtain⟨b,base,h1,h2,h3⟩:=hx.ptr hf (Gv hcs)
   obtain⟨h4,h5⟩:=hok.cons
   have h4:=Nat.le_of_ble_eq_true h4
   have h5:0<ti.cs.length:=by simpa [Nat.blt_eq]using h5.cons.1
   have hc: ∀ j,j<ti.cs.length→w.cell? (at' b (base+off+j))=some ((w.cell? (at' b (base+off+j))).getD undef)∧AV O Aa m w ((w.cell? (at' b (base+off+j))).getD undef) (cs.getD (off+j) .undef):=by
     intro j hj
     obtain⟨_,_,u,h6,h7⟩:=h3 (off+j) (by omega)
     rw[Nat.add_assoc,h6];exact⟨rfl,h7⟩
   have hl:=Sv hT (fun j=>(w.cell? (at' b (base+off+j))).getD undef) (fun j hj=>(hc j hj).1) (fun _=>h5)
   refine⟨⟨_,run _ _ _ h2 hl,?_⟩,rfl,rfl,rfl⟩
   simp only[Dl.g,zT]
   cases hg:ti.agg with
   | true =>
     refine⟨_,rfl,by simp;omega,fun j hj=> ?_⟩
     simp only[List.length_take,List.length_drop]at hj
     have e:(((List.range ti.cs.length).map fun j=>(w.cell? (at' b (base+off+j))).getD undef).toArray).getD j undef=(w.cell? (at' b (base+off+j))).getD undef:=by
       rw[Array.getD_eq_getD_getElem?];simp [show j<ti.cs.length from by omega]
     have e2:((cs.drop off).take ti.cs.length).getD j .undef=cs.getD (off+j) .undef:=by
       simp only[List.getD_eq_getElem?_getD,List.getElem?_take,List.getElem?_drop]
       rw[if_pos (by omega)]
     simp only[e2]
     rw[e];exact(hc j (by omega)).2
   | false=>exact(hc 0 h5).2.toT
  ·rename_i cs
   obtain⟨b,k,h1,h2⟩:=(show AV O Aa m w _ (.elt cs)from hx)
   have hle:ti.cs.length≤cs.length:=by
     have hA:AA [Nat.ble ti.cs.length cs.length]:=by
       unfold QH at hok
       cases hg:ti.agg with
       | true=>rw[hg]at hok;exact(hok.append).1
       | false =>
         rw[hg]at hok
         obtain⟨kk,hk,he⟩:=Be hok
         simp only[cond_false]at hok
         rw[he]at hok;exact(hok.append).1
     exact Nat.le_of_ble_eq_true hA.cons.1
   obtain⟨v,h3,h4,h5,h6,h7⟩:=Acj (Aa:=Aa) (m:=m) (k:=k) (off:=0) hT (fun j hj=>by
     obtain⟨_,u,h8,h9⟩:=h2 j (by omega)
     exact⟨u,h8,by simpa using h9⟩) hok
   exact⟨⟨v,run _ _ _ h1 h3,h4⟩,h5,h6,h7⟩
  ·rename_i q i off
   obtain⟨r,hr,he⟩:=Be hok
   rw[he]at hok
   rw[he];clear he
   have hA:AA [Nat.ble (off+ti.cs.length) r.l.sz,decide (i<r.l.xs.length)]:=by
     unfold QH at hok
     cases hg:ti.agg with
     | true=>rw[hg]at hok;exact(hok.append).1
     | false =>
       rw[hg]at hok
       obtain⟨kk,hk,he⟩:=Be hok
       simp only[cond_false]at hok
       rw[he]at hok;exact(hok.append).1
   obtain⟨hle,hi⟩:=hA.cons
   have hle:=Nat.le_of_ble_eq_true hle
   have hi':i<r.l.xs.length:=by simpa using hi.cons.1
   have hi:i<r.l.es.length:=by rw[Sl.BQ];exact hi'
   obtain⟨hg,hsz,hO⟩:=hf _ _ (Gu hr)
   have hx':AV O Aa m w (a.eval x) (.CB q i off):=hx
   simp only[AV,hg,Option.map_some,Obj.shp]at hx'
   obtain⟨g,n',cap,h1,h2⟩:=hx'.2 hi
   rcases hO with ⟨_,h3,_⟩ | ⟨_,g',cap',cur,h3,h4,h5,h6,h7,h8,_⟩
   ·rw[h3]at hi;simp at hi
   ·rw[h1]at h3
    injection h3 with h3 h3' h3''
    injection h3 with h3;injection h3 with h3
    subst h3
    obtain⟨v,h13,h14,h15,h16,h17⟩:=Acj (Aa:=Aa) (m:=m) (O:=O) (b:=g) (k:=i*r.l.sz+off) (off:=off) (cs:=r.l.at i) hT (fun j hj=>by
      obtain⟨u,h9,h10⟩:=h8 i (off+j) hi (by omega)
      rw[r.l.at_eq hi']
      refine⟨u,?_,h10⟩
      rw[h4.cell,Nat.add_assoc];exact h9) hok
    exact⟨⟨v,run _ _ _ h2 h13,h14⟩,h15,h16,h17⟩
  ·exact(AU hok).elim
end
end Go.Proofs.YtadefjgbcapakaaGreatDoor.Vm
namespace Go.Proofs.YtadefjgbcapakaaGreatDoor.Vm
section
variable {P:Program} {C:Ctx} {O:Own} {Aa:List (Nat×Obj)} {m:Nat→Value} {a:Act} {w:World} {o:Oper} {fet:Fet}
def AhG (w:World) (O:Own) (v:Value) (l:Sl):Prop :=
  (∃ ad,v= .slice ad 0 0∧l.xs=[])∨ ∃ b k c,v= .slice (some (at' b k)) l.es.length c∧l.es.length≤c ∧
      ∀ i j,i<l.es.length→j<l.sz→ ∃ u,w.cell? (at' b (k+(i*l.sz+j)))=some u∧Am O w u ((l.es.getD i []).getD j .undef)
theorem Aaz {l:Sl} (h:l.es=[]):l.xs=[]:=by
  unfold Sl.es at h;exact List.map_eq_nil_iff.1 h
theorem Am.ofNil {l:Sl} (h:l.es=[]):Am O w (.slice none 0 0) (.sl l):=by
  obtain⟨t,xs⟩:=l
  have:xs=[]:=Aaz h
  subst this
  exact .nil t
theorem AnY {x:A} {v:Value} (hf:FOk O Aa m w fet) (hx:AB O Aa m w v x) (hok:AA (rd fet x).1):AhG w O v (rd fet x).2:=by
  rcases AfB hok with ⟨n,e,frz,l,rfl,hg,hl⟩ | ⟨rfl,hl⟩ | ⟨l,rfl,hl⟩<;>rw[hl]
  ·obtain⟨h1,h0,h2⟩:=hx.own hf hg
   rcases h2 with ⟨h3,h4,h5⟩ | ⟨h3,g,cap,cur,h4,h5,h6,h7,h8,h9,_⟩
   ·exact .inl ⟨none,by rw[h1,h5],Aaz h4⟩
   ·refine .inr ⟨g,0,cap,by rw[h1,h4],h6,fun i j hi hj=> ?_⟩
    obtain⟨u,h10,h11⟩:=h9 i j hi hj
    exact⟨u,by rw[Nat.zero_add,h5.cell];exact h10,h11⟩
  ·exact .inl ⟨none,hx,rfl⟩
  ·have hx':Am O w v (.sl l):=hx
   cases hx' with
   | nil=>exact .inl ⟨none,rfl,rfl⟩
   | sl0 ad=>exact .inl ⟨some ad,rfl,rfl⟩
   | @sl b off cap _ vs hc hm hr=>exact .inr ⟨b,off,cap,rfl,hc,fun i j hi hj=>⟨vs i j,(hm i j hi hj).2,hr i j hi hj⟩⟩
theorem Ah8 {t:Ty} {x:A} {v:Value} (hf:FOk O Aa m w fet) (hx:AB O Aa m w v x) (hok:AA (rdT fet t x).1):AhG w O v ⟨t,(rdT fet t x).2⟩:=by
  by_cases hn:x= .CJ
  ·subst hn
   exact .inl ⟨none,hx,rfl⟩
  ·have hr:rdT fet t x=match (rd fet x).2.cast t with | some xs=>((rd fet x).1,xs) | none=>([false],[]):=by
     cases x<;>first | rfl | exact absurd rfl hn
   rw[hr]at hok ⊢
   cases hc:(rd fet x).2.cast t with
   | none=>rw[hc]at hok;have:=hok false (by simp);cases this
   | some xs =>
     rw[hc]at hok
     dsimp only at hok ⊢
     have:=AnY hf hx hok
     rw[Sl.Jm hc]at this
     exact this
theorem Ako {n:Int} (h:isByte n=true):0≤n∧n<256:=by
  unfold isByte at h
  simpa using h
theorem Afj {d:TypeDesc} (h:Aef d=true):d= .int .u8:=by
  unfold Aef at h;split at h<;>simp_all
theorem gQ {s t:Nat} {x:Operand} (hC:TOk P C) (hf:FOk O Aa m w fet) (ho:o.op= .convert s t x) {x':A} (hx:AB O Aa m w (a.eval x) x') (hok:AA (Qu C fet s t x').ok) :
    Pure P O Aa m a w o (Qu C fet s t x'):=by
  unfold Qu at hok ⊢
  obtain⟨ts,hts,he⟩:=BB hok
  rw[he]at hok ⊢;clear he
  obtain⟨tt,htt,he⟩:=BB hok
  rw[he]at hok ⊢;clear he
  have hus:=(hC.is hts).run w
  have hut:=(hC.is htt).run w
  split at hok
  ·rename_i k j n hd
   rw[hd]at hut
   have h1:=hx.int
   refine⟨⟨.int k (k.wrap n),?_,.mkInt _ _⟩,rfl,rfl,rfl⟩
   simp only[execOp,ho,convert,Sem.run_bind,hus,hut,Result.andThen_ok,h1]
   cases ts.d<;>simp [Conv.intToInt]
  ·rename_i l hd
   rw[hd]at hut
   obtain⟨b,hb,hl⟩:=hx.str
   refine⟨⟨.string b,?_,.mkStr _ hl⟩,rfl,rfl,rfl⟩
   simp only[execOp,ho,convert,Sem.run_bind,hus,hut,Result.andThen_ok,hb]
   cases ts.d<;>simp
  ·exact(AU hok).elim
  ·rename_i y _ _ hd _ _
   rw[hd]at hut
   obtain⟨e,hel,he⟩:=Be hok
   rw[he]at hok ⊢;clear he
   obtain⟨te,hte,he⟩:=BB hok
   rw[he]at hok ⊢;clear he
   obtain⟨h1,h2⟩:=hok.cons
   obtain⟨h2,h3⟩:=h2.append
   have h3:=h3.cons.1
   have hde:=Afj h1
   have hes:=LD hel
   have hue:=(hC.is hte).d
   rw[hde]at hue
   have hus':=(hC.is hts).d
   rw[hes]at hus'
   have hr:AhG w O (a.eval x) ⟨Tt,(rdB fet y).2⟩:=Ah8 (t:=Tt) hf hx h2
   generalize hL:(rdB fet y).2=bs at *
   have hes:(⟨Tt,bs⟩:Sl).es.length=bs.length:=Sl.BQ _
   rcases hr with ⟨ad,hv,hn⟩ | ⟨b,k,c,hv,hc,hcell⟩
   ·have hn:bs=[]:=hn
    refine⟨⟨.string .empty,?_,.mkStr _ (by rw[hn];rfl)⟩,rfl,rfl,rfl⟩
    cases ad with
    | none =>
      have:=run_convert_bytes_string (P:=P) w s t e none 0 0 hus' hue (by rw[(hC.is htt).d,hd])
      simp only[execOp,ho,hv,Sem.run_bind,this]
      rfl
    | some ad =>
      have:=run_convert_bytes_back (P:=P) w s t e ad 0 [] hus' hue (by rw[(hC.is htt).d,hd]) (fun j hj=>absurd hj (Nat.not_lt_zero j))
      simp only[List.length_nil]at this
      simp only[execOp,ho,hv,Sem.run_bind,this]
      rfl
   ·refine⟨⟨.string ⟨(List.map byteOf bs).toArray⟩,?_,.mkStr _ (by simp)⟩,rfl,rfl,rfl⟩
    have:=run_convert_bytes_back (P:=P) w s t e (at' b k) c (List.map byteOf bs) hus' hue (by rw[(hC.is htt).d,hd]) (fun j hj=>by
      have hj':j<bs.length:=by simpa using hj
      obtain⟨u,h4,h5⟩:=hcell j 0 (by rw[hes];exact hj') (by show 0<1;omega)
      have hb:isByte (bs.getD j 0)=true:=by
        refine(List.all_eq_true.1 h3) _ ?_
        rw[List.getD_eq_getElem?_getD,List.getElem?_eq_getElem hj'];simp
      obtain⟨h7,h8⟩:=Ako hb
      have h6:(⟨Tt,bs⟩:Sl).es.getD j []=[A.int .u8 (bs.getD j 0)]:=by
        rw[← Sl.at_eq _ hj'];rfl
      rw[h6]at h5
      simp only[List.getD_cons_zero]at h5
      have hu:u= .int .u8 (bs.getD j 0):=by cases h5;rfl
      have h4':w.cell? (at' b (k+(j*1+0)))=some u:=h4
      rw[JD,show k+j=k+(j*1+0)from by omega,h4',hu]
      have:(List.map byteOf bs)[j]'hj=UInt8.ofNat (bs.getD j 0).toNat:=by
        rw[List.getElem_map,List.getD_eq_getElem?_getD,List.getElem?_eq_getElem hj'];rfl
      rw[this]
      have:((UInt8.ofNat (bs.getD j 0).toNat).toNat:Int)=bs.getD j 0:=by
        rw[UInt8.toNat_ofNat'];omega
      rw[this])
    simp only[List.length_map]at this
    rw[hes]at hv
    simp only[execOp,ho,hv,Sem.run_bind,this]
    rfl
  ·exact(AU hok).elim
theorem AlY {c:Call} {x y:Operand} (ho:o.op= .call c) (hcal:c.callee= .builtin .min) (hargs:c.args= #[x,y]) {x' y':A} (hx:AB O Aa m w (a.eval x) x') (hy:AB O Aa m w (a.eval y) y')
    (hok:AA (AiQ x' y').ok):Pure P O Aa m a w o (AiQ x' y'):=by
  unfold AiQ at hok ⊢
  split at hok
  ·rename_i k p k' q
   cases hk:A.kEq k k' with
   | false=>rw[hk]at hok;exact(AU hok).elim
   | true =>
     have:=JL hk
     subst this
     refine⟨⟨.int k (if q<p then q else p),?_,?_⟩,rfl,rfl,rfl⟩
     ·have h:=run_min_int2 (P:=P) (w:=w) c.argTypes o.type k k p q
      simp [execOp,ho,resolve,hcal,hargs,invoke,builtin,hx.int,hy.int,h]
     ·show AB O Aa m w _ (.int k (bif decide (q<p)then q else p))
      by_cases h:q<p<;>simp only[h,decide_true,decide_false,cond_true,cond_false,if_true,if_false]<;>exact .mkInt _ _
  ·exact(AU hok).elim
theorem AlW {c:Call} {x y:Operand} (ho:o.op= .call c) (hcal:c.callee= .builtin .max) (hargs:c.args= #[x,y]) {x' y':A} (hx:AB O Aa m w (a.eval x) x') (hy:AB O Aa m w (a.eval y) y')
    (hok:AA (AiO x' y').ok):Pure P O Aa m a w o (AiO x' y'):=by
  unfold AiO at hok ⊢
  split at hok
  ·rename_i k p k' q
   cases hk:A.kEq k k' with
   | false=>rw[hk]at hok;exact(AU hok).elim
   | true =>
     have:=JL hk
     subst this
     refine⟨⟨.int k (if q>p then q else p),?_,?_⟩,rfl,rfl,rfl⟩
     ·have h:=run_max_int2 (P:=P) (w:=w) c.argTypes o.type k k p q
      simp [execOp,ho,resolve,hcal,hargs,invoke,builtin,hx.int,hy.int,h]
     ·show AB O Aa m w _ (.int k (bif decide (p<q)then q else p))
      by_cases h:p<q<;>simp only[h,gt_iff_lt,decide_true,decide_false,cond_true,cond_false,if_true,if_false]<;>exact .mkInt _ _
  ·exact(AU hok).elim
end
