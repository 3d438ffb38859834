import Derived.Test.YtadefjgbcapakaaGreatDoorA2
import Derived.Laws.Small
import Derived.Laws.Tables
set_option linter.all false
namespace Go.Proofs.YtadefjgbcapakaaGreatDoor.Vm
section
variable {P:Program} {C:Ctx} {O:Own} {Aa:List (Nat×Obj)} {m:Nat->Value} {a:Act} {w:World} {o:Oper} {fet:Fet}
theorem getD_eq {vs:Array Value} {j:Nat} (h:j<vs.size):vs[j]? =some (vs.getD j undef):=by
  rw[Array.getD_eq_getD_getElem?,Array.getElem?_eq_getElem h];rfl
theorem AkK {t:Nat} {ti:TI} (hT:LW P t ti) {vs:Array Value} {cs:List A} {off:Nat} (h1:vs.size=cs.length) (h2: ∀ j,j<cs.length->AQ O Aa m w (vs.getD j undef) (cs.getD j .undef))
    (h3:off+ti.cs.length<=cs.length) (h4:0<ti.cs.length): ∃ v,(part t vs off).run P w= .ok v w/\T1 O Aa m w v (yM ti cs off):=by
  unfold part yM
  simp only[Sem.run_bind,hT.Aj3,Result.andThen_ok]
  cases hg:ti.agg with
  | true =>
    refine⟨.agg (vs.extract off (off+ti.cs.length)),by simp [hT.J3],_,rfl,by simp;omega,fun j hj=> ?_⟩
    simp only[List.length_take,List.length_drop]at hj
    have hb:=h2 (off+j) (by omega)
    have e1:(vs.extract off (off+ti.cs.length)).getD j undef=vs.getD (off+j) undef:=by
      rw[Array.getD_eq_getD_getElem?,Array.getD_eq_getD_getElem?,Array.getElem?_extract]
      rw[if_pos (by omega)]
    have e2:((cs.drop off).take ti.cs.length).getD j .undef=cs.getD (off+j) .undef:=by
      simp only[List.getD_eq_getElem?_getD,List.getElem?_take,List.getElem?_drop]
      rw[if_pos (by omega)]
    rw[e1];simp only[e2];exact hb
  | false =>
    have hb:=h2 off (by omega)
    refine⟨vs.getD off undef,?_,?_⟩
    ·have:=getD_eq (vs:=vs) (j:=off) (by omega)
     generalize vs.getD off undef=z at *
     simp [this]
    ·simp only[cond_false]
     generalize cs.getD off .undef=c at *
     cases c<;>first | exact hb | exact hb.elim
theorem qJ {d:TypeDesc} {f:Nat} {p:Nat×TI} (h:yO C d f=some p): ∃ fs x,d= .struct fs/\fs[f]? =some x/\x.offset=p.1/\C.T x.type=some p.2:=by
  unfold yO at h
  split at h
  ·rename_i fs
   split at h
   ·rename_i x hx
    split at h
    ·rename_i ti ht
     injection h with h;subst h
     exact⟨fs,x,rfl,by simpa using hx,rfl,ht⟩
    ·cases h
   ·cases h
  ·cases h
theorem Ahg {t f:Nat} {x:Operand} (hC:TOk P C) (ho:o.op= .field t x f) {x':A} (hx:A8 O Aa m w (a.eval x) x') (hok:A7 (wP C t f x').ok):Pure P O Aa m a w o (wP C t f x'):=by
  unfold wP at hok ⊢
  obtain⟨ti,ht,he⟩:=Bz hok
  rw[he]at hok ⊢;clear he
  obtain⟨p,hp,he⟩:=AY hok
  rw[he]at hok ⊢;clear he
  obtain⟨cs,hcs,he⟩:=AY hok
  rw[he]at hok ⊢;clear he
  obtain⟨fs,fx,hd,hfx,hoff,htf⟩:=qJ hp
  have:x'= .agg cs:=by unfold AmA at hcs;split at hcs<;>simp_all
  subst this
  obtain⟨vs,h1,h2,h3⟩:=hx
  obtain⟨h4,h5⟩:=hok.cons
  have h5:=h5.cons.1
  have h4:=Nat.le_of_ble_eq_true h4
  have h5:0<p.2.cs.length:=by simpa [Nat.blt_eq]using h5
  have hu:=(hC.is ht).run w
  rw[hd]at hu
  obtain⟨v,hv,hr⟩:=AkK (off:=p.1) (hC.is htf) h2 h3 h4 h5
  refine⟨⟨v,?_,hr.toT⟩,rfl,rfl,rfl⟩
  simp [execOp,ho,Instr.field,hu,hfx,h1,asAgg,hoff,hv]
theorem AjO {x':A} {v:Value} {off n:Nat} (hf:FOk O Aa m w fet) (hx:A8 O Aa m w v x') (hok:A7 (YM off n fet x').ok) :
    ∃ b k,v= .pointer (some (at' b k))/\A8 O Aa m w (.pointer (some (at' b (k+off)))) (YM off n fet x').val/\(YM off n fet x').new=[]/\(YM off n fet x').upd=[]/\(YM off n fet x').del=[]:=by
  unfold YM at hok ⊢
  split at hok
  ·obtain⟨cs,hcs,he⟩:=AY hok
   rw[he]at hok ⊢;clear he
   rename_i q p
   obtain⟨b,base,h1,h2,h3⟩:=hx.ptr hf (FN hcs)
   refine⟨b,base+p,h2,?_,rfl,rfl,rfl⟩
   have hg:=(hf _ _ (FN hcs)).1
   show AQ O Aa m w _ (.ptr q (p+off))
   simp only[AQ,hg,Option.map_some,Obj.shp]
   exact⟨rfl,b,base,h1,by rw[Nat.add_assoc]⟩
  ·rename_i cs
   obtain⟨b,k,h1,h2⟩:=(show AQ O Aa m w v (.elt cs)from hx)
   refine⟨b,k,h1,?_,rfl,rfl,rfl⟩
   refine⟨b,k+off,rfl,fun j hj=> ?_⟩
   simp only[List.length_drop]at hj
   have:=h2 (off+j) (by omega)
   rw[Nat.add_assoc]
   have e:(cs.drop off).getD j .undef=cs.getD (off+j) .undef:=by simp [List.getD_eq_getElem?_getD,List.getElem?_drop]
   rw[e];exact this
  ·rename_i q i p
   obtain⟨r,hr,he⟩:=AY hok
   rw[he]at hok ⊢;clear he
   have hi:i<r.l.es.length:=by rw[Sl.BP];simpa [Dl.g]using hok.cons.1
   have hx':AQ O Aa m w v (.CB q i p):=hx
   have hg:=(hf _ _ (FM hr)).1
   simp only[AQ,hg,Option.map_some,Obj.shp]at hx'
   obtain⟨g,n',cap,h1,h2⟩:=hx'.2 hi
   refine⟨g,_,h2,?_,rfl,rfl,rfl⟩
   show AQ O Aa m w _ (.CB q i (p+off))
   simp only[AQ,hg,Option.map_some,Obj.shp]
   refine⟨rfl,fun _=> ?_⟩
   exact⟨g,n',cap,h1,by rw[Nat.add_assoc]⟩
  ·exact(AO hok).elim
theorem Aa1 {t f:Nat} {x:Operand} (hC:TOk P C) (hf:FOk O Aa m w fet) (ho:o.op= .fieldAddr t x f) {x':A} (hx:A8 O Aa m w (a.eval x) x') (hok:A7 (TV C fet t f x').ok):Pure P O Aa m a w o (TV C fet t f x'):=by
  unfold TV at hok ⊢
  obtain⟨ti,ht,he⟩:=Bz hok
  rw[he]at hok ⊢;clear he
  obtain⟨p,hp,he⟩:=AY hok
  rw[he]at hok ⊢;clear he
  obtain⟨fs,fx,hd,hfx,hoff,htf⟩:=qJ hp
  obtain⟨h1,h2⟩:=hok.cons
  have h1:0<p.2.cs.length:=by simpa [Nat.blt_eq]using h1
  obtain⟨b,k,h3,h4,h5,h6,h7⟩:=AjO hf hx h2
  have hu:=(hC.is ht).run w
  rw[hd]at hu
  have hs:=(hC.is htf).J3 w
  refine⟨⟨_,?_,h4⟩,h5,h6,h7⟩
  have h0:p.2.cs.length≠0:=by omega
  simp [execOp,ho,Instr.fieldAt,hu,hfx,h3,Instr.sureAddr,fieldPlace,hs,h0,IY,hoff]
theorem Aa9 {t:Nat} {x i:Operand} (hC:TOk P C) (hf:FOk O Aa m w fet) (ho:o.op= .indexAddr t x i) {x' i':A} (hx:A8 O Aa m w (a.eval x) x') (hi:A8 O Aa m w (a.eval i) i')
    (hok:A7 (TY C fet t x' i').ok):Pure P O Aa m a w o (TY C fet t x' i'):=by
  unfold TY at hok ⊢
  split at hok
  ·rename_i q i0 off0
   obtain⟨n,hn,he⟩:=AY hok
   rw[he]at hok ⊢;clear he
   obtain⟨k,rfl⟩:=Rz hn
   have hi:=hi.int
   obtain⟨ti,ht,he⟩:=Bz hok
   rw[he]at hok ⊢;clear he
   obtain⟨p,hp,he⟩:=AY hok
   rw[he]at hok ⊢;clear he
   obtain⟨te,hte,he⟩:=Bz hok
   rw[he]at hok ⊢;clear he
   obtain⟨r,hr,he⟩:=AY hok
   rw[he]at hok ⊢;clear he
   obtain⟨h1,h2⟩:=hok.cons
   obtain⟨h2,h3⟩:=h2.cons
   obtain⟨h3,h4⟩:=h3.cons
   obtain⟨h4,h5⟩:=h4.cons
   obtain⟨h5,h6⟩:=h5.cons
   have h6:=h6.cons.1
   have h1:=Nat.eq_of_beq_eq_true h1
   have h2:=Nat.eq_of_beq_eq_true h2
   have h3:=Nat.eq_of_beq_eq_true h3
   subst h1;subst h2
   have h4:0<=n:=by simpa using h4
   have h5:n<(p.1:Int):=by simpa using h5
   have h6:n.toNat<r.l.es.length:=by rw[Sl.BP];simpa using h6
   have hx':AQ O Aa m w (a.eval x) (.CB q 0 0):=hx
   have hg:=(hf _ _ (FM hr)).1
   simp only[AQ,hg,Option.map_some,Obj.shp]at hx'
   obtain⟨g,n',cap,e1,e2⟩:=hx'.2 (by omega)
   have hd:ti.d= .array p.1 p.2:=by
     unfold AcZ at hp
     split at hp
     ·rename_i hd;injection hp with hp;rw[hd,<- hp]
     ·cases hp
   have hu:=(hC.is ht).run w
   rw[hd]at hu
   have hs:=(hC.is hte).J3 w
   refine⟨⟨.pointer (some (at' g (n.toNat*te.cs.length))),?_,?_⟩,rfl,rfl,rfl⟩
   ·have e2':a.eval x= .pointer (some (at' g 0)):=by rw[e2];simp
    simp [execOp,ho,Instr.indexAt,hi,asIntOf,hu,e2',Instr.sureAddr,h4,h5,hs,IY]
   ·show AQ O Aa m w _ (.CB q n.toNat 0)
    simp only[AQ,hg,Option.map_some,Obj.shp]
    refine⟨rfl,fun _=>⟨g,n',cap,e1,by rw[h3];rfl⟩⟩
  ·rename_i y hne
   clear hne
   obtain⟨n,hn,he⟩:=AY hok
   rw[he]at hok ⊢;clear he
   obtain⟨k,rfl⟩:=Rz hn
   have hi:=hi.int
   unfold elemOf at hok ⊢
   obtain⟨ti,ht,he⟩:=Bz hok
   rw[he]at hok ⊢;clear he
   obtain⟨e,hel,he⟩:=AY hok
   rw[he]at hok ⊢;clear he
   obtain⟨te,hte,he⟩:=Bz hok
   rw[he]at hok ⊢;clear he
   have hu:=(hC.is ht).run w
   rw[Le hel]at hu
   have hs:=(hC.is hte).J3 w
   have run: ∀ b off len cap,a.eval x= .slice (some (at' b off)) len cap->0<=n->n<(len:Int)->(execOp a.eval o).run P w= .ok (.value (.pointer (some (at' b (off+n.toNat*te.cs.length))))) w:=by
     intro b off len cap h1 h2 h3
     simp [execOp,ho,Instr.indexAt,hi,asIntOf,hu,h1,h2,h3,hs,IY]
   dsimp only at hok ⊢
   split at hok
   ·rename_i q
    obtain⟨r,hr,he⟩:=AY hok
    rw[he]at hok
    rw[he];clear he
    obtain⟨h1,h2⟩:=hok.cons
    obtain⟨h2,h3⟩:=h2.cons
    have h3:=h3.cons.1
    have h1:=Nat.eq_of_beq_eq_true h1
    have h2:0<=n:=by simpa using h2
    have h3:n<(r.l.es.length:Int):=by rw[Sl.BP];simpa using h3
    obtain⟨h4,_,h5⟩:=hx.own hf (FM hr)
    have hg:=(hf _ _ (FM hr)).1
    rcases h5 with ⟨_,h6,_⟩ | ⟨_,g,cap,cur,h6,_⟩
    ·rw[h6]at h3;simp at h3;omega
    ·refine⟨⟨_,run g 0 _ cap (by rw[h4,h6]) h2 h3,?_⟩,rfl,rfl,rfl⟩
     show AQ O Aa m w _ (.CB q n.toNat 0)
     simp only[AQ,hg,Option.map_some,Obj.shp]
     refine⟨rfl,fun _=> ?_⟩
     exact⟨g,_,_,h6,by rw[<- h1];simp⟩
   ·rename_i l
    obtain⟨h1,h2⟩:=hok.cons
    obtain⟨h0,h2⟩:=h2.cons
    obtain⟨h2,h3⟩:=h2.cons
    have h3:=h3.cons.1
    have h1:=Nat.eq_of_beq_eq_true h1
    have h2:0<=n:=by simpa using h2
    have h3:n<(l.es.length:Int):=by rw[Sl.BP];simpa using h3
    have hx':Aq O w (a.eval x) (.sl l):=hx
    generalize hv:a.eval x=v at hx'
    cases hx' with
    | nil=>simp [Sl.es]at h3;omega
    | sl0=>simp [Sl.es]at h3;omega
    | @sl b off cap _ vs hc hm hr =>
      refine⟨⟨_,run b off _ cap hv h2 h3,?_⟩,rfl,rfl,rfl⟩
      have hj:n.toNat<l.es.length:=by omega
      refine⟨b,_,rfl,fun j hjj=> ?_⟩
      rw[Sl.Air]at hjj
      obtain⟨h4,h5⟩:=hm n.toNat j hj hjj
      rw[<- h1,Nat.add_assoc]
      rw[l.at_eq (by rw[<- Sl.BP];exact hj)]
      exact⟨h4,_,h5,hr n.toNat j hj hjj⟩
   ·exact(AO hok).elim
theorem Acy {x:Operand} (hf:FOk O Aa m w fet) (ho:o.op= .nilCheck x) {x':A} (hx:A8 O Aa m w (a.eval x) x') (hok:A7 (Wy fet x').ok):Pure P O Aa m a w o (Wy fet x'):=by
  unfold Wy at hok ⊢
  split at hok
  ·obtain⟨cs,hcs,he⟩:=AY hok
   rw[he]at hok ⊢;clear he
   obtain⟨b,base,h1,h2,h3⟩:=hx.ptr hf (FN hcs)
   refine⟨⟨a.eval x,?_,hx⟩,rfl,rfl,rfl⟩
   rw[h2]
   simp [execOp,ho,h2]
  ·exact(AO hok).elim
theorem Aq.one {u:Value} {c:A} (h:Aq O w u c):u.oneCell'=true:=by
  induction h<;>first | rfl | assumption
theorem iR {k:CK} {u:Value} {c:A} (h:Aq O w u c) (hok:A7 (force k c).1):AQ O Aa m w u (force k c).2:=by
  cases k with
  | bool=>have:=hok.cons.1;cases h<;>simp [A.isB]at this;exact .bool _
  | int k =>
    have:=hok.cons.1
    cases h<;>simp [A.isI]at this
    have:=Jj this
    subst this
    exact .int _ _
  | str=>have:=hok.cons.1;cases h<;>simp [A.isS]at this;exact .str _
  | sl e sz =>
    have:=hok.cons.1
    cases h with
    | nil t=>exact .nil _
    | sl0 a t=>exact Aq.sl0 _ _
    | sl vs h1 h2 h3=>exact .sl vs h1 h2 h3
    | _=>simp [A.Aes]at this
  | ptr=>have:=hok.cons.1;cases h<;>simp [A.jF]at this;exact .Dn
  | fn =>
    have:=hok.cons.1
    cases h<;>simp [A.isFn]at this
    ·exact Aq.fn _
    ·exact Aq.WA
  | mp _ _=>have:=hok.cons.1;cases this
  | sln e sz =>
    have:=hok.cons.1
    cases h with
    | sln h hn=>exact .sln h hn
    | _=>simp [A.Adl]at this
  | oth=>exact h.one
theorem wV (cs:List A) (ks:List CK): ∀ off,(forces cs ks off).2.length=ks.length:=by
  induction ks with
  | nil=>intro off;rfl
  | cons k ks ih=>intro off;simp [forces,ih]
theorem Ahk (cs:List A) (ks:List CK): ∀(off:Nat) (f:Nat->Value),(∀ j,j<ks.length->Aq O w (f j) (cs.getD (off+j) .undef))->A7 (forces cs ks off).1 ->
    ∀ j,j<ks.length->AQ O Aa m w (f j) ((forces cs ks off).2.getD j .undef):=by
  induction ks with
  | nil=>intro off f _ _ j hj;simp at hj
  | cons k ks ih =>
    intro off f h hok j hj
    obtain⟨h1,h2⟩:=hok.append
    cases j with
    | zero=>exact iR (by have:=h 0 (by simp);simpa using this) h1
    | succ j =>
      have:=ih (off+1) (fun j=>f (j+1)) (fun j hj=>by have:=h (j+1) (by simpa using hj);rwa [show off+(j+1)=off+1+j from by omega]at this) h2 j (by simpa using hj)
      simpa [forces]using this
theorem SB {t:Nat} {ti:TI} (hT:LW P t ti) {b k:Nat} (f:Nat->Value) (hc: ∀ j,j<ti.cs.length->w.cell? (at' b (k+j))=some (f j)) (h0:ti.agg=false->0<ti.cs.length) :
    (loadVar t (at' b k)).run P w= .ok (if ti.agg then .agg ((List.range ti.cs.length).map f).toArray else f 0) w:=by
  unfold loadVar
  simp only[Sem.run_bind,hT.Aj3,Result.andThen_ok]
  cases hg:ti.agg with
  | true =>
    have:=run_loadCells (P:=P) w (at' b k) ti.cs.length f (fun j hj=>by rw[IY];exact hc j hj)
    simp [hT.J3,this]
  | false =>
    have:=hc 0 (h0 hg)
    simp only[Nat.add_zero]at this
    simp [this]
theorem AbK {α :Type} {l:List α} {k: α} (h:one? l=some k):l=[k]:=by
  unfold one? at h;split at h<;>simp_all
theorem Ab8 {t:Nat} {ti:TI} (hT:LW P t ti) {b k off:Nat} {cs:List A} {pre:List Bool} (hc: ∀ j,j<ti.cs.length-> ∃ u,w.cell? (at' b (k+j))=some u/\Aq O w u (cs.getD (off+j) .undef))
    (hok:A7 (QW ti cs off pre).ok): ∃ v,(loadVar t (at' b k)).run P w= .ok v w/\A8 O Aa m w v (QW ti cs off pre).val/\(QW ti cs off pre).new=[]/\(QW ti cs off pre).upd=[]/\(QW ti cs off pre).del=[]:=by
  have hf: ∀ j,j<ti.cs.length->w.cell? (at' b (k+j))=some ((w.cell? (at' b (k+j))).getD undef)/\Aq O w ((w.cell? (at' b (k+j))).getD undef) (cs.getD (off+j) .undef):=by
    intro j hj
    obtain⟨u,h1,h2⟩:=hc j hj
    rw[h1];exact⟨rfl,h2⟩
  unfold QW at hok ⊢
  cases hg:ti.agg with
  | true =>
    rw[hg]at hok
    simp only[cond_true]at hok ⊢
    obtain⟨_,h2⟩:=hok.append
    refine⟨_,SB hT (fun j=>(w.cell? (at' b (k+j))).getD undef) (fun j hj=>(hf j hj).1) (by simp [hg]),?_,rfl,rfl,rfl⟩
    rw[hg]
    refine⟨_,rfl,by simp [wV],fun j hj=> ?_⟩
    rw[wV]at hj
    have:=Ahk (Aa:=Aa) (m:=m) cs ti.cs off (fun j=>(w.cell? (at' b (k+j))).getD undef) (fun j hj=>(hf j hj).2) h2 j hj
    have e:(((List.range ti.cs.length).map fun j=>(w.cell? (at' b (k+j))).getD undef).toArray).getD j undef=(w.cell? (at' b (k+j))).getD undef:=by
      rw[Array.getD_eq_getD_getElem?];simp [hj]
    rw[e];exact this
  | false =>
    rw[hg]at hok
    simp only[cond_false]at hok ⊢
    obtain⟨kk,hk,he⟩:=AY hok
    rw[he]at hok ⊢;clear he
    have hone:=AbK hk
    obtain⟨_,h2⟩:=hok.append
    have h0:0<ti.cs.length:=by rw[hone];simp
    refine⟨_,SB hT (fun j=>(w.cell? (at' b (k+j))).getD undef) (fun j hj=>(hf j hj).1) (fun _=>h0),?_,rfl,rfl,rfl⟩
    rw[hg]
    have:=(hf 0 h0).2
    exact(iR this h2).toT
theorem Ab9 {t:Nat} {x:Operand} (hC:TOk P C) (hf:FOk O Aa m w fet) (ho:o.op= .load t x) {x':A} (hx:A8 O Aa m w (a.eval x) x') (hok:A7 (nK C fet t x').ok):Pure P O Aa m a w o (nK C fet t x'):=by
  unfold nK at hok ⊢
  obtain⟨ti,ht,he⟩:=Bz hok
  rw[he]at hok ⊢;clear he
  have hT:=hC.is ht
  have run: ∀ b k v,a.eval x= .pointer (some (at' b k))->(loadVar t (at' b k)).run P w= .ok v w->(execOp a.eval o).run P w= .ok (.value v) w:=by
    intro b k v h1 h2
    simp [execOp,ho,Instr.loadAt,Instr.sureAddr,h1,h2]
  split at hok
  ·obtain⟨cs,hcs,he⟩:=AY hok
   rw[he]at hok
   rw[he];clear he
   rename_i q off
   obtain⟨b,base,h1,h2,h3⟩:=hx.ptr hf (FN hcs)
   obtain⟨h4,h5⟩:=hok.cons
   have h4:=Nat.le_of_ble_eq_true h4
   have h5:0<ti.cs.length:=by simpa [Nat.blt_eq]using h5.cons.1
   have hc: ∀ j,j<ti.cs.length->w.cell? (at' b (base+off+j))=some ((w.cell? (at' b (base+off+j))).getD undef)/\AQ O Aa m w ((w.cell? (at' b (base+off+j))).getD undef) (cs.getD (off+j) .undef):=by
     intro j hj
     obtain⟨_,_,u,h6,h7⟩:=h3 (off+j) (by omega)
     rw[Nat.add_assoc,h6];exact⟨rfl,h7⟩
   have hl:=SB hT (fun j=>(w.cell? (at' b (base+off+j))).getD undef) (fun j hj=>(hc j hj).1) (fun _=>h5)
   refine⟨⟨_,run _ _ _ h2 hl,?_⟩,rfl,rfl,rfl⟩
   simp only[Dl.g,yM]
   cases hg:ti.agg with
   | true =>
     refine⟨_,rfl,by simp;omega,fun j hj=> ?_⟩
     simp only[List.length_take,List.length_drop]at hj
     have e:(((List.range ti.cs.length).map fun j=>(w.cell? (at' b (base+off+j))).getD undef).toArray).getD j undef=(w.cell? (at' b (base+off+j))).getD undef:=by
       rw[Array.getD_eq_getD_getElem?];simp [show j<ti.cs.length from by omega]
     have e2:((cs.drop off).take ti.cs.length).getD j .undef=cs.getD (off+j) .undef:=by
       simp only[List.getD_eq_getElem?_getD,List.getElem?_take,List.getElem?_drop]
       rw[if_pos (by omega)]
     simp only[e2]
     rw[e];exact(hc j (by omega)).2
   | false=>exact(hc 0 h5).2.toT
  ·rename_i cs
   obtain⟨b,k,h1,h2⟩:=(show AQ O Aa m w _ (.elt cs)from hx)
   have hle:ti.cs.length<=cs.length:=by
     have hA:A7 [Nat.ble ti.cs.length cs.length]:=by
       unfold QW at hok
       cases hg:ti.agg with
       | true=>rw[hg]at hok;exact(hok.append).1
       | false =>
         rw[hg]at hok
         obtain⟨kk,hk,he⟩:=AY hok
         simp only[cond_false]at hok
         rw[he]at hok;exact(hok.append).1
     exact Nat.le_of_ble_eq_true hA.cons.1
   obtain⟨v,h3,h4,h5,h6,h7⟩:=Ab8 (Aa:=Aa) (m:=m) (k:=k) (off:=0) hT (fun j hj=>by
     obtain⟨_,u,h8,h9⟩:=h2 j (by omega)
     exact⟨u,h8,by simpa using h9⟩) hok
   exact⟨⟨v,run _ _ _ h1 h3,h4⟩,h5,h6,h7⟩
  ·rename_i q i off
   obtain⟨r,hr,he⟩:=AY hok
   rw[he]at hok
   rw[he];clear he
   have hA:A7 [Nat.ble (off+ti.cs.length) r.l.sz,decide (i<r.l.xs.length)]:=by
     unfold QW at hok
     cases hg:ti.agg with
     | true=>rw[hg]at hok;exact(hok.append).1
     | false =>
       rw[hg]at hok
       obtain⟨kk,hk,he⟩:=AY hok
       simp only[cond_false]at hok
       rw[he]at hok;exact(hok.append).1
   obtain⟨hle,hi⟩:=hA.cons
   have hle:=Nat.le_of_ble_eq_true hle
   have hi':i<r.l.xs.length:=by simpa using hi.cons.1
   have hi:i<r.l.es.length:=by rw[Sl.BP];exact hi'
   obtain⟨hg,hsz,hO⟩:=hf _ _ (FM hr)
   have hx':AQ O Aa m w (a.eval x) (.CB q i off):=hx
   simp only[AQ,hg,Option.map_some,Obj.shp]at hx'
   obtain⟨g,n',cap,h1,h2⟩:=hx'.2 hi
   rcases hO with ⟨_,h3,_⟩ | ⟨_,g',cap',cur,h3,h4,h5,h6,h7,h8,_⟩
   ·rw[h3]at hi;simp at hi
   ·rw[h1]at h3
    injection h3 with h3 h3' h3''
    injection h3 with h3;injection h3 with h3
    subst h3
    obtain⟨v,h13,h14,h15,h16,h17⟩:=Ab8 (Aa:=Aa) (m:=m) (O:=O) (b:=g) (k:=i*r.l.sz+off) (off:=off) (cs:=r.l.at i) hT (fun j hj=>by
      obtain⟨u,h9,h10⟩:=h8 i (off+j) hi (by omega)
      rw[r.l.at_eq hi']
      refine⟨u,?_,h10⟩
      rw[h4.cell,Nat.add_assoc];exact h9) hok
    exact⟨⟨v,run _ _ _ h2 h13,h14⟩,h15,h16,h17⟩
  ·exact(AO hok).elim
end
end Go.Proofs.YtadefjgbcapakaaGreatDoor.Vm
namespace Go.Proofs.YtadefjgbcapakaaGreatDoor.Vm
section
variable {P:Program} {C:Ctx} {O:Own} {Aa:List (Nat×Obj)} {m:Nat->Value} {a:Act} {w:World} {o:Oper} {fet:Fet}
def Ag1 (w:World) (O:Own) (v:Value) (l:Sl):Prop :=
  (∃ ad,v= .slice ad 0 0/\l.xs=[])\/ ∃ b k c,v= .slice (some (at' b k)) l.es.length c/\l.es.length<=c /\
      ∀ i j,i<l.es.length->j<l.sz-> ∃ u,w.cell? (at' b (k+(i*l.sz+j)))=some u/\Aq O w u ((l.es.getD i []).getD j .undef)
theorem zZ {l:Sl} (h:l.es=[]):l.xs=[]:=by
  unfold Sl.es at h;exact List.map_eq_nil_iff.1 h
theorem Aq.ofNil {l:Sl} (h:l.es=[]):Aq O w (.slice none 0 0) (.sl l):=by
  obtain⟨t,xs⟩:=l
  have:xs=[]:=zZ h
  subst this
  exact .nil t
theorem Anj {x:A} {v:Value} (hf:FOk O Aa m w fet) (hx:A8 O Aa m w v x) (hok:A7 (rd fet x).1):Ag1 w O v (rd fet x).2:=by
  rcases AeN hok with ⟨n,e,frz,l,rfl,hg,hl⟩ | ⟨rfl,hl⟩ | ⟨l,rfl,hl⟩<;>rw[hl]
  ·obtain⟨h1,h0,h2⟩:=hx.own hf hg
   rcases h2 with ⟨h3,h4,h5⟩ | ⟨h3,g,cap,cur,h4,h5,h6,h7,h8,h9,_⟩
   ·exact .inl ⟨none,by rw[h1,h5],zZ h4⟩
   ·refine .inr ⟨g,0,cap,by rw[h1,h4],h6,fun i j hi hj=> ?_⟩
    obtain⟨u,h10,h11⟩:=h9 i j hi hj
    exact⟨u,by rw[Nat.zero_add,h5.cell];exact h10,h11⟩
  ·exact .inl ⟨none,hx,rfl⟩
  ·have hx':Aq O w v (.sl l):=hx
   cases hx' with
   | nil=>exact .inl ⟨none,rfl,rfl⟩
   | sl0 ad=>exact .inl ⟨some ad,rfl,rfl⟩
   | @sl b off cap _ vs hc hm hr=>exact .inr ⟨b,off,cap,rfl,hc,fun i j hi hj=>⟨vs i j,(hm i j hi hj).2,hr i j hi hj⟩⟩
theorem Agu {t:Ty} {x:A} {v:Value} (hf:FOk O Aa m w fet) (hx:A8 O Aa m w v x) (hok:A7 (rdT fet t x).1):Ag1 w O v ⟨t,(rdT fet t x).2⟩:=by
  by_cases hn:x= .CG
  ·subst hn
   exact .inl ⟨none,hx,rfl⟩
  ·have hr:rdT fet t x=match (rd fet x).2.cast t with | some xs=>((rd fet x).1,xs) | none=>([false],[]):=by
     cases x<;>first | rfl | exact absurd rfl hn
   rw[hr]at hok ⊢
   cases hc:(rd fet x).2.cast t with
   | none=>rw[hc]at hok;have:=hok false (by simp);cases this
   | some xs =>
     rw[hc]at hok
     dsimp only at hok ⊢
     have:=Anj hf hx hok
     rw[Sl.I7 hc]at this
     exact this
theorem Aja {n:Int} (h:isByte n=true):0<=n/\n<256:=by
  unfold isByte at h
  simpa using h
theorem Aeu {d:TypeDesc} (h:Adm d=true):d= .int .u8:=by
  unfold Adm at h;split at h<;>simp_all
theorem gZ {s t:Nat} {x:Operand} (hC:TOk P C) (hf:FOk O Aa m w fet) (ho:o.op= .convert s t x) {x':A} (hx:A8 O Aa m w (a.eval x) x') (hok:A7 (Qz C fet s t x').ok) :
    Pure P O Aa m a w o (Qz C fet s t x'):=by
  unfold Qz at hok ⊢
  obtain⟨ts,hts,he⟩:=Bz hok
  rw[he]at hok ⊢;clear he
  obtain⟨tt,htt,he⟩:=Bz hok
  rw[he]at hok ⊢;clear he
  have hus:=(hC.is hts).run w
  have hut:=(hC.is htt).run w
  split at hok
  ·rename_i k j n hd
   rw[hd]at hut
   have h1:=hx.int
   refine⟨⟨.int k (k.wrap n),?_,.mkInt _ _⟩,rfl,rfl,rfl⟩
   simp only[execOp,ho,convert,Sem.run_bind,hus,hut,Result.andThen_ok,h1]
   cases ts.d<;>simp [Conv.intToInt]
  ·rename_i l hd
   rw[hd]at hut
   obtain⟨b,hb,hl⟩:=hx.str
   refine⟨⟨.string b,?_,.mkStr _ hl⟩,rfl,rfl,rfl⟩
   simp only[execOp,ho,convert,Sem.run_bind,hus,hut,Result.andThen_ok,hb]
   cases ts.d<;>simp
  ·exact(AO hok).elim
  ·rename_i y _ _ hd _ _
   rw[hd]at hut
   obtain⟨e,hel,he⟩:=AY hok
   rw[he]at hok ⊢;clear he
   obtain⟨te,hte,he⟩:=Bz hok
   rw[he]at hok ⊢;clear he
   obtain⟨h1,h2⟩:=hok.cons
   obtain⟨h2,h3⟩:=h2.append
   have h3:=h3.cons.1
   have hde:=Aeu h1
   have hes:=Le hel
   have hue:=(hC.is hte).d
   rw[hde]at hue
   have hus':=(hC.is hts).d
   rw[hes]at hus'
   have hr:Ag1 w O (a.eval x) ⟨TP,(rdB fet y).2⟩:=Agu (t:=TP) hf hx h2
   generalize hL:(rdB fet y).2=bs at *
   have hes:(⟨TP,bs⟩:Sl).es.length=bs.length:=Sl.BP _
   rcases hr with ⟨ad,hv,hn⟩ | ⟨b,k,c,hv,hc,hcell⟩
   ·have hn:bs=[]:=hn
    refine⟨⟨.string .empty,?_,.mkStr _ (by rw[hn];rfl)⟩,rfl,rfl,rfl⟩
    cases ad with
    | none =>
      have:=run_convert_bytes_string (P:=P) w s t e none 0 0 hus' hue (by rw[(hC.is htt).d,hd])
      simp only[execOp,ho,hv,Sem.run_bind,this]
      rfl
    | some ad =>
      have:=run_convert_bytes_back (P:=P) w s t e ad 0 [] hus' hue (by rw[(hC.is htt).d,hd]) (fun j hj=>absurd hj (Nat.not_lt_zero j))
      simp only[List.length_nil]at this
      simp only[execOp,ho,hv,Sem.run_bind,this]
      rfl
   ·refine⟨⟨.string ⟨(List.map byteOf bs).toArray⟩,?_,.mkStr _ (by simp)⟩,rfl,rfl,rfl⟩
    have:=run_convert_bytes_back (P:=P) w s t e (at' b k) c (List.map byteOf bs) hus' hue (by rw[(hC.is htt).d,hd]) (fun j hj=>by
      have hj':j<bs.length:=by simpa using hj
      obtain⟨u,h4,h5⟩:=hcell j 0 (by rw[hes];exact hj') (by show 0<1;omega)
      have hb:isByte (bs.getD j 0)=true:=by
        refine(List.all_eq_true.1 h3) _ ?_
        rw[List.getD_eq_getElem?_getD,List.getElem?_eq_getElem hj'];simp
      obtain⟨h7,h8⟩:=Aja hb
      have h6:(⟨TP,bs⟩:Sl).es.getD j []=[A.int .u8 (bs.getD j 0)]:=by
        rw[<- Sl.at_eq _ hj'];rfl
      rw[h6]at h5
      simp only[List.getD_cons_zero]at h5
      have hu:u= .int .u8 (bs.getD j 0):=by cases h5;rfl
      have h4':w.cell? (at' b (k+(j*1+0)))=some u:=h4
      rw[IY,show k+j=k+(j*1+0)from by omega,h4',hu]
      have:(List.map byteOf bs)[j]'hj=UInt8.ofNat (bs.getD j 0).toNat:=by
        rw[List.getElem_map,List.getD_eq_getElem?_getD,List.getElem?_eq_getElem hj'];rfl
      rw[this]
      have:((UInt8.ofNat (bs.getD j 0).toNat).toNat:Int)=bs.getD j 0:=by
        rw[UInt8.toNat_ofNat'];omega
      rw[this])
    simp only[List.length_map]at this
    rw[hes]at hv
    simp only[execOp,ho,hv,Sem.run_bind,this]
    rfl
  ·exact(AO hok).elim
theorem AkC {c:Call} {x y:Operand} (ho:o.op= .call c) (hcal:c.callee= .builtin .min) (hargs:c.args= #[x,y]) {x' y':A} (hx:A8 O Aa m w (a.eval x) x') (hy:A8 O Aa m w (a.eval y) y')
    (hok:A7 (Ah7 x' y').ok):Pure P O Aa m a w o (Ah7 x' y'):=by
  unfold Ah7 at hok ⊢
  split at hok
  ·rename_i k p k' q
   cases hk:A.kEq k k' with
   | false=>rw[hk]at hok;exact(AO hok).elim
   | true =>
     have:=Jj hk
     subst this
     refine⟨⟨.int k (if q<p then q else p),?_,?_⟩,rfl,rfl,rfl⟩
     ·have h:=run_min_int2 (P:=P) (w:=w) c.argTypes o.type k k p q
      simp [execOp,ho,resolve,hcal,hargs,invoke,builtin,hx.int,hy.int,h]
     ·show A8 O Aa m w _ (.int k (bif decide (q<p)then q else p))
      by_cases h:q<p<;>simp only[h,decide_true,decide_false,cond_true,cond_false,if_true,if_false]<;>exact .mkInt _ _
  ·exact(AO hok).elim
theorem AkA {c:Call} {x y:Operand} (ho:o.op= .call c) (hcal:c.callee= .builtin .max) (hargs:c.args= #[x,y]) {x' y':A} (hx:A8 O Aa m w (a.eval x) x') (hy:A8 O Aa m w (a.eval y) y')
    (hok:A7 (Ah5 x' y').ok):Pure P O Aa m a w o (Ah5 x' y'):=by
  unfold Ah5 at hok ⊢
  split at hok
  ·rename_i k p k' q
   cases hk:A.kEq k k' with
   | false=>rw[hk]at hok;exact(AO hok).elim
   | true =>
     have:=Jj hk
     subst this
     refine⟨⟨.int k (if q>p then q else p),?_,?_⟩,rfl,rfl,rfl⟩
     ·have h:=run_max_int2 (P:=P) (w:=w) c.argTypes o.type k k p q
      simp [execOp,ho,resolve,hcal,hargs,invoke,builtin,hx.int,hy.int,h]
     ·show A8 O Aa m w _ (.int k (bif decide (p<q)then q else p))
      by_cases h:p<q<;>simp only[h,gt_iff_lt,decide_true,decide_false,cond_true,cond_false,if_true,if_false]<;>exact .mkInt _ _
  ·exact(AO hok).elim
end
end Go.Proofs.YtadefjgbcapakaaGreatDoor.Vm
namespace Go.Proofs.YtadefjgbcapakaaGreatDoor.Vm
section
variable {P:Program} {C:Ctx} {O:Own} {Aa:List (Nat×Obj)} {m:Nat->Value} {a:Act} {w:World} {o:Oper} {fet:Fet}
def JD (O:Own) (Aa:List (Nat×Obj)) (m:Nat->Value) (w:World) (vs:Array Value) (cs:List A):Prop :=
  vs.size=cs.length/\ ∀ j,j<cs.length->AQ O Aa m w (vs.getD j undef) (cs.getD j .undef)
theorem AQ.one {v:Value} {x:A} (h:AQ O Aa m w v x):v.oneCell'=true:=by
  cases x with
  | undef=>exact h
  | bool _=>cases h;rfl
  | int _ _=>cases h;rfl
  | str _=>cases h;rfl
  | sl _=>cases h<;>rfl
  | sln _=>exact Aq.one h
  | CG=>have h':v=_:=h;subst h';rfl
  | Dn=>cases h;rfl
  | ptr _ _=>exact h.1
  | own _=>exact h.1
  | CB _ _ _=>exact h.1
  | elt _=>obtain⟨_,_,h,_⟩:=h;subst h;rfl
  | fn _=>cases h<;>rfl
  | _=>exact h.elim
theorem oneCell_cells {v:Value} (h:v.oneCell'=true):v.cells= #[v]:=by cases v<;>first | rfl | cases h
theorem A8.cells {v:Value} {x:A} (h:A8 O Aa m w v x) (hv:x.isVal=true):JD O Aa m w v.cells x.cells:=by
  have cell:AQ O Aa m w v x->x.cells=[x]->JD O Aa m w v.cells x.cells:=by
    intro hc he
    rw[he,oneCell_cells hc.one]
    refine⟨rfl,fun j hj=> ?_⟩
    have:j=0:=by simpa using hj
    subst this;exact hc
  cases x with
  | agg cs =>
    obtain⟨vs,h1,h2,h3⟩:=h
    subst h1;exact⟨h2,h3⟩
  | undef=>cases hv
  | tup _=>cases hv
  | usl _ _=>cases hv
  | ump _=>cases hv
  | box _=>cases hv
  | cnd _ _=>cases hv
  | _=>exact cell h rfl
theorem Lh (l:List Value): ∀(k off:Nat) (cs:Array Value) (i:Nat),off+k+l.length<=cs.size ->
    ((l.zipIdx k).foldl (fun cs (p:Value×Nat)=>cs.setIfInBounds (off+p.2) p.1) cs).size=cs.size /\
    ((l.zipIdx k).foldl (fun cs (p:Value×Nat)=>cs.setIfInBounds (off+p.2) p.1) cs).getD i undef=if off+k<=i/\i<off+k+l.length then l.getD (i - (off+k)) undef else cs.getD i undef:=by
  induction l with
  | nil =>
    intro k off cs i _
    refine⟨rfl,?_⟩
    rw[if_neg (by simp)];rfl
  | cons v l ih =>
    intro k off cs i h
    simp only[List.zipIdx_cons,List.foldl_cons]
    simp only[List.length_cons]at h ⊢
    obtain⟨h1,h2⟩:=ih (k+1) off (cs.setIfInBounds (off+k) v) i (by simp;omega)
    refine⟨by rw[h1];simp,?_⟩
    rw[h2]
    by_cases hi:off+(k+1)<=i/\i<off+(k+1)+l.length
    ·rw[if_pos hi,if_pos (by omega),show i - (off+k)=(i - (off+(k+1)))+1 from by omega];rfl
    ·rw[if_neg hi]
     by_cases hk:i=off+k
     ·subst hk
      rw[if_pos (by omega),Array.getD_eq_getD_getElem?,Array.getElem?_setIfInBounds]
      rw[if_pos rfl,if_pos (by omega)]
      simp
     ·rw[if_neg (by omega),Array.getD_eq_getD_getElem?,Array.getElem?_setIfInBounds,if_neg (by omega),<- Array.getD_eq_getD_getElem?]
theorem X0 (l:List A) (off:Nat) (vs:List A) (i:Nat) (h:off+vs.length<=l.length):(splice l off vs).getD i .undef=if off<=i/\i<off+vs.length then vs.getD (i - off) .undef else l.getD i .undef:=by
  unfold splice
  simp only[List.getD_eq_getElem?_getD]
  by_cases h1:i<off
  ·rw[if_neg (by omega),List.append_assoc,List.getElem?_append_left (by simp;omega),List.getElem?_take,if_pos h1]
  ·by_cases h2:i<off+vs.length
   ·rw[if_pos ⟨by omega,h2⟩,List.append_assoc,List.getElem?_append_right (by simp;omega)]
    simp only[List.length_take,Nat.min_eq_left (show off<=l.length from by omega)]
    rw[List.getElem?_append_left (by omega)]
   ·rw[if_neg (by omega),List.getElem?_append_right (by simp;omega)]
    simp only[List.length_append,List.length_take,Nat.min_eq_left (show off<=l.length from by omega),List.getElem?_drop]
    rw[show off+vs.length+(i - (off+vs.length))=i from by omega]
theorem Nv (l:List A) (off:Nat) (vs:List A) (h:off+vs.length<=l.length):(splice l off vs).length=l.length:=by
  unfold splice;simp;omega
theorem JD.splice {vs us:Array Value} {cs xs:List A} {off:Nat} (h:JD O Aa m w vs cs) (hu:JD O Aa m w us xs) (hle:off+xs.length<=cs.length) :
    JD O Aa m w (us.zipIdx.foldl (fun cs (c,j)=>cs.setIfInBounds (off+j) c) vs) (splice cs off xs):=by
  have e:us.zipIdx.foldl (fun cs (c,j)=>cs.setIfInBounds (off+j) c) vs=(us.toList.zipIdx 0).foldl (fun cs (p:Value×Nat)=>cs.setIfInBounds (off+p.2) p.1) vs:=by
    rw[<- Array.foldl_toList];simp
  rw[e]
  have hl:off+0+us.toList.length<=vs.size:=by rw[Array.length_toList,hu.1,h.1];omega
  refine⟨by rw[(Lh us.toList 0 off vs 0 hl).1,h.1,Nv _ _ _ hle],fun j hj=> ?_⟩
  rw[Nv _ _ _ hle]at hj
  rw[(Lh us.toList 0 off vs j hl).2,X0 _ _ _ _ hle]
  rw[Array.length_toList,hu.1]
  by_cases hi:off<=j/\j<off+xs.length
  ·rw[if_pos (by omega),if_pos hi,Nat.add_zero]
   have:=hu.2 (j - off) (by omega)
   have e:us.toList.getD (j - off) undef=us.getD (j - off) undef:=by
     rw[Array.getD_eq_getD_getElem?,List.getD_eq_getElem?_getD,Array.getElem?_toList]
   rw[e];exact this
  ·rw[if_neg (by omega),if_neg hi];exact h.2 j hj
def Yy (P:Program) (d:TypeDesc) (i:Nat):Option (Nat×Nat) :=
  match d with
  | .struct fs=>(fs[i]?).bind fun f=>(P.info? f.type).map fun j=>(f.offset,j.size)
  | .array _ e=>(P.info? e).map fun j=>(i*j.size,j.size)
  | _=>none
theorem Akr (hC:TOk P C) {d:TypeDesc} {place:Nat->Option (Nat×Nat)} (hp: ∀ i p,Yy P d i=some p->place i=some p): ∀(xs:List (Nat×A)) (ps:List (Nat×Value)) (vs:Array Value) (cs cs':List A),
    xs.length=ps.length->(∀(j:Nat) (x:Nat×A) (p:Nat×Value),xs[j]? =some x->ps[j]? =some p->p.1=x.1/\A8 O Aa m w p.2 x.2)->JD O Aa m w vs cs->fill C d xs cs=some cs' ->
    ∃ vs',Instr.fill place vs ps=some vs'/\JD O Aa m w vs' cs':=by
  intro xs
  induction xs with
  | nil =>
    intro ps vs cs cs' hl _ hcs hf
    cases ps with
    | nil=>simp only[fill]at hf;injection hf with hf;subst hf;exact⟨vs,rfl,hcs⟩
    | cons _ _=>simp at hl
  | cons x xs ih =>
    intro ps vs cs cs' hl hr hcs hf
    cases ps with
    | nil=>simp at hl
    | cons p ps =>
      obtain⟨i,x⟩:=x
      obtain⟨i',v⟩:=p
      obtain⟨h1,h2⟩:=hr 0 (i,x) (i',v) rfl rfl
      dsimp only at h1 h2
      subst h1
      simp only[fill]at hf
      cases hpl:AaN C d i' with
      | none=>rw[hpl]at hf;cases hf
      | some q =>
        obtain⟨off,ti⟩:=q
        rw[hpl]at hf
        dsimp only at hf
        cases hb:(x.isVal&&Nat.beq x.cells.length ti.cs.length&&Nat.ble (off+ti.cs.length) cs.length)with
        | false=>rw[hb]at hf;cases hf
        | true =>
          rw[hb]at hf
          simp only[cond_true]at hf
          simp only[Bool.and_eq_true,KE,decide_eq_true_eq]at hb
          obtain⟨⟨hb1,hb2⟩,hb3⟩:=hb
          have hb3:=Nat.le_of_ble_eq_true hb3
          have hv:=h2.cells hb1
          have hpv:Yy P d i'=some (off,ti.cs.length):=by
            unfold AaN at hpl
            unfold Yy
            split at hpl
            ·rename_i fs
             split at hpl
             ·rename_i f hf'
              split at hpl
              ·rename_i tf htf
               injection hpl with hpl;injection hpl with e1 e2
               subst e1;subst e2
               obtain⟨i0,z,h3,h4,_⟩:=(hC.is htf).i
               have:fs[i']? =some f:=by simpa using hf'
               simp [this,h3,h4]
              ·cases hpl
             ·cases hpl
            ·rename_i n e
             split at hpl
             ·rename_i tf htf
              cases hlt:Nat.blt i' n with
              | false=>rw[hlt]at hpl;cases hpl
              | true =>
                rw[hlt]at hpl
                injection hpl with hpl;injection hpl with e1 e2
                subst e2
                obtain⟨i0,z,h3,h4,_⟩:=(hC.is htf).i
                simp [h3,h4,<- e1]
             ·cases hpl
            ·cases hpl
          have hnext:=hcs.splice (off:=off) hv (by omega)
          obtain⟨vs',h5,h6⟩:=ih ps _ _ _ (by simpa using hl) (fun j x p hx hp=>hr (j+1) x p (by simpa using hx) (by simpa using hp)) hnext hf
          refine⟨vs',?_,h6⟩
          simp only[Instr.fill,hp _ _ hpv]
          have: ¬(v.cells.size≠ti.cs.length||decide (off+v.cells.size>vs.size))=true:=by
            rw[hv.1,hcs.1,hb2];simp;omega
          rw[if_neg (by simpa using this)]
          exact h5
theorem I4: ∀(vs:List Value) (ks:List CK),BA vs ks=true->vs.length=ks.length/\ ∀ j,j<ks.length->AQ O Aa m w (vs.getD j undef) ((ks.map CK.zero).getD j .undef):=by
  intro vs
  induction vs with
  | nil=>intro ks h;cases ks with
    | nil=>exact⟨rfl,fun j hj=>by simp at hj⟩
    | cons _ _=>simp [BA]at h
  | cons v vs ih =>
    intro ks h
    cases ks with
    | nil=>cases v<;>simp [BA]at h
    | cons k ks =>
      have step:BA vs ks=true->AQ O Aa m w v k.zero->(v::vs).length=(k::ks).length/\ ∀ j,j<(k::ks).length->AQ O Aa m w ((v::vs).getD j undef) (((k::ks).map CK.zero).getD j .undef):=by
        intro hz hv
        obtain⟨h1,h2⟩:=ih ks hz
        refine⟨by simp [h1],fun j hj=> ?_⟩
        cases j with
        | zero=>exact hv
        | succ j=>simpa using h2 j (by simpa using hj)
      cases k with
      | bool=>cases v with
        | bool b=>cases b<;>simp [BA]at h;exact step h (.bool _)
        | _=>simp [BA]at h
      | int k'=>cases v with
        | int k'' n =>
          have h':A.kEq k'' k'=true/\n=0/\BA vs ks=true:=by
            clear step ih
            unfold BA at h
            split at h<;>simp_all
          obtain⟨h1,h2,h3⟩:=h'
          have:=Jj h1
          subst this;subst h2
          exact step h3 (.int _ _)
        | _=>simp [BA]at h
      | str=>cases v with
        | string s =>
          simp only[BA,Bool.and_eq_true]at h
          have hs:s.data.toList=[]:=by simpa using h.1
          refine step h.2 ?_
          show Aq O w (.string s) (.str [])
          rw[<- hs];exact .str s
        | _=>simp [BA]at h
      | sl e sz=>cases v with
        | slice ad l c =>
          have h':ad=none/\l=0/\c=0/\BA vs ks=true:=by
            clear step ih
            unfold BA at h
            split at h<;>simp_all
          obtain⟨h1,h2,h3,h4⟩:=h'
          subst h1;subst h2;subst h3
          exact step h4 rfl
        | _=>simp [BA]at h
      | ptr=>cases v with
        | pointer ad=>cases ad<;>simp [BA]at h;exact step h .Dn
        | _=>simp [BA]at h
      | fn=>cases v with
        | nilFunc=>simp [BA]at h;exact step h Aq.WA
        | _=>simp [BA]at h
      | sln _ _=>cases v<;>simp [BA]at h
      | mp _ _=>cases v<;>simp [BA]at h
      | oth =>
        have:v.oneCell'=true/\BA vs ks=true:=by
          cases v<;>simpa [BA]using h
        exact step this.2 this.1
theorem Abs {n t:Nat} {ks:List CK} (h:Ei P n t=some ks): ∃ i,P.info? t=some i:=by
  cases n with
  | zero=>simp [Ei]at h
  | succ n =>
    cases hi:P.info? t with
    | some i=>exact⟨i,rfl⟩
    | none =>
      have hu:P.underlying t=none:=by simp [Program.underlying,hi]
      simp [Ei,hu]at h
theorem Afx {n t:Nat} {ks:List CK} {fs:Array Field} (h:Ei P n t=some ks) (hu:P.underlying t=some (.struct fs)): ∀ f∈fs.toList,∃ i,P.info? f.type=some i:=by
  cases n with
  | zero=>simp [Ei]at h
  | succ n =>
    simp only[Ei,hu]at h
    revert h
    generalize fs.toList=l
    induction l generalizing ks with
    | nil=>intro _ f hf;cases hf
    | cons g l ih =>
      intro h f hf
      simp only[List.foldr_cons]at h
      split at h
      ·rename_i a b ha hb
       rcases List.mem_cons.1 hf with rfl | hf
       ·exact Abs ha
       ·exact ih hb f hf
      ·cases h
theorem AgO {n t c e:Nat} {ks:List CK} (h:Ei P n t=some ks) (hu:P.underlying t=some (.array c e)): ∃ i,P.info? e=some i:=by
  cases n with
  | zero=>simp [Ei]at h
  | succ n =>
    simp only[Ei,hu]at h
    split at h
    ·rename_i a ha;exact Abs ha
    ·cases h
theorem AfB {P:Program}: ∀(l:List Field),(∀ f∈l,∃ i,P.info? f.type=some i)->l.mapM (fun f=>(P.info? f.type).map fun i=>(f.offset,i.size))=some (l.map fun f=>(f.offset,P.cellsOf f.type)):=by
  intro l
  induction l with
  | nil=>intro _;rfl
  | cons f l ih =>
    intro h
    obtain⟨i,hi⟩:=h f List.mem_cons_self
    have:=ih (fun g hg=>h g (List.mem_cons_of_mem _ hg))
    simp [List.mapM_cons,hi,this,Program.cellsOf]
theorem Afn {t:Nat} {ti:TI} (hT:LW P t ti): ∃ i z,P.info? t=some i/\i.zero=some z/\RD ti.d=Yj z/\JD O Aa m w z.cells (ti.cs.map CK.zero):=by
  obtain⟨i,z,h1,h2,h3,h4,h5,h6⟩:=hT.i
  obtain⟨h7,h8⟩:=I4 (O:=O) (Aa:=Aa) (m:=m) (w:=w) _ _ h5
  refine⟨i,z,h1,h4,h6,by rw[<- Array.length_toList,h7];simp,fun j hj=> ?_⟩
  have:=h8 j (by simpa using hj)
  have e:z.cells.toList.getD j undef=z.cells.getD j undef:=by
    rw[Array.getD_eq_getD_getElem?,List.getD_eq_getElem?_getD,Array.getElem?_toList]
  rw[<- e];exact this
theorem AgK {t:Nat} {ps:Array (Nat×Operand)} (hC:TOk P C) (ho:o.op= .build t ps) {xs:List (Nat×A)} (hl:xs.length=ps.size) (hx: ∀(j:Nat) (x:Nat×A) (p:Nat×Operand),xs[j]? =some x->ps[j]? =some p->p.1=x.1/\A8 O Aa m w (a.eval p.2) x.2)
    (hok:A7 (fV C t xs).ok):Pure P O Aa m a w o (fV C t xs):=by
  unfold fV at hok ⊢
  obtain⟨ti,ht,he⟩:=Bz hok
  rw[he]at hok ⊢;clear he
  obtain⟨cs,hcs,he⟩:=AY hok
  rw[he]at hok ⊢;clear he
  have hT:=hC.is ht
  obtain⟨i,z,h1,h2,_,h3⟩:=Afn (O:=O) (Aa:=Aa) (m:=m) (w:=w) hT
  have key: ∃ place:Nat->Option (Nat×Nat),(∀ i p,Yy P ti.d i=some p->place i=some p)/\ ∀ vs,Instr.fill place z.cells (ps.map (fun(i,x)=>(i,a.eval x))).toList=some vs->P.built t (ps.map (fun(i,x)=>(i,a.eval x))).toList=some vs:=by
    have hu:=hT.d
    cases hd:ti.d with
    | struct fs =>
      rw[hd]at hu
      have hinf:=Afx hT.ck hu
      refine⟨fun i=>(fs.toList.map fun f=>(f.offset,P.cellsOf f.type)).toArray[i]?,fun i p hp=> ?_,fun vs hvs=> ?_⟩
      ·simp only[Yy]at hp
       cases hf:fs[i]? with
       | none=>rw[hf]at hp;cases hp
       | some f =>
         rw[hf]at hp
         simp only[Option.bind_some]at hp
         cases hi:P.info? f.type with
         | none=>rw[hi]at hp;cases hp
         | some j =>
           rw[hi]at hp
           simp at hp
           subst hp
           simp [hf,Program.cellsOf,hi]
      ·unfold Program.built
       simp only[h1,hu,h2,AfB _ hinf]
       exact hvs
    | array n e =>
      rw[hd]at hu
      obtain⟨ie,hie⟩:=AgO hT.ck hu
      refine⟨fun i=>some (i*ie.size,ie.size),fun i p hp=> ?_,fun vs hvs=> ?_⟩
      ·simp [Yy,hie]at hp;rw[<- hp]
      ·unfold Program.built
       simp only[h1,hu,h2,hie]
       exact hvs
    | _ =>
      have:=hok.cons.1
      rw[vM,hd]at this
      cases this
  obtain⟨place,hp,hb⟩:=key
  obtain⟨vs,h4,h5⟩:=Akr (O:=O) (Aa:=Aa) (m:=m) (w:=w) hC hp xs (ps.map (fun(i,x)=>(i,a.eval x))).toList z.cells _ cs (by simp [hl]) (fun j x p hxj hpj=>by
    simp only[Array.toList_map,List.getElem?_map]at hpj
    cases hq:ps.toList[j]? with
    | none=>rw[hq]at hpj;cases hpj
    | some q =>
      rw[hq]at hpj
      injection hpj with hpj
      subst hpj
      exact hx j x q hxj (by simpa using hq)) h3 hcs
  have:=run_build (P:=P) w t _ _ (hb vs h4)
  refine⟨⟨.agg vs,?_,?_⟩,rfl,rfl,rfl⟩
  ·simp only[execOp,ho,Sem.run_bind,this,Result.andThen_ok,Sem.run_pure]
  ·exact⟨vs,rfl,h5.1,h5.2⟩
end
end Go.Proofs.YtadefjgbcapakaaGreatDoor.Vm
namespace Go.Proofs.YtadefjgbcapakaaGreatDoor.Vm
structure Sim (V0:Nat->Value) (O0:Own) (w0:World) (O:Own) (m:Nat->Value) (st:St) (a:Act) (w:World):Prop where
  defers:a.defers=[]
  size:a.tmps.size=st.tmps.length
  tmps: ∀ t,t<st.tmps.length->A8 O st.Aa m w (a.tmps.getD t undef) (st.tmps.getD t .undef)
  Aa: ∀ o x,Aj st.Aa o=some x->CV O st.Aa m w o x
  frame:Moves O0 (fun o=>o≠255) w0 w
  own: ∀ b k o,b<w0.heap.size->O b k=some o->o≠255-> ∃ o0,O0 b k=some o0/\o0≠255
  ids: ∀ o x,Aj st.Aa o=some x->o≠255
  less: ∀ b k,b<w0.heap.size->O b k≠none->O0 b k≠none
  root: ∀ o,PV o=true->(Aj st.Aa o).isSome->m o=V0 o
  Xo: ∀ b k,b<w0.heap.size->O0 b k=some 255->O b k=some 255
  inv:Inv O0 w0
theorem Sim.Aer {V0:Nat->Value} {O0 O:Own} {w0 w:World} {m:Nat->Value} {st:St} {a:Act} (hS:Sim V0 O0 w0 O m st a w):Inv O w:=by
  refine⟨fun g j p ht=> ?_,fun g n ht=> ?_⟩
  ·obtain⟨h1,v,h2,h3⟩:=hS.inv.1 g j p ht
   have hb:=cell_lt h2
   refine⟨?_,v,?_,h3⟩
   ·cases h:O g j with
    | none=>rfl
    | some o=>exact absurd h1 (hS.less g j hb (by rw[h];simp))
   ·rw[hS.frame.cell hb (fun o ho=>by rw[h1]at ho;cases ho)];exact h2
  ·obtain⟨c,e,fr,h1,h2⟩:=hS.inv.2 g n ht
   have hg:g<w0.heap.size:=(Array.getElem?_eq_some_iff.1 h1).1
   rcases hS.frame.blk g hg with he | ⟨d,d',e',fr',k1,k2,k3,_⟩ | ⟨es,ck,es',ck',o,k1,_⟩
   ·exact⟨c,e,fr,by rw[he];exact h1,h2⟩
   ·rw[h1]at k1;injection k1 with k1;injection k1 with q1 q2 q3
    subst q1
    exact⟨d',e',fr',k2,k3.trans h2⟩
   ·rw[h1]at k1;injection k1 with k1;cases k1
theorem Moves.An0 {O0 O:Own} {T:Nat->Prop} {w0 w w':World} (h:Moves O0 (fun o=>o≠255) w0 w) (h':Moves O T w w') (hO: ∀ b k o,b<w0.heap.size->O b k=some o->o≠255-> ∃ o0,O0 b k=some o0/\o0≠255) (hT: ¬ T 255) :
    Moves O0 (fun o=>o≠255) w0 w':=by
  refine⟨h'.os.trans h.os,h'.tape.trans h.tape,h'.output.trans h.output,Nat.le_trans h.size h'.size,fun b hb=> ?_⟩
  have hb':b<w.heap.size:=Nat.lt_of_lt_of_le hb h.size
  have up: ∀ k o,O b k=some o->T o-> ∃ o',O0 b k=some o'/\o'≠255:=fun k o ho ht=>hO b k o hb ho (fun e=>hT (by rw[<- e];exact ht))
  rcases h'.blk b hb' with he' | ⟨c,c',e,fr,h1,h2,h3,h4,k,o,h5,h6,h7⟩ | ⟨es,ck,es',ck',o,h1,h2,h3,h4⟩
  ·rcases h.blk b hb with he | ⟨d,d',e,fr,h1,h2,h3,h4,h5⟩ | ⟨es,ck,es',ck',o,h1,h2,h3,h4⟩
   ·exact .inl (he'.trans he)
   ·exact .inr (.inl ⟨d,d',e,fr,h1,he'.trans h2,h3,h4,h5⟩)
   ·exact .inr (.inr ⟨es,ck,es',ck',o,h1,he'.trans h2,h3,h4⟩)
  ·obtain⟨o',ho',hne'⟩:=up k o h6 h7
   rcases h.blk b hb with he | ⟨d,d',e',fr',g1,g2,g3,g4,g5⟩ | ⟨es,ck,es',ck',o1,g1,g2,g3,g4⟩
   ·refine .inr (.inl ⟨c,c',e,fr,he▸h1,h2,h3,fun i hi=>h4 i (fun o'' ho'' ht=> ?_),k,o',h5,ho',hne'⟩)
    obtain⟨o3,ho3,hn3⟩:=up i o'' ho'' ht
    exact hi o3 ho3 hn3
   ·rw[g2]at h1
    injection h1 with h1;injection h1 with q1 q2 q3
    subst q1;subst q2;subst q3
    refine .inr (.inl ⟨d,c',e',fr',g1,h2,h3.trans g3,fun i hi=> ?_,k,o',by omega,ho',hne'⟩)
    rw[h4 i (fun o'' ho'' ht=> ?_),g4 i hi]
    obtain⟨o3,ho3,hn3⟩:=up i o'' ho'' ht
    exact hi o3 ho3 hn3
   ·rw[g2]at h1;injection h1 with h1;cases h1
  ·obtain⟨o',ho',hne'⟩:=up 0 o h3 h4
   rcases h.blk b hb with he | ⟨d,d',e',fr',g1,g2,g3,g4,g5⟩ | ⟨es1,ck1,es1',ck1',o1,g1,g2,g3,g4⟩
   ·exact .inr (.inr ⟨es,ck,es',ck',o',he▸h1,h2,ho',hne'⟩)
   ·rw[g2]at h1;injection h1 with h1;cases h1
   ·exact .inr (.inr ⟨es1,ck1,es',ck',o1,g1,h2,g3,g4⟩)
theorem uK (tmps:List A) (d:Option Tmp) (v:A) (t:Nat) (h:t<tmps.length):(put tmps d v).getD t .undef=if d=some t then v else tmps.getD t .undef:=by
  cases d with
  | none=>simp [put]
  | some d =>
    simp only[put,List.getD_eq_getElem?_getD,List.getElem?_set]
    by_cases hd:d=t
    ·subst hd;simp [h]
    ·simp [hd]
theorem P9 (tmps:List A) (d:Option Tmp) (v:A):(put tmps d v).length=tmps.length:=by cases d<;>simp [put]
theorem Afo (a:Act) (d:Option Tmp) (v:Value) (t:Nat) (h:t<a.tmps.size):(a.put d v).tmps.getD t undef=if d=some t then v else a.tmps.getD t undef:=by
  cases d with
  | none=>simp [Act.put]
  | some d =>
    simp only[Act.put,Array.getD_eq_getD_getElem?,Array.getElem?_setIfInBounds]
    by_cases hd:d=t
    ·subst hd;simp [h]
    ·simp [hd]
theorem Afp (a:Act) (d:Option Tmp) (v:Value):(a.put d v).tmps.size=a.tmps.size:=by cases d<;>simp [Act.put]
theorem AbZ (a:Act) (d:Option Tmp) (v:Value):(a.put d v).defers=a.defers:=by cases d<;>rfl
theorem Va {st:St} {t n:Nat} (ht:t<st.tmps.length) (h:n∈(st.tmps.getD t .undef).ids):n∈st.ids:=List.mem_append_left _ (KC ht h)
theorem rC {l:List (Nat×Obj)} {o:Nat} {x:Obj} (h:Aj l o=some x):(o,x)∈l:=by
  induction l with
  | nil=>cases h
  | cons p r ih =>
    obtain⟨q,y⟩:=p
    rw[Cm]at h
    by_cases hq:q=o
    ·rw[if_pos hq]at h;injection h with h;subst h;subst hq;exact List.mem_cons_self
    ·rw[if_neg hq]at h;exact List.mem_cons_of_mem _ (ih h)
theorem Pm {st:St} {o n:Nat} {x:Obj} (ho:Aj st.Aa o=some x) (h:n∈x.ids):n∈st.ids :=
  List.mem_append_right _ (List.mem_flatMap.2 ⟨(o,x),rC ho,h⟩)
structure F7 (st:St) (n:Nat):Prop where
  ids:n∉st.ids
  Aa:Aj st.Aa n=none
  ne:n≠255
  root:PV n=false
theorem F7.both {st:St} {n:Nat} (h:F7 st n):n∉st.ids/\PV n=false:=⟨h.ids,h.root⟩
theorem DL {st:St} {n:Nat} (h:st.fresh n=true):F7 st n:=by
  unfold St.fresh at h
  simp only[Bool.and_eq_true,Bool.not_eq_true',Option.isNone_iff_eq_none]at h
  refine⟨fun hm=> ?_,h.1.1.2,fun e=> ?_,h.2⟩
  ·have:has st.ids n=true:=List.any_eq_true.2 ⟨n,hm,by simp⟩
   rw[this]at h;cases h.1.1.1
  ·have:=h.1.2;rw[e]at this;cases this
theorem Sim.next {V0:Nat->Value} {O0 O O':Own} {w0 w w':World} {m m':Nat->Value} {st st':St} {a:Act} {T Nw:Nat->Prop} {d:Option Tmp} {v:Value} {x:A}
    (hS:Sim V0 O0 w0 O m st a w) (hM:Moves O T w w') (hP:Passes O O' T w.heap.size) (hO: ∀ b k,b<w.heap.size->O' b k≠none->O b k≠none)
    (hE:Gz st.Aa m st'.Aa m' Nw) (hN: ∀ n,Nw n->n∉st.ids/\PV n=false)
    (hT: ∀ o,T o->(Aj st.Aa o).isSome)
    (hobj: ∀ o y,Aj st'.Aa o=some y->(¬ T o/\Aj st.Aa o=some y/\m' o=m o)\/(CV O' st'.Aa m' w' o y/\o≠255))
    (ht:st'.tmps=put st.tmps d x) (hx:d≠none->A8 O' st'.Aa m' w' v x):Sim V0 O0 w0 O' m' st' (a.put d v) w':=by
  have hpr:=hM.Bg hP
  have hT255: ¬ T 255:=fun h=>by
    obtain⟨x,hx⟩:=Option.isSome_iff_exists.1 (hT 255 h)
    exact hS.ids 255 x hx rfl
  refine⟨by rw[AbZ];exact hS.defers,by rw[Afp,ht,P9];exact hS.size,fun t htl=> ?_,fun o y ho=> ?_,hS.frame.An0 hM hS.own hT255,fun b k q hb h hne=> ?_,fun o y ho=> ?_,fun b k hb h=>hS.less b k hb (hO b k (Nat.lt_of_lt_of_le hb hS.frame.size) h),fun o hr ho=> ?_,fun b k hb h=>hP.keep b k 255 (Nat.lt_of_lt_of_le hb hS.frame.size) (hS.Xo b k hb h) hT255,hS.inv⟩
  ·rw[ht,P9]at htl
   rw[ht,uK _ _ _ _ htl,Afo _ _ _ _ (by rw[hS.size];exact htl)]
   by_cases hd:d=some t
   ·rw[if_pos hd,if_pos hd];exact hx (by rw[hd];simp)
   ·rw[if_neg hd,if_neg hd]
    exact(hS.tmps t htl).step hpr hE (fun i hi hn=>(hN i hn).1 (Va htl hi))
  ·rcases hobj o y ho with ⟨h1,h2,h3⟩ | h
   ·exact(hS.Aa o y h2).step hM hP hE h1 h3 (fun i hi hn=>(hN i hn).1 (Pm h2 hi))
   ·exact h.1
  ·have hb':=Nat.lt_of_lt_of_le hb hS.frame.size
   cases hq:O b k with
   | none=>exact absurd hq (hO b k hb' (by rw[h];simp))
   | some r =>
     by_cases hr:r=255
     ·subst hr
      have:=hP.keep b k 255 hb' hq hT255
      rw[h]at this;injection this with this;exact absurd this hne
     ·exact hS.own b k r hb hq hr
  ·rcases hobj o y ho with ⟨_,h2,_⟩ | h
   ·exact hS.ids o y h2
   ·exact h.2
  ·obtain⟨y,hy⟩:=Option.isSome_iff_exists.1 ho
   rcases hE o y hy with h | ⟨x,h1,_,h3⟩
   ·rw[(hN o h).2]at hr;cases hr
   ·rw[h3];exact hS.root o hr (by rw[h1];rfl)
theorem Sim.put {V0:Nat->Value} {O0 O:Own} {w0 w:World} {m:Nat->Value} {st:St} {a:Act} (hS:Sim V0 O0 w0 O m st a w) (d:Option Tmp) {v:Value} {x:A} (hx:A8 O st.Aa m w v x) :
    Sim V0 O0 w0 O m {st with tmps:=Vm.put st.tmps d x} (a.put d v) w :=
  hS.next (st':= {st with tmps:=Vm.put st.tmps d x}) (T:=fun _=>False) (Nw:=fun _=>False) (Moves.refl O _ w) ⟨fun _ _ _ h=>h,fun _ _ _ _ h _=>h⟩ (fun _ _ _ h=>h) (fun _ y ho=>.inr ⟨y,ho,rfl,rfl⟩) (fun _ h=>h.elim) (fun _ h=>h.elim)
    (fun _ _ ho=>.inl ⟨id,ho,rfl⟩) rfl (fun _=>hx)
def Good (P:Program) (V0:Nat->Value) (O0:Own) (w0:World) (st':St) (o:Oper) (a:Act) (w:World):Prop :=
  ∀(next:Act->World->Prop) (Q:Exit->Act->World->Prop),(∀ O' m' a' w',Sim V0 O0 w0 O' m' st' a' w'->next a' w')->o.wp P a w next Q
theorem Pure.good {P:Program} {V0:Nat->Value} {O0 O:Own} {w0 w:World} {m:Nat->Value} {st:St} {a:Act} {o:Oper} {δ :Dl} (hS:Sim V0 O0 w0 O m st a w) (h:Pure P O st.Aa m a w o δ):Good P V0 O0 w0 (apply st o δ) o a w:=by
  intro next Q hn
  obtain⟨v,hr,hx⟩:=h.run
  unfold Oper.wp
  rw[hr,Oper.upon_value]
  refine hn O m _ _ ?_
  have:apply st o δ = {st with tmps:=put st.tmps o.dst δ.val}:=by
    unfold apply;rw[h.new,h.upd,h.del];rfl
  rw[this]
  exact hS.put o.dst hx
theorem rZ {V0:Nat->Value} {O0 O:Own} {w0 w:World} {m:Nat->Value} {st:St} {a:Act} (hS:Sim V0 O0 w0 O m st a w) (x:Operand):A8 O st.Aa m w (a.eval x) (BU st.tmps x):=by
  have cell: ∀ v:Value,A8 O st.Aa m w v (Ey v)/\(v.oneCell'=true->AQ O st.Aa m w v (Ey v)):=by
    intro v
    unfold Ey
    split
    ·exact⟨.Gg _,fun _=>Aq.bool _⟩
    ·exact⟨.mkInt _ _,fun _=>Aq.int _ _⟩
    ·exact⟨.mkStr _ rfl,fun _=>Aq.str _⟩
    ·exact⟨rfl,fun _=>rfl⟩
    ·exact⟨Aq.Dn,fun _=>Aq.Dn⟩
    ·exact⟨Aq.WA,fun _=>Aq.WA⟩
    ·exact⟨trivial,fun h=>h⟩
  cases x with
  | tmp t =>
    by_cases ht:t<st.tmps.length
    ·exact hS.tmps t ht
    ·have:BU st.tmps (.tmp t)= .undef:=by
       simp [BU,List.getD_eq_getElem?_getD,List.getElem?_eq_none (Nat.le_of_not_lt ht)]
     rw[this];trivial
  | const v =>
    show A8 O st.Aa m w v (ofConst v)
    unfold ofConst
    split
    ·rename_i vs
     cases hall:vs.toList.all Value.oneCell' with
     | false=>trivial
     | true =>
       rw[List.all_eq_true]at hall
       refine⟨vs,rfl,by simp,fun j hj=> ?_⟩
       have hj':j<vs.size:=by simpa using hj
       have e1:vs.getD j undef=vs[j]:=by rw[Array.getD_eq_getD_getElem?,Array.getElem?_eq_getElem hj'];rfl
       have e2:(vs.toList.map Ey).getD j .undef=Ey vs[j]:=by
         simp [List.getD_eq_getElem?_getD,hj']
       rw[e1,e2]
       exact(cell _).2 (hall _ (by simp))
    ·exact(cell v).1
  | global g=>trivial
  | func f=>exact Aq.fn f
theorem Moves.push {O:Own} {T:Nat->Prop} {w:World} (x:Go.Obj):Moves O T w (w.alloc x) :=
  ⟨rfl,rfl,rfl,by show _<=(w.heap.push x).size;simp,fun b hb=>.inl (heap_alloc_old w x hb)⟩
theorem Zu (w:World) (x:Go.Obj):(w.alloc x).heap[w.heap.size]? =some x:=by show(w.heap.push x)[_]? =_;simp
theorem Moves.drew (O:Own) (T:Nat->Prop) (w:World):Moves O T w w.drew:=⟨rfl,rfl,rfl,Nat.le_refl _,fun _ _=>.inl rfl⟩
theorem Moves.then {O:Own} {T:Nat->Prop} {w w' w'':World} (h:Moves O T w w') (h':Moves O T w' w''):Moves O T w w'':=by
  refine⟨h'.os.trans h.os,h'.tape.trans h.tape,h'.output.trans h.output,Nat.le_trans h.size h'.size,fun b hb=> ?_⟩
  have hb':b<w'.heap.size:=Nat.lt_of_lt_of_le hb h.size
  rcases h'.blk b hb' with he' | ⟨c,c',e,fr,h1,h2,h3,h4,h5⟩ | ⟨es,ck,es',ck',o,h1,h2,h3,h4⟩
  ·rcases h.blk b hb with he | ⟨d,d',e,fr,h1,h2,h3,h4,h5⟩ | ⟨es,ck,es',ck',o,h1,h2,h3,h4⟩
   ·exact .inl (he'.trans he)
   ·exact .inr (.inl ⟨d,d',e,fr,h1,he'.trans h2,h3,h4,h5⟩)
   ·exact .inr (.inr ⟨es,ck,es',ck',o,h1,he'.trans h2,h3,h4⟩)
  ·rcases h.blk b hb with he | ⟨d,d',e',fr',g1,g2,g3,g4,g5⟩ | ⟨es,ck,es',ck',o,g1,g2,g3,g4⟩
   ·exact .inr (.inl ⟨c,c',e,fr,he▸h1,h2,h3,h4,h5⟩)
   ·rw[g2]at h1
    injection h1 with h1;injection h1 with q1 q2 q3
    subst q1;subst q2;subst q3
    exact .inr (.inl ⟨d,c',e',fr',g1,h2,h3.trans g3,fun i hi=>by rw[h4 i hi,g4 i hi],g5⟩)
   ·rw[g2]at h1;injection h1 with h1;cases h1
  ·rcases h.blk b hb with he | ⟨d,d',e',fr',g1,g2,g3,g4,g5⟩ | ⟨es1,ck1,es1',ck1',o1,g1,g2,g3,g4⟩
   ·exact .inr (.inr ⟨es,ck,es',ck',o,he▸h1,h2,h3,h4⟩)
   ·rw[g2]at h1;injection h1 with h1;cases h1
   ·exact .inr (.inr ⟨es1,ck1,es',ck',o1,g1,h2,g3,g4⟩)
theorem Moves.row {O:Own} {T:Nat->Prop} {w w':World} {g:Nat} {c c':Array Value} {e:TypeId} {fr:Nat×Nat} (hos:w'.os=w.os) (ht:w'.tape=w.tape) (hout:w'.output=w.output) (hs:w'.heap.size=w.heap.size)
    (hg:w.heap[g]? =some (.cells c e fr)) (hg':w'.heap[g]? =some (.cells c' e fr)) (hoth: ∀ b,b≠g->w'.heap[b]? =w.heap[b]?) (hsz:c'.size=c.size) (hk: ∀ k,(∀ o,O g k=some o-> ¬ T o)->c'[k]? =c[k]?)
    (hex:(∃ k o,k<c.size/\O g k=some o/\T o)\/c'=c):Moves O T w w':=by
  refine⟨hos,ht,hout,by omega,fun b _=> ?_⟩
  by_cases hb:b=g
  ·subst hb
   rcases hex with hex | hex
   ·exact .inr (.inl ⟨c,c',e,fr,hg,hg',hsz,hk,hex⟩)
   ·subst hex;exact .inl (hg'.trans hg.symm)
  ·exact .inl (hoth b hb)
theorem Moves.map {O:Own} {T:Nat->Prop} {w w':World} {r:Nat} {es es':Array MapEntry} {ck ck':Nat} (hos:w'.os=w.os) (ht:w'.tape=w.tape) (hout:w'.output=w.output) (hs:w'.heap.size=w.heap.size)
    (hg:w.heap[r]? =some (.map es ck)) (hg':w'.heap[r]? =some (.map es' ck')) (hoth: ∀ b,b≠r->w'.heap[b]? =w.heap[b]?) {o:Nat} (ho:O r 0=some o) (hT:T o):Moves O T w w':=by
  refine⟨hos,ht,hout,by omega,fun b _=> ?_⟩
  by_cases hb:b=r
  ·subst hb;exact .inr (.inr ⟨es,ck,es',ck',o,hg,hg',ho,hT⟩)
  ·exact .inl (hoth b hb)
theorem Afb (w:World) (b k:Nat) (v:Value) {c:Array Value} {e:TypeId} {fr:Nat×Nat} (hg:w.heap[b]? =some (.cells c e fr)) :
    (w.setCell (at' b k) v).heap[b]? =some (.cells (c.setIfInBounds k v) e fr)/\(∀ b',b'≠b->(w.setCell (at' b k) v).heap[b']? =w.heap[b']?)/\(w.setCell (at' b k) v).heap.size=w.heap.size:=by
  refine⟨?_,fun b' hb=> ?_,by simp [World.setCell]⟩
  ·simp [World.setCell,Array.getElem?_modify,hg]
  ·simp only[World.setCell,Array.getElem?_modify]
   rw[if_neg (fun h=>hb h.symm)]
theorem SY (b:Nat): ∀(vs:List Value) (k:Nat) (w:World) {c:Array Value} {e:TypeId} {fr:Nat×Nat},w.heap[b]? =some (.cells c e fr)->k+vs.length<=c.size ->
    ∃ c',(w.setCells b k vs).heap[b]? =some (.cells c' e fr)/\c'.size=c.size/\(∀ i,c'.getD i undef=if k<=i/\i<k+vs.length then vs.getD (i - k) undef else c.getD i undef) /\
      (∀ b',b'≠b->(w.setCells b k vs).heap[b']? =w.heap[b']?)/\(w.setCells b k vs).heap.size=w.heap.size/\(w.setCells b k vs).os=w.os/\(w.setCells b k vs).tape=w.tape/\(w.setCells b k vs).output=w.output:=by
  intro vs
  induction vs with
  | nil=>intro k w c e fr hg _;exact⟨c,hg,rfl,fun i=>by rw[if_neg (by simp)],fun _ _=>rfl,rfl,rfl,rfl,rfl⟩
  | cons v vs ih =>
    intro k w c e fr hg hle
    simp only[List.length_cons]at hle
    obtain⟨h1,h2,h3⟩:=Afb w b k v hg
    obtain⟨c',h4,h5,h6,h7,h8,h9,h10,h11⟩:=ih (k+1) (w.setCell (at' b k) v) h1 (by simp;omega)
    refine⟨c',h4,by rw[h5];simp,fun i=> ?_,fun b' hb=>(h7 b' hb).trans (h2 b' hb),h8.trans h3,h9,h10,h11⟩
    rw[h6 i]
    simp only[List.length_cons]
    by_cases hi:k+1<=i/\i<k+1+vs.length
    ·rw[if_pos hi,if_pos (by omega),show i - k=(i - (k+1))+1 from by omega];rfl
    ·rw[if_neg hi]
     by_cases hk:i=k
     ·subst hk
      rw[if_pos (by omega),Array.getD_eq_getD_getElem?,Array.getElem?_setIfInBounds,if_pos rfl,if_pos (by omega)]
      simp
     ·rw[if_neg (by omega),Array.getD_eq_getD_getElem?,Array.getElem?_setIfInBounds,if_neg (by omega),<- Array.getD_eq_getD_getElem?]
theorem TK: ∀(ks:List CK) (cs:List A) (id:Nat),(Dq id ks cs).1.length=cs.length /\
    (∀ j,j<cs.length->(Dq id ks cs).1.getD j .undef=cs.getD j .undef\/(cs.getD j .undef= .CG/\(Dq id ks cs).1.getD j .undef= .own (id+j)/\ ∃ e sz,(id+j,Obj.arr e false ⟨sz,[]⟩)∈(Dq id ks cs).2)) /\
    (∀ p∈(Dq id ks cs).2,(∃ e sz,p.2= .arr e false ⟨sz,[]⟩)/\ ∃ j,j<cs.length/\p.1=id+j):=by
  intro ks
  induction ks with
  | nil=>intro cs id;refine⟨rfl,fun j _=>.inl rfl,fun p hp=> ?_⟩;simp [Dq]at hp
  | cons k ks ih =>
    intro cs id
    cases cs with
    | nil=>refine⟨by cases k<;>rfl,fun j hj=>by simp at hj,fun p hp=> ?_⟩;cases k<;>simp [Dq]at hp
    | cons c cs =>
      obtain⟨h1,h2,h3⟩:=ih cs (id+1)
      have other:Dq id (k::ks) (c::cs)=(c::(Dq (id+1) ks cs).1,(Dq (id+1) ks cs).2) ->
          (Dq id (k::ks) (c::cs)).1.length=(c::cs).length /\
          (∀ j,j<(c::cs).length->(Dq id (k::ks) (c::cs)).1.getD j .undef=(c::cs).getD j .undef\/((c::cs).getD j .undef= .CG/\(Dq id (k::ks) (c::cs)).1.getD j .undef= .own (id+j)/\ ∃ e sz,(id+j,Obj.arr e false ⟨sz,[]⟩)∈(Dq id (k::ks) (c::cs)).2)) /\
          (∀ p∈(Dq id (k::ks) (c::cs)).2,(∃ e sz,p.2= .arr e false ⟨sz,[]⟩)/\ ∃ j,j<(c::cs).length/\p.1=id+j):=by
        intro he
        rw[he]
        refine⟨by simp [h1],fun j hj=> ?_,fun p hp=> ?_⟩
        ·cases j with
         | zero=>exact .inl rfl
         | succ j =>
           have:=h2 j (by simpa using hj)
           rw[show id+(j+1)=id+1+j from by omega]
           simpa using this
        ·obtain⟨ha,j,hj,hb⟩:=h3 p hp
         exact⟨ha,j+1,by simpa using hj,by omega⟩
      by_cases hc:c= .CG/\ ∃ e sz,k= .sl e sz
      ·obtain⟨hc,e,sz,hk⟩:=hc
       subst hc;subst hk
       have he:Dq id (.sl e sz::ks) (.CG::cs)=(.own id::(Dq (id+1) ks cs).1,(id,.arr e false ⟨sz,[]⟩)::(Dq (id+1) ks cs).2):=rfl
       rw[he]
       refine⟨by simp [h1],fun j hj=> ?_,fun p hp=> ?_⟩
       ·cases j with
        | zero=>exact .inr ⟨rfl,rfl,e,sz,List.mem_cons_self⟩
        | succ j =>
          rcases h2 j (by simpa using hj)with h | ⟨ha,hb,e',sz',hm⟩
          ·exact .inl (by simpa using h)
          ·refine .inr ⟨by simpa using ha,?_,e',sz',List.mem_cons_of_mem _ ?_⟩
           ·rw[show id+(j+1)=id+1+j from by omega];simpa using hb
           ·rw[show id+(j+1)=id+1+j from by omega];exact hm
       ·rcases List.mem_cons.1 hp with rfl | hp
        ·exact⟨⟨e,sz,rfl⟩,0,by simp,rfl⟩
        ·obtain⟨ha,j,hj,hb⟩:=h3 p hp
         exact⟨ha,j+1,by simpa using hj,by omega⟩
      ·refine other ?_
       cases k<;>cases c<;>first | rfl | exact absurd ⟨rfl,_,_,rfl⟩ hc
theorem G9 {l:List Nat} {n:Nat}:has l n=true↔n∈l:=by
  unfold has
  rw[List.any_eq_true]
  constructor
  ·rintro ⟨x,hx,he⟩
   have:=Nat.eq_of_beq_eq_true he
   subst this;exact hx
  ·intro h;exact⟨n,h,by simp⟩
theorem AhA: ∀ {l:List (Nat×Obj)},nodup (l.map (·.1))=true-> ∀ {n x y},(n,x)∈l->(n,y)∈l->x=y:=by
  intro l
  induction l with
  | nil=>intro _ n x y h;cases h
  | cons p l ih =>
    intro h n x y hx hy
    simp only[List.map_cons,nodup,Bool.and_eq_true,Bool.not_eq_true']at h
    have hno: ∀ z,(p.1,z)∉l:=by
      intro z hz
      have:has (l.map (·.1)) p.1=true:=G9.2 (List.mem_map.2 ⟨_,hz,rfl⟩)
      rw[this]at h;cases h.1
    rcases List.mem_cons.1 hx with rfl | hx'
    ·rcases List.mem_cons.1 hy with e | hy'
     ·injection e with _ e;exact e.symm
     ·exact absurd hy' (hno y)
    ·rcases List.mem_cons.1 hy with rfl | hy'
     ·exact absurd hx' (hno x)
     ·exact ih h.2 hx' hy'
theorem TL {Aa:List (Nat×Obj)} {upd new:List (Nat×Obj)} {del:List Nat} {o:Nat} {x:Obj} (h:Aj (Aw (Bh (Aw Aa upd) del) new) o=some x) :
    (o,x)∈new\/((∀ y,(o,y)∉new)/\o∉del/\((o,x)∈upd\/((∀ y,(o,y)∉upd)/\Aj Aa o=some x))):=by
  by_cases hn: ∃ p∈new,p.1=o
  ·obtain⟨y,hy,he⟩:=En new (Bh (Aw Aa upd) del) o hn
   rw[he]at h;injection h with h;subst h;exact .inl hy
  ·have hn': ∀ y,(o,y)∉new:=fun y hy=>hn ⟨_,hy,rfl⟩
   rw[CY _ _ _ (fun p hp e=>hn ⟨p,hp,e⟩),Ju]at h
   by_cases hd:o∈del
   ·rw[if_pos hd]at h;cases h
   ·rw[if_neg hd]at h
    refine .inr ⟨hn',hd,?_⟩
    by_cases hu: ∃ p∈upd,p.1=o
    ·obtain⟨y,hy,he⟩:=En upd Aa o hu
     rw[he]at h;injection h with h;subst h;exact .inl hy
    ·rw[CY _ _ _ (fun p hp e=>hu ⟨p,hp,e⟩)]at h
     exact .inr ⟨fun y hy=>hu ⟨_,hy,rfl⟩,h⟩
theorem YO {Aa:List (Nat×Obj)} {upd new:List (Nat×Obj)} {del:List Nat} (hnd:nodup (new.map (·.1))=true) {o:Nat} {x:Obj} (h:(o,x)∈new):Aj (Aw (Bh (Aw Aa upd) del) new) o=some x:=by
  obtain⟨y,hy,he⟩:=En new (Bh (Aw Aa upd) del) o ⟨_,h,rfl⟩
  rw[he,AhA hnd h hy]
