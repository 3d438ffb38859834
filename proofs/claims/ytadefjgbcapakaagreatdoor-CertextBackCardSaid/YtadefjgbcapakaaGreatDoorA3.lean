import Derived.Test.YtadefjgbcapakaaGreatDoorA2
import Derived.Laws.Small
import Derived.Laws.Tables
set_option linter.all false
namespace Go.Proofs.YtadefjgbcapakaaGreatDoor.Vm
section
variable {P:Program} {C:Ctx} {O:Own} {Aa:List (Nat×Obj)} {m:Nat->Value} {a:Act} {w:World} {o:Oper} {fet:Fet}
theorem getD_eq {vs:Array Value} {j:Nat} (h:j<vs.size):vs[j]? =some (vs.getD j undef):=by
  rw[Array.getD_eq_getD_getElem?,Array.getElem?_eq_getElem h];rfl
theorem AmH {t:Nat} {ti:TI} (hT:MS P t ti) {vs:Array Value} {cs:List A} {off:Nat} (h1:vs.size=cs.length) (h2: ∀ j,j<cs.length->AL O Aa m w (vs.getD j undef) (cs.getD j .undef))
    (h3:off+ti.cs.length<=cs.length) (h4:0<ti.cs.length): ∃ v,(part t vs off).run P w= .ok v w/\T1 O Aa m w v (yC ti cs off):=by
  unfold part yC
  simp only[Sem.run_bind,hT.Ala,Result.andThen_ok]
  cases hg:ti.agg with
  | true =>
    refine⟨.agg (vs.extract off (off+ti.cs.length)),by simp [hT.J4],_,rfl,by simp;omega,fun j hj=> ?_⟩
    simp only[List.length_take,List.length_drop]at hj
    have hb:=h2 (off+j) (by omega)
    have e1:(vs.extract off (off+ti.cs.length)).getD j undef=vs.getD (off+j) undef:=by
      rw[Array.getD_eq_getD_getElem?,Array.getD_eq_getD_getElem?,Array.getElem?_extract]
      rw[if_pos (by omega)]
    have e2:((cs.drop off).take ti.cs.length).getD j .undef=cs.getD (off+j) .undef:=by
      simp only[List.getD_eq_getElem?_getD,List.getElem?_take,List.getElem?_drop]
      rw[if_pos (by omega)]
    rw[e1];simp only[e2];exact hb
  | false =>
    have hb:=h2 off (by omega)
    refine⟨vs.getD off undef,?_,?_⟩
    ·have:=getD_eq (vs:=vs) (j:=off) (by omega)
     generalize vs.getD off undef=z at *
     simp [this]
    ·simp only[cond_false]
     generalize cs.getD off .undef=c at *
     cases c<;>first | exact hb | exact hb.elim
theorem oL {d:TypeDesc} {f:Nat} {p:Nat×TI} (h:yE C d f=some p): ∃ fs x,d= .struct fs/\fs[f]? =some x/\x.offset=p.1/\C.T x.type=some p.2:=by
  unfold yE at h
  split at h
  ·rename_i fs
   split at h
   ·rename_i x hx
    split at h
    ·rename_i ti ht
     injection h with h;subst h
     exact⟨fs,x,rfl,by simpa using hx,rfl,ht⟩
    ·cases h
   ·cases h
  ·cases h
theorem Ah7 {t f:Nat} {x:Operand} (hC:TOk P C) (ho:o.op= .field t x f) {x':A} (hx:Au O Aa m w (a.eval x) x') (hok:Ar (vZ C t f x').ok):Pure P O Aa m a w o (vZ C t f x'):=by
  unfold vZ at hok ⊢
  obtain⟨ti,ht,he⟩:=Bz hok
  rw[he]at hok ⊢;clear he
  obtain⟨p,hp,he⟩:=Ba hok
  rw[he]at hok ⊢;clear he
  obtain⟨cs,hcs,he⟩:=Ba hok
  rw[he]at hok ⊢;clear he
  obtain⟨fs,fx,hd,hfx,hoff,htf⟩:=oL hp
  have:x'= .agg cs:=by unfold AoT at hcs;split at hcs<;>simp_all
  subst this
  obtain⟨vs,h1,h2,h3⟩:=hx
  obtain⟨h4,h5⟩:=hok.cons
  have h5:=h5.cons.1
  have h4:=Nat.le_of_ble_eq_true h4
  have h5:0<p.2.cs.length:=by simpa [Nat.blt_eq]using h5
  have hu:=(hC.is ht).run w
  rw[hd]at hu
  obtain⟨v,hv,hr⟩:=AmH (off:=p.1) (hC.is htf) h2 h3 h4 h5
  refine⟨⟨v,?_,hr.toT⟩,rfl,rfl,rfl⟩
  simp [execOp,ho,Instr.field,hu,hfx,h1,asAgg,hoff,hv]
theorem Al4 {x':A} {v:Value} {off n:Nat} (hf:FOk O Aa m w fet) (hx:Au O Aa m w v x') (hok:Ar (YG off n fet x').ok) :
    ∃ b k,v= .pointer (some (at' b k))/\Au O Aa m w (.pointer (some (at' b (k+off)))) (YG off n fet x').val/\(YG off n fet x').new=[]/\(YG off n fet x').upd=[]/\(YG off n fet x').del=[]:=by
  unfold YG at hok ⊢
  split at hok
  ·obtain⟨cs,hcs,he⟩:=Ba hok
   rw[he]at hok ⊢;clear he
   rename_i q p
   obtain⟨b,base,h1,h2,h3⟩:=hx.ptr hf (D8 hcs)
   refine⟨b,base+p,h2,?_,rfl,rfl,rfl⟩
   have hg:=(hf _ _ (D8 hcs)).1
   show AL O Aa m w _ (.ptr q (p+off))
   simp only[AL,hg,Option.map_some,Obj.shp]
   exact⟨rfl,b,base,h1,by rw[Nat.add_assoc]⟩
  ·rename_i cs
   obtain⟨b,k,h1,h2⟩:=(show AL O Aa m w v (.elt cs)from hx)
   refine⟨b,k,h1,?_,rfl,rfl,rfl⟩
   refine⟨b,k+off,rfl,fun j hj=> ?_⟩
   simp only[List.length_drop]at hj
   have:=h2 (off+j) (by omega)
   rw[Nat.add_assoc]
   have e:(cs.drop off).getD j .undef=cs.getD (off+j) .undef:=by simp [List.getD_eq_getElem?_getD,List.getElem?_drop]
   rw[e];exact this
  ·rename_i q i p
   obtain⟨r,hr,he⟩:=Ba hok
   rw[he]at hok ⊢;clear he
   have hi:i<r.l.es.length:=by rw[Sl.BZ];simpa [Dl.g]using hok.cons.1
   have hx':AL O Aa m w v (.Dc q i p):=hx
   have hg:=(hf _ _ (Hr hr)).1
   simp only[AL,hg,Option.map_some,Obj.shp]at hx'
   obtain⟨g,n',cap,h1,h2⟩:=hx'.2 hi
   refine⟨g,_,h2,?_,rfl,rfl,rfl⟩
   show AL O Aa m w _ (.Dc q i (p+off))
   simp only[AL,hg,Option.map_some,Obj.shp]
   refine⟨rfl,fun _=> ?_⟩
   exact⟨g,n',cap,h1,by rw[Nat.add_assoc]⟩
  ·exact(AP hok).elim
theorem Aa3 {t f:Nat} {x:Operand} (hC:TOk P C) (hf:FOk O Aa m w fet) (ho:o.op= .fieldAddr t x f) {x':A} (hx:Au O Aa m w (a.eval x) x') (hok:Ar (Ti C fet t f x').ok):Pure P O Aa m a w o (Ti C fet t f x'):=by
  unfold Ti at hok ⊢
  obtain⟨ti,ht,he⟩:=Bz hok
  rw[he]at hok ⊢;clear he
  obtain⟨p,hp,he⟩:=Ba hok
  rw[he]at hok ⊢;clear he
  obtain⟨fs,fx,hd,hfx,hoff,htf⟩:=oL hp
  obtain⟨h1,h2⟩:=hok.cons
  have h1:0<p.2.cs.length:=by simpa [Nat.blt_eq]using h1
  obtain⟨b,k,h3,h4,h5,h6,h7⟩:=Al4 hf hx h2
  have hu:=(hC.is ht).run w
  rw[hd]at hu
  have hs:=(hC.is htf).J4 w
  refine⟨⟨_,?_,h4⟩,h5,h6,h7⟩
  have h0:p.2.cs.length≠0:=by omega
  simp [execOp,ho,Instr.fieldAt,hu,hfx,h3,Instr.sureAddr,fieldPlace,hs,h0,JW,hoff]
theorem AaG {t:Nat} {x i:Operand} (hC:TOk P C) (hf:FOk O Aa m w fet) (ho:o.op= .indexAddr t x i) {x' i':A} (hx:Au O Aa m w (a.eval x) x') (hi:Au O Aa m w (a.eval i) i')
    (hok:Ar (Tn C fet t x' i').ok):Pure P O Aa m a w o (Tn C fet t x' i'):=by
  unfold Tn at hok ⊢
  split at hok
  ·rename_i q i0 off0
   obtain⟨n,hn,he⟩:=Ba hok
   rw[he]at hok ⊢;clear he
   obtain⟨k,rfl⟩:=Ro hn
   have hi:=hi.int
   obtain⟨ti,ht,he⟩:=Bz hok
   rw[he]at hok ⊢;clear he
   obtain⟨p,hp,he⟩:=Ba hok
   rw[he]at hok ⊢;clear he
   obtain⟨te,hte,he⟩:=Bz hok
   rw[he]at hok ⊢;clear he
   obtain⟨r,hr,he⟩:=Ba hok
   rw[he]at hok ⊢;clear he
   obtain⟨h1,h2⟩:=hok.cons
   obtain⟨h2,h3⟩:=h2.cons
   obtain⟨h3,h4⟩:=h3.cons
   obtain⟨h4,h5⟩:=h4.cons
   obtain⟨h5,h6⟩:=h5.cons
   have h6:=h6.cons.1
   have h1:=Nat.eq_of_beq_eq_true h1
   have h2:=Nat.eq_of_beq_eq_true h2
   have h3:=Nat.eq_of_beq_eq_true h3
   subst h1;subst h2
   have h4:0<=n:=by simpa using h4
   have h5:n<(p.1:Int):=by simpa using h5
   have h6:n.toNat<r.l.es.length:=by rw[Sl.BZ];simpa using h6
   have hx':AL O Aa m w (a.eval x) (.Dc q 0 0):=hx
   have hg:=(hf _ _ (Hr hr)).1
   simp only[AL,hg,Option.map_some,Obj.shp]at hx'
   obtain⟨g,n',cap,e1,e2⟩:=hx'.2 (by omega)
   have hd:ti.d= .array p.1 p.2:=by
     unfold Ada at hp
     split at hp
     ·rename_i hd;injection hp with hp;rw[hd,<- hp]
     ·cases hp
   have hu:=(hC.is ht).run w
   rw[hd]at hu
   have hs:=(hC.is hte).J4 w
   refine⟨⟨.pointer (some (at' g (n.toNat*te.cs.length))),?_,?_⟩,rfl,rfl,rfl⟩
   ·have e2':a.eval x= .pointer (some (at' g 0)):=by rw[e2];simp
    simp [execOp,ho,Instr.indexAt,hi,asIntOf,hu,e2',Instr.sureAddr,h4,h5,hs,JW]
   ·show AL O Aa m w _ (.Dc q n.toNat 0)
    simp only[AL,hg,Option.map_some,Obj.shp]
    refine⟨rfl,fun _=>⟨g,n',cap,e1,by rw[h3];rfl⟩⟩
  ·rename_i y hne
   clear hne
   obtain⟨n,hn,he⟩:=Ba hok
   rw[he]at hok ⊢;clear he
   obtain⟨k,rfl⟩:=Ro hn
   have hi:=hi.int
   unfold elemOf at hok ⊢
   obtain⟨ti,ht,he⟩:=Bz hok
   rw[he]at hok ⊢;clear he
   obtain⟨e,hel,he⟩:=Ba hok
   rw[he]at hok ⊢;clear he
   obtain⟨te,hte,he⟩:=Bz hok
   rw[he]at hok ⊢;clear he
   have hu:=(hC.is ht).run w
   rw[Md hel]at hu
   have hs:=(hC.is hte).J4 w
   have run: ∀ b off len cap,a.eval x= .slice (some (at' b off)) len cap->0<=n->n<(len:Int)->(execOp a.eval o).run P w= .ok (.value (.pointer (some (at' b (off+n.toNat*te.cs.length))))) w:=by
     intro b off len cap h1 h2 h3
     simp [execOp,ho,Instr.indexAt,hi,asIntOf,hu,h1,h2,h3,hs,JW]
   dsimp only at hok ⊢
   split at hok
   ·rename_i q
    obtain⟨r,hr,he⟩:=Ba hok
    rw[he]at hok
    rw[he];clear he
    obtain⟨h1,h2⟩:=hok.cons
    obtain⟨h2,h3⟩:=h2.cons
    have h3:=h3.cons.1
    have h1:=Nat.eq_of_beq_eq_true h1
    have h2:0<=n:=by simpa using h2
    have h3:n<(r.l.es.length:Int):=by rw[Sl.BZ];simpa using h3
    obtain⟨h4,_,h5⟩:=hx.own hf (Hr hr)
    have hg:=(hf _ _ (Hr hr)).1
    rcases h5 with ⟨_,h6,_⟩ | ⟨_,g,cap,cur,h6,_⟩
    ·rw[h6]at h3;simp at h3;omega
    ·refine⟨⟨_,run g 0 _ cap (by rw[h4,h6]) h2 h3,?_⟩,rfl,rfl,rfl⟩
     show AL O Aa m w _ (.Dc q n.toNat 0)
     simp only[AL,hg,Option.map_some,Obj.shp]
     refine⟨rfl,fun _=> ?_⟩
     exact⟨g,_,_,h6,by rw[<- h1];simp⟩
   ·rename_i l
    obtain⟨h1,h2⟩:=hok.cons
    obtain⟨h0,h2⟩:=h2.cons
    obtain⟨h2,h3⟩:=h2.cons
    have h3:=h3.cons.1
    have h1:=Nat.eq_of_beq_eq_true h1
    have h2:0<=n:=by simpa using h2
    have h3:n<(l.es.length:Int):=by rw[Sl.BZ];simpa using h3
    have hx':Ai O w (a.eval x) (.sl l):=hx
    generalize hv:a.eval x=v at hx'
    cases hx' with
    | nil=>simp [Sl.es]at h3;omega
    | sl0=>simp [Sl.es]at h3;omega
    | @sl b off cap _ vs hc hm hr =>
      refine⟨⟨_,run b off _ cap hv h2 h3,?_⟩,rfl,rfl,rfl⟩
      have hj:n.toNat<l.es.length:=by omega
      refine⟨b,_,rfl,fun j hjj=> ?_⟩
      rw[Sl.Ajj]at hjj
      obtain⟨h4,h5⟩:=hm n.toNat j hj hjj
      rw[<- h1,Nat.add_assoc]
      rw[l.at_eq (by rw[<- Sl.BZ];exact hj)]
      exact⟨h4,_,h5,hr n.toNat j hj hjj⟩
   ·rename_i q k
    obtain⟨cs,hb,he⟩:=Ba hok
    rw[he]at hok
    rw[he];clear he
    obtain⟨h1,h2⟩:=hok.cons
    obtain⟨h2,h3⟩:=h2.cons
    have h3:=h3.cons.1
    have h1:=Nat.eq_of_beq_eq_true h1
    have h2:0<=n:=by simpa using h2
    rw[Nat.blt_eq]at h3
    have hg:=(hf _ _ (D8 hb)).1
    have hc:AL O Aa m w (a.eval x) (.bsl q k):=hx
    have hc:=hc.2
    rw[hg]at hc
    obtain⟨b,base,e1,e2⟩:=hc
    refine⟨⟨_,run b base _ k e2 h2 (by omega),?_⟩,rfl,rfl,rfl⟩
    show AL O Aa m w _ (.ptr q n.toNat)
    refine⟨rfl,?_⟩
    rw[hg,h1,Nat.mul_one]
    exact⟨b,base,e1,rfl⟩
   ·exact(AP hok).elim
theorem Ac9 {x:Operand} (hf:FOk O Aa m w fet) (ho:o.op= .nilCheck x) {x':A} (hx:Au O Aa m w (a.eval x) x') (hok:Ar (VW fet x').ok):Pure P O Aa m a w o (VW fet x'):=by
  unfold VW at hok ⊢
  split at hok
  ·obtain⟨cs,hcs,he⟩:=Ba hok
   rw[he]at hok ⊢;clear he
   obtain⟨b,base,h1,h2,h3⟩:=hx.ptr hf (D8 hcs)
   refine⟨⟨a.eval x,?_,hx⟩,rfl,rfl,rfl⟩
   rw[h2]
   simp [execOp,ho,h2]
  ·exact(AP hok).elim
theorem Ai.one {u:Value} {c:A} (h:Ai O w u c):u.oneCell'=true:=by
  induction h<;>first | rfl | assumption
theorem iE {k:CK} {u:Value} {c:A} (h:Ai O w u c) (hok:Ar (force k c).1):AL O Aa m w u (force k c).2:=by
  cases k with
  | bool=>have:=hok.cons.1;cases h<;>simp [A.isB]at this;exact .bool _
  | int k =>
    have:=hok.cons.1
    cases h<;>simp [A.isI]at this
    have:=Ku this
    subst this
    exact .int _ _
  | str=>have:=hok.cons.1;cases h<;>simp [A.isS]at this;exact .str _
  | sl e sz =>
    have:=hok.cons.1
    cases h with
    | nil t=>exact .nil _
    | sl0 a t=>exact Ai.sl0 _ _
    | sl vs h1 h2 h3=>exact .sl vs h1 h2 h3
    | _=>simp [A.Aeo]at this
  | ptr=>have:=hok.cons.1;cases h<;>simp [A.iT]at this;exact .Dk
  | fn =>
    have:=hok.cons.1
    cases h<;>simp [A.isFn]at this
    ·exact Ai.fn _
    ·exact Ai.VX
  | mp _ _=>have:=hok.cons.1;cases this
  | sln e sz =>
    have:=hok.cons.1
    cases h with
    | sln h hn=>exact .sln h hn
    | _=>simp [A.Adl]at this
  | oth=>exact h.one
theorem wG (cs:List A) (ks:List CK): ∀ off,(forces cs ks off).2.length=ks.length:=by
  induction ks with
  | nil=>intro off;rfl
  | cons k ks ih=>intro off;simp [forces,ih]
theorem AhB (cs:List A) (ks:List CK): ∀(off:Nat) (f:Nat->Value),(∀ j,j<ks.length->Ai O w (f j) (cs.getD (off+j) .undef))->Ar (forces cs ks off).1 ->
    ∀ j,j<ks.length->AL O Aa m w (f j) ((forces cs ks off).2.getD j .undef):=by
  induction ks with
  | nil=>intro off f _ _ j hj;simp at hj
  | cons k ks ih =>
    intro off f h hok j hj
    obtain⟨h1,h2⟩:=hok.append
    cases j with
    | zero=>exact iE (by have:=h 0 (by simp);simpa using this) h1
    | succ j =>
      have:=ih (off+1) (fun j=>f (j+1)) (fun j hj=>by have:=h (j+1) (by simpa using hj);rwa [show off+(j+1)=off+1+j from by omega]at this) h2 j (by simpa using hj)
      simpa [forces]using this
theorem NG {t:Nat} {ti:TI} (hT:MS P t ti) {b k:Nat} (f:Nat->Value) (hc: ∀ j,j<ti.cs.length->w.cell? (at' b (k+j))=some (f j)) (h0:ti.agg=false->0<ti.cs.length) :
    (loadVar t (at' b k)).run P w= .ok (if ti.agg then .agg ((List.range ti.cs.length).map f).toArray else f 0) w:=by
  unfold loadVar
  simp only[Sem.run_bind,hT.Ala,Result.andThen_ok]
  cases hg:ti.agg with
  | true =>
    have:=run_loadCells (P:=P) w (at' b k) ti.cs.length f (fun j hj=>by rw[JW];exact hc j hj)
    simp [hT.J4,this]
  | false =>
    have:=hc 0 (h0 hg)
    simp only[Nat.add_zero]at this
    simp [this]
theorem AbP {α :Type} {l:List α} {k: α} (h:one? l=some k):l=[k]:=by
  unfold one? at h;split at h<;>simp_all
theorem AbE {t:Nat} {ti:TI} (hT:MS P t ti) {b k off:Nat} {cs:List A} {pre:List Bool} (hc: ∀ j,j<ti.cs.length-> ∃ u,w.cell? (at' b (k+j))=some u/\Ai O w u (cs.getD (off+j) .undef))
    (hok:Ar (QJ ti cs off pre).ok): ∃ v,(loadVar t (at' b k)).run P w= .ok v w/\Au O Aa m w v (QJ ti cs off pre).val/\(QJ ti cs off pre).new=[]/\(QJ ti cs off pre).upd=[]/\(QJ ti cs off pre).del=[]:=by
  have hf: ∀ j,j<ti.cs.length->w.cell? (at' b (k+j))=some ((w.cell? (at' b (k+j))).getD undef)/\Ai O w ((w.cell? (at' b (k+j))).getD undef) (cs.getD (off+j) .undef):=by
    intro j hj
    obtain⟨u,h1,h2⟩:=hc j hj
    rw[h1];exact⟨rfl,h2⟩
  unfold QJ at hok ⊢
  cases hg:ti.agg with
  | true =>
    rw[hg]at hok
    simp only[cond_true]at hok ⊢
    obtain⟨_,h2⟩:=hok.append
    refine⟨_,NG hT (fun j=>(w.cell? (at' b (k+j))).getD undef) (fun j hj=>(hf j hj).1) (by simp [hg]),?_,rfl,rfl,rfl⟩
    rw[hg]
    refine⟨_,rfl,by simp [wG],fun j hj=> ?_⟩
    rw[wG]at hj
    have:=AhB (Aa:=Aa) (m:=m) cs ti.cs off (fun j=>(w.cell? (at' b (k+j))).getD undef) (fun j hj=>(hf j hj).2) h2 j hj
    have e:(((List.range ti.cs.length).map fun j=>(w.cell? (at' b (k+j))).getD undef).toArray).getD j undef=(w.cell? (at' b (k+j))).getD undef:=by
      rw[Array.getD_eq_getD_getElem?];simp [hj]
    rw[e];exact this
  | false =>
    rw[hg]at hok
    simp only[cond_false]at hok ⊢
    obtain⟨kk,hk,he⟩:=Ba hok
    rw[he]at hok ⊢;clear he
    have hone:=AbP hk
    obtain⟨_,h2⟩:=hok.append
    have h0:0<ti.cs.length:=by rw[hone];simp
    refine⟨_,NG hT (fun j=>(w.cell? (at' b (k+j))).getD undef) (fun j hj=>(hf j hj).1) (fun _=>h0),?_,rfl,rfl,rfl⟩
    rw[hg]
    have:=(hf 0 h0).2
    exact(iE this h2).toT
theorem AbA {l:List CK} (h:wZ l=true):l=[.ptr]:=by
  unfold wZ at h
  split at h
  ·rfl
  ·cases h
theorem AbF {t:Nat} {x:Operand} (hC:TOk P C) (hf:FOk O Aa m w fet) (ho:o.op= .load t x) {x':A} (hx:Au O Aa m w (a.eval x) x') (hok:Ar (VR C fet t x').ok):Pure P O Aa m a w o (VR C fet t x'):=by
  unfold VR at hok ⊢
  obtain⟨ti,ht,he⟩:=Bz hok
  rw[he]at hok ⊢;clear he
  have hT:=hC.is ht
  have run: ∀ b k v,a.eval x= .pointer (some (at' b k))->(loadVar t (at' b k)).run P w= .ok v w->(execOp a.eval o).run P w= .ok (.value v) w:=by
    intro b k v h1 h2
    simp [execOp,ho,Instr.loadAt,Instr.sureAddr,h1,h2]
  split at hok
  ·obtain⟨cs,hcs,he⟩:=Ba hok
   rw[he]at hok
   rw[he];clear he
   rename_i q off
   obtain⟨b,base,h1,h2,h3⟩:=hx.ptr hf (D8 hcs)
   obtain⟨h4,h5⟩:=hok.cons
   have h4:=Nat.le_of_ble_eq_true h4
   have h5:0<ti.cs.length:=by simpa [Nat.blt_eq]using h5.cons.1
   have hc: ∀ j,j<ti.cs.length->w.cell? (at' b (base+off+j))=some ((w.cell? (at' b (base+off+j))).getD undef)/\AL O Aa m w ((w.cell? (at' b (base+off+j))).getD undef) (cs.getD (off+j) .undef):=by
     intro j hj
     obtain⟨_,_,u,h6,h7⟩:=h3 (off+j) (by omega)
     rw[Nat.add_assoc,h6];exact⟨rfl,h7⟩
   have hl:=NG hT (fun j=>(w.cell? (at' b (base+off+j))).getD undef) (fun j hj=>(hc j hj).1) (fun _=>h5)
   refine⟨⟨_,run _ _ _ h2 hl,?_⟩,rfl,rfl,rfl⟩
   simp only[Dl.g,yC]
   cases hg:ti.agg with
   | true =>
     refine⟨_,rfl,by simp;omega,fun j hj=> ?_⟩
     simp only[List.length_take,List.length_drop]at hj
     have e:(((List.range ti.cs.length).map fun j=>(w.cell? (at' b (base+off+j))).getD undef).toArray).getD j undef=(w.cell? (at' b (base+off+j))).getD undef:=by
       rw[Array.getD_eq_getD_getElem?];simp [show j<ti.cs.length from by omega]
     have e2:((cs.drop off).take ti.cs.length).getD j .undef=cs.getD (off+j) .undef:=by
       simp only[List.getD_eq_getElem?_getD,List.getElem?_take,List.getElem?_drop]
       rw[if_pos (by omega)]
     simp only[e2]
     rw[e];exact(hc j (by omega)).2
   | false=>exact(hc 0 h5).2.toT
  ·rename_i cs
   obtain⟨b,k,h1,h2⟩:=(show AL O Aa m w _ (.elt cs)from hx)
   have hle:ti.cs.length<=cs.length:=by
     have hA:Ar [Nat.ble ti.cs.length cs.length]:=by
       unfold QJ at hok
       cases hg:ti.agg with
       | true=>rw[hg]at hok;exact(hok.append).1
       | false =>
         rw[hg]at hok
         obtain⟨kk,hk,he⟩:=Ba hok
         simp only[cond_false]at hok
         rw[he]at hok;exact(hok.append).1
     exact Nat.le_of_ble_eq_true hA.cons.1
   obtain⟨v,h3,h4,h5,h6,h7⟩:=AbE (Aa:=Aa) (m:=m) (k:=k) (off:=0) hT (fun j hj=>by
     obtain⟨_,u,h8,h9⟩:=h2 j (by omega)
     exact⟨u,h8,by simpa using h9⟩) hok
   exact⟨⟨v,run _ _ _ h1 h3,h4⟩,h5,h6,h7⟩
  ·rename_i k q
   obtain⟨h1,h2⟩:=hok.cons
   obtain⟨h2,h3⟩:=h2.cons
   have h3:ti.agg=false:=by simpa using h3.cons.1
   have h1:=Nat.eq_of_beq_eq_true h1
   subst h1
   have h2:=AbA h2
   obtain⟨_,p,hp1,⟨b,j,e1,e2,e3⟩,hc⟩:=(show AL O Aa m w (a.eval x) (.clo 0 q)from hx)
   have hl:=NG (P:=P) (w:=w) hT (b:=b) (k:=j) (fun _=>p) (fun i hi=>by
     have:i=0:=by rw[h2]at hi;simpa using hi
     subst this;exact e3) (fun _=>by rw[h2];decide)
   rw[h3]at hl
   refine⟨⟨_,run _ _ _ e1 hl,?_⟩,rfl,rfl,rfl⟩
   exact⟨hp1,hc⟩
  ·rename_i q i off
   obtain⟨r,hr,he⟩:=Ba hok
   rw[he]at hok
   rw[he];clear he
   have hA:Ar [Nat.ble (off+ti.cs.length) r.l.sz,decide (i<r.l.xs.length)]:=by
     unfold QJ at hok
     cases hg:ti.agg with
     | true=>rw[hg]at hok;exact(hok.append).1
     | false =>
       rw[hg]at hok
       obtain⟨kk,hk,he⟩:=Ba hok
       simp only[cond_false]at hok
       rw[he]at hok;exact(hok.append).1
   obtain⟨hle,hi⟩:=hA.cons
   have hle:=Nat.le_of_ble_eq_true hle
   have hi':i<r.l.xs.length:=by simpa using hi.cons.1
   have hi:i<r.l.es.length:=by rw[Sl.BZ];exact hi'
   obtain⟨hg,hsz,hO⟩:=hf _ _ (Hr hr)
   have hx':AL O Aa m w (a.eval x) (.Dc q i off):=hx
   simp only[AL,hg,Option.map_some,Obj.shp]at hx'
   obtain⟨g,n',cap,h1,h2⟩:=hx'.2 hi
   rcases hO with ⟨_,h3,_⟩ | ⟨_,g',cap',cur,h3,h4,h5,h6,h7,h8,_⟩
   ·rw[h3]at hi;simp at hi
   ·rw[h1]at h3
    injection h3 with h3 h3' h3''
    injection h3 with h3;injection h3 with h3
    subst h3
    obtain⟨v,h13,h14,h15,h16,h17⟩:=AbE (Aa:=Aa) (m:=m) (O:=O) (b:=g) (k:=i*r.l.sz+off) (off:=off) (cs:=r.l.at i) hT (fun j hj=>by
      obtain⟨u,h9,h10⟩:=h8 i (off+j) hi (by omega)
      rw[r.l.at_eq hi']
      refine⟨u,?_,h10⟩
      rw[h4.cell,Nat.add_assoc];exact h9) hok
    exact⟨⟨v,run _ _ _ h2 h13,h14⟩,h15,h16,h17⟩
  ·exact(AP hok).elim
end
end Go.Proofs.YtadefjgbcapakaaGreatDoor.Vm
namespace Go.Proofs.YtadefjgbcapakaaGreatDoor.Vm
section
variable {P:Program} {C:Ctx} {O:Own} {Aa:List (Nat×Obj)} {m:Nat->Value} {a:Act} {w:World} {o:Oper} {fet:Fet}
def AgP (w:World) (O:Own) (v:Value) (l:Sl):Prop :=
  (∃ ad,v= .slice ad 0 0/\l.xs=[])\/ ∃ b k c,v= .slice (some (at' b k)) l.es.length c/\l.es.length<=c /\
      ∀ i j,i<l.es.length->j<l.sz-> ∃ u,w.cell? (at' b (k+(i*l.sz+j)))=some u/\Ai O w u ((l.es.getD i []).getD j .undef)
theorem zQ {l:Sl} (h:l.es=[]):l.xs=[]:=by
  unfold Sl.es at h;exact List.map_eq_nil_iff.1 h
theorem Ai.ofNil {l:Sl} (h:l.es=[]):Ai O w (.slice none 0 0) (.sl l):=by
  obtain⟨t,xs⟩:=l
  have:xs=[]:=zQ h
  subst this
  exact .nil t
theorem Ap7 {x:A} {v:Value} (hf:FOk O Aa m w fet) (hx:Au O Aa m w v x) (hok:Ar (rd fet x).1):AgP w O v (rd fet x).2:=by
  rcases AeR hok with ⟨n,e,frz,l,rfl,hg,hl⟩ | ⟨rfl,hl⟩ | ⟨l,rfl,hl⟩<;>rw[hl]
  ·obtain⟨h1,h0,h2⟩:=hx.own hf hg
   rcases h2 with ⟨h3,h4,h5⟩ | ⟨h3,g,cap,cur,h4,h5,h6,h7,h8,h9,_⟩
   ·exact .inl ⟨none,by rw[h1,h5],zQ h4⟩
   ·refine .inr ⟨g,0,cap,by rw[h1,h4],h6,fun i j hi hj=> ?_⟩
    obtain⟨u,h10,h11⟩:=h9 i j hi hj
    exact⟨u,by rw[Nat.zero_add,h5.cell];exact h10,h11⟩
  ·exact .inl ⟨none,hx,rfl⟩
  ·have hx':Ai O w v (.sl l):=hx
   cases hx' with
   | nil=>exact .inl ⟨none,rfl,rfl⟩
   | sl0 ad=>exact .inl ⟨some ad,rfl,rfl⟩
   | @sl b off cap _ vs hc hm hr=>exact .inr ⟨b,off,cap,rfl,hc,fun i j hi hj=>⟨vs i j,(hm i j hi hj).2,hr i j hi hj⟩⟩
theorem AgI {t:Ty} {x:A} {v:Value} (hf:FOk O Aa m w fet) (hx:Au O Aa m w v x) (hok:Ar (rdT fet t x).1):AgP w O v ⟨t,(rdT fet t x).2⟩:=by
  by_cases hn:x= .Dh
  ·subst hn
   exact .inl ⟨none,hx,rfl⟩
  ·have hr:rdT fet t x=match (rd fet x).2.cast t with | some xs=>((rd fet x).1,xs) | none=>([false],[]):=by
     cases x<;>first | rfl | exact absurd rfl hn
   rw[hr]at hok ⊢
   cases hc:(rd fet x).2.cast t with
   | none=>rw[hc]at hok;have:=hok false (by simp);cases this
   | some xs =>
     rw[hc]at hok
     dsimp only at hok ⊢
     have:=Ap7 hf hx hok
     rw[Sl.J9 hc]at this
     exact this
theorem Ako {n:Int} (h:isByte n=true):0<=n/\n<256:=by
  unfold isByte at h
  simpa using h
theorem Aeq {d:TypeDesc} (h:Adm d=true):d= .int .u8:=by
  unfold Adm at h;split at h<;>simp_all
theorem fU {s t:Nat} {x:Operand} (hC:TOk P C) (hf:FOk O Aa m w fet) (ho:o.op= .convert s t x) {x':A} (hx:Au O Aa m w (a.eval x) x') (hok:Ar (Qu C fet s t x').ok) :
    Pure P O Aa m a w o (Qu C fet s t x'):=by
  unfold Qu at hok ⊢
  obtain⟨ts,hts,he⟩:=Bz hok
  rw[he]at hok ⊢;clear he
  obtain⟨tt,htt,he⟩:=Bz hok
  rw[he]at hok ⊢;clear he
  have hus:=(hC.is hts).run w
  have hut:=(hC.is htt).run w
  split at hok
  ·rename_i k j n hd
   rw[hd]at hut
   have h1:=hx.int
   refine⟨⟨.int k (k.wrap n),?_,.mkInt _ _⟩,rfl,rfl,rfl⟩
   simp only[execOp,ho,convert,Sem.run_bind,hus,hut,Result.andThen_ok,h1]
   cases ts.d<;>simp [Conv.intToInt]
  ·rename_i l hd
   rw[hd]at hut
   obtain⟨b,hb,hl⟩:=hx.str
   refine⟨⟨.string b,?_,.mkStr _ hl⟩,rfl,rfl,rfl⟩
   simp only[execOp,ho,convert,Sem.run_bind,hus,hut,Result.andThen_ok,hb]
   cases ts.d<;>simp
  ·exact(AP hok).elim
  ·rename_i y _ _ hd _ _
   rw[hd]at hut
   obtain⟨e,hel,he⟩:=Ba hok
   rw[he]at hok ⊢;clear he
   obtain⟨te,hte,he⟩:=Bz hok
   rw[he]at hok ⊢;clear he
   obtain⟨h1,h2⟩:=hok.cons
   obtain⟨h2,h3⟩:=h2.append
   have h3:=h3.cons.1
   have hde:=Aeq h1
   have hes:=Md hel
   have hue:=(hC.is hte).d
   rw[hde]at hue
   have hus':=(hC.is hts).d
   rw[hes]at hus'
   have hr:AgP w O (a.eval x) ⟨SX,(rdB fet y).2⟩:=AgI (t:=SX) hf hx h2
   generalize hL:(rdB fet y).2=bs at *
   have hes:(⟨SX,bs⟩:Sl).es.length=bs.length:=Sl.BZ _
   rcases hr with ⟨ad,hv,hn⟩ | ⟨b,k,c,hv,hc,hcell⟩
   ·have hn:bs=[]:=hn
    refine⟨⟨.string .empty,?_,.mkStr _ (by rw[hn];rfl)⟩,rfl,rfl,rfl⟩
    cases ad with
    | none =>
      have:=run_convert_bytes_string (P:=P) w s t e none 0 0 hus' hue (by rw[(hC.is htt).d,hd])
      simp only[execOp,ho,hv,Sem.run_bind,this]
      rfl
    | some ad =>
      have:=run_convert_bytes_back (P:=P) w s t e ad 0 [] hus' hue (by rw[(hC.is htt).d,hd]) (fun j hj=>absurd hj (Nat.not_lt_zero j))
      simp only[List.length_nil]at this
      simp only[execOp,ho,hv,Sem.run_bind,this]
      rfl
   ·refine⟨⟨.string ⟨(List.map byteOf bs).toArray⟩,?_,.mkStr _ (by simp)⟩,rfl,rfl,rfl⟩
    have:=run_convert_bytes_back (P:=P) w s t e (at' b k) c (List.map byteOf bs) hus' hue (by rw[(hC.is htt).d,hd]) (fun j hj=>by
      have hj':j<bs.length:=by simpa using hj
      obtain⟨u,h4,h5⟩:=hcell j 0 (by rw[hes];exact hj') (by show 0<1;omega)
      have hb:isByte (bs.getD j 0)=true:=by
        refine(List.all_eq_true.1 h3) _ ?_
        rw[List.getD_eq_getElem?_getD,List.getElem?_eq_getElem hj'];simp
      obtain⟨h7,h8⟩:=Ako hb
      have h6:(⟨SX,bs⟩:Sl).es.getD j []=[A.int .u8 (bs.getD j 0)]:=by
        rw[<- Sl.at_eq _ hj'];rfl
      rw[h6]at h5
      simp only[List.getD_cons_zero]at h5
      have hu:u= .int .u8 (bs.getD j 0):=by cases h5;rfl
      have h4':w.cell? (at' b (k+(j*1+0)))=some u:=h4
      rw[JW,show k+j=k+(j*1+0)from by omega,h4',hu]
      have:(List.map byteOf bs)[j]'hj=UInt8.ofNat (bs.getD j 0).toNat:=by
        rw[List.getElem_map,List.getD_eq_getElem?_getD,List.getElem?_eq_getElem hj'];rfl
      rw[this]
      have:((UInt8.ofNat (bs.getD j 0).toNat).toNat:Int)=bs.getD j 0:=by
        rw[UInt8.toNat_ofNat'];omega
      rw[this])
    simp only[List.length_map]at this
    rw[hes]at hv
    simp only[execOp,ho,hv,Sem.run_bind,this]
    rfl
  ·exact(AP hok).elim
theorem AmA {c:Call} {x y:Operand} (ho:o.op= .call c) (hcal:c.callee= .builtin .min) (hargs:c.args= #[x,y]) {x' y':A} (hx:Au O Aa m w (a.eval x) x') (hy:Au O Aa m w (a.eval y) y')
    (hok:Ar (Aij x' y').ok):Pure P O Aa m a w o (Aij x' y'):=by
  unfold Aij at hok ⊢
  split at hok
  ·rename_i k p k' q
   cases hk:A.kEq k k' with
   | false=>rw[hk]at hok;exact(AP hok).elim
   | true =>
     have:=Ku hk
     subst this
     refine⟨⟨.int k (if q<p then q else p),?_,?_⟩,rfl,rfl,rfl⟩
     ·have h:=run_min_int2 (P:=P) (w:=w) c.argTypes o.type k k p q
      simp [execOp,ho,resolve,hcal,hargs,invoke,builtin,hx.int,hy.int,h]
     ·show Au O Aa m w _ (.int k (bif decide (q<p)then q else p))
      by_cases h:q<p<;>simp only[h,decide_true,decide_false,cond_true,cond_false,if_true,if_false]<;>exact .mkInt _ _
  ·exact(AP hok).elim
theorem Am7 {c:Call} {x y:Operand} (ho:o.op= .call c) (hcal:c.callee= .builtin .max) (hargs:c.args= #[x,y]) {x' y':A} (hx:Au O Aa m w (a.eval x) x') (hy:Au O Aa m w (a.eval y) y')
    (hok:Ar (Aig x' y').ok):Pure P O Aa m a w o (Aig x' y'):=by
  unfold Aig at hok ⊢
  split at hok
  ·rename_i k p k' q
   cases hk:A.kEq k k' with
   | false=>rw[hk]at hok;exact(AP hok).elim
   | true =>
     have:=Ku hk
     subst this
     refine⟨⟨.int k (if q>p then q else p),?_,?_⟩,rfl,rfl,rfl⟩
     ·have h:=run_max_int2 (P:=P) (w:=w) c.argTypes o.type k k p q
      simp [execOp,ho,resolve,hcal,hargs,invoke,builtin,hx.int,hy.int,h]
     ·show Au O Aa m w _ (.int k (bif decide (p<q)then q else p))
      by_cases h:p<q<;>simp only[h,gt_iff_lt,decide_true,decide_false,cond_true,cond_false,if_true,if_false]<;>exact .mkInt _ _
  ·exact(AP hok).elim
end
end Go.Proofs.YtadefjgbcapakaaGreatDoor.Vm
namespace Go.Proofs.YtadefjgbcapakaaGreatDoor.Vm
section
variable {P:Program} {C:Ctx} {O:Own} {Aa:List (Nat×Obj)} {m:Nat->Value} {a:Act} {w:World} {o:Oper} {fet:Fet}
def Je (O:Own) (Aa:List (Nat×Obj)) (m:Nat->Value) (w:World) (vs:Array Value) (cs:List A):Prop :=
  vs.size=cs.length/\ ∀ j,j<cs.length->AL O Aa m w (vs.getD j undef) (cs.getD j .undef)
theorem AL.one {v:Value} {x:A} (h:AL O Aa m w v x):v.oneCell'=true:=by
  cases x with
  | undef=>exact h
  | bool _=>cases h;rfl
  | int _ _=>cases h;rfl
  | str _=>cases h;rfl
  | sl _=>cases h<;>rfl
  | sln _=>exact Ai.one h
  | Dh=>have h':v=_:=h;subst h';rfl
  | Dk=>cases h;rfl
  | ptr _ _=>exact h.1
  | own _=>exact h.1
  | Dc _ _ _=>exact h.1
  | clo _ _=>exact h.1
  | bsl _ _=>exact h.1
  | elt _=>obtain⟨_,_,h,_⟩:=h;subst h;rfl
  | fn _=>cases h<;>rfl
  | _=>exact h.elim
theorem oneCell_cells {v:Value} (h:v.oneCell'=true):v.cells= #[v]:=by cases v<;>first | rfl | cases h
theorem Au.cells {v:Value} {x:A} (h:Au O Aa m w v x) (hv:x.isVal=true):Je O Aa m w v.cells x.cells:=by
  have cell:AL O Aa m w v x->x.cells=[x]->Je O Aa m w v.cells x.cells:=by
    intro hc he
    rw[he,oneCell_cells hc.one]
    refine⟨rfl,fun j hj=> ?_⟩
    have:j=0:=by simpa using hj
    subst this;exact hc
  cases x with
  | agg cs =>
    obtain⟨vs,h1,h2,h3⟩:=h
    subst h1;exact⟨h2,h3⟩
  | undef=>cases hv
  | tup _=>cases hv
  | usl _ _=>cases hv
  | ump _=>cases hv
  | box _=>cases hv
  | cbx _ _=>cases hv
  | cnd _ _=>cases hv
  | _=>exact cell h rfl
theorem Me (l:List Value): ∀(k off:Nat) (cs:Array Value) (i:Nat),off+k+l.length<=cs.size ->
    ((l.zipIdx k).foldl (fun cs (p:Value×Nat)=>cs.setIfInBounds (off+p.2) p.1) cs).size=cs.size /\
    ((l.zipIdx k).foldl (fun cs (p:Value×Nat)=>cs.setIfInBounds (off+p.2) p.1) cs).getD i undef=if off+k<=i/\i<off+k+l.length then l.getD (i - (off+k)) undef else cs.getD i undef:=by
  induction l with
  | nil =>
    intro k off cs i _
    refine⟨rfl,?_⟩
    rw[if_neg (by simp)];rfl
  | cons v l ih =>
    intro k off cs i h
    simp only[List.zipIdx_cons,List.foldl_cons]
    simp only[List.length_cons]at h ⊢
    obtain⟨h1,h2⟩:=ih (k+1) off (cs.setIfInBounds (off+k) v) i (by simp;omega)
    refine⟨by rw[h1];simp,?_⟩
    rw[h2]
    by_cases hi:off+(k+1)<=i/\i<off+(k+1)+l.length
    ·rw[if_pos hi,if_pos (by omega),show i - (off+k)=(i - (off+(k+1)))+1 from by omega];rfl
    ·rw[if_neg hi]
     by_cases hk:i=off+k
     ·subst hk
      rw[if_pos (by omega),Array.getD_eq_getD_getElem?,Array.getElem?_setIfInBounds]
      rw[if_pos rfl,if_pos (by omega)]
      simp
     ·rw[if_neg (by omega),Array.getD_eq_getD_getElem?,Array.getElem?_setIfInBounds,if_neg (by omega),<- Array.getD_eq_getD_getElem?]
theorem Xq (l:List A) (off:Nat) (vs:List A) (i:Nat) (h:off+vs.length<=l.length):(splice l off vs).getD i .undef=if off<=i/\i<off+vs.length then vs.getD (i - off) .undef else l.getD i .undef:=by
  unfold splice
  simp only[List.getD_eq_getElem?_getD]
  by_cases h1:i<off
  ·rw[if_neg (by omega),List.append_assoc,List.getElem?_append_left (by simp;omega),List.getElem?_take,if_pos h1]
  ·by_cases h2:i<off+vs.length
   ·rw[if_pos ⟨by omega,h2⟩,List.append_assoc,List.getElem?_append_right (by simp;omega)]
    simp only[List.length_take,Nat.min_eq_left (show off<=l.length from by omega)]
    rw[List.getElem?_append_left (by omega)]
   ·rw[if_neg (by omega),List.getElem?_append_right (by simp;omega)]
    simp only[List.length_append,List.length_take,Nat.min_eq_left (show off<=l.length from by omega),List.getElem?_drop]
    rw[show off+vs.length+(i - (off+vs.length))=i from by omega]
theorem NK (l:List A) (off:Nat) (vs:List A) (h:off+vs.length<=l.length):(splice l off vs).length=l.length:=by
  unfold splice;simp;omega
theorem Je.splice {vs us:Array Value} {cs xs:List A} {off:Nat} (h:Je O Aa m w vs cs) (hu:Je O Aa m w us xs) (hle:off+xs.length<=cs.length) :
    Je O Aa m w (us.zipIdx.foldl (fun cs (c,j)=>cs.setIfInBounds (off+j) c) vs) (splice cs off xs):=by
  have e:us.zipIdx.foldl (fun cs (c,j)=>cs.setIfInBounds (off+j) c) vs=(us.toList.zipIdx 0).foldl (fun cs (p:Value×Nat)=>cs.setIfInBounds (off+p.2) p.1) vs:=by
    rw[<- Array.foldl_toList];simp
  rw[e]
  have hl:off+0+us.toList.length<=vs.size:=by rw[Array.length_toList,hu.1,h.1];omega
  refine⟨by rw[(Me us.toList 0 off vs 0 hl).1,h.1,NK _ _ _ hle],fun j hj=> ?_⟩
  rw[NK _ _ _ hle]at hj
  rw[(Me us.toList 0 off vs j hl).2,Xq _ _ _ _ hle]
  rw[Array.length_toList,hu.1]
  by_cases hi:off<=j/\j<off+xs.length
  ·rw[if_pos (by omega),if_pos hi,Nat.add_zero]
   have:=hu.2 (j - off) (by omega)
   have e:us.toList.getD (j - off) undef=us.getD (j - off) undef:=by
     rw[Array.getD_eq_getD_getElem?,List.getD_eq_getElem?_getD,Array.getElem?_toList]
   rw[e];exact this
  ·rw[if_neg (by omega),if_neg hi];exact h.2 j hj
def UU (P:Program) (d:TypeDesc) (i:Nat):Option (Nat×Nat) :=
  match d with
  | .struct fs=>(fs[i]?).bind fun f=>(P.info? f.type).map fun j=>(f.offset,j.size)
  | .array _ e=>(P.info? e).map fun j=>(i*j.size,j.size)
  | _=>none
theorem AdS (hC:TOk P C) {d:TypeDesc} {place:Nat->Option (Nat×Nat)} (hp: ∀ i p,UU P d i=some p->place i=some p): ∀(xs:List (Nat×A)) (ps:List (Nat×Value)) (vs:Array Value) (cs cs':List A),
    xs.length=ps.length->(∀(j:Nat) (x:Nat×A) (p:Nat×Value),xs[j]? =some x->ps[j]? =some p->p.1=x.1/\Au O Aa m w p.2 x.2)->Je O Aa m w vs cs->fill C d xs cs=some cs' ->
    ∃ vs',Instr.fill place vs ps=some vs'/\Je O Aa m w vs' cs':=by
  intro xs
  induction xs with
  | nil =>
    intro ps vs cs cs' hl _ hcs hf
    cases ps with
    | nil=>simp only[fill]at hf;injection hf with hf;subst hf;exact⟨vs,rfl,hcs⟩
    | cons _ _=>simp at hl
  | cons x xs ih =>
    intro ps vs cs cs' hl hr hcs hf
    cases ps with
    | nil=>simp at hl
    | cons p ps =>
      obtain⟨i,x⟩:=x
      obtain⟨i',v⟩:=p
      obtain⟨h1,h2⟩:=hr 0 (i,x) (i',v) rfl rfl
      dsimp only at h1 h2
      subst h1
      simp only[fill]at hf
      cases hpl:lC C d i' with
      | none=>rw[hpl]at hf;cases hf
      | some q =>
        obtain⟨off,ti⟩:=q
        rw[hpl]at hf
        dsimp only at hf
        cases hb:(x.isVal&&Nat.beq x.cells.length ti.cs.length&&Nat.ble (off+ti.cs.length) cs.length)with
        | false=>rw[hb]at hf;cases hf
        | true =>
          rw[hb]at hf
          simp only[cond_true]at hf
          simp only[Bool.and_eq_true,L9,decide_eq_true_eq]at hb
          obtain⟨⟨hb1,hb2⟩,hb3⟩:=hb
          have hb3:=Nat.le_of_ble_eq_true hb3
          have hv:=h2.cells hb1
          have hpv:UU P d i'=some (off,ti.cs.length):=by
            unfold lC at hpl
            unfold UU
            split at hpl
            ·rename_i fs
             split at hpl
             ·rename_i f hf'
              split at hpl
              ·rename_i tf htf
               injection hpl with hpl;injection hpl with e1 e2
               subst e1;subst e2
               obtain⟨i0,z,h3,h4,_⟩:=(hC.is htf).i
               have:fs[i']? =some f:=by simpa using hf'
               simp [this,h3,h4]
              ·cases hpl
             ·cases hpl
            ·rename_i n e
             split at hpl
             ·rename_i tf htf
              cases hlt:Nat.blt i' n with
              | false=>rw[hlt]at hpl;cases hpl
              | true =>
                rw[hlt]at hpl
                injection hpl with hpl;injection hpl with e1 e2
                subst e2
                obtain⟨i0,z,h3,h4,_⟩:=(hC.is htf).i
                simp [h3,h4,<- e1]
             ·cases hpl
            ·cases hpl
          have hnext:=hcs.splice (off:=off) hv (by omega)
          obtain⟨vs',h5,h6⟩:=ih ps _ _ _ (by simpa using hl) (fun j x p hx hp=>hr (j+1) x p (by simpa using hx) (by simpa using hp)) hnext hf
          refine⟨vs',?_,h6⟩
          simp only[Instr.fill,hp _ _ hpv]
          have: ¬(v.cells.size≠ti.cs.length||decide (off+v.cells.size>vs.size))=true:=by
            rw[hv.1,hcs.1,hb2];simp;omega
          rw[if_neg (by simpa using this)]
          exact h5
theorem J8: ∀(vs:List Value) (ks:List CK),BC vs ks=true->vs.length=ks.length/\ ∀ j,j<ks.length->AL O Aa m w (vs.getD j undef) ((ks.map CK.zero).getD j .undef):=by
  intro vs
  induction vs with
  | nil=>intro ks h;cases ks with
    | nil=>exact⟨rfl,fun j hj=>by simp at hj⟩
    | cons _ _=>simp [BC]at h
  | cons v vs ih =>
    intro ks h
    cases ks with
    | nil=>cases v<;>simp [BC]at h
    | cons k ks =>
      have step:BC vs ks=true->AL O Aa m w v k.zero->(v::vs).length=(k::ks).length/\ ∀ j,j<(k::ks).length->AL O Aa m w ((v::vs).getD j undef) (((k::ks).map CK.zero).getD j .undef):=by
        intro hz hv
        obtain⟨h1,h2⟩:=ih ks hz
        refine⟨by simp [h1],fun j hj=> ?_⟩
        cases j with
        | zero=>exact hv
        | succ j=>simpa using h2 j (by simpa using hj)
      cases k with
      | bool=>cases v with
        | bool b=>cases b<;>simp [BC]at h;exact step h (.bool _)
        | _=>simp [BC]at h
      | int k'=>cases v with
        | int k'' n =>
          have h':A.kEq k'' k'=true/\n=0/\BC vs ks=true:=by
            clear step ih
            unfold BC at h
            split at h<;>simp_all
          obtain⟨h1,h2,h3⟩:=h'
          have:=Ku h1
          subst this;subst h2
          exact step h3 (.int _ _)
        | _=>simp [BC]at h
      | str=>cases v with
        | string s =>
          simp only[BC,Bool.and_eq_true]at h
          have hs:s.data.toList=[]:=by simpa using h.1
          refine step h.2 ?_
          show Ai O w (.string s) (.str [])
          rw[<- hs];exact .str s
        | _=>simp [BC]at h
      | sl e sz=>cases v with
        | slice ad l c =>
          have h':ad=none/\l=0/\c=0/\BC vs ks=true:=by
            clear step ih
            unfold BC at h
            split at h<;>simp_all
          obtain⟨h1,h2,h3,h4⟩:=h'
          subst h1;subst h2;subst h3
          exact step h4 rfl
        | _=>simp [BC]at h
      | ptr=>cases v with
        | pointer ad=>cases ad<;>simp [BC]at h;exact step h .Dk
        | _=>simp [BC]at h
      | fn=>cases v with
        | nilFunc=>simp [BC]at h;exact step h Ai.VX
        | _=>simp [BC]at h
      | sln _ _=>cases v<;>simp [BC]at h
      | mp _ _=>cases v<;>simp [BC]at h
      | oth =>
        have:v.oneCell'=true/\BC vs ks=true:=by
          cases v<;>simpa [BC]using h
        exact step this.2 this.1
theorem Abz {n t:Nat} {ks:List CK} (h:Ff P n t=some ks): ∃ i,P.info? t=some i:=by
  cases n with
  | zero=>simp [Ff]at h
  | succ n =>
    cases hi:P.info? t with
    | some i=>exact⟨i,rfl⟩
    | none =>
      have hu:P.underlying t=none:=by simp [Program.underlying,hi]
      simp [Ff,hu]at h
theorem Af0 {n t:Nat} {ks:List CK} {fs:Array Field} (h:Ff P n t=some ks) (hu:P.underlying t=some (.struct fs)): ∀ f∈fs.toList,∃ i,P.info? f.type=some i:=by
  cases n with
  | zero=>simp [Ff]at h
  | succ n =>
    simp only[Ff,hu]at h
    revert h
    generalize fs.toList=l
    induction l generalizing ks with
    | nil=>intro _ f hf;cases hf
    | cons g l ih =>
      intro h f hf
      simp only[List.foldr_cons]at h
      split at h
      ·rename_i a b ha hb
       rcases List.mem_cons.1 hf with rfl | hf
       ·exact Abz ha
       ·exact ih hb f hf
      ·cases h
theorem Ahm {n t c e:Nat} {ks:List CK} (h:Ff P n t=some ks) (hu:P.underlying t=some (.array c e)): ∃ i,P.info? e=some i:=by
  cases n with
  | zero=>simp [Ff]at h
  | succ n =>
    simp only[Ff,hu]at h
    split at h
    ·rename_i a ha;exact Abz ha
    ·cases h
theorem AfL {P:Program}: ∀(l:List Field),(∀ f∈l,∃ i,P.info? f.type=some i)->l.mapM (fun f=>(P.info? f.type).map fun i=>(f.offset,i.size))=some (l.map fun f=>(f.offset,P.cellsOf f.type)):=by
  intro l
  induction l with
  | nil=>intro _;rfl
  | cons f l ih =>
    intro h
    obtain⟨i,hi⟩:=h f List.mem_cons_self
    have:=ih (fun g hg=>h g (List.mem_cons_of_mem _ hg))
    simp [List.mapM_cons,hi,this,Program.cellsOf]
theorem Afo {t:Nat} {ti:TI} (hT:MS P t ti): ∃ i z,P.info? t=some i/\i.zero=some z/\Rq ti.d=Yt z/\Je O Aa m w z.cells (ti.cs.map CK.zero):=by
  obtain⟨i,z,h1,h2,h3,h4,h5,h6⟩:=hT.i
  obtain⟨h7,h8⟩:=J8 (O:=O) (Aa:=Aa) (m:=m) (w:=w) _ _ h5
  refine⟨i,z,h1,h4,h6,by rw[<- Array.length_toList,h7];simp,fun j hj=> ?_⟩
  have:=h8 j (by simpa using hj)
  have e:z.cells.toList.getD j undef=z.cells.getD j undef:=by
    rw[Array.getD_eq_getD_getElem?,List.getD_eq_getElem?_getD,Array.getElem?_toList]
  rw[<- e];exact this
theorem Ahi {t:Nat} {ps:Array (Nat×Operand)} (hC:TOk P C) (ho:o.op= .build t ps) {xs:List (Nat×A)} (hl:xs.length=ps.size) (hx: ∀(j:Nat) (x:Nat×A) (p:Nat×Operand),xs[j]? =some x->ps[j]? =some p->p.1=x.1/\Au O Aa m w (a.eval p.2) x.2)
    (hok:Ar (dY C t xs).ok):Pure P O Aa m a w o (dY C t xs):=by
  unfold dY at hok ⊢
  obtain⟨ti,ht,he⟩:=Bz hok
  rw[he]at hok ⊢;clear he
  obtain⟨cs,hcs,he⟩:=Ba hok
  rw[he]at hok ⊢;clear he
  have hT:=hC.is ht
  obtain⟨i,z,h1,h2,_,h3⟩:=Afo (O:=O) (Aa:=Aa) (m:=m) (w:=w) hT
  have key: ∃ place:Nat->Option (Nat×Nat),(∀ i p,UU P ti.d i=some p->place i=some p)/\ ∀ vs,Instr.fill place z.cells (ps.map (fun(i,x)=>(i,a.eval x))).toList=some vs->P.built t (ps.map (fun(i,x)=>(i,a.eval x))).toList=some vs:=by
    have hu:=hT.d
    cases hd:ti.d with
    | struct fs =>
      rw[hd]at hu
      have hinf:=Af0 hT.ck hu
      refine⟨fun i=>(fs.toList.map fun f=>(f.offset,P.cellsOf f.type)).toArray[i]?,fun i p hp=> ?_,fun vs hvs=> ?_⟩
      ·simp only[UU]at hp
       cases hf:fs[i]? with
       | none=>rw[hf]at hp;cases hp
       | some f =>
         rw[hf]at hp
         simp only[Option.bind_some]at hp
         cases hi:P.info? f.type with
         | none=>rw[hi]at hp;cases hp
         | some j =>
           rw[hi]at hp
           simp at hp
           subst hp
           simp [hf,Program.cellsOf,hi]
      ·unfold Program.built
       simp only[h1,hu,h2,AfL _ hinf]
       exact hvs
    | array n e =>
      rw[hd]at hu
      obtain⟨ie,hie⟩:=Ahm hT.ck hu
      refine⟨fun i=>some (i*ie.size,ie.size),fun i p hp=> ?_,fun vs hvs=> ?_⟩
      ·simp [UU,hie]at hp;rw[<- hp]
      ·unfold Program.built
       simp only[h1,hu,h2,hie]
       exact hvs
    | _ =>
      have:=hok.cons.1
      rw[uP,hd]at this
      cases this
  obtain⟨place,hp,hb⟩:=key
  obtain⟨vs,h4,h5⟩:=AdS (O:=O) (Aa:=Aa) (m:=m) (w:=w) hC hp xs (ps.map (fun(i,x)=>(i,a.eval x))).toList z.cells _ cs (by simp [hl]) (fun j x p hxj hpj=>by
    simp only[Array.toList_map,List.getElem?_map]at hpj
    cases hq:ps.toList[j]? with
    | none=>rw[hq]at hpj;cases hpj
    | some q =>
      rw[hq]at hpj
      injection hpj with hpj
      subst hpj
      exact hx j x q hxj (by simpa using hq)) h3 hcs
  have:=run_build (P:=P) w t _ _ (hb vs h4)
  refine⟨⟨.agg vs,?_,?_⟩,rfl,rfl,rfl⟩
  ·simp only[execOp,ho,Sem.run_bind,this,Result.andThen_ok,Sem.run_pure]
  ·exact⟨vs,rfl,h5.1,h5.2⟩
end
end Go.Proofs.YtadefjgbcapakaaGreatDoor.Vm
namespace Go.Proofs.YtadefjgbcapakaaGreatDoor.Vm
structure Sim (V0:Nat->Value) (O0:Own) (w0:World) (O:Own) (m:Nat->Value) (st:St) (a:Act) (w:World):Prop where
  defers:a.defers=[]
  size:a.tmps.size=st.tmps.length
  tmps: ∀ t,t<st.tmps.length->Au O st.Aa m w (a.tmps.getD t undef) (st.tmps.getD t .undef)
  Aa: ∀ o x,Ah st.Aa o=some x->Dx O st.Aa m w o x
  frame:Moves O0 (fun o=>o≠255) w0 w
  own: ∀ b k o,b<w0.heap.size->O b k=some o->o≠255-> ∃ o0,O0 b k=some o0/\o0≠255
  ids: ∀ o x,Ah st.Aa o=some x->o≠255
  less: ∀ b k,b<w0.heap.size->O b k≠none->O0 b k≠none
  root: ∀ o,PL o=true->(Ah st.Aa o).isSome->m o=V0 o
  Xf: ∀ b k,b<w0.heap.size->O0 b k=some 255->O b k=some 255
  inv:Inv O0 w0
theorem Sim.Aen {V0:Nat->Value} {O0 O:Own} {w0 w:World} {m:Nat->Value} {st:St} {a:Act} (hS:Sim V0 O0 w0 O m st a w):Inv O w:=by
  refine⟨fun g j p ht=> ?_,fun g n ht=> ?_⟩
  ·obtain⟨h1,v,h2,h3⟩:=hS.inv.1 g j p ht
   have hb:=cell_lt h2
   refine⟨?_,v,?_,h3⟩
   ·cases h:O g j with
    | none=>rfl
    | some o=>exact absurd h1 (hS.less g j hb (by rw[h];simp))
   ·rw[hS.frame.cell hb (fun o ho=>by rw[h1]at ho;cases ho)];exact h2
  ·obtain⟨c,e,fr,h1,h2⟩:=hS.inv.2 g n ht
   have hg:g<w0.heap.size:=(Array.getElem?_eq_some_iff.1 h1).1
   rcases hS.frame.blk g hg with he | ⟨d,d',e',fr',k1,k2,k3,_⟩ | ⟨es,ck,es',ck',o,k1,_⟩
   ·exact⟨c,e,fr,by rw[he];exact h1,h2⟩
   ·rw[h1]at k1;injection k1 with k1;injection k1 with q1 q2 q3
    subst q1
    exact⟨d',e',fr',k2,k3.trans h2⟩
   ·rw[h1]at k1;injection k1 with k1;cases k1
theorem Moves.ApY {O0 O:Own} {T:Nat->Prop} {w0 w w':World} (h:Moves O0 (fun o=>o≠255) w0 w) (h':Moves O T w w') (hO: ∀ b k o,b<w0.heap.size->O b k=some o->o≠255-> ∃ o0,O0 b k=some o0/\o0≠255) (hT: ¬ T 255) :
    Moves O0 (fun o=>o≠255) w0 w':=by
  refine⟨h'.os.trans h.os,h'.tape.trans h.tape,h'.output.trans h.output,Nat.le_trans h.size h'.size,fun b hb=> ?_⟩
  have hb':b<w.heap.size:=Nat.lt_of_lt_of_le hb h.size
  have up: ∀ k o,O b k=some o->T o-> ∃ o',O0 b k=some o'/\o'≠255:=fun k o ho ht=>hO b k o hb ho (fun e=>hT (by rw[<- e];exact ht))
  rcases h'.blk b hb' with he' | ⟨c,c',e,fr,h1,h2,h3,h4,k,o,h5,h6,h7⟩ | ⟨es,ck,es',ck',o,h1,h2,h3,h4⟩
  ·rcases h.blk b hb with he | ⟨d,d',e,fr,h1,h2,h3,h4,h5⟩ | ⟨es,ck,es',ck',o,h1,h2,h3,h4⟩
   ·exact .inl (he'.trans he)
   ·exact .inr (.inl ⟨d,d',e,fr,h1,he'.trans h2,h3,h4,h5⟩)
   ·exact .inr (.inr ⟨es,ck,es',ck',o,h1,he'.trans h2,h3,h4⟩)
  ·obtain⟨o',ho',hne'⟩:=up k o h6 h7
   rcases h.blk b hb with he | ⟨d,d',e',fr',g1,g2,g3,g4,g5⟩ | ⟨es,ck,es',ck',o1,g1,g2,g3,g4⟩
   ·refine .inr (.inl ⟨c,c',e,fr,he▸h1,h2,h3,fun i hi=>h4 i (fun o'' ho'' ht=> ?_),k,o',h5,ho',hne'⟩)
    obtain⟨o3,ho3,hn3⟩:=up i o'' ho'' ht
    exact hi o3 ho3 hn3
   ·rw[g2]at h1
    injection h1 with h1;injection h1 with q1 q2 q3
    subst q1;subst q2;subst q3
    refine .inr (.inl ⟨d,c',e',fr',g1,h2,h3.trans g3,fun i hi=> ?_,k,o',by omega,ho',hne'⟩)
    rw[h4 i (fun o'' ho'' ht=> ?_),g4 i hi]
    obtain⟨o3,ho3,hn3⟩:=up i o'' ho'' ht
    exact hi o3 ho3 hn3
   ·rw[g2]at h1;injection h1 with h1;cases h1
  ·obtain⟨o',ho',hne'⟩:=up 0 o h3 h4
   rcases h.blk b hb with he | ⟨d,d',e',fr',g1,g2,g3,g4,g5⟩ | ⟨es1,ck1,es1',ck1',o1,g1,g2,g3,g4⟩
   ·exact .inr (.inr ⟨es,ck,es',ck',o',he▸h1,h2,ho',hne'⟩)
   ·rw[g2]at h1;injection h1 with h1;cases h1
   ·exact .inr (.inr ⟨es1,ck1,es',ck',o1,g1,h2,g3,g4⟩)
theorem tJ (tmps:List A) (d:Option Tmp) (v:A) (t:Nat) (h:t<tmps.length):(put tmps d v).getD t .undef=if d=some t then v else tmps.getD t .undef:=by
  cases d with
  | none=>simp [put]
  | some d =>
    simp only[put,List.getD_eq_getElem?_getD,List.getElem?_set]
    by_cases hd:d=t
    ·subst hd;simp [h]
    ·simp [hd]
theorem PE (tmps:List A) (d:Option Tmp) (v:A):(put tmps d v).length=tmps.length:=by cases d<;>simp [put]
theorem Afq (a:Act) (d:Option Tmp) (v:Value) (t:Nat) (h:t<a.tmps.size):(a.put d v).tmps.getD t undef=if d=some t then v else a.tmps.getD t undef:=by
  cases d with
  | none=>simp [Act.put]
  | some d =>
    simp only[Act.put,Array.getD_eq_getD_getElem?,Array.getElem?_setIfInBounds]
    by_cases hd:d=t
    ·subst hd;simp [h]
    ·simp [hd]
theorem Afr (a:Act) (d:Option Tmp) (v:Value):(a.put d v).tmps.size=a.tmps.size:=by cases d<;>simp [Act.put]
theorem Acg (a:Act) (d:Option Tmp) (v:Value):(a.put d v).defers=a.defers:=by cases d<;>rfl
theorem UK {st:St} {t n:Nat} (ht:t<st.tmps.length) (h:n∈(st.tmps.getD t .undef).ids):n∈st.ids:=List.mem_append_left _ (JM ht h)
theorem oZ {l:List (Nat×Obj)} {o:Nat} {x:Obj} (h:Ah l o=some x):(o,x)∈l:=by
  induction l with
  | nil=>cases h
  | cons p r ih =>
    obtain⟨q,y⟩:=p
    rw[CX]at h
    by_cases hq:q=o
    ·rw[if_pos hq]at h;injection h with h;subst h;subst hq;exact List.mem_cons_self
    ·rw[if_neg hq]at h;exact List.mem_cons_of_mem _ (ih h)
theorem Pm {st:St} {o n:Nat} {x:Obj} (ho:Ah st.Aa o=some x) (h:n∈x.ids):n∈st.ids :=
  List.mem_append_right _ (List.mem_flatMap.2 ⟨(o,x),oZ ho,h⟩)
structure He (st:St) (n:Nat):Prop where
  ids:n∉st.ids
  Aa:Ah st.Aa n=none
  ne:n≠255
  root:PL n=false
theorem He.both {st:St} {n:Nat} (h:He st n):n∉st.ids/\PL n=false:=⟨h.ids,h.root⟩
theorem Ey {st:St} {n:Nat} (h:st.fresh n=true):He st n:=by
  unfold St.fresh at h
  simp only[Bool.and_eq_true,Bool.not_eq_true',Option.isNone_iff_eq_none]at h
  refine⟨fun hm=> ?_,h.1.1.2,fun e=> ?_,h.2⟩
  ·have:has st.ids n=true:=List.any_eq_true.2 ⟨n,hm,by simp⟩
   rw[this]at h;cases h.1.1.1
  ·have:=h.1.2;rw[e]at this;cases this
theorem Sim.next {V0:Nat->Value} {O0 O O':Own} {w0 w w':World} {m m':Nat->Value} {st st':St} {a:Act} {T Nw:Nat->Prop} {d:Option Tmp} {v:Value} {x:A}
    (hS:Sim V0 O0 w0 O m st a w) (hM:Moves O T w w') (hP:Passes O O' T w.heap.size) (hO: ∀ b k,b<w.heap.size->O' b k≠none->O b k≠none)
    (hE:Ip st.Aa m st'.Aa m' Nw) (hN: ∀ n,Nw n->n∉st.ids/\PL n=false)
    (hT: ∀ o,T o->(Ah st.Aa o).isSome)
    (hobj: ∀ o y,Ah st'.Aa o=some y->(¬ T o/\Ah st.Aa o=some y/\m' o=m o)\/(Dx O' st'.Aa m' w' o y/\o≠255))
    (ht:st'.tmps=put st.tmps d x) (hx:d≠none->Au O' st'.Aa m' w' v x):Sim V0 O0 w0 O' m' st' (a.put d v) w':=by
  have hpr:=hM.Bf hP
  have hT255: ¬ T 255:=fun h=>by
    obtain⟨x,hx⟩:=Option.isSome_iff_exists.1 (hT 255 h)
    exact hS.ids 255 x hx rfl
  refine⟨by rw[Acg];exact hS.defers,by rw[Afr,ht,PE];exact hS.size,fun t htl=> ?_,fun o y ho=> ?_,hS.frame.ApY hM hS.own hT255,fun b k q hb h hne=> ?_,fun o y ho=> ?_,fun b k hb h=>hS.less b k hb (hO b k (Nat.lt_of_lt_of_le hb hS.frame.size) h),fun o hr ho=> ?_,fun b k hb h=>hP.keep b k 255 (Nat.lt_of_lt_of_le hb hS.frame.size) (hS.Xf b k hb h) hT255,hS.inv⟩
  ·rw[ht,PE]at htl
   rw[ht,tJ _ _ _ _ htl,Afq _ _ _ _ (by rw[hS.size];exact htl)]
   by_cases hd:d=some t
   ·rw[if_pos hd,if_pos hd];exact hx (by rw[hd];simp)
   ·rw[if_neg hd,if_neg hd]
    exact(hS.tmps t htl).step hpr hE (fun i hi hn=>(hN i hn).1 (UK htl hi))
  ·rcases hobj o y ho with ⟨h1,h2,h3⟩ | h
   ·exact(hS.Aa o y h2).step hM hP hE h1 h3 (fun i hi hn=>(hN i hn).1 (Pm h2 hi))
   ·exact h.1
  ·have hb':=Nat.lt_of_lt_of_le hb hS.frame.size
   cases hq:O b k with
   | none=>exact absurd hq (hO b k hb' (by rw[h];simp))
   | some r =>
     by_cases hr:r=255
     ·subst hr
      have:=hP.keep b k 255 hb' hq hT255
      rw[h]at this;injection this with this;exact absurd this hne
     ·exact hS.own b k r hb hq hr
  ·rcases hobj o y ho with ⟨_,h2,_⟩ | h
   ·exact hS.ids o y h2
   ·exact h.2
  ·obtain⟨y,hy⟩:=Option.isSome_iff_exists.1 ho
   rcases hE o y hy with h | ⟨x,h1,_,h3⟩
   ·rw[(hN o h).2]at hr;cases hr
   ·rw[h3];exact hS.root o hr (by rw[h1];rfl)
theorem Sim.put {V0:Nat->Value} {O0 O:Own} {w0 w:World} {m:Nat->Value} {st:St} {a:Act} (hS:Sim V0 O0 w0 O m st a w) (d:Option Tmp) {v:Value} {x:A} (hx:Au O st.Aa m w v x) :
    Sim V0 O0 w0 O m {st with tmps:=Vm.put st.tmps d x} (a.put d v) w :=
  hS.next (st':= {st with tmps:=Vm.put st.tmps d x}) (T:=fun _=>False) (Nw:=fun _=>False) (Moves.refl O _ w) ⟨fun _ _ _ h=>h,fun _ _ _ _ h _=>h⟩ (fun _ _ _ h=>h) (fun _ y ho=>.inr ⟨y,ho,rfl,rfl⟩) (fun _ h=>h.elim) (fun _ h=>h.elim)
    (fun _ _ ho=>.inl ⟨id,ho,rfl⟩) rfl (fun _=>hx)
def Good (P:Program) (V0:Nat->Value) (O0:Own) (w0:World) (st':St) (o:Oper) (a:Act) (w:World):Prop :=
  ∀(next:Act->World->Prop) (Q:Exit->Act->World->Prop),(∀ O' m' a' w',Sim V0 O0 w0 O' m' st' a' w'->next a' w')->o.wp P a w next Q
theorem Pure.good {P:Program} {V0:Nat->Value} {O0 O:Own} {w0 w:World} {m:Nat->Value} {st:St} {a:Act} {o:Oper} {δ :Dl} (hS:Sim V0 O0 w0 O m st a w) (h:Pure P O st.Aa m a w o δ):Good P V0 O0 w0 (apply st o δ) o a w:=by
  intro next Q hn
  obtain⟨v,hr,hx⟩:=h.run
  unfold Oper.wp
  rw[hr,Oper.upon_value]
  refine hn O m _ _ ?_
  have:apply st o δ = {st with tmps:=put st.tmps o.dst δ.val}:=by
    unfold apply;rw[h.new,h.upd,h.del];rfl
  rw[this]
  exact hS.put o.dst hx
theorem rC {V0:Nat->Value} {O0 O:Own} {w0 w:World} {m:Nat->Value} {st:St} {a:Act} (hS:Sim V0 O0 w0 O m st a w) (x:Operand):Au O st.Aa m w (a.eval x) (Ci st.tmps x):=by
  have cell: ∀ v:Value,Au O st.Aa m w v (FD v)/\(v.oneCell'=true->AL O st.Aa m w v (FD v)):=by
    intro v
    unfold FD
    split
    ·exact⟨.Ig _,fun _=>Ai.bool _⟩
    ·exact⟨.mkInt _ _,fun _=>Ai.int _ _⟩
    ·exact⟨.mkStr _ rfl,fun _=>Ai.str _⟩
    ·exact⟨rfl,fun _=>rfl⟩
    ·exact⟨Ai.Dk,fun _=>Ai.Dk⟩
    ·exact⟨Ai.VX,fun _=>Ai.VX⟩
    ·exact⟨trivial,fun h=>h⟩
  cases x with
  | tmp t =>
    by_cases ht:t<st.tmps.length
    ·exact hS.tmps t ht
    ·have:Ci st.tmps (.tmp t)= .undef:=by
       simp [Ci,List.getD_eq_getElem?_getD,List.getElem?_eq_none (Nat.le_of_not_lt ht)]
     rw[this];trivial
  | const v =>
    show Au O st.Aa m w v (ofConst v)
    unfold ofConst
    split
    ·rename_i vs
     cases hall:vs.toList.all Value.oneCell' with
     | false=>trivial
     | true =>
       rw[List.all_eq_true]at hall
       refine⟨vs,rfl,by simp,fun j hj=> ?_⟩
       have hj':j<vs.size:=by simpa using hj
       have e1:vs.getD j undef=vs[j]:=by rw[Array.getD_eq_getD_getElem?,Array.getElem?_eq_getElem hj'];rfl
       have e2:(vs.toList.map FD).getD j .undef=FD vs[j]:=by
         simp [List.getD_eq_getElem?_getD,hj']
       rw[e1,e2]
       exact(cell _).2 (hall _ (by simp))
    ·exact(cell v).1
  | global g=>trivial
  | func f=>exact Ai.fn f
