import Derived.Test.YtbgjmioccbacdaaGreatDoorA2
import Derived.Laws.Small
import Derived.Laws.Tables
set_option linter.all false
namespace Go.Proofs.YtbgjmioccbacdaaGreatDoor.Vm
section
variable {P:Program} {C:Ctx} {O:Own} {Jp:List (Nat×Obj)} {m:Nat->Value} {a:Act} {w:World} {o:Oper} {fet:Fet}
theorem getD_eq {vs:Array Value} {j:Nat} (h:j<vs.size:=by omega):vs[j]? =some (vs.getD j undef):=by simp_all
theorem ApV {t:Nat} {ti:TI} (hT:V8 P t ti) {vs:Array Value} {cs:List A} {off:Nat} (h1:vs.size=cs.length) (h2: ∀ j,j<cs.length->JF O Jp m w (vs.getD j undef) (cs.getD j .undef))
 (h3:off+ti.cs.length<=cs.length) (h4:0<ti.cs.length): ∃ v,(part t vs off).run P w= .ok v w/\T1 O Jp m w v (oN ti cs off):=by
 unfold part oN;simp only[D8,hT.Aih,Result.andThen_ok];cases hg:ti.agg with
 | true =>
  refine⟨.agg (vs.extract off (off+ti.cs.length)),by simp [hT.OC],_,rfl,by simp;omega,fun j hj=> ?_⟩;simp only[Ea,Ew]at hj;have hb:=h2 (off+j) (by omega);have e1:(vs.extract off (off+ti.cs.length)).getD j undef=vs.getD (off+j) undef:=by rw[Dn,Dn,Array.getElem?_extract];rw[AvI]
  all_goals grind[JF,T1,oN]
 | false =>
  have hb:=h2 off (by omega);refine⟨vs.getD off undef,?_,?_⟩
  .have:=getD_eq (vs:=vs) (j:=off);generalize vs.getD off undef=z at *
   simp [this]
  .simp only[cond_false];generalize cs.getD off .undef=c at *
   cases c<;>first | exact hb | exact hb.elim
theorem Aaq {d:TypeDesc} {f:Nat} {p:Nat×TI} (h:AcX C d f=some p): ∃ fs x,d= .struct fs/\fs[f]? =some x/\x.offset=p.1/\C.T x.type=some p.2:=by unfold AcX at h;all_goals grind[split]
theorem AkU {t f:Nat} {x:Operand} (hC:TOk P C) (ho:o.op= .field t x f) {x':A} (hx:J8 O Jp m w (a.eval x) x') (hok:J5 (Ack C t f x').ok):Pure P O Jp m a w o (Ack C t f x'):=by
 unfold Ack at hok ⊢;obtain⟨ti,ht,he⟩:=Kt hok;rw[he]at hok ⊢;clear he;obtain⟨p,hp,he⟩:=JL hok;rw[he]at hok ⊢;clear he;obtain⟨cs,hcs,he⟩:=JL hok;rw[he]at hok ⊢;clear he;obtain⟨fs,fx,hd,hfx,hoff,htf⟩:=Aaq hp;have:x'= .agg cs:=by unfold AsL at hcs;split at hcs<;>simp_all
 subst this;obtain⟨vs,h1,h2,h3⟩:=hx;obtain⟨h4,h5⟩:=hok.cons;have h5:=h5.cons.1;have h4:=DI h4;have h5:0<p.2.cs.length:=by simpa [Ep]using h5
 have hu:=(hC.is ht).run w;rw[hd]at hu;obtain⟨v,hv,hr⟩:=ApV (off:=p.1) (hC.is htf) h2 h3 h4 h5;refine⟨⟨v,?_,hr.toT⟩,rfl,rfl,rfl⟩;simp [execOp,ho,Instr.field,hu,hfx,h1,asAgg,hoff,hv]
theorem AoT {x':A} {v:Value} {off n:Nat} (hf:FOk O Jp m w fet) (hx:J8 O Jp m w v x') (hok:J5 (Yy off n fet x').ok) :
 ∃ b k,v= .pointer (some (at' b k))/\J8 O Jp m w (.pointer (some (at' b (k+off)))) (Yy off n fet x').val/\(Yy off n fet x').new=[]/\(Yy off n fet x').upd=[]/\(Yy off n fet x').del=[]:=by
 unfold Yy at hok ⊢;split at hok
 .obtain⟨cs,hcs,he⟩:=JL hok;rw[he]at hok ⊢;clear he;rename_i q p;obtain⟨b,base,h1,h2,h3⟩:=hx.ptr hf (KX hcs);refine⟨b,base+p,h2,?_,rfl,rfl,rfl⟩;have hg:=(hf _ _ (KX hcs)).1;show JF O Jp m w _ (.ptr q (p+off));simp only[JF,hg,Option.map_some,Obj.shp];exact⟨rfl,b,base,h1,by rw[EE]⟩
 .rename_i cs;obtain⟨b,k,h1,h2⟩:=(show JF O Jp m w v (.elt cs)from hx)
  refine⟨b,k,h1,?_,rfl,rfl,rfl⟩;refine⟨b,k+off,rfl,fun j hj=> ?_⟩;simp only[Ew]at hj;have:=h2 (off+j) (by omega);rw[EE];all_goals simp_all[FOk,J8,J5,Yy,at']
 .rename_i q i p;obtain⟨r,hr,he⟩:=JL hok;rw[he]at hok ⊢;clear he;have hi:i<r.l.es.length:=by rw[Sl.KI];simpa [Dl.g]using hok.cons.1
  have hx':JF O Jp m w v (.Kq q i p):=hx;have hg:=(hf _ _ (NK hr)).1;simp only[JF,hg,Option.map_some,Obj.shp]at hx';obtain⟨g,n',cap,h1,h2⟩:=hx'.2 hi;refine⟨g,_,h2,?_,rfl,rfl,rfl⟩;show JF O Jp m w _ (.Kq q i (p+off));simp only[JF,hg,Option.map_some,Obj.shp];refine⟨rfl,fun _=> ?_⟩;exact⟨g,n',cap,h1,by rw[EE]⟩
 .exact(JE hok).elim
theorem AdX {t f:Nat} {x:Operand} (hC:TOk P C) (hf:FOk O Jp m w fet) (ho:o.op= .fieldAddr t x f) {x':A} (hx:J8 O Jp m w (a.eval x) x') (hok:J5 (Vh C fet t f x').ok):Pure P O Jp m a w o (Vh C fet t f x'):=by
 unfold Vh at hok ⊢;obtain⟨ti,ht,he⟩:=Kt hok;rw[he]at hok ⊢;clear he;obtain⟨p,hp,he⟩:=JL hok;rw[he]at hok ⊢;clear he;obtain⟨fs,fx,hd,hfx,hoff,htf⟩:=Aaq hp;obtain⟨h1,h2⟩:=hok.cons;have h1:0<p.2.cs.length:=by simpa [Ep]using h1
 obtain⟨b,k,h3,h4,h5,h6,h7⟩:=AoT hf hx h2;have hu:=(hC.is ht).run w;rw[hd]at hu;have hs:=(hC.is htf).OC w;refine⟨⟨_,?_,h4⟩,h5,h6,h7⟩;have h0:p.2.cs.length≠0:=by omega
 simp [execOp,ho,Instr.fieldAt,hu,hfx,h3,Instr.sureAddr,fieldPlace,hs,h0,RP,hoff]
theorem Aeg {t:Nat} {x i:Operand} (hC:TOk P C) (hf:FOk O Jp m w fet) (ho:o.op= .indexAddr t x i) {x' i':A} (hx:J8 O Jp m w (a.eval x) x') (hi:J8 O Jp m w (a.eval i) i')
 (hok:J5 (ZA C fet t x' i').ok):Pure P O Jp m a w o (ZA C fet t x' i'):=by
 unfold ZA at hok ⊢;split at hok
 .rename_i q i0 off0;obtain⟨n,hn,he⟩:=JL hok;rw[he]at hok ⊢;clear he;obtain⟨k,rfl⟩:=UI hn;have hi:=hi.int;obtain⟨ti,ht,he⟩:=Kt hok;rw[he]at hok ⊢;clear he;obtain⟨p,hp,he⟩:=JL hok;rw[he]at hok ⊢;clear he;obtain⟨te,hte,he⟩:=Kt hok;rw[he]at hok ⊢;clear he;obtain⟨r,hr,he⟩:=JL hok;rw[he]at hok ⊢;clear he;obtain⟨h1,h2⟩:=hok.cons;obtain⟨h2,h3⟩:=h2.cons;obtain⟨h3,h4⟩:=h3.cons;obtain⟨h4,h5⟩:=h4.cons;obtain⟨h5,h6⟩:=h5.cons;have h6:=h6.cons.1;have h1:=Dp h1;have h2:=Dp h2;have h3:=Dp h3;subst h1;subst h2;have h4:0<=n:=by simpa using h4
  have h5:n<(p.1:Int):=by simpa using h5
  have h6:n.toNat<r.l.es.length:=by rw[Sl.KI];simpa using h6
  have hx':JF O Jp m w (a.eval x) (.Kq q 0 0):=hx;have hg:=(hf _ _ (NK hr)).1;simp only[JF,hg,Option.map_some,Obj.shp]at hx';obtain⟨g,n',cap,e1,e2⟩:=hx'.2 (by omega)
  have hd:ti.d= .array p.1 p.2:=by
   unfold lZ at hp;split at hp
   .rename_i hd;injection hp with hp;rw[hd,<- hp]
   .cases hp
  have hu:=(hC.is ht).run w;rw[hd]at hu;have hs:=(hC.is hte).OC w;refine⟨⟨.pointer (some (at' g (n.toNat*te.cs.length))),?_,?_⟩,rfl,rfl,rfl⟩
  .have e2':a.eval x= .pointer (some (at' g 0)):=by rw[e2];simp
   simp [execOp,ho,Instr.indexAt,hi,asIntOf,hu,e2',Instr.sureAddr,h4,h5,hs,RP]
  .show JF O Jp m w _ (.Kq q n.toNat 0);simp only[JF,hg,Option.map_some,Obj.shp];refine⟨rfl,fun _=>⟨g,n',cap,e1,by rw[h3];rfl⟩⟩
 .rename_i cs;obtain⟨n,hn,he⟩:=JL hok;rw[he]at hok ⊢;clear he;obtain⟨k,rfl⟩:=UI hn;have hi:=hi.int;obtain⟨m',e,kk,te,he,hu,hte,hcs,_⟩:=AgA hC hok;rw[he]at hok ⊢;obtain⟨h1,h2,h3,h4,h5⟩:=AhF hok;obtain⟨b,off,g1,g2⟩:=(show JF O Jp m w _ (.elt cs)from hx)
  have hs:=(hC.is hte).OC w;have hrun:=DL hu w;refine⟨⟨.pointer (some (at' b (off+n.toNat))),?_,?_⟩,rfl,rfl,rfl⟩
  .simp [execOp,ho,Instr.indexAt,hi,asIntOf,hrun,g1,Instr.sureAddr,h2,h3,hs,hcs,RP]
  .refine⟨b,off+n.toNat,rfl,fun j hj=> ?_⟩;have:j=0:=by simpa using hj
   subst this;obtain⟨a1,u,a2,a3⟩:=g2 n.toNat h4;rw[h5]at a3;exact⟨a1,u,a2,a3⟩
 .rename_i y hne _;clear hne;obtain⟨n,hn,he⟩:=JL hok;rw[he]at hok ⊢;clear he;obtain⟨k,rfl⟩:=UI hn;have hi:=hi.int;unfold elemOf at hok ⊢;obtain⟨ti,ht,he⟩:=Kt hok;rw[he]at hok ⊢;clear he;obtain⟨e,hel,he⟩:=JL hok;rw[he]at hok ⊢;clear he;obtain⟨te,hte,he⟩:=Kt hok;rw[he]at hok ⊢;clear he;have hu:=(hC.is ht).run w;rw[RX hel]at hu;have hs:=(hC.is hte).OC w;have run: ∀ b off len cap,a.eval x= .slice (some (at' b off)) len cap->0<=n->n<(len:Int)->(execOp a.eval o).run P w= .ok (.value (.pointer (some (at' b (off+n.toNat*te.cs.length))))) w:=by intro b off len cap h1 h2 h3;simp [execOp,ho,Instr.indexAt,hi,asIntOf,hu,h1,h2,h3,hs,RP]
  dsimp only at hok ⊢;split at hok
  .rename_i q _;obtain⟨r,hr,he⟩:=JL hok;rw[he]at hok;rw[he];clear he;obtain⟨h1,h2⟩:=hok.cons;obtain⟨h2,h3⟩:=h2.cons;have h3:=h3.cons.1;have h1:=Dp h1;have h2:0<=n:=by simpa using h2
   have h3:n<(r.l.es.length:Int):=by rw[Sl.KI];simpa using h3
   obtain⟨h4,_,h5⟩:=hx.own hf (NK hr);have hg:=(hf _ _ (NK hr)).1;rcases h5 with ⟨_,h6,_⟩ | ⟨_,g,cap,cur,h6,_⟩
   .rw[h6]at h3;simp at h3;omega
   .refine⟨⟨_,run g 0 _ cap (by rw[h4,h6]) h2 h3,?_⟩,rfl,rfl,rfl⟩;show JF O Jp m w _ (.Kq q n.toNat 0);simp only[JF,hg,Option.map_some,Obj.shp];refine⟨rfl,fun _=> ?_⟩;exact⟨g,_,_,h6,by rw[<- h1];simp⟩
  .rename_i l _;obtain⟨h1,h2⟩:=hok.cons;obtain⟨h0,h2⟩:=h2.cons;obtain⟨h2,h3⟩:=h2.cons;have h3:=h3.cons.1;have h1:=Dp h1;have h2:0<=n:=by simpa using h2
   have h3:n<(l.es.length:Int):=by rw[Sl.KI];simpa using h3
   have hx':Jw O w (a.eval x) (.sl l):=hx;generalize hv:a.eval x=v at hx';cases hx' with
   | nil=>simp [Sl.es]at h3;omega
   | sl0=>simp [Sl.es]at h3;omega
   | @sl b off cap _ vs hc hm hr =>
    refine⟨⟨_,run b off _ cap hv h2 h3,?_⟩,rfl,rfl,rfl⟩;have hj:n.toNat<l.es.length:=by omega
    refine⟨b,_,rfl,fun j hjj=> ?_⟩;rw[Sl.AmD]at hjj;obtain⟨h4,h5⟩:=hm n.toNat j hj hjj;rw[<- h1,EE];rw[l.at_eq (by rw[<- Sl.KI];exact hj)];exact⟨h4,_,h5,hr n.toNat j hj hjj⟩
  .rename_i q k _;obtain⟨cs,hb,he⟩:=JL hok;rw[he]at hok;rw[he];clear he;obtain⟨h1,h2⟩:=hok.cons;obtain⟨h2,h3⟩:=h2.cons;have h3:=h3.cons.1;have h1:=Dp h1;have h2:0<=n:=by simpa using h2
   rw[Ep]at h3;have hg:=(hf _ _ (KX hb)).1;have hc:JF O Jp m w (a.eval x) (.bsl q k):=hx;have hc:=hc.2;rw[hg]at hc;obtain⟨b,base,e1,e2⟩:=hc;refine⟨⟨_,run b base _ k e2 h2 (by omega),?_⟩,rfl,rfl,rfl⟩;show JF O Jp m w _ (.ptr q n.toNat);refine⟨rfl,?_⟩;rw[hg,h1,EU];exact⟨b,base,e1,rfl⟩
  .exact(JE hok).elim
theorem AfC {x:Operand} (hf:FOk O Jp m w fet) (ho:o.op= .nilCheck x) {x':A} (hx:J8 O Jp m w (a.eval x) x') (hok:J5 (WQ fet x').ok):Pure P O Jp m a w o (WQ fet x'):=by
 unfold WQ at hok ⊢;split at hok
 .obtain⟨cs,hcs,he⟩:=JL hok;rw[he]at hok ⊢;clear he;obtain⟨b,base,h1,h2,h3⟩:=hx.ptr hf (KX hcs);refine⟨⟨a.eval x,?_,hx⟩,rfl,rfl,rfl⟩;rw[h2];simp [execOp,ho,h2]
 .exact(JE hok).elim
theorem Jw.one {u:Value} {c:A} (h:Jw O w u c):u.oneCell'=true:=by
 induction h<;>first | rfl | assumption
theorem vF {k:CK} {u:Value} {c:A} (h:Jw O w u c) (hok:J5 (force k c).1):JF O Jp m w u (force k c).2:=by
 cases k with
 | bool=>have:=hok.cons.1;cases h<;>simp [A.isB]at this;exact .bool _
 | int k =>have:=hok.cons.1;cases h<;>simp [A.isI]at this;have:=Rq this;subst this;exact .int _ _
 | str=>have:=hok.cons.1;cases h<;>simp [A.isS]at this;exact .str _
 | sl e sz =>
  have:=hok.cons.1;cases h with
  | nil t=>exact .nil _
  | sl0 a t=>exact Jw.sl0 _ _
  | sl vs h1 h2 h3=>exact .sl vs h1 h2 h3
  | _=>simp [A.AaU]at this
 | ptr=>have:=hok.cons.1;cases h<;>simp [A.bF]at this;exact .LP
 | fn =>
  have:=hok.cons.1;cases h<;>simp [A.isFn]at this
  .exact Jw.fn _
  .exact Jw.eQ
 | mp _ _=>have:=hok.cons.1;cases this
 | bx _=>have:=hok.cons.1;cases this
 | sln e sz =>
  have:=hok.cons.1;cases h with
  | sln h hn=>exact .sln h hn
  | _=>simp [A.nZ]at this
 | oth=>exact h.one
theorem Aco (cs:List A) (ks:List CK): ∀ off,(forces cs ks off).2.length=ks.length:=by
 induction ks with
 | nil=>intro off;rfl
 | cons k ks ih=>grind[forces]
theorem Ala (cs:List A) (ks:List CK): ∀(off:Nat) (f:Nat->Value),(∀ j,j<ks.length->Jw O w (f j) (cs.getD (off+j) .undef))->J5 (forces cs ks off).1 ->
 ∀ j,j<ks.length->JF O Jp m w (f j) ((forces cs ks off).2.getD j .undef):=by
 induction ks with
 | nil=>intro off f _ _ j hj;simp at hj
 | cons k ks ih =>
  intro off f h hok j hj;obtain⟨h1,h2⟩:=hok.append;cases j with
  | zero=>exact vF (by have:=h 0 (by simp);simpa using this) h1
  | succ j =>have:=ih (off+1) (fun j=>f (j+1)) (fun j hj=>by have:=h (j+1) (by simpa using hj);rwa [show off+(j+1)=off+1+j from by omega]at this) h2 j (by simpa using hj);simpa [forces]using this
theorem VW {t:Nat} {ti:TI} (hT:V8 P t ti) {b k:Nat} (f:Nat->Value) (hc: ∀ j,j<ti.cs.length->w.cell? (at' b (k+j))=some (f j)) (h0:ti.agg=false->0<ti.cs.length) :
 (loadVar t (at' b k)).run P w= .ok (if ti.agg then .agg ((List.range ti.cs.length).map f).toArray else f 0) w:=by
 unfold loadVar;simp only[D8,hT.Aih,Result.andThen_ok];cases hg:ti.agg with
 | true =>have:=run_loadCells (P:=P) w (at' b k) ti.cs.length f (fun j hj=>by rw[RP];exact hc j hj);simp [hT.OC,this]
 | false =>have:=hc 0 (h0 hg);all_goals simp_all[at']
theorem Afl {α :Type} {l:List α} {k: α} (h:one? l=some k):l=[k]:=by unfold one? at h;split at h<;>simp_all
theorem vW {t:Nat} {ti:TI} (hT:V8 P t ti) {b k off:Nat} {cs:List A} {pre:List Bool} (hc: ∀ j,j<ti.cs.length-> ∃ u,w.cell? (at' b (k+j))=some u/\Jw O w u (cs.getD (off+j) .undef))
 (hok:J5 (VV ti cs off pre).ok): ∃ v,(loadVar t (at' b k)).run P w= .ok v w/\J8 O Jp m w v (VV ti cs off pre).val/\(VV ti cs off pre).new=[]/\(VV ti cs off pre).upd=[]/\(VV ti cs off pre).del=[]:=by
 have hf: ∀ j,j<ti.cs.length->w.cell? (at' b (k+j))=some ((w.cell? (at' b (k+j))).getD undef)/\Jw O w ((w.cell? (at' b (k+j))).getD undef) (cs.getD (off+j) .undef):=by intro j hj;obtain⟨u,h1,h2⟩:=hc j hj;rw[h1];exact⟨rfl,h2⟩
 unfold VV at hok ⊢;cases hg:ti.agg with
 | true =>
  rw[hg]at hok;simp only[cond_true]at hok ⊢;obtain⟨_,h2⟩:=hok.append;refine⟨_,VW hT (fun j=>(w.cell? (at' b (k+j))).getD undef) (fun j hj=>(hf j hj).1) (by simp [hg]),?_,rfl,rfl,rfl⟩;rw[hg];refine⟨_,rfl,by simp [Aco],fun j hj=> ?_⟩;rw[Aco]at hj;have:=Ala (Jp:=Jp) (m:=m) cs ti.cs off (fun j=>(w.cell? (at' b (k+j))).getD undef) (fun j hj=>(hf j hj).2) h2 j hj;have e:(((List.range ti.cs.length).map fun j=>(w.cell? (at' b (k+j))).getD undef).toArray).getD j undef=(w.cell? (at' b (k+j))).getD undef:=by rw[Dn];simp [hj]
  rw[e];exact this
 | false =>
  rw[hg]at hok;simp only[cond_false]at hok ⊢;obtain⟨kk,hk,he⟩:=JL hok;rw[he]at hok ⊢;clear he;have hone:=Afl hk;obtain⟨_,h2⟩:=hok.append;have h0:0<ti.cs.length:=by rw[hone];simp
  refine⟨_,VW hT (fun j=>(w.cell? (at' b (k+j))).getD undef) (fun j hj=>(hf j hj).1) (fun _=>h0),?_,rfl,rfl,rfl⟩;rw[hg];have:=(hf 0 h0).2;exact(vF this h2).toT
theorem Afd {l:List CK} (h:Ac0 l=true):l=[.ptr]:=by grind[Ac0,split]
theorem vX {t:Nat} {x:Operand} (hC:TOk P C) (hf:FOk O Jp m w fet) (ho:o.op= .load t x) {x':A} (hx:J8 O Jp m w (a.eval x) x') (hok:J5 (VX C fet t x').ok):Pure P O Jp m a w o (VX C fet t x'):=by
 unfold VX at hok ⊢;obtain⟨ti,ht,he⟩:=Kt hok;rw[he]at hok ⊢;clear he;have hT:=hC.is ht;have run: ∀ b k v,a.eval x= .pointer (some (at' b k))->(loadVar t (at' b k)).run P w= .ok v w->(execOp a.eval o).run P w= .ok (.value v) w:=by intro b k v h1 h2;simp [execOp,ho,Instr.loadAt,Instr.sureAddr,h1,h2]
 split at hok
 .obtain⟨cs,hcs,he⟩:=JL hok;rw[he]at hok;rw[he];clear he;rename_i q off;obtain⟨b,base,h1,h2,h3⟩:=hx.ptr hf (KX hcs);obtain⟨h4,h5⟩:=hok.cons;have h4:=DI h4;have h5:0<ti.cs.length:=by simpa [Ep]using h5.cons.1
  have hc: ∀ j,j<ti.cs.length->w.cell? (at' b (base+off+j))=some ((w.cell? (at' b (base+off+j))).getD undef)/\JF O Jp m w ((w.cell? (at' b (base+off+j))).getD undef) (cs.getD (off+j) .undef):=by intro j hj;obtain⟨_,_,u,h6,h7⟩:=h3 (off+j) (by omega);rw[EE,h6];exact⟨rfl,h7⟩
  have hl:=VW hT (fun j=>(w.cell? (at' b (base+off+j))).getD undef) (fun j hj=>(hc j hj).1) (fun _=>h5);refine⟨⟨_,run _ _ _ h2 hl,?_⟩,rfl,rfl,rfl⟩;simp only[Dl.g,oN];cases hg:ti.agg with
  | true =>
   refine⟨_,rfl,by simp;omega,fun j hj=> ?_⟩;simp only[Ea,Ew]at hj;have e:(((List.range ti.cs.length).map fun j=>(w.cell? (at' b (base+off+j))).getD undef).toArray).getD j undef=(w.cell? (at' b (base+off+j))).getD undef:=by rw[Dn];simp [show j<ti.cs.length from by omega]
   all_goals grind[TOk,FOk,J8,J5,VX]
  | false=>exact(hc 0 h5).2.toT
 .rename_i cs;obtain⟨b,k,h1,h2⟩:=(show JF O Jp m w _ (.elt cs)from hx)
  have hle:ti.cs.length<=cs.length:=by
   have hA:J5 [Nat.ble ti.cs.length cs.length]:=by
    unfold VV at hok;cases hg:ti.agg with
    | true=>rw[hg]at hok;exact(hok.append).1
    | false =>rw[hg]at hok;obtain⟨kk,hk,he⟩:=JL hok;simp only[cond_false]at hok;rw[he]at hok;exact(hok.append).1
   exact DI hA.cons.1
  obtain⟨v,h3,h4,h5,h6,h7⟩:=vW (Jp:=Jp) (m:=m) (k:=k) (off:=0) hT (fun j hj=>by obtain⟨_,u,h8,h9⟩:=h2 j (by omega);exact⟨u,h8,by simpa using h9⟩) hok;exact⟨⟨v,run _ _ _ h1 h3,h4⟩,h5,h6,h7⟩
 .rename_i k q;obtain⟨h1,h2⟩:=hok.cons;obtain⟨h2,h3⟩:=h2.cons;have h3:ti.agg=false:=by simpa using h3.cons.1
  have h1:=Dp h1;subst h1;have h2:=Afd h2;obtain⟨_,p,hp1,⟨b,j,e1,e2,e3⟩,hc⟩:=(show JF O Jp m w (a.eval x) (.clo 0 q)from hx)
  have hl:=VW (P:=P) (w:=w) hT (b:=b) (k:=j) (fun _=>p) (fun i hi=>by
   have:i=0:=by rw[h2]at hi;simpa using hi
   subst this;exact e3) (fun _=>by rw[h2];decide)
  rw[h3]at hl;refine⟨⟨_,run _ _ _ e1 hl,?_⟩,rfl,rfl,rfl⟩;exact⟨hp1,hc⟩
 .rename_i q i off;obtain⟨r,hr,he⟩:=JL hok;rw[he]at hok;rw[he];clear he;cases hrow:isRow ti r.l i off with
  | true =>
   rw[hrow]at hok;simp only[cond_true]at hok ⊢;simp only[isRow,Dq]at hrow;obtain⟨⟨⟨r4,r1⟩,r3⟩,r2⟩:=hrow;have r1:=Dp r1;have r2:=Dp r2;have r3:=Dp r3;have r4:1<ti.cs.length:=by simpa [Ep]using r4
   subst r2;subst r3
   have hA:J5 [Nat.ble ti.cs.length r.l.xs.length,true]:=by
    unfold VV at hok;cases hg:ti.agg with
    | true=>rw[hg]at hok;exact(hok.append).1
    | false =>rw[hg]at hok;obtain⟨kk,hk,he⟩:=JL hok;simp only[cond_false]at hok;rw[he]at hok;exact(hok.append).1
   have hle':=DI hA.cons.1;have hle:ti.cs.length<=r.l.es.length:=by rw[Sl.KI];exact hle'
   obtain⟨hg,hsz,hO⟩:=hf _ _ (NK hr);have hx':JF O Jp m w (a.eval x) (.Kq q 0 0):=hx;simp only[JF,hg,Option.map_some,Obj.shp]at hx';obtain⟨g,n',cap,h1,h2⟩:=hx'.2 (by omega);rcases hO with ⟨_,h3,_⟩ | ⟨_,g',cap',cur,h3,h4,h5,h6,h7,h8,_⟩
   .rw[h3,List.length_nil]at hle;omega
   .rw[h1]at h3;injection h3 with h3 h3' h3'';injection h3 with h3;injection h3 with h3;subst h3
    obtain⟨v,h13,h14,h15,h16,h17⟩:=vW (Jp:=Jp) (m:=m) (O:=O) (b:=g) (k:=0*r.l.sz+0) (off:=0) (cs:=pM r.l ti.cs.length) hT (fun j hj=>by
     obtain⟨u,h9,h10⟩:=h8 j 0 (by omega) (by omega);have e:(pM r.l ti.cs.length).getD (0+j) .undef=(r.l.es.getD j []).getD 0 .undef:=by rw[<- r.l.at_eq (ES hj hle')];simp [pM,Dj,hj]
     rw[e];refine⟨u,?_,h10⟩;rw[h4.cell,r1,EU,Nat.add_zero]at *
     simpa using h9) hok
    exact⟨⟨v,run _ _ _ h2 h13,h14⟩,h15,h16,h17⟩
  | false =>
  rw[hrow]at hok;simp only[cond_false]at hok ⊢
  have hA:J5 [Nat.ble (off+ti.cs.length) r.l.sz,decide (i<r.l.xs.length)]:=by
   unfold VV at hok;cases hg:ti.agg with
   | true=>rw[hg]at hok;exact(hok.append).1
   | false =>rw[hg]at hok;obtain⟨kk,hk,he⟩:=JL hok;simp only[cond_false]at hok;rw[he]at hok;exact(hok.append).1
  obtain⟨hle,hi⟩:=hA.cons;have hle:=DI hle;have hi':i<r.l.xs.length:=by simpa using hi.cons.1
  have hi:i<r.l.es.length:=by rw[Sl.KI];exact hi'
  obtain⟨hg,hsz,hO⟩:=hf _ _ (NK hr);have hx':JF O Jp m w (a.eval x) (.Kq q i off):=hx;simp only[JF,hg,Option.map_some,Obj.shp]at hx';obtain⟨g,n',cap,h1,h2⟩:=hx'.2 hi;rcases hO with ⟨_,h3,_⟩ | ⟨_,g',cap',cur,h3,h4,h5,h6,h7,h8,_⟩
  .rw[h3]at hi;simp at hi
  .rw[h1]at h3;injection h3 with h3 h3' h3'';injection h3 with h3;injection h3 with h3;subst h3;obtain⟨v,h13,h14,h15,h16,h17⟩:=vW (Jp:=Jp) (m:=m) (O:=O) (b:=g) (k:=i*r.l.sz+off) (off:=off) (cs:=r.l.at i) hT (fun j hj=>by obtain⟨u,h9,h10⟩:=h8 i (off+j) hi (by omega);rw[r.l.at_eq hi'];refine⟨u,?_,h10⟩;rw[h4.cell,EE];exact h9) hok;exact⟨⟨v,run _ _ _ h2 h13,h14⟩,h15,h16,h17⟩
 .exact(JE hok).elim
end
section
variable {P:Program} {C:Ctx} {O:Own} {Jp:List (Nat×Obj)} {m:Nat->Value} {a:Act} {w:World} {o:Oper} {fet:Fet}
def Ad2 (w:World) (O:Own) (v:Value) (l:Sl):Prop :=
 (∃ ad,v= .slice ad 0 0/\l.xs=[])\/ ∃ b k c,v= .slice (some (at' b k)) l.es.length c/\l.es.length<=c /\
   ∀ i j,i<l.es.length->j<l.sz-> ∃ u,w.cell? (at' b (k+(i*l.sz+j)))=some u/\Jw O w u ((l.es.getD i []).getD j .undef)
theorem Ady {l:Sl} (h:l.es=[]):l.xs=[]:=by simp_all[Sl.es]
theorem Jw.ofNil {l:Sl} (h:l.es=[]):Jw O w (.slice none 0 0) (.sl l):=by obtain⟨t,xs⟩:=l;have:xs=[]:=Ady h;subst this;exact .nil t
theorem AtU {x:A} {v:Value} (hf:FOk O Jp m w fet) (hx:J8 O Jp m w v x) (hok:J5 (rd fet x).1):Ad2 w O v (rd fet x).2:=by
 rcases AhX hok with ⟨n,e,frz,l,rfl,hg,hl⟩ | ⟨rfl,hl⟩ | ⟨l,rfl,hl⟩<;>rw[hl]
 .obtain⟨h1,h0,h2⟩:=hx.own hf hg;rcases h2 with ⟨h3,h4,h5⟩ | ⟨h3,g,cap,cur,h4,h5,h6,h7,h8,h9,_⟩
  .exact .inl ⟨none,by rw[h1,h5],Ady h4⟩
  .refine .inr ⟨g,0,cap,by rw[h1,h4],h6,fun i j hi hj=> ?_⟩;obtain⟨u,h10,h11⟩:=h9 i j hi hj;exact⟨u,by rw[DR,h5.cell];exact h10,h11⟩
 .exact .inl ⟨none,hx,rfl⟩
 .have hx':Jw O w v (.sl l):=hx;cases hx' with
  | nil=>exact .inl ⟨none,rfl,rfl⟩
  | sl0 ad=>exact .inl ⟨some ad,rfl,rfl⟩
  | @sl b off cap _ vs hc hm hr=>exact .inr ⟨b,off,cap,rfl,hc,fun i j hi hj=>⟨vs i j,(hm i j hi hj).2,hr i j hi hj⟩⟩
theorem Akc {t:Ty} {x:A} {v:Value} (hf:FOk O Jp m w fet) (hx:J8 O Jp m w v x) (hok:J5 (rdT fet t x).1):Ad2 w O v ⟨t,(rdT fet t x).2⟩:=by
 by_cases hn:x= .Lj
 .subst hn;exact .inl ⟨none,hx,rfl⟩
 .have hr:rdT fet t x=match (rd fet x).2.cast t with | some xs=>((rd fet x).1,xs) | none=>([false],[]):=by
   cases x<;>first | rfl | exact absurd rfl hn
  rw[hr]at hok ⊢;cases hc:(rd fet x).2.cast t with
  | none=>simp_all[Ty,FOk,J8,J5,rdT,Ad2]
  | some xs=>grind[AtU,Sl.QQ]
theorem AnA {n:Int} (h:isByte n=true):0<=n/\n<256:=by unfold isByte at h;simpa using h
theorem Ahy {d:TypeDesc} (h:Ac3 d=true):d= .int .u8:=by grind[Ac3]
theorem uO {s t:Nat} {x:Operand} (hC:TOk P C) (hf:FOk O Jp m w fet) (ho:o.op= .convert s t x) {x':A} (hx:J8 O Jp m w (a.eval x) x') (hok:J5 (Yh C fet s t x').ok) :
 Pure P O Jp m a w o (Yh C fet s t x'):=by
 unfold Yh at hok ⊢;obtain⟨ts,hts,he⟩:=Kt hok;rw[he]at hok ⊢;clear he;obtain⟨tt,htt,he⟩:=Kt hok;rw[he]at hok ⊢;clear he;have hus:=(hC.is hts).run w;have hut:=(hC.is htt).run w;split at hok
 .rename_i k j n hd;rw[hd]at hut;have h1:=hx.int;refine⟨⟨.int k (k.wrap n),?_,.mkInt _ _⟩,rfl,rfl,rfl⟩;simp only[execOp,ho,convert,D8,hus,hut,Result.andThen_ok,h1];cases ts.d<;>simp [Conv.intToInt]
 .rename_i l hd;rw[hd]at hut;obtain⟨b,hb,hl⟩:=hx.str;refine⟨⟨.string b,?_,.mkStr _ hl⟩,rfl,rfl,rfl⟩;simp only[execOp,ho,convert,D8,hus,hut,Result.andThen_ok,hb];cases ts.d<;>simp
 .exact(JE hok).elim
 .rename_i y _ _ hd _ _;rw[hd]at hut;obtain⟨e,hel,he⟩:=JL hok;rw[he]at hok ⊢;clear he;obtain⟨te,hte,he⟩:=Kt hok;rw[he]at hok ⊢;clear he;obtain⟨h1,h2⟩:=hok.cons;obtain⟨h2,h3⟩:=h2.append;have h3:=h3.cons.1;have hde:=Ahy h1;have hes:=RX hel;have hue:=(hC.is hte).d;rw[hde]at hue;have hus':=(hC.is hts).d;rw[hes]at hus';have hr:Ad2 w O (a.eval x) ⟨SL,(rdB fet y).2⟩:=Akc (t:=SL) hf hx h2;generalize hL:(rdB fet y).2=bs at *
  have hes:(⟨SL,bs⟩:Sl).es.length=bs.length:=Sl.KI _;rcases hr with ⟨ad,hv,hn⟩ | ⟨b,k,c,hv,hc,hcell⟩
  .have hn:bs=[]:=hn;refine⟨⟨.string .empty,?_,.mkStr _ (by rw[hn];rfl)⟩,rfl,rfl,rfl⟩;cases ad with
   | none =>have:=run_convert_bytes_string (P:=P) w s t e none 0 0 hus' hue (by rw[(hC.is htt).d,hd]);simp only[execOp,ho,hv,D8,this];rfl
   | some ad =>have:=run_convert_bytes_back (P:=P) w s t e ad 0 [] hus' hue (by rw[(hC.is htt).d,hd]) (fun j hj=>absurd hj (Hw j));simp only[List.length_nil]at this;simp only[execOp,ho,hv,D8,this];rfl
  .refine⟨⟨.string ⟨(List.map byteOf bs).toArray⟩,?_,.mkStr _ (by simp)⟩,rfl,rfl,rfl⟩
   have:=run_convert_bytes_back (P:=P) w s t e (at' b k) c (List.map byteOf bs) hus' hue (by rw[(hC.is htt).d,hd]) (fun j hj=>by
    have hj':j<bs.length:=by simpa using hj
    obtain⟨u,h4,h5⟩:=hcell j 0 (by rw[hes];exact hj') (by show 0<1;omega);have hb:isByte (bs.getD j 0)=true:=by refine(D7.1 h3) _ ?_;rw[Dj,D9 hj'];simp
    obtain⟨h7,h8⟩:=AnA hb;have h6:(⟨SL,bs⟩:Sl).es.getD j []=[A.int .u8 (bs.getD j 0)]:=by rw[<- Sl.at_eq _ hj'];rfl
    rw[h6]at h5;simp only[EH]at h5;have hu:u= .int .u8 (bs.getD j 0):=by cases h5;rfl
    have h4':w.cell? (at' b (k+(j*1+0)))=some u:=h4;rw[RP,show k+j=k+(j*1+0)from by omega,h4',hu];have:(List.map byteOf bs)[j]'hj=UInt8.ofNat (bs.getD j 0).toNat:=by rw[Fa,Dj,D9 hj'];rfl
    rw[this];have:((UInt8.ofNat (bs.getD j 0).toNat).toNat:Int)=bs.getD j 0:=by rw[GN];omega
    rw[this])
   simp only[Dx]at this;rw[hes]at hv;simp only[execOp,ho,hv,D8,this];rfl
 .exact(JE hok).elim
theorem ApN {c:Call} {x y:Operand} (ho:o.op= .call c) (hcal:c.callee= .builtin .min) (hargs:c.args= #[x,y]) {x' y':A} (hx:J8 O Jp m w (a.eval x) x') (hy:J8 O Jp m w (a.eval y) y')
 (hok:J5 (AlC x' y').ok):Pure P O Jp m a w o (AlC x' y'):=by
 unfold AlC at hok ⊢;split at hok
 .rename_i k p k' q;cases hk:A.kEq k k' with
  | false=>rw[hk]at hok;exact(JE hok).elim
  | true =>
   have:=Rq hk;subst this;refine⟨⟨.int k (if q<p then q else p),?_,?_⟩,rfl,rfl,rfl⟩
   .have h:=run_min_int2 (P:=P) (w:=w) c.argTypes o.type k k p q;simp [execOp,ho,resolve,hcal,hargs,invoke,builtin,hx.int,hy.int,h]
   .show J8 O Jp m w _ (.int k (bif decide (q<p)then q else p));by_cases h:q<p<;>simp only[h,Hy,GG,cond_true,cond_false,I9,Gu]<;>exact .mkInt _ _
 .exact(JE hok).elim
theorem ApK {c:Call} {x y:Operand} (ho:o.op= .call c) (hcal:c.callee= .builtin .max) (hargs:c.args= #[x,y]) {x' y':A} (hx:J8 O Jp m w (a.eval x) x') (hy:J8 O Jp m w (a.eval y) y')
 (hok:J5 (Al9 x' y').ok):Pure P O Jp m a w o (Al9 x' y'):=by
 unfold Al9 at hok ⊢;split at hok
 .rename_i k p k' q;cases hk:A.kEq k k' with
  | false=>rw[hk]at hok;exact(JE hok).elim
  | true =>
   have:=Rq hk;subst this;refine⟨⟨.int k (if q>p then q else p),?_,?_⟩,rfl,rfl,rfl⟩
   .have h:=run_max_int2 (P:=P) (w:=w) c.argTypes o.type k k p q;simp [execOp,ho,resolve,hcal,hargs,invoke,builtin,hx.int,hy.int,h]
   .show J8 O Jp m w _ (.int k (bif decide (p<q)then q else p));by_cases h:p<q<;>simp only[h,gt_iff_lt,Hy,GG,cond_true,cond_false,I9,Gu]<;>exact .mkInt _ _
 .exact(JE hok).elim
end
section
variable {P:Program} {C:Ctx} {O:Own} {Jp:List (Nat×Obj)} {m:Nat->Value} {a:Act} {w:World} {o:Oper} {fet:Fet}
def RN (O:Own) (Jp:List (Nat×Obj)) (m:Nat->Value) (w:World) (vs:Array Value) (cs:List A):Prop :=
 vs.size=cs.length/\ ∀ j,j<cs.length->JF O Jp m w (vs.getD j undef) (cs.getD j .undef)
theorem JF.one {v:Value} {x:A} (h:JF O Jp m w v x):v.oneCell'=true:=by
 cases x with
 | undef=>exact h
 | bool _=>cases h;rfl
 | int _ _=>cases h;rfl
 | str _=>cases h;rfl
 | sl _=>cases h<;>rfl
 | sln _=>exact Jw.one h
 | Lj=>have h':v=_:=h;subst h';rfl
 | LP=>cases h;rfl
 | ptr _ _=>exact h.1
 | own _=>exact h.1
 | Kq _ _ _=>exact h.1
 | clo _ _=>exact h.1
 | bsl _ _=>exact h.1
 | osl _ _=>exact h.1
 | elt _=>obtain⟨_,_,h,_⟩:=h;subst h;rfl
 | fn _=>cases h<;>rfl
 | _=>exact h.elim
theorem oneCell_cells {v:Value} (h:v.oneCell'=true):v.cells= #[v]:=by cases v<;>first | rfl | cases h
theorem J8.cells {v:Value} {x:A} (h:J8 O Jp m w v x) (hv:x.isVal=true):RN O Jp m w v.cells x.cells:=by
 have cell:JF O Jp m w v x->x.cells=[x]->RN O Jp m w v.cells x.cells:=by
  intro hc he;rw[he,oneCell_cells hc.one];refine⟨rfl,fun j hj=> ?_⟩;have:j=0:=by simpa using hj
  subst this;exact hc
 cases x with
 | agg cs =>obtain⟨vs,h1,h2,h3⟩:=h;subst h1;exact⟨h2,h3⟩
 | undef=>cases hv
 | tup _=>cases hv
 | usl _ _ _=>cases hv
 | ump _=>cases hv
 | box _=>cases hv
 | cbx _ _=>cases hv
 | cnd _ _=>cases hv
 | _=>exact cell h rfl
theorem Vj (l:List Value): ∀(k off:Nat) (cs:Array Value) (i:Nat),off+k+l.length<=cs.size ->
 ((l.zipIdx k).foldl (fun cs (p:Value×Nat)=>cs.setIfInBounds (off+p.2) p.1) cs).size=cs.size /\
 ((l.zipIdx k).foldl (fun cs (p:Value×Nat)=>cs.setIfInBounds (off+p.2) p.1) cs).getD i undef=if off+k<=i/\i<off+k+l.length then l.getD (i - (off+k)) undef else cs.getD i undef:=by
 induction l with
 | nil =>intro k off cs i _;refine⟨rfl,?_⟩;rw[Dt (by simp)];rfl
 | cons v l ih =>
  intro k off cs i h;simp only[List.zipIdx_cons,List.foldl_cons];simp only[List.length_cons]at h ⊢;obtain⟨h1,h2⟩:=ih (k+1) off (cs.setIfInBounds (off+k) v) i (by simp;omega);refine⟨by rw[h1];simp,?_⟩;rw[h2];by_cases hi:off+(k+1)<=i/\i<off+(k+1)+l.length
  .rw[Dw hi,AvI,show i - (off+k)=(i - (off+(k+1)))+1 from by omega];rfl
  .rw[Dt hi];by_cases hk:i=off+k
   .subst hk;rw[AvI,Dn,EX];all_goals grind
   .rw[AvH,Dn,EX,AvH,<- Dn]
theorem iR (l:List A) (off:Nat) (vs:List A) (i:Nat) (h:off+vs.length<=l.length):(splice l off vs).getD i .undef=if off<=i/\i<off+vs.length then vs.getD (i - off) .undef else l.getD i .undef:=by unfold splice;all_goals grind[splice]
theorem Zk (l:List A) (off:Nat) (vs:List A) (h:off+vs.length<=l.length):(splice l off vs).length=l.length:=by unfold splice;simp;omega
theorem RN.splice {vs us:Array Value} {cs xs:List A} {off:Nat} (h:RN O Jp m w vs cs) (hu:RN O Jp m w us xs) (hle:off+xs.length<=cs.length) :
 RN O Jp m w (us.zipIdx.foldl (fun cs (c,j)=>cs.setIfInBounds (off+j) c) vs) (splice cs off xs):=by
 have e:us.zipIdx.foldl (fun cs (c,j)=>cs.setIfInBounds (off+j) c) vs=(us.toList.zipIdx 0).foldl (fun cs (p:Value×Nat)=>cs.setIfInBounds (off+p.2) p.1) vs:=by rw[<- Iy];simp
 rw[e];have hl:off+0+us.toList.length<=vs.size:=by rw[Array.length_toList,hu.1,h.1];omega
 refine⟨by rw[(Vj us.toList 0 off vs 0 hl).1,h.1,Zk _ _ _ hle],fun j hj=> ?_⟩;rw[Zk _ _ _ hle]at hj;rw[(Vj us.toList 0 off vs j hl).2,iR _ _ _ _ hle];rw[Array.length_toList,hu.1];by_cases hi:off<=j/\j<off+xs.length
 .rw[AvI,Dw hi,Nat.add_zero];have:=hu.2 (j - off) (by omega);have e:us.toList.getD (j - off) undef=us.getD (j - off) undef:=by rw[Dn,Dj,DY]
  rw[e];exact this
 .rw[AvH,Dt hi];exact h.2 j hj
def bT (P:Program) (d:TypeDesc) (i:Nat):Option (Nat×Nat) :=
 match d with
 | .struct fs=>(fs[i]?).bind fun f=>(P.info? f.type).map fun j=>(f.offset,j.size)
 | .array _ e=>(P.info? e).map fun j=>(i*j.size,j.size)
 | _=>none
theorem Ahc (hC:TOk P C) {d:TypeDesc} {place:Nat->Option (Nat×Nat)} (hp: ∀ i p,bT P d i=some p->place i=some p): ∀(xs:List (Nat×A)) (ps:List (Nat×Value)) (vs:Array Value) (cs cs':List A),
 xs.length=ps.length->(∀(j:Nat) (x:Nat×A) (p:Nat×Value),xs[j]? =some x->ps[j]? =some p->p.1=x.1/\J8 O Jp m w p.2 x.2)->RN O Jp m w vs cs->fill C d xs cs=some cs' ->
 ∃ vs',Instr.fill place vs ps=some vs'/\RN O Jp m w vs' cs':=by
 intro xs
 induction xs with
 | nil =>
  intro ps vs cs cs' hl _ hcs hf;cases ps with
  | nil=>simp only[fill]at hf;injection hf with hf;subst hf;exact⟨vs,rfl,hcs⟩
  | cons _ _=>simp at hl
 | cons x xs ih =>
  intro ps vs cs cs' hl hr hcs hf;cases ps with
  | nil=>simp at hl
  | cons p ps =>
   obtain⟨i,x⟩:=x;obtain⟨i',v⟩:=p;obtain⟨h1,h2⟩:=hr 0 (i,x) (i',v) rfl rfl;dsimp only at h1 h2;subst h1;simp only[fill]at hf;cases hpl:yO C d i' with
   | none=>rw[hpl]at hf;cases hf
   | some q =>
    obtain⟨off,ti⟩:=q;rw[hpl]at hf;dsimp only at hf;cases hb:(x.isVal&&Nat.beq x.cells.length ti.cs.length&&Nat.ble (off+ti.cs.length) cs.length)with
    | false=>rw[hb]at hf;cases hf
    | true =>
     rw[hb]at hf;simp only[cond_true]at hf;simp only[Dq,VC,DJ]at hb;obtain⟨⟨hb1,hb2⟩,hb3⟩:=hb;have hb3:=DI hb3;have hv:=h2.cells hb1
     have hpv:bT P d i'=some (off,ti.cs.length):=by
      unfold yO at hpl;unfold bT;split at hpl
      .rename_i fs;split at hpl
       .rename_i f hf';split at hpl
        .rename_i tf htf;injection hpl with hpl;injection hpl with e1 e2;subst e1;subst e2;obtain⟨i0,z,h3,h4,_⟩:=(hC.is htf).i;have:fs[i']? =some f:=by simpa using hf'
         simp [this,h3,h4]
        .cases hpl
       .cases hpl
      .rename_i n e;split at hpl
       .rename_i tf htf;cases hlt:Nat.blt i' n with
        | false=>rw[hlt]at hpl;cases hpl
        | true =>rw[hlt]at hpl;injection hpl with hpl;injection hpl with e1 e2;subst e2;obtain⟨i0,z,h3,h4,_⟩:=(hC.is htf).i;simp [h3,h4,<- e1]
       .cases hpl
      .cases hpl
     have hnext:=hcs.splice (off:=off) hv (by omega);obtain⟨vs',h5,h6⟩:=ih ps _ _ _ (by simpa using hl) (fun j x p hx hp=>hr (j+1) x p (by simpa using hx) (by simpa using hp)) hnext hf;refine⟨vs',?_,h6⟩;simp only[Instr.fill,hp _ _ hpv];have: ¬(v.cells.size≠ti.cs.length||decide (off+v.cells.size>vs.size))=true:=by rw[hv.1,hcs.1,hb2];simp;omega
     rw[Dt (by simpa using this)];exact h5
theorem TD: ∀(vs:List Value) (ks:List CK),KC vs ks=true->vs.length=ks.length/\ ∀ j,j<ks.length->JF O Jp m w (vs.getD j undef) ((ks.map CK.zero).getD j .undef):=by
 intro vs
 induction vs with
 | nil=>intro ks h;cases ks with
  | nil=>exact⟨rfl,fun j hj=>by simp at hj⟩
  | cons _ _=>simp [KC]at h
 | cons v vs ih =>
  intro ks h;cases ks with
  | nil=>cases v<;>simp [KC]at h
  | cons k ks =>
   have step:KC vs ks=true->JF O Jp m w v k.zero->(v::vs).length=(k::ks).length/\ ∀ j,j<(k::ks).length->JF O Jp m w ((v::vs).getD j undef) (((k::ks).map CK.zero).getD j .undef):=by
    intro hz hv;obtain⟨h1,h2⟩:=ih ks hz;refine⟨by simp [h1],fun j hj=> ?_⟩;cases j with
    | zero=>exact hv
    | succ j=>simpa using h2 j (by simpa using hj)
   cases k with
   | bool=>cases v with
    | bool b=>cases b<;>simp [KC]at h;exact step h (.bool _)
    | _=>simp [KC]at h
   | int k'=>cases v with
    | int k'' n =>
     have h':A.kEq k'' k'=true/\n=0/\KC vs ks=true:=by clear step ih;unfold KC at h;split at h<;>simp_all
     obtain⟨h1,h2,h3⟩:=h';have:=Rq h1;subst this;subst h2;exact step h3 (.int _ _)
    | _=>simp [KC]at h
   | str=>cases v with
    | string s =>
     simp only[KC,Dq]at h;have hs:s.data.toList=[]:=by simpa using h.1
     refine step h.2 ?_;show Jw O w (.string s) (.str []);rw[<- hs];exact .str s
    | _=>simp [KC]at h
   | sl e sz=>cases v with
    | slice ad l c =>
     have h':ad=none/\l=0/\c=0/\KC vs ks=true:=by clear step ih;unfold KC at h;split at h<;>simp_all
     obtain⟨h1,h2,h3,h4⟩:=h';subst h1;subst h2;subst h3;exact step h4 rfl
    | _=>simp [KC]at h
   | ptr=>cases v with
    | pointer ad=>cases ad<;>simp [KC]at h;exact step h .LP
    | _=>simp [KC]at h
   | fn=>cases v with
    | nilFunc=>simp [KC]at h;exact step h Jw.eQ
    | _=>simp [KC]at h
   | sln _ _=>cases v<;>simp [KC]at h
   | mp _ _=>cases v<;>simp [KC]at h
   | bx _=>cases v<;>simp [KC]at h
   | oth =>
    have:v.oneCell'=true/\KC vs ks=true:=by cases v<;>simpa [KC]using h
    exact step this.2 this.1
theorem AeP {n t:Nat} {ks:List CK} (h:OH P n t=some ks): ∃ i,P.info? t=some i:=by
 cases n with
 | zero=>simp [OH]at h
 | succ n =>
  cases hi:P.info? t with
  | some i=>exact⟨i,rfl⟩
  | none =>
   have hu:P.underlying t=none:=by simp [Program.underlying,hi]
   simp [OH,hu]at h
theorem AiB {n t:Nat} {ks:List CK} {fs:Array Field} (h:OH P n t=some ks) (hu:P.underlying t=some (.struct fs)): ∀ f∈fs.toList,∃ i,P.info? f.type=some i:=by
 cases n with
 | zero=>simp [OH]at h
 | succ n =>
  simp only[OH,hu]at h;revert h;generalize fs.toList=l
  induction l generalizing ks with
  | nil=>intro _ f hf;cases hf
  | cons g l ih=>grind[AeP]
theorem AkA {n t c e:Nat} {ks:List CK} (h:OH P n t=some ks) (hu:P.underlying t=some (.array c e)): ∃ i,P.info? e=some i:=by
 cases n with
 | zero=>simp [OH]at h
 | succ n=>grind[OH,AeP]
theorem Ajg {P:Program}: ∀(l:List Field),(∀ f∈l,∃ i,P.info? f.type=some i)->l.mapM (fun f=>(P.info? f.type).map fun i=>(f.offset,i.size))=some (l.map fun f=>(f.offset,P.cellsOf f.type)):=by
 intro l
 induction l with
 | nil=>intro _;rfl
 | cons f l ih =>intro h;obtain⟨i,hi⟩:=h f Du;have:=ih (fun g hg=>h g (Dy _ hg));simp [H5,hi,this,Program.cellsOf]
theorem Aiw {t:Nat} {ti:TI} (hT:V8 P t ti): ∃ i z,P.info? t=some i/\i.zero=some z/\Xu ti.d=bD z/\RN O Jp m w z.cells (ti.cs.map CK.zero):=by obtain⟨i,z,h1,h2,h3,h4,h5,h6⟩:=hT.i;obtain⟨h7,h8⟩:=TD (O:=O) (Jp:=Jp) (m:=m) (w:=w) _ _ h5;all_goals simp_all[Xu,bD,RN,CK.zero]
theorem Ak6 {t:Nat} {ps:Array (Nat×Operand)} (hC:TOk P C) (ho:o.op= .build t ps) {xs:List (Nat×A)} (hl:xs.length=ps.size) (hx: ∀(j:Nat) (x:Nat×A) (p:Nat×Operand),xs[j]? =some x->ps[j]? =some p->p.1=x.1/\J8 O Jp m w (a.eval p.2) x.2)
 (hok:J5 (tC C t xs).ok):Pure P O Jp m a w o (tC C t xs):=by
 unfold tC at hok ⊢;obtain⟨ti,ht,he⟩:=Kt hok;rw[he]at hok ⊢;clear he;obtain⟨cs,hcs,he⟩:=JL hok;rw[he]at hok ⊢;clear he;have hT:=hC.is ht;obtain⟨i,z,h1,h2,_,h3⟩:=Aiw (O:=O) (Jp:=Jp) (m:=m) (w:=w) hT
 have key: ∃ place:Nat->Option (Nat×Nat),(∀ i p,bT P ti.d i=some p->place i=some p)/\ ∀ vs,Instr.fill place z.cells (ps.map (fun(i,x)=>(i,a.eval x))).toList=some vs->P.built t (ps.map (fun(i,x)=>(i,a.eval x))).toList=some vs:=by
  have hu:=hT.d;cases hd:ti.d with
  | struct fs =>
   rw[hd]at hu;have hinf:=AiB hT.ck hu;refine⟨fun i=>(fs.toList.map fun f=>(f.offset,P.cellsOf f.type)).toArray[i]?,fun i p hp=> ?_,fun vs hvs=> ?_⟩
   .simp only[bT]at hp;cases hf:fs[i]? with
    | none=>rw[hf]at hp;cases hp
    | some f =>
     rw[hf]at hp;simp only[Option.bind_some]at hp;cases hi:P.info? f.type with
     | none=>rw[hi]at hp;cases hp
     | some j =>rw[hi]at hp;simp at hp;subst hp;simp [hf,Program.cellsOf,hi]
   .unfold Program.built;simp only[h1,hu,h2,Ajg _ hinf];exact hvs
  | array n e =>
   rw[hd]at hu;obtain⟨ie,hie⟩:=AkA hT.ck hu;refine⟨fun i=>some (i*ie.size,ie.size),fun i p hp=> ?_,fun vs hvs=> ?_⟩
   .grind[bT]
   .unfold Program.built;simp only[h1,hu,h2,hie];exact hvs
  | _ =>have:=hok.cons.1;rw[AbE,hd]at this;cases this
 obtain⟨place,hp,hb⟩:=key
 obtain⟨vs,h4,h5⟩:=Ahc (O:=O) (Jp:=Jp) (m:=m) (w:=w) hC hp xs (ps.map (fun(i,x)=>(i,a.eval x))).toList z.cells _ cs (by simp [hl]) (fun j x p hxj hpj=>by
  simp only[Ha,Ed]at hpj;cases hq:ps.toList[j]? with
  | none=>rw[hq]at hpj;cases hpj
  | some q =>rw[hq]at hpj;injection hpj with hpj;subst hpj;exact hx j x q hxj (by simpa using hq)) h3 hcs
 have:=run_build (P:=P) w t _ _ (hb vs h4);refine⟨⟨.agg vs,?_,?_⟩,rfl,rfl,rfl⟩
 .simp only[execOp,ho,D8,this,Result.andThen_ok,Sem.run_pure]
 .exact⟨vs,rfl,h5.1,h5.2⟩
end
structure Sim (V0:Nat->Value) (O0:Own) (w0:World) (O:Own) (m:Nat->Value) (st:St) (a:Act) (w:World):Prop where
 defers:a.defers=[]
 size:a.tmps.size=st.tmps.length
 tmps: ∀ t,t<st.tmps.length->J8 O st.Jp m w (a.tmps.getD t undef) (st.tmps.getD t .undef)
 Jp: ∀ o x,Jv st.Jp o=some x->KZ O st.Jp m w o x
 frame:Moves O0 (fun o=>o≠255) w0 w
 own: ∀ b k o,b<w0.heap.size->O b k=some o->o≠255-> ∃ o0,O0 b k=some o0/\o0≠255
 ids: ∀ o x,Jv st.Jp o=some x->o≠255
 less: ∀ b k,b<w0.heap.size->O b k≠none->O0 b k≠none
 root: ∀ o,XF o=true->(Jv st.Jp o).isSome->m o=V0 o
 VA: ∀ b k,b<w0.heap.size->O0 b k=some 255->O b k=some 255
 inv:Inv O0 w0
def Sim.Acy {V0:Nat->Value} {O0 O:Own} {w0 w:World} {m:Nat->Value} {st:St} {a:Act} (hS:Sim V0 O0 w0 O m st a w):Inv O w:=by
 refine⟨fun g j p ht=> ?_,fun g n ht=> ?_⟩
 .obtain⟨h1,v,h2,h3⟩:=hS.inv.1 g j p ht;have hb:=cell_lt h2;refine⟨?_,v,?_,h3⟩
  .cases h:O g j with
   | none=>rfl
   | some o=>exact absurd h1 (hS.less g j hb (by rw[h];simp))
  .rw[hS.frame.cell hb (fun o ho=>by rw[h1]at ho;cases ho)];exact h2
 .obtain⟨c,e,fr,h1,h2⟩:=hS.inv.2 g n ht;have hg:g<w0.heap.size:=(DT.1 h1).1;rcases hS.frame.blk g hg with he | ⟨d,d',e',fr',k1,k2,k3,_⟩ | ⟨es,ck,es',ck',o,k1,_⟩;all_goals simp_all[Own,Inv]
def Moves.Ao9 {O0 O:Own} {T:Nat->Prop} {w0 w w':World} (h:Moves O0 (fun o=>o≠255) w0 w) (h':Moves O T w w') (hO: ∀ b k o,b<w0.heap.size->O b k=some o->o≠255-> ∃ o0,O0 b k=some o0/\o0≠255) (hT: ¬ T 255) :
 Moves O0 (fun o=>o≠255) w0 w':=by
 refine⟨h'.os.trans h.os,h'.tape.trans h.tape,h'.output.trans h.output,Gj h.size h'.size,fun b hb=> ?_⟩;have hb':b<w.heap.size:=ES hb h.size;have up: ∀ k o,O b k=some o->T o-> ∃ o',O0 b k=some o'/\o'≠255:=fun k o ho ht=>hO b k o hb ho (fun e=>hT (by rw[<- e];exact ht));rcases h'.blk b hb' with he' | ⟨c,c',e,fr,h1,h2,h3,h4,k,o,h5,h6,h7⟩ | ⟨es,ck,es',ck',o,h1,h2,h3,h4⟩
 .rcases h.blk b hb with he | ⟨d,d',e,fr,h1,h2,h3,h4,h5⟩ | ⟨es,ck,es',ck',o,h1,h2,h3,h4⟩
  .exact .inl (he'.trans he)
  .exact .inr (.inl ⟨d,d',e,fr,h1,he'.trans h2,h3,h4,h5⟩)
  .simp_all[Own]
 .obtain⟨o',ho',hne'⟩:=up k o h6 h7;rcases h.blk b hb with he | ⟨d,d',e',fr',g1,g2,g3,g4,g5⟩ | ⟨es,ck,es',ck',o1,g1,g2,g3,g4⟩
  .refine .inr (.inl ⟨c,c',e,fr,he▸h1,h2,h3,fun i hi=>h4 i (fun o'' ho'' ht=> ?_),k,o',h5,ho',hne'⟩);obtain⟨o3,ho3,hn3⟩:=up i o'' ho'' ht;exact hi o3 ho3 hn3
  .rw[g2]at h1;injection h1 with h1;injection h1 with q1 q2 q3;subst q1;subst q2;subst q3;refine .inr (.inl ⟨d,c',e',fr',g1,h2,h3.trans g3,fun i hi=> ?_,k,o',by omega,ho',hne'⟩);rw[h4 i (fun o'' ho'' ht=> ?_),g4 i hi];obtain⟨o3,ho3,hn3⟩:=up i o'' ho'' ht;exact hi o3 ho3 hn3
  .simp_all[Own]
 .obtain⟨o',ho',hne'⟩:=up 0 o h3 h4;rcases h.blk b hb with he | ⟨d,d',e',fr',g1,g2,g3,g4,g5⟩ | ⟨es1,ck1,es1',ck1',o1,g1,g2,g3,g4⟩
  .exact .inr (.inr ⟨es,ck,es',ck',o',he▸h1,h2,ho',hne'⟩)
  all_goals simp_all[Own]
def Abr (tmps:List A) (d:Option Tmp) (v:A) (t:Nat) (h:t<tmps.length):(put tmps d v).getD t .undef=if d=some t then v else tmps.getD t .undef:=by
 cases d with
 | none=>simp [put]
 | some d =>
  simp only[put,Dj,FC];by_cases hd:d=t
  .subst hd;simp [h]
  .simp [hd]
def X8 (tmps:List A) (d:Option Tmp) (v:A):(put tmps d v).length=tmps.length:=by cases d<;>simp [put]
def Ug (a:Act) (d:Option Tmp) (v:Value) (t:Nat) (h:t<a.tmps.size):(a.put d v).tmps.getD t undef=if d=some t then v else a.tmps.getD t undef:=by
 cases d with
 | none=>simp [Act.put]
 | some d =>
  simp only[Act.put,Dn,EX];by_cases hd:d=t
  .subst hd;simp [h]
  .simp [hd]
def Uh (a:Act) (d:Option Tmp) (v:Value):(a.put d v).tmps.size=a.tmps.size:=by cases d<;>simp [Act.put]
def Afv (a:Act) (d:Option Tmp) (v:Value):(a.put d v).defers=a.defers:=by cases d<;>rfl
def bJ {st:St} {t n:Nat} (ht:t<st.tmps.length) (h:n∈(st.tmps.getD t .undef).ids):n∈st.ids:=DD _ (TP ht h)
def Aa0 {l:List (Nat×Obj)} {o:Nat} {x:Obj} (h:Jv l o=some x):(o,x)∈l:=by
 induction l with
 | nil=>cases h
 | cons p r ih=>grind[Ov]
def Xy {st:St} {o n:Nat} {x:Obj} (ho:Jv st.Jp o=some x) (h:n∈x.ids):n∈st.ids :=
 DC _ (DX.2 ⟨(o,x),Aa0 ho,h⟩)
structure Qu (st:St) (n:Nat):Prop where
 ids:n∉st.ids
 Jp:Jv st.Jp n=none
 ne:n≠255
 root:XF n=false
def Qu.both {st:St} {n:Nat} (h:Qu st n):n∉st.ids/\XF n=false:=⟨h.ids,h.root⟩
def Nl {st:St} {n:Nat} (h:st.fresh n=true):Qu st n:=by
 unfold St.fresh at h;simp only[Dq,Ef,Option.isNone_iff_eq_none]at h;refine⟨fun hm=> ?_,h.1.1.2,fun e=> ?_,h.2⟩
 .have:has st.ids n=true:=Fz.2 ⟨n,hm,by simp⟩;rw[this]at h;cases h.1.1.1
 .simp_all
def Sim.next {V0:Nat->Value} {O0 O O':Own} {w0 w w':World} {m m':Nat->Value} {st st':St} {a:Act} {T Nw:Nat->Prop} {d:Option Tmp} {v:Value} {x:A}
 (hS:Sim V0 O0 w0 O m st a w) (hM:Moves O T w w') (hP:Passes O O' T w.heap.size) (hO: ∀ b k,b<w.heap.size->O' b k≠none->O b k≠none)
 (hE:Rz st.Jp m st'.Jp m' Nw) (hN: ∀ n,Nw n->n∉st.ids/\XF n=false)
 (hT: ∀ o,T o->(Jv st.Jp o).isSome)
 (hobj: ∀ o y,Jv st'.Jp o=some y->(¬ T o/\Jv st.Jp o=some y/\m' o=m o)\/(KZ O' st'.Jp m' w' o y/\o≠255))
 (ht:st'.tmps=put st.tmps d x) (hx:d≠none->J8 O' st'.Jp m' w' v x):Sim V0 O0 w0 O' m' st' (a.put d v) w':=by
 have hpr:=hM.JW hP;have hT255: ¬ T 255:=fun h=>by obtain⟨x,hx⟩:=Ez.1 (hT 255 h);exact hS.ids 255 x hx rfl
 refine⟨by rw[Afv];exact hS.defers,by rw[Uh,ht,X8];exact hS.size,fun t htl=> ?_,fun o y ho=> ?_,hS.frame.Ao9 hM hS.own hT255,fun b k q hb h hne=> ?_,fun o y ho=> ?_,fun b k hb h=>hS.less b k hb (hO b k (ES hb hS.frame.size) h),fun o hr ho=> ?_,fun b k hb h=>hP.keep b k 255 (ES hb hS.frame.size) (hS.VA b k hb h) hT255,hS.inv⟩
 .rw[ht,X8]at htl;rw[ht,Abr _ _ _ _ htl,Ug _ _ _ _ (by rw[hS.size];exact htl)];by_cases hd:d=some t
  .rw[Dw hd,Dw hd];exact hx (by rw[hd];simp)
  .rw[Dt hd,Dt hd];exact(hS.tmps t htl).step hpr hE (fun i hi hn=>(hN i hn).1 (bJ htl hi))
 .rcases hobj o y ho with ⟨h1,h2,h3⟩ | h
  .exact(hS.Jp o y h2).step hM hP hE h1 h3 (fun i hi hn=>(hN i hn).1 (Xy h2 hi))
  .exact h.1
 .have hb':=ES hb hS.frame.size;cases hq:O b k with
  | none=>exact absurd hq (hO b k hb' (by rw[h];simp))
  | some r =>
   by_cases hr:r=255
   .subst hr;have:=hP.keep b k 255 hb' hq hT255;rw[h]at this;injection this with this;exact absurd this hne
   .exact hS.own b k r hb hq hr
 .rcases hobj o y ho with ⟨_,h2,_⟩ | h
  .exact hS.ids o y h2
  .exact h.2
 .obtain⟨y,hy⟩:=Ez.1 ho;rcases hE o y hy with h | ⟨x,h1,_,h3⟩
  .rw[(hN o h).2]at hr;cases hr
  .rw[h3];exact hS.root o hr (by rw[h1];rfl)
theorem Sim.put {V0:Nat->Value} {O0 O:Own} {w0 w:World} {m:Nat->Value} {st:St} {a:Act} (hS:Sim V0 O0 w0 O m st a w) (d:Option Tmp) {v:Value} {x:A} (hx:J8 O st.Jp m w v x) :
 Sim V0 O0 w0 O m {st with tmps:=Vm.put st.tmps d x} (a.put d v) w :=
 hS.next (st':= {st with tmps:=Vm.put st.tmps d x}) (T:=fun _=>False) (Nw:=fun _=>False) (Moves.refl O _ w) ⟨fun _ _ _ h=>h,fun _ _ _ _ h _=>h⟩ (fun _ _ _ h=>h) (fun _ y ho=>.inr ⟨y,ho,rfl,rfl⟩) (fun _ h=>h.elim) (fun _ h=>h.elim)
  (fun _ _ ho=>.inl ⟨id,ho,rfl⟩) rfl (fun _=>hx)
def Good (P:Program) (V0:Nat->Value) (O0:Own) (w0:World) (st':St) (o:Oper) (a:Act) (w:World):Prop :=
 ∀(next:Act->World->Prop) (Q:Exit->Act->World->Prop),(∀ O' m' a' w',Sim V0 O0 w0 O' m' st' a' w'->next a' w')->o.wp P a w next Q
def Pure.good {P:Program} {V0:Nat->Value} {O0 O:Own} {w0 w:World} {m:Nat->Value} {st:St} {a:Act} {o:Oper} {δ :Dl} (hS:Sim V0 O0 w0 O m st a w) (h:Pure P O st.Jp m a w o δ):Good P V0 O0 w0 (apply st o δ) o a w:=by
 intro next Q hn
 obtain⟨v,hr,hx⟩:=h.run;unfold Oper.wp;rw[hr,Oper.upon_value];refine hn O m _ _ ?_;have:apply st o δ = {st with tmps:=put st.tmps o.dst δ.val}:=by unfold apply;rw[h.new,h.upd,h.del];rfl
 rw[this];exact hS.put o.dst hx
def aT {V0:Nat->Value} {O0 O:Own} {w0 w:World} {m:Nat->Value} {st:St} {a:Act} (hS:Sim V0 O0 w0 O m st a w) (x:Operand):J8 O st.Jp m w (a.eval x) (KP st.tmps x):=by
 have cell: ∀ v:Value,J8 O st.Jp m w v (Pz v)/\(v.oneCell'=true->JF O st.Jp m w v (Pz v)):=by
  intro v;unfold Pz;split
  .exact⟨.Qn _,fun _=>Jw.bool _⟩
  .exact⟨.mkInt _ _,fun _=>Jw.int _ _⟩
  .exact⟨.mkStr _ rfl,fun _=>Jw.str _⟩
  .exact⟨rfl,fun _=>rfl⟩
  .exact⟨Jw.LP,fun _=>Jw.LP⟩
  .exact⟨Jw.eQ,fun _=>Jw.eQ⟩
  .exact⟨trivial,fun h=>h⟩
 cases x with
 | tmp t =>
  by_cases ht:t<st.tmps.length
  .exact hS.tmps t ht
  .have:KP st.tmps (.tmp t)= .undef:=by
    simp [KP,Dj,DZ (IK ht)]
   rw[this];trivial
 | const v =>
  show J8 O st.Jp m w v (ofConst v);unfold ofConst;split
  .rename_i vs;cases hall:vs.toList.all Value.oneCell' with
   | false=>trivial
   | true =>
    rw[D7]at hall;refine⟨vs,rfl,by simp,fun j hj=> ?_⟩;have hj':j<vs.size:=by simpa using hj
    have e1:vs.getD j undef=vs[j]:=by rw[Dn,D6 hj'];rfl
    have e2:(vs.toList.map Pz).getD j .undef=Pz vs[j]:=by simp [Dj,hj']
    rw[e1,e2];exact(cell _).2 (hall _ (by simp))
  .exact(cell v).1
 | global g =>
  show J8 O st.Jp m w (.pointer (some ⟨g,0,none⟩)) (Aqv (Ab5 g));cases hg:Ab5 g with
  | none=>trivial
  | some q =>
   obtain⟨k,ns⟩:=q;refine⟨g,0,rfl,fun j hj=> ?_⟩;have hj:j<ns.length:=by simpa using hj
   obtain⟨h1,v,h2,h3⟩:=hS.Acy.1 g j _ (by rw[Asv hg];exact Dw hj);rw[DR];refine⟨h1,v,h2,?_⟩;have e:(ns.map (A.int k)).getD j .undef= .int k (ns.getD j 0):=by simp [Dj,hj]
   rw[e,h3];exact .int _ _
 | func f=>exact Jw.fn f
def Moves.push {O:Own} {T:Nat->Prop} {w:World} (x:Go.Obj):Moves O T w (w.alloc x) :=
 ⟨rfl,rfl,rfl,by show _<=(w.heap.push x).size;simp,fun b hb=>.inl (heap_alloc_old w x hb)⟩
def nT (w:World) (x:Go.Obj):(w.alloc x).heap[w.heap.size]? =some x:=by show(w.heap.push x)[_]? =_;simp
def Moves.drew (O:Own) (T:Nat->Prop) (w:World):Moves O T w w.drew:=⟨rfl,rfl,rfl,DW _,fun _ _=>.inl rfl⟩
def Moves.then {O:Own} {T:Nat->Prop} {w w' w'':World} (h:Moves O T w w') (h':Moves O T w' w''):Moves O T w w'':=by
 refine⟨h'.os.trans h.os,h'.tape.trans h.tape,h'.output.trans h.output,Gj h.size h'.size,fun b hb=> ?_⟩;have hb':b<w'.heap.size:=ES hb h.size;rcases h'.blk b hb' with he' | ⟨c,c',e,fr,h1,h2,h3,h4,h5⟩ | ⟨es,ck,es',ck',o,h1,h2,h3,h4⟩
 .rcases h.blk b hb with he | ⟨d,d',e,fr,h1,h2,h3,h4,h5⟩ | ⟨es,ck,es',ck',o,h1,h2,h3,h4⟩
  .exact .inl (he'.trans he)
  .exact .inr (.inl ⟨d,d',e,fr,h1,he'.trans h2,h3,h4,h5⟩)
  .simp_all[Own]
 .rcases h.blk b hb with he | ⟨d,d',e',fr',g1,g2,g3,g4,g5⟩ | ⟨es,ck,es',ck',o,g1,g2,g3,g4⟩
  .exact .inr (.inl ⟨c,c',e,fr,he▸h1,h2,h3,h4,h5⟩)
  .rw[g2]at h1;injection h1 with h1;injection h1 with q1 q2 q3;subst q1;subst q2;subst q3;exact .inr (.inl ⟨d,c',e',fr',g1,h2,h3.trans g3,fun i hi=>by rw[h4 i hi,g4 i hi],g5⟩)
  .simp_all[Own]
 .rcases h.blk b hb with he | ⟨d,d',e',fr',g1,g2,g3,g4,g5⟩ | ⟨es1,ck1,es1',ck1',o1,g1,g2,g3,g4⟩
  .exact .inr (.inr ⟨es,ck,es',ck',o,he▸h1,h2,h3,h4⟩)
  all_goals simp_all[Own]
def Moves.row {O:Own} {T:Nat->Prop} {w w':World} {g:Nat} {c c':Array Value} {e:TypeId} {fr:Nat×Nat} (hos:w'.os=w.os) (ht:w'.tape=w.tape) (hout:w'.output=w.output) (hs:w'.heap.size=w.heap.size)
 (hg:w.heap[g]? =some (.cells c e fr)) (hg':w'.heap[g]? =some (.cells c' e fr)) (hoth: ∀ b,b≠g->w'.heap[b]? =w.heap[b]?) (hsz:c'.size=c.size) (hk: ∀ k,(∀ o,O g k=some o-> ¬ T o)->c'[k]? =c[k]?)
 (hex:(∃ k o,k<c.size/\O g k=some o/\T o)\/c'=c):Moves O T w w':=by
 refine⟨hos,ht,hout,by omega,fun b _=> ?_⟩;by_cases hb:b=g
 .subst hb;rcases hex with hex | hex
  .exact .inr (.inl ⟨c,c',e,fr,hg,hg',hsz,hk,hex⟩)
  .subst hex;exact .inl (hg'.trans hg.symm)
 .exact .inl (hoth b hb)
def Moves.map {O:Own} {T:Nat->Prop} {w w':World} {r:Nat} {es es':Array MapEntry} {ck ck':Nat} (hos:w'.os=w.os) (ht:w'.tape=w.tape) (hout:w'.output=w.output) (hs:w'.heap.size=w.heap.size)
 (hg:w.heap[r]? =some (.map es ck)) (hg':w'.heap[r]? =some (.map es' ck')) (hoth: ∀ b,b≠r->w'.heap[b]? =w.heap[b]?) {o:Nat} (ho:O r 0=some o) (hT:T o):Moves O T w w':=by
 refine⟨hos,ht,hout,by omega,fun b _=> ?_⟩;by_cases hb:b=r
 .simp_all[Own,hs]
 .exact .inl (hoth b hb)
def Aii (w:World) (b k:Nat) (v:Value) {c:Array Value} {e:TypeId} {fr:Nat×Nat} (hg:w.heap[b]? =some (.cells c e fr)) :
 (w.setCell (at' b k) v).heap[b]? =some (.cells (c.setIfInBounds k v) e fr)/\(∀ b',b'≠b->(w.setCell (at' b k) v).heap[b']? =w.heap[b']?)/\(w.setCell (at' b k) v).heap.size=w.heap.size:=by
 refine⟨?_,fun b' hb=> ?_,by simp [World.setCell]⟩
 .simp [World.setCell,Gl,hg]
 .simp only[World.setCell,Gl];rw[Dt (fun h=>hb h.symm)]
def Zi (b:Nat): ∀(vs:List Value) (k:Nat) (w:World) {c:Array Value} {e:TypeId} {fr:Nat×Nat},w.heap[b]? =some (.cells c e fr)->k+vs.length<=c.size ->
 ∃ c',(w.setCells b k vs).heap[b]? =some (.cells c' e fr)/\c'.size=c.size/\(∀ i,c'.getD i undef=if k<=i/\i<k+vs.length then vs.getD (i - k) undef else c.getD i undef) /\
  (∀ b',b'≠b->(w.setCells b k vs).heap[b']? =w.heap[b']?)/\(w.setCells b k vs).heap.size=w.heap.size/\(w.setCells b k vs).os=w.os/\(w.setCells b k vs).tape=w.tape/\(w.setCells b k vs).output=w.output:=by
 intro vs
 induction vs with
 | nil=>intro k w c e fr hg _;exact⟨c,hg,rfl,fun i=>by rw[Dt (by simp)],fun _ _=>rfl,rfl,rfl,rfl,rfl⟩
 | cons v vs ih =>
  intro k w c e fr hg hle;simp only[List.length_cons]at hle;obtain⟨h1,h2,h3⟩:=Aii w b k v hg;obtain⟨c',h4,h5,h6,h7,h8,h9,h10,h11⟩:=ih (k+1) (w.setCell (at' b k) v) h1 (by simp;omega);refine⟨c',h4,by rw[h5];simp,fun i=> ?_,fun b' hb=>(h7 b' hb).trans (h2 b' hb),h8.trans h3,h9,h10,h11⟩;rw[h6 i];simp only[List.length_cons];by_cases hi:k+1<=i/\i<k+1+vs.length
  .rw[Dw hi,AvI,show i - k=(i - (k+1))+1 from by omega];rfl
  .rw[Dt hi];by_cases hk:i=k
   .subst hk;rw[AvI,Dn,EX,Dw rfl,AvI];simp
   .rw[AvH,Dn,EX,AvH,<- Dn]
def Zv: ∀(ks:List CK) (cs:List A) (id:Nat),(KY id ks cs).1.length=cs.length /\
 (∀ j,j<cs.length->(KY id ks cs).1.getD j .undef=cs.getD j .undef\/(cs.getD j .undef= .Lj/\(KY id ks cs).1.getD j .undef= .own (id+j)/\ ∃ e sz,(id+j,Obj.arr e false ⟨sz,[]⟩)∈(KY id ks cs).2)) /\
 (∀ p∈(KY id ks cs).2,(∃ e sz,p.2= .arr e false ⟨sz,[]⟩)/\ ∃ j,j<cs.length/\p.1=id+j):=by
 intro ks
 induction ks with
 | nil=>grind[KY]
 | cons k ks ih =>
  intro cs id;cases cs with
  | nil=>grind[KY]
  | cons c cs =>
   obtain⟨h1,h2,h3⟩:=ih cs (id+1)
   have other:KY id (k::ks) (c::cs)=(c::(KY (id+1) ks cs).1,(KY (id+1) ks cs).2) ->
    (KY id (k::ks) (c::cs)).1.length=(c::cs).length /\
    (∀ j,j<(c::cs).length->(KY id (k::ks) (c::cs)).1.getD j .undef=(c::cs).getD j .undef\/((c::cs).getD j .undef= .Lj/\(KY id (k::ks) (c::cs)).1.getD j .undef= .own (id+j)/\ ∃ e sz,(id+j,Obj.arr e false ⟨sz,[]⟩)∈(KY id (k::ks) (c::cs)).2)) /\
    (∀ p∈(KY id (k::ks) (c::cs)).2,(∃ e sz,p.2= .arr e false ⟨sz,[]⟩)/\ ∃ j,j<(c::cs).length/\p.1=id+j):=by
    intro he;rw[he];refine⟨by simp [h1],fun j hj=> ?_,fun p hp=> ?_⟩
    .cases j with
     | zero=>exact .inl rfl
     | succ j=>grind[CK,KY]
    .obtain⟨ha,j,hj,hb⟩:=h3 p hp;exact⟨ha,j+1,by simpa using hj,by omega⟩
   by_cases hc:c= .Lj/\ ∃ e sz,k= .sl e sz
   .obtain⟨hc,e,sz,hk⟩:=hc;subst hc;subst hk;have he:KY id (.sl e sz::ks) (.Lj::cs)=(.own id::(KY (id+1) ks cs).1,(id,.arr e false ⟨sz,[]⟩)::(KY (id+1) ks cs).2):=rfl;rw[he];refine⟨by simp [h1],fun j hj=> ?_,fun p hp=> ?_⟩
    .cases j with
     | zero=>grind[CK,KY]
     | succ j=>grind[CK,KY]
    .rcases Dz.1 hp with rfl | hp
     .grind[CK,KY]
     .obtain⟨ha,j,hj,hb⟩:=h3 p hp;exact⟨ha,j+1,by simpa using hj,by omega⟩
   .refine other ?_;cases k<;>cases c<;>first | rfl | exact absurd ⟨rfl,_,_,rfl⟩ hc
def NC {l:List Nat} {n:Nat}:has l n=true↔n∈l:=by simp_all[has]
def AlE: ∀ {l:List (Nat×Obj)},nodup (l.map (·.1))=true-> ∀ {n x y},(n,x)∈l->(n,y)∈l->x=y:=by
 intro l
 induction l with
 | nil=>intro _ n x y h;cases h
 | cons p l ih =>
  intro h n x y hx hy;simp only[Eb,nodup,Dq,Ef]at h;have hno: ∀ z,(p.1,z)∉l:=by intro z hz;have:has (l.map (·.1)) p.1=true:=NC.2 (DF.2 ⟨_,hz,rfl⟩);rw[this]at h;cases h.1
  all_goals grind[Obj,nodup]
def WZ {Jp:List (Nat×Obj)} {upd new:List (Nat×Obj)} {del:List Nat} {o:Nat} {x:Obj} (h:Jv (JC (Kw (JC Jp upd) del) new) o=some x) :
 (o,x)∈new\/((∀ y,(o,y)∉new)/\o∉del/\((o,x)∈upd\/((∀ y,(o,y)∉upd)/\Jv Jp o=some x))):=by
 by_cases hn: ∃ p∈new,p.1=o
 .obtain⟨y,hy,he⟩:=OO new (Kw (JC Jp upd) del) o hn;rw[he]at h;injection h with h;subst h;exact .inl hy
 .have hn': ∀ y,(o,y)∉new:=fun y hy=>hn ⟨_,hy,rfl⟩;rw[MI _ _ _ (fun p hp e=>hn ⟨p,hp,e⟩),Ui]at h;by_cases hd:o∈del
  .rw[Dw hd]at h;cases h
  .rw[Dt hd]at h;refine .inr ⟨hn',hd,?_⟩;by_cases hu: ∃ p∈upd,p.1=o
   .obtain⟨y,hy,he⟩:=OO upd Jp o hu;rw[he]at h;injection h with h;subst h;exact .inl hy
   .grind[MI]
def lY {Jp:List (Nat×Obj)} {upd new:List (Nat×Obj)} {del:List Nat} (hnd:nodup (new.map (·.1))=true) {o:Nat} {x:Obj} (h:(o,x)∈new):Jv (JC (Kw (JC Jp upd) del) new) o=some x:=by obtain⟨y,hy,he⟩:=OO new (Kw (JC Jp upd) del) o ⟨_,h,rfl⟩;rw[he,AlE hnd h hy]
section
variable {P:Program} {C:Ctx} {V0:Nat->Value} {O0 O:Own} {w0 w:World} {m:Nat->Value} {st:St} {a:Act} {o:Oper}
theorem JF.Lj {Jp:List (Nat×Obj)} {v:Value} (h:JF O Jp m w v .Lj):v= .slice none 0 0:=h
theorem RN.AjC {O':Own} {w':World} {objs':List (Nat×Obj)} {m':Nat->Value} {vs:Array Value} {cs:List A} {ks:List CK} {id:Nat} {Nw:Nat->Prop} (h:RN O st.Jp m w vs cs) (hp:Nj O w O' w') (hE:Rz st.Jp m objs' m' Nw)
 (hN: ∀ j,j<cs.length-> ∀ i∈(cs.getD j .undef).Nc,¬ Nw i) (hnew: ∀ p∈(KY id ks cs).2,Jv objs' p.1=some p.2/\m' p.1= .slice none 0 0):RN O' objs' m' w' vs (KY id ks cs).1:=by
 obtain⟨h1,h2,_⟩:=Zv ks cs id;refine⟨by rw[h1];exact h.1,fun j hj=> ?_⟩;rw[h1]at hj;rcases h2 j hj with he | ⟨hn,he,e,sz,hm⟩
 .rw[he];exact(h.2 j hj).step hp hE (hN j hj)
 .have:=h.2 j hj;rw[hn]at this;have hv:=this.Lj;rw[he,hv];obtain⟨g1,g2⟩:=hnew _ hm;dsimp only at g1 g2;refine⟨rfl,?_⟩;rw[g1];exact g2.symm
theorem tK {x:A} (hv:x.isVal=true) {j:Nat} (hj:j<x.cells.length) {i:Nat} (hi:i∈(x.cells.getD j .undef).Nc):i∈x.ids:=by
 cases x with
 | agg cs=>exact TP (f:=A.Nc) hj hi
 | undef=>cases hv
 | tup _=>cases hv
 | usl _ _ _=>cases hv
 | ump _=>cases hv
 | box _=>cases hv
 | cbx _ _=>cases hv
 | cnd _ _=>cases hv
 | _ =>
  have:j=0:=by simpa [A.cells]using hj
  subst this;exact hi
theorem AeL {vs:Array Value} {cs:List A} {ks:List CK} {t:Nat} {r:Value} {y:A} {okl:List Bool} (hS:Sim V0 O0 w0 O m st a w) (hcs:RN O st.Jp m w vs cs) (hids: ∀ j,j<cs.length-> ∀ i∈(cs.getD j .undef).Nc,i∈st.ids\/(Jv st.Jp i).isSome) {d:Nat} (hd:o.dst=some d)
 (hr:(execOp a.eval o).run P w= .ok (.value r) (w.alloc (.cells vs t)))
 (hy: ∀(O':Own) (objs':List (Nat×Obj)) (m':Nat->Value) (w':World) (c:List A),Jv objs' (b2 d)=some (.box c)->m' (b2 d)= .pointer (some (at' w.heap.size 0))->J8 O' objs' m' w' r y)
 (hfr: ∀ p∈(b2 d,Obj.box (KY (b2 d+1) ks cs).1)::(KY (b2 d+1) ks cs).2,st.fresh p.1=true) (hnd:nodup (((b2 d,Obj.box (KY (b2 d+1) ks cs).1)::(KY (b2 d+1) ks cs).2).map (·.1))=true) :
 Good P V0 O0 w0 (apply st o {ok:=okl,val:=y,new:=(b2 d,.box (KY (b2 d+1) ks cs).1)::(KY (b2 d+1) ks cs).2}) o a w:=by
 intro next Q hn
 unfold Oper.wp;rw[hr,Oper.upon_value];let ad:=KY (b2 d+1) ks cs;let m':Nat->Value:=fun i=>if i=b2 d then .pointer (some (at' w.heap.size 0))else if has (ad.2.map (·.1)) i then .slice none 0 0 else m i;let O':Own:=fun b k=>if b=w.heap.size then some (b2 d)else O b k;let Nw:Nat->Prop:=fun i=> ∃ p∈((b2 d,Obj.box ad.1)::ad.2),p.1=i;have hNw: ∀ i,Nw i->Qu st i:=by rintro i ⟨p,hp,rfl⟩;exact Nl (hfr p hp)
 refine hn O' m' _ _ ?_;have hobjs:(apply st o {ok:=okl,val:=y,new:=(b2 d,.box ad.1)::ad.2}).Jp=JC (Kw (JC st.Jp []) []) ((b2 d,.box ad.1)::ad.2):=rfl;have hnewO: ∀ p∈((b2 d,Obj.box ad.1)::ad.2),Jv (JC (Kw (JC st.Jp []) []) ((b2 d,.box ad.1)::ad.2)) p.1=some p.2:=fun p hp=>lY hnd (by exact hp);have hb2:has (ad.2.map (·.1)) (b2 d)=false:=by simp only[Eb,nodup,Dq,Ef]at hnd;exact hnd.1
 have hmad: ∀ p∈ad.2,m' p.1= .slice none 0 0:=by
  intro p hp;have h3:has (ad.2.map (·.1)) p.1=true:=NC.2 (DF.2 ⟨p,hp,rfl⟩);have h4:p.1≠b2 d:=fun e=>by rw[e,hb2]at h3;cases h3
  show(if p.1=b2 d then _ else _)=_;rw[Dt h4,Dw h3]
 have hE:Rz st.Jp m (JC (Kw (JC st.Jp []) []) ((b2 d,.box ad.1)::ad.2)) m' Nw:=by
  intro i y hy;rcases WZ hy with hy' | ⟨hno,_,hy' | ⟨_,hy'⟩⟩
  .exact .inl ⟨_,hy',rfl⟩
  .cases hy'
  .refine .inr ⟨y,hy',rfl,?_⟩;have h3:i≠b2 d:=fun e=>hno (.box ad.1) (by rw[e];exact Du)
   have h4:has (ad.2.map (·.1)) i=false:=by
    cases hh:has (ad.2.map (·.1)) i with
    | false=>rfl
    | true =>obtain⟨p,hp,hpe⟩:=DF.1 (NC.1 hh);exact absurd (Dy _ (by rw[<- hpe];exact hp)) (hno p.2)
   show(if i=b2 d then _ else _)=_;rw[Dt h3,h4];rfl
 have hM:Moves O (fun _=>False) w (w.alloc (.cells vs t)):=Moves.push _;have hP:Passes O O' (fun _=>False) w.heap.size:=⟨fun b k hb h=>by show(if b=_ then _ else _)=_;rw[Dt (GH hb)];exact h,fun b k q hb h _=>by show(if b=_ then _ else _)=_;rw[Dt (GH hb)];exact h⟩
 have hpr:=hM.JW hP;have hnewblk: ∀ k,(w.alloc (.cells vs t)).cell? (at' w.heap.size k)=vs[k]? :=by intro k;exact World.cell?_alloc_at vs t _ _ rfl
 refine hS.next (T:=fun _=>False) (Nw:=Nw) hM hP (fun b k hb h=> ?_) hE (fun n hn'=>(hNw n hn').both) (fun _ h=>h.elim) (fun q y hy=> ?_) rfl (fun _=> ?_)
 .have:O' b k=O b k:=Dt (GH hb);rw[this]at h;exact h
 .rcases WZ hy with hy' | ⟨hno,_,hy' | ⟨_,hy'⟩⟩
  .right;rcases Dz.1 hy' with e | hy'
   .injection e with e1 e2;subst e1;subst e2;refine⟨⟨w.heap.size,0,Dw rfl,fun j hj=> ?_⟩,(hNw _ ⟨_,Du,rfl⟩).ne⟩
    have hcs':RN O' _ m' _ vs ad.1:=hcs.AjC (ks:=ks) (id:=b2 d+1) hpr hE (fun j hj i hi hn'=>by
     rcases hids j hj i hi with hh | hh
     .exact(hNw i hn').1 hh
     .rw[(hNw i hn').2]at hh;cases hh) (fun p hp=>⟨hnewO p (Dy _ hp),hmad p hp⟩)
    have hjs:j<vs.size:=by rw[hcs'.1];exact hj
    refine⟨Dw rfl,by simp only[World.frozen?,nT];simp,vs.getD j undef,?_,hcs'.2 j hj⟩;rw[hnewblk];simp only[DR];exact getD_eq hjs
   .obtain⟨⟨e,sz,h3⟩,_⟩:=(Zv ks cs (b2 d+1)).2.2 _ hy';dsimp only at h3;subst h3;exact⟨⟨by simp [Sl.es],.inl ⟨trivial,rfl,hmad _ hy'⟩⟩,(hNw _ ⟨_,Dy _ hy',rfl⟩).ne⟩
  .cases hy'
  .left;refine⟨id,hy',?_⟩;rcases hE q y hy with hn' | ⟨_,h3,_,h4⟩
   .rw[(hNw q hn').2]at hy';cases hy'
   .exact h4
 .exact hy _ _ _ _ _ (hnewO (b2 d,.box ad.1) Du) (Dw rfl)
theorem AgG {t:Nat} {v:Value} {x:A} (hC:TOk P C) (hS:Sim V0 O0 w0 O m st a w) (hx:J8 O st.Jp m w v x) (hids: ∀ i∈x.ids,i∈st.ids\/(Jv st.Jp i).isSome) {d:Nat} (hd:o.dst=some d)
 (hrun: ∀ ti,C.T t=some ti->x.isVal=true->v.cells.size=ti.cs.length->(execOp a.eval o).run P w= .ok (.value (.pointer (some (at' w.heap.size 0)))) (w.alloc (.cells v.cells t)))
 (hok:J5 (Wh C d t x).ok) (hfr: ∀ p∈(Wh C d t x).new,st.fresh p.1=true) (hnd:nodup ((Wh C d t x).new.map (·.1))=true):Good P V0 O0 w0 (apply st o (Wh C d t x)) o a w:=by
 unfold Wh at *
 obtain⟨ti,ht,he⟩:=Kt hok;rw[he]at hok hfr hnd ⊢;clear he;obtain⟨h1,h2⟩:=hok.cons;have h2:=Dp h2.cons.1;have hcs:=hx.cells h1;refine AeL (ks:=adK C d ti) hS hcs (fun j hj i hi=>hids i (tK h1 hj hi)) hd (hrun ti ht h1 (by rw[hcs.1,h2])) (fun O' objs' m' w' c hc hm=> ?_) hfr hnd;show JF O' objs' m' w' _ (.ptr (b2 d) 0);refine⟨rfl,?_⟩;rw[hc];exact⟨w.heap.size,0,hm,rfl⟩
end
end Go.Proofs.YtbgjmioccbacdaaGreatDoor.Vm
