/-
  CertextCheck: the law returns true whatever the input; machine, functions, plain law (part 9 of 47.)
-/
import Derived.Test.YtadefjgbcapakaaGreatDoorA8
import Derived.Laws.MakeOwn
set_option linter.unusedVariables false
set_option linter.unusedSimpArgs false
namespace Go.Proofs.YtadefjgbcapakaaGreatDoor.Vm
open Classical
section
variable {P:Program} {C:Ctx} {V0:Nat→Value} {O0 O:Own} {w0 w:World} {m:Nat→Value} {st:St} {a:Act} {o:Oper}
theorem Ak1 {t:Nat} {lo co:Operand} (hC:TOk P C) (hS:Sim V0 O0 w0 O m st a w) {d:Tmp} (hd:o.dst=some d) (ho:o.op= .makeSlice t lo co) {l c:A} (hl:AB O st.Aa m w (a.eval lo) l) (hc:AB O st.Aa m w (a.eval co) c)
    (hok:AA (Zl C d t l c).ok) (hfr: ∀ p∈(Zl C d t l c).new,st.fresh p.1=true):Good P V0 O0 w0 (apply st o (Zl C d t l c)) o a w:=by
  intro next Q hn
  unfold Zl at *
  obtain⟨n,hn1,he⟩:=Be hok
  rw[he]at hok hfr hn;clear he
  obtain⟨n',hn2,he⟩:=Be hok
  rw[he]at hok hfr hn;clear he
  obtain⟨ti,e,te,ht,hte,hd',he⟩:=VD hok
  rw[he]at hok hfr hn;clear he
  obtain⟨k1,rfl⟩:=Rn hn1
  obtain⟨k2,rfl⟩:=Rn hn2
  obtain⟨h1,h2⟩:=hok.cons
  obtain⟨h2,h3⟩:=h2.cons
  obtain⟨h3,h4⟩:=h3.cons
  obtain⟨h4,h5⟩:=h4.cons
  have h5:=h5.cons.1
  have h1:n≤n':=by simpa using h1
  have h2:0≤n:=by simpa using h2
  have h3:n'*((te.bytes:Int)+1)≤140737488355328:=by simpa using h3
  have h4:0<te.cs.length:=by simpa [Nat.blt_eq]using h4
  have hl:=hl.int
  have hc:=hc.int
  obtain⟨k,rfl⟩:=Int.eq_ofNat_of_zero_le h2
  obtain⟨c,rfl⟩:=Int.eq_ofNat_of_zero_le (Int.le_trans h2 h1)
  have hkc:k≤c:=by omega
  have hT:=hC.is hd'
  obtain⟨i,z,g1,g2,g3,g4,g5,g6⟩:=hT.i
  have hu:=(hC.is ht).d
  rw[hte]at hu
  have h3':c*te.bytes+c≤140737488355328:=by
    have e0:(c:Int)*((te.bytes:Int)+1)=((c*te.bytes+c:Nat):Int):=by
      rw[Int.mul_add,Int.natCast_add,Int.natCast_mul,Int.mul_one]
    have h3:(c:Int)*((te.bytes:Int)+1)≤140737488355328:=h3
    rw[e0]at h3;omega
  obtain⟨hz1,hz2⟩:=yI (O:=O) (w:=w) hT (by rw[g1];exact g4) h5 h4 c
  have hz2:=hz2.less hkc
  have hr:(execOp a.eval o).run P w= .ok (.value (.slice (some (at' w.heap.size 0)) k c)) (w.alloc (.cells (zeros z (c*te.cs.length)) e)):=by
    have e1:(i.bytes:Int)*(c:Int)≤281474976710656:=by
      have:(i.bytes:Int)*c=((c*te.bytes:Nat):Int):=by rw[g3,Int.mul_comm,Int.natCast_mul]
      rw[this];omega
    have:=run_make (P:=P) w t e i z hu g1 g4 k1 k2 k c (by omega) (by omega) e1 (by omega)
    simp only[Int.toNat_natCast,g2]at this
    have hl':a.eval lo= .int k1 (k:Int):=hl
    have hc':a.eval co= .int k2 (c:Int):=hc
    simp only[execOp,ho,Sem.run_bind,hl',hc',this,Result.andThen_ok,Sem.run_pure]
    rfl
  unfold Oper.wp
  rw[hr,Oper.upon_value,hd]
  obtain⟨O',m',h⟩:=Pm hS (Moves.refl _ _ w) rfl (d:=d) (e:=e) (cap:=c) (frz:=false) (l:=⟨tyl te.cs,List.replicate k (tyl te.cs).zero⟩) (del:=[]) (by rw[Sl.BQ,List.length_replicate];exact hkc) (by unfold maxLen;omega) (by rw[hz1];show _=_*(tyl te.cs).len;rw[Me]) (by show Held _ _ _ (tyl te.cs).len _;rw[Me,Sl.Ur _ _ h5];exact hz2) (DU (hfr _ List.mem_cons_self))
  rw[Sl.BQ,List.length_replicate]at h
  refine hn O' m' _ _ ?_
  rw[Qh hd]
  exact h
theorem AdG {t:Nat} {x:Operand} {lo hi mx:Option Operand} (hC:TOk P C) (hS:Sim V0 O0 w0 O m st a w) (ho:o.op= .slice t x lo hi mx) (hmx:mx=none) {fet:Fet} (hf:Ir st.Aa fet) {q:Nat} {lo' hi':Option A}
    (hx:AB O st.Aa m w (a.eval x) (.own q)) (hlo:ORl O st.Aa m w (lo.map a.eval) lo') (hhi:ORl O st.Aa m w (hi.map a.eval) hi')
    (hok:AA (DT C fet t (.own q) lo' hi').ok):Good P V0 O0 w0 (apply st o (DT C fet t (.own q) lo' hi')) o a w:=by
  subst hmx
  intro next Q hn
  unfold DT at *
  obtain⟨ti,ht,he⟩:=BB hok
  rw[he]at hok hn;clear he
  dsimp only at hok hn
  obtain⟨ro,hro,he⟩:=Be hok
  rw[he]at hok hn;clear he
  obtain⟨r,hr,he⟩:=Be hok
  rw[he]at hok hn;clear he
  obtain⟨e,hel,he⟩:=Be hok
  rw[he]at hok hn;clear he
  obtain⟨te,hte,he⟩:=BB hok
  rw[he]at hok hn;clear he
  obtain⟨h1,h2⟩:=hok.cons
  rw[← Sl.BQ]at hr
  have hsz:=Nat.eq_of_beq_eq_true h1
  have hq:=hf q _ (Gu hro)
  have key: ∃ O1,Sim V0 O0 w0 O1 m {st with Aa:=Au st.Aa (bif ro.frz then []else [(q,.arr ro.e true ro.l)])} a w∧Am O1 w (m q) (.sl ro.l):=by
    cases hfz:ro.frz with
    | false =>
      obtain⟨O1,hS1,_,_,hv1,_⟩:=hS.XH hq
      exact⟨O1,hS1,hv1⟩
    | true =>
      rw[hfz]at hq
      exact⟨O,hS,(hS.Aa q _ hq).frozen⟩
  obtain⟨O1,hS1,hv1⟩:=key
  have hd:=LD hel
  have hu:=(hC.is ht).run w
  rw[hd]at hu
  have hs:=(hC.is hte).JZ w
  rw[← hsz]at hs
  have hxv:a.eval x=m q:=by
    have h2:AV O st.Aa m w (a.eval x) (.own q):=hx
    have h2:=h2.2
    rw[hq]at h2
    exact h2
  obtain⟨h4,h5⟩:r.2.1≤r.2.2∧r.2.2≤ro.l.es.length:=(Ou (isS:=true) (P:=P) hlo hhi (Nat.le_refl _) hr h2).2
  obtain⟨ad,n,c,hv,hn',hc,hcut⟩:=hv1.cut r.2.1 r.2.2 h4 h5
  obtain⟨h3,_,_⟩:=Ou (isS:=true) (P:=P) (cap:=c) hlo hhi (by rw[← hn'];exact hc) hr h2
  rw[← hn']at h3
  have hrun:(execOp a.eval o).run P w= .ok (.value (.slice (if c=r.2.1 then ad else ad.map (·.add (r.2.1*ro.l.sz))) (r.2.2 - r.2.1) (c - r.2.1))) w:=by
    simp only[execOp,ho,Instr.sliceAt,Sem.run_bind,hu,Result.andThen_ok,Instr.slice,hxv,hv,Option.map_none,h3,hs,Sem.run_pure]
  unfold Oper.wp
  rw[hrun,Oper.upon_value]
  refine hn O1 m _ _ ?_
  have:=hS1.put o.dst (x:=.sl ⟨ro.l.t,AO ro.l.xs r.2.1 r.2.2⟩) (v:=.slice (if c=r.2.1 then ad else ad.map (·.add (r.2.1*ro.l.sz))) (r.2.2 - r.2.1) (c - r.2.1)) (hcut c rfl)
  exact this
theorem Al4 {t:Nat} {x h:Operand} (hC:TOk P C) (hS:Sim V0 O0 w0 O m st a w) {d:Tmp} (hd:o.dst=some d) (ho:o.op= .slice t x none (some h) none) {fet:Fet} (hf:Ir st.Aa fet) {x' b':A}
    (hx:AB O st.Aa m w (a.eval x) x') (hb:AB O st.Aa m w (a.eval h) b') (hok:AA (gV C fet d t x' b').ok) (hfr: ∀ p∈(gV C fet d t x' b').new,st.fresh p.1=true) :
    Good P V0 O0 w0 (apply st o (gV C fet d t x' b')) o a w:=by
  intro next Q hn
  unfold gV at *
  obtain⟨ti,ht,he⟩:=BB hok
  rw[he]at hok hn hfr;clear he
  cases x' with
  | own q =>
    dsimp only at hok hn hfr
    obtain⟨ro,hro,he⟩:=Be hok
    rw[he]at hok hn hfr;clear he
    obtain⟨r,hr,he⟩:=Be hok
    rw[he]at hok hn hfr;clear he
    obtain⟨e,hel,he⟩:=Be hok
    rw[he]at hok hn hfr;clear he
    obtain⟨te,hte,he⟩:=BB hok
    rw[he]at hok hn hfr;clear he
    obtain⟨hok,hfz⟩:=hok.append
    obtain⟨h1,h2⟩:=hok.cons
    have hfz:ro.frz=false:=by simpa using hfz.cons.1
    rw[← Sl.BQ]at hr
    have hsz:=Nat.eq_of_beq_eq_true h1
    have hq:=hf q _ (Gu hro)
    rw[hfz]at hq
    have hd':=LD hel
    have hu:=(hC.is ht).run w
    rw[hd']at hu
    have hs:=(hC.is hte).JZ w
    rw[← hsz]at hs
    have hxv:a.eval x=m q:=by
      have h2:AV O st.Aa m w (a.eval x) (.own q):=hx
      have h2:=h2.2
      rw[hq]at h2
      exact h2
    have hh:ORl O st.Aa m w (some (a.eval h)) (some b'):=hb
    have hlo0:ORl O st.Aa m w none none:=trivial
    obtain⟨h4,h5⟩:r.2.1≤r.2.2∧r.2.2≤ro.l.es.length:=(Ou (isS:=true) (P:=P) hlo0 hh (Nat.le_refl _) hr h2).2
    have hr0:r.2.1=0:=by
      unfold tJ at hr
      split at hr<;>first | (injection hr with hr;rw[← hr];done) | (injection hr with hr;rw[← hr]) | cases hr
      all_goals (first | rfl | (rename_i hc _;cases hc))
    have hfresh:Gp st (b2 d):=DU (hfr _ List.mem_cons_self)
    have hes:(⟨ro.l.t,AO ro.l.xs r.2.1 r.2.2⟩:Sl).es=ro.l.es.take r.2.2:=by
      rw[Sl.Aka,hr0];simp [AO]
    obtain⟨hszs,hrow⟩:=hS.Aa q _ hq
    have hgoal: ∀ v,(∀ cap:Nat,True)→(execOp a.eval o).run P w= .ok (.value v) w→(∃ O' m',Sim V0 O0 w0 O' m' {tmps:=st.tmps.set d (.own (b2 d)),Aa:=Au (Bl st.Aa [q]) [(b2 d,.arr ro.e false ⟨ro.l.t,AO ro.l.xs r.2.1 r.2.2⟩)]} (a.put (some d) v) w)→o.wp P a w next Q:=by
      intro v _ hrun ⟨O',m',h⟩
      unfold Oper.wp
      rw[hrun,Oper.upon_value,hd]
      refine hn O' m' _ _ ?_
      unfold apply
      rw[hd]
      exact h
    rcases hrow with ⟨_,hnil,hm⟩ | ⟨_,g,cap,cur,hm,hg,hcap,_⟩
    ·have h0:r.2.2=0:=by rw[hnil]at h5;simpa using h5
     obtain⟨h3,_,_⟩:=Ou (isS:=true) (P:=P) (w:=w) (cap:=0) hlo0 hh (by rw[hnil];exact Nat.le_refl _) hr h2
     rw[hnil]at h3
     refine hgoal (.slice none 0 0) (fun _=>trivial) ?_ ?_
     ·have h3:(Instr.sliceBounds true 0 0 none (some (a.eval h)) none).run P w= .ok (r.2.1,r.2.2,0) w:=h3
      rw[hr0,h0]at h3
      simp only[execOp,ho,Instr.sliceAt,Sem.run_bind,hu,Result.andThen_ok,Instr.slice,hxv,hm,Option.map_none,Option.map_some,h3,hs,Sem.run_pure]
      rfl
     ·have hxs:AO ro.l.xs r.2.1 r.2.2=[]:=by
        have:ro.l.xs=[]:=Aaz hnil
        rw[this];simp [AO]
      rw[hxs]
      exact Zr hS hfresh
    ·obtain⟨h3,_,_⟩:=Ou (isS:=true) (P:=P) (w:=w) (cap:=cap) hlo0 hh hcap hr h2
     refine hgoal (.slice (some (at' g 0)) r.2.2 cap) (fun _=>trivial) ?_ ?_
     ·have h3:(Instr.sliceBounds true ro.l.es.length cap none (some (a.eval h)) none).run P w= .ok (r.2.1,r.2.2,cap) w:=h3
      rw[hr0]at h3
      simp only[execOp,ho,Instr.sliceAt,Sem.run_bind,hu,Result.andThen_ok,Instr.slice,hxv,hm,Option.map_none,Option.map_some,h3,hs,Sem.run_pure]
      simp [JD]
     ·exact Aif hS hq hm hg h5 hes rfl hfresh
  | _=>exact(AU hok).elim
end
end Go.Proofs.YtadefjgbcapakaaGreatDoor.Vm
namespace Go.Proofs.YtadefjgbcapakaaGreatDoor.Vm
open Classical
section
variable {P:Program} {C:Ctx} {V0:Nat→Value} {O0 O:Own} {w0 w:World} {m:Nat→Value} {st:St} {a:Act} {o:Oper}
structure Src (P:Program) (O:Own) (w:World) (sz:Nat) (y:Value) (ns:List (List A)) (news:List Value):Prop where
  len: ∀ w',(Builtin.lenOf y).run P w'= .ok ns.length w'
  cells: ∀ w',(∀ b k u,w.cell? (at' b k)=some u→w'.cell? (at' b k)=some u)→(Builtin.firstCells sz ns.length y).run P w'= .ok news.toArray w'
  size:news.length=ns.length*sz
  each: ∀ x∈ns,x.length=sz
  rel: ∀ i j,i<ns.length→j<sz→Am O w (news.getD (i*sz+j) undef) ((ns.getD i []).getD j .undef)
theorem Src.one {sz:Nat} {y:Value} {ns:List (List A)} {news:List Value} (h:Src P O w sz y ns news) (h0:0<sz): ∀ v∈news,v.oneCell'=true:=by
  intro v hv
  obtain⟨k,hk,hke⟩:=List.mem_iff_getElem.1 hv
  have hd:k=(k / sz)*sz+k % sz:=by rw[Nat.mul_comm];exact(Nat.div_add_mod k sz).symm
  have hlt:k / sz<ns.length:=by
    rw[Nat.div_lt_iff_lt_mul h0, ←h.size];exact hk
  have:=h.rel (k / sz) (k % sz) hlt (Nat.mod_lt _ h0)
  rw[← hd,List.getD_eq_getElem?_getD,List.getElem?_eq_getElem hk]at this
  simp only[Option.getD_some,hke]at this
  exact this.one
theorem Aoc {l:Sl} {v:Value} (h:AhG w O v l): ∃ news,Src P O w l.sz v l.es news:=by
  rcases h with ⟨ad,hv,hn⟩ | ⟨b,k,c,hv,hc,hcell⟩
  ·have hn:l.es=[]:=by simp [Sl.es,hn]
   refine⟨[],⟨fun w'=>by rw[hv,hn];rfl,fun w' _=>by
     rw[hv,hn]
     cases ad with
     | none=>rfl
     | some ad =>
       show(Builtin.firstCells l.sz 0 (.slice (some ad) 0 0)).run P w'=_
       simp only[Builtin.firstCells,Nat.zero_mul]
       exact run_loadCells (P:=P) w' ad 0 (fun _=>undef) (fun i hi=>absurd hi (Nat.not_lt_zero i)),by rw[hn];simp,l.es_len,fun i j hi=>by rw[hn]at hi;simp at hi⟩⟩
  ·let news:List Value:=(List.range (l.es.length*l.sz)).map fun i=>(w.cell? (at' b (k+i))).getD undef
   have hcells: ∀ i,i<l.es.length*l.sz→ ∃ u,w.cell? (at' b (k+i))=some u:=by
     intro i hi
     have h0:0<l.sz:=by
       rcases Nat.eq_zero_or_pos l.sz with h | h
       ·rw[h]at hi;simp at hi
       ·exact h
     have hd:i=(i / l.sz)*l.sz+i % l.sz:=by rw[Nat.mul_comm];exact(Nat.div_add_mod i l.sz).symm
     obtain⟨u,hu,_⟩:=hcell (i / l.sz) (i % l.sz) (by rw[Nat.div_lt_iff_lt_mul h0];exact hi) (Nat.mod_lt _ h0)
     rw[← hd]at hu;exact⟨u,hu⟩
   refine⟨news,⟨fun w'=>by rw[hv];rfl,fun w' hw'=> ?_,by simp [news],l.es_len,fun i j hi hj=> ?_⟩⟩
   ·rw[hv]
    simp only[Builtin.firstCells]
    have:=run_loadCells (P:=P) w' (at' b k) (l.es.length*l.sz) (fun i=>(w.cell? (at' b (k+i))).getD undef) (fun i hi=>by
      obtain⟨u,hu⟩:=hcells i hi
      rw[JD,hw' _ _ _ hu,hu];rfl)
    exact this
   ·obtain⟨u,h3,h4⟩:=hcell i j hi hj
    have hlt:i*l.sz+j<l.es.length*l.sz:=by
      have:(i+1)*l.sz≤l.es.length*l.sz:=Nat.mul_le_mul_right _ hi
      rw[Nat.add_mul]at this;omega
    have e1:news.getD (i*l.sz+j) undef=u:=by
      simp [news,List.getD_eq_getElem?_getD,hlt,h3]
    rw[e1];exact h4
theorem src_of {fet:Fet} {t:Ty} {y:A} {v:Value} (hf:FOk O st.Aa m w fet) (hy:AB O st.Aa m w v y) (hok:AA (Gj fet t y).1): ∃ news,Src P O w t.len v (⟨t,(Gj fet t y).2⟩:Sl).es news:=by
  have hrd:AA (rdT fet t y).1→ ∃ news,Src P O w t.len v (⟨t,(rdT fet t y).2⟩:Sl).es news:=fun hok=>Aoc (Ah8 hf hy hok)
  by_cases hs: ∃ s,y= .str s
  ·obtain⟨s,rfl⟩:=hs
   by_cases ht:t= .int .u8 .nil
   ·subst ht
    obtain⟨b,hb,hl⟩:=hy.str
    have hbl:b.size=s.length:=by rw[Mc,hl]
    have hes:(⟨.int .u8 .nil,(Gj fet (.int .u8 .nil) (.str s)).2⟩:Sl).es=s.map (fun(x:UInt8)=>[A.int .u8 (x.toNat:Int)]):=by
      show List.map (Ty.int IntKind.u8 Ty.nil).cells (List.map (fun(b:UInt8)=>((b.toNat:Int))) s)=_
      exact List.map_map.trans rfl
    rw[hes]
    refine⟨s.map (fun(x:UInt8)=>Value.int .u8 (x.toNat:Int)),⟨fun w'=>by rw[hb];simp [Builtin.lenOf,hbl],fun w' _=> ?_,by simp [Ty.len],by simp [Ty.len],fun i j hi hj=> ?_⟩⟩
    ·rw[hb]
     simp only[Builtin.firstCells,List.length_map,Sem.run_pure]
     congr 1
     have:b.extract 0 s.length=b:=by
       rw[← hbl]
       have h1:(b.extract 0 b.size).data.toList=b.data.toList:=by rw[qH,Mc];unfold AO;rw[List.drop_zero,List.take_length]
       exact ByteArray.ext (Array.toList_inj.1 h1)
     rw[this]
     apply Array.toList_inj.1
     simp [hl]
    ·have hj0:j=0:=by simp [Ty.len]at hj;omega
     subst hj0
     have hi':i<s.length:=by simpa using hi
     simp [List.getD_eq_getElem?_getD,hi',Ty.len]
     exact .int _ _
   ·have:(Gj fet t (.str s)).1=[false]:=by
      unfold Gj
      cases t with
      | int k r=>cases k<;>cases r<;>first | rfl | exact absurd rfl ht
      | _=>rfl
    rw[this]at hok
    have:=hok false (by simp);cases this
  ·have:Gj fet t y=rdT fet t y:=by
     cases y<;>first | rfl | exact absurd ⟨_,rfl⟩ hs
   rw[this]at hok ⊢
   exact hrd hok
theorem yS {d:TypeDesc} (h:Q7 d=true):(∃ e,d= .slice e)∨d= .string:=by
  unfold Q7 at h;split at h<;>simp_all
theorem bF {t u ty e n sLen sCap:Nat} {i:TypeInfo} {du:TypeDesc} {base:Option Addr} {y:Value} {news:List Value} {w':World} (hu:P.underlying t=some (.slice e)) (hu2:P.underlying u=some du) (hdu:Q7 du=true) (hi:P.info? e=some i)
    (hlen:(Builtin.lenOf y).run P w= .ok n w) (hnew:(Builtin.firstCells i.size n y).run P w= .ok news.toArray w) (hle:sLen+n≤sCap)
    (hst:match base with | some ad=>(storeCells (ad.add (sLen*i.size)) news).run P w= .ok () w' | none=>w'=w) :
    (Builtin.append_ #[t,u] ty #[.slice base sLen sCap,y]).run P w= .ok (.slice base (sLen+n) sCap) w':=by
  rcases yS hdu with ⟨e',rfl⟩ | rfl
  ·cases base with
   | none=>subst hst;simp [Builtin.append_,run_underlying hu,run_underlying hu2,sizeOf,typeInfo,hi,hlen,hnew,hle]
   | some ad=>dsimp only at hst;simp [Builtin.append_,run_underlying hu,run_underlying hu2,sizeOf,typeInfo,hi,hlen,hnew,hle,hst]
  ·cases base with
   | none=>subst hst;simp [Builtin.append_,run_underlying hu,run_underlying hu2,sizeOf,typeInfo,hi,hlen,hnew,hle]
   | some ad=>dsimp only at hst;simp [Builtin.append_,run_underlying hu,run_underlying hu2,sizeOf,typeInfo,hi,hlen,hnew,hle,hst]
theorem Yy {t u ty e n sLen sCap:Nat} {i:TypeInfo} {z:Value} {du:TypeDesc} {base:Option Addr} {y:Value} {olds news:List Value} (hu:P.underlying t=some (.slice e)) (hu2:P.underlying u=some du) (hdu:Q7 du=true) (hi:P.info? e=some i) (hz:i.zero=some z)
    (hlen:(Builtin.lenOf y).run P w= .ok n w) (hold:(Builtin.firstCells i.size sLen (.slice base sLen sCap)).run P w.drew= .ok olds.toArray w.drew) (hnew:(Builtin.firstCells i.size n y).run P w.drew= .ok news.toArray w.drew) (hgt:sCap<sLen+n)
    (hb:(sLen+n)*i.bytes≤140737488355328) (h0:0<i.bytes∨((sLen+n:Nat):Int)≤9223372036854775807) :
    (Builtin.append_ #[t,u] ty #[.slice base sLen sCap,y]).run P w =
      .ok (.slice (some (at' w.heap.size 0)) (sLen+n) (grownCap w (sLen+n) sCap e)) (w.drew.alloc (.cells (olds.toArray++news.toArray++Builtin.zeroCells z.cells (grownCap w (sLen+n) sCap e - (sLen+n))) e)):=by
  have hn: ¬(sLen+n≤sCap):=by omega
  have hfit:=growslice_fits hgt hb
  have h48': ¬(281474976710656<Builtin.nextslicecap (sLen+n) sCap*i.bytes):=by omega
  have h63: ¬(((sLen:Int)+(n:Int))>9223372036854775807∧i.bytes=0):=by
    rintro ⟨ha,hb'⟩
    rcases h0 with h0 | h0
    ·omega
    ·rw[Int.natCast_add]at h0;omega
  have h63': ¬(9223372036854775807<((sLen:Int)+(n:Int))∧i.bytes=0):=h63
  rcases yS hdu with ⟨e',rfl⟩ | rfl
  ·simp [Builtin.append_,run_underlying hu,run_underlying hu2,sizeOf,typeInfo,zeroValue,hi,hz,hlen,hn,h63',h48',Question.forced,hold,hnew,newRow,grownCap]
   congr 2
   apply Array.ext'
   simp [List.append_assoc]
  ·simp [Builtin.append_,run_underlying hu,run_underlying hu2,sizeOf,typeInfo,zeroValue,hi,hz,hlen,hn,h63',h48',Question.forced,hold,hnew,newRow,grownCap]
   congr 2
   apply Array.ext'
   simp [List.append_assoc]
end
end Go.Proofs.YtadefjgbcapakaaGreatDoor.Vm
namespace Go.Proofs.YtadefjgbcapakaaGreatDoor.Vm
open Classical
section
variable {P:Program} {C:Ctx} {V0:Nat→Value} {O0 O:Own} {w0 w:World} {m:Nat→Value} {st:St} {a:Act} {o:Oper}
theorem yH {sz cap:Nat} {es ns:List (List A)} {olds news:List Value} {z:Array Value} (hes: ∀ x∈es,x.length=sz) (hns: ∀ x∈ns,x.length=sz) (hol:olds.length=es.length*sz) (hnl:news.length=ns.length*sz) (hz:z.size=sz) (hcap:es.length+ns.length≤cap)
    (ho: ∀ i j,i<es.length→j<sz→Am O w (olds.getD (i*sz+j) undef) ((es.getD i []).getD j .undef)) (hn: ∀ i j,i<ns.length→j<sz→Am O w (news.getD (i*sz+j) undef) ((ns.getD i []).getD j .undef)) :
    (olds.toArray++news.toArray++Builtin.zeroCells z (cap - (es.length+ns.length))).size=cap*sz∧Held O w (olds.toArray++news.toArray++Builtin.zeroCells z (cap - (es.length+ns.length))) sz (es++ns):=by
  refine⟨?_,fun x hx=>(List.mem_append.1 hx).elim (hes x) (hns x),fun i j hi hj=> ?_⟩
  ·simp only[Array.size_append,List.size_toArray,hol,hnl,size_zeroCells,hz]
   rw[← Nat.add_mul, ←Nat.add_mul];congr 1;omega
  ·rw[List.length_append]at hi
   by_cases hil:i<es.length
   ·have hlt:i*sz+j<es.length*sz:=by
      have:(i+1)*sz≤es.length*sz:=Nat.mul_le_mul_right _ hil
      rw[Nat.add_mul]at this;omega
    refine⟨olds.getD (i*sz+j) undef,?_,?_⟩
    ·rw[Array.append_assoc,Array.getElem?_append_left (by simp;omega)]
     simp [List.getD_eq_getElem?_getD,show i*sz+j<olds.length from by omega]
    ·have e1:(es++ns).getD i []=es.getD i []:=by
       simp only[List.getD_eq_getElem?_getD];rw[List.getElem?_append_left hil]
     rw[e1];exact ho i j hil hj
   ·obtain⟨i',rfl⟩: ∃ i',i=es.length+i':=⟨i - es.length,by omega⟩
    have hi':i'<ns.length:=by omega
    have hlt:i'*sz+j<ns.length*sz:=by
      have:(i'+1)*sz≤ns.length*sz:=Nat.mul_le_mul_right _ hi'
      rw[Nat.add_mul]at this;omega
    have hidx:(es.length+i')*sz+j=es.length*sz+(i'*sz+j):=by rw[Nat.add_mul];omega
    refine⟨news.getD (i'*sz+j) undef,?_,?_⟩
    ·rw[hidx,Array.append_assoc,Array.getElem?_append_right (by simp;omega),Array.getElem?_append_left (by simp;omega)]
     have:es.length*sz+(i'*sz+j) - olds.toArray.size=i'*sz+j:=by simp;omega
     rw[this]
     simp [List.getD_eq_getElem?_getD,show i'*sz+j<news.length from by omega]
    ·have e1:(es++ns).getD (es.length+i') []=ns.getD i' []:=by
       simp only[List.getD_eq_getElem?_getD];rw[List.getElem?_append_right (by omega),Nat.add_sub_cancel_left]
     rw[e1];exact hn i' j hi' hj
theorem AjU (w:World) (b k:Nat):w.drew.cell? (at' b k)=w.cell? (at' b k):=rfl
theorem qC {c:Call} {s y:Operand} {t u e:Nat} {te tu:TI} {ti:TI} (hC:TOk P C) (hS:Sim V0 O0 w0 O m st a w) {d:Tmp} (hd:o.dst=some d) (ho:o.op= .call c) (hcal:c.callee= .builtin .append) (hargs:c.args= #[s,y]) (hty:c.argTypes.toList=[t,u])
    (ht:C.T t=some ti) (hte:ti.d= .slice e) (hte':C.T e=some te) (htu:C.T u=some tu) (hsl:Q7 tu.d=true) {frz:Bool} {l l':Sl} {ns:List (List A)} {news:List Value} {del:List Nat}
    (hsrc:Src P O w te.cs.length (a.eval y) ns news) (h0:0<te.cs.length) (hb:(l.es.length+ns.length)*(te.bytes+1)≤140737488355328) (hfresh:Gp st (b2 d))
    (hel:l'.es=l.es++ns) (hls:l.sz=te.cs.length) (hls':l'.sz=te.cs.length)
    (hx:(True∧l.es=[]∧a.eval s= .slice none 0 0)∨(True∧ ∃ q g cap cur,del=[q]∧Ai st.Aa q=some (.arr e frz l)∧m q= .slice (some (at' g 0)) l.es.length cap∧a.eval s= .slice (some (at' g 0)) l.es.length cap∧Es w g cur e)) :
    ∀(next:Act→World→Prop) (Q:Exit→Act→World→Prop),(∀ O' m' a' w',Sim V0 O0 w0 O' m' {tmps:=st.tmps.set d (.own (b2 d)),Aa:=Au (Bl st.Aa del) [(b2 d,.arr e frz l')]} a' w'→next a' w')→o.wp P a w next Q:=by
  intro next Q hn
  have hat:c.argTypes= #[t,u]:=by
    have:=congrArg List.toArray hty
    simpa using this
  have hu:=(hC.is ht).d
  rw[hte]at hu
  have hu2:=(hC.is htu).d
  have hT:=hC.is hte'
  obtain⟨i,z,g1,g2,g3,g4,g5,g6⟩:=hT.i
  have hzs:z.cells.size=te.cs.length:=by
    rw[← Array.length_toList];exact(Jk (O:=O) (Aa:=[]) (m:=fun _=>undef) (w:=w) _ _ g5).1
  have hbb:(l.es.length+ns.length)*te.bytes≤140737488355328∧l.es.length+ns.length≤140737488355328:=by
    rw[Nat.mul_add,Nat.mul_one]at hb;omega
  have hexec: ∀ v w',(Builtin.append_ #[t,u] o.type #[a.eval s,a.eval y]).run P w= .ok v w'→(execOp a.eval o).run P w= .ok (.value v) w':=by
    intro v w' h
    simp only[execOp,ho,resolve,hcal,hargs,hat,Sem.run_bind,Sem.run_pure,Result.andThen_ok,invoke,builtin]
    have:(#[s,y].map a.eval)= #[a.eval s,a.eval y]:=by simp
    rw[this,h];rfl
  have hlen:=hsrc.len w
  have hcells:=hsrc.cells w (fun _ _ _ h=>h)
  have hcells':=hsrc.cells w.drew (fun _ _ _ h=>h)
  rcases hx with ⟨_,hes,hsv⟩ | ⟨_,q,g,cap,cur,hdel,hq,hmq,hsv,hg⟩
  ·rw[hes]at hel hbb
   simp only[List.nil_append]at hel
   simp only[List.length_nil,Nat.zero_add]at hbb
   by_cases hn0:ns.length=0
   ·have hns:ns=[]:=List.eq_nil_of_length_eq_zero hn0
    have:=bF (P:=P) (w:=w) (w':=w) (t:=t) (u:=u) (ty:=o.type) (base:=none) (sLen:=0) (sCap:=0) (news:=news) hu hu2 hsl g1 hlen (by rw[g2];exact hcells) (by simp [hn0]) rfl
    rw[← hsv,hn0]at this
    unfold Oper.wp
    rw[hexec _ _ this,Oper.upon_value,hd]
    obtain⟨t',xs'⟩:=l'
    have hxs:xs'=[]:=Aaz (l:=⟨t',xs'⟩) (by rw[hel,hns])
    subst hxs
    obtain⟨O',m',h⟩:=Zr hS (d:=d) (e:=e) (t:=t') (frz:=frz) (del:=del) hfresh
    exact hn O' m' _ _ h
   ·have:=Yy (P:=P) (w:=w) (t:=t) (u:=u) (ty:=o.type) (base:=none) (sLen:=0) (sCap:=0) (olds:=[]) (news:=news) hu hu2 hsl g1 g4 hlen rfl (by rw[g2];exact hcells') (by omega) (by rw[g3];simpa using hbb.1) (.inr (by have:=hbb.2;omega))
    rw[← hsv]at this
    unfold Oper.wp
    rw[hexec _ _ this,Oper.upon_value,hd]
    have hge:=grownCap_ge w (0+ns.length) 0 e
    obtain⟨k1,k2⟩:=yH (O:=O) (w:=w) (cap:=grownCap w (0+ns.length) 0 e) (z:=z.cells) (es:=[]) (olds:=[]) (by simp) hsrc.each (by simp) hsrc.size hzs (by simpa using hge) (fun i j hi=>by simp at hi) hsrc.rel
    obtain⟨O',m',h⟩:=Pm hS (Moves.drew _ _ w) rfl (d:=d) (e:=e) (cap:=grownCap w (0+ns.length) 0 e) (frz:=frz) (l:=l') (del:=del) (by rw[hel];simpa using hge) (grownCap_le_maxLen w _ _ _ (by unfold maxLen;have:=hbb.2;omega)) (by rw[hls'];exact k1) (by rw[hls',hel];exact k2) hfresh
    refine hn O' m' _ _ ?_
    rw[hel]at h
    simpa using h
  ·subst hdel
   obtain⟨hsz,hr⟩:=hS.Aa q _ hq
   rw[hls]at hsz
   obtain⟨g',cap',cur',h2,h3,h4,h5,h6,h7,h8,h9⟩: ∃ g' cap' cur',m q= .slice (some (at' g' 0)) l.es.length cap'∧Es w g' cur' e∧l.es.length≤cap'∧cap'≤maxLen∧cur'.size=cap'*te.cs.length ∧
       (∀ i j,i<l.es.length→j<te.cs.length→ ∃ u,cur'[i*te.cs.length+j]? =some u∧Am O w u ((l.es.getD i []).getD j .undef))∧(∀ k,k<cur'.size→l.es.length*te.cs.length≤k→O g' k=some q)∧(∀ k,k<l.es.length*te.cs.length→O g' k=if frz then none else some q):=by
     rcases hr with ⟨_,_,h⟩ | ⟨_,h⟩
     ·rw[hmq]at h;cases h
     ·rw[hls]at h;exact h
   rw[hmq]at h2
   injection h2 with h2 _ hcc;injection h2 with h2;injection h2 with h2
   subst h2;subst hcc
   obtain⟨h3,_⟩:=hg.inj h3
   subst h3
   by_cases hroom:l.es.length+ns.length≤cap
   ·have hst:(storeCells ((at' g 0).add (l.es.length*i.size)) news).run P w= .ok () (w.setCells g (l.es.length*te.cs.length) news):=by
      rw[JD,Nat.zero_add,g2]
      have hmul:(l.es.length+ns.length)*te.cs.length≤cap*te.cs.length:=Nat.mul_le_mul_right _ hroom
      rw[Nat.add_mul]at hmul
      have:=run_storeCells_cells (P:=P) g (l.es.length*te.cs.length) news 0 w (fun j hj=>by
        rw[hg.cell]
        rw[hsrc.size]at hj
        have hlt:l.es.length*te.cs.length+j<cur.size:=by omega
        simp [hlt]) (fun j hj=>by rw[hsrc.size]at hj;exact hg.frozen (by omega)) (hsrc.one h0)
      simpa using this
    have:=bF (P:=P) (w:=w) (t:=t) (u:=u) (ty:=o.type) (base:=some (at' g 0)) (sLen:=l.es.length) (sCap:=cap) (news:=news) hu hu2 hsl g1 hlen (by rw[g2];exact hcells) hroom hst
    rw[← hsv]at this
    unfold Oper.wp
    rw[hexec _ _ this,Oper.upon_value,hd]
    obtain⟨O',m',h⟩:=Ag3 hS hq hmq hg hroom hel (by rw[hls',hls]) (by rw[hls];exact hsrc.size) (by rw[hls];exact hsrc.each) (by rw[hls];exact hsrc.rel) hfresh
    rw[hls]at h
    exact hn O' m' _ _ h
   ·have hcur: ∀ k,k<l.es.length*te.cs.length→ ∃ u,cur[k]? =some u:=by
      intro k hk
      have:l.es.length*te.cs.length≤cap*te.cs.length:=Nat.mul_le_mul_right _ h4
      exact⟨cur[k]'(by omega),by simp [show k<cur.size from by omega]⟩
    let olds:List Value:=(List.range (l.es.length*te.cs.length)).map fun k=>cur.getD k undef
    have hold:(Builtin.firstCells i.size l.es.length (.slice (some (at' g 0)) l.es.length cap)).run P w.drew= .ok olds.toArray w.drew:=by
      simp only[Builtin.firstCells,g2]
      exact run_loadCells (P:=P) w.drew (at' g 0) (l.es.length*te.cs.length) (fun k=>cur.getD k undef) (fun k hk=>by
        obtain⟨u,hu'⟩:=hcur k hk
        rw[JD,Nat.zero_add,AjU,hg.cell]
        rw[Array.getD_eq_getD_getElem?,hu'];rfl)
    have:=Yy (P:=P) (w:=w) (t:=t) (u:=u) (ty:=o.type) (base:=some (at' g 0)) (sLen:=l.es.length) (sCap:=cap) (olds:=olds) (news:=news) hu hu2 hsl g1 g4 hlen hold (by rw[g2];exact hcells') (by omega) (by rw[g3];exact hbb.1) (.inr (by have:=hbb.2;omega))
    rw[← hsv]at this
    unfold Oper.wp
    rw[hexec _ _ this,Oper.upon_value,hd]
    have hge:=grownCap_ge w (l.es.length+ns.length) cap e
    obtain⟨k1,k2⟩:=yH (O:=O) (w:=w) (cap:=grownCap w (l.es.length+ns.length) cap e) (z:=z.cells) (es:=l.es) (olds:=olds) hsz hsrc.each (by simp [olds]) hsrc.size hzs hge (fun i j hi hj=>by
      obtain⟨u,h10,h11⟩:=h7 i j hi hj
      have hlt:i*te.cs.length+j<l.es.length*te.cs.length:=by
        have:(i+1)*te.cs.length≤l.es.length*te.cs.length:=Nat.mul_le_mul_right _ hi
        rw[Nat.add_mul]at this;omega
      have e1:olds.getD (i*te.cs.length+j) undef=u:=by
        simp [olds,List.getD_eq_getElem?_getD,hlt,h10]
      rw[e1];exact h11) hsrc.rel
    obtain⟨O',m',h⟩:=Pm hS (Moves.drew _ _ w) rfl (d:=d) (e:=e) (cap:=grownCap w (l.es.length+ns.length) cap e) (frz:=frz) (l:=l') (del:=[q]) (by rw[hel,List.length_append];exact hge) (grownCap_le_maxLen w _ _ _ (by unfold maxLen;have:=hbb.2;omega)) (by rw[hls'];exact k1) (by rw[hls',hel];exact k2) hfresh
    rw[hel,List.length_append]at h
    exact hn O' m' _ _ h
end
