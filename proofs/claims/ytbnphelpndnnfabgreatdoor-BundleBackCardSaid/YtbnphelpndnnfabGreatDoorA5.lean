import Derived.Test.YtbnphelpndnnfabGreatDoorA4
import Derived.Lib.ConvBytes
set_option linter.all false
namespace Go.Proofs.YtbnphelpndnnfabGreatDoor.Vm
open Classical
section
variable {P:Program} {C:Ctx} {V0:Nat->Value} {O0 O:Own} {w0 w:World} {m:Nat->Value} {st:St} {a:Act} {o:Oper}
theorem AdN {sz cap:Nat} {es ns:List (List A)} {olds news:List Value} {z:Array Value} (hes: ∀ x∈es,x.length=sz) (hns: ∀ x∈ns,x.length=sz) (hol:olds.length=es.length*sz) (hnl:news.length=ns.length*sz) (hz:z.size=sz) (hcap:es.length+ns.length<=cap)
    (ho: ∀ i j,i<es.length->j<sz->D6 O w (olds.getD (i*sz+j) undef) ((es.getD i []).getD j .undef)) (hn: ∀ i j,i<ns.length->j<sz->D6 O w (news.getD (i*sz+j) undef) ((ns.getD i []).getD j .undef)) :
    (olds.toArray++news.toArray++Builtin.zeroCells z (cap - (es.length+ns.length))).size=cap*sz/\Held O w (olds.toArray++news.toArray++Builtin.zeroCells z (cap - (es.length+ns.length))) sz (es++ns):=by
  refine⟨?_,fun x hx=>(List.mem_append.1 hx).elim (hes x) (hns x),fun i j hi hj=> ?_⟩
  ·simp only[Array.size_append,List.size_toArray,hol,hnl,size_zeroCells,hz]
   rw[<- Nat.add_mul,<- Nat.add_mul];congr 1;omega
  ·rw[List.length_append]at hi
   by_cases hil:i<es.length
   ·have hlt:i*sz+j<es.length*sz:=by
      have:(i+1)*sz<=es.length*sz:=Nat.mul_le_mul_right _ hil
      rw[Nat.add_mul]at this;omega
    refine⟨olds.getD (i*sz+j) undef,?_,?_⟩
    ·rw[Array.append_assoc,Array.getElem?_append_left (by simp;omega)]
     all_goals simp_all[D6,Held]
    ·have e1:(es++ns).getD i []=es.getD i []:=by
       all_goals simp_all[D6,Held]
     rw[e1];exact ho i j hil hj
   ·obtain⟨i',rfl⟩: ∃ i',i=es.length+i':=⟨i - es.length,by omega⟩
    have hi':i'<ns.length:=by omega
    have hlt:i'*sz+j<ns.length*sz:=by
      have:(i'+1)*sz<=ns.length*sz:=Nat.mul_le_mul_right _ hi'
      rw[Nat.add_mul]at this;omega
    have hidx:(es.length+i')*sz+j=es.length*sz+(i'*sz+j):=by rw[Nat.add_mul];omega
    refine⟨news.getD (i'*sz+j) undef,?_,?_⟩
    ·rw[hidx,Array.append_assoc,Array.getElem?_append_right (by simp;omega),Array.getElem?_append_left (by simp;omega)]
     all_goals simp_all[D6,Held]
    ·have e1:(es++ns).getD (es.length+i') []=ns.getD i' []:=by
       all_goals simp_all[D6,Held]
     rw[e1];exact hn i' j hi' hj
theorem AnN (w:World) (b k:Nat):w.drew.cell? (at' b k)=w.cell? (at' b k):=rfl
theorem AaS {c:Call} {s y:Operand} {t u e:Nat} {te tu:TI} {ti:TI} (hC:TOk P C) (hS:Sim V0 O0 w0 O m st a w) {d:Tmp} (hd:o.dst=some d) (ho:o.op= .call c) (hcal:c.callee= .builtin .append) (hargs:c.args= #[s,y]) (hty:c.argTypes.toList=[t,u])
    (ht:C.T t=some ti) (hte:ti.d= .slice e) (hte':C.T e=some te) (htu:C.T u=some tu) (hsl:TW tu.d=true) {frz:Bool} {l l':Sl} {ns:List (List A)} {news:List Value} {del:List Nat}
    (hsrc:Src P O w te.cs.length (a.eval y) ns news) (h0:0<te.cs.length) (hb:(l.es.length+ns.length)*(te.bytes+1)<=140737488355328) (hfresh:IL st (b2 d))
    (hel:l'.es=l.es++ns) (hls:l.sz=te.cs.length) (hls':l'.sz=te.cs.length)
    (hx:(True/\l.es=[]/\a.eval s= .slice none 0 0)\/(True/\ ∃ q g cap cur,del=[q]/\Dy st.Dj q=some (.arr e frz l)/\m q= .slice (some (at' g 0)) l.es.length cap/\a.eval s= .slice (some (at' g 0)) l.es.length cap/\Gi w g cur e)) :
    ∀(next:Act->World->Prop) (Q:Exit->Act->World->Prop),(∀ O' m' a' w',Sim V0 O0 w0 O' m' {tmps:=st.tmps.set d (.own (b2 d)),Dj:=DC (Ed st.Dj del) [(b2 d,.arr e frz l')]} a' w'->next a' w')->o.wp P a w next Q:=by
  intro next Q hn
  have hat:c.argTypes= #[t,u]:=by
    have:=congrArg List.toArray hty
    simpa using this
  have hu:=(hC.is ht).d
  rw[hte]at hu
  have hu2:=(hC.is htu).d
  have hT:=hC.is hte'
  obtain⟨i,z,g1,g2,g3,g4,g5,g6⟩:=hT.i
  have hzs:z.cells.size=te.cs.length:=by
    rw[<- Array.length_toList];exact(La (O:=O) (Dj:=[]) (m:=fun _=>undef) (w:=w) _ _ g5).1
  have hbb:(l.es.length+ns.length)*te.bytes<=140737488355328/\l.es.length+ns.length<=140737488355328:=by
    rw[Nat.mul_add,Nat.mul_one]at hb;omega
  have hexec: ∀ v w',(Builtin.append_ #[t,u] o.type #[a.eval s,a.eval y]).run P w= .ok v w'->(execOp a.eval o).run P w= .ok (.value v) w':=by
    intro v w' h
    simp only[execOp,ho,resolve,hcal,hargs,hat,Sem.run_bind,Sem.run_pure,Result.andThen_ok,invoke,builtin]
    have:(#[s,y].map a.eval)= #[a.eval s,a.eval y]:=by simp
    rw[this,h];rfl
  have hlen:=hsrc.len w
  have hcells:=hsrc.cells w (fun _ _ _ h=>h)
  have hcells':=hsrc.cells w.drew (fun _ _ _ h=>h)
  rcases hx with ⟨_,hes,hsv⟩ | ⟨_,q,g,cap,cur,hdel,hq,hmq,hsv,hg⟩
  ·rw[hes]at hel hbb
   simp only[List.nil_append]at hel
   simp only[List.length_nil,Nat.zero_add]at hbb
   by_cases hn0:ns.length=0
   ·have hns:ns=[]:=List.eq_nil_of_length_eq_zero hn0
    have:=qB (P:=P) (w:=w) (w':=w) (t:=t) (u:=u) (ty:=o.type) (base:=none) (sLen:=0) (sCap:=0) (news:=news) hu hu2 hsl g1 hlen (by rw[g2];exact hcells) (by simp [hn0]) rfl
    rw[<- hsv,hn0]at this
    unfold Oper.wp
    rw[hexec _ _ this,Oper.upon_value,hd]
    obtain⟨t',xs'⟩:=l'
    have hxs:xs'=[]:=AeT (l:=⟨t',xs'⟩) (by rw[hel,hns])
    subst hxs
    obtain⟨O',m',h⟩:=lQ hS (d:=d) (e:=e) (t:=t') (frz:=frz) (del:=del) hfresh
    exact hn O' m' _ _ h
   ·have:=jC (P:=P) (w:=w) (t:=t) (u:=u) (ty:=o.type) (base:=none) (sLen:=0) (sCap:=0) (olds:=[]) (news:=news) hu hu2 hsl g1 g4 hlen rfl (by rw[g2];exact hcells') (by omega) (by rw[g3];simpa using hbb.1) (.inr (by have:=hbb.2;omega))
    rw[<- hsv]at this
    unfold Oper.wp
    rw[hexec _ _ this,Oper.upon_value,hd]
    have hge:=grownCap_ge w (0+ns.length) 0 e
    obtain⟨k1,k2⟩:=AdN (O:=O) (w:=w) (cap:=grownCap w (0+ns.length) 0 e) (z:=z.cells) (es:=[]) (olds:=[]) (by simp) hsrc.each (by simp) hsrc.size hzs (by simpa using hge) (fun i j hi=>by simp at hi) hsrc.rel
    obtain⟨O',m',h⟩:=Rt hS (Moves.drew _ _ w) rfl (d:=d) (e:=e) (cap:=grownCap w (0+ns.length) 0 e) (frz:=frz) (l:=l') (del:=del) (by rw[hel];simpa using hge) (grownCap_le_maxLen w _ _ _ (by unfold maxLen;have:=hbb.2;omega)) (by rw[hls'];exact k1) (by rw[hls',hel];exact k2) hfresh
    refine hn O' m' _ _ ?_
    rw[hel]at h
    simpa using h
  ·subst hdel
   obtain⟨hsz,hr⟩:=hS.Dj q _ hq
   rw[hls]at hsz
   obtain⟨g',cap',cur',h2,h3,h4,h5,h6,h7,h8,h9⟩: ∃ g' cap' cur',m q= .slice (some (at' g' 0)) l.es.length cap'/\Gi w g' cur' e/\l.es.length<=cap'/\cap'<=maxLen/\cur'.size=cap'*te.cs.length /\
       (∀ i j,i<l.es.length->j<te.cs.length-> ∃ u,cur'[i*te.cs.length+j]? =some u/\D6 O w u ((l.es.getD i []).getD j .undef))/\(∀ k,k<cur'.size->l.es.length*te.cs.length<=k->O g' k=some q)/\(∀ k,k<l.es.length*te.cs.length->O g' k=if frz then none else some q):=by
     rcases hr with ⟨_,_,h⟩ | ⟨_,h⟩
     ·rw[hmq]at h;cases h
     ·rw[hls]at h;exact h
   rw[hmq]at h2
   injection h2 with h2 _ hcc;injection h2 with h2;injection h2 with h2
   subst h2;subst hcc
   obtain⟨h3,_⟩:=hg.inj h3
   subst h3
   by_cases hroom:l.es.length+ns.length<=cap
   ·have hst:(storeCells ((at' g 0).add (l.es.length*i.size)) news).run P w= .ok () (w.setCells g (l.es.length*te.cs.length) news):=by
      rw[JI,Nat.zero_add,g2]
      have hmul:(l.es.length+ns.length)*te.cs.length<=cap*te.cs.length:=Nat.mul_le_mul_right _ hroom
      rw[Nat.add_mul]at hmul
      have:=run_storeCells_cells (P:=P) g (l.es.length*te.cs.length) news 0 w (fun j hj=>by
        rw[hg.cell]
        rw[hsrc.size]at hj
        have hlt:l.es.length*te.cs.length+j<cur.size:=by omega
        simp [hlt]) (fun j hj=>by rw[hsrc.size]at hj;exact hg.frozen (by omega)) (hsrc.one h0)
      simpa using this
    have:=qB (P:=P) (w:=w) (t:=t) (u:=u) (ty:=o.type) (base:=some (at' g 0)) (sLen:=l.es.length) (sCap:=cap) (news:=news) hu hu2 hsl g1 hlen (by rw[g2];exact hcells) hroom hst
    rw[<- hsv]at this
    unfold Oper.wp
    rw[hexec _ _ this,Oper.upon_value,hd]
    obtain⟨O',m',h⟩:=AkC hS hq hmq hg hroom hel (by rw[hls',hls]) (by rw[hls];exact hsrc.size) (by rw[hls];exact hsrc.each) (by rw[hls];exact hsrc.rel) hfresh
    rw[hls]at h
    exact hn O' m' _ _ h
   ·have hcur: ∀ k,k<l.es.length*te.cs.length-> ∃ u,cur[k]? =some u:=by
      intro k hk
      have:l.es.length*te.cs.length<=cap*te.cs.length:=Nat.mul_le_mul_right _ h4
      exact⟨cur[k]'(by omega),by simp [show k<cur.size from by omega]⟩
    let olds:List Value:=(List.range (l.es.length*te.cs.length)).map fun k=>cur.getD k undef
    have hold:(Builtin.firstCells i.size l.es.length (.slice (some (at' g 0)) l.es.length cap)).run P w.drew= .ok olds.toArray w.drew:=by
      simp only[Builtin.firstCells,g2]
      exact run_loadCells (P:=P) w.drew (at' g 0) (l.es.length*te.cs.length) (fun k=>cur.getD k undef) (fun k hk=>by
        obtain⟨u,hu'⟩:=hcur k hk
        rw[JI,Nat.zero_add,AnN,hg.cell]
        rw[Array.getD_eq_getD_getElem?,hu'];rfl)
    have:=jC (P:=P) (w:=w) (t:=t) (u:=u) (ty:=o.type) (base:=some (at' g 0)) (sLen:=l.es.length) (sCap:=cap) (olds:=olds) (news:=news) hu hu2 hsl g1 g4 hlen hold (by rw[g2];exact hcells') (by omega) (by rw[g3];exact hbb.1) (.inr (by have:=hbb.2;omega))
    rw[<- hsv]at this
    unfold Oper.wp
    rw[hexec _ _ this,Oper.upon_value,hd]
    have hge:=grownCap_ge w (l.es.length+ns.length) cap e
    obtain⟨k1,k2⟩:=AdN (O:=O) (w:=w) (cap:=grownCap w (l.es.length+ns.length) cap e) (z:=z.cells) (es:=l.es) (olds:=olds) hsz hsrc.each (by simp [olds]) hsrc.size hzs hge (fun i j hi hj=>by
      obtain⟨u,h10,h11⟩:=h7 i j hi hj
      have hlt:i*te.cs.length+j<l.es.length*te.cs.length:=by
        have:(i+1)*te.cs.length<=l.es.length*te.cs.length:=Nat.mul_le_mul_right _ hi
        rw[Nat.add_mul]at this;omega
      have e1:olds.getD (i*te.cs.length+j) undef=u:=by
        simp [olds,List.getD_eq_getElem?_getD,hlt,h10]
      rw[e1];exact h11) hsrc.rel
    obtain⟨O',m',h⟩:=Rt hS (Moves.drew _ _ w) rfl (d:=d) (e:=e) (cap:=grownCap w (l.es.length+ns.length) cap e) (frz:=frz) (l:=l') (del:=[q]) (by rw[hel,List.length_append];exact hge) (grownCap_le_maxLen w _ _ _ (by unfold maxLen;have:=hbb.2;omega)) (by rw[hls'];exact k1) (by rw[hls',hel];exact k2) hfresh
    rw[hel,List.length_append]at h
    exact hn O' m' _ _ h
end
end Go.Proofs.YtbnphelpndnnfabGreatDoor.Vm
namespace Go.Proofs.YtbnphelpndnnfabGreatDoor.Vm
open Classical
section
variable {P:Program} {C:Ctx} {V0:Nat->Value} {O0 O:Own} {w0 w:World} {m:Nat->Value} {st:St} {a:Act} {o:Oper}
theorem Akt {c:Call} {s y:Operand} {t u:Nat} {tu:TI} (hC:TOk P C) (hS:Sim V0 O0 w0 O m st a w) {d:Tmp} (hd:o.dst=some d) (ho:o.op= .call c) (hcal:c.callee= .builtin .append) (hargs:c.args= #[s,y]) (hty:c.argTypes.toList=[t,u])
    (htu:C.T u=some tu) (hsl:TW tu.d=true) {fet:Fet} (hf:H5 st.Dj fet) {x' y':A} (hx:DD O st.Dj m w (a.eval s) x') (hy:DD O st.Dj m w (a.eval y) y')
    (hok:D7 (dD C fet d t x' y').ok) (hfr: ∀ p∈(dD C fet d t x' y').new,st.fresh p.1=true):Good P V0 O0 w0 (apply st o (dD C fet d t x' y')) o a w:=by
  intro next Q hn
  have hF:FOk O st.Dj m w fet:=fun q x h=>⟨hf q x h,hS.Dj q x (hf q x h)⟩
  unfold dD at *
  obtain⟨ti,e,te,ht,hte,hd',he⟩:=Qv hok
  rw[he]at hok hfr hn;clear he
  split at hok
  ·rename_i q
   obtain⟨r,hr,he⟩:=DR hok
   rw[he]at hok
   dsimp only at hfr hn
   rw[he]at hfr hn;clear he
   obtain⟨hok1,hok2⟩:=hok.append
   obtain⟨h1,h2⟩:=hok2.cons
   obtain⟨h2,h3⟩:=h2.cons
   obtain⟨h3,h4⟩:=h3.cons
   have h1:=Nat.eq_of_beq_eq_true h1
   have h2:=Nat.eq_of_beq_eq_true h2
   have h3:0<te.cs.length:=by rw[<- h2];simpa [Nat.blt_eq]using h3
   have h2:r.l.t.len=te.cs.length:=h2
   have h4:(r.l.xs.length+(IX fet r.l.t y').2.length)*(te.bytes+1)<=140737488355328:=by simpa using h4.cons.1
   obtain⟨news,hsrc⟩:=src_of (P:=P) hF hy hok1
   have hq:=Gj hr
   obtain⟨hv,hO⟩:=hx.own hF hq
   have hq':=hf _ _ hq
   rw[h2]at hsrc
   refine AaS (frz:=r.frz) (l:=r.l) (l':=⟨r.l.t,r.l.xs++(IX fet r.l.t y').2⟩) (del:=[q]) hC hS hd ho hcal hargs hty ht hte hd' htu hsl hsrc h3 (by rw[Sl.ED,Sl.ED];exact h4) (FP (hfr _ List.mem_cons_self)) (Sl.AnS _ _ _) h2 h2 ?_ next Q (fun O' m' a' w' h=>hn O' m' a' w' ?_)
   ·rcases hO.2 with ⟨h5,h6,h7⟩ | ⟨h5,g,cap,cur,h6,h7,_⟩
    ·exact .inl ⟨h5,h6,by rw[hv,h7]⟩
    ·refine .inr ⟨h5,q,g,cap,cur,rfl,?_,h6,by rw[hv,h6],?_⟩
     ·rw[hq',h1]
     ·rw[h1];exact h7
   ·rw[PK hd]
    rw[h1]at h;exact h
  ·obtain⟨hok1,hok2⟩:=hok.append
   obtain⟨h3,h4⟩:=hok2.cons
   have h3:0<te.cs.length:=by simpa [Nat.blt_eq]using h3
   have h4:(IX fet (tyl te.cs) y').2.length*(te.bytes+1)<=140737488355328:=by simpa using h4.cons.1
   obtain⟨news,hsrc⟩:=src_of (P:=P) hF hy hok1
   rw[Oo]at hsrc
   refine AaS (frz:=false) (l:=⟨tyl te.cs,[]⟩) (l':=⟨tyl te.cs,(IX fet (tyl te.cs) y').2⟩) (del:=[]) hC hS hd ho hcal hargs hty ht hte hd' htu hsl hsrc h3 (by rw[Sl.AnU,Sl.ED];simpa using h4) (FP (hfr _ List.mem_cons_self)) (by rw[Sl.AnU];rfl) (Oo _) (Oo _) (.inl ⟨trivial,rfl,hx⟩) next Q (fun O' m' a' w' h=>hn O' m' a' w' ?_)
   rw[PK hd]
   exact h
  ·exact(DK hok).elim
theorem AlQ {t:Nat} {x:Operand} (hC:TOk P C) (hS:Sim V0 O0 w0 O m st a w) {d:Tmp} (hd:o.dst=some d) (ho:o.op= .box t x) {x':A} (hx:DD O st.Dj m w (a.eval x) x') (hids: ∀ i∈x'.ids,i∈st.ids\/(Dy st.Dj i).isSome)
    (hok:D7 (PL C d t x').ok) (hfr: ∀ p∈(PL C d t x').new,st.fresh p.1=true) (hnd:nodup ((PL C d t x').new.map (·.1))=true):Good P V0 O0 w0 (apply st o (PL C d t x')) o a w:=by
  refine Ai3 hC hS hx hids hd (fun ti ht hv hs=> ?_) hok hfr hnd
  simp only[execOp,ho,Instr.box,newVar,newRow,Sem.run_bind]
  rfl
theorem Aiw {t:Nat} {ti:TI} (hC:TOk P C) (hS:Sim V0 O0 w0 O m st a w) {d:Tmp} (hd:o.dst=some d) (ho:o.op= .alloc t) (ht:C.T t=some ti)
    (hok:D7 (PL C d t (.agg (ti.cs.map CK.zero))).ok) (hfr: ∀ p∈(PL C d t (.agg (ti.cs.map CK.zero))).new,st.fresh p.1=true) (hnd:nodup ((PL C d t (.agg (ti.cs.map CK.zero))).new.map (·.1))=true) :
    Good P V0 O0 w0 (apply st o (PL C d t (.agg (ti.cs.map CK.zero)))) o a w:=by
  obtain⟨i,z,h1,h2,_,h3⟩:=Akn (O:=O) (Dj:=st.Dj) (m:=m) (w:=w) (hC.is ht)
  refine Ai3 (v:=.agg z.cells) (x:=.agg (ti.cs.map CK.zero)) hC hS ⟨z.cells,rfl,h3.1,h3.2⟩ (fun j hj=> ?_) hd (fun ti ht hv hs=> ?_) hok hfr hnd
  ·exfalso
   have: ∀ ks:List CK,(ks.map CK.zero).flatMap A.FN=[]:=by
     intro ks
     induction ks with
     | nil=>rfl
     | cons k ks ih=>rw[List.map_cons,List.flatMap_cons,ih];cases k<;>rfl
   have hj':j∈(ti.cs.map CK.zero).flatMap A.FN:=hj
   rw[this]at hj';cases hj'
  ·simp only[execOp,ho,Instr.alloc,Sem.run_bind,zeroValue,typeInfo,run_program,Result.andThen_ok,h1,h2,Sem.run_pure,newVar,newRow]
   rfl
theorem zD {t:Nat} {ti:TI} (hT:O6 P t ti) {v:Value} {b k:Nat} (hs:v.cells.size=ti.cs.length) (h1: ∀ j,j<v.cells.size->(v.cells.getD j undef).oneCell'=true) (hc: ∀ j,j<v.cells.size->(w.cell? (at' b (k+j))).isSome=true) (hf: ∀ j,j<v.cells.size->w.frozen? (at' b (k+j))=false) :
    (storeVar t (at' b k) v).run P w= .ok () (w.setCells b k v.cells.toList):=by
  have:=run_storeCells_cells (P:=P) b k v.cells.toList 0 w (fun j hj=>by simpa using hc j (by simpa using hj)) (fun j hj=>by simpa using hf j (by simpa using hj)) (fun u hu=>by
    obtain⟨j,hj,he⟩:=List.mem_iff_getElem.1 hu
    have:=h1 j (by simpa using hj)
    rw[Array.getD_eq_getD_getElem?,Array.getElem?_eq_getElem (by simpa using hj)]at this
    rw[<- he];simpa using this)
  unfold storeVar
  simp only[Sem.run_bind,hT.Iq,Result.andThen_ok]
  all_goals simp_all[hs,at']
theorem AhT {t:Nat} {x y:Operand} (hC:TOk P C) (hS:Sim V0 O0 w0 O m st a w) (hd:o.dst=none) (ho:o.op= .store t x y) {fet:Fet} (hf:H5 st.Dj fet) {q off:Nat} {v':A} (hx:DD O st.Dj m w (a.eval x) (.ptr q off)) (hy:DD O st.Dj m w (a.eval y) v')
    (hids: ∀ i∈v'.ids,i∈st.ids\/(Dy st.Dj i).isSome)
    (hok:D7 (NH C fet t (.ptr q off) v').ok) (hfr: ∀ p∈(NH C fet t (.ptr q off) v').new,st.fresh p.1=true) (hnd:nodup ((NH C fet t (.ptr q off) v').new.map (·.1))=true):Good P V0 O0 w0 (apply st o (NH C fet t (.ptr q off) v')) o a w:=by
  intro next Q hn
  have hF:FOk O st.Dj m w fet:=fun q x h=>⟨hf q x h,hS.Dj q x (hf q x h)⟩
  unfold NH at *
  obtain⟨ti,ht,he⟩:=Ef hok
  rw[he]at hok hfr hnd hn;clear he
  dsimp only at hok hfr hnd hn
  obtain⟨cs,hcs,he⟩:=DR hok
  rw[he]at hok hfr hnd hn;clear he
  obtain⟨h1,h2⟩:=hok.cons
  obtain⟨h2,h3⟩:=h2.cons
  have h2:=Nat.eq_of_beq_eq_true h2
  obtain⟨h3,h30⟩:=h3.cons
  have h3:=Nat.le_of_ble_eq_true h3
  have h30:0<ti.cs.length:=by simpa [Nat.blt_eq]using h30.cons.1
  have hT:=hC.is ht
  obtain⟨b,base,g1,g2,g3⟩:=hx.ptr hF (Ff hcs)
  have hq:=hf _ _ (Ff hcs)
  have hvc:=hy.cells h1
  have hvs:v'.cells.length=ti.cs.length:=h2
  have hsz:(a.eval y).cells.size=ti.cs.length:=by rw[hvc.1,h2]
  have hr:(execOp a.eval o).run P w= .ok .skip (w.setCells b (base+off) (a.eval y).cells.toList):=by
    have:=zD (P:=P) (w:=w) (b:=b) (k:=base+off) hT hsz (fun j hj=>(hvc.2 j (by rw[<- hvc.1];exact hj)).one) (fun j hj=>by
      obtain⟨_,_,u,g4,_⟩:=g3 (off+j) (by omega)
      rw[Nat.add_assoc,g4];rfl) (fun j hj=>by
      obtain⟨_,g4,_⟩:=g3 (off+j) (by omega)
      rw[Nat.add_assoc];exact g4)
    simp only[execOp,ho,Instr.storeAt,Instr.sureAddr,g2,Sem.run_bind,Sem.run_pure,Result.andThen_ok,this]
  unfold Oper.wp
  rw[hr,Oper.upon_skip]
  obtain⟨_,_,u0,hu0,_⟩:=g3 off (by omega)
  obtain⟨c,e,fr,hblk⟩: ∃ c e fr,w.heap[b]? =some (.cells c e fr):=by
    unfold World.cell? at hu0
    dsimp only at hu0
    split at hu0
    ·rename_i c e fr hh;exact⟨c,e,fr,hh⟩
    ·cases hu0
  have hcell: ∀ k u,w.cell? (at' b k)=some u->c[k]? =some u:=by
    intro k u hu
    simp only[World.cell?,hblk]at hu
    simpa using hu
  have hend:base+off+(a.eval y).cells.toList.length<=c.size:=by
    rw[Array.length_toList,hsz]
    obtain⟨_,_,u,hu,_⟩:=g3 (off+(ti.cs.length - 1)) (by omega)
    have:=hcell _ _ hu
    have:=(Array.getElem?_eq_some_iff.1 this).1
    omega
  obtain⟨c',k1,k2,k3,k4,k5,k6,k7,k8⟩:=VX b (a.eval y).cells.toList (base+off) w hblk hend
  rw[Array.length_toList,hsz]at k3
  have hout: ∀ k,(k<base+off\/base+off+ti.cs.length<=k)->c'[k]? =c[k]? :=by
    all_goals grind[getD_eq]
  have hown: ∀ k,base+off<=k->k<base+off+ti.cs.length->O b k=some q:=by
    intro k hk1 hk2
    have:=(g3 (k - base) (by omega)).1
    rwa [show base+(k - base)=k from by omega]at this
  let w':=w.setCells b (base+off) (a.eval y).cells.toList
  have hM:Moves O (fun i=>i=q) w w':=by
    refine Moves.row k6 k7 k8 k5 hblk k1 k4 k2 (fun k hk=>hout k ?_) (.inl ⟨base+off,q,?_,hown _ (Nat.le_refl _) (by omega),rfl⟩)
    ·rcases Nat.lt_or_ge k (base+off)with h | h
     ·exact .inl h
     ·right
      rcases Nat.lt_or_ge k (base+off+ti.cs.length)with h' | h'
      ·exact absurd rfl (hk q (hown k h h'))
      ·exact h'
    ·rw[Array.length_toList,hsz]at hend;omega
  have hP:Passes O O (fun i=>i=q) w.heap.size:=⟨fun _ _ _ h=>h,fun _ _ _ _ h _=>h⟩
  have hpr:=hM.DY hP
  let ad:=EO (FD fet q+1+off) ti.cs v'.cells
  let m':Nat->Value:=fun i=>if has (ad.2.map (·.1)) i then .slice none 0 0 else m i
  let Nw:Nat->Prop:=fun i=> ∃ p∈ad.2,p.1=i
  have hNw: ∀ i,Nw i->IL st i:=by
    rintro i ⟨p,hp,rfl⟩
    exact FP (hfr p hp)
  have hm_not: ∀ i,¬ Nw i->m' i=m i:=by
    intro i hi
    refine if_neg (fun h=>hi ?_)
    obtain⟨p,hp,hpe⟩:=List.mem_map.1 (Ik.1 h)
    exact⟨p,hp,hpe⟩
  have hmad: ∀ p∈ad.2,m' p.1= .slice none 0 0:=fun p hp=>if_pos (Ik.2 (List.mem_map.2 ⟨p,hp,rfl⟩))
  have hqN: ¬ Nw q:=fun h=>by rw[(hNw q h).2]at hq;cases hq
  let objs':=DC (Ed (DC st.Dj [(q,.box (splice cs off ad.1))]) []) ad.2
  have hnewO: ∀ p∈ad.2,Dy objs' p.1=some p.2:=fun p hp=>jJ hnd (by exact hp)
  have hget: ∀ i z,Dy objs' i=some z->(i,z)∈ad.2\/(¬ Nw i/\i=q/\z= .box (splice cs off ad.1))\/(¬ Nw i/\i≠q/\Dy st.Dj i=some z):=by
    intro i z hz
    rcases QB hz with h | ⟨hno,_,h⟩
    ·exact .inl h
    ·have hni: ¬ Nw i:=by rintro ⟨p,hp,rfl⟩;exact hno p.2 hp
     rcases h with h | ⟨hno',h⟩
     ·simp only[List.mem_singleton]at h
      injection h with e1 e2
      exact .inr (.inl ⟨hni,e1,e2⟩)
     ·exact .inr (.inr ⟨hni,fun hiq=>hno' (.box (splice cs off ad.1)) (by rw[hiq];exact List.mem_singleton_self _),h⟩)
  have hE:J9 st.Dj m objs' m' Nw:=by
    intro i z hz
    rcases hget i z hz with h | ⟨hni,h1',h2'⟩ | ⟨hni,_,h⟩
    ·exact .inl ⟨_,h,rfl⟩
    ·subst h1';subst h2'
     exact .inr ⟨_,hq,rfl,hm_not _ hni⟩
    ·exact .inr ⟨z,h,rfl,hm_not _ hni⟩
  have hadl:ad.1.length=ti.cs.length:=by rw[(WU ti.cs v'.cells (FD fet q+1+off)).1,hvs]
  have happ:apply st o {ok:=[v'.isVal,Nat.beq v'.cells.length ti.cs.length,Nat.ble (off+ti.cs.length) cs.length,Nat.blt 0 ti.cs.length],val:=.undef,upd:=[(q,.box (splice cs off ad.1))],new:=ad.2}= {tmps:=put st.tmps none .undef,Dj:=objs'}:=by
    unfold apply;rw[hd]
  refine hn O m' _ _ ?_
  rw[happ,hd]
  refine hS.next (st':= {tmps:=put st.tmps none .undef,Dj:=objs'}) (d:=none) (x:=.undef) (T:=fun i=>i=q) (Nw:=Nw) hM hP (fun b k _ h=>h) hE (fun n hn'=>(hNw n hn').both) (fun r hr=>by rw[hr,hq];rfl) (fun i z hz=> ?_) rfl (fun h=>absurd rfl h)
  rcases hget i z hz with h | ⟨hni,h1',h2'⟩ | ⟨hni,hiq,h⟩
  ·right
   obtain⟨⟨e',sz',h4⟩,_⟩:=(WU ti.cs v'.cells (FD fet q+1+off)).2.2 _ h
   dsimp only at h4
   subst h4
   exact⟨⟨by simp [Sl.es],.inl ⟨trivial,rfl,hmad _ h⟩⟩,(hNw _ ⟨_,h,rfl⟩).ne⟩
  ·right
   subst h1';subst h2'
   have hcs':JH O objs' m' w' (a.eval y).cells ad.1:=hvc.Alq (ks:=ti.cs) (id:=FD fet i+1+off) hpr hE (fun j hj r hr' hn'=>by
     rcases hids r (tZ h1 hj hr')with hh | hh
     ·exact(hNw r hn').1 hh
     ·rw[(hNw r hn').2]at hh;cases hh) (fun p hp=>⟨hnewO p hp,hmad p hp⟩)
   refine⟨⟨b,base,by rw[hm_not _ hni];exact g1,fun j hj=> ?_⟩,hS.ids _ _ hq⟩
   rw[VY _ _ _ (by rw[hadl];omega)]at hj
   obtain⟨g4,g5,u,g6,g7⟩:=g3 j hj
   refine⟨g4,by rw[hM.frozen (cell_lt g6)];exact g5,?_⟩
   rw[cO _ _ _ _ (by rw[hadl];omega),hadl]
   have hcell': ∀ k,w'.cell? (at' b k)=c'[k]? :=by intro k;simp only[World.cell?];rw[k1];rfl
   rw[hcell']
   have hjs:base+j<c.size:=(Array.getElem?_eq_some_iff.1 (hcell _ _ g6)).1
   by_cases hin:off<=j/\j<off+ti.cs.length
   ·rw[if_pos hin]
    refine⟨_,getD_eq (by omega),?_⟩
    rw[k3,if_pos (by omega)]
    have e1:(a.eval y).cells.toList.getD (base+j - (base+off)) undef=(a.eval y).cells.getD (j - off) undef:=by
      rw[Array.getD_eq_getD_getElem?,List.getD_eq_getElem?_getD,Array.getElem?_toList,show base+j - (base+off)=j - off from by omega]
    rw[e1]
    exact hcs'.2 (j - off) (by rw[hadl];omega)
   ·rw[if_neg hin,hout _ (by omega)]
    exact⟨u,hcell _ _ g6,g7.step hpr hE (fun r hr' hn'=>(hNw r hn').1 (Rn hq (L9 hj hr')))⟩
  ·exact .inl ⟨hiq,h,hm_not _ hni⟩
end
end Go.Proofs.YtbnphelpndnnfabGreatDoor.Vm
namespace Go.Proofs.YtbnphelpndnnfabGreatDoor.Vm
open Classical
section
variable {P:Program} {C:Ctx} {V0:Nat->Value} {O0 O:Own} {w0 w:World} {m:Nat->Value} {st:St} {a:Act} {o:Oper}
theorem zC (hS:Sim V0 O0 w0 O m st a w) {q e g cap k0:Nat} {l l':Sl} {cur:Array Value} {vs:List Value} {xs:List A}
    (hq:Dy st.Dj q=some (.arr e false l)) (hm:m q= .slice (some (at' g 0)) l.es.length cap) (hg:Gi w g cur e) (hln:l'.es.length=l.es.length) (hls:l'.sz=l.sz) (hle:k0+xs.length<=l.es.length*l.sz) (hl:vs.length=xs.length) (h0:0<xs.length)
    (hel: ∀ r j,r<l.es.length->j<l.sz->(l'.es.getD r []).getD j .undef=if k0<=r*l.sz+j/\r*l.sz+j<k0+xs.length then xs.getD (r*l.sz+j - k0) .undef else(l.es.getD r []).getD j .undef)
    (hv: ∀ j,j<xs.length->D6 O w (vs.getD j undef) (xs.getD j .undef)) :
    Sim V0 O0 w0 O m {st with Dj:=EZ st.Dj q (.arr e false l')} a (w.setCells g k0 vs):=by
  obtain⟨hsz,hr⟩:=hS.Dj q _ hq
  obtain⟨g',cap',cur',h2,h3,h4,h5,h6,h7,h8,h9⟩: ∃ g' cap' cur',m q= .slice (some (at' g' 0)) l.es.length cap'/\Gi w g' cur' e/\l.es.length<=cap'/\cap'<=maxLen/\cur'.size=cap'*l.sz /\
      (∀ i j,i<l.es.length->j<l.sz-> ∃ u,cur'[i*l.sz+j]? =some u/\D6 O w u ((l.es.getD i []).getD j .undef))/\(∀ k,k<cur'.size->l.es.length*l.sz<=k->O g' k=some q)/\(∀ k,k<l.es.length*l.sz->O g' k=if false then none else some q):=by
    rcases hr with ⟨_,_,h⟩ | ⟨_,h⟩
    ·rw[hm]at h;cases h
    ·exact h
  rw[hm]at h2
  injection h2 with h2 _ hcc;injection h2 with h2;injection h2 with h2
  subst h2;subst hcc
  obtain⟨h3,_⟩:=hg.inj h3
  subst h3
  obtain⟨fr,hg,hfr0⟩:=hg
  have hmul:l.es.length*l.sz<=cap*l.sz:=Nat.mul_le_mul_right _ h4
  obtain⟨c',k1,k2,k3,k4,k5,k6,k7,k8⟩:=VX g vs k0 w hg (by rw[hl];omega)
  rw[hl]at k3
  let w':=w.setCells g k0 vs
  have hout: ∀ k,(k<k0\/k0+xs.length<=k)->c'[k]? =cur[k]? :=by
    intro k hk
    by_cases hks:k<cur.size
    ·have:=k3 k
     rw[if_neg (by omega)]at this
     rw[getD_eq (by omega),getD_eq hks,this]
    ·rw[Array.getElem?_eq_none (by omega),Array.getElem?_eq_none (by omega)]
  have hown: ∀ k,k<l.es.length*l.sz->O g k=some q:=by intro k hk;simpa using h9 k hk
  have hM:Moves O (fun i=>i=q) w w':=by
    refine Moves.row k6 k7 k8 k5 hg k1 k4 k2 (fun k hk=>hout k ?_) (.inl ⟨k0,q,by omega,hown _ (by omega),rfl⟩)
    rcases Nat.lt_or_ge k k0 with h | h
    ·exact .inl h
    ·right
     rcases Nat.lt_or_ge k (k0+xs.length)with h' | h'
     ·exact absurd rfl (hk q (hown k (by omega)))
     ·exact h'
  have hP:Passes O O (fun i=>i=q) w.heap.size:=⟨fun _ _ _ h=>h,fun _ _ _ _ h _=>h⟩
  have hpr:=hM.DY hP
  have hE:J9 st.Dj m (EZ st.Dj q (.arr e false l')) m (fun _=>False):=by
    intro r y hy
    rw[Eg]at hy
    by_cases hrq:r=q
    ·subst hrq
     rw[if_pos rfl]at hy;injection hy with hy;subst hy
     exact .inr ⟨_,hq,by simp [Obj.shp,hln,hls],rfl⟩
    ·rw[if_neg hrq]at hy;exact .inr ⟨y,hy,rfl,rfl⟩
  have:=hS.next (st':= {st with Dj:=EZ st.Dj q (.arr e false l')}) (d:=none) (v:=undef) (x:=.undef) (T:=fun i=>i=q) (Nw:=fun _=>False) hM hP (fun b k _ h=>h) hE (fun _ h=>h.elim) (fun r hr=>by rw[hr,hq];rfl) (fun r y hy=> ?_) rfl (fun h=>absurd rfl h)
  ·exact this
  ·rw[Eg]at hy
   by_cases hrq:r=q
   ·right
    subst hrq
    rw[if_pos rfl]at hy;injection hy with hy;subst hy
    refine⟨?_,hS.ids _ _ hq⟩
    simp only[ET]
    rw[hln]
    refine⟨fun x hx=>Sl.es_len _ x hx,.inr ⟨trivial,g,cap,c',hm,⟨fr,k1,by rw[k2];exact hfr0⟩,h4,h5,by rw[k2,hls];exact h6,fun r' j hr' hj=> ?_,fun k hk hge=> ?_,fun k hk=> ?_⟩⟩
    ·rw[hls]at hj ⊢
     obtain⟨u,h10,h11⟩:=h7 r' j hr' hj
     have hlt:r'*l.sz+j<l.es.length*l.sz:=by
       have:(r'+1)*l.sz<=l.es.length*l.sz:=Nat.mul_le_mul_right _ hr'
       rw[Nat.add_mul]at this;omega
     rw[hel r' j hr' hj]
     by_cases hin:k0<=r'*l.sz+j/\r'*l.sz+j<k0+xs.length
     ·rw[if_pos hin]
      refine⟨_,getD_eq (by omega),?_⟩
      rw[k3,if_pos hin]
      exact(hv _ (by omega)).DY hpr
     ·rw[if_neg hin,hout _ (by omega)]
      exact⟨u,h10,h11.DY hpr⟩
    ·rw[hls]at hge;rw[k2]at hk;exact h8 k hk hge
    ·rw[hls]at hk;simpa using hown k hk
   ·rw[if_neg hrq]at hy
    exact .inl ⟨hrq,hy,rfl⟩
theorem Amu {t:Ty} {cs:List A} (h:(Xt t cs).1=true):(⟨t,(Xt t cs).2⟩:Sl).es=cs.map fun c=>[c]:=by
  simp only[Xt,Sl.es,List.map_map]
  refine List.map_congr_left fun c hc=> ?_
  exact Ty.Ny t [c] (List.all_eq_true.1 h c hc)
theorem Alb: ∀(l:List (Nat×Obj)) (u:List (Nat×Obj)) (p:Nat×Obj),DC l (u++[p])=EZ (DC l u) p.1 p.2:=by
  intro l u p
  induction u generalizing l with
  | nil=>rfl
  | cons s u ih=>exact ih _
theorem AhU {t:Nat} {x y:Operand} (hC:TOk P C) (hS:Sim V0 O0 w0 O m st a w) (hd:o.dst=none) (ho:o.op= .store t x y) {fet:Fet} (hf:H5 st.Dj fet) {q i off:Nat} {v':A} (hx:DD O st.Dj m w (a.eval x) (.EN q i off)) (hy:DD O st.Dj m w (a.eval y) v')
    (hok:D7 (NH C fet t (.EN q i off) v').ok):Good P V0 O0 w0 (apply st o (NH C fet t (.EN q i off) v')) o a w:=by
  intro next Q hn
  unfold NH at *
  obtain⟨ti,ht,he⟩:=Ef hok
  rw[he]at hok hn;clear he
  dsimp only at hok hn
  obtain⟨r,hr,he⟩:=DR hok
  rw[he]at hok hn;clear he
  have main: ∀(l':Sl) (δ :Dl),D7 (Eu fet ti.cs v'.cells).1->r.frz=false->has ((Eu fet ti.cs v'.cells).2.2.map (·.1)) q=false->i<r.l.es.length->i*r.l.sz+off+ti.cs.length<=r.l.es.length*r.l.sz->0<ti.cs.length ->
      l'.es.length=r.l.es.length->l'.sz=r.l.sz->(∀ r' j,r'<r.l.es.length->j<r.l.sz->(l'.es.getD r' []).getD j .undef=if i*r.l.sz+off<=r'*r.l.sz+j/\r'*r.l.sz+j<i*r.l.sz+off+(Eu fet ti.cs v'.cells).2.1.length then(Eu fet ti.cs v'.cells).2.1.getD (r'*r.l.sz+j - (i*r.l.sz+off)) .undef else(r.l.es.getD r' []).getD j .undef) ->
      δ = {ok:= δ.ok,val:=.undef,upd:=(Eu fet ti.cs v'.cells).2.2++[(q,.arr r.e false l')]}->(∀ O' m' a' w',Sim V0 O0 w0 O' m' (apply st o δ) a' w'->next a' w')->o.wp P a w next Q:=by
    intro l' δ hok1 h1 hno h3 hrow' h4 hln hls hel hδ hn
    have hT:=hC.is ht
    have hval:=lX hok1
    have hvc:=hy.cells hval
    obtain⟨g1,g2,g3,g4⟩:=N9 hf ti.cs v'.cells (fun j=>(a.eval y).cells.getD j undef) (fun j hj=>hvc.2 j hj) hok1
    obtain⟨O1,hS1,hp1,hle1,hv1,hE1,_⟩:=hS.freezes _ g3
    have hq:=hf _ _ (Gj hr)
    have hqU: ∀ p∈(Eu fet ti.cs v'.cells).2.2,p.1≠q:=by
      intro p hp he
      have:has ((Eu fet ti.cs v'.cells).2.2.map (·.1)) q=true:=Ik.2 (List.mem_map.2 ⟨p,hp,he⟩)
      rw[this]at hno;cases hno
    have hq1:Dy (DC st.Dj (Eu fet ti.cs v'.cells).2.2) q=some (.arr r.e false r.l):=by
      rw[F6 _ _ _ hqU,hq,h1]
    have hx':DF O st.Dj m w (a.eval x) (.EN q i off):=hx
    obtain⟨_,hx'⟩:=hx'
    rw[hq]at hx'
    simp only[Option.map_some,Obj.shp]at hx'
    obtain⟨g,n',cap,h5,h6⟩:=hx' h3
    obtain⟨hsz,hr'⟩:=hS1.Dj q _ hq1
    obtain⟨cur,h7,h8⟩: ∃ cur,m q= .slice (some (at' g 0)) r.l.es.length cap/\Gi w g cur r.e/\cur.size=cap*r.l.sz/\r.l.es.length<=cap:=by
      rcases hr' with ⟨_,h9,_⟩ | ⟨h9,g',cap',cur,h10,h11,h12,h13,h14,_⟩
      ·rw[h9]at h3;simp at h3
      ·have h10':=h10
       rw[h5]at h10'
       injection h10' with q1 q2 q3;injection q1 with q1;injection q1 with q1
       subst q1;subst q3
       exact⟨cur,h10,h11,h14,h12⟩
    obtain⟨h8,h9,h10⟩:=h8
    have hsz2:(a.eval y).cells.size=ti.cs.length:=by rw[hvc.1,g2]
    have hrow:i*r.l.sz+off+ti.cs.length<=cur.size:=by
      have:r.l.es.length*r.l.sz<=cap*r.l.sz:=Nat.mul_le_mul_right _ h10
      omega
    have hrun:(execOp a.eval o).run P w= .ok .skip (w.setCells g (i*r.l.sz+off) (a.eval y).cells.toList):=by
      have:=zD (P:=P) (w:=w) (b:=g) (k:=i*r.l.sz+off) hT hsz2 (fun j hj=>(hvc.2 j (by rw[<- hvc.1];exact hj)).one) (fun j hj=>by
        have hlt:i*r.l.sz+off+j<cur.size:=by omega
        rw[h8.cell];simp [hlt]) (fun j hj=>h8.frozen (by omega))
      simp only[execOp,ho,Instr.storeAt,Instr.sureAddr,h6,Sem.run_bind,Sem.run_pure,Result.andThen_ok,this]
    unfold Oper.wp
    rw[hrun,Oper.upon_skip]
    have hfin:=zC hS1 (k0:=i*r.l.sz+off) (l':=l') (vs:=(a.eval y).cells.toList) (xs:=(Eu fet ti.cs v'.cells).2.1) hq1 h7 h8 hln hls (by rw[g1];exact hrow') (by rw[Array.length_toList,hsz2,g1]) (by rw[g1];exact h4) hel (fun j hj=>by
      rw[g1]at hj
      have e1:(a.eval y).cells.toList.getD j undef=(a.eval y).cells.getD j undef:=by
        rw[Array.getD_eq_getD_getElem?,List.getD_eq_getElem?_getD,Array.getElem?_toList]
      rw[e1]
      exact g4 hp1 hv1 j hj)
    refine hn O1 m _ _ ?_
    have happ:apply st o δ = {tmps:=st.tmps,Dj:=EZ (DC st.Dj (Eu fet ti.cs v'.cells).2.2) q (.arr r.e false l')}:=by
      rw[hδ]
      unfold apply
      rw[hd,Alb]
      rfl
    rw[happ,hd]
    exact hfin
  cases hrow:isRow ti r.l i off with
  | true =>
    rw[hrow]at hok hn
    simp only[cond_true]at hok hn
    obtain⟨hok1,hok2⟩:=hok.append
    obtain⟨h1,h2⟩:=hok2.cons
    obtain⟨hset,h2⟩:=h2.cons
    obtain⟨h2,h3⟩:=h2.cons
    obtain⟨_,h3⟩:=h3.cons
    obtain⟨h4,hno⟩:=h3.cons
    have hno:=hno.cons.1
    simp only[isRow,Bool.and_eq_true]at hrow
    obtain⟨⟨⟨r4,r1⟩,r3⟩,r2⟩:=hrow
    have r1:=Nat.eq_of_beq_eq_true r1
    have r2:=Nat.eq_of_beq_eq_true r2
    have r3:=Nat.eq_of_beq_eq_true r3
    have h2:=Nat.eq_of_beq_eq_true h2
    have h4:0<ti.cs.length:=by simpa [Nat.blt_eq]using h4
    have hpl:(Eu fet ti.cs v'.cells).2.1.length=ti.cs.length:=(N9 hf ti.cs v'.cells (fun j=>(a.eval y).cells.getD j undef) (fun j hj=>(hy.cells (lX hok1)).2 j hj) hok1).1
    have hes:=Amu hset
    have hxl:ti.cs.length=r.l.es.length:=by rw[Sl.ED];exact h2
    subst r2;subst r3
    refine main ⟨r.l.t,(Xt r.l.t (Eu fet ti.cs v'.cells).2.1).2⟩ _ hok1 (by simpa using h1) (by simpa using hno) (by omega) (by rw[r1];omega) h4 (by rw[hes,List.length_map,hpl,hxl]) rfl (fun r' j hr' hj=> ?_) rfl hn
    rw[r1]at hj ⊢
    have:j=0:=by omega
    subst this
    rw[hes,if_pos (by omega)]
    have e:r'*1+0 - (0*1+0)=r':=by omega
    rw[e]
    simp [List.getD_eq_getElem?_getD,show r'<(Eu fet ti.cs v'.cells).2.1.length by omega]
  | false =>
    rw[hrow]at hok hn
    simp only[cond_false]at hok hn
    obtain⟨hok1,hok2⟩:=hok.append
    obtain⟨h1,h2⟩:=hok2.cons
    obtain⟨hset,h2⟩:=h2.cons
    obtain⟨h2,h3⟩:=h2.cons
    obtain⟨h3,h4⟩:=h3.cons
    obtain⟨h4,hno⟩:=h4.cons
    have hno:=hno.cons.1
    have h4:0<ti.cs.length:=by simpa [Nat.blt_eq]using h4
    have h2:=Nat.le_of_ble_eq_true h2
    have h3':i<r.l.xs.length:=by simpa using h3
    have h3:i<r.l.es.length:=by rw[Sl.ED];exact h3'
    have hpl:(Eu fet ti.cs v'.cells).2.1.length=ti.cs.length:=(N9 hf ti.cs v'.cells (fun j=>(a.eval y).cells.getD j undef) (fun j hj=>(hy.cells (lX hok1)).2 j hj) hok1).1
    have hes:=Sl.Ard r.l h3' hset
    have hmul: ∀ {x y:Nat},x<y->x*r.l.sz+r.l.sz<=y*r.l.sz:=fun h=>by
      have:=Nat.mul_le_mul_right r.l.sz h
      rw[Nat.succ_mul]at this;exact this
    refine main (r.l.set i off (Eu fet ti.cs v'.cells).2.1).2 _ hok1 (by simpa using h1) (by simpa using hno) h3 (by have:=hmul h3;omega) h4 (by rw[hes,List.length_set]) rfl (fun r' j hr' hj=> ?_) rfl hn
    have hei:(r.l.es.getD i []).length=r.l.sz:=Sl.es_len _ _ (by rw[List.getD_eq_getElem?_getD,List.getElem?_eq_getElem h3];simp)
    rw[hes]
    by_cases hri:r'=i
    ·subst hri
     have e1:(r.l.es.set r' (splice (r.l.es.getD r' []) off (Eu fet ti.cs v'.cells).2.1)).getD r' []=splice (r.l.es.getD r' []) off (Eu fet ti.cs v'.cells).2.1:=by
       simp [List.getD_eq_getElem?_getD,hr']
     rw[e1,cO _ _ _ _ (by omega)]
     by_cases hin:off<=j/\j<off+(Eu fet ti.cs v'.cells).2.1.length
     ·rw[if_pos hin,if_pos (by omega),show r'*r.l.sz+j - (r'*r.l.sz+off)=j - off from by omega]
     ·rw[if_neg hin,if_neg (by omega)]
    ·have e1:(r.l.es.set i (splice (r.l.es.getD i []) off (Eu fet ti.cs v'.cells).2.1)).getD r' []=r.l.es.getD r' []:=by
       simp only[List.getD_eq_getElem?_getD,List.getElem?_set]
       rw[if_neg (fun h=>hri h.symm)]
     rw[e1,if_neg ?_]
     rcases Nat.lt_or_gt_of_ne hri with h | h
     ·have:=hmul h;omega
     ·have:=hmul h;omega
theorem AoG {fet:Fet} {t:Nat} {x l:Operand} (hC:TOk P C) (hf:FOk O st.Dj m w fet) (ho:o.op= .slice t x (some l) none none) {x' l':A} (hx:DD O st.Dj m w (a.eval x) x') (hl:DD O st.Dj m w (a.eval l) l')
    (hok:D7 (nX C fet t x' l').ok):Pure P O st.Dj m a w o (nX C fet t x' l'):=by
  unfold nX at hok ⊢
  obtain⟨ti,ht,he⟩:=Ef hok
  rw[he]at hok ⊢;clear he
  cases x' with
  | own q =>
    dsimp only at hok ⊢
    obtain⟨ro,hro,he⟩:=DR hok
    rw[he]at hok ⊢;clear he
    obtain⟨n,hn,he⟩:=DR hok
    rw[he]at hok ⊢;clear he
    obtain⟨e,hel,he⟩:=DR hok
    rw[he]at hok ⊢;clear he
    obtain⟨te,hte,he⟩:=Ef hok
    rw[he]at hok ⊢;clear he
    obtain⟨h1,h2⟩:=hok.cons
    obtain⟨h2,h3⟩:=h2.cons
    have h3:=h3.cons.1
    have h1:=Nat.eq_of_beq_eq_true h1
    have h2:0<=n:=by simpa using h2
    obtain⟨k,rfl⟩:=Int.eq_ofNat_of_zero_le h2
    have h3:k<ro.l.es.length:=by
      have:(k:Int)<(ro.l.xs.length:Int):=by simpa using h3
      rw[Sl.ED];omega
    obtain⟨kk,rfl⟩:=Ns hn
    have hl:=hl.int
    obtain⟨h4,_,h5⟩:=hx.own hf (Gj hro)
    have hg:=(hf _ _ (Gj hro)).1
    rcases h5 with ⟨_,h6,_⟩ | ⟨_,g,cap,cur,h6,h7,h8,_⟩
    ·rw[h6]at h3;simp at h3
    ·have hd:=Lt hel
     have hu:=(hC.is ht).run w
     rw[hd]at hu
     have hs:=(hC.is hte).Iq w
     have hb:(Instr.sliceBounds true ro.l.es.length cap (some (a.eval l)) none none).run P w= .ok (k,ro.l.es.length,cap) w:=by
       have:k<=ro.l.es.length:=by omega
       simp [Instr.sliceBounds,Instr.sliceBound,hl,asIntOf,this]
     refine⟨⟨.slice (some (at' g (k*ro.l.sz))) (ro.l.es.length - k) (cap - k),?_,?_⟩,rfl,rfl,rfl⟩
     ·have hne: ¬ cap=k:=by omega
      simp only[execOp,ho,Instr.sliceAt,Sem.run_bind,hu,Result.andThen_ok,Instr.slice,h4,h6,Option.map_none,Option.map_some,hb,hs,Sem.run_pure,if_neg hne,<- h1]
      simp [JI]
     ·show DF O st.Dj m w _ (.osl q k)
      simp only[DF,hg,Option.map_some,Obj.shp]
      exact⟨rfl,fun _=>⟨g,cap,h6,rfl⟩⟩
  | _=>exact(DK hok).elim
theorem AnH {c:Call} {x y:Operand} {ts':List Nat} (hC:TOk P C) (hS:Sim V0 O0 w0 O m st a w) (ho:o.op= .call c) (hcal:c.callee= .builtin .copy) (hargs:c.args= #[x,y]) (hts:c.argTypes.toList=ts') {fet:Fet} (hf:H5 st.Dj fet) {x' y':A}
    (hx:DD O st.Dj m w (a.eval x) x') (hy:DD O st.Dj m w (a.eval y) y') (hok:D7 (Aid C fet ts' x' y').ok):Good P V0 O0 w0 (apply st o (Aid C fet ts' x' y')) o a w:=by
  intro next Q hn
  unfold Aid at *
  split at hok
  ·rename_i t u
   dsimp only at hn
   obtain⟨ti,e,te,ht,hte,hd',he⟩:=Qv hok
   rw[he]at hok hn;clear he
   cases x' with
   | osl q k =>
     dsimp only at hok hn
     obtain⟨r,hr,he⟩:=DR hok
     rw[he]at hok hn;clear he
     obtain⟨ys,hys,he⟩:=DR hok
     rw[he]at hok hn;clear he
     obtain⟨s,hs,he⟩:=DR hok
     rw[he]at hok hn;clear he
     obtain⟨h1,h2⟩:=hok.cons
     obtain⟨h2,h3⟩:=h2.cons
     obtain⟨h3,h4⟩:=h3.cons
     obtain⟨h4,h5⟩:=h4.cons
     have h5:k+s.length<=ys.length:=by simpa using h5.cons.1
     have h40:0<s.length:=by simpa using h4
     have hz:r.frz=false:=by simpa using h3
     clear h3
     have h2:=Nat.eq_of_beq_eq_true h2
     have:=zF hs
     subst this
     have hrl:=Sl.Jk hys
     clear hys
     obtain⟨ys,rfl⟩: ∃ zs:List Int,zs=ys:=⟨ys,rfl⟩
     obtain⟨re,rf,rl⟩:=r
     have h5':k+s.length<=ys.length:=h5
     clear h5
     dsimp only at hrl hz hn
     subst hrl;subst hz
     have hq:=hf q _ (Gj hr)
     dsimp only at hq
     have hes: ∀ zs:List Int,(⟨KA,zs⟩:Sl).es=zs.map fun z=>[A.int .u8 z]:=fun zs=>rfl
     have hlen:(⟨KA,ys⟩:Sl).es.length=ys.length:=by rw[hes,List.length_map]
     obtain⟨bs,hb,hbl⟩:=hy.str
     have hsz:bs.size=s.length:=by rw[Mc,hbl]
     obtain⟨_,hrow⟩:=hS.Dj q _ hq
     have hx':DF O st.Dj m w (a.eval x) (.osl q k):=hx
     simp only[DF,hq,Option.map_some,Obj.shp]at hx'
     obtain⟨g,cap,g1,g2⟩:=hx'.2 (by rw[hlen];omega)
     rcases hrow with ⟨_,h6,_⟩ | ⟨_,g',cap',cur,k1,k2,k3,k4,k5,k6,k7,k8⟩
     ·rw[hes]at h6;have h6:=congrArg List.length h6;rw[List.length_map,List.length_nil]at h6;omega
     ·rw[g1]at k1
      injection k1 with q1 q2 q3;injection q1 with q1;injection q1 with q1
      subst q1;subst q3
      have hszb:(⟨KA,ys⟩:Sl).sz=1:=rfl
      rw[hszb]at g2 k5 k7 k8
      rw[hlen]at g2 k3 k7 k8
      let vs:List Value:=bs.data.toList.map fun b=>Value.int .u8 (b.toNat:Int)
      have hvl:vs.length=s.length:=by show(List.map _ _).length=_;rw[List.length_map,<- hbl]
      have hfit:k+s.length<=cur.size:=by omega
      have hst:=run_storeCells_cells (P:=P) g k vs 0 w (fun j hj=>by
        rw[Nat.add_zero]
        have:k+j<cur.size:=by omega
        have:=k2.cell (k+j)
        rw[this,Array.getElem?_eq_getElem (by omega)];rfl) (fun j hj=>by rw[Nat.add_zero];exact k2.frozen (by omega)) (fun v hv=>by obtain⟨b,_,rfl⟩:=List.mem_map.1 hv;rfl)
      have hu:=(hC.is ht).run w
      rw[hte]at hu
      have hsize:=(hC.is hd').Iq w
      have hmin:Nat.min s.length (ys.length - k)=s.length:=Nat.min_eq_left (by omega)
      have hfc:(Builtin.firstCells te.cs.length s.length (.string bs)).run P w= .ok vs.toArray w:=by
        rw[<- hsz]
        simp [Builtin.firstCells,vs]
        rw[<- Array.toList_inj];simp
      have hat:c.argTypes= #[t,u]:=by
        have:=congrArg List.toArray hts
        simpa using this
      have hrun:(execOp a.eval o).run P w= .ok (.value (.int .i64 (s.length:Int))) (w.setCells g k vs):=by
        simp only[execOp,ho,resolve,hcal,hargs,hat,invoke,builtin,Builtin.copy_]
        simp [hu,g2,hb,Builtin.lenOf,hsize,hsz]
        simp [hmin,hfc,hst,goInt]
      unfold Oper.wp
      rw[hrun,Oper.upon_value]
      have hput:(AjK ys k s).length=ys.length:=by unfold AjK;simp;omega
      have hsim:=zC hS (k0:=k) (l':=⟨KA,AjK ys k s⟩) (vs:=vs) (xs:=s.map fun b=>A.int .u8 (b.toNat:Int)) hq g1 k2 (by rw[hes,hes,List.length_map,List.length_map,hput]) rfl (by rw[List.length_map,hlen,hszb];omega) (by rw[hvl,List.length_map]) (by rw[List.length_map];exact h40) (fun r' j hr' hj=>by
        rw[hszb]at hj ⊢
        have:j=0:=by omega
        subst this
        rw[hlen]at hr'
        have e1: ∀ zs:List Int,r'<zs.length->((⟨KA,zs⟩:Sl).es.getD r' []).getD 0 .undef= .int .u8 (zs.getD r' 0):=by
          intro zs hz
          rw[hes];simp [List.getD_eq_getElem?_getD,hz]
        rw[e1 _ (by rw[hput];exact hr'),e1 _ hr',List.length_map,Nat.mul_one,Nat.add_zero]
        unfold AjK
        rw[List.getD_eq_getElem?_getD,List.append_assoc,List.getElem?_append,List.length_take,Nat.min_eq_left (by omega)]
        by_cases h0:r'<k
        ·rw[if_pos h0,if_neg (by omega),List.getElem?_take_of_lt h0,<- List.getD_eq_getElem?_getD]
        ·rw[if_neg h0,List.getElem?_append,List.length_map]
         by_cases h7:r' - k<s.length
         ·rw[if_pos h7,if_pos (by omega)]
          simp [List.getD_eq_getElem?_getD,h7]
         ·rw[if_neg h7,if_neg (by omega),List.getElem?_drop,show k+s.length+(r' - k - s.length)=r' by omega,<- List.getD_eq_getElem?_getD]) (fun j hj=>by
        rw[List.length_map]at hj
        have e1:vs.getD j undef= .int .u8 ((s.getD j 0).toNat:Int):=by
          simp [vs,List.getD_eq_getElem?_getD,hbl,hj]
        have e2:(s.map fun b=>A.int .u8 (b.toNat:Int)).getD j .undef= .int .u8 ((s.getD j 0).toNat:Int):=by
          simp [List.getD_eq_getElem?_getD,hj]
        rw[e1,e2]
        exact .int _ _)
      refine hn O m _ _ ?_
      have hfin:=hsim.put o.dst (x:=.int .i64 (s.length:Int)) (v:=.int .i64 (s.length:Int)) (.mkInt _ _)
      exact hfin
   | _=>exact(DK hok).elim
  ·exact(DK hok).elim
end
end Go.Proofs.YtbnphelpndnnfabGreatDoor.Vm
namespace Go.Proofs.YtbnphelpndnnfabGreatDoor.Vm
open Classical
open Go.Lib (bytesWorld bytesCells bytesWorld_at_old bytesWorld_at_new bytesWorld_size)
section
variable {P:Program} {C:Ctx} {V0:Nat->Value} {O0 O:Own} {w0 w:World} {m:Nat->Value} {st:St} {a:Act} {o:Oper}
theorem Akx (w:World) (e:TypeId) (s:ByteArray):Moves O (fun _=>False) w (bytesWorld w e s):=by
  refine⟨rfl,rfl,rfl,?_,fun b hb=>.inl (bytesWorld_at_old w e s b hb)⟩
  rw[bytesWorld_size];omega
theorem AlS {s t:Nat} {x:Operand} (hC:TOk P C) (hS:Sim V0 O0 w0 O m st a w) {d:Tmp} (hd:o.dst=some d) (ho:o.op= .convert s t x) {l:List UInt8} (hx:DD O st.Dj m w (a.eval x) (.str l))
    (hok:D7 (tX C d s t l).ok) (hfr: ∀ p∈(tX C d s t l).new,st.fresh p.1=true):Good P V0 O0 w0 (apply st o (tX C d s t l)) o a w:=by
  intro next Q hn
  unfold tX at *
  obtain⟨ts,hts,he⟩:=Ef hok
  rw[he]at hok hfr hn;clear he
  obtain⟨ti,e,te,ht,hte,hd',he⟩:=Qv hok
  rw[he]at hok hfr hn;clear he
  obtain⟨h1,h2⟩:=hok.cons
  have h2:=h2.cons.1
  have hlen:l.length<=140737488355328:=by simpa using h2
  have hde:=Ajl h1
  have hue:=(hC.is hd').d
  rw[hde]at hue
  have hut:=(hC.is ht).d
  rw[hte]at hut
  obtain⟨b,hb,hl⟩:=hx.str
  have hbl:b.size=l.length:=by rw[Mc,hl]
  have hr:(execOp a.eval o).run P w= .ok (.value (.slice (some (at' w.heap.size 0)) b.size (grownCap w b.size 0 e))) (bytesWorld w e b):=by
    have:=Go.Lib.run_convert_string_bytes (P:=P) w s t e b (hC.is hts).d hut hue
    simp only[execOp,ho,hb,Sem.run_bind,this]
    rfl
  unfold Oper.wp
  rw[hr,Oper.upon_value,hd]
  have hge:=grownCap_ge w b.size 0 e
  have hes:(⟨KA,l.map (fun(b:UInt8)=>((b.toNat:Int)))⟩:Sl).es=l.map (fun(x:UInt8)=>[A.int .u8 (x.toNat:Int)]):=by
    show List.map (Ty.int IntKind.u8 Ty.nil).cells (List.map (fun(b:UInt8)=>((b.toNat:Int))) l)=_
    exact List.map_map.trans rfl
  have hesl:(⟨KA,l.map (fun(b:UInt8)=>((b.toNat:Int)))⟩:Sl).es.length=b.size:=by rw[hes,List.length_map,hbl]
  have hcs:(bytesCells w e b).size=grownCap w b.size 0 e:=by
    simp [bytesCells]
    have:b.data.size=b.size:=rfl
    omega
  obtain⟨O',m',h⟩:=Abs hS (Akx w e b) (d:=d) (e:=e) (cap:=grownCap w b.size 0 e) (frz:=false) (l:=⟨KA,l.map (fun(b:UInt8)=>((b.toNat:Int)))⟩) (del:=[]) (cur:=bytesCells w e b)
    ⟨_,bytesWorld_at_new w e b,.inr (Nat.le_refl _)⟩ (by rw[hesl];exact hge) (grownCap_le_maxLen w _ _ _ (by unfold maxLen;omega)) (by rw[hcs];show _=_*1;omega) ⟨Sl.es_len _,fun i j hi hj=>by
      have hj0:j=0:=by
        have:j<1:=hj
        omega
      subst hj0
      rw[hesl]at hi
      have hi':i<l.length:=by omega
      have hi2:i<b.data.toList.length:=by rw[hl];exact hi'
      refine⟨.int .u8 (l.getD i 0).toNat,?_,?_⟩
      ·have hlt:i<b.data.size:=hi
       show(bytesCells w e b)[i*1+0]? =_
       rw[Nat.mul_one,Nat.add_zero]
       unfold bytesCells
       rw[Array.getElem?_append_left (by simpa using hlt)]
       rw[Array.getElem?_map]
       have:b.data[i]? =some (l.getD i 0):=by
         rw[<- Array.getElem?_toList,hl,List.getD_eq_getElem?_getD,List.getElem?_eq_getElem hi'];rfl
       rw[this];rfl
      ·rw[hes]
       have:(l.map (fun(x:UInt8)=>[A.int .u8 (x.toNat:Int)])).getD i []=[A.int .u8 ((l.getD i 0).toNat:Int)]:=by
         simp [List.getD_eq_getElem?_getD,hi']
       rw[this]
       exact .int _ _⟩ (FP (hfr _ List.mem_cons_self))
  rw[hesl]at h
  refine hn O' m' _ _ ?_
  rw[PK hd]
  exact h
theorem AnG {s t:Nat} {x:Operand} (hC:TOk P C) (hS:Sim V0 O0 w0 O m st a w) (ho:o.op= .convert s t x) {fet:Fet} (hf:H5 st.Dj fet) {x':A} (hx:DD O st.Dj m w (a.eval x) x')
    (hok:D7 (zT C o fet s t x').ok) (hfr: ∀ p∈(zT C o fet s t x').new,st.fresh p.1=true):Good P V0 O0 w0 (apply st o (zT C o fet s t x')) o a w:=by
  have hF:FOk O st.Dj m w fet:=fun q x h=>⟨hf q x h,hS.Dj q x (hf q x h)⟩
  by_cases hs: ∃ l,x'= .str l
  ·obtain⟨l,rfl⟩:=hs
   unfold zT at *
   dsimp only at hok hfr ⊢
   obtain⟨tt,htt,he⟩:=Ef hok
   rw[he]at hok hfr ⊢;clear he
   cases hb:Ajk tt.d with
   | true =>
     rw[hb]at hok hfr
     simp only[cond_true]at hok hfr ⊢
     obtain⟨d,hd,he⟩:=DR hok
     rw[he]at hok hfr ⊢;clear he
     exact AlS hC hS hd ho hx hok hfr
   | false =>
     rw[hb]at hok
     simp only[cond_false]at hok ⊢
     exact(uO hC hF ho hx hok).good hS
  ·have e:zT C o fet s t x'=TR C fet s t x':=by
     cases x'<;>first | rfl | exact absurd ⟨_,rfl⟩ hs
   rw[e]at hok ⊢
   exact(uO hC hF ho hx hok).good hS
theorem Aqo (n:Nat) (cs:List CK) {i j:Nat} (hi:i<n) (hj:j<cs.length):((List.replicate n cs).flatten).getD (i*cs.length+j) .oth=cs.getD j .oth:=by
  induction n generalizing i with
  | zero=>omega
  | succ n ih =>
    rw[List.replicate_succ,List.flatten_cons,List.getD_eq_getElem?_getD]
    cases i with
    | zero=>rw[List.getElem?_append_left (by omega),Nat.zero_mul,Nat.zero_add,<- List.getD_eq_getElem?_getD]
    | succ i =>
      rw[Nat.add_mul,Nat.one_mul,List.getElem?_append_right (by omega),show i*cs.length+cs.length+j - cs.length=i*cs.length+j from by omega,<- List.getD_eq_getElem?_getD]
      exact ih (by omega)
theorem xQ {t n:Nat} {l:Sl} {cur:Array Value} (hS:Sim V0 O0 w0 O m st a w) {d:Tmp} (hd:o.dst=some d) (hr:(execOp a.eval o).run P w= .ok (.value (.pointer (some (at' w.heap.size 0)))) (w.alloc (.cells cur t)))
    (hn:l.xs.length=n) (hmax:n<=16777216) (hsz:cur.size=n*l.sz) (hheld:Held O w cur l.sz l.es) (hfresh:IL st (b2 d)) :
    Good P V0 O0 w0 {tmps:=st.tmps.set d (.EN (b2 d) 0 0),Dj:=DC (Ed st.Dj []) [(b2 d,.arr t false l)]} o a w:=by
  intro next Q hnx
  unfold Oper.wp
  rw[hr,Oper.upon_value,hd]
  obtain⟨O',m',h⟩:=Rt hS (Moves.refl _ _ w) rfl (d:=d) (e:=t) (cap:=n) (frz:=false) (l:=l) (cur:=cur) (del:=[]) (by rw[Sl.ED,hn];exact Nat.le_refl _) (by unfold maxLen;omega) hsz hheld hfresh
  rw[Sl.ED,hn]at h
  refine hnx O' m' _ _ ?_
  by_cases hdt:d<st.tmps.length
  ·
   have hslot:=h.tmps d (by simpa using hdt)
   have hself:(a.put (some d) (.slice (some (at' w.heap.size 0)) n n)).tmps.getD d undef= .slice (some (at' w.heap.size 0)) n n:=by
     have hs:d<a.tmps.size:=by rw[hS.size];exact hdt
     simp [Act.put,Array.getD_eq_getD_getElem?,hs]
   have hself2:(st.tmps.set d (.own (b2 d))).getD d .undef= .own (b2 d):=by simp [List.getD_eq_getElem?_getD,hdt]
   rw[hself,hself2]at hslot
   have hc:DF O' (DC (Ed st.Dj []) [(b2 d,.arr t false l)]) m' (w.alloc (.cells cur t)) (.slice (some (at' w.heap.size 0)) n n) (.own (b2 d)):=hslot
   have hg:Dy (DC (Ed st.Dj []) [(b2 d,Obj.arr t false l)]) (b2 d)=some (.arr t false l):=by
     simp only[DC];rw[Eg,if_pos rfl]
   have hm: .slice (some (at' w.heap.size 0)) n n=m' (b2 d):=by
     have:=hc.2
     rw[hg]at this
     exact this
   have hcr:DF O' (DC (Ed st.Dj []) [(b2 d,.arr t false l)]) m' (w.alloc (.cells cur t)) (.pointer (some (at' w.heap.size 0))) (.EN (b2 d) 0 0):=by
     simp only[DF,hg,Option.map_some,Obj.shp]
     exact⟨rfl,fun _=>⟨w.heap.size,n,n,hm.symm,by simp⟩⟩
   have hnew:=h.put (some d) (x:=.EN (b2 d) 0 0) (v:=.pointer (some (at' w.heap.size 0))) hcr.toT
   have e1:put (st.tmps.set d (.own (b2 d))) (some d) (.EN (b2 d) 0 0)=st.tmps.set d (.EN (b2 d) 0 0):=by simp [put]
   have e2:(a.put (some d) (.slice (some (at' w.heap.size 0)) n n)).put (some d) (.pointer (some (at' w.heap.size 0)))=a.put (some d) (.pointer (some (at' w.heap.size 0))):=by simp [Act.put]
   rw[e2]at hnew
   dsimp only at hnew
   rw[e1]at hnew
   exact hnew
  ·have e1: ∀ x,st.tmps.set d x=st.tmps:=fun x=>List.set_eq_of_length_le (Nat.le_of_not_lt hdt)
   have e2: ∀ v,a.put (some d) v=a:=by
     intro v
     have hs: ¬ d<a.tmps.size:=by rw[hS.size];exact hdt
     have:a.tmps.setIfInBounds d v=a.tmps:=by simp [Array.setIfInBounds,hs]
     simp only[Act.put,this]
   rw[e1,e2]at h
   rw[e1,e2]
   exact h
theorem Ahd {t n e:Nat} {ti te:TI} (hC:TOk P C) (hS:Sim V0 O0 w0 O m st a w) {d:Tmp} (hd:o.dst=some d) (ho:o.op= .alloc t) (ht:C.T t=some ti)
    (hp:te.cs.all CK.plain=true) (h0:0<te.cs.length) (hn0:0<n) (hn:n<=16777216) (hcs:ti.cs=(List.replicate n te.cs).flatten) (hfresh:IL st (b2 d)) :
    Good P V0 O0 w0 {tmps:=st.tmps.set d (.EN (b2 d) 0 0),Dj:=DC (Ed st.Dj []) [(b2 d,.arr t false ⟨tyl te.cs,List.replicate n (tyl te.cs).zero⟩)]} o a w:=by
  have hT:=hC.is ht
  obtain⟨i,z,g1,g2,g3,g4,g5,g6⟩:=hT.i
  have hsz:z.cells.size=ti.cs.length:=by
    rw[<- Array.length_toList];exact(La (O:=O) (Dj:=[]) (m:=fun _=>undef) (w:=w) _ _ g5).1
  have hlen:ti.cs.length=n*te.cs.length:=by rw[hcs];simp
  have hpl:ti.cs.all CK.plain=true:=by
    rw[hcs,List.all_eq_true]
    intro k hk
    obtain⟨l,hl,hkl⟩:=List.mem_flatten.1 hk
    rw[List.eq_of_mem_replicate hl]at hkl
    exact List.all_eq_true.1 hp k hkl
  have hv:=Wh (O:=O) (w:=w) _ _ g5 hpl
  have hr:(execOp a.eval o).run P w= .ok (.value (.pointer (some (at' w.heap.size 0)))) (w.alloc (.cells z.cells t)):=by
    simp only[execOp,ho,Instr.alloc,Sem.run_bind,zeroValue,typeInfo,run_program,Result.andThen_ok,g1,g4,Sem.run_pure,newVar,newRow]
    rfl
  have hel:(⟨tyl te.cs,List.replicate n (tyl te.cs).zero⟩:Sl).es=List.replicate n (te.cs.map CK.Hm):=Sl.XX _ _ hp
  have hsl:(⟨tyl te.cs,List.replicate n (tyl te.cs).zero⟩:Sl).sz=te.cs.length:=Oo _
  exact xQ hS hd hr (by rw[List.length_replicate]) hn (by rw[hsz,hlen,hsl])
    ⟨Sl.es_len _,fun r j hrl hj=>by
      rw[hsl]at hj ⊢
      rw[Sl.ED,List.length_replicate]at hrl
      have hlt:r*te.cs.length+j<n*te.cs.length:=by
        have:(r+1)*te.cs.length<=n*te.cs.length:=Nat.mul_le_mul_right _ hrl
        rw[Nat.add_mul]at this;omega
      refine⟨z.cells.toList.getD (r*te.cs.length+j) undef,?_,?_⟩
      ·rw[List.getD_eq_getElem?_getD,Array.getElem?_toList]
       rw[Array.getElem?_eq_getElem (by omega)];rfl
      ·have:=hv (r*te.cs.length+j) (by omega)
       have e1:(ti.cs.map CK.Hm).getD (r*te.cs.length+j) .undef=(te.cs.map CK.Hm).getD j .undef:=by
         have e2:(ti.cs.map CK.Hm).getD (r*te.cs.length+j) .undef=(ti.cs.getD (r*te.cs.length+j) .oth).Hm:=by
           have:r*te.cs.length+j<ti.cs.length:=by omega
           simp [List.getD_eq_getElem?_getD,this]
         have e3:(te.cs.map CK.Hm).getD j .undef=(te.cs.getD j .oth).Hm:=by simp [List.getD_eq_getElem?_getD,hj]
         rw[e2,e3,hcs,Aqo n te.cs hrl hj]
       rw[e1]at this
       rw[hel]
       have e4:(List.replicate n (te.cs.map CK.Hm)).getD r []=te.cs.map CK.Hm:=by simp [List.getD_eq_getElem?_getD,hrl]
       rw[e4];exact this⟩ hfresh
theorem An4 {t:Nat} {x:Operand} {y:A} (hC:TOk P C) (hS:Sim V0 O0 w0 O m st a w) {d:Tmp} (hd:o.dst=some d) (ho:o.op= .box t x) (hx:DD O st.Dj m w (a.eval x) y) (hids: ∀ i∈y.ids,i∈st.ids\/(Dy st.Dj i).isSome)
    (hok:D7 (tH C d t y).ok) (hfr: ∀ p∈(tH C d t y).new,st.fresh p.1=true) (hnd:nodup ((tH C d t y).new.map (·.1))=true):Good P V0 O0 w0 (apply st o (tH C d t y)) o a w:=by
  unfold tH at *
  cases hI:ApS C t with
  | none=>rw[hI]at hok hfr hnd;exact AlQ hC hS hd ho hx hids hok hfr hnd
  | some q =>
    obtain⟨n,k⟩:=q
    rw[hI]at hok hfr hnd
    dsimp only at hok hfr hnd ⊢
    cases y with
    | agg cs =>
      dsimp only at hok hfr hnd ⊢
      obtain⟨h1,h2⟩:=hok.cons
      obtain⟨h2,h3⟩:=h2.cons
      have h3:=Nat.le_of_ble_eq_true h3.cons.1
      have h2:=Nat.eq_of_beq_eq_true h2
      obtain⟨vs,g1,g2,g3⟩:=hx
      have hr:(execOp a.eval o).run P w= .ok (.value (.pointer (some (at' w.heap.size 0)))) (w.alloc (.cells vs t)):=by
        simp only[execOp,ho,Instr.box,g1,Sem.run_bind,Sem.run_pure,Result.andThen_ok,newVar,newRow]
        rfl
      rw[PK hd]
      refine xQ (n:=n) hS hd hr (by show(cs.map A.toI).length=n;rw[List.length_map,h2]) h3 (by show vs.size=n*1;rw[g2,h2,Nat.mul_one]) ⟨Sl.es_len _,fun r j hr hj=> ?_⟩ (FP (hfr _ List.mem_cons_self))
      have hj:j<1:=hj
      have:j=0:=by omega
      subst this
      have hr:r<cs.length:=by
        rw[Sl.ED]at hr
        have hr:r<(cs.map A.toI).length:=hr
        rwa [List.length_map]at hr
      refine⟨vs.getD r undef,?_,?_⟩
      ·show vs[r*1+0]? =_
       rw[Nat.mul_one,Nat.add_zero,Array.getD_eq_getD_getElem?,Array.getElem?_eq_getElem (by omega)];rfl
      ·have h4:=g3 r hr
       have h5:=List.all_eq_true.1 h1 cs[r] (List.getElem_mem hr)
       have e1:cs.getD r .undef=cs[r]:=by simp [List.getD_eq_getElem?_getD,hr]
       have e2:((⟨.int k .nil,cs.map A.toI⟩:Sl).es.getD r []).getD 0 .undef= .int k cs[r].toI:=by
         have:(⟨.int k .nil,cs.map A.toI⟩:Sl).es=cs.map fun c=>[A.int k c.toI]:=List.map_map (f:=A.toI) (g:=fun x=>[A.int k x]) (l:=cs)
         rw[this];simp [List.getD_eq_getElem?_getD,hr]
       rw[e2]
       rw[e1]at h4
       generalize cs[r]=c at h4 h5
       cases c<;>first
         | (rename_i k' x;have:=J3 (show A.kEq k k'=true from h5);subst this;exact h4)
         | cases h5
    | _=>exact(DK hok).elim
theorem Aks {t:Nat} (hC:TOk P C) (hS:Sim V0 O0 w0 O m st a w) {d:Tmp} (hd:o.dst=some d) (ho:o.op= .alloc t)
    (hok:D7 (U9 C d t).ok) (hfr: ∀ p∈(U9 C d t).new,st.fresh p.1=true) (hnd:nodup ((U9 C d t).new.map (·.1))=true):Good P V0 O0 w0 (apply st o (U9 C d t)) o a w:=by
  unfold U9 at *
  obtain⟨ti,ht,he⟩:=Ef hok
  rw[he]at hok hfr hnd ⊢;clear he
  cases ha:jK ti.d with
  | some p =>
    obtain⟨n,e⟩:=p
    rw[ha]at hok hfr
    dsimp only at hok hfr ⊢
    obtain⟨te,hte,he⟩:=Ef hok
    rw[he]at hok hfr ⊢;clear he
    obtain⟨h1,h2⟩:=hok.cons
    obtain⟨h2,h3⟩:=h2.cons
    obtain⟨h3,h4⟩:=h3.cons
    obtain⟨h4,h5⟩:=h4.cons
    have h5:=h5.cons.1
    rw[PK hd]
    exact Ahd (n:=n) (e:=e) hC hS hd ho ht h1 (by simpa [Nat.blt_eq]using h2) (by simpa [Nat.blt_eq]using h3) (Nat.le_of_ble_eq_true h4) (by simpa using h5) (FP (hfr _ List.mem_cons_self))
  | none =>
    rw[ha]at hok hfr hnd
    exact Aiw hC hS hd ho ht hok hfr hnd
end
