import Derived.Test.YtfgdgdnlglejbaaGreatDoorA3
import Derived.Laws.OwnMore
import Derived.Laws.MakeOwn
set_option linter.all false
namespace Go.Proofs.YtfgdgdnlglejbaaGreatDoor.Vm
open Classical
section
variable {P:Program} {C:Ctx} {V0:Nat->Value} {O0 O:Own} {w0 w:World} {m:Nat->Value} {st:St} {a:Act} {o:Oper}
theorem RX {δ :Dl} {d:Tmp} (hd:o.dst=some d):apply st o δ = {tmps:=st.tmps.set d δ.val,Dk:=DJ (Es (DJ st.Dk δ.upd) δ.del) δ.new}:=by unfold apply;rw[hd];rfl
theorem Ti {t:Nat} {k:Nat->TI->Dl} (hok:D8 (elemOf C t k).ok): ∃ ti e te,C.T t=some ti/\ti.d= .slice e/\C.T e=some te/\elemOf C t k=k e te:=by
 unfold elemOf at *
 obtain⟨ti,ht,he⟩:=Eu hok;rw[he]at hok ⊢;clear he;obtain⟨e,hel,he⟩:=DY hok;rw[he]at hok ⊢;clear he;obtain⟨te,hte,he⟩:=Eu hok;exact⟨ti,e,te,ht,Om hel,hte,he⟩
theorem Aoz {O':Own} {w':World} {fet:Fet} {te:TI} {ty:Ty} (hf:Jm st.Dk fet) (hp:GN O w O' w) (hw:w'=w): ∀(xs:List (Nat×A)) (ps:List (Nat×Value)) (vs:Array Value) (zs:List ty.Val),
 xs.length=ps.length->(∀(j:Nat) (x:Nat×A) (p:Nat×Value),xs[j]? =some x->ps[j]? =some p->p.1=x.1/\DI O st.Dk m w p.2 x.2/\x.2.isVal=true) ->
 vs.size=zs.length*te.cs.length->Held O' w' vs te.cs.length (zs.map ty.cells)->D8 (IA fet te ty xs zs).1 ->
 (∀ p∈(IA fet te ty xs zs).2.2,∀ e l,p.2= .arr e true l->D6 O' w (m p.1) (.sl l)) ->
 (IA fet te ty xs zs).2.1.length=zs.length/\ ∃ vs',Instr.fill (fun i=>some (i*te.cs.length,te.cs.length)) vs ps=some vs'/\vs'.size=vs.size/\Held O' w' vs' te.cs.length ((IA fet te ty xs zs).2.1.map ty.cells):=by
 subst hw;intro xs
 induction xs with
 | nil =>
  intro ps vs zs hl _ hsz hh _ _;cases ps with
  | nil=>exact⟨rfl,vs,rfl,rfl,hh⟩
  | cons _ _=>simp at hl
 | cons x xs ih =>
  intro ps vs zs hl hr hsz hh hok hU;cases ps with
  | nil=>simp at hl
  | cons p ps =>
   obtain⟨i,x⟩:=x;obtain⟨i',v⟩:=p;obtain⟨h1,h2,hval⟩:=hr 0 (i,x) (i',v) rfl rfl;dsimp only at h1 h2 hval;subst h1;simp only[IA]at hok hU ⊢;obtain⟨hok1,hok2⟩:=hok.append;obtain⟨hok0,hok1⟩:=hok1.append;obtain⟨hmk,hok1⟩:=hok1.cons;have hmk:=Ty.Ox _ _ hmk;have hil':i'<zs.length:=by simpa [Nat.blt_eq]using hok1.cons.1
   have hset:(zs.set i' (ty.mk (ED fet te.cs x.cells).2.1).2).map ty.cells=(zs.map ty.cells).set i' (ED fet te.cs x.cells).2.1:=by rw[List.map_set,hmk]
   have hzl:zs.length=(zs.map ty.cells).length:=by simp
   rw[hzl]at hsz hil';generalize hes:zs.map ty.cells=es at *
   have hil:i'<es.length:=hil';have hcs:=h2.cells hval;obtain⟨g1,g2,g3,g4⟩:=Qk hf te.cs x.cells (fun j=>v.cells.getD j undef) (fun j hj=>hcs.2 j hj) hok0;have g5:=g4 hp (fun p hp'=>hU p (List.mem_append_left _ hp'));have hvsz:v.cells.size=te.cs.length:=by rw[hcs.1,g2]
   have hle:i'*te.cs.length+te.cs.length<=vs.size:=by rw[hsz];have:(i'+1)*te.cs.length<=es.length*te.cs.length:=Nat.mul_le_mul_right _ hil;rw[Nat.add_mul]at this;omega
   have e0:v.cells.zipIdx.foldl (fun cs (c,j)=>cs.setIfInBounds (i'*te.cs.length+j) c) vs=(v.cells.toList.zipIdx 0).foldl (fun cs (p:Value×Nat)=>cs.setIfInBounds (i'*te.cs.length+p.2) p.1) vs:=by rw[<- Array.foldl_toList];simp
   have hl0:i'*te.cs.length+0+v.cells.toList.length<=vs.size:=by rw[Array.length_toList,hvsz];omega
   obtain⟨k1,_⟩:=Q9 v.cells.toList 0 (i'*te.cs.length) vs 0 hl0;have k2:=fun j=>(Q9 v.cells.toList 0 (i'*te.cs.length) vs j hl0).2;rw[<- e0]at k1
   have hh':Held O' w' (v.cells.zipIdx.foldl (fun cs (c,j)=>cs.setIfInBounds (i'*te.cs.length+j) c) vs) te.cs.length (es.set i' (ED fet te.cs x.cells).2.1):=by
    refine⟨fun y hy=> ?_,fun r j hrl hj=> ?_⟩
    ·rcases List.mem_or_eq_of_mem_set hy with h | h
     ·exact hh.1 y h
     ·rw[h,g1]
    ·rw[List.length_set]at hrl;have hlt:r*te.cs.length+j<vs.size:=by rw[hsz];have:(r+1)*te.cs.length<=es.length*te.cs.length:=Nat.mul_le_mul_right _ hrl;rw[Nat.add_mul]at this;omega
     have hk:=k2 (r*te.cs.length+j);rw[<- e0]at hk;by_cases hri:r=i'
     ·subst hri;rw[if_pos (by rw[Array.length_toList,hvsz];omega)]at hk;have e1:(es.set r (ED fet te.cs x.cells).2.1).getD r []=(ED fet te.cs x.cells).2.1:=by simp [List.getD_eq_getElem?_getD,hil]
      refine⟨_,getD_eq (by omega),?_⟩;rw[hk,e1,show r*te.cs.length+j - (r*te.cs.length+0)=j from by omega];have e2:v.cells.toList.getD j undef=v.cells.getD j undef:=by rw[Array.getD_eq_getD_getElem?,List.getD_eq_getElem?_getD,Array.getElem?_toList]
      rw[e2];exact g5 j hj
     ·have hno: ¬(i'*te.cs.length+0<=r*te.cs.length+j/\r*te.cs.length+j<i'*te.cs.length+0+v.cells.toList.length):=by
       rw[Array.length_toList,hvsz];rintro ⟨ha,hb⟩;rcases Nat.lt_or_gt_of_ne hri with h | h
       ·have:(r+1)*te.cs.length<=i'*te.cs.length:=Nat.mul_le_mul_right _ h;rw[Nat.add_mul]at this;omega
       ·have:(i'+1)*te.cs.length<=r*te.cs.length:=Nat.mul_le_mul_right _ h;rw[Nat.add_mul]at this;omega
      rw[if_neg hno]at hk;obtain⟨u,h3,h4⟩:=hh.2 r j hrl hj;refine⟨u,?_,?_⟩
      ·rw[getD_eq (by omega),hk,<- getD_eq hlt];exact h3
      ·have e1:(es.set i' (ED fet te.cs x.cells).2.1).getD r []=es.getD r []:=by
        simp only[List.getD_eq_getElem?_getD,List.getElem?_set];rw[if_neg (fun h=>hri h.symm)]
       rw[e1];exact h4
   obtain⟨f1,vs',f2,f3,f4⟩:=ih ps _ (zs.set i' (ty.mk (ED fet te.cs x.cells).2.1).2) (by simpa using hl) (fun j x p hx hp=>hr (j+1) x p (by simpa using hx) (by simpa using hp)) (by rw[k1,hsz,List.length_set,hzl]) (by rw[hset];exact hh') hok2
    (fun p hp'=>hU p (List.mem_append_right _ hp'))
   refine⟨by rw[f1,List.length_set],vs',?_,by rw[f3,k1],f4⟩;simp only[Instr.fill];have: ¬(v.cells.size≠te.cs.length||decide (i'*te.cs.length+v.cells.size>vs.size))=true:=by rw[hvsz];simp;omega
   rw[if_neg (by simpa using this)];exact f2
end
end Go.Proofs.YtfgdgdnlglejbaaGreatDoor.Vm
namespace Go.Proofs.YtfgdgdnlglejbaaGreatDoor.Vm
open Classical
section
variable {P:Program} {C:Ctx} {V0:Nat->Value} {O0 O:Own} {w0 w:World} {m:Nat->Value} {st:St} {a:Act} {o:Oper}
theorem oJ {fet:Fet} {ks:List CK} {x:A} (hok:D8 (ED fet ks x.cells).1):x.isVal=true:=by
 have no: ∀ {y:A},(∀ k,(pur fet k y).1=[false])-> ¬ D8 (ED fet ks [y]).1:=by
  intro y h hh;cases ks with
  | nil=>have:=hh false (by simp [ED]);cases this
  | cons k ks =>have:=hh false (by simp [ED,h k]);cases this
 cases x with
 | undef=>exact(no (fun k=>rfl) hok).elim
 | tup _=>exact(no (fun k=>rfl) hok).elim
 | usl _ _ _=>exact(no (fun k=>rfl) hok).elim
 | ump _=>exact(no (fun k=>rfl) hok).elim
 | box _=>exact(no (fun k=>rfl) hok).elim
 | cbx _ _=>exact(no (fun k=>rfl) hok).elim
 | cnd _ _=>exact(no (fun k=>rfl) hok).elim
 | _=>rfl
theorem AjP {fet:Fet} {te:TI} {ty:Ty} (hf:Jm st.Dk fet): ∀(xs:List (Nat×A)) (zs:List ty.Val),(∀ x∈xs,∃ v,DI O st.Dk m w v x.2)->D8 (IA fet te ty xs zs).1->Frz st.Dk (IA fet te ty xs zs).2.2/\ ∀ x∈xs,x.2.isVal=true:=by
 intro xs
 induction xs with
 | nil=>intro zs _ _;exact⟨(fun p hp=>by simp [IA]at hp),fun x hx=>by cases hx⟩
 | cons x xs ih =>intro zs h hok;obtain⟨i,x⟩:=x;simp only[IA]at hok ⊢;obtain⟨hok1,hok2⟩:=hok.append;obtain⟨hok0,_⟩:=hok1.append;have hv:=oJ hok0;obtain⟨v,hx⟩:=h (i,x) List.mem_cons_self;have hcs:=DI.cells (show DI O st.Dk m w v x from hx) hv;obtain⟨_,_,g3,_⟩:=Qk hf te.cs x.cells (fun j=>v.cells.getD j undef) (fun j hj=>hcs.2 j hj) hok0;obtain⟨f1,f2⟩:=ih _ (fun y hy=>h y (List.mem_cons_of_mem _ hy)) hok2;exact⟨g3.append f1,fun y hy=>by rcases List.mem_cons.1 hy with rfl | hy;exact hv;exact f2 y hy⟩
theorem XB: ∀(vs:List Value) (ks:List CK),EC vs ks=true->ks.all CK.plain=true-> ∀ j,j<ks.length->D6 O w (vs.getD j undef) ((ks.map CK.Jd).getD j .undef):=by
 intro vs ks h hp j hj;obtain⟨h1,h2⟩:=NU (O:=O) (Dk:=[]) (m:=fun _=>undef) (w:=w) vs ks h;have h3:=h2 j hj;have hk:(ks.getD j .oth).plain=true:=by refine(List.all_eq_true.1 hp) _ ?_;rw[List.getD_eq_getElem?_getD,List.getElem?_eq_getElem hj];simp
 have e1:(ks.map CK.zero).getD j .undef=(ks.getD j .oth).zero:=by simp [List.getD_eq_getElem?_getD,hj]
 have e2:(ks.map CK.Jd).getD j .undef=(ks.getD j .oth).Jd:=by simp [List.getD_eq_getElem?_getD,hj]
 rw[e1]at h3;rw[e2];generalize ks.getD j .oth=k at *
 generalize vs.getD j undef=v at *
 cases k with
 | oth=>cases hk
 | mp _ _=>cases hk
 | bx _=>cases hk
 | fn=>exact h3
 | sl e sz=>have:=DR.Fj h3;subst this;exact .nil _
 | sln e sz=>have:=DR.Fj h3;subst this;exact .nil _
 | bool=>exact h3
 | int _=>exact h3
 | str=>exact h3
 | ptr=>exact h3
def zeros (z:Value) (n:Nat):Array Value:=(Array.range n).map (z.cells[· % z.cells.size]!)
theorem Held.less {cur:Array Value} {sz:Nat} {x:List A} {n k:Nat} (h:Held O w cur sz (List.replicate k x)) (hk:n<=k):Held O w cur sz (List.replicate n x):=by
 refine⟨fun y hy=> ?_,fun i j hi hj=> ?_⟩
 ·rw[List.eq_of_mem_replicate hy];cases k with
  | zero=>exact absurd (List.mem_replicate.1 hy).1 (by omega)
  | succ k=>exact h.1 x (List.mem_replicate.2 ⟨by omega,rfl⟩)
 ·rw[List.length_replicate]at hi;obtain⟨u,h1,h2⟩:=h.2 i j (by rw[List.length_replicate];omega) hj;refine⟨u,h1,?_⟩;have e1:(List.replicate n x).getD i []=x:=by simp [List.getD_eq_getElem?_getD,hi]
  have e2:(List.replicate k x).getD i []=x:=by simp [List.getD_eq_getElem?_getD,show i<k by omega]
  rw[e1];rw[e2]at h2;exact h2
theorem nH {t:Nat} {te:TI} {z:Value} (hT:QY P t te) (hz:(P.info? t).bind (·.zero)=some z) (hp:te.cs.all CK.plain=true) (h0:0<te.cs.length) (n:Nat) :
 (zeros z (n*te.cs.length)).size=n*te.cs.length/\Held O w (zeros z (n*te.cs.length)) te.cs.length (List.replicate n (te.cs.map CK.Jd)):=by
 obtain⟨i,z',h1,h2,h3,h4,h5,h6⟩:=hT.i;rw[h1]at hz;simp only[Option.bind_some,h4]at hz;injection hz with hz;subst hz;have hsz:z'.cells.size=te.cs.length:=by rw[<- Array.length_toList];exact(NU (O:=O) (Dk:=[]) (m:=fun _=>undef) (w:=w) _ _ h5).1
 have hv:=XB (O:=O) (w:=w) _ _ h5 hp;refine⟨by simp [zeros],fun x hx=>by rw[List.eq_of_mem_replicate hx];simp,fun r j hr hj=> ?_⟩;rw[List.length_replicate]at hr;have hlt:r*te.cs.length+j<n*te.cs.length:=by have:(r+1)*te.cs.length<=n*te.cs.length:=Nat.mul_le_mul_right _ hr;rw[Nat.add_mul]at this;omega
 have hmod:(r*te.cs.length+j) % te.cs.length=j:=by rw[Nat.mul_comm,Nat.mul_add_mod];exact Nat.mod_eq_of_lt hj
 refine⟨z'.cells.toList.getD j undef,?_,?_⟩
 ·simp only[zeros,Array.getElem?_map,Array.getElem?_range];rw[if_pos hlt];simp only[Option.map_some,hsz,hmod];congr 1;rw[getElem!_pos z'.cells j (by omega)];simp [List.getD_eq_getElem?_getD,show j<z'.cells.size from by omega]
 ·have e1:(List.replicate n (te.cs.map CK.Jd)).getD r []=te.cs.map CK.Jd:=by
   simp [List.getD_eq_getElem?_getD,hr]
  rw[e1];exact hv j hj
theorem AcF {t n:Nat} {ps:Array (Nat×Operand)} (hC:TOk P C) (hS:Sim V0 O0 w0 O m st a w) {d:Tmp} (hd:o.dst=some d) (ho:o.op= .buildSlice t n ps) {fet:Fet} (hf:Jm st.Dk fet) {xs:List (Nat×A)}
 (hl:xs.length=ps.size) (hx: ∀(j:Nat) (x:Nat×A) (p:Nat×Operand),xs[j]? =some x->ps[j]? =some p->p.1=x.1/\DI O st.Dk m w (a.eval p.2) x.2)
 (hok:D8 (Nc C fet d t n xs).ok) (hfr: ∀ p∈(Nc C fet d t n xs).new,st.fresh p.1=true):Good P V0 O0 w0 (apply st o (Nc C fet d t n xs)) o a w:=by
 intro next Q hn
 unfold Nc at *
 obtain⟨ti,e,te,ht,hte,hd',he⟩:=Ti hok;rw[he]at hn hfr hok;clear he;obtain⟨hok1,hok2⟩:=hok.append;obtain⟨hb1,hb2⟩:=hok2.cons;obtain⟨hb2,hb3⟩:=hb2.cons;have hb1:=Nat.le_of_ble_eq_true hb1;have hb2:0<te.cs.length:=by simpa [Nat.blt_eq]using hb2
 have hb3:=hb3.cons.1;have hT:=hC.is hd';obtain⟨i,z,h1,h2,h3,h4,h5,h6⟩:=hT.i;have hu:=(hC.is ht).d;rw[hte]at hu;obtain⟨hU,hval⟩:=AjP (te:=te) (ty:=tyl te.cs) hf xs (List.replicate n (tyl te.cs).zero) (fun x hx'=>by obtain⟨j,hj,hje⟩:=List.mem_iff_getElem.1 hx';have:=hx j x (ps[j]'(by omega)) (by rw[<- hje];exact List.getElem?_eq_getElem hj) (by simp [show j<ps.size from by omega]);exact⟨_,this.2⟩) hok1;obtain⟨O1,hS1,hp1,hle1,hv1,hE1,_⟩:=hS.freezes _ hU;obtain⟨hz1,hz2⟩:=nH (O:=O1) (w:=w) hT (by rw[h1];exact h4) hb3 hb2 n
 obtain⟨f1,vs',f2,f3,f4⟩:=Aoz (te:=te) (ty:=tyl te.cs) hf hp1 rfl xs (ps.map (fun(i,x)=>(i,a.eval x))).toList (zeros z (n*te.cs.length)) (List.replicate n (tyl te.cs).zero) (by simp [hl]) (fun j x p hxj hpj=>by
  simp only[Array.toList_map,List.getElem?_map]at hpj;cases hq:ps.toList[j]? with
  | none=>rw[hq]at hpj;cases hpj
  | some q =>rw[hq]at hpj;injection hpj with hpj;subst hpj;have:=hx j x q hxj (by simpa using hq);exact⟨this.1,this.2,hval x (List.mem_of_getElem? hxj)⟩) (by rw[hz1,List.length_replicate]) (by rw[<- Sl.YY _ _ hb3]at hz2;exact hz2) hok1 hv1
 have hlen:(IA fet te (tyl te.cs) xs (List.replicate n (tyl te.cs).zero)).2.1.length=n:=by rw[f1,List.length_replicate]
 have hnn:n*te.cs.length<=16777216:=hb1;have hnle:n<=16777216:=Nat.le_trans (Nat.le_mul_of_pos_right n hb2) hnn
 have hr:(execOp a.eval o).run P w= .ok (.value (.slice (some (at' w.heap.size 0)) n n)) (w.alloc (.cells vs' e)):=by
  have hbig: ¬(16777216<n*te.cs.length):=by omega
  simp only[execOp,ho,Sem.run_bind,Instr.buildSlice,run_underlying hu,Result.andThen_ok,hT.JH];rw[if_neg (by simpa using hbig)];by_cases h0:n*te.cs.length=0
  ·have hz0:(Array.range (n*te.cs.length)).map ((#[]:Array Value)[· % (#[]:Array Value).size]!)=zeros z (n*te.cs.length):=by simp [zeros,h0]
   simp only[if_pos h0,Sem.run_bind,Sem.run_pure,Result.andThen_ok,hz0,f2];rfl
  ·simp only[if_neg h0,Sem.run_bind,Sem.run_pure,Result.andThen_ok,zeroValue,typeInfo,run_program,h1,h4];have hz0:(Array.range (n*te.cs.length)).map (z.cells[· % z.cells.size]!)=zeros z (n*te.cs.length):=rfl;rw[hz0,f2];rfl
 unfold Oper.wp;rw[hr,Oper.upon_value,hd];have hfr':=(show Kq st (b2 d)from GU (hfr _ List.mem_cons_self)).frz hU;obtain⟨O',m',h⟩:=Un hS1 (Moves.refl _ _ w) rfl (d:=d) (e:=e) (cap:=n) (frz:=false) (l:=⟨tyl te.cs,(IA fet te (tyl te.cs) xs (List.replicate n (tyl te.cs).zero)).2.1⟩) (del:=[]) (by rw[Sl.EJ,hlen];exact Nat.le_refl _) (by unfold maxLen;omega) (by rw[f3,hz1];show _=_*(tyl te.cs).len;rw[QR]) (by show Held _ _ _ (tyl te.cs).len _;rw[QR];exact f4) hfr';rw[Sl.EJ,hlen]at h;refine hn O' m' _ _ ?_;rw[RX hd];exact h
end
end Go.Proofs.YtfgdgdnlglejbaaGreatDoor.Vm
namespace Go.Proofs.YtfgdgdnlglejbaaGreatDoor.Vm
open Classical
section
variable {P:Program} {C:Ctx} {V0:Nat->Value} {O0 O:Own} {w0 w:World} {m:Nat->Value} {st:St} {a:Act} {o:Oper}
theorem AoD {t:Nat} {lo co:Operand} (hC:TOk P C) (hS:Sim V0 O0 w0 O m st a w) {d:Tmp} (hd:o.dst=some d) (ho:o.op= .makeSlice t lo co) {l c:A} (hl:DI O st.Dk m w (a.eval lo) l) (hc:DI O st.Dk m w (a.eval co) c)
 (hok:D8 (nY C d t l c).ok) (hfr: ∀ p∈(nY C d t l c).new,st.fresh p.1=true):Good P V0 O0 w0 (apply st o (nY C d t l c)) o a w:=by
 intro next Q hn
 unfold nY at *
 obtain⟨n,hn1,he⟩:=DY hok;rw[he]at hok hfr hn;clear he;obtain⟨n',hn2,he⟩:=DY hok;rw[he]at hok hfr hn;clear he;obtain⟨ti,e,te,ht,hte,hd',he⟩:=Ti hok;rw[he]at hok hfr hn;clear he;obtain⟨k1,rfl⟩:=Qd hn1;obtain⟨k2,rfl⟩:=Qd hn2;obtain⟨h1,h2⟩:=hok.cons;obtain⟨h2,h3⟩:=h2.cons;obtain⟨h3,h4⟩:=h3.cons;obtain⟨h4,h5⟩:=h4.cons;have h5:=h5.cons.1;have h1:n<=n':=by simpa using h1
 have h2:0<=n:=by simpa using h2
 have h3:n'*((te.bytes:Int)+1)<=140737488355328:=by simpa using h3
 have h4:0<te.cs.length:=by simpa [Nat.blt_eq]using h4
 have hl:=hl.int;have hc:=hc.int;obtain⟨k,rfl⟩:=Int.eq_ofNat_of_zero_le h2;obtain⟨c,rfl⟩:=Int.eq_ofNat_of_zero_le (Int.le_trans h2 h1);have hkc:k<=c:=by omega
 have hT:=hC.is hd';obtain⟨i,z,g1,g2,g3,g4,g5,g6⟩:=hT.i;have hu:=(hC.is ht).d;rw[hte]at hu
 have h3':c*te.bytes+c<=140737488355328:=by
  have e0:(c:Int)*((te.bytes:Int)+1)=((c*te.bytes+c:Nat):Int):=by rw[Int.mul_add,Int.natCast_add,Int.natCast_mul,Int.mul_one]
  have h3:(c:Int)*((te.bytes:Int)+1)<=140737488355328:=h3;rw[e0]at h3;omega
 obtain⟨hz1,hz2⟩:=nH (O:=O) (w:=w) hT (by rw[g1];exact g4) h5 h4 c;have hz2:=hz2.less hkc
 have hr:(execOp a.eval o).run P w= .ok (.value (.slice (some (at' w.heap.size 0)) k c)) (w.alloc (.cells (zeros z (c*te.cs.length)) e)):=by
  have e1:(i.bytes:Int)*(c:Int)<=281474976710656:=by
   have:(i.bytes:Int)*c=((c*te.bytes:Nat):Int):=by rw[g3,Int.mul_comm,Int.natCast_mul]
   rw[this];omega
  have:=run_make (P:=P) w t e i z hu g1 g4 k1 k2 k c (by omega) (by omega) e1 (by omega);simp only[Int.toNat_natCast,g2]at this;have hl':a.eval lo= .int k1 (k:Int):=hl;have hc':a.eval co= .int k2 (c:Int):=hc;simp only[execOp,ho,Sem.run_bind,hl',hc',this,Result.andThen_ok,Sem.run_pure];rfl
 unfold Oper.wp;rw[hr,Oper.upon_value,hd];obtain⟨O',m',h⟩:=Un hS (Moves.refl _ _ w) rfl (d:=d) (e:=e) (cap:=c) (frz:=false) (l:=⟨tyl te.cs,List.replicate k (tyl te.cs).zero⟩) (del:=[]) (by rw[Sl.EJ,List.length_replicate];exact hkc) (by unfold maxLen;omega) (by rw[hz1];show _=_*(tyl te.cs).len;rw[QR]) (by show Held _ _ _ (tyl te.cs).len _;rw[QR,Sl.YY _ _ h5];exact hz2) (GU (hfr _ List.mem_cons_self));rw[Sl.EJ,List.length_replicate]at h;refine hn O' m' _ _ ?_;rw[RX hd];exact h
theorem Ahj {t:Nat} {x:Operand} {lo hi mx:Option Operand} (hC:TOk P C) (hS:Sim V0 O0 w0 O m st a w) (ho:o.op= .slice t x lo hi mx) (hmx:mx=none) {fet:Fet} (hf:Jm st.Dk fet) {q:Nat} {lo' hi':Option A}
 (hx:DI O st.Dk m w (a.eval x) (.own q)) (hlo:ORl O st.Dk m w (lo.map a.eval) lo') (hhi:ORl O st.Dk m w (hi.map a.eval) hi')
 (hok:D8 (Gw C fet t (.own q) lo' hi').ok):Good P V0 O0 w0 (apply st o (Gw C fet t (.own q) lo' hi')) o a w:=by
 subst hmx;intro next Q hn
 unfold Gw at *
 obtain⟨ti,ht,he⟩:=Eu hok;rw[he]at hok hn;clear he;dsimp only at hok hn;obtain⟨ro,hro,he⟩:=DY hok;rw[he]at hok hn;clear he;obtain⟨r,hr,he⟩:=DY hok;rw[he]at hok hn;clear he;obtain⟨e,hel,he⟩:=DY hok;rw[he]at hok hn;clear he;obtain⟨te,hte,he⟩:=Eu hok;rw[he]at hok hn;clear he;obtain⟨h1,h2⟩:=hok.cons;rw[<- Sl.EJ]at hr;have hsz:=Nat.eq_of_beq_eq_true h1;have hq:=hf q _ (Hw hro)
 have key: ∃ O1,Sim V0 O0 w0 O1 m {st with Dk:=DJ st.Dk (bif ro.frz then []else [(q,.arr ro.e true ro.l)])} a w/\D6 O1 w (m q) (.sl ro.l):=by
  cases hfz:ro.frz with
  | false =>obtain⟨O1,hS1,_,_,hv1,_⟩:=hS.jL hq;exact⟨O1,hS1,hv1⟩
  | true =>rw[hfz]at hq;exact⟨O,hS,(hS.Dk q _ hq).frozen⟩
 obtain⟨O1,hS1,hv1⟩:=key;have hd:=Om hel;have hu:=(hC.is ht).run w;rw[hd]at hu;have hs:=(hC.is hte).JH w;rw[<- hsz]at hs;have hxv:a.eval x=m q:=by have h2:DR O st.Dk m w (a.eval x) (.own q):=hx;have h2:=h2.2;rw[hq]at h2;exact h2
 obtain⟨h4,h5⟩:r.2.1<=r.2.2/\r.2.2<=ro.l.es.length:=(SY (isS:=true) (P:=P) hlo hhi (Nat.le_refl _) hr h2).2;obtain⟨ad,n,c,hv,hn',hc,hcut⟩:=hv1.cut r.2.1 r.2.2 h4 h5;obtain⟨h3,_,_⟩:=SY (isS:=true) (P:=P) (cap:=c) hlo hhi (by rw[<- hn'];exact hc) hr h2;rw[<- hn']at h3;have hrun:(execOp a.eval o).run P w= .ok (.value (.slice (if c=r.2.1 then ad else ad.map (·.add (r.2.1*ro.l.sz))) (r.2.2 - r.2.1) (c - r.2.1))) w:=by simp only[execOp,ho,Instr.sliceAt,Sem.run_bind,hu,Result.andThen_ok,Instr.slice,hxv,hv,Option.map_none,h3,hs,Sem.run_pure]
 unfold Oper.wp;rw[hrun,Oper.upon_value];refine hn O1 m _ _ ?_;have:=hS1.put o.dst (x:=.sl ⟨ro.l.t,D7 ro.l.xs r.2.1 r.2.2⟩) (v:=.slice (if c=r.2.1 then ad else ad.map (·.add (r.2.1*ro.l.sz))) (r.2.2 - r.2.1) (c - r.2.1)) (hcut c rfl);exact this
theorem ApS {t:Nat} {x h:Operand} (hC:TOk P C) (hS:Sim V0 O0 w0 O m st a w) {d:Tmp} (hd:o.dst=some d) (ho:o.op= .slice t x none (some h) none) {fet:Fet} (hf:Jm st.Dk fet) {x' b':A}
 (hx:DI O st.Dk m w (a.eval x) x') (hb:DI O st.Dk m w (a.eval h) b') (hok:D8 (vM C fet d t x' b').ok) (hfr: ∀ p∈(vM C fet d t x' b').new,st.fresh p.1=true) :
 Good P V0 O0 w0 (apply st o (vM C fet d t x' b')) o a w:=by
 intro next Q hn
 unfold vM at *
 obtain⟨ti,ht,he⟩:=Eu hok;rw[he]at hok hn hfr;clear he;cases x' with
 | own q =>
  dsimp only at hok hn hfr;obtain⟨ro,hro,he⟩:=DY hok;rw[he]at hok hn hfr;clear he;obtain⟨r,hr,he⟩:=DY hok;rw[he]at hok hn hfr;clear he;obtain⟨e,hel,he⟩:=DY hok;rw[he]at hok hn hfr;clear he;obtain⟨te,hte,he⟩:=Eu hok;rw[he]at hok hn hfr;clear he;obtain⟨hok,hfz⟩:=hok.append;obtain⟨h1,h2⟩:=hok.cons;have hfz:ro.frz=false:=by simpa using hfz.cons.1
  rw[<- Sl.EJ]at hr;have hsz:=Nat.eq_of_beq_eq_true h1;have hq:=hf q _ (Hw hro);rw[hfz]at hq;have hd':=Om hel;have hu:=(hC.is ht).run w;rw[hd']at hu;have hs:=(hC.is hte).JH w;rw[<- hsz]at hs;have hxv:a.eval x=m q:=by have h2:DR O st.Dk m w (a.eval x) (.own q):=hx;have h2:=h2.2;rw[hq]at h2;exact h2
  have hh:ORl O st.Dk m w (some (a.eval h)) (some b'):=hb;have hlo0:ORl O st.Dk m w none none:=trivial;obtain⟨h4,h5⟩:r.2.1<=r.2.2/\r.2.2<=ro.l.es.length:=(SY (isS:=true) (P:=P) hlo0 hh (Nat.le_refl _) hr h2).2
  have hr0:r.2.1=0:=by
   unfold AbC at hr;split at hr<;>first | (injection hr with hr;rw[<- hr];done) | (injection hr with hr;rw[<- hr]) | cases hr
   all_goals (first | rfl | (rename_i hc _;cases hc))
  have hfresh:Kq st (b2 d):=GU (hfr _ List.mem_cons_self);have hes:(⟨ro.l.t,D7 ro.l.xs r.2.1 r.2.2⟩:Sl).es=ro.l.es.take r.2.2:=by rw[Sl.Aol,hr0];simp [D7]
  obtain⟨hszs,hrow⟩:=hS.Dk q _ hq;have hgoal: ∀ v,(∀ cap:Nat,True)->(execOp a.eval o).run P w= .ok (.value v) w->(∃ O' m',Sim V0 O0 w0 O' m' {tmps:=st.tmps.set d (.own (b2 d)),Dk:=DJ (Es st.Dk [q]) [(b2 d,.arr ro.e false ⟨ro.l.t,D7 ro.l.xs r.2.1 r.2.2⟩)]} (a.put (some d) v) w)->o.wp P a w next Q:=by intro v _ hrun ⟨O',m',h⟩;unfold Oper.wp;rw[hrun,Oper.upon_value,hd];refine hn O' m' _ _ ?_;unfold apply;rw[hd];exact h
  rcases hrow with ⟨_,hnil,hm⟩ | ⟨_,g,cap,cur,hm,hg,hcap,_⟩
  ·have h0:r.2.2=0:=by rw[hnil]at h5;simpa using h5
   obtain⟨h3,_,_⟩:=SY (isS:=true) (P:=P) (w:=w) (cap:=0) hlo0 hh (by rw[hnil];exact Nat.le_refl _) hr h2;rw[hnil]at h3;refine hgoal (.slice none 0 0) (fun _=>trivial) ?_ ?_
   ·have h3:(Instr.sliceBounds true 0 0 none (some (a.eval h)) none).run P w= .ok (r.2.1,r.2.2,0) w:=h3;rw[hr0,h0]at h3;simp only[execOp,ho,Instr.sliceAt,Sem.run_bind,hu,Result.andThen_ok,Instr.slice,hxv,hm,Option.map_none,Option.map_some,h3,hs,Sem.run_pure];rfl
   ·have hxs:D7 ro.l.xs r.2.1 r.2.2=[]:=by
     have:ro.l.xs=[]:=Aew hnil;rw[this];simp [D7]
    rw[hxs];exact o6 hS hfresh
  ·obtain⟨h3,_,_⟩:=SY (isS:=true) (P:=P) (w:=w) (cap:=cap) hlo0 hh hcap hr h2;refine hgoal (.slice (some (at' g 0)) r.2.2 cap) (fun _=>trivial) ?_ ?_
   ·have h3:(Instr.sliceBounds true ro.l.es.length cap none (some (a.eval h)) none).run P w= .ok (r.2.1,r.2.2,cap) w:=h3;rw[hr0]at h3;simp only[execOp,ho,Instr.sliceAt,Sem.run_bind,hu,Result.andThen_ok,Instr.slice,hxv,hm,Option.map_none,Option.map_some,h3,hs,Sem.run_pure];simp [MK]
   ·exact AlN hS hq hm hg h5 hes rfl hfresh
 | _=>exact(DU hok).elim
end
end Go.Proofs.YtfgdgdnlglejbaaGreatDoor.Vm
namespace Go.Proofs.YtfgdgdnlglejbaaGreatDoor.Vm
open Classical
section
variable {P:Program} {C:Ctx} {V0:Nat->Value} {O0 O:Own} {w0 w:World} {m:Nat->Value} {st:St} {a:Act} {o:Oper}
structure Src (P:Program) (O:Own) (w:World) (sz:Nat) (y:Value) (ns:List (List A)) (news:List Value):Prop where
 len: ∀ w',(Builtin.lenOf y).run P w'= .ok ns.length w'
 cells: ∀ w',(∀ b k u,w.cell? (at' b k)=some u->w'.cell? (at' b k)=some u)->(Builtin.firstCells sz ns.length y).run P w'= .ok news.toArray w'
 size:news.length=ns.length*sz
 each: ∀ x∈ns,x.length=sz
 rel: ∀ i j,i<ns.length->j<sz->D6 O w (news.getD (i*sz+j) undef) ((ns.getD i []).getD j .undef)
theorem Src.one {sz:Nat} {y:Value} {ns:List (List A)} {news:List Value} (h:Src P O w sz y ns news) (h0:0<sz): ∀ v∈news,v.oneCell'=true:=by
 intro v hv;obtain⟨k,hk,hke⟩:=List.mem_iff_getElem.1 hv;have hd:k=(k / sz)*sz+k % sz:=by rw[Nat.mul_comm];exact(Nat.div_add_mod k sz).symm
 have hlt:k / sz<ns.length:=by rw[Nat.div_lt_iff_lt_mul h0,<- h.size];exact hk
 have:=h.rel (k / sz) (k % sz) hlt (Nat.mod_lt _ h0);rw[<- hd,List.getD_eq_getElem?_getD,List.getElem?_eq_getElem hk]at this;simp only[Option.getD_some,hke]at this;exact this.one
theorem Au3 {l:Sl} {v:Value} (h:AhE w O v l): ∃ news,Src P O w l.sz v l.es news:=by
 rcases h with ⟨ad,hv,hn⟩ | ⟨b,k,c,hv,hc,hcell⟩
 ·have hn:l.es=[]:=by simp [Sl.es,hn]
  refine⟨[],⟨fun w'=>by rw[hv,hn];rfl,fun w' _=>by
   rw[hv,hn];cases ad with
   | none=>rfl
   | some ad =>show(Builtin.firstCells l.sz 0 (.slice (some ad) 0 0)).run P w'=_;simp only[Builtin.firstCells,Nat.zero_mul];exact run_loadCells (P:=P) w' ad 0 (fun _=>undef) (fun i hi=>absurd hi (Nat.not_lt_zero i)),by rw[hn];simp,l.es_len,fun i j hi=>by rw[hn]at hi;simp at hi⟩⟩
 ·let news:List Value:=(List.range (l.es.length*l.sz)).map fun i=>(w.cell? (at' b (k+i))).getD undef
  have hcells: ∀ i,i<l.es.length*l.sz-> ∃ u,w.cell? (at' b (k+i))=some u:=by
   intro i hi
   have h0:0<l.sz:=by
    rcases Nat.eq_zero_or_pos l.sz with h | h
    ·rw[h]at hi;simp at hi
    ·exact h
   have hd:i=(i / l.sz)*l.sz+i % l.sz:=by rw[Nat.mul_comm];exact(Nat.div_add_mod i l.sz).symm
   obtain⟨u,hu,_⟩:=hcell (i / l.sz) (i % l.sz) (by rw[Nat.div_lt_iff_lt_mul h0];exact hi) (Nat.mod_lt _ h0);rw[<- hd]at hu;exact⟨u,hu⟩
  refine⟨news,⟨fun w'=>by rw[hv];rfl,fun w' hw'=> ?_,by simp [news],l.es_len,fun i j hi hj=> ?_⟩⟩
  ·rw[hv];simp only[Builtin.firstCells];have:=run_loadCells (P:=P) w' (at' b k) (l.es.length*l.sz) (fun i=>(w.cell? (at' b (k+i))).getD undef) (fun i hi=>by obtain⟨u,hu⟩:=hcells i hi;rw[MK,hw' _ _ _ hu,hu];rfl);exact this
  ·obtain⟨u,h3,h4⟩:=hcell i j hi hj;have hlt:i*l.sz+j<l.es.length*l.sz:=by have:(i+1)*l.sz<=l.es.length*l.sz:=Nat.mul_le_mul_right _ hi;rw[Nat.add_mul]at this;omega
   have e1:news.getD (i*l.sz+j) undef=u:=by simp [news,List.getD_eq_getElem?_getD,hlt,h3]
   rw[e1];exact h4
theorem src_of {fet:Fet} {t:Ty} {y:A} {v:Value} (hf:FOk O st.Dk m w fet) (hy:DI O st.Dk m w v y) (hok:D8 (KR fet t y).1): ∃ news,Src P O w t.len v (⟨t,(KR fet t y).2⟩:Sl).es news:=by
 have hrd:D8 (rdT fet t y).1-> ∃ news,Src P O w t.len v (⟨t,(rdT fet t y).2⟩:Sl).es news:=fun hok=>Au3 (Ale hf hy hok);by_cases hs: ∃ s,y= .str s
 ·obtain⟨s,rfl⟩:=hs;by_cases ht:t= .int .u8 .nil
  ·subst ht;obtain⟨b,hb,hl⟩:=hy.str;have hbl:b.size=s.length:=by rw[OT,hl]
   have hes:(⟨.int .u8 .nil,(KR fet (.int .u8 .nil) (.str s)).2⟩:Sl).es=s.map (fun(x:UInt8)=>[A.int .u8 (x.toNat:Int)]):=by show List.map (Ty.int IntKind.u8 Ty.nil).cells (List.map (fun(b:UInt8)=>((b.toNat:Int))) s)=_;exact List.map_map.trans rfl
   rw[hes];refine⟨s.map (fun(x:UInt8)=>Value.int .u8 (x.toNat:Int)),⟨fun w'=>by rw[hb];simp [Builtin.lenOf,hbl],fun w' _=> ?_,by simp [Ty.len],by simp [Ty.len],fun i j hi hj=> ?_⟩⟩
   ·rw[hb];simp only[Builtin.firstCells,List.length_map,Sem.run_pure];congr 1
    have:b.extract 0 s.length=b:=by
     rw[<- hbl];have h1:(b.extract 0 b.size).data.toList=b.data.toList:=by rw[AaI,OT];unfold D7;rw[List.drop_zero,List.take_length]
     exact ByteArray.ext (Array.toList_inj.1 h1)
    rw[this];apply Array.toList_inj.1;simp [hl]
   ·have hj0:j=0:=by simp [Ty.len]at hj;omega
    subst hj0;have hi':i<s.length:=by simpa using hi
    simp [List.getD_eq_getElem?_getD,hi',Ty.len];exact .int _ _
  ·have:(KR fet t (.str s)).1=[false]:=by
    unfold KR;cases t with
    | int k r=>cases k<;>cases r<;>first | rfl | exact absurd rfl ht
    | _=>rfl
   rw[this]at hok;have:=hok false (by simp);cases this
 ·have:KR fet t y=rdT fet t y:=by
   cases y<;>first | rfl | exact absurd ⟨_,rfl⟩ hs
  rw[this]at hok ⊢;exact hrd hok
theorem Ad3 {d:TypeDesc} (h:Vz d=true):(∃ e,d= .slice e)\/d= .string:=by unfold Vz at h;split at h<;>simp_all
theorem qO {t u ty e n sLen sCap:Nat} {i:TypeInfo} {du:TypeDesc} {base:Option Addr} {y:Value} {news:List Value} {w':World} (hu:P.underlying t=some (.slice e)) (hu2:P.underlying u=some du) (hdu:Vz du=true) (hi:P.info? e=some i)
 (hlen:(Builtin.lenOf y).run P w= .ok n w) (hnew:(Builtin.firstCells i.size n y).run P w= .ok news.toArray w) (hle:sLen+n<=sCap)
 (hst:match base with | some ad=>(storeCells (ad.add (sLen*i.size)) news).run P w= .ok () w' | none=>w'=w) :
 (Builtin.append_ #[t,u] ty #[.slice base sLen sCap,y]).run P w= .ok (.slice base (sLen+n) sCap) w':=by
 rcases Ad3 hdu with ⟨e',rfl⟩ | rfl
 ·cases base with
  | none=>subst hst;simp [Builtin.append_,run_underlying hu,run_underlying hu2,sizeOf,typeInfo,hi,hlen,hnew,hle]
  | some ad=>dsimp only at hst;simp [Builtin.append_,run_underlying hu,run_underlying hu2,sizeOf,typeInfo,hi,hlen,hnew,hle,hst]
 ·cases base with
  | none=>subst hst;simp [Builtin.append_,run_underlying hu,run_underlying hu2,sizeOf,typeInfo,hi,hlen,hnew,hle]
  | some ad=>dsimp only at hst;simp [Builtin.append_,run_underlying hu,run_underlying hu2,sizeOf,typeInfo,hi,hlen,hnew,hle,hst]
theorem kR {t u ty e n sLen sCap:Nat} {i:TypeInfo} {z:Value} {du:TypeDesc} {base:Option Addr} {y:Value} {olds news:List Value} (hu:P.underlying t=some (.slice e)) (hu2:P.underlying u=some du) (hdu:Vz du=true) (hi:P.info? e=some i) (hz:i.zero=some z)
 (hlen:(Builtin.lenOf y).run P w= .ok n w) (hold:(Builtin.firstCells i.size sLen (.slice base sLen sCap)).run P w.drew= .ok olds.toArray w.drew) (hnew:(Builtin.firstCells i.size n y).run P w.drew= .ok news.toArray w.drew) (hgt:sCap<sLen+n)
 (hb:(sLen+n)*i.bytes<=140737488355328) (h0:0<i.bytes\/((sLen+n:Nat):Int)<=9223372036854775807) :
 (Builtin.append_ #[t,u] ty #[.slice base sLen sCap,y]).run P w =
   .ok (.slice (some (at' w.heap.size 0)) (sLen+n) (grownCap w (sLen+n) sCap e)) (w.drew.alloc (.cells (olds.toArray++news.toArray++Builtin.zeroCells z.cells (grownCap w (sLen+n) sCap e - (sLen+n))) e)):=by
 have hn: ¬(sLen+n<=sCap):=by omega
 have hfit:=growslice_fits hgt hb;have h48': ¬(281474976710656<Builtin.nextslicecap (sLen+n) sCap*i.bytes):=by omega
 have h63: ¬(((sLen:Int)+(n:Int))>9223372036854775807/\i.bytes=0):=by
  rintro ⟨ha,hb'⟩;rcases h0 with h0 | h0
  ·omega
  ·rw[Int.natCast_add]at h0;omega
 have h63': ¬(9223372036854775807<((sLen:Int)+(n:Int))/\i.bytes=0):=h63;rcases Ad3 hdu with ⟨e',rfl⟩ | rfl
 ·simp [Builtin.append_,run_underlying hu,run_underlying hu2,sizeOf,typeInfo,zeroValue,hi,hz,hlen,hn,h63',h48',Question.forced,hold,hnew,newRow,grownCap];congr 2;apply Array.ext';simp [List.append_assoc]
 ·simp [Builtin.append_,run_underlying hu,run_underlying hu2,sizeOf,typeInfo,zeroValue,hi,hz,hlen,hn,h63',h48',Question.forced,hold,hnew,newRow,grownCap];congr 2;apply Array.ext';simp [List.append_assoc]
end
end Go.Proofs.YtfgdgdnlglejbaaGreatDoor.Vm
namespace Go.Proofs.YtfgdgdnlglejbaaGreatDoor.Vm
open Classical
section
variable {P:Program} {C:Ctx} {V0:Nat->Value} {O0 O:Own} {w0 w:World} {m:Nat->Value} {st:St} {a:Act} {o:Oper}
theorem Ads {sz cap:Nat} {es ns:List (List A)} {olds news:List Value} {z:Array Value} (hes: ∀ x∈es,x.length=sz) (hns: ∀ x∈ns,x.length=sz) (hol:olds.length=es.length*sz) (hnl:news.length=ns.length*sz) (hz:z.size=sz) (hcap:es.length+ns.length<=cap)
 (ho: ∀ i j,i<es.length->j<sz->D6 O w (olds.getD (i*sz+j) undef) ((es.getD i []).getD j .undef)) (hn: ∀ i j,i<ns.length->j<sz->D6 O w (news.getD (i*sz+j) undef) ((ns.getD i []).getD j .undef)) :
 (olds.toArray++news.toArray++Builtin.zeroCells z (cap - (es.length+ns.length))).size=cap*sz/\Held O w (olds.toArray++news.toArray++Builtin.zeroCells z (cap - (es.length+ns.length))) sz (es++ns):=by
 refine⟨?_,fun x hx=>(List.mem_append.1 hx).elim (hes x) (hns x),fun i j hi hj=> ?_⟩
 ·simp only[Array.size_append,List.size_toArray,hol,hnl,size_zeroCells,hz];rw[<- Nat.add_mul,<- Nat.add_mul];congr 1;omega
 ·rw[List.length_append]at hi;by_cases hil:i<es.length
  ·have hlt:i*sz+j<es.length*sz:=by
    have:(i+1)*sz<=es.length*sz:=Nat.mul_le_mul_right _ hil;rw[Nat.add_mul]at this;omega
   refine⟨olds.getD (i*sz+j) undef,?_,?_⟩
   ·rw[Array.append_assoc,Array.getElem?_append_left (by simp;omega)];all_goals simp_all[D6,Held]
   ·have e1:(es++ns).getD i []=es.getD i []:=by
     all_goals simp_all[D6,Held]
    rw[e1];exact ho i j hil hj
  ·obtain⟨i',rfl⟩: ∃ i',i=es.length+i':=⟨i - es.length,by omega⟩
   have hi':i'<ns.length:=by omega
   have hlt:i'*sz+j<ns.length*sz:=by have:(i'+1)*sz<=ns.length*sz:=Nat.mul_le_mul_right _ hi';rw[Nat.add_mul]at this;omega
   have hidx:(es.length+i')*sz+j=es.length*sz+(i'*sz+j):=by rw[Nat.add_mul];omega
   refine⟨news.getD (i'*sz+j) undef,?_,?_⟩
   ·rw[hidx,Array.append_assoc,Array.getElem?_append_right (by simp;omega),Array.getElem?_append_left (by simp;omega)];all_goals simp_all[D6,Held]
   ·have e1:(es++ns).getD (es.length+i') []=ns.getD i' []:=by
     all_goals simp_all[D6,Held]
    rw[e1];exact hn i' j hi' hj
theorem Aof (w:World) (b k:Nat):w.drew.cell? (at' b k)=w.cell? (at' b k):=rfl
theorem Aa9 {c:Call} {s y:Operand} {t u e:Nat} {te tu:TI} {ti:TI} (hC:TOk P C) (hS:Sim V0 O0 w0 O m st a w) {d:Tmp} (hd:o.dst=some d) (ho:o.op= .call c) (hcal:c.callee= .builtin .append) (hargs:c.args= #[s,y]) (hty:c.argTypes.toList=[t,u])
 (ht:C.T t=some ti) (hte:ti.d= .slice e) (hte':C.T e=some te) (htu:C.T u=some tu) (hsl:Vz tu.d=true) {frz:Bool} {l l':Sl} {ns:List (List A)} {news:List Value} {del:List Nat}
 (hsrc:Src P O w te.cs.length (a.eval y) ns news) (h0:0<te.cs.length) (hb:(l.es.length+ns.length)*(te.bytes+1)<=140737488355328) (hfresh:Kq st (b2 d))
 (hel:l'.es=l.es++ns) (hls:l.sz=te.cs.length) (hls':l'.sz=te.cs.length)
 (hx:(True/\l.es=[]/\a.eval s= .slice none 0 0)\/(True/\ ∃ q g cap cur,del=[q]/\Dy st.Dk q=some (.arr e frz l)/\m q= .slice (some (at' g 0)) l.es.length cap/\a.eval s= .slice (some (at' g 0)) l.es.length cap/\Hu w g cur e)) :
 ∀(next:Act->World->Prop) (Q:Exit->Act->World->Prop),(∀ O' m' a' w',Sim V0 O0 w0 O' m' {tmps:=st.tmps.set d (.own (b2 d)),Dk:=DJ (Es st.Dk del) [(b2 d,.arr e frz l')]} a' w'->next a' w')->o.wp P a w next Q:=by
 intro next Q hn
 have hat:c.argTypes= #[t,u]:=by have:=congrArg List.toArray hty;simpa using this
 have hu:=(hC.is ht).d;rw[hte]at hu;have hu2:=(hC.is htu).d;have hT:=hC.is hte';obtain⟨i,z,g1,g2,g3,g4,g5,g6⟩:=hT.i;have hzs:z.cells.size=te.cs.length:=by rw[<- Array.length_toList];exact(NU (O:=O) (Dk:=[]) (m:=fun _=>undef) (w:=w) _ _ g5).1
 have hbb:(l.es.length+ns.length)*te.bytes<=140737488355328/\l.es.length+ns.length<=140737488355328:=by rw[Nat.mul_add,Nat.mul_one]at hb;omega
 have hexec: ∀ v w',(Builtin.append_ #[t,u] o.type #[a.eval s,a.eval y]).run P w= .ok v w'->(execOp a.eval o).run P w= .ok (.value v) w':=by
  intro v w' h;simp only[execOp,ho,resolve,hcal,hargs,hat,Sem.run_bind,Sem.run_pure,Result.andThen_ok,invoke,builtin];have:(#[s,y].map a.eval)= #[a.eval s,a.eval y]:=by simp
  rw[this,h];rfl
 have hlen:=hsrc.len w;have hcells:=hsrc.cells w (fun _ _ _ h=>h);have hcells':=hsrc.cells w.drew (fun _ _ _ h=>h);rcases hx with ⟨_,hes,hsv⟩ | ⟨_,q,g,cap,cur,hdel,hq,hmq,hsv,hg⟩
 ·rw[hes]at hel hbb;simp only[List.nil_append]at hel;simp only[List.length_nil,Nat.zero_add]at hbb;by_cases hn0:ns.length=0
  ·have hns:ns=[]:=List.eq_nil_of_length_eq_zero hn0;have:=qO (P:=P) (w:=w) (w':=w) (t:=t) (u:=u) (ty:=o.type) (base:=none) (sLen:=0) (sCap:=0) (news:=news) hu hu2 hsl g1 hlen (by rw[g2];exact hcells) (by simp [hn0]) rfl;rw[<- hsv,hn0]at this;unfold Oper.wp;rw[hexec _ _ this,Oper.upon_value,hd];obtain⟨t',xs'⟩:=l';have hxs:xs'=[]:=Aew (l:=⟨t',xs'⟩) (by rw[hel,hns]);subst hxs;obtain⟨O',m',h⟩:=o6 hS (d:=d) (e:=e) (t:=t') (frz:=frz) (del:=del) hfresh;exact hn O' m' _ _ h
  ·have:=kR (P:=P) (w:=w) (t:=t) (u:=u) (ty:=o.type) (base:=none) (sLen:=0) (sCap:=0) (olds:=[]) (news:=news) hu hu2 hsl g1 g4 hlen rfl (by rw[g2];exact hcells') (by omega) (by rw[g3];simpa using hbb.1) (.inr (by have:=hbb.2;omega));rw[<- hsv]at this;unfold Oper.wp;rw[hexec _ _ this,Oper.upon_value,hd];have hge:=grownCap_ge w (0+ns.length) 0 e;obtain⟨k1,k2⟩:=Ads (O:=O) (w:=w) (cap:=grownCap w (0+ns.length) 0 e) (z:=z.cells) (es:=[]) (olds:=[]) (by simp) hsrc.each (by simp) hsrc.size hzs (by simpa using hge) (fun i j hi=>by simp at hi) hsrc.rel;obtain⟨O',m',h⟩:=Un hS (Moves.drew _ _ w) rfl (d:=d) (e:=e) (cap:=grownCap w (0+ns.length) 0 e) (frz:=frz) (l:=l') (del:=del) (by rw[hel];simpa using hge) (grownCap_le_maxLen w _ _ _ (by unfold maxLen;have:=hbb.2;omega)) (by rw[hls'];exact k1) (by rw[hls',hel];exact k2) hfresh;refine hn O' m' _ _ ?_;rw[hel]at h;simpa using h
 ·subst hdel;obtain⟨hsz,hr⟩:=hS.Dk q _ hq;rw[hls]at hsz
  obtain⟨g',cap',cur',h2,h3,h4,h5,h6,h7,h8,h9⟩: ∃ g' cap' cur',m q= .slice (some (at' g' 0)) l.es.length cap'/\Hu w g' cur' e/\l.es.length<=cap'/\cap'<=maxLen/\cur'.size=cap'*te.cs.length /\
   (∀ i j,i<l.es.length->j<te.cs.length-> ∃ u,cur'[i*te.cs.length+j]? =some u/\D6 O w u ((l.es.getD i []).getD j .undef))/\(∀ k,k<cur'.size->l.es.length*te.cs.length<=k->O g' k=some q)/\(∀ k,k<l.es.length*te.cs.length->O g' k=if frz then none else some q):=by
   rcases hr with ⟨_,_,h⟩ | ⟨_,h⟩
   ·rw[hmq]at h;cases h
   ·rw[hls]at h;exact h
  rw[hmq]at h2;injection h2 with h2 _ hcc;injection h2 with h2;injection h2 with h2;subst h2;subst hcc;obtain⟨h3,_⟩:=hg.inj h3;subst h3;by_cases hroom:l.es.length+ns.length<=cap
  ·have hst:(storeCells ((at' g 0).add (l.es.length*i.size)) news).run P w= .ok () (w.setCells g (l.es.length*te.cs.length) news):=by
    rw[MK,Nat.zero_add,g2];have hmul:(l.es.length+ns.length)*te.cs.length<=cap*te.cs.length:=Nat.mul_le_mul_right _ hroom;rw[Nat.add_mul]at hmul
    have:=run_storeCells_cells (P:=P) g (l.es.length*te.cs.length) news 0 w (fun j hj=>by
     rw[hg.cell];rw[hsrc.size]at hj;have hlt:l.es.length*te.cs.length+j<cur.size:=by omega
     simp [hlt]) (fun j hj=>by rw[hsrc.size]at hj;exact hg.frozen (by omega)) (hsrc.one h0)
    simpa using this
   have:=qO (P:=P) (w:=w) (t:=t) (u:=u) (ty:=o.type) (base:=some (at' g 0)) (sLen:=l.es.length) (sCap:=cap) (news:=news) hu hu2 hsl g1 hlen (by rw[g2];exact hcells) hroom hst;rw[<- hsv]at this;unfold Oper.wp;rw[hexec _ _ this,Oper.upon_value,hd];obtain⟨O',m',h⟩:=AjT hS hq hmq hg hroom hel (by rw[hls',hls]) (by rw[hls];exact hsrc.size) (by rw[hls];exact hsrc.each) (by rw[hls];exact hsrc.rel) hfresh;rw[hls]at h;exact hn O' m' _ _ h
  ·have hcur: ∀ k,k<l.es.length*te.cs.length-> ∃ u,cur[k]? =some u:=by
    intro k hk;have:l.es.length*te.cs.length<=cap*te.cs.length:=Nat.mul_le_mul_right _ h4;exact⟨cur[k]'(by omega),by simp [show k<cur.size from by omega]⟩
   let olds:List Value:=(List.range (l.es.length*te.cs.length)).map fun k=>cur.getD k undef;have hold:(Builtin.firstCells i.size l.es.length (.slice (some (at' g 0)) l.es.length cap)).run P w.drew= .ok olds.toArray w.drew:=by simp only[Builtin.firstCells,g2];exact run_loadCells (P:=P) w.drew (at' g 0) (l.es.length*te.cs.length) (fun k=>cur.getD k undef) (fun k hk=>by obtain⟨u,hu'⟩:=hcur k hk;rw[MK,Nat.zero_add,Aof,hg.cell];rw[Array.getD_eq_getD_getElem?,hu'];rfl)
   have:=kR (P:=P) (w:=w) (t:=t) (u:=u) (ty:=o.type) (base:=some (at' g 0)) (sLen:=l.es.length) (sCap:=cap) (olds:=olds) (news:=news) hu hu2 hsl g1 g4 hlen hold (by rw[g2];exact hcells') (by omega) (by rw[g3];exact hbb.1) (.inr (by have:=hbb.2;omega));rw[<- hsv]at this;unfold Oper.wp;rw[hexec _ _ this,Oper.upon_value,hd];have hge:=grownCap_ge w (l.es.length+ns.length) cap e
   obtain⟨k1,k2⟩:=Ads (O:=O) (w:=w) (cap:=grownCap w (l.es.length+ns.length) cap e) (z:=z.cells) (es:=l.es) (olds:=olds) hsz hsrc.each (by simp [olds]) hsrc.size hzs hge (fun i j hi hj=>by
    obtain⟨u,h10,h11⟩:=h7 i j hi hj;have hlt:i*te.cs.length+j<l.es.length*te.cs.length:=by have:(i+1)*te.cs.length<=l.es.length*te.cs.length:=Nat.mul_le_mul_right _ hi;rw[Nat.add_mul]at this;omega
    have e1:olds.getD (i*te.cs.length+j) undef=u:=by simp [olds,List.getD_eq_getElem?_getD,hlt,h10]
    rw[e1];exact h11) hsrc.rel
   obtain⟨O',m',h⟩:=Un hS (Moves.drew _ _ w) rfl (d:=d) (e:=e) (cap:=grownCap w (l.es.length+ns.length) cap e) (frz:=frz) (l:=l') (del:=[q]) (by rw[hel,List.length_append];exact hge) (grownCap_le_maxLen w _ _ _ (by unfold maxLen;have:=hbb.2;omega)) (by rw[hls'];exact k1) (by rw[hls',hel];exact k2) hfresh;rw[hel,List.length_append]at h;exact hn O' m' _ _ h
end
end Go.Proofs.YtfgdgdnlglejbaaGreatDoor.Vm
namespace Go.Proofs.YtfgdgdnlglejbaaGreatDoor.Vm
open Classical
section
variable {P:Program} {C:Ctx} {V0:Nat->Value} {O0 O:Own} {w0 w:World} {m:Nat->Value} {st:St} {a:Act} {o:Oper}
theorem AjB {c:Call} {s y:Operand} {t u:Nat} {tu:TI} (hC:TOk P C) (hS:Sim V0 O0 w0 O m st a w) {d:Tmp} (hd:o.dst=some d) (ho:o.op= .call c) (hcal:c.callee= .builtin .append) (hargs:c.args= #[s,y]) (hty:c.argTypes.toList=[t,u])
 (htu:C.T u=some tu) (hsl:Vz tu.d=true) {fet:Fet} (hf:Jm st.Dk fet) {x' y':A} (hx:DI O st.Dk m w (a.eval s) x') (hy:DI O st.Dk m w (a.eval y) y')
 (hok:D8 (gQ C fet d t x' y').ok) (hfr: ∀ p∈(gQ C fet d t x' y').new,st.fresh p.1=true):Good P V0 O0 w0 (apply st o (gQ C fet d t x' y')) o a w:=by
 intro next Q hn
 have hF:FOk O st.Dk m w fet:=fun q x h=>⟨hf q x h,hS.Dk q x (hf q x h)⟩
 unfold gQ at *
 obtain⟨ti,e,te,ht,hte,hd',he⟩:=Ti hok;rw[he]at hok hfr hn;clear he;split at hok
 ·rename_i q;obtain⟨r,hr,he⟩:=DY hok;rw[he]at hok;dsimp only at hfr hn;rw[he]at hfr hn;clear he;obtain⟨hok1,hok2⟩:=hok.append;obtain⟨h1,h2⟩:=hok2.cons;obtain⟨h2,h3⟩:=h2.cons;obtain⟨h3,h4⟩:=h3.cons;have h1:=Nat.eq_of_beq_eq_true h1;have h2:=Nat.eq_of_beq_eq_true h2;have h3:0<te.cs.length:=by rw[<- h2];simpa [Nat.blt_eq]using h3
  have h2:r.l.t.len=te.cs.length:=h2;have h4:(r.l.xs.length+(KR fet r.l.t y').2.length)*(te.bytes+1)<=140737488355328:=by simpa using h4.cons.1
  obtain⟨news,hsrc⟩:=src_of (P:=P) hF hy hok1;have hq:=Hw hr;obtain⟨hv,hO⟩:=hx.own hF hq;have hq':=hf _ _ hq;rw[h2]at hsrc;refine Aa9 (frz:=r.frz) (l:=r.l) (l':=⟨r.l.t,r.l.xs++(KR fet r.l.t y').2⟩) (del:=[q]) hC hS hd ho hcal hargs hty ht hte hd' htu hsl hsrc h3 (by rw[Sl.EJ,Sl.EJ];exact h4) (GU (hfr _ List.mem_cons_self)) (Sl.Aok _ _ _) h2 h2 ?_ next Q (fun O' m' a' w' h=>hn O' m' a' w' ?_)
  ·rcases hO.2 with ⟨h5,h6,h7⟩ | ⟨h5,g,cap,cur,h6,h7,_⟩
   ·exact .inl ⟨h5,h6,by rw[hv,h7]⟩
   ·refine .inr ⟨h5,q,g,cap,cur,rfl,?_,h6,by rw[hv,h6],?_⟩
    ·rw[hq',h1]
    ·rw[h1];exact h7
  ·rw[RX hd];rw[h1]at h;exact h
 ·obtain⟨hok1,hok2⟩:=hok.append;obtain⟨h3,h4⟩:=hok2.cons;have h3:0<te.cs.length:=by simpa [Nat.blt_eq]using h3
  have h4:(KR fet (tyl te.cs) y').2.length*(te.bytes+1)<=140737488355328:=by simpa using h4.cons.1
  obtain⟨news,hsrc⟩:=src_of (P:=P) hF hy hok1;rw[QR]at hsrc;refine Aa9 (frz:=false) (l:=⟨tyl te.cs,[]⟩) (l':=⟨tyl te.cs,(KR fet (tyl te.cs) y').2⟩) (del:=[]) hC hS hd ho hcal hargs hty ht hte hd' htu hsl hsrc h3 (by rw[Sl.Aom,Sl.EJ];simpa using h4) (GU (hfr _ List.mem_cons_self)) (by rw[Sl.Aom];rfl) (QR _) (QR _) (.inl ⟨trivial,rfl,hx⟩) next Q (fun O' m' a' w' h=>hn O' m' a' w' ?_)
  rw[RX hd];exact h
 ·exact(DU hok).elim
theorem AlC {t:Nat} {x:Operand} (hC:TOk P C) (hS:Sim V0 O0 w0 O m st a w) {d:Tmp} (hd:o.dst=some d) (ho:o.op= .box t x) {x':A} (hx:DI O st.Dk m w (a.eval x) x') (hids: ∀ i∈x'.ids,i∈st.ids\/(Dy st.Dk i).isSome)
 (hok:D8 (RY C d t x').ok) (hfr: ∀ p∈(RY C d t x').new,st.fresh p.1=true) (hnd:nodup ((RY C d t x').new.map (·.1))=true):Good P V0 O0 w0 (apply st o (RY C d t x')) o a w:=by
 refine AhS hC hS hx hids hd (fun ti ht hv hs=> ?_) hok hfr hnd;simp only[execOp,ho,Instr.box,newVar,newRow,Sem.run_bind];rfl
theorem AhI {t:Nat} {ti:TI} (hC:TOk P C) (hS:Sim V0 O0 w0 O m st a w) {d:Tmp} (hd:o.dst=some d) (ho:o.op= .alloc t) (ht:C.T t=some ti)
 (hok:D8 (RY C d t (.agg (ti.cs.map CK.zero))).ok) (hfr: ∀ p∈(RY C d t (.agg (ti.cs.map CK.zero))).new,st.fresh p.1=true) (hnd:nodup ((RY C d t (.agg (ti.cs.map CK.zero))).new.map (·.1))=true) :
 Good P V0 O0 w0 (apply st o (RY C d t (.agg (ti.cs.map CK.zero)))) o a w:=by
 obtain⟨i,z,h1,h2,_,h3⟩:=Aj2 (O:=O) (Dk:=st.Dk) (m:=m) (w:=w) (hC.is ht);refine AhS (v:=.agg z.cells) (x:=.agg (ti.cs.map CK.zero)) hC hS ⟨z.cells,rfl,h3.1,h3.2⟩ (fun j hj=> ?_) hd (fun ti ht hv hs=> ?_) hok hfr hnd
 ·exfalso
  have: ∀ ks:List CK,(ks.map CK.zero).flatMap A.GK=[]:=by
   intro ks
   induction ks with
   | nil=>rfl
   | cons k ks ih=>rw[List.map_cons,List.flatMap_cons,ih];cases k<;>rfl
  have hj':j∈(ti.cs.map CK.zero).flatMap A.GK:=hj;rw[this]at hj';cases hj'
 ·simp only[execOp,ho,Instr.alloc,Sem.run_bind,zeroValue,typeInfo,run_program,Result.andThen_ok,h1,h2,Sem.run_pure,newVar,newRow];rfl
theorem yS {t:Nat} {ti:TI} (hT:QY P t ti) {v:Value} {b k:Nat} (hs:v.cells.size=ti.cs.length) (h1: ∀ j,j<v.cells.size->(v.cells.getD j undef).oneCell'=true) (hc: ∀ j,j<v.cells.size->(w.cell? (at' b (k+j))).isSome=true) (hf: ∀ j,j<v.cells.size->w.frozen? (at' b (k+j))=false) :
 (storeVar t (at' b k) v).run P w= .ok () (w.setCells b k v.cells.toList):=by
 have:=run_storeCells_cells (P:=P) b k v.cells.toList 0 w (fun j hj=>by simpa using hc j (by simpa using hj)) (fun j hj=>by simpa using hf j (by simpa using hj)) (fun u hu=>by obtain⟨j,hj,he⟩:=List.mem_iff_getElem.1 hu;have:=h1 j (by simpa using hj);rw[Array.getD_eq_getD_getElem?,Array.getElem?_eq_getElem (by simpa using hj)]at this;rw[<- he];simpa using this);unfold storeVar;simp only[Sem.run_bind,hT.JH,Result.andThen_ok];all_goals simp_all[hs,at']
theorem Ahk {t:Nat} {x y:Operand} (hC:TOk P C) (hS:Sim V0 O0 w0 O m st a w) (hd:o.dst=none) (ho:o.op= .store t x y) {fet:Fet} (hf:Jm st.Dk fet) {q off:Nat} {v':A} (hx:DI O st.Dk m w (a.eval x) (.ptr q off)) (hy:DI O st.Dk m w (a.eval y) v')
 (hids: ∀ i∈v'.ids,i∈st.ids\/(Dy st.Dk i).isSome)
 (hok:D8 (Qn C fet t (.ptr q off) v').ok) (hfr: ∀ p∈(Qn C fet t (.ptr q off) v').new,st.fresh p.1=true) (hnd:nodup ((Qn C fet t (.ptr q off) v').new.map (·.1))=true):Good P V0 O0 w0 (apply st o (Qn C fet t (.ptr q off) v')) o a w:=by
 intro next Q hn
 have hF:FOk O st.Dk m w fet:=fun q x h=>⟨hf q x h,hS.Dk q x (hf q x h)⟩
 unfold Qn at *
 obtain⟨ti,ht,he⟩:=Eu hok;rw[he]at hok hfr hnd hn;clear he;dsimp only at hok hfr hnd hn;obtain⟨cs,hcs,he⟩:=DY hok;rw[he]at hok hfr hnd hn;clear he;obtain⟨h1,h2⟩:=hok.cons;obtain⟨h2,h3⟩:=h2.cons;have h2:=Nat.eq_of_beq_eq_true h2;obtain⟨h3,h30⟩:=h3.cons;have h3:=Nat.le_of_ble_eq_true h3;have h30:0<ti.cs.length:=by simpa [Nat.blt_eq]using h30.cons.1
 have hT:=hC.is ht;obtain⟨b,base,g1,g2,g3⟩:=hx.ptr hF (FK hcs);have hq:=hf _ _ (FK hcs);have hvc:=hy.cells h1;have hvs:v'.cells.length=ti.cs.length:=h2;have hsz:(a.eval y).cells.size=ti.cs.length:=by rw[hvc.1,h2]
 have hr:(execOp a.eval o).run P w= .ok .skip (w.setCells b (base+off) (a.eval y).cells.toList):=by
  have:=yS (P:=P) (w:=w) (b:=b) (k:=base+off) hT hsz (fun j hj=>(hvc.2 j (by rw[<- hvc.1];exact hj)).one) (fun j hj=>by
   obtain⟨_,_,u,g4,_⟩:=g3 (off+j) (by omega);rw[Nat.add_assoc,g4];rfl) (fun j hj=>by
   obtain⟨_,g4,_⟩:=g3 (off+j) (by omega);rw[Nat.add_assoc];exact g4)
  simp only[execOp,ho,Instr.storeAt,Instr.sureAddr,g2,Sem.run_bind,Sem.run_pure,Result.andThen_ok,this]
 unfold Oper.wp;rw[hr,Oper.upon_skip];obtain⟨_,_,u0,hu0,_⟩:=g3 off (by omega)
 obtain⟨c,e,fr,hblk⟩: ∃ c e fr,w.heap[b]? =some (.cells c e fr):=by
  unfold World.cell? at hu0;dsimp only at hu0;split at hu0
  ·rename_i c e fr hh;exact⟨c,e,fr,hh⟩
  ·cases hu0
 have hcell: ∀ k u,w.cell? (at' b k)=some u->c[k]? =some u:=by intro k u hu;simp only[World.cell?,hblk]at hu;simpa using hu
 have hend:base+off+(a.eval y).cells.toList.length<=c.size:=by rw[Array.length_toList,hsz];obtain⟨_,_,u,hu,_⟩:=g3 (off+(ti.cs.length - 1)) (by omega);have:=hcell _ _ hu;have:=(Array.getElem?_eq_some_iff.1 this).1;omega
 obtain⟨c',k1,k2,k3,k4,k5,k6,k7,k8⟩:=X4 b (a.eval y).cells.toList (base+off) w hblk hend;rw[Array.length_toList,hsz]at k3;have hout: ∀ k,(k<base+off\/base+off+ti.cs.length<=k)->c'[k]? =c[k]? :=by all_goals grind[getD_eq]
 have hown: ∀ k,base+off<=k->k<base+off+ti.cs.length->O b k=some q:=by intro k hk1 hk2;have:=(g3 (k - base) (by omega)).1;rwa [show base+(k - base)=k from by omega]at this
 let w':=w.setCells b (base+off) (a.eval y).cells.toList
 have hM:Moves O (fun i=>i=q) w w':=by
  refine Moves.row k6 k7 k8 k5 hblk k1 k4 k2 (fun k hk=>hout k ?_) (.inl ⟨base+off,q,?_,hown _ (Nat.le_refl _) (by omega),rfl⟩)
  ·rcases Nat.lt_or_ge k (base+off)with h | h
   ·exact .inl h
   ·right;rcases Nat.lt_or_ge k (base+off+ti.cs.length)with h' | h'
    ·exact absurd rfl (hk q (hown k h h'))
    ·exact h'
  ·rw[Array.length_toList,hsz]at hend;omega
 have hP:Passes O O (fun i=>i=q) w.heap.size:=⟨fun _ _ _ h=>h,fun _ _ _ _ h _=>h⟩
 have hpr:=hM.Eg hP;let ad:=Fe (Gx fet q+1+off) ti.cs v'.cells;let m':Nat->Value:=fun i=>if has (ad.2.map (·.1)) i then .slice none 0 0 else m i;let Nw:Nat->Prop:=fun i=> ∃ p∈ad.2,p.1=i;have hNw: ∀ i,Nw i->Kq st i:=by rintro i ⟨p,hp,rfl⟩;exact GU (hfr p hp)
 have hm_not: ∀ i,¬ Nw i->m' i=m i:=by intro i hi;refine if_neg (fun h=>hi ?_);obtain⟨p,hp,hpe⟩:=List.mem_map.1 (JA.1 h);exact⟨p,hp,hpe⟩
 have hmad: ∀ p∈ad.2,m' p.1= .slice none 0 0:=fun p hp=>if_pos (JA.2 (List.mem_map.2 ⟨p,hp,rfl⟩));have hqN: ¬ Nw q:=fun h=>by rw[(hNw q h).2]at hq;cases hq
 let objs':=DJ (Es (DJ st.Dk [(q,.box (splice cs off ad.1))]) []) ad.2;have hnewO: ∀ p∈ad.2,Dy objs' p.1=some p.2:=fun p hp=>l9 hnd (by exact hp)
 have hget: ∀ i z,Dy objs' i=some z->(i,z)∈ad.2\/(¬ Nw i/\i=q/\z= .box (splice cs off ad.1))\/(¬ Nw i/\i≠q/\Dy st.Dk i=some z):=by
  intro i z hz;rcases TG hz with h | ⟨hno,_,h⟩
  ·exact .inl h
  ·have hni: ¬ Nw i:=by rintro ⟨p,hp,rfl⟩;exact hno p.2 hp
   rcases h with h | ⟨hno',h⟩
   ·simp only[List.mem_singleton]at h;injection h with e1 e2;exact .inr (.inl ⟨hni,e1,e2⟩)
   ·exact .inr (.inr ⟨hni,fun hiq=>hno' (.box (splice cs off ad.1)) (by rw[hiq];exact List.mem_singleton_self _),h⟩)
 have hE:LY st.Dk m objs' m' Nw:=by
  intro i z hz;rcases hget i z hz with h | ⟨hni,h1',h2'⟩ | ⟨hni,_,h⟩
  ·exact .inl ⟨_,h,rfl⟩
  ·subst h1';subst h2';exact .inr ⟨_,hq,rfl,hm_not _ hni⟩
  ·exact .inr ⟨z,h,rfl,hm_not _ hni⟩
 have hadl:ad.1.length=ti.cs.length:=by rw[(XX ti.cs v'.cells (Gx fet q+1+off)).1,hvs]
 have happ:apply st o {ok:=[v'.isVal,Nat.beq v'.cells.length ti.cs.length,Nat.ble (off+ti.cs.length) cs.length,Nat.blt 0 ti.cs.length],val:=.undef,upd:=[(q,.box (splice cs off ad.1))],new:=ad.2}= {tmps:=put st.tmps none .undef,Dk:=objs'}:=by unfold apply;rw[hd]
 refine hn O m' _ _ ?_;rw[happ,hd];refine hS.next (st':= {tmps:=put st.tmps none .undef,Dk:=objs'}) (d:=none) (x:=.undef) (T:=fun i=>i=q) (Nw:=Nw) hM hP (fun b k _ h=>h) hE (fun n hn'=>(hNw n hn').both) (fun r hr=>by rw[hr,hq];rfl) (fun i z hz=> ?_) rfl (fun h=>absurd rfl h);rcases hget i z hz with h | ⟨hni,h1',h2'⟩ | ⟨hni,hiq,h⟩
 ·right;obtain⟨⟨e',sz',h4⟩,_⟩:=(XX ti.cs v'.cells (Gx fet q+1+off)).2.2 _ h;dsimp only at h4;subst h4;exact⟨⟨by simp [Sl.es],.inl ⟨trivial,rfl,hmad _ h⟩⟩,(hNw _ ⟨_,h,rfl⟩).ne⟩
 ·right;subst h1';subst h2'
  have hcs':MJ O objs' m' w' (a.eval y).cells ad.1:=hvc.AkC (ks:=ti.cs) (id:=Gx fet i+1+off) hpr hE (fun j hj r hr' hn'=>by
   rcases hids r (uP h1 hj hr')with hh | hh
   ·exact(hNw r hn').1 hh
   ·rw[(hNw r hn').2]at hh;cases hh) (fun p hp=>⟨hnewO p hp,hmad p hp⟩)
  refine⟨⟨b,base,by rw[hm_not _ hni];exact g1,fun j hj=> ?_⟩,hS.ids _ _ hq⟩;rw[X6 _ _ _ (by rw[hadl];omega)]at hj;obtain⟨g4,g5,u,g6,g7⟩:=g3 j hj;refine⟨g4,by rw[hM.frozen (cell_lt g6)];exact g5,?_⟩;rw[gB _ _ _ _ (by rw[hadl];omega),hadl];have hcell': ∀ k,w'.cell? (at' b k)=c'[k]? :=by intro k;simp only[World.cell?];rw[k1];rfl
  rw[hcell'];have hjs:base+j<c.size:=(Array.getElem?_eq_some_iff.1 (hcell _ _ g6)).1;by_cases hin:off<=j/\j<off+ti.cs.length
  ·rw[if_pos hin];refine⟨_,getD_eq (by omega),?_⟩;rw[k3,if_pos (by omega)];have e1:(a.eval y).cells.toList.getD (base+j - (base+off)) undef=(a.eval y).cells.getD (j - off) undef:=by rw[Array.getD_eq_getD_getElem?,List.getD_eq_getElem?_getD,Array.getElem?_toList,show base+j - (base+off)=j - off from by omega]
   rw[e1];exact hcs'.2 (j - off) (by rw[hadl];omega)
  ·rw[if_neg hin,hout _ (by omega)];exact⟨u,hcell _ _ g6,g7.step hpr hE (fun r hr' hn'=>(hNw r hn').1 (Uh hq (Ou hj hr')))⟩
 ·exact .inl ⟨hiq,h,hm_not _ hni⟩
end
end Go.Proofs.YtfgdgdnlglejbaaGreatDoor.Vm
namespace Go.Proofs.YtfgdgdnlglejbaaGreatDoor.Vm
open Classical
section
variable {P:Program} {C:Ctx} {V0:Nat->Value} {O0 O:Own} {w0 w:World} {m:Nat->Value} {st:St} {a:Act} {o:Oper}
theorem yR (hS:Sim V0 O0 w0 O m st a w) {q e g cap k0:Nat} {l l':Sl} {cur:Array Value} {vs:List Value} {xs:List A}
 (hq:Dy st.Dk q=some (.arr e false l)) (hm:m q= .slice (some (at' g 0)) l.es.length cap) (hg:Hu w g cur e) (hln:l'.es.length=l.es.length) (hls:l'.sz=l.sz) (hle:k0+xs.length<=l.es.length*l.sz) (hl:vs.length=xs.length) (h0:0<xs.length)
 (hel: ∀ r j,r<l.es.length->j<l.sz->(l'.es.getD r []).getD j .undef=if k0<=r*l.sz+j/\r*l.sz+j<k0+xs.length then xs.getD (r*l.sz+j - k0) .undef else(l.es.getD r []).getD j .undef)
 (hv: ∀ j,j<xs.length->D6 O w (vs.getD j undef) (xs.getD j .undef)) :
 Sim V0 O0 w0 O m {st with Dk:=FB st.Dk q (.arr e false l')} a (w.setCells g k0 vs):=by
 obtain⟨hsz,hr⟩:=hS.Dk q _ hq
 obtain⟨g',cap',cur',h2,h3,h4,h5,h6,h7,h8,h9⟩: ∃ g' cap' cur',m q= .slice (some (at' g' 0)) l.es.length cap'/\Hu w g' cur' e/\l.es.length<=cap'/\cap'<=maxLen/\cur'.size=cap'*l.sz /\
  (∀ i j,i<l.es.length->j<l.sz-> ∃ u,cur'[i*l.sz+j]? =some u/\D6 O w u ((l.es.getD i []).getD j .undef))/\(∀ k,k<cur'.size->l.es.length*l.sz<=k->O g' k=some q)/\(∀ k,k<l.es.length*l.sz->O g' k=if false then none else some q):=by
  rcases hr with ⟨_,_,h⟩ | ⟨_,h⟩
  ·rw[hm]at h;cases h
  ·exact h
 rw[hm]at h2;injection h2 with h2 _ hcc;injection h2 with h2;injection h2 with h2;subst h2;subst hcc;obtain⟨h3,_⟩:=hg.inj h3;subst h3;obtain⟨fr,hg,hfr0⟩:=hg;have hmul:l.es.length*l.sz<=cap*l.sz:=Nat.mul_le_mul_right _ h4;obtain⟨c',k1,k2,k3,k4,k5,k6,k7,k8⟩:=X4 g vs k0 w hg (by rw[hl];omega);rw[hl]at k3;let w':=w.setCells g k0 vs
 have hout: ∀ k,(k<k0\/k0+xs.length<=k)->c'[k]? =cur[k]? :=by
  intro k hk;by_cases hks:k<cur.size
  ·have:=k3 k;rw[if_neg (by omega)]at this;rw[getD_eq (by omega),getD_eq hks,this]
  ·rw[Array.getElem?_eq_none (by omega),Array.getElem?_eq_none (by omega)]
 have hown: ∀ k,k<l.es.length*l.sz->O g k=some q:=by intro k hk;simpa using h9 k hk
 have hM:Moves O (fun i=>i=q) w w':=by
  refine Moves.row k6 k7 k8 k5 hg k1 k4 k2 (fun k hk=>hout k ?_) (.inl ⟨k0,q,by omega,hown _ (by omega),rfl⟩);rcases Nat.lt_or_ge k k0 with h | h
  ·exact .inl h
  ·right;rcases Nat.lt_or_ge k (k0+xs.length)with h' | h'
   ·exact absurd rfl (hk q (hown k (by omega)))
   ·exact h'
 have hP:Passes O O (fun i=>i=q) w.heap.size:=⟨fun _ _ _ h=>h,fun _ _ _ _ h _=>h⟩
 have hpr:=hM.Eg hP
 have hE:LY st.Dk m (FB st.Dk q (.arr e false l')) m (fun _=>False):=by
  intro r y hy;rw[Ew]at hy;by_cases hrq:r=q
  ·subst hrq;rw[if_pos rfl]at hy;injection hy with hy;subst hy;exact .inr ⟨_,hq,by simp [Obj.shp,hln,hls],rfl⟩
  ·rw[if_neg hrq]at hy;exact .inr ⟨y,hy,rfl,rfl⟩
 have:=hS.next (st':= {st with Dk:=FB st.Dk q (.arr e false l')}) (d:=none) (v:=undef) (x:=.undef) (T:=fun i=>i=q) (Nw:=fun _=>False) hM hP (fun b k _ h=>h) hE (fun _ h=>h.elim) (fun r hr=>by rw[hr,hq];rfl) (fun r y hy=> ?_) rfl (fun h=>absurd rfl h)
 ·exact this
 ·rw[Ew]at hy;by_cases hrq:r=q
  ·right;subst hrq;rw[if_pos rfl]at hy;injection hy with hy;subst hy;refine⟨?_,hS.ids _ _ hq⟩;simp only[Fp];rw[hln];refine⟨fun x hx=>Sl.es_len _ x hx,.inr ⟨trivial,g,cap,c',hm,⟨fr,k1,by rw[k2];exact hfr0⟩,h4,h5,by rw[k2,hls];exact h6,fun r' j hr' hj=> ?_,fun k hk hge=> ?_,fun k hk=> ?_⟩⟩
   ·rw[hls]at hj ⊢;obtain⟨u,h10,h11⟩:=h7 r' j hr' hj;have hlt:r'*l.sz+j<l.es.length*l.sz:=by have:(r'+1)*l.sz<=l.es.length*l.sz:=Nat.mul_le_mul_right _ hr';rw[Nat.add_mul]at this;omega
    rw[hel r' j hr' hj];by_cases hin:k0<=r'*l.sz+j/\r'*l.sz+j<k0+xs.length
    ·rw[if_pos hin];refine⟨_,getD_eq (by omega),?_⟩;rw[k3,if_pos hin];exact(hv _ (by omega)).Eg hpr
    ·rw[if_neg hin,hout _ (by omega)];exact⟨u,h10,h11.Eg hpr⟩
   ·rw[hls]at hge;rw[k2]at hk;exact h8 k hk hge
   ·rw[hls]at hk;simpa using hown k hk
  ·rw[if_neg hrq]at hy;exact .inl ⟨hrq,hy,rfl⟩
theorem Amg {t:Ty} {cs:List A} (h:(Yw t cs).1=true):(⟨t,(Yw t cs).2⟩:Sl).es=cs.map fun c=>[c]:=by simp only[Yw,Sl.es,List.map_map];refine List.map_congr_left fun c hc=> ?_;exact Ty.Ox t [c] (List.all_eq_true.1 h c hc)
theorem Akw: ∀(l:List (Nat×Obj)) (u:List (Nat×Obj)) (p:Nat×Obj),DJ l (u++[p])=FB (DJ l u) p.1 p.2:=by
 intro l u p
 induction u generalizing l with
 | nil=>rfl
 | cons s u ih=>exact ih _
theorem Ahl {t:Nat} {x y:Operand} (hC:TOk P C) (hS:Sim V0 O0 w0 O m st a w) (hd:o.dst=none) (ho:o.op= .store t x y) {fet:Fet} (hf:Jm st.Dk fet) {q i off:Nat} {v':A} (hx:DI O st.Dk m w (a.eval x) (.Em q i off)) (hy:DI O st.Dk m w (a.eval y) v')
 (hok:D8 (Qn C fet t (.Em q i off) v').ok):Good P V0 O0 w0 (apply st o (Qn C fet t (.Em q i off) v')) o a w:=by
 intro next Q hn
 unfold Qn at *
 obtain⟨ti,ht,he⟩:=Eu hok;rw[he]at hok hn;clear he;dsimp only at hok hn;obtain⟨r,hr,he⟩:=DY hok;rw[he]at hok hn;clear he
 have main: ∀(l':Sl) (δ :Dl),D8 (ED fet ti.cs v'.cells).1->r.frz=false->has ((ED fet ti.cs v'.cells).2.2.map (·.1)) q=false->i<r.l.es.length->i*r.l.sz+off+ti.cs.length<=r.l.es.length*r.l.sz->0<ti.cs.length ->
  l'.es.length=r.l.es.length->l'.sz=r.l.sz->(∀ r' j,r'<r.l.es.length->j<r.l.sz->(l'.es.getD r' []).getD j .undef=if i*r.l.sz+off<=r'*r.l.sz+j/\r'*r.l.sz+j<i*r.l.sz+off+(ED fet ti.cs v'.cells).2.1.length then(ED fet ti.cs v'.cells).2.1.getD (r'*r.l.sz+j - (i*r.l.sz+off)) .undef else(r.l.es.getD r' []).getD j .undef) ->
  δ = {ok:= δ.ok,val:=.undef,upd:=(ED fet ti.cs v'.cells).2.2++[(q,.arr r.e false l')]}->(∀ O' m' a' w',Sim V0 O0 w0 O' m' (apply st o δ) a' w'->next a' w')->o.wp P a w next Q:=by
  intro l' δ hok1 h1 hno h3 hrow' h4 hln hls hel hδ hn;have hT:=hC.is ht;have hval:=oJ hok1;have hvc:=hy.cells hval;obtain⟨g1,g2,g3,g4⟩:=Qk hf ti.cs v'.cells (fun j=>(a.eval y).cells.getD j undef) (fun j hj=>hvc.2 j hj) hok1;obtain⟨O1,hS1,hp1,hle1,hv1,hE1,_⟩:=hS.freezes _ g3;have hq:=hf _ _ (Hw hr);have hqU: ∀ p∈(ED fet ti.cs v'.cells).2.2,p.1≠q:=by intro p hp he;have:has ((ED fet ti.cs v'.cells).2.2.map (·.1)) q=true:=JA.2 (List.mem_map.2 ⟨p,hp,he⟩);rw[this]at hno;cases hno
  have hq1:Dy (DJ st.Dk (ED fet ti.cs v'.cells).2.2) q=some (.arr r.e false r.l):=by rw[Gp _ _ _ hqU,hq,h1]
  have hx':DR O st.Dk m w (a.eval x) (.Em q i off):=hx;obtain⟨_,hx'⟩:=hx';rw[hq]at hx';simp only[Option.map_some,Obj.shp]at hx';obtain⟨g,n',cap,h5,h6⟩:=hx' h3;obtain⟨hsz,hr'⟩:=hS1.Dk q _ hq1
  obtain⟨cur,h7,h8⟩: ∃ cur,m q= .slice (some (at' g 0)) r.l.es.length cap/\Hu w g cur r.e/\cur.size=cap*r.l.sz/\r.l.es.length<=cap:=by
   rcases hr' with ⟨_,h9,_⟩ | ⟨h9,g',cap',cur,h10,h11,h12,h13,h14,_⟩
   ·rw[h9]at h3;simp at h3
   ·have h10':=h10;rw[h5]at h10';injection h10' with q1 q2 q3;injection q1 with q1;injection q1 with q1;subst q1;subst q3;exact⟨cur,h10,h11,h14,h12⟩
  obtain⟨h8,h9,h10⟩:=h8;have hsz2:(a.eval y).cells.size=ti.cs.length:=by rw[hvc.1,g2]
  have hrow:i*r.l.sz+off+ti.cs.length<=cur.size:=by have:r.l.es.length*r.l.sz<=cap*r.l.sz:=Nat.mul_le_mul_right _ h10;omega
  have hrun:(execOp a.eval o).run P w= .ok .skip (w.setCells g (i*r.l.sz+off) (a.eval y).cells.toList):=by
   have:=yS (P:=P) (w:=w) (b:=g) (k:=i*r.l.sz+off) hT hsz2 (fun j hj=>(hvc.2 j (by rw[<- hvc.1];exact hj)).one) (fun j hj=>by
    have hlt:i*r.l.sz+off+j<cur.size:=by omega
    rw[h8.cell];simp [hlt]) (fun j hj=>h8.frozen (by omega))
   simp only[execOp,ho,Instr.storeAt,Instr.sureAddr,h6,Sem.run_bind,Sem.run_pure,Result.andThen_ok,this]
  unfold Oper.wp;rw[hrun,Oper.upon_skip]
  have hfin:=yR hS1 (k0:=i*r.l.sz+off) (l':=l') (vs:=(a.eval y).cells.toList) (xs:=(ED fet ti.cs v'.cells).2.1) hq1 h7 h8 hln hls (by rw[g1];exact hrow') (by rw[Array.length_toList,hsz2,g1]) (by rw[g1];exact h4) hel (fun j hj=>by
   rw[g1]at hj;have e1:(a.eval y).cells.toList.getD j undef=(a.eval y).cells.getD j undef:=by rw[Array.getD_eq_getD_getElem?,List.getD_eq_getElem?_getD,Array.getElem?_toList]
   rw[e1];exact g4 hp1 hv1 j hj)
  refine hn O1 m _ _ ?_;have happ:apply st o δ = {tmps:=st.tmps,Dk:=FB (DJ st.Dk (ED fet ti.cs v'.cells).2.2) q (.arr r.e false l')}:=by rw[hδ];unfold apply;rw[hd,Akw];rfl
  rw[happ,hd];exact hfin
 cases hrow:isRow ti r.l i off with
 | true =>
  rw[hrow]at hok hn;simp only[cond_true]at hok hn;obtain⟨hok1,hok2⟩:=hok.append;obtain⟨h1,h2⟩:=hok2.cons;obtain⟨hset,h2⟩:=h2.cons;obtain⟨h2,h3⟩:=h2.cons;obtain⟨_,h3⟩:=h3.cons;obtain⟨h4,hno⟩:=h3.cons;have hno:=hno.cons.1;simp only[isRow,Bool.and_eq_true]at hrow;obtain⟨⟨⟨r4,r1⟩,r3⟩,r2⟩:=hrow;have r1:=Nat.eq_of_beq_eq_true r1;have r2:=Nat.eq_of_beq_eq_true r2;have r3:=Nat.eq_of_beq_eq_true r3;have h2:=Nat.eq_of_beq_eq_true h2;have h4:0<ti.cs.length:=by simpa [Nat.blt_eq]using h4
  have hpl:(ED fet ti.cs v'.cells).2.1.length=ti.cs.length:=(Qk hf ti.cs v'.cells (fun j=>(a.eval y).cells.getD j undef) (fun j hj=>(hy.cells (oJ hok1)).2 j hj) hok1).1;have hes:=Amg hset;have hxl:ti.cs.length=r.l.es.length:=by rw[Sl.EJ];exact h2
  subst r2;subst r3;refine main ⟨r.l.t,(Yw r.l.t (ED fet ti.cs v'.cells).2.1).2⟩ _ hok1 (by simpa using h1) (by simpa using hno) (by omega) (by rw[r1];omega) h4 (by rw[hes,List.length_map,hpl,hxl]) rfl (fun r' j hr' hj=> ?_) rfl hn;rw[r1]at hj ⊢;have:j=0:=by omega
  subst this;rw[hes,if_pos (by omega)];have e:r'*1+0 - (0*1+0)=r':=by omega
  rw[e];simp [List.getD_eq_getElem?_getD,show r'<(ED fet ti.cs v'.cells).2.1.length by omega]
 | false =>
  rw[hrow]at hok hn;simp only[cond_false]at hok hn;obtain⟨hok1,hok2⟩:=hok.append;obtain⟨h1,h2⟩:=hok2.cons;obtain⟨hset,h2⟩:=h2.cons;obtain⟨h2,h3⟩:=h2.cons;obtain⟨h3,h4⟩:=h3.cons;obtain⟨h4,hno⟩:=h4.cons;have hno:=hno.cons.1;have h4:0<ti.cs.length:=by simpa [Nat.blt_eq]using h4
  have h2:=Nat.le_of_ble_eq_true h2;have h3':i<r.l.xs.length:=by simpa using h3
  have h3:i<r.l.es.length:=by rw[Sl.EJ];exact h3'
  have hpl:(ED fet ti.cs v'.cells).2.1.length=ti.cs.length:=(Qk hf ti.cs v'.cells (fun j=>(a.eval y).cells.getD j undef) (fun j hj=>(hy.cells (oJ hok1)).2 j hj) hok1).1;have hes:=Sl.Aty r.l h3' hset;have hmul: ∀ {x y:Nat},x<y->x*r.l.sz+r.l.sz<=y*r.l.sz:=fun h=>by have:=Nat.mul_le_mul_right r.l.sz h;rw[Nat.succ_mul]at this;exact this
  refine main (r.l.set i off (ED fet ti.cs v'.cells).2.1).2 _ hok1 (by simpa using h1) (by simpa using hno) h3 (by have:=hmul h3;omega) h4 (by rw[hes,List.length_set]) rfl (fun r' j hr' hj=> ?_) rfl hn;have hei:(r.l.es.getD i []).length=r.l.sz:=Sl.es_len _ _ (by rw[List.getD_eq_getElem?_getD,List.getElem?_eq_getElem h3];simp);rw[hes];by_cases hri:r'=i
  ·subst hri;have e1:(r.l.es.set r' (splice (r.l.es.getD r' []) off (ED fet ti.cs v'.cells).2.1)).getD r' []=splice (r.l.es.getD r' []) off (ED fet ti.cs v'.cells).2.1:=by simp [List.getD_eq_getElem?_getD,hr']
   rw[e1,gB _ _ _ _ (by omega)];by_cases hin:off<=j/\j<off+(ED fet ti.cs v'.cells).2.1.length
   ·rw[if_pos hin,if_pos (by omega),show r'*r.l.sz+j - (r'*r.l.sz+off)=j - off from by omega]
   ·rw[if_neg hin,if_neg (by omega)]
  ·have e1:(r.l.es.set i (splice (r.l.es.getD i []) off (ED fet ti.cs v'.cells).2.1)).getD r' []=r.l.es.getD r' []:=by
    simp only[List.getD_eq_getElem?_getD,List.getElem?_set];rw[if_neg (fun h=>hri h.symm)]
   rw[e1,if_neg ?_];rcases Nat.lt_or_gt_of_ne hri with h | h
   ·have:=hmul h;omega
   ·have:=hmul h;omega
theorem Apn {fet:Fet} {t:Nat} {x l:Operand} (hC:TOk P C) (hf:FOk O st.Dk m w fet) (ho:o.op= .slice t x (some l) none none) {x' l':A} (hx:DI O st.Dk m w (a.eval x) x') (hl:DI O st.Dk m w (a.eval l) l')
 (hok:D8 (pM C fet t x' l').ok):Pure P O st.Dk m a w o (pM C fet t x' l'):=by
 unfold pM at hok ⊢;obtain⟨ti,ht,he⟩:=Eu hok;rw[he]at hok ⊢;clear he;cases x' with
 | own q =>
  dsimp only at hok ⊢;obtain⟨ro,hro,he⟩:=DY hok;rw[he]at hok ⊢;clear he;obtain⟨n,hn,he⟩:=DY hok;rw[he]at hok ⊢;clear he;obtain⟨e,hel,he⟩:=DY hok;rw[he]at hok ⊢;clear he;obtain⟨te,hte,he⟩:=Eu hok;rw[he]at hok ⊢;clear he;obtain⟨h1,h2⟩:=hok.cons;obtain⟨h2,h3⟩:=h2.cons;have h3:=h3.cons.1;have h1:=Nat.eq_of_beq_eq_true h1;have h2:0<=n:=by simpa using h2
  obtain⟨k,rfl⟩:=Int.eq_ofNat_of_zero_le h2
  have h3:k<ro.l.es.length:=by
   have:(k:Int)<(ro.l.xs.length:Int):=by simpa using h3
   rw[Sl.EJ];omega
  obtain⟨kk,rfl⟩:=Qd hn;have hl:=hl.int;obtain⟨h4,_,h5⟩:=hx.own hf (Hw hro);have hg:=(hf _ _ (Hw hro)).1;rcases h5 with ⟨_,h6,_⟩ | ⟨_,g,cap,cur,h6,h7,h8,_⟩
  ·rw[h6]at h3;simp at h3
  ·have hd:=Om hel;have hu:=(hC.is ht).run w;rw[hd]at hu;have hs:=(hC.is hte).JH w
   have hb:(Instr.sliceBounds true ro.l.es.length cap (some (a.eval l)) none none).run P w= .ok (k,ro.l.es.length,cap) w:=by
    have:k<=ro.l.es.length:=by omega
    simp [Instr.sliceBounds,Instr.sliceBound,hl,asIntOf,this]
   refine⟨⟨.slice (some (at' g (k*ro.l.sz))) (ro.l.es.length - k) (cap - k),?_,?_⟩,rfl,rfl,rfl⟩
   ·have hne: ¬ cap=k:=by omega
    simp only[execOp,ho,Instr.sliceAt,Sem.run_bind,hu,Result.andThen_ok,Instr.slice,h4,h6,Option.map_none,Option.map_some,hb,hs,Sem.run_pure,if_neg hne,<- h1];simp [MK]
   ·show DR O st.Dk m w _ (.osl q k);simp only[DR,hg,Option.map_some,Obj.shp];exact⟨rfl,fun _=>⟨g,cap,h6,rfl⟩⟩
 | _=>exact(DU hok).elim
theorem AnY {c:Call} {x y:Operand} {ts':List Nat} (hC:TOk P C) (hS:Sim V0 O0 w0 O m st a w) (ho:o.op= .call c) (hcal:c.callee= .builtin .copy) (hargs:c.args= #[x,y]) (hts:c.argTypes.toList=ts') {fet:Fet} (hf:Jm st.Dk fet) {x' y':A}
 (hx:DI O st.Dk m w (a.eval x) x') (hy:DI O st.Dk m w (a.eval y) y') (hok:D8 (Ahw C fet ts' x' y').ok):Good P V0 O0 w0 (apply st o (Ahw C fet ts' x' y')) o a w:=by
 intro next Q hn
 unfold Ahw at *
 split at hok
 ·rename_i t u;dsimp only at hn;obtain⟨ti,e,te,ht,hte,hd',he⟩:=Ti hok;rw[he]at hok hn;clear he;cases x' with
  | osl q k =>
   dsimp only at hok hn;obtain⟨r,hr,he⟩:=DY hok;rw[he]at hok hn;clear he;obtain⟨ys,hys,he⟩:=DY hok;rw[he]at hok hn;clear he;obtain⟨s,hs,he⟩:=DY hok;rw[he]at hok hn;clear he;obtain⟨h1,h2⟩:=hok.cons;obtain⟨h2,h3⟩:=h2.cons;obtain⟨h3,h4⟩:=h3.cons;obtain⟨h4,h5⟩:=h4.cons;have h5:k+s.length<=ys.length:=by simpa using h5.cons.1
   have h40:0<s.length:=by simpa using h4
   have hz:r.frz=false:=by simpa using h3
   clear h3;have h2:=Nat.eq_of_beq_eq_true h2;have:=yT hs;subst this;have hrl:=Sl.Lc hys;clear hys;obtain⟨ys,rfl⟩: ∃ zs:List Int,zs=ys:=⟨ys,rfl⟩
   obtain⟨re,rf,rl⟩:=r;have h5':k+s.length<=ys.length:=h5;clear h5;dsimp only at hrl hz hn;subst hrl;subst hz;have hq:=hf q _ (Hw hr);dsimp only at hq;have hes: ∀ zs:List Int,(⟨Nv,zs⟩:Sl).es=zs.map fun z=>[A.int .u8 z]:=fun zs=>rfl;have hlen:(⟨Nv,ys⟩:Sl).es.length=ys.length:=by rw[hes,List.length_map]
   obtain⟨bs,hb,hbl⟩:=hy.str;have hsz:bs.size=s.length:=by rw[OT,hbl]
   obtain⟨_,hrow⟩:=hS.Dk q _ hq;have hx':DR O st.Dk m w (a.eval x) (.osl q k):=hx;simp only[DR,hq,Option.map_some,Obj.shp]at hx';obtain⟨g,cap,g1,g2⟩:=hx'.2 (by rw[hlen];omega);rcases hrow with ⟨_,h6,_⟩ | ⟨_,g',cap',cur,k1,k2,k3,k4,k5,k6,k7,k8⟩
   ·rw[hes]at h6;have h6:=congrArg List.length h6;rw[List.length_map,List.length_nil]at h6;omega
   ·rw[g1]at k1;injection k1 with q1 q2 q3;injection q1 with q1;injection q1 with q1;subst q1;subst q3;have hszb:(⟨Nv,ys⟩:Sl).sz=1:=rfl;rw[hszb]at g2 k5 k7 k8;rw[hlen]at g2 k3 k7 k8;let vs:List Value:=bs.data.toList.map fun b=>Value.int .u8 (b.toNat:Int);have hvl:vs.length=s.length:=by show(List.map _ _).length=_;rw[List.length_map,<- hbl]
    have hfit:k+s.length<=cur.size:=by omega
    have hst:=run_storeCells_cells (P:=P) g k vs 0 w (fun j hj=>by
     rw[Nat.add_zero];have:k+j<cur.size:=by omega
     have:=k2.cell (k+j);rw[this,Array.getElem?_eq_getElem (by omega)];rfl) (fun j hj=>by rw[Nat.add_zero];exact k2.frozen (by omega)) (fun v hv=>by obtain⟨b,_,rfl⟩:=List.mem_map.1 hv;rfl)
    have hu:=(hC.is ht).run w;rw[hte]at hu;have hsize:=(hC.is hd').JH w;have hmin:Nat.min s.length (ys.length - k)=s.length:=Nat.min_eq_left (by omega);have hfc:(Builtin.firstCells te.cs.length s.length (.string bs)).run P w= .ok vs.toArray w:=by rw[<- hsz];simp [Builtin.firstCells,vs];rw[<- Array.toList_inj];simp
    have hat:c.argTypes= #[t,u]:=by have:=congrArg List.toArray hts;simpa using this
    have hrun:(execOp a.eval o).run P w= .ok (.value (.int .i64 (s.length:Int))) (w.setCells g k vs):=by simp only[execOp,ho,resolve,hcal,hargs,hat,invoke,builtin,Builtin.copy_];simp [hu,g2,hb,Builtin.lenOf,hsize,hsz];simp [hmin,hfc,hst,goInt]
    unfold Oper.wp;rw[hrun,Oper.upon_value];have hput:(fM ys k s).length=ys.length:=by unfold fM;simp;omega
    have hsim:=yR hS (k0:=k) (l':=⟨Nv,fM ys k s⟩) (vs:=vs) (xs:=s.map fun b=>A.int .u8 (b.toNat:Int)) hq g1 k2 (by rw[hes,hes,List.length_map,List.length_map,hput]) rfl (by rw[List.length_map,hlen,hszb];omega) (by rw[hvl,List.length_map]) (by rw[List.length_map];exact h40) (fun r' j hr' hj=>by
     rw[hszb]at hj ⊢;have:j=0:=by omega
     subst this;rw[hlen]at hr';have e1: ∀ zs:List Int,r'<zs.length->((⟨Nv,zs⟩:Sl).es.getD r' []).getD 0 .undef= .int .u8 (zs.getD r' 0):=by intro zs hz;rw[hes];simp [List.getD_eq_getElem?_getD,hz]
     rw[e1 _ (by rw[hput];exact hr'),e1 _ hr',List.length_map,Nat.mul_one,Nat.add_zero];unfold fM;rw[List.getD_eq_getElem?_getD,List.append_assoc,List.getElem?_append,List.length_take,Nat.min_eq_left (by omega)];by_cases h0:r'<k
     ·rw[if_pos h0,if_neg (by omega),List.getElem?_take_of_lt h0,<- List.getD_eq_getElem?_getD]
     ·rw[if_neg h0,List.getElem?_append,List.length_map];by_cases h7:r' - k<s.length
      ·rw[if_pos h7,if_pos (by omega)];simp [List.getD_eq_getElem?_getD,h7]
      ·rw[if_neg h7,if_neg (by omega),List.getElem?_drop,show k+s.length+(r' - k - s.length)=r' by omega,<- List.getD_eq_getElem?_getD]) (fun j hj=>by
     rw[List.length_map]at hj;have e1:vs.getD j undef= .int .u8 ((s.getD j 0).toNat:Int):=by simp [vs,List.getD_eq_getElem?_getD,hbl,hj]
     have e2:(s.map fun b=>A.int .u8 (b.toNat:Int)).getD j .undef= .int .u8 ((s.getD j 0).toNat:Int):=by simp [List.getD_eq_getElem?_getD,hj]
     rw[e1,e2];exact .int _ _)
    refine hn O m _ _ ?_;have hfin:=hsim.put o.dst (x:=.int .i64 (s.length:Int)) (v:=.int .i64 (s.length:Int)) (.mkInt _ _);exact hfin
  | _=>exact(DU hok).elim
 ·exact(DU hok).elim
end
