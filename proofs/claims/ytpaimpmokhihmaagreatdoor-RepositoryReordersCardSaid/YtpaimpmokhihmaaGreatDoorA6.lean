import Derived.Test.YtpaimpmokhihmaaGreatDoorA5
import Derived.Laws.OwnMore
import Derived.Laws.MakeOwn
set_option linter.all false
namespace Go.Proofs.YtpaimpmokhihmaaGreatDoor.Vm
open Classical
section
variable {P:Program} {C:Ctx} {V0:Nat->Value} {O0 O:Own} {w0 w:World} {m:Nat->Value} {st:St} {a:Act} {o:Oper}
theorem Q9 {δ :Dl} {d:Tmp} (hd:o.dst=some d):apply st o δ = {tmps:=st.tmps.set d δ.val,Jm:=J3 (JM (J3 st.Jm δ.upd) δ.del) δ.new}:=by unfold apply;rw[hd];rfl
theorem QT {t:Nat} {k:Nat->TI->Dl} (hok:Jv (elemOf C t k).ok): ∃ ti e te,C.T t=some ti/\ti.d= .slice e/\C.T e=some te/\elemOf C t k=k e te:=by
 unfold elemOf at *
 obtain⟨ti,ht,he⟩:=JI hok;rw[he]at hok ⊢;clear he;obtain⟨e,hel,he⟩:=J9 hok;rw[he]at hok ⊢;clear he;obtain⟨te,hte,he⟩:=JI hok;exact⟨ti,e,te,ht,Oj hel,hte,he⟩
theorem Afh {O':Own} {w':World} {fet:Fet} {te:TI} {ty:Ty} (hf:MV st.Jm fet) (hp:Lt O w O' w) (hw:w'=w): ∀(xs:List (Nat×A)) (ps:List (Nat×Value)) (vs:Array Value) (zs:List ty.Val),
 xs.length=ps.length->(∀(j:Nat) (x:Nat×A) (p:Nat×Value),xs[j]? =some x->ps[j]? =some p->p.1=x.1/\Jy O st.Jm m w p.2 x.2/\x.2.isVal=true) ->
 vs.size=zs.length*te.cs.length->Held O' w' vs te.cs.length (zs.map ty.cells)->Jv (LZ fet te ty xs zs).1 ->
 (∀ p∈(LZ fet te ty xs zs).2.2,∀ e l,p.2= .arr e true l->Jt O' w (m p.1) (.sl l)) ->
 (LZ fet te ty xs zs).2.1.length=zs.length/\ ∃ vs',Instr.fill (fun i=>some (i*te.cs.length,te.cs.length)) vs ps=some vs'/\vs'.size=vs.size/\Held O' w' vs' te.cs.length ((LZ fet te ty xs zs).2.1.map ty.cells):=by
 subst hw;intro xs
 induction xs with
 | nil =>
  intro ps vs zs hl _ hsz hh _ _;cases ps with
  | nil=>exact⟨rfl,vs,rfl,rfl,hh⟩
  | cons _ _=>simp at hl
 | cons x xs ih =>
  intro ps vs zs hl hr hsz hh hok hU;cases ps with
  | nil=>simp at hl
  | cons p ps =>
   obtain⟨i,x⟩:=x;obtain⟨i',v⟩:=p;obtain⟨h1,h2,hval⟩:=hr 0 (i,x) (i',v) rfl rfl;dsimp only at h1 h2 hval;subst h1;simp only[LZ]at hok hU ⊢;obtain⟨hok1,hok2⟩:=hok.append;obtain⟨hok0,hok1⟩:=hok1.append;obtain⟨hmk,hok1⟩:=hok1.cons;have hmk:=Ty.OY _ _ hmk;have hil':i'<zs.length:=by simpa [DZ]using hok1.cons.1
   have hset:(zs.set i' (ty.mk (JV fet te.cs x.cells).2.1).2).map ty.cells=(zs.map ty.cells).set i' (JV fet te.cs x.cells).2.1:=by rw[List.map_set,hmk]
   have hzl:zs.length=(zs.map ty.cells).length:=by simp
   rw[hzl]at hsz hil';generalize hes:zs.map ty.cells=es at *
   have hil:i'<es.length:=hil';have hcs:=h2.cells hval;obtain⟨g1,g2,g3,g4⟩:=PR hf te.cs x.cells (fun j=>v.cells.getD j undef) (fun j hj=>hcs.2 j hj) hok0;have g5:=g4 hp (fun p hp'=>hU p (Dx _ hp'));have hvsz:v.cells.size=te.cs.length:=by rw[hcs.1,g2]
   have hle:i'*te.cs.length+te.cs.length<=vs.size:=by rw[hsz];have:(i'+1)*te.cs.length<=es.length*te.cs.length:=DC _ hil;rw[DU]at this;omega
   have e0:v.cells.zipIdx.foldl (fun cs (c,j)=>cs.setIfInBounds (i'*te.cs.length+j) c) vs=(v.cells.toList.zipIdx 0).foldl (fun cs (p:Value×Nat)=>cs.setIfInBounds (i'*te.cs.length+p.2) p.1) vs:=by rw[<- Gn];simp
   have hl0:i'*te.cs.length+0+v.cells.toList.length<=vs.size:=by rw[Array.length_toList,hvsz];omega
   obtain⟨k1,_⟩:=Qd v.cells.toList 0 (i'*te.cs.length) vs 0 hl0;have k2:=fun j=>(Qd v.cells.toList 0 (i'*te.cs.length) vs j hl0).2;rw[<- e0]at k1
   have hh':Held O' w' (v.cells.zipIdx.foldl (fun cs (c,j)=>cs.setIfInBounds (i'*te.cs.length+j) c) vs) te.cs.length (es.set i' (JV fet te.cs x.cells).2.1):=by
    refine⟨fun y hy=> ?_,fun r j hrl hj=> ?_⟩
    .rcases FC hy with h | h
     .exact hh.1 y h
     .rw[h,g1]
    .rw[EO]at hrl;have hlt:r*te.cs.length+j<vs.size:=by rw[hsz];have:(r+1)*te.cs.length<=es.length*te.cs.length:=DC _ hrl;rw[DU]at this;omega
     have hk:=k2 (r*te.cs.length+j);rw[<- e0]at hk;by_cases hri:r=i'
     .subst hri;rw[Dw (by rw[Array.length_toList,hvsz];omega)]at hk;have e1:(es.set r (JV fet te.cs x.cells).2.1).getD r []=(JV fet te.cs x.cells).2.1:=by simp [Di,hil]
      refine⟨_,getD_eq,?_⟩;rw[hk,e1,show r*te.cs.length+j - (r*te.cs.length+0)=j from by omega];have e2:v.cells.toList.getD j undef=v.cells.getD j undef:=by rw[Dj,Di,DJ]
      rw[e2];exact g5 j hj
     .have hno: ¬(i'*te.cs.length+0<=r*te.cs.length+j/\r*te.cs.length+j<i'*te.cs.length+0+v.cells.toList.length):=by
       rw[Array.length_toList,hvsz];rintro ⟨ha,hb⟩;rcases Gp hri with h | h
       .have:(r+1)*te.cs.length<=i'*te.cs.length:=DC _ h;rw[DU]at this;omega
       .have:(i'+1)*te.cs.length<=r*te.cs.length:=DC _ h;rw[DU]at this;omega
      rw[Du hno]at hk;obtain⟨u,h3,h4⟩:=hh.2 r j hrl hj;refine⟨u,?_,?_⟩
      .rw[getD_eq,hk,<- getD_eq hlt];exact h3
      .have e1:(es.set i' (JV fet te.cs x.cells).2.1).getD r []=es.getD r []:=by
        simp only[Di,ED];rw[Du (fun h=>hri h.symm)]
       rw[e1];exact h4
   obtain⟨f1,vs',f2,f3,f4⟩:=ih ps _ (zs.set i' (ty.mk (JV fet te.cs x.cells).2.1).2) (by simpa using hl) (fun j x p hx hp=>hr (j+1) x p (by simpa using hx) (by simpa using hp)) (by rw[k1,hsz,EO,hzl]) (by rw[hset];exact hh') hok2
    (fun p hp'=>hU p (Dy _ hp'))
   refine⟨by rw[f1,EO],vs',?_,by rw[f3,k1],f4⟩;simp only[Instr.fill];have: ¬(v.cells.size≠te.cs.length||decide (i'*te.cs.length+v.cells.size>vs.size))=true:=by rw[hvsz];simp;omega
   rw[Du (by simpa using this)];exact f2
end
section
variable {P:Program} {C:Ctx} {V0:Nat->Value} {O0 O:Own} {w0 w:World} {m:Nat->Value} {st:St} {a:Act} {o:Oper}
theorem YZ {fet:Fet} {ks:List CK} {x:A} (hok:Jv (JV fet ks x.cells).1):x.isVal=true:=by
 have no: ∀ {y:A},(∀ k,(pur fet k y).1=[false])-> ¬ Jv (JV fet ks [y]).1:=by
  intro y h hh;cases ks with
  | nil=>simp_all[JV,Fet,CK,Jv]
  | cons k ks=>simp_all[JV,Fet,CK,Jv]
 cases x with
 | undef=>exact(no (fun k=>rfl) hok).elim
 | tup _=>exact(no (fun k=>rfl) hok).elim
 | usl _ _ _=>exact(no (fun k=>rfl) hok).elim
 | ump _=>exact(no (fun k=>rfl) hok).elim
 | box _=>exact(no (fun k=>rfl) hok).elim
 | cbx _ _=>exact(no (fun k=>rfl) hok).elim
 | cnd _ _=>exact(no (fun k=>rfl) hok).elim
 | _=>rfl
theorem Acs {fet:Fet} {te:TI} {ty:Ty} (hf:MV st.Jm fet): ∀(xs:List (Nat×A)) (zs:List ty.Val),(∀ x∈xs,∃ v,Jy O st.Jm m w v x.2)->Jv (LZ fet te ty xs zs).1->Frz st.Jm (LZ fet te ty xs zs).2.2/\ ∀ x∈xs,x.2.isVal=true:=by
 intro xs
 induction xs with
 | nil=>intro zs _ _;exact⟨(fun p hp=>by simp [LZ]at hp),fun x hx=>by cases hx⟩
 | cons x xs ih =>intro zs h hok;obtain⟨i,x⟩:=x;simp only[LZ]at hok ⊢;obtain⟨hok1,hok2⟩:=hok.append;obtain⟨hok0,_⟩:=hok1.append;have hv:=YZ hok0;obtain⟨v,hx⟩:=h (i,x) Dp;have hcs:=Jy.cells (show Jy O st.Jm m w v x from hx) hv;obtain⟨_,_,g3,_⟩:=PR hf te.cs x.cells (fun j=>v.cells.getD j undef) (fun j hj=>hcs.2 j hj) hok0;obtain⟨f1,f2⟩:=ih _ (fun y hy=>h y (Dq _ hy)) hok2;exact⟨g3.append f1,fun y hy=>by rcases Dz.1 hy with rfl | hy;exact hv;exact f2 y hy⟩
theorem UF: ∀(vs:List Value) (ks:List CK),JQ vs ks=true->ks.all CK.plain=true-> ∀ j,j<ks.length->Jt O w (vs.getD j undef) ((ks.map CK.MI).getD j .undef):=by
 intro vs ks h hp j hj;obtain⟨h1,h2⟩:=OQ (O:=O) (Jm:=[]) (m:=fun _=>undef) (w:=w) vs ks h;have h3:=h2 j hj;have hk:(ks.getD j .oth).plain=true:=by all_goals simp_all[CK,JQ,CK.plain,Jt,CK.MI]
 have e1:(ks.map CK.zero).getD j .undef=(ks.getD j .oth).zero:=by simp [Di,hj]
 have e2:(ks.map CK.MI).getD j .undef=(ks.getD j .oth).MI:=by simp [Di,hj]
 rw[e1]at h3;rw[e2];generalize ks.getD j .oth=k at *
 generalize vs.getD j undef=v at *
 cases k with
 | oth=>cases hk
 | mp _ _=>cases hk
 | bx _=>cases hk
 | fn=>exact h3
 | sl e sz=>have:=J4.KD h3;subst this;exact .nil _
 | sln e sz=>have:=J4.KD h3;subst this;exact .nil _
 | bool=>exact h3
 | int _=>exact h3
 | str=>exact h3
 | ptr=>exact h3
def zeros (z:Value) (n:Nat):Array Value:=(Array.range n).map (z.cells[· % z.cells.size]!)
theorem Held.less {cur:Array Value} {sz:Nat} {x:List A} {n k:Nat} (h:Held O w cur sz (List.replicate k x)) (hk:n<=k):Held O w cur sz (List.replicate n x):=by
 refine⟨fun y hy=> ?_,fun i j hi hj=> ?_⟩
 .rw[EM hy];cases k with
  | zero=>grind[Held]
  | succ k=>grind[Held]
 .rw[Ec]at hi;obtain⟨u,h1,h2⟩:=h.2 i j (by rw[Ec];omega) hj;refine⟨u,h1,?_⟩;have e1:(List.replicate n x).getD i []=x:=by simp [Di,hi]
  all_goals grind[Held]
theorem YI {t:Nat} {te:TI} {z:Value} (hT:Qj P t te) (hz:(P.info? t).bind (·.zero)=some z) (hp:te.cs.all CK.plain=true) (h0:0<te.cs.length) (n:Nat) :
 (zeros z (n*te.cs.length)).size=n*te.cs.length/\Held O w (zeros z (n*te.cs.length)) te.cs.length (List.replicate n (te.cs.map CK.MI)):=by
 obtain⟨i,z',h1,h2,h3,h4,h5,h6⟩:=hT.i;rw[h1]at hz;simp only[Option.bind_some,h4]at hz;injection hz with hz;subst hz;have hsz:z'.cells.size=te.cs.length:=by rw[<- Array.length_toList];exact(OQ (O:=O) (Jm:=[]) (m:=fun _=>undef) (w:=w) _ _ h5).1
 have hv:=UF (O:=O) (w:=w) _ _ h5 hp;refine⟨by simp [zeros],fun x hx=>by rw[EM hx];simp,fun r j hr hj=> ?_⟩;rw[Ec]at hr;have hlt:r*te.cs.length+j<n*te.cs.length:=by have:(r+1)*te.cs.length<=n*te.cs.length:=DC _ hr;rw[DU]at this;omega
 have hmod:(r*te.cs.length+j) % te.cs.length=j:=by rw[Gq,Nat.mul_add_mod];exact Nat.mod_eq_of_lt hj
 all_goals grind[zeros,CK.MI]
theorem nH {t n:Nat} {ps:Array (Nat×Operand)} (hC:TOk P C) (hS:Sim V0 O0 w0 O m st a w) {d:Tmp} (hd:o.dst=some d) (ho:o.op= .buildSlice t n ps) {fet:Fet} (hf:MV st.Jm fet) {xs:List (Nat×A)}
 (hl:xs.length=ps.size) (hx: ∀(j:Nat) (x:Nat×A) (p:Nat×Operand),xs[j]? =some x->ps[j]? =some p->p.1=x.1/\Jy O st.Jm m w (a.eval p.2) x.2)
 (hok:Jv (Oy C fet d t n xs).ok) (hfr: ∀ p∈(Oy C fet d t n xs).new,st.fresh p.1=true):Good P V0 O0 w0 (apply st o (Oy C fet d t n xs)) o a w:=by
 intro next Q hn
 unfold Oy at *
 obtain⟨ti,e,te,ht,hte,hd',he⟩:=QT hok;rw[he]at hn hfr hok;clear he;obtain⟨hok1,hok2⟩:=hok.append;obtain⟨hb1,hb2⟩:=hok2.cons;obtain⟨hb2,hb3⟩:=hb2.cons;have hb1:=D7 hb1;have hb2:0<te.cs.length:=by simpa [DZ]using hb2
 have hb3:=hb3.cons.1;have hT:=hC.is hd';obtain⟨i,z,h1,h2,h3,h4,h5,h6⟩:=hT.i;have hu:=(hC.is ht).d;rw[hte]at hu;obtain⟨hU,hval⟩:=Acs (te:=te) (ty:=tyl te.cs) hf xs (List.replicate n (tyl te.cs).zero) (fun x hx'=>by obtain⟨j,hj,hje⟩:=EY.1 hx';have:=hx j x (ps[j]'(by omega)) (by rw[<- hje];exact D9 hj) (by simp [show j<ps.size from by omega]);exact⟨_,this.2⟩) hok1;obtain⟨O1,hS1,hp1,hle1,hv1,hE1,_⟩:=hS.freezes _ hU;obtain⟨hz1,hz2⟩:=YI (O:=O1) (w:=w) hT (by rw[h1];exact h4) hb3 hb2 n
 obtain⟨f1,vs',f2,f3,f4⟩:=Afh (te:=te) (ty:=tyl te.cs) hf hp1 rfl xs (ps.map (fun(i,x)=>(i,a.eval x))).toList (zeros z (n*te.cs.length)) (List.replicate n (tyl te.cs).zero) (by simp [hl]) (fun j x p hxj hpj=>by
  simp only[FI,DW]at hpj;cases hq:ps.toList[j]? with
  | none=>rw[hq]at hpj;cases hpj
  | some q =>rw[hq]at hpj;injection hpj with hpj;subst hpj;have:=hx j x q hxj (by simpa using hq);exact⟨this.1,this.2,hval x (F5 hxj)⟩) (by rw[hz1,Ec]) (by rw[<- Sl.VE _ _ hb3]at hz2;exact hz2) hok1 hv1
 have hlen:(LZ fet te (tyl te.cs) xs (List.replicate n (tyl te.cs).zero)).2.1.length=n:=by rw[f1,Ec]
 have hnn:n*te.cs.length<=16777216:=hb1;have hnle:n<=16777216:=FK (Nat.le_mul_of_pos_right n hb2) hnn
 have hr:(execOp a.eval o).run P w= .ok (.value (.slice (some (at' w.heap.size 0)) n n)) (w.alloc (.cells vs' e)):=by
  have hbig: ¬(16777216<n*te.cs.length):=by omega
  simp only[execOp,ho,Dv,Instr.buildSlice,DD hu,Result.andThen_ok,hT.MQ];rw[Du (by simpa using hbig)];by_cases h0:n*te.cs.length=0
  .have hz0:(Array.range (n*te.cs.length)).map ((#[]:Array Value)[· % (#[]:Array Value).size]!)=zeros z (n*te.cs.length):=by simp [zeros,h0]
   simp only[Dw h0,Dv,Sem.run_pure,Result.andThen_ok,hz0,f2];rfl
  .simp only[Du h0,Dv,Sem.run_pure,Result.andThen_ok,zeroValue,typeInfo,run_program,h1,h4];have hz0:(Array.range (n*te.cs.length)).map (z.cells[· % z.cells.size]!)=zeros z (n*te.cs.length):=rfl;rw[hz0,f2];rfl
 unfold Oper.wp;rw[hr,Oper.upon_value,hd];have hfr':=(show Ns st (b2 d)from Lu (hfr _ Dp)).frz hU;obtain⟨O',m',h⟩:=RJ hS1 (Moves.refl _ _ w) rfl (d:=d) (e:=e) (cap:=n) (frz:=false) (l:=⟨tyl te.cs,(LZ fet te (tyl te.cs) xs (List.replicate n (tyl te.cs).zero)).2.1⟩) (del:=[]) (by rw[Sl.JW,hlen];exact DR _) (by unfold maxLen;omega) (by rw[f3,hz1];show _=_*(tyl te.cs).len;rw[Qi]) (by show Held _ _ _ (tyl te.cs).len _;rw[Qi];exact f4) hfr';rw[Sl.JW,hlen]at h;refine hn O' m' _ _ ?_;rw[Q9 hd];exact h
end
section
variable {P:Program} {C:Ctx} {V0:Nat->Value} {O0 O:Own} {w0 w:World} {m:Nat->Value} {st:St} {a:Act} {o:Oper}
theorem Afs {t:Nat} {lo co:Operand} (hC:TOk P C) (hS:Sim V0 O0 w0 O m st a w) {d:Tmp} (hd:o.dst=some d) (ho:o.op= .makeSlice t lo co) {l c:A} (hl:Jy O st.Jm m w (a.eval lo) l) (hc:Jy O st.Jm m w (a.eval co) c)
 (hok:Jv (YP C d t l c).ok) (hfr: ∀ p∈(YP C d t l c).new,st.fresh p.1=true):Good P V0 O0 w0 (apply st o (YP C d t l c)) o a w:=by
 intro next Q hn
 unfold YP at *
 obtain⟨n,hn1,he⟩:=J9 hok;rw[he]at hok hfr hn;clear he;obtain⟨n',hn2,he⟩:=J9 hok;rw[he]at hok hfr hn;clear he;obtain⟨ti,e,te,ht,hte,hd',he⟩:=QT hok;rw[he]at hok hfr hn;clear he;obtain⟨k1,rfl⟩:=PQ hn1;obtain⟨k2,rfl⟩:=PQ hn2;obtain⟨h1,h2⟩:=hok.cons;obtain⟨h2,h3⟩:=h2.cons;obtain⟨h3,h4⟩:=h3.cons;obtain⟨h4,h5⟩:=h4.cons;have h5:=h5.cons.1;have h1:n<=n':=by simpa using h1
 have h2:0<=n:=by simpa using h2
 have h3:n'*((te.bytes:Int)+1)<=140737488355328:=by simpa using h3
 have h4:0<te.cs.length:=by simpa [DZ]using h4
 have hl:=hl.int;have hc:=hc.int;obtain⟨k,rfl⟩:=Ej h2;obtain⟨c,rfl⟩:=Ej (Int.le_trans h2 h1);have hkc:k<=c:=by omega
 have hT:=hC.is hd';obtain⟨i,z,g1,g2,g3,g4,g5,g6⟩:=hT.i;have hu:=(hC.is ht).d;rw[hte]at hu
 have h3':c*te.bytes+c<=140737488355328:=by
  have e0:(c:Int)*((te.bytes:Int)+1)=((c*te.bytes+c:Nat):Int):=by rw[Int.mul_add,Int.natCast_add,Int.natCast_mul,Int.mul_one]
  have h3:(c:Int)*((te.bytes:Int)+1)<=140737488355328:=h3;rw[e0]at h3;omega
 obtain⟨hz1,hz2⟩:=YI (O:=O) (w:=w) hT (by rw[g1];exact g4) h5 h4 c;have hz2:=hz2.less hkc
 have hr:(execOp a.eval o).run P w= .ok (.value (.slice (some (at' w.heap.size 0)) k c)) (w.alloc (.cells (zeros z (c*te.cs.length)) e)):=by
  have e1:(i.bytes:Int)*(c:Int)<=281474976710656:=by
   have:(i.bytes:Int)*c=((c*te.bytes:Nat):Int):=by rw[g3,Int.mul_comm,Int.natCast_mul]
   rw[this];omega
  have:=run_make (P:=P) w t e i z hu g1 g4 k1 k2 k c (by omega) (by omega) e1 (by omega);simp only[Int.toNat_natCast,g2]at this;have hl':a.eval lo= .int k1 (k:Int):=hl;have hc':a.eval co= .int k2 (c:Int):=hc;simp only[execOp,ho,Dv,hl',hc',this,Result.andThen_ok,Sem.run_pure];rfl
 unfold Oper.wp;rw[hr,Oper.upon_value,hd];obtain⟨O',m',h⟩:=RJ hS (Moves.refl _ _ w) rfl (d:=d) (e:=e) (cap:=c) (frz:=false) (l:=⟨tyl te.cs,List.replicate k (tyl te.cs).zero⟩) (del:=[]) (by rw[Sl.JW,Ec];exact hkc) (by unfold maxLen;omega) (by rw[hz1];show _=_*(tyl te.cs).len;rw[Qi]) (by show Held _ _ _ (tyl te.cs).len _;rw[Qi,Sl.VE _ _ h5];exact hz2) (Lu (hfr _ Dp));rw[Sl.JW,Ec]at h;refine hn O' m' _ _ ?_;rw[Q9 hd];exact h
theorem zI {t:Nat} {x:Operand} {lo hi mx:Option Operand} (hC:TOk P C) (hS:Sim V0 O0 w0 O m st a w) (ho:o.op= .slice t x lo hi mx) (hmx:mx=none) {fet:Fet} (hf:MV st.Jm fet) {q:Nat} {lo' hi':Option A}
 (hx:Jy O st.Jm m w (a.eval x) (.own q)) (hlo:ORl O st.Jm m w (lo.map a.eval) lo') (hhi:ORl O st.Jm m w (hi.map a.eval) hi')
 (hok:Jv (KR C fet t (.own q) lo' hi').ok):Good P V0 O0 w0 (apply st o (KR C fet t (.own q) lo' hi')) o a w:=by
 subst hmx;intro next Q hn
 unfold KR at *
 obtain⟨ti,ht,he⟩:=JI hok;rw[he]at hok hn;clear he;dsimp only at hok hn;obtain⟨ro,hro,he⟩:=J9 hok;rw[he]at hok hn;clear he;obtain⟨r,hr,he⟩:=J9 hok;rw[he]at hok hn;clear he;obtain⟨e,hel,he⟩:=J9 hok;rw[he]at hok hn;clear he;obtain⟨te,hte,he⟩:=JI hok;rw[he]at hok hn;clear he;obtain⟨h1,h2⟩:=hok.cons;rw[<- Sl.JW]at hr;have hsz:=Dk h1;have hq:=hf q _ (LD hro)
 have key: ∃ O1,Sim V0 O0 w0 O1 m {st with Jm:=J3 st.Jm (bif ro.frz then []else [(q,.arr ro.e true ro.l)])} a w/\Jt O1 w (m q) (.sl ro.l):=by
  cases hfz:ro.frz with
  | false =>obtain⟨O1,hS1,_,_,hv1,_⟩:=hS.XX hq;exact⟨O1,hS1,hv1⟩
  | true =>rw[hfz]at hq;exact⟨O,hS,(hS.Jm q _ hq).frozen⟩
 obtain⟨O1,hS1,hv1⟩:=key;have hd:=Oj hel;have hu:=(hC.is ht).run w;rw[hd]at hu;have hs:=(hC.is hte).MQ w;rw[<- hsz]at hs;have hxv:a.eval x=m q:=by have h2:J4 O st.Jm m w (a.eval x) (.own q):=hx;have h2:=h2.2;rw[hq]at h2;exact h2
 obtain⟨h4,h5⟩:r.2.1<=r.2.2/\r.2.2<=ro.l.es.length:=(Pv (isS:=true) (P:=P) hlo hhi (DR _) hr h2).2;obtain⟨ad,n,c,hv,hn',hc,hcut⟩:=hv1.cut r.2.1 r.2.2 h4 h5;obtain⟨h3,_,_⟩:=Pv (isS:=true) (P:=P) (cap:=c) hlo hhi (by rw[<- hn'];exact hc) hr h2;rw[<- hn']at h3;have hrun:(execOp a.eval o).run P w= .ok (.value (.slice (if c=r.2.1 then ad else ad.map (·.add (r.2.1*ro.l.sz))) (r.2.2 - r.2.1) (c - r.2.1))) w:=by simp only[execOp,ho,Instr.sliceAt,Dv,hu,Result.andThen_ok,Instr.slice,hxv,hv,Option.map_none,h3,hs,Sem.run_pure]
 unfold Oper.wp;rw[hrun,Oper.upon_value];refine hn O1 m _ _ ?_;have:=hS1.put o.dst (x:=.sl ⟨ro.l.t,J7 ro.l.xs r.2.1 r.2.2⟩) (v:=.slice (if c=r.2.1 then ad else ad.map (·.add (r.2.1*ro.l.sz))) (r.2.2 - r.2.1) (c - r.2.1)) (hcut c rfl);exact this
theorem Agj {t:Nat} {x h:Operand} (hC:TOk P C) (hS:Sim V0 O0 w0 O m st a w) {d:Tmp} (hd:o.dst=some d) (ho:o.op= .slice t x none (some h) none) {fet:Fet} (hf:MV st.Jm fet) {x' b':A}
 (hx:Jy O st.Jm m w (a.eval x) x') (hb:Jy O st.Jm m w (a.eval h) b') (hok:Jv (bP C fet d t x' b').ok) (hfr: ∀ p∈(bP C fet d t x' b').new,st.fresh p.1=true) :
 Good P V0 O0 w0 (apply st o (bP C fet d t x' b')) o a w:=by
 intro next Q hn
 unfold bP at *
 obtain⟨ti,ht,he⟩:=JI hok;rw[he]at hok hn hfr;clear he;cases x' with
 | own q =>
  dsimp only at hok hn hfr;obtain⟨ro,hro,he⟩:=J9 hok;rw[he]at hok hn hfr;clear he;obtain⟨r,hr,he⟩:=J9 hok;rw[he]at hok hn hfr;clear he;obtain⟨e,hel,he⟩:=J9 hok;rw[he]at hok hn hfr;clear he;obtain⟨te,hte,he⟩:=JI hok;rw[he]at hok hn hfr;clear he;obtain⟨hok,hfz⟩:=hok.append;obtain⟨h1,h2⟩:=hok.cons;have hfz:ro.frz=false:=by simpa using hfz.cons.1
  rw[<- Sl.JW]at hr;have hsz:=Dk h1;have hq:=hf q _ (LD hro);rw[hfz]at hq;have hd':=Oj hel;have hu:=(hC.is ht).run w;rw[hd']at hu;have hs:=(hC.is hte).MQ w;rw[<- hsz]at hs;have hxv:a.eval x=m q:=by have h2:J4 O st.Jm m w (a.eval x) (.own q):=hx;have h2:=h2.2;rw[hq]at h2;exact h2
  have hh:ORl O st.Jm m w (some (a.eval h)) (some b'):=hb;have hlo0:ORl O st.Jm m w none none:=trivial;obtain⟨h4,h5⟩:r.2.1<=r.2.2/\r.2.2<=ro.l.es.length:=(Pv (isS:=true) (P:=P) hlo0 hh (DR _) hr h2).2
  have hr0:r.2.1=0:=by
   unfold bM at hr;split at hr<;>first | (injection hr with hr;rw[<- hr];done) | (injection hr with hr;rw[<- hr]) | cases hr
   all_goals (first | rfl | (rename_i hc _;cases hc))
  have hfresh:Ns st (b2 d):=Lu (hfr _ Dp);have hes:(⟨ro.l.t,J7 ro.l.xs r.2.1 r.2.2⟩:Sl).es=ro.l.es.take r.2.2:=by rw[Sl.AeY,hr0];simp [J7]
  obtain⟨hszs,hrow⟩:=hS.Jm q _ hq;have hgoal: ∀ v,(∀ cap:Nat,True)->(execOp a.eval o).run P w= .ok (.value v) w->(∃ O' m',Sim V0 O0 w0 O' m' {tmps:=st.tmps.set d (.own (b2 d)),Jm:=J3 (JM st.Jm [q]) [(b2 d,.arr ro.e false ⟨ro.l.t,J7 ro.l.xs r.2.1 r.2.2⟩)]} (a.put (some d) v) w)->o.wp P a w next Q:=by intro v _ hrun ⟨O',m',h⟩;unfold Oper.wp;rw[hrun,Oper.upon_value,hd];refine hn O' m' _ _ ?_;unfold apply;rw[hd];exact h
  rcases hrow with ⟨_,hnil,hm⟩ | ⟨_,g,cap,cur,hm,hg,hcap,_⟩
  .have h0:r.2.2=0:=by rw[hnil]at h5;simpa using h5
   obtain⟨h3,_,_⟩:=Pv (isS:=true) (P:=P) (w:=w) (cap:=0) hlo0 hh (by rw[hnil];exact DR _) hr h2;rw[hnil]at h3;refine hgoal (.slice none 0 0) (fun _=>trivial) ?_ ?_
   .have h3:(Instr.sliceBounds true 0 0 none (some (a.eval h)) none).run P w= .ok (r.2.1,r.2.2,0) w:=h3;rw[hr0,h0]at h3;simp only[execOp,ho,Instr.sliceAt,Dv,hu,Result.andThen_ok,Instr.slice,hxv,hm,Option.map_none,Option.map_some,h3,hs,Sem.run_pure];rfl
   .have hxs:J7 ro.l.xs r.2.1 r.2.2=[]:=by
     have:ro.l.xs=[]:=rP hnil;rw[this];simp [J7]
    rw[hxs];exact YS hS hfresh
  .obtain⟨h3,_,_⟩:=Pv (isS:=true) (P:=P) (w:=w) (cap:=cap) hlo0 hh hcap hr h2;refine hgoal (.slice (some (at' g 0)) r.2.2 cap) (fun _=>trivial) ?_ ?_
   .have h3:(Instr.sliceBounds true ro.l.es.length cap none (some (a.eval h)) none).run P w= .ok (r.2.1,r.2.2,cap) w:=h3;rw[hr0]at h3;simp only[execOp,ho,Instr.sliceAt,Dv,hu,Result.andThen_ok,Instr.slice,hxv,hm,Option.map_none,Option.map_some,h3,hs,Sem.run_pure];simp [Oe]
   .exact Adu hS hq hm hg h5 hes rfl hfresh
 | _=>exact(J5 hok).elim
end
section
variable {P:Program} {C:Ctx} {V0:Nat->Value} {O0 O:Own} {w0 w:World} {m:Nat->Value} {st:St} {a:Act} {o:Oper}
structure Src (P:Program) (O:Own) (w:World) (sz:Nat) (y:Value) (ns:List (List A)) (news:List Value):Prop where
 len: ∀ w',(Builtin.lenOf y).run P w'= .ok ns.length w'
 cells: ∀ w',(∀ b k u,w.cell? (at' b k)=some u->w'.cell? (at' b k)=some u)->(Builtin.firstCells sz ns.length y).run P w'= .ok news.toArray w'
 size:news.length=ns.length*sz
 each: ∀ x∈ns,x.length=sz
 rel: ∀ i j,i<ns.length->j<sz->Jt O w (news.getD (i*sz+j) undef) ((ns.getD i []).getD j .undef)
theorem Src.one {sz:Nat} {y:Value} {ns:List (List A)} {news:List Value} (h:Src P O w sz y ns news) (h0:0<sz): ∀ v∈news,v.oneCell'=true:=by
 intro v hv;obtain⟨k,hk,hke⟩:=EY.1 hv;have hd:k=(k / sz)*sz+k % sz:=by rw[Gq];exact(GM k sz).symm
 have hlt:k / sz<ns.length:=by rw[FW h0,<- h.size];exact hk
 have:=h.rel (k / sz) (k % sz) hlt (Nat.mod_lt _ h0);rw[<- hd,Di,D9 hk]at this;simp only[Option.getD_some,hke]at this;exact this.one
theorem Aif {l:Sl} {v:Value} (h:rV w O v l): ∃ news,Src P O w l.sz v l.es news:=by
 rcases h with ⟨ad,hv,hn⟩ | ⟨b,k,c,hv,hc,hcell⟩
 .have hn:l.es=[]:=by simp [Sl.es,hn]
  refine⟨[],⟨fun w'=>by rw[hv,hn];rfl,fun w' _=>by
   rw[hv,hn];cases ad with
   | none=>rfl
   | some ad =>show(Builtin.firstCells l.sz 0 (.slice (some ad) 0 0)).run P w'=_;simp only[Builtin.firstCells,FM];exact run_loadCells (P:=P) w' ad 0 (fun _=>undef) (fun i hi=>absurd hi (FT i)),by rw[hn];simp,l.es_len,fun i j hi=>by rw[hn]at hi;simp at hi⟩⟩
 .let news:List Value:=(List.range (l.es.length*l.sz)).map fun i=>(w.cell? (at' b (k+i))).getD undef
  have hcells: ∀ i,i<l.es.length*l.sz-> ∃ u,w.cell? (at' b (k+i))=some u:=by
   intro i hi
   have h0:0<l.sz:=by
    rcases Gs l.sz with h | h
    .rw[h]at hi;simp at hi
    .exact h
   have hd:i=(i / l.sz)*l.sz+i % l.sz:=by rw[Gq];exact(GM i l.sz).symm
   obtain⟨u,hu,_⟩:=hcell (i / l.sz) (i % l.sz) (by rw[FW h0];exact hi) (Nat.mod_lt _ h0);rw[<- hd]at hu;exact⟨u,hu⟩
  refine⟨news,⟨fun w'=>by rw[hv];rfl,fun w' hw'=> ?_,by simp [news],l.es_len,fun i j hi hj=> ?_⟩⟩
  .rw[hv];simp only[Builtin.firstCells];have:=run_loadCells (P:=P) w' (at' b k) (l.es.length*l.sz) (fun i=>(w.cell? (at' b (k+i))).getD undef) (fun i hi=>by obtain⟨u,hu⟩:=hcells i hi;rw[Oe,hw' _ _ _ hu,hu];rfl);exact this
  .obtain⟨u,h3,h4⟩:=hcell i j hi hj;have hlt:i*l.sz+j<l.es.length*l.sz:=by have:(i+1)*l.sz<=l.es.length*l.sz:=DC _ hi;rw[DU]at this;omega
   all_goals grind[rV]
theorem src_of {fet:Fet} {t:Ty} {y:A} {v:Value} (hf:FOk O st.Jm m w fet) (hy:Jy O st.Jm m w v y) (hok:Jv (NM fet t y).1): ∃ news,Src P O w t.len v (⟨t,(NM fet t y).2⟩:Sl).es news:=by
 have hrd:Jv (rdT fet t y).1-> ∃ news,Src P O w t.len v (⟨t,(rdT fet t y).2⟩:Sl).es news:=fun hok=>Aif (Adc hf hy hok);by_cases hs: ∃ s,y= .str s
 .obtain⟨s,rfl⟩:=hs;by_cases ht:t= .int .u8 .nil
  .subst ht;obtain⟨b,hb,hl⟩:=hy.str;have hbl:b.size=s.length:=by rw[Pz,hl]
   have hes:(⟨.int .u8 .nil,(NM fet (.int .u8 .nil) (.str s)).2⟩:Sl).es=s.map (fun(x:UInt8)=>[A.int .u8 (x.toNat:Int)]):=by show List.map (Ty.int IntKind.u8 Ty.nil).cells (List.map (fun(b:UInt8)=>((b.toNat:Int))) s)=_;exact EN.trans rfl
   rw[hes];refine⟨s.map (fun(x:UInt8)=>Value.int .u8 (x.toNat:Int)),⟨fun w'=>by rw[hb];simp [Builtin.lenOf,hbl],fun w' _=> ?_,by simp [Ty.len],by simp [Ty.len],fun i j hi hj=> ?_⟩⟩
   .rw[hb];simp only[Builtin.firstCells,D5,Sem.run_pure];congr 1;all_goals grind[jW,Pz,J7,apply]
   .have hj0:j=0:=by simp [Ty.len]at hj;omega
    subst hj0;have hi':i<s.length:=by simpa using hi
    simp [Di,hi',Ty.len];exact .int _ _
  .simp_all[NM,hok,Fet,Ty,FOk,Jy,Jv]
 .simp_all[NM,rdT,hs,hok,Fet,Ty,FOk,Jy,Jv]
theorem pR {d:TypeDesc} (h:SS d=true):(∃ e,d= .slice e)\/d= .string:=by unfold SS at h;split at h<;>simp_all
theorem ZM {t u ty e n sLen sCap:Nat} {i:TypeInfo} {du:TypeDesc} {base:Option Addr} {y:Value} {news:List Value} {w':World} (hu:P.underlying t=some (.slice e)) (hu2:P.underlying u=some du) (hdu:SS du=true) (hi:P.info? e=some i)
 (hlen:(Builtin.lenOf y).run P w= .ok n w) (hnew:(Builtin.firstCells i.size n y).run P w= .ok news.toArray w) (hle:sLen+n<=sCap)
 (hst:match base with | some ad=>(storeCells (ad.add (sLen*i.size)) news).run P w= .ok () w' | none=>w'=w) :
 (Builtin.append_ #[t,u] ty #[.slice base sLen sCap,y]).run P w= .ok (.slice base (sLen+n) sCap) w':=by
 rcases pR hdu with ⟨e',rfl⟩ | rfl
 .cases base with
  | none=>subst hst;simp [Builtin.append_,DD hu,DD hu2,sizeOf,typeInfo,hi,hlen,hnew,hle]
  | some ad=>dsimp only at hst;simp [Builtin.append_,DD hu,DD hu2,sizeOf,typeInfo,hi,hlen,hnew,hle,hst]
 .cases base with
  | none=>subst hst;simp [Builtin.append_,DD hu,DD hu2,sizeOf,typeInfo,hi,hlen,hnew,hle]
  | some ad=>dsimp only at hst;simp [Builtin.append_,DD hu,DD hu2,sizeOf,typeInfo,hi,hlen,hnew,hle,hst]
theorem Yp {t u ty e n sLen sCap:Nat} {i:TypeInfo} {z:Value} {du:TypeDesc} {base:Option Addr} {y:Value} {olds news:List Value} (hu:P.underlying t=some (.slice e)) (hu2:P.underlying u=some du) (hdu:SS du=true) (hi:P.info? e=some i) (hz:i.zero=some z)
 (hlen:(Builtin.lenOf y).run P w= .ok n w) (hold:(Builtin.firstCells i.size sLen (.slice base sLen sCap)).run P w.drew= .ok olds.toArray w.drew) (hnew:(Builtin.firstCells i.size n y).run P w.drew= .ok news.toArray w.drew) (hgt:sCap<sLen+n)
 (hb:(sLen+n)*i.bytes<=140737488355328) (h0:0<i.bytes\/((sLen+n:Nat):Int)<=9223372036854775807) :
 (Builtin.append_ #[t,u] ty #[.slice base sLen sCap,y]).run P w =
   .ok (.slice (some (at' w.heap.size 0)) (sLen+n) (grownCap w (sLen+n) sCap e)) (w.drew.alloc (.cells (olds.toArray++news.toArray++Builtin.zeroCells z.cells (grownCap w (sLen+n) sCap e - (sLen+n))) e)):=by
 have hn: ¬(sLen+n<=sCap):=by omega
 have hfit:=growslice_fits hgt hb;have h48': ¬(281474976710656<Builtin.nextslicecap (sLen+n) sCap*i.bytes):=by omega
 have h63: ¬(((sLen:Int)+(n:Int))>9223372036854775807/\i.bytes=0):=by
  rintro ⟨ha,hb'⟩;rcases h0 with h0 | h0
  .omega
  .rw[Int.natCast_add]at h0;omega
 have h63': ¬(9223372036854775807<((sLen:Int)+(n:Int))/\i.bytes=0):=h63;rcases pR hdu with ⟨e',rfl⟩ | rfl
 .simp [Builtin.append_,DD hu,DD hu2,sizeOf,typeInfo,zeroValue,hi,hz,hlen,hn,h63',h48',Question.forced,hold,hnew,newRow,grownCap];all_goals grind[apply]
 .simp [Builtin.append_,DD hu,DD hu2,sizeOf,typeInfo,zeroValue,hi,hz,hlen,hn,h63',h48',Question.forced,hold,hnew,newRow,grownCap];all_goals grind[apply]
end
section
variable {P:Program} {C:Ctx} {V0:Nat->Value} {O0 O:Own} {w0 w:World} {m:Nat->Value} {st:St} {a:Act} {o:Oper}
theorem pF {sz cap:Nat} {es ns:List (List A)} {olds news:List Value} {z:Array Value} (hes: ∀ x∈es,x.length=sz) (hns: ∀ x∈ns,x.length=sz) (hol:olds.length=es.length*sz) (hnl:news.length=ns.length*sz) (hz:z.size=sz) (hcap:es.length+ns.length<=cap)
 (ho: ∀ i j,i<es.length->j<sz->Jt O w (olds.getD (i*sz+j) undef) ((es.getD i []).getD j .undef)) (hn: ∀ i j,i<ns.length->j<sz->Jt O w (news.getD (i*sz+j) undef) ((ns.getD i []).getD j .undef)) :
 (olds.toArray++news.toArray++Builtin.zeroCells z (cap - (es.length+ns.length))).size=cap*sz/\Held O w (olds.toArray++news.toArray++Builtin.zeroCells z (cap - (es.length+ns.length))) sz (es++ns):=by
 refine⟨?_,fun x hx=>(DI.1 hx).elim (hes x) (hns x),fun i j hi hj=> ?_⟩
 .simp only[Array.size_append,List.size_toArray,hol,hnl,size_zeroCells,hz];rw[<- DU,<- DU];congr 1;omega
 .rw[Ed]at hi;by_cases hil:i<es.length
  .have hlt:i*sz+j<es.length*sz:=by
    have:(i+1)*sz<=es.length*sz:=DC _ hil;rw[DU]at this;omega
   refine⟨olds.getD (i*sz+j) undef,?_,?_⟩
   .rw[Gt,Em (by simp;omega)];all_goals simp_all[Jt,Held]
   .have e1:(es++ns).getD i []=es.getD i []:=by
     all_goals simp_all[Jt,Held]
    rw[e1];exact ho i j hil hj
  .obtain⟨i',rfl⟩: ∃ i',i=es.length+i':=⟨i - es.length,by omega⟩
   have hi':i'<ns.length:=by omega
   have hlt:i'*sz+j<ns.length*sz:=by have:(i'+1)*sz<=ns.length*sz:=DC _ hi';rw[DU]at this;omega
   have hidx:(es.length+i')*sz+j=es.length*sz+(i'*sz+j):=by rw[DU];omega
   refine⟨news.getD (i'*sz+j) undef,?_,?_⟩
   .rw[hidx,Gt,E5 (by simp;omega),Em (by simp;omega)];all_goals simp_all[Jt,Held]
   .have e1:(es++ns).getD (es.length+i') []=ns.getD i' []:=by
     all_goals simp_all[Jt,Held]
    rw[e1];exact hn i' j hi' hj
theorem AeS (w:World) (b k:Nat):w.drew.cell? (at' b k)=w.cell? (at' b k):=rfl
theorem jS {c:Call} {s y:Operand} {t u e:Nat} {te tu:TI} {ti:TI} (hC:TOk P C) (hS:Sim V0 O0 w0 O m st a w) {d:Tmp} (hd:o.dst=some d) (ho:o.op= .call c) (hcal:c.callee= .builtin .append) (hargs:c.args= #[s,y]) (hty:c.argTypes.toList=[t,u])
 (ht:C.T t=some ti) (hte:ti.d= .slice e) (hte':C.T e=some te) (htu:C.T u=some tu) (hsl:SS tu.d=true) {frz:Bool} {l l':Sl} {ns:List (List A)} {news:List Value} {del:List Nat}
 (hsrc:Src P O w te.cs.length (a.eval y) ns news) (h0:0<te.cs.length) (hb:(l.es.length+ns.length)*(te.bytes+1)<=140737488355328) (hfresh:Ns st (b2 d))
 (hel:l'.es=l.es++ns) (hls:l.sz=te.cs.length) (hls':l'.sz=te.cs.length)
 (hx:(True/\l.es=[]/\a.eval s= .slice none 0 0)\/(True/\ ∃ q g cap cur,del=[q]/\Jr st.Jm q=some (.arr e frz l)/\m q= .slice (some (at' g 0)) l.es.length cap/\a.eval s= .slice (some (at' g 0)) l.es.length cap/\LC w g cur e)) :
 ∀(next:Act->World->Prop) (Q:Exit->Act->World->Prop),(∀ O' m' a' w',Sim V0 O0 w0 O' m' {tmps:=st.tmps.set d (.own (b2 d)),Jm:=J3 (JM st.Jm del) [(b2 d,.arr e frz l')]} a' w'->next a' w')->o.wp P a w next Q:=by
 intro next Q hn
 have hat:c.argTypes= #[t,u]:=by have:=congrArg List.toArray hty;simpa using this
 have hu:=(hC.is ht).d;rw[hte]at hu;have hu2:=(hC.is htu).d;have hT:=hC.is hte';obtain⟨i,z,g1,g2,g3,g4,g5,g6⟩:=hT.i;have hzs:z.cells.size=te.cs.length:=by rw[<- Array.length_toList];exact(OQ (O:=O) (Jm:=[]) (m:=fun _=>undef) (w:=w) _ _ g5).1
 have hbb:(l.es.length+ns.length)*te.bytes<=140737488355328/\l.es.length+ns.length<=140737488355328:=by rw[G7,Es]at hb;omega
 have hexec: ∀ v w',(Builtin.append_ #[t,u] o.type #[a.eval s,a.eval y]).run P w= .ok v w'->(execOp a.eval o).run P w= .ok (.value v) w':=by
  intro v w' h;simp only[execOp,ho,resolve,hcal,hargs,hat,Dv,Sem.run_pure,Result.andThen_ok,invoke,builtin];have:(#[s,y].map a.eval)= #[a.eval s,a.eval y]:=by simp
  rw[this,h];rfl
 have hlen:=hsrc.len w;have hcells:=hsrc.cells w (fun _ _ _ h=>h);have hcells':=hsrc.cells w.drew (fun _ _ _ h=>h);rcases hx with ⟨_,hes,hsv⟩ | ⟨_,q,g,cap,cur,hdel,hq,hmq,hsv,hg⟩
 .rw[hes]at hel hbb;simp only[List.nil_append]at hel;simp only[List.length_nil,DF]at hbb;by_cases hn0:ns.length=0
  .have hns:ns=[]:=F6 hn0;have:=ZM (P:=P) (w:=w) (w':=w) (t:=t) (u:=u) (ty:=o.type) (base:=none) (sLen:=0) (sCap:=0) (news:=news) hu hu2 hsl g1 hlen (by rw[g2];exact hcells) (by simp [hn0]) rfl;rw[<- hsv,hn0]at this;unfold Oper.wp;rw[hexec _ _ this,Oper.upon_value,hd];obtain⟨t',xs'⟩:=l';have hxs:xs'=[]:=rP (l:=⟨t',xs'⟩) (by rw[hel,hns]);subst hxs;obtain⟨O',m',h⟩:=YS hS (d:=d) (e:=e) (t:=t') (frz:=frz) (del:=del) hfresh;exact hn O' m' _ _ h
  .have:=Yp (P:=P) (w:=w) (t:=t) (u:=u) (ty:=o.type) (base:=none) (sLen:=0) (sCap:=0) (olds:=[]) (news:=news) hu hu2 hsl g1 g4 hlen rfl (by rw[g2];exact hcells') (by omega) (by rw[g3];simpa using hbb.1) (.inr (by have:=hbb.2;omega));rw[<- hsv]at this;unfold Oper.wp;rw[hexec _ _ this,Oper.upon_value,hd];have hge:=grownCap_ge w (0+ns.length) 0 e;obtain⟨k1,k2⟩:=pF (O:=O) (w:=w) (cap:=grownCap w (0+ns.length) 0 e) (z:=z.cells) (es:=[]) (olds:=[]) (by simp) hsrc.each (by simp) hsrc.size hzs (by simpa using hge) (fun i j hi=>by simp at hi) hsrc.rel;obtain⟨O',m',h⟩:=RJ hS (Moves.drew _ _ w) rfl (d:=d) (e:=e) (cap:=grownCap w (0+ns.length) 0 e) (frz:=frz) (l:=l') (del:=del) (by rw[hel];simpa using hge) (grownCap_le_maxLen w _ _ _ (by unfold maxLen;have:=hbb.2;omega)) (by rw[hls'];exact k1) (by rw[hls',hel];exact k2) hfresh;refine hn O' m' _ _ ?_;rw[hel]at h;simpa using h
 .subst hdel;obtain⟨hsz,hr⟩:=hS.Jm q _ hq;rw[hls]at hsz
  obtain⟨g',cap',cur',h2,h3,h4,h5,h6,h7,h8,h9⟩: ∃ g' cap' cur',m q= .slice (some (at' g' 0)) l.es.length cap'/\LC w g' cur' e/\l.es.length<=cap'/\cap'<=maxLen/\cur'.size=cap'*te.cs.length /\
   (∀ i j,i<l.es.length->j<te.cs.length-> ∃ u,cur'[i*te.cs.length+j]? =some u/\Jt O w u ((l.es.getD i []).getD j .undef))/\(∀ k,k<cur'.size->l.es.length*te.cs.length<=k->O g' k=some q)/\(∀ k,k<l.es.length*te.cs.length->O g' k=if frz then none else some q):=by
   rcases hr with ⟨_,_,h⟩ | ⟨_,h⟩
   .rw[hmq]at h;cases h
   .rw[hls]at h;exact h
  rw[hmq]at h2;injection h2 with h2 _ hcc;injection h2 with h2;injection h2 with h2;subst h2;subst hcc;obtain⟨h3,_⟩:=hg.inj h3;subst h3;by_cases hroom:l.es.length+ns.length<=cap
  .have hst:(storeCells ((at' g 0).add (l.es.length*i.size)) news).run P w= .ok () (w.setCells g (l.es.length*te.cs.length) news):=by
    rw[Oe,DF,g2];have hmul:(l.es.length+ns.length)*te.cs.length<=cap*te.cs.length:=DC _ hroom;rw[DU]at hmul
    have:=run_storeCells_cells (P:=P) g (l.es.length*te.cs.length) news 0 w (fun j hj=>by
     rw[hg.cell];rw[hsrc.size]at hj;have hlt:l.es.length*te.cs.length+j<cur.size:=by omega
     simp [hlt]) (fun j hj=>by rw[hsrc.size]at hj;exact hg.frozen (by omega)) (hsrc.one h0)
    simpa using this
   have:=ZM (P:=P) (w:=w) (t:=t) (u:=u) (ty:=o.type) (base:=some (at' g 0)) (sLen:=l.es.length) (sCap:=cap) (news:=news) hu hu2 hsl g1 hlen (by rw[g2];exact hcells) hroom hst;rw[<- hsv]at this;unfold Oper.wp;rw[hexec _ _ this,Oper.upon_value,hd];obtain⟨O',m',h⟩:=Acx hS hq hmq hg hroom hel (by rw[hls',hls]) (by rw[hls];exact hsrc.size) (by rw[hls];exact hsrc.each) (by rw[hls];exact hsrc.rel) hfresh;rw[hls]at h;exact hn O' m' _ _ h
  .have hcur: ∀ k,k<l.es.length*te.cs.length-> ∃ u,cur[k]? =some u:=by
    intro k hk;have:l.es.length*te.cs.length<=cap*te.cs.length:=DC _ h4;exact⟨cur[k]'(by omega),by simp [show k<cur.size from by omega]⟩
   let olds:List Value:=(List.range (l.es.length*te.cs.length)).map fun k=>cur.getD k undef;have hold:(Builtin.firstCells i.size l.es.length (.slice (some (at' g 0)) l.es.length cap)).run P w.drew= .ok olds.toArray w.drew:=by simp only[Builtin.firstCells,g2];exact run_loadCells (P:=P) w.drew (at' g 0) (l.es.length*te.cs.length) (fun k=>cur.getD k undef) (fun k hk=>by obtain⟨u,hu'⟩:=hcur k hk;rw[Oe,DF,AeS,hg.cell];rw[Dj,hu'];rfl)
   have:=Yp (P:=P) (w:=w) (t:=t) (u:=u) (ty:=o.type) (base:=some (at' g 0)) (sLen:=l.es.length) (sCap:=cap) (olds:=olds) (news:=news) hu hu2 hsl g1 g4 hlen hold (by rw[g2];exact hcells') (by omega) (by rw[g3];exact hbb.1) (.inr (by have:=hbb.2;omega));rw[<- hsv]at this;unfold Oper.wp;rw[hexec _ _ this,Oper.upon_value,hd];have hge:=grownCap_ge w (l.es.length+ns.length) cap e
   obtain⟨k1,k2⟩:=pF (O:=O) (w:=w) (cap:=grownCap w (l.es.length+ns.length) cap e) (z:=z.cells) (es:=l.es) (olds:=olds) hsz hsrc.each (by simp [olds]) hsrc.size hzs hge (fun i j hi hj=>by
    obtain⟨u,h10,h11⟩:=h7 i j hi hj;have hlt:i*te.cs.length+j<l.es.length*te.cs.length:=by have:(i+1)*te.cs.length<=l.es.length*te.cs.length:=DC _ hi;rw[DU]at this;omega
    have e1:olds.getD (i*te.cs.length+j) undef=u:=by simp [olds,Di,hlt,h10]
    rw[e1];exact h11) hsrc.rel
   obtain⟨O',m',h⟩:=RJ hS (Moves.drew _ _ w) rfl (d:=d) (e:=e) (cap:=grownCap w (l.es.length+ns.length) cap e) (frz:=frz) (l:=l') (del:=[q]) (by rw[hel,Ed];exact hge) (grownCap_le_maxLen w _ _ _ (by unfold maxLen;have:=hbb.2;omega)) (by rw[hls'];exact k1) (by rw[hls',hel];exact k2) hfresh;rw[hel,Ed]at h;exact hn O' m' _ _ h
end
section
variable {P:Program} {C:Ctx} {V0:Nat->Value} {O0 O:Own} {w0 w:World} {m:Nat->Value} {st:St} {a:Act} {o:Oper}
theorem AbY {c:Call} {s y:Operand} {t u:Nat} {tu:TI} (hC:TOk P C) (hS:Sim V0 O0 w0 O m st a w) {d:Tmp} (hd:o.dst=some d) (ho:o.op= .call c) (hcal:c.callee= .builtin .append) (hargs:c.args= #[s,y]) (hty:c.argTypes.toList=[t,u])
 (htu:C.T u=some tu) (hsl:SS tu.d=true) {fet:Fet} (hf:MV st.Jm fet) {x' y':A} (hx:Jy O st.Jm m w (a.eval s) x') (hy:Jy O st.Jm m w (a.eval y) y')
 (hok:Jv (XG C fet d t x' y').ok) (hfr: ∀ p∈(XG C fet d t x' y').new,st.fresh p.1=true):Good P V0 O0 w0 (apply st o (XG C fet d t x' y')) o a w:=by
 intro next Q hn
 have hF:FOk O st.Jm m w fet:=fun q x h=>⟨hf q x h,hS.Jm q x (hf q x h)⟩
 unfold XG at *
 obtain⟨ti,e,te,ht,hte,hd',he⟩:=QT hok;rw[he]at hok hfr hn;clear he;split at hok
 .rename_i q;obtain⟨r,hr,he⟩:=J9 hok;rw[he]at hok;dsimp only at hfr hn;rw[he]at hfr hn;clear he;obtain⟨hok1,hok2⟩:=hok.append;obtain⟨h1,h2⟩:=hok2.cons;obtain⟨h2,h3⟩:=h2.cons;obtain⟨h3,h4⟩:=h3.cons;have h1:=Dk h1;have h2:=Dk h2;have h3:0<te.cs.length:=by rw[<- h2];simpa [DZ]using h3
  have h2:r.l.t.len=te.cs.length:=h2;have h4:(r.l.xs.length+(NM fet r.l.t y').2.length)*(te.bytes+1)<=140737488355328:=by simpa using h4.cons.1
  obtain⟨news,hsrc⟩:=src_of (P:=P) hF hy hok1;have hq:=LD hr;obtain⟨hv,hO⟩:=hx.own hF hq;have hq':=hf _ _ hq;rw[h2]at hsrc;refine jS (frz:=r.frz) (l:=r.l) (l':=⟨r.l.t,r.l.xs++(NM fet r.l.t y').2⟩) (del:=[q]) hC hS hd ho hcal hargs hty ht hte hd' htu hsl hsrc h3 (by rw[Sl.JW,Sl.JW];exact h4) (Lu (hfr _ Dp)) (Sl.AeX _ _ _) h2 h2 ?_ next Q (fun O' m' a' w' h=>hn O' m' a' w' ?_)
  .rcases hO.2 with ⟨h5,h6,h7⟩ | ⟨h5,g,cap,cur,h6,h7,_⟩
   .exact .inl ⟨h5,h6,by rw[hv,h7]⟩
   .refine .inr ⟨h5,q,g,cap,cur,rfl,?_,h6,by rw[hv,h6],?_⟩
    .rw[hq',h1]
    .rw[h1];exact h7
  .rw[Q9 hd];rw[h1]at h;exact h
 .obtain⟨hok1,hok2⟩:=hok.append;obtain⟨h3,h4⟩:=hok2.cons;have h3:0<te.cs.length:=by simpa [DZ]using h3
  have h4:(NM fet (tyl te.cs) y').2.length*(te.bytes+1)<=140737488355328:=by simpa using h4.cons.1
  obtain⟨news,hsrc⟩:=src_of (P:=P) hF hy hok1;rw[Qi]at hsrc;refine jS (frz:=false) (l:=⟨tyl te.cs,[]⟩) (l':=⟨tyl te.cs,(NM fet (tyl te.cs) y').2⟩) (del:=[]) hC hS hd ho hcal hargs hty ht hte hd' htu hsl hsrc h3 (by rw[Sl.AeZ,Sl.JW];simpa using h4) (Lu (hfr _ Dp)) (by rw[Sl.AeZ];rfl) (Qi _) (Qi _) (.inl ⟨trivial,rfl,hx⟩) next Q (fun O' m' a' w' h=>hn O' m' a' w' ?_)
  rw[Q9 hd];exact h
 .exact(J5 hok).elim
theorem Adm {t:Nat} {x:Operand} (hC:TOk P C) (hS:Sim V0 O0 w0 O m st a w) {d:Tmp} (hd:o.dst=some d) (ho:o.op= .box t x) {x':A} (hx:Jy O st.Jm m w (a.eval x) x') (hids: ∀ i∈x'.ids,i∈st.ids\/(Jr st.Jm i).isSome)
 (hok:Jv (QA C d t x').ok) (hfr: ∀ p∈(QA C d t x').new,st.fresh p.1=true) (hnd:nodup ((QA C d t x').new.map (·.1))=true):Good P V0 O0 w0 (apply st o (QA C d t x')) o a w:=by
 refine Aar hC hS hx hids hd (fun ti ht hv hs=> ?_) hok hfr hnd;simp only[execOp,ho,Instr.box,newVar,newRow,Dv];rfl
theorem Aal {t:Nat} {ti:TI} (hC:TOk P C) (hS:Sim V0 O0 w0 O m st a w) {d:Tmp} (hd:o.dst=some d) (ho:o.op= .alloc t) (ht:C.T t=some ti)
 (hok:Jv (QA C d t (.agg (ti.cs.map CK.zero))).ok) (hfr: ∀ p∈(QA C d t (.agg (ti.cs.map CK.zero))).new,st.fresh p.1=true) (hnd:nodup ((QA C d t (.agg (ti.cs.map CK.zero))).new.map (·.1))=true) :
 Good P V0 O0 w0 (apply st o (QA C d t (.agg (ti.cs.map CK.zero)))) o a w:=by
 obtain⟨i,z,h1,h2,_,h3⟩:=AbS (O:=O) (Jm:=st.Jm) (m:=m) (w:=w) (hC.is ht);refine Aar (v:=.agg z.cells) (x:=.agg (ti.cs.map CK.zero)) hC hS ⟨z.cells,rfl,h3.1,h3.2⟩ (fun j hj=> ?_) hd (fun ti ht hv hs=> ?_) hok hfr hnd
 .exfalso
  have: ∀ ks:List CK,(ks.map CK.zero).flatMap A.Ls=[]:=by
   intro ks
   induction ks with
   | nil=>rfl
   | cons k ks ih=>rw[DY,Gy,ih];cases k<;>rfl
  have hj':j∈(ti.cs.map CK.zero).flatMap A.Ls:=hj;rw[this]at hj';cases hj'
 .simp only[execOp,ho,Instr.alloc,Dv,zeroValue,typeInfo,run_program,Result.andThen_ok,h1,h2,Sem.run_pure,newVar,newRow];rfl
theorem gW {t:Nat} {ti:TI} (hT:Qj P t ti) {v:Value} {b k:Nat} (hs:v.cells.size=ti.cs.length) (h1: ∀ j,j<v.cells.size->(v.cells.getD j undef).oneCell'=true) (hc: ∀ j,j<v.cells.size->(w.cell? (at' b (k+j))).isSome=true) (hf: ∀ j,j<v.cells.size->w.frozen? (at' b (k+j))=false) :
 (storeVar t (at' b k) v).run P w= .ok () (w.setCells b k v.cells.toList):=by
 have:=run_storeCells_cells (P:=P) b k v.cells.toList 0 w (fun j hj=>by simpa using hc j (by simpa using hj)) (fun j hj=>by simpa using hf j (by simpa using hj)) (fun u hu=>by obtain⟨j,hj,he⟩:=EY.1 hu;have:=h1 j (by simpa using hj);rw[Dj,Dt (by simpa using hj)]at this;rw[<- he];simpa using this);unfold storeVar;simp only[Dv,hT.MQ,Result.andThen_ok];all_goals simp_all[hs,at']
theorem zJ {t:Nat} {x y:Operand} (hC:TOk P C) (hS:Sim V0 O0 w0 O m st a w) (hd:o.dst=none) (ho:o.op= .store t x y) {fet:Fet} (hf:MV st.Jm fet) {q off:Nat} {v':A} (hx:Jy O st.Jm m w (a.eval x) (.ptr q off)) (hy:Jy O st.Jm m w (a.eval y) v')
 (hids: ∀ i∈v'.ids,i∈st.ids\/(Jr st.Jm i).isSome)
 (hok:Jv (PV C fet t (.ptr q off) v').ok) (hfr: ∀ p∈(PV C fet t (.ptr q off) v').new,st.fresh p.1=true) (hnd:nodup ((PV C fet t (.ptr q off) v').new.map (·.1))=true):Good P V0 O0 w0 (apply st o (PV C fet t (.ptr q off) v')) o a w:=by
 intro next Q hn
 have hF:FOk O st.Jm m w fet:=fun q x h=>⟨hf q x h,hS.Jm q x (hf q x h)⟩
 unfold PV at *
 obtain⟨ti,ht,he⟩:=JI hok;rw[he]at hok hfr hnd hn;clear he;dsimp only at hok hfr hnd hn;obtain⟨cs,hcs,he⟩:=J9 hok;rw[he]at hok hfr hnd hn;clear he;obtain⟨h1,h2⟩:=hok.cons;obtain⟨h2,h3⟩:=h2.cons;have h2:=Dk h2;obtain⟨h3,h30⟩:=h3.cons;have h3:=D7 h3;have h30:0<ti.cs.length:=by simpa [DZ]using h30.cons.1
 have hT:=hC.is ht;obtain⟨b,base,g1,g2,g3⟩:=hx.ptr hF (KN hcs);have hq:=hf _ _ (KN hcs);have hvc:=hy.cells h1;have hvs:v'.cells.length=ti.cs.length:=h2;have hsz:(a.eval y).cells.size=ti.cs.length:=by rw[hvc.1,h2]
 have hr:(execOp a.eval o).run P w= .ok .skip (w.setCells b (base+off) (a.eval y).cells.toList):=by
  have:=gW (P:=P) (w:=w) (b:=b) (k:=base+off) hT hsz (fun j hj=>(hvc.2 j (by rw[<- hvc.1];exact hj)).one) (fun j hj=>by
   obtain⟨_,_,u,g4,_⟩:=g3 (off+j) (by omega);rw[Eg,g4];rfl) (fun j hj=>by
   obtain⟨_,g4,_⟩:=g3 (off+j) (by omega);rw[Eg];exact g4)
  simp only[execOp,ho,Instr.storeAt,Instr.sureAddr,g2,Dv,Sem.run_pure,Result.andThen_ok,this]
 unfold Oper.wp;rw[hr,Oper.upon_skip];obtain⟨_,_,u0,hu0,_⟩:=g3 off (by omega)
 obtain⟨c,e,fr,hblk⟩: ∃ c e fr,w.heap[b]? =some (.cells c e fr):=by
  unfold World.cell? at hu0;dsimp only at hu0;split at hu0
  .rename_i c e fr hh;exact⟨c,e,fr,hh⟩
  .cases hu0
 have hcell: ∀ k u,w.cell? (at' b k)=some u->c[k]? =some u:=by intro k u hu;simp only[World.cell?,hblk]at hu;simpa using hu
 have hend:base+off+(a.eval y).cells.toList.length<=c.size:=by rw[Array.length_toList,hsz];obtain⟨_,_,u,hu,_⟩:=g3 (off+(ti.cs.length - 1)) (by omega);have:=hcell _ _ hu;have:=(DL.1 this).1;omega
 obtain⟨c',k1,k2,k3,k4,k5,k6,k7,k8⟩:=UB b (a.eval y).cells.toList (base+off) w hblk hend;rw[Array.length_toList,hsz]at k3
 have hout: ∀ k,(k<base+off\/base+off+ti.cs.length<=k)->c'[k]? =c[k]? :=by
  intro k hk;by_cases hks:k<c.size
  .have:=k3 k;rw[Du]at this;rw[getD_eq,getD_eq hks,this]
  .rw[Fj (by omega),Fj (by omega)]
 have hown: ∀ k,base+off<=k->k<base+off+ti.cs.length->O b k=some q:=by intro k hk1 hk2;have:=(g3 (k - base) (by omega)).1;rwa [show base+(k - base)=k from by omega]at this
 let w':=w.setCells b (base+off) (a.eval y).cells.toList
 have hM:Moves O (fun i=>i=q) w w':=by
  refine Moves.row k6 k7 k8 k5 hblk k1 k4 k2 (fun k hk=>hout k ?_) (.inl ⟨base+off,q,?_,hown _ (DR _) (by omega),rfl⟩)
  .rcases DT k (base+off)with h | h
   .exact .inl h
   .right;rcases DT k (base+off+ti.cs.length)with h' | h'
    .exact absurd rfl (hk q (hown k h h'))
    .exact h'
  .rw[Array.length_toList,hsz]at hend;omega
 have hP:Passes O O (fun i=>i=q) w.heap.size:=⟨fun _ _ _ h=>h,fun _ _ _ _ h _=>h⟩
 have hpr:=hM.JE hP;let ad:=Ky (Lh fet q+1+off) (adK C (q / 256 - 128) ti) v'.cells;let m':Nat->Value:=fun i=>if has (ad.2.map (·.1)) i then .slice none 0 0 else m i;let Nw:Nat->Prop:=fun i=> ∃ p∈ad.2,p.1=i;have hNw: ∀ i,Nw i->Ns st i:=by rintro i ⟨p,hp,rfl⟩;exact Lu (hfr p hp)
 have hm_not: ∀ i,¬ Nw i->m' i=m i:=by intro i hi;refine Du (fun h=>hi ?_);obtain⟨p,hp,hpe⟩:=D6.1 (MZ.1 h);exact⟨p,hp,hpe⟩
 have hmad: ∀ p∈ad.2,m' p.1= .slice none 0 0:=fun p hp=>Dw (MZ.2 (D6.2 ⟨p,hp,rfl⟩));have hqN: ¬ Nw q:=fun h=>by rw[(hNw q h).2]at hq;cases hq
 let objs':=J3 (JM (J3 st.Jm [(q,.box (splice cs off ad.1))]) []) ad.2;have hnewO: ∀ p∈ad.2,Jr objs' p.1=some p.2:=fun p hp=>Yu hnd (by exact hp)
 have hget: ∀ i z,Jr objs' i=some z->(i,z)∈ad.2\/(¬ Nw i/\i=q/\z= .box (splice cs off ad.1))\/(¬ Nw i/\i≠q/\Jr st.Jm i=some z):=by
  intro i z hz;rcases Rj hz with h | ⟨hno,_,h⟩
  .exact .inl h
  .have hni: ¬ Nw i:=by rintro ⟨p,hp,rfl⟩;exact hno p.2 hp
   rcases h with h | ⟨hno',h⟩
   .simp only[Ee]at h;injection h with e1 e2;exact .inr (.inl ⟨hni,e1,e2⟩)
   .exact .inr (.inr ⟨hni,fun hiq=>hno' (.box (splice cs off ad.1)) (by rw[hiq];exact List.mem_singleton_self _),h⟩)
 have hE:NW st.Jm m objs' m' Nw:=by
  intro i z hz;rcases hget i z hz with h | ⟨hni,h1',h2'⟩ | ⟨hni,_,h⟩
  .exact .inl ⟨_,h,rfl⟩
  .subst h1';subst h2';exact .inr ⟨_,hq,rfl,hm_not _ hni⟩
  .exact .inr ⟨z,h,rfl,hm_not _ hni⟩
 have hadl:ad.1.length=ti.cs.length:=by rw[(UW (adK C (q / 256 - 128) ti) v'.cells (Lh fet q+1+off)).1,hvs]
 have happ:apply st o {ok:=[v'.isVal,Nat.beq v'.cells.length ti.cs.length,Nat.ble (off+ti.cs.length) cs.length,Nat.blt 0 ti.cs.length],val:=.undef,upd:=[(q,.box (splice cs off ad.1))],new:=ad.2}= {tmps:=put st.tmps none .undef,Jm:=objs'}:=by unfold apply;rw[hd]
 refine hn O m' _ _ ?_;rw[happ,hd];refine hS.next (st':= {tmps:=put st.tmps none .undef,Jm:=objs'}) (d:=none) (x:=.undef) (T:=fun i=>i=q) (Nw:=Nw) hM hP (fun b k _ h=>h) hE (fun n hn'=>(hNw n hn').both) (fun r hr=>by rw[hr,hq];rfl) (fun i z hz=> ?_) rfl (fun h=>absurd rfl h);rcases hget i z hz with h | ⟨hni,h1',h2'⟩ | ⟨hni,hiq,h⟩
 .right;obtain⟨⟨e',sz',h4⟩,_⟩:=(UW (adK C (q / 256 - 128) ti) v'.cells (Lh fet q+1+off)).2.2 _ h;dsimp only at h4;subst h4;exact⟨⟨by simp [Sl.es],.inl ⟨trivial,rfl,hmad _ h⟩⟩,(hNw _ ⟨_,h,rfl⟩).ne⟩
 .right;subst h1';subst h2'
  have hcs':Ob O objs' m' w' (a.eval y).cells ad.1:=hvc.AcU (ks:=(adK C (i / 256 - 128) ti)) (id:=Lh fet i+1+off) hpr hE (fun j hj r hr' hn'=>by
   rcases hids r (aV h1 hj hr')with hh | hh
   .exact(hNw r hn').1 hh
   .rw[(hNw r hn').2]at hh;cases hh) (fun p hp=>⟨hnewO p hp,hmad p hp⟩)
  refine⟨⟨b,base,by rw[hm_not _ hni];exact g1,fun j hj=> ?_⟩,hS.ids _ _ hq⟩;rw[UC _ _ _ (by rw[hadl];omega)]at hj;obtain⟨g4,g5,u,g6,g7⟩:=g3 j hj;refine⟨g4,by rw[hM.frozen (cell_lt g6)];exact g5,?_⟩;rw[XC _ _ _ _ (by rw[hadl];omega),hadl];have hcell': ∀ k,w'.cell? (at' b k)=c'[k]? :=by intro k;simp only[World.cell?];rw[k1];rfl
  rw[hcell'];have hjs:base+j<c.size:=(DL.1 (hcell _ _ g6)).1;by_cases hin:off<=j/\j<off+ti.cs.length
  .rw[Dw hin];refine⟨_,getD_eq,?_⟩;rw[k3,Ajk];have e1:(a.eval y).cells.toList.getD (base+j - (base+off)) undef=(a.eval y).cells.getD (j - off) undef:=by rw[Dj,Di,DJ,show base+j - (base+off)=j - off from by omega]
   rw[e1];exact hcs'.2 (j - off) (by rw[hadl];omega)
  .rw[Du hin,hout _ (by omega)];exact⟨u,hcell _ _ g6,g7.step hpr hE (fun r hr' hn'=>(hNw r hn').1 (RG hq (OX hj hr')))⟩
 .exact .inl ⟨hiq,h,hm_not _ hni⟩
end
end Go.Proofs.YtpaimpmokhihmaaGreatDoor.Vm
