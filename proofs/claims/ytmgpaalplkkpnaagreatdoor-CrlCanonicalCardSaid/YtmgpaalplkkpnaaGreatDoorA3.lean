import Derived.Test.YtmgpaalplkkpnaaGreatDoorA2
import Derived.Laws.Tables
import Derived.Laws.Append
import Derived.Laws.AppendOwn
import Derived.Laws.OwnMore
set_option linter.all false
namespace Go.Proofs.YtmgpaalplkkpnaaGreatDoor.Vm
section
variable {P:Program} {C:Ctx} {O:Own} {Js:List (Nat×Obj)} {m:Nat->Value} {a:Act} {w:World} {o:Oper} {fet:Fet}
def S9 (O:Own) (Js:List (Nat×Obj)) (m:Nat->Value) (w:World) (vs:Array Value) (cs:List A):Prop :=
 vs.size=cs.length/\ ∀ j,j<cs.length->JO O Js m w (vs.getD j undef) (cs.getD j .undef)
theorem JO.one {v:Value} {x:A} (h:JO O Js m w v x):v.oneCell'=true:=by
 cases x with
 | undef=>exact h
 | bool _=>cases h;rfl
 | int _ _=>cases h;rfl
 | str _=>cases h;rfl
 | sl _=>cases h<;>rfl
 | sln _=>exact JC.one h
 | LC=>have h':v=_:=h;subst h';rfl
 | Me=>cases h;rfl
 | ptr _ _=>exact h.1
 | own _=>exact h.1
 | Kt _ _ _=>exact h.1
 | clo _ _=>exact h.1
 | bsl _ _=>exact h.1
 | osl _ _=>exact h.1
 | elt _=>obtain⟨_,_,h,_⟩:=h;subst h;rfl
 | fn _=>cases h<;>rfl
 | _=>exact h.elim
theorem oneCell_cells {v:Value} (h:v.oneCell'=true):v.cells= #[v]:=by cases v<;>first | rfl | cases h
theorem JJ.cells {v:Value} {x:A} (h:JJ O Js m w v x) (hv:x.isVal=true):S9 O Js m w v.cells x.cells:=by
 have cell:JO O Js m w v x->x.cells=[x]->S9 O Js m w v.cells x.cells:=by
  intro hc he;rw[he,oneCell_cells hc.one];refine⟨rfl,fun j hj=> ?_⟩;have:j=0:=by simpa using hj
  subst this;exact hc
 cases x with
 | agg cs =>obtain⟨vs,h1,h2,h3⟩:=h;subst h1;exact⟨h2,h3⟩
 | undef=>cases hv
 | tup _=>cases hv
 | usl _ _ _=>cases hv
 | ump _=>cases hv
 | box _=>cases hv
 | cbx _ _=>cases hv
 | cnd _ _=>cases hv
 | _=>exact cell h rfl
theorem WE (l:List Value): ∀(k off:Nat) (cs:Array Value) (i:Nat),off+k+l.length<=cs.size ->
 ((l.zipIdx k).foldl (fun cs (p:Value×Nat)=>cs.setIfInBounds (off+p.2) p.1) cs).size=cs.size /\
 ((l.zipIdx k).foldl (fun cs (p:Value×Nat)=>cs.setIfInBounds (off+p.2) p.1) cs).getD i undef=if off+k<=i/\i<off+k+l.length then l.getD (i - (off+k)) undef else cs.getD i undef:=by
 induction l with
 | nil =>intro k off cs i _;refine⟨rfl,?_⟩;rw[Dk (by simp)];rfl
 | cons v l ih =>
  intro k off cs i h;simp only[List.zipIdx_cons,List.foldl_cons];simp only[List.length_cons]at h ⊢;obtain⟨h1,h2⟩:=ih (k+1) off (cs.setIfInBounds (off+k) v) i (by simp;omega);refine⟨by rw[h1];simp,?_⟩;rw[h2];by_cases hi:off+(k+1)<=i/\i<off+(k+1)+l.length
  .rw[Dn hi,A52,show i - (off+k)=(i - (off+(k+1)))+1 from by omega];rfl
  .rw[Dk hi];by_cases hk:i=off+k
   .subst hk;rw[A52,Du,Fg];all_goals grind
   .rw[A51,Du,Fg,A51,<- Du]
theorem yP (l:List A) (off:Nat) (vs:List A) (i:Nat) (h:off+vs.length<=l.length):(splice l off vs).getD i .undef=if off<=i/\i<off+vs.length then vs.getD (i - off) .undef else l.getD i .undef:=by unfold splice;all_goals grind[splice]
theorem kL (l:List A) (off:Nat) (vs:List A) (h:off+vs.length<=l.length):(splice l off vs).length=l.length:=by unfold splice;simp;omega
theorem S9.splice {vs us:Array Value} {cs xs:List A} {off:Nat} (h:S9 O Js m w vs cs) (hu:S9 O Js m w us xs) (hle:off+xs.length<=cs.length) :
 S9 O Js m w (us.zipIdx.foldl (fun cs (c,j)=>cs.setIfInBounds (off+j) c) vs) (splice cs off xs):=by
 have e:us.zipIdx.foldl (fun cs (c,j)=>cs.setIfInBounds (off+j) c) vs=(us.toList.zipIdx 0).foldl (fun cs (p:Value×Nat)=>cs.setIfInBounds (off+p.2) p.1) vs:=by rw[<- IV];simp
 rw[e];have hl:off+0+us.toList.length<=vs.size:=by rw[Array.length_toList,hu.1,h.1];omega
 refine⟨by rw[(WE us.toList 0 off vs 0 hl).1,h.1,kL _ _ _ hle],fun j hj=> ?_⟩;rw[kL _ _ _ hle]at hj;rw[(WE us.toList 0 off vs j hl).2,yP _ _ _ _ hle];rw[Array.length_toList,hu.1];by_cases hi:off<=j/\j<off+xs.length
 .rw[A52,Dn hi,Nat.add_zero];have:=hu.2 (j - off) (by omega);have e:us.toList.getD (j - off) undef=us.getD (j - off) undef:=by rw[Du,Dj,Eg]
  rw[e];exact this
 .rw[A51,Dk hi];exact h.2 j hj
def qZ (P:Program) (d:TypeDesc) (i:Nat):Option (Nat×Nat) :=
 match d with
 | .struct fs=>(fs[i]?).bind fun f=>(P.info? f.type).map fun j=>(f.offset,j.size)
 | .array _ e=>(P.info? e).map fun j=>(i*j.size,j.size)
 | _=>none
theorem Apx (hC:TOk P C) {d:TypeDesc} {place:Nat->Option (Nat×Nat)} (hp: ∀ i p,qZ P d i=some p->place i=some p): ∀(xs:List (Nat×A)) (ps:List (Nat×Value)) (vs:Array Value) (cs cs':List A),
 xs.length=ps.length->(∀(j:Nat) (x:Nat×A) (p:Nat×Value),xs[j]? =some x->ps[j]? =some p->p.1=x.1/\JJ O Js m w p.2 x.2)->S9 O Js m w vs cs->fill C d xs cs=some cs' ->
 ∃ vs',Instr.fill place vs ps=some vs'/\S9 O Js m w vs' cs':=by
 intro xs
 induction xs with
 | nil =>
  intro ps vs cs cs' hl _ hcs hf;cases ps with
  | nil=>simp only[fill]at hf;injection hf with hf;subst hf;exact⟨vs,rfl,hcs⟩
  | cons _ _=>simp at hl
 | cons x xs ih =>
  intro ps vs cs cs' hl hr hcs hf;cases ps with
  | nil=>simp at hl
  | cons p ps =>
   obtain⟨i,x⟩:=x;obtain⟨i',v⟩:=p;obtain⟨h1,h2⟩:=hr 0 (i,x) (i',v) rfl rfl;dsimp only at h1 h2;subst h1;simp only[fill]at hf;cases hpl:AfB C d i' with
   | none=>rw[hpl]at hf;cases hf
   | some q =>
    obtain⟨off,ti⟩:=q;rw[hpl]at hf;dsimp only at hf;cases hb:(x.isVal&&Nat.beq x.cells.length ti.cs.length&&Nat.ble (off+ti.cs.length) cs.length)with
    | false=>rw[hb]at hf;cases hf
    | true =>
     rw[hb]at hf;simp only[cond_true]at hf;simp only[Dq,Xl,D5]at hb;obtain⟨⟨hb1,hb2⟩,hb3⟩:=hb;have hb3:=DL hb3;have hv:=h2.cells hb1
     have hpv:qZ P d i'=some (off,ti.cs.length):=by
      unfold AfB at hpl;unfold qZ;split at hpl
      .rename_i fs;split at hpl
       .rename_i f hf';split at hpl
        .rename_i tf htf;injection hpl with hpl;injection hpl with e1 e2;subst e1;subst e2;obtain⟨i0,z,h3,h4,_⟩:=(hC.is htf).i;have:fs[i']? =some f:=by simpa using hf'
         simp [this,h3,h4]
        .cases hpl
       .cases hpl
      .rename_i n e;split at hpl
       .rename_i tf htf;cases hlt:Nat.blt i' n with
        | false=>rw[hlt]at hpl;cases hpl
        | true =>rw[hlt]at hpl;injection hpl with hpl;injection hpl with e1 e2;subst e2;obtain⟨i0,z,h3,h4,_⟩:=(hC.is htf).i;simp [h3,h4,<- e1]
       .cases hpl
      .cases hpl
     have hnext:=hcs.splice (off:=off) hv (by omega);obtain⟨vs',h5,h6⟩:=ih ps _ _ _ (by simpa using hl) (fun j x p hx hp=>hr (j+1) x p (by simpa using hx) (by simpa using hp)) hnext hf;refine⟨vs',?_,h6⟩;simp only[Instr.fill,hp _ _ hpv];have: ¬(v.cells.size≠ti.cs.length||decide (off+v.cells.size>vs.size))=true:=by rw[hv.1,hcs.1,hb2];simp;omega
     rw[Dk (by simpa using this)];exact h5
theorem Ue: ∀(vs:List Value) (ks:List CK),KI vs ks=true->vs.length=ks.length/\ ∀ j,j<ks.length->JO O Js m w (vs.getD j undef) ((ks.map CK.zero).getD j .undef):=by
 intro vs
 induction vs with
 | nil=>intro ks h;cases ks with
  | nil=>exact⟨rfl,fun j hj=>by simp at hj⟩
  | cons _ _=>simp [KI]at h
 | cons v vs ih =>
  intro ks h;cases ks with
  | nil=>cases v<;>simp [KI]at h
  | cons k ks =>
   have step:KI vs ks=true->JO O Js m w v k.zero->(v::vs).length=(k::ks).length/\ ∀ j,j<(k::ks).length->JO O Js m w ((v::vs).getD j undef) (((k::ks).map CK.zero).getD j .undef):=by
    intro hz hv;obtain⟨h1,h2⟩:=ih ks hz;refine⟨by simp [h1],fun j hj=> ?_⟩;cases j with
    | zero=>exact hv
    | succ j=>simpa using h2 j (by simpa using hj)
   cases k with
   | bool=>cases v with
    | bool b=>cases b<;>simp [KI]at h;exact step h (.bool _)
    | _=>simp [KI]at h
   | int k'=>cases v with
    | int k'' n =>
     have h':A.kEq k'' k'=true/\n=0/\KI vs ks=true:=by clear step ih;unfold KI at h;split at h<;>simp_all
     obtain⟨h1,h2,h3⟩:=h';have:=Ri h1;subst this;subst h2;exact step h3 (.int _ _)
    | _=>simp [KI]at h
   | str=>cases v with
    | string s =>
     simp only[KI,Dq]at h;have hs:s.data.toList=[]:=by simpa using h.1
     refine step h.2 ?_;show JC O w (.string s) (.str []);rw[<- hs];exact .str s
    | _=>simp [KI]at h
   | sl e sz=>cases v with
    | slice ad l c =>
     have h':ad=none/\l=0/\c=0/\KI vs ks=true:=by clear step ih;unfold KI at h;split at h<;>simp_all
     obtain⟨h1,h2,h3,h4⟩:=h';subst h1;subst h2;subst h3;exact step h4 rfl
    | _=>simp [KI]at h
   | ptr=>cases v with
    | pointer ad=>cases ad<;>simp [KI]at h;exact step h .Me
    | _=>simp [KI]at h
   | fn=>cases v with
    | nilFunc=>simp [KI]at h;exact step h JC.vT
    | _=>simp [KI]at h
   | sln _ _=>cases v<;>simp [KI]at h
   | mp _ _=>cases v<;>simp [KI]at h
   | bx _=>cases v<;>simp [KI]at h
   | oth =>
    have:v.oneCell'=true/\KI vs ks=true:=by cases v<;>simpa [KI]using h
    exact step this.2 this.1
theorem Amy {n t:Nat} {ks:List CK} (h:P5 P n t=some ks): ∃ i,P.info? t=some i:=by
 cases n with
 | zero=>simp [P5]at h
 | succ n =>
  cases hi:P.info? t with
  | some i=>exact⟨i,rfl⟩
  | none =>
   have hu:P.underlying t=none:=by simp [Program.underlying,hi]
   simp [P5,hu]at h
theorem Arw {n t:Nat} {ks:List CK} {fs:Array Field} (h:P5 P n t=some ks) (hu:P.underlying t=some (.struct fs)): ∀ f∈fs.toList,∃ i,P.info? f.type=some i:=by
 cases n with
 | zero=>simp [P5]at h
 | succ n =>
  simp only[P5,hu]at h;revert h;generalize fs.toList=l
  induction l generalizing ks with
  | nil=>intro _ f hf;cases hf
  | cons g l ih=>grind[Amy]
theorem AtT {n t c e:Nat} {ks:List CK} (h:P5 P n t=some ks) (hu:P.underlying t=some (.array c e)): ∃ i,P.info? e=some i:=by
 cases n with
 | zero=>simp [P5]at h
 | succ n=>grind[P5,Amy]
theorem ArR {P:Program}: ∀(l:List Field),(∀ f∈l,∃ i,P.info? f.type=some i)->l.mapM (fun f=>(P.info? f.type).map fun i=>(f.offset,i.size))=some (l.map fun f=>(f.offset,P.cellsOf f.type)):=by
 intro l
 induction l with
 | nil=>intro _;rfl
 | cons f l ih =>intro h;obtain⟨i,hi⟩:=h f Dv;have:=ih (fun g hg=>h g (Dx _ hg));simp [I9,hi,this,Program.cellsOf]
theorem Ard {t:Nat} {ti:TI} (hT:Xc P t ti): ∃ i z,P.info? t=some i/\i.zero=some z/\Zr ti.d=qG z/\S9 O Js m w z.cells (ti.cs.map CK.zero):=by obtain⟨i,z,h1,h2,h3,h4,h5,h6⟩:=hT.i;obtain⟨h7,h8⟩:=Ue (O:=O) (Js:=Js) (m:=m) (w:=w) _ _ h5;all_goals simp_all[Zr,qG,S9,CK.zero]
theorem AtI {t:Nat} {ps:Array (Nat×Operand)} (hC:TOk P C) (ho:o.op= .build t ps) {xs:List (Nat×A)} (hl:xs.length=ps.size) (hx: ∀(j:Nat) (x:Nat×A) (p:Nat×Operand),xs[j]? =some x->ps[j]? =some p->p.1=x.1/\JJ O Js m w (a.eval p.2) x.2)
 (hok:JE (Adu C t xs).ok):Pure P O Js m a w o (Adu C t xs):=by
 unfold Adu at hok ⊢;obtain⟨ti,ht,he⟩:=Ky hok;rw[he]at hok ⊢;clear he;obtain⟨cs,hcs,he⟩:=JW hok;rw[he]at hok ⊢;clear he;have hT:=hC.is ht;obtain⟨i,z,h1,h2,_,h3⟩:=Ard (O:=O) (Js:=Js) (m:=m) (w:=w) hT
 have key: ∃ place:Nat->Option (Nat×Nat),(∀ i p,qZ P ti.d i=some p->place i=some p)/\ ∀ vs,Instr.fill place z.cells (ps.map (fun(i,x)=>(i,a.eval x))).toList=some vs->P.built t (ps.map (fun(i,x)=>(i,a.eval x))).toList=some vs:=by
  have hu:=hT.d;cases hd:ti.d with
  | struct fs =>
   rw[hd]at hu;have hinf:=Arw hT.ck hu;refine⟨fun i=>(fs.toList.map fun f=>(f.offset,P.cellsOf f.type)).toArray[i]?,fun i p hp=> ?_,fun vs hvs=> ?_⟩
   .simp only[qZ]at hp;cases hf:fs[i]? with
    | none=>rw[hf]at hp;cases hp
    | some f =>
     rw[hf]at hp;simp only[Option.bind_some]at hp;cases hi:P.info? f.type with
     | none=>rw[hi]at hp;cases hp
     | some j =>rw[hi]at hp;simp at hp;subst hp;simp [hf,Program.cellsOf,hi]
   .unfold Program.built;simp only[h1,hu,h2,ArR _ hinf];exact hvs
  | array n e =>
   rw[hd]at hu;obtain⟨ie,hie⟩:=AtT hT.ck hu;refine⟨fun i=>some (i*ie.size,ie.size),fun i p hp=> ?_,fun vs hvs=> ?_⟩
   .grind[qZ]
   .unfold Program.built;simp only[h1,hu,h2,hie];exact hvs
  | _ =>have:=hok.cons.1;rw[Ait,hd]at this;cases this
 obtain⟨place,hp,hb⟩:=key
 obtain⟨vs,h4,h5⟩:=Apx (O:=O) (Js:=Js) (m:=m) (w:=w) hC hp xs (ps.map (fun(i,x)=>(i,a.eval x))).toList z.cells _ cs (by simp [hl]) (fun j x p hxj hpj=>by
  simp only[Ir,EC]at hpj;cases hq:ps.toList[j]? with
  | none=>rw[hq]at hpj;cases hpj
  | some q =>rw[hq]at hpj;injection hpj with hpj;subst hpj;exact hx j x q hxj (by simpa using hq)) h3 hcs
 have:=run_build (P:=P) w t _ _ (hb vs h4);refine⟨⟨.agg vs,?_,?_⟩,rfl,rfl,rfl⟩
 .simp only[execOp,ho,DJ,this,Result.andThen_ok,Sem.run_pure]
 .exact⟨vs,rfl,h5.1,h5.2⟩
end
structure Sim (V0:Nat->Value) (O0:Own) (w0:World) (O:Own) (m:Nat->Value) (st:St) (a:Act) (w:World):Prop where
 defers:a.defers=[]
 size:a.tmps.size=st.tmps.length
 tmps: ∀ t,t<st.tmps.length->JJ O st.Js m w (a.tmps.getD t undef) (st.tmps.getD t .undef)
 Js: ∀ o x,JA st.Js o=some x->Lt O st.Js m w o x
 frame:Moves O0 (fun o=>o≠255) w0 w
 own: ∀ b k o,b<w0.heap.size->O b k=some o->o≠255-> ∃ o0,O0 b k=some o0/\o0≠255
 ids: ∀ o x,JA st.Js o=some x->o≠255
 less: ∀ b k,b<w0.heap.size->O b k≠none->O0 b k≠none
 root: ∀ o,aG o=true->(JA st.Js o).isSome->m o=V0 o
 y7: ∀ b k,b<w0.heap.size->O0 b k=some 255->O b k=some 255
 inv:Inv O0 w0
def Sim.Ajx {V0:Nat->Value} {O0 O:Own} {w0 w:World} {m:Nat->Value} {st:St} {a:Act} (hS:Sim V0 O0 w0 O m st a w):Inv O w:=by
 refine⟨fun g j p ht=> ?_,fun g n ht=> ?_⟩
 .obtain⟨h1,v,h2,h3⟩:=hS.inv.1 g j p ht;have hb:=cell_lt h2;refine⟨?_,v,?_,h3⟩
  .cases h:O g j with
   | none=>rfl
   | some o=>exact absurd h1 (hS.less g j hb (by rw[h];simp))
  .rw[hS.frame.cell hb (fun o ho=>by rw[h1]at ho;cases ho)];exact h2
 .obtain⟨c,e,fr,h1,h2⟩:=hS.inv.2 g n ht;have hg:g<w0.heap.size:=(Ea.1 h1).1;rcases hS.frame.blk g hg with he | ⟨d,d',e',fr',k1,k2,k3,_⟩ | ⟨es,ck,es',ck',o,k1,_⟩;all_goals simp_all[Own,Inv]
def Moves.A3P {O0 O:Own} {T:Nat->Prop} {w0 w w':World} (h:Moves O0 (fun o=>o≠255) w0 w) (h':Moves O T w w') (hO: ∀ b k o,b<w0.heap.size->O b k=some o->o≠255-> ∃ o0,O0 b k=some o0/\o0≠255) (hT: ¬ T 255) :
 Moves O0 (fun o=>o≠255) w0 w':=by
 refine⟨h'.os.trans h.os,h'.tape.trans h.tape,h'.output.trans h.output,Gs h.size h'.size,fun b hb=> ?_⟩;have hb':b<w.heap.size:=Fz hb h.size;have up: ∀ k o,O b k=some o->T o-> ∃ o',O0 b k=some o'/\o'≠255:=fun k o ho ht=>hO b k o hb ho (fun e=>hT (by rw[<- e];exact ht));rcases h'.blk b hb' with he' | ⟨c,c',e,fr,h1,h2,h3,h4,k,o,h5,h6,h7⟩ | ⟨es,ck,es',ck',o,h1,h2,h3,h4⟩
 .rcases h.blk b hb with he | ⟨d,d',e,fr,h1,h2,h3,h4,h5⟩ | ⟨es,ck,es',ck',o,h1,h2,h3,h4⟩
  .exact .inl (he'.trans he)
  .exact .inr (.inl ⟨d,d',e,fr,h1,he'.trans h2,h3,h4,h5⟩)
  .simp_all[Own]
 .obtain⟨o',ho',hne'⟩:=up k o h6 h7;rcases h.blk b hb with he | ⟨d,d',e',fr',g1,g2,g3,g4,g5⟩ | ⟨es,ck,es',ck',o1,g1,g2,g3,g4⟩
  .refine .inr (.inl ⟨c,c',e,fr,he▸h1,h2,h3,fun i hi=>h4 i (fun o'' ho'' ht=> ?_),k,o',h5,ho',hne'⟩);obtain⟨o3,ho3,hn3⟩:=up i o'' ho'' ht;exact hi o3 ho3 hn3
  .rw[g2]at h1;injection h1 with h1;injection h1 with q1 q2 q3;subst q1;subst q2;subst q3;refine .inr (.inl ⟨d,c',e',fr',g1,h2,h3.trans g3,fun i hi=> ?_,k,o',by omega,ho',hne'⟩);rw[h4 i (fun o'' ho'' ht=> ?_),g4 i hi];obtain⟨o3,ho3,hn3⟩:=up i o'' ho'' ht;exact hi o3 ho3 hn3
  .simp_all[Own]
 .obtain⟨o',ho',hne'⟩:=up 0 o h3 h4;rcases h.blk b hb with he | ⟨d,d',e',fr',g1,g2,g3,g4,g5⟩ | ⟨es1,ck1,es1',ck1',o1,g1,g2,g3,g4⟩
  .exact .inr (.inr ⟨es,ck,es',ck',o',he▸h1,h2,ho',hne'⟩)
  all_goals simp_all[Own]
def AhO (tmps:List A) (d:Option Tmp) (v:A) (t:Nat) (h:t<tmps.length):(put tmps d v).getD t .undef=if d=some t then v else tmps.getD t .undef:=by
 cases d with
 | none=>simp [put]
 | some d =>
  simp only[put,Dj,FN];by_cases hd:d=t
  .subst hd;simp [h]
  .simp [hd]
def ZQ (tmps:List A) (d:Option Tmp) (v:A):(put tmps d v).length=tmps.length:=by cases d<;>simp [put]
def Arj (a:Act) (d:Option Tmp) (v:Value) (t:Nat) (h:t<a.tmps.size):(a.put d v).tmps.getD t undef=if d=some t then v else a.tmps.getD t undef:=by
 cases d with
 | none=>simp [Act.put]
 | some d =>
  simp only[Act.put,Du,Fg];by_cases hd:d=t
  .subst hd;simp [h]
  .simp [hd]
def Ark (a:Act) (d:Option Tmp) (v:Value):(a.put d v).tmps.size=a.tmps.size:=by cases d<;>simp [Act.put]
def AmW (a:Act) (d:Option Tmp) (v:Value):(a.put d v).defers=a.defers:=by cases d<;>rfl
def qL {st:St} {t n:Nat} (ht:t<st.tmps.length) (h:n∈(st.tmps.getD t .undef).ids):n∈st.ids:=D9 _ (UA ht h)
def Ahb {l:List (Nat×Obj)} {o:Nat} {x:Obj} (h:JA l o=some x):(o,x)∈l:=by
 induction l with
 | nil=>cases h
 | cons p r ih=>grind[O6]
def Zw {st:St} {o n:Nat} {x:Obj} (ho:JA st.Js o=some x) (h:n∈x.ids):n∈st.ids :=
 DF _ (Ep.2 ⟨(o,x),Ahb ho,h⟩)
structure Qe (st:St) (n:Nat):Prop where
 ids:n∉st.ids
 Js:JA st.Js n=none
 ne:n≠255
 root:aG n=false
def Qe.both {st:St} {n:Nat} (h:Qe st n):n∉st.ids/\aG n=false:=⟨h.ids,h.root⟩
def N9 {st:St} {n:Nat} (h:st.fresh n=true):Qe st n:=by
 unfold St.fresh at h;simp only[Dq,Eu,Option.isNone_iff_eq_none]at h;refine⟨fun hm=> ?_,h.1.1.2,fun e=> ?_,h.2⟩
 .have:has st.ids n=true:=Hr.2 ⟨n,hm,by simp⟩;rw[this]at h;cases h.1.1.1
 .simp_all
def Sim.next {V0:Nat->Value} {O0 O O':Own} {w0 w w':World} {m m':Nat->Value} {st st':St} {a:Act} {T Nw:Nat->Prop} {d:Option Tmp} {v:Value} {x:A}
 (hS:Sim V0 O0 w0 O m st a w) (hM:Moves O T w w') (hP:Passes O O' T w.heap.size) (hO: ∀ b k,b<w.heap.size->O' b k≠none->O b k≠none)
 (hE:RN st.Js m st'.Js m' Nw) (hN: ∀ n,Nw n->n∉st.ids/\aG n=false)
 (hT: ∀ o,T o->(JA st.Js o).isSome)
 (hobj: ∀ o y,JA st'.Js o=some y->(¬ T o/\JA st.Js o=some y/\m' o=m o)\/(Lt O' st'.Js m' w' o y/\o≠255))
 (ht:st'.tmps=put st.tmps d x) (hx:d≠none->JJ O' st'.Js m' w' v x):Sim V0 O0 w0 O' m' st' (a.put d v) w':=by
 have hpr:=hM.Kr hP;have hT255: ¬ T 255:=fun h=>by obtain⟨x,hx⟩:=EY.1 (hT 255 h);exact hS.ids 255 x hx rfl
 refine⟨by rw[AmW];exact hS.defers,by rw[Ark,ht,ZQ];exact hS.size,fun t htl=> ?_,fun o y ho=> ?_,hS.frame.A3P hM hS.own hT255,fun b k q hb h hne=> ?_,fun o y ho=> ?_,fun b k hb h=>hS.less b k hb (hO b k (Fz hb hS.frame.size) h),fun o hr ho=> ?_,fun b k hb h=>hP.keep b k 255 (Fz hb hS.frame.size) (hS.y7 b k hb h) hT255,hS.inv⟩
 .rw[ht,ZQ]at htl;rw[ht,AhO _ _ _ _ htl,Arj _ _ _ _ (by rw[hS.size];exact htl)];by_cases hd:d=some t
  .rw[Dn hd,Dn hd];exact hx (by rw[hd];simp)
  .rw[Dk hd,Dk hd];exact(hS.tmps t htl).step hpr hE (fun i hi hn=>(hN i hn).1 (qL htl hi))
 .rcases hobj o y ho with ⟨h1,h2,h3⟩ | h
  .exact(hS.Js o y h2).step hM hP hE h1 h3 (fun i hi hn=>(hN i hn).1 (Zw h2 hi))
  .exact h.1
 .have hb':=Fz hb hS.frame.size;cases hq:O b k with
  | none=>exact absurd hq (hO b k hb' (by rw[h];simp))
  | some r =>
   by_cases hr:r=255
   .subst hr;have:=hP.keep b k 255 hb' hq hT255;rw[h]at this;injection this with this;exact absurd this hne
   .exact hS.own b k r hb hq hr
 .rcases hobj o y ho with ⟨_,h2,_⟩ | h
  .exact hS.ids o y h2
  .exact h.2
 .obtain⟨y,hy⟩:=EY.1 ho;rcases hE o y hy with h | ⟨x,h1,_,h3⟩
  .rw[(hN o h).2]at hr;cases hr
  .rw[h3];exact hS.root o hr (by rw[h1];rfl)
theorem Sim.put {V0:Nat->Value} {O0 O:Own} {w0 w:World} {m:Nat->Value} {st:St} {a:Act} (hS:Sim V0 O0 w0 O m st a w) (d:Option Tmp) {v:Value} {x:A} (hx:JJ O st.Js m w v x) :
 Sim V0 O0 w0 O m {st with tmps:=Vm.put st.tmps d x} (a.put d v) w :=
 hS.next (st':= {st with tmps:=Vm.put st.tmps d x}) (T:=fun _=>False) (Nw:=fun _=>False) (Moves.refl O _ w) ⟨fun _ _ _ h=>h,fun _ _ _ _ h _=>h⟩ (fun _ _ _ h=>h) (fun _ y ho=>.inr ⟨y,ho,rfl,rfl⟩) (fun _ h=>h.elim) (fun _ h=>h.elim)
  (fun _ _ ho=>.inl ⟨id,ho,rfl⟩) rfl (fun _=>hx)
def Good (P:Program) (V0:Nat->Value) (O0:Own) (w0:World) (st':St) (o:Oper) (a:Act) (w:World):Prop :=
 ∀(next:Act->World->Prop) (Q:Exit->Act->World->Prop),(∀ O' m' a' w',Sim V0 O0 w0 O' m' st' a' w'->next a' w')->o.wp P a w next Q
def Pure.good {P:Program} {V0:Nat->Value} {O0 O:Own} {w0 w:World} {m:Nat->Value} {st:St} {a:Act} {o:Oper} {δ :Dl} (hS:Sim V0 O0 w0 O m st a w) (h:Pure P O st.Js m a w o δ):Good P V0 O0 w0 (apply st o δ) o a w:=by
 intro next Q hn
 obtain⟨v,hr,hx⟩:=h.run;unfold Oper.wp;rw[hr,Oper.upon_value];refine hn O m _ _ ?_;have:apply st o δ = {st with tmps:=put st.tmps o.dst δ.val}:=by unfold apply;rw[h.new,h.upd,h.del];rfl
 rw[this];exact hS.put o.dst hx
def Ahm {V0:Nat->Value} {O0 O:Own} {w0 w:World} {m:Nat->Value} {st:St} {a:Act} (hS:Sim V0 O0 w0 O m st a w) (x:Operand):JJ O st.Js m w (a.eval x) (Lj st.tmps x):=by
 have cell: ∀ v:Value,JJ O st.Js m w v (Pn v)/\(v.oneCell'=true->JO O st.Js m w v (Pn v)):=by
  intro v;unfold Pn;split
  .exact⟨.Rk _,fun _=>JC.bool _⟩
  .exact⟨.mkInt _ _,fun _=>JC.int _ _⟩
  .exact⟨.mkStr _ rfl,fun _=>JC.str _⟩
  .exact⟨rfl,fun _=>rfl⟩
  .exact⟨JC.Me,fun _=>JC.Me⟩
  .exact⟨JC.vT,fun _=>JC.vT⟩
  .exact⟨trivial,fun h=>h⟩
 cases x with
 | tmp t =>
  by_cases ht:t<st.tmps.length
  .exact hS.tmps t ht
  .have:Lj st.tmps (.tmp t)= .undef:=by
    simp [Lj,Dj,Ed (Jm ht)]
   rw[this];trivial
 | const v =>
  show JJ O st.Js m w v (ofConst v);unfold ofConst;split
  .rename_i vs;cases hall:vs.toList.all Value.oneCell' with
   | false=>trivial
   | true =>
    rw[D8]at hall;refine⟨vs,rfl,by simp,fun j hj=> ?_⟩;have hj':j<vs.size:=by simpa using hj
    have e1:vs.getD j undef=vs[j]:=by rw[Du,DC hj'];rfl
    have e2:(vs.toList.map Pn).getD j .undef=Pn vs[j]:=by simp [Dj,hj']
    rw[e1,e2];exact(cell _).2 (hall _ (by simp))
  .exact(cell v).1
 | global g =>
  show JJ O st.Js m w (.pointer (some ⟨g,0,none⟩)) (A0k (Afm g));cases hg:Afm g with
  | none=>trivial
  | some q =>
   obtain⟨k,ns⟩:=q;refine⟨g,0,rfl,fun j hj=> ?_⟩;have hj:j<ns.length:=by simpa using hj
   obtain⟨h1,v,h2,h3⟩:=hS.Ajx.1 g j _ (by rw[A2l hg];exact Dn hj);rw[DT];refine⟨h1,v,h2,?_⟩;have e:(ns.map (A.int k)).getD j .undef= .int k (ns.getD j 0):=by simp [Dj,hj]
   rw[e,h3];exact .int _ _
 | func f=>exact JC.fn f
def Moves.push {O:Own} {T:Nat->Prop} {w:World} (x:Go.Obj):Moves O T w (w.alloc x) :=
 ⟨rfl,rfl,rfl,by show _<=(w.heap.push x).size;simp,fun b hb=>.inl (heap_alloc_old w x hb)⟩
def Abu (w:World) (x:Go.Obj):(w.alloc x).heap[w.heap.size]? =some x:=by show(w.heap.push x)[_]? =_;simp
def Moves.drew (O:Own) (T:Nat->Prop) (w:World):Moves O T w w.drew:=⟨rfl,rfl,rfl,DV _,fun _ _=>.inl rfl⟩
def Moves.then {O:Own} {T:Nat->Prop} {w w' w'':World} (h:Moves O T w w') (h':Moves O T w' w''):Moves O T w w'':=by
 refine⟨h'.os.trans h.os,h'.tape.trans h.tape,h'.output.trans h.output,Gs h.size h'.size,fun b hb=> ?_⟩;have hb':b<w'.heap.size:=Fz hb h.size;rcases h'.blk b hb' with he' | ⟨c,c',e,fr,h1,h2,h3,h4,h5⟩ | ⟨es,ck,es',ck',o,h1,h2,h3,h4⟩
 .rcases h.blk b hb with he | ⟨d,d',e,fr,h1,h2,h3,h4,h5⟩ | ⟨es,ck,es',ck',o,h1,h2,h3,h4⟩
  .exact .inl (he'.trans he)
  .exact .inr (.inl ⟨d,d',e,fr,h1,he'.trans h2,h3,h4,h5⟩)
  .simp_all[Own]
 .rcases h.blk b hb with he | ⟨d,d',e',fr',g1,g2,g3,g4,g5⟩ | ⟨es,ck,es',ck',o,g1,g2,g3,g4⟩
  .exact .inr (.inl ⟨c,c',e,fr,he▸h1,h2,h3,h4,h5⟩)
  .rw[g2]at h1;injection h1 with h1;injection h1 with q1 q2 q3;subst q1;subst q2;subst q3;exact .inr (.inl ⟨d,c',e',fr',g1,h2,h3.trans g3,fun i hi=>by rw[h4 i hi,g4 i hi],g5⟩)
  .simp_all[Own]
 .rcases h.blk b hb with he | ⟨d,d',e',fr',g1,g2,g3,g4,g5⟩ | ⟨es1,ck1,es1',ck1',o1,g1,g2,g3,g4⟩
  .exact .inr (.inr ⟨es,ck,es',ck',o,he▸h1,h2,h3,h4⟩)
  all_goals simp_all[Own]
def Moves.row {O:Own} {T:Nat->Prop} {w w':World} {g:Nat} {c c':Array Value} {e:TypeId} {fr:Nat×Nat} (hos:w'.os=w.os) (ht:w'.tape=w.tape) (hout:w'.output=w.output) (hs:w'.heap.size=w.heap.size)
 (hg:w.heap[g]? =some (.cells c e fr)) (hg':w'.heap[g]? =some (.cells c' e fr)) (hoth: ∀ b,b≠g->w'.heap[b]? =w.heap[b]?) (hsz:c'.size=c.size) (hk: ∀ k,(∀ o,O g k=some o-> ¬ T o)->c'[k]? =c[k]?)
 (hex:(∃ k o,k<c.size/\O g k=some o/\T o)\/c'=c):Moves O T w w':=by
 refine⟨hos,ht,hout,by omega,fun b _=> ?_⟩;by_cases hb:b=g
 .subst hb;rcases hex with hex | hex
  .exact .inr (.inl ⟨c,c',e,fr,hg,hg',hsz,hk,hex⟩)
  .subst hex;exact .inl (hg'.trans hg.symm)
 .exact .inl (hoth b hb)
def Moves.map {O:Own} {T:Nat->Prop} {w w':World} {r:Nat} {es es':Array MapEntry} {ck ck':Nat} (hos:w'.os=w.os) (ht:w'.tape=w.tape) (hout:w'.output=w.output) (hs:w'.heap.size=w.heap.size)
 (hg:w.heap[r]? =some (.map es ck)) (hg':w'.heap[r]? =some (.map es' ck')) (hoth: ∀ b,b≠r->w'.heap[b]? =w.heap[b]?) {o:Nat} (ho:O r 0=some o) (hT:T o):Moves O T w w':=by
 refine⟨hos,ht,hout,by omega,fun b _=> ?_⟩;by_cases hb:b=r
 .simp_all[Own,hs]
 .exact .inl (hoth b hb)
def AqI (w:World) (b k:Nat) (v:Value) {c:Array Value} {e:TypeId} {fr:Nat×Nat} (hg:w.heap[b]? =some (.cells c e fr)) :
 (w.setCell (at' b k) v).heap[b]? =some (.cells (c.setIfInBounds k v) e fr)/\(∀ b',b'≠b->(w.setCell (at' b k) v).heap[b']? =w.heap[b']?)/\(w.setCell (at' b k) v).heap.size=w.heap.size:=by
 refine⟨?_,fun b' hb=> ?_,by simp [World.setCell]⟩
 .simp [World.setCell,G8,hg]
 .simp only[World.setCell,G8];rw[Dk (fun h=>hb h.symm)]
def kK (b:Nat): ∀(vs:List Value) (k:Nat) (w:World) {c:Array Value} {e:TypeId} {fr:Nat×Nat},w.heap[b]? =some (.cells c e fr)->k+vs.length<=c.size ->
 ∃ c',(w.setCells b k vs).heap[b]? =some (.cells c' e fr)/\c'.size=c.size/\(∀ i,c'.getD i undef=if k<=i/\i<k+vs.length then vs.getD (i - k) undef else c.getD i undef) /\
  (∀ b',b'≠b->(w.setCells b k vs).heap[b']? =w.heap[b']?)/\(w.setCells b k vs).heap.size=w.heap.size/\(w.setCells b k vs).os=w.os/\(w.setCells b k vs).tape=w.tape/\(w.setCells b k vs).output=w.output:=by
 intro vs
 induction vs with
 | nil=>intro k w c e fr hg _;exact⟨c,hg,rfl,fun i=>by rw[Dk (by simp)],fun _ _=>rfl,rfl,rfl,rfl,rfl⟩
 | cons v vs ih =>
  intro k w c e fr hg hle;simp only[List.length_cons]at hle;obtain⟨h1,h2,h3⟩:=AqI w b k v hg;obtain⟨c',h4,h5,h6,h7,h8,h9,h10,h11⟩:=ih (k+1) (w.setCell (at' b k) v) h1 (by simp;omega);refine⟨c',h4,by rw[h5];simp,fun i=> ?_,fun b' hb=>(h7 b' hb).trans (h2 b' hb),h8.trans h3,h9,h10,h11⟩;rw[h6 i];simp only[List.length_cons];by_cases hi:k+1<=i/\i<k+1+vs.length
  .rw[Dn hi,A52,show i - k=(i - (k+1))+1 from by omega];rfl
  .rw[Dk hi];by_cases hk:i=k
   .subst hk;rw[A52,Du,Fg,Dn rfl,A52];simp
   .rw[A51,Du,Fg,A51,<- Du]
def lV: ∀(ks:List CK) (cs:List A) (id:Nat),(Ls id ks cs).1.length=cs.length /\
 (∀ j,j<cs.length->(Ls id ks cs).1.getD j .undef=cs.getD j .undef\/(cs.getD j .undef= .LC/\(Ls id ks cs).1.getD j .undef= .own (id+j)/\ ∃ e sz,(id+j,Obj.arr e false ⟨sz,[]⟩)∈(Ls id ks cs).2)) /\
 (∀ p∈(Ls id ks cs).2,(∃ e sz,p.2= .arr e false ⟨sz,[]⟩)/\ ∃ j,j<cs.length/\p.1=id+j):=by
 intro ks
 induction ks with
 | nil=>grind[Ls]
 | cons k ks ih =>
  intro cs id;cases cs with
  | nil=>grind[Ls]
  | cons c cs =>
   obtain⟨h1,h2,h3⟩:=ih cs (id+1)
   have other:Ls id (k::ks) (c::cs)=(c::(Ls (id+1) ks cs).1,(Ls (id+1) ks cs).2) ->
    (Ls id (k::ks) (c::cs)).1.length=(c::cs).length /\
    (∀ j,j<(c::cs).length->(Ls id (k::ks) (c::cs)).1.getD j .undef=(c::cs).getD j .undef\/((c::cs).getD j .undef= .LC/\(Ls id (k::ks) (c::cs)).1.getD j .undef= .own (id+j)/\ ∃ e sz,(id+j,Obj.arr e false ⟨sz,[]⟩)∈(Ls id (k::ks) (c::cs)).2)) /\
    (∀ p∈(Ls id (k::ks) (c::cs)).2,(∃ e sz,p.2= .arr e false ⟨sz,[]⟩)/\ ∃ j,j<(c::cs).length/\p.1=id+j):=by
    intro he;rw[he];refine⟨by simp [h1],fun j hj=> ?_,fun p hp=> ?_⟩
    .cases j with
     | zero=>exact .inl rfl
     | succ j=>grind[CK,Ls]
    .obtain⟨ha,j,hj,hb⟩:=h3 p hp;exact⟨ha,j+1,by simpa using hj,by omega⟩
   by_cases hc:c= .LC/\ ∃ e sz,k= .sl e sz
   .obtain⟨hc,e,sz,hk⟩:=hc;subst hc;subst hk;have he:Ls id (.sl e sz::ks) (.LC::cs)=(.own id::(Ls (id+1) ks cs).1,(id,.arr e false ⟨sz,[]⟩)::(Ls (id+1) ks cs).2):=rfl;rw[he];refine⟨by simp [h1],fun j hj=> ?_,fun p hp=> ?_⟩
    .cases j with
     | zero=>grind[CK,Ls]
     | succ j=>grind[CK,Ls]
    .rcases D7.1 hp with rfl | hp
     .grind[CK,Ls]
     .obtain⟨ha,j,hj,hb⟩:=h3 p hp;exact⟨ha,j+1,by simpa using hj,by omega⟩
   .refine other ?_;cases k<;>cases c<;>first | rfl | exact absurd ⟨rfl,_,_,rfl⟩ hc
def PN {l:List Nat} {n:Nat}:has l n=true↔n∈l:=by simp_all[has]
def AuX: ∀ {l:List (Nat×Obj)},nodup (l.map (·.1))=true-> ∀ {n x y},(n,x)∈l->(n,y)∈l->x=y:=by
 intro l
 induction l with
 | nil=>intro _ n x y h;cases h
 | cons p l ih =>
  intro h n x y hx hy;simp only[Ee,nodup,Dq,Eu]at h;have hno: ∀ z,(p.1,z)∉l:=by intro z hz;have:has (l.map (·.1)) p.1=true:=PN.2 (DI.2 ⟨_,hz,rfl⟩);rw[this]at h;cases h.1
  all_goals grind[Obj,nodup]
def YN {Js:List (Nat×Obj)} {upd new:List (Nat×Obj)} {del:List Nat} {o:Nat} {x:Obj} (h:JA (JL (Kz (JL Js upd) del) new) o=some x) :
 (o,x)∈new\/((∀ y,(o,y)∉new)/\o∉del/\((o,x)∈upd\/((∀ y,(o,y)∉upd)/\JA Js o=some x))):=by
 by_cases hn: ∃ p∈new,p.1=o
 .obtain⟨y,hy,he⟩:=OO new (Kz (JL Js upd) del) o hn;rw[he]at h;injection h with h;subst h;exact .inl hy
 .have hn': ∀ y,(o,y)∉new:=fun y hy=>hn ⟨_,hy,rfl⟩;rw[MR _ _ _ (fun p hp e=>hn ⟨p,hp,e⟩),Vf]at h;by_cases hd:o∈del
  .rw[Dn hd]at h;cases h
  .rw[Dk hd]at h;refine .inr ⟨hn',hd,?_⟩;by_cases hu: ∃ p∈upd,p.1=o
   .obtain⟨y,hy,he⟩:=OO upd Js o hu;rw[he]at h;injection h with h;subst h;exact .inl hy
   .grind[MR]
def AaQ {Js:List (Nat×Obj)} {upd new:List (Nat×Obj)} {del:List Nat} (hnd:nodup (new.map (·.1))=true) {o:Nat} {x:Obj} (h:(o,x)∈new):JA (JL (Kz (JL Js upd) del) new) o=some x:=by obtain⟨y,hy,he⟩:=OO new (Kz (JL Js upd) del) o ⟨_,h,rfl⟩;rw[he,AuX hnd h hy]
section
variable {P:Program} {C:Ctx} {V0:Nat->Value} {O0 O:Own} {w0 w:World} {m:Nat->Value} {st:St} {a:Act} {o:Oper}
theorem JO.LC {Js:List (Nat×Obj)} {v:Value} (h:JO O Js m w v .LC):v= .slice none 0 0:=h
theorem S9.As4 {O':Own} {w':World} {objs':List (Nat×Obj)} {m':Nat->Value} {vs:Array Value} {cs:List A} {ks:List CK} {id:Nat} {Nw:Nat->Prop} (h:S9 O st.Js m w vs cs) (hp:N8 O w O' w') (hE:RN st.Js m objs' m' Nw)
 (hN: ∀ j,j<cs.length-> ∀ i∈(cs.getD j .undef).Nz,¬ Nw i) (hnew: ∀ p∈(Ls id ks cs).2,JA objs' p.1=some p.2/\m' p.1= .slice none 0 0):S9 O' objs' m' w' vs (Ls id ks cs).1:=by
 obtain⟨h1,h2,_⟩:=lV ks cs id;refine⟨by rw[h1];exact h.1,fun j hj=> ?_⟩;rw[h1]at hj;rcases h2 j hj with he | ⟨hn,he,e,sz,hm⟩
 .rw[he];exact(h.2 j hj).step hp hE (hN j hj)
 .have:=h.2 j hj;rw[hn]at this;have hv:=this.LC;rw[he,hv];obtain⟨g1,g2⟩:=hnew _ hm;dsimp only at g1 g2;refine⟨rfl,?_⟩;rw[g1];exact g2.symm
theorem Adx {x:A} (hv:x.isVal=true) {j:Nat} (hj:j<x.cells.length) {i:Nat} (hi:i∈(x.cells.getD j .undef).Nz):i∈x.ids:=by
 cases x with
 | agg cs=>exact UA (f:=A.Nz) hj hi
 | undef=>cases hv
 | tup _=>cases hv
 | usl _ _ _=>cases hv
 | ump _=>cases hv
 | box _=>cases hv
 | cbx _ _=>cases hv
 | cnd _ _=>cases hv
 | _ =>
  have:j=0:=by simpa [A.cells]using hj
  subst this;exact hi
theorem Amv {vs:Array Value} {cs:List A} {ks:List CK} {t:Nat} {r:Value} {y:A} {okl:List Bool} (hS:Sim V0 O0 w0 O m st a w) (hcs:S9 O st.Js m w vs cs) (hids: ∀ j,j<cs.length-> ∀ i∈(cs.getD j .undef).Nz,i∈st.ids\/(JA st.Js i).isSome) {d:Nat} (hd:o.dst=some d)
 (hr:(execOp a.eval o).run P w= .ok (.value r) (w.alloc (.cells vs t)))
 (hy: ∀(O':Own) (objs':List (Nat×Obj)) (m':Nat->Value) (w':World) (c:List A),JA objs' (b2 d)=some (.box c)->m' (b2 d)= .pointer (some (at' w.heap.size 0))->JJ O' objs' m' w' r y)
 (hfr: ∀ p∈(b2 d,Obj.box (Ls (b2 d+1) ks cs).1)::(Ls (b2 d+1) ks cs).2,st.fresh p.1=true) (hnd:nodup (((b2 d,Obj.box (Ls (b2 d+1) ks cs).1)::(Ls (b2 d+1) ks cs).2).map (·.1))=true) :
 Good P V0 O0 w0 (apply st o {ok:=okl,val:=y,new:=(b2 d,.box (Ls (b2 d+1) ks cs).1)::(Ls (b2 d+1) ks cs).2}) o a w:=by
 intro next Q hn
 unfold Oper.wp;rw[hr,Oper.upon_value];let ad:=Ls (b2 d+1) ks cs;let m':Nat->Value:=fun i=>if i=b2 d then .pointer (some (at' w.heap.size 0))else if has (ad.2.map (·.1)) i then .slice none 0 0 else m i;let O':Own:=fun b k=>if b=w.heap.size then some (b2 d)else O b k;let Nw:Nat->Prop:=fun i=> ∃ p∈((b2 d,Obj.box ad.1)::ad.2),p.1=i;have hNw: ∀ i,Nw i->Qe st i:=by rintro i ⟨p,hp,rfl⟩;exact N9 (hfr p hp)
 refine hn O' m' _ _ ?_;have hobjs:(apply st o {ok:=okl,val:=y,new:=(b2 d,.box ad.1)::ad.2}).Js=JL (Kz (JL st.Js []) []) ((b2 d,.box ad.1)::ad.2):=rfl;have hnewO: ∀ p∈((b2 d,Obj.box ad.1)::ad.2),JA (JL (Kz (JL st.Js []) []) ((b2 d,.box ad.1)::ad.2)) p.1=some p.2:=fun p hp=>AaQ hnd (by exact hp);have hb2:has (ad.2.map (·.1)) (b2 d)=false:=by simp only[Ee,nodup,Dq,Eu]at hnd;exact hnd.1
 have hmad: ∀ p∈ad.2,m' p.1= .slice none 0 0:=by
  intro p hp;have h3:has (ad.2.map (·.1)) p.1=true:=PN.2 (DI.2 ⟨p,hp,rfl⟩);have h4:p.1≠b2 d:=fun e=>by rw[e,hb2]at h3;cases h3
  show(if p.1=b2 d then _ else _)=_;rw[Dk h4,Dn h3]
 have hE:RN st.Js m (JL (Kz (JL st.Js []) []) ((b2 d,.box ad.1)::ad.2)) m' Nw:=by
  intro i y hy;rcases YN hy with hy' | ⟨hno,_,hy' | ⟨_,hy'⟩⟩
  .exact .inl ⟨_,hy',rfl⟩
  .cases hy'
  .refine .inr ⟨y,hy',rfl,?_⟩;have h3:i≠b2 d:=fun e=>hno (.box ad.1) (by rw[e];exact Dv)
   have h4:has (ad.2.map (·.1)) i=false:=by
    cases hh:has (ad.2.map (·.1)) i with
    | false=>rfl
    | true =>obtain⟨p,hp,hpe⟩:=DI.1 (PN.1 hh);exact absurd (Dx _ (by rw[<- hpe];exact hp)) (hno p.2)
   show(if i=b2 d then _ else _)=_;rw[Dk h3,h4];rfl
 have hM:Moves O (fun _=>False) w (w.alloc (.cells vs t)):=Moves.push _;have hP:Passes O O' (fun _=>False) w.heap.size:=⟨fun b k hb h=>by show(if b=_ then _ else _)=_;rw[Dk (Hz hb)];exact h,fun b k q hb h _=>by show(if b=_ then _ else _)=_;rw[Dk (Hz hb)];exact h⟩
 have hpr:=hM.Kr hP;have hnewblk: ∀ k,(w.alloc (.cells vs t)).cell? (at' w.heap.size k)=vs[k]? :=by intro k;exact World.cell?_alloc_at vs t _ _ rfl
 refine hS.next (T:=fun _=>False) (Nw:=Nw) hM hP (fun b k hb h=> ?_) hE (fun n hn'=>(hNw n hn').both) (fun _ h=>h.elim) (fun q y hy=> ?_) rfl (fun _=> ?_)
 .have:O' b k=O b k:=Dk (Hz hb);rw[this]at h;exact h
 .rcases YN hy with hy' | ⟨hno,_,hy' | ⟨_,hy'⟩⟩
  .right;rcases D7.1 hy' with e | hy'
   .injection e with e1 e2;subst e1;subst e2;refine⟨⟨w.heap.size,0,Dn rfl,fun j hj=> ?_⟩,(hNw _ ⟨_,Dv,rfl⟩).ne⟩
    have hcs':S9 O' _ m' _ vs ad.1:=hcs.As4 (ks:=ks) (id:=b2 d+1) hpr hE (fun j hj i hi hn'=>by
     rcases hids j hj i hi with hh | hh
     .exact(hNw i hn').1 hh
     .rw[(hNw i hn').2]at hh;cases hh) (fun p hp=>⟨hnewO p (Dx _ hp),hmad p hp⟩)
    have hjs:j<vs.size:=by rw[hcs'.1];exact hj
    refine⟨Dn rfl,by simp only[World.frozen?,Abu];simp,vs.getD j undef,?_,hcs'.2 j hj⟩;rw[hnewblk];simp only[DT];exact getD_eq hjs
   .obtain⟨⟨e,sz,h3⟩,_⟩:=(lV ks cs (b2 d+1)).2.2 _ hy';dsimp only at h3;subst h3;exact⟨⟨by simp [Sl.es],.inl ⟨trivial,rfl,hmad _ hy'⟩⟩,(hNw _ ⟨_,Dx _ hy',rfl⟩).ne⟩
  .cases hy'
  .left;refine⟨id,hy',?_⟩;rcases hE q y hy with hn' | ⟨_,h3,_,h4⟩
   .rw[(hNw q hn').2]at hy';cases hy'
   .exact h4
 .exact hy _ _ _ _ _ (hnewO (b2 d,.box ad.1) Dv) (Dn rfl)
theorem AoX {t:Nat} {v:Value} {x:A} (hC:TOk P C) (hS:Sim V0 O0 w0 O m st a w) (hx:JJ O st.Js m w v x) (hids: ∀ i∈x.ids,i∈st.ids\/(JA st.Js i).isSome) {d:Nat} (hd:o.dst=some d)
 (hrun: ∀ ti,C.T t=some ti->x.isVal=true->v.cells.size=ti.cs.length->(execOp a.eval o).run P w= .ok (.value (.pointer (some (at' w.heap.size 0)))) (w.alloc (.cells v.cells t)))
 (hok:JE (Yd C d t x).ok) (hfr: ∀ p∈(Yd C d t x).new,st.fresh p.1=true) (hnd:nodup ((Yd C d t x).new.map (·.1))=true):Good P V0 O0 w0 (apply st o (Yd C d t x)) o a w:=by
 unfold Yd at *
 obtain⟨ti,ht,he⟩:=Ky hok;rw[he]at hok hfr hnd ⊢;clear he;obtain⟨h1,h2⟩:=hok.cons;have h2:=Dy h2.cons.1;have hcs:=hx.cells h1;refine Amv (ks:=adK C d ti) hS hcs (fun j hj i hi=>hids i (Adx h1 hj hi)) hd (hrun ti ht h1 (by rw[hcs.1,h2])) (fun O' objs' m' w' c hc hm=> ?_) hfr hnd;show JO O' objs' m' w' _ (.ptr (b2 d) 0);refine⟨rfl,?_⟩;rw[hc];exact⟨w.heap.size,0,hm,rfl⟩
end
open Classical
section
variable {P:Program} {C:Ctx} {V0:Nat->Value} {O0 O:Own} {w0 w:World} {m:Nat->Value} {st:St} {a:Act} {o:Oper}
theorem Sim.Aae (hS:Sim V0 O0 w0 O m st a w) {q e:Nat} {f:Bool} {l:Sl} (hq:JA st.Js q=some (.arr e f l)) :
 ∃ O',Sim V0 O0 w0 O' m {st with Js:=LM st.Js q (.arr e true l)} a w/\N8 O w O' w/\(∀ b k,O' b k≠none->O b k≠none)/\JC O' w (m q) (.sl l)/\ ∀ b k r,O b k=some r->r≠q->O' b k=some r:=by
 obtain⟨hsz,hr⟩:=hS.Js q _ hq;let O':Own:=fun b k=>if(∃ n cap,m q= .slice (some (at' b 0)) n cap)/\k<l.es.length*l.sz then none else O b k;have hno: ∀ b k,O b k=none->O' b k=none:=by intro b k h;show(if _ then _ else _)=_;split;rfl;exact h
 have hle: ∀ b k,O' b k≠none->O b k≠none:=by intro b k h h';exact h (hno b k h')
 have hkeep: ∀ b k r,O b k=some r->r≠q->O' b k=some r:=by
  intro b k r h hne;show(if _ then _ else _)=_;rw[Dk ?_]
  .exact h
  .rintro ⟨⟨n,cap,hm⟩,hk⟩;rcases hr with ⟨_,h2,_⟩ | ⟨_,g,cap',cur,h1,_,_,_,_,_,_,h8⟩;all_goals simp_all[JA,LM,N8,JC]
 have hp:N8 O w O' w:=fun b k u h hc=>⟨hno b k h,hc⟩
 have hE:RN st.Js m (LM st.Js q (.arr e true l)) m (fun _=>False):=by
  intro r y hy;rw[KA]at hy;by_cases hrq:r=q
  .subst hrq;rw[Dn rfl]at hy;injection hy with hy;subst hy;exact .inr ⟨_,hq,rfl,rfl⟩
  .rw[Dk hrq]at hy;exact .inr ⟨y,hy,rfl,rfl⟩
 have hO:Lt O' (LM st.Js q (.arr e true l)) m w q (.arr e true l):=by
  refine⟨hsz,?_⟩;rcases hr with h | ⟨h1,g,cap,cur,h2,h3,h4,h5,h6,h7,h8,h9⟩
  .exact .inl h
  .refine .inr ⟨h1,g,cap,cur,h2,h3,h4,h5,h6,fun i j hi hj=> ?_,fun k hk hge=> ?_,fun k hk=> ?_⟩
   .obtain⟨u,h10,h11⟩:=h7 i j hi hj;exact⟨u,h10,h11.Kr hp⟩
   .show(if _ then _ else _)=_;rw[Dk (by rintro ⟨_,h⟩;omega)];exact h8 k hk hge
   .show(if _ then _ else _)=_;rw[Dn ⟨⟨_,_,h2⟩,hk⟩];rfl
 refine⟨O',⟨hS.defers,hS.size,fun t ht=>(hS.tmps t ht).step hp hE (fun _ _ h=>h),fun r y hy=> ?_,hS.frame,fun b k r hb h hne=> ?_,fun r y hy=> ?_,fun b k hb h=>hS.less b k hb (hle b k h),fun o hr ho=>hS.root o hr (by dsimp only at ho;rw[KA]at ho;by_cases hq':o=q;(rw [hq',hq];rfl);(rw [Dk hq']at ho;exact ho)),fun b k hb h=>hkeep b k 255 (hS.y7 b k hb h) (fun e=>hS.ids q _ hq e.symm),hS.inv⟩,hp,hle,?_,hkeep⟩
 .have hy':=hy;rw[KA]at hy;by_cases hrq:r=q
  .subst hrq;rw[Dn rfl]at hy;injection hy with hy;subst hy;exact hO
  .rw[Dk hrq]at hy;exact(hS.Js r y hy).step (T:=fun i=>i=q) (Moves.refl O _ w) ⟨fun b k _ h=>hno b k h,fun b k r' _ h hT=>hkeep b k r' h hT⟩ hE hrq rfl (fun _ _ h=>h)
 .have h':(if(∃ n cap,m q= .slice (some (at' b 0)) n cap)/\k<l.es.length*l.sz then none else O b k)=some r:=h;split at h'
  .cases h'
  .exact hS.own b k r hb h' hne
 .rw[KA]at hy;by_cases hrq:r=q
  .rw[hrq];exact hS.ids q _ hq
  .rw[Dk hrq]at hy;exact hS.ids r y hy
 .rcases hr with ⟨h1,h2,h3⟩ | ⟨h1,g,cap,cur,h2,h3,h4,h5,h6,h7,h8,h9⟩
  .rw[h3];exact JC.ofNil h2
  .rw[h2];have hv: ∀ i j,i<l.es.length->j<l.sz-> ∃ u,cur[i*l.sz+j]? =some u/\JC O w u ((l.es.getD i []).getD j .undef):=h7;refine JC.sl (fun i j=>(cur[i*l.sz+j]?).getD undef) h4 (fun i j hi hj=> ?_) (fun i j hi hj=> ?_)
   .obtain⟨u,h10,_⟩:=hv i j hi hj;refine⟨?_,by rw[DT,h3.cell,h10];rfl⟩;show(if _ then _ else _)=_;rw[Dn];refine⟨⟨_,_,h2⟩,?_⟩;have:(i+1)*l.sz<=l.es.length*l.sz:=DW _ hi;rw[Ez]at this;omega
   .obtain⟨u,h10,h11⟩:=hv i j hi hj;rw[h10];exact h11.Kr hp
theorem Lt.frozen {Js:List (Nat×Obj)} {q e:Nat} {l:Sl} (h:Lt O Js m w q (.arr e true l)):JC O w (m q) (.sl l):=by
 rcases h.2 with ⟨h1,h2,h3⟩ | ⟨h1,g,cap,cur,h2,h3,h4,h5,h6,h7,h8,h9⟩
 .rw[h3];exact JC.ofNil h2
 .rw[h2];refine JC.sl (fun i j=>(cur[i*l.sz+j]?).getD undef) h4 (fun i j hi hj=> ?_) (fun i j hi hj=> ?_)
  .obtain⟨u,h10,_⟩:=h7 i j hi hj;have:(i+1)*l.sz<=l.es.length*l.sz:=DW _ hi;rw[Ez]at this;refine⟨by have:=h9 (i*l.sz+j) (by omega);simpa using this,by rw[DT,h3.cell,h10];rfl⟩
  .obtain⟨u,h10,h11⟩:=h7 i j hi hj;rw[h10];exact h11
def Frz (Js:List (Nat×Obj)) (U:List (Nat×Obj)):Prop:= ∀ p∈U,∃ e f l,JA Js p.1=some (.arr e f l)/\p.2= .arr e true l
def NR (Js:List (Nat×Obj)) (q:Nat):Prop:= ∀ e f l,JA Js q≠some (.arr e f l)
theorem NR.of {Js:List (Nat×Obj)} {q:Nat} {x:Obj} (h:JA Js q=some x) (hx: ∀ e f l,x≠ .arr e f l):NR Js q:=by grind[Obj,JA,NR]
theorem Sim.freezes: ∀(U:List (Nat×Obj)) {O:Own} {st:St},Sim V0 O0 w0 O m st a w->Frz st.Js U ->
 ∃ O',Sim V0 O0 w0 O' m {st with Js:=JL st.Js U} a w/\N8 O w O' w/\(∀ b k,O' b k≠none->O b k≠none)/\(∀ p∈U,∀ e l,p.2= .arr e true l->JC O' w (m p.1) (.sl l)) /\
  RN st.Js m (JL st.Js U) m (fun _=>False)/\ ∀ b k r,O b k=some r->(NR st.Js r\/U=[])->O' b k=some r:=by
 intro U
 induction U with
 | nil=>intro O st hS _;exact⟨O,hS,fun _ _ _ h hc=>⟨h,hc⟩,fun _ _ h=>h,(fun p hp=>by cases hp),(fun o y hy=>.inr ⟨y,hy,rfl,rfl⟩),fun _ _ _ h _=>h⟩
 | cons p U ih =>
  intro O st hS hU;obtain⟨q,y⟩:=p;obtain⟨e,f,l,h1,h2⟩:=hU (q,y) Dv;dsimp only at h1 h2;subst h2;obtain⟨O1,hS1,hp1,hle1,hv1,hk1⟩:=hS.Aae h1
  obtain⟨O2,hS2,hp2,hle2,hv2,hE2,hk2⟩:=ih hS1 (fun p hp=>by
   obtain⟨e',f',l',h3,h4⟩:=hU p (Dx _ hp);by_cases hq:p.1=q
   .refine⟨e',true,l',?_,h4⟩;rw[KA,Dn hq];rw[hq,h1]at h3;injection h3 with h3;injection h3 with q1 q2 q3;subst q1;subst q3;rfl
   .exact⟨e',f',l',by rw[KA,Dk hq];exact h3,h4⟩)
  refine⟨O2,hS2,fun b k u h hc=>hp2 b k u (hp1 b k u h hc).1 hc,fun b k h=>hle1 b k (hle2 b k h),fun p hp e' l' he=> ?_,fun r y hy=> ?_,fun b k r h hb=> ?_⟩
  .rcases D7.1 hp with rfl | hp
   .injection he with q1 _ q3;subst q1;subst q3;exact hv1.Kr hp2
   .exact hv2 p hp _ _ he
  .rcases hE2 r y hy with h | ⟨z,h3,h4,_⟩
   .exact h.elim
   .right;dsimp only at h3;rw[KA]at h3;by_cases hr:r=q
    .subst hr;rw[Dn rfl]at h3;injection h3 with h3;subst h3;exact⟨_,h1,h4,rfl⟩
    .rw[Dk hr]at h3;exact⟨z,h3,h4,rfl⟩
  .have hb:=hb.resolve_right (by simp);have hrq:r≠q:=fun h=>hb _ _ _ (by rw[h];exact h1);exact hk2 b k r (hk1 b k r h hrq) (.inl fun e' f' l'=>by dsimp only;rw[KA,Dk hrq];exact hb e' f' l')
theorem AhA {l:List (Nat×Obj)} {n:Nat} {p:Nat×Obj} (h:p∈TF l n):p∈l:=by
 induction l with
 | nil=>cases h
 | cons q r ih=>grind[Adj]
theorem ApU {l:List (Nat×Obj)} {n:Nat} {y:Obj} {p:Nat×Obj} (h:p∈jE l n y):p=(n,y)\/p∈l:=by
 induction l with
 | nil=>grind[jE]
 | cons q r ih=>grind[jE]
theorem mZ: ∀(u:List (Nat×Obj)) {l:List (Nat×Obj)} {p:Nat×Obj},p∈JL l u->p∈u\/p∈l:=by
 intro u
 induction u with
 | nil=>intro l p h;exact .inr h
 | cons q u ih =>
  intro l p h;obtain⟨n,y⟩:=q;rcases ih h with h | h
  .grind[Obj,JL]
  .rcases ApU h with h | h;all_goals grind[AhA]
theorem Qe.frz {n:Nat} {U:List (Nat×Obj)} (h:Qe st n) (hU:Frz st.Js U):Qe {st with Js:=JL st.Js U} n:=by
 refine⟨fun hm=> ?_,?_,h.ne,h.root⟩
 .rcases DK.1 hm with h1 | h1
  .exact h.1 (D9 _ h1)
  .obtain⟨p,hp,hi⟩:=Ep.1 h1;rcases mZ U hp with hp | hp
   .obtain⟨e,f,l,_,h2⟩:=hU p hp;rw[h2]at hi;cases hi
   .exact h.1 (DF _ (Ep.2 ⟨p,hp,hi⟩))
 .rw[MR _ _ _ (fun p hp he=> ?_)]
  .exact h.2
  .obtain⟨e,f,l,h1,_⟩:=hU p hp;rw[he,h.2]at h1;cases h1
def Pz (Js:List (Nat×Obj)) (fet:Fet):Prop:= ∀ q x,JA fet q=some x->JA Js q=some x
theorem Aqr {O:Own} {w:World} {k:CK} {v:Value} {l:Sl} (hok:JE (AlG k l).1) (h:JC O w v (.sl l)):JC O w v (AlG k l).2:=by
 cases k<;>first
  | exact h
  | (have h0:=hok.cons.1
     exact .sln h fun he=>by simp [he]at h0)
theorem AzL {O:Own} {w:World} {v:Value} {l:Sl} (k:CK) (h:JC O w v (.sln l)):JC O w v (A3w k l):=by
 cases k<;>first
  | exact h
  | (cases h with
     | sln h _=>exact h)
theorem Aqs {fet:Fet} {k:CK} {c:A} {v:Value} (hf:Pz st.Js fet) (hc:JO O st.Js m w v c) (hok:JE (pur fet k c).1) :
 Frz st.Js (pur fet k c).2.2/\ ∀ {O':Own},N8 O w O' w->(∀ p∈(pur fet k c).2.2,∀ e l,p.2= .arr e true l->JC O' w (m p.1) (.sl l))->JC O' w v (pur fet k c).2.1:=by
 have triv:Frz st.Js []:=fun p hp=>by cases hp
 unfold pur at *
 cases c with
 | own q =>
  dsimp only at hok ⊢;cases hg:JA fet q with
  | none=>simp_all[Fet,CK,Pz,JO,JE,pur]
  | some x =>
   cases x with
   | box _=>simp_all[Fet,CK,Pz,JO,JE,pur]
   | mp _=>simp_all[Fet,CK,Pz,JO,JE,pur]
   | arr e f l =>
    rw[hg]at hok;dsimp only at hok ⊢;have h1:=hf q _ hg;refine⟨fun p hp=> ?_,fun hp hv=> ?_⟩
    .simp at hp;subst hp;exact⟨e,f,l,h1,rfl⟩
    .have h2:=hc.2;rw[h1]at h2;simp only[Option.map_some,Obj.shp]at h2;rw[h2];exact Aqr hok (hv _ Dv e l rfl)
 | LC =>
  have hv:=hc.LC;cases k with
  | sl e sz=>subst hv;exact⟨triv,fun _ _=>.nil _⟩
  | sln e sz=>subst hv;exact⟨triv,fun _ _=>.sln (.nil _) fun _=>rfl⟩
  | _=>have:=hok false (by simp);cases this
 | bool _=>exact⟨triv,fun hp _=>JC.Kr hp hc⟩
 | int _ _=>exact⟨triv,fun hp _=>JC.Kr hp hc⟩
 | str _=>exact⟨triv,fun hp _=>JC.Kr hp hc⟩
 | sl _=>exact⟨triv,fun hp _=>Aqr hok (JC.Kr hp hc)⟩
 | sln _=>exact⟨triv,fun hp _=>AzL k (JC.Kr hp hc)⟩
 | Me=>exact⟨triv,fun hp _=>JC.Kr hp hc⟩
 | fn _=>exact⟨triv,fun hp _=>JC.Kr hp hc⟩
 | _=>have:=hok false (by simp);cases this
theorem Frz.append {Js:List (Nat×Obj)} {U V:List (Nat×Obj)} (h:Frz Js U) (h':Frz Js V):Frz Js (U++V):=by grind[Obj,Frz]
theorem VW {fet:Fet} (hf:Pz st.Js fet): ∀(ks:List CK) (cs:List A) (f:Nat->Value),(∀ j,j<cs.length->JO O st.Js m w (f j) (cs.getD j .undef))->JE (KQ fet ks cs).1 ->
 (KQ fet ks cs).2.1.length=ks.length/\cs.length=ks.length/\Frz st.Js (KQ fet ks cs).2.2/\ ∀ {O':Own},N8 O w O' w->(∀ p∈(KQ fet ks cs).2.2,∀ e l,p.2= .arr e true l->JC O' w (m p.1) (.sl l)) ->
   ∀ j,j<ks.length->JC O' w (f j) ((KQ fet ks cs).2.1.getD j .undef):=by
 intro ks
 induction ks with
 | nil =>
  intro cs f _ hok;cases cs with
  | nil=>simp_all[KQ,Fet,Pz,CK,JO,JE,Frz]
  | cons _ _=>have:=hok false (by simp [KQ]);cases this
 | cons k ks ih =>
  intro cs f h hok;cases cs with
  | nil=>have:=hok false (by simp [KQ]);cases this
  | cons c cs =>
   simp only[KQ]at hok ⊢;obtain⟨hok1,hok2⟩:=hok.append;obtain⟨h1,h2⟩:=Aqs hf (h 0 (by simp)) hok1;obtain⟨h3,h4,h5,h6⟩:=ih cs (fun j=>f (j+1)) (fun j hj=>by simpa using h (j+1) (by simpa using hj)) hok2;refine⟨by simp [h3],by simp [h4],h1.append h5,fun hp hv j hj=> ?_⟩;cases j with
   | zero=>exact h2 hp (fun p hp=>hv p (D9 _ hp))
   | succ j=>simpa using h6 hp (fun p hp=>hv p (DF _ hp)) j (by simpa using hj)
end
section
variable {P:Program} {C:Ctx} {V0:Nat->Value} {O0 O:Own} {w0 w:World} {m:Nat->Value} {st:St} {a:Act} {o:Oper}
def Held (O:Own) (w:World) (cur:Array Value) (sz:Nat) (es:List (List A)):Prop :=
 (∀ x∈es,x.length=sz)/\ ∀ i j,i<es.length->j<sz-> ∃ u,cur[i*sz+j]? =some u/\JC O w u ((es.getD i []).getD j .undef)
theorem AgG (hS:Sim V0 O0 w0 O m st a w) {w2:World} (hM:Moves O (fun _=>False) w w2) {d:Tmp} {e cap:Nat} {frz:Bool} {l:Sl} {cur:Array Value} {del:List Nat} (hnew:NY w2 w.heap.size cur e)
 (hcap:l.es.length<=cap) (hmax:cap<=maxLen) (hcur:cur.size=cap*l.sz) (hh:Held O w cur l.sz l.es) (hfresh:Qe st (b2 d)) :
 ∃ O' m',Sim V0 O0 w0 O' m' {tmps:=st.tmps.set d (.own (b2 d)),Js:=JL (Kz st.Js del) [(b2 d,.arr e frz l)]} (a.put (some d) (.slice (some (at' w.heap.size 0)) l.es.length cap)) w2:=by
 let id:=b2 d;let O':Own:=fun b k=>if b=w.heap.size then(if frz=true/\k<l.es.length*l.sz then none else some id)else O b k;let m':Nat->Value:=fun i=>if i=id then .slice (some (at' w.heap.size 0)) l.es.length cap else m i;have hlt: ∀ {b k},b<w.heap.size->O' b k=O b k:=fun hb=>Dk (Hz hb);have hP:Passes O O' (fun _=>False) w.heap.size:=⟨fun b k hb h=>by rw[hlt hb];exact h,fun b k q hb h _=>by rw[hlt hb];exact h⟩
 have hpr:=hM.Kr hP
 have hget: ∀ i y,JA (JL (Kz st.Js del) [(id,.arr e frz l)]) i=some y->(i=id/\y= .arr e frz l)\/(i≠id/\JA st.Js i=some y):=by
  intro i y hy;simp only[JL]at hy;rw[KA]at hy;by_cases hi:i=id
  .rw[Dn hi]at hy;injection hy with hy;exact .inl ⟨hi,hy.symm⟩
  .rw[Dk hi,Vf]at hy;split at hy
   .cases hy
   .exact .inr ⟨hi,hy⟩
 have hE:RN st.Js m (JL (Kz st.Js del) [(id,.arr e frz l)]) m' (fun i=>i=id):=by
  intro i y hy;rcases hget i y hy with ⟨h1,_⟩ | ⟨h1,h2⟩
  .exact .inl h1
  .exact .inr ⟨y,h2,rfl,Dk h1⟩
 refine⟨O',m',hS.next (st':= {tmps:=st.tmps.set d (.own (b2 d)),Js:=JL (Kz st.Js del) [(id,.arr e frz l)]}) (x:=.own id) (T:=fun _=>False) (Nw:=fun i=>i=id) hM hP (fun b k hb h=>by rw[hlt hb]at h;exact h) hE (fun n hn=>by rw[hn];exact hfresh.both) (fun _ h=>h.elim) (fun i y hy=> ?_) rfl (fun _=> ?_)⟩
 .rcases hget i y hy with ⟨h1,h2⟩ | ⟨h1,h2⟩
  .right;subst h1;subst h2;refine⟨⟨hh.1,.inr ⟨trivial,w.heap.size,cap,cur,Dn rfl,hnew,hcap,hmax,hcur,fun i j hi hj=> ?_,fun k hk hge=> ?_,fun k hk=> ?_⟩⟩,hfresh.ne⟩
   .obtain⟨u,h3,h4⟩:=hh.2 i j hi hj;exact⟨u,h3,h4.Kr hpr⟩
   .show(if _ then(if _ then _ else _)else _)=_;rw[Dn rfl,A51]
   .show(if _ then(if _ then _ else _)else _)=_;rw[Dn rfl];cases frz
    .simp
    .simp [hk]
  .exact .inl ⟨fun h=>h,h2,Dk h1⟩
 .refine⟨rfl,?_⟩;all_goals grind[JA,JL,Kz,KA,Obj.shp]
theorem ZB (hS:Sim V0 O0 w0 O m st a w) {w1:World} (hM1:Moves O (fun _=>False) w w1) (hsz1:w1.heap.size=w.heap.size) {d:Tmp} {e cap:Nat} {frz:Bool} {l:Sl} {cur:Array Value} {del:List Nat}
 (hcap:l.es.length<=cap) (hmax:cap<=maxLen) (hcur:cur.size=cap*l.sz) (hh:Held O w cur l.sz l.es) (hfresh:Qe st (b2 d)) :
 ∃ O' m',Sim V0 O0 w0 O' m' {tmps:=st.tmps.set d (.own (b2 d)),Js:=JL (Kz st.Js del) [(b2 d,.arr e frz l)]} (a.put (some d) (.slice (some (at' w.heap.size 0)) l.es.length cap)) (w1.alloc (.cells cur e)):=by
 exact AgG hS (hM1.then (by rw[<- hsz1]at *;exact Moves.push _)) ⟨_,by rw[<- hsz1];exact Abu _ _,.inl rfl⟩ hcap hmax hcur hh hfresh
theorem Ab8 (hS:Sim V0 O0 w0 O m st a w) {d:Tmp} {e:Nat} {frz:Bool} {t:Ty} {del:List Nat} {id:Nat} (hfresh:Qe st id) :
 ∃ O' m',Sim V0 O0 w0 O' m' {tmps:=st.tmps.set d (.own id),Js:=JL (Kz st.Js del) [(id,.arr e frz ⟨t,[]⟩)]} (a.put (some d) (.slice none 0 0)) w:=by
 let m':Nat->Value:=fun i=>if i=id then .slice none 0 0 else m i
 have hget: ∀ i y,JA (JL (Kz st.Js del) [(id,.arr e frz ⟨t,[]⟩)]) i=some y->(i=id/\y= .arr e frz ⟨t,[]⟩)\/(i≠id/\JA st.Js i=some y):=by
  intro i y hy;simp only[JL]at hy;rw[KA]at hy;by_cases hi:i=id
  .rw[Dn hi]at hy;injection hy with hy;exact .inl ⟨hi,hy.symm⟩
  .rw[Dk hi,Vf]at hy;split at hy
   .cases hy
   .exact .inr ⟨hi,hy⟩
 have hE:RN st.Js m (JL (Kz st.Js del) [(id,.arr e frz ⟨t,[]⟩)]) m' (fun i=>i=id):=by
  intro i y hy;rcases hget i y hy with ⟨h1,_⟩ | ⟨h1,h2⟩
  .exact .inl h1
  .exact .inr ⟨y,h2,rfl,Dk h1⟩
 refine⟨O,m',hS.next (st':= {tmps:=st.tmps.set d (.own id),Js:=JL (Kz st.Js del) [(id,.arr e frz ⟨t,[]⟩)]}) (x:=.own id) (T:=fun _=>False) (Nw:=fun i=>i=id) (Moves.refl _ _ _) ⟨fun _ _ _ h=>h,fun _ _ _ _ h _=>h⟩ (fun b k hb h=>h) hE (fun n hn=>by rw[hn];exact hfresh.both) (fun _ h=>h.elim) (fun i y hy=> ?_) rfl (fun _=> ?_)⟩
 .rcases hget i y hy with ⟨h1,h2⟩ | ⟨h1,h2⟩
  .right;subst h1;subst h2;exact⟨⟨by simp [Sl.es],.inl ⟨trivial,rfl,Dn rfl⟩⟩,hfresh.ne⟩
  .exact .inl ⟨fun h=>h,h2,Dk h1⟩
 .refine⟨rfl,?_⟩;all_goals grind[JA,JL,Kz,KA,Obj.shp]
theorem ArE (hS:Sim V0 O0 w0 O m st a w) {d:Tmp} {q e cap g:Nat} {frz:Bool} {l l':Sl} {ns:List (List A)} {cur:Array Value} {news:List Value}
 (hq:JA st.Js q=some (.arr e frz l)) (hm:m q= .slice (some (at' g 0)) l.es.length cap) (hg:NY w g cur e) (hcap:l.es.length+ns.length<=cap) (hle:l'.es=l.es++ns) (hls:l'.sz=l.sz)
 (hl:news.length=ns.length*l.sz) (hns: ∀ x∈ns,x.length=l.sz) (hnv: ∀ i j,i<ns.length->j<l.sz->JC O w (news.getD (i*l.sz+j) undef) ((ns.getD i []).getD j .undef)) (hfresh:Qe st (b2 d)) :
 ∃ O' m',Sim V0 O0 w0 O' m' {tmps:=st.tmps.set d (.own (b2 d)),Js:=JL (Kz st.Js [q]) [(b2 d,.arr e frz l')]} (a.put (some d) (.slice (some (at' g 0)) (l.es.length+ns.length) cap)) (w.setCells g (l.es.length*l.sz) news):=by
 let id:=b2 d;have hidq:id≠q:=fun h=>by have:=hfresh.2;rw[show b2 d=id from rfl,h,hq]at this;cases this
 obtain⟨hsz,hr⟩:=hS.Js q _ hq
 obtain⟨g',cap',cur',h2,h3,h4,h5,h6,h7,h8,h9⟩: ∃ g' cap' cur',m q= .slice (some (at' g' 0)) l.es.length cap'/\NY w g' cur' e/\l.es.length<=cap'/\cap'<=maxLen/\cur'.size=cap'*l.sz /\
  (∀ i j,i<l.es.length->j<l.sz-> ∃ u,cur'[i*l.sz+j]? =some u/\JC O w u ((l.es.getD i []).getD j .undef))/\(∀ k,k<cur'.size->l.es.length*l.sz<=k->O g' k=some q)/\(∀ k,k<l.es.length*l.sz->O g' k=if frz then none else some q):=by
  rcases hr with ⟨_,_,h⟩ | ⟨_,h⟩
  .rw[hm]at h;cases h
  .exact h
 rw[hm]at h2;injection h2 with h2 _ hcc;injection h2 with h2;injection h2 with h2;subst h2;subst hcc;obtain⟨h3,_⟩:=hg.inj h3;subst h3;obtain⟨fr,hg,hfr0⟩:=hg;have hmul:(l.es.length+ns.length)*l.sz<=cap*l.sz:=DW _ hcap;rw[Ez]at hmul;obtain⟨c',g1,g2,g3,g4,g5,g6,g7,g8⟩:=kK g news (l.es.length*l.sz) w hg (by rw[hl,h6];exact hmul);let w':=w.setCells g (l.es.length*l.sz) news;let O':Own:=fun b k=>if b=g/\k<cur.size then(if frz=true/\k<(l.es.length+ns.length)*l.sz then none else some id)else O b k;let m':Nat->Value:=fun i=>if i=id then .slice (some (at' g 0)) (l.es.length+ns.length) cap else m i;have hsame: ∀ k,(k<l.es.length*l.sz\/(l.es.length+ns.length)*l.sz<=k)->c'[k]? =cur[k]? :=by all_goals grind[getD_eq]
 have hM:Moves O (fun i=>i=q) w w':=by refine Moves.row g6 g7 g8 g5 hg g1 g4 g2 (fun k hk=>hsame k ?_) ?_;all_goals grind[apply]
 have hg':g<w.heap.size:=(Ea.1 hg).1
 have own_g: ∀ k,k<cur.size->O g k=none\/O g k=some q:=by
  intro k hk;rcases Ej k (l.es.length*l.sz)with h | h
  .rw[h9 k h];cases frz<;>simp
  .exact .inr (h8 k hk h)
 have hP:Passes O O' (fun i=>i=q) w.heap.size:=by
  refine⟨fun b k _ h=> ?_,fun b k r _ h hne=> ?_⟩
  .show(if _ then(if _ then _ else _)else _)=_;by_cases hc:b=g/\k<cur.size
   .rw[Dn hc];obtain⟨rfl,hk⟩:=hc;rcases Ej k (l.es.length*l.sz)with h' | h'
    .have:=h9 k h';rw[h]at this;cases frz
     .simp at this
     .rw[Dn ⟨rfl,by rw[Ez];omega⟩]
    .rw[h8 k hk h']at h;cases h
   .rw[Dk hc];exact h
  .show(if _ then(if _ then _ else _)else _)=_;by_cases hc:b=g/\k<cur.size
   .obtain⟨rfl,hk⟩:=hc;rcases own_g k hk with h' | h'
    .rw[h]at h';cases h'
    .rw[h]at h';injection h' with h';exact absurd h' hne
   .rw[Dk hc];exact h
 have hpr:=hM.Kr hP
 have hget: ∀ i y,JA (JL (Kz st.Js [q]) [(id,.arr e frz l')]) i=some y->(i=id/\y= .arr e frz l')\/(i≠id/\i≠q/\JA st.Js i=some y):=by
  intro i y hy;simp only[JL]at hy;rw[KA]at hy;by_cases hi:i=id
  .rw[Dn hi]at hy;injection hy with hy;exact .inl ⟨hi,hy.symm⟩
  .rw[Dk hi,Vf]at hy;split at hy
   .cases hy
   .rename_i hnd;exact .inr ⟨hi,by simpa using hnd,hy⟩
 have hE:RN st.Js m (JL (Kz st.Js [q]) [(id,.arr e frz l')]) m' (fun i=>i=id):=by
  intro i y hy;rcases hget i y hy with ⟨h1,_⟩ | ⟨h1,_,h2⟩
  .exact .inl h1
  .exact .inr ⟨y,h2,rfl,Dk h1⟩
 refine⟨O',m',hS.next (st':= {tmps:=st.tmps.set d (.own (b2 d)),Js:=JL (Kz st.Js [q]) [(id,.arr e frz l')]}) (x:=.own id) (T:=fun i=>i=q) (Nw:=fun i=>i=id) hM hP (fun b k hb h=> ?_) hE (fun n hn=>by rw[hn];exact hfresh.both) (fun o ho=>by rw[ho,hq];rfl) (fun i y hy=> ?_) rfl (fun _=> ?_)⟩
 .have h':(if b=g/\k<cur.size then(if frz=true/\k<(l.es.length+ns.length)*l.sz then none else some id)else O b k)≠none:=h;by_cases hc:b=g/\k<cur.size
  .rw[Dn hc]at h';obtain⟨rfl,hk⟩:=hc;rcases Ej k (l.es.length*l.sz)with hlt | hge
   .rw[h9 k hlt];cases frz
    .simp
    .exfalso;refine h' ?_;rw[Dn ⟨rfl,by rw[Ez];omega⟩]
   .rw[h8 k hk hge];simp
  .rw[Dk hc]at h';exact h'
 .rcases hget i y hy with ⟨h1,h2⟩ | ⟨h1,hiq,h2⟩
  .right;subst h1;subst h2;refine⟨?_,hfresh.ne⟩;simp only[Lt];rw[hle,hls];refine⟨fun x hx=>(DK.1 hx).elim (hsz x) (hns x),.inr ⟨trivial,g,cap,c',by rw[Dp];exact Dn rfl,⟨fr,g1,by rw[g2];exact hfr0⟩,by rw[Dp];exact hcap,h5,by rw[g2];exact h6,fun i j hi hj=> ?_,fun k hk hge=> ?_,fun k hk=> ?_⟩⟩
   .rw[Dp]at hi;by_cases hil:i<l.es.length
    .obtain⟨u,h10,h11⟩:=h7 i j hil hj;have hlt:i*l.sz+j<l.es.length*l.sz:=by have:(i+1)*l.sz<=l.es.length*l.sz:=DW _ hil;rw[Ez]at this;omega
     refine⟨u,by rw[hsame _ (.inl hlt)];exact h10,?_⟩;have e1:(l.es++ns).getD i []=l.es.getD i []:=by simp only[Dj];rw[Es hil]
     rw[e1];exact h11.Kr hpr
    .obtain⟨i',rfl⟩: ∃ i',i=l.es.length+i':=⟨i - l.es.length,by omega⟩
     have hi':i'<ns.length:=by omega
     have hlt:i'*l.sz+j<ns.length*l.sz:=by have:(i'+1)*l.sz<=ns.length*l.sz:=DW _ hi';rw[Ez]at this;omega
     have hidx:(l.es.length+i')*l.sz+j=l.es.length*l.sz+(i'*l.sz+j):=by rw[Ez];omega
     have hsz':l.es.length*l.sz+(i'*l.sz+j)<c'.size:=by rw[g2,h6];omega
     refine⟨news.getD (i'*l.sz+j) undef,?_,?_⟩
     .rw[hidx,getD_eq hsz',g3,Dn ⟨by omega,by rw[hl];omega⟩];rw[show l.es.length*l.sz+(i'*l.sz+j) - l.es.length*l.sz=i'*l.sz+j from by omega]
     .have e1:(l.es++ns).getD (l.es.length+i') []=ns.getD i' []:=by
       simp only[Dj];rw[EJ (by omega),Hg]
      rw[e1];exact(hnv i' j hi' hj).Kr hpr
   .rw[g2]at hk;rw[Dp]at hge;show(if _ then(if _ then _ else _)else _)=_;rw[Dn ⟨rfl,hk⟩,A51]
   .rw[Dp]at hk;show(if _ then(if _ then _ else _)else _)=_;rw[Dn ⟨rfl,by rw[Ez]at hk;omega⟩];cases frz
    .simp
    .simp [hk]
  .exact .inl ⟨hiq,h2,Dk h1⟩
 .refine⟨rfl,?_⟩;have:JA (JL (Kz st.Js [q]) [(id,.arr e frz l')]) id=some (.arr e frz l'):=by simp only[JL];rw[KA,Dn rfl]
  show match (JA (JL (Kz st.Js [q]) [(id,.arr e frz l')]) id).map Obj.shp with | some (.arr _ _)=>_ | some .mp=>_ | _=>True
  rw[this];exact(Dn rfl:m' id=_).symm
theorem Aua (hS:Sim V0 O0 w0 O m st a w) {d:Tmp} {q e cap g n:Nat} {l l':Sl} {cur:Array Value}
 (hq:JA st.Js q=some (.arr e false l)) (hm:m q= .slice (some (at' g 0)) l.es.length cap) (hg:NY w g cur e) (hn:n<=l.es.length) (hle:l'.es=l.es.take n) (hls:l'.sz=l.sz) (hfresh:Qe st (b2 d)) :
 ∃ O' m',Sim V0 O0 w0 O' m' {tmps:=st.tmps.set d (.own (b2 d)),Js:=JL (Kz st.Js [q]) [(b2 d,.arr e false l')]} (a.put (some d) (.slice (some (at' g 0)) n cap)) w:=by
 let id:=b2 d;obtain⟨hsz,hr⟩:=hS.Js q _ hq
 obtain⟨g',cap',cur',h2,h3,h4,h5,h6,h7,h8,h9⟩: ∃ g' cap' cur',m q= .slice (some (at' g' 0)) l.es.length cap'/\NY w g' cur' e/\l.es.length<=cap'/\cap'<=maxLen/\cur'.size=cap'*l.sz /\
  (∀ i j,i<l.es.length->j<l.sz-> ∃ u,cur'[i*l.sz+j]? =some u/\JC O w u ((l.es.getD i []).getD j .undef))/\(∀ k,k<cur'.size->l.es.length*l.sz<=k->O g' k=some q)/\(∀ k,k<l.es.length*l.sz->O g' k=some q):=by
  rcases hr with ⟨_,_,h⟩ | ⟨_,h⟩
  .rw[hm]at h;cases h
  .simpa using h
 rw[hm]at h2;injection h2 with h2 _ hcc;injection h2 with h2;injection h2 with h2;subst h2;subst hcc;obtain⟨h3,_⟩:=hg.inj h3;subst h3
 have own_g: ∀ k,k<cur.size->O g k=some q:=by
  intro k hk;rcases Ej k (l.es.length*l.sz)with h | h
  .exact h9 k h
  .exact h8 k hk h
 let O':Own:=fun b k=>if b=g/\k<cur.size then some id else O b k;let m':Nat->Value:=fun i=>if i=id then .slice (some (at' g 0)) n cap else m i;have hM:Moves O (fun i=>i=q) w w:=Moves.refl _ _ _
 have hP:Passes O O' (fun i=>i=q) w.heap.size:=by
  refine⟨fun b k _ h=> ?_,fun b k r _ h hne=> ?_⟩
  .show(if _ then _ else _)=_;by_cases hc:b=g/\k<cur.size
   .obtain⟨rfl,hk⟩:=hc;rw[own_g k hk]at h;cases h
   .rw[Dk hc];exact h
  .show(if _ then _ else _)=_;by_cases hc:b=g/\k<cur.size
   .obtain⟨rfl,hk⟩:=hc;rw[own_g k hk]at h;injection h with h;exact absurd h.symm hne
   .rw[Dk hc];exact h
 have hpr:=hM.Kr hP
 have hget: ∀ i y,JA (JL (Kz st.Js [q]) [(id,.arr e false l')]) i=some y->(i=id/\y= .arr e false l')\/(i≠id/\i≠q/\JA st.Js i=some y):=by
  intro i y hy;simp only[JL]at hy;rw[KA]at hy;by_cases hi:i=id
  .rw[Dn hi]at hy;injection hy with hy;exact .inl ⟨hi,hy.symm⟩
  .rw[Dk hi,Vf]at hy;split at hy
   .cases hy
   .rename_i hnd;exact .inr ⟨hi,by simpa using hnd,hy⟩
 have hE:RN st.Js m (JL (Kz st.Js [q]) [(id,.arr e false l')]) m' (fun i=>i=id):=by
  intro i y hy;rcases hget i y hy with ⟨h1,_⟩ | ⟨h1,_,h2⟩
  .exact .inl h1
  .exact .inr ⟨y,h2,rfl,Dk h1⟩
 have hlen:l'.es.length=n:=by rw[hle,Eb];omega
 have hmul:n*l.sz<=l.es.length*l.sz:=DW _ hn;have hmul2:l.es.length*l.sz<=cap*l.sz:=DW _ h4;refine⟨O',m',hS.next (st':= {tmps:=st.tmps.set d (.own (b2 d)),Js:=JL (Kz st.Js [q]) [(id,.arr e false l')]}) (x:=.own id) (T:=fun i=>i=q) (Nw:=fun i=>i=id) hM hP (fun b k hb h=> ?_) hE (fun n hn=>by rw[hn];exact hfresh.both) (fun o ho=>by rw[ho,hq];rfl) (fun i y hy=> ?_) rfl (fun _=> ?_)⟩
 .have h':(if b=g/\k<cur.size then some id else O b k)≠none:=h;by_cases hc:b=g/\k<cur.size
  .obtain⟨rfl,hk⟩:=hc;rw[own_g k hk];simp
  .rw[Dk hc]at h';exact h'
 .rcases hget i y hy with ⟨h1,h2⟩ | ⟨h1,hiq,h2⟩
  .right;subst h1;subst h2;refine⟨?_,hfresh.ne⟩;simp only[Lt];rw[hls,hlen];refine⟨fun x hx=>hsz x (by rw[hle]at hx;exact Gi hx),.inr ⟨trivial,g,cap,cur,Dn rfl,hg,by omega,h5,h6,fun i j hi hj=> ?_,fun k hk hge=>Dn ⟨rfl,hk⟩,fun k hk=> ?_⟩⟩
   .obtain⟨u,h10,h11⟩:=h7 i j (by omega) hj;refine⟨u,h10,?_⟩;have e1:l'.es.getD i []=l.es.getD i []:=by rw[hle];simp only[Dj,FY];rw[Dn hi]
    rw[e1];exact h11.Kr hpr
   .show(if _ then _ else _)=_;rw[Dn ⟨rfl,by omega⟩];rfl
  .exact .inl ⟨hiq,h2,Dk h1⟩
 .refine⟨rfl,?_⟩;have:JA (JL (Kz st.Js [q]) [(id,.arr e false l')]) id=some (.arr e false l'):=by simp only[JL];rw[KA,Dn rfl]
  show match (JA (JL (Kz st.Js [q]) [(id,.arr e false l')]) id).map Obj.shp with | some (.arr _ _)=>_ | some .mp=>_ | _=>True
  rw[this];exact(Dn rfl:m' id=_).symm
end
section
variable {P:Program} {C:Ctx} {V0:Nat->Value} {O0 O:Own} {w0 w:World} {m:Nat->Value} {st:St} {a:Act} {o:Oper}
theorem Yc {δ :Dl} {d:Tmp} (hd:o.dst=some d):apply st o δ = {tmps:=st.tmps.set d δ.val,Js:=JL (Kz (JL st.Js δ.upd) δ.del) δ.new}:=by unfold apply;rw[hd];rfl
theorem Y3 {t:Nat} {k:Nat->TI->Dl} (hok:JE (elemOf C t k).ok): ∃ ti e te,C.T t=some ti/\ti.d= .slice e/\C.T e=some te/\elemOf C t k=k e te:=by
 unfold elemOf at *
 obtain⟨ti,ht,he⟩:=Ky hok;rw[he]at hok ⊢;clear he;obtain⟨e,hel,he⟩:=JW hok;rw[he]at hok ⊢;clear he;obtain⟨te,hte,he⟩:=Ky hok;exact⟨ti,e,te,ht,Us hel,hte,he⟩
theorem AwU {O':Own} {w':World} {fet:Fet} {te:TI} {ty:Ty} (hf:Pz st.Js fet) (hp:N8 O w O' w) (hw:w'=w): ∀(xs:List (Nat×A)) (ps:List (Nat×Value)) (vs:Array Value) (zs:List ty.Val),
 xs.length=ps.length->(∀(j:Nat) (x:Nat×A) (p:Nat×Value),xs[j]? =some x->ps[j]? =some p->p.1=x.1/\JJ O st.Js m w p.2 x.2/\x.2.isVal=true) ->
 vs.size=zs.length*te.cs.length->Held O' w' vs te.cs.length (zs.map ty.cells)->JE (OC fet te ty xs zs).1 ->
 (∀ p∈(OC fet te ty xs zs).2.2,∀ e l,p.2= .arr e true l->JC O' w (m p.1) (.sl l)) ->
 (OC fet te ty xs zs).2.1.length=zs.length/\ ∃ vs',Instr.fill (fun i=>some (i*te.cs.length,te.cs.length)) vs ps=some vs'/\vs'.size=vs.size/\Held O' w' vs' te.cs.length ((OC fet te ty xs zs).2.1.map ty.cells):=by
 subst hw;intro xs
 induction xs with
 | nil =>
  intro ps vs zs hl _ hsz hh _ _;cases ps with
  | nil=>exact⟨rfl,vs,rfl,rfl,hh⟩
  | cons _ _=>simp at hl
 | cons x xs ih =>
  intro ps vs zs hl hr hsz hh hok hU;cases ps with
  | nil=>simp at hl
  | cons p ps =>
   obtain⟨i,x⟩:=x;obtain⟨i',v⟩:=p;obtain⟨h1,h2,hval⟩:=hr 0 (i,x) (i',v) rfl rfl;dsimp only at h1 h2 hval;subst h1;simp only[OC]at hok hU ⊢;obtain⟨hok1,hok2⟩:=hok.append;obtain⟨hok0,hok1⟩:=hok1.append;obtain⟨hmk,hok1⟩:=hok1.cons;have hmk:=Ty.UC _ _ hmk;have hil':i'<zs.length:=by simpa [EM]using hok1.cons.1
   have hset:(zs.set i' (ty.mk (KQ fet te.cs x.cells).2.1).2).map ty.cells=(zs.map ty.cells).set i' (KQ fet te.cs x.cells).2.1:=by rw[List.map_set,hmk]
   have hzl:zs.length=(zs.map ty.cells).length:=by simp
   rw[hzl]at hsz hil';generalize hes:zs.map ty.cells=es at *
   have hil:i'<es.length:=hil';have hcs:=h2.cells hval;obtain⟨g1,g2,g3,g4⟩:=VW hf te.cs x.cells (fun j=>v.cells.getD j undef) (fun j hj=>hcs.2 j hj) hok0;have g5:=g4 hp (fun p hp'=>hU p (D9 _ hp'));have hvsz:v.cells.size=te.cs.length:=by rw[hcs.1,g2]
   have hle:i'*te.cs.length+te.cs.length<=vs.size:=by rw[hsz];have:(i'+1)*te.cs.length<=es.length*te.cs.length:=DW _ hil;rw[Ez]at this;omega
   have e0:v.cells.zipIdx.foldl (fun cs (c,j)=>cs.setIfInBounds (i'*te.cs.length+j) c) vs=(v.cells.toList.zipIdx 0).foldl (fun cs (p:Value×Nat)=>cs.setIfInBounds (i'*te.cs.length+p.2) p.1) vs:=by rw[<- IV];simp
   have hl0:i'*te.cs.length+0+v.cells.toList.length<=vs.size:=by rw[Array.length_toList,hvsz];omega
   obtain⟨k1,_⟩:=WE v.cells.toList 0 (i'*te.cs.length) vs 0 hl0;have k2:=fun j=>(WE v.cells.toList 0 (i'*te.cs.length) vs j hl0).2;rw[<- e0]at k1
   have hh':Held O' w' (v.cells.zipIdx.foldl (fun cs (c,j)=>cs.setIfInBounds (i'*te.cs.length+j) c) vs) te.cs.length (es.set i' (KQ fet te.cs x.cells).2.1):=by
    refine⟨fun y hy=> ?_,fun r j hrl hj=> ?_⟩
    .rcases Io hy with h | h
     .exact hh.1 y h
     .rw[h,g1]
    .rw[Gg]at hrl;have hlt:r*te.cs.length+j<vs.size:=by rw[hsz];have:(r+1)*te.cs.length<=es.length*te.cs.length:=DW _ hrl;rw[Ez]at this;omega
     have hk:=k2 (r*te.cs.length+j);rw[<- e0]at hk;by_cases hri:r=i'
     .subst hri;rw[Dn (by rw[Array.length_toList,hvsz];omega)]at hk;have e1:(es.set r (KQ fet te.cs x.cells).2.1).getD r []=(KQ fet te.cs x.cells).2.1:=by simp [Dj,hil]
      refine⟨_,getD_eq,?_⟩;rw[hk,e1,show r*te.cs.length+j - (r*te.cs.length+0)=j from by omega];have e2:v.cells.toList.getD j undef=v.cells.getD j undef:=by rw[Du,Dj,Eg]
      rw[e2];exact g5 j hj
     .have hno: ¬(i'*te.cs.length+0<=r*te.cs.length+j/\r*te.cs.length+j<i'*te.cs.length+0+v.cells.toList.length):=by
       rw[Array.length_toList,hvsz];rintro ⟨ha,hb⟩;rcases IW hri with h | h
       .have:(r+1)*te.cs.length<=i'*te.cs.length:=DW _ h;rw[Ez]at this;omega
       .have:(i'+1)*te.cs.length<=r*te.cs.length:=DW _ h;rw[Ez]at this;omega
      rw[Dk hno]at hk;obtain⟨u,h3,h4⟩:=hh.2 r j hrl hj;refine⟨u,?_,?_⟩
      .rw[getD_eq,hk,<- getD_eq hlt];exact h3
      .have e1:(es.set i' (KQ fet te.cs x.cells).2.1).getD r []=es.getD r []:=by
        simp only[Dj,FN];rw[Dk (fun h=>hri h.symm)]
       rw[e1];exact h4
   obtain⟨f1,vs',f2,f3,f4⟩:=ih ps _ (zs.set i' (ty.mk (KQ fet te.cs x.cells).2.1).2) (by simpa using hl) (fun j x p hx hp=>hr (j+1) x p (by simpa using hx) (by simpa using hp)) (by rw[k1,hsz,Gg,hzl]) (by rw[hset];exact hh') hok2
    (fun p hp'=>hU p (DF _ hp'))
   refine⟨by rw[f1,Gg],vs',?_,by rw[f3,k1],f4⟩;simp only[Instr.fill];have: ¬(v.cells.size≠te.cs.length||decide (i'*te.cs.length+v.cells.size>vs.size))=true:=by rw[hvsz];simp;omega
   rw[Dk (by simpa using this)];exact f2
end
section
variable {P:Program} {C:Ctx} {V0:Nat->Value} {O0 O:Own} {w0 w:World} {m:Nat->Value} {st:St} {a:Act} {o:Oper}
theorem AbH {fet:Fet} {ks:List CK} {x:A} (hok:JE (KQ fet ks x.cells).1):x.isVal=true:=by
 have no: ∀ {y:A},(∀ k,(pur fet k y).1=[false])-> ¬ JE (KQ fet ks [y]).1:=by
  intro y h hh;cases ks with
  | nil=>simp_all[KQ,Fet,CK,JE]
  | cons k ks=>simp_all[KQ,Fet,CK,JE]
 cases x with
 | undef=>exact(no (fun k=>rfl) hok).elim
 | tup _=>exact(no (fun k=>rfl) hok).elim
 | usl _ _ _=>exact(no (fun k=>rfl) hok).elim
 | ump _=>exact(no (fun k=>rfl) hok).elim
 | box _=>exact(no (fun k=>rfl) hok).elim
 | cbx _ _=>exact(no (fun k=>rfl) hok).elim
 | cnd _ _=>exact(no (fun k=>rfl) hok).elim
 | _=>rfl
theorem Ar9 {fet:Fet} {te:TI} {ty:Ty} (hf:Pz st.Js fet): ∀(xs:List (Nat×A)) (zs:List ty.Val),(∀ x∈xs,∃ v,JJ O st.Js m w v x.2)->JE (OC fet te ty xs zs).1->Frz st.Js (OC fet te ty xs zs).2.2/\ ∀ x∈xs,x.2.isVal=true:=by
 intro xs
 induction xs with
 | nil=>intro zs _ _;exact⟨(fun p hp=>by simp [OC]at hp),fun x hx=>by cases hx⟩
 | cons x xs ih =>intro zs h hok;obtain⟨i,x⟩:=x;simp only[OC]at hok ⊢;obtain⟨hok1,hok2⟩:=hok.append;obtain⟨hok0,_⟩:=hok1.append;have hv:=AbH hok0;obtain⟨v,hx⟩:=h (i,x) Dv;have hcs:=JJ.cells (show JJ O st.Js m w v x from hx) hv;obtain⟨_,_,g3,_⟩:=VW hf te.cs x.cells (fun j=>v.cells.getD j undef) (fun j hj=>hcs.2 j hj) hok0;obtain⟨f1,f2⟩:=ih _ (fun y hy=>h y (Dx _ hy)) hok2;exact⟨g3.append f1,fun y hy=>by rcases D7.1 hy with rfl | hy;exact hv;exact f2 y hy⟩
theorem kQ: ∀(vs:List Value) (ks:List CK),KI vs ks=true->ks.all CK.plain=true-> ∀ j,j<ks.length->JC O w (vs.getD j undef) ((ks.map CK.OV).getD j .undef):=by
 intro vs ks h hp j hj;obtain⟨h1,h2⟩:=Ue (O:=O) (Js:=[]) (m:=fun _=>undef) (w:=w) vs ks h;have h3:=h2 j hj;have hk:(ks.getD j .oth).plain=true:=by all_goals simp_all[CK,KI,CK.plain,JC,CK.OV]
 have e1:(ks.map CK.zero).getD j .undef=(ks.getD j .oth).zero:=by simp [Dj,hj]
 have e2:(ks.map CK.OV).getD j .undef=(ks.getD j .oth).OV:=by simp [Dj,hj]
 rw[e1]at h3;rw[e2];generalize ks.getD j .oth=k at *
 generalize vs.getD j undef=v at *
 cases k with
 | oth=>cases hk
 | mp _ _=>cases hk
 | bx _=>cases hk
 | fn=>exact h3
 | sl e sz=>have:=JO.LC h3;subst this;exact .nil _
 | sln e sz=>have:=JO.LC h3;subst this;exact .nil _
 | bool=>exact h3
 | int _=>exact h3
 | str=>exact h3
 | ptr=>exact h3
def zeros (z:Value) (n:Nat):Array Value:=(Array.range n).map (z.cells[· % z.cells.size]!)
theorem Held.less {cur:Array Value} {sz:Nat} {x:List A} {n k:Nat} (h:Held O w cur sz (List.replicate k x)) (hk:n<=k):Held O w cur sz (List.replicate n x):=by
 refine⟨fun y hy=> ?_,fun i j hi hj=> ?_⟩
 .rw[Gt hy];cases k with
  | zero=>grind[Held]
  | succ k=>grind[Held]
 .rw[EH]at hi;obtain⟨u,h1,h2⟩:=h.2 i j (by rw[EH];omega) hj;refine⟨u,h1,?_⟩;have e1:(List.replicate n x).getD i []=x:=by simp [Dj,hi]
  all_goals grind[Held]
theorem Abv {t:Nat} {te:TI} {z:Value} (hT:Xc P t te) (hz:(P.info? t).bind (·.zero)=some z) (hp:te.cs.all CK.plain=true) (h0:0<te.cs.length) (n:Nat) :
 (zeros z (n*te.cs.length)).size=n*te.cs.length/\Held O w (zeros z (n*te.cs.length)) te.cs.length (List.replicate n (te.cs.map CK.OV)):=by
 obtain⟨i,z',h1,h2,h3,h4,h5,h6⟩:=hT.i;rw[h1]at hz;simp only[Option.bind_some,h4]at hz;injection hz with hz;subst hz;have hsz:z'.cells.size=te.cs.length:=by rw[<- Array.length_toList];exact(Ue (O:=O) (Js:=[]) (m:=fun _=>undef) (w:=w) _ _ h5).1
 have hv:=kQ (O:=O) (w:=w) _ _ h5 hp;refine⟨by simp [zeros],fun x hx=>by rw[Gt hx];simp,fun r j hr hj=> ?_⟩;rw[EH]at hr;have hlt:r*te.cs.length+j<n*te.cs.length:=by have:(r+1)*te.cs.length<=n*te.cs.length:=DW _ hr;rw[Ez]at this;omega
 have hmod:(r*te.cs.length+j) % te.cs.length=j:=by rw[H5,Nat.mul_add_mod];exact F6 hj
 all_goals grind[zeros,CK.OV]
theorem Ai6 {t n:Nat} {ps:Array (Nat×Operand)} (hC:TOk P C) (hS:Sim V0 O0 w0 O m st a w) {d:Tmp} (hd:o.dst=some d) (ho:o.op= .buildSlice t n ps) {fet:Fet} (hf:Pz st.Js fet) {xs:List (Nat×A)}
 (hl:xs.length=ps.size) (hx: ∀(j:Nat) (x:Nat×A) (p:Nat×Operand),xs[j]? =some x->ps[j]? =some p->p.1=x.1/\JJ O st.Js m w (a.eval p.2) x.2)
 (hok:JE (Tf C fet d t n xs).ok) (hfr: ∀ p∈(Tf C fet d t n xs).new,st.fresh p.1=true):Good P V0 O0 w0 (apply st o (Tf C fet d t n xs)) o a w:=by
 intro next Q hn
 unfold Tf at *
 obtain⟨ti,e,te,ht,hte,hd',he⟩:=Y3 hok;rw[he]at hn hfr hok;clear he;obtain⟨hok1,hok2⟩:=hok.append;obtain⟨hb1,hb2⟩:=hok2.cons;obtain⟨hb2,hb3⟩:=hb2.cons;have hb1:=DL hb1;have hb2:0<te.cs.length:=by simpa [EM]using hb2
 have hb3:=hb3.cons.1;have hT:=hC.is hd';obtain⟨i,z,h1,h2,h3,h4,h5,h6⟩:=hT.i;have hu:=(hC.is ht).d;rw[hte]at hu;obtain⟨hU,hval⟩:=Ar9 (te:=te) (ty:=tyl te.cs) hf xs (List.replicate n (tyl te.cs).zero) (fun x hx'=>by obtain⟨j,hj,hje⟩:=Gj.1 hx';have:=hx j x (ps[j]'(by omega)) (by rw[<- hje];exact DD hj) (by simp [show j<ps.size from by omega]);exact⟨_,this.2⟩) hok1;obtain⟨O1,hS1,hp1,hle1,hv1,hE1,_⟩:=hS.freezes _ hU;obtain⟨hz1,hz2⟩:=Abv (O:=O1) (w:=w) hT (by rw[h1];exact h4) hb3 hb2 n
 obtain⟨f1,vs',f2,f3,f4⟩:=AwU (te:=te) (ty:=tyl te.cs) hf hp1 rfl xs (ps.map (fun(i,x)=>(i,a.eval x))).toList (zeros z (n*te.cs.length)) (List.replicate n (tyl te.cs).zero) (by simp [hl]) (fun j x p hxj hpj=>by
  simp only[Ir,EC]at hpj;cases hq:ps.toList[j]? with
  | none=>rw[hq]at hpj;cases hpj
  | some q =>rw[hq]at hpj;injection hpj with hpj;subst hpj;have:=hx j x q hxj (by simpa using hq);exact⟨this.1,this.2,hval x (H6 hxj)⟩) (by rw[hz1,EH]) (by rw[<- Sl.pW _ _ hb3]at hz2;exact hz2) hok1 hv1
 have hlen:(OC fet te (tyl te.cs) xs (List.replicate n (tyl te.cs).zero)).2.1.length=n:=by rw[f1,EH]
 have hnn:n*te.cs.length<=16777216:=hb1;have hnle:n<=16777216:=Gs (Nat.le_mul_of_pos_right n hb2) hnn
 have hr:(execOp a.eval o).run P w= .ok (.value (.slice (some (at' w.heap.size 0)) n n)) (w.alloc (.cells vs' e)):=by
  have hbig: ¬(16777216<n*te.cs.length):=by omega
  simp only[execOp,ho,DJ,Instr.buildSlice,Ec hu,Result.andThen_ok,hT.PR];rw[Dk (by simpa using hbig)];by_cases h0:n*te.cs.length=0
  .have hz0:(Array.range (n*te.cs.length)).map ((#[]:Array Value)[· % (#[]:Array Value).size]!)=zeros z (n*te.cs.length):=by simp [zeros,h0]
   simp only[Dn h0,DJ,Sem.run_pure,Result.andThen_ok,hz0,f2];rfl
  .simp only[Dk h0,DJ,Sem.run_pure,Result.andThen_ok,zeroValue,typeInfo,run_program,h1,h4];have hz0:(Array.range (n*te.cs.length)).map (z.cells[· % z.cells.size]!)=zeros z (n*te.cs.length):=rfl;rw[hz0,f2];rfl
 unfold Oper.wp;rw[hr,Oper.upon_value,hd];have hfr':=(show Qe st (b2 d)from N9 (hfr _ Dv)).frz hU;obtain⟨O',m',h⟩:=ZB hS1 (Moves.refl _ _ w) rfl (d:=d) (e:=e) (cap:=n) (frz:=false) (l:=⟨tyl te.cs,(OC fet te (tyl te.cs) xs (List.replicate n (tyl te.cs).zero)).2.1⟩) (del:=[]) (by rw[Sl.KU,hlen];exact DV _) (by unfold maxLen;omega) (by rw[f3,hz1];show _=_*(tyl te.cs).len;rw[WU]) (by show Held _ _ _ (tyl te.cs).len _;rw[WU];exact f4) hfr';rw[Sl.KU,hlen]at h;refine hn O' m' _ _ ?_;rw[Yc hd];exact h
end
end Go.Proofs.YtmgpaalplkkpnaaGreatDoor.Vm
