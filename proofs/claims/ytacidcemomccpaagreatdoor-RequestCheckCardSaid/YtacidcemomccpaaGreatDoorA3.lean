import Derived.Test.YtacidcemomccpaaGreatDoorA2
import Derived.Laws.Tables
import Derived.Laws.Append
import Derived.Laws.AppendOwn
import Derived.Laws.OwnMore
set_option linter.all false
namespace Go.Proofs.YtacidcemomccpaaGreatDoor.Vm
section
variable {P:Program} {C:Ctx} {O:Own} {Jr:List (Nat×Obj)} {m:Nat->Value} {a:Act} {w:World} {o:Oper} {fet:Fet}
def RZ (O:Own) (Jr:List (Nat×Obj)) (m:Nat->Value) (w:World) (vs:Array Value) (cs:List A):Prop :=
 vs.size=cs.length/\ ∀ j,j<cs.length->JG O Jr m w (vs.getD j undef) (cs.getD j .undef)
def JG.one {v:Value} {x:A} (h:JG O Jr m w v x):v.oneCell'=true:=by
 cases x with
 | undef=>exact h
 | bool _=>cases h;rfl
 | int _ _=>cases h;rfl
 | str _=>cases h;rfl
 | sl _=>cases h<;>rfl
 | sln _=>exact J5.one h
 | Lt=>have h':v=_:=h;subst h';rfl
 | Mc=>cases h;rfl
 | ptr _ _=>exact h.1
 | own _=>exact h.1
 | Ku _ _ _=>exact h.1
 | clo _ _=>exact h.1
 | bsl _ _=>exact h.1
 | osl _ _=>exact h.1
 | elt _=>obtain⟨_,_,h,_⟩:=h;subst h;rfl
 | fn _=>cases h<;>rfl
 | _=>exact h.elim
def oneCell_cells {v:Value} (h:v.oneCell'=true):v.cells= #[v]:=by cases v<;>first | rfl | cases h
theorem JC.cells {v:Value} {x:A} (h:JC O Jr m w v x) (hv:x.isVal=true):RZ O Jr m w v.cells x.cells:=by
 have cell:JG O Jr m w v x->x.cells=[x]->RZ O Jr m w v.cells x.cells:=by
  intro hc he;rw[he,oneCell_cells hc.one];refine⟨rfl,λj hj=> ?_⟩;have:j=0:=by simpa using hj
  subst this;exact hc
 cases x with
 | agg cs =>obtain⟨vs,h1,h2,h3⟩:=h;subst h1;exact⟨h2,h3⟩
 | undef=>cases hv
 | tup _=>cases hv
 | usl _ _ _=>cases hv
 | ump _=>cases hv
 | box _=>cases hv
 | cbx _ _=>cases hv
 | cnd _ _=>cases hv
 | _=>exact cell h rfl
def Ws (l:List Value): ∀(k off:Nat) (cs:Array Value) (i:Nat),off+k+l.length<=cs.size ->
 ((l.zipIdx k).foldl (λcs (p:Value×Nat)=>cs.setIfInBounds (off+p.2) p.1) cs).size=cs.size /\
 ((l.zipIdx k).foldl (λcs (p:Value×Nat)=>cs.setIfInBounds (off+p.2) p.1) cs).getD i undef=if off+k<=i/\i<off+k+l.length then l.getD (i - (off+k)) undef else cs.getD i undef:=by
 induction l with
 | nil =>intro k off cs i _;refine⟨rfl,?_⟩;rw[Dt (by simp)];rfl
 | cons v l ih =>
  intro k off cs i h;simp only[List.zipIdx_cons,List.foldl_cons];simp only[List.length_cons]at h ⊢;obtain⟨h1,h2⟩:=ih (k+1) off (cs.setIfInBounds (off+k) v) i (by simp;omega);refine⟨by rw[h1];simp,?_⟩;rw[h2];by_cases hi:off+(k+1)<=i/\i<off+(k+1)+l.length
  .rw[Du hi,A0h,show i - (off+k)=(i - (off+(k+1)))+1 from by omega];rfl
  .rw[Dt hi];by_cases hk:i=off+k
   .subst hk;rw[A0h,Dv,Fa];all_goals grind
   .rw[A0g,Dv,Fa,A0g,<- Dv]
def oP (l:List A) (off:Nat) (vs:List A) (i:Nat) (h:off+vs.length<=l.length):(splice l off vs).getD i .undef=if off<=i/\i<off+vs.length then vs.getD (i - off) .undef else l.getD i .undef:=by unfold splice;all_goals grind[splice]
def dW (l:List A) (off:Nat) (vs:List A) (h:off+vs.length<=l.length):(splice l off vs).length=l.length:=by unfold splice;simp;omega
theorem RZ.splice {vs us:Array Value} {cs xs:List A} {off:Nat} (h:RZ O Jr m w vs cs) (hu:RZ O Jr m w us xs) (hle:off+xs.length<=cs.length) :
 RZ O Jr m w (us.zipIdx.foldl (λcs (c,j)=>cs.setIfInBounds (off+j) c) vs) (splice cs off xs):=by
 have e:us.zipIdx.foldl (λcs (c,j)=>cs.setIfInBounds (off+j) c) vs=(us.toList.zipIdx 0).foldl (λcs (p:Value×Nat)=>cs.setIfInBounds (off+p.2) p.1) vs:=by rw[<- Jg];simp
 rw[e];have hl:off+0+us.toList.length<=vs.size:=by rw[Array.length_toList,hu.1,h.1];omega
 refine⟨by rw[(Ws us.toList 0 off vs 0 hl).1,h.1,dW _ _ _ hle],λj hj=> ?_⟩;rw[dW _ _ _ hle]at hj;rw[(Ws us.toList 0 off vs j hl).2,oP _ _ _ _ hle];rw[Array.length_toList,hu.1];by_cases hi:off<=j/\j<off+xs.length
 .rw[A0h,Du hi,Nat.add_zero];have:=hu.2 (j - off) (by omega);have e:us.toList.getD (j - off) undef=us.getD (j - off) undef:=by rw[Dv,Dn,ET]
  rw[e];exact this
 .rw[A0g,Dt hi];exact h.2 j hj
def kE (P:Program) (d:TypeDesc) (i:Nat):Option (Nat×Nat) :=
 match d with
 | .struct fs=>(fs[i]?).bind λf=>(P.info? f.type).map λj=>(f.offset,j.size)
 | .array _ e=>(P.info? e).map λj=>(i*j.size,j.size)
 | _=>none
def Al1 (hC:TOk P C) {d:TypeDesc} {place:Nat->Option (Nat×Nat)} (hp: ∀ i p,kE P d i=some p->place i=some p): ∀(xs:List (Nat×A)) (ps:List (Nat×Value)) (vs:Array Value) (cs cs':List A),
 xs.length=ps.length->(∀(j:Nat) (x:Nat×A) (p:Nat×Value),xs[j]? =some x->ps[j]? =some p->p.1=x.1/\JC O Jr m w p.2 x.2)->RZ O Jr m w vs cs->fill C d xs cs=some cs' ->
 ∃ vs',Instr.fill place vs ps=some vs'/\RZ O Jr m w vs' cs':=by
 intro xs
 induction xs with
 | nil =>
  intro ps vs cs cs' hl _ hcs hf;cases ps with
  | nil=>simp only[fill]at hf;injection hf with hf;subst hf;exact⟨vs,rfl,hcs⟩
  | cons _ _=>simp at hl
 | cons x xs ih =>
  intro ps vs cs cs' hl hr hcs hf;cases ps with
  | nil=>simp at hl
  | cons p ps =>
   obtain⟨i,x⟩:=x;obtain⟨i',v⟩:=p;obtain⟨h1,h2⟩:=hr 0 (i,x) (i',v) rfl rfl;dsimp only at h1 h2;subst h1;simp only[fill]at hf;cases hpl:Acf C d i' with
   | none=>rw[hpl]at hf;cases hf
   | some q =>
    obtain⟨off,ti⟩:=q;rw[hpl]at hf;dsimp only at hf;cases hb:(x.isVal&&Nat.beq x.cells.length ti.cs.length&&Nat.ble (off+ti.cs.length) cs.length)with
    | false=>rw[hb]at hf;cases hf
    | true =>
     rw[hb]at hf;simp only[cond_true]at hf;simp only[Dw,XB,D6]at hb;obtain⟨⟨hb1,hb2⟩,hb3⟩:=hb;have hb3:=DR hb3;have hv:=h2.cells hb1
     have hpv:kE P d i'=some (off,ti.cs.length):=by
      unfold Acf at hpl;unfold kE;split at hpl
      .rename_i fs;split at hpl
       .rename_i f hf';split at hpl
        .rename_i tf htf;injection hpl with hpl;injection hpl with e1 e2;subst e1;subst e2;obtain⟨i0,z,h3,h4,_⟩:=(hC.is htf).i;have:fs[i']? =some f:=by simpa using hf'
         simp [this,h3,h4]
        .cases hpl
       .cases hpl
      .rename_i n e;split at hpl
       .rename_i tf htf;cases hlt:Nat.blt i' n with
        | false=>rw[hlt]at hpl;cases hpl
        | true =>rw[hlt]at hpl;injection hpl with hpl;injection hpl with e1 e2;subst e2;obtain⟨i0,z,h3,h4,_⟩:=(hC.is htf).i;simp [h3,h4,<- e1]
       .cases hpl
      .cases hpl
     have hnext:=hcs.splice (off:=off) hv (by omega);obtain⟨vs',h5,h6⟩:=ih ps _ _ _ (by simpa using hl) (λj x p hx hp=>hr (j+1) x p (by simpa using hx) (by simpa using hp)) hnext hf;refine⟨vs',?_,h6⟩;simp only[Instr.fill,hp _ _ hpv];have: ¬(v.cells.size≠ti.cs.length||decide (off+v.cells.size>vs.size))=true:=by rw[hv.1,hcs.1,hb2];simp;omega
     rw[Dt (by simpa using this)];exact h5
def We: ∀(vs:List Value) (ks:List CK),KH vs ks=true->vs.length=ks.length/\ ∀ j,j<ks.length->JG O Jr m w (vs.getD j undef) ((ks.map CK.zero).getD j .undef):=by
 intro vs
 induction vs with
 | nil=>intro ks h;cases ks with
  | nil=>exact⟨rfl,λj hj=>by simp at hj⟩
  | cons _ _=>simp [KH]at h
 | cons v vs ih =>
  intro ks h;cases ks with
  | nil=>cases v<;>simp [KH]at h
  | cons k ks =>
   have step:KH vs ks=true->JG O Jr m w v k.zero->(v::vs).length=(k::ks).length/\ ∀ j,j<(k::ks).length->JG O Jr m w ((v::vs).getD j undef) (((k::ks).map CK.zero).getD j .undef):=by
    intro hz hv;obtain⟨h1,h2⟩:=ih ks hz;refine⟨by simp [h1],λj hj=> ?_⟩;cases j with
    | zero=>exact hv
    | succ j=>simpa using h2 j (by simpa using hj)
   cases k with
   | bool=>cases v with
    | bool b=>cases b<;>simp [KH]at h;exact step h (.bool _)
    | _=>simp [KH]at h
   | int k'=>cases v with
    | int k'' n =>
     have h':A.kEq k'' k'=true/\n=0/\KH vs ks=true:=by clear step ih;unfold KH at h;split at h<;>simp_all
     obtain⟨h1,h2,h3⟩:=h';have:=Rf h1;subst this;subst h2;exact step h3 (.int _ _)
    | _=>simp [KH]at h
   | str=>cases v with
    | string s =>
     simp only[KH,Dw]at h;have hs:s.data.toList=[]:=by simpa using h.1
     refine step h.2 ?_;show J5 O w (.string s) (.str []);rw[<- hs];exact .str s
    | _=>simp [KH]at h
   | sl e sz=>cases v with
    | slice ad l c =>
     have h':ad=none/\l=0/\c=0/\KH vs ks=true:=by clear step ih;unfold KH at h;split at h<;>simp_all
     obtain⟨h1,h2,h3,h4⟩:=h';subst h1;subst h2;subst h3;exact step h4 rfl
    | _=>simp [KH]at h
   | ptr=>cases v with
    | pointer ad=>cases ad<;>simp [KH]at h;exact step h .Mc
    | _=>simp [KH]at h
   | fn=>cases v with
    | nilFunc=>simp [KH]at h;exact step h J5.vM
    | _=>simp [KH]at h
   | sln _ _=>cases v<;>simp [KH]at h
   | mp _ _=>cases v<;>simp [KH]at h
   | bx _=>cases v<;>simp [KH]at h
   | oth =>
    have:v.oneCell'=true/\KH vs ks=true:=by cases v<;>simpa [KH]using h
    exact step this.2 this.1
theorem Aip {n t:Nat} {ks:List CK} (h:Q3 P n t=some ks): ∃ i,P.info? t=some i:=by
 cases n with
 | zero=>simp [Q3]at h
 | succ n =>
  cases hi:P.info? t with
  | some i=>exact⟨i,rfl⟩
  | none =>
   have hu:P.underlying t=none:=by simp [Program.underlying,hi]
   simp [Q3,hu]at h
def An2 {n t:Nat} {ks:List CK} {fs:Array Field} (h:Q3 P n t=some ks) (hu:P.underlying t=some (.struct fs)): ∀ f∈fs.toList,∃ i,P.info? f.type=some i:=by
 cases n with
 | zero=>simp [Q3]at h
 | succ n =>
  simp only[Q3,hu]at h;revert h;generalize fs.toList=l
  induction l generalizing ks with
  | nil=>intro _ f hf;cases hf
  | cons g l ih=>grind[Aip]
def ApO {n t c e:Nat} {ks:List CK} (h:Q3 P n t=some ks) (hu:P.underlying t=some (.array c e)): ∃ i,P.info? e=some i:=by
 cases n with
 | zero=>simp [Q3]at h
 | succ n=>grind[Q3,Aip]
def AnS {P:Program}: ∀(l:List Field),(∀ f∈l,∃ i,P.info? f.type=some i)->l.mapM (λf=>(P.info? f.type).map λi=>(f.offset,i.size))=some (l.map λf=>(f.offset,P.cellsOf f.type)):=by
 intro l
 induction l with
 | nil=>intro _;rfl
 | cons f l ih =>intro h;obtain⟨i,hi⟩:=h f Dy;have:=ih (λg hg=>h g (Dz _ hg));simp [IA,hi,this,Program.cellsOf]
def Anm {t:Nat} {ti:TI} (hT:Xz P t ti): ∃ i z,P.info? t=some i/\i.zero=some z/\Y1 ti.d=Aa4 z/\RZ O Jr m w z.cells (ti.cs.map CK.zero):=by obtain⟨i,z,h1,h2,h3,h4,h5,h6⟩:=hT.i;obtain⟨h7,h8⟩:=We (O:=O) (Jr:=Jr) (m:=m) (w:=w) _ _ h5;all_goals simp_all[Y1,Aa4,RZ,CK.zero]
def ApH {t:Nat} {ps:Array (Nat×Operand)} (hC:TOk P C) (ho:o.op= .build t ps) {xs:List (Nat×A)} (hl:xs.length=ps.size) (hx: ∀(j:Nat) (x:Nat×A) (p:Nat×Operand),xs[j]? =some x->ps[j]? =some p->p.1=x.1/\JC O Jr m w (a.eval p.2) x.2)
 (hok:J6 (zO C t xs).ok):Pure P O Jr m a w o (zO C t xs):=by
 unfold zO at hok ⊢;obtain⟨ti,ht,he⟩:=KF hok;rw[he]at hok ⊢;clear he;obtain⟨cs,hcs,he⟩:=JU hok;rw[he]at hok ⊢;clear he;have hT:=hC.is ht;obtain⟨i,z,h1,h2,_,h3⟩:=Anm (O:=O) (Jr:=Jr) (m:=m) (w:=w) hT
 have key: ∃ place:Nat->Option (Nat×Nat),(∀ i p,kE P ti.d i=some p->place i=some p)/\ ∀ vs,Instr.fill place z.cells (ps.map (fun(i,x)=>(i,a.eval x))).toList=some vs->P.built t (ps.map (fun(i,x)=>(i,a.eval x))).toList=some vs:=by
  have hu:=hT.d;cases hd:ti.d with
  | struct fs =>
   rw[hd]at hu;have hinf:=An2 hT.ck hu;refine⟨λi=>(fs.toList.map λf=>(f.offset,P.cellsOf f.type)).toArray[i]?,λi p hp=> ?_,λvs hvs=> ?_⟩
   .simp only[kE]at hp;cases hf:fs[i]? with
    | none=>rw[hf]at hp;cases hp
    | some f =>
     rw[hf]at hp;simp only[Option.bind_some]at hp;cases hi:P.info? f.type with
     | none=>rw[hi]at hp;cases hp
     | some j =>rw[hi]at hp;simp at hp;subst hp;simp [hf,Program.cellsOf,hi]
   .unfold Program.built;simp only[h1,hu,h2,AnS _ hinf];exact hvs
  | array n e =>
   rw[hd]at hu;obtain⟨ie,hie⟩:=ApO hT.ck hu;refine⟨λi=>some (i*ie.size,ie.size),λi p hp=> ?_,λvs hvs=> ?_⟩
   .grind[kE]
   .unfold Program.built;simp only[h1,hu,h2,hie];exact hvs
  | _ =>have:=hok.cons.1;rw[Ap0,hd]at this;cases this
 obtain⟨place,hp,hb⟩:=key
 obtain⟨vs,h4,h5⟩:=Al1 (O:=O) (Jr:=Jr) (m:=m) (w:=w) hC hp xs (ps.map (fun(i,x)=>(i,a.eval x))).toList z.cells _ cs (by simp [hl]) (λj x p hxj hpj=>by
  simp only[Ik,Ep]at hpj;cases hq:ps.toList[j]? with
  | none=>rw[hq]at hpj;cases hpj
  | some q =>rw[hq]at hpj;injection hpj with hpj;subst hpj;exact hx j x q hxj (by simpa using hq)) h3 hcs
 have:=run_build (P:=P) w t _ _ (hb vs h4);refine⟨⟨.agg vs,?_,?_⟩,rfl,rfl,rfl⟩
 .simp only[execOp,ho,DL,this,Result.andThen_ok,Sem.run_pure]
 .exact⟨vs,rfl,h5.1,h5.2⟩
end
structure Sim (V0:Nat->Value) (O0:Own) (w0:World) (O:Own) (m:Nat->Value) (st:St) (a:Act) (w:World):Prop where
 defers:a.defers=[]
 size:a.tmps.size=st.tmps.length
 tmps: ∀ t,t<st.tmps.length->JC O st.Jr m w (a.tmps.getD t undef) (st.tmps.getD t .undef)
 Jr: ∀ o x,J3 st.Jr o=some x->Lm O st.Jr m w o x
 frame:Moves O0 (λo=>o≠255) w0 w
 own: ∀ b k o,b<w0.heap.size->O b k=some o->o≠255-> ∃ o0,O0 b k=some o0/\o0≠255
 ids: ∀ o x,J3 st.Jr o=some x->o≠255
 less: ∀ b k,b<w0.heap.size->O b k≠none->O0 b k≠none
 root: ∀ o,YO o=true->(J3 st.Jr o).isSome->m o=V0 o
 WS: ∀ b k,b<w0.heap.size->O0 b k=some 255->O b k=some 255
 inv:Inv O0 w0
def Sim.Af0 {V0:Nat->Value} {O0 O:Own} {w0 w:World} {m:Nat->Value} {st:St} {a:Act} (hS:Sim V0 O0 w0 O m st a w):Inv O w:=by
 refine⟨λg j p ht=> ?_,λg n ht=> ?_⟩
 .obtain⟨h1,v,h2,h3⟩:=hS.inv.1 g j p ht;have hb:=cell_lt h2;refine⟨?_,v,?_,h3⟩
  .cases h:O g j with
   | none=>rfl
   | some o=>exact absurd h1 (hS.less g j hb (by rw[h];simp))
  .rw[hS.frame.cell hb (λo ho=>by rw[h1]at ho;cases ho)];exact h2
 .obtain⟨c,e,fr,h1,h2⟩:=hS.inv.2 g n ht;have hg:g<w0.heap.size:=(DX.1 h1).1;rcases hS.frame.blk g hg with he | ⟨d,d',e',fr',k1,k2,k3,_⟩ | ⟨es,ck,es',ck',o,k1,_⟩;all_goals simp_all[Own,Inv]
def Moves.AtN {O0 O:Own} {T:Nat->Prop} {w0 w w':World} (h:Moves O0 (λo=>o≠255) w0 w) (h':Moves O T w w') (hO: ∀ b k o,b<w0.heap.size->O b k=some o->o≠255-> ∃ o0,O0 b k=some o0/\o0≠255) (hT: ¬ T 255) :
 Moves O0 (λo=>o≠255) w0 w':=by
 refine⟨h'.os.trans h.os,h'.tape.trans h.tape,h'.output.trans h.output,GK h.size h'.size,λb hb=> ?_⟩;have hb':b<w.heap.size:=EX hb h.size;have up: ∀ k o,O b k=some o->T o-> ∃ o',O0 b k=some o'/\o'≠255:=λk o ho ht=>hO b k o hb ho (λe=>hT (by rw[<- e];exact ht));rcases h'.blk b hb' with he' | ⟨c,c',e,fr,h1,h2,h3,h4,k,o,h5,h6,h7⟩ | ⟨es,ck,es',ck',o,h1,h2,h3,h4⟩
 .rcases h.blk b hb with he | ⟨d,d',e,fr,h1,h2,h3,h4,h5⟩ | ⟨es,ck,es',ck',o,h1,h2,h3,h4⟩
  .exact .inl (he'.trans he)
  .exact .inr (.inl ⟨d,d',e,fr,h1,he'.trans h2,h3,h4,h5⟩)
  .simp_all[Own]
 .obtain⟨o',ho',hne'⟩:=up k o h6 h7;rcases h.blk b hb with he | ⟨d,d',e',fr',g1,g2,g3,g4,g5⟩ | ⟨es,ck,es',ck',o1,g1,g2,g3,g4⟩
  .refine .inr (.inl ⟨c,c',e,fr,he▸h1,h2,h3,λi hi=>h4 i (λo'' ho'' ht=> ?_),k,o',h5,ho',hne'⟩);obtain⟨o3,ho3,hn3⟩:=up i o'' ho'' ht;exact hi o3 ho3 hn3
  .rw[g2]at h1;injection h1 with h1;injection h1 with q1 q2 q3;subst q1;subst q2;subst q3;refine .inr (.inl ⟨d,c',e',fr',g1,h2,h3.trans g3,λi hi=> ?_,k,o',by omega,ho',hne'⟩);rw[h4 i (λo'' ho'' ht=> ?_),g4 i hi];obtain⟨o3,ho3,hn3⟩:=up i o'' ho'' ht;exact hi o3 ho3 hn3
  .simp_all[Own]
 .obtain⟨o',ho',hne'⟩:=up 0 o h3 h4;rcases h.blk b hb with he | ⟨d,d',e',fr',g1,g2,g3,g4,g5⟩ | ⟨es1,ck1,es1',ck1',o1,g1,g2,g3,g4⟩
  .exact .inr (.inr ⟨es,ck,es',ck',o',he▸h1,h2,ho',hne'⟩)
  all_goals simp_all[Own]
def Aes (tmps:List A) (d:Option Tmp) (v:A) (t:Nat) (h:t<tmps.length):(put tmps d v).getD t .undef=if d=some t then v else tmps.getD t .undef:=by
 cases d with
 | none=>simp [put]
 | some d =>
  simp only[put,Dn,Gj];by_cases hd:d=t
  .subst hd;simp [h]
  .simp [hd]
def YG (tmps:List A) (d:Option Tmp) (v:A):(put tmps d v).length=tmps.length:=by cases d<;>simp [put]
def UY (a:Act) (d:Option Tmp) (v:Value) (t:Nat) (h:t<a.tmps.size):(a.put d v).tmps.getD t undef=if d=some t then v else a.tmps.getD t undef:=by
 cases d with
 | none=>simp [Act.put]
 | some d =>
  simp only[Act.put,Dv,Fa];by_cases hd:d=t
  .subst hd;simp [h]
  .simp [hd]
def UZ (a:Act) (d:Option Tmp) (v:Value):(a.put d v).tmps.size=a.tmps.size:=by cases d<;>simp [Act.put]
def AiZ (a:Act) (d:Option Tmp) (v:Value):(a.put d v).defers=a.defers:=by cases d<;>rfl
def jX {st:St} {t n:Nat} (ht:t<st.tmps.length) (h:n∈(st.tmps.getD t .undef).ids):n∈st.ids:=DJ _ (Uy ht h)
def Adx {l:List (Nat×Obj)} {o:Nat} {x:Obj} (h:J3 l o=some x):(o,x)∈l:=by
 induction l with
 | nil=>cases h
 | cons p r ih=>grind[Ol]
def Y6 {st:St} {o n:Nat} {x:Obj} (ho:J3 st.Jr o=some x) (h:n∈x.ids):n∈st.ids :=
 DF _ (Eg.2 ⟨(o,x),Adx ho,h⟩)
structure Qk (st:St) (n:Nat):Prop where
 ids:n∉st.ids
 Jr:J3 st.Jr n=none
 ne:n≠255
 root:YO n=false
def Qk.both {st:St} {n:Nat} (h:Qk st n):n∉st.ids/\YO n=false:=⟨h.ids,h.root⟩
def NQ {st:St} {n:Nat} (h:st.fresh n=true):Qk st n:=by
 unfold St.fresh at h;simp only[Dw,EH,Option.isNone_iff_eq_none]at h;refine⟨λhm=> ?_,h.1.1.2,λe=> ?_,h.2⟩
 .have:has st.ids n=true:=FZ.2 ⟨n,hm,by simp⟩;rw[this]at h;cases h.1.1.1
 .simp_all
def Sim.next {V0:Nat->Value} {O0 O O':Own} {w0 w w':World} {m m':Nat->Value} {st st':St} {a:Act} {T Nw:Nat->Prop} {d:Option Tmp} {v:Value} {x:A}
 (hS:Sim V0 O0 w0 O m st a w) (hM:Moves O T w w') (hP:Passes O O' T w.heap.size) (hO: ∀ b k,b<w.heap.size->O' b k≠none->O b k≠none)
 (hE:TC st.Jr m st'.Jr m' Nw) (hN: ∀ n,Nw n->n∉st.ids/\YO n=false)
 (hT: ∀ o,T o->(J3 st.Jr o).isSome)
 (hobj: ∀ o y,J3 st'.Jr o=some y->(¬ T o/\J3 st.Jr o=some y/\m' o=m o)\/(Lm O' st'.Jr m' w' o y/\o≠255))
 (ht:st'.tmps=put st.tmps d x) (hx:d≠none->JC O' st'.Jr m' w' v x):Sim V0 O0 w0 O' m' st' (a.put d v) w':=by
 have hpr:=hM.Kr hP;have hT255: ¬ T 255:=λh=>by obtain⟨x,hx⟩:=EG.1 (hT 255 h);exact hS.ids 255 x hx rfl
 refine⟨by rw[AiZ];exact hS.defers,by rw[UZ,ht,YG];exact hS.size,λt htl=> ?_,λo y ho=> ?_,hS.frame.AtN hM hS.own hT255,λb k q hb h hne=> ?_,λo y ho=> ?_,λb k hb h=>hS.less b k hb (hO b k (EX hb hS.frame.size) h),λo hr ho=> ?_,λb k hb h=>hP.keep b k 255 (EX hb hS.frame.size) (hS.WS b k hb h) hT255,hS.inv⟩
 .rw[ht,YG]at htl;rw[ht,Aes _ _ _ _ htl,UY _ _ _ _ (by rw[hS.size];exact htl)];by_cases hd:d=some t
  .rw[Du hd,Du hd];exact hx (by rw[hd];simp)
  .rw[Dt hd,Dt hd];exact(hS.tmps t htl).step hpr hE (λi hi hn=>(hN i hn).1 (jX htl hi))
 .rcases hobj o y ho with ⟨h1,h2,h3⟩ | h
  .exact(hS.Jr o y h2).step hM hP hE h1 h3 (λi hi hn=>(hN i hn).1 (Y6 h2 hi))
  .exact h.1
 .have hb':=EX hb hS.frame.size;cases hq:O b k with
  | none=>exact absurd hq (hO b k hb' (by rw[h];simp))
  | some r =>
   by_cases hr:r=255
   .subst hr;have:=hP.keep b k 255 hb' hq hT255;rw[h]at this;injection this with this;exact absurd this hne
   .exact hS.own b k r hb hq hr
 .rcases hobj o y ho with ⟨_,h2,_⟩ | h
  .exact hS.ids o y h2
  .exact h.2
 .obtain⟨y,hy⟩:=EG.1 ho;rcases hE o y hy with h | ⟨x,h1,_,h3⟩
  .rw[(hN o h).2]at hr;cases hr
  .rw[h3];exact hS.root o hr (by rw[h1];rfl)
theorem Sim.put {V0:Nat->Value} {O0 O:Own} {w0 w:World} {m:Nat->Value} {st:St} {a:Act} (hS:Sim V0 O0 w0 O m st a w) (d:Option Tmp) {v:Value} {x:A} (hx:JC O st.Jr m w v x) :
 Sim V0 O0 w0 O m {st with tmps:=Vm.put st.tmps d x} (a.put d v) w :=
 hS.next (st':= {st with tmps:=Vm.put st.tmps d x}) (T:=λ_=>False) (Nw:=λ_=>False) (Moves.refl O _ w) ⟨λ_ _ _ h=>h,λ_ _ _ _ h _=>h⟩ (λ_ _ _ h=>h) (λ_ y ho=>.inr ⟨y,ho,rfl,rfl⟩) (λ_ h=>h.elim) (λ_ h=>h.elim)
  (λ_ _ ho=>.inl ⟨id,ho,rfl⟩) rfl (λ_=>hx)
def Good (P:Program) (V0:Nat->Value) (O0:Own) (w0:World) (st':St) (o:Oper) (a:Act) (w:World):Prop :=
 ∀(next:Act->World->Prop) (Q:Exit->Act->World->Prop),(∀ O' m' a' w',Sim V0 O0 w0 O' m' st' a' w'->next a' w')->o.wp P a w next Q
def Pure.good {P:Program} {V0:Nat->Value} {O0 O:Own} {w0 w:World} {m:Nat->Value} {st:St} {a:Act} {o:Oper} {δ :Dl} (hS:Sim V0 O0 w0 O m st a w) (h:Pure P O st.Jr m a w o δ):Good P V0 O0 w0 (apply st o δ) o a w:=by
 intro next Q hn
 obtain⟨v,hr,hx⟩:=h.run;unfold Oper.wp;rw[hr,Oper.upon_value];refine hn O m _ _ ?_;have:apply st o δ = {st with tmps:=put st.tmps o.dst δ.val}:=by unfold apply;rw[h.new,h.upd,h.del];rfl
 rw[this];exact hS.put o.dst hx
def jM {V0:Nat->Value} {O0 O:Own} {w0 w:World} {m:Nat->Value} {st:St} {a:Act} (hS:Sim V0 O0 w0 O m st a w) (x:Operand):JC O st.Jr m w (a.eval x) (KZ st.tmps x):=by
 have cell: ∀ v:Value,JC O st.Jr m w v (OY v)/\(v.oneCell'=true->JG O st.Jr m w v (OY v)):=by
  intro v;unfold OY;split
  .exact⟨.Rj _,λ_=>J5.bool _⟩
  .exact⟨.mkInt _ _,λ_=>J5.int _ _⟩
  .exact⟨.mkStr _ rfl,λ_=>J5.str _⟩
  .exact⟨rfl,λ_=>rfl⟩
  .exact⟨J5.Mc,λ_=>J5.Mc⟩
  .exact⟨J5.vM,λ_=>J5.vM⟩
  .exact⟨trivial,λh=>h⟩
 cases x with
 | tmp t =>
  by_cases ht:t<st.tmps.length
  .exact hS.tmps t ht
  .have:KZ st.tmps (.tmp t)= .undef:=by
    simp [KZ,Dn,Ed (Nat.le_of_not_lt ht)]
   rw[this];trivial
 | const v =>
  show JC O st.Jr m w v (ofConst v);unfold ofConst;split
  .rename_i vs;cases hall:vs.toList.all Value.oneCell' with
   | false=>trivial
   | true =>
    rw[DI]at hall;refine⟨vs,rfl,by simp,λj hj=> ?_⟩;have hj':j<vs.size:=by simpa using hj
    have e1:vs.getD j undef=vs[j]:=by rw[Dv,En hj'];rfl
    have e2:(vs.toList.map OY).getD j .undef=OY vs[j]:=by simp [Dn,hj']
    rw[e1,e2];exact(cell _).2 (hall _ (by simp))
  .exact(cell v).1
 | global g =>
  show JC O st.Jr m w (.pointer (some ⟨g,0,none⟩)) (AvH (Ae7 g));cases hg:Ae7 g with
  | none=>trivial
  | some q =>
   obtain⟨k,ns⟩:=q;refine⟨g,0,rfl,λj hj=> ?_⟩;have hj:j<ns.length:=by simpa using hj
   obtain⟨h1,v,h2,h3⟩:=hS.Af0.1 g j _ (by rw[Axs hg];exact Du hj);rw[DV];refine⟨h1,v,h2,?_⟩;have e:(ns.map (A.int k)).getD j .undef= .int k (ns.getD j 0):=by simp [Dn,hj]
   rw[e,h3];exact .int _ _
 | func f=>exact J5.fn f
def Moves.push {O:Own} {T:Nat->Prop} {w:World} (x:Go.Obj):Moves O T w (w.alloc x) :=
 ⟨rfl,rfl,rfl,by show _<=(w.heap.push x).size;simp,λb hb=>.inl (heap_alloc_old w x hb)⟩
def AdP (w:World) (x:Go.Obj):(w.alloc x).heap[w.heap.size]? =some x:=by show(w.heap.push x)[_]? =_;simp
def Moves.drew (O:Own) (T:Nat->Prop) (w:World):Moves O T w w.drew:=⟨rfl,rfl,rfl,DD _,λ_ _=>.inl rfl⟩
def Moves.then {O:Own} {T:Nat->Prop} {w w' w'':World} (h:Moves O T w w') (h':Moves O T w' w''):Moves O T w w'':=by
 refine⟨h'.os.trans h.os,h'.tape.trans h.tape,h'.output.trans h.output,GK h.size h'.size,λb hb=> ?_⟩;have hb':b<w'.heap.size:=EX hb h.size;rcases h'.blk b hb' with he' | ⟨c,c',e,fr,h1,h2,h3,h4,h5⟩ | ⟨es,ck,es',ck',o,h1,h2,h3,h4⟩
 .rcases h.blk b hb with he | ⟨d,d',e,fr,h1,h2,h3,h4,h5⟩ | ⟨es,ck,es',ck',o,h1,h2,h3,h4⟩
  .exact .inl (he'.trans he)
  .exact .inr (.inl ⟨d,d',e,fr,h1,he'.trans h2,h3,h4,h5⟩)
  .simp_all[Own]
 .rcases h.blk b hb with he | ⟨d,d',e',fr',g1,g2,g3,g4,g5⟩ | ⟨es,ck,es',ck',o,g1,g2,g3,g4⟩
  .exact .inr (.inl ⟨c,c',e,fr,he▸h1,h2,h3,h4,h5⟩)
  .rw[g2]at h1;injection h1 with h1;injection h1 with q1 q2 q3;subst q1;subst q2;subst q3;exact .inr (.inl ⟨d,c',e',fr',g1,h2,h3.trans g3,λi hi=>by rw[h4 i hi,g4 i hi],g5⟩)
  .simp_all[Own]
 .rcases h.blk b hb with he | ⟨d,d',e',fr',g1,g2,g3,g4,g5⟩ | ⟨es1,ck1,es1',ck1',o1,g1,g2,g3,g4⟩
  .exact .inr (.inr ⟨es,ck,es',ck',o,he▸h1,h2,h3,h4⟩)
  all_goals simp_all[Own]
def Moves.row {O:Own} {T:Nat->Prop} {w w':World} {g:Nat} {c c':Array Value} {e:TypeId} {fr:Nat×Nat} (hos:w'.os=w.os) (ht:w'.tape=w.tape) (hout:w'.output=w.output) (hs:w'.heap.size=w.heap.size)
 (hg:w.heap[g]? =some (.cells c e fr)) (hg':w'.heap[g]? =some (.cells c' e fr)) (hoth: ∀ b,b≠g->w'.heap[b]? =w.heap[b]?) (hsz:c'.size=c.size) (hk: ∀ k,(∀ o,O g k=some o-> ¬ T o)->c'[k]? =c[k]?)
 (hex:(∃ k o,k<c.size/\O g k=some o/\T o)\/c'=c):Moves O T w w':=by
 refine⟨hos,ht,hout,by omega,λb _=> ?_⟩;by_cases hb:b=g
 .subst hb;rcases hex with hex | hex
  .exact .inr (.inl ⟨c,c',e,fr,hg,hg',hsz,hk,hex⟩)
  .subst hex;exact .inl (hg'.trans hg.symm)
 .exact .inl (hoth b hb)
def Moves.map {O:Own} {T:Nat->Prop} {w w':World} {r:Nat} {es es':Array MapEntry} {ck ck':Nat} (hos:w'.os=w.os) (ht:w'.tape=w.tape) (hout:w'.output=w.output) (hs:w'.heap.size=w.heap.size)
 (hg:w.heap[r]? =some (.map es ck)) (hg':w'.heap[r]? =some (.map es' ck')) (hoth: ∀ b,b≠r->w'.heap[b]? =w.heap[b]?) {o:Nat} (ho:O r 0=some o) (hT:T o):Moves O T w w':=by
 refine⟨hos,ht,hout,by omega,λb _=> ?_⟩;by_cases hb:b=r
 .simp_all[Own,hs]
 .exact .inl (hoth b hb)
def AmY (w:World) (b k:Nat) (v:Value) {c:Array Value} {e:TypeId} {fr:Nat×Nat} (hg:w.heap[b]? =some (.cells c e fr)) :
 (w.setCell (at' b k) v).heap[b]? =some (.cells (c.setIfInBounds k v) e fr)/\(∀ b',b'≠b->(w.setCell (at' b k) v).heap[b']? =w.heap[b']?)/\(w.setCell (at' b k) v).heap.size=w.heap.size:=by
 refine⟨?_,λb' hb=> ?_,by simp [World.setCell]⟩
 .simp [World.setCell,IB,hg]
 .simp only[World.setCell,IB];rw[Dt (λh=>hb h.symm)]
def dV (b:Nat): ∀(vs:List Value) (k:Nat) (w:World) {c:Array Value} {e:TypeId} {fr:Nat×Nat},w.heap[b]? =some (.cells c e fr)->k+vs.length<=c.size ->
 ∃ c',(w.setCells b k vs).heap[b]? =some (.cells c' e fr)/\c'.size=c.size/\(∀ i,c'.getD i undef=if k<=i/\i<k+vs.length then vs.getD (i - k) undef else c.getD i undef) /\
  (∀ b',b'≠b->(w.setCells b k vs).heap[b']? =w.heap[b']?)/\(w.setCells b k vs).heap.size=w.heap.size/\(w.setCells b k vs).os=w.os/\(w.setCells b k vs).tape=w.tape/\(w.setCells b k vs).output=w.output:=by
 intro vs
 induction vs with
 | nil=>intro k w c e fr hg _;exact⟨c,hg,rfl,λi=>by rw[Dt (by simp)],λ_ _=>rfl,rfl,rfl,rfl,rfl⟩
 | cons v vs ih =>
  intro k w c e fr hg hle;simp only[List.length_cons]at hle;obtain⟨h1,h2,h3⟩:=AmY w b k v hg;obtain⟨c',h4,h5,h6,h7,h8,h9,h10,h11⟩:=ih (k+1) (w.setCell (at' b k) v) h1 (by simp;omega);refine⟨c',h4,by rw[h5];simp,λi=> ?_,λb' hb=>(h7 b' hb).trans (h2 b' hb),h8.trans h3,h9,h10,h11⟩;rw[h6 i];simp only[List.length_cons];by_cases hi:k+1<=i/\i<k+1+vs.length
  .rw[Du hi,A0h,show i - k=(i - (k+1))+1 from by omega];rfl
  .rw[Dt hi];by_cases hk:i=k
   .subst hk;rw[A0h,Dv,Fa,Du rfl,A0h];simp
   .rw[A0g,Dv,Fa,A0g,<- Dv]
def fC: ∀(ks:List CK) (cs:List A) (id:Nat),(Ll id ks cs).1.length=cs.length /\
 (∀ j,j<cs.length->(Ll id ks cs).1.getD j .undef=cs.getD j .undef\/(cs.getD j .undef= .Lt/\(Ll id ks cs).1.getD j .undef= .own (id+j)/\ ∃ e sz,(id+j,Obj.arr e false ⟨sz,[]⟩)∈(Ll id ks cs).2)) /\
 (∀ p∈(Ll id ks cs).2,(∃ e sz,p.2= .arr e false ⟨sz,[]⟩)/\ ∃ j,j<cs.length/\p.1=id+j):=by
 intro ks
 induction ks with
 | nil=>grind[Ll]
 | cons k ks ih =>
  intro cs id;cases cs with
  | nil=>grind[Ll]
  | cons c cs =>
   obtain⟨h1,h2,h3⟩:=ih cs (id+1)
   have other:Ll id (k::ks) (c::cs)=(c::(Ll (id+1) ks cs).1,(Ll (id+1) ks cs).2) ->
    (Ll id (k::ks) (c::cs)).1.length=(c::cs).length /\
    (∀ j,j<(c::cs).length->(Ll id (k::ks) (c::cs)).1.getD j .undef=(c::cs).getD j .undef\/((c::cs).getD j .undef= .Lt/\(Ll id (k::ks) (c::cs)).1.getD j .undef= .own (id+j)/\ ∃ e sz,(id+j,Obj.arr e false ⟨sz,[]⟩)∈(Ll id (k::ks) (c::cs)).2)) /\
    (∀ p∈(Ll id (k::ks) (c::cs)).2,(∃ e sz,p.2= .arr e false ⟨sz,[]⟩)/\ ∃ j,j<(c::cs).length/\p.1=id+j):=by
    intro he;rw[he];refine⟨by simp [h1],λj hj=> ?_,λp hp=> ?_⟩
    .cases j with
     | zero=>exact .inl rfl
     | succ j=>grind[CK,Ll]
    .obtain⟨ha,j,hj,hb⟩:=h3 p hp;exact⟨ha,j+1,by simpa using hj,by omega⟩
   by_cases hc:c= .Lt/\ ∃ e sz,k= .sl e sz
   .obtain⟨hc,e,sz,hk⟩:=hc;subst hc;subst hk;have he:Ll id (.sl e sz::ks) (.Lt::cs)=(.own id::(Ll (id+1) ks cs).1,(id,.arr e false ⟨sz,[]⟩)::(Ll (id+1) ks cs).2):=rfl;rw[he];refine⟨by simp [h1],λj hj=> ?_,λp hp=> ?_⟩
    .cases j with
     | zero=>grind[CK,Ll]
     | succ j=>grind[CK,Ll]
    .rcases D7.1 hp with rfl | hp
     .grind[CK,Ll]
     .obtain⟨ha,j,hj,hb⟩:=h3 p hp;exact⟨ha,j+1,by simpa using hj,by omega⟩
   .refine other ?_;cases k<;>cases c<;>first | rfl | exact absurd ⟨rfl,_,_,rfl⟩ hc
def NF {l:List Nat} {n:Nat}:has l n=true↔n∈l:=by simp_all[has]
def AqK: ∀ {l:List (Nat×Obj)},nodup (l.map (·.1))=true-> ∀ {n x y},(n,x)∈l->(n,y)∈l->x=y:=by
 intro l
 induction l with
 | nil=>intro _ n x y h;cases h
 | cons p l ih =>
  intro h n x y hx hy;simp only[Em,nodup,Dw,EH]at h;have hno: ∀ z,(p.1,z)∉l:=by intro z hz;have:has (l.map (·.1)) p.1=true:=NF.2 (DK.2 ⟨_,hz,rfl⟩);rw[this]at h;cases h.1
  all_goals grind[Obj,nodup]
def Ye {Jr:List (Nat×Obj)} {upd new:List (Nat×Obj)} {del:List Nat} {o:Nat} {x:Obj} (h:J3 (JH (KC (JH Jr upd) del) new) o=some x) :
 (o,x)∈new\/((∀ y,(o,y)∉new)/\o∉del/\((o,x)∈upd\/((∀ y,(o,y)∉upd)/\J3 Jr o=some x))):=by
 by_cases hn: ∃ p∈new,p.1=o
 .obtain⟨y,hy,he⟩:=OA new (KC (JH Jr upd) del) o hn;rw[he]at h;injection h with h;subst h;exact .inl hy
 .have hn': ∀ y,(o,y)∉new:=λy hy=>hn ⟨_,hy,rfl⟩;rw[Nl _ _ _ (λp hp e=>hn ⟨p,hp,e⟩),Va]at h;by_cases hd:o∈del
  .rw[Du hd]at h;cases h
  .rw[Dt hd]at h;refine .inr ⟨hn',hd,?_⟩;by_cases hu: ∃ p∈upd,p.1=o
   .obtain⟨y,hy,he⟩:=OA upd Jr o hu;rw[he]at h;injection h with h;subst h;exact .inl hy
   .grind[Nl]
def sQ {Jr:List (Nat×Obj)} {upd new:List (Nat×Obj)} {del:List Nat} (hnd:nodup (new.map (·.1))=true) {o:Nat} {x:Obj} (h:(o,x)∈new):J3 (JH (KC (JH Jr upd) del) new) o=some x:=by obtain⟨y,hy,he⟩:=OA new (KC (JH Jr upd) del) o ⟨_,h,rfl⟩;rw[he,AqK hnd h hy]
section
variable {P:Program} {C:Ctx} {V0:Nat->Value} {O0 O:Own} {w0 w:World} {m:Nat->Value} {st:St} {a:Act} {o:Oper}
def JG.Lt {Jr:List (Nat×Obj)} {v:Value} (h:JG O Jr m w v .Lt):v= .slice none 0 0:=h
def RZ.Ao5 {O':Own} {w':World} {objs':List (Nat×Obj)} {m':Nat->Value} {vs:Array Value} {cs:List A} {ks:List CK} {id:Nat} {Nw:Nat->Prop} (h:RZ O st.Jr m w vs cs) (hp:Nz O w O' w') (hE:TC st.Jr m objs' m' Nw)
 (hN: ∀ j,j<cs.length-> ∀ i∈(cs.getD j .undef).Nu,¬ Nw i) (hnew: ∀ p∈(Ll id ks cs).2,J3 objs' p.1=some p.2/\m' p.1= .slice none 0 0):RZ O' objs' m' w' vs (Ll id ks cs).1:=by
 obtain⟨h1,h2,_⟩:=fC ks cs id;refine⟨by rw[h1];exact h.1,λj hj=> ?_⟩;rw[h1]at hj;rcases h2 j hj with he | ⟨hn,he,e,sz,hm⟩
 .rw[he];exact(h.2 j hj).step hp hE (hN j hj)
 .have:=h.2 j hj;rw[hn]at this;have hv:=this.Lt;rw[he,hv];obtain⟨g1,g2⟩:=hnew _ hm;dsimp only at g1 g2;refine⟨rfl,?_⟩;rw[g1];exact g2.symm
theorem zT {x:A} (hv:x.isVal=true) {j:Nat} (hj:j<x.cells.length) {i:Nat} (hi:i∈(x.cells.getD j .undef).Nu):i∈x.ids:=by
 cases x with
 | agg cs=>exact Uy (f:=A.Nu) hj hi
 | undef=>cases hv
 | tup _=>cases hv
 | usl _ _ _=>cases hv
 | ump _=>cases hv
 | box _=>cases hv
 | cbx _ _=>cases hv
 | cnd _ _=>cases hv
 | _ =>
  have:j=0:=by simpa [A.cells]using hj
  subst this;exact hi
def Aig {vs:Array Value} {cs:List A} {ks:List CK} {t:Nat} {r:Value} {y:A} {okl:List Bool} (hS:Sim V0 O0 w0 O m st a w) (hcs:RZ O st.Jr m w vs cs) (hids: ∀ j,j<cs.length-> ∀ i∈(cs.getD j .undef).Nu,i∈st.ids\/(J3 st.Jr i).isSome) {d:Nat} (hd:o.dst=some d)
 (hr:(execOp a.eval o).run P w= .ok (.value r) (w.alloc (.cells vs t)))
 (hy: ∀(O':Own) (objs':List (Nat×Obj)) (m':Nat->Value) (w':World) (c:List A),J3 objs' (b2 d)=some (.box c)->m' (b2 d)= .pointer (some (at' w.heap.size 0))->JC O' objs' m' w' r y)
 (hfr: ∀ p∈(b2 d,Obj.box (Ll (b2 d+1) ks cs).1)::(Ll (b2 d+1) ks cs).2,st.fresh p.1=true) (hnd:nodup (((b2 d,Obj.box (Ll (b2 d+1) ks cs).1)::(Ll (b2 d+1) ks cs).2).map (·.1))=true) :
 Good P V0 O0 w0 (apply st o {ok:=okl,val:=y,new:=(b2 d,.box (Ll (b2 d+1) ks cs).1)::(Ll (b2 d+1) ks cs).2}) o a w:=by
 intro next Q hn
 unfold Oper.wp;rw[hr,Oper.upon_value];let ad:=Ll (b2 d+1) ks cs;let m':Nat->Value:=λi=>if i=b2 d then .pointer (some (at' w.heap.size 0))else if has (ad.2.map (·.1)) i then .slice none 0 0 else m i;let O':Own:=λb k=>if b=w.heap.size then some (b2 d)else O b k;let Nw:Nat->Prop:=λi=> ∃ p∈((b2 d,Obj.box ad.1)::ad.2),p.1=i;have hNw: ∀ i,Nw i->Qk st i:=by rintro i ⟨p,hp,rfl⟩;exact NQ (hfr p hp)
 refine hn O' m' _ _ ?_;have hobjs:(apply st o {ok:=okl,val:=y,new:=(b2 d,.box ad.1)::ad.2}).Jr=JH (KC (JH st.Jr []) []) ((b2 d,.box ad.1)::ad.2):=rfl;have hnewO: ∀ p∈((b2 d,Obj.box ad.1)::ad.2),J3 (JH (KC (JH st.Jr []) []) ((b2 d,.box ad.1)::ad.2)) p.1=some p.2:=λp hp=>sQ hnd (by exact hp);have hb2:has (ad.2.map (·.1)) (b2 d)=false:=by simp only[Em,nodup,Dw,EH]at hnd;exact hnd.1
 have hmad: ∀ p∈ad.2,m' p.1= .slice none 0 0:=by
  intro p hp;have h3:has (ad.2.map (·.1)) p.1=true:=NF.2 (DK.2 ⟨p,hp,rfl⟩);have h4:p.1≠b2 d:=λe=>by rw[e,hb2]at h3;cases h3
  show(if p.1=b2 d then _ else _)=_;rw[Dt h4,Du h3]
 have hE:TC st.Jr m (JH (KC (JH st.Jr []) []) ((b2 d,.box ad.1)::ad.2)) m' Nw:=by
  intro i y hy;rcases Ye hy with hy' | ⟨hno,_,hy' | ⟨_,hy'⟩⟩
  .exact .inl ⟨_,hy',rfl⟩
  .cases hy'
  .refine .inr ⟨y,hy',rfl,?_⟩;have h3:i≠b2 d:=λe=>hno (.box ad.1) (by rw[e];exact Dy)
   have h4:has (ad.2.map (·.1)) i=false:=by
    cases hh:has (ad.2.map (·.1)) i with
    | false=>rfl
    | true =>obtain⟨p,hp,hpe⟩:=DK.1 (NF.1 hh);exact absurd (Dz _ (by rw[<- hpe];exact hp)) (hno p.2)
   show(if i=b2 d then _ else _)=_;rw[Dt h3,h4];rfl
 have hM:Moves O (λ_=>False) w (w.alloc (.cells vs t)):=Moves.push _;have hP:Passes O O' (λ_=>False) w.heap.size:=⟨λb k hb h=>by show(if b=_ then _ else _)=_;rw[Dt (Il hb)];exact h,λb k q hb h _=>by show(if b=_ then _ else _)=_;rw[Dt (Il hb)];exact h⟩
 have hpr:=hM.Kr hP;have hnewblk: ∀ k,(w.alloc (.cells vs t)).cell? (at' w.heap.size k)=vs[k]? :=by intro k;exact World.cell?_alloc_at vs t _ _ rfl
 refine hS.next (T:=λ_=>False) (Nw:=Nw) hM hP (λb k hb h=> ?_) hE (λn hn'=>(hNw n hn').both) (λ_ h=>h.elim) (λq y hy=> ?_) rfl (λ_=> ?_)
 .have:O' b k=O b k:=Dt (Il hb);rw[this]at h;exact h
 .rcases Ye hy with hy' | ⟨hno,_,hy' | ⟨_,hy'⟩⟩
  .right;rcases D7.1 hy' with e | hy'
   .injection e with e1 e2;subst e1;subst e2;refine⟨⟨w.heap.size,0,Du rfl,λj hj=> ?_⟩,(hNw _ ⟨_,Dy,rfl⟩).ne⟩
    have hcs':RZ O' _ m' _ vs ad.1:=hcs.Ao5 (ks:=ks) (id:=b2 d+1) hpr hE (λj hj i hi hn'=>by
     rcases hids j hj i hi with hh | hh
     .exact(hNw i hn').1 hh
     .rw[(hNw i hn').2]at hh;cases hh) (λp hp=>⟨hnewO p (Dz _ hp),hmad p hp⟩)
    have hjs:j<vs.size:=by rw[hcs'.1];exact hj
    refine⟨Du rfl,by simp only[World.frozen?,AdP];simp,vs.getD j undef,?_,hcs'.2 j hj⟩;rw[hnewblk];simp only[DV];exact getD_eq hjs
   .obtain⟨⟨e,sz,h3⟩,_⟩:=(fC ks cs (b2 d+1)).2.2 _ hy';dsimp only at h3;subst h3;exact⟨⟨by simp [Sl.es],.inl ⟨trivial,rfl,hmad _ hy'⟩⟩,(hNw _ ⟨_,Dz _ hy',rfl⟩).ne⟩
  .cases hy'
  .left;refine⟨id,hy',?_⟩;rcases hE q y hy with hn' | ⟨_,h3,_,h4⟩
   .rw[(hNw q hn').2]at hy';cases hy'
   .exact h4
 .exact hy _ _ _ _ _ (hnewO (b2 d,.box ad.1) Dy) (Du rfl)
def AkX {t:Nat} {v:Value} {x:A} (hC:TOk P C) (hS:Sim V0 O0 w0 O m st a w) (hx:JC O st.Jr m w v x) (hids: ∀ i∈x.ids,i∈st.ids\/(J3 st.Jr i).isSome) {d:Nat} (hd:o.dst=some d)
 (hrun: ∀ ti,C.T t=some ti->x.isVal=true->v.cells.size=ti.cs.length->(execOp a.eval o).run P w= .ok (.value (.pointer (some (at' w.heap.size 0)))) (w.alloc (.cells v.cells t)))
 (hok:J6 (X3 C d t x).ok) (hfr: ∀ p∈(X3 C d t x).new,st.fresh p.1=true) (hnd:nodup ((X3 C d t x).new.map (·.1))=true):Good P V0 O0 w0 (apply st o (X3 C d t x)) o a w:=by
 unfold X3 at *
 obtain⟨ti,ht,he⟩:=KF hok;rw[he]at hok hfr hnd ⊢;clear he;obtain⟨h1,h2⟩:=hok.cons;have h2:=Dx h2.cons.1;have hcs:=hx.cells h1;refine Aig (ks:=adK C d ti) hS hcs (λj hj i hi=>hids i (zT h1 hj hi)) hd (hrun ti ht h1 (by rw[hcs.1,h2])) (λO' objs' m' w' c hc hm=> ?_) hfr hnd;show JG O' objs' m' w' _ (.ptr (b2 d) 0);refine⟨rfl,?_⟩;rw[hc];exact⟨w.heap.size,0,hm,rfl⟩
end
open Classical
section
variable {P:Program} {C:Ctx} {V0:Nat->Value} {O0 O:Own} {w0 w:World} {m:Nat->Value} {st:St} {a:Act} {o:Oper}
def Sim.qO (hS:Sim V0 O0 w0 O m st a w) {q e:Nat} {f:Bool} {l:Sl} (hq:J3 st.Jr q=some (.arr e f l)) :
 ∃ O',Sim V0 O0 w0 O' m {st with Jr:=Ns st.Jr q (.arr e true l)} a w/\Nz O w O' w/\(∀ b k,O' b k≠none->O b k≠none)/\J5 O' w (m q) (.sl l)/\ ∀ b k r,O b k=some r->r≠q->O' b k=some r:=by
 obtain⟨hsz,hr⟩:=hS.Jr q _ hq;let O':Own:=λb k=>if(∃ n cap,m q= .slice (some (at' b 0)) n cap)/\k<l.es.length*l.sz then none else O b k;have hno: ∀ b k,O b k=none->O' b k=none:=by intro b k h;show(if _ then _ else _)=_;split;rfl;exact h
 have hle: ∀ b k,O' b k≠none->O b k≠none:=by intro b k h h';exact h (hno b k h')
 have hkeep: ∀ b k r,O b k=some r->r≠q->O' b k=some r:=by
  intro b k r h hne;show(if _ then _ else _)=_;rw[Dt ?_]
  .exact h
  .rintro ⟨⟨n,cap,hm⟩,hk⟩;rcases hr with ⟨_,h2,_⟩ | ⟨_,g,cap',cur,h1,_,_,_,_,_,_,h8⟩;all_goals simp_all[J3,Ns,Nz,J5]
 have hp:Nz O w O' w:=λb k u h hc=>⟨hno b k h,hc⟩
 have hE:TC st.Jr m (Ns st.Jr q (.arr e true l)) m (λ_=>False):=by
  intro r y hy;rw[KO]at hy;by_cases hrq:r=q
  .subst hrq;rw[Du rfl]at hy;injection hy with hy;subst hy;exact .inr ⟨_,hq,rfl,rfl⟩
  .rw[Dt hrq]at hy;exact .inr ⟨y,hy,rfl,rfl⟩
 have hO:Lm O' (Ns st.Jr q (.arr e true l)) m w q (.arr e true l):=by
  refine⟨hsz,?_⟩;rcases hr with h | ⟨h1,g,cap,cur,h2,h3,h4,h5,h6,h7,h8,h9⟩
  .exact .inl h
  .refine .inr ⟨h1,g,cap,cur,h2,h3,h4,h5,h6,λi j hi hj=> ?_,λk hk hge=> ?_,λk hk=> ?_⟩
   .obtain⟨u,h10,h11⟩:=h7 i j hi hj;exact⟨u,h10,h11.Kr hp⟩
   .show(if _ then _ else _)=_;rw[Dt (by rintro ⟨_,h⟩;omega)];exact h8 k hk hge
   .show(if _ then _ else _)=_;rw[Du ⟨⟨_,_,h2⟩,hk⟩];rfl
 refine⟨O',⟨hS.defers,hS.size,λt ht=>(hS.tmps t ht).step hp hE (λ_ _ h=>h),λr y hy=> ?_,hS.frame,λb k r hb h hne=> ?_,λr y hy=> ?_,λb k hb h=>hS.less b k hb (hle b k h),λo hr ho=>hS.root o hr (by dsimp only at ho;rw[KO]at ho;by_cases hq':o=q;(rw [hq',hq];rfl);(rw [Dt hq']at ho;exact ho)),λb k hb h=>hkeep b k 255 (hS.WS b k hb h) (λe=>hS.ids q _ hq e.symm),hS.inv⟩,hp,hle,?_,hkeep⟩
 .have hy':=hy;rw[KO]at hy;by_cases hrq:r=q
  .subst hrq;rw[Du rfl]at hy;injection hy with hy;subst hy;exact hO
  .rw[Dt hrq]at hy;exact(hS.Jr r y hy).step (T:=λi=>i=q) (Moves.refl O _ w) ⟨λb k _ h=>hno b k h,λb k r' _ h hT=>hkeep b k r' h hT⟩ hE hrq rfl (λ_ _ h=>h)
 .have h':(if(∃ n cap,m q= .slice (some (at' b 0)) n cap)/\k<l.es.length*l.sz then none else O b k)=some r:=h;split at h'
  .cases h'
  .exact hS.own b k r hb h' hne
 .rw[KO]at hy;by_cases hrq:r=q
  .rw[hrq];exact hS.ids q _ hq
  .rw[Dt hrq]at hy;exact hS.ids r y hy
 .rcases hr with ⟨h1,h2,h3⟩ | ⟨h1,g,cap,cur,h2,h3,h4,h5,h6,h7,h8,h9⟩
  .rw[h3];exact J5.ofNil h2
  .rw[h2];have hv: ∀ i j,i<l.es.length->j<l.sz-> ∃ u,cur[i*l.sz+j]? =some u/\J5 O w u ((l.es.getD i []).getD j .undef):=h7;refine J5.sl (λi j=>(cur[i*l.sz+j]?).getD undef) h4 (λi j hi hj=> ?_) (λi j hi hj=> ?_)
   .obtain⟨u,h10,_⟩:=hv i j hi hj;refine⟨?_,by rw[DV,h3.cell,h10];rfl⟩;show(if _ then _ else _)=_;rw[Du];refine⟨⟨_,_,h2⟩,?_⟩;have:(i+1)*l.sz<=l.es.length*l.sz:=DY _ hi;rw[Et]at this;omega
   .obtain⟨u,h10,h11⟩:=hv i j hi hj;rw[h10];exact h11.Kr hp
def Lm.frozen {Jr:List (Nat×Obj)} {q e:Nat} {l:Sl} (h:Lm O Jr m w q (.arr e true l)):J5 O w (m q) (.sl l):=by
 rcases h.2 with ⟨h1,h2,h3⟩ | ⟨h1,g,cap,cur,h2,h3,h4,h5,h6,h7,h8,h9⟩
 .rw[h3];exact J5.ofNil h2
 .rw[h2];refine J5.sl (λi j=>(cur[i*l.sz+j]?).getD undef) h4 (λi j hi hj=> ?_) (λi j hi hj=> ?_)
  .obtain⟨u,h10,_⟩:=h7 i j hi hj;have:(i+1)*l.sz<=l.es.length*l.sz:=DY _ hi;rw[Et]at this;refine⟨by have:=h9 (i*l.sz+j) (by omega);simpa using this,by rw[DV,h3.cell,h10];rfl⟩
  .obtain⟨u,h10,h11⟩:=h7 i j hi hj;rw[h10];exact h11
def Frz (Jr:List (Nat×Obj)) (U:List (Nat×Obj)):Prop:= ∀ p∈U,∃ e f l,J3 Jr p.1=some (.arr e f l)/\p.2= .arr e true l
def NR (Jr:List (Nat×Obj)) (q:Nat):Prop:= ∀ e f l,J3 Jr q≠some (.arr e f l)
theorem NR.of {Jr:List (Nat×Obj)} {q:Nat} {x:Obj} (h:J3 Jr q=some x) (hx: ∀ e f l,x≠ .arr e f l):NR Jr q:=by grind[Obj,J3,NR]
def Sim.freezes: ∀(U:List (Nat×Obj)) {O:Own} {st:St},Sim V0 O0 w0 O m st a w->Frz st.Jr U ->
 ∃ O',Sim V0 O0 w0 O' m {st with Jr:=JH st.Jr U} a w/\Nz O w O' w/\(∀ b k,O' b k≠none->O b k≠none)/\(∀ p∈U,∀ e l,p.2= .arr e true l->J5 O' w (m p.1) (.sl l)) /\
  TC st.Jr m (JH st.Jr U) m (λ_=>False)/\ ∀ b k r,O b k=some r->(NR st.Jr r\/U=[])->O' b k=some r:=by
 intro U
 induction U with
 | nil=>intro O st hS _;exact⟨O,hS,λ_ _ _ h hc=>⟨h,hc⟩,λ_ _ h=>h,(λp hp=>by cases hp),(λo y hy=>.inr ⟨y,hy,rfl,rfl⟩),λ_ _ _ h _=>h⟩
 | cons p U ih =>
  intro O st hS hU;obtain⟨q,y⟩:=p;obtain⟨e,f,l,h1,h2⟩:=hU (q,y) Dy;dsimp only at h1 h2;subst h2;obtain⟨O1,hS1,hp1,hle1,hv1,hk1⟩:=hS.qO h1
  obtain⟨O2,hS2,hp2,hle2,hv2,hE2,hk2⟩:=ih hS1 (λp hp=>by
   obtain⟨e',f',l',h3,h4⟩:=hU p (Dz _ hp);by_cases hq:p.1=q
   .refine⟨e',true,l',?_,h4⟩;rw[KO,Du hq];rw[hq,h1]at h3;injection h3 with h3;injection h3 with q1 q2 q3;subst q1;subst q3;rfl
   .exact⟨e',f',l',by rw[KO,Dt hq];exact h3,h4⟩)
  refine⟨O2,hS2,λb k u h hc=>hp2 b k u (hp1 b k u h hc).1 hc,λb k h=>hle1 b k (hle2 b k h),λp hp e' l' he=> ?_,λr y hy=> ?_,λb k r h hb=> ?_⟩
  .rcases D7.1 hp with rfl | hp
   .injection he with q1 _ q3;subst q1;subst q3;exact hv1.Kr hp2
   .exact hv2 p hp _ _ he
  .rcases hE2 r y hy with h | ⟨z,h3,h4,_⟩
   .exact h.elim
   .right;dsimp only at h3;rw[KO]at h3;by_cases hr:r=q
    .subst hr;rw[Du rfl]at h3;injection h3 with h3;subst h3;exact⟨_,h1,h4,rfl⟩
    .rw[Dt hr]at h3;exact⟨z,h3,h4,rfl⟩
  .have hb:=hb.resolve_right (by simp);have hrq:r≠q:=λh=>hb _ _ _ (by rw[h];exact h1);exact hk2 b k r (hk1 b k r h hrq) (.inl λe' f' l'=>by dsimp only;rw[KO,Dt hrq];exact hb e' f' l')
theorem Aej {l:List (Nat×Obj)} {n:Nat} {p:Nat×Obj} (h:p∈TE l n):p∈l:=by
 induction l with
 | nil=>cases h
 | cons q r ih=>grind[zH]
def Amf {l:List (Nat×Obj)} {n:Nat} {y:Obj} {p:Nat×Obj} (h:p∈dE l n y):p=(n,y)\/p∈l:=by
 induction l with
 | nil=>grind[dE]
 | cons q r ih=>grind[dE]
def fV: ∀(u:List (Nat×Obj)) {l:List (Nat×Obj)} {p:Nat×Obj},p∈JH l u->p∈u\/p∈l:=by
 intro u
 induction u with
 | nil=>intro l p h;exact .inr h
 | cons q u ih =>
  intro l p h;obtain⟨n,y⟩:=q;rcases ih h with h | h
  .grind[Obj,JH]
  .rcases Amf h with h | h;all_goals grind[Aej]
def Qk.frz {n:Nat} {U:List (Nat×Obj)} (h:Qk st n) (hU:Frz st.Jr U):Qk {st with Jr:=JH st.Jr U} n:=by
 refine⟨λhm=> ?_,?_,h.ne,h.root⟩
 .rcases DN.1 hm with h1 | h1
  .exact h.1 (DJ _ h1)
  .obtain⟨p,hp,hi⟩:=Eg.1 h1;rcases fV U hp with hp | hp
   .obtain⟨e,f,l,_,h2⟩:=hU p hp;rw[h2]at hi;cases hi
   .exact h.1 (DF _ (Eg.2 ⟨p,hp,hi⟩))
 .rw[Nl _ _ _ (λp hp he=> ?_)]
  .exact h.2
  .obtain⟨e,f,l,h1,_⟩:=hU p hp;rw[he,h.2]at h1;cases h1
def P8 (Jr:List (Nat×Obj)) (fet:Fet):Prop:= ∀ q x,J3 fet q=some x->J3 Jr q=some x
def Am3 {O:Own} {w:World} {k:CK} {v:Value} {l:Sl} (hok:J6 (Ah6 k l).1) (h:J5 O w v (.sl l)):J5 O w v (Ah6 k l).2:=by
 cases k<;>first
  | exact h
  | (have h0:=hok.cons.1
     exact .sln h λhe=>by simp [he]at h0)
def Avt {O:Own} {w:World} {v:Value} {l:Sl} (k:CK) (h:J5 O w v (.sln l)):J5 O w v (Aym k l):=by
 cases k<;>first
  | exact h
  | (cases h with
     | sln h _=>exact h)
def Am4 {fet:Fet} {k:CK} {c:A} {v:Value} (hf:P8 st.Jr fet) (hc:JG O st.Jr m w v c) (hok:J6 (pur fet k c).1) :
 Frz st.Jr (pur fet k c).2.2/\ ∀ {O':Own},Nz O w O' w->(∀ p∈(pur fet k c).2.2,∀ e l,p.2= .arr e true l->J5 O' w (m p.1) (.sl l))->J5 O' w v (pur fet k c).2.1:=by
 have triv:Frz st.Jr []:=λp hp=>by cases hp
 unfold pur at *
 cases c with
 | own q =>
  dsimp only at hok ⊢;cases hg:J3 fet q with
  | none=>simp_all[Fet,CK,P8,JG,J6,pur]
  | some x =>
   cases x with
   | box _=>simp_all[Fet,CK,P8,JG,J6,pur]
   | mp _=>simp_all[Fet,CK,P8,JG,J6,pur]
   | arr e f l =>
    rw[hg]at hok;dsimp only at hok ⊢;have h1:=hf q _ hg;refine⟨λp hp=> ?_,λhp hv=> ?_⟩
    .simp at hp;subst hp;exact⟨e,f,l,h1,rfl⟩
    .have h2:=hc.2;rw[h1]at h2;simp only[Option.map_some,Obj.shp]at h2;rw[h2];exact Am3 hok (hv _ Dy e l rfl)
 | Lt =>
  have hv:=hc.Lt;cases k with
  | sl e sz=>subst hv;exact⟨triv,λ_ _=>.nil _⟩
  | sln e sz=>subst hv;exact⟨triv,λ_ _=>.sln (.nil _) λ_=>rfl⟩
  | _=>have:=hok false (by simp);cases this
 | bool _=>exact⟨triv,λhp _=>J5.Kr hp hc⟩
 | int _ _=>exact⟨triv,λhp _=>J5.Kr hp hc⟩
 | str _=>exact⟨triv,λhp _=>J5.Kr hp hc⟩
 | sl _=>exact⟨triv,λhp _=>Am3 hok (J5.Kr hp hc)⟩
 | sln _=>exact⟨triv,λhp _=>Avt k (J5.Kr hp hc)⟩
 | Mc=>exact⟨triv,λhp _=>J5.Kr hp hc⟩
 | fn _=>exact⟨triv,λhp _=>J5.Kr hp hc⟩
 | _=>have:=hok false (by simp);cases this
def Frz.append {Jr:List (Nat×Obj)} {U V:List (Nat×Obj)} (h:Frz Jr U) (h':Frz Jr V):Frz Jr (U++V):=by grind[Obj,Frz]
def XU {fet:Fet} (hf:P8 st.Jr fet): ∀(ks:List CK) (cs:List A) (f:Nat->Value),(∀ j,j<cs.length->JG O st.Jr m w (f j) (cs.getD j .undef))->J6 (KQ fet ks cs).1 ->
 (KQ fet ks cs).2.1.length=ks.length/\cs.length=ks.length/\Frz st.Jr (KQ fet ks cs).2.2/\ ∀ {O':Own},Nz O w O' w->(∀ p∈(KQ fet ks cs).2.2,∀ e l,p.2= .arr e true l->J5 O' w (m p.1) (.sl l)) ->
   ∀ j,j<ks.length->J5 O' w (f j) ((KQ fet ks cs).2.1.getD j .undef):=by
 intro ks
 induction ks with
 | nil =>
  intro cs f _ hok;cases cs with
  | nil=>simp_all[KQ,Fet,P8,CK,JG,J6,Frz]
  | cons _ _=>have:=hok false (by simp [KQ]);cases this
 | cons k ks ih =>
  intro cs f h hok;cases cs with
  | nil=>have:=hok false (by simp [KQ]);cases this
  | cons c cs =>
   simp only[KQ]at hok ⊢;obtain⟨hok1,hok2⟩:=hok.append;obtain⟨h1,h2⟩:=Am4 hf (h 0 (by simp)) hok1;obtain⟨h3,h4,h5,h6⟩:=ih cs (λj=>f (j+1)) (λj hj=>by simpa using h (j+1) (by simpa using hj)) hok2;refine⟨by simp [h3],by simp [h4],h1.append h5,λhp hv j hj=> ?_⟩;cases j with
   | zero=>exact h2 hp (λp hp=>hv p (DJ _ hp))
   | succ j=>simpa using h6 hp (λp hp=>hv p (DF _ hp)) j (by simpa using hj)
end
section
variable {P:Program} {C:Ctx} {V0:Nat->Value} {O0 O:Own} {w0 w:World} {m:Nat->Value} {st:St} {a:Act} {o:Oper}
def Held (O:Own) (w:World) (cur:Array Value) (sz:Nat) (es:List (List A)):Prop :=
 (∀ x∈es,x.length=sz)/\ ∀ i j,i<es.length->j<sz-> ∃ u,cur[i*sz+j]? =some u/\J5 O w u ((es.getD i []).getD j .undef)
def Adi (hS:Sim V0 O0 w0 O m st a w) {w2:World} (hM:Moves O (λ_=>False) w w2) {d:Tmp} {e cap:Nat} {frz:Bool} {l:Sl} {cur:Array Value} {del:List Nat} (hnew:NM w2 w.heap.size cur e)
 (hcap:l.es.length<=cap) (hmax:cap<=maxLen) (hcur:cur.size=cap*l.sz) (hh:Held O w cur l.sz l.es) (hfresh:Qk st (b2 d)) :
 ∃ O' m',Sim V0 O0 w0 O' m' {tmps:=st.tmps.set d (.own (b2 d)),Jr:=JH (KC st.Jr del) [(b2 d,.arr e frz l)]} (a.put (some d) (.slice (some (at' w.heap.size 0)) l.es.length cap)) w2:=by
 let id:=b2 d;let O':Own:=λb k=>if b=w.heap.size then(if frz=true/\k<l.es.length*l.sz then none else some id)else O b k;let m':Nat->Value:=λi=>if i=id then .slice (some (at' w.heap.size 0)) l.es.length cap else m i;have hlt: ∀ {b k},b<w.heap.size->O' b k=O b k:=λhb=>Dt (Il hb);have hP:Passes O O' (λ_=>False) w.heap.size:=⟨λb k hb h=>by rw[hlt hb];exact h,λb k q hb h _=>by rw[hlt hb];exact h⟩
 have hpr:=hM.Kr hP
 have hget: ∀ i y,J3 (JH (KC st.Jr del) [(id,.arr e frz l)]) i=some y->(i=id/\y= .arr e frz l)\/(i≠id/\J3 st.Jr i=some y):=by
  intro i y hy;simp only[JH]at hy;rw[KO]at hy;by_cases hi:i=id
  .rw[Du hi]at hy;injection hy with hy;exact .inl ⟨hi,hy.symm⟩
  .rw[Dt hi,Va]at hy;split at hy
   .cases hy
   .exact .inr ⟨hi,hy⟩
 have hE:TC st.Jr m (JH (KC st.Jr del) [(id,.arr e frz l)]) m' (λi=>i=id):=by
  intro i y hy;rcases hget i y hy with ⟨h1,_⟩ | ⟨h1,h2⟩
  .exact .inl h1
  .exact .inr ⟨y,h2,rfl,Dt h1⟩
 refine⟨O',m',hS.next (st':= {tmps:=st.tmps.set d (.own (b2 d)),Jr:=JH (KC st.Jr del) [(id,.arr e frz l)]}) (x:=.own id) (T:=λ_=>False) (Nw:=λi=>i=id) hM hP (λb k hb h=>by rw[hlt hb]at h;exact h) hE (λn hn=>by rw[hn];exact hfresh.both) (λ_ h=>h.elim) (λi y hy=> ?_) rfl (λ_=> ?_)⟩
 .rcases hget i y hy with ⟨h1,h2⟩ | ⟨h1,h2⟩
  .right;subst h1;subst h2;refine⟨⟨hh.1,.inr ⟨trivial,w.heap.size,cap,cur,Du rfl,hnew,hcap,hmax,hcur,λi j hi hj=> ?_,λk hk hge=> ?_,λk hk=> ?_⟩⟩,hfresh.ne⟩
   .obtain⟨u,h3,h4⟩:=hh.2 i j hi hj;exact⟨u,h3,h4.Kr hpr⟩
   .show(if _ then(if _ then _ else _)else _)=_;rw[Du rfl,A0g]
   .show(if _ then(if _ then _ else _)else _)=_;rw[Du rfl];cases frz
    .simp
    .simp [hk]
  .exact .inl ⟨λh=>h,h2,Dt h1⟩
 .refine⟨rfl,?_⟩;all_goals grind[J3,JH,KC,KO,Obj.shp]
def YA (hS:Sim V0 O0 w0 O m st a w) {w1:World} (hM1:Moves O (λ_=>False) w w1) (hsz1:w1.heap.size=w.heap.size) {d:Tmp} {e cap:Nat} {frz:Bool} {l:Sl} {cur:Array Value} {del:List Nat}
 (hcap:l.es.length<=cap) (hmax:cap<=maxLen) (hcur:cur.size=cap*l.sz) (hh:Held O w cur l.sz l.es) (hfresh:Qk st (b2 d)) :
 ∃ O' m',Sim V0 O0 w0 O' m' {tmps:=st.tmps.set d (.own (b2 d)),Jr:=JH (KC st.Jr del) [(b2 d,.arr e frz l)]} (a.put (some d) (.slice (some (at' w.heap.size 0)) l.es.length cap)) (w1.alloc (.cells cur e)):=by
 exact Adi hS (hM1.then (by rw[<- hsz1]at *;exact Moves.push _)) ⟨_,by rw[<- hsz1];exact AdP _ _,.inl rfl⟩ hcap hmax hcur hh hfresh
def vK (hS:Sim V0 O0 w0 O m st a w) {d:Tmp} {e:Nat} {frz:Bool} {t:Ty} {del:List Nat} {id:Nat} (hfresh:Qk st id) :
 ∃ O' m',Sim V0 O0 w0 O' m' {tmps:=st.tmps.set d (.own id),Jr:=JH (KC st.Jr del) [(id,.arr e frz ⟨t,[]⟩)]} (a.put (some d) (.slice none 0 0)) w:=by
 let m':Nat->Value:=λi=>if i=id then .slice none 0 0 else m i
 have hget: ∀ i y,J3 (JH (KC st.Jr del) [(id,.arr e frz ⟨t,[]⟩)]) i=some y->(i=id/\y= .arr e frz ⟨t,[]⟩)\/(i≠id/\J3 st.Jr i=some y):=by
  intro i y hy;simp only[JH]at hy;rw[KO]at hy;by_cases hi:i=id
  .rw[Du hi]at hy;injection hy with hy;exact .inl ⟨hi,hy.symm⟩
  .rw[Dt hi,Va]at hy;split at hy
   .cases hy
   .exact .inr ⟨hi,hy⟩
 have hE:TC st.Jr m (JH (KC st.Jr del) [(id,.arr e frz ⟨t,[]⟩)]) m' (λi=>i=id):=by
  intro i y hy;rcases hget i y hy with ⟨h1,_⟩ | ⟨h1,h2⟩
  .exact .inl h1
  .exact .inr ⟨y,h2,rfl,Dt h1⟩
 refine⟨O,m',hS.next (st':= {tmps:=st.tmps.set d (.own id),Jr:=JH (KC st.Jr del) [(id,.arr e frz ⟨t,[]⟩)]}) (x:=.own id) (T:=λ_=>False) (Nw:=λi=>i=id) (Moves.refl _ _ _) ⟨λ_ _ _ h=>h,λ_ _ _ _ h _=>h⟩ (λb k hb h=>h) hE (λn hn=>by rw[hn];exact hfresh.both) (λ_ h=>h.elim) (λi y hy=> ?_) rfl (λ_=> ?_)⟩
 .rcases hget i y hy with ⟨h1,h2⟩ | ⟨h1,h2⟩
  .right;subst h1;subst h2;exact⟨⟨by simp [Sl.es],.inl ⟨trivial,rfl,Du rfl⟩⟩,hfresh.ne⟩
  .exact .inl ⟨λh=>h,h2,Dt h1⟩
 .refine⟨rfl,?_⟩;all_goals grind[J3,JH,KC,KO,Obj.shp]
def AnA (hS:Sim V0 O0 w0 O m st a w) {d:Tmp} {q e cap g:Nat} {frz:Bool} {l l':Sl} {ns:List (List A)} {cur:Array Value} {news:List Value}
 (hq:J3 st.Jr q=some (.arr e frz l)) (hm:m q= .slice (some (at' g 0)) l.es.length cap) (hg:NM w g cur e) (hcap:l.es.length+ns.length<=cap) (hle:l'.es=l.es++ns) (hls:l'.sz=l.sz)
 (hl:news.length=ns.length*l.sz) (hns: ∀ x∈ns,x.length=l.sz) (hnv: ∀ i j,i<ns.length->j<l.sz->J5 O w (news.getD (i*l.sz+j) undef) ((ns.getD i []).getD j .undef)) (hfresh:Qk st (b2 d)) :
 ∃ O' m',Sim V0 O0 w0 O' m' {tmps:=st.tmps.set d (.own (b2 d)),Jr:=JH (KC st.Jr [q]) [(b2 d,.arr e frz l')]} (a.put (some d) (.slice (some (at' g 0)) (l.es.length+ns.length) cap)) (w.setCells g (l.es.length*l.sz) news):=by
 let id:=b2 d;have hidq:id≠q:=λh=>by have:=hfresh.2;rw[show b2 d=id from rfl,h,hq]at this;cases this
 obtain⟨hsz,hr⟩:=hS.Jr q _ hq
 obtain⟨g',cap',cur',h2,h3,h4,h5,h6,h7,h8,h9⟩: ∃ g' cap' cur',m q= .slice (some (at' g' 0)) l.es.length cap'/\NM w g' cur' e/\l.es.length<=cap'/\cap'<=maxLen/\cur'.size=cap'*l.sz /\
  (∀ i j,i<l.es.length->j<l.sz-> ∃ u,cur'[i*l.sz+j]? =some u/\J5 O w u ((l.es.getD i []).getD j .undef))/\(∀ k,k<cur'.size->l.es.length*l.sz<=k->O g' k=some q)/\(∀ k,k<l.es.length*l.sz->O g' k=if frz then none else some q):=by
  rcases hr with ⟨_,_,h⟩ | ⟨_,h⟩
  .rw[hm]at h;cases h
  .exact h
 rw[hm]at h2;injection h2 with h2 _ hcc;injection h2 with h2;injection h2 with h2;subst h2;subst hcc;obtain⟨h3,_⟩:=hg.inj h3;subst h3;obtain⟨fr,hg,hfr0⟩:=hg;have hmul:(l.es.length+ns.length)*l.sz<=cap*l.sz:=DY _ hcap;rw[Et]at hmul;obtain⟨c',g1,g2,g3,g4,g5,g6,g7,g8⟩:=dV g news (l.es.length*l.sz) w hg (by rw[hl,h6];exact hmul);let w':=w.setCells g (l.es.length*l.sz) news;let O':Own:=λb k=>if b=g/\k<cur.size then(if frz=true/\k<(l.es.length+ns.length)*l.sz then none else some id)else O b k;let m':Nat->Value:=λi=>if i=id then .slice (some (at' g 0)) (l.es.length+ns.length) cap else m i;have hsame: ∀ k,(k<l.es.length*l.sz\/(l.es.length+ns.length)*l.sz<=k)->c'[k]? =cur[k]? :=by all_goals grind[getD_eq]
 have hM:Moves O (λi=>i=q) w w':=by refine Moves.row g6 g7 g8 g5 hg g1 g4 g2 (λk hk=>hsame k ?_) ?_;all_goals grind[apply]
 have hg':g<w.heap.size:=(DX.1 hg).1
 have own_g: ∀ k,k<cur.size->O g k=none\/O g k=some q:=by
  intro k hk;rcases Eh k (l.es.length*l.sz)with h | h
  .rw[h9 k h];cases frz<;>simp
  .exact .inr (h8 k hk h)
 have hP:Passes O O' (λi=>i=q) w.heap.size:=by
  refine⟨λb k _ h=> ?_,λb k r _ h hne=> ?_⟩
  .show(if _ then(if _ then _ else _)else _)=_;by_cases hc:b=g/\k<cur.size
   .rw[Du hc];obtain⟨rfl,hk⟩:=hc;rcases Eh k (l.es.length*l.sz)with h' | h'
    .have:=h9 k h';rw[h]at this;cases frz
     .simp at this
     .rw[Du ⟨rfl,by rw[Et];omega⟩]
    .rw[h8 k hk h']at h;cases h
   .rw[Dt hc];exact h
  .show(if _ then(if _ then _ else _)else _)=_;by_cases hc:b=g/\k<cur.size
   .obtain⟨rfl,hk⟩:=hc;rcases own_g k hk with h' | h'
    .rw[h]at h';cases h'
    .rw[h]at h';injection h' with h';exact absurd h' hne
   .rw[Dt hc];exact h
 have hpr:=hM.Kr hP
 have hget: ∀ i y,J3 (JH (KC st.Jr [q]) [(id,.arr e frz l')]) i=some y->(i=id/\y= .arr e frz l')\/(i≠id/\i≠q/\J3 st.Jr i=some y):=by
  intro i y hy;simp only[JH]at hy;rw[KO]at hy;by_cases hi:i=id
  .rw[Du hi]at hy;injection hy with hy;exact .inl ⟨hi,hy.symm⟩
  .rw[Dt hi,Va]at hy;split at hy
   .cases hy
   .rename_i hnd;exact .inr ⟨hi,by simpa using hnd,hy⟩
 have hE:TC st.Jr m (JH (KC st.Jr [q]) [(id,.arr e frz l')]) m' (λi=>i=id):=by
  intro i y hy;rcases hget i y hy with ⟨h1,_⟩ | ⟨h1,_,h2⟩
  .exact .inl h1
  .exact .inr ⟨y,h2,rfl,Dt h1⟩
 refine⟨O',m',hS.next (st':= {tmps:=st.tmps.set d (.own (b2 d)),Jr:=JH (KC st.Jr [q]) [(id,.arr e frz l')]}) (x:=.own id) (T:=λi=>i=q) (Nw:=λi=>i=id) hM hP (λb k hb h=> ?_) hE (λn hn=>by rw[hn];exact hfresh.both) (λo ho=>by rw[ho,hq];rfl) (λi y hy=> ?_) rfl (λ_=> ?_)⟩
 .have h':(if b=g/\k<cur.size then(if frz=true/\k<(l.es.length+ns.length)*l.sz then none else some id)else O b k)≠none:=h;by_cases hc:b=g/\k<cur.size
  .rw[Du hc]at h';obtain⟨rfl,hk⟩:=hc;rcases Eh k (l.es.length*l.sz)with hlt | hge
   .rw[h9 k hlt];cases frz
    .simp
    .exfalso;refine h' ?_;rw[Du ⟨rfl,by rw[Et];omega⟩]
   .rw[h8 k hk hge];simp
  .rw[Dt hc]at h';exact h'
 .rcases hget i y hy with ⟨h1,h2⟩ | ⟨h1,hiq,h2⟩
  .right;subst h1;subst h2;refine⟨?_,hfresh.ne⟩;simp only[Lm];rw[hle,hls];refine⟨λx hx=>(DN.1 hx).elim (hsz x) (hns x),.inr ⟨trivial,g,cap,c',by rw[Dp];exact Du rfl,⟨fr,g1,by rw[g2];exact hfr0⟩,by rw[Dp];exact hcap,h5,by rw[g2];exact h6,λi j hi hj=> ?_,λk hk hge=> ?_,λk hk=> ?_⟩⟩
   .rw[Dp]at hi;by_cases hil:i<l.es.length
    .obtain⟨u,h10,h11⟩:=h7 i j hil hj;have hlt:i*l.sz+j<l.es.length*l.sz:=by have:(i+1)*l.sz<=l.es.length*l.sz:=DY _ hil;rw[Et]at this;omega
     refine⟨u,by rw[hsame _ (.inl hlt)];exact h10,?_⟩;have e1:(l.es++ns).getD i []=l.es.getD i []:=by simp only[Dn];rw[Ez hil]
     rw[e1];exact h11.Kr hpr
    .obtain⟨i',rfl⟩: ∃ i',i=l.es.length+i':=⟨i - l.es.length,by omega⟩
     have hi':i'<ns.length:=by omega
     have hlt:i'*l.sz+j<ns.length*l.sz:=by have:(i'+1)*l.sz<=ns.length*l.sz:=DY _ hi';rw[Et]at this;omega
     have hidx:(l.es.length+i')*l.sz+j=l.es.length*l.sz+(i'*l.sz+j):=by rw[Et];omega
     have hsz':l.es.length*l.sz+(i'*l.sz+j)<c'.size:=by rw[g2,h6];omega
     refine⟨news.getD (i'*l.sz+j) undef,?_,?_⟩
     .rw[hidx,getD_eq hsz',g3,Du ⟨by omega,by rw[hl];omega⟩];rw[show l.es.length*l.sz+(i'*l.sz+j) - l.es.length*l.sz=i'*l.sz+j from by omega]
     .have e1:(l.es++ns).getD (l.es.length+i') []=ns.getD i' []:=by
       simp only[Dn];rw[EI (by omega),GU]
      rw[e1];exact(hnv i' j hi' hj).Kr hpr
   .rw[g2]at hk;rw[Dp]at hge;show(if _ then(if _ then _ else _)else _)=_;rw[Du ⟨rfl,hk⟩,A0g]
   .rw[Dp]at hk;show(if _ then(if _ then _ else _)else _)=_;rw[Du ⟨rfl,by rw[Et]at hk;omega⟩];cases frz
    .simp
    .simp [hk]
  .exact .inl ⟨hiq,h2,Dt h1⟩
 .refine⟨rfl,?_⟩;have:J3 (JH (KC st.Jr [q]) [(id,.arr e frz l')]) id=some (.arr e frz l'):=by simp only[JH];rw[KO,Du rfl]
  show match (J3 (JH (KC st.Jr [q]) [(id,.arr e frz l')]) id).map Obj.shp with | some (.arr _ _)=>_ | some .mp=>_ | _=>True
  rw[this];exact(Du rfl:m' id=_).symm
def ApR (hS:Sim V0 O0 w0 O m st a w) {d:Tmp} {q e cap g n:Nat} {l l':Sl} {cur:Array Value}
 (hq:J3 st.Jr q=some (.arr e false l)) (hm:m q= .slice (some (at' g 0)) l.es.length cap) (hg:NM w g cur e) (hn:n<=l.es.length) (hle:l'.es=l.es.take n) (hls:l'.sz=l.sz) (hfresh:Qk st (b2 d)) :
 ∃ O' m',Sim V0 O0 w0 O' m' {tmps:=st.tmps.set d (.own (b2 d)),Jr:=JH (KC st.Jr [q]) [(b2 d,.arr e false l')]} (a.put (some d) (.slice (some (at' g 0)) n cap)) w:=by
 let id:=b2 d;obtain⟨hsz,hr⟩:=hS.Jr q _ hq
 obtain⟨g',cap',cur',h2,h3,h4,h5,h6,h7,h8,h9⟩: ∃ g' cap' cur',m q= .slice (some (at' g' 0)) l.es.length cap'/\NM w g' cur' e/\l.es.length<=cap'/\cap'<=maxLen/\cur'.size=cap'*l.sz /\
  (∀ i j,i<l.es.length->j<l.sz-> ∃ u,cur'[i*l.sz+j]? =some u/\J5 O w u ((l.es.getD i []).getD j .undef))/\(∀ k,k<cur'.size->l.es.length*l.sz<=k->O g' k=some q)/\(∀ k,k<l.es.length*l.sz->O g' k=some q):=by
  rcases hr with ⟨_,_,h⟩ | ⟨_,h⟩
  .rw[hm]at h;cases h
  .simpa using h
 rw[hm]at h2;injection h2 with h2 _ hcc;injection h2 with h2;injection h2 with h2;subst h2;subst hcc;obtain⟨h3,_⟩:=hg.inj h3;subst h3
 have own_g: ∀ k,k<cur.size->O g k=some q:=by
  intro k hk;rcases Eh k (l.es.length*l.sz)with h | h
  .exact h9 k h
  .exact h8 k hk h
 let O':Own:=λb k=>if b=g/\k<cur.size then some id else O b k;let m':Nat->Value:=λi=>if i=id then .slice (some (at' g 0)) n cap else m i;have hM:Moves O (λi=>i=q) w w:=Moves.refl _ _ _
 have hP:Passes O O' (λi=>i=q) w.heap.size:=by
  refine⟨λb k _ h=> ?_,λb k r _ h hne=> ?_⟩
  .show(if _ then _ else _)=_;by_cases hc:b=g/\k<cur.size
   .obtain⟨rfl,hk⟩:=hc;rw[own_g k hk]at h;cases h
   .rw[Dt hc];exact h
  .show(if _ then _ else _)=_;by_cases hc:b=g/\k<cur.size
   .obtain⟨rfl,hk⟩:=hc;rw[own_g k hk]at h;injection h with h;exact absurd h.symm hne
   .rw[Dt hc];exact h
 have hpr:=hM.Kr hP
 have hget: ∀ i y,J3 (JH (KC st.Jr [q]) [(id,.arr e false l')]) i=some y->(i=id/\y= .arr e false l')\/(i≠id/\i≠q/\J3 st.Jr i=some y):=by
  intro i y hy;simp only[JH]at hy;rw[KO]at hy;by_cases hi:i=id
  .rw[Du hi]at hy;injection hy with hy;exact .inl ⟨hi,hy.symm⟩
  .rw[Dt hi,Va]at hy;split at hy
   .cases hy
   .rename_i hnd;exact .inr ⟨hi,by simpa using hnd,hy⟩
 have hE:TC st.Jr m (JH (KC st.Jr [q]) [(id,.arr e false l')]) m' (λi=>i=id):=by
  intro i y hy;rcases hget i y hy with ⟨h1,_⟩ | ⟨h1,_,h2⟩
  .exact .inl h1
  .exact .inr ⟨y,h2,rfl,Dt h1⟩
 have hlen:l'.es.length=n:=by rw[hle,D9];omega
 have hmul:n*l.sz<=l.es.length*l.sz:=DY _ hn;have hmul2:l.es.length*l.sz<=cap*l.sz:=DY _ h4;refine⟨O',m',hS.next (st':= {tmps:=st.tmps.set d (.own (b2 d)),Jr:=JH (KC st.Jr [q]) [(id,.arr e false l')]}) (x:=.own id) (T:=λi=>i=q) (Nw:=λi=>i=id) hM hP (λb k hb h=> ?_) hE (λn hn=>by rw[hn];exact hfresh.both) (λo ho=>by rw[ho,hq];rfl) (λi y hy=> ?_) rfl (λ_=> ?_)⟩
 .have h':(if b=g/\k<cur.size then some id else O b k)≠none:=h;by_cases hc:b=g/\k<cur.size
  .obtain⟨rfl,hk⟩:=hc;rw[own_g k hk];simp
  .rw[Dt hc]at h';exact h'
 .rcases hget i y hy with ⟨h1,h2⟩ | ⟨h1,hiq,h2⟩
  .right;subst h1;subst h2;refine⟨?_,hfresh.ne⟩;simp only[Lm];rw[hls,hlen];refine⟨λx hx=>hsz x (by rw[hle]at hx;exact Gm hx),.inr ⟨trivial,g,cap,cur,Du rfl,hg,by omega,h5,h6,λi j hi hj=> ?_,λk hk hge=>Du ⟨rfl,hk⟩,λk hk=> ?_⟩⟩
   .obtain⟨u,h10,h11⟩:=h7 i j (by omega) hj;refine⟨u,h10,?_⟩;have e1:l'.es.getD i []=l.es.getD i []:=by rw[hle];simp only[Dn,Gg];rw[Du hi]
    rw[e1];exact h11.Kr hpr
   .show(if _ then _ else _)=_;rw[Du ⟨rfl,by omega⟩];rfl
  .exact .inl ⟨hiq,h2,Dt h1⟩
 .refine⟨rfl,?_⟩;have:J3 (JH (KC st.Jr [q]) [(id,.arr e false l')]) id=some (.arr e false l'):=by simp only[JH];rw[KO,Du rfl]
  show match (J3 (JH (KC st.Jr [q]) [(id,.arr e false l')]) id).map Obj.shp with | some (.arr _ _)=>_ | some .mp=>_ | _=>True
  rw[this];exact(Du rfl:m' id=_).symm
end
section
variable {P:Program} {C:Ctx} {V0:Nat->Value} {O0 O:Own} {w0 w:World} {m:Nat->Value} {st:St} {a:Act} {o:Oper}
def X0 {δ :Dl} {d:Tmp} (hd:o.dst=some d):apply st o δ = {tmps:=st.tmps.set d δ.val,Jr:=JH (KC (JH st.Jr δ.upd) δ.del) δ.new}:=by unfold apply;rw[hd];rfl
def XM {t:Nat} {k:Nat->TI->Dl} (hok:J6 (elemOf C t k).ok): ∃ ti e te,C.T t=some ti/\ti.d= .slice e/\C.T e=some te/\elemOf C t k=k e te:=by
 unfold elemOf at *
 obtain⟨ti,ht,he⟩:=KF hok;rw[he]at hok ⊢;clear he;obtain⟨e,hel,he⟩:=JU hok;rw[he]at hok ⊢;clear he;obtain⟨te,hte,he⟩:=KF hok;exact⟨ti,e,te,ht,Ur hel,hte,he⟩
def AsI {O':Own} {w':World} {fet:Fet} {te:TI} {ty:Ty} (hf:P8 st.Jr fet) (hp:Nz O w O' w) (hw:w'=w): ∀(xs:List (Nat×A)) (ps:List (Nat×Value)) (vs:Array Value) (zs:List ty.Val),
 xs.length=ps.length->(∀(j:Nat) (x:Nat×A) (p:Nat×Value),xs[j]? =some x->ps[j]? =some p->p.1=x.1/\JC O st.Jr m w p.2 x.2/\x.2.isVal=true) ->
 vs.size=zs.length*te.cs.length->Held O' w' vs te.cs.length (zs.map ty.cells)->J6 (Ot fet te ty xs zs).1 ->
 (∀ p∈(Ot fet te ty xs zs).2.2,∀ e l,p.2= .arr e true l->J5 O' w (m p.1) (.sl l)) ->
 (Ot fet te ty xs zs).2.1.length=zs.length/\ ∃ vs',Instr.fill (λi=>some (i*te.cs.length,te.cs.length)) vs ps=some vs'/\vs'.size=vs.size/\Held O' w' vs' te.cs.length ((Ot fet te ty xs zs).2.1.map ty.cells):=by
 subst hw;intro xs
 induction xs with
 | nil =>
  intro ps vs zs hl _ hsz hh _ _;cases ps with
  | nil=>exact⟨rfl,vs,rfl,rfl,hh⟩
  | cons _ _=>simp at hl
 | cons x xs ih =>
  intro ps vs zs hl hr hsz hh hok hU;cases ps with
  | nil=>simp at hl
  | cons p ps =>
   obtain⟨i,x⟩:=x;obtain⟨i',v⟩:=p;obtain⟨h1,h2,hval⟩:=hr 0 (i,x) (i',v) rfl rfl;dsimp only at h1 h2 hval;subst h1;simp only[Ot]at hok hU ⊢;obtain⟨hok1,hok2⟩:=hok.append;obtain⟨hok0,hok1⟩:=hok1.append;obtain⟨hmk,hok1⟩:=hok1.cons;have hmk:=Ty.XA _ _ hmk;have hil':i'<zs.length:=by simpa [EF]using hok1.cons.1
   have hset:(zs.set i' (ty.mk (KQ fet te.cs x.cells).2.1).2).map ty.cells=(zs.map ty.cells).set i' (KQ fet te.cs x.cells).2.1:=by rw[List.map_set,hmk]
   have hzl:zs.length=(zs.map ty.cells).length:=by simp
   rw[hzl]at hsz hil';generalize hes:zs.map ty.cells=es at *
   have hil:i'<es.length:=hil';have hcs:=h2.cells hval;obtain⟨g1,g2,g3,g4⟩:=XU hf te.cs x.cells (λj=>v.cells.getD j undef) (λj hj=>hcs.2 j hj) hok0;have g5:=g4 hp (λp hp'=>hU p (DJ _ hp'));have hvsz:v.cells.size=te.cs.length:=by rw[hcs.1,g2]
   have hle:i'*te.cs.length+te.cs.length<=vs.size:=by rw[hsz];have:(i'+1)*te.cs.length<=es.length*te.cs.length:=DY _ hil;rw[Et]at this;omega
   have e0:v.cells.zipIdx.foldl (λcs (c,j)=>cs.setIfInBounds (i'*te.cs.length+j) c) vs=(v.cells.toList.zipIdx 0).foldl (λcs (p:Value×Nat)=>cs.setIfInBounds (i'*te.cs.length+p.2) p.1) vs:=by rw[<- Jg];simp
   have hl0:i'*te.cs.length+0+v.cells.toList.length<=vs.size:=by rw[Array.length_toList,hvsz];omega
   obtain⟨k1,_⟩:=Ws v.cells.toList 0 (i'*te.cs.length) vs 0 hl0;have k2:=λj=>(Ws v.cells.toList 0 (i'*te.cs.length) vs j hl0).2;rw[<- e0]at k1
   have hh':Held O' w' (v.cells.zipIdx.foldl (λcs (c,j)=>cs.setIfInBounds (i'*te.cs.length+j) c) vs) te.cs.length (es.set i' (KQ fet te.cs x.cells).2.1):=by
    refine⟨λy hy=> ?_,λr j hrl hj=> ?_⟩
    .rcases Ii hy with h | h
     .exact hh.1 y h
     .rw[h,g1]
    .rw[FN]at hrl;have hlt:r*te.cs.length+j<vs.size:=by rw[hsz];have:(r+1)*te.cs.length<=es.length*te.cs.length:=DY _ hrl;rw[Et]at this;omega
     have hk:=k2 (r*te.cs.length+j);rw[<- e0]at hk;by_cases hri:r=i'
     .subst hri;rw[Du (by rw[Array.length_toList,hvsz];omega)]at hk;have e1:(es.set r (KQ fet te.cs x.cells).2.1).getD r []=(KQ fet te.cs x.cells).2.1:=by simp [Dn,hil]
      refine⟨_,getD_eq,?_⟩;rw[hk,e1,show r*te.cs.length+j - (r*te.cs.length+0)=j from by omega];have e2:v.cells.toList.getD j undef=v.cells.getD j undef:=by rw[Dv,Dn,ET]
      rw[e2];exact g5 j hj
     .have hno: ¬(i'*te.cs.length+0<=r*te.cs.length+j/\r*te.cs.length+j<i'*te.cs.length+0+v.cells.toList.length):=by
       rw[Array.length_toList,hvsz];rintro ⟨ha,hb⟩;rcases Jh hri with h | h
       .have:(r+1)*te.cs.length<=i'*te.cs.length:=DY _ h;rw[Et]at this;omega
       .have:(i'+1)*te.cs.length<=r*te.cs.length:=DY _ h;rw[Et]at this;omega
      rw[Dt hno]at hk;obtain⟨u,h3,h4⟩:=hh.2 r j hrl hj;refine⟨u,?_,?_⟩
      .rw[getD_eq,hk,<- getD_eq hlt];exact h3
      .have e1:(es.set i' (KQ fet te.cs x.cells).2.1).getD r []=es.getD r []:=by
        simp only[Dn,Gj];rw[Dt (λh=>hri h.symm)]
       rw[e1];exact h4
   obtain⟨f1,vs',f2,f3,f4⟩:=ih ps _ (zs.set i' (ty.mk (KQ fet te.cs x.cells).2.1).2) (by simpa using hl) (λj x p hx hp=>hr (j+1) x p (by simpa using hx) (by simpa using hp)) (by rw[k1,hsz,FN,hzl]) (by rw[hset];exact hh') hok2
    (λp hp'=>hU p (DF _ hp'))
   refine⟨by rw[f1,FN],vs',?_,by rw[f3,k1],f4⟩;simp only[Instr.fill];have: ¬(v.cells.size≠te.cs.length||decide (i'*te.cs.length+v.cells.size>vs.size))=true:=by rw[hvsz];simp;omega
   rw[Dt (by simpa using this)];exact f2
end
section
variable {P:Program} {C:Ctx} {V0:Nat->Value} {O0 O:Own} {w0 w:World} {m:Nat->Value} {st:St} {a:Act} {o:Oper}
def vY {fet:Fet} {ks:List CK} {x:A} (hok:J6 (KQ fet ks x.cells).1):x.isVal=true:=by
 have no: ∀ {y:A},(∀ k,(pur fet k y).1=[false])-> ¬ J6 (KQ fet ks [y]).1:=by
  intro y h hh;cases ks with
  | nil=>simp_all[KQ,Fet,CK,J6]
  | cons k ks=>simp_all[KQ,Fet,CK,J6]
 cases x with
 | undef=>exact(no (λk=>rfl) hok).elim
 | tup _=>exact(no (λk=>rfl) hok).elim
 | usl _ _ _=>exact(no (λk=>rfl) hok).elim
 | ump _=>exact(no (λk=>rfl) hok).elim
 | box _=>exact(no (λk=>rfl) hok).elim
 | cbx _ _=>exact(no (λk=>rfl) hok).elim
 | cnd _ _=>exact(no (λk=>rfl) hok).elim
 | _=>rfl
def An6 {fet:Fet} {te:TI} {ty:Ty} (hf:P8 st.Jr fet): ∀(xs:List (Nat×A)) (zs:List ty.Val),(∀ x∈xs,∃ v,JC O st.Jr m w v x.2)->J6 (Ot fet te ty xs zs).1->Frz st.Jr (Ot fet te ty xs zs).2.2/\ ∀ x∈xs,x.2.isVal=true:=by
 intro xs
 induction xs with
 | nil=>intro zs _ _;exact⟨(λp hp=>by simp [Ot]at hp),λx hx=>by cases hx⟩
 | cons x xs ih =>intro zs h hok;obtain⟨i,x⟩:=x;simp only[Ot]at hok ⊢;obtain⟨hok1,hok2⟩:=hok.append;obtain⟨hok0,_⟩:=hok1.append;have hv:=vY hok0;obtain⟨v,hx⟩:=h (i,x) Dy;have hcs:=JC.cells (show JC O st.Jr m w v x from hx) hv;obtain⟨_,_,g3,_⟩:=XU hf te.cs x.cells (λj=>v.cells.getD j undef) (λj hj=>hcs.2 j hj) hok0;obtain⟨f1,f2⟩:=ih _ (λy hy=>h y (Dz _ hy)) hok2;exact⟨g3.append f1,λy hy=>by rcases D7.1 hy with rfl | hy;exact hv;exact f2 y hy⟩
def yB: ∀(vs:List Value) (ks:List CK),KH vs ks=true->ks.all CK.plain=true-> ∀ j,j<ks.length->J5 O w (vs.getD j undef) ((ks.map CK.Qo).getD j .undef):=by
 intro vs ks h hp j hj;obtain⟨h1,h2⟩:=We (O:=O) (Jr:=[]) (m:=λ_=>undef) (w:=w) vs ks h;have h3:=h2 j hj;have hk:(ks.getD j .oth).plain=true:=by all_goals simp_all[CK,KH,CK.plain,J5,CK.Qo]
 have e1:(ks.map CK.zero).getD j .undef=(ks.getD j .oth).zero:=by simp [Dn,hj]
 have e2:(ks.map CK.Qo).getD j .undef=(ks.getD j .oth).Qo:=by simp [Dn,hj]
 rw[e1]at h3;rw[e2];generalize ks.getD j .oth=k at *
 generalize vs.getD j undef=v at *
 cases k with
 | oth=>cases hk
 | mp _ _=>cases hk
 | bx _=>cases hk
 | fn=>exact h3
 | sl e sz=>have:=JG.Lt h3;subst this;exact .nil _
 | sln e sz=>have:=JG.Lt h3;subst this;exact .nil _
 | bool=>exact h3
 | int _=>exact h3
 | str=>exact h3
 | ptr=>exact h3
def zeros (z:Value) (n:Nat):Array Value:=(Array.range n).map (z.cells[· % z.cells.size]!)
def Held.less {cur:Array Value} {sz:Nat} {x:List A} {n k:Nat} (h:Held O w cur sz (List.replicate k x)) (hk:n<=k):Held O w cur sz (List.replicate n x):=by
 refine⟨λy hy=> ?_,λi j hi hj=> ?_⟩
 .rw[FO hy];cases k with
  | zero=>grind[Held]
  | succ k=>grind[Held]
 .rw[Ee]at hi;obtain⟨u,h1,h2⟩:=h.2 i j (by rw[Ee];omega) hj;refine⟨u,h1,?_⟩;have e1:(List.replicate n x).getD i []=x:=by simp [Dn,hi]
  all_goals grind[Held]
def uU {t:Nat} {te:TI} {z:Value} (hT:Xz P t te) (hz:(P.info? t).bind (·.zero)=some z) (hp:te.cs.all CK.plain=true) (h0:0<te.cs.length) (n:Nat) :
 (zeros z (n*te.cs.length)).size=n*te.cs.length/\Held O w (zeros z (n*te.cs.length)) te.cs.length (List.replicate n (te.cs.map CK.Qo)):=by
 obtain⟨i,z',h1,h2,h3,h4,h5,h6⟩:=hT.i;rw[h1]at hz;simp only[Option.bind_some,h4]at hz;injection hz with hz;subst hz;have hsz:z'.cells.size=te.cs.length:=by rw[<- Array.length_toList];exact(We (O:=O) (Jr:=[]) (m:=λ_=>undef) (w:=w) _ _ h5).1
 have hv:=yB (O:=O) (w:=w) _ _ h5 hp;refine⟨by simp [zeros],λx hx=>by rw[FO hx];simp,λr j hr hj=> ?_⟩;rw[Ee]at hr;have hlt:r*te.cs.length+j<n*te.cs.length:=by have:(r+1)*te.cs.length<=n*te.cs.length:=DY _ hr;rw[Et]at this;omega
 have hmod:(r*te.cs.length+j) % te.cs.length=j:=by rw[Hy,Nat.mul_add_mod];exact F5 hj
 all_goals grind[zeros,CK.Qo]
def AeQ {t n:Nat} {ps:Array (Nat×Operand)} (hC:TOk P C) (hS:Sim V0 O0 w0 O m st a w) {d:Tmp} (hd:o.dst=some d) (ho:o.op= .buildSlice t n ps) {fet:Fet} (hf:P8 st.Jr fet) {xs:List (Nat×A)}
 (hl:xs.length=ps.size) (hx: ∀(j:Nat) (x:Nat×A) (p:Nat×Operand),xs[j]? =some x->ps[j]? =some p->p.1=x.1/\JC O st.Jr m w (a.eval p.2) x.2)
 (hok:J6 (SS C fet d t n xs).ok) (hfr: ∀ p∈(SS C fet d t n xs).new,st.fresh p.1=true):Good P V0 O0 w0 (apply st o (SS C fet d t n xs)) o a w:=by
 intro next Q hn
 unfold SS at *
 obtain⟨ti,e,te,ht,hte,hd',he⟩:=XM hok;rw[he]at hn hfr hok;clear he;obtain⟨hok1,hok2⟩:=hok.append;obtain⟨hb1,hb2⟩:=hok2.cons;obtain⟨hb2,hb3⟩:=hb2.cons;have hb1:=DR hb1;have hb2:0<te.cs.length:=by simpa [EF]using hb2
 have hb3:=hb3.cons.1;have hT:=hC.is hd';obtain⟨i,z,h1,h2,h3,h4,h5,h6⟩:=hT.i;have hu:=(hC.is ht).d;rw[hte]at hu;obtain⟨hU,hval⟩:=An6 (te:=te) (ty:=tyl te.cs) hf xs (List.replicate n (tyl te.cs).zero) (λx hx'=>by obtain⟨j,hj,hje⟩:=FP.1 hx';have:=hx j x (ps[j]'(by omega)) (by rw[<- hje];exact D8 hj) (by simp [show j<ps.size from by omega]);exact⟨_,this.2⟩) hok1;obtain⟨O1,hS1,hp1,hle1,hv1,hE1,_⟩:=hS.freezes _ hU;obtain⟨hz1,hz2⟩:=uU (O:=O1) (w:=w) hT (by rw[h1];exact h4) hb3 hb2 n
 obtain⟨f1,vs',f2,f3,f4⟩:=AsI (te:=te) (ty:=tyl te.cs) hf hp1 rfl xs (ps.map (fun(i,x)=>(i,a.eval x))).toList (zeros z (n*te.cs.length)) (List.replicate n (tyl te.cs).zero) (by simp [hl]) (λj x p hxj hpj=>by
  simp only[Ik,Ep]at hpj;cases hq:ps.toList[j]? with
  | none=>rw[hq]at hpj;cases hpj
  | some q =>rw[hq]at hpj;injection hpj with hpj;subst hpj;have:=hx j x q hxj (by simpa using hq);exact⟨this.1,this.2,hval x (FQ hxj)⟩) (by rw[hz1,Ee]) (by rw[<- Sl.jL _ _ hb3]at hz2;exact hz2) hok1 hv1
 have hlen:(Ot fet te (tyl te.cs) xs (List.replicate n (tyl te.cs).zero)).2.1.length=n:=by rw[f1,Ee]
 have hnn:n*te.cs.length<=16777216:=hb1;have hnle:n<=16777216:=GK (Nat.le_mul_of_pos_right n hb2) hnn
 have hr:(execOp a.eval o).run P w= .ok (.value (.slice (some (at' w.heap.size 0)) n n)) (w.alloc (.cells vs' e)):=by
  have hbig: ¬(16777216<n*te.cs.length):=by omega
  simp only[execOp,ho,DL,Instr.buildSlice,Ew hu,Result.andThen_ok,hT.OX];rw[Dt (by simpa using hbig)];by_cases h0:n*te.cs.length=0
  .have hz0:(Array.range (n*te.cs.length)).map ((#[]:Array Value)[· % (#[]:Array Value).size]!)=zeros z (n*te.cs.length):=by simp [zeros,h0]
   simp only[Du h0,DL,Sem.run_pure,Result.andThen_ok,hz0,f2];rfl
  .simp only[Dt h0,DL,Sem.run_pure,Result.andThen_ok,zeroValue,typeInfo,run_program,h1,h4];have hz0:(Array.range (n*te.cs.length)).map (z.cells[· % z.cells.size]!)=zeros z (n*te.cs.length):=rfl;rw[hz0,f2];rfl
 unfold Oper.wp;rw[hr,Oper.upon_value,hd];have hfr':=(show Qk st (b2 d)from NQ (hfr _ Dy)).frz hU;obtain⟨O',m',h⟩:=YA hS1 (Moves.refl _ _ w) rfl (d:=d) (e:=e) (cap:=n) (frz:=false) (l:=⟨tyl te.cs,(Ot fet te (tyl te.cs) xs (List.replicate n (tyl te.cs).zero)).2.1⟩) (del:=[]) (by rw[Sl.KT,hlen];exact DD _) (by unfold maxLen;omega) (by rw[f3,hz1];show _=_*(tyl te.cs).len;rw[WM]) (by show Held _ _ _ (tyl te.cs).len _;rw[WM];exact f4) hfr';rw[Sl.KT,hlen]at h;refine hn O' m' _ _ ?_;rw[X0 hd];exact h
end
end Go.Proofs.YtacidcemomccpaaGreatDoor.Vm
