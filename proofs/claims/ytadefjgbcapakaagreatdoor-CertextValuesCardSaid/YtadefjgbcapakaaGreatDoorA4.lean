import Derived.Test.YtadefjgbcapakaaGreatDoorA3
import Derived.Laws.Tables
set_option linter.all false
namespace Go.Proofs.YtadefjgbcapakaaGreatDoor.Vm
section
variable {P:Program} {C:Ctx} {O:Own} {Aa:List (Nat×Obj)} {m:Nat->Value} {a:Act} {w:World} {o:Oper} {fet:Fet}
def Gl (O:Own) (Aa:List (Nat×Obj)) (m:Nat->Value) (w:World) (vs:Array Value) (cs:List A):Prop :=
  vs.size=cs.length/\ ∀ j,j<cs.length->Au O Aa m w (vs.getD j undef) (cs.getD j .undef)
theorem Au.one {v:Value} {x:A} (h:Au O Aa m w v x):v.oneCell'=true:=by
  cases x with
  | undef=>exact h
  | bool _=>cases h;rfl
  | int _ _=>cases h;rfl
  | str _=>cases h;rfl
  | sl _=>cases h<;>rfl
  | sln _=>exact Ai.one h
  | BU=>have h':v=_:=h;subst h';rfl
  | Cc=>cases h;rfl
  | ptr _ _=>exact h.1
  | own _=>exact h.1
  | BQ _ _ _=>exact h.1
  | clo _ _=>exact h.1
  | bsl _ _=>exact h.1
  | elt _=>obtain⟨_,_,h,_⟩:=h;subst h;rfl
  | fn _=>cases h<;>rfl
  | _=>exact h.elim
theorem oneCell_cells {v:Value} (h:v.oneCell'=true):v.cells= #[v]:=by cases v<;>first | rfl | cases h
theorem Ap.cells {v:Value} {x:A} (h:Ap O Aa m w v x) (hv:x.isVal=true):Gl O Aa m w v.cells x.cells:=by
  have cell:Au O Aa m w v x->x.cells=[x]->Gl O Aa m w v.cells x.cells:=by
    intro hc he
    rw[he,oneCell_cells hc.one]
    refine⟨rfl,fun j hj=> ?_⟩
    have:j=0:=by simpa using hj
    subst this;exact hc
  cases x with
  | agg cs =>
    obtain⟨vs,h1,h2,h3⟩:=h
    subst h1;exact⟨h2,h3⟩
  | undef=>cases hv
  | tup _=>cases hv
  | usl _ _=>cases hv
  | ump _=>cases hv
  | box _=>cases hv
  | cbx _ _=>cases hv
  | cnd _ _=>cases hv
  | _=>exact cell h rfl
theorem Jb (l:List Value): ∀(k off:Nat) (cs:Array Value) (i:Nat),off+k+l.length<=cs.size ->
    ((l.zipIdx k).foldl (fun cs (p:Value×Nat)=>cs.setIfInBounds (off+p.2) p.1) cs).size=cs.size /\
    ((l.zipIdx k).foldl (fun cs (p:Value×Nat)=>cs.setIfInBounds (off+p.2) p.1) cs).getD i undef=if off+k<=i/\i<off+k+l.length then l.getD (i - (off+k)) undef else cs.getD i undef:=by
  induction l with
  | nil =>
    intro k off cs i _
    refine⟨rfl,?_⟩
    rw[if_neg (by simp)];rfl
  | cons v l ih =>
    intro k off cs i h
    simp only[List.zipIdx_cons,List.foldl_cons]
    simp only[List.length_cons]at h ⊢
    obtain⟨h1,h2⟩:=ih (k+1) off (cs.setIfInBounds (off+k) v) i (by simp;omega)
    refine⟨by rw[h1];simp,?_⟩
    rw[h2]
    by_cases hi:off+(k+1)<=i/\i<off+(k+1)+l.length
    ·rw[if_pos hi,if_pos (by omega),show i - (off+k)=(i - (off+(k+1)))+1 from by omega];rfl
    ·rw[if_neg hi]
     by_cases hk:i=off+k
     ·subst hk
      rw[if_pos (by omega),Array.getD_eq_getD_getElem?,Array.getElem?_setIfInBounds]
      rw[if_pos rfl,if_pos (by omega)]
      simp
     ·rw[if_neg (by omega),Array.getD_eq_getD_getElem?,Array.getElem?_setIfInBounds,if_neg (by omega),<- Array.getD_eq_getD_getElem?]
theorem RV (l:List A) (off:Nat) (vs:List A) (i:Nat) (h:off+vs.length<=l.length):(splice l off vs).getD i .undef=if off<=i/\i<off+vs.length then vs.getD (i - off) .undef else l.getD i .undef:=by
  unfold splice
  simp only[List.getD_eq_getElem?_getD]
  by_cases h1:i<off
  ·rw[if_neg (by omega),List.append_assoc,List.getElem?_append_left (by simp;omega),List.getElem?_take,if_pos h1]
  ·by_cases h2:i<off+vs.length
   ·rw[if_pos ⟨by omega,h2⟩,List.append_assoc,List.getElem?_append_right (by simp;omega)]
    simp only[List.length_take,Nat.min_eq_left (show off<=l.length from by omega)]
    rw[List.getElem?_append_left (by omega)]
   ·rw[if_neg (by omega),List.getElem?_append_right (by simp;omega)]
    simp only[List.length_append,List.length_take,Nat.min_eq_left (show off<=l.length from by omega),List.getElem?_drop]
    rw[show off+vs.length+(i - (off+vs.length))=i from by omega]
theorem J8 (l:List A) (off:Nat) (vs:List A) (h:off+vs.length<=l.length):(splice l off vs).length=l.length:=by
  unfold splice;simp;omega
theorem Gl.splice {vs us:Array Value} {cs xs:List A} {off:Nat} (h:Gl O Aa m w vs cs) (hu:Gl O Aa m w us xs) (hle:off+xs.length<=cs.length) :
    Gl O Aa m w (us.zipIdx.foldl (fun cs (c,j)=>cs.setIfInBounds (off+j) c) vs) (splice cs off xs):=by
  have e:us.zipIdx.foldl (fun cs (c,j)=>cs.setIfInBounds (off+j) c) vs=(us.toList.zipIdx 0).foldl (fun cs (p:Value×Nat)=>cs.setIfInBounds (off+p.2) p.1) vs:=by
    rw[<- Array.foldl_toList];simp
  rw[e]
  have hl:off+0+us.toList.length<=vs.size:=by rw[Array.length_toList,hu.1,h.1];omega
  refine⟨by rw[(Jb us.toList 0 off vs 0 hl).1,h.1,J8 _ _ _ hle],fun j hj=> ?_⟩
  rw[J8 _ _ _ hle]at hj
  rw[(Jb us.toList 0 off vs j hl).2,RV _ _ _ _ hle]
  rw[Array.length_toList,hu.1]
  by_cases hi:off<=j/\j<off+xs.length
  ·rw[if_pos (by omega),if_pos hi,Nat.add_zero]
   have:=hu.2 (j - off) (by omega)
   have e:us.toList.getD (j - off) undef=us.getD (j - off) undef:=by
     rw[Array.getD_eq_getD_getElem?,List.getD_eq_getElem?_getD,Array.getElem?_toList]
   rw[e];exact this
  ·rw[if_neg (by omega),if_neg hi];exact h.2 j hj
def Qi (P:Program) (d:TypeDesc) (i:Nat):Option (Nat×Nat) :=
  match d with
  | .struct fs=>(fs[i]?).bind fun f=>(P.info? f.type).map fun j=>(f.offset,j.size)
  | .array _ e=>(P.info? e).map fun j=>(i*j.size,j.size)
  | _=>none
theorem uI (hC:TOk P C) {d:TypeDesc} {place:Nat->Option (Nat×Nat)} (hp: ∀ i p,Qi P d i=some p->place i=some p): ∀(xs:List (Nat×A)) (ps:List (Nat×Value)) (vs:Array Value) (cs cs':List A),
    xs.length=ps.length->(∀(j:Nat) (x:Nat×A) (p:Nat×Value),xs[j]? =some x->ps[j]? =some p->p.1=x.1/\Ap O Aa m w p.2 x.2)->Gl O Aa m w vs cs->fill C d xs cs=some cs' ->
    ∃ vs',Instr.fill place vs ps=some vs'/\Gl O Aa m w vs' cs':=by
  intro xs
  induction xs with
  | nil =>
    intro ps vs cs cs' hl _ hcs hf
    cases ps with
    | nil=>simp only[fill]at hf;injection hf with hf;subst hf;exact⟨vs,rfl,hcs⟩
    | cons _ _=>simp at hl
  | cons x xs ih =>
    intro ps vs cs cs' hl hr hcs hf
    cases ps with
    | nil=>simp at hl
    | cons p ps =>
      obtain⟨i,x⟩:=x
      obtain⟨i',v⟩:=p
      obtain⟨h1,h2⟩:=hr 0 (i,x) (i',v) rfl rfl
      dsimp only at h1 h2
      subst h1
      simp only[fill]at hf
      cases hpl:Y5 C d i' with
      | none=>rw[hpl]at hf;cases hf
      | some q =>
        obtain⟨off,ti⟩:=q
        rw[hpl]at hf
        dsimp only at hf
        cases hb:(x.isVal&&Nat.beq x.cells.length ti.cs.length&&Nat.ble (off+ti.cs.length) cs.length)with
        | false=>rw[hb]at hf;cases hf
        | true =>
          rw[hb]at hf
          simp only[cond_true]at hf
          simp only[Bool.and_eq_true,IG,decide_eq_true_eq]at hb
          obtain⟨⟨hb1,hb2⟩,hb3⟩:=hb
          have hb3:=Nat.le_of_ble_eq_true hb3
          have hv:=h2.cells hb1
          have hpv:Qi P d i'=some (off,ti.cs.length):=by
            unfold Y5 at hpl
            unfold Qi
            split at hpl
            ·rename_i fs
             split at hpl
             ·rename_i f hf'
              split at hpl
              ·rename_i tf htf
               injection hpl with hpl;injection hpl with e1 e2
               subst e1;subst e2
               obtain⟨i0,z,h3,h4,_⟩:=(hC.is htf).i
               have:fs[i']? =some f:=by simpa using hf'
               simp [this,h3,h4]
              ·cases hpl
             ·cases hpl
            ·rename_i n e
             split at hpl
             ·rename_i tf htf
              cases hlt:Nat.blt i' n with
              | false=>rw[hlt]at hpl;cases hpl
              | true =>
                rw[hlt]at hpl
                injection hpl with hpl;injection hpl with e1 e2
                subst e2
                obtain⟨i0,z,h3,h4,_⟩:=(hC.is htf).i
                simp [h3,h4,<- e1]
             ·cases hpl
            ·cases hpl
          have hnext:=hcs.splice (off:=off) hv (by omega)
          obtain⟨vs',h5,h6⟩:=ih ps _ _ _ (by simpa using hl) (fun j x p hx hp=>hr (j+1) x p (by simpa using hx) (by simpa using hp)) hnext hf
          refine⟨vs',?_,h6⟩
          simp only[Instr.fill,hp _ _ hpv]
          have: ¬(v.cells.size≠ti.cs.length||decide (off+v.cells.size>vs.size))=true:=by
            rw[hv.1,hcs.1,hb2];simp;omega
          rw[if_neg (by simpa using this)]
          exact h5
theorem GM: ∀(vs:List Value) (ks:List CK),Bj vs ks=true->vs.length=ks.length/\ ∀ j,j<ks.length->Au O Aa m w (vs.getD j undef) ((ks.map CK.zero).getD j .undef):=by
  intro vs
  induction vs with
  | nil=>intro ks h;cases ks with
    | nil=>exact⟨rfl,fun j hj=>by simp at hj⟩
    | cons _ _=>simp [Bj]at h
  | cons v vs ih =>
    intro ks h
    cases ks with
    | nil=>cases v<;>simp [Bj]at h
    | cons k ks =>
      have step:Bj vs ks=true->Au O Aa m w v k.zero->(v::vs).length=(k::ks).length/\ ∀ j,j<(k::ks).length->Au O Aa m w ((v::vs).getD j undef) (((k::ks).map CK.zero).getD j .undef):=by
        intro hz hv
        obtain⟨h1,h2⟩:=ih ks hz
        refine⟨by simp [h1],fun j hj=> ?_⟩
        cases j with
        | zero=>exact hv
        | succ j=>simpa using h2 j (by simpa using hj)
      cases k with
      | bool=>cases v with
        | bool b=>cases b<;>simp [Bj]at h;exact step h (.bool _)
        | _=>simp [Bj]at h
      | int k'=>cases v with
        | int k'' n =>
          have h':A.kEq k'' k'=true/\n=0/\Bj vs ks=true:=by
            clear step ih
            unfold Bj at h
            split at h<;>simp_all
          obtain⟨h1,h2,h3⟩:=h'
          have:=H6 h1
          subst this;subst h2
          exact step h3 (.int _ _)
        | _=>simp [Bj]at h
      | str=>cases v with
        | string s =>
          simp only[Bj,Bool.and_eq_true]at h
          have hs:s.data.toList=[]:=by simpa using h.1
          refine step h.2 ?_
          show Ai O w (.string s) (.str [])
          rw[<- hs];exact .str s
        | _=>simp [Bj]at h
      | sl e sz=>cases v with
        | slice ad l c =>
          have h':ad=none/\l=0/\c=0/\Bj vs ks=true:=by
            clear step ih
            unfold Bj at h
            split at h<;>simp_all
          obtain⟨h1,h2,h3,h4⟩:=h'
          subst h1;subst h2;subst h3
          exact step h4 rfl
        | _=>simp [Bj]at h
      | ptr=>cases v with
        | pointer ad=>cases ad<;>simp [Bj]at h;exact step h .Cc
        | _=>simp [Bj]at h
      | fn=>cases v with
        | nilFunc=>simp [Bj]at h;exact step h Ai.QQ
        | _=>simp [Bj]at h
      | sln _ _=>cases v<;>simp [Bj]at h
      | mp _ _=>cases v<;>simp [Bj]at h
      | oth =>
        have:v.oneCell'=true/\Bj vs ks=true:=by
          cases v<;>simpa [Bj]using h
        exact step this.2 this.1
theorem mY {n t:Nat} {ks:List CK} (h:DR P n t=some ks): ∃ i,P.info? t=some i:=by
  cases n with
  | zero=>simp [DR]at h
  | succ n =>
    cases hi:P.info? t with
    | some i=>exact⟨i,rfl⟩
    | none =>
      have hu:P.underlying t=none:=by simp [Program.underlying,hi]
      simp [DR,hu]at h
theorem y8 {n t:Nat} {ks:List CK} {fs:Array Field} (h:DR P n t=some ks) (hu:P.underlying t=some (.struct fs)): ∀ f∈fs.toList,∃ i,P.info? f.type=some i:=by
  cases n with
  | zero=>simp [DR]at h
  | succ n =>
    simp only[DR,hu]at h
    revert h
    generalize fs.toList=l
    induction l generalizing ks with
    | nil=>intro _ f hf;cases hf
    | cons g l ih =>
      intro h f hf
      simp only[List.foldr_cons]at h
      split at h
      ·rename_i a b ha hb
       rcases List.mem_cons.1 hf with rfl | hf
       ·exact mY ha
       ·exact ih hb f hf
      ·cases h
theorem AaA {n t c e:Nat} {ks:List CK} (h:DR P n t=some ks) (hu:P.underlying t=some (.array c e)): ∃ i,P.info? e=some i:=by
  cases n with
  | zero=>simp [DR]at h
  | succ n =>
    simp only[DR,hu]at h
    split at h
    ·rename_i a ha;exact mY ha
    ·cases h
theorem yI {P:Program}: ∀(l:List Field),(∀ f∈l,∃ i,P.info? f.type=some i)->l.mapM (fun f=>(P.info? f.type).map fun i=>(f.offset,i.size))=some (l.map fun f=>(f.offset,P.cellsOf f.type)):=by
  intro l
  induction l with
  | nil=>intro _;rfl
  | cons f l ih =>
    intro h
    obtain⟨i,hi⟩:=h f List.mem_cons_self
    have:=ih (fun g hg=>h g (List.mem_cons_of_mem _ hg))
    simp [List.mapM_cons,hi,this,Program.cellsOf]
theorem xQ {t:Nat} {ti:TI} (hT:Jl P t ti): ∃ i z,P.info? t=some i/\i.zero=some z/\N8 ti.d=Tm z/\Gl O Aa m w z.cells (ti.cs.map CK.zero):=by
  obtain⟨i,z,h1,h2,h3,h4,h5,h6⟩:=hT.i
  obtain⟨h7,h8⟩:=GM (O:=O) (Aa:=Aa) (m:=m) (w:=w) _ _ h5
  refine⟨i,z,h1,h4,h6,by rw[<- Array.length_toList,h7];simp,fun j hj=> ?_⟩
  have:=h8 j (by simpa using hj)
  have e:z.cells.toList.getD j undef=z.cells.getD j undef:=by
    rw[Array.getD_eq_getD_getElem?,List.getD_eq_getElem?_getD,Array.getElem?_toList]
  rw[<- e];exact this
theorem Aa6 {t:Nat} {ps:Array (Nat×Operand)} (hC:TOk P C) (ho:o.op= .build t ps) {xs:List (Nat×A)} (hl:xs.length=ps.size) (hx: ∀(j:Nat) (x:Nat×A) (p:Nat×Operand),xs[j]? =some x->ps[j]? =some p->p.1=x.1/\Ap O Aa m w (a.eval p.2) x.2)
    (hok:Ak (WL C t xs).ok):Pure P O Aa m a w o (WL C t xs):=by
  unfold WL at hok ⊢
  obtain⟨ti,ht,he⟩:=Bf hok
  rw[he]at hok ⊢;clear he
  obtain⟨cs,hcs,he⟩:=AA hok
  rw[he]at hok ⊢;clear he
  have hT:=hC.is ht
  obtain⟨i,z,h1,h2,_,h3⟩:=xQ (O:=O) (Aa:=Aa) (m:=m) (w:=w) hT
  have key: ∃ place:Nat->Option (Nat×Nat),(∀ i p,Qi P ti.d i=some p->place i=some p)/\ ∀ vs,Instr.fill place z.cells (ps.map (fun(i,x)=>(i,a.eval x))).toList=some vs->P.built t (ps.map (fun(i,x)=>(i,a.eval x))).toList=some vs:=by
    have hu:=hT.d
    cases hd:ti.d with
    | struct fs =>
      rw[hd]at hu
      have hinf:=y8 hT.ck hu
      refine⟨fun i=>(fs.toList.map fun f=>(f.offset,P.cellsOf f.type)).toArray[i]?,fun i p hp=> ?_,fun vs hvs=> ?_⟩
      ·simp only[Qi]at hp
       cases hf:fs[i]? with
       | none=>rw[hf]at hp;cases hp
       | some f =>
         rw[hf]at hp
         simp only[Option.bind_some]at hp
         cases hi:P.info? f.type with
         | none=>rw[hi]at hp;cases hp
         | some j =>
           rw[hi]at hp
           simp at hp
           subst hp
           simp [hf,Program.cellsOf,hi]
      ·unfold Program.built
       simp only[h1,hu,h2,yI _ hinf]
       exact hvs
    | array n e =>
      rw[hd]at hu
      obtain⟨ie,hie⟩:=AaA hT.ck hu
      refine⟨fun i=>some (i*ie.size,ie.size),fun i p hp=> ?_,fun vs hvs=> ?_⟩
      ·simp [Qi,hie]at hp;rw[<- hp]
      ·unfold Program.built
       simp only[h1,hu,h2,hie]
       exact hvs
    | _ =>
      have:=hok.cons.1
      rw[dP,hd]at this
      cases this
  obtain⟨place,hp,hb⟩:=key
  obtain⟨vs,h4,h5⟩:=uI (O:=O) (Aa:=Aa) (m:=m) (w:=w) hC hp xs (ps.map (fun(i,x)=>(i,a.eval x))).toList z.cells _ cs (by simp [hl]) (fun j x p hxj hpj=>by
    simp only[Array.toList_map,List.getElem?_map]at hpj
    cases hq:ps.toList[j]? with
    | none=>rw[hq]at hpj;cases hpj
    | some q =>
      rw[hq]at hpj
      injection hpj with hpj
      subst hpj
      exact hx j x q hxj (by simpa using hq)) h3 hcs
  have:=run_build (P:=P) w t _ _ (hb vs h4)
  refine⟨⟨.agg vs,?_,?_⟩,rfl,rfl,rfl⟩
  ·simp only[execOp,ho,Sem.run_bind,this,Result.andThen_ok,Sem.run_pure]
  ·exact⟨vs,rfl,h5.1,h5.2⟩
end
end Go.Proofs.YtadefjgbcapakaaGreatDoor.Vm
namespace Go.Proofs.YtadefjgbcapakaaGreatDoor.Vm
structure Sim (V0:Nat->Value) (O0:Own) (w0:World) (O:Own) (m:Nat->Value) (st:St) (a:Act) (w:World):Prop where
  defers:a.defers=[]
  size:a.tmps.size=st.tmps.length
  tmps: ∀ t,t<st.tmps.length->Ap O st.Aa m w (a.tmps.getD t undef) (st.tmps.getD t .undef)
  Aa: ∀ o x,Ag st.Aa o=some x->Ce O st.Aa m w o x
  frame:Moves O0 (fun o=>o≠255) w0 w
  own: ∀ b k o,b<w0.heap.size->O b k=some o->o≠255-> ∃ o0,O0 b k=some o0/\o0≠255
  ids: ∀ o x,Ag st.Aa o=some x->o≠255
  less: ∀ b k,b<w0.heap.size->O b k≠none->O0 b k≠none
  root: ∀ o,Ll o=true->(Ag st.Aa o).isSome->m o=V0 o
  Ry: ∀ b k,b<w0.heap.size->O0 b k=some 255->O b k=some 255
  inv:Inv O0 w0
theorem Sim.uS {V0:Nat->Value} {O0 O:Own} {w0 w:World} {m:Nat->Value} {st:St} {a:Act} (hS:Sim V0 O0 w0 O m st a w):Inv O w:=by
  refine⟨fun g j p ht=> ?_,fun g n ht=> ?_⟩
  ·obtain⟨h1,v,h2,h3⟩:=hS.inv.1 g j p ht
   have hb:=cell_lt h2
   refine⟨?_,v,?_,h3⟩
   ·cases h:O g j with
    | none=>rfl
    | some o=>exact absurd h1 (hS.less g j hb (by rw[h];simp))
   ·rw[hS.frame.cell hb (fun o ho=>by rw[h1]at ho;cases ho)];exact h2
  ·obtain⟨c,e,fr,h1,h2⟩:=hS.inv.2 g n ht
   have hg:g<w0.heap.size:=(Array.getElem?_eq_some_iff.1 h1).1
   rcases hS.frame.blk g hg with he | ⟨d,d',e',fr',k1,k2,k3,_⟩ | ⟨es,ck,es',ck',o,k1,_⟩
   ·exact⟨c,e,fr,by rw[he];exact h1,h2⟩
   ·rw[h1]at k1;injection k1 with k1;injection k1 with q1 q2 q3
    subst q1
    exact⟨d',e',fr',k2,k3.trans h2⟩
   ·rw[h1]at k1;injection k1 with k1;cases k1
theorem Moves.AgV {O0 O:Own} {T:Nat->Prop} {w0 w w':World} (h:Moves O0 (fun o=>o≠255) w0 w) (h':Moves O T w w') (hO: ∀ b k o,b<w0.heap.size->O b k=some o->o≠255-> ∃ o0,O0 b k=some o0/\o0≠255) (hT: ¬ T 255) :
    Moves O0 (fun o=>o≠255) w0 w':=by
  refine⟨h'.os.trans h.os,h'.tape.trans h.tape,h'.output.trans h.output,Nat.le_trans h.size h'.size,fun b hb=> ?_⟩
  have hb':b<w.heap.size:=Nat.lt_of_lt_of_le hb h.size
  have up: ∀ k o,O b k=some o->T o-> ∃ o',O0 b k=some o'/\o'≠255:=fun k o ho ht=>hO b k o hb ho (fun e=>hT (by rw[<- e];exact ht))
  rcases h'.blk b hb' with he' | ⟨c,c',e,fr,h1,h2,h3,h4,k,o,h5,h6,h7⟩ | ⟨es,ck,es',ck',o,h1,h2,h3,h4⟩
  ·rcases h.blk b hb with he | ⟨d,d',e,fr,h1,h2,h3,h4,h5⟩ | ⟨es,ck,es',ck',o,h1,h2,h3,h4⟩
   ·exact .inl (he'.trans he)
   ·exact .inr (.inl ⟨d,d',e,fr,h1,he'.trans h2,h3,h4,h5⟩)
   ·exact .inr (.inr ⟨es,ck,es',ck',o,h1,he'.trans h2,h3,h4⟩)
  ·obtain⟨o',ho',hne'⟩:=up k o h6 h7
   rcases h.blk b hb with he | ⟨d,d',e',fr',g1,g2,g3,g4,g5⟩ | ⟨es,ck,es',ck',o1,g1,g2,g3,g4⟩
   ·refine .inr (.inl ⟨c,c',e,fr,he▸h1,h2,h3,fun i hi=>h4 i (fun o'' ho'' ht=> ?_),k,o',h5,ho',hne'⟩)
    obtain⟨o3,ho3,hn3⟩:=up i o'' ho'' ht
    exact hi o3 ho3 hn3
   ·rw[g2]at h1
    injection h1 with h1;injection h1 with q1 q2 q3
    subst q1;subst q2;subst q3
    refine .inr (.inl ⟨d,c',e',fr',g1,h2,h3.trans g3,fun i hi=> ?_,k,o',by omega,ho',hne'⟩)
    rw[h4 i (fun o'' ho'' ht=> ?_),g4 i hi]
    obtain⟨o3,ho3,hn3⟩:=up i o'' ho'' ht
    exact hi o3 ho3 hn3
   ·rw[g2]at h1;injection h1 with h1;cases h1
  ·obtain⟨o',ho',hne'⟩:=up 0 o h3 h4
   rcases h.blk b hb with he | ⟨d,d',e',fr',g1,g2,g3,g4,g5⟩ | ⟨es1,ck1,es1',ck1',o1,g1,g2,g3,g4⟩
   ·exact .inr (.inr ⟨es,ck,es',ck',o',he▸h1,h2,ho',hne'⟩)
   ·rw[g2]at h1;injection h1 with h1;cases h1
   ·exact .inr (.inr ⟨es1,ck1,es',ck',o1,g1,h2,g3,g4⟩)
theorem bW (tmps:List A) (d:Option Tmp) (v:A) (t:Nat) (h:t<tmps.length):(put tmps d v).getD t .undef=if d=some t then v else tmps.getD t .undef:=by
  cases d with
  | none=>simp [put]
  | some d =>
    simp only[put,List.getD_eq_getElem?_getD,List.getElem?_set]
    by_cases hd:d=t
    ·subst hd;simp [h]
    ·simp [hd]
theorem KQ (tmps:List A) (d:Option Tmp) (v:A):(put tmps d v).length=tmps.length:=by cases d<;>simp [put]
theorem xR (a:Act) (d:Option Tmp) (v:Value) (t:Nat) (h:t<a.tmps.size):(a.put d v).tmps.getD t undef=if d=some t then v else a.tmps.getD t undef:=by
  cases d with
  | none=>simp [Act.put]
  | some d =>
    simp only[Act.put,Array.getD_eq_getD_getElem?,Array.getElem?_setIfInBounds]
    by_cases hd:d=t
    ·subst hd;simp [h]
    ·simp [hd]
theorem xU (a:Act) (d:Option Tmp) (v:Value):(a.put d v).tmps.size=a.tmps.size:=by cases d<;>simp [Act.put]
theorem oD (a:Act) (d:Option Tmp) (v:Value):(a.put d v).defers=a.defers:=by cases d<;>rfl
theorem Qd {st:St} {t n:Nat} (ht:t<st.tmps.length) (h:n∈(st.tmps.getD t .undef).ids):n∈st.ids:=List.mem_append_left _ (Hm ht h)
theorem ZJ {l:List (Nat×Obj)} {o:Nat} {x:Obj} (h:Ag l o=some x):(o,x)∈l:=by
  induction l with
  | nil=>cases h
  | cons p r ih =>
    obtain⟨q,y⟩:=p
    rw[BO]at h
    by_cases hq:q=o
    ·rw[if_pos hq]at h;injection h with h;subst h;subst hq;exact List.mem_cons_self
    ·rw[if_neg hq]at h;exact List.mem_cons_of_mem _ (ih h)
theorem KG {st:St} {o n:Nat} {x:Obj} (ho:Ag st.Aa o=some x) (h:n∈x.ids):n∈st.ids :=
  List.mem_append_right _ (List.mem_flatMap.2 ⟨(o,x),ZJ ho,h⟩)
structure EK (st:St) (n:Nat):Prop where
  ids:n∉st.ids
  Aa:Ag st.Aa n=none
  ne:n≠255
  root:Ll n=false
theorem EK.both {st:St} {n:Nat} (h:EK st n):n∉st.ids/\Ll n=false:=⟨h.ids,h.root⟩
theorem Dv {st:St} {n:Nat} (h:st.fresh n=true):EK st n:=by
  unfold St.fresh at h
  simp only[Bool.and_eq_true,Bool.not_eq_true',Option.isNone_iff_eq_none]at h
  refine⟨fun hm=> ?_,h.1.1.2,fun e=> ?_,h.2⟩
  ·have:has st.ids n=true:=List.any_eq_true.2 ⟨n,hm,by simp⟩
   rw[this]at h;cases h.1.1.1
  ·have:=h.1.2;rw[e]at this;cases this
theorem Sim.next {V0:Nat->Value} {O0 O O':Own} {w0 w w':World} {m m':Nat->Value} {st st':St} {a:Act} {T Nw:Nat->Prop} {d:Option Tmp} {v:Value} {x:A}
    (hS:Sim V0 O0 w0 O m st a w) (hM:Moves O T w w') (hP:Passes O O' T w.heap.size) (hO: ∀ b k,b<w.heap.size->O' b k≠none->O b k≠none)
    (hE:F5 st.Aa m st'.Aa m' Nw) (hN: ∀ n,Nw n->n∉st.ids/\Ll n=false)
    (hT: ∀ o,T o->(Ag st.Aa o).isSome)
    (hobj: ∀ o y,Ag st'.Aa o=some y->(¬ T o/\Ag st.Aa o=some y/\m' o=m o)\/(Ce O' st'.Aa m' w' o y/\o≠255))
    (ht:st'.tmps=put st.tmps d x) (hx:d≠none->Ap O' st'.Aa m' w' v x):Sim V0 O0 w0 O' m' st' (a.put d v) w':=by
  have hpr:=hM.AX hP
  have hT255: ¬ T 255:=fun h=>by
    obtain⟨x,hx⟩:=Option.isSome_iff_exists.1 (hT 255 h)
    exact hS.ids 255 x hx rfl
  refine⟨by rw[oD];exact hS.defers,by rw[xU,ht,KQ];exact hS.size,fun t htl=> ?_,fun o y ho=> ?_,hS.frame.AgV hM hS.own hT255,fun b k q hb h hne=> ?_,fun o y ho=> ?_,fun b k hb h=>hS.less b k hb (hO b k (Nat.lt_of_lt_of_le hb hS.frame.size) h),fun o hr ho=> ?_,fun b k hb h=>hP.keep b k 255 (Nat.lt_of_lt_of_le hb hS.frame.size) (hS.Ry b k hb h) hT255,hS.inv⟩
  ·rw[ht,KQ]at htl
   rw[ht,bW _ _ _ _ htl,xR _ _ _ _ (by rw[hS.size];exact htl)]
   by_cases hd:d=some t
   ·rw[if_pos hd,if_pos hd];exact hx (by rw[hd];simp)
   ·rw[if_neg hd,if_neg hd]
    exact(hS.tmps t htl).step hpr hE (fun i hi hn=>(hN i hn).1 (Qd htl hi))
  ·rcases hobj o y ho with ⟨h1,h2,h3⟩ | h
   ·exact(hS.Aa o y h2).step hM hP hE h1 h3 (fun i hi hn=>(hN i hn).1 (KG h2 hi))
   ·exact h.1
  ·have hb':=Nat.lt_of_lt_of_le hb hS.frame.size
   cases hq:O b k with
   | none=>exact absurd hq (hO b k hb' (by rw[h];simp))
   | some r =>
     by_cases hr:r=255
     ·subst hr
      have:=hP.keep b k 255 hb' hq hT255
      rw[h]at this;injection this with this;exact absurd this hne
     ·exact hS.own b k r hb hq hr
  ·rcases hobj o y ho with ⟨_,h2,_⟩ | h
   ·exact hS.ids o y h2
   ·exact h.2
  ·obtain⟨y,hy⟩:=Option.isSome_iff_exists.1 ho
   rcases hE o y hy with h | ⟨x,h1,_,h3⟩
   ·rw[(hN o h).2]at hr;cases hr
   ·rw[h3];exact hS.root o hr (by rw[h1];rfl)
theorem Sim.put {V0:Nat->Value} {O0 O:Own} {w0 w:World} {m:Nat->Value} {st:St} {a:Act} (hS:Sim V0 O0 w0 O m st a w) (d:Option Tmp) {v:Value} {x:A} (hx:Ap O st.Aa m w v x) :
    Sim V0 O0 w0 O m {st with tmps:=Vm.put st.tmps d x} (a.put d v) w :=
  hS.next (st':= {st with tmps:=Vm.put st.tmps d x}) (T:=fun _=>False) (Nw:=fun _=>False) (Moves.refl O _ w) ⟨fun _ _ _ h=>h,fun _ _ _ _ h _=>h⟩ (fun _ _ _ h=>h) (fun _ y ho=>.inr ⟨y,ho,rfl,rfl⟩) (fun _ h=>h.elim) (fun _ h=>h.elim)
    (fun _ _ ho=>.inl ⟨id,ho,rfl⟩) rfl (fun _=>hx)
def Good (P:Program) (V0:Nat->Value) (O0:Own) (w0:World) (st':St) (o:Oper) (a:Act) (w:World):Prop :=
  ∀(next:Act->World->Prop) (Q:Exit->Act->World->Prop),(∀ O' m' a' w',Sim V0 O0 w0 O' m' st' a' w'->next a' w')->o.wp P a w next Q
theorem Pure.good {P:Program} {V0:Nat->Value} {O0 O:Own} {w0 w:World} {m:Nat->Value} {st:St} {a:Act} {o:Oper} {δ :Dl} (hS:Sim V0 O0 w0 O m st a w) (h:Pure P O st.Aa m a w o δ):Good P V0 O0 w0 (apply st o δ) o a w:=by
  intro next Q hn
  obtain⟨v,hr,hx⟩:=h.run
  unfold Oper.wp
  rw[hr,Oper.upon_value]
  refine hn O m _ _ ?_
  have:apply st o δ = {st with tmps:=put st.tmps o.dst δ.val}:=by
    unfold apply;rw[h.new,h.upd,h.del];rfl
  rw[this]
  exact hS.put o.dst hx
theorem aZ {V0:Nat->Value} {O0 O:Own} {w0 w:World} {m:Nat->Value} {st:St} {a:Act} (hS:Sim V0 O0 w0 O m st a w) (x:Operand):Ap O st.Aa m w (a.eval x) (BG st.tmps x):=by
  have cell: ∀ v:Value,Ap O st.Aa m w v (Eg v)/\(v.oneCell'=true->Au O st.Aa m w v (Eg v)):=by
    intro v
    unfold Eg
    split
    ·exact⟨.Fg _,fun _=>Ai.bool _⟩
    ·exact⟨.mkInt _ _,fun _=>Ai.int _ _⟩
    ·exact⟨.mkStr _ rfl,fun _=>Ai.str _⟩
    ·exact⟨rfl,fun _=>rfl⟩
    ·exact⟨Ai.Cc,fun _=>Ai.Cc⟩
    ·exact⟨Ai.QQ,fun _=>Ai.QQ⟩
    ·exact⟨trivial,fun h=>h⟩
  cases x with
  | tmp t =>
    by_cases ht:t<st.tmps.length
    ·exact hS.tmps t ht
    ·have:BG st.tmps (.tmp t)= .undef:=by
       simp [BG,List.getD_eq_getElem?_getD,List.getElem?_eq_none (Nat.le_of_not_lt ht)]
     rw[this];trivial
  | const v =>
    show Ap O st.Aa m w v (ofConst v)
    unfold ofConst
    split
    ·rename_i vs
     cases hall:vs.toList.all Value.oneCell' with
     | false=>trivial
     | true =>
       rw[List.all_eq_true]at hall
       refine⟨vs,rfl,by simp,fun j hj=> ?_⟩
       have hj':j<vs.size:=by simpa using hj
       have e1:vs.getD j undef=vs[j]:=by rw[Array.getD_eq_getD_getElem?,Array.getElem?_eq_getElem hj'];rfl
       have e2:(vs.toList.map Eg).getD j .undef=Eg vs[j]:=by
         simp [List.getD_eq_getElem?_getD,hj']
       rw[e1,e2]
       exact(cell _).2 (hall _ (by simp))
    ·exact(cell v).1
  | global g=>trivial
  | func f=>exact Ai.fn f
theorem Moves.push {O:Own} {T:Nat->Prop} {w:World} (x:Go.Obj):Moves O T w (w.alloc x) :=
  ⟨rfl,rfl,rfl,by show _<=(w.heap.push x).size;simp,fun b hb=>.inl (heap_alloc_old w x hb)⟩
theorem Uz (w:World) (x:Go.Obj):(w.alloc x).heap[w.heap.size]? =some x:=by show(w.heap.push x)[_]? =_;simp
theorem Moves.drew (O:Own) (T:Nat->Prop) (w:World):Moves O T w w.drew:=⟨rfl,rfl,rfl,Nat.le_refl _,fun _ _=>.inl rfl⟩
theorem Moves.then {O:Own} {T:Nat->Prop} {w w' w'':World} (h:Moves O T w w') (h':Moves O T w' w''):Moves O T w w'':=by
  refine⟨h'.os.trans h.os,h'.tape.trans h.tape,h'.output.trans h.output,Nat.le_trans h.size h'.size,fun b hb=> ?_⟩
  have hb':b<w'.heap.size:=Nat.lt_of_lt_of_le hb h.size
  rcases h'.blk b hb' with he' | ⟨c,c',e,fr,h1,h2,h3,h4,h5⟩ | ⟨es,ck,es',ck',o,h1,h2,h3,h4⟩
  ·rcases h.blk b hb with he | ⟨d,d',e,fr,h1,h2,h3,h4,h5⟩ | ⟨es,ck,es',ck',o,h1,h2,h3,h4⟩
   ·exact .inl (he'.trans he)
   ·exact .inr (.inl ⟨d,d',e,fr,h1,he'.trans h2,h3,h4,h5⟩)
   ·exact .inr (.inr ⟨es,ck,es',ck',o,h1,he'.trans h2,h3,h4⟩)
  ·rcases h.blk b hb with he | ⟨d,d',e',fr',g1,g2,g3,g4,g5⟩ | ⟨es,ck,es',ck',o,g1,g2,g3,g4⟩
   ·exact .inr (.inl ⟨c,c',e,fr,he▸h1,h2,h3,h4,h5⟩)
   ·rw[g2]at h1
    injection h1 with h1;injection h1 with q1 q2 q3
    subst q1;subst q2;subst q3
    exact .inr (.inl ⟨d,c',e',fr',g1,h2,h3.trans g3,fun i hi=>by rw[h4 i hi,g4 i hi],g5⟩)
   ·rw[g2]at h1;injection h1 with h1;cases h1
  ·rcases h.blk b hb with he | ⟨d,d',e',fr',g1,g2,g3,g4,g5⟩ | ⟨es1,ck1,es1',ck1',o1,g1,g2,g3,g4⟩
   ·exact .inr (.inr ⟨es,ck,es',ck',o,he▸h1,h2,h3,h4⟩)
   ·rw[g2]at h1;injection h1 with h1;cases h1
   ·exact .inr (.inr ⟨es1,ck1,es',ck',o1,g1,h2,g3,g4⟩)
theorem Moves.row {O:Own} {T:Nat->Prop} {w w':World} {g:Nat} {c c':Array Value} {e:TypeId} {fr:Nat×Nat} (hos:w'.os=w.os) (ht:w'.tape=w.tape) (hout:w'.output=w.output) (hs:w'.heap.size=w.heap.size)
    (hg:w.heap[g]? =some (.cells c e fr)) (hg':w'.heap[g]? =some (.cells c' e fr)) (hoth: ∀ b,b≠g->w'.heap[b]? =w.heap[b]?) (hsz:c'.size=c.size) (hk: ∀ k,(∀ o,O g k=some o-> ¬ T o)->c'[k]? =c[k]?)
    (hex:(∃ k o,k<c.size/\O g k=some o/\T o)\/c'=c):Moves O T w w':=by
  refine⟨hos,ht,hout,by omega,fun b _=> ?_⟩
  by_cases hb:b=g
  ·subst hb
   rcases hex with hex | hex
   ·exact .inr (.inl ⟨c,c',e,fr,hg,hg',hsz,hk,hex⟩)
   ·subst hex;exact .inl (hg'.trans hg.symm)
  ·exact .inl (hoth b hb)
theorem Moves.map {O:Own} {T:Nat->Prop} {w w':World} {r:Nat} {es es':Array MapEntry} {ck ck':Nat} (hos:w'.os=w.os) (ht:w'.tape=w.tape) (hout:w'.output=w.output) (hs:w'.heap.size=w.heap.size)
    (hg:w.heap[r]? =some (.map es ck)) (hg':w'.heap[r]? =some (.map es' ck')) (hoth: ∀ b,b≠r->w'.heap[b]? =w.heap[b]?) {o:Nat} (ho:O r 0=some o) (hT:T o):Moves O T w w':=by
  refine⟨hos,ht,hout,by omega,fun b _=> ?_⟩
  by_cases hb:b=r
  ·subst hb;exact .inr (.inr ⟨es,ck,es',ck',o,hg,hg',ho,hT⟩)
  ·exact .inl (hoth b hb)
theorem xC (w:World) (b k:Nat) (v:Value) {c:Array Value} {e:TypeId} {fr:Nat×Nat} (hg:w.heap[b]? =some (.cells c e fr)) :
    (w.setCell (at' b k) v).heap[b]? =some (.cells (c.setIfInBounds k v) e fr)/\(∀ b',b'≠b->(w.setCell (at' b k) v).heap[b']? =w.heap[b']?)/\(w.setCell (at' b k) v).heap.size=w.heap.size:=by
  refine⟨?_,fun b' hb=> ?_,by simp [World.setCell]⟩
  ·simp [World.setCell,Array.getElem?_modify,hg]
  ·simp only[World.setCell,Array.getElem?_modify]
   rw[if_neg (fun h=>hb h.symm)]
theorem Oh (b:Nat): ∀(vs:List Value) (k:Nat) (w:World) {c:Array Value} {e:TypeId} {fr:Nat×Nat},w.heap[b]? =some (.cells c e fr)->k+vs.length<=c.size ->
    ∃ c',(w.setCells b k vs).heap[b]? =some (.cells c' e fr)/\c'.size=c.size/\(∀ i,c'.getD i undef=if k<=i/\i<k+vs.length then vs.getD (i - k) undef else c.getD i undef) /\
      (∀ b',b'≠b->(w.setCells b k vs).heap[b']? =w.heap[b']?)/\(w.setCells b k vs).heap.size=w.heap.size/\(w.setCells b k vs).os=w.os/\(w.setCells b k vs).tape=w.tape/\(w.setCells b k vs).output=w.output:=by
  intro vs
  induction vs with
  | nil=>intro k w c e fr hg _;exact⟨c,hg,rfl,fun i=>by rw[if_neg (by simp)],fun _ _=>rfl,rfl,rfl,rfl,rfl⟩
  | cons v vs ih =>
    intro k w c e fr hg hle
    simp only[List.length_cons]at hle
    obtain⟨h1,h2,h3⟩:=xC w b k v hg
    obtain⟨c',h4,h5,h6,h7,h8,h9,h10,h11⟩:=ih (k+1) (w.setCell (at' b k) v) h1 (by simp;omega)
    refine⟨c',h4,by rw[h5];simp,fun i=> ?_,fun b' hb=>(h7 b' hb).trans (h2 b' hb),h8.trans h3,h9,h10,h11⟩
    rw[h6 i]
    simp only[List.length_cons]
    by_cases hi:k+1<=i/\i<k+1+vs.length
    ·rw[if_pos hi,if_pos (by omega),show i - k=(i - (k+1))+1 from by omega];rfl
    ·rw[if_neg hi]
     by_cases hk:i=k
     ·subst hk
      rw[if_pos (by omega),Array.getD_eq_getD_getElem?,Array.getElem?_setIfInBounds,if_pos rfl,if_pos (by omega)]
      simp
     ·rw[if_neg (by omega),Array.getD_eq_getD_getElem?,Array.getElem?_setIfInBounds,if_neg (by omega),<- Array.getD_eq_getD_getElem?]
theorem OB: ∀(ks:List CK) (cs:List A) (id:Nat),(BK id ks cs).1.length=cs.length /\
    (∀ j,j<cs.length->(BK id ks cs).1.getD j .undef=cs.getD j .undef\/(cs.getD j .undef= .BU/\(BK id ks cs).1.getD j .undef= .own (id+j)/\ ∃ e sz,(id+j,Obj.arr e false ⟨sz,[]⟩)∈(BK id ks cs).2)) /\
    (∀ p∈(BK id ks cs).2,(∃ e sz,p.2= .arr e false ⟨sz,[]⟩)/\ ∃ j,j<cs.length/\p.1=id+j):=by
  intro ks
  induction ks with
  | nil=>intro cs id;refine⟨rfl,fun j _=>.inl rfl,fun p hp=> ?_⟩;simp [BK]at hp
  | cons k ks ih =>
    intro cs id
    cases cs with
    | nil=>refine⟨by cases k<;>rfl,fun j hj=>by simp at hj,fun p hp=> ?_⟩;cases k<;>simp [BK]at hp
    | cons c cs =>
      obtain⟨h1,h2,h3⟩:=ih cs (id+1)
      have other:BK id (k::ks) (c::cs)=(c::(BK (id+1) ks cs).1,(BK (id+1) ks cs).2) ->
          (BK id (k::ks) (c::cs)).1.length=(c::cs).length /\
          (∀ j,j<(c::cs).length->(BK id (k::ks) (c::cs)).1.getD j .undef=(c::cs).getD j .undef\/((c::cs).getD j .undef= .BU/\(BK id (k::ks) (c::cs)).1.getD j .undef= .own (id+j)/\ ∃ e sz,(id+j,Obj.arr e false ⟨sz,[]⟩)∈(BK id (k::ks) (c::cs)).2)) /\
          (∀ p∈(BK id (k::ks) (c::cs)).2,(∃ e sz,p.2= .arr e false ⟨sz,[]⟩)/\ ∃ j,j<(c::cs).length/\p.1=id+j):=by
        intro he
        rw[he]
        refine⟨by simp [h1],fun j hj=> ?_,fun p hp=> ?_⟩
        ·cases j with
         | zero=>exact .inl rfl
         | succ j =>
           have:=h2 j (by simpa using hj)
           rw[show id+(j+1)=id+1+j from by omega]
           simpa using this
        ·obtain⟨ha,j,hj,hb⟩:=h3 p hp
         exact⟨ha,j+1,by simpa using hj,by omega⟩
      by_cases hc:c= .BU/\ ∃ e sz,k= .sl e sz
      ·obtain⟨hc,e,sz,hk⟩:=hc
       subst hc;subst hk
       have he:BK id (.sl e sz::ks) (.BU::cs)=(.own id::(BK (id+1) ks cs).1,(id,.arr e false ⟨sz,[]⟩)::(BK (id+1) ks cs).2):=rfl
       rw[he]
       refine⟨by simp [h1],fun j hj=> ?_,fun p hp=> ?_⟩
       ·cases j with
        | zero=>exact .inr ⟨rfl,rfl,e,sz,List.mem_cons_self⟩
        | succ j =>
          rcases h2 j (by simpa using hj)with h | ⟨ha,hb,e',sz',hm⟩
          ·exact .inl (by simpa using h)
          ·refine .inr ⟨by simpa using ha,?_,e',sz',List.mem_cons_of_mem _ ?_⟩
           ·rw[show id+(j+1)=id+1+j from by omega];simpa using hb
           ·rw[show id+(j+1)=id+1+j from by omega];exact hm
       ·rcases List.mem_cons.1 hp with rfl | hp
        ·exact⟨⟨e,sz,rfl⟩,0,by simp,rfl⟩
        ·obtain⟨ha,j,hj,hb⟩:=h3 p hp
         exact⟨ha,j+1,by simpa using hj,by omega⟩
      ·refine other ?_
       cases k<;>cases c<;>first | rfl | exact absurd ⟨rfl,_,_,rfl⟩ hc
theorem FH {l:List Nat} {n:Nat}:has l n=true↔n∈l:=by
  unfold has
  rw[List.any_eq_true]
  constructor
  ·rintro ⟨x,hx,he⟩
   have:=Nat.eq_of_beq_eq_true he
   subst this;exact hx
  ·intro h;exact⟨n,h,by simp⟩
theorem Ab3: ∀ {l:List (Nat×Obj)},nodup (l.map (·.1))=true-> ∀ {n x y},(n,x)∈l->(n,y)∈l->x=y:=by
  intro l
  induction l with
  | nil=>intro _ n x y h;cases h
  | cons p l ih =>
    intro h n x y hx hy
    simp only[List.map_cons,nodup,Bool.and_eq_true,Bool.not_eq_true']at h
    have hno: ∀ z,(p.1,z)∉l:=by
      intro z hz
      have:has (l.map (·.1)) p.1=true:=FH.2 (List.mem_map.2 ⟨_,hz,rfl⟩)
      rw[this]at h;cases h.1
    rcases List.mem_cons.1 hx with rfl | hx'
    ·rcases List.mem_cons.1 hy with e | hy'
     ·injection e with _ e;exact e.symm
     ·exact absurd hy' (hno y)
    ·rcases List.mem_cons.1 hy with rfl | hy'
     ·exact absurd hx' (hno x)
     ·exact ih h.2 hx' hy'
theorem JV {Aa:List (Nat×Obj)} {upd new:List (Nat×Obj)} {del:List Nat} {o:Nat} {x:Obj} (h:Ag (Aj (Ba (Aj Aa upd) del) new) o=some x) :
    (o,x)∈new\/((∀ y,(o,y)∉new)/\o∉del/\((o,x)∈upd\/((∀ y,(o,y)∉upd)/\Ag Aa o=some x))):=by
  by_cases hn: ∃ p∈new,p.1=o
  ·obtain⟨y,hy,he⟩:=DU new (Ba (Aj Aa upd) del) o hn
   rw[he]at h;injection h with h;subst h;exact .inl hy
  ·have hn': ∀ y,(o,y)∉new:=fun y hy=>hn ⟨_,hy,rfl⟩
   rw[Cj _ _ _ (fun p hp e=>hn ⟨p,hp,e⟩),HY]at h
   by_cases hd:o∈del
   ·rw[if_pos hd]at h;cases h
   ·rw[if_neg hd]at h
    refine .inr ⟨hn',hd,?_⟩
    by_cases hu: ∃ p∈upd,p.1=o
    ·obtain⟨y,hy,he⟩:=DU upd Aa o hu
     rw[he]at h;injection h with h;subst h;exact .inl hy
    ·rw[Cj _ _ _ (fun p hp e=>hu ⟨p,hp,e⟩)]at h
     exact .inr ⟨fun y hy=>hu ⟨_,hy,rfl⟩,h⟩
theorem TY {Aa:List (Nat×Obj)} {upd new:List (Nat×Obj)} {del:List Nat} (hnd:nodup (new.map (·.1))=true) {o:Nat} {x:Obj} (h:(o,x)∈new):Ag (Aj (Ba (Aj Aa upd) del) new) o=some x:=by
  obtain⟨y,hy,he⟩:=DU new (Ba (Aj Aa upd) del) o ⟨_,h,rfl⟩
  rw[he,Ab3 hnd h hy]
section
variable {P:Program} {C:Ctx} {V0:Nat->Value} {O0 O:Own} {w0 w:World} {m:Nat->Value} {st:St} {a:Act} {o:Oper}
theorem Au.BU {Aa:List (Nat×Obj)} {v:Value} (h:Au O Aa m w v .BU):v= .slice none 0 0:=h
theorem Gl.zS {O':Own} {w':World} {objs':List (Nat×Obj)} {m':Nat->Value} {vs:Array Value} {cs:List A} {ks:List CK} {id:Nat} {Nw:Nat->Prop} (h:Gl O st.Aa m w vs cs) (hp:DN O w O' w') (hE:F5 st.Aa m objs' m' Nw)
    (hN: ∀ j,j<cs.length-> ∀ i∈(cs.getD j .undef).Dn,¬ Nw i) (hnew: ∀ p∈(BK id ks cs).2,Ag objs' p.1=some p.2/\m' p.1= .slice none 0 0):Gl O' objs' m' w' vs (BK id ks cs).1:=by
  obtain⟨h1,h2,_⟩:=OB ks cs id
  refine⟨by rw[h1];exact h.1,fun j hj=> ?_⟩
  rw[h1]at hj
  rcases h2 j hj with he | ⟨hn,he,e,sz,hm⟩
  ·rw[he];exact(h.2 j hj).step hp hE (hN j hj)
  ·have:=h.2 j hj
   rw[hn]at this
   have hv:=this.BU
   rw[he,hv]
   obtain⟨g1,g2⟩:=hnew _ hm
   dsimp only at g1 g2
   refine⟨rfl,?_⟩
   rw[g1];exact g2.symm
theorem WQ {x:A} (hv:x.isVal=true) {j:Nat} (hj:j<x.cells.length) {i:Nat} (hi:i∈(x.cells.getD j .undef).Dn):i∈x.ids:=by
  cases x with
  | agg cs=>exact Hm (f:=A.Dn) hj hi
  | undef=>cases hv
  | tup _=>cases hv
  | usl _ _=>cases hv
  | ump _=>cases hv
  | box _=>cases hv
  | cbx _ _=>cases hv
  | cnd _ _=>cases hv
  | _ =>
    have:j=0:=by simpa [A.cells]using hj
    subst this
    exact hi
theorem mW {vs:Array Value} {cs:List A} {ks:List CK} {t:Nat} {r:Value} {y:A} {okl:List Bool} (hS:Sim V0 O0 w0 O m st a w) (hcs:Gl O st.Aa m w vs cs) (hids: ∀ j,j<cs.length-> ∀ i∈(cs.getD j .undef).Dn,i∈st.ids\/(Ag st.Aa i).isSome) {d:Nat} (hd:o.dst=some d)
    (hr:(execOp a.eval o).run P w= .ok (.value r) (w.alloc (.cells vs t)))
    (hy: ∀(O':Own) (objs':List (Nat×Obj)) (m':Nat->Value) (w':World) (c:List A),Ag objs' (b2 d)=some (.box c)->m' (b2 d)= .pointer (some (at' w.heap.size 0))->Ap O' objs' m' w' r y)
    (hfr: ∀ p∈(b2 d,Obj.box (BK (b2 d+1) ks cs).1)::(BK (b2 d+1) ks cs).2,st.fresh p.1=true) (hnd:nodup (((b2 d,Obj.box (BK (b2 d+1) ks cs).1)::(BK (b2 d+1) ks cs).2).map (·.1))=true) :
    Good P V0 O0 w0 (apply st o {ok:=okl,val:=y,new:=(b2 d,.box (BK (b2 d+1) ks cs).1)::(BK (b2 d+1) ks cs).2}) o a w:=by
  intro next Q hn
  unfold Oper.wp
  rw[hr,Oper.upon_value]
  let ad:=BK (b2 d+1) ks cs
  let m':Nat->Value:=fun i=>if i=b2 d then .pointer (some (at' w.heap.size 0))else if has (ad.2.map (·.1)) i then .slice none 0 0 else m i
  let O':Own:=fun b k=>if b=w.heap.size then some (b2 d)else O b k
  let Nw:Nat->Prop:=fun i=> ∃ p∈((b2 d,Obj.box ad.1)::ad.2),p.1=i
  have hNw: ∀ i,Nw i->EK st i:=by
    rintro i ⟨p,hp,rfl⟩
    exact Dv (hfr p hp)
  refine hn O' m' _ _ ?_
  have hobjs:(apply st o {ok:=okl,val:=y,new:=(b2 d,.box ad.1)::ad.2}).Aa=Aj (Ba (Aj st.Aa []) []) ((b2 d,.box ad.1)::ad.2):=rfl
  have hnewO: ∀ p∈((b2 d,Obj.box ad.1)::ad.2),Ag (Aj (Ba (Aj st.Aa []) []) ((b2 d,.box ad.1)::ad.2)) p.1=some p.2:=fun p hp=>TY hnd (by exact hp)
  have hb2:has (ad.2.map (·.1)) (b2 d)=false:=by
    simp only[List.map_cons,nodup,Bool.and_eq_true,Bool.not_eq_true']at hnd
    exact hnd.1
  have hmad: ∀ p∈ad.2,m' p.1= .slice none 0 0:=by
    intro p hp
    have h3:has (ad.2.map (·.1)) p.1=true:=FH.2 (List.mem_map.2 ⟨p,hp,rfl⟩)
    have h4:p.1≠b2 d:=fun e=>by rw[e,hb2]at h3;cases h3
    show(if p.1=b2 d then _ else _)=_
    rw[if_neg h4,if_pos h3]
  have hE:F5 st.Aa m (Aj (Ba (Aj st.Aa []) []) ((b2 d,.box ad.1)::ad.2)) m' Nw:=by
    intro i y hy
    rcases JV hy with hy' | ⟨hno,_,hy' | ⟨_,hy'⟩⟩
    ·exact .inl ⟨_,hy',rfl⟩
    ·cases hy'
    ·refine .inr ⟨y,hy',rfl,?_⟩
     have h3:i≠b2 d:=fun e=>hno (.box ad.1) (by rw[e];exact List.mem_cons_self)
     have h4:has (ad.2.map (·.1)) i=false:=by
       cases hh:has (ad.2.map (·.1)) i with
       | false=>rfl
       | true =>
         obtain⟨p,hp,hpe⟩:=List.mem_map.1 (FH.1 hh)
         exact absurd (List.mem_cons_of_mem _ (by rw[<- hpe];exact hp)) (hno p.2)
     show(if i=b2 d then _ else _)=_
     rw[if_neg h3,h4];rfl
  have hM:Moves O (fun _=>False) w (w.alloc (.cells vs t)):=Moves.push _
  have hP:Passes O O' (fun _=>False) w.heap.size:=⟨fun b k hb h=>by show(if b=_ then _ else _)=_;rw[if_neg (Nat.ne_of_lt hb)];exact h,fun b k q hb h _=>by show(if b=_ then _ else _)=_;rw[if_neg (Nat.ne_of_lt hb)];exact h⟩
  have hpr:=hM.AX hP
  have hnewblk: ∀ k,(w.alloc (.cells vs t)).cell? (at' w.heap.size k)=vs[k]? :=by
    intro k;exact World.cell?_alloc_at vs t _ _ rfl
  refine hS.next (T:=fun _=>False) (Nw:=Nw) hM hP (fun b k hb h=> ?_) hE (fun n hn'=>(hNw n hn').both) (fun _ h=>h.elim) (fun q y hy=> ?_) rfl (fun _=> ?_)
  ·have:O' b k=O b k:=if_neg (Nat.ne_of_lt hb)
   rw[this]at h;exact h
  ·rcases JV hy with hy' | ⟨hno,_,hy' | ⟨_,hy'⟩⟩
   ·right
    rcases List.mem_cons.1 hy' with e | hy'
    ·injection e with e1 e2
     subst e1;subst e2
     refine⟨⟨w.heap.size,0,if_pos rfl,fun j hj=> ?_⟩,(hNw _ ⟨_,List.mem_cons_self,rfl⟩).ne⟩
     have hcs':Gl O' _ m' _ vs ad.1:=hcs.zS (ks:=ks) (id:=b2 d+1) hpr hE (fun j hj i hi hn'=>by
       rcases hids j hj i hi with hh | hh
       ·exact(hNw i hn').1 hh
       ·rw[(hNw i hn').2]at hh;cases hh) (fun p hp=>⟨hnewO p (List.mem_cons_of_mem _ hp),hmad p hp⟩)
     have hjs:j<vs.size:=by rw[hcs'.1];exact hj
     refine⟨if_pos rfl,by simp only[World.frozen?,Uz];simp,vs.getD j undef,?_,hcs'.2 j hj⟩
     rw[hnewblk]
     simp only[Nat.zero_add]
     exact getD_eq hjs
    ·obtain⟨⟨e,sz,h3⟩,_⟩:=(OB ks cs (b2 d+1)).2.2 _ hy'
     dsimp only at h3
     subst h3
     exact⟨⟨by simp [Sl.es],.inl ⟨trivial,rfl,hmad _ hy'⟩⟩,(hNw _ ⟨_,List.mem_cons_of_mem _ hy',rfl⟩).ne⟩
   ·cases hy'
   ·left
    refine⟨id,hy',?_⟩
    rcases hE q y hy with hn' | ⟨_,h3,_,h4⟩
    ·rw[(hNw q hn').2]at hy';cases hy'
    ·exact h4
  ·exact hy _ _ _ _ _ (hnewO (b2 d,.box ad.1) List.mem_cons_self) (if_pos rfl)
theorem tC {t:Nat} {v:Value} {x:A} (hC:TOk P C) (hS:Sim V0 O0 w0 O m st a w) (hx:Ap O st.Aa m w v x) (hids: ∀ i∈x.ids,i∈st.ids\/(Ag st.Aa i).isSome) {d:Nat} (hd:o.dst=some d)
    (hrun: ∀ ti,C.T t=some ti->x.isVal=true->v.cells.size=ti.cs.length->(execOp a.eval o).run P w= .ok (.value (.pointer (some (at' w.heap.size 0)))) (w.alloc (.cells v.cells t)))
    (hok:Ak (Iz C d t x).ok) (hfr: ∀ p∈(Iz C d t x).new,st.fresh p.1=true) (hnd:nodup ((Iz C d t x).new.map (·.1))=true):Good P V0 O0 w0 (apply st o (Iz C d t x)) o a w:=by
  unfold Iz at *
  obtain⟨ti,ht,he⟩:=Bf hok
  rw[he]at hok hfr hnd ⊢;clear he
  obtain⟨h1,h2⟩:=hok.cons
  have h2:=Nat.eq_of_beq_eq_true h2.cons.1
  have hcs:=hx.cells h1
  refine mW (ks:=ti.cs) hS hcs (fun j hj i hi=>hids i (WQ h1 hj hi)) hd (hrun ti ht h1 (by rw[hcs.1,h2])) (fun O' objs' m' w' c hc hm=> ?_) hfr hnd
  show Au O' objs' m' w' _ (.ptr (b2 d) 0)
  refine⟨rfl,?_⟩
  rw[hc]
  exact⟨w.heap.size,0,hm,rfl⟩
end
