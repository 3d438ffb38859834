import Derived.Test.YtbaomhegdndpnaaGreatDoorA4
set_option linter.all false
namespace Go.Proofs.YtbaomhegdndpnaaGreatDoor.Vm
structure Sim (V0:Nat->Value) (O0:Own) (w0:World) (O:Own) (m:Nat->Value) (st:St) (a:Act) (w:World):Prop where
  defers:a.defers=[]
  size:a.tmps.size=st.tmps.length
  tmps: ∀ t,t<st.tmps.length->Au O st.Aa m w (a.tmps.getD t undef) (st.tmps.getD t .undef)
  Aa: ∀ o x,Ai st.Aa o=some x->BC O st.Aa m w o x
  frame:Moves O0 (fun o=>o≠255) w0 w
  own: ∀ b k o,b<w0.heap.size->O b k=some o->o≠255-> ∃ o0,O0 b k=some o0/\o0≠255
  ids: ∀ o x,Ai st.Aa o=some x->o≠255
  less: ∀ b k,b<w0.heap.size->O b k≠none->O0 b k≠none
  root: ∀ o,KT o=true->(Ai st.Aa o).isSome->m o=V0 o
  SG: ∀ b k,b<w0.heap.size->O0 b k=some 255->O b k=some 255
  inv:Inv O0 w0
theorem Sim.iP {V0:Nat->Value} {O0 O:Own} {w0 w:World} {m:Nat->Value} {st:St} {a:Act} (hS:Sim V0 O0 w0 O m st a w):Inv O w:=by
  refine⟨fun g j p ht=> ?_,fun g n ht=> ?_⟩
  ·obtain⟨h1,v,h2,h3⟩:=hS.inv.1 g j p ht
   have hb:=cell_lt h2
   refine⟨?_,v,?_,h3⟩
   ·cases h:O g j with
    | none=>rfl
    | some o=>exact absurd h1 (hS.less g j hb (by rw[h];simp))
   ·rw[hS.frame.cell hb (fun o ho=>by rw[h1]at ho;cases ho)];exact h2
  ·obtain⟨c,e,fr,h1,h2⟩:=hS.inv.2 g n ht
   have hg:g<w0.heap.size:=(Array.getElem?_eq_some_iff.1 h1).1
   rcases hS.frame.blk g hg with he | ⟨d,d',e',fr',k1,k2,k3,_⟩ | ⟨es,ck,es',ck',o,k1,_⟩
   all_goals simp_all[Own,Inv]
theorem Moves.AfW {O0 O:Own} {T:Nat->Prop} {w0 w w':World} (h:Moves O0 (fun o=>o≠255) w0 w) (h':Moves O T w w') (hO: ∀ b k o,b<w0.heap.size->O b k=some o->o≠255-> ∃ o0,O0 b k=some o0/\o0≠255) (hT: ¬ T 255) :
    Moves O0 (fun o=>o≠255) w0 w':=by
  refine⟨h'.os.trans h.os,h'.tape.trans h.tape,h'.output.trans h.output,Nat.le_trans h.size h'.size,fun b hb=> ?_⟩
  have hb':b<w.heap.size:=Nat.lt_of_lt_of_le hb h.size
  have up: ∀ k o,O b k=some o->T o-> ∃ o',O0 b k=some o'/\o'≠255:=fun k o ho ht=>hO b k o hb ho (fun e=>hT (by rw[<- e];exact ht))
  rcases h'.blk b hb' with he' | ⟨c,c',e,fr,h1,h2,h3,h4,k,o,h5,h6,h7⟩ | ⟨es,ck,es',ck',o,h1,h2,h3,h4⟩
  ·rcases h.blk b hb with he | ⟨d,d',e,fr,h1,h2,h3,h4,h5⟩ | ⟨es,ck,es',ck',o,h1,h2,h3,h4⟩
   ·exact .inl (he'.trans he)
   ·exact .inr (.inl ⟨d,d',e,fr,h1,he'.trans h2,h3,h4,h5⟩)
   ·simp_all[Own]
  ·obtain⟨o',ho',hne'⟩:=up k o h6 h7
   rcases h.blk b hb with he | ⟨d,d',e',fr',g1,g2,g3,g4,g5⟩ | ⟨es,ck,es',ck',o1,g1,g2,g3,g4⟩
   ·refine .inr (.inl ⟨c,c',e,fr,he▸h1,h2,h3,fun i hi=>h4 i (fun o'' ho'' ht=> ?_),k,o',h5,ho',hne'⟩)
    obtain⟨o3,ho3,hn3⟩:=up i o'' ho'' ht
    exact hi o3 ho3 hn3
   ·rw[g2]at h1
    injection h1 with h1;injection h1 with q1 q2 q3
    subst q1;subst q2;subst q3
    refine .inr (.inl ⟨d,c',e',fr',g1,h2,h3.trans g3,fun i hi=> ?_,k,o',by omega,ho',hne'⟩)
    rw[h4 i (fun o'' ho'' ht=> ?_),g4 i hi]
    obtain⟨o3,ho3,hn3⟩:=up i o'' ho'' ht
    exact hi o3 ho3 hn3
   ·simp_all[Own]
  ·obtain⟨o',ho',hne'⟩:=up 0 o h3 h4
   rcases h.blk b hb with he | ⟨d,d',e',fr',g1,g2,g3,g4,g5⟩ | ⟨es1,ck1,es1',ck1',o1,g1,g2,g3,g4⟩
   ·exact .inr (.inr ⟨es,ck,es',ck',o',he▸h1,h2,ho',hne'⟩)
   all_goals simp_all[Own]
theorem dD (tmps:List A) (d:Option Tmp) (v:A) (t:Nat) (h:t<tmps.length):(put tmps d v).getD t .undef=if d=some t then v else tmps.getD t .undef:=by
  cases d with
  | none=>simp [put]
  | some d =>
    simp only[put,List.getD_eq_getElem?_getD,List.getElem?_set]
    by_cases hd:d=t
    ·subst hd;simp [h]
    ·simp [hd]
theorem KN (tmps:List A) (d:Option Tmp) (v:A):(put tmps d v).length=tmps.length:=by cases d<;>simp [put]
theorem yR (a:Act) (d:Option Tmp) (v:Value) (t:Nat) (h:t<a.tmps.size):(a.put d v).tmps.getD t undef=if d=some t then v else a.tmps.getD t undef:=by
  cases d with
  | none=>simp [Act.put]
  | some d =>
    simp only[Act.put,Array.getD_eq_getD_getElem?,Array.getElem?_setIfInBounds]
    by_cases hd:d=t
    ·subst hd;simp [h]
    ·simp [hd]
theorem yS (a:Act) (d:Option Tmp) (v:Value):(a.put d v).tmps.size=a.tmps.size:=by cases d<;>simp [Act.put]
theorem qG (a:Act) (d:Option Tmp) (v:Value):(a.put d v).defers=a.defers:=by cases d<;>rfl
theorem Qm {st:St} {t n:Nat} (ht:t<st.tmps.length) (h:n∈(st.tmps.getD t .undef).ids):n∈st.ids:=List.mem_append_left _ (Gh ht h)
theorem aQ {l:List (Nat×Obj)} {o:Nat} {x:Obj} (h:Ai l o=some x):(o,x)∈l:=by
  induction l with
  | nil=>cases h
  | cons p r ih=>grind[Cb]
theorem JX {st:St} {o n:Nat} {x:Obj} (ho:Ai st.Aa o=some x) (h:n∈x.ids):n∈st.ids :=
  List.mem_append_right _ (List.mem_flatMap.2 ⟨(o,x),aQ ho,h⟩)
structure Ei (st:St) (n:Nat):Prop where
  ids:n∉st.ids
  Aa:Ai st.Aa n=none
  ne:n≠255
  root:KT n=false
theorem Ei.both {st:St} {n:Nat} (h:Ei st n):n∉st.ids/\KT n=false:=⟨h.ids,h.root⟩
theorem CJ {st:St} {n:Nat} (h:st.fresh n=true):Ei st n:=by
  unfold St.fresh at h
  simp only[Bool.and_eq_true,Bool.not_eq_true',Option.isNone_iff_eq_none]at h
  refine⟨fun hm=> ?_,h.1.1.2,fun e=> ?_,h.2⟩
  ·have:has st.ids n=true:=List.any_eq_true.2 ⟨n,hm,by simp⟩
   rw[this]at h;cases h.1.1.1
  ·simp_all
theorem Sim.next {V0:Nat->Value} {O0 O O':Own} {w0 w w':World} {m m':Nat->Value} {st st':St} {a:Act} {T Nw:Nat->Prop} {d:Option Tmp} {v:Value} {x:A}
    (hS:Sim V0 O0 w0 O m st a w) (hM:Moves O T w w') (hP:Passes O O' T w.heap.size) (hO: ∀ b k,b<w.heap.size->O' b k≠none->O b k≠none)
    (hE:EX st.Aa m st'.Aa m' Nw) (hN: ∀ n,Nw n->n∉st.ids/\KT n=false)
    (hT: ∀ o,T o->(Ai st.Aa o).isSome)
    (hobj: ∀ o y,Ai st'.Aa o=some y->(¬ T o/\Ai st.Aa o=some y/\m' o=m o)\/(BC O' st'.Aa m' w' o y/\o≠255))
    (ht:st'.tmps=put st.tmps d x) (hx:d≠none->Au O' st'.Aa m' w' v x):Sim V0 O0 w0 O' m' st' (a.put d v) w':=by
  have hpr:=hM.AQ hP
  have hT255: ¬ T 255:=fun h=>by
    obtain⟨x,hx⟩:=Option.isSome_iff_exists.1 (hT 255 h)
    exact hS.ids 255 x hx rfl
  refine⟨by rw[qG];exact hS.defers,by rw[yS,ht,KN];exact hS.size,fun t htl=> ?_,fun o y ho=> ?_,hS.frame.AfW hM hS.own hT255,fun b k q hb h hne=> ?_,fun o y ho=> ?_,fun b k hb h=>hS.less b k hb (hO b k (Nat.lt_of_lt_of_le hb hS.frame.size) h),fun o hr ho=> ?_,fun b k hb h=>hP.keep b k 255 (Nat.lt_of_lt_of_le hb hS.frame.size) (hS.SG b k hb h) hT255,hS.inv⟩
  ·rw[ht,KN]at htl
   rw[ht,dD _ _ _ _ htl,yR _ _ _ _ (by rw[hS.size];exact htl)]
   by_cases hd:d=some t
   ·rw[if_pos hd,if_pos hd];exact hx (by rw[hd];simp)
   ·rw[if_neg hd,if_neg hd]
    exact(hS.tmps t htl).step hpr hE (fun i hi hn=>(hN i hn).1 (Qm htl hi))
  ·rcases hobj o y ho with ⟨h1,h2,h3⟩ | h
   ·exact(hS.Aa o y h2).step hM hP hE h1 h3 (fun i hi hn=>(hN i hn).1 (JX h2 hi))
   ·exact h.1
  ·have hb':=Nat.lt_of_lt_of_le hb hS.frame.size
   cases hq:O b k with
   | none=>exact absurd hq (hO b k hb' (by rw[h];simp))
   | some r =>
     by_cases hr:r=255
     ·subst hr
      have:=hP.keep b k 255 hb' hq hT255
      rw[h]at this;injection this with this;exact absurd this hne
     ·exact hS.own b k r hb hq hr
  ·rcases hobj o y ho with ⟨_,h2,_⟩ | h
   ·exact hS.ids o y h2
   ·exact h.2
  ·obtain⟨y,hy⟩:=Option.isSome_iff_exists.1 ho
   rcases hE o y hy with h | ⟨x,h1,_,h3⟩
   ·rw[(hN o h).2]at hr;cases hr
   ·rw[h3];exact hS.root o hr (by rw[h1];rfl)
theorem Sim.put {V0:Nat->Value} {O0 O:Own} {w0 w:World} {m:Nat->Value} {st:St} {a:Act} (hS:Sim V0 O0 w0 O m st a w) (d:Option Tmp) {v:Value} {x:A} (hx:Au O st.Aa m w v x) :
    Sim V0 O0 w0 O m {st with tmps:=Vm.put st.tmps d x} (a.put d v) w :=
  hS.next (st':= {st with tmps:=Vm.put st.tmps d x}) (T:=fun _=>False) (Nw:=fun _=>False) (Moves.refl O _ w) ⟨fun _ _ _ h=>h,fun _ _ _ _ h _=>h⟩ (fun _ _ _ h=>h) (fun _ y ho=>.inr ⟨y,ho,rfl,rfl⟩) (fun _ h=>h.elim) (fun _ h=>h.elim)
    (fun _ _ ho=>.inl ⟨id,ho,rfl⟩) rfl (fun _=>hx)
def Good (P:Program) (V0:Nat->Value) (O0:Own) (w0:World) (st':St) (o:Oper) (a:Act) (w:World):Prop :=
  ∀(next:Act->World->Prop) (Q:Exit->Act->World->Prop),(∀ O' m' a' w',Sim V0 O0 w0 O' m' st' a' w'->next a' w')->o.wp P a w next Q
theorem Pure.good {P:Program} {V0:Nat->Value} {O0 O:Own} {w0 w:World} {m:Nat->Value} {st:St} {a:Act} {o:Oper} {δ :Dl} (hS:Sim V0 O0 w0 O m st a w) (h:Pure P O st.Aa m a w o δ):Good P V0 O0 w0 (apply st o δ) o a w:=by
  intro next Q hn
  obtain⟨v,hr,hx⟩:=h.run
  unfold Oper.wp
  rw[hr,Oper.upon_value]
  refine hn O m _ _ ?_
  have:apply st o δ = {st with tmps:=put st.tmps o.dst δ.val}:=by
    unfold apply;rw[h.new,h.upd,h.del];rfl
  rw[this]
  exact hS.put o.dst hx
theorem bD {V0:Nat->Value} {O0 O:Own} {w0 w:World} {m:Nat->Value} {st:St} {a:Act} (hS:Sim V0 O0 w0 O m st a w) (x:Operand):Au O st.Aa m w (a.eval x) (evalA st.tmps x):=by
  have cell: ∀ v:Value,Au O st.Aa m w v (DD v)/\(v.oneCell'=true->Aw O st.Aa m w v (DD v)):=by
    intro v
    unfold DD
    split
    ·exact⟨.ET _,fun _=>Ak.bool _⟩
    ·exact⟨.mkInt _ _,fun _=>Ak.int _ _⟩
    ·exact⟨.mkStr _ rfl,fun _=>Ak.str _⟩
    ·exact⟨rfl,fun _=>rfl⟩
    ·exact⟨Ak.BN,fun _=>Ak.BN⟩
    ·exact⟨Ak.Rx,fun _=>Ak.Rx⟩
    ·exact⟨trivial,fun h=>h⟩
  cases x with
  | tmp t =>
    by_cases ht:t<st.tmps.length
    ·exact hS.tmps t ht
    ·have:evalA st.tmps (.tmp t)= .undef:=by
       simp [evalA,List.getD_eq_getElem?_getD,List.getElem?_eq_none (Nat.le_of_not_lt ht)]
     rw[this];trivial
  | const v =>
    show Au O st.Aa m w v (ofConst v)
    unfold ofConst
    split
    ·rename_i vs
     cases hall:vs.toList.all Value.oneCell' with
     | false=>trivial
     | true =>
       rw[List.all_eq_true]at hall
       refine⟨vs,rfl,by simp,fun j hj=> ?_⟩
       have hj':j<vs.size:=by simpa using hj
       have e1:vs.getD j undef=vs[j]:=by rw[Array.getD_eq_getD_getElem?,Array.getElem?_eq_getElem hj'];rfl
       have e2:(vs.toList.map DD).getD j .undef=DD vs[j]:=by
         simp [List.getD_eq_getElem?_getD,hj']
       rw[e1,e2]
       exact(cell _).2 (hall _ (by simp))
    ·exact(cell v).1
  | global g =>
    show Au O st.Aa m w (.pointer (some ⟨g,0,none⟩)) (Aez (YL g))
    cases hg:YL g with
    | none=>trivial
    | some q =>
      obtain⟨k,ns⟩:=q
      refine⟨g,0,rfl,fun j hj=> ?_⟩
      have hj:j<ns.length:=by simpa using hj
      obtain⟨h1,v,h2,h3⟩:=hS.iP.1 g j _ (by rw[Afd hg];exact if_pos hj)
      rw[Nat.zero_add]
      refine⟨h1,v,h2,?_⟩
      have e:(ns.map (A.int k)).getD j .undef= .int k (ns.getD j 0):=by simp [List.getD_eq_getElem?_getD,hj]
      rw[e,h3]
      exact .int _ _
  | func f=>exact Ak.fn f
theorem Moves.push {O:Own} {T:Nat->Prop} {w:World} (x:Go.Obj):Moves O T w (w.alloc x) :=
  ⟨rfl,rfl,rfl,by show _<=(w.heap.push x).size;simp,fun b hb=>.inl (heap_alloc_old w x hb)⟩
theorem Vg (w:World) (x:Go.Obj):(w.alloc x).heap[w.heap.size]? =some x:=by show(w.heap.push x)[_]? =_;simp
theorem Moves.drew (O:Own) (T:Nat->Prop) (w:World):Moves O T w w.drew:=⟨rfl,rfl,rfl,Nat.le_refl _,fun _ _=>.inl rfl⟩
theorem Moves.then {O:Own} {T:Nat->Prop} {w w' w'':World} (h:Moves O T w w') (h':Moves O T w' w''):Moves O T w w'':=by
  refine⟨h'.os.trans h.os,h'.tape.trans h.tape,h'.output.trans h.output,Nat.le_trans h.size h'.size,fun b hb=> ?_⟩
  have hb':b<w'.heap.size:=Nat.lt_of_lt_of_le hb h.size
  rcases h'.blk b hb' with he' | ⟨c,c',e,fr,h1,h2,h3,h4,h5⟩ | ⟨es,ck,es',ck',o,h1,h2,h3,h4⟩
  ·rcases h.blk b hb with he | ⟨d,d',e,fr,h1,h2,h3,h4,h5⟩ | ⟨es,ck,es',ck',o,h1,h2,h3,h4⟩
   ·exact .inl (he'.trans he)
   ·exact .inr (.inl ⟨d,d',e,fr,h1,he'.trans h2,h3,h4,h5⟩)
   ·simp_all[Own]
  ·rcases h.blk b hb with he | ⟨d,d',e',fr',g1,g2,g3,g4,g5⟩ | ⟨es,ck,es',ck',o,g1,g2,g3,g4⟩
   ·exact .inr (.inl ⟨c,c',e,fr,he▸h1,h2,h3,h4,h5⟩)
   ·rw[g2]at h1
    injection h1 with h1;injection h1 with q1 q2 q3
    subst q1;subst q2;subst q3
    exact .inr (.inl ⟨d,c',e',fr',g1,h2,h3.trans g3,fun i hi=>by rw[h4 i hi,g4 i hi],g5⟩)
   ·simp_all[Own]
  ·rcases h.blk b hb with he | ⟨d,d',e',fr',g1,g2,g3,g4,g5⟩ | ⟨es1,ck1,es1',ck1',o1,g1,g2,g3,g4⟩
   ·exact .inr (.inr ⟨es,ck,es',ck',o,he▸h1,h2,h3,h4⟩)
   all_goals simp_all[Own]
theorem Moves.row {O:Own} {T:Nat->Prop} {w w':World} {g:Nat} {c c':Array Value} {e:TypeId} {fr:Nat×Nat} (hos:w'.os=w.os) (ht:w'.tape=w.tape) (hout:w'.output=w.output) (hs:w'.heap.size=w.heap.size)
    (hg:w.heap[g]? =some (.cells c e fr)) (hg':w'.heap[g]? =some (.cells c' e fr)) (hoth: ∀ b,b≠g->w'.heap[b]? =w.heap[b]?) (hsz:c'.size=c.size) (hk: ∀ k,(∀ o,O g k=some o-> ¬ T o)->c'[k]? =c[k]?)
    (hex:(∃ k o,k<c.size/\O g k=some o/\T o)\/c'=c):Moves O T w w':=by
  refine⟨hos,ht,hout,by omega,fun b _=> ?_⟩
  by_cases hb:b=g
  ·subst hb
   rcases hex with hex | hex
   ·exact .inr (.inl ⟨c,c',e,fr,hg,hg',hsz,hk,hex⟩)
   ·subst hex;exact .inl (hg'.trans hg.symm)
  ·exact .inl (hoth b hb)
theorem Moves.map {O:Own} {T:Nat->Prop} {w w':World} {r:Nat} {es es':Array MapEntry} {ck ck':Nat} (hos:w'.os=w.os) (ht:w'.tape=w.tape) (hout:w'.output=w.output) (hs:w'.heap.size=w.heap.size)
    (hg:w.heap[r]? =some (.map es ck)) (hg':w'.heap[r]? =some (.map es' ck')) (hoth: ∀ b,b≠r->w'.heap[b]? =w.heap[b]?) {o:Nat} (ho:O r 0=some o) (hT:T o):Moves O T w w':=by
  refine⟨hos,ht,hout,by omega,fun b _=> ?_⟩
  by_cases hb:b=r
  ·simp_all[Own,hs]
  ·exact .inl (hoth b hb)
theorem yC (w:World) (b k:Nat) (v:Value) {c:Array Value} {e:TypeId} {fr:Nat×Nat} (hg:w.heap[b]? =some (.cells c e fr)) :
    (w.setCell (at' b k) v).heap[b]? =some (.cells (c.setIfInBounds k v) e fr)/\(∀ b',b'≠b->(w.setCell (at' b k) v).heap[b']? =w.heap[b']?)/\(w.setCell (at' b k) v).heap.size=w.heap.size:=by
  refine⟨?_,fun b' hb=> ?_,by simp [World.setCell]⟩
  ·simp [World.setCell,Array.getElem?_modify,hg]
  ·simp only[World.setCell,Array.getElem?_modify]
   rw[if_neg (fun h=>hb h.symm)]
theorem NZ (b:Nat): ∀(vs:List Value) (k:Nat) (w:World) {c:Array Value} {e:TypeId} {fr:Nat×Nat},w.heap[b]? =some (.cells c e fr)->k+vs.length<=c.size ->
    ∃ c',(w.setCells b k vs).heap[b]? =some (.cells c' e fr)/\c'.size=c.size/\(∀ i,c'.getD i undef=if k<=i/\i<k+vs.length then vs.getD (i - k) undef else c.getD i undef) /\
      (∀ b',b'≠b->(w.setCells b k vs).heap[b']? =w.heap[b']?)/\(w.setCells b k vs).heap.size=w.heap.size/\(w.setCells b k vs).os=w.os/\(w.setCells b k vs).tape=w.tape/\(w.setCells b k vs).output=w.output:=by
  intro vs
  induction vs with
  | nil=>intro k w c e fr hg _;exact⟨c,hg,rfl,fun i=>by rw[if_neg (by simp)],fun _ _=>rfl,rfl,rfl,rfl,rfl⟩
  | cons v vs ih =>
    intro k w c e fr hg hle
    simp only[List.length_cons]at hle
    obtain⟨h1,h2,h3⟩:=yC w b k v hg
    obtain⟨c',h4,h5,h6,h7,h8,h9,h10,h11⟩:=ih (k+1) (w.setCell (at' b k) v) h1 (by simp;omega)
    refine⟨c',h4,by rw[h5];simp,fun i=> ?_,fun b' hb=>(h7 b' hb).trans (h2 b' hb),h8.trans h3,h9,h10,h11⟩
    rw[h6 i]
    simp only[List.length_cons]
    by_cases hi:k+1<=i/\i<k+1+vs.length
    ·rw[if_pos hi,if_pos (by omega),show i - k=(i - (k+1))+1 from by omega];rfl
    ·rw[if_neg hi]
     by_cases hk:i=k
     ·subst hk
      rw[if_pos (by omega),Array.getD_eq_getD_getElem?,Array.getElem?_setIfInBounds,if_pos rfl,if_pos (by omega)]
      simp
     ·rw[if_neg (by omega),Array.getD_eq_getD_getElem?,Array.getElem?_setIfInBounds,if_neg (by omega),<- Array.getD_eq_getD_getElem?]
theorem OD: ∀(ks:List CK) (cs:List A) (id:Nat),(Bz id ks cs).1.length=cs.length /\
    (∀ j,j<cs.length->(Bz id ks cs).1.getD j .undef=cs.getD j .undef\/(cs.getD j .undef= .BB/\(Bz id ks cs).1.getD j .undef= .own (id+j)/\ ∃ e sz,(id+j,Obj.arr e false ⟨sz,[]⟩)∈(Bz id ks cs).2)) /\
    (∀ p∈(Bz id ks cs).2,(∃ e sz,p.2= .arr e false ⟨sz,[]⟩)/\ ∃ j,j<cs.length/\p.1=id+j):=by
  intro ks
  induction ks with
  | nil=>grind[Bz]
  | cons k ks ih =>
    intro cs id
    cases cs with
    | nil=>grind[Bz]
    | cons c cs =>
      obtain⟨h1,h2,h3⟩:=ih cs (id+1)
      have other:Bz id (k::ks) (c::cs)=(c::(Bz (id+1) ks cs).1,(Bz (id+1) ks cs).2) ->
          (Bz id (k::ks) (c::cs)).1.length=(c::cs).length /\
          (∀ j,j<(c::cs).length->(Bz id (k::ks) (c::cs)).1.getD j .undef=(c::cs).getD j .undef\/((c::cs).getD j .undef= .BB/\(Bz id (k::ks) (c::cs)).1.getD j .undef= .own (id+j)/\ ∃ e sz,(id+j,Obj.arr e false ⟨sz,[]⟩)∈(Bz id (k::ks) (c::cs)).2)) /\
          (∀ p∈(Bz id (k::ks) (c::cs)).2,(∃ e sz,p.2= .arr e false ⟨sz,[]⟩)/\ ∃ j,j<(c::cs).length/\p.1=id+j):=by
        intro he
        rw[he]
        refine⟨by simp [h1],fun j hj=> ?_,fun p hp=> ?_⟩
        ·cases j with
         | zero=>exact .inl rfl
         | succ j=>grind[CK,Bz]
        ·obtain⟨ha,j,hj,hb⟩:=h3 p hp
         exact⟨ha,j+1,by simpa using hj,by omega⟩
      by_cases hc:c= .BB/\ ∃ e sz,k= .sl e sz
      ·obtain⟨hc,e,sz,hk⟩:=hc
       subst hc;subst hk
       have he:Bz id (.sl e sz::ks) (.BB::cs)=(.own id::(Bz (id+1) ks cs).1,(id,.arr e false ⟨sz,[]⟩)::(Bz (id+1) ks cs).2):=rfl
       rw[he]
       refine⟨by simp [h1],fun j hj=> ?_,fun p hp=> ?_⟩
       ·cases j with
        | zero=>grind[CK,Bz]
        | succ j=>grind[CK,Bz]
       ·rcases List.mem_cons.1 hp with rfl | hp
        ·grind[CK,Bz]
        ·obtain⟨ha,j,hj,hb⟩:=h3 p hp
         exact⟨ha,j+1,by simpa using hj,by omega⟩
      ·refine other ?_
       cases k<;>cases c<;>first | rfl | exact absurd ⟨rfl,_,_,rfl⟩ hc
theorem Ea {l:List Nat} {n:Nat}:has l n=true↔n∈l:=by simp_all[has]
theorem Ab9: ∀ {l:List (Nat×Obj)},nodup (l.map (·.1))=true-> ∀ {n x y},(n,x)∈l->(n,y)∈l->x=y:=by
  intro l
  induction l with
  | nil=>intro _ n x y h;cases h
  | cons p l ih =>
    intro h n x y hx hy
    simp only[List.map_cons,nodup,Bool.and_eq_true,Bool.not_eq_true']at h
    have hno: ∀ z,(p.1,z)∉l:=by
      intro z hz
      have:has (l.map (·.1)) p.1=true:=Ea.2 (List.mem_map.2 ⟨_,hz,rfl⟩)
      rw[this]at h;cases h.1
    all_goals grind[Obj,nodup]
theorem JB {Aa:List (Nat×Obj)} {upd new:List (Nat×Obj)} {del:List Nat} {o:Nat} {x:Obj} (h:Ai (Ar (AZ (Ar Aa upd) del) new) o=some x) :
    (o,x)∈new\/((∀ y,(o,y)∉new)/\o∉del/\((o,x)∈upd\/((∀ y,(o,y)∉upd)/\Ai Aa o=some x))):=by
  by_cases hn: ∃ p∈new,p.1=o
  ·obtain⟨y,hy,he⟩:=D6 new (AZ (Ar Aa upd) del) o hn
   rw[he]at h;injection h with h;subst h;exact .inl hy
  ·have hn': ∀ y,(o,y)∉new:=fun y hy=>hn ⟨_,hy,rfl⟩
   rw[BV _ _ _ (fun p hp e=>hn ⟨p,hp,e⟩),Gs]at h
   by_cases hd:o∈del
   ·rw[if_pos hd]at h;cases h
   ·rw[if_neg hd]at h
    refine .inr ⟨hn',hd,?_⟩
    by_cases hu: ∃ p∈upd,p.1=o
    ·obtain⟨y,hy,he⟩:=D6 upd Aa o hu
     rw[he]at h;injection h with h;subst h;exact .inl hy
    ·grind[BV]
theorem UB {Aa:List (Nat×Obj)} {upd new:List (Nat×Obj)} {del:List Nat} (hnd:nodup (new.map (·.1))=true) {o:Nat} {x:Obj} (h:(o,x)∈new):Ai (Ar (AZ (Ar Aa upd) del) new) o=some x:=by
  obtain⟨y,hy,he⟩:=D6 new (AZ (Ar Aa upd) del) o ⟨_,h,rfl⟩
  rw[he,Ab9 hnd h hy]
section
variable {P:Program} {C:Ctx} {V0:Nat->Value} {O0 O:Own} {w0 w:World} {m:Nat->Value} {st:St} {a:Act} {o:Oper}
theorem Aw.BB {Aa:List (Nat×Obj)} {v:Value} (h:Aw O Aa m w v .BB):v= .slice none 0 0:=h
theorem Fg.Aat {O':Own} {w':World} {objs':List (Nat×Obj)} {m':Nat->Value} {vs:Array Value} {cs:List A} {ks:List CK} {id:Nat} {Nw:Nat->Prop} (h:Fg O st.Aa m w vs cs) (hp:CS O w O' w') (hE:EX st.Aa m objs' m' Nw)
    (hN: ∀ j,j<cs.length-> ∀ i∈(cs.getD j .undef).CG,¬ Nw i) (hnew: ∀ p∈(Bz id ks cs).2,Ai objs' p.1=some p.2/\m' p.1= .slice none 0 0):Fg O' objs' m' w' vs (Bz id ks cs).1:=by
  obtain⟨h1,h2,_⟩:=OD ks cs id
  refine⟨by rw[h1];exact h.1,fun j hj=> ?_⟩
  rw[h1]at hj
  rcases h2 j hj with he | ⟨hn,he,e,sz,hm⟩
  ·rw[he];exact(h.2 j hj).step hp hE (hN j hj)
  ·have:=h.2 j hj
   rw[hn]at this
   have hv:=this.BB
   rw[he,hv]
   obtain⟨g1,g2⟩:=hnew _ hm
   dsimp only at g1 g2
   refine⟨rfl,?_⟩
   rw[g1];exact g2.symm
theorem Xm {x:A} (hv:x.isVal=true) {j:Nat} (hj:j<x.cells.length) {i:Nat} (hi:i∈(x.cells.getD j .undef).CG):i∈x.ids:=by
  cases x with
  | agg cs=>exact Gh (f:=A.CG) hj hi
  | undef=>cases hv
  | tup _=>cases hv
  | usl _ _ _=>cases hv
  | ump _=>cases hv
  | box _=>cases hv
  | cbx _ _=>cases hv
  | cnd _ _=>cases hv
  | _ =>
    have:j=0:=by simpa [A.cells]using hj
    subst this
    exact hi
theorem oL {vs:Array Value} {cs:List A} {ks:List CK} {t:Nat} {r:Value} {y:A} {okl:List Bool} (hS:Sim V0 O0 w0 O m st a w) (hcs:Fg O st.Aa m w vs cs) (hids: ∀ j,j<cs.length-> ∀ i∈(cs.getD j .undef).CG,i∈st.ids\/(Ai st.Aa i).isSome) {d:Nat} (hd:o.dst=some d)
    (hr:(execOp a.eval o).run P w= .ok (.value r) (w.alloc (.cells vs t)))
    (hy: ∀(O':Own) (objs':List (Nat×Obj)) (m':Nat->Value) (w':World) (c:List A),Ai objs' (b2 d)=some (.box c)->m' (b2 d)= .pointer (some (at' w.heap.size 0))->Au O' objs' m' w' r y)
    (hfr: ∀ p∈(b2 d,Obj.box (Bz (b2 d+1) ks cs).1)::(Bz (b2 d+1) ks cs).2,st.fresh p.1=true) (hnd:nodup (((b2 d,Obj.box (Bz (b2 d+1) ks cs).1)::(Bz (b2 d+1) ks cs).2).map (·.1))=true) :
    Good P V0 O0 w0 (apply st o {ok:=okl,val:=y,new:=(b2 d,.box (Bz (b2 d+1) ks cs).1)::(Bz (b2 d+1) ks cs).2}) o a w:=by
  intro next Q hn
  unfold Oper.wp
  rw[hr,Oper.upon_value]
  let ad:=Bz (b2 d+1) ks cs
  let m':Nat->Value:=fun i=>if i=b2 d then .pointer (some (at' w.heap.size 0))else if has (ad.2.map (·.1)) i then .slice none 0 0 else m i
  let O':Own:=fun b k=>if b=w.heap.size then some (b2 d)else O b k
  let Nw:Nat->Prop:=fun i=> ∃ p∈((b2 d,Obj.box ad.1)::ad.2),p.1=i
  have hNw: ∀ i,Nw i->Ei st i:=by
    rintro i ⟨p,hp,rfl⟩
    exact CJ (hfr p hp)
  refine hn O' m' _ _ ?_
  have hobjs:(apply st o {ok:=okl,val:=y,new:=(b2 d,.box ad.1)::ad.2}).Aa=Ar (AZ (Ar st.Aa []) []) ((b2 d,.box ad.1)::ad.2):=rfl
  have hnewO: ∀ p∈((b2 d,Obj.box ad.1)::ad.2),Ai (Ar (AZ (Ar st.Aa []) []) ((b2 d,.box ad.1)::ad.2)) p.1=some p.2:=fun p hp=>UB hnd (by exact hp)
  have hb2:has (ad.2.map (·.1)) (b2 d)=false:=by
    simp only[List.map_cons,nodup,Bool.and_eq_true,Bool.not_eq_true']at hnd
    exact hnd.1
  have hmad: ∀ p∈ad.2,m' p.1= .slice none 0 0:=by
    intro p hp
    have h3:has (ad.2.map (·.1)) p.1=true:=Ea.2 (List.mem_map.2 ⟨p,hp,rfl⟩)
    have h4:p.1≠b2 d:=fun e=>by rw[e,hb2]at h3;cases h3
    show(if p.1=b2 d then _ else _)=_
    rw[if_neg h4,if_pos h3]
  have hE:EX st.Aa m (Ar (AZ (Ar st.Aa []) []) ((b2 d,.box ad.1)::ad.2)) m' Nw:=by
    intro i y hy
    rcases JB hy with hy' | ⟨hno,_,hy' | ⟨_,hy'⟩⟩
    ·exact .inl ⟨_,hy',rfl⟩
    ·cases hy'
    ·refine .inr ⟨y,hy',rfl,?_⟩
     have h3:i≠b2 d:=fun e=>hno (.box ad.1) (by rw[e];exact List.mem_cons_self)
     have h4:has (ad.2.map (·.1)) i=false:=by
       cases hh:has (ad.2.map (·.1)) i with
       | false=>rfl
       | true =>
         obtain⟨p,hp,hpe⟩:=List.mem_map.1 (Ea.1 hh)
         exact absurd (List.mem_cons_of_mem _ (by rw[<- hpe];exact hp)) (hno p.2)
     show(if i=b2 d then _ else _)=_
     rw[if_neg h3,h4];rfl
  have hM:Moves O (fun _=>False) w (w.alloc (.cells vs t)):=Moves.push _
  have hP:Passes O O' (fun _=>False) w.heap.size:=⟨fun b k hb h=>by show(if b=_ then _ else _)=_;rw[if_neg (Nat.ne_of_lt hb)];exact h,fun b k q hb h _=>by show(if b=_ then _ else _)=_;rw[if_neg (Nat.ne_of_lt hb)];exact h⟩
  have hpr:=hM.AQ hP
  have hnewblk: ∀ k,(w.alloc (.cells vs t)).cell? (at' w.heap.size k)=vs[k]? :=by
    intro k;exact World.cell?_alloc_at vs t _ _ rfl
  refine hS.next (T:=fun _=>False) (Nw:=Nw) hM hP (fun b k hb h=> ?_) hE (fun n hn'=>(hNw n hn').both) (fun _ h=>h.elim) (fun q y hy=> ?_) rfl (fun _=> ?_)
  ·have:O' b k=O b k:=if_neg (Nat.ne_of_lt hb)
   rw[this]at h;exact h
  ·rcases JB hy with hy' | ⟨hno,_,hy' | ⟨_,hy'⟩⟩
   ·right
    rcases List.mem_cons.1 hy' with e | hy'
    ·injection e with e1 e2
     subst e1;subst e2
     refine⟨⟨w.heap.size,0,if_pos rfl,fun j hj=> ?_⟩,(hNw _ ⟨_,List.mem_cons_self,rfl⟩).ne⟩
     have hcs':Fg O' _ m' _ vs ad.1:=hcs.Aat (ks:=ks) (id:=b2 d+1) hpr hE (fun j hj i hi hn'=>by
       rcases hids j hj i hi with hh | hh
       ·exact(hNw i hn').1 hh
       ·rw[(hNw i hn').2]at hh;cases hh) (fun p hp=>⟨hnewO p (List.mem_cons_of_mem _ hp),hmad p hp⟩)
     have hjs:j<vs.size:=by rw[hcs'.1];exact hj
     refine⟨if_pos rfl,by simp only[World.frozen?,Vg];simp,vs.getD j undef,?_,hcs'.2 j hj⟩
     rw[hnewblk]
     simp only[Nat.zero_add]
     exact getD_eq hjs
    ·obtain⟨⟨e,sz,h3⟩,_⟩:=(OD ks cs (b2 d+1)).2.2 _ hy'
     dsimp only at h3
     subst h3
     exact⟨⟨by simp [Sl.es],.inl ⟨trivial,rfl,hmad _ hy'⟩⟩,(hNw _ ⟨_,List.mem_cons_of_mem _ hy',rfl⟩).ne⟩
   ·cases hy'
   ·left
    refine⟨id,hy',?_⟩
    rcases hE q y hy with hn' | ⟨_,h3,_,h4⟩
    ·rw[(hNw q hn').2]at hy';cases hy'
    ·exact h4
  ·exact hy _ _ _ _ _ (hnewO (b2 d,.box ad.1) List.mem_cons_self) (if_pos rfl)
theorem vF {t:Nat} {v:Value} {x:A} (hC:TOk P C) (hS:Sim V0 O0 w0 O m st a w) (hx:Au O st.Aa m w v x) (hids: ∀ i∈x.ids,i∈st.ids\/(Ai st.Aa i).isSome) {d:Nat} (hd:o.dst=some d)
    (hrun: ∀ ti,C.T t=some ti->x.isVal=true->v.cells.size=ti.cs.length->(execOp a.eval o).run P w= .ok (.value (.pointer (some (at' w.heap.size 0)))) (w.alloc (.cells v.cells t)))
    (hok:Am (Jd C d t x).ok) (hfr: ∀ p∈(Jd C d t x).new,st.fresh p.1=true) (hnd:nodup ((Jd C d t x).new.map (·.1))=true):Good P V0 O0 w0 (apply st o (Jd C d t x)) o a w:=by
  unfold Jd at *
  obtain⟨ti,ht,he⟩:=Ba hok
  rw[he]at hok hfr hnd ⊢;clear he
  obtain⟨h1,h2⟩:=hok.cons
  have h2:=Nat.eq_of_beq_eq_true h2.cons.1
  have hcs:=hx.cells h1
  refine oL (ks:=adK C d ti) hS hcs (fun j hj i hi=>hids i (Xm h1 hj hi)) hd (hrun ti ht h1 (by rw[hcs.1,h2])) (fun O' objs' m' w' c hc hm=> ?_) hfr hnd
  show Aw O' objs' m' w' _ (.ptr (b2 d) 0)
  refine⟨rfl,?_⟩
  rw[hc]
  exact⟨w.heap.size,0,hm,rfl⟩
end
end Go.Proofs.YtbaomhegdndpnaaGreatDoor.Vm
namespace Go.Proofs.YtbaomhegdndpnaaGreatDoor.Vm
open Classical
section
variable {P:Program} {C:Ctx} {V0:Nat->Value} {O0 O:Own} {w0 w:World} {m:Nat->Value} {st:St} {a:Act} {o:Oper}
theorem Sim.TV (hS:Sim V0 O0 w0 O m st a w) {q e:Nat} {f:Bool} {l:Sl} (hq:Ai st.Aa q=some (.arr e f l)) :
    ∃ O',Sim V0 O0 w0 O' m {st with Aa:=BG st.Aa q (.arr e true l)} a w/\CS O w O' w/\(∀ b k,O' b k≠none->O b k≠none)/\Ak O' w (m q) (.sl l)/\ ∀ b k r,O b k=some r->r≠q->O' b k=some r:=by
  obtain⟨hsz,hr⟩:=hS.Aa q _ hq
  let O':Own:=fun b k=>if(∃ n cap,m q= .slice (some (at' b 0)) n cap)/\k<l.es.length*l.sz then none else O b k
  have hno: ∀ b k,O b k=none->O' b k=none:=by
    intro b k h;show(if _ then _ else _)=_;split;rfl;exact h
  have hle: ∀ b k,O' b k≠none->O b k≠none:=by
    intro b k h h';exact h (hno b k h')
  have hkeep: ∀ b k r,O b k=some r->r≠q->O' b k=some r:=by
    intro b k r h hne
    show(if _ then _ else _)=_
    rw[if_neg ?_]
    ·exact h
    ·rintro ⟨⟨n,cap,hm⟩,hk⟩
     rcases hr with ⟨_,h2,_⟩ | ⟨_,g,cap',cur,h1,_,_,_,_,_,_,h8⟩
     all_goals simp_all[Ai,BG,CS,Ak]
  have hp:CS O w O' w:=fun b k u h hc=>⟨hno b k h,hc⟩
  have hE:EX st.Aa m (BG st.Aa q (.arr e true l)) m (fun _=>False):=by
    intro r y hy
    rw[Bc]at hy
    by_cases hrq:r=q
    ·subst hrq
     rw[if_pos rfl]at hy;injection hy with hy;subst hy
     exact .inr ⟨_,hq,rfl,rfl⟩
    ·rw[if_neg hrq]at hy;exact .inr ⟨y,hy,rfl,rfl⟩
  have hO:BC O' (BG st.Aa q (.arr e true l)) m w q (.arr e true l):=by
    refine⟨hsz,?_⟩
    rcases hr with h | ⟨h1,g,cap,cur,h2,h3,h4,h5,h6,h7,h8,h9⟩
    ·exact .inl h
    ·refine .inr ⟨h1,g,cap,cur,h2,h3,h4,h5,h6,fun i j hi hj=> ?_,fun k hk hge=> ?_,fun k hk=> ?_⟩
     ·obtain⟨u,h10,h11⟩:=h7 i j hi hj
      exact⟨u,h10,h11.AQ hp⟩
     ·show(if _ then _ else _)=_
      rw[if_neg (by rintro ⟨_,h⟩;omega)];exact h8 k hk hge
     ·show(if _ then _ else _)=_
      rw[if_pos ⟨⟨_,_,h2⟩,hk⟩];rfl
  refine⟨O',⟨hS.defers,hS.size,fun t ht=>(hS.tmps t ht).step hp hE (fun _ _ h=>h),fun r y hy=> ?_,hS.frame,fun b k r hb h hne=> ?_,fun r y hy=> ?_,fun b k hb h=>hS.less b k hb (hle b k h),fun o hr ho=>hS.root o hr (by dsimp only at ho;rw[Bc]at ho;by_cases hq':o=q;(rw [hq',hq];rfl);(rw [if_neg hq']at ho;exact ho)),fun b k hb h=>hkeep b k 255 (hS.SG b k hb h) (fun e=>hS.ids q _ hq e.symm),hS.inv⟩,hp,hle,?_,hkeep⟩
  ·have hy':=hy
   rw[Bc]at hy
   by_cases hrq:r=q
   ·subst hrq
    rw[if_pos rfl]at hy;injection hy with hy;subst hy
    exact hO
   ·rw[if_neg hrq]at hy
    exact(hS.Aa r y hy).step (T:=fun i=>i=q) (Moves.refl O _ w) ⟨fun b k _ h=>hno b k h,fun b k r' _ h hT=>hkeep b k r' h hT⟩ hE hrq rfl (fun _ _ h=>h)
  ·have h':(if(∃ n cap,m q= .slice (some (at' b 0)) n cap)/\k<l.es.length*l.sz then none else O b k)=some r:=h
   split at h'
   ·cases h'
   ·exact hS.own b k r hb h' hne
  ·rw[Bc]at hy
   by_cases hrq:r=q
   ·rw[hrq];exact hS.ids q _ hq
   ·rw[if_neg hrq]at hy;exact hS.ids r y hy
  ·rcases hr with ⟨h1,h2,h3⟩ | ⟨h1,g,cap,cur,h2,h3,h4,h5,h6,h7,h8,h9⟩
   ·rw[h3];exact Ak.ofNil h2
   ·rw[h2]
    have hv: ∀ i j,i<l.es.length->j<l.sz-> ∃ u,cur[i*l.sz+j]? =some u/\Ak O w u ((l.es.getD i []).getD j .undef):=h7
    refine Ak.sl (fun i j=>(cur[i*l.sz+j]?).getD undef) h4 (fun i j hi hj=> ?_) (fun i j hi hj=> ?_)
    ·obtain⟨u,h10,_⟩:=hv i j hi hj
     refine⟨?_,by rw[Nat.zero_add,h3.cell,h10];rfl⟩
     show(if _ then _ else _)=_
     rw[if_pos]
     refine⟨⟨_,_,h2⟩,?_⟩
     have:(i+1)*l.sz<=l.es.length*l.sz:=Nat.mul_le_mul_right _ hi
     rw[Nat.add_mul]at this;omega
    ·obtain⟨u,h10,h11⟩:=hv i j hi hj
     rw[h10];exact h11.AQ hp
theorem BC.frozen {Aa:List (Nat×Obj)} {q e:Nat} {l:Sl} (h:BC O Aa m w q (.arr e true l)):Ak O w (m q) (.sl l):=by
  rcases h.2 with ⟨h1,h2,h3⟩ | ⟨h1,g,cap,cur,h2,h3,h4,h5,h6,h7,h8,h9⟩
  ·rw[h3];exact Ak.ofNil h2
  ·rw[h2]
   refine Ak.sl (fun i j=>(cur[i*l.sz+j]?).getD undef) h4 (fun i j hi hj=> ?_) (fun i j hi hj=> ?_)
   ·obtain⟨u,h10,_⟩:=h7 i j hi hj
    have:(i+1)*l.sz<=l.es.length*l.sz:=Nat.mul_le_mul_right _ hi
    rw[Nat.add_mul]at this
    refine⟨by have:=h9 (i*l.sz+j) (by omega);simpa using this,by rw[Nat.zero_add,h3.cell,h10];rfl⟩
   ·obtain⟨u,h10,h11⟩:=h7 i j hi hj
    rw[h10];exact h11
def Frz (Aa:List (Nat×Obj)) (U:List (Nat×Obj)):Prop:= ∀ p∈U,∃ e f l,Ai Aa p.1=some (.arr e f l)/\p.2= .arr e true l
def NR (Aa:List (Nat×Obj)) (q:Nat):Prop:= ∀ e f l,Ai Aa q≠some (.arr e f l)
theorem NR.of {Aa:List (Nat×Obj)} {q:Nat} {x:Obj} (h:Ai Aa q=some x) (hx: ∀ e f l,x≠ .arr e f l):NR Aa q:=by grind[Obj,Ai,NR]
theorem Sim.freezes: ∀(U:List (Nat×Obj)) {O:Own} {st:St},Sim V0 O0 w0 O m st a w->Frz st.Aa U ->
    ∃ O',Sim V0 O0 w0 O' m {st with Aa:=Ar st.Aa U} a w/\CS O w O' w/\(∀ b k,O' b k≠none->O b k≠none)/\(∀ p∈U,∀ e l,p.2= .arr e true l->Ak O' w (m p.1) (.sl l)) /\
      EX st.Aa m (Ar st.Aa U) m (fun _=>False)/\ ∀ b k r,O b k=some r->(NR st.Aa r\/U=[])->O' b k=some r:=by
  intro U
  induction U with
  | nil=>intro O st hS _;exact⟨O,hS,fun _ _ _ h hc=>⟨h,hc⟩,fun _ _ h=>h,(fun p hp=>by cases hp),(fun o y hy=>.inr ⟨y,hy,rfl,rfl⟩),fun _ _ _ h _=>h⟩
  | cons p U ih =>
    intro O st hS hU
    obtain⟨q,y⟩:=p
    obtain⟨e,f,l,h1,h2⟩:=hU (q,y) List.mem_cons_self
    dsimp only at h1 h2
    subst h2
    obtain⟨O1,hS1,hp1,hle1,hv1,hk1⟩:=hS.TV h1
    obtain⟨O2,hS2,hp2,hle2,hv2,hE2,hk2⟩:=ih hS1 (fun p hp=>by
      obtain⟨e',f',l',h3,h4⟩:=hU p (List.mem_cons_of_mem _ hp)
      by_cases hq:p.1=q
      ·refine⟨e',true,l',?_,h4⟩
       rw[Bc,if_pos hq]
       rw[hq,h1]at h3;injection h3 with h3;injection h3 with q1 q2 q3
       subst q1;subst q3;rfl
      ·exact⟨e',f',l',by rw[Bc,if_neg hq];exact h3,h4⟩)
    refine⟨O2,hS2,fun b k u h hc=>hp2 b k u (hp1 b k u h hc).1 hc,fun b k h=>hle1 b k (hle2 b k h),fun p hp e' l' he=> ?_,fun r y hy=> ?_,fun b k r h hb=> ?_⟩
    ·rcases List.mem_cons.1 hp with rfl | hp
     ·injection he with q1 _ q3
      subst q1;subst q3
      exact hv1.AQ hp2
     ·exact hv2 p hp _ _ he
    ·rcases hE2 r y hy with h | ⟨z,h3,h4,_⟩
     ·exact h.elim
     ·right
      dsimp only at h3
      rw[Bc]at h3
      by_cases hr:r=q
      ·subst hr
       rw[if_pos rfl]at h3;injection h3 with h3;subst h3
       exact⟨_,h1,h4,rfl⟩
      ·rw[if_neg hr]at h3;exact⟨z,h3,h4,rfl⟩
    ·have hb:=hb.resolve_right (by simp)
     have hrq:r≠q:=fun h=>hb _ _ _ (by rw[h];exact h1)
     exact hk2 b k r (hk1 b k r h hrq) (.inl fun e' f' l'=>by dsimp only;rw[Bc,if_neg hrq];exact hb e' f' l')
theorem bT {l:List (Nat×Obj)} {n:Nat} {p:Nat×Obj} (h:p∈FH l n):p∈l:=by
  induction l with
  | nil=>cases h
  | cons q r ih=>grind[Xc]
theorem wZ {l:List (Nat×Obj)} {n:Nat} {y:Obj} {p:Nat×Obj} (h:p∈Nu l n y):p=(n,y)\/p∈l:=by
  induction l with
  | nil=>grind[Nu]
  | cons q r ih=>grind[Nu]
theorem OT: ∀(u:List (Nat×Obj)) {l:List (Nat×Obj)} {p:Nat×Obj},p∈Ar l u->p∈u\/p∈l:=by
  intro u
  induction u with
  | nil=>intro l p h;exact .inr h
  | cons q u ih =>
    intro l p h
    obtain⟨n,y⟩:=q
    rcases ih h with h | h
    ·grind[Obj,Ar]
    ·rcases wZ h with h | h
     all_goals grind[bT]
theorem Ei.frz {n:Nat} {U:List (Nat×Obj)} (h:Ei st n) (hU:Frz st.Aa U):Ei {st with Aa:=Ar st.Aa U} n:=by
  refine⟨fun hm=> ?_,?_,h.ne,h.root⟩
  ·rcases List.mem_append.1 hm with h1 | h1
   ·exact h.1 (List.mem_append_left _ h1)
   ·obtain⟨p,hp,hi⟩:=List.mem_flatMap.1 h1
    rcases OT U hp with hp | hp
    ·obtain⟨e,f,l,_,h2⟩:=hU p hp
     rw[h2]at hi;cases hi
    ·exact h.1 (List.mem_append_right _ (List.mem_flatMap.2 ⟨p,hp,hi⟩))
  ·rw[BV _ _ _ (fun p hp he=> ?_)]
   ·exact h.2
   ·obtain⟨e,f,l,h1,_⟩:=hU p hp
    rw[he,h.2]at h1;cases h1
def DL (Aa:List (Nat×Obj)) (fet:Fet):Prop:= ∀ q x,Ai fet q=some x->Ai Aa q=some x
theorem xR {O:Own} {w:World} {k:CK} {v:Value} {l:Sl} (hok:Am (nM k l).1) (h:Ak O w v (.sl l)):Ak O w v (nM k l).2:=by
  cases k<;>first
    | exact h
    | (have h0:=hok.cons.1
       exact .sln h fun he=>by simp [he]at h0)
theorem Aeo {O:Own} {w:World} {v:Value} {l:Sl} (k:CK) (h:Ak O w v (.sln l)):Ak O w v (AfE k l):=by
  cases k<;>first
    | exact h
    | (cases h with
       | sln h _=>exact h)
theorem xU {fet:Fet} {k:CK} {c:A} {v:Value} (hf:DL st.Aa fet) (hc:Aw O st.Aa m w v c) (hok:Am (pur fet k c).1) :
    Frz st.Aa (pur fet k c).2.2/\ ∀ {O':Own},CS O w O' w->(∀ p∈(pur fet k c).2.2,∀ e l,p.2= .arr e true l->Ak O' w (m p.1) (.sl l))->Ak O' w v (pur fet k c).2.1:=by
  have triv:Frz st.Aa []:=fun p hp=>by cases hp
  unfold pur at *
  cases c with
  | own q =>
    dsimp only at hok ⊢
    cases hg:Ai fet q with
    | none=>simp_all[Fet,CK,DL,Aw,Am,pur]
    | some x =>
      cases x with
      | box _=>simp_all[Fet,CK,DL,Aw,Am,pur]
      | mp _=>simp_all[Fet,CK,DL,Aw,Am,pur]
      | arr e f l =>
        rw[hg]at hok
        dsimp only at hok ⊢
        have h1:=hf q _ hg
        refine⟨fun p hp=> ?_,fun hp hv=> ?_⟩
        ·simp at hp;subst hp;exact⟨e,f,l,h1,rfl⟩
        ·have h2:=hc.2
         rw[h1]at h2
         simp only[Option.map_some,Obj.shp]at h2
         rw[h2]
         exact xR hok (hv _ List.mem_cons_self e l rfl)
  | BB =>
    have hv:=hc.BB
    cases k with
    | sl e sz=>subst hv;exact⟨triv,fun _ _=>.nil _⟩
    | sln e sz=>subst hv;exact⟨triv,fun _ _=>.sln (.nil _) fun _=>rfl⟩
    | _=>have:=hok false (by simp);cases this
  | bool _=>exact⟨triv,fun hp _=>Ak.AQ hp hc⟩
  | int _ _=>exact⟨triv,fun hp _=>Ak.AQ hp hc⟩
  | str _=>exact⟨triv,fun hp _=>Ak.AQ hp hc⟩
  | sl _=>exact⟨triv,fun hp _=>xR hok (Ak.AQ hp hc)⟩
  | sln _=>exact⟨triv,fun hp _=>Aeo k (Ak.AQ hp hc)⟩
  | BN=>exact⟨triv,fun hp _=>Ak.AQ hp hc⟩
  | fn _=>exact⟨triv,fun hp _=>Ak.AQ hp hc⟩
  | _=>have:=hok false (by simp);cases this
theorem Frz.append {Aa:List (Nat×Obj)} {U V:List (Nat×Obj)} (h:Frz Aa U) (h':Frz Aa V):Frz Aa (U++V):=by grind[Obj,Frz]
theorem Ho {fet:Fet} (hf:DL st.Aa fet): ∀(ks:List CK) (cs:List A) (f:Nat->Value),(∀ j,j<cs.length->Aw O st.Aa m w (f j) (cs.getD j .undef))->Am (Bg fet ks cs).1 ->
    (Bg fet ks cs).2.1.length=ks.length/\cs.length=ks.length/\Frz st.Aa (Bg fet ks cs).2.2/\ ∀ {O':Own},CS O w O' w->(∀ p∈(Bg fet ks cs).2.2,∀ e l,p.2= .arr e true l->Ak O' w (m p.1) (.sl l)) ->
      ∀ j,j<ks.length->Ak O' w (f j) ((Bg fet ks cs).2.1.getD j .undef):=by
  intro ks
  induction ks with
  | nil =>
    intro cs f _ hok
    cases cs with
    | nil=>simp_all[Bg,Fet,DL,CK,Aw,Am,Frz]
    | cons _ _=>have:=hok false (by simp [Bg]);cases this
  | cons k ks ih =>
    intro cs f h hok
    cases cs with
    | nil=>have:=hok false (by simp [Bg]);cases this
    | cons c cs =>
      simp only[Bg]at hok ⊢
      obtain⟨hok1,hok2⟩:=hok.append
      obtain⟨h1,h2⟩:=xU hf (h 0 (by simp)) hok1
      obtain⟨h3,h4,h5,h6⟩:=ih cs (fun j=>f (j+1)) (fun j hj=>by simpa using h (j+1) (by simpa using hj)) hok2
      refine⟨by simp [h3],by simp [h4],h1.append h5,fun hp hv j hj=> ?_⟩
      cases j with
      | zero=>exact h2 hp (fun p hp=>hv p (List.mem_append_left _ hp))
      | succ j=>simpa using h6 hp (fun p hp=>hv p (List.mem_append_right _ hp)) j (by simpa using hj)
end
