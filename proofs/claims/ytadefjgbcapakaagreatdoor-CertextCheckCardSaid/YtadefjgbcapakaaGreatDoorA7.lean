/-
  CertextCheck: the law returns true whatever the input; machine, functions, plain law (part 7 of 47.)
-/
import Derived.Test.YtadefjgbcapakaaGreatDoorA6
set_option linter.unusedVariables false
set_option linter.unusedSimpArgs false
namespace Go.Proofs.YtadefjgbcapakaaGreatDoor.Vm
section
variable {P:Program} {C:Ctx} {V0:Nat→Value} {O0 O:Own} {w0 w:World} {m:Nat→Value} {st:St} {a:Act} {o:Oper}
theorem AV.CJ {Aa:List (Nat×Obj)} {v:Value} (h:AV O Aa m w v .CJ):v= .slice none 0 0:=h
theorem Kv.Ahj {O':Own} {w':World} {objs':List (Nat×Obj)} {m':Nat→Value} {vs:Array Value} {cs:List A} {ks:List CK} {id:Nat} {Nw:Nat→Prop} (h:Kv O st.Aa m w vs cs) (hp:Ep O w O' w') (hE:Hr st.Aa m objs' m' Nw)
    (hN: ∀ j,j<cs.length→ ∀ i∈(cs.getD j .undef).FK,¬ Nw i) (hnew: ∀ p∈(Dy id ks cs).2,Ai objs' p.1=some p.2∧m' p.1= .slice none 0 0):Kv O' objs' m' w' vs (Dy id ks cs).1:=by
  obtain⟨h1,h2,_⟩:=Tj ks cs id
  refine⟨by rw[h1];exact h.1,fun j hj=> ?_⟩
  rw[h1]at hj
  rcases h2 j hj with he | ⟨hn,he,e,sz,hm⟩
  ·rw[he];exact(h.2 j hj).step hp hE (hN j hj)
  ·have:=h.2 j hj
   rw[hn]at this
   have hv:=this.CJ
   rw[he,hv]
   obtain⟨g1,g2⟩:=hnew _ hm
   dsimp only at g1 g2
   refine⟨rfl,?_⟩
   rw[g1];exact g2.symm
theorem AbR {x:A} (hv:x.isVal=true) {j:Nat} (hj:j<x.cells.length) {i:Nat} (hi:i∈(x.cells.getD j .undef).FK):i∈x.ids:=by
  cases x with
  | agg cs=>exact KY (f:=A.FK) hj hi
  | undef=>cases hv
  | tup _=>cases hv
  | usl _ _=>cases hv
  | ump _=>cases hv
  | box _=>cases hv
  | cnd _ _=>cases hv
  | _ =>
    have:j=0:=by simpa [A.cells]using hj
    subst this
    exact hi
theorem Ae3 {t:Nat} {v:Value} {x:A} (hC:TOk P C) (hS:Sim V0 O0 w0 O m st a w) (hx:AB O st.Aa m w v x) (hids: ∀ i∈x.ids,i∈st.ids∨(Ai st.Aa i).isSome) {d:Nat} (hd:o.dst=some d)
    (hrun: ∀ ti,C.T t=some ti→x.isVal=true→v.cells.size=ti.cs.length→(execOp a.eval o).run P w= .ok (.value (.pointer (some (at' w.heap.size 0)))) (w.alloc (.cells v.cells t)))
    (hok:AA (KL C d t x).ok) (hfr: ∀ p∈(KL C d t x).new,st.fresh p.1=true) (hnd:nodup ((KL C d t x).new.map (·.1))=true):Good P V0 O0 w0 (apply st o (KL C d t x)) o a w:=by
  intro next Q hn
  unfold KL at *
  obtain⟨ti,ht,he⟩:=BB hok
  rw[he]at hok hfr hnd hn;clear he
  obtain⟨h1,h2⟩:=hok.cons
  have h2:=Nat.eq_of_beq_eq_true h2.cons.1
  have hcs:=hx.cells h1
  have hr:=hrun ti ht h1 (by rw[hcs.1,h2])
  unfold Oper.wp
  rw[hr,Oper.upon_value]
  let ad:=Dy (b2 d+1) ti.cs x.cells
  let m':Nat→Value:=fun i=>if i=b2 d then .pointer (some (at' w.heap.size 0))else if has (ad.2.map (·.1)) i then .slice none 0 0 else m i
  let O':Own:=fun b k=>if b=w.heap.size then some (b2 d)else O b k
  let Nw:Nat→Prop:=fun i=> ∃ p∈((b2 d,Obj.box ad.1)::ad.2),p.1=i
  have hNw: ∀ i,Nw i→Gp st i:=by
    rintro i ⟨p,hp,rfl⟩
    exact DU (hfr p hp)
  refine hn O' m' _ _ ?_
  have hobjs:(apply st o {ok:=[x.isVal,Nat.beq x.cells.length ti.cs.length],val:=.ptr (b2 d) 0,new:=(b2 d,.box ad.1)::ad.2}).Aa=Au (Bl (Au st.Aa []) []) ((b2 d,.box ad.1)::ad.2):=rfl
  have hnewO: ∀ p∈((b2 d,Obj.box ad.1)::ad.2),Ai (Au (Bl (Au st.Aa []) []) ((b2 d,.box ad.1)::ad.2)) p.1=some p.2:=fun p hp=>Y7 hnd (by exact hp)
  have hb2:has (ad.2.map (·.1)) (b2 d)=false:=by
    simp only[List.map_cons,nodup,Bool.and_eq_true,Bool.not_eq_true']at hnd
    exact hnd.1
  have hmad: ∀ p∈ad.2,m' p.1= .slice none 0 0:=by
    intro p hp
    have h3:has (ad.2.map (·.1)) p.1=true:=H7.2 (List.mem_map.2 ⟨p,hp,rfl⟩)
    have h4:p.1≠b2 d:=fun e=>by rw[e,hb2]at h3;cases h3
    show(if p.1=b2 d then _ else _)=_
    rw[if_neg h4,if_pos h3]
  have hE:Hr st.Aa m (Au (Bl (Au st.Aa []) []) ((b2 d,.box ad.1)::ad.2)) m' Nw:=by
    intro i y hy
    rcases Tm hy with hy' | ⟨hno,_,hy' | ⟨_,hy'⟩⟩
    ·exact .inl ⟨_,hy',rfl⟩
    ·cases hy'
    ·refine .inr ⟨y,hy',rfl,?_⟩
     have h3:i≠b2 d:=fun e=>hno (.box ad.1) (by rw[e];exact List.mem_cons_self)
     have h4:has (ad.2.map (·.1)) i=false:=by
       cases hh:has (ad.2.map (·.1)) i with
       | false=>rfl
       | true =>
         obtain⟨p,hp,hpe⟩:=List.mem_map.1 (H7.1 hh)
         exact absurd (List.mem_cons_of_mem _ (by rw[← hpe];exact hp)) (hno p.2)
     show(if i=b2 d then _ else _)=_
     rw[if_neg h3,h4];rfl
  have hM:Moves O (fun _=>False) w (w.alloc (.cells v.cells t)):=Moves.push _
  have hP:Passes O O' (fun _=>False) w.heap.size:=⟨fun b k hb h=>by show(if b=_ then _ else _)=_;rw[if_neg (Nat.ne_of_lt hb)];exact h,fun b k q hb h _=>by show(if b=_ then _ else _)=_;rw[if_neg (Nat.ne_of_lt hb)];exact h⟩
  have hpr:=hM.Bj hP
  have hnewblk: ∀ k,(w.alloc (.cells v.cells t)).cell? (at' w.heap.size k)=v.cells[k]? :=by
    intro k;exact World.cell?_alloc_at v.cells t _ _ rfl
  refine hS.next (T:=fun _=>False) (Nw:=Nw) hM hP (fun b k hb h=> ?_) hE (fun n hn'=>(hNw n hn').both) (fun _ h=>h.elim) (fun q y hy=> ?_) rfl (fun _=> ?_)
  ·have:O' b k=O b k:=if_neg (Nat.ne_of_lt hb)
   rw[this]at h;exact h
  ·rcases Tm hy with hy' | ⟨hno,_,hy' | ⟨_,hy'⟩⟩
   ·right
    rcases List.mem_cons.1 hy' with e | hy'
    ·injection e with e1 e2
     subst e1;subst e2
     refine⟨⟨w.heap.size,0,if_pos rfl,fun j hj=> ?_⟩,(hNw _ ⟨_,List.mem_cons_self,rfl⟩).ne⟩
     have hcs':Kv O' _ m' _ v.cells ad.1:=hcs.Ahj (ks:=ti.cs) (id:=b2 d+1) hpr hE (fun j hj i hi hn'=>by
       rcases hids i (AbR h1 hj hi)with hh | hh
       ·exact(hNw i hn').1 hh
       ·rw[(hNw i hn').2]at hh;cases hh) (fun p hp=>⟨hnewO p (List.mem_cons_of_mem _ hp),hmad p hp⟩)
     have hjs:j<v.cells.size:=by rw[hcs'.1];exact hj
     refine⟨if_pos rfl,by simp only[World.frozen?,Za];simp,v.cells.getD j undef,?_,hcs'.2 j hj⟩
     rw[hnewblk]
     simp only[Nat.zero_add]
     exact getD_eq hjs
    ·obtain⟨⟨e,sz,h3⟩,_⟩:=(Tj ti.cs x.cells (b2 d+1)).2.2 _ hy'
     dsimp only at h3
     subst h3
     exact⟨⟨by simp [Sl.es],.inl ⟨trivial,rfl,hmad _ hy'⟩⟩,(hNw _ ⟨_,List.mem_cons_of_mem _ hy',rfl⟩).ne⟩
   ·cases hy'
   ·left
    refine⟨id,hy',?_⟩
    rcases hE q y hy with hn' | ⟨_,h3,_,h4⟩
    ·rw[(hNw q hn').2]at hy';cases hy'
    ·exact h4
  ·show AV O' _ m' (w.alloc (.cells v.cells t)) _ (.ptr (b2 d) 0)
   refine⟨rfl,?_⟩
   rw[hobjs,hnewO (b2 d,.box ad.1) List.mem_cons_self]
   exact⟨w.heap.size,0,if_pos rfl,rfl⟩
end
end Go.Proofs.YtadefjgbcapakaaGreatDoor.Vm
namespace Go.Proofs.YtadefjgbcapakaaGreatDoor.Vm
open Classical
section
variable {P:Program} {C:Ctx} {V0:Nat→Value} {O0 O:Own} {w0 w:World} {m:Nat→Value} {st:St} {a:Act} {o:Oper}
theorem Sim.XH (hS:Sim V0 O0 w0 O m st a w) {q e:Nat} {f:Bool} {l:Sl} (hq:Ai st.Aa q=some (.arr e f l)) :
    ∃ O',Sim V0 O0 w0 O' m {st with Aa:=C9 st.Aa q (.arr e true l)} a w∧Ep O w O' w∧(∀ b k,O' b k≠none→O b k≠none)∧Am O' w (m q) (.sl l)∧ ∀ b k r,O b k=some r→r≠q→O' b k=some r:=by
  obtain⟨hsz,hr⟩:=hS.Aa q _ hq
  let O':Own:=fun b k=>if(∃ n cap,m q= .slice (some (at' b 0)) n cap)∧k<l.es.length*l.sz then none else O b k
  have hno: ∀ b k,O b k=none→O' b k=none:=by
    intro b k h;show(if _ then _ else _)=_;split;rfl;exact h
  have hle: ∀ b k,O' b k≠none→O b k≠none:=by
    intro b k h h';exact h (hno b k h')
  have hkeep: ∀ b k r,O b k=some r→r≠q→O' b k=some r:=by
    intro b k r h hne
    show(if _ then _ else _)=_
    rw[if_neg ?_]
    ·exact h
    ·rintro ⟨⟨n,cap,hm⟩,hk⟩
     rcases hr with ⟨_,h2,_⟩ | ⟨_,g,cap',cur,h1,_,_,_,_,_,_,h8⟩
     ·rw[h2]at hk;simp at hk
     ·rw[h1]at hm;injection hm with hm;injection hm with hm;injection hm with hm
      subst hm
      have:=h8 k hk
      rw[h]at this
      cases f
      ·simp at this;exact hne this
      ·simp at this
  have hp:Ep O w O' w:=fun b k u h hc=>⟨hno b k h,hc⟩
  have hE:Hr st.Aa m (C9 st.Aa q (.arr e true l)) m (fun _=>False):=by
    intro r y hy
    rw[Bv]at hy
    by_cases hrq:r=q
    ·subst hrq
     rw[if_pos rfl]at hy;injection hy with hy;subst hy
     exact .inr ⟨_,hq,rfl,rfl⟩
    ·rw[if_neg hrq]at hy;exact .inr ⟨y,hy,rfl,rfl⟩
  have hO:Dc O' (C9 st.Aa q (.arr e true l)) m w q (.arr e true l):=by
    refine⟨hsz,?_⟩
    rcases hr with h | ⟨h1,g,cap,cur,h2,h3,h4,h5,h6,h7,h8,h9⟩
    ·exact .inl h
    ·refine .inr ⟨h1,g,cap,cur,h2,h3,h4,h5,h6,fun i j hi hj=> ?_,fun k hk hge=> ?_,fun k hk=> ?_⟩
     ·obtain⟨u,h10,h11⟩:=h7 i j hi hj
      exact⟨u,h10,h11.Bj hp⟩
     ·show(if _ then _ else _)=_
      rw[if_neg (by rintro ⟨_,h⟩;omega)];exact h8 k hk hge
     ·show(if _ then _ else _)=_
      rw[if_pos ⟨⟨_,_,h2⟩,hk⟩];rfl
  refine⟨O',⟨hS.defers,hS.size,fun t ht=>(hS.tmps t ht).step hp hE (fun _ _ h=>h),fun r y hy=> ?_,hS.frame,fun b k r hb h hne=> ?_,fun r y hy=> ?_,fun b k hb h=>hS.less b k hb (hle b k h),fun o hr ho=>hS.root o hr (by dsimp only at ho;rw[Bv]at ho;by_cases hq':o=q;(rw [hq',hq];rfl);(rw [if_neg hq']at ho;exact ho)),fun b k hb h=>hkeep b k 255 (hS.WN b k hb h) (fun e=>hS.ids q _ hq e.symm),hS.inv⟩,hp,hle,?_,hkeep⟩
  ·have hy':=hy
   rw[Bv]at hy
   by_cases hrq:r=q
   ·subst hrq
    rw[if_pos rfl]at hy;injection hy with hy;subst hy
    exact hO
   ·rw[if_neg hrq]at hy
    exact(hS.Aa r y hy).step (T:=fun i=>i=q) (Moves.refl O _ w) ⟨fun b k _ h=>hno b k h,fun b k r' _ h hT=>hkeep b k r' h hT⟩ hE hrq rfl (fun _ _ h=>h)
  ·have h':(if(∃ n cap,m q= .slice (some (at' b 0)) n cap)∧k<l.es.length*l.sz then none else O b k)=some r:=h
   split at h'
   ·cases h'
   ·exact hS.own b k r hb h' hne
  ·rw[Bv]at hy
   by_cases hrq:r=q
   ·rw[hrq];exact hS.ids q _ hq
   ·rw[if_neg hrq]at hy;exact hS.ids r y hy
  ·rcases hr with ⟨h1,h2,h3⟩ | ⟨h1,g,cap,cur,h2,h3,h4,h5,h6,h7,h8,h9⟩
   ·rw[h3];exact Am.ofNil h2
   ·rw[h2]
    have hv: ∀ i j,i<l.es.length→j<l.sz→ ∃ u,cur[i*l.sz+j]? =some u∧Am O w u ((l.es.getD i []).getD j .undef):=h7
    refine Am.sl (fun i j=>(cur[i*l.sz+j]?).getD undef) h4 (fun i j hi hj=> ?_) (fun i j hi hj=> ?_)
    ·obtain⟨u,h10,_⟩:=hv i j hi hj
     refine⟨?_,by rw[Nat.zero_add,h3.cell,h10];rfl⟩
     show(if _ then _ else _)=_
     rw[if_pos]
     refine⟨⟨_,_,h2⟩,?_⟩
     have:(i+1)*l.sz≤l.es.length*l.sz:=Nat.mul_le_mul_right _ hi
     rw[Nat.add_mul]at this;omega
    ·obtain⟨u,h10,h11⟩:=hv i j hi hj
     rw[h10];exact h11.Bj hp
theorem Dc.frozen {Aa:List (Nat×Obj)} {q e:Nat} {l:Sl} (h:Dc O Aa m w q (.arr e true l)):Am O w (m q) (.sl l):=by
  rcases h.2 with ⟨h1,h2,h3⟩ | ⟨h1,g,cap,cur,h2,h3,h4,h5,h6,h7,h8,h9⟩
  ·rw[h3];exact Am.ofNil h2
  ·rw[h2]
   refine Am.sl (fun i j=>(cur[i*l.sz+j]?).getD undef) h4 (fun i j hi hj=> ?_) (fun i j hi hj=> ?_)
   ·obtain⟨u,h10,_⟩:=h7 i j hi hj
    have:(i+1)*l.sz≤l.es.length*l.sz:=Nat.mul_le_mul_right _ hi
    rw[Nat.add_mul]at this
    refine⟨by have:=h9 (i*l.sz+j) (by omega);simpa using this,by rw[Nat.zero_add,h3.cell,h10];rfl⟩
   ·obtain⟨u,h10,h11⟩:=h7 i j hi hj
    rw[h10];exact h11
def Frz (Aa:List (Nat×Obj)) (U:List (Nat×Obj)):Prop:= ∀ p∈U,∃ e f l,Ai Aa p.1=some (.arr e f l)∧p.2= .arr e true l
def NR (Aa:List (Nat×Obj)) (q:Nat):Prop:= ∀ e f l,Ai Aa q≠some (.arr e f l)
theorem NR.of {Aa:List (Nat×Obj)} {q:Nat} {x:Obj} (h:Ai Aa q=some x) (hx: ∀ e f l,x≠ .arr e f l):NR Aa q:=fun e f l h'=>hx e f l (by rw[h]at h';injection h')
theorem Sim.freezes: ∀(U:List (Nat×Obj)) {O:Own} {st:St},Sim V0 O0 w0 O m st a w→Frz st.Aa U →
    ∃ O',Sim V0 O0 w0 O' m {st with Aa:=Au st.Aa U} a w∧Ep O w O' w∧(∀ b k,O' b k≠none→O b k≠none)∧(∀ p∈U,∀ e l,p.2= .arr e true l→Am O' w (m p.1) (.sl l)) ∧
      Hr st.Aa m (Au st.Aa U) m (fun _=>False)∧ ∀ b k r,O b k=some r→NR st.Aa r→O' b k=some r:=by
  intro U
  induction U with
  | nil=>intro O st hS _;exact⟨O,hS,fun _ _ _ h hc=>⟨h,hc⟩,fun _ _ h=>h,(fun p hp=>by cases hp),(fun o y hy=>.inr ⟨y,hy,rfl,rfl⟩),fun _ _ _ h _=>h⟩
  | cons p U ih =>
    intro O st hS hU
    obtain⟨q,y⟩:=p
    obtain⟨e,f,l,h1,h2⟩:=hU (q,y) List.mem_cons_self
    dsimp only at h1 h2
    subst h2
    obtain⟨O1,hS1,hp1,hle1,hv1,hk1⟩:=hS.XH h1
    obtain⟨O2,hS2,hp2,hle2,hv2,hE2,hk2⟩:=ih hS1 (fun p hp=>by
      obtain⟨e',f',l',h3,h4⟩:=hU p (List.mem_cons_of_mem _ hp)
      by_cases hq:p.1=q
      ·refine⟨e',true,l',?_,h4⟩
       rw[Bv,if_pos hq]
       rw[hq,h1]at h3;injection h3 with h3;injection h3 with q1 q2 q3
       subst q1;subst q3;rfl
      ·exact⟨e',f',l',by rw[Bv,if_neg hq];exact h3,h4⟩)
    refine⟨O2,hS2,fun b k u h hc=>hp2 b k u (hp1 b k u h hc).1 hc,fun b k h=>hle1 b k (hle2 b k h),fun p hp e' l' he=> ?_,fun r y hy=> ?_,fun b k r h hb=> ?_⟩
    ·rcases List.mem_cons.1 hp with rfl | hp
     ·injection he with q1 _ q3
      subst q1;subst q3
      exact hv1.Bj hp2
     ·exact hv2 p hp _ _ he
    ·rcases hE2 r y hy with h | ⟨z,h3,h4,_⟩
     ·exact h.elim
     ·right
      dsimp only at h3
      rw[Bv]at h3
      by_cases hr:r=q
      ·subst hr
       rw[if_pos rfl]at h3;injection h3 with h3;subst h3
       exact⟨_,h1,h4,rfl⟩
      ·rw[if_neg hr]at h3;exact⟨z,h3,h4,rfl⟩
    ·have hrq:r≠q:=fun h=>hb _ _ _ (by rw[h];exact h1)
     exact hk2 b k r (hk1 b k r h hrq) (fun e' f' l'=>by dsimp only;rw[Bv,if_neg hrq];exact hb e' f' l')
theorem vH {l:List (Nat×Obj)} {n:Nat} {p:Nat×Obj} (h:p∈IM l n):p∈l:=by
  induction l with
  | nil=>cases h
  | cons q r ih =>
    obtain⟨k,x⟩:=q
    rw[fC]at h
    split at h
    ·exact List.mem_cons_of_mem _ (ih h)
    ·rcases List.mem_cons.1 h with h | h
     ·rw[h];exact List.mem_cons_self
     ·exact List.mem_cons_of_mem _ (ih h)
theorem Aft {l:List (Nat×Obj)} {n:Nat} {y:Obj} {p:Nat×Obj} (h:p∈RX l n y):p=(n,y)∨p∈l:=by
  induction l with
  | nil=>simp only[RX,List.mem_singleton]at h;exact .inl h
  | cons q r ih =>
    obtain⟨k,x⟩:=q
    simp only[RX]at h
    cases hle:Nat.ble n k with
    | true =>
      rw[hle]at h;simp only[cond_true]at h
      rcases List.mem_cons.1 h with h | h
      ·exact .inl h
      ·exact .inr h
    | false =>
      rw[hle]at h;simp only[cond_false]at h
      rcases List.mem_cons.1 h with h | h
      ·exact .inr (by rw[h];exact List.mem_cons_self)
      ·rcases ih h with h | h
       ·exact .inl h
       ·exact .inr (List.mem_cons_of_mem _ h)
theorem TE: ∀(u:List (Nat×Obj)) {l:List (Nat×Obj)} {p:Nat×Obj},p∈Au l u→p∈u∨p∈l:=by
  intro u
  induction u with
  | nil=>intro l p h;exact .inr h
  | cons q u ih =>
    intro l p h
    obtain⟨n,y⟩:=q
    rcases ih h with h | h
    ·exact .inl (List.mem_cons_of_mem _ h)
    ·rcases Aft h with h | h
     ·exact .inl (by rw[h];exact List.mem_cons_self)
     ·exact .inr (vH h)
theorem Gp.frz {n:Nat} {U:List (Nat×Obj)} (h:Gp st n) (hU:Frz st.Aa U):Gp {st with Aa:=Au st.Aa U} n:=by
  refine⟨fun hm=> ?_,?_,h.ne,h.root⟩
  ·rcases List.mem_append.1 hm with h1 | h1
   ·exact h.1 (List.mem_append_left _ h1)
   ·obtain⟨p,hp,hi⟩:=List.mem_flatMap.1 h1
    rcases TE U hp with hp | hp
    ·obtain⟨e,f,l,_,h2⟩:=hU p hp
     rw[h2]at hi;cases hi
    ·exact h.1 (List.mem_append_right _ (List.mem_flatMap.2 ⟨p,hp,hi⟩))
  ·rw[Di _ _ _ (fun p hp he=> ?_)]
   ·exact h.2
   ·obtain⟨e,f,l,h1,_⟩:=hU p hp
    rw[he,h.2]at h1;cases h1
def Ir (Aa:List (Nat×Obj)) (fet:Fet):Prop:= ∀ q x,Ai fet q=some x→Ai Aa q=some x
theorem Af5 {O:Own} {w:World} {k:CK} {v:Value} {l:Sl} (hok:AA (Abv k l).1) (h:Am O w v (.sl l)):Am O w v (Abv k l).2:=by
  cases k<;>first
    | exact h
    | (have h0:=hok.cons.1
       exact .sln h fun he=>by simp [he]at h0)
theorem Amf {O:Own} {w:World} {v:Value} {l:Sl} (k:CK) (h:Am O w v (.sln l)):Am O w v (AnT k l):=by
  cases k<;>first
    | exact h
    | (cases h with
       | sln h _=>exact h)
theorem Af6 {fet:Fet} {k:CK} {c:A} {v:Value} (hf:Ir st.Aa fet) (hc:AV O st.Aa m w v c) (hok:AA (pur fet k c).1) :
    Frz st.Aa (pur fet k c).2.2∧ ∀ {O':Own},Ep O w O' w→(∀ p∈(pur fet k c).2.2,∀ e l,p.2= .arr e true l→Am O' w (m p.1) (.sl l))→Am O' w v (pur fet k c).2.1:=by
  have triv:Frz st.Aa []:=fun p hp=>by cases hp
  unfold pur at *
  cases c with
  | own q =>
    dsimp only at hok ⊢
    cases hg:Ai fet q with
    | none=>rw[hg]at hok;have:=hok false (by simp);cases this
    | some x =>
      cases x with
      | box _=>rw[hg]at hok;have:=hok false (by simp);cases this
      | mp _=>rw[hg]at hok;have:=hok false (by simp);cases this
      | arr e f l =>
        rw[hg]at hok
        dsimp only at hok ⊢
        have h1:=hf q _ hg
        refine⟨fun p hp=> ?_,fun hp hv=> ?_⟩
        ·simp at hp;subst hp;exact⟨e,f,l,h1,rfl⟩
        ·have h2:=hc.2
         rw[h1]at h2
         simp only[Option.map_some,Obj.shp]at h2
         rw[h2]
         exact Af5 hok (hv _ List.mem_cons_self e l rfl)
  | CJ =>
    have hv:=hc.CJ
    cases k with
    | sl e sz=>subst hv;exact⟨triv,fun _ _=>.nil _⟩
    | sln e sz=>subst hv;exact⟨triv,fun _ _=>.sln (.nil _) fun _=>rfl⟩
    | _=>have:=hok false (by simp);cases this
  | bool _=>exact⟨triv,fun hp _=>Am.Bj hp hc⟩
  | int _ _=>exact⟨triv,fun hp _=>Am.Bj hp hc⟩
  | str _=>exact⟨triv,fun hp _=>Am.Bj hp hc⟩
  | sl _=>exact⟨triv,fun hp _=>Af5 hok (Am.Bj hp hc)⟩
  | sln _=>exact⟨triv,fun hp _=>Amf k (Am.Bj hp hc)⟩
  | Dw=>exact⟨triv,fun hp _=>Am.Bj hp hc⟩
  | fn _=>exact⟨triv,fun hp _=>Am.Bj hp hc⟩
  | _=>have:=hok false (by simp);cases this
theorem Frz.append {Aa:List (Nat×Obj)} {U V:List (Nat×Obj)} (h:Frz Aa U) (h':Frz Aa V):Frz Aa (U++V):=fun p hp=>(List.mem_append.1 hp).elim (h p) (h' p)
theorem VP {fet:Fet} (hf:Ir st.Aa fet): ∀(ks:List CK) (cs:List A) (f:Nat→Value),(∀ j,j<cs.length→AV O st.Aa m w (f j) (cs.getD j .undef))→AA (BZ fet ks cs).1 →
    (BZ fet ks cs).2.1.length=ks.length∧cs.length=ks.length∧Frz st.Aa (BZ fet ks cs).2.2∧ ∀ {O':Own},Ep O w O' w→(∀ p∈(BZ fet ks cs).2.2,∀ e l,p.2= .arr e true l→Am O' w (m p.1) (.sl l)) →
      ∀ j,j<ks.length→Am O' w (f j) ((BZ fet ks cs).2.1.getD j .undef):=by
  intro ks
  induction ks with
  | nil =>
    intro cs f _ hok
    cases cs with
    | nil=>exact⟨rfl,rfl,fun p hp=>by simp [BZ]at hp,fun _ _ j hj=>by simp at hj⟩
    | cons _ _=>have:=hok false (by simp [BZ]);cases this
  | cons k ks ih =>
    intro cs f h hok
    cases cs with
    | nil=>have:=hok false (by simp [BZ]);cases this
    | cons c cs =>
      simp only[BZ]at hok ⊢
      obtain⟨hok1,hok2⟩:=hok.append
      obtain⟨h1,h2⟩:=Af6 hf (h 0 (by simp)) hok1
      obtain⟨h3,h4,h5,h6⟩:=ih cs (fun j=>f (j+1)) (fun j hj=>by simpa using h (j+1) (by simpa using hj)) hok2
      refine⟨by simp [h3],by simp [h4],h1.append h5,fun hp hv j hj=> ?_⟩
      cases j with
      | zero=>exact h2 hp (fun p hp=>hv p (List.mem_append_left _ hp))
      | succ j=>simpa using h6 hp (fun p hp=>hv p (List.mem_append_right _ hp)) j (by simpa using hj)
end
