import Derived.Test.YtbnphelpndnnfabGreatDoorA3
import Derived.Laws.Append
import Derived.Laws.AppendOwn
import Derived.Laws.OwnMore
import Derived.Laws.MakeOwn
set_option linter.all false
namespace Go.Proofs.YtbnphelpndnnfabGreatDoor.Vm
section
variable {P:Program} {C:Ctx} {V0:Nat->Value} {O0 O:Own} {w0 w:World} {m:Nat->Value} {st:St} {a:Act} {o:Oper}
theorem DF.ER {Dj:List (Nat×Obj)} {v:Value} (h:DF O Dj m w v .ER):v= .slice none 0 0:=h
theorem JH.Alq {O':Own} {w':World} {objs':List (Nat×Obj)} {m':Nat->Value} {vs:Array Value} {cs:List A} {ks:List CK} {id:Nat} {Nw:Nat->Prop} (h:JH O st.Dj m w vs cs) (hp:FW O w O' w') (hE:J9 st.Dj m objs' m' Nw)
    (hN: ∀ j,j<cs.length-> ∀ i∈(cs.getD j .undef).FN,¬ Nw i) (hnew: ∀ p∈(EO id ks cs).2,Dy objs' p.1=some p.2/\m' p.1= .slice none 0 0):JH O' objs' m' w' vs (EO id ks cs).1:=by
  obtain⟨h1,h2,_⟩:=WU ks cs id
  refine⟨by rw[h1];exact h.1,fun j hj=> ?_⟩
  rw[h1]at hj
  rcases h2 j hj with he | ⟨hn,he,e,sz,hm⟩
  ·rw[he];exact(h.2 j hj).step hp hE (hN j hj)
  ·have:=h.2 j hj
   rw[hn]at this
   have hv:=this.ER
   rw[he,hv]
   obtain⟨g1,g2⟩:=hnew _ hm
   dsimp only at g1 g2
   refine⟨rfl,?_⟩
   rw[g1];exact g2.symm
theorem tZ {x:A} (hv:x.isVal=true) {j:Nat} (hj:j<x.cells.length) {i:Nat} (hi:i∈(x.cells.getD j .undef).FN):i∈x.ids:=by
  cases x with
  | agg cs=>exact L9 (f:=A.FN) hj hi
  | undef=>cases hv
  | tup _=>cases hv
  | usl _ _ _=>cases hv
  | ump _=>cases hv
  | box _=>cases hv
  | cbx _ _=>cases hv
  | cnd _ _=>cases hv
  | _ =>
    have:j=0:=by simpa [A.cells]using hj
    subst this
    exact hi
theorem Ag0 {vs:Array Value} {cs:List A} {ks:List CK} {t:Nat} {r:Value} {y:A} {okl:List Bool} (hS:Sim V0 O0 w0 O m st a w) (hcs:JH O st.Dj m w vs cs) (hids: ∀ j,j<cs.length-> ∀ i∈(cs.getD j .undef).FN,i∈st.ids\/(Dy st.Dj i).isSome) {d:Nat} (hd:o.dst=some d)
    (hr:(execOp a.eval o).run P w= .ok (.value r) (w.alloc (.cells vs t)))
    (hy: ∀(O':Own) (objs':List (Nat×Obj)) (m':Nat->Value) (w':World) (c:List A),Dy objs' (b2 d)=some (.box c)->m' (b2 d)= .pointer (some (at' w.heap.size 0))->DD O' objs' m' w' r y)
    (hfr: ∀ p∈(b2 d,Obj.box (EO (b2 d+1) ks cs).1)::(EO (b2 d+1) ks cs).2,st.fresh p.1=true) (hnd:nodup (((b2 d,Obj.box (EO (b2 d+1) ks cs).1)::(EO (b2 d+1) ks cs).2).map (·.1))=true) :
    Good P V0 O0 w0 (apply st o {ok:=okl,val:=y,new:=(b2 d,.box (EO (b2 d+1) ks cs).1)::(EO (b2 d+1) ks cs).2}) o a w:=by
  intro next Q hn
  unfold Oper.wp
  rw[hr,Oper.upon_value]
  let ad:=EO (b2 d+1) ks cs
  let m':Nat->Value:=fun i=>if i=b2 d then .pointer (some (at' w.heap.size 0))else if has (ad.2.map (·.1)) i then .slice none 0 0 else m i
  let O':Own:=fun b k=>if b=w.heap.size then some (b2 d)else O b k
  let Nw:Nat->Prop:=fun i=> ∃ p∈((b2 d,Obj.box ad.1)::ad.2),p.1=i
  have hNw: ∀ i,Nw i->IL st i:=by
    rintro i ⟨p,hp,rfl⟩
    exact FP (hfr p hp)
  refine hn O' m' _ _ ?_
  have hobjs:(apply st o {ok:=okl,val:=y,new:=(b2 d,.box ad.1)::ad.2}).Dj=DC (Ed (DC st.Dj []) []) ((b2 d,.box ad.1)::ad.2):=rfl
  have hnewO: ∀ p∈((b2 d,Obj.box ad.1)::ad.2),Dy (DC (Ed (DC st.Dj []) []) ((b2 d,.box ad.1)::ad.2)) p.1=some p.2:=fun p hp=>jJ hnd (by exact hp)
  have hb2:has (ad.2.map (·.1)) (b2 d)=false:=by
    simp only[List.map_cons,nodup,Bool.and_eq_true,Bool.not_eq_true']at hnd
    exact hnd.1
  have hmad: ∀ p∈ad.2,m' p.1= .slice none 0 0:=by
    intro p hp
    have h3:has (ad.2.map (·.1)) p.1=true:=Ik.2 (List.mem_map.2 ⟨p,hp,rfl⟩)
    have h4:p.1≠b2 d:=fun e=>by rw[e,hb2]at h3;cases h3
    show(if p.1=b2 d then _ else _)=_
    rw[if_neg h4,if_pos h3]
  have hE:J9 st.Dj m (DC (Ed (DC st.Dj []) []) ((b2 d,.box ad.1)::ad.2)) m' Nw:=by
    intro i y hy
    rcases QB hy with hy' | ⟨hno,_,hy' | ⟨_,hy'⟩⟩
    ·exact .inl ⟨_,hy',rfl⟩
    ·cases hy'
    ·refine .inr ⟨y,hy',rfl,?_⟩
     have h3:i≠b2 d:=fun e=>hno (.box ad.1) (by rw[e];exact List.mem_cons_self)
     have h4:has (ad.2.map (·.1)) i=false:=by
       cases hh:has (ad.2.map (·.1)) i with
       | false=>rfl
       | true =>
         obtain⟨p,hp,hpe⟩:=List.mem_map.1 (Ik.1 hh)
         exact absurd (List.mem_cons_of_mem _ (by rw[<- hpe];exact hp)) (hno p.2)
     show(if i=b2 d then _ else _)=_
     rw[if_neg h3,h4];rfl
  have hM:Moves O (fun _=>False) w (w.alloc (.cells vs t)):=Moves.push _
  have hP:Passes O O' (fun _=>False) w.heap.size:=⟨fun b k hb h=>by show(if b=_ then _ else _)=_;rw[if_neg (Nat.ne_of_lt hb)];exact h,fun b k q hb h _=>by show(if b=_ then _ else _)=_;rw[if_neg (Nat.ne_of_lt hb)];exact h⟩
  have hpr:=hM.DY hP
  have hnewblk: ∀ k,(w.alloc (.cells vs t)).cell? (at' w.heap.size k)=vs[k]? :=by
    intro k;exact World.cell?_alloc_at vs t _ _ rfl
  refine hS.next (T:=fun _=>False) (Nw:=Nw) hM hP (fun b k hb h=> ?_) hE (fun n hn'=>(hNw n hn').both) (fun _ h=>h.elim) (fun q y hy=> ?_) rfl (fun _=> ?_)
  ·have:O' b k=O b k:=if_neg (Nat.ne_of_lt hb)
   rw[this]at h;exact h
  ·rcases QB hy with hy' | ⟨hno,_,hy' | ⟨_,hy'⟩⟩
   ·right
    rcases List.mem_cons.1 hy' with e | hy'
    ·injection e with e1 e2
     subst e1;subst e2
     refine⟨⟨w.heap.size,0,if_pos rfl,fun j hj=> ?_⟩,(hNw _ ⟨_,List.mem_cons_self,rfl⟩).ne⟩
     have hcs':JH O' _ m' _ vs ad.1:=hcs.Alq (ks:=ks) (id:=b2 d+1) hpr hE (fun j hj i hi hn'=>by
       rcases hids j hj i hi with hh | hh
       ·exact(hNw i hn').1 hh
       ·rw[(hNw i hn').2]at hh;cases hh) (fun p hp=>⟨hnewO p (List.mem_cons_of_mem _ hp),hmad p hp⟩)
     have hjs:j<vs.size:=by rw[hcs'.1];exact hj
     refine⟨if_pos rfl,by simp only[World.frozen?,kV];simp,vs.getD j undef,?_,hcs'.2 j hj⟩
     rw[hnewblk]
     simp only[Nat.zero_add]
     exact getD_eq hjs
    ·obtain⟨⟨e,sz,h3⟩,_⟩:=(WU ks cs (b2 d+1)).2.2 _ hy'
     dsimp only at h3
     subst h3
     exact⟨⟨by simp [Sl.es],.inl ⟨trivial,rfl,hmad _ hy'⟩⟩,(hNw _ ⟨_,List.mem_cons_of_mem _ hy',rfl⟩).ne⟩
   ·cases hy'
   ·left
    refine⟨id,hy',?_⟩
    rcases hE q y hy with hn' | ⟨_,h3,_,h4⟩
    ·rw[(hNw q hn').2]at hy';cases hy'
    ·exact h4
  ·exact hy _ _ _ _ _ (hnewO (b2 d,.box ad.1) List.mem_cons_self) (if_pos rfl)
theorem Ai3 {t:Nat} {v:Value} {x:A} (hC:TOk P C) (hS:Sim V0 O0 w0 O m st a w) (hx:DD O st.Dj m w v x) (hids: ∀ i∈x.ids,i∈st.ids\/(Dy st.Dj i).isSome) {d:Nat} (hd:o.dst=some d)
    (hrun: ∀ ti,C.T t=some ti->x.isVal=true->v.cells.size=ti.cs.length->(execOp a.eval o).run P w= .ok (.value (.pointer (some (at' w.heap.size 0)))) (w.alloc (.cells v.cells t)))
    (hok:D7 (PL C d t x).ok) (hfr: ∀ p∈(PL C d t x).new,st.fresh p.1=true) (hnd:nodup ((PL C d t x).new.map (·.1))=true):Good P V0 O0 w0 (apply st o (PL C d t x)) o a w:=by
  unfold PL at *
  obtain⟨ti,ht,he⟩:=Ef hok
  rw[he]at hok hfr hnd ⊢;clear he
  obtain⟨h1,h2⟩:=hok.cons
  have h2:=Nat.eq_of_beq_eq_true h2.cons.1
  have hcs:=hx.cells h1
  refine Ag0 (ks:=adK C d ti) hS hcs (fun j hj i hi=>hids i (tZ h1 hj hi)) hd (hrun ti ht h1 (by rw[hcs.1,h2])) (fun O' objs' m' w' c hc hm=> ?_) hfr hnd
  show DF O' objs' m' w' _ (.ptr (b2 d) 0)
  refine⟨rfl,?_⟩
  rw[hc]
  exact⟨w.heap.size,0,hm,rfl⟩
end
end Go.Proofs.YtbnphelpndnnfabGreatDoor.Vm
namespace Go.Proofs.YtbnphelpndnnfabGreatDoor.Vm
open Classical
section
variable {P:Program} {C:Ctx} {V0:Nat->Value} {O0 O:Own} {w0 w:World} {m:Nat->Value} {st:St} {a:Act} {o:Oper}
theorem Sim.fV (hS:Sim V0 O0 w0 O m st a w) {q e:Nat} {f:Bool} {l:Sl} (hq:Dy st.Dj q=some (.arr e f l)) :
    ∃ O',Sim V0 O0 w0 O' m {st with Dj:=EZ st.Dj q (.arr e true l)} a w/\FW O w O' w/\(∀ b k,O' b k≠none->O b k≠none)/\D6 O' w (m q) (.sl l)/\ ∀ b k r,O b k=some r->r≠q->O' b k=some r:=by
  obtain⟨hsz,hr⟩:=hS.Dj q _ hq
  let O':Own:=fun b k=>if(∃ n cap,m q= .slice (some (at' b 0)) n cap)/\k<l.es.length*l.sz then none else O b k
  have hno: ∀ b k,O b k=none->O' b k=none:=by
    intro b k h;show(if _ then _ else _)=_;split;rfl;exact h
  have hle: ∀ b k,O' b k≠none->O b k≠none:=by
    intro b k h h';exact h (hno b k h')
  have hkeep: ∀ b k r,O b k=some r->r≠q->O' b k=some r:=by
    intro b k r h hne
    show(if _ then _ else _)=_
    rw[if_neg ?_]
    ·exact h
    ·rintro ⟨⟨n,cap,hm⟩,hk⟩
     rcases hr with ⟨_,h2,_⟩ | ⟨_,g,cap',cur,h1,_,_,_,_,_,_,h8⟩
     all_goals simp_all[Dy,EZ,FW,D6]
  have hp:FW O w O' w:=fun b k u h hc=>⟨hno b k h,hc⟩
  have hE:J9 st.Dj m (EZ st.Dj q (.arr e true l)) m (fun _=>False):=by
    intro r y hy
    rw[Eg]at hy
    by_cases hrq:r=q
    ·subst hrq
     rw[if_pos rfl]at hy;injection hy with hy;subst hy
     exact .inr ⟨_,hq,rfl,rfl⟩
    ·rw[if_neg hrq]at hy;exact .inr ⟨y,hy,rfl,rfl⟩
  have hO:ET O' (EZ st.Dj q (.arr e true l)) m w q (.arr e true l):=by
    refine⟨hsz,?_⟩
    rcases hr with h | ⟨h1,g,cap,cur,h2,h3,h4,h5,h6,h7,h8,h9⟩
    ·exact .inl h
    ·refine .inr ⟨h1,g,cap,cur,h2,h3,h4,h5,h6,fun i j hi hj=> ?_,fun k hk hge=> ?_,fun k hk=> ?_⟩
     ·obtain⟨u,h10,h11⟩:=h7 i j hi hj
      exact⟨u,h10,h11.DY hp⟩
     ·show(if _ then _ else _)=_
      rw[if_neg (by rintro ⟨_,h⟩;omega)];exact h8 k hk hge
     ·show(if _ then _ else _)=_
      rw[if_pos ⟨⟨_,_,h2⟩,hk⟩];rfl
  refine⟨O',⟨hS.defers,hS.size,fun t ht=>(hS.tmps t ht).step hp hE (fun _ _ h=>h),fun r y hy=> ?_,hS.frame,fun b k r hb h hne=> ?_,fun r y hy=> ?_,fun b k hb h=>hS.less b k hb (hle b k h),fun o hr ho=>hS.root o hr (by dsimp only at ho;rw[Eg]at ho;by_cases hq':o=q;(rw [hq',hq];rfl);(rw [if_neg hq']at ho;exact ho)),fun b k hb h=>hkeep b k 255 (hS.bD b k hb h) (fun e=>hS.ids q _ hq e.symm),hS.inv⟩,hp,hle,?_,hkeep⟩
  ·have hy':=hy
   rw[Eg]at hy
   by_cases hrq:r=q
   ·subst hrq
    rw[if_pos rfl]at hy;injection hy with hy;subst hy
    exact hO
   ·rw[if_neg hrq]at hy
    exact(hS.Dj r y hy).step (T:=fun i=>i=q) (Moves.refl O _ w) ⟨fun b k _ h=>hno b k h,fun b k r' _ h hT=>hkeep b k r' h hT⟩ hE hrq rfl (fun _ _ h=>h)
  ·have h':(if(∃ n cap,m q= .slice (some (at' b 0)) n cap)/\k<l.es.length*l.sz then none else O b k)=some r:=h
   split at h'
   ·cases h'
   ·exact hS.own b k r hb h' hne
  ·rw[Eg]at hy
   by_cases hrq:r=q
   ·rw[hrq];exact hS.ids q _ hq
   ·rw[if_neg hrq]at hy;exact hS.ids r y hy
  ·rcases hr with ⟨h1,h2,h3⟩ | ⟨h1,g,cap,cur,h2,h3,h4,h5,h6,h7,h8,h9⟩
   ·rw[h3];exact D6.ofNil h2
   ·rw[h2]
    have hv: ∀ i j,i<l.es.length->j<l.sz-> ∃ u,cur[i*l.sz+j]? =some u/\D6 O w u ((l.es.getD i []).getD j .undef):=h7
    refine D6.sl (fun i j=>(cur[i*l.sz+j]?).getD undef) h4 (fun i j hi hj=> ?_) (fun i j hi hj=> ?_)
    ·obtain⟨u,h10,_⟩:=hv i j hi hj
     refine⟨?_,by rw[Nat.zero_add,h3.cell,h10];rfl⟩
     show(if _ then _ else _)=_
     rw[if_pos]
     refine⟨⟨_,_,h2⟩,?_⟩
     have:(i+1)*l.sz<=l.es.length*l.sz:=Nat.mul_le_mul_right _ hi
     rw[Nat.add_mul]at this;omega
    ·obtain⟨u,h10,h11⟩:=hv i j hi hj
     rw[h10];exact h11.DY hp
theorem ET.frozen {Dj:List (Nat×Obj)} {q e:Nat} {l:Sl} (h:ET O Dj m w q (.arr e true l)):D6 O w (m q) (.sl l):=by
  rcases h.2 with ⟨h1,h2,h3⟩ | ⟨h1,g,cap,cur,h2,h3,h4,h5,h6,h7,h8,h9⟩
  ·rw[h3];exact D6.ofNil h2
  ·rw[h2]
   refine D6.sl (fun i j=>(cur[i*l.sz+j]?).getD undef) h4 (fun i j hi hj=> ?_) (fun i j hi hj=> ?_)
   ·obtain⟨u,h10,_⟩:=h7 i j hi hj
    have:(i+1)*l.sz<=l.es.length*l.sz:=Nat.mul_le_mul_right _ hi
    rw[Nat.add_mul]at this
    refine⟨by have:=h9 (i*l.sz+j) (by omega);simpa using this,by rw[Nat.zero_add,h3.cell,h10];rfl⟩
   ·obtain⟨u,h10,h11⟩:=h7 i j hi hj
    rw[h10];exact h11
def Frz (Dj:List (Nat×Obj)) (U:List (Nat×Obj)):Prop:= ∀ p∈U,∃ e f l,Dy Dj p.1=some (.arr e f l)/\p.2= .arr e true l
def NR (Dj:List (Nat×Obj)) (q:Nat):Prop:= ∀ e f l,Dy Dj q≠some (.arr e f l)
theorem NR.of {Dj:List (Nat×Obj)} {q:Nat} {x:Obj} (h:Dy Dj q=some x) (hx: ∀ e f l,x≠ .arr e f l):NR Dj q:=by grind[Obj,Dy,NR]
theorem Sim.freezes: ∀(U:List (Nat×Obj)) {O:Own} {st:St},Sim V0 O0 w0 O m st a w->Frz st.Dj U ->
    ∃ O',Sim V0 O0 w0 O' m {st with Dj:=DC st.Dj U} a w/\FW O w O' w/\(∀ b k,O' b k≠none->O b k≠none)/\(∀ p∈U,∀ e l,p.2= .arr e true l->D6 O' w (m p.1) (.sl l)) /\
      J9 st.Dj m (DC st.Dj U) m (fun _=>False)/\ ∀ b k r,O b k=some r->(NR st.Dj r\/U=[])->O' b k=some r:=by
  intro U
  induction U with
  | nil=>intro O st hS _;exact⟨O,hS,fun _ _ _ h hc=>⟨h,hc⟩,fun _ _ h=>h,(fun p hp=>by cases hp),(fun o y hy=>.inr ⟨y,hy,rfl,rfl⟩),fun _ _ _ h _=>h⟩
  | cons p U ih =>
    intro O st hS hU
    obtain⟨q,y⟩:=p
    obtain⟨e,f,l,h1,h2⟩:=hU (q,y) List.mem_cons_self
    dsimp only at h1 h2
    subst h2
    obtain⟨O1,hS1,hp1,hle1,hv1,hk1⟩:=hS.fV h1
    obtain⟨O2,hS2,hp2,hle2,hv2,hE2,hk2⟩:=ih hS1 (fun p hp=>by
      obtain⟨e',f',l',h3,h4⟩:=hU p (List.mem_cons_of_mem _ hp)
      by_cases hq:p.1=q
      ·refine⟨e',true,l',?_,h4⟩
       rw[Eg,if_pos hq]
       rw[hq,h1]at h3;injection h3 with h3;injection h3 with q1 q2 q3
       subst q1;subst q3;rfl
      ·exact⟨e',f',l',by rw[Eg,if_neg hq];exact h3,h4⟩)
    refine⟨O2,hS2,fun b k u h hc=>hp2 b k u (hp1 b k u h hc).1 hc,fun b k h=>hle1 b k (hle2 b k h),fun p hp e' l' he=> ?_,fun r y hy=> ?_,fun b k r h hb=> ?_⟩
    ·rcases List.mem_cons.1 hp with rfl | hp
     ·injection he with q1 _ q3
      subst q1;subst q3
      exact hv1.DY hp2
     ·exact hv2 p hp _ _ he
    ·rcases hE2 r y hy with h | ⟨z,h3,h4,_⟩
     ·exact h.elim
     ·right
      dsimp only at h3
      rw[Eg]at h3
      by_cases hr:r=q
      ·subst hr
       rw[if_pos rfl]at h3;injection h3 with h3;subst h3
       exact⟨_,h1,h4,rfl⟩
      ·rw[if_neg hr]at h3;exact⟨z,h3,h4,rfl⟩
    ·have hb:=hb.resolve_right (by simp)
     have hrq:r≠q:=fun h=>hb _ _ _ (by rw[h];exact h1)
     exact hk2 b k r (hk1 b k r h hrq) (.inl fun e' f' l'=>by dsimp only;rw[Eg,if_neg hrq];exact hb e' f' l')
theorem Acx {l:List (Nat×Obj)} {n:Nat} {p:Nat×Obj} (h:p∈KD l n):p∈l:=by
  induction l with
  | nil=>cases h
  | cons q r ih=>grind[sU]
theorem Aj2 {l:List (Nat×Obj)} {n:Nat} {y:Obj} {p:Nat×Obj} (h:p∈Vt l n y):p=(n,y)\/p∈l:=by
  induction l with
  | nil=>grind[Vt]
  | cons q r ih=>grind[Vt]
theorem Xh: ∀(u:List (Nat×Obj)) {l:List (Nat×Obj)} {p:Nat×Obj},p∈DC l u->p∈u\/p∈l:=by
  intro u
  induction u with
  | nil=>intro l p h;exact .inr h
  | cons q u ih =>
    intro l p h
    obtain⟨n,y⟩:=q
    rcases ih h with h | h
    ·grind[Obj,DC]
    ·rcases Aj2 h with h | h
     all_goals grind[Acx]
theorem IL.frz {n:Nat} {U:List (Nat×Obj)} (h:IL st n) (hU:Frz st.Dj U):IL {st with Dj:=DC st.Dj U} n:=by
  refine⟨fun hm=> ?_,?_,h.ne,h.root⟩
  ·rcases List.mem_append.1 hm with h1 | h1
   ·exact h.1 (List.mem_append_left _ h1)
   ·obtain⟨p,hp,hi⟩:=List.mem_flatMap.1 h1
    rcases Xh U hp with hp | hp
    ·obtain⟨e,f,l,_,h2⟩:=hU p hp
     rw[h2]at hi;cases hi
    ·exact h.1 (List.mem_append_right _ (List.mem_flatMap.2 ⟨p,hp,hi⟩))
  ·rw[F6 _ _ _ (fun p hp he=> ?_)]
   ·exact h.2
   ·obtain⟨e,f,l,h1,_⟩:=hU p hp
    rw[he,h.2]at h1;cases h1
def H5 (Dj:List (Nat×Obj)) (fet:Fet):Prop:= ∀ q x,Dy fet q=some x->Dy Dj q=some x
theorem AjI {O:Own} {w:World} {k:CK} {v:Value} {l:Sl} (hok:D7 (AfY k l).1) (h:D6 O w v (.sl l)):D6 O w v (AfY k l).2:=by
  cases k<;>first
    | exact h
    | (have h0:=hok.cons.1
       exact .sln h fun he=>by simp [he]at h0)
theorem Ap4 {O:Own} {w:World} {v:Value} {l:Sl} (k:CK) (h:D6 O w v (.sln l)):D6 O w v (Arw k l):=by
  cases k<;>first
    | exact h
    | (cases h with
       | sln h _=>exact h)
theorem AjJ {fet:Fet} {k:CK} {c:A} {v:Value} (hf:H5 st.Dj fet) (hc:DF O st.Dj m w v c) (hok:D7 (pur fet k c).1) :
    Frz st.Dj (pur fet k c).2.2/\ ∀ {O':Own},FW O w O' w->(∀ p∈(pur fet k c).2.2,∀ e l,p.2= .arr e true l->D6 O' w (m p.1) (.sl l))->D6 O' w v (pur fet k c).2.1:=by
  have triv:Frz st.Dj []:=fun p hp=>by cases hp
  unfold pur at *
  cases c with
  | own q =>
    dsimp only at hok ⊢
    cases hg:Dy fet q with
    | none=>simp_all[Fet,CK,H5,DF,D7,pur]
    | some x =>
      cases x with
      | box _=>simp_all[Fet,CK,H5,DF,D7,pur]
      | mp _=>simp_all[Fet,CK,H5,DF,D7,pur]
      | arr e f l =>
        rw[hg]at hok
        dsimp only at hok ⊢
        have h1:=hf q _ hg
        refine⟨fun p hp=> ?_,fun hp hv=> ?_⟩
        ·simp at hp;subst hp;exact⟨e,f,l,h1,rfl⟩
        ·have h2:=hc.2
         rw[h1]at h2
         simp only[Option.map_some,Obj.shp]at h2
         rw[h2]
         exact AjI hok (hv _ List.mem_cons_self e l rfl)
  | ER =>
    have hv:=hc.ER
    cases k with
    | sl e sz=>subst hv;exact⟨triv,fun _ _=>.nil _⟩
    | sln e sz=>subst hv;exact⟨triv,fun _ _=>.sln (.nil _) fun _=>rfl⟩
    | _=>have:=hok false (by simp);cases this
  | bool _=>exact⟨triv,fun hp _=>D6.DY hp hc⟩
  | int _ _=>exact⟨triv,fun hp _=>D6.DY hp hc⟩
  | str _=>exact⟨triv,fun hp _=>D6.DY hp hc⟩
  | sl _=>exact⟨triv,fun hp _=>AjI hok (D6.DY hp hc)⟩
  | sln _=>exact⟨triv,fun hp _=>Ap4 k (D6.DY hp hc)⟩
  | Fj=>exact⟨triv,fun hp _=>D6.DY hp hc⟩
  | fn _=>exact⟨triv,fun hp _=>D6.DY hp hc⟩
  | _=>have:=hok false (by simp);cases this
theorem Frz.append {Dj:List (Nat×Obj)} {U V:List (Nat×Obj)} (h:Frz Dj U) (h':Frz Dj V):Frz Dj (U++V):=by grind[Obj,Frz]
theorem N9 {fet:Fet} (hf:H5 st.Dj fet): ∀(ks:List CK) (cs:List A) (f:Nat->Value),(∀ j,j<cs.length->DF O st.Dj m w (f j) (cs.getD j .undef))->D7 (Eu fet ks cs).1 ->
    (Eu fet ks cs).2.1.length=ks.length/\cs.length=ks.length/\Frz st.Dj (Eu fet ks cs).2.2/\ ∀ {O':Own},FW O w O' w->(∀ p∈(Eu fet ks cs).2.2,∀ e l,p.2= .arr e true l->D6 O' w (m p.1) (.sl l)) ->
      ∀ j,j<ks.length->D6 O' w (f j) ((Eu fet ks cs).2.1.getD j .undef):=by
  intro ks
  induction ks with
  | nil =>
    intro cs f _ hok
    cases cs with
    | nil=>simp_all[Eu,Fet,H5,CK,DF,D7,Frz]
    | cons _ _=>have:=hok false (by simp [Eu]);cases this
  | cons k ks ih =>
    intro cs f h hok
    cases cs with
    | nil=>have:=hok false (by simp [Eu]);cases this
    | cons c cs =>
      simp only[Eu]at hok ⊢
      obtain⟨hok1,hok2⟩:=hok.append
      obtain⟨h1,h2⟩:=AjJ hf (h 0 (by simp)) hok1
      obtain⟨h3,h4,h5,h6⟩:=ih cs (fun j=>f (j+1)) (fun j hj=>by simpa using h (j+1) (by simpa using hj)) hok2
      refine⟨by simp [h3],by simp [h4],h1.append h5,fun hp hv j hj=> ?_⟩
      cases j with
      | zero=>exact h2 hp (fun p hp=>hv p (List.mem_append_left _ hp))
      | succ j=>simpa using h6 hp (fun p hp=>hv p (List.mem_append_right _ hp)) j (by simpa using hj)
end
end Go.Proofs.YtbnphelpndnnfabGreatDoor.Vm
namespace Go.Proofs.YtbnphelpndnnfabGreatDoor.Vm
open Classical
section
variable {P:Program} {C:Ctx} {V0:Nat->Value} {O0 O:Own} {w0 w:World} {m:Nat->Value} {st:St} {a:Act} {o:Oper}
def Held (O:Own) (w:World) (cur:Array Value) (sz:Nat) (es:List (List A)):Prop :=
  (∀ x∈es,x.length=sz)/\ ∀ i j,i<es.length->j<sz-> ∃ u,cur[i*sz+j]? =some u/\D6 O w u ((es.getD i []).getD j .undef)
theorem Abs (hS:Sim V0 O0 w0 O m st a w) {w2:World} (hM:Moves O (fun _=>False) w w2) {d:Tmp} {e cap:Nat} {frz:Bool} {l:Sl} {cur:Array Value} {del:List Nat} (hnew:Gi w2 w.heap.size cur e)
    (hcap:l.es.length<=cap) (hmax:cap<=maxLen) (hcur:cur.size=cap*l.sz) (hh:Held O w cur l.sz l.es) (hfresh:IL st (b2 d)) :
    ∃ O' m',Sim V0 O0 w0 O' m' {tmps:=st.tmps.set d (.own (b2 d)),Dj:=DC (Ed st.Dj del) [(b2 d,.arr e frz l)]} (a.put (some d) (.slice (some (at' w.heap.size 0)) l.es.length cap)) w2:=by
  let id:=b2 d
  let O':Own:=fun b k=>if b=w.heap.size then(if frz=true/\k<l.es.length*l.sz then none else some id)else O b k
  let m':Nat->Value:=fun i=>if i=id then .slice (some (at' w.heap.size 0)) l.es.length cap else m i
  have hlt: ∀ {b k},b<w.heap.size->O' b k=O b k:=fun hb=>if_neg (Nat.ne_of_lt hb)
  have hP:Passes O O' (fun _=>False) w.heap.size:=⟨fun b k hb h=>by rw[hlt hb];exact h,fun b k q hb h _=>by rw[hlt hb];exact h⟩
  have hpr:=hM.DY hP
  have hget: ∀ i y,Dy (DC (Ed st.Dj del) [(id,.arr e frz l)]) i=some y->(i=id/\y= .arr e frz l)\/(i≠id/\Dy st.Dj i=some y):=by
    intro i y hy
    simp only[DC]at hy
    rw[Eg]at hy
    by_cases hi:i=id
    ·rw[if_pos hi]at hy;injection hy with hy;exact .inl ⟨hi,hy.symm⟩
    ·rw[if_neg hi,LU]at hy
     split at hy
     ·cases hy
     ·exact .inr ⟨hi,hy⟩
  have hE:J9 st.Dj m (DC (Ed st.Dj del) [(id,.arr e frz l)]) m' (fun i=>i=id):=by
    intro i y hy
    rcases hget i y hy with ⟨h1,_⟩ | ⟨h1,h2⟩
    ·exact .inl h1
    ·exact .inr ⟨y,h2,rfl,if_neg h1⟩
  refine⟨O',m',hS.next (st':= {tmps:=st.tmps.set d (.own (b2 d)),Dj:=DC (Ed st.Dj del) [(id,.arr e frz l)]}) (x:=.own id) (T:=fun _=>False) (Nw:=fun i=>i=id) hM hP (fun b k hb h=>by rw[hlt hb]at h;exact h) hE (fun n hn=>by rw[hn];exact hfresh.both) (fun _ h=>h.elim) (fun i y hy=> ?_) rfl (fun _=> ?_)⟩
  ·rcases hget i y hy with ⟨h1,h2⟩ | ⟨h1,h2⟩
   ·right
    subst h1;subst h2
    refine⟨⟨hh.1,.inr ⟨trivial,w.heap.size,cap,cur,if_pos rfl,hnew,hcap,hmax,hcur,fun i j hi hj=> ?_,fun k hk hge=> ?_,fun k hk=> ?_⟩⟩,hfresh.ne⟩
    ·obtain⟨u,h3,h4⟩:=hh.2 i j hi hj
     exact⟨u,h3,h4.DY hpr⟩
    ·show(if _ then(if _ then _ else _)else _)=_
     rw[if_pos rfl,if_neg (by omega)]
    ·show(if _ then(if _ then _ else _)else _)=_
     rw[if_pos rfl]
     cases frz
     ·simp
     ·simp [hk]
   ·exact .inl ⟨fun h=>h,h2,if_neg h1⟩
  ·refine⟨rfl,?_⟩
   have:Dy (DC (Ed st.Dj del) [(id,.arr e frz l)]) id=some (.arr e frz l):=by simp only[DC];rw[Eg,if_pos rfl]
   show match (Dy (DC (Ed st.Dj del) [(id,.arr e frz l)]) id).map Obj.shp with | some (.arr _ _)=>_ | some .mp=>_ | _=>True
   rw[this]
   exact(if_pos rfl:m' id=_).symm
theorem Rt (hS:Sim V0 O0 w0 O m st a w) {w1:World} (hM1:Moves O (fun _=>False) w w1) (hsz1:w1.heap.size=w.heap.size) {d:Tmp} {e cap:Nat} {frz:Bool} {l:Sl} {cur:Array Value} {del:List Nat}
    (hcap:l.es.length<=cap) (hmax:cap<=maxLen) (hcur:cur.size=cap*l.sz) (hh:Held O w cur l.sz l.es) (hfresh:IL st (b2 d)) :
    ∃ O' m',Sim V0 O0 w0 O' m' {tmps:=st.tmps.set d (.own (b2 d)),Dj:=DC (Ed st.Dj del) [(b2 d,.arr e frz l)]} (a.put (some d) (.slice (some (at' w.heap.size 0)) l.es.length cap)) (w1.alloc (.cells cur e)):=by
  exact Abs hS (hM1.then (by rw[<- hsz1]at *;exact Moves.push _)) ⟨_,by rw[<- hsz1];exact kV _ _,.inl rfl⟩ hcap hmax hcur hh hfresh
theorem lQ (hS:Sim V0 O0 w0 O m st a w) {d:Tmp} {e:Nat} {frz:Bool} {t:Ty} {del:List Nat} {id:Nat} (hfresh:IL st id) :
    ∃ O' m',Sim V0 O0 w0 O' m' {tmps:=st.tmps.set d (.own id),Dj:=DC (Ed st.Dj del) [(id,.arr e frz ⟨t,[]⟩)]} (a.put (some d) (.slice none 0 0)) w:=by
  let m':Nat->Value:=fun i=>if i=id then .slice none 0 0 else m i
  have hget: ∀ i y,Dy (DC (Ed st.Dj del) [(id,.arr e frz ⟨t,[]⟩)]) i=some y->(i=id/\y= .arr e frz ⟨t,[]⟩)\/(i≠id/\Dy st.Dj i=some y):=by
    intro i y hy
    simp only[DC]at hy
    rw[Eg]at hy
    by_cases hi:i=id
    ·rw[if_pos hi]at hy;injection hy with hy;exact .inl ⟨hi,hy.symm⟩
    ·rw[if_neg hi,LU]at hy
     split at hy
     ·cases hy
     ·exact .inr ⟨hi,hy⟩
  have hE:J9 st.Dj m (DC (Ed st.Dj del) [(id,.arr e frz ⟨t,[]⟩)]) m' (fun i=>i=id):=by
    intro i y hy
    rcases hget i y hy with ⟨h1,_⟩ | ⟨h1,h2⟩
    ·exact .inl h1
    ·exact .inr ⟨y,h2,rfl,if_neg h1⟩
  refine⟨O,m',hS.next (st':= {tmps:=st.tmps.set d (.own id),Dj:=DC (Ed st.Dj del) [(id,.arr e frz ⟨t,[]⟩)]}) (x:=.own id) (T:=fun _=>False) (Nw:=fun i=>i=id) (Moves.refl _ _ _) ⟨fun _ _ _ h=>h,fun _ _ _ _ h _=>h⟩ (fun b k hb h=>h) hE (fun n hn=>by rw[hn];exact hfresh.both) (fun _ h=>h.elim) (fun i y hy=> ?_) rfl (fun _=> ?_)⟩
  ·rcases hget i y hy with ⟨h1,h2⟩ | ⟨h1,h2⟩
   ·right
    subst h1;subst h2
    exact⟨⟨by simp [Sl.es],.inl ⟨trivial,rfl,if_pos rfl⟩⟩,hfresh.ne⟩
   ·exact .inl ⟨fun h=>h,h2,if_neg h1⟩
  ·refine⟨rfl,?_⟩
   have:Dy (DC (Ed st.Dj del) [(id,.arr e frz ⟨t,[]⟩)]) id=some (.arr e frz ⟨t,[]⟩):=by simp only[DC];rw[Eg,if_pos rfl]
   show match (Dy (DC (Ed st.Dj del) [(id,.arr e frz ⟨t,[]⟩)]) id).map Obj.shp with | some (.arr _ _)=>_ | some .mp=>_ | _=>True
   rw[this]
   exact(if_pos rfl:m' id=_).symm
theorem AkC (hS:Sim V0 O0 w0 O m st a w) {d:Tmp} {q e cap g:Nat} {frz:Bool} {l l':Sl} {ns:List (List A)} {cur:Array Value} {news:List Value}
    (hq:Dy st.Dj q=some (.arr e frz l)) (hm:m q= .slice (some (at' g 0)) l.es.length cap) (hg:Gi w g cur e) (hcap:l.es.length+ns.length<=cap) (hle:l'.es=l.es++ns) (hls:l'.sz=l.sz)
    (hl:news.length=ns.length*l.sz) (hns: ∀ x∈ns,x.length=l.sz) (hnv: ∀ i j,i<ns.length->j<l.sz->D6 O w (news.getD (i*l.sz+j) undef) ((ns.getD i []).getD j .undef)) (hfresh:IL st (b2 d)) :
    ∃ O' m',Sim V0 O0 w0 O' m' {tmps:=st.tmps.set d (.own (b2 d)),Dj:=DC (Ed st.Dj [q]) [(b2 d,.arr e frz l')]} (a.put (some d) (.slice (some (at' g 0)) (l.es.length+ns.length) cap)) (w.setCells g (l.es.length*l.sz) news):=by
  let id:=b2 d
  have hidq:id≠q:=fun h=>by
    have:=hfresh.2
    rw[show b2 d=id from rfl,h,hq]at this;cases this
  obtain⟨hsz,hr⟩:=hS.Dj q _ hq
  obtain⟨g',cap',cur',h2,h3,h4,h5,h6,h7,h8,h9⟩: ∃ g' cap' cur',m q= .slice (some (at' g' 0)) l.es.length cap'/\Gi w g' cur' e/\l.es.length<=cap'/\cap'<=maxLen/\cur'.size=cap'*l.sz /\
      (∀ i j,i<l.es.length->j<l.sz-> ∃ u,cur'[i*l.sz+j]? =some u/\D6 O w u ((l.es.getD i []).getD j .undef))/\(∀ k,k<cur'.size->l.es.length*l.sz<=k->O g' k=some q)/\(∀ k,k<l.es.length*l.sz->O g' k=if frz then none else some q):=by
    rcases hr with ⟨_,_,h⟩ | ⟨_,h⟩
    ·rw[hm]at h;cases h
    ·exact h
  rw[hm]at h2
  injection h2 with h2 _ hcc;injection h2 with h2;injection h2 with h2
  subst h2;subst hcc
  obtain⟨h3,_⟩:=hg.inj h3
  subst h3
  obtain⟨fr,hg,hfr0⟩:=hg
  have hmul:(l.es.length+ns.length)*l.sz<=cap*l.sz:=Nat.mul_le_mul_right _ hcap
  rw[Nat.add_mul]at hmul
  obtain⟨c',g1,g2,g3,g4,g5,g6,g7,g8⟩:=VX g news (l.es.length*l.sz) w hg (by rw[hl,h6];exact hmul)
  let w':=w.setCells g (l.es.length*l.sz) news
  let O':Own:=fun b k=>if b=g/\k<cur.size then(if frz=true/\k<(l.es.length+ns.length)*l.sz then none else some id)else O b k
  let m':Nat->Value:=fun i=>if i=id then .slice (some (at' g 0)) (l.es.length+ns.length) cap else m i
  have hsame: ∀ k,(k<l.es.length*l.sz\/(l.es.length+ns.length)*l.sz<=k)->c'[k]? =cur[k]? :=by
    intro k hk
    rw[Nat.add_mul]at hk
    by_cases hks:k<cur.size
    ·have:=g3 k
     rw[if_neg (by rw[hl];omega)]at this
     rw[getD_eq (by omega),getD_eq hks,this]
    ·rw[Array.getElem?_eq_none (by omega),Array.getElem?_eq_none (by omega)]
  have hM:Moves O (fun i=>i=q) w w':=by
    refine Moves.row g6 g7 g8 g5 hg g1 g4 g2 (fun k hk=>hsame k ?_) ?_
    ·rcases Nat.lt_or_ge k (l.es.length*l.sz)with h | h
     ·exact .inl h
     ·right
      rcases Nat.lt_or_ge k cur.size with hks | hks
      ·exact absurd rfl (hk q (h8 k hks h))
      ·rw[Nat.add_mul];omega
    ·by_cases hn:ns.length*l.sz=0
     ·right
      have:news=[]:=List.eq_nil_of_length_eq_zero (by omega)
      apply Array.ext_getElem?
      intro k
      refine hsame k ?_
      rw[Nat.add_mul,hn];omega
     ·left
      refine⟨l.es.length*l.sz,q,by omega,h8 _ (by omega) (Nat.le_refl _),rfl⟩
  have hg':g<w.heap.size:=(Array.getElem?_eq_some_iff.1 hg).1
  have own_g: ∀ k,k<cur.size->O g k=none\/O g k=some q:=by
    intro k hk
    rcases Nat.lt_or_ge k (l.es.length*l.sz)with h | h
    ·rw[h9 k h];cases frz<;>simp
    ·exact .inr (h8 k hk h)
  have hP:Passes O O' (fun i=>i=q) w.heap.size:=by
    refine⟨fun b k _ h=> ?_,fun b k r _ h hne=> ?_⟩
    ·show(if _ then(if _ then _ else _)else _)=_
     by_cases hc:b=g/\k<cur.size
     ·rw[if_pos hc]
      obtain⟨rfl,hk⟩:=hc
      rcases Nat.lt_or_ge k (l.es.length*l.sz)with h' | h'
      ·have:=h9 k h'
       rw[h]at this
       cases frz
       ·simp at this
       ·rw[if_pos ⟨rfl,by rw[Nat.add_mul];omega⟩]
      ·rw[h8 k hk h']at h;cases h
     ·rw[if_neg hc];exact h
    ·show(if _ then(if _ then _ else _)else _)=_
     by_cases hc:b=g/\k<cur.size
     ·obtain⟨rfl,hk⟩:=hc
      rcases own_g k hk with h' | h'
      ·rw[h]at h';cases h'
      ·rw[h]at h';injection h' with h';exact absurd h' hne
     ·rw[if_neg hc];exact h
  have hpr:=hM.DY hP
  have hget: ∀ i y,Dy (DC (Ed st.Dj [q]) [(id,.arr e frz l')]) i=some y->(i=id/\y= .arr e frz l')\/(i≠id/\i≠q/\Dy st.Dj i=some y):=by
    intro i y hy
    simp only[DC]at hy
    rw[Eg]at hy
    by_cases hi:i=id
    ·rw[if_pos hi]at hy;injection hy with hy;exact .inl ⟨hi,hy.symm⟩
    ·rw[if_neg hi,LU]at hy
     split at hy
     ·cases hy
     ·rename_i hnd;exact .inr ⟨hi,by simpa using hnd,hy⟩
  have hE:J9 st.Dj m (DC (Ed st.Dj [q]) [(id,.arr e frz l')]) m' (fun i=>i=id):=by
    intro i y hy
    rcases hget i y hy with ⟨h1,_⟩ | ⟨h1,_,h2⟩
    ·exact .inl h1
    ·exact .inr ⟨y,h2,rfl,if_neg h1⟩
  refine⟨O',m',hS.next (st':= {tmps:=st.tmps.set d (.own (b2 d)),Dj:=DC (Ed st.Dj [q]) [(id,.arr e frz l')]}) (x:=.own id) (T:=fun i=>i=q) (Nw:=fun i=>i=id) hM hP (fun b k hb h=> ?_) hE (fun n hn=>by rw[hn];exact hfresh.both) (fun o ho=>by rw[ho,hq];rfl) (fun i y hy=> ?_) rfl (fun _=> ?_)⟩
  ·have h':(if b=g/\k<cur.size then(if frz=true/\k<(l.es.length+ns.length)*l.sz then none else some id)else O b k)≠none:=h
   by_cases hc:b=g/\k<cur.size
   ·rw[if_pos hc]at h'
    obtain⟨rfl,hk⟩:=hc
    rcases Nat.lt_or_ge k (l.es.length*l.sz)with hlt | hge
    ·rw[h9 k hlt]
     cases frz
     ·simp
     ·exfalso;refine h' ?_;rw[if_pos ⟨rfl,by rw[Nat.add_mul];omega⟩]
    ·rw[h8 k hk hge];simp
   ·rw[if_neg hc]at h';exact h'
  ·rcases hget i y hy with ⟨h1,h2⟩ | ⟨h1,hiq,h2⟩
   ·right
    subst h1;subst h2
    refine⟨?_,hfresh.ne⟩
    simp only[ET]
    rw[hle,hls]
    refine⟨fun x hx=>(List.mem_append.1 hx).elim (hsz x) (hns x),.inr ⟨trivial,g,cap,c',by rw[List.length_append];exact if_pos rfl,⟨fr,g1,by rw[g2];exact hfr0⟩,by rw[List.length_append];exact hcap,h5,by rw[g2];exact h6,fun i j hi hj=> ?_,fun k hk hge=> ?_,fun k hk=> ?_⟩⟩
    ·rw[List.length_append]at hi
     by_cases hil:i<l.es.length
     ·obtain⟨u,h10,h11⟩:=h7 i j hil hj
      have hlt:i*l.sz+j<l.es.length*l.sz:=by
        have:(i+1)*l.sz<=l.es.length*l.sz:=Nat.mul_le_mul_right _ hil
        rw[Nat.add_mul]at this;omega
      refine⟨u,by rw[hsame _ (.inl hlt)];exact h10,?_⟩
      have e1:(l.es++ns).getD i []=l.es.getD i []:=by
        simp only[List.getD_eq_getElem?_getD];rw[List.getElem?_append_left hil]
      rw[e1];exact h11.DY hpr
     ·obtain⟨i',rfl⟩: ∃ i',i=l.es.length+i':=⟨i - l.es.length,by omega⟩
      have hi':i'<ns.length:=by omega
      have hlt:i'*l.sz+j<ns.length*l.sz:=by
        have:(i'+1)*l.sz<=ns.length*l.sz:=Nat.mul_le_mul_right _ hi'
        rw[Nat.add_mul]at this;omega
      have hidx:(l.es.length+i')*l.sz+j=l.es.length*l.sz+(i'*l.sz+j):=by rw[Nat.add_mul];omega
      have hsz':l.es.length*l.sz+(i'*l.sz+j)<c'.size:=by rw[g2,h6];omega
      refine⟨news.getD (i'*l.sz+j) undef,?_,?_⟩
      ·rw[hidx,getD_eq hsz',g3,if_pos ⟨by omega,by rw[hl];omega⟩]
       rw[show l.es.length*l.sz+(i'*l.sz+j) - l.es.length*l.sz=i'*l.sz+j from by omega]
      ·have e1:(l.es++ns).getD (l.es.length+i') []=ns.getD i' []:=by
         simp only[List.getD_eq_getElem?_getD];rw[List.getElem?_append_right (by omega),Nat.add_sub_cancel_left]
       rw[e1];exact(hnv i' j hi' hj).DY hpr
    ·rw[g2]at hk
     rw[List.length_append]at hge
     show(if _ then(if _ then _ else _)else _)=_
     rw[if_pos ⟨rfl,hk⟩,if_neg (by omega)]
    ·rw[List.length_append]at hk
     show(if _ then(if _ then _ else _)else _)=_
     rw[if_pos ⟨rfl,by rw[Nat.add_mul]at hk;omega⟩]
     cases frz
     ·simp
     ·simp [hk]
   ·exact .inl ⟨hiq,h2,if_neg h1⟩
  ·refine⟨rfl,?_⟩
   have:Dy (DC (Ed st.Dj [q]) [(id,.arr e frz l')]) id=some (.arr e frz l'):=by simp only[DC];rw[Eg,if_pos rfl]
   show match (Dy (DC (Ed st.Dj [q]) [(id,.arr e frz l')]) id).map Obj.shp with | some (.arr _ _)=>_ | some .mp=>_ | _=>True
   rw[this]
   exact(if_pos rfl:m' id=_).symm
theorem AlZ (hS:Sim V0 O0 w0 O m st a w) {d:Tmp} {q e cap g n:Nat} {l l':Sl} {cur:Array Value}
    (hq:Dy st.Dj q=some (.arr e false l)) (hm:m q= .slice (some (at' g 0)) l.es.length cap) (hg:Gi w g cur e) (hn:n<=l.es.length) (hle:l'.es=l.es.take n) (hls:l'.sz=l.sz) (hfresh:IL st (b2 d)) :
    ∃ O' m',Sim V0 O0 w0 O' m' {tmps:=st.tmps.set d (.own (b2 d)),Dj:=DC (Ed st.Dj [q]) [(b2 d,.arr e false l')]} (a.put (some d) (.slice (some (at' g 0)) n cap)) w:=by
  let id:=b2 d
  obtain⟨hsz,hr⟩:=hS.Dj q _ hq
  obtain⟨g',cap',cur',h2,h3,h4,h5,h6,h7,h8,h9⟩: ∃ g' cap' cur',m q= .slice (some (at' g' 0)) l.es.length cap'/\Gi w g' cur' e/\l.es.length<=cap'/\cap'<=maxLen/\cur'.size=cap'*l.sz /\
      (∀ i j,i<l.es.length->j<l.sz-> ∃ u,cur'[i*l.sz+j]? =some u/\D6 O w u ((l.es.getD i []).getD j .undef))/\(∀ k,k<cur'.size->l.es.length*l.sz<=k->O g' k=some q)/\(∀ k,k<l.es.length*l.sz->O g' k=some q):=by
    rcases hr with ⟨_,_,h⟩ | ⟨_,h⟩
    ·rw[hm]at h;cases h
    ·simpa using h
  rw[hm]at h2
  injection h2 with h2 _ hcc;injection h2 with h2;injection h2 with h2
  subst h2;subst hcc
  obtain⟨h3,_⟩:=hg.inj h3
  subst h3
  have own_g: ∀ k,k<cur.size->O g k=some q:=by
    intro k hk
    rcases Nat.lt_or_ge k (l.es.length*l.sz)with h | h
    ·exact h9 k h
    ·exact h8 k hk h
  let O':Own:=fun b k=>if b=g/\k<cur.size then some id else O b k
  let m':Nat->Value:=fun i=>if i=id then .slice (some (at' g 0)) n cap else m i
  have hM:Moves O (fun i=>i=q) w w:=Moves.refl _ _ _
  have hP:Passes O O' (fun i=>i=q) w.heap.size:=by
    refine⟨fun b k _ h=> ?_,fun b k r _ h hne=> ?_⟩
    ·show(if _ then _ else _)=_
     by_cases hc:b=g/\k<cur.size
     ·obtain⟨rfl,hk⟩:=hc
      rw[own_g k hk]at h;cases h
     ·rw[if_neg hc];exact h
    ·show(if _ then _ else _)=_
     by_cases hc:b=g/\k<cur.size
     ·obtain⟨rfl,hk⟩:=hc
      rw[own_g k hk]at h;injection h with h;exact absurd h.symm hne
     ·rw[if_neg hc];exact h
  have hpr:=hM.DY hP
  have hget: ∀ i y,Dy (DC (Ed st.Dj [q]) [(id,.arr e false l')]) i=some y->(i=id/\y= .arr e false l')\/(i≠id/\i≠q/\Dy st.Dj i=some y):=by
    intro i y hy
    simp only[DC]at hy
    rw[Eg]at hy
    by_cases hi:i=id
    ·rw[if_pos hi]at hy;injection hy with hy;exact .inl ⟨hi,hy.symm⟩
    ·rw[if_neg hi,LU]at hy
     split at hy
     ·cases hy
     ·rename_i hnd;exact .inr ⟨hi,by simpa using hnd,hy⟩
  have hE:J9 st.Dj m (DC (Ed st.Dj [q]) [(id,.arr e false l')]) m' (fun i=>i=id):=by
    intro i y hy
    rcases hget i y hy with ⟨h1,_⟩ | ⟨h1,_,h2⟩
    ·exact .inl h1
    ·exact .inr ⟨y,h2,rfl,if_neg h1⟩
  have hlen:l'.es.length=n:=by rw[hle,List.length_take];omega
  have hmul:n*l.sz<=l.es.length*l.sz:=Nat.mul_le_mul_right _ hn
  have hmul2:l.es.length*l.sz<=cap*l.sz:=Nat.mul_le_mul_right _ h4
  refine⟨O',m',hS.next (st':= {tmps:=st.tmps.set d (.own (b2 d)),Dj:=DC (Ed st.Dj [q]) [(id,.arr e false l')]}) (x:=.own id) (T:=fun i=>i=q) (Nw:=fun i=>i=id) hM hP (fun b k hb h=> ?_) hE (fun n hn=>by rw[hn];exact hfresh.both) (fun o ho=>by rw[ho,hq];rfl) (fun i y hy=> ?_) rfl (fun _=> ?_)⟩
  ·have h':(if b=g/\k<cur.size then some id else O b k)≠none:=h
   by_cases hc:b=g/\k<cur.size
   ·obtain⟨rfl,hk⟩:=hc
    rw[own_g k hk];simp
   ·rw[if_neg hc]at h';exact h'
  ·rcases hget i y hy with ⟨h1,h2⟩ | ⟨h1,hiq,h2⟩
   ·right
    subst h1;subst h2
    refine⟨?_,hfresh.ne⟩
    simp only[ET]
    rw[hls,hlen]
    refine⟨fun x hx=>hsz x (by rw[hle]at hx;exact List.mem_of_mem_take hx),.inr ⟨trivial,g,cap,cur,if_pos rfl,hg,by omega,h5,h6,fun i j hi hj=> ?_,fun k hk hge=>if_pos ⟨rfl,hk⟩,fun k hk=> ?_⟩⟩
    ·obtain⟨u,h10,h11⟩:=h7 i j (by omega) hj
     refine⟨u,h10,?_⟩
     have e1:l'.es.getD i []=l.es.getD i []:=by
       rw[hle]
       simp only[List.getD_eq_getElem?_getD,List.getElem?_take]
       rw[if_pos hi]
     rw[e1];exact h11.DY hpr
    ·show(if _ then _ else _)=_
     rw[if_pos ⟨rfl,by omega⟩];rfl
   ·exact .inl ⟨hiq,h2,if_neg h1⟩
  ·refine⟨rfl,?_⟩
   have:Dy (DC (Ed st.Dj [q]) [(id,.arr e false l')]) id=some (.arr e false l'):=by simp only[DC];rw[Eg,if_pos rfl]
   show match (Dy (DC (Ed st.Dj [q]) [(id,.arr e false l')]) id).map Obj.shp with | some (.arr _ _)=>_ | some .mp=>_ | _=>True
   rw[this]
   exact(if_pos rfl:m' id=_).symm
end
end Go.Proofs.YtbnphelpndnnfabGreatDoor.Vm
namespace Go.Proofs.YtbnphelpndnnfabGreatDoor.Vm
open Classical
section
variable {P:Program} {C:Ctx} {V0:Nat->Value} {O0 O:Own} {w0 w:World} {m:Nat->Value} {st:St} {a:Act} {o:Oper}
theorem PK {δ :Dl} {d:Tmp} (hd:o.dst=some d):apply st o δ = {tmps:=st.tmps.set d δ.val,Dj:=DC (Ed (DC st.Dj δ.upd) δ.del) δ.new}:=by
  unfold apply;rw[hd];rfl
theorem Qv {t:Nat} {k:Nat->TI->Dl} (hok:D7 (elemOf C t k).ok): ∃ ti e te,C.T t=some ti/\ti.d= .slice e/\C.T e=some te/\elemOf C t k=k e te:=by
  unfold elemOf at *
  obtain⟨ti,ht,he⟩:=Ef hok
  rw[he]at hok ⊢;clear he
  obtain⟨e,hel,he⟩:=DR hok
  rw[he]at hok ⊢;clear he
  obtain⟨te,hte,he⟩:=Ef hok
  exact⟨ti,e,te,ht,Lt hel,hte,he⟩
theorem Aoi {O':Own} {w':World} {fet:Fet} {te:TI} {ty:Ty} (hf:H5 st.Dj fet) (hp:FW O w O' w) (hw:w'=w): ∀(xs:List (Nat×A)) (ps:List (Nat×Value)) (vs:Array Value) (zs:List ty.Val),
    xs.length=ps.length->(∀(j:Nat) (x:Nat×A) (p:Nat×Value),xs[j]? =some x->ps[j]? =some p->p.1=x.1/\DD O st.Dj m w p.2 x.2/\x.2.isVal=true) ->
    vs.size=zs.length*te.cs.length->Held O' w' vs te.cs.length (zs.map ty.cells)->D7 (GL fet te ty xs zs).1 ->
    (∀ p∈(GL fet te ty xs zs).2.2,∀ e l,p.2= .arr e true l->D6 O' w (m p.1) (.sl l)) ->
    (GL fet te ty xs zs).2.1.length=zs.length/\ ∃ vs',Instr.fill (fun i=>some (i*te.cs.length,te.cs.length)) vs ps=some vs'/\vs'.size=vs.size/\Held O' w' vs' te.cs.length ((GL fet te ty xs zs).2.1.map ty.cells):=by
  subst hw
  intro xs
  induction xs with
  | nil =>
    intro ps vs zs hl _ hsz hh _ _
    cases ps with
    | nil=>exact⟨rfl,vs,rfl,rfl,hh⟩
    | cons _ _=>simp at hl
  | cons x xs ih =>
    intro ps vs zs hl hr hsz hh hok hU
    cases ps with
    | nil=>simp at hl
    | cons p ps =>
      obtain⟨i,x⟩:=x
      obtain⟨i',v⟩:=p
      obtain⟨h1,h2,hval⟩:=hr 0 (i,x) (i',v) rfl rfl
      dsimp only at h1 h2 hval
      subst h1
      simp only[GL]at hok hU ⊢
      obtain⟨hok1,hok2⟩:=hok.append
      obtain⟨hok0,hok1⟩:=hok1.append
      obtain⟨hmk,hok1⟩:=hok1.cons
      have hmk:=Ty.Ny _ _ hmk
      have hil':i'<zs.length:=by simpa [Nat.blt_eq]using hok1.cons.1
      have hset:(zs.set i' (ty.mk (Eu fet te.cs x.cells).2.1).2).map ty.cells=(zs.map ty.cells).set i' (Eu fet te.cs x.cells).2.1:=by rw[List.map_set,hmk]
      have hzl:zs.length=(zs.map ty.cells).length:=by simp
      rw[hzl]at hsz hil'
      generalize hes:zs.map ty.cells=es at *
      have hil:i'<es.length:=hil'
      have hcs:=h2.cells hval
      obtain⟨g1,g2,g3,g4⟩:=N9 hf te.cs x.cells (fun j=>v.cells.getD j undef) (fun j hj=>hcs.2 j hj) hok0
      have g5:=g4 hp (fun p hp'=>hU p (List.mem_append_left _ hp'))
      have hvsz:v.cells.size=te.cs.length:=by rw[hcs.1,g2]
      have hle:i'*te.cs.length+te.cs.length<=vs.size:=by
        rw[hsz]
        have:(i'+1)*te.cs.length<=es.length*te.cs.length:=Nat.mul_le_mul_right _ hil
        rw[Nat.add_mul]at this;omega
      have e0:v.cells.zipIdx.foldl (fun cs (c,j)=>cs.setIfInBounds (i'*te.cs.length+j) c) vs=(v.cells.toList.zipIdx 0).foldl (fun cs (p:Value×Nat)=>cs.setIfInBounds (i'*te.cs.length+p.2) p.1) vs:=by
        rw[<- Array.foldl_toList];simp
      have hl0:i'*te.cs.length+0+v.cells.toList.length<=vs.size:=by rw[Array.length_toList,hvsz];omega
      obtain⟨k1,_⟩:=NU v.cells.toList 0 (i'*te.cs.length) vs 0 hl0
      have k2:=fun j=>(NU v.cells.toList 0 (i'*te.cs.length) vs j hl0).2
      rw[<- e0]at k1
      have hh':Held O' w' (v.cells.zipIdx.foldl (fun cs (c,j)=>cs.setIfInBounds (i'*te.cs.length+j) c) vs) te.cs.length (es.set i' (Eu fet te.cs x.cells).2.1):=by
        refine⟨fun y hy=> ?_,fun r j hrl hj=> ?_⟩
        ·rcases List.mem_or_eq_of_mem_set hy with h | h
         ·exact hh.1 y h
         ·rw[h,g1]
        ·rw[List.length_set]at hrl
         have hlt:r*te.cs.length+j<vs.size:=by
           rw[hsz]
           have:(r+1)*te.cs.length<=es.length*te.cs.length:=Nat.mul_le_mul_right _ hrl
           rw[Nat.add_mul]at this;omega
         have hk:=k2 (r*te.cs.length+j)
         rw[<- e0]at hk
         by_cases hri:r=i'
         ·subst hri
          rw[if_pos (by rw[Array.length_toList,hvsz];omega)]at hk
          have e1:(es.set r (Eu fet te.cs x.cells).2.1).getD r []=(Eu fet te.cs x.cells).2.1:=by
            simp [List.getD_eq_getElem?_getD,hil]
          refine⟨_,getD_eq (by omega),?_⟩
          rw[hk,e1,show r*te.cs.length+j - (r*te.cs.length+0)=j from by omega]
          have e2:v.cells.toList.getD j undef=v.cells.getD j undef:=by
            rw[Array.getD_eq_getD_getElem?,List.getD_eq_getElem?_getD,Array.getElem?_toList]
          rw[e2];exact g5 j hj
         ·have hno: ¬(i'*te.cs.length+0<=r*te.cs.length+j/\r*te.cs.length+j<i'*te.cs.length+0+v.cells.toList.length):=by
            rw[Array.length_toList,hvsz]
            rintro ⟨ha,hb⟩
            rcases Nat.lt_or_gt_of_ne hri with h | h
            ·have:(r+1)*te.cs.length<=i'*te.cs.length:=Nat.mul_le_mul_right _ h
             rw[Nat.add_mul]at this;omega
            ·have:(i'+1)*te.cs.length<=r*te.cs.length:=Nat.mul_le_mul_right _ h
             rw[Nat.add_mul]at this;omega
          rw[if_neg hno]at hk
          obtain⟨u,h3,h4⟩:=hh.2 r j hrl hj
          refine⟨u,?_,?_⟩
          ·rw[getD_eq (by omega),hk,<- getD_eq hlt];exact h3
          ·have e1:(es.set i' (Eu fet te.cs x.cells).2.1).getD r []=es.getD r []:=by
             simp only[List.getD_eq_getElem?_getD,List.getElem?_set]
             rw[if_neg (fun h=>hri h.symm)]
           rw[e1];exact h4
      obtain⟨f1,vs',f2,f3,f4⟩:=ih ps _ (zs.set i' (ty.mk (Eu fet te.cs x.cells).2.1).2) (by simpa using hl) (fun j x p hx hp=>hr (j+1) x p (by simpa using hx) (by simpa using hp)) (by rw[k1,hsz,List.length_set,hzl]) (by rw[hset];exact hh') hok2
        (fun p hp'=>hU p (List.mem_append_right _ hp'))
      refine⟨by rw[f1,List.length_set],vs',?_,by rw[f3,k1],f4⟩
      simp only[Instr.fill]
      have: ¬(v.cells.size≠te.cs.length||decide (i'*te.cs.length+v.cells.size>vs.size))=true:=by
        rw[hvsz];simp;omega
      rw[if_neg (by simpa using this)]
      exact f2
end
end Go.Proofs.YtbnphelpndnnfabGreatDoor.Vm
namespace Go.Proofs.YtbnphelpndnnfabGreatDoor.Vm
open Classical
section
variable {P:Program} {C:Ctx} {V0:Nat->Value} {O0 O:Own} {w0 w:World} {m:Nat->Value} {st:St} {a:Act} {o:Oper}
theorem lX {fet:Fet} {ks:List CK} {x:A} (hok:D7 (Eu fet ks x.cells).1):x.isVal=true:=by
  have no: ∀ {y:A},(∀ k,(pur fet k y).1=[false])-> ¬ D7 (Eu fet ks [y]).1:=by
    intro y h hh
    cases ks with
    | nil=>have:=hh false (by simp [Eu]);cases this
    | cons k ks =>
      have:=hh false (by simp [Eu,h k]);cases this
  cases x with
  | undef=>exact(no (fun k=>rfl) hok).elim
  | tup _=>exact(no (fun k=>rfl) hok).elim
  | usl _ _ _=>exact(no (fun k=>rfl) hok).elim
  | ump _=>exact(no (fun k=>rfl) hok).elim
  | box _=>exact(no (fun k=>rfl) hok).elim
  | cbx _ _=>exact(no (fun k=>rfl) hok).elim
  | cnd _ _=>exact(no (fun k=>rfl) hok).elim
  | _=>rfl
theorem Ak8 {fet:Fet} {te:TI} {ty:Ty} (hf:H5 st.Dj fet): ∀(xs:List (Nat×A)) (zs:List ty.Val),(∀ x∈xs,∃ v,DD O st.Dj m w v x.2)->D7 (GL fet te ty xs zs).1->Frz st.Dj (GL fet te ty xs zs).2.2/\ ∀ x∈xs,x.2.isVal=true:=by
  intro xs
  induction xs with
  | nil=>intro zs _ _;exact⟨(fun p hp=>by simp [GL]at hp),fun x hx=>by cases hx⟩
  | cons x xs ih =>
    intro zs h hok
    obtain⟨i,x⟩:=x
    simp only[GL]at hok ⊢
    obtain⟨hok1,hok2⟩:=hok.append
    obtain⟨hok0,_⟩:=hok1.append
    have hv:=lX hok0
    obtain⟨v,hx⟩:=h (i,x) List.mem_cons_self
    have hcs:=DD.cells (show DD O st.Dj m w v x from hx) hv
    obtain⟨_,_,g3,_⟩:=N9 hf te.cs x.cells (fun j=>v.cells.getD j undef) (fun j hj=>hcs.2 j hj) hok0
    obtain⟨f1,f2⟩:=ih _ (fun y hy=>h y (List.mem_cons_of_mem _ hy)) hok2
    exact⟨g3.append f1,fun y hy=>by rcases List.mem_cons.1 hy with rfl | hy;exact hv;exact f2 y hy⟩
theorem Wh: ∀(vs:List Value) (ks:List CK),Et vs ks=true->ks.all CK.plain=true-> ∀ j,j<ks.length->D6 O w (vs.getD j undef) ((ks.map CK.Hm).getD j .undef):=by
  intro vs ks h hp j hj
  obtain⟨h1,h2⟩:=La (O:=O) (Dj:=[]) (m:=fun _=>undef) (w:=w) vs ks h
  have h3:=h2 j hj
  have hk:(ks.getD j .oth).plain=true:=by
    refine(List.all_eq_true.1 hp) _ ?_
    rw[List.getD_eq_getElem?_getD,List.getElem?_eq_getElem hj];simp
  have e1:(ks.map CK.zero).getD j .undef=(ks.getD j .oth).zero:=by simp [List.getD_eq_getElem?_getD,hj]
  have e2:(ks.map CK.Hm).getD j .undef=(ks.getD j .oth).Hm:=by simp [List.getD_eq_getElem?_getD,hj]
  rw[e1]at h3
  rw[e2]
  generalize ks.getD j .oth=k at *
  generalize vs.getD j undef=v at *
  cases k with
  | oth=>cases hk
  | mp _ _=>cases hk
  | bx _=>cases hk
  | fn=>exact h3
  | sl e sz=>have:=DF.ER h3;subst this;exact .nil _
  | sln e sz=>have:=DF.ER h3;subst this;exact .nil _
  | bool=>exact h3
  | int _=>exact h3
  | str=>exact h3
  | ptr=>exact h3
def zeros (z:Value) (n:Nat):Array Value:=(Array.range n).map (z.cells[· % z.cells.size]!)
theorem Held.less {cur:Array Value} {sz:Nat} {x:List A} {n k:Nat} (h:Held O w cur sz (List.replicate k x)) (hk:n<=k):Held O w cur sz (List.replicate n x):=by
  refine⟨fun y hy=> ?_,fun i j hi hj=> ?_⟩
  ·rw[List.eq_of_mem_replicate hy]
   cases k with
   | zero=>exact absurd (List.mem_replicate.1 hy).1 (by omega)
   | succ k=>exact h.1 x (List.mem_replicate.2 ⟨by omega,rfl⟩)
  ·rw[List.length_replicate]at hi
   obtain⟨u,h1,h2⟩:=h.2 i j (by rw[List.length_replicate];omega) hj
   refine⟨u,h1,?_⟩
   have e1:(List.replicate n x).getD i []=x:=by simp [List.getD_eq_getElem?_getD,hi]
   have e2:(List.replicate k x).getD i []=x:=by simp [List.getD_eq_getElem?_getD,show i<k by omega]
   rw[e1];rw[e2]at h2;exact h2
theorem kW {t:Nat} {te:TI} {z:Value} (hT:O6 P t te) (hz:(P.info? t).bind (·.zero)=some z) (hp:te.cs.all CK.plain=true) (h0:0<te.cs.length) (n:Nat) :
    (zeros z (n*te.cs.length)).size=n*te.cs.length/\Held O w (zeros z (n*te.cs.length)) te.cs.length (List.replicate n (te.cs.map CK.Hm)):=by
  obtain⟨i,z',h1,h2,h3,h4,h5,h6⟩:=hT.i
  rw[h1]at hz
  simp only[Option.bind_some,h4]at hz
  injection hz with hz
  subst hz
  have hsz:z'.cells.size=te.cs.length:=by
    rw[<- Array.length_toList];exact(La (O:=O) (Dj:=[]) (m:=fun _=>undef) (w:=w) _ _ h5).1
  have hv:=Wh (O:=O) (w:=w) _ _ h5 hp
  refine⟨by simp [zeros],fun x hx=>by rw[List.eq_of_mem_replicate hx];simp,fun r j hr hj=> ?_⟩
  rw[List.length_replicate]at hr
  have hlt:r*te.cs.length+j<n*te.cs.length:=by
    have:(r+1)*te.cs.length<=n*te.cs.length:=Nat.mul_le_mul_right _ hr
    rw[Nat.add_mul]at this;omega
  have hmod:(r*te.cs.length+j) % te.cs.length=j:=by
    rw[Nat.mul_comm,Nat.mul_add_mod];exact Nat.mod_eq_of_lt hj
  refine⟨z'.cells.toList.getD j undef,?_,?_⟩
  ·simp only[zeros,Array.getElem?_map,Array.getElem?_range]
   rw[if_pos hlt]
   simp only[Option.map_some,hsz,hmod]
   congr 1
   rw[getElem!_pos z'.cells j (by omega)]
   simp [List.getD_eq_getElem?_getD,show j<z'.cells.size from by omega]
  ·have e1:(List.replicate n (te.cs.map CK.Hm)).getD r []=te.cs.map CK.Hm:=by
     simp [List.getD_eq_getElem?_getD,hr]
   rw[e1];exact hv j hj
theorem Adb {t n:Nat} {ps:Array (Nat×Operand)} (hC:TOk P C) (hS:Sim V0 O0 w0 O m st a w) {d:Tmp} (hd:o.dst=some d) (ho:o.op= .buildSlice t n ps) {fet:Fet} (hf:H5 st.Dj fet) {xs:List (Nat×A)}
    (hl:xs.length=ps.size) (hx: ∀(j:Nat) (x:Nat×A) (p:Nat×Operand),xs[j]? =some x->ps[j]? =some p->p.1=x.1/\DD O st.Dj m w (a.eval p.2) x.2)
    (hok:D7 (Kq C fet d t n xs).ok) (hfr: ∀ p∈(Kq C fet d t n xs).new,st.fresh p.1=true):Good P V0 O0 w0 (apply st o (Kq C fet d t n xs)) o a w:=by
  intro next Q hn
  unfold Kq at *
  obtain⟨ti,e,te,ht,hte,hd',he⟩:=Qv hok
  rw[he]at hn hfr hok;clear he
  obtain⟨hok1,hok2⟩:=hok.append
  obtain⟨hb1,hb2⟩:=hok2.cons
  obtain⟨hb2,hb3⟩:=hb2.cons
  have hb1:=Nat.le_of_ble_eq_true hb1
  have hb2:0<te.cs.length:=by simpa [Nat.blt_eq]using hb2
  have hb3:=hb3.cons.1
  have hT:=hC.is hd'
  obtain⟨i,z,h1,h2,h3,h4,h5,h6⟩:=hT.i
  have hu:=(hC.is ht).d
  rw[hte]at hu
  obtain⟨hU,hval⟩:=Ak8 (te:=te) (ty:=tyl te.cs) hf xs (List.replicate n (tyl te.cs).zero) (fun x hx'=>by
    obtain⟨j,hj,hje⟩:=List.mem_iff_getElem.1 hx'
    have:=hx j x (ps[j]'(by omega)) (by rw[<- hje];exact List.getElem?_eq_getElem hj) (by simp [show j<ps.size from by omega])
    exact⟨_,this.2⟩) hok1
  obtain⟨O1,hS1,hp1,hle1,hv1,hE1,_⟩:=hS.freezes _ hU
  obtain⟨hz1,hz2⟩:=kW (O:=O1) (w:=w) hT (by rw[h1];exact h4) hb3 hb2 n
  obtain⟨f1,vs',f2,f3,f4⟩:=Aoi (te:=te) (ty:=tyl te.cs) hf hp1 rfl xs (ps.map (fun(i,x)=>(i,a.eval x))).toList (zeros z (n*te.cs.length)) (List.replicate n (tyl te.cs).zero) (by simp [hl]) (fun j x p hxj hpj=>by
    simp only[Array.toList_map,List.getElem?_map]at hpj
    cases hq:ps.toList[j]? with
    | none=>rw[hq]at hpj;cases hpj
    | some q =>
      rw[hq]at hpj
      injection hpj with hpj
      subst hpj
      have:=hx j x q hxj (by simpa using hq)
      exact⟨this.1,this.2,hval x (List.mem_of_getElem? hxj)⟩) (by rw[hz1,List.length_replicate]) (by rw[<- Sl.XX _ _ hb3]at hz2;exact hz2) hok1 hv1
  have hlen:(GL fet te (tyl te.cs) xs (List.replicate n (tyl te.cs).zero)).2.1.length=n:=by rw[f1,List.length_replicate]
  have hnn:n*te.cs.length<=16777216:=hb1
  have hnle:n<=16777216:=Nat.le_trans (Nat.le_mul_of_pos_right n hb2) hnn
  have hr:(execOp a.eval o).run P w= .ok (.value (.slice (some (at' w.heap.size 0)) n n)) (w.alloc (.cells vs' e)):=by
    have hbig: ¬(16777216<n*te.cs.length):=by omega
    simp only[execOp,ho,Sem.run_bind,Instr.buildSlice,run_underlying hu,Result.andThen_ok,hT.Iq]
    rw[if_neg (by simpa using hbig)]
    by_cases h0:n*te.cs.length=0
    ·have hz0:(Array.range (n*te.cs.length)).map ((#[]:Array Value)[· % (#[]:Array Value).size]!)=zeros z (n*te.cs.length):=by simp [zeros,h0]
     simp only[if_pos h0,Sem.run_bind,Sem.run_pure,Result.andThen_ok,hz0,f2]
     rfl
    ·simp only[if_neg h0,Sem.run_bind,Sem.run_pure,Result.andThen_ok,zeroValue,typeInfo,run_program,h1,h4]
     have hz0:(Array.range (n*te.cs.length)).map (z.cells[· % z.cells.size]!)=zeros z (n*te.cs.length):=rfl
     rw[hz0,f2]
     rfl
  unfold Oper.wp
  rw[hr,Oper.upon_value,hd]
  have hfr':=(show IL st (b2 d)from FP (hfr _ List.mem_cons_self)).frz hU
  obtain⟨O',m',h⟩:=Rt hS1 (Moves.refl _ _ w) rfl (d:=d) (e:=e) (cap:=n) (frz:=false) (l:=⟨tyl te.cs,(GL fet te (tyl te.cs) xs (List.replicate n (tyl te.cs).zero)).2.1⟩) (del:=[]) (by rw[Sl.ED,hlen];exact Nat.le_refl _) (by unfold maxLen;omega) (by rw[f3,hz1];show _=_*(tyl te.cs).len;rw[Oo]) (by show Held _ _ _ (tyl te.cs).len _;rw[Oo];exact f4) hfr'
  rw[Sl.ED,hlen]at h
  refine hn O' m' _ _ ?_
  rw[PK hd]
  exact h
end
end Go.Proofs.YtbnphelpndnnfabGreatDoor.Vm
namespace Go.Proofs.YtbnphelpndnnfabGreatDoor.Vm
open Classical
section
variable {P:Program} {C:Ctx} {V0:Nat->Value} {O0 O:Own} {w0 w:World} {m:Nat->Value} {st:St} {a:Act} {o:Oper}
theorem Aos {t:Nat} {lo co:Operand} (hC:TOk P C) (hS:Sim V0 O0 w0 O m st a w) {d:Tmp} (hd:o.dst=some d) (ho:o.op= .makeSlice t lo co) {l c:A} (hl:DD O st.Dj m w (a.eval lo) l) (hc:DD O st.Dj m w (a.eval co) c)
    (hok:D7 (lL C d t l c).ok) (hfr: ∀ p∈(lL C d t l c).new,st.fresh p.1=true):Good P V0 O0 w0 (apply st o (lL C d t l c)) o a w:=by
  intro next Q hn
  unfold lL at *
  obtain⟨n,hn1,he⟩:=DR hok
  rw[he]at hok hfr hn;clear he
  obtain⟨n',hn2,he⟩:=DR hok
  rw[he]at hok hfr hn;clear he
  obtain⟨ti,e,te,ht,hte,hd',he⟩:=Qv hok
  rw[he]at hok hfr hn;clear he
  obtain⟨k1,rfl⟩:=Ns hn1
  obtain⟨k2,rfl⟩:=Ns hn2
  obtain⟨h1,h2⟩:=hok.cons
  obtain⟨h2,h3⟩:=h2.cons
  obtain⟨h3,h4⟩:=h3.cons
  obtain⟨h4,h5⟩:=h4.cons
  have h5:=h5.cons.1
  have h1:n<=n':=by simpa using h1
  have h2:0<=n:=by simpa using h2
  have h3:n'*((te.bytes:Int)+1)<=140737488355328:=by simpa using h3
  have h4:0<te.cs.length:=by simpa [Nat.blt_eq]using h4
  have hl:=hl.int
  have hc:=hc.int
  obtain⟨k,rfl⟩:=Int.eq_ofNat_of_zero_le h2
  obtain⟨c,rfl⟩:=Int.eq_ofNat_of_zero_le (Int.le_trans h2 h1)
  have hkc:k<=c:=by omega
  have hT:=hC.is hd'
  obtain⟨i,z,g1,g2,g3,g4,g5,g6⟩:=hT.i
  have hu:=(hC.is ht).d
  rw[hte]at hu
  have h3':c*te.bytes+c<=140737488355328:=by
    have e0:(c:Int)*((te.bytes:Int)+1)=((c*te.bytes+c:Nat):Int):=by
      rw[Int.mul_add,Int.natCast_add,Int.natCast_mul,Int.mul_one]
    have h3:(c:Int)*((te.bytes:Int)+1)<=140737488355328:=h3
    rw[e0]at h3;omega
  obtain⟨hz1,hz2⟩:=kW (O:=O) (w:=w) hT (by rw[g1];exact g4) h5 h4 c
  have hz2:=hz2.less hkc
  have hr:(execOp a.eval o).run P w= .ok (.value (.slice (some (at' w.heap.size 0)) k c)) (w.alloc (.cells (zeros z (c*te.cs.length)) e)):=by
    have e1:(i.bytes:Int)*(c:Int)<=281474976710656:=by
      have:(i.bytes:Int)*c=((c*te.bytes:Nat):Int):=by rw[g3,Int.mul_comm,Int.natCast_mul]
      rw[this];omega
    have:=run_make (P:=P) w t e i z hu g1 g4 k1 k2 k c (by omega) (by omega) e1 (by omega)
    simp only[Int.toNat_natCast,g2]at this
    have hl':a.eval lo= .int k1 (k:Int):=hl
    have hc':a.eval co= .int k2 (c:Int):=hc
    simp only[execOp,ho,Sem.run_bind,hl',hc',this,Result.andThen_ok,Sem.run_pure]
    rfl
  unfold Oper.wp
  rw[hr,Oper.upon_value,hd]
  obtain⟨O',m',h⟩:=Rt hS (Moves.refl _ _ w) rfl (d:=d) (e:=e) (cap:=c) (frz:=false) (l:=⟨tyl te.cs,List.replicate k (tyl te.cs).zero⟩) (del:=[]) (by rw[Sl.ED,List.length_replicate];exact hkc) (by unfold maxLen;omega) (by rw[hz1];show _=_*(tyl te.cs).len;rw[Oo]) (by show Held _ _ _ (tyl te.cs).len _;rw[Oo,Sl.XX _ _ h5];exact hz2) (FP (hfr _ List.mem_cons_self))
  rw[Sl.ED,List.length_replicate]at h
  refine hn O' m' _ _ ?_
  rw[PK hd]
  exact h
theorem AhS {t:Nat} {x:Operand} {lo hi mx:Option Operand} (hC:TOk P C) (hS:Sim V0 O0 w0 O m st a w) (ho:o.op= .slice t x lo hi mx) (hmx:mx=none) {fet:Fet} (hf:H5 st.Dj fet) {q:Nat} {lo' hi':Option A}
    (hx:DD O st.Dj m w (a.eval x) (.own q)) (hlo:ORl O st.Dj m w (lo.map a.eval) lo') (hhi:ORl O st.Dj m w (hi.map a.eval) hi')
    (hok:D7 (FC C fet t (.own q) lo' hi').ok):Good P V0 O0 w0 (apply st o (FC C fet t (.own q) lo' hi')) o a w:=by
  subst hmx
  intro next Q hn
  unfold FC at *
  obtain⟨ti,ht,he⟩:=Ef hok
  rw[he]at hok hn;clear he
  dsimp only at hok hn
  obtain⟨ro,hro,he⟩:=DR hok
  rw[he]at hok hn;clear he
  obtain⟨r,hr,he⟩:=DR hok
  rw[he]at hok hn;clear he
  obtain⟨e,hel,he⟩:=DR hok
  rw[he]at hok hn;clear he
  obtain⟨te,hte,he⟩:=Ef hok
  rw[he]at hok hn;clear he
  obtain⟨h1,h2⟩:=hok.cons
  rw[<- Sl.ED]at hr
  have hsz:=Nat.eq_of_beq_eq_true h1
  have hq:=hf q _ (Gj hro)
  have key: ∃ O1,Sim V0 O0 w0 O1 m {st with Dj:=DC st.Dj (bif ro.frz then []else [(q,.arr ro.e true ro.l)])} a w/\D6 O1 w (m q) (.sl ro.l):=by
    cases hfz:ro.frz with
    | false =>
      obtain⟨O1,hS1,_,_,hv1,_⟩:=hS.fV hq
      exact⟨O1,hS1,hv1⟩
    | true =>
      rw[hfz]at hq
      exact⟨O,hS,(hS.Dj q _ hq).frozen⟩
  obtain⟨O1,hS1,hv1⟩:=key
  have hd:=Lt hel
  have hu:=(hC.is ht).run w
  rw[hd]at hu
  have hs:=(hC.is hte).Iq w
  rw[<- hsz]at hs
  have hxv:a.eval x=m q:=by
    have h2:DF O st.Dj m w (a.eval x) (.own q):=hx
    have h2:=h2.2
    rw[hq]at h2
    exact h2
  obtain⟨h4,h5⟩:r.2.1<=r.2.2/\r.2.2<=ro.l.es.length:=(Qq (isS:=true) (P:=P) hlo hhi (Nat.le_refl _) hr h2).2
  obtain⟨ad,n,c,hv,hn',hc,hcut⟩:=hv1.cut r.2.1 r.2.2 h4 h5
  obtain⟨h3,_,_⟩:=Qq (isS:=true) (P:=P) (cap:=c) hlo hhi (by rw[<- hn'];exact hc) hr h2
  rw[<- hn']at h3
  have hrun:(execOp a.eval o).run P w= .ok (.value (.slice (if c=r.2.1 then ad else ad.map (·.add (r.2.1*ro.l.sz))) (r.2.2 - r.2.1) (c - r.2.1))) w:=by
    simp only[execOp,ho,Instr.sliceAt,Sem.run_bind,hu,Result.andThen_ok,Instr.slice,hxv,hv,Option.map_none,h3,hs,Sem.run_pure]
  unfold Oper.wp
  rw[hrun,Oper.upon_value]
  refine hn O1 m _ _ ?_
  have:=hS1.put o.dst (x:=.sl ⟨ro.l.t,D9 ro.l.xs r.2.1 r.2.2⟩) (v:=.slice (if c=r.2.1 then ad else ad.map (·.add (r.2.1*ro.l.sz))) (r.2.2 - r.2.1) (c - r.2.1)) (hcut c rfl)
  exact this
theorem Apb {t:Nat} {x h:Operand} (hC:TOk P C) (hS:Sim V0 O0 w0 O m st a w) {d:Tmp} (hd:o.dst=some d) (ho:o.op= .slice t x none (some h) none) {fet:Fet} (hf:H5 st.Dj fet) {x' b':A}
    (hx:DD O st.Dj m w (a.eval x) x') (hb:DD O st.Dj m w (a.eval h) b') (hok:D7 (vK C fet d t x' b').ok) (hfr: ∀ p∈(vK C fet d t x' b').new,st.fresh p.1=true) :
    Good P V0 O0 w0 (apply st o (vK C fet d t x' b')) o a w:=by
  intro next Q hn
  unfold vK at *
  obtain⟨ti,ht,he⟩:=Ef hok
  rw[he]at hok hn hfr;clear he
  cases x' with
  | own q =>
    dsimp only at hok hn hfr
    obtain⟨ro,hro,he⟩:=DR hok
    rw[he]at hok hn hfr;clear he
    obtain⟨r,hr,he⟩:=DR hok
    rw[he]at hok hn hfr;clear he
    obtain⟨e,hel,he⟩:=DR hok
    rw[he]at hok hn hfr;clear he
    obtain⟨te,hte,he⟩:=Ef hok
    rw[he]at hok hn hfr;clear he
    obtain⟨hok,hfz⟩:=hok.append
    obtain⟨h1,h2⟩:=hok.cons
    have hfz:ro.frz=false:=by simpa using hfz.cons.1
    rw[<- Sl.ED]at hr
    have hsz:=Nat.eq_of_beq_eq_true h1
    have hq:=hf q _ (Gj hro)
    rw[hfz]at hq
    have hd':=Lt hel
    have hu:=(hC.is ht).run w
    rw[hd']at hu
    have hs:=(hC.is hte).Iq w
    rw[<- hsz]at hs
    have hxv:a.eval x=m q:=by
      have h2:DF O st.Dj m w (a.eval x) (.own q):=hx
      have h2:=h2.2
      rw[hq]at h2
      exact h2
    have hh:ORl O st.Dj m w (some (a.eval h)) (some b'):=hb
    have hlo0:ORl O st.Dj m w none none:=trivial
    obtain⟨h4,h5⟩:r.2.1<=r.2.2/\r.2.2<=ro.l.es.length:=(Qq (isS:=true) (P:=P) hlo0 hh (Nat.le_refl _) hr h2).2
    have hr0:r.2.1=0:=by
      unfold Acf at hr
      split at hr<;>first | (injection hr with hr;rw[<- hr];done) | (injection hr with hr;rw[<- hr]) | cases hr
      all_goals (first | rfl | (rename_i hc _;cases hc))
    have hfresh:IL st (b2 d):=FP (hfr _ List.mem_cons_self)
    have hes:(⟨ro.l.t,D9 ro.l.xs r.2.1 r.2.2⟩:Sl).es=ro.l.es.take r.2.2:=by
      rw[Sl.AnT,hr0];simp [D9]
    obtain⟨hszs,hrow⟩:=hS.Dj q _ hq
    have hgoal: ∀ v,(∀ cap:Nat,True)->(execOp a.eval o).run P w= .ok (.value v) w->(∃ O' m',Sim V0 O0 w0 O' m' {tmps:=st.tmps.set d (.own (b2 d)),Dj:=DC (Ed st.Dj [q]) [(b2 d,.arr ro.e false ⟨ro.l.t,D9 ro.l.xs r.2.1 r.2.2⟩)]} (a.put (some d) v) w)->o.wp P a w next Q:=by
      intro v _ hrun ⟨O',m',h⟩
      unfold Oper.wp
      rw[hrun,Oper.upon_value,hd]
      refine hn O' m' _ _ ?_
      unfold apply
      rw[hd]
      exact h
    rcases hrow with ⟨_,hnil,hm⟩ | ⟨_,g,cap,cur,hm,hg,hcap,_⟩
    ·have h0:r.2.2=0:=by rw[hnil]at h5;simpa using h5
     obtain⟨h3,_,_⟩:=Qq (isS:=true) (P:=P) (w:=w) (cap:=0) hlo0 hh (by rw[hnil];exact Nat.le_refl _) hr h2
     rw[hnil]at h3
     refine hgoal (.slice none 0 0) (fun _=>trivial) ?_ ?_
     ·have h3:(Instr.sliceBounds true 0 0 none (some (a.eval h)) none).run P w= .ok (r.2.1,r.2.2,0) w:=h3
      rw[hr0,h0]at h3
      simp only[execOp,ho,Instr.sliceAt,Sem.run_bind,hu,Result.andThen_ok,Instr.slice,hxv,hm,Option.map_none,Option.map_some,h3,hs,Sem.run_pure]
      rfl
     ·have hxs:D9 ro.l.xs r.2.1 r.2.2=[]:=by
        have:ro.l.xs=[]:=AeT hnil
        rw[this];simp [D9]
      rw[hxs]
      exact lQ hS hfresh
    ·obtain⟨h3,_,_⟩:=Qq (isS:=true) (P:=P) (w:=w) (cap:=cap) hlo0 hh hcap hr h2
     refine hgoal (.slice (some (at' g 0)) r.2.2 cap) (fun _=>trivial) ?_ ?_
     ·have h3:(Instr.sliceBounds true ro.l.es.length cap none (some (a.eval h)) none).run P w= .ok (r.2.1,r.2.2,cap) w:=h3
      rw[hr0]at h3
      simp only[execOp,ho,Instr.sliceAt,Sem.run_bind,hu,Result.andThen_ok,Instr.slice,hxv,hm,Option.map_none,Option.map_some,h3,hs,Sem.run_pure]
      simp [JI]
     ·exact AlZ hS hq hm hg h5 hes rfl hfresh
  | _=>exact(DK hok).elim
end
end Go.Proofs.YtbnphelpndnnfabGreatDoor.Vm
namespace Go.Proofs.YtbnphelpndnnfabGreatDoor.Vm
open Classical
section
variable {P:Program} {C:Ctx} {V0:Nat->Value} {O0 O:Own} {w0 w:World} {m:Nat->Value} {st:St} {a:Act} {o:Oper}
structure Src (P:Program) (O:Own) (w:World) (sz:Nat) (y:Value) (ns:List (List A)) (news:List Value):Prop where
  len: ∀ w',(Builtin.lenOf y).run P w'= .ok ns.length w'
  cells: ∀ w',(∀ b k u,w.cell? (at' b k)=some u->w'.cell? (at' b k)=some u)->(Builtin.firstCells sz ns.length y).run P w'= .ok news.toArray w'
  size:news.length=ns.length*sz
  each: ∀ x∈ns,x.length=sz
  rel: ∀ i j,i<ns.length->j<sz->D6 O w (news.getD (i*sz+j) undef) ((ns.getD i []).getD j .undef)
theorem Src.one {sz:Nat} {y:Value} {ns:List (List A)} {news:List Value} (h:Src P O w sz y ns news) (h0:0<sz): ∀ v∈news,v.oneCell'=true:=by
  intro v hv
  obtain⟨k,hk,hke⟩:=List.mem_iff_getElem.1 hv
  have hd:k=(k / sz)*sz+k % sz:=by rw[Nat.mul_comm];exact(Nat.div_add_mod k sz).symm
  have hlt:k / sz<ns.length:=by
    rw[Nat.div_lt_iff_lt_mul h0,<- h.size];exact hk
  have:=h.rel (k / sz) (k % sz) hlt (Nat.mod_lt _ h0)
  rw[<- hd,List.getD_eq_getElem?_getD,List.getElem?_eq_getElem hk]at this
  simp only[Option.getD_some,hke]at this
  exact this.one
theorem Ar4 {l:Sl} {v:Value} (h:Ait w O v l): ∃ news,Src P O w l.sz v l.es news:=by
  rcases h with ⟨ad,hv,hn⟩ | ⟨b,k,c,hv,hc,hcell⟩
  ·have hn:l.es=[]:=by simp [Sl.es,hn]
   refine⟨[],⟨fun w'=>by rw[hv,hn];rfl,fun w' _=>by
     rw[hv,hn]
     cases ad with
     | none=>rfl
     | some ad =>
       show(Builtin.firstCells l.sz 0 (.slice (some ad) 0 0)).run P w'=_
       simp only[Builtin.firstCells,Nat.zero_mul]
       exact run_loadCells (P:=P) w' ad 0 (fun _=>undef) (fun i hi=>absurd hi (Nat.not_lt_zero i)),by rw[hn];simp,l.es_len,fun i j hi=>by rw[hn]at hi;simp at hi⟩⟩
  ·let news:List Value:=(List.range (l.es.length*l.sz)).map fun i=>(w.cell? (at' b (k+i))).getD undef
   have hcells: ∀ i,i<l.es.length*l.sz-> ∃ u,w.cell? (at' b (k+i))=some u:=by
     intro i hi
     have h0:0<l.sz:=by
       rcases Nat.eq_zero_or_pos l.sz with h | h
       ·rw[h]at hi;simp at hi
       ·exact h
     have hd:i=(i / l.sz)*l.sz+i % l.sz:=by rw[Nat.mul_comm];exact(Nat.div_add_mod i l.sz).symm
     obtain⟨u,hu,_⟩:=hcell (i / l.sz) (i % l.sz) (by rw[Nat.div_lt_iff_lt_mul h0];exact hi) (Nat.mod_lt _ h0)
     rw[<- hd]at hu;exact⟨u,hu⟩
   refine⟨news,⟨fun w'=>by rw[hv];rfl,fun w' hw'=> ?_,by simp [news],l.es_len,fun i j hi hj=> ?_⟩⟩
   ·rw[hv]
    simp only[Builtin.firstCells]
    have:=run_loadCells (P:=P) w' (at' b k) (l.es.length*l.sz) (fun i=>(w.cell? (at' b (k+i))).getD undef) (fun i hi=>by
      obtain⟨u,hu⟩:=hcells i hi
      rw[JI,hw' _ _ _ hu,hu];rfl)
    exact this
   ·obtain⟨u,h3,h4⟩:=hcell i j hi hj
    have hlt:i*l.sz+j<l.es.length*l.sz:=by
      have:(i+1)*l.sz<=l.es.length*l.sz:=Nat.mul_le_mul_right _ hi
      rw[Nat.add_mul]at this;omega
    have e1:news.getD (i*l.sz+j) undef=u:=by
      simp [news,List.getD_eq_getElem?_getD,hlt,h3]
    rw[e1];exact h4
theorem src_of {fet:Fet} {t:Ty} {y:A} {v:Value} (hf:FOk O st.Dj m w fet) (hy:DD O st.Dj m w v y) (hok:D7 (IX fet t y).1): ∃ news,Src P O w t.len v (⟨t,(IX fet t y).2⟩:Sl).es news:=by
  have hrd:D7 (rdT fet t y).1-> ∃ news,Src P O w t.len v (⟨t,(rdT fet t y).2⟩:Sl).es news:=fun hok=>Ar4 (Al9 hf hy hok)
  by_cases hs: ∃ s,y= .str s
  ·obtain⟨s,rfl⟩:=hs
   by_cases ht:t= .int .u8 .nil
   ·subst ht
    obtain⟨b,hb,hl⟩:=hy.str
    have hbl:b.size=s.length:=by rw[Mc,hl]
    have hes:(⟨.int .u8 .nil,(IX fet (.int .u8 .nil) (.str s)).2⟩:Sl).es=s.map (fun(x:UInt8)=>[A.int .u8 (x.toNat:Int)]):=by
      show List.map (Ty.int IntKind.u8 Ty.nil).cells (List.map (fun(b:UInt8)=>((b.toNat:Int))) s)=_
      exact List.map_map.trans rfl
    rw[hes]
    refine⟨s.map (fun(x:UInt8)=>Value.int .u8 (x.toNat:Int)),⟨fun w'=>by rw[hb];simp [Builtin.lenOf,hbl],fun w' _=> ?_,by simp [Ty.len],by simp [Ty.len],fun i j hi hj=> ?_⟩⟩
    ·rw[hb]
     simp only[Builtin.firstCells,List.length_map,Sem.run_pure]
     congr 1
     have:b.extract 0 s.length=b:=by
       rw[<- hbl]
       have h1:(b.extract 0 b.size).data.toList=b.data.toList:=by rw[Abd,Mc];unfold D9;rw[List.drop_zero,List.take_length]
       exact ByteArray.ext (Array.toList_inj.1 h1)
     rw[this]
     apply Array.toList_inj.1
     simp [hl]
    ·have hj0:j=0:=by simp [Ty.len]at hj;omega
     subst hj0
     have hi':i<s.length:=by simpa using hi
     simp [List.getD_eq_getElem?_getD,hi',Ty.len]
     exact .int _ _
   ·have:(IX fet t (.str s)).1=[false]:=by
      unfold IX
      cases t with
      | int k r=>cases k<;>cases r<;>first | rfl | exact absurd rfl ht
      | _=>rfl
    rw[this]at hok
    have:=hok false (by simp);cases this
  ·have:IX fet t y=rdT fet t y:=by
     cases y<;>first | rfl | exact absurd ⟨_,rfl⟩ hs
   rw[this]at hok ⊢
   exact hrd hok
theorem AdX {d:TypeDesc} (h:TW d=true):(∃ e,d= .slice e)\/d= .string:=by
  unfold TW at h;split at h<;>simp_all
theorem qB {t u ty e n sLen sCap:Nat} {i:TypeInfo} {du:TypeDesc} {base:Option Addr} {y:Value} {news:List Value} {w':World} (hu:P.underlying t=some (.slice e)) (hu2:P.underlying u=some du) (hdu:TW du=true) (hi:P.info? e=some i)
    (hlen:(Builtin.lenOf y).run P w= .ok n w) (hnew:(Builtin.firstCells i.size n y).run P w= .ok news.toArray w) (hle:sLen+n<=sCap)
    (hst:match base with | some ad=>(storeCells (ad.add (sLen*i.size)) news).run P w= .ok () w' | none=>w'=w) :
    (Builtin.append_ #[t,u] ty #[.slice base sLen sCap,y]).run P w= .ok (.slice base (sLen+n) sCap) w':=by
  rcases AdX hdu with ⟨e',rfl⟩ | rfl
  ·cases base with
   | none=>subst hst;simp [Builtin.append_,run_underlying hu,run_underlying hu2,sizeOf,typeInfo,hi,hlen,hnew,hle]
   | some ad=>dsimp only at hst;simp [Builtin.append_,run_underlying hu,run_underlying hu2,sizeOf,typeInfo,hi,hlen,hnew,hle,hst]
  ·cases base with
   | none=>subst hst;simp [Builtin.append_,run_underlying hu,run_underlying hu2,sizeOf,typeInfo,hi,hlen,hnew,hle]
   | some ad=>dsimp only at hst;simp [Builtin.append_,run_underlying hu,run_underlying hu2,sizeOf,typeInfo,hi,hlen,hnew,hle,hst]
theorem jC {t u ty e n sLen sCap:Nat} {i:TypeInfo} {z:Value} {du:TypeDesc} {base:Option Addr} {y:Value} {olds news:List Value} (hu:P.underlying t=some (.slice e)) (hu2:P.underlying u=some du) (hdu:TW du=true) (hi:P.info? e=some i) (hz:i.zero=some z)
    (hlen:(Builtin.lenOf y).run P w= .ok n w) (hold:(Builtin.firstCells i.size sLen (.slice base sLen sCap)).run P w.drew= .ok olds.toArray w.drew) (hnew:(Builtin.firstCells i.size n y).run P w.drew= .ok news.toArray w.drew) (hgt:sCap<sLen+n)
    (hb:(sLen+n)*i.bytes<=140737488355328) (h0:0<i.bytes\/((sLen+n:Nat):Int)<=9223372036854775807) :
    (Builtin.append_ #[t,u] ty #[.slice base sLen sCap,y]).run P w =
      .ok (.slice (some (at' w.heap.size 0)) (sLen+n) (grownCap w (sLen+n) sCap e)) (w.drew.alloc (.cells (olds.toArray++news.toArray++Builtin.zeroCells z.cells (grownCap w (sLen+n) sCap e - (sLen+n))) e)):=by
  have hn: ¬(sLen+n<=sCap):=by omega
  have hfit:=growslice_fits hgt hb
  have h48': ¬(281474976710656<Builtin.nextslicecap (sLen+n) sCap*i.bytes):=by omega
  have h63: ¬(((sLen:Int)+(n:Int))>9223372036854775807/\i.bytes=0):=by
    rintro ⟨ha,hb'⟩
    rcases h0 with h0 | h0
    ·omega
    ·rw[Int.natCast_add]at h0;omega
  have h63': ¬(9223372036854775807<((sLen:Int)+(n:Int))/\i.bytes=0):=h63
  rcases AdX hdu with ⟨e',rfl⟩ | rfl
  ·simp [Builtin.append_,run_underlying hu,run_underlying hu2,sizeOf,typeInfo,zeroValue,hi,hz,hlen,hn,h63',h48',Question.forced,hold,hnew,newRow,grownCap]
   congr 2
   apply Array.ext'
   simp [List.append_assoc]
  ·simp [Builtin.append_,run_underlying hu,run_underlying hu2,sizeOf,typeInfo,zeroValue,hi,hz,hlen,hn,h63',h48',Question.forced,hold,hnew,newRow,grownCap]
   congr 2
   apply Array.ext'
   simp [List.append_assoc]
end
