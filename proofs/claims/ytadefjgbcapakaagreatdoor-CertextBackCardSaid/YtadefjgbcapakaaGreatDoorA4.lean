import Derived.Test.YtadefjgbcapakaaGreatDoorA3
import Derived.Laws.Append
import Derived.Laws.AppendOwn
import Derived.Laws.OwnMore
set_option linter.all false
namespace Go.Proofs.YtadefjgbcapakaaGreatDoor.Vm
theorem Moves.push {O:Own} {T:Nat->Prop} {w:World} (x:Go.Obj):Moves O T w (w.alloc x) :=
  ⟨rfl,rfl,rfl,by show _<=(w.heap.push x).size;simp,fun b hb=>.inl (heap_alloc_old w x hb)⟩
theorem Zp (w:World) (x:Go.Obj):(w.alloc x).heap[w.heap.size]? =some x:=by show(w.heap.push x)[_]? =_;simp
theorem Moves.drew (O:Own) (T:Nat->Prop) (w:World):Moves O T w w.drew:=⟨rfl,rfl,rfl,Nat.le_refl _,fun _ _=>.inl rfl⟩
theorem Moves.then {O:Own} {T:Nat->Prop} {w w' w'':World} (h:Moves O T w w') (h':Moves O T w' w''):Moves O T w w'':=by
  refine⟨h'.os.trans h.os,h'.tape.trans h.tape,h'.output.trans h.output,Nat.le_trans h.size h'.size,fun b hb=> ?_⟩
  have hb':b<w'.heap.size:=Nat.lt_of_lt_of_le hb h.size
  rcases h'.blk b hb' with he' | ⟨c,c',e,fr,h1,h2,h3,h4,h5⟩ | ⟨es,ck,es',ck',o,h1,h2,h3,h4⟩
  ·rcases h.blk b hb with he | ⟨d,d',e,fr,h1,h2,h3,h4,h5⟩ | ⟨es,ck,es',ck',o,h1,h2,h3,h4⟩
   ·exact .inl (he'.trans he)
   ·exact .inr (.inl ⟨d,d',e,fr,h1,he'.trans h2,h3,h4,h5⟩)
   ·exact .inr (.inr ⟨es,ck,es',ck',o,h1,he'.trans h2,h3,h4⟩)
  ·rcases h.blk b hb with he | ⟨d,d',e',fr',g1,g2,g3,g4,g5⟩ | ⟨es,ck,es',ck',o,g1,g2,g3,g4⟩
   ·exact .inr (.inl ⟨c,c',e,fr,he▸h1,h2,h3,h4,h5⟩)
   ·rw[g2]at h1
    injection h1 with h1;injection h1 with q1 q2 q3
    subst q1;subst q2;subst q3
    exact .inr (.inl ⟨d,c',e',fr',g1,h2,h3.trans g3,fun i hi=>by rw[h4 i hi,g4 i hi],g5⟩)
   ·rw[g2]at h1;injection h1 with h1;cases h1
  ·rcases h.blk b hb with he | ⟨d,d',e',fr',g1,g2,g3,g4,g5⟩ | ⟨es1,ck1,es1',ck1',o1,g1,g2,g3,g4⟩
   ·exact .inr (.inr ⟨es,ck,es',ck',o,he▸h1,h2,h3,h4⟩)
   ·rw[g2]at h1;injection h1 with h1;cases h1
   ·exact .inr (.inr ⟨es1,ck1,es',ck',o1,g1,h2,g3,g4⟩)
theorem Moves.row {O:Own} {T:Nat->Prop} {w w':World} {g:Nat} {c c':Array Value} {e:TypeId} {fr:Nat×Nat} (hos:w'.os=w.os) (ht:w'.tape=w.tape) (hout:w'.output=w.output) (hs:w'.heap.size=w.heap.size)
    (hg:w.heap[g]? =some (.cells c e fr)) (hg':w'.heap[g]? =some (.cells c' e fr)) (hoth: ∀ b,b≠g->w'.heap[b]? =w.heap[b]?) (hsz:c'.size=c.size) (hk: ∀ k,(∀ o,O g k=some o-> ¬ T o)->c'[k]? =c[k]?)
    (hex:(∃ k o,k<c.size/\O g k=some o/\T o)\/c'=c):Moves O T w w':=by
  refine⟨hos,ht,hout,by omega,fun b _=> ?_⟩
  by_cases hb:b=g
  ·subst hb
   rcases hex with hex | hex
   ·exact .inr (.inl ⟨c,c',e,fr,hg,hg',hsz,hk,hex⟩)
   ·subst hex;exact .inl (hg'.trans hg.symm)
  ·exact .inl (hoth b hb)
theorem Moves.map {O:Own} {T:Nat->Prop} {w w':World} {r:Nat} {es es':Array MapEntry} {ck ck':Nat} (hos:w'.os=w.os) (ht:w'.tape=w.tape) (hout:w'.output=w.output) (hs:w'.heap.size=w.heap.size)
    (hg:w.heap[r]? =some (.map es ck)) (hg':w'.heap[r]? =some (.map es' ck')) (hoth: ∀ b,b≠r->w'.heap[b]? =w.heap[b]?) {o:Nat} (ho:O r 0=some o) (hT:T o):Moves O T w w':=by
  refine⟨hos,ht,hout,by omega,fun b _=> ?_⟩
  by_cases hb:b=r
  ·subst hb;exact .inr (.inr ⟨es,ck,es',ck',o,hg,hg',ho,hT⟩)
  ·exact .inl (hoth b hb)
theorem AeY (w:World) (b k:Nat) (v:Value) {c:Array Value} {e:TypeId} {fr:Nat×Nat} (hg:w.heap[b]? =some (.cells c e fr)) :
    (w.setCell (at' b k) v).heap[b]? =some (.cells (c.setIfInBounds k v) e fr)/\(∀ b',b'≠b->(w.setCell (at' b k) v).heap[b']? =w.heap[b']?)/\(w.setCell (at' b k) v).heap.size=w.heap.size:=by
  refine⟨?_,fun b' hb=> ?_,by simp [World.setCell]⟩
  ·simp [World.setCell,Array.getElem?_modify,hg]
  ·simp only[World.setCell,Array.getElem?_modify]
   rw[if_neg (fun h=>hb h.symm)]
theorem Sj (b:Nat): ∀(vs:List Value) (k:Nat) (w:World) {c:Array Value} {e:TypeId} {fr:Nat×Nat},w.heap[b]? =some (.cells c e fr)->k+vs.length<=c.size ->
    ∃ c',(w.setCells b k vs).heap[b]? =some (.cells c' e fr)/\c'.size=c.size/\(∀ i,c'.getD i undef=if k<=i/\i<k+vs.length then vs.getD (i - k) undef else c.getD i undef) /\
      (∀ b',b'≠b->(w.setCells b k vs).heap[b']? =w.heap[b']?)/\(w.setCells b k vs).heap.size=w.heap.size/\(w.setCells b k vs).os=w.os/\(w.setCells b k vs).tape=w.tape/\(w.setCells b k vs).output=w.output:=by
  intro vs
  induction vs with
  | nil=>intro k w c e fr hg _;exact⟨c,hg,rfl,fun i=>by rw[if_neg (by simp)],fun _ _=>rfl,rfl,rfl,rfl,rfl⟩
  | cons v vs ih =>
    intro k w c e fr hg hle
    simp only[List.length_cons]at hle
    obtain⟨h1,h2,h3⟩:=AeY w b k v hg
    obtain⟨c',h4,h5,h6,h7,h8,h9,h10,h11⟩:=ih (k+1) (w.setCell (at' b k) v) h1 (by simp;omega)
    refine⟨c',h4,by rw[h5];simp,fun i=> ?_,fun b' hb=>(h7 b' hb).trans (h2 b' hb),h8.trans h3,h9,h10,h11⟩
    rw[h6 i]
    simp only[List.length_cons]
    by_cases hi:k+1<=i/\i<k+1+vs.length
    ·rw[if_pos hi,if_pos (by omega),show i - k=(i - (k+1))+1 from by omega];rfl
    ·rw[if_neg hi]
     by_cases hk:i=k
     ·subst hk
      rw[if_pos (by omega),Array.getD_eq_getD_getElem?,Array.getElem?_setIfInBounds,if_pos rfl,if_pos (by omega)]
      simp
     ·rw[if_neg (by omega),Array.getD_eq_getD_getElem?,Array.getElem?_setIfInBounds,if_neg (by omega),<- Array.getD_eq_getD_getElem?]
theorem SQ: ∀(ks:List CK) (cs:List A) (id:Nat),(CO id ks cs).1.length=cs.length /\
    (∀ j,j<cs.length->(CO id ks cs).1.getD j .undef=cs.getD j .undef\/(cs.getD j .undef= .Dh/\(CO id ks cs).1.getD j .undef= .own (id+j)/\ ∃ e sz,(id+j,Obj.arr e false ⟨sz,[]⟩)∈(CO id ks cs).2)) /\
    (∀ p∈(CO id ks cs).2,(∃ e sz,p.2= .arr e false ⟨sz,[]⟩)/\ ∃ j,j<cs.length/\p.1=id+j):=by
  intro ks
  induction ks with
  | nil=>intro cs id;refine⟨rfl,fun j _=>.inl rfl,fun p hp=> ?_⟩;simp [CO]at hp
  | cons k ks ih =>
    intro cs id
    cases cs with
    | nil=>refine⟨by cases k<;>rfl,fun j hj=>by simp at hj,fun p hp=> ?_⟩;cases k<;>simp [CO]at hp
    | cons c cs =>
      obtain⟨h1,h2,h3⟩:=ih cs (id+1)
      have other:CO id (k::ks) (c::cs)=(c::(CO (id+1) ks cs).1,(CO (id+1) ks cs).2) ->
          (CO id (k::ks) (c::cs)).1.length=(c::cs).length /\
          (∀ j,j<(c::cs).length->(CO id (k::ks) (c::cs)).1.getD j .undef=(c::cs).getD j .undef\/((c::cs).getD j .undef= .Dh/\(CO id (k::ks) (c::cs)).1.getD j .undef= .own (id+j)/\ ∃ e sz,(id+j,Obj.arr e false ⟨sz,[]⟩)∈(CO id (k::ks) (c::cs)).2)) /\
          (∀ p∈(CO id (k::ks) (c::cs)).2,(∃ e sz,p.2= .arr e false ⟨sz,[]⟩)/\ ∃ j,j<(c::cs).length/\p.1=id+j):=by
        intro he
        rw[he]
        refine⟨by simp [h1],fun j hj=> ?_,fun p hp=> ?_⟩
        ·cases j with
         | zero=>exact .inl rfl
         | succ j =>
           have:=h2 j (by simpa using hj)
           rw[show id+(j+1)=id+1+j from by omega]
           simpa using this
        ·obtain⟨ha,j,hj,hb⟩:=h3 p hp
         exact⟨ha,j+1,by simpa using hj,by omega⟩
      by_cases hc:c= .Dh/\ ∃ e sz,k= .sl e sz
      ·obtain⟨hc,e,sz,hk⟩:=hc
       subst hc;subst hk
       have he:CO id (.sl e sz::ks) (.Dh::cs)=(.own id::(CO (id+1) ks cs).1,(id,.arr e false ⟨sz,[]⟩)::(CO (id+1) ks cs).2):=rfl
       rw[he]
       refine⟨by simp [h1],fun j hj=> ?_,fun p hp=> ?_⟩
       ·cases j with
        | zero=>exact .inr ⟨rfl,rfl,e,sz,List.mem_cons_self⟩
        | succ j =>
          rcases h2 j (by simpa using hj)with h | ⟨ha,hb,e',sz',hm⟩
          ·exact .inl (by simpa using h)
          ·refine .inr ⟨by simpa using ha,?_,e',sz',List.mem_cons_of_mem _ ?_⟩
           ·rw[show id+(j+1)=id+1+j from by omega];simpa using hb
           ·rw[show id+(j+1)=id+1+j from by omega];exact hm
       ·rcases List.mem_cons.1 hp with rfl | hp
        ·exact⟨⟨e,sz,rfl⟩,0,by simp,rfl⟩
        ·obtain⟨ha,j,hj,hb⟩:=h3 p hp
         exact⟨ha,j+1,by simpa using hj,by omega⟩
      ·refine other ?_
       cases k<;>cases c<;>first | rfl | exact absurd ⟨rfl,_,_,rfl⟩ hc
theorem I8 {l:List Nat} {n:Nat}:has l n=true↔n∈l:=by
  unfold has
  rw[List.any_eq_true]
  constructor
  ·rintro ⟨x,hx,he⟩
   have:=Nat.eq_of_beq_eq_true he
   subst this;exact hx
  ·intro h;exact⟨n,h,by simp⟩
theorem Aip: ∀ {l:List (Nat×Obj)},nodup (l.map (·.1))=true-> ∀ {n x y},(n,x)∈l->(n,y)∈l->x=y:=by
  intro l
  induction l with
  | nil=>intro _ n x y h;cases h
  | cons p l ih =>
    intro h n x y hx hy
    simp only[List.map_cons,nodup,Bool.and_eq_true,Bool.not_eq_true']at h
    have hno: ∀ z,(p.1,z)∉l:=by
      intro z hz
      have:has (l.map (·.1)) p.1=true:=I8.2 (List.mem_map.2 ⟨_,hz,rfl⟩)
      rw[this]at h;cases h.1
    rcases List.mem_cons.1 hx with rfl | hx'
    ·rcases List.mem_cons.1 hy with e | hy'
     ·injection e with _ e;exact e.symm
     ·exact absurd hy' (hno y)
    ·rcases List.mem_cons.1 hy with rfl | hy'
     ·exact absurd hx' (hno x)
     ·exact ih h.2 hx' hy'
theorem O8 {Aa:List (Nat×Obj)} {upd new:List (Nat×Obj)} {del:List Nat} {o:Nat} {x:Obj} (h:Ah (Ap (Bj (Ap Aa upd) del) new) o=some x) :
    (o,x)∈new\/((∀ y,(o,y)∉new)/\o∉del/\((o,x)∈upd\/((∀ y,(o,y)∉upd)/\Ah Aa o=some x))):=by
  by_cases hn: ∃ p∈new,p.1=o
  ·obtain⟨y,hy,he⟩:=Fh new (Bj (Ap Aa upd) del) o hn
   rw[he]at h;injection h with h;subst h;exact .inl hy
  ·have hn': ∀ y,(o,y)∉new:=fun y hy=>hn ⟨_,hy,rfl⟩
   rw[Dy _ _ _ (fun p hp e=>hn ⟨p,hp,e⟩),KA]at h
   by_cases hd:o∈del
   ·rw[if_pos hd]at h;cases h
   ·rw[if_neg hd]at h
    refine .inr ⟨hn',hd,?_⟩
    by_cases hu: ∃ p∈upd,p.1=o
    ·obtain⟨y,hy,he⟩:=Fh upd Aa o hu
     rw[he]at h;injection h with h;subst h;exact .inl hy
    ·rw[Dy _ _ _ (fun p hp e=>hu ⟨p,hp,e⟩)]at h
     exact .inr ⟨fun y hy=>hu ⟨_,hy,rfl⟩,h⟩
theorem YH {Aa:List (Nat×Obj)} {upd new:List (Nat×Obj)} {del:List Nat} (hnd:nodup (new.map (·.1))=true) {o:Nat} {x:Obj} (h:(o,x)∈new):Ah (Ap (Bj (Ap Aa upd) del) new) o=some x:=by
  obtain⟨y,hy,he⟩:=Fh new (Bj (Ap Aa upd) del) o ⟨_,h,rfl⟩
  rw[he,Aip hnd h hy]
section
variable {P:Program} {C:Ctx} {V0:Nat->Value} {O0 O:Own} {w0 w:World} {m:Nat->Value} {st:St} {a:Act} {o:Oper}
theorem AL.Dh {Aa:List (Nat×Obj)} {v:Value} (h:AL O Aa m w v .Dh):v= .slice none 0 0:=h
theorem Je.Agq {O':Own} {w':World} {objs':List (Nat×Obj)} {m':Nat->Value} {vs:Array Value} {cs:List A} {ks:List CK} {id:Nat} {Nw:Nat->Prop} (h:Je O st.Aa m w vs cs) (hp:Fe O w O' w') (hE:Ip st.Aa m objs' m' Nw)
    (hN: ∀ j,j<cs.length-> ∀ i∈(cs.getD j .undef).Eh,¬ Nw i) (hnew: ∀ p∈(CO id ks cs).2,Ah objs' p.1=some p.2/\m' p.1= .slice none 0 0):Je O' objs' m' w' vs (CO id ks cs).1:=by
  obtain⟨h1,h2,_⟩:=SQ ks cs id
  refine⟨by rw[h1];exact h.1,fun j hj=> ?_⟩
  rw[h1]at hj
  rcases h2 j hj with he | ⟨hn,he,e,sz,hm⟩
  ·rw[he];exact(h.2 j hj).step hp hE (hN j hj)
  ·have:=h.2 j hj
   rw[hn]at this
   have hv:=this.Dh
   rw[he,hv]
   obtain⟨g1,g2⟩:=hnew _ hm
   dsimp only at g1 g2
   refine⟨rfl,?_⟩
   rw[g1];exact g2.symm
theorem eG {x:A} (hv:x.isVal=true) {j:Nat} (hj:j<x.cells.length) {i:Nat} (hi:i∈(x.cells.getD j .undef).Eh):i∈x.ids:=by
  cases x with
  | agg cs=>exact JM (f:=A.Eh) hj hi
  | undef=>cases hv
  | tup _=>cases hv
  | usl _ _=>cases hv
  | ump _=>cases hv
  | box _=>cases hv
  | cbx _ _=>cases hv
  | cnd _ _=>cases hv
  | _ =>
    have:j=0:=by simpa [A.cells]using hj
    subst this
    exact hi
theorem Abx {vs:Array Value} {cs:List A} {ks:List CK} {t:Nat} {r:Value} {y:A} {okl:List Bool} (hS:Sim V0 O0 w0 O m st a w) (hcs:Je O st.Aa m w vs cs) (hids: ∀ j,j<cs.length-> ∀ i∈(cs.getD j .undef).Eh,i∈st.ids\/(Ah st.Aa i).isSome) {d:Nat} (hd:o.dst=some d)
    (hr:(execOp a.eval o).run P w= .ok (.value r) (w.alloc (.cells vs t)))
    (hy: ∀(O':Own) (objs':List (Nat×Obj)) (m':Nat->Value) (w':World) (c:List A),Ah objs' (b2 d)=some (.box c)->m' (b2 d)= .pointer (some (at' w.heap.size 0))->Au O' objs' m' w' r y)
    (hfr: ∀ p∈(b2 d,Obj.box (CO (b2 d+1) ks cs).1)::(CO (b2 d+1) ks cs).2,st.fresh p.1=true) (hnd:nodup (((b2 d,Obj.box (CO (b2 d+1) ks cs).1)::(CO (b2 d+1) ks cs).2).map (·.1))=true) :
    Good P V0 O0 w0 (apply st o {ok:=okl,val:=y,new:=(b2 d,.box (CO (b2 d+1) ks cs).1)::(CO (b2 d+1) ks cs).2}) o a w:=by
  intro next Q hn
  unfold Oper.wp
  rw[hr,Oper.upon_value]
  let ad:=CO (b2 d+1) ks cs
  let m':Nat->Value:=fun i=>if i=b2 d then .pointer (some (at' w.heap.size 0))else if has (ad.2.map (·.1)) i then .slice none 0 0 else m i
  let O':Own:=fun b k=>if b=w.heap.size then some (b2 d)else O b k
  let Nw:Nat->Prop:=fun i=> ∃ p∈((b2 d,Obj.box ad.1)::ad.2),p.1=i
  have hNw: ∀ i,Nw i->He st i:=by
    rintro i ⟨p,hp,rfl⟩
    exact Ey (hfr p hp)
  refine hn O' m' _ _ ?_
  have hobjs:(apply st o {ok:=okl,val:=y,new:=(b2 d,.box ad.1)::ad.2}).Aa=Ap (Bj (Ap st.Aa []) []) ((b2 d,.box ad.1)::ad.2):=rfl
  have hnewO: ∀ p∈((b2 d,Obj.box ad.1)::ad.2),Ah (Ap (Bj (Ap st.Aa []) []) ((b2 d,.box ad.1)::ad.2)) p.1=some p.2:=fun p hp=>YH hnd (by exact hp)
  have hb2:has (ad.2.map (·.1)) (b2 d)=false:=by
    simp only[List.map_cons,nodup,Bool.and_eq_true,Bool.not_eq_true']at hnd
    exact hnd.1
  have hmad: ∀ p∈ad.2,m' p.1= .slice none 0 0:=by
    intro p hp
    have h3:has (ad.2.map (·.1)) p.1=true:=I8.2 (List.mem_map.2 ⟨p,hp,rfl⟩)
    have h4:p.1≠b2 d:=fun e=>by rw[e,hb2]at h3;cases h3
    show(if p.1=b2 d then _ else _)=_
    rw[if_neg h4,if_pos h3]
  have hE:Ip st.Aa m (Ap (Bj (Ap st.Aa []) []) ((b2 d,.box ad.1)::ad.2)) m' Nw:=by
    intro i y hy
    rcases O8 hy with hy' | ⟨hno,_,hy' | ⟨_,hy'⟩⟩
    ·exact .inl ⟨_,hy',rfl⟩
    ·cases hy'
    ·refine .inr ⟨y,hy',rfl,?_⟩
     have h3:i≠b2 d:=fun e=>hno (.box ad.1) (by rw[e];exact List.mem_cons_self)
     have h4:has (ad.2.map (·.1)) i=false:=by
       cases hh:has (ad.2.map (·.1)) i with
       | false=>rfl
       | true =>
         obtain⟨p,hp,hpe⟩:=List.mem_map.1 (I8.1 hh)
         exact absurd (List.mem_cons_of_mem _ (by rw[<- hpe];exact hp)) (hno p.2)
     show(if i=b2 d then _ else _)=_
     rw[if_neg h3,h4];rfl
  have hM:Moves O (fun _=>False) w (w.alloc (.cells vs t)):=Moves.push _
  have hP:Passes O O' (fun _=>False) w.heap.size:=⟨fun b k hb h=>by show(if b=_ then _ else _)=_;rw[if_neg (Nat.ne_of_lt hb)];exact h,fun b k q hb h _=>by show(if b=_ then _ else _)=_;rw[if_neg (Nat.ne_of_lt hb)];exact h⟩
  have hpr:=hM.Bf hP
  have hnewblk: ∀ k,(w.alloc (.cells vs t)).cell? (at' w.heap.size k)=vs[k]? :=by
    intro k;exact World.cell?_alloc_at vs t _ _ rfl
  refine hS.next (T:=fun _=>False) (Nw:=Nw) hM hP (fun b k hb h=> ?_) hE (fun n hn'=>(hNw n hn').both) (fun _ h=>h.elim) (fun q y hy=> ?_) rfl (fun _=> ?_)
  ·have:O' b k=O b k:=if_neg (Nat.ne_of_lt hb)
   rw[this]at h;exact h
  ·rcases O8 hy with hy' | ⟨hno,_,hy' | ⟨_,hy'⟩⟩
   ·right
    rcases List.mem_cons.1 hy' with e | hy'
    ·injection e with e1 e2
     subst e1;subst e2
     refine⟨⟨w.heap.size,0,if_pos rfl,fun j hj=> ?_⟩,(hNw _ ⟨_,List.mem_cons_self,rfl⟩).ne⟩
     have hcs':Je O' _ m' _ vs ad.1:=hcs.Agq (ks:=ks) (id:=b2 d+1) hpr hE (fun j hj i hi hn'=>by
       rcases hids j hj i hi with hh | hh
       ·exact(hNw i hn').1 hh
       ·rw[(hNw i hn').2]at hh;cases hh) (fun p hp=>⟨hnewO p (List.mem_cons_of_mem _ hp),hmad p hp⟩)
     have hjs:j<vs.size:=by rw[hcs'.1];exact hj
     refine⟨if_pos rfl,by simp only[World.frozen?,Zp];simp,vs.getD j undef,?_,hcs'.2 j hj⟩
     rw[hnewblk]
     simp only[Nat.zero_add]
     exact getD_eq hjs
    ·obtain⟨⟨e,sz,h3⟩,_⟩:=(SQ ks cs (b2 d+1)).2.2 _ hy'
     dsimp only at h3
     subst h3
     exact⟨⟨by simp [Sl.es],.inl ⟨trivial,rfl,hmad _ hy'⟩⟩,(hNw _ ⟨_,List.mem_cons_of_mem _ hy',rfl⟩).ne⟩
   ·cases hy'
   ·left
    refine⟨id,hy',?_⟩
    rcases hE q y hy with hn' | ⟨_,h3,_,h4⟩
    ·rw[(hNw q hn').2]at hy';cases hy'
    ·exact h4
  ·exact hy _ _ _ _ _ (hnewO (b2 d,.box ad.1) List.mem_cons_self) (if_pos rfl)
theorem AdD {t:Nat} {v:Value} {x:A} (hC:TOk P C) (hS:Sim V0 O0 w0 O m st a w) (hx:Au O st.Aa m w v x) (hids: ∀ i∈x.ids,i∈st.ids\/(Ah st.Aa i).isSome) {d:Nat} (hd:o.dst=some d)
    (hrun: ∀ ti,C.T t=some ti->x.isVal=true->v.cells.size=ti.cs.length->(execOp a.eval o).run P w= .ok (.value (.pointer (some (at' w.heap.size 0)))) (w.alloc (.cells v.cells t)))
    (hok:Ar (Le C d t x).ok) (hfr: ∀ p∈(Le C d t x).new,st.fresh p.1=true) (hnd:nodup ((Le C d t x).new.map (·.1))=true):Good P V0 O0 w0 (apply st o (Le C d t x)) o a w:=by
  unfold Le at *
  obtain⟨ti,ht,he⟩:=Bz hok
  rw[he]at hok hfr hnd ⊢;clear he
  obtain⟨h1,h2⟩:=hok.cons
  have h2:=Nat.eq_of_beq_eq_true h2.cons.1
  have hcs:=hx.cells h1
  refine Abx (ks:=ti.cs) hS hcs (fun j hj i hi=>hids i (eG h1 hj hi)) hd (hrun ti ht h1 (by rw[hcs.1,h2])) (fun O' objs' m' w' c hc hm=> ?_) hfr hnd
  show AL O' objs' m' w' _ (.ptr (b2 d) 0)
  refine⟨rfl,?_⟩
  rw[hc]
  exact⟨w.heap.size,0,hm,rfl⟩
end
end Go.Proofs.YtadefjgbcapakaaGreatDoor.Vm
namespace Go.Proofs.YtadefjgbcapakaaGreatDoor.Vm
open Classical
section
variable {P:Program} {C:Ctx} {V0:Nat->Value} {O0 O:Own} {w0 w:World} {m:Nat->Value} {st:St} {a:Act} {o:Oper}
theorem Sim.Yl (hS:Sim V0 O0 w0 O m st a w) {q e:Nat} {f:Bool} {l:Sl} (hq:Ah st.Aa q=some (.arr e f l)) :
    ∃ O',Sim V0 O0 w0 O' m {st with Aa:=CY st.Aa q (.arr e true l)} a w/\Fe O w O' w/\(∀ b k,O' b k≠none->O b k≠none)/\Ai O' w (m q) (.sl l)/\ ∀ b k r,O b k=some r->r≠q->O' b k=some r:=by
  obtain⟨hsz,hr⟩:=hS.Aa q _ hq
  let O':Own:=fun b k=>if(∃ n cap,m q= .slice (some (at' b 0)) n cap)/\k<l.es.length*l.sz then none else O b k
  have hno: ∀ b k,O b k=none->O' b k=none:=by
    intro b k h;show(if _ then _ else _)=_;split;rfl;exact h
  have hle: ∀ b k,O' b k≠none->O b k≠none:=by
    intro b k h h';exact h (hno b k h')
  have hkeep: ∀ b k r,O b k=some r->r≠q->O' b k=some r:=by
    intro b k r h hne
    show(if _ then _ else _)=_
    rw[if_neg ?_]
    ·exact h
    ·rintro ⟨⟨n,cap,hm⟩,hk⟩
     rcases hr with ⟨_,h2,_⟩ | ⟨_,g,cap',cur,h1,_,_,_,_,_,_,h8⟩
     ·rw[h2]at hk;simp at hk
     ·rw[h1]at hm;injection hm with hm;injection hm with hm;injection hm with hm
      subst hm
      have:=h8 k hk
      rw[h]at this
      cases f
      ·simp at this;exact hne this
      ·simp at this
  have hp:Fe O w O' w:=fun b k u h hc=>⟨hno b k h,hc⟩
  have hE:Ip st.Aa m (CY st.Aa q (.arr e true l)) m (fun _=>False):=by
    intro r y hy
    rw[Bl]at hy
    by_cases hrq:r=q
    ·subst hrq
     rw[if_pos rfl]at hy;injection hy with hy;subst hy
     exact .inr ⟨_,hq,rfl,rfl⟩
    ·rw[if_neg hrq]at hy;exact .inr ⟨y,hy,rfl,rfl⟩
  have hO:Dx O' (CY st.Aa q (.arr e true l)) m w q (.arr e true l):=by
    refine⟨hsz,?_⟩
    rcases hr with h | ⟨h1,g,cap,cur,h2,h3,h4,h5,h6,h7,h8,h9⟩
    ·exact .inl h
    ·refine .inr ⟨h1,g,cap,cur,h2,h3,h4,h5,h6,fun i j hi hj=> ?_,fun k hk hge=> ?_,fun k hk=> ?_⟩
     ·obtain⟨u,h10,h11⟩:=h7 i j hi hj
      exact⟨u,h10,h11.Bf hp⟩
     ·show(if _ then _ else _)=_
      rw[if_neg (by rintro ⟨_,h⟩;omega)];exact h8 k hk hge
     ·show(if _ then _ else _)=_
      rw[if_pos ⟨⟨_,_,h2⟩,hk⟩];rfl
  refine⟨O',⟨hS.defers,hS.size,fun t ht=>(hS.tmps t ht).step hp hE (fun _ _ h=>h),fun r y hy=> ?_,hS.frame,fun b k r hb h hne=> ?_,fun r y hy=> ?_,fun b k hb h=>hS.less b k hb (hle b k h),fun o hr ho=>hS.root o hr (by dsimp only at ho;rw[Bl]at ho;by_cases hq':o=q;(rw [hq',hq];rfl);(rw [if_neg hq']at ho;exact ho)),fun b k hb h=>hkeep b k 255 (hS.Xf b k hb h) (fun e=>hS.ids q _ hq e.symm),hS.inv⟩,hp,hle,?_,hkeep⟩
  ·have hy':=hy
   rw[Bl]at hy
   by_cases hrq:r=q
   ·subst hrq
    rw[if_pos rfl]at hy;injection hy with hy;subst hy
    exact hO
   ·rw[if_neg hrq]at hy
    exact(hS.Aa r y hy).step (T:=fun i=>i=q) (Moves.refl O _ w) ⟨fun b k _ h=>hno b k h,fun b k r' _ h hT=>hkeep b k r' h hT⟩ hE hrq rfl (fun _ _ h=>h)
  ·have h':(if(∃ n cap,m q= .slice (some (at' b 0)) n cap)/\k<l.es.length*l.sz then none else O b k)=some r:=h
   split at h'
   ·cases h'
   ·exact hS.own b k r hb h' hne
  ·rw[Bl]at hy
   by_cases hrq:r=q
   ·rw[hrq];exact hS.ids q _ hq
   ·rw[if_neg hrq]at hy;exact hS.ids r y hy
  ·rcases hr with ⟨h1,h2,h3⟩ | ⟨h1,g,cap,cur,h2,h3,h4,h5,h6,h7,h8,h9⟩
   ·rw[h3];exact Ai.ofNil h2
   ·rw[h2]
    have hv: ∀ i j,i<l.es.length->j<l.sz-> ∃ u,cur[i*l.sz+j]? =some u/\Ai O w u ((l.es.getD i []).getD j .undef):=h7
    refine Ai.sl (fun i j=>(cur[i*l.sz+j]?).getD undef) h4 (fun i j hi hj=> ?_) (fun i j hi hj=> ?_)
    ·obtain⟨u,h10,_⟩:=hv i j hi hj
     refine⟨?_,by rw[Nat.zero_add,h3.cell,h10];rfl⟩
     show(if _ then _ else _)=_
     rw[if_pos]
     refine⟨⟨_,_,h2⟩,?_⟩
     have:(i+1)*l.sz<=l.es.length*l.sz:=Nat.mul_le_mul_right _ hi
     rw[Nat.add_mul]at this;omega
    ·obtain⟨u,h10,h11⟩:=hv i j hi hj
     rw[h10];exact h11.Bf hp
theorem Dx.frozen {Aa:List (Nat×Obj)} {q e:Nat} {l:Sl} (h:Dx O Aa m w q (.arr e true l)):Ai O w (m q) (.sl l):=by
  rcases h.2 with ⟨h1,h2,h3⟩ | ⟨h1,g,cap,cur,h2,h3,h4,h5,h6,h7,h8,h9⟩
  ·rw[h3];exact Ai.ofNil h2
  ·rw[h2]
   refine Ai.sl (fun i j=>(cur[i*l.sz+j]?).getD undef) h4 (fun i j hi hj=> ?_) (fun i j hi hj=> ?_)
   ·obtain⟨u,h10,_⟩:=h7 i j hi hj
    have:(i+1)*l.sz<=l.es.length*l.sz:=Nat.mul_le_mul_right _ hi
    rw[Nat.add_mul]at this
    refine⟨by have:=h9 (i*l.sz+j) (by omega);simpa using this,by rw[Nat.zero_add,h3.cell,h10];rfl⟩
   ·obtain⟨u,h10,h11⟩:=h7 i j hi hj
    rw[h10];exact h11
def Frz (Aa:List (Nat×Obj)) (U:List (Nat×Obj)):Prop:= ∀ p∈U,∃ e f l,Ah Aa p.1=some (.arr e f l)/\p.2= .arr e true l
def NR (Aa:List (Nat×Obj)) (q:Nat):Prop:= ∀ e f l,Ah Aa q≠some (.arr e f l)
theorem NR.of {Aa:List (Nat×Obj)} {q:Nat} {x:Obj} (h:Ah Aa q=some x) (hx: ∀ e f l,x≠ .arr e f l):NR Aa q:=fun e f l h'=>hx e f l (by rw[h]at h';injection h')
theorem Sim.freezes: ∀(U:List (Nat×Obj)) {O:Own} {st:St},Sim V0 O0 w0 O m st a w->Frz st.Aa U ->
    ∃ O',Sim V0 O0 w0 O' m {st with Aa:=Ap st.Aa U} a w/\Fe O w O' w/\(∀ b k,O' b k≠none->O b k≠none)/\(∀ p∈U,∀ e l,p.2= .arr e true l->Ai O' w (m p.1) (.sl l)) /\
      Ip st.Aa m (Ap st.Aa U) m (fun _=>False)/\ ∀ b k r,O b k=some r->NR st.Aa r->O' b k=some r:=by
  intro U
  induction U with
  | nil=>intro O st hS _;exact⟨O,hS,fun _ _ _ h hc=>⟨h,hc⟩,fun _ _ h=>h,(fun p hp=>by cases hp),(fun o y hy=>.inr ⟨y,hy,rfl,rfl⟩),fun _ _ _ h _=>h⟩
  | cons p U ih =>
    intro O st hS hU
    obtain⟨q,y⟩:=p
    obtain⟨e,f,l,h1,h2⟩:=hU (q,y) List.mem_cons_self
    dsimp only at h1 h2
    subst h2
    obtain⟨O1,hS1,hp1,hle1,hv1,hk1⟩:=hS.Yl h1
    obtain⟨O2,hS2,hp2,hle2,hv2,hE2,hk2⟩:=ih hS1 (fun p hp=>by
      obtain⟨e',f',l',h3,h4⟩:=hU p (List.mem_cons_of_mem _ hp)
      by_cases hq:p.1=q
      ·refine⟨e',true,l',?_,h4⟩
       rw[Bl,if_pos hq]
       rw[hq,h1]at h3;injection h3 with h3;injection h3 with q1 q2 q3
       subst q1;subst q3;rfl
      ·exact⟨e',f',l',by rw[Bl,if_neg hq];exact h3,h4⟩)
    refine⟨O2,hS2,fun b k u h hc=>hp2 b k u (hp1 b k u h hc).1 hc,fun b k h=>hle1 b k (hle2 b k h),fun p hp e' l' he=> ?_,fun r y hy=> ?_,fun b k r h hb=> ?_⟩
    ·rcases List.mem_cons.1 hp with rfl | hp
     ·injection he with q1 _ q3
      subst q1;subst q3
      exact hv1.Bf hp2
     ·exact hv2 p hp _ _ he
    ·rcases hE2 r y hy with h | ⟨z,h3,h4,_⟩
     ·exact h.elim
     ·right
      dsimp only at h3
      rw[Bl]at h3
      by_cases hr:r=q
      ·subst hr
       rw[if_pos rfl]at h3;injection h3 with h3;subst h3
       exact⟨_,h1,h4,rfl⟩
      ·rw[if_neg hr]at h3;exact⟨z,h3,h4,rfl⟩
    ·have hrq:r≠q:=fun h=>hb _ _ _ (by rw[h];exact h1)
     exact hk2 b k r (hk1 b k r h hrq) (fun e' f' l'=>by dsimp only;rw[Bl,if_neg hrq];exact hb e' f' l')
theorem sO {l:List (Nat×Obj)} {n:Nat} {p:Nat×Obj} (h:p∈Jj l n):p∈l:=by
  induction l with
  | nil=>cases h
  | cons q r ih =>
    obtain⟨k,x⟩:=q
    rw[dR]at h
    split at h
    ·exact List.mem_cons_of_mem _ (ih h)
    ·rcases List.mem_cons.1 h with h | h
     ·rw[h];exact List.mem_cons_self
     ·exact List.mem_cons_of_mem _ (ih h)
theorem Ae3 {l:List (Nat×Obj)} {n:Nat} {y:Obj} {p:Nat×Obj} (h:p∈RG l n y):p=(n,y)\/p∈l:=by
  induction l with
  | nil=>simp only[RG,List.mem_singleton]at h;exact .inl h
  | cons q r ih =>
    obtain⟨k,x⟩:=q
    simp only[RG]at h
    cases hle:Nat.ble n k with
    | true =>
      rw[hle]at h;simp only[cond_true]at h
      rcases List.mem_cons.1 h with h | h
      ·exact .inl h
      ·exact .inr h
    | false =>
      rw[hle]at h;simp only[cond_false]at h
      rcases List.mem_cons.1 h with h | h
      ·exact .inr (by rw[h];exact List.mem_cons_self)
      ·rcases ih h with h | h
       ·exact .inl h
       ·exact .inr (List.mem_cons_of_mem _ h)
theorem Tq: ∀(u:List (Nat×Obj)) {l:List (Nat×Obj)} {p:Nat×Obj},p∈Ap l u->p∈u\/p∈l:=by
  intro u
  induction u with
  | nil=>intro l p h;exact .inr h
  | cons q u ih =>
    intro l p h
    obtain⟨n,y⟩:=q
    rcases ih h with h | h
    ·exact .inl (List.mem_cons_of_mem _ h)
    ·rcases Ae3 h with h | h
     ·exact .inl (by rw[h];exact List.mem_cons_self)
     ·exact .inr (sO h)
theorem He.frz {n:Nat} {U:List (Nat×Obj)} (h:He st n) (hU:Frz st.Aa U):He {st with Aa:=Ap st.Aa U} n:=by
  refine⟨fun hm=> ?_,?_,h.ne,h.root⟩
  ·rcases List.mem_append.1 hm with h1 | h1
   ·exact h.1 (List.mem_append_left _ h1)
   ·obtain⟨p,hp,hi⟩:=List.mem_flatMap.1 h1
    rcases Tq U hp with hp | hp
    ·obtain⟨e,f,l,_,h2⟩:=hU p hp
     rw[h2]at hi;cases hi
    ·exact h.1 (List.mem_append_right _ (List.mem_flatMap.2 ⟨p,hp,hi⟩))
  ·rw[Dy _ _ _ (fun p hp he=> ?_)]
   ·exact h.2
   ·obtain⟨e,f,l,h1,_⟩:=hU p hp
    rw[he,h.2]at h1;cases h1
def H8 (Aa:List (Nat×Obj)) (fet:Fet):Prop:= ∀ q x,Ah fet q=some x->Ah Aa q=some x
theorem AeM {O:Own} {w:World} {k:CK} {v:Value} {l:Sl} (hok:Ar (KJ k l).1) (h:Ai O w v (.sl l)):Ai O w v (KJ k l).2:=by
  cases k<;>first
    | exact h
    | (have h0:=hok.cons.1
       exact .sln h fun he=>by simp [he]at h0)
theorem AmK {O:Own} {w:World} {v:Value} {l:Sl} (k:CK) (h:Ai O w v (.sln l)):Ai O w v (Ap3 k l):=by
  cases k<;>first
    | exact h
    | (cases h with
       | sln h _=>exact h)
theorem AeN {fet:Fet} {k:CK} {c:A} {v:Value} (hf:H8 st.Aa fet) (hc:AL O st.Aa m w v c) (hok:Ar (pur fet k c).1) :
    Frz st.Aa (pur fet k c).2.2/\ ∀ {O':Own},Fe O w O' w->(∀ p∈(pur fet k c).2.2,∀ e l,p.2= .arr e true l->Ai O' w (m p.1) (.sl l))->Ai O' w v (pur fet k c).2.1:=by
  have triv:Frz st.Aa []:=fun p hp=>by cases hp
  unfold pur at *
  cases c with
  | own q =>
    dsimp only at hok ⊢
    cases hg:Ah fet q with
    | none=>rw[hg]at hok;have:=hok false (by simp);cases this
    | some x =>
      cases x with
      | box _=>rw[hg]at hok;have:=hok false (by simp);cases this
      | mp _=>rw[hg]at hok;have:=hok false (by simp);cases this
      | arr e f l =>
        rw[hg]at hok
        dsimp only at hok ⊢
        have h1:=hf q _ hg
        refine⟨fun p hp=> ?_,fun hp hv=> ?_⟩
        ·simp at hp;subst hp;exact⟨e,f,l,h1,rfl⟩
        ·have h2:=hc.2
         rw[h1]at h2
         simp only[Option.map_some,Obj.shp]at h2
         rw[h2]
         exact AeM hok (hv _ List.mem_cons_self e l rfl)
  | Dh =>
    have hv:=hc.Dh
    cases k with
    | sl e sz=>subst hv;exact⟨triv,fun _ _=>.nil _⟩
    | sln e sz=>subst hv;exact⟨triv,fun _ _=>.sln (.nil _) fun _=>rfl⟩
    | _=>have:=hok false (by simp);cases this
  | bool _=>exact⟨triv,fun hp _=>Ai.Bf hp hc⟩
  | int _ _=>exact⟨triv,fun hp _=>Ai.Bf hp hc⟩
  | str _=>exact⟨triv,fun hp _=>Ai.Bf hp hc⟩
  | sl _=>exact⟨triv,fun hp _=>AeM hok (Ai.Bf hp hc)⟩
  | sln _=>exact⟨triv,fun hp _=>AmK k (Ai.Bf hp hc)⟩
  | Dk=>exact⟨triv,fun hp _=>Ai.Bf hp hc⟩
  | fn _=>exact⟨triv,fun hp _=>Ai.Bf hp hc⟩
  | _=>have:=hok false (by simp);cases this
theorem Frz.append {Aa:List (Nat×Obj)} {U V:List (Nat×Obj)} (h:Frz Aa U) (h':Frz Aa V):Frz Aa (U++V):=fun p hp=>(List.mem_append.1 hp).elim (h p) (h' p)
theorem Wn {fet:Fet} (hf:H8 st.Aa fet): ∀(ks:List CK) (cs:List A) (f:Nat->Value),(∀ j,j<cs.length->AL O st.Aa m w (f j) (cs.getD j .undef))->Ar (CB fet ks cs).1 ->
    (CB fet ks cs).2.1.length=ks.length/\cs.length=ks.length/\Frz st.Aa (CB fet ks cs).2.2/\ ∀ {O':Own},Fe O w O' w->(∀ p∈(CB fet ks cs).2.2,∀ e l,p.2= .arr e true l->Ai O' w (m p.1) (.sl l)) ->
      ∀ j,j<ks.length->Ai O' w (f j) ((CB fet ks cs).2.1.getD j .undef):=by
  intro ks
  induction ks with
  | nil =>
    intro cs f _ hok
    cases cs with
    | nil=>exact⟨rfl,rfl,fun p hp=>by simp [CB]at hp,fun _ _ j hj=>by simp at hj⟩
    | cons _ _=>have:=hok false (by simp [CB]);cases this
  | cons k ks ih =>
    intro cs f h hok
    cases cs with
    | nil=>have:=hok false (by simp [CB]);cases this
    | cons c cs =>
      simp only[CB]at hok ⊢
      obtain⟨hok1,hok2⟩:=hok.append
      obtain⟨h1,h2⟩:=AeN hf (h 0 (by simp)) hok1
      obtain⟨h3,h4,h5,h6⟩:=ih cs (fun j=>f (j+1)) (fun j hj=>by simpa using h (j+1) (by simpa using hj)) hok2
      refine⟨by simp [h3],by simp [h4],h1.append h5,fun hp hv j hj=> ?_⟩
      cases j with
      | zero=>exact h2 hp (fun p hp=>hv p (List.mem_append_left _ hp))
      | succ j=>simpa using h6 hp (fun p hp=>hv p (List.mem_append_right _ hp)) j (by simpa using hj)
end
end Go.Proofs.YtadefjgbcapakaaGreatDoor.Vm
namespace Go.Proofs.YtadefjgbcapakaaGreatDoor.Vm
open Classical
section
variable {P:Program} {C:Ctx} {V0:Nat->Value} {O0 O:Own} {w0 w:World} {m:Nat->Value} {st:St} {a:Act} {o:Oper}
def Held (O:Own) (w:World) (cur:Array Value) (sz:Nat) (es:List (List A)):Prop :=
  (∀ x∈es,x.length=sz)/\ ∀ i j,i<es.length->j<sz-> ∃ u,cur[i*sz+j]? =some u/\Ai O w u ((es.getD i []).getD j .undef)
theorem oJ (hS:Sim V0 O0 w0 O m st a w) {w2:World} (hM:Moves O (fun _=>False) w w2) {d:Tmp} {e cap:Nat} {frz:Bool} {l:Sl} {cur:Array Value} {del:List Nat} (hnew:Fg w2 w.heap.size cur e)
    (hcap:l.es.length<=cap) (hmax:cap<=maxLen) (hcur:cur.size=cap*l.sz) (hh:Held O w cur l.sz l.es) (hfresh:He st (b2 d)) :
    ∃ O' m',Sim V0 O0 w0 O' m' {tmps:=st.tmps.set d (.own (b2 d)),Aa:=Ap (Bj st.Aa del) [(b2 d,.arr e frz l)]} (a.put (some d) (.slice (some (at' w.heap.size 0)) l.es.length cap)) w2:=by
  let id:=b2 d
  let O':Own:=fun b k=>if b=w.heap.size then(if frz=true/\k<l.es.length*l.sz then none else some id)else O b k
  let m':Nat->Value:=fun i=>if i=id then .slice (some (at' w.heap.size 0)) l.es.length cap else m i
  have hlt: ∀ {b k},b<w.heap.size->O' b k=O b k:=fun hb=>if_neg (Nat.ne_of_lt hb)
  have hP:Passes O O' (fun _=>False) w.heap.size:=⟨fun b k hb h=>by rw[hlt hb];exact h,fun b k q hb h _=>by rw[hlt hb];exact h⟩
  have hpr:=hM.Bf hP
  have hget: ∀ i y,Ah (Ap (Bj st.Aa del) [(id,.arr e frz l)]) i=some y->(i=id/\y= .arr e frz l)\/(i≠id/\Ah st.Aa i=some y):=by
    intro i y hy
    simp only[Ap]at hy
    rw[Bl]at hy
    by_cases hi:i=id
    ·rw[if_pos hi]at hy;injection hy with hy;exact .inl ⟨hi,hy.symm⟩
    ·rw[if_neg hi,KA]at hy
     split at hy
     ·cases hy
     ·exact .inr ⟨hi,hy⟩
  have hE:Ip st.Aa m (Ap (Bj st.Aa del) [(id,.arr e frz l)]) m' (fun i=>i=id):=by
    intro i y hy
    rcases hget i y hy with ⟨h1,_⟩ | ⟨h1,h2⟩
    ·exact .inl h1
    ·exact .inr ⟨y,h2,rfl,if_neg h1⟩
  refine⟨O',m',hS.next (st':= {tmps:=st.tmps.set d (.own (b2 d)),Aa:=Ap (Bj st.Aa del) [(id,.arr e frz l)]}) (x:=.own id) (T:=fun _=>False) (Nw:=fun i=>i=id) hM hP (fun b k hb h=>by rw[hlt hb]at h;exact h) hE (fun n hn=>by rw[hn];exact hfresh.both) (fun _ h=>h.elim) (fun i y hy=> ?_) rfl (fun _=> ?_)⟩
  ·rcases hget i y hy with ⟨h1,h2⟩ | ⟨h1,h2⟩
   ·right
    subst h1;subst h2
    refine⟨⟨hh.1,.inr ⟨trivial,w.heap.size,cap,cur,if_pos rfl,hnew,hcap,hmax,hcur,fun i j hi hj=> ?_,fun k hk hge=> ?_,fun k hk=> ?_⟩⟩,hfresh.ne⟩
    ·obtain⟨u,h3,h4⟩:=hh.2 i j hi hj
     exact⟨u,h3,h4.Bf hpr⟩
    ·show(if _ then(if _ then _ else _)else _)=_
     rw[if_pos rfl,if_neg (by omega)]
    ·show(if _ then(if _ then _ else _)else _)=_
     rw[if_pos rfl]
     cases frz
     ·simp
     ·simp [hk]
   ·exact .inl ⟨fun h=>h,h2,if_neg h1⟩
  ·refine⟨rfl,?_⟩
   have:Ah (Ap (Bj st.Aa del) [(id,.arr e frz l)]) id=some (.arr e frz l):=by simp only[Ap];rw[Bl,if_pos rfl]
   show match (Ah (Ap (Bj st.Aa del) [(id,.arr e frz l)]) id).map Obj.shp with | some (.arr _ _)=>_ | some .mp=>_ | _=>True
   rw[this]
   exact(if_pos rfl:m' id=_).symm
theorem Pq (hS:Sim V0 O0 w0 O m st a w) {w1:World} (hM1:Moves O (fun _=>False) w w1) (hsz1:w1.heap.size=w.heap.size) {d:Tmp} {e cap:Nat} {frz:Bool} {l:Sl} {cur:Array Value} {del:List Nat}
    (hcap:l.es.length<=cap) (hmax:cap<=maxLen) (hcur:cur.size=cap*l.sz) (hh:Held O w cur l.sz l.es) (hfresh:He st (b2 d)) :
    ∃ O' m',Sim V0 O0 w0 O' m' {tmps:=st.tmps.set d (.own (b2 d)),Aa:=Ap (Bj st.Aa del) [(b2 d,.arr e frz l)]} (a.put (some d) (.slice (some (at' w.heap.size 0)) l.es.length cap)) (w1.alloc (.cells cur e)):=by
  exact oJ hS (hM1.then (by rw[<- hsz1]at *;exact Moves.push _)) ⟨_,by rw[<- hsz1];exact Zp _ _,.inl rfl⟩ hcap hmax hcur hh hfresh
theorem Z7 (hS:Sim V0 O0 w0 O m st a w) {d:Tmp} {e:Nat} {frz:Bool} {t:Ty} {del:List Nat} {id:Nat} (hfresh:He st id) :
    ∃ O' m',Sim V0 O0 w0 O' m' {tmps:=st.tmps.set d (.own id),Aa:=Ap (Bj st.Aa del) [(id,.arr e frz ⟨t,[]⟩)]} (a.put (some d) (.slice none 0 0)) w:=by
  let m':Nat->Value:=fun i=>if i=id then .slice none 0 0 else m i
  have hget: ∀ i y,Ah (Ap (Bj st.Aa del) [(id,.arr e frz ⟨t,[]⟩)]) i=some y->(i=id/\y= .arr e frz ⟨t,[]⟩)\/(i≠id/\Ah st.Aa i=some y):=by
    intro i y hy
    simp only[Ap]at hy
    rw[Bl]at hy
    by_cases hi:i=id
    ·rw[if_pos hi]at hy;injection hy with hy;exact .inl ⟨hi,hy.symm⟩
    ·rw[if_neg hi,KA]at hy
     split at hy
     ·cases hy
     ·exact .inr ⟨hi,hy⟩
  have hE:Ip st.Aa m (Ap (Bj st.Aa del) [(id,.arr e frz ⟨t,[]⟩)]) m' (fun i=>i=id):=by
    intro i y hy
    rcases hget i y hy with ⟨h1,_⟩ | ⟨h1,h2⟩
    ·exact .inl h1
    ·exact .inr ⟨y,h2,rfl,if_neg h1⟩
  refine⟨O,m',hS.next (st':= {tmps:=st.tmps.set d (.own id),Aa:=Ap (Bj st.Aa del) [(id,.arr e frz ⟨t,[]⟩)]}) (x:=.own id) (T:=fun _=>False) (Nw:=fun i=>i=id) (Moves.refl _ _ _) ⟨fun _ _ _ h=>h,fun _ _ _ _ h _=>h⟩ (fun b k hb h=>h) hE (fun n hn=>by rw[hn];exact hfresh.both) (fun _ h=>h.elim) (fun i y hy=> ?_) rfl (fun _=> ?_)⟩
  ·rcases hget i y hy with ⟨h1,h2⟩ | ⟨h1,h2⟩
   ·right
    subst h1;subst h2
    exact⟨⟨by simp [Sl.es],.inl ⟨trivial,rfl,if_pos rfl⟩⟩,hfresh.ne⟩
   ·exact .inl ⟨fun h=>h,h2,if_neg h1⟩
  ·refine⟨rfl,?_⟩
   have:Ah (Ap (Bj st.Aa del) [(id,.arr e frz ⟨t,[]⟩)]) id=some (.arr e frz ⟨t,[]⟩):=by simp only[Ap];rw[Bl,if_pos rfl]
   show match (Ah (Ap (Bj st.Aa del) [(id,.arr e frz ⟨t,[]⟩)]) id).map Obj.shp with | some (.arr _ _)=>_ | some .mp=>_ | _=>True
   rw[this]
   exact(if_pos rfl:m' id=_).symm
theorem Af7 (hS:Sim V0 O0 w0 O m st a w) {d:Tmp} {q e cap g:Nat} {frz:Bool} {l l':Sl} {ns:List (List A)} {cur:Array Value} {news:List Value}
    (hq:Ah st.Aa q=some (.arr e frz l)) (hm:m q= .slice (some (at' g 0)) l.es.length cap) (hg:Fg w g cur e) (hcap:l.es.length+ns.length<=cap) (hle:l'.es=l.es++ns) (hls:l'.sz=l.sz)
    (hl:news.length=ns.length*l.sz) (hns: ∀ x∈ns,x.length=l.sz) (hnv: ∀ i j,i<ns.length->j<l.sz->Ai O w (news.getD (i*l.sz+j) undef) ((ns.getD i []).getD j .undef)) (hfresh:He st (b2 d)) :
    ∃ O' m',Sim V0 O0 w0 O' m' {tmps:=st.tmps.set d (.own (b2 d)),Aa:=Ap (Bj st.Aa [q]) [(b2 d,.arr e frz l')]} (a.put (some d) (.slice (some (at' g 0)) (l.es.length+ns.length) cap)) (w.setCells g (l.es.length*l.sz) news):=by
  let id:=b2 d
  have hidq:id≠q:=fun h=>by
    have:=hfresh.2
    rw[show b2 d=id from rfl,h,hq]at this;cases this
  obtain⟨hsz,hr⟩:=hS.Aa q _ hq
  obtain⟨g',cap',cur',h2,h3,h4,h5,h6,h7,h8,h9⟩: ∃ g' cap' cur',m q= .slice (some (at' g' 0)) l.es.length cap'/\Fg w g' cur' e/\l.es.length<=cap'/\cap'<=maxLen/\cur'.size=cap'*l.sz /\
      (∀ i j,i<l.es.length->j<l.sz-> ∃ u,cur'[i*l.sz+j]? =some u/\Ai O w u ((l.es.getD i []).getD j .undef))/\(∀ k,k<cur'.size->l.es.length*l.sz<=k->O g' k=some q)/\(∀ k,k<l.es.length*l.sz->O g' k=if frz then none else some q):=by
    rcases hr with ⟨_,_,h⟩ | ⟨_,h⟩
    ·rw[hm]at h;cases h
    ·exact h
  rw[hm]at h2
  injection h2 with h2 _ hcc;injection h2 with h2;injection h2 with h2
  subst h2;subst hcc
  obtain⟨h3,_⟩:=hg.inj h3
  subst h3
  obtain⟨fr,hg,hfr0⟩:=hg
  have hmul:(l.es.length+ns.length)*l.sz<=cap*l.sz:=Nat.mul_le_mul_right _ hcap
  rw[Nat.add_mul]at hmul
  obtain⟨c',g1,g2,g3,g4,g5,g6,g7,g8⟩:=Sj g news (l.es.length*l.sz) w hg (by rw[hl,h6];exact hmul)
  let w':=w.setCells g (l.es.length*l.sz) news
  let O':Own:=fun b k=>if b=g/\k<cur.size then(if frz=true/\k<(l.es.length+ns.length)*l.sz then none else some id)else O b k
  let m':Nat->Value:=fun i=>if i=id then .slice (some (at' g 0)) (l.es.length+ns.length) cap else m i
  have hsame: ∀ k,(k<l.es.length*l.sz\/(l.es.length+ns.length)*l.sz<=k)->c'[k]? =cur[k]? :=by
    intro k hk
    rw[Nat.add_mul]at hk
    by_cases hks:k<cur.size
    ·have:=g3 k
     rw[if_neg (by rw[hl];omega)]at this
     rw[getD_eq (by omega),getD_eq hks,this]
    ·rw[Array.getElem?_eq_none (by omega),Array.getElem?_eq_none (by omega)]
  have hM:Moves O (fun i=>i=q) w w':=by
    refine Moves.row g6 g7 g8 g5 hg g1 g4 g2 (fun k hk=>hsame k ?_) ?_
    ·rcases Nat.lt_or_ge k (l.es.length*l.sz)with h | h
     ·exact .inl h
     ·right
      rcases Nat.lt_or_ge k cur.size with hks | hks
      ·exact absurd rfl (hk q (h8 k hks h))
      ·rw[Nat.add_mul];omega
    ·by_cases hn:ns.length*l.sz=0
     ·right
      have:news=[]:=List.eq_nil_of_length_eq_zero (by omega)
      apply Array.ext_getElem?
      intro k
      refine hsame k ?_
      rw[Nat.add_mul,hn];omega
     ·left
      refine⟨l.es.length*l.sz,q,by omega,h8 _ (by omega) (Nat.le_refl _),rfl⟩
  have hg':g<w.heap.size:=(Array.getElem?_eq_some_iff.1 hg).1
  have own_g: ∀ k,k<cur.size->O g k=none\/O g k=some q:=by
    intro k hk
    rcases Nat.lt_or_ge k (l.es.length*l.sz)with h | h
    ·rw[h9 k h];cases frz<;>simp
    ·exact .inr (h8 k hk h)
  have hP:Passes O O' (fun i=>i=q) w.heap.size:=by
    refine⟨fun b k _ h=> ?_,fun b k r _ h hne=> ?_⟩
    ·show(if _ then(if _ then _ else _)else _)=_
     by_cases hc:b=g/\k<cur.size
     ·rw[if_pos hc]
      obtain⟨rfl,hk⟩:=hc
      rcases Nat.lt_or_ge k (l.es.length*l.sz)with h' | h'
      ·have:=h9 k h'
       rw[h]at this
       cases frz
       ·simp at this
       ·rw[if_pos ⟨rfl,by rw[Nat.add_mul];omega⟩]
      ·rw[h8 k hk h']at h;cases h
     ·rw[if_neg hc];exact h
    ·show(if _ then(if _ then _ else _)else _)=_
     by_cases hc:b=g/\k<cur.size
     ·obtain⟨rfl,hk⟩:=hc
      rcases own_g k hk with h' | h'
      ·rw[h]at h';cases h'
      ·rw[h]at h';injection h' with h';exact absurd h' hne
     ·rw[if_neg hc];exact h
  have hpr:=hM.Bf hP
  have hget: ∀ i y,Ah (Ap (Bj st.Aa [q]) [(id,.arr e frz l')]) i=some y->(i=id/\y= .arr e frz l')\/(i≠id/\i≠q/\Ah st.Aa i=some y):=by
    intro i y hy
    simp only[Ap]at hy
    rw[Bl]at hy
    by_cases hi:i=id
    ·rw[if_pos hi]at hy;injection hy with hy;exact .inl ⟨hi,hy.symm⟩
    ·rw[if_neg hi,KA]at hy
     split at hy
     ·cases hy
     ·rename_i hnd;exact .inr ⟨hi,by simpa using hnd,hy⟩
  have hE:Ip st.Aa m (Ap (Bj st.Aa [q]) [(id,.arr e frz l')]) m' (fun i=>i=id):=by
    intro i y hy
    rcases hget i y hy with ⟨h1,_⟩ | ⟨h1,_,h2⟩
    ·exact .inl h1
    ·exact .inr ⟨y,h2,rfl,if_neg h1⟩
  refine⟨O',m',hS.next (st':= {tmps:=st.tmps.set d (.own (b2 d)),Aa:=Ap (Bj st.Aa [q]) [(id,.arr e frz l')]}) (x:=.own id) (T:=fun i=>i=q) (Nw:=fun i=>i=id) hM hP (fun b k hb h=> ?_) hE (fun n hn=>by rw[hn];exact hfresh.both) (fun o ho=>by rw[ho,hq];rfl) (fun i y hy=> ?_) rfl (fun _=> ?_)⟩
  ·have h':(if b=g/\k<cur.size then(if frz=true/\k<(l.es.length+ns.length)*l.sz then none else some id)else O b k)≠none:=h
   by_cases hc:b=g/\k<cur.size
   ·rw[if_pos hc]at h'
    obtain⟨rfl,hk⟩:=hc
    rcases Nat.lt_or_ge k (l.es.length*l.sz)with hlt | hge
    ·rw[h9 k hlt]
     cases frz
     ·simp
     ·exfalso;refine h' ?_;rw[if_pos ⟨rfl,by rw[Nat.add_mul];omega⟩]
    ·rw[h8 k hk hge];simp
   ·rw[if_neg hc]at h';exact h'
  ·rcases hget i y hy with ⟨h1,h2⟩ | ⟨h1,hiq,h2⟩
   ·right
    subst h1;subst h2
    refine⟨?_,hfresh.ne⟩
    simp only[Dx]
    rw[hle,hls]
    refine⟨fun x hx=>(List.mem_append.1 hx).elim (hsz x) (hns x),.inr ⟨trivial,g,cap,c',by rw[List.length_append];exact if_pos rfl,⟨fr,g1,by rw[g2];exact hfr0⟩,by rw[List.length_append];exact hcap,h5,by rw[g2];exact h6,fun i j hi hj=> ?_,fun k hk hge=> ?_,fun k hk=> ?_⟩⟩
    ·rw[List.length_append]at hi
     by_cases hil:i<l.es.length
     ·obtain⟨u,h10,h11⟩:=h7 i j hil hj
      have hlt:i*l.sz+j<l.es.length*l.sz:=by
        have:(i+1)*l.sz<=l.es.length*l.sz:=Nat.mul_le_mul_right _ hil
        rw[Nat.add_mul]at this;omega
      refine⟨u,by rw[hsame _ (.inl hlt)];exact h10,?_⟩
      have e1:(l.es++ns).getD i []=l.es.getD i []:=by
        simp only[List.getD_eq_getElem?_getD];rw[List.getElem?_append_left hil]
      rw[e1];exact h11.Bf hpr
     ·obtain⟨i',rfl⟩: ∃ i',i=l.es.length+i':=⟨i - l.es.length,by omega⟩
      have hi':i'<ns.length:=by omega
      have hlt:i'*l.sz+j<ns.length*l.sz:=by
        have:(i'+1)*l.sz<=ns.length*l.sz:=Nat.mul_le_mul_right _ hi'
        rw[Nat.add_mul]at this;omega
      have hidx:(l.es.length+i')*l.sz+j=l.es.length*l.sz+(i'*l.sz+j):=by rw[Nat.add_mul];omega
      have hsz':l.es.length*l.sz+(i'*l.sz+j)<c'.size:=by rw[g2,h6];omega
      refine⟨news.getD (i'*l.sz+j) undef,?_,?_⟩
      ·rw[hidx,getD_eq hsz',g3,if_pos ⟨by omega,by rw[hl];omega⟩]
       rw[show l.es.length*l.sz+(i'*l.sz+j) - l.es.length*l.sz=i'*l.sz+j from by omega]
      ·have e1:(l.es++ns).getD (l.es.length+i') []=ns.getD i' []:=by
         simp only[List.getD_eq_getElem?_getD];rw[List.getElem?_append_right (by omega),Nat.add_sub_cancel_left]
       rw[e1];exact(hnv i' j hi' hj).Bf hpr
    ·rw[g2]at hk
     rw[List.length_append]at hge
     show(if _ then(if _ then _ else _)else _)=_
     rw[if_pos ⟨rfl,hk⟩,if_neg (by omega)]
    ·rw[List.length_append]at hk
     show(if _ then(if _ then _ else _)else _)=_
     rw[if_pos ⟨rfl,by rw[Nat.add_mul]at hk;omega⟩]
     cases frz
     ·simp
     ·simp [hk]
   ·exact .inl ⟨hiq,h2,if_neg h1⟩
  ·refine⟨rfl,?_⟩
   have:Ah (Ap (Bj st.Aa [q]) [(id,.arr e frz l')]) id=some (.arr e frz l'):=by simp only[Ap];rw[Bl,if_pos rfl]
   show match (Ah (Ap (Bj st.Aa [q]) [(id,.arr e frz l')]) id).map Obj.shp with | some (.arr _ _)=>_ | some .mp=>_ | _=>True
   rw[this]
   exact(if_pos rfl:m' id=_).symm
theorem Ahr (hS:Sim V0 O0 w0 O m st a w) {d:Tmp} {q e cap g n:Nat} {l l':Sl} {cur:Array Value}
    (hq:Ah st.Aa q=some (.arr e false l)) (hm:m q= .slice (some (at' g 0)) l.es.length cap) (hg:Fg w g cur e) (hn:n<=l.es.length) (hle:l'.es=l.es.take n) (hls:l'.sz=l.sz) (hfresh:He st (b2 d)) :
    ∃ O' m',Sim V0 O0 w0 O' m' {tmps:=st.tmps.set d (.own (b2 d)),Aa:=Ap (Bj st.Aa [q]) [(b2 d,.arr e false l')]} (a.put (some d) (.slice (some (at' g 0)) n cap)) w:=by
  let id:=b2 d
  obtain⟨hsz,hr⟩:=hS.Aa q _ hq
  obtain⟨g',cap',cur',h2,h3,h4,h5,h6,h7,h8,h9⟩: ∃ g' cap' cur',m q= .slice (some (at' g' 0)) l.es.length cap'/\Fg w g' cur' e/\l.es.length<=cap'/\cap'<=maxLen/\cur'.size=cap'*l.sz /\
      (∀ i j,i<l.es.length->j<l.sz-> ∃ u,cur'[i*l.sz+j]? =some u/\Ai O w u ((l.es.getD i []).getD j .undef))/\(∀ k,k<cur'.size->l.es.length*l.sz<=k->O g' k=some q)/\(∀ k,k<l.es.length*l.sz->O g' k=some q):=by
    rcases hr with ⟨_,_,h⟩ | ⟨_,h⟩
    ·rw[hm]at h;cases h
    ·simpa using h
  rw[hm]at h2
  injection h2 with h2 _ hcc;injection h2 with h2;injection h2 with h2
  subst h2;subst hcc
  obtain⟨h3,_⟩:=hg.inj h3
  subst h3
  have own_g: ∀ k,k<cur.size->O g k=some q:=by
    intro k hk
    rcases Nat.lt_or_ge k (l.es.length*l.sz)with h | h
    ·exact h9 k h
    ·exact h8 k hk h
  let O':Own:=fun b k=>if b=g/\k<cur.size then some id else O b k
  let m':Nat->Value:=fun i=>if i=id then .slice (some (at' g 0)) n cap else m i
  have hM:Moves O (fun i=>i=q) w w:=Moves.refl _ _ _
  have hP:Passes O O' (fun i=>i=q) w.heap.size:=by
    refine⟨fun b k _ h=> ?_,fun b k r _ h hne=> ?_⟩
    ·show(if _ then _ else _)=_
     by_cases hc:b=g/\k<cur.size
     ·obtain⟨rfl,hk⟩:=hc
      rw[own_g k hk]at h;cases h
     ·rw[if_neg hc];exact h
    ·show(if _ then _ else _)=_
     by_cases hc:b=g/\k<cur.size
     ·obtain⟨rfl,hk⟩:=hc
      rw[own_g k hk]at h;injection h with h;exact absurd h.symm hne
     ·rw[if_neg hc];exact h
  have hpr:=hM.Bf hP
  have hget: ∀ i y,Ah (Ap (Bj st.Aa [q]) [(id,.arr e false l')]) i=some y->(i=id/\y= .arr e false l')\/(i≠id/\i≠q/\Ah st.Aa i=some y):=by
    intro i y hy
    simp only[Ap]at hy
    rw[Bl]at hy
    by_cases hi:i=id
    ·rw[if_pos hi]at hy;injection hy with hy;exact .inl ⟨hi,hy.symm⟩
    ·rw[if_neg hi,KA]at hy
     split at hy
     ·cases hy
     ·rename_i hnd;exact .inr ⟨hi,by simpa using hnd,hy⟩
  have hE:Ip st.Aa m (Ap (Bj st.Aa [q]) [(id,.arr e false l')]) m' (fun i=>i=id):=by
    intro i y hy
    rcases hget i y hy with ⟨h1,_⟩ | ⟨h1,_,h2⟩
    ·exact .inl h1
    ·exact .inr ⟨y,h2,rfl,if_neg h1⟩
  have hlen:l'.es.length=n:=by rw[hle,List.length_take];omega
  have hmul:n*l.sz<=l.es.length*l.sz:=Nat.mul_le_mul_right _ hn
  have hmul2:l.es.length*l.sz<=cap*l.sz:=Nat.mul_le_mul_right _ h4
  refine⟨O',m',hS.next (st':= {tmps:=st.tmps.set d (.own (b2 d)),Aa:=Ap (Bj st.Aa [q]) [(id,.arr e false l')]}) (x:=.own id) (T:=fun i=>i=q) (Nw:=fun i=>i=id) hM hP (fun b k hb h=> ?_) hE (fun n hn=>by rw[hn];exact hfresh.both) (fun o ho=>by rw[ho,hq];rfl) (fun i y hy=> ?_) rfl (fun _=> ?_)⟩
  ·have h':(if b=g/\k<cur.size then some id else O b k)≠none:=h
   by_cases hc:b=g/\k<cur.size
   ·obtain⟨rfl,hk⟩:=hc
    rw[own_g k hk];simp
   ·rw[if_neg hc]at h';exact h'
  ·rcases hget i y hy with ⟨h1,h2⟩ | ⟨h1,hiq,h2⟩
   ·right
    subst h1;subst h2
    refine⟨?_,hfresh.ne⟩
    simp only[Dx]
    rw[hls,hlen]
    refine⟨fun x hx=>hsz x (by rw[hle]at hx;exact List.mem_of_mem_take hx),.inr ⟨trivial,g,cap,cur,if_pos rfl,hg,by omega,h5,h6,fun i j hi hj=> ?_,fun k hk hge=>if_pos ⟨rfl,hk⟩,fun k hk=> ?_⟩⟩
    ·obtain⟨u,h10,h11⟩:=h7 i j (by omega) hj
     refine⟨u,h10,?_⟩
     have e1:l'.es.getD i []=l.es.getD i []:=by
       rw[hle]
       simp only[List.getD_eq_getElem?_getD,List.getElem?_take]
       rw[if_pos hi]
     rw[e1];exact h11.Bf hpr
    ·show(if _ then _ else _)=_
     rw[if_pos ⟨rfl,by omega⟩];rfl
   ·exact .inl ⟨hiq,h2,if_neg h1⟩
  ·refine⟨rfl,?_⟩
   have:Ah (Ap (Bj st.Aa [q]) [(id,.arr e false l')]) id=some (.arr e false l'):=by simp only[Ap];rw[Bl,if_pos rfl]
   show match (Ah (Ap (Bj st.Aa [q]) [(id,.arr e false l')]) id).map Obj.shp with | some (.arr _ _)=>_ | some .mp=>_ | _=>True
   rw[this]
   exact(if_pos rfl:m' id=_).symm
end
end Go.Proofs.YtadefjgbcapakaaGreatDoor.Vm
namespace Go.Proofs.YtadefjgbcapakaaGreatDoor.Vm
open Classical
section
variable {P:Program} {C:Ctx} {V0:Nat->Value} {O0 O:Own} {w0 w:World} {m:Nat->Value} {st:St} {a:Act} {o:Oper}
theorem Qg {δ :Dl} {d:Tmp} (hd:o.dst=some d):apply st o δ = {tmps:=st.tmps.set d δ.val,Aa:=Ap (Bj (Ap st.Aa δ.upd) δ.del) δ.new}:=by
  unfold apply;rw[hd];rfl
theorem Ri {t:Nat} {k:Nat->TI->Dl} (hok:Ar (elemOf C t k).ok): ∃ ti e te,C.T t=some ti/\ti.d= .slice e/\C.T e=some te/\elemOf C t k=k e te:=by
  unfold elemOf at *
  obtain⟨ti,ht,he⟩:=Bz hok
  rw[he]at hok ⊢;clear he
  obtain⟨e,hel,he⟩:=Ba hok
  rw[he]at hok ⊢;clear he
  obtain⟨te,hte,he⟩:=Bz hok
  exact⟨ti,e,te,ht,Md hel,hte,he⟩
theorem Akf {O':Own} {w':World} {fet:Fet} {te:TI} {ty:Ty} (hf:H8 st.Aa fet) (hp:Fe O w O' w) (hw:w'=w): ∀(xs:List (Nat×A)) (ps:List (Nat×Value)) (vs:Array Value) (zs:List ty.Val),
    xs.length=ps.length->(∀(j:Nat) (x:Nat×A) (p:Nat×Value),xs[j]? =some x->ps[j]? =some p->p.1=x.1/\Au O st.Aa m w p.2 x.2/\x.2.isVal=true) ->
    vs.size=zs.length*te.cs.length->Held O' w' vs te.cs.length (zs.map ty.cells)->Ar (EZ fet te ty xs zs).1 ->
    (∀ p∈(EZ fet te ty xs zs).2.2,∀ e l,p.2= .arr e true l->Ai O' w (m p.1) (.sl l)) ->
    (EZ fet te ty xs zs).2.1.length=zs.length/\ ∃ vs',Instr.fill (fun i=>some (i*te.cs.length,te.cs.length)) vs ps=some vs'/\vs'.size=vs.size/\Held O' w' vs' te.cs.length ((EZ fet te ty xs zs).2.1.map ty.cells):=by
  subst hw
  intro xs
  induction xs with
  | nil =>
    intro ps vs zs hl _ hsz hh _ _
    cases ps with
    | nil=>exact⟨rfl,vs,rfl,rfl,hh⟩
    | cons _ _=>simp at hl
  | cons x xs ih =>
    intro ps vs zs hl hr hsz hh hok hU
    cases ps with
    | nil=>simp at hl
    | cons p ps =>
      obtain⟨i,x⟩:=x
      obtain⟨i',v⟩:=p
      obtain⟨h1,h2,hval⟩:=hr 0 (i,x) (i',v) rfl rfl
      dsimp only at h1 h2 hval
      subst h1
      simp only[EZ]at hok hU ⊢
      obtain⟨hok1,hok2⟩:=hok.append
      obtain⟨hok0,hok1⟩:=hok1.append
      obtain⟨hmk,hok1⟩:=hok1.cons
      have hmk:=Ty.Q7 _ _ hmk
      have hil':i'<zs.length:=by simpa [Nat.blt_eq]using hok1.cons.1
      have hset:(zs.set i' (ty.mk (CB fet te.cs x.cells).2.1).2).map ty.cells=(zs.map ty.cells).set i' (CB fet te.cs x.cells).2.1:=by rw[List.map_set,hmk]
      have hzl:zs.length=(zs.map ty.cells).length:=by simp
      rw[hzl]at hsz hil'
      generalize hes:zs.map ty.cells=es at *
      have hil:i'<es.length:=hil'
      have hcs:=h2.cells hval
      obtain⟨g1,g2,g3,g4⟩:=Wn hf te.cs x.cells (fun j=>v.cells.getD j undef) (fun j hj=>hcs.2 j hj) hok0
      have g5:=g4 hp (fun p hp'=>hU p (List.mem_append_left _ hp'))
      have hvsz:v.cells.size=te.cs.length:=by rw[hcs.1,g2]
      have hle:i'*te.cs.length+te.cs.length<=vs.size:=by
        rw[hsz]
        have:(i'+1)*te.cs.length<=es.length*te.cs.length:=Nat.mul_le_mul_right _ hil
        rw[Nat.add_mul]at this;omega
      have e0:v.cells.zipIdx.foldl (fun cs (c,j)=>cs.setIfInBounds (i'*te.cs.length+j) c) vs=(v.cells.toList.zipIdx 0).foldl (fun cs (p:Value×Nat)=>cs.setIfInBounds (i'*te.cs.length+p.2) p.1) vs:=by
        rw[<- Array.foldl_toList];simp
      have hl0:i'*te.cs.length+0+v.cells.toList.length<=vs.size:=by rw[Array.length_toList,hvsz];omega
      obtain⟨k1,_⟩:=Me v.cells.toList 0 (i'*te.cs.length) vs 0 hl0
      have k2:=fun j=>(Me v.cells.toList 0 (i'*te.cs.length) vs j hl0).2
      rw[<- e0]at k1
      have hh':Held O' w' (v.cells.zipIdx.foldl (fun cs (c,j)=>cs.setIfInBounds (i'*te.cs.length+j) c) vs) te.cs.length (es.set i' (CB fet te.cs x.cells).2.1):=by
        refine⟨fun y hy=> ?_,fun r j hrl hj=> ?_⟩
        ·rcases List.mem_or_eq_of_mem_set hy with h | h
         ·exact hh.1 y h
         ·rw[h,g1]
        ·rw[List.length_set]at hrl
         have hlt:r*te.cs.length+j<vs.size:=by
           rw[hsz]
           have:(r+1)*te.cs.length<=es.length*te.cs.length:=Nat.mul_le_mul_right _ hrl
           rw[Nat.add_mul]at this;omega
         have hk:=k2 (r*te.cs.length+j)
         rw[<- e0]at hk
         by_cases hri:r=i'
         ·subst hri
          rw[if_pos (by rw[Array.length_toList,hvsz];omega)]at hk
          have e1:(es.set r (CB fet te.cs x.cells).2.1).getD r []=(CB fet te.cs x.cells).2.1:=by
            simp [List.getD_eq_getElem?_getD,hil]
          refine⟨_,getD_eq (by omega),?_⟩
          rw[hk,e1,show r*te.cs.length+j - (r*te.cs.length+0)=j from by omega]
          have e2:v.cells.toList.getD j undef=v.cells.getD j undef:=by
            rw[Array.getD_eq_getD_getElem?,List.getD_eq_getElem?_getD,Array.getElem?_toList]
          rw[e2];exact g5 j hj
         ·have hno: ¬(i'*te.cs.length+0<=r*te.cs.length+j/\r*te.cs.length+j<i'*te.cs.length+0+v.cells.toList.length):=by
            rw[Array.length_toList,hvsz]
            rintro ⟨ha,hb⟩
            rcases Nat.lt_or_gt_of_ne hri with h | h
            ·have:(r+1)*te.cs.length<=i'*te.cs.length:=Nat.mul_le_mul_right _ h
             rw[Nat.add_mul]at this;omega
            ·have:(i'+1)*te.cs.length<=r*te.cs.length:=Nat.mul_le_mul_right _ h
             rw[Nat.add_mul]at this;omega
          rw[if_neg hno]at hk
          obtain⟨u,h3,h4⟩:=hh.2 r j hrl hj
          refine⟨u,?_,?_⟩
          ·rw[getD_eq (by omega),hk,<- getD_eq hlt];exact h3
          ·have e1:(es.set i' (CB fet te.cs x.cells).2.1).getD r []=es.getD r []:=by
             simp only[List.getD_eq_getElem?_getD,List.getElem?_set]
             rw[if_neg (fun h=>hri h.symm)]
           rw[e1];exact h4
      obtain⟨f1,vs',f2,f3,f4⟩:=ih ps _ (zs.set i' (ty.mk (CB fet te.cs x.cells).2.1).2) (by simpa using hl) (fun j x p hx hp=>hr (j+1) x p (by simpa using hx) (by simpa using hp)) (by rw[k1,hsz,List.length_set,hzl]) (by rw[hset];exact hh') hok2
        (fun p hp'=>hU p (List.mem_append_right _ hp'))
      refine⟨by rw[f1,List.length_set],vs',?_,by rw[f3,k1],f4⟩
      simp only[Instr.fill]
      have: ¬(v.cells.size≠te.cs.length||decide (i'*te.cs.length+v.cells.size>vs.size))=true:=by
        rw[hvsz];simp;omega
      rw[if_neg (by simpa using this)]
      exact f2
end
