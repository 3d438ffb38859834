import Derived.Test.YtbnphelpndnnfabGreatDoorA8
import Derived.Scope
import Derived.LoopN
import Derived.Tactics
set_option linter.all false
namespace Go.Proofs.YtbnphelpndnnfabGreatDoor.Vm
open Classical
section
variable {P:Program} {C:Ctx} {V0:Nat->Value} {O0 O:Own} {w0 w:World} {m:Nat->Value} {st:St} {a:Act}
theorem Akr (p:Nat->Bool) (l:List (Nat×Obj)) (k:Nat):Dy (l.filter (fun q=>p q.1)) k=if p k then Dy l k else none:=by
  induction l with
  | nil=>simp [Dy]
  | cons q r ih=>grind[GG]
theorem AoP (g:Obj->Obj) (l:List (Nat×Obj)) (k:Nat):Dy (l.map (fun q=>(q.1,g q.2))) k=(Dy l k).map g:=by
  induction l with
  | nil=>rfl
  | cons q r ih=>grind[GG]
theorem drop_length (keep:List Nat): ∀(l:List A) (i:Nat),(drop keep l i).length=l.length:=by
  intro l
  induction l with
  | nil=>intro i;rfl
  | cons x r ih=>intro i;simp [drop,ih]
theorem AnO (keep:List Nat): ∀(l:List A) (i t:Nat),(drop keep l i).getD t .undef= .undef\/(drop keep l i).getD t .undef=l.getD t .undef:=by
  intro l
  induction l with
  | nil=>grind[drop]
  | cons x r ih =>
    intro i t
    cases t with
    | zero=>grind[drop,has]
    | succ t=>simp_all[drop]
theorem Sim.dropped (hS:Sim V0 O0 w0 O m st a w) (keep Dj:List Nat):Sim V0 O0 w0 O m {tmps:=drop keep st.tmps 0,Dj:=st.Dj.filter (fun p=>has Dj p.1)} a w:=by
  have hag: ∀ o x,Dy (st.Dj.filter (fun p=>has Dj p.1)) o=some x->Dy st.Dj o=some x:=by
    intro o x h
    rw[Akr (has Dj)]at h
    split at h
    ·exact h
    ·cases h
  have hE:J9 st.Dj m (st.Dj.filter (fun p=>has Dj p.1)) m (fun _=>False):=fun o x h=>.inr ⟨x,hag o x h,rfl,rfl⟩
  have hp:FW O w O w:=fun _ _ _ h hc=>⟨h,hc⟩
  refine⟨hS.defers,by rw[hS.size];exact(drop_length _ _ _).symm,fun t ht=> ?_,fun o x h=> ?_,hS.frame,hS.own,fun o x h=>hS.ids o x (hag o x h),hS.less,fun o hr ho=>(by obtain⟨x,hx⟩:=Option.isSome_iff_exists.1 ho;exact hS.root o hr (by rw[hag o x hx];rfl)),hS.bD,hS.inv⟩
  ·have ht':t<st.tmps.length:=by
     all_goals grind[drop,drop_length]
   show DD O _ m w _ ((drop keep st.tmps 0).getD t .undef)
   rcases AnO keep st.tmps 0 t with h | h
   ·rw[h];trivial
   ·rw[h];exact(hS.tmps t ht').step hp hE (fun _ _ h=>h)
  ·exact(hS.Dj o x (hag o x h)).step (T:=fun _=>False) (Moves.refl O _ w) ⟨fun _ _ _ h=>h,fun _ _ _ _ h _=>h⟩ hE id rfl (fun _ _ h=>h)
def rho (f t o:Nat):Nat:=if o=f then t else o
theorem Vp (f t o:Nat):(bif Nat.beq o f then t else o)=rho f t o:=by grind[OG,rho]
def IW (f t:Nat):A->A
  | .ptr o off=>.ptr (rho f t o) off
  | .own o=>.own (rho f t o)
  | .clo g o=>.clo g (rho f t o)
  | .bsl o n=>.bsl (rho f t o) n
  | .osl o n=>.osl (rho f t o) n
  | .EN o i off=>.EN (rho f t o) i off
  | c=>c
theorem Ap7 (f t:Nat) (cs:List A):GY f t (.agg cs)= .agg (cs.map (IW f t)):=by
  show A.agg (cs.map _)=_
  congr 1
  refine List.map_congr_left fun c _=> ?_
  all_goals grind[IW,Vp]
theorem Ar1 (f t:Nat) (c:A):(∃ cs,c= .agg cs)\/GY f t c=IW f t c:=by
  cases c<;>first | exact .inl ⟨_,rfl⟩ | exact .inr rfl | (right;simp only[IW,GY,Vp])
structure Ren (O:Own) (Dj:List (Nat×Obj)) (m:Nat->Value) (f t:Nat) (O':Own) (objs':List (Nat×Obj)) (m':Nat->Value):Prop where
  here: ∀ x',Dy objs' t=some x'-> ∃ x,Dy Dj f=some x/\x.shp=x'.shp/\m' t=m f
  there: ∀ o x',o≠t->Dy objs' o=some x'->o≠f/\ ∃ x,Dy Dj o=some x/\x.shp=x'.shp/\m' o=m o
  own: ∀ b k,O' b k=(O b k).map (rho f t)
theorem Ren.DY {O':Own} {Dj objs':List (Nat×Obj)} {m':Nat->Value} {f t:Nat} (h:Ren O Dj m f t O' objs' m'):FW O w O' w:=by
  intro b k u hn hc
  exact⟨by rw[h.own,hn];rfl,hc⟩
theorem DF.ren {O':Own} {Dj objs':List (Nat×Obj)} {m':Nat->Value} {f t:Nat} (h:Ren O Dj m f t O' objs' m') {v:Value} {c:A} (hn: ∀ i∈c.FN,i=t->f=t) (hc:DF O Dj m w v c) :
    DF O' objs' m' w v (IW f t c):=by
  have key: ∀ o,(o=t->f=t)-> ∀ x',Dy objs' (rho f t o)=some x'-> ∃ x,Dy Dj o=some x/\x.shp=x'.shp/\m' (rho f t o)=m o:=by
    intro o ho x' hx
    unfold rho at hx ⊢
    by_cases hf:o=f
    ·rw[if_pos hf]at hx ⊢;rw[hf];exact h.here x' hx
    ·rw[if_neg hf]at hx ⊢
     exact(h.there o x' (fun e=>hf (by rw[e,ho e])) hx).2
  cases c with
  | ptr o off =>
    simp only[DF,IW]at *
    refine⟨hc.1,?_⟩
    have hc:=hc.2
    cases hx:Dy objs' (rho f t o)with
    | none=>simp
    | some x' =>
      obtain⟨x,h1,h2,h3⟩:=key o (hn o (by simp [A.FN])) x' hx
      rw[h1]at hc;simp only[Option.map_some,h2]at hc;simp only[Option.map_some,h3];exact hc
  | own o =>
    simp only[DF,IW]at *
    refine⟨hc.1,?_⟩
    have hc:=hc.2
    cases hx:Dy objs' (rho f t o)with
    | none=>simp
    | some x' =>
      obtain⟨x,h1,h2,h3⟩:=key o (hn o (by simp [A.FN])) x' hx
      rw[h1]at hc;simp only[Option.map_some,h2]at hc;simp only[Option.map_some,h3];exact hc
  | clo k o =>
    simp only[DF,IW]at *
    obtain⟨h0,p,h4,h5,hc⟩:=hc
    refine⟨h0,p,h4,h5.DY h.DY,?_⟩
    cases hx:Dy objs' (rho f t o)with
    | none=>simp
    | some x' =>
      obtain⟨x,h1,h2,h3⟩:=key o (hn o (by simp [A.FN])) x' hx
      rw[h1]at hc;simp only[Option.map_some,h2]at hc;simp only[Option.map_some,h3];exact hc
  | bsl o n =>
    simp only[DF,IW]at *
    refine⟨hc.1,?_⟩
    have hc:=hc.2
    cases hx:Dy objs' (rho f t o)with
    | none=>simp
    | some x' =>
      obtain⟨x,h1,h2,h3⟩:=key o (hn o (by simp [A.FN])) x' hx
      rw[h1]at hc;simp only[Option.map_some,h2]at hc;simp only[Option.map_some,h3];exact hc
  | osl o n =>
    simp only[DF,IW]at *
    refine⟨hc.1,?_⟩
    have hc:=hc.2
    cases hx:Dy objs' (rho f t o)with
    | none=>simp
    | some x' =>
      obtain⟨x,h1,h2,h3⟩:=key o (hn o (by simp [A.FN])) x' hx
      rw[h1]at hc;simp only[Option.map_some,h2]at hc;simp only[Option.map_some,h3];exact hc
  | EN o i off =>
    simp only[DF,IW]at *
    refine⟨hc.1,?_⟩
    have hc:=hc.2
    cases hx:Dy objs' (rho f t o)with
    | none=>simp
    | some x' =>
      obtain⟨x,h1,h2,h3⟩:=key o (hn o (by simp [A.FN])) x' hx
      rw[h1]at hc;simp only[Option.map_some,h2]at hc;simp only[Option.map_some,h3];exact hc
  | elt cs =>
    obtain⟨b,off,hv,hc⟩:=hc
    refine⟨b,off,hv,fun j hj=> ?_⟩
    obtain⟨h1,u,h2,h3⟩:=hc j hj
    obtain⟨h4,h5⟩:=h.DY _ _ _ h1 h2
    exact⟨h4,u,h5,h3.DY h.DY⟩
  | fn f=>exact D6.DY h.DY hc
  | ump _=>exact hc
  | undef=>exact hc
  | ER=>exact hc
  | bool b=>exact D6.DY h.DY hc
  | int k n=>exact D6.DY h.DY hc
  | str s=>exact D6.DY h.DY hc
  | sl l=>exact D6.DY h.DY hc
  | sln l=>exact D6.DY h.DY hc
  | Fj=>exact D6.DY h.DY hc
  | usl _ _ _=>exact hc
  | agg _=>exact hc
  | tup _=>exact hc
  | box _=>exact hc
  | cbx _ _=>exact hc
  | cnd _ _=>exact hc
theorem Ren.exts {O':Own} {Dj objs':List (Nat×Obj)} {m':Nat->Value} {f t:Nat} (h:Ren O Dj m f t O' objs' m'):J9 Dj m objs' m' (fun o=>o=t/\f≠t):=by
  intro o x' hx
  by_cases ho:o=t
  ·subst ho
   by_cases hf:f=o
   ·right
    obtain⟨x,h1,h2,h3⟩:=h.here x' hx
    rw[hf]at h1 h3
    exact⟨x,h1,h2,h3⟩
   ·exact .inl ⟨rfl,hf⟩
  ·exact .inr (h.there o x' ho hx).2
theorem DD.ren {O':Own} {Dj objs':List (Nat×Obj)} {m':Nat->Value} {f t:Nat} (h:Ren O Dj m f t O' objs' m') {v:Value} {c:A} (hn: ∀ i∈c.ids,i=t->f=t) (hc:DD O Dj m w v c) :
    DD O' objs' m' w v (GY f t c):=by
  cases c with
  | agg cs =>
    rw[Ap7]
    obtain⟨vs,h1,h2,h3⟩:=hc
    refine⟨vs,h1,by simpa using h2,fun j hj=> ?_⟩
    have hj':j<cs.length:=by simpa using hj
    have e:(cs.map (IW f t)).getD j .undef=IW f t (cs.getD j .undef):=by
      simp [List.getD_eq_getElem?_getD,hj']
    rw[e]
    exact(h3 j hj').ren h (fun i hi=>hn i (L9 (f:=A.FN) hj' hi))
  | tup l=>exact DD.step h.DY h.exts (fun o ho hN=>hN.2 (hn o ho hN.1)) hc
  | cnd g c=>exact DD.step h.DY h.exts (fun o ho hN=>hN.2 (hn o ho hN.1)) hc
  | undef=>trivial
  | ptr o off =>
    have e:GY f t (.ptr o off)=IW f t (.ptr o off):=by simp only[IW,GY,Vp]
    rw[e];exact DF.ren (w:=w) (m:=m) (c:=.ptr o off) h hn hc
  | own o =>
    have e:GY f t (.own o)=IW f t (.own o):=by simp only[IW,GY,Vp]
    rw[e];exact DF.ren (w:=w) (m:=m) (c:=.own o) h hn hc
  | clo g o =>
    have e:GY f t (.clo g o)=IW f t (.clo g o):=by simp only[IW,GY,Vp]
    rw[e];exact DF.ren (w:=w) (m:=m) (c:=.clo g o) h hn hc
  | bsl o n =>
    have e:GY f t (.bsl o n)=IW f t (.bsl o n):=by simp only[IW,GY,Vp]
    rw[e];exact DF.ren (w:=w) (m:=m) (c:=.bsl o n) h hn hc
  | osl o n =>
    have e:GY f t (.osl o n)=IW f t (.osl o n):=by simp only[IW,GY,Vp]
    rw[e];exact DF.ren (w:=w) (m:=m) (c:=.osl o n) h hn hc
  | EN o i off =>
    have e:GY f t (.EN o i off)=IW f t (.EN o i off):=by simp only[IW,GY,Vp]
    rw[e];exact DF.ren (w:=w) (m:=m) (c:=.EN o i off) h hn hc
  | bool b=>exact DF.ren (w:=w) (m:=m) (c:=.bool b) h hn hc
  | int k n=>exact DF.ren (w:=w) (m:=m) (c:=.int k n) h hn hc
  | str s=>exact DF.ren (w:=w) (m:=m) (c:=.str s) h hn hc
  | sl l=>exact DF.ren (w:=w) (m:=m) (c:=.sl l) h hn hc
  | sln l=>exact DF.ren (w:=w) (m:=m) (c:=.sln l) h hn hc
  | ER=>exact DF.ren (w:=w) (m:=m) (c:=.ER) h hn hc
  | Fj=>exact DF.ren (w:=w) (m:=m) (c:=.Fj) h hn hc
  | elt cs=>exact DF.ren (w:=w) (m:=m) (c:=.elt cs) h hn hc
  | fn g=>exact DF.ren (w:=w) (m:=m) (c:=.fn g) h hn hc
  | ump _=>exact hc
  | usl _ _ _=>exact hc
  | box _=>exact hc
  | cbx _ _=>exact hc
theorem DF.GY {O':Own} {Dj objs':List (Nat×Obj)} {m':Nat->Value} {f t:Nat} (h:Ren O Dj m f t O' objs' m') {v:Value} {c:A} (hn: ∀ i∈c.FN,i=t->f=t) (hc:DF O Dj m w v c) :
    DF O' objs' m' w v (Vm.GY f t c):=by
  rcases Ar1 f t c with ⟨cs,rfl⟩ | e
  ·exact hc.elim
  ·rw[e];exact hc.ren h hn
theorem ET.ren {O':Own} {Dj objs':List (Nat×Obj)} {m':Nat->Value} {f t:Nat} (h:Ren O Dj m f t O' objs' m') {o:Nat} {x:Obj} (hm:m' (rho f t o)=m o) (hn: ∀ i∈x.ids,i=t->f=t) (hx:ET O Dj m w o x) :
    ET O' objs' m' w (rho f t o) (yX f t x):=by
  cases x with
  | box cs =>
    obtain⟨b,base,h1,h2⟩:=hx
    refine⟨b,base,by rw[hm];exact h1,fun j hj=> ?_⟩
    have hj':j<cs.length:=by simpa using hj
    obtain⟨h3,h4,u,h5,h6⟩:=h2 j hj'
    refine⟨by rw[h.own,h3];rfl,h4,u,h5,?_⟩
    have e:(cs.map (Vm.GY f t)).getD j .undef=Vm.GY f t (cs.getD j .undef):=by
      simp [List.getD_eq_getElem?_getD,hj']
    rw[e]
    exact h6.GY h (fun i hi=>hn i (L9 (f:=A.FN) hj' hi))
  | arr e frz l =>
    obtain⟨h0,hx⟩:=hx
    refine⟨h0,?_⟩
    rcases hx with ⟨h1,h2,h3⟩ | ⟨h1,g,cap,cur,h2,h3,h4,h5,h6,h7,h8,h9⟩
    ·exact .inl ⟨h1,h2,by rw[hm];exact h3⟩
    ·refine .inr ⟨h1,g,cap,cur,by rw[hm];exact h2,h3,h4,h5,h6,fun i j hi hj=> ?_,fun k hk hge=> ?_,fun k hk=> ?_⟩
     ·obtain⟨u,h10,h11⟩:=h7 i j hi hj
      exact⟨u,h10,h11.DY h.DY⟩
     ·rw[h.own,h8 k hk hge];rfl
     ·rw[h.own,h9 k hk];cases frz<;>rfl
  | mp l =>
    obtain⟨r,es,ck,h1,h2,h3,h4,h5⟩:=(show Ic O w o (m o) l from hx)
    refine(⟨r,es,ck,by rw[hm];exact h1,h2,by rw[h.own,h3];rfl,h4,fun i p hi=> ?_⟩:Ic O' w (rho f t o) (m' (rho f t o)) l)
    obtain⟨e,k1,k2,k3⟩:=h5 i p hi
    exact⟨e,k1,k2.DY h.DY,k3.DY h.DY⟩
theorem Sim.renamed (hS:Sim V0 O0 w0 O m st a w) {f t:Nat} {x:Obj} (hf:Dy st.Dj f=some x) (ht:f=t\/IL st t) :
    ∃ O' m',Sim V0 O0 w0 O' m' {tmps:=st.tmps.map (GY f t),Dj:=(EZ (KD st.Dj f) t x).map (fun p=>(p.1,yX f t p.2))} a w:=by
  have hag: ∀ o,Dy ((EZ (KD st.Dj f) t x).map (fun p=>(p.1,yX f t p.2))) o=(if o=t then some x else if o=f then none else Dy st.Dj o).map (yX f t):=by
    intro o
    rw[AoP,Eg,Zg]
  have hshp: ∀ y,(yX f t y).shp=y.shp:=by intro y;cases y<;>rfl
  have h255:f≠255:=hS.ids f x hf
  have hR:Ren O st.Dj m f t (fun b k=>(O b k).map (rho f t)) ((EZ (KD st.Dj f) t x).map (fun p=>(p.1,yX f t p.2))) (fun o=>if o=t then m f else m o):=by
    refine⟨fun x' hx=> ?_,fun o x' ho hx=> ?_,fun _ _=>rfl⟩
    ·rw[hag,if_pos rfl]at hx
     simp only[Option.map_some,Option.some.injEq]at hx
     exact⟨x,hf,by rw[<- hx,hshp],if_pos rfl⟩
    ·rw[hag,if_neg ho]at hx
     by_cases hof:o=f
     ·rw[if_pos hof]at hx;cases hx
     ·rw[if_neg hof]at hx
      cases hy:Dy st.Dj o with
      | none=>rw[hy]at hx;cases hx
      | some y =>
        rw[hy]at hx
        simp only[Option.map_some,Option.some.injEq]at hx
        exact⟨hof,y,rfl,by rw[<- hx,hshp],if_neg ho⟩
  have hids: ∀ i∈st.ids,i=t->f=t:=by
    intro i hi he
    rcases ht with h | h
    ·exact h
    ·exact absurd (he▸hi) h.ids
  have hmr: ∀ o,(o=t->f=t)->(fun o=>if o=t then m f else m o) (rho f t o)=m o:=by
    all_goals grind[rho]
  refine⟨(fun b k=>(O b k).map (rho f t)),(fun o=>if o=t then m f else m o),hS.defers,by rw[hS.size];simp,fun i hi=> ?_,fun o y hy=> ?_,hS.frame,fun b k o hb ho hne=> ?_,fun o y hy=> ?_,fun b k hb h=>hS.less b k hb (fun e=>h (by show(O b k).map _=none;rw[e];rfl)),fun o hr ho=> ?_,fun b k hb h=>by show(O b k).map (rho f t)=_;rw[hS.bD b k hb h];exact congrArg some (if_neg (fun e=>h255 e.symm)),hS.inv⟩
  ·have hi':i<st.tmps.length:=by simpa using hi
   have e:(st.tmps.map (GY f t)).getD i .undef=GY f t (st.tmps.getD i .undef):=by
     simp [List.getD_eq_getElem?_getD,hi']
   show DD _ _ _ _ _ ((st.tmps.map (GY f t)).getD i .undef)
   rw[e]
   exact(hS.tmps i hi').ren hR (fun j hj=>hids j (Yo hi' hj))
  ·have hy':=hy
   dsimp only at hy
   rw[hag]at hy
   by_cases h1:o=t
   ·rw[if_pos h1]at hy
    simp only[Option.map_some,Option.some.injEq]at hy
    subst hy
    have:=(hS.Dj f x hf).ren hR (hmr f (fun e=>e)) (fun i hi=>hids i (Rn hf hi))
    have e:rho f t f=t:=if_pos rfl
    rw[e]at this;rw[h1];exact this
   ·rw[if_neg h1]at hy
    by_cases h2:o=f
    ·rw[if_pos h2]at hy;cases hy
    ·rw[if_neg h2]at hy
     cases hz:Dy st.Dj o with
     | none=>rw[hz]at hy;cases hy
     | some z =>
       rw[hz]at hy
       simp only[Option.map_some,Option.some.injEq]at hy
       subst hy
       have:=(hS.Dj o z hz).ren hR (hmr o (fun e=>absurd e h1)) (fun i hi=>hids i (Rn hz hi))
       have e:rho f t o=o:=if_neg h2
       rw[e]at this;exact this
  ·cases hq:O b k with
   | none =>
     have:(O b k).map (rho f t)=some o:=ho
     rw[hq]at this;cases this
   | some o1 =>
     have:(O b k).map (rho f t)=some o:=ho
     rw[hq]at this
     simp only[Option.map_some,Option.some.injEq]at this
     refine hS.own b k o1 hb hq (fun e=>hne ?_)
     rw[<- this,e];exact if_neg (fun e=>h255 e.symm)
  ·dsimp only at hy
   rw[hag]at hy
   by_cases h1:o=t
   ·rw[h1]
    rcases ht with h | h
    ·rw[<- h];exact h255
    ·exact h.ne
   ·rw[if_neg h1]at hy
    by_cases h2:o=f
    ·rw[h2];exact h255
    ·rw[if_neg h2]at hy
     cases hz:Dy st.Dj o with
     | none=>rw[hz]at hy;cases hy
     | some z=>exact hS.ids o z hz
  ·dsimp only at ho ⊢
   rw[hag]at ho
   by_cases h1:o=t
   ·rw[if_pos h1]
    rcases ht with h | h
    ·rw[h1,<- h];exact hS.root f (by rw[h,<- h1];exact hr) (by rw[hf];rfl)
    ·rw[h1,h.root]at hr;cases hr
   ·rw[if_neg h1]at ho ⊢
    by_cases h2:o=f
    ·rw[if_pos h2]at ho;cases ho
    ·rw[if_neg h2]at ho
     refine hS.root o hr ?_
     cases hz:Dy st.Dj o with
     | none=>rw[hz]at ho;cases ho
     | some z=>rfl
theorem Ana: ∀(l:List (Nat×Nat)) {O:Own} {m:Nat->Value} {st:St},Sim V0 O0 w0 O m st a w->(yY st l).1=true-> ∃ O' m',Sim V0 O0 w0 O' m' (yY st l).2 a w:=by
  intro l
  induction l with
  | nil=>intro O m st hS _;exact⟨O,m,hS⟩
  | cons p r ih =>
    intro O m st hS h
    obtain⟨f,t⟩:=p
    simp only[yY]at h ⊢
    cases hx:Dy st.Dj f with
    | none=>rw[hx]at h;exact ih hS h
    | some x =>
      rw[hx]at h
      dsimp only at h ⊢
      rw[Bool.and_eq_true,OG]at h
      obtain⟨O1,m1,hS1⟩:=hS.renamed (t:=t) hx (by
        by_cases hft:f=t
        ·exact .inl hft
        ·have h1:=h.1
         rw[show decide (f=t)=false by simpa using hft]at h1
         exact .inr (FP h1))
      exact ih hS1 h.2
theorem Amz: ∀(l:List Nat) {O:Own} {st:St},Sim V0 O0 w0 O m st a w-> ∃ O',Sim V0 O0 w0 O' m {st with Dj:=Ajb st.Dj l} a w:=by
  intro l
  induction l with
  | nil=>intro O st hS;exact⟨O,hS⟩
  | cons n r ih =>
    intro O st hS
    simp only[Ajb]
    cases hx:Dy st.Dj n with
    | none=>exact ih hS
    | some x =>
      cases x with
      | mp _=>exact ih hS
      | box cs=>exact ih hS
      | arr e f l =>
        obtain⟨O1,hS1,_⟩:=hS.fV hx
        exact ih hS1
theorem lY {t:Nat} {v:Value} (hs:a.tmps.getD t undef=v) (hlt:t<a.tmps.size):a.put (some t) v=a:=by
  have:a.tmps.setIfInBounds t v=a.tmps:=by
    apply Array.ext_getElem?
    intro i
    rw[Array.getElem?_setIfInBounds]
    by_cases hi:t=i
    all_goals simp_all[getD_eq,hs]
  simp only[Act.put,this]
theorem Aol {x:A} (h:gK x=true):x= .ER:=by cases x<;>first | rfl | cases h
theorem Ane {id:Nat}: ∀(ts:List Nat) {O:Own} {m:Nat->Value} {st:St},Sim V0 O0 w0 O m st a w->(∀ t∈ts,t<st.tmps.length)->(∀ t∈ts,DF O st.Dj m w (a.tmps.getD t undef) (.own id)) ->
    Sim V0 O0 w0 O m {st with tmps:=zA id ts st.tmps} a w:=by
  intro ts
  induction ts with
  | nil=>intro O m st hS _ _;exact hS
  | cons t r ih =>
    intro O m st hS hl hc
    have hlt:=hl t List.mem_cons_self
    have h1:=hS.put (some t) (x:=.own id) (v:=a.tmps.getD t undef) ((hc t List.mem_cons_self).toT)
    rw[lY rfl (by rw[hS.size];exact hlt)]at h1
    exact ih (st:= {st with tmps:=st.tmps.set t (.own id)}) h1 (fun q hq=>by simpa using hl q (List.mem_cons_of_mem _ hq)) (fun q hq=>hc q (List.mem_cons_of_mem _ hq))
theorem AmW: ∀(l:List (List Nat×Nat×Ty×Nat)) {O:Own} {m:Nat->Value} {st:St},Sim V0 O0 w0 O m st a w->(owns l st).1=true-> ∃ O' m',Sim V0 O0 w0 O' m' (owns l st).2 a w:=by
  intro l
  induction l with
  | nil=>intro O m st hS _;exact⟨O,m,hS⟩
  | cons p r ih =>
    intro O m st hS h
    obtain⟨ts,e,ty,id⟩:=p
    unfold owns at h ⊢
    cases hany:ts.any (fun t=>gK (st.tmps.getD t .undef))with
    | false=>rw[hany]at h;exact ih hS h
    | true =>
      rw[hany]at h
      simp only[cond_true]at h ⊢
      rw[Bool.and_eq_true,Bool.and_eq_true]at h
      obtain⟨⟨h1,h2⟩,h3⟩:=h
      have hall: ∀ t∈ts,st.tmps.getD t .undef= .ER/\t<st.tmps.length:=by
        all_goals grind[Aol]
      have hval: ∀ t∈ts,a.tmps.getD t undef= .slice none 0 0:=by
        intro t ht
        have hv:=hS.tmps t (hall t ht).2
        rw[(hall t ht).1]at hv
        exact hv
      cases ts with
      | nil=>cases hany
      | cons t ts =>
        have hlt:=(hall t List.mem_cons_self).2
        obtain⟨O',m',hS'⟩:=lQ hS (d:=t) (e:=e) (t:=ty) (frz:=false) (del:=[]) (FP h2)
        rw[lY (hval t List.mem_cons_self) (by rw[hS.size];exact hlt)]at hS'
        have hslot:=hS'.tmps t (by simpa using hlt)
        have e0:(st.tmps.set t (.own id)).getD t .undef= .own id:=by simp [List.getD_eq_getElem?_getD,hlt]
        rw[e0,hval t List.mem_cons_self]at hslot
        have hfin:=Ane (a:=a) ts hS' (fun q hq=>by simpa using (hall q (List.mem_cons_of_mem _ hq)).2) (fun q hq=>by
          rw[hval q (List.mem_cons_of_mem _ hq)];exact hslot)
        exact ih hfin h3
theorem Ao8: ∀(l:List (Option Nat×Nat×Ty)) {O:Own} {st:St},Sim V0 O0 w0 O m st a w-> ∃ O',Sim V0 O0 w0 O' m (pzs l st) a w:=by
  intro l
  induction l with
  | nil=>intro O st hS;exact⟨O,hS⟩
  | cons p r ih =>
    intro O st hS
    obtain⟨b,j,ty⟩:=p
    cases b with
    | none =>
      unfold pzs
      cases hx:st.tmps.getD j .undef with
      | ER =>
        dsimp only
        have hlt:j<st.tmps.length:=by
          rcases Nat.lt_or_ge j st.tmps.length with h | h
          ·exact h
          ·rw[List.getD_eq_getElem?_getD,List.getElem?_eq_none h]at hx;cases hx
        have hc:=hS.tmps j hlt
        rw[hx]at hc
        have hc:a.tmps.getD j undef= .slice none 0 0:=hc
        have h2:=hS.put (some j) (x:=.sl ⟨ty,[]⟩) (v:=a.tmps.getD j undef) (by rw[hc];exact D6.nil ty)
        rw[lY rfl (by rw[hS.size];exact hlt)]at h2
        exact ih h2
      | own o =>
        dsimp only
        cases ho:Dy st.Dj o with
        | none=>exact ih hS
        | some y =>
          cases y with
          | box _=>exact ih hS
          | mp _=>exact ih hS
          | arr e f l =>
            dsimp only
            obtain⟨O1,hS1,hp1,_,hv1,_⟩:=hS.fV ho
            have hlt:j<st.tmps.length:=by
              rcases Nat.lt_or_ge j st.tmps.length with h | h
              ·exact h
              ·rw[List.getD_eq_getElem?_getD,List.getElem?_eq_none h]at hx;cases hx
            have hc:=hS.tmps j hlt
            rw[hx]at hc
            have hc:DF O st.Dj m w (a.tmps.getD j undef) (.own o):=hc
            have hc2:=hc.2
            rw[ho]at hc2
            have hm:a.tmps.getD j undef=m o:=hc2
            have h2:=hS1.put (some j) (x:=.sl l) (v:=a.tmps.getD j undef) (by rw[hm];exact hv1)
            rw[lY rfl (by rw[hS.size];exact hlt)]at h2
            exact ih h2
      | _=>exact ih hS
    | some b =>
      unfold pzs
      cases hb:Dy st.Dj b with
      | none=>exact ih hS
      | some y =>
        cases y with
        | arr _ _ _=>exact ih hS
        | mp _=>exact ih hS
        | box cs =>
          dsimp only
          cases hx:cs.getD j .undef with
          | own o =>
            dsimp only
            cases ho:Dy st.Dj o with
            | none=>exact ih hS
            | some y =>
              cases y with
              | box _=>exact ih hS
              | mp _=>exact ih hS
              | arr e f l =>
                dsimp only
                obtain⟨O1,hS1,hp1,_,hv1,_⟩:=hS.fV ho
                have hbo:b≠o:=fun h=>by rw[h,ho]at hb;cases hb
                have hb1:Dy (EZ st.Dj o (.arr e true l)) b=some (.box cs):=by rw[Eg,if_neg hbo];exact hb
                have ho1:Dy (EZ st.Dj o (.arr e true l)) o=some (.arr e true l):=by rw[Eg,if_pos rfl]
                have hjl:j<cs.length:=by
                  rcases Nat.lt_or_ge j cs.length with h | h
                  ·exact h
                  ·rw[List.getD_eq_getElem?_getD,List.getElem?_eq_none h]at hx;cases hx
                have hE:J9 (EZ st.Dj o (.arr e true l)) m (EZ (EZ st.Dj o (.arr e true l)) b (.box (cs.set j (.sl l)))) m (fun _=>False):=by
                  intro q z hz
                  rw[Eg]at hz
                  by_cases hq:q=b
                  ·rw[if_pos hq]at hz;injection hz with hz;subst hz
                   exact .inr ⟨.box cs,by rw[hq];exact hb1,rfl,rfl⟩
                  ·rw[if_neg hq]at hz;exact .inr ⟨z,hz,rfl,rfl⟩
                have h2:=hS1.next (st':= {st with Dj:=EZ (EZ st.Dj o (.arr e true l)) b (.box (cs.set j (.sl l)))}) (d:=none) (v:=undef) (x:=.undef) (T:=fun _=>False) (Nw:=fun _=>False) (Moves.refl O1 _ w) ⟨fun _ _ _ h=>h,fun _ _ _ _ h _=>h⟩ (fun _ _ _ h=>h) hE (fun _ h=>h.elim) (fun _ h=>h.elim)
                  (fun q z hz=>by
                    rw[Eg]at hz
                    by_cases hq:q=b
                    ·rw[if_pos hq]at hz;injection hz with hz;subst hz
                     right
                     obtain⟨bk,base,g1,g2⟩:=hS1.Dj b _ hb1
                     rw[hq]
                     refine⟨⟨bk,base,g1,fun i hi=> ?_⟩,hS.ids b _ hb⟩
                     rw[List.length_set]at hi
                     obtain⟨k1,k2,u,k3,k4⟩:=g2 i hi
                     refine⟨k1,k2,u,k3,?_⟩
                     by_cases hij:j=i
                     ·subst hij
                      have e1:(cs.set j (.sl l)).getD j .undef= .sl l:=by simp [List.getD_eq_getElem?_getD,hjl]
                      rw[e1]
                      rw[hx]at k4
                      have k5:=k4.2
                      rw[ho1]at k5
                      have hm:u=m o:=k5
                      rw[hm];exact hv1
                     ·have e1:(cs.set j (.sl l)).getD i .undef=cs.getD i .undef:=by
                        simp only[List.getD_eq_getElem?_getD,List.getElem?_set];rw[if_neg hij]
                      rw[e1]
                      exact k4.step (fun _ _ _ h hc=>⟨h,hc⟩) hE (fun _ _ h=>h)
                    ·rw[if_neg hq]at hz;exact .inl ⟨fun h=>h,hz,rfl⟩) rfl (fun h=>absurd rfl h)
                exact ih h2
          | _=>exact ih hS
theorem AmO (hS:Sim V0 O0 w0 O m st a w) {key:Nat} (h:(norm C key st).1=true): ∃ O' m',Sim V0 O0 w0 O' m' (norm C key st).2 a w:=by
  unfold norm at h ⊢
  cases hn:C.nrm key with
  | none=>exact⟨O,m,hS⟩
  | some n =>
    rw[hn]at h
    dsimp only at h ⊢
    rw[Bool.and_eq_true]at h
    obtain⟨O4,hS4⟩:=Ao8 n.pz hS
    obtain⟨O1,m1,hS1⟩:=Ana n.ren (hS4.dropped n.keep (reached (drop n.keep (pzs n.pz st).tmps 0) (pzs n.pz st).Dj)) h.1
    obtain⟨O3,m3,hS3⟩:=AmW n.nw hS1 h.2
    obtain⟨O2,hS2⟩:=Amz n.frz hS3
    exact⟨O2,m3,hS2⟩
theorem xO {ρ :Type} (hS:Sim V0 O0 w0 O m st a w) {key:Nat} {K:St->Option ρ} {r: ρ} (h:LP C key st K=some r): ∃ O' m' st',Sim V0 O0 w0 O' m' st' a w/\K st'=some r:=by
  unfold LP at h
  cases hn:(norm C key st).1 with
  | false =>
    have h':(bif (norm C key st).1 then K (norm C key st).2 else none)=some r:=h
    rw[hn]at h';cases h'
  | true =>
    have h':(bif (norm C key st).1 then K (norm C key st).2 else none)=some r:=h
    rw[hn]at h'
    obtain⟨O1,m1,hS1⟩:=AmO hS hn
    exact⟨O1,m1,_,hS1,h'⟩
theorem lN {ρ :Type} (hS:Sim V0 O0 w0 O m st a w) {kind:Nat} {c:Code} {K:St->Option ρ} {r: ρ} (h:meet C kind c st K=some r): ∃ O' m' st',Sim V0 O0 w0 O' m' st' a w/\K st'=some r:=by
  unfold meet at h
  cases hn:F8 c with
  | none=>rw[hn]at h;exact⟨O,m,st,hS,h⟩
  | some n=>rw[hn]at h;exact xO hS h
end
end Go.Proofs.YtbnphelpndnnfabGreatDoor.Vm
namespace Go.Proofs.YtbnphelpndnnfabGreatDoor.Vm
open Classical
section
variable {P:Program} {C:Ctx} {V0:Nat->Value} {O0 O:Own} {w0 w:World} {m:Nat->Value} {st:St} {a:Act}
theorem AlD {C:Ctx} {o:Oper} {f:Nat} {q:Alt} (h:WV C o=some (f,q)):C.alt f=some q:=by
  unfold WV at h
  split at h
  ·rename_i g _ _ _ _
   cases ha:C.alt g with
   | none=>rw[ha]at h;cases h
   | some q'=>simp_all[Alt,WV]
  ·cases h
theorem Ao2 {ρ :Type} (hC:GV P C) {ops:Array Oper} {Q:Exit->Act->World->Prop} {v: ρ} {K:St->Option ρ} (hK: ∀ O' m' st' a' w',Sim V0 O0 w0 O' m' st' a' w'->K st'=some v->Q .normal a' w') :
    ∀(l:List Oper) {O:Own} {m:Nat->Value} {st:St} {a:Act} {w:World},Sim V0 O0 w0 O m st a w->Qc C ops.toList l st K=some v->wpList P ops Q l a w:=by
  intro l
  induction l with
  | nil=>intro O m st a w hS h;exact hK _ _ _ _ _ hS h
  | cons o r ih =>
    intro O m st a w hS h
    have one: ∀ C':Ctx,GV P C'->allT (Ew C' ops.toList o st).ok (Qc C ops.toList r (apply st o (Ew C' ops.toList o st)) K)=some v->wpList P ops Q (o::r) a w:=by
      intro C' hC' h
      obtain⟨h1,h2⟩:=MZ h
      refine wpList_step fun k hk=> ?_
      exact AeK hC' hS h1 k Q fun O' m' a' w' hS'=>hk _ _ (ih hS' h2)
    unfold Qc at h
    cases ha:WV C o with
    | none=>rw[ha]at h;exact one C hC h
    | some q =>
      obtain⟨f,q⟩:=q
      rw[ha]at h
      dsimp only at h
      obtain⟨h1,h2⟩:=hC.alt f q (AlD ha)
      cases hb:AeX o st q with
      | true=>rw[hb]at h;exact one _ (hC.put h1) h
      | false=>rw[hb]at h;exact one _ (hC.put h2) h
def Post {ρ :Type} (V0:Nat->Value) (O0:Own) (w0:World) (fin:St->Option ρ) (K:Ex->St->Option ρ) (v: ρ):Exit->Act->World->Prop
  | .normal,a,w=> ∃ O m st,Sim V0 O0 w0 O m st a w/\K .normal st=some v
  | .exit id,a,w=> ∃ O m st,Sim V0 O0 w0 O m st a w/\K (.exit id) st=some v
  | .ret,a,w=> ∃ O m st,Sim V0 O0 w0 O m st a w/\fin st=some v
  | _,_,_=>False
theorem AnE (hS:Sim V0 O0 w0 O m st a w) {c:Operand} {t:Bool} (h:EH st.tmps c= .bool t\/EH st.tmps c= .cnd true (.bool t)):a.eval c= .bool t:=by
  have:=Ach hS c
  rcases h with h | h
  ·rw[h]at this;exact this.bool
  ·rw[h]at this
   have h1:D6 O w (a.eval c) (.bool t):=this.1 rfl
   generalize a.eval c=z at h1 ⊢
   cases h1;rfl
theorem AlX {ρ :Type} (hC:GV P C) (N:Nat) {fin:St->Option ρ} {v: ρ}
    (hdraw: ∀ {C:Ctx},GV P C-> ∀(id:Nat) (ops:Array Oper) {O:Own} {m:Nat->Value} {st:St} {a:Act} {w:World} (K:Ex->St->Option ρ),Sim V0 O0 w0 O m st a w->LM C ops.toList st=true->Qd C ops.toList ops.toList st (fun st'=>K .normal st')=some v ->
      (Code.region id ops true).wp P (Post V0 O0 w0 fin K v) a w) :
    ∀(c:Code) {O:Own} {m:Nat->Value} {st:St} {a:Act} {w:World} {K:Ex->St->Option ρ},Sim V0 O0 w0 O m st a w->exec C N fin c st K=some v->c.wp P (Post V0 O0 w0 fin K v) a w:=by
  intro c
  induction c with
  | skip=>intro O m st a w K hS h;exact wp_skip ⟨O,m,st,hS,h⟩
  | label l=>intro O m st a w K hS h;exact wp_label ⟨O,m,st,hS,h⟩
  | ret=>intro O m st a w K hS h;exact wp_ret ⟨O,m,st,hS,h⟩
  | exit id =>
    intro O m st a w K hS h
    obtain⟨O',m',st',hS',h'⟩:=xO hS (show LP C (4*id+3) st (fun st'=>K (.exit id) st')=some v from h)
    exact wp_exit ⟨O',m',st',hS',h'⟩
  | region id ops d =>
    intro O m st a w K hS h
    cases d with
    | false =>
      have key: ∀ C':Ctx,GV P C'->Qc C' ops.toList ops.toList st (fun st'=>K .normal st')=some v->(Code.region id ops false).wp P (Post V0 O0 w0 fin K v) a w:=fun C' hC' h' =>
        wp_region_list (Ao2 hC' (K:=fun st'=>K .normal st') (fun O' m' st' a' w' hS' h'=>⟨O',m',st',hS',h'⟩) ops.toList hS h')
      rcases(Xp (show split C id ops.toList st _=some v from h)).1 with h' | ⟨ds,b,h'⟩
      ·exact key C hC h'
      ·exact key _ (hC.decide ds b) h'
    | true =>
      have key: ∀ C':Ctx,GV P C'->(bif LM C' ops.toList st then Qd C' ops.toList ops.toList st (fun st'=>K .normal st')else none)=some v->(Code.region id ops true).wp P (Post V0 O0 w0 fin K v) a w:=by
        intro C' hC' h'
        cases hd:LM C' ops.toList st with
        | false=>rw[hd]at h';cases h'
        | true=>rw[hd]at h';exact hdraw hC' id ops K hS hd h'
      rcases(Xp (show split C id ops.toList st _=some v from h)).1 with h' | ⟨ds,b,h'⟩
      ·exact key C hC h'
      ·exact key _ (hC.decide ds b) h'
  | seq x y ihx ihy =>
    intro O m st a w K hS h
    refine wp_seq (wp_mono (ihx (K:=fun | .normal,st'=>meet C 1 y st' fun st''=>exec C N fin y st'' K | .exit id,st'=>K (.exit id) st') hS h) fun e a' w' hq=> ?_)
    cases e with
    | normal =>
      obtain⟨O1,m1,st1,hS1,h1⟩:=hq
      obtain⟨O2,m2,st2,hS2,h2⟩:=lN hS1 h1
      exact ihy hS2 h2
    | exit id=>exact hq
    | ret=>exact hq
    | goto l=>exact hq
    | panic ch=>exact hq
    | outgrown=>exact hq
  | cond c x y ihx ihy =>
    intro O m st a w K hS h
    have key: ∀ t:Bool,(EH st.tmps c= .bool t\/EH st.tmps c= .cnd true (.bool t))->(bif t then exec C N fin x st K else exec C N fin y st K)=some v->(Code.cond c x y).wp P (Post V0 O0 w0 fin K v) a w:=by
      intro t ht h'
      refine wp_cond (AnE hS ht) ?_
      cases t with
      | true=>exact ihx hS h'
      | false=>exact ihy hS h'
    simp only[exec]at h
    cases he:EH st.tmps c with
    | bool t=>rw[he]at h;exact key t (.inl he) h
    | cnd g y' =>
      rw[he]at h
      cases y' with
      | bool t =>
        cases g with
        | false=>cases h
        | true=>exact key t (.inr he) h
      | _=>cases h
    | _=>rw[he]at h;cases h
  | block id c ih =>
    intro O m st a w K hS h
    refine wp_block (wp_mono (ih (K:=fun | .exit j,st'=>bif Nat.beq j id then K .normal st' else K (.exit j) st' | .normal,st'=>K .normal st') hS h) fun e a' w' hq=> ?_)
    cases e with
    | normal=>exact hq
    | exit j =>
      obtain⟨O1,m1,st1,hS1,h1⟩:=hq
      dsimp only at h1
      show if j=id then _ else _
      rw[OG]at h1
      by_cases hj:j=id
      ·rw[if_pos hj]
       simp only[hj,decide_true,cond_true]at h1
       exact⟨O1,m1,st1,hS1,h1⟩
      ·rw[if_neg hj]
       rw[show decide (j=id)=false by simpa using hj]at h1
       exact⟨O1,m1,st1,hS1,h1⟩
    | ret=>exact hq
    | goto l=>exact hq
    | panic ch=>exact hq
    | outgrown=>exact hq
  | loop c ih =>
    intro O m st a w K hS h
    obtain⟨O1,m1,st1,hS1,h1⟩:=lN hS (show meet C 2 c st (fun st'=>rounds (meet C 2 c) (exec C N fin c) N st' K)=some v from h)
    refine wp_loop_rounds N ?_
    have key: ∀(n:Nat) {O:Own} {m:Nat->Value} {st:St} {a:Act} {w:World},Sim V0 O0 w0 O m st a w->rounds (meet C 2 c) (exec C N fin c) n st K=some v->Code.rounds P c (Post V0 O0 w0 fin K v) n a w:=by
      intro n
      induction n with
      | zero=>intro O m st a w _ h;cases h
      | succ n ihn =>
        intro O m st a w hS h
        refine wp_mono (ih (K:=fun | .normal,st'=>meet C 2 c st' fun st''=>rounds (meet C 2 c) (exec C N fin c) n st'' K | .exit id,st'=>K (.exit id) st') hS h) fun e a' w' hq=> ?_
        cases e with
        | normal =>
          obtain⟨O2,m2,st2,hS2,h2⟩:=hq
          obtain⟨O3,m3,st3,hS3,h3⟩:=lN hS2 h2
          exact ihn hS3 h3
        | exit id=>exact hq
        | ret=>exact hq
        | goto l=>exact hq
        | panic ch=>exact hq
        | outgrown=>exact hq
    exact key N hS1 h1
  | scope c ih =>
    intro O m st a w K hS h
    refine wp_scope_straight (wp_mono (ih hS (show exec C N fin c st K=some v from h)) fun e a' w' hq=> ?_)
    cases e<;>first | exact hq | exact hq.elim
  | _=>intro O m st a w K hS h;cases h
end
end Go.Proofs.YtbnphelpndnnfabGreatDoor.Vm
namespace Go.Proofs.YtbnphelpndnnfabGreatDoor.Vm
open Classical
def IP:Sh->Sh
  | .box ks=>.box ks
  | .map kt vt=>.map kt vt
  | .clo _ ks=>.box ks
  | _=>.cell false .bool
def ApX:Sh->Nat->A
  | .box _,i=>.ptr (256*i) 0
  | .map _ _,i=>.own (256*i)
  | .clo _ _,i=>.ptr (256*i) 0
  | _,_=>.bool true
def IQ:List Sh->Nat->List A
  | [],_=>[]
  | s::ss,i=>ApX s i::IQ ss (i+1)
def unbox:A->A
  | .box cs=>.agg cs
  | a=>a
def zV (Dv:List Sh) (xs:List A) (n:Nat):St:= {tmps:=(EG 0 256 Dv xs 0).2.1++List.replicate (n - Dv.length) .undef,Dj:=DC [] (EG 0 256 Dv xs 0).2.2}
def Ac2 (C:Ctx) (st:St) (q:Nat×Option Nat):List Bool×A :=
  match q.2 with
  | none=>([Nat.blt q.1 st.tmps.length],st.tmps.getD q.1 .undef)
  | some ty=>match Us C st.Dj ty (st.tmps.getD q.1 .undef)with
    | δ =>(Nat.blt q.1 st.tmps.length:: δ.ok,δ.val)
def Ia (C:Ctx) (outs:List (Nat×Option Nat)) (st:St):List A:=outs.map (fun q=>(Ac2 C st q).2)
def finish (C:Ctx) (Dv DI:List Sh) (outs:List (Nat×Option Nat)) (st:St):Option (List A) :=
  allT ((DN st.Dj DI (Ia C outs st)).1++(DN st.Dj (Dv.map IP) (IQ Dv 0)).1 ++
      [nodup ((Gs st.Dj 256000 256 DI (Ia C outs st)++Gs st.Dj 0 256 (Dv.map IP) (IQ Dv 0)).map (·.1)),!(DI.any wS||(Dv.map IP).any wS)||((DN st.Dj DI (Ia C outs st)).2.2.1.isEmpty&&(DN st.Dj (Dv.map IP) (IQ Dv 0)).2.2.1.isEmpty)]++outs.flatMap (fun q=>(Ac2 C st q).1))
    (some ((DN st.Dj DI (Ia C outs st)).2.1++(ES Dv 0).map (fun i=>unbox ((DN st.Dj (Dv.map IP) (IQ Dv 0)).2.1.getD i .undef))))
def runK {ρ :Type} (C:Ctx) (N:Nat) (Dv:List Sh) (n:Nat) (code:Code) (fin:St->Option ρ) (xs:List A):Option ρ :=
  allT ((EG 0 256 Dv xs 0).1++[nodup ((EG 0 256 Dv xs 0).2.2.map (·.1)),!(has ((EG 0 256 Dv xs 0).2.2.map (·.1)) 255)])
    (exec C N fin code (zV Dv xs n) fun
      | .normal,st=>fin st
      | .exit _,_=>none)
section
variable {P:Program} {C:Ctx} {V0:Nat->Value} {O0 O:Own} {w0 w:World} {m:Nat->Value} {st:St} {a:Act}
theorem NL {id:Nat}: ∀(ks:List (Bool×CK)) (cs:List A) (j0:Nat),∀ p∈(DT id ks cs j0).2.2,∃ x,p.1=id+x/\x<j0+ks.length:=by
  intro ks
  induction ks with
  | nil=>intro cs j0 p hp;simp [DT]at hp
  | cons k ks ih =>
    intro cs j0 p hp
    have step:p∈(DT id ks cs (j0+1)).2.2-> ∃ x,p.1=id+x/\x<j0+(k::ks).length:=by
      intro h
      obtain⟨x,h1,h2⟩:=ih cs (j0+1) p h
      exact⟨x,h1,by simp only[List.length_cons];omega⟩
    obtain⟨u,k⟩:=k
    cases u with
    | false=>exact step hp
    | true =>
      cases k with
      | sl e sz =>
        simp only[DT]at hp
        rcases List.mem_cons.1 hp with rfl | hp
        ·exact⟨j0,rfl,by simp⟩
        ·exact step hp
      | sln e sz =>
        simp only[DT]at hp
        rcases List.mem_cons.1 hp with rfl | hp
        ·exact⟨j0,rfl,by simp⟩
        ·exact step hp
      | bx t =>
        simp only[DT]at hp
        rcases List.mem_cons.1 hp with rfl | hp
        ·exact⟨j0,rfl,by simp⟩
        ·exact step hp
      | _=>simp [DT]at hp
theorem An1 {id:Nat} {s:Sh} {x:A} (hok:D7 (back id s x).1): ∀ p∈(back id s x).2.2,∃ i,p.1=id+i/\i<255:=by
  intro p hp
  cases s with
  | cell u k =>
    obtain⟨i,h1,h2⟩:=NL _ _ _ p hp
    exact⟨i,h1,by simp at h2;omega⟩
  | agg ks =>
    simp only[back]at hok hp
    have:=Nat.le_of_ble_eq_true hok.cons.1
    obtain⟨i,h1,h2⟩:=NL _ _ _ p hp
    exact⟨1+i,by omega,by omega⟩
  | box ks =>
    simp only[back]at hok hp
    have:=Nat.le_of_ble_eq_true hok.cons.1
    rcases List.mem_cons.1 hp with rfl | hp
    ·exact⟨0,rfl,by omega⟩
    ·obtain⟨i,h1,h2⟩:=NL _ _ _ p hp
     exact⟨1+i,by omega,by omega⟩
  | clo f' ks =>
    simp only[back]at hok hp
    have:=Nat.le_of_ble_eq_true hok.cons.1
    rcases List.mem_cons.1 hp with rfl | hp
    ·exact⟨0,rfl,by omega⟩
    ·obtain⟨i,h1,h2⟩:=NL _ _ _ p hp
     exact⟨1+i,by omega,by omega⟩
  | map kt vt=>simp_all[back,Sh,D7]
theorem AlJ {f:Nat->Value}: ∀(ss:List Sh) (rs:List A) (j0:Nat),D7 (EG 0 256 ss rs j0).1-> ∀ p∈QC w f 0 256 ss rs j0,p.2=G7 w (f (p.1 / 256)) (p.1 % 256):=by
  intro ss
  induction ss with
  | nil=>grind[QC]
  | cons s ss ih =>
    intro rs j0 hok p hp
    simp only[EG]at hok
    obtain⟨h1,h2⟩:=hok.append
    all_goals grind[QC,An1]
theorem AnR {Dv:List Sh} {xs:List A} {n:Nat} {vs:Array Value} (hI:Inv O w) (hv:vs.size=xs.length) (hl:xs.length=Dv.length) (h: ∀ j,j<xs.length->IR O w (256*j) (vs.getD j undef) (xs.getD j .undef))
    (hok:D7 (EG 0 256 Dv xs 0).1) (hnd:nodup ((EG 0 256 Dv xs 0).2.2.map (·.1))=true) (h255:has ((EG 0 256 Dv xs 0).2.2.map (·.1)) 255=false) :
    Sim (fun o=>innerS w (Dv.getD (o / 256) (.agg [])) (vs.getD (o / 256) undef)) O w O (fun o=>G7 w (innerS w (Dv.getD (o / 256) (.agg [])) (vs.getD (o / 256) undef)) (o % 256)) (zV Dv xs n) {tmps:=vs++Array.replicate (n - vs.size) undef,defers:=[]} w:=by
  have hmem: ∀ o x,Dy (DC [] (EG 0 256 Dv xs 0).2.2) o=some x->(o,x)∈(EG 0 256 Dv xs 0).2.2:=by
    intro o x hx
    rcases Xh _ (AbH hx)with h | h
    ·exact h
    ·cases h
  have hget: ∀ p∈(EG 0 256 Dv xs 0).2.2,Dy (DC [] (EG 0 256 Dv xs 0).2.2) p.1=some p.2:=fun p hp=>jJ (Dj:=[]) (upd:=[]) (del:=[]) hnd (o:=p.1) (x:=p.2) hp
  obtain⟨r1,r2,r3⟩:=AcX (Oc:=O) (O':=O) (w:=w) (objs':=DC [] (EG 0 256 Dv xs 0).2.2) (m':=fun o=>G7 w (innerS w (Dv.getD (o / 256) (.agg [])) (vs.getD (o / 256) undef)) (o % 256)) (cid:=0) (cst:=256) (id:=0) (stride:=256) (f:=fun j=>vs.getD j undef) (g:=fun j=>innerS w (Dv.getD j (.agg [])) (vs.getD j undef)) (rs:=xs)
    (fun _ _ _ h hc=>⟨h,hc⟩) (fun _ _ h=>h) Dv 0 (fun j _=>by rw[Nat.zero_add]) (fun j hj=>by rw[Nat.zero_add,Nat.zero_add];exact h j (by rw[hl];exact hj)) (fun j _ b k i _ hb=>hb) hok hget
    (fun p hp=>(AlJ Dv xs 0 hok p hp).symm)
  refine⟨rfl,?_,fun t ht=> ?_,fun o x hx=>r3 _ (hmem o x hx),Moves.refl O _ w,fun b k o _ ho hne=>⟨o,ho,hne⟩,fun o x hx e=> ?_,fun b k _ h=>h,fun o hr _=> ?_,fun b k _ h=>h,hI⟩
  ·simp [zV,r1,hv,hl]
  ·show DD O _ _ w (((vs++Array.replicate (n - vs.size) undef).getD t undef)) (((EG 0 256 Dv xs 0).2.1++List.replicate (n - Dv.length) A.undef).getD t .undef)
   rcases Nat.lt_or_ge t Dv.length with htl | htl
   ·have e1:((EG 0 256 Dv xs 0).2.1++List.replicate (n - Dv.length) A.undef).getD t .undef=(EG 0 256 Dv xs 0).2.1.getD t .undef:=by
      simp [List.getD_eq_getElem?_getD,List.getElem?_append_left,r1,htl]
    have e2:(vs++Array.replicate (n - vs.size) undef).getD t undef=vs.getD t undef:=by
      have:t<vs.size:=by rw[hv,hl];exact htl
      simp [Array.getD_eq_getD_getElem?,Array.getElem?_append_left,this]
    rw[e1,e2]
    have:=(r2 t htl).1
    rw[Nat.zero_add]at this;exact this
   ·have e1:((EG 0 256 Dv xs 0).2.1++List.replicate (n - Dv.length) A.undef).getD t .undef= .undef:=by
      rw[List.getD_eq_getElem?_getD,List.getElem?_append_right (by rw[r1];exact htl),List.getElem?_replicate]
      split<;>rfl
    rw[e1];trivial
  ·subst e
   have:=hmem _ x hx
   have h':has ((EG 0 256 Dv xs 0).2.2.map (·.1)) 255=true:=Ik.2 (List.mem_map.2 ⟨_,this,rfl⟩)
   rw[h']at h255;cases h255
  ·unfold SC at hr
   rw[Bool.and_eq_true]at hr
   have:=Nat.eq_of_beq_eq_true hr.2
   rw[this];rfl
theorem Ajf {fet:Fet}: ∀(ss:List Sh) (xs:List A),D7 (DN fet ss xs).1-> ∀ i s,ss[i]? =some s->Eo s=true->Ae7 (unbox ((DN fet ss xs).2.1.getD i .undef))=(DN fet ss xs).2.1.getD i .undef:=by
  intro ss
  induction ss with
  | nil=>intro xs _ i s h;simp at h
  | cons s ss ih =>
    intro xs hok i s' h hb
    cases xs with
    | nil=>have:=hok false (by simp [DN]);cases this
    | cons x xs =>
      simp only[DN]at hok ⊢
      obtain⟨h1,h2⟩:=hok.append
      cases i with
      | zero =>
        simp at h;subst h
        cases s with
        | cell _ _=>cases hb
        | agg _=>cases hb
        | map kt vt =>
          cases x with
          | own q =>
            unfold DU at h1 ⊢
            dsimp only at h1 ⊢
            cases hg:Dy fet q with
            | none=>rw[hg]at h1;have:=h1 false (by simp);cases this
            | some y =>
              cases y with
              | mp l=>rfl
              | _=>rw[hg]at h1;have:=h1 false (by simp);cases this
          | _=>have:=h1 false (by simp [DU]);cases this
        | box ks =>
          cases x with
          | ptr q off =>
            unfold DU at h1 ⊢
            dsimp only at h1 ⊢
            cases hb:Fp fet q with
            | none=>rw[hb]at h1;have:=h1 false (by simp);cases this
            | some cs=>rfl
          | _=>have:=h1 false (by simp [DU]);cases this
        | clo f' ks =>
          cases x with
          | clo g q =>
            unfold DU at h1 ⊢
            dsimp only at h1 ⊢
            cases hb:Fp fet q with
            | none=>rw[hb]at h1;have:=h1 false (by simp);cases this
            | some cs=>rfl
          | _=>have:=h1 false (by simp [DU]);cases this
      | succ i=>simpa using ih xs h2 i s' (by simpa using h) hb
theorem AlP: ∀(ss:List Sh) (i0 j i:Nat),(ES ss i0)[j]? =some i-> ∃ r s,i=i0+r/\ss[r]? =some s/\Eo s=true:=by
  intro ss
  induction ss with
  | nil=>grind[ES]
  | cons s ss ih =>
    intro i0 j i h
    have step: ∀ j':Nat,(ES ss (i0+1))[j']? =some i-> ∃ r s',i=i0+r/\(s::ss)[r]? =some s'/\Eo s'=true:=by
      intro j' h'
      obtain⟨r,s',h1,h2,h3⟩:=ih (i0+1) j' i h'
      exact⟨r+1,s',by omega,by simpa using h2,h3⟩
    simp only[ES]at h
    cases s with
    | box ks =>
      simp only[Eo,cond_true]at h
      cases j with
      | zero=>simp_all[Sh,ES,Eo]
      | succ j=>exact step j (by simpa using h)
    | clo f' ks =>
      simp only[Eo,cond_true]at h
      cases j with
      | zero=>simp_all[Sh,ES,Eo]
      | succ j=>exact step j (by simpa using h)
    | map kt vt =>
      simp only[Eo,cond_true]at h
      cases j with
      | zero=>simp_all[Sh,ES,Eo]
      | succ j=>exact step j (by simpa using h)
    | cell u k=>grind[Eo]
    | agg ks=>grind[Eo]
theorem Aj0: ∀(ss:List Sh) (i0:Nat),(IQ ss i0).length=ss.length:=by
  intro ss
  induction ss with
  | nil=>intro i0;rfl
  | cons s ss ih=>intro i0;simp [IQ,ih]
theorem AmJ: ∀(ss:List Sh) (i0 j:Nat),j<ss.length->(IQ ss i0).getD j .undef=ApX (ss.getD j (.agg [])) (i0+j):=by
  intro ss
  induction ss with
  | nil=>intro i0 j h;simp at h
  | cons s ss ih =>
    intro i0 j h
    cases j with
    | zero=>grind[IQ]
    | succ j=>grind[IQ]
end
end Go.Proofs.YtbnphelpndnnfabGreatDoor.Vm
namespace Go.Proofs.YtbnphelpndnnfabGreatDoor.Vm
open Classical
def rv:Nat×Option Nat->ResultVar
  | (t,none)=>.tmp t
  | (a,some ty)=>.cell a ty
def Ae6 (tmps:Array Value):ResultVar->Sem Value
  | .tmp t=>pure (tmps.getD t undef)
  | .cell a t=>do loadVar t (<- asAddr (tmps.getD a undef))
theorem Apu {P:Program} {w:World} {α :Type} {g: α ->Sem Value}: ∀(l:List α) (f:Nat->Value),(∀(j:Nat) (x: α),l[j]? =some x->(g x).run P w= .ok (f j) w)->(l.mapM g).run P w= .ok ((List.range l.length).map f) w:=by
  intro l
  induction l with
  | nil=>intro f _;simp
  | cons x r ih =>
    intro f h
    have h1:=ih (fun j=>f (j+1)) (fun j y hy=>h (j+1) y (by simpa using hy))
    have h2:=h 0 x rfl
    rw[List.mapM_cons]
    simp only[Sem.run_bind,h2,Result.andThen_ok,h1,Sem.run_pure,List.length_cons,List.range_succ_eq_map,List.map_cons,List.map_map]
    rfl
def Akm (us:Array Value):Value:=if h:us.size=1 then us[0]else .tuple us
theorem AkZ {P:Program} {w:World} {fn:Func} {outs:List (Nat×Option Nat)} {tmps:Array Value} (h:fn.results=(outs.map rv).toArray) (f:Nat->Value) (hf: ∀(j:Nat) (q:Nat×Option Nat),outs[j]? =some q->(Ae6 tmps (rv q)).run P w= .ok (f j) w) :
    (results fn tmps).run P w= .ok (Akm ((List.range outs.length).map f).toArray) w:=by
  have e:results fn tmps=(do let vs <- fn.results.mapM (Ae6 tmps);pure (Akm vs)):=by
    have e0:Ae6 tmps=(fun | .tmp t=>pure (tmps.getD t undef) | .cell a t=>do loadVar t (<- asAddr (tmps.getD a undef))):=by
      funext x;cases x<;>rfl
    unfold results Akm
    rw[e0]
    rfl
  rw[e,h,List.mapM_toArray]
  have:=Apu (P:=P) (w:=w) (g:=Ae6 tmps) (outs.map rv) f (fun j x hx=>by
    rw[List.getElem?_map]at hx
    cases hq:outs[j]? with
    | none=>rw[hq]at hx;cases hx
    | some q=>rw[hq]at hx;injection hx with hx;rw[<- hx];exact hf j q hq)
  rw[List.length_map]at this
  simp only[map_eq_pure_bind,bind_assoc,pure_bind,Sem.run_bind,Sem.run_pure,this,Result.andThen_ok]
section
variable {P:Program} {C:Ctx} {V0:Nat->Value} {O0 O:Own} {w0 w:World} {m:Nat->Value} {st:St} {a:Act}
theorem Anf {Dv:List Sh} {i:Nat} {s:Sh} (h:Dv[i]? =some s) (hb:Eo s=true):(Dv.map IP)[i]? =some (IP s)/\Eo (IP s)=true/\Eo (Dv.getD i (.agg []))=true/\i<Dv.length:=by
  have hi:i<Dv.length:=by
    rcases Nat.lt_or_ge i Dv.length with h' | h'
    ·exact h'
    ·rw[List.getElem?_eq_none h']at h;cases h
  refine⟨(by rw[List.getElem?_map,h];rfl),(by cases s<;>first | rfl | (cases hb;done)),?_,hi⟩
  rw[List.getD_eq_getElem?_getD,h];exact hb
theorem AnQ {Dv DI:List Sh} {outs:List (Nat×Option Nat)} {rs:List A} {vs:Array Value} {sg:Sig} {fn:Func} (hC:TOk P C) (hfn:fn.results=(outs.map rv).toArray) (hp:sg.Dv=Dv) (hr:sg.DI=DI) (h100:Dv.length<=100)
    (hptr: ∀ i,i<Dv.length->Eo (Dv.getD i (.agg []))=true->(innerS w0 (Dv.getD i (.agg [])) (vs.getD i undef)).oneCell'=true)
    (hS:Sim (fun o=>innerS w0 (Dv.getD (o / 256) (.agg [])) (vs.getD (o / 256) undef)) O0 w0 O m st a w) (h:finish C Dv DI outs st=some rs) :
    ∃ v O',(results fn a.tmps).run P w= .ok v w/\Came O0 w0 vs sg rs v O' w:=by
  obtain⟨hok,hrs⟩:=MZ h
  injection hrs with hrs
  obtain⟨hokA,hokO⟩:=hok.append
  obtain⟨hokA,hokB⟩:=hokA.append
  obtain⟨hok1,hok2⟩:=hokA.append
  have hnd:=hokB.cons.1
  have hwr:=hokB.cons.2.cons.1
  have hf:H5 st.Dj st.Dj:=fun _ _ h=>h
  generalize hN:Gs st.Dj 256000 256 DI (Ia C outs st)++Gs st.Dj 0 256 (Dv.map IP) (IQ Dv 0)=N at *
  have hout: ∀ j:Nat,∃ u:Value,∀ q,outs[j]? =some q->(Ae6 a.tmps (rv q)).run P w= .ok u w/\DD O st.Dj m w u (Ac2 C st q).2:=by
    intro j
    cases hj:outs[j]? with
    | none=>exact⟨undef,fun q hq=>by cases hq⟩
    | some q =>
      have hqok:D7 (Ac2 C st q).1:=fun b hb=>hokO b (List.mem_flatMap.2 ⟨q,List.mem_of_getElem? hj,hb⟩)
      obtain⟨t,ty⟩:=q
      cases ty with
      | none =>
        have hlt:=hqok.cons.1
        rw[Nat.blt_eq]at hlt
        exact⟨a.tmps.getD t undef,fun q hq=>by injection hq with hq;subst hq;exact⟨rfl,hS.tmps t hlt⟩⟩
      | some ty =>
        have hq2:D7 (Nat.blt t st.tmps.length::(Us C st.Dj ty (st.tmps.getD t .undef)).ok):=hqok
        obtain⟨hlt,hld⟩:=hq2.cons
        rw[Nat.blt_eq]at hlt
        obtain⟨u,hu1,hu2⟩:=(AgK (o:= {(default:Oper)with op:=.load ty (.tmp t)}) hC (fun q x hq=>⟨hq,hS.Dj q x hq⟩) rfl (Ach hS (.tmp t)) hld).run
        refine⟨u,fun q hq=> ?_⟩
        injection hq with hq;subst hq
        refine⟨?_,hu2⟩
        have hev:a.eval (.tmp t)=a.tmps.getD t undef:=by simp [Act.eval]
        simp only[execOp,Instr.loadAt,hev]at hu1
        show(do loadVar ty (<- asAddr (a.tmps.getD t undef)):Sem Value).run P w=_
        generalize a.tmps.getD t undef=z at hu1 ⊢
        cases z with
        | pointer p =>
          cases p with
          | none=>simp [Instr.sureAddr]at hu1
          | some ad =>
            simp only[asAddr,Sem.run_bind,Sem.run_pure,Result.andThen_ok]
            simp only[Instr.sureAddr,pure_bind,Sem.run_bind,Sem.run_pure]at hu1
            cases hl:(loadVar ty ad).run P w with
            | ok x w2 =>
              rw[hl]at hu1
              simp only[Result.andThen_ok,Sem.run_pure,Result.ok.injEq,Next.value.injEq]at hu1
              rw[hu1.1,hu1.2]
            | halt x w2=>rw[hl]at hu1;simp [Result.andThen]at hu1
        | _=>simp [Instr.sureAddr]at hu1
  obtain⟨fv,hfv⟩:=Classical.axiomOfChoice hout
  obtain⟨g1,g2,g3,_,g5⟩:=VF (W:=(DN st.Dj DI (Ia C outs st)).2.2.1++(DN st.Dj (Dv.map IP) (IQ Dv 0)).2.2.1=[]) hf hS.Dj 256 DI (Ia C outs st) 256000 fv (fun e=>by rw[e]at hwr;simpa using hwr) (fun j hj=>by
    have hj':j<outs.length:=by simpa [Ia]using hj
    have e:(Ia C outs st).getD j .undef=(Ac2 C st outs[j]).2:=by
      simp [Ia,List.getD_eq_getElem?_getD,hj']
    rw[e];exact(hfv j _ (List.getElem?_eq_getElem hj')).2) hok1
  have hmaskl:(Dv.map IP).length=Dv.length:=by simp
  obtain⟨k1,k2,k3,_,k5⟩:=VF (W:=(DN st.Dj DI (Ia C outs st)).2.2.1++(DN st.Dj (Dv.map IP) (IQ Dv 0)).2.2.1=[]) hf hS.Dj 256 (Dv.map IP) (IQ Dv 0) 0 (fun j=>if Eo (Dv.getD j (.agg []))then innerS w0 (Dv.getD j (.agg [])) (vs.getD j undef)else .bool true) (fun e=>by rw[e,Bool.or_true]at hwr;simpa using hwr) (fun j hj=>by
    have hj':j<Dv.length:=by rw[Aj0]at hj;exact hj
    rw[AmJ Dv 0 j hj',Nat.zero_add]
    have hroot:SC (256*j)=true:=by
      unfold SC
      rw[Bool.and_eq_true,Nat.blt_eq]
      refine⟨by omega,?_⟩
      rw[Nat.mul_mod_right];rfl
    have hrt: ∀ x,Dy st.Dj (256*j)=some x->m (256*j)=innerS w0 (Dv.getD j (.agg [])) (vs.getD j undef):=fun x hx=>by
      have:=hS.root (256*j) hroot (by rw[hx];rfl)
      rw[Nat.mul_div_cancel_left j (by decide)]at this
      exact this
    have hp:=hptr j hj'
    generalize Dv.getD j (.agg [])=s at hp hrt ⊢
    cases s with
    | box ks =>
      rw[if_pos (show Eo (Sh.box ks)=true from rfl)]
      refine⟨hp rfl,?_⟩
      cases hx:Dy st.Dj (256*j)with
      | none=>trivial
      | some x =>
        cases x with
        | arr _ _ _=>trivial
        | mp _=>trivial
        | box cs =>
          obtain⟨b,base,h1,_⟩:=hS.Dj _ _ hx
          exact⟨b,base,h1,by rw[<- hrt _ hx,h1];rfl⟩
    | clo f' ks =>
      rw[if_pos (show Eo (Sh.clo f' ks)=true from rfl)]
      refine⟨hp rfl,?_⟩
      cases hx:Dy st.Dj (256*j)with
      | none=>trivial
      | some x =>
        cases x with
        | arr _ _ _=>trivial
        | mp _=>trivial
        | box cs =>
          obtain⟨b,base,h1,_⟩:=hS.Dj _ _ hx
          exact⟨b,base,h1,by rw[<- hrt _ hx,h1];rfl⟩
    | map kt vt =>
      rw[if_pos (show Eo (Sh.map kt vt)=true from rfl)]
      refine⟨hp rfl,?_⟩
      cases hx:Dy st.Dj (256*j)with
      | none=>trivial
      | some x =>
        cases x with
        | box _=>trivial
        | arr _ _ _=>exact(hrt _ hx).symm
        | mp _=>exact(hrt _ hx).symm
    | cell u k=>rw[if_neg (show ¬ Eo (Sh.cell u k)=true from fun h=>by cases h)];exact D6.bool true
    | agg ks=>rw[if_neg (show ¬ Eo (Sh.agg ks)=true from fun h=>by cases h)];exact D6.bool true) hok2
  obtain⟨O1,hS1,hp1,_,hv1,_,hk1⟩:=hS.freezes _ (g3.append k3)
  have hρ : ∀ p∈N,look N p.1=some p.2:=Ajs hnd
  have halive: ∀ p∈N,(Dy st.Dj p.1).isSome:=by
    intro p hp'
    rw[<- hN]at hp'
    rcases List.mem_append.1 hp' with hp' | hp'
    ·exact VL _ _ _ hok1 p hp'
    ·exact VL _ _ _ hok2 p hp'
  generalize hU:(DN st.Dj DI (Ia C outs st)).2.2.1++(DN st.Dj (Dv.map IP) (IQ Dv 0)).2.2.1=U at *
  have hFU:Frz st.Dj U:=by rw[<- hU];exact g3.append k3
  have hupdO: ∀ p∈U,ET O1 (DC st.Dj U) m w p.1 p.2:=by
    intro p hp
    obtain⟨x,hx1,hx2⟩:=GZ U st.Dj p.1 ⟨p,hp,rfl⟩
    obtain⟨e,fz,l,k1,k2⟩:=hFU p hp
    obtain⟨e',fz',l',k3,k4⟩:=hFU _ hx1
    dsimp only at k3 k4
    rw[k1]at k3
    injection k3 with k3;injection k3 with q1 q2 q3
    subst q1;subst q3
    rw[k2,<- k4]
    exact hS1.Dj p.1 x hx2
  have hR:=g5 (ρ :=look N) hp1 (fun p hp=>hv1 p (by rw[<- hU];exact List.mem_append_left _ hp)) (fun p hp=>hupdO p (by rw[<- hU];exact List.mem_append_left _ hp)) hk1 (fun p hp=>hρ p (by rw[<- hN];exact List.mem_append_left _ hp))
  have hB:=k5 (ρ :=look N) hp1 (fun p hp=>hv1 p (by rw[<- hU];exact List.mem_append_right _ hp)) (fun p hp=>hupdO p (by rw[<- hU];exact List.mem_append_right _ hp)) hk1 (fun p hp=>hρ p (by rw[<- hN];exact List.mem_append_right _ hp))
  have hol:outs.length=DI.length:=by rw[<- g2];simp [Ia]
  refine⟨_,H8 O1 (look N),AkZ hfn fv (fun j q hq=>(hfv j q hq).1),hS1.frame,fun b k hb hne=>hS1.less b k hb (fun e=>hne (SB.2 e)),fun b k hb hj=> ?_,?_,?_,?_⟩
  ·have:=hS1.bD b k hb hj
   unfold H8
   rw[this]
   dsimp only
   cases hl:look N 255 with
   | none=>rfl
   | some i =>
     have h1:=halive _ (xH hl)
     obtain⟨x,hx⟩:=Option.isSome_iff_exists.1 h1
     exact absurd rfl (hS.ids 255 x hx)
  ·rw[<- hrs,hp,hr];simp [g1]
  ·refine⟨((List.range outs.length).map fv).toArray,by rw[hr];simp [hol],rfl,fun k hk=> ?_⟩
   have hk':k<outs.length:=by simpa using hk
   have hus:(((List.range outs.length).map fv).toArray).getD k undef=fv k:=by
     simp [Array.getD_eq_getD_getElem?,hk']
   rw[hus]
   have:=hR k (by rw[<- hol];exact hk')
   have e:rs.getD k .undef=(DN st.Dj DI (Ia C outs st)).2.1.getD k .undef:=by
     rw[<- hrs,List.getD_eq_getElem?_getD,List.getElem?_append_left (by rw[g1,<- hol];exact hk'),<- List.getD_eq_getElem?_getD]
   rw[e];exact this
  ·intro j i hji
   rw[hp]at hji
   obtain⟨r,s,h1,h2,h2'⟩:=AlP Dv 0 j i hji
   rw[Nat.zero_add]at h1;subst h1
   obtain⟨h3,h3',h4,h5⟩:=Anf h2 h2'
   have h6:=Ajf _ _ hok2 i _ h3 h3'
   have e:rs.getD (sg.DI.length+j) .undef=unbox ((DN st.Dj (Dv.map IP) (IQ Dv 0)).2.1.getD i .undef):=by
     rw[<- hrs,hr,List.getD_eq_getElem?_getD,List.getElem?_append_right (by rw[g1];omega),g1,Nat.add_sub_cancel_left,List.getElem?_map,hji]
     rfl
   rw[e,h6,hp]
   have:=hB i (by rw[hmaskl];exact h5)
   rw[Nat.zero_add,if_pos h4]at this
   exact this
theorem AoB {ρ :Type} {o: ρ} {fin:St->Option ρ} (hC:GV P C) (N:Nat)
    (hdraw: ∀ {C:Ctx},GV P C-> ∀ {ρ :Type} {V0:Nat->Value} {O0:Own} {w0:World} {fin:St->Option ρ} {v: ρ} (id:Nat) (ops:Array Oper) {O:Own} {m:Nat->Value} {st:St} {a:Act} {w:World} (K:Ex->St->Option ρ),Sim V0 O0 w0 O m st a w->LM C ops.toList st=true->Qd C ops.toList ops.toList st (fun st'=>K .normal st')=some v ->
      (Code.region id ops true).wp P (Post V0 O0 w0 fin K v) a w)
    {f:FuncId} {fn:Func} {code:Code} {outs:List (Nat×Option Nat)} {sg:Sig} (hf:P.funcs[f]? =some fn) (hb:fn.body=some code) (hout:fn.results=(outs.map rv).toArray)
    {vs:Array Value} {xs rs:List A} (hI:Inv O w) (hv:vs.size=xs.length) (hl:xs.length=sg.Dv.length) (h100:xs.length<=100) (hx: ∀ j,j<xs.length->IR O w (256*j) (vs.getD j undef) (xs.getD j .undef))
    (h:runK C N sg.Dv fn.ntmps code fin xs=some o) (hrs: ∀ st,fin st=some o->finish C sg.Dv sg.DI outs st=some rs) :
    Calls P f vs w fun e w'=> ∃ v O',e= .returned v/\Came O w vs sg rs v O' w':=by
  obtain⟨hok,h⟩:=MZ h
  obtain⟨hok1,hok2⟩:=hok.append
  obtain⟨hnd,hok2⟩:=hok2.cons
  have h255:=hok2.cons.1
  rw[Bool.not_eq_true']at h255
  have hS:=AnR (n:=fn.ntmps) hI hv hl hx hok1 hnd h255
  have hptr: ∀ i,i<sg.Dv.length->Eo (sg.Dv.getD i (.agg []))=true->(innerS w (sg.Dv.getD i (.agg [])) (vs.getD i undef)).oneCell'=true:=by
    intro i hi hb
    have hi':i<xs.length:=by rw[hl];exact hi
    have hbk:D7 (back (256*i) (sg.Dv.getD i (.agg [])) (xs.getD i .undef)).1:=by
      have key: ∀(ss:List Sh) (j0 i:Nat),i<ss.length->D7 (EG 0 256 ss xs j0).1->D7 (back (0+256*(j0+i)) (ss.getD i (.agg [])) (xs.getD (j0+i) .undef)).1:=by
        intro ss
        induction ss with
        | nil=>intro j0 i h;simp at h
        | cons s ss ih =>
          intro j0 i h hok
          simp only[EG]at hok
          obtain⟨h1,h2⟩:=hok.append
          cases i with
          | zero=>simpa using h1
          | succ i =>
            have:=ih (j0+1) i (by simpa using h) h2
            rw[show j0+1+i=j0+(i+1)from by omega]at this
            simpa using this
      have:=key sg.Dv 0 i hi hok1
      rw[Nat.zero_add,Nat.zero_add]at this;exact this
    have hir:=hx i hi'
    generalize sg.Dv.getD i (.agg [])=s at hb hbk
    cases s with
    | box ks =>
      simp only[back]at hbk
      have h2:=hbk.cons.2.cons.1
      generalize xs.getD i .undef=x at h2 hir
      cases x with
      | box cs =>
        obtain⟨b,base,h3,_⟩:=hir
        rw[h3];rfl
      | _=>cases h2
    | clo f' ks =>
      simp only[back]at hbk
      have h2:=hbk.cons.2.cons.1
      generalize xs.getD i .undef=x at h2 hir
      cases x with
      | cbx g cs =>
        obtain⟨b,base,h3,_⟩:=hir
        rw[show innerS w (.clo f' ks) (vs.getD i undef)=_ from h3.inner (ks:=ks)];rfl
      | _=>cases h2
    | map kt vt =>
      obtain⟨l,hl',_,_⟩:=lC (show A.l9 kt vt _=true from hbk.cons.1)
      rw[hl']at hir
      obtain⟨r,_,_,h3,_⟩:=(show Ic O w _ _ l from hir)
      rw[h3];rfl
    | _=>cases hb
  refine calls_of_wp hf hb (wp_mono (AlX hC N (fun hC'=>hdraw hC') code hS h) fun e a' w' hq=> ?_)
  have fin':(∃ O' m' st',Sim (fun o=>innerS w (sg.Dv.getD (o / 256) (.agg [])) (vs.getD (o / 256) undef)) O w O' m' st' a' w'/\fin st'=some o)->a'.defers=[]/\ ∃ v,(results fn a'.tmps).run P w'= .ok v w'/\ ∃ v' O',Ending.returned v= .returned v'/\Came O w vs sg rs v' O' w':=by
    rintro ⟨O',m',st',hS',hfin⟩
    obtain⟨v,O2,hres,hcame⟩:=AnQ (sg:=sg) hC.T hout rfl rfl (by rw[<- hl];exact h100) hptr hS' (hrs st' hfin)
    exact⟨hS'.defers,v,hres,v,O2,rfl,hcame⟩
  cases e with
  | normal=>exact fin' hq
  | ret=>exact fin' hq
  | exit id =>
    obtain⟨O',m',st',_,h'⟩:=hq
    cases h'
  | goto l=>exact hq.elim
  | panic ch=>exact hq.elim
  | outgrown=>exact hq.elim
end
