import Derived.Test.YtpaimpmokhihmaaGreatDoorA11
import Derived.Scope
import Derived.LoopN
import Derived.Tactics
set_option linter.all false
namespace Go.Proofs.YtpaimpmokhihmaaGreatDoor.Vm
open Classical
section
variable {P:Program} {C:Ctx} {V0:Nat->Value} {O0 O:Own} {w0 w:World} {m:Nat->Value} {st:St} {a:Act}
theorem AbL (p:Nat->Bool) (l:List (Nat×Obj)) (k:Nat):Jr (l.filter (fun q=>p q.1)) k=if p k then Jr l k else none:=by
 induction l with
 | nil=>simp [Jr]
 | cons q r ih=>grind[LU]
theorem AfJ (g:Obj->Obj) (l:List (Nat×Obj)) (k:Nat):Jr (l.map (fun q=>(q.1,g q.2))) k=(Jr l k).map g:=by
 induction l with
 | nil=>rfl
 | cons q r ih=>grind[LU]
theorem drop_length (keep:List Nat): ∀(l:List A) (i:Nat),(drop keep l i).length=l.length:=by
 intro l
 induction l with
 | nil=>intro i;rfl
 | cons x r ih=>intro i;simp [drop,ih]
theorem AeH (keep:List Nat): ∀(l:List A) (i t:Nat),(drop keep l i).getD t .undef= .undef\/(drop keep l i).getD t .undef=l.getD t .undef:=by
 intro l
 induction l with
 | nil=>grind[drop]
 | cons x r ih =>
  intro i t;cases t with
  | zero=>grind[drop,has]
  | succ t=>simp_all[drop]
theorem Sim.dropped (hS:Sim V0 O0 w0 O m st a w) (keep Jm:List Nat):Sim V0 O0 w0 O m {tmps:=drop keep st.tmps 0,Jm:=st.Jm.filter (fun p=>has Jm p.1)} a w:=by
 have hag: ∀ o x,Jr (st.Jm.filter (fun p=>has Jm p.1)) o=some x->Jr st.Jm o=some x:=by
  intro o x h;rw[AbL (has Jm)]at h;split at h
  .exact h
  .cases h
 have hE:NY st.Jm m (st.Jm.filter (fun p=>has Jm p.1)) m (fun _=>False):=fun o x h=>.inr ⟨x,hag o x h,rfl,rfl⟩;have hp:Lr O w O w:=fun _ _ _ h hc=>⟨h,hc⟩
 refine⟨hS.defers,by rw[hS.size];exact(drop_length _ _ _).symm,fun t ht=> ?_,fun o x h=> ?_,hS.frame,hS.own,fun o x h=>hS.ids o x (hag o x h),hS.less,fun o hr ho=>(by obtain⟨x,hx⟩:=Eg.1 ho;exact hS.root o hr (by rw[hag o x hx];rfl)),hS.VF,hS.inv⟩
 .have ht':t<st.tmps.length:=by
   all_goals grind[drop,drop_length]
  show Jw O _ m w _ ((drop keep st.tmps 0).getD t .undef);rcases AeH keep st.tmps 0 t with h | h
  .rw[h];trivial
  .rw[h];exact(hS.tmps t ht').step hp hE (fun _ _ h=>h)
 .exact(hS.Jm o x (hag o x h)).step (T:=fun _=>False) (Moves.refl O _ w) ⟨fun _ _ _ h=>h,fun _ _ _ _ h _=>h⟩ hE id rfl (fun _ _ h=>h)
def rho (f t o:Nat):Nat:=if o=f then t else o
theorem Ub (f t o:Nat):(bif Nat.beq o f then t else o)=rho f t o:=by grind[Qi,rho]
def Nv (f t:Nat):A->A
 | .ptr o off=>.ptr (rho f t o) off
 | .own o=>.own (rho f t o)
 | .clo g o=>.clo g (rho f t o)
 | .bsl o n=>.bsl (rho f t o) n
 | .osl o n=>.osl (rho f t o) n
 | .KD o i off=>.KD (rho f t o) i off
 | c=>c
theorem Agu (f t:Nat) (cs:List A):Me f t (.agg cs)= .agg (cs.map (Nv f t)):=by show A.agg (cs.map _)=_;congr 1;refine Es fun c _=> ?_;all_goals grind[Nv,Ub]
theorem AhE (f t:Nat) (c:A):(∃ cs,c= .agg cs)\/Me f t c=Nv f t c:=by cases c<;>first | exact .inl ⟨_,rfl⟩ | exact .inr rfl | (right;simp only[Nv,Me,Ub])
structure Ren (O:Own) (Jm:List (Nat×Obj)) (m:Nat->Value) (f t:Nat) (O':Own) (objs':List (Nat×Obj)) (m':Nat->Value):Prop where
 here: ∀ x',Jr objs' t=some x'-> ∃ x,Jr Jm f=some x/\x.shp=x'.shp/\m' t=m f
 there: ∀ o x',o≠t->Jr objs' o=some x'->o≠f/\ ∃ x,Jr Jm o=some x/\x.shp=x'.shp/\m' o=m o
 own: ∀ b k,O' b k=(O b k).map (rho f t)
theorem Ren.JE {O':Own} {Jm objs':List (Nat×Obj)} {m':Nat->Value} {f t:Nat} (h:Ren O Jm m f t O' objs' m'):Lr O w O' w:=by intro b k u hn hc;exact⟨by rw[h.own,hn];rfl,hc⟩
theorem J4.ren {O':Own} {Jm objs':List (Nat×Obj)} {m':Nat->Value} {f t:Nat} (h:Ren O Jm m f t O' objs' m') {v:Value} {c:A} (hn: ∀ i∈c.Lp,i=t->f=t) (hc:J4 O Jm m w v c) :
 J4 O' objs' m' w v (Nv f t c):=by
 have key: ∀ o,(o=t->f=t)-> ∀ x',Jr objs' (rho f t o)=some x'-> ∃ x,Jr Jm o=some x/\x.shp=x'.shp/\m' (rho f t o)=m o:=by
  intro o ho x' hx;unfold rho at hx ⊢;by_cases hf:o=f
  .rw[Dw hf]at hx ⊢;rw[hf];exact h.here x' hx
  .rw[Du hf]at hx ⊢;exact(h.there o x' (fun e=>hf (by rw[e,ho e])) hx).2
 cases c with
 | ptr o off =>
  simp only[J4,Nv]at *
  refine⟨hc.1,?_⟩;have hc:=hc.2;cases hx:Jr objs' (rho f t o)with
  | none=>simp
  | some x' =>obtain⟨x,h1,h2,h3⟩:=key o (hn o (by simp [A.Lp])) x' hx;rw[h1]at hc;simp only[Option.map_some,h2]at hc;simp only[Option.map_some,h3];exact hc
 | own o =>
  simp only[J4,Nv]at *
  refine⟨hc.1,?_⟩;have hc:=hc.2;cases hx:Jr objs' (rho f t o)with
  | none=>simp
  | some x' =>obtain⟨x,h1,h2,h3⟩:=key o (hn o (by simp [A.Lp])) x' hx;rw[h1]at hc;simp only[Option.map_some,h2]at hc;simp only[Option.map_some,h3];exact hc
 | clo k o =>
  simp only[J4,Nv]at *
  obtain⟨h0,p,h4,h5,hc⟩:=hc;refine⟨h0,p,h4,h5.JE h.JE,?_⟩;cases hx:Jr objs' (rho f t o)with
  | none=>simp
  | some x' =>obtain⟨x,h1,h2,h3⟩:=key o (hn o (by simp [A.Lp])) x' hx;rw[h1]at hc;simp only[Option.map_some,h2]at hc;simp only[Option.map_some,h3];exact hc
 | bsl o n =>
  simp only[J4,Nv]at *
  refine⟨hc.1,?_⟩;have hc:=hc.2;cases hx:Jr objs' (rho f t o)with
  | none=>simp
  | some x' =>obtain⟨x,h1,h2,h3⟩:=key o (hn o (by simp [A.Lp])) x' hx;rw[h1]at hc;simp only[Option.map_some,h2]at hc;simp only[Option.map_some,h3];exact hc
 | osl o n =>
  simp only[J4,Nv]at *
  refine⟨hc.1,?_⟩;have hc:=hc.2;cases hx:Jr objs' (rho f t o)with
  | none=>simp
  | some x' =>obtain⟨x,h1,h2,h3⟩:=key o (hn o (by simp [A.Lp])) x' hx;rw[h1]at hc;simp only[Option.map_some,h2]at hc;simp only[Option.map_some,h3];exact hc
 | KD o i off =>
  simp only[J4,Nv]at *
  refine⟨hc.1,?_⟩;have hc:=hc.2;cases hx:Jr objs' (rho f t o)with
  | none=>simp
  | some x' =>obtain⟨x,h1,h2,h3⟩:=key o (hn o (by simp [A.Lp])) x' hx;rw[h1]at hc;simp only[Option.map_some,h2]at hc;simp only[Option.map_some,h3];exact hc
 | elt cs =>obtain⟨b,off,hv,hc⟩:=hc;refine⟨b,off,hv,fun j hj=> ?_⟩;obtain⟨h1,u,h2,h3⟩:=hc j hj;obtain⟨h4,h5⟩:=h.JE _ _ _ h1 h2;exact⟨h4,u,h5,h3.JE h.JE⟩
 | fn f=>exact Jt.JE h.JE hc
 | ump _=>exact hc
 | undef=>exact hc
 | Ky=>exact hc
 | bool b=>exact Jt.JE h.JE hc
 | int k n=>exact Jt.JE h.JE hc
 | str s=>exact Jt.JE h.JE hc
 | sl l=>exact Jt.JE h.JE hc
 | sln l=>exact Jt.JE h.JE hc
 | KO=>exact Jt.JE h.JE hc
 | usl _ _ _=>exact hc
 | agg _=>exact hc
 | tup _=>exact hc
 | box _=>exact hc
 | cbx _ _=>exact hc
 | cnd _ _=>exact hc
theorem Ren.exts {O':Own} {Jm objs':List (Nat×Obj)} {m':Nat->Value} {f t:Nat} (h:Ren O Jm m f t O' objs' m'):NY Jm m objs' m' (fun o=>o=t/\f≠t):=by
 intro o x' hx;by_cases ho:o=t
 .subst ho;by_cases hf:f=o
  .right;obtain⟨x,h1,h2,h3⟩:=h.here x' hx;rw[hf]at h1 h3;exact⟨x,h1,h2,h3⟩
  .exact .inl ⟨rfl,hf⟩
 .exact .inr (h.there o x' ho hx).2
theorem Jw.ren {O':Own} {Jm objs':List (Nat×Obj)} {m':Nat->Value} {f t:Nat} (h:Ren O Jm m f t O' objs' m') {v:Value} {c:A} (hn: ∀ i∈c.ids,i=t->f=t) (hc:Jw O Jm m w v c) :
 Jw O' objs' m' w v (Me f t c):=by
 cases c with
 | agg cs =>
  rw[Agu];obtain⟨vs,h1,h2,h3⟩:=hc;refine⟨vs,h1,by simpa using h2,fun j hj=> ?_⟩;have hj':j<cs.length:=by simpa using hj
  have e:(cs.map (Nv f t)).getD j .undef=Nv f t (cs.getD j .undef):=by simp [Di,hj']
  rw[e];exact(h3 j hj').ren h (fun i hi=>hn i (OW (f:=A.Lp) hj' hi))
 | tup l=>exact Jw.step h.JE h.exts (fun o ho hN=>hN.2 (hn o ho hN.1)) hc
 | cnd g c=>exact Jw.step h.JE h.exts (fun o ho hN=>hN.2 (hn o ho hN.1)) hc
 | undef=>trivial
 | ptr o off =>
  have e:Me f t (.ptr o off)=Nv f t (.ptr o off):=by simp only[Nv,Me,Ub]
  rw[e];exact J4.ren (w:=w) (m:=m) (c:=.ptr o off) h hn hc
 | own o =>
  have e:Me f t (.own o)=Nv f t (.own o):=by simp only[Nv,Me,Ub]
  rw[e];exact J4.ren (w:=w) (m:=m) (c:=.own o) h hn hc
 | clo g o =>
  have e:Me f t (.clo g o)=Nv f t (.clo g o):=by simp only[Nv,Me,Ub]
  rw[e];exact J4.ren (w:=w) (m:=m) (c:=.clo g o) h hn hc
 | bsl o n =>
  have e:Me f t (.bsl o n)=Nv f t (.bsl o n):=by simp only[Nv,Me,Ub]
  rw[e];exact J4.ren (w:=w) (m:=m) (c:=.bsl o n) h hn hc
 | osl o n =>
  have e:Me f t (.osl o n)=Nv f t (.osl o n):=by simp only[Nv,Me,Ub]
  rw[e];exact J4.ren (w:=w) (m:=m) (c:=.osl o n) h hn hc
 | KD o i off =>
  have e:Me f t (.KD o i off)=Nv f t (.KD o i off):=by simp only[Nv,Me,Ub]
  rw[e];exact J4.ren (w:=w) (m:=m) (c:=.KD o i off) h hn hc
 | bool b=>exact J4.ren (w:=w) (m:=m) (c:=.bool b) h hn hc
 | int k n=>exact J4.ren (w:=w) (m:=m) (c:=.int k n) h hn hc
 | str s=>exact J4.ren (w:=w) (m:=m) (c:=.str s) h hn hc
 | sl l=>exact J4.ren (w:=w) (m:=m) (c:=.sl l) h hn hc
 | sln l=>exact J4.ren (w:=w) (m:=m) (c:=.sln l) h hn hc
 | Ky=>exact J4.ren (w:=w) (m:=m) (c:=.Ky) h hn hc
 | KO=>exact J4.ren (w:=w) (m:=m) (c:=.KO) h hn hc
 | elt cs=>exact J4.ren (w:=w) (m:=m) (c:=.elt cs) h hn hc
 | fn g=>exact J4.ren (w:=w) (m:=m) (c:=.fn g) h hn hc
 | ump _=>exact hc
 | usl _ _ _=>exact hc
 | box _=>exact hc
 | cbx _ _=>exact hc
theorem J4.Me {O':Own} {Jm objs':List (Nat×Obj)} {m':Nat->Value} {f t:Nat} (h:Ren O Jm m f t O' objs' m') {v:Value} {c:A} (hn: ∀ i∈c.Lp,i=t->f=t) (hc:J4 O Jm m w v c) :
 J4 O' objs' m' w v (Vm.Me f t c):=by
 rcases AhE f t c with ⟨cs,rfl⟩ | e
 .exact hc.elim
 .rw[e];exact hc.ren h hn
theorem Kv.ren {O':Own} {Jm objs':List (Nat×Obj)} {m':Nat->Value} {f t:Nat} (h:Ren O Jm m f t O' objs' m') {o:Nat} {x:Obj} (hm:m' (rho f t o)=m o) (hn: ∀ i∈x.ids,i=t->f=t) (hx:Kv O Jm m w o x) :
 Kv O' objs' m' w (rho f t o) (fM f t x):=by
 cases x with
 | box cs =>
  obtain⟨b,base,h1,h2⟩:=hx;refine⟨b,base,by rw[hm];exact h1,fun j hj=> ?_⟩;have hj':j<cs.length:=by simpa using hj
  obtain⟨h3,h4,u,h5,h6⟩:=h2 j hj';refine⟨by rw[h.own,h3];rfl,h4,u,h5,?_⟩;have e:(cs.map (Vm.Me f t)).getD j .undef=Vm.Me f t (cs.getD j .undef):=by simp [Di,hj']
  rw[e];exact h6.Me h (fun i hi=>hn i (OW (f:=A.Lp) hj' hi))
 | arr e frz l =>
  obtain⟨h0,hx⟩:=hx;refine⟨h0,?_⟩;rcases hx with ⟨h1,h2,h3⟩ | ⟨h1,g,cap,cur,h2,h3,h4,h5,h6,h7,h8,h9⟩
  .exact .inl ⟨h1,h2,by rw[hm];exact h3⟩
  .refine .inr ⟨h1,g,cap,cur,by rw[hm];exact h2,h3,h4,h5,h6,fun i j hi hj=> ?_,fun k hk hge=> ?_,fun k hk=> ?_⟩
   .obtain⟨u,h10,h11⟩:=h7 i j hi hj;exact⟨u,h10,h11.JE h.JE⟩
   .rw[h.own,h8 k hk hge];rfl
   .rw[h.own,h9 k hk];cases frz<;>rfl
 | mp l =>
  obtain⟨r,es,ck,h1,h2,h3,h4,h5⟩:=(show LK O w o (m o) l from hx)
  refine(⟨r,es,ck,by rw[hm];exact h1,h2,by rw[h.own,h3];rfl,h4,fun i p hi=> ?_⟩:LK O' w (rho f t o) (m' (rho f t o)) l);obtain⟨e,k1,k2,k3⟩:=h5 i p hi;exact⟨e,k1,k2.JE h.JE,k3.JE h.JE⟩
theorem Sim.renamed (hS:Sim V0 O0 w0 O m st a w) {f t:Nat} {x:Obj} (hf:Jr st.Jm f=some x) (ht:f=t\/Nl st t) :
 ∃ O' m',Sim V0 O0 w0 O' m' {tmps:=st.tmps.map (Me f t),Jm:=(KG (OA st.Jm f) t x).map (fun p=>(p.1,fM f t p.2))} a w:=by
 have hag: ∀ o,Jr ((KG (OA st.Jm f) t x).map (fun p=>(p.1,fM f t p.2))) o=(if o=t then some x else if o=f then none else Jr st.Jm o).map (fM f t):=by intro o;rw[AfJ,JL,WL]
 have hshp: ∀ y,(fM f t y).shp=y.shp:=by intro y;cases y<;>rfl
 have h255:f≠255:=hS.ids f x hf
 have hR:Ren O st.Jm m f t (fun b k=>(O b k).map (rho f t)) ((KG (OA st.Jm f) t x).map (fun p=>(p.1,fM f t p.2))) (fun o=>if o=t then m f else m o):=by
  refine⟨fun x' hx=> ?_,fun o x' ho hx=> ?_,fun _ _=>rfl⟩
  .rw[hag,Dw rfl]at hx;simp only[Option.map_some,Eu]at hx;exact⟨x,hf,by rw[<- hx,hshp],Dw rfl⟩
  .rw[hag,Du ho]at hx;by_cases hof:o=f
   .rw[Dw hof]at hx;cases hx
   .rw[Du hof]at hx;cases hy:Jr st.Jm o with
    | none=>rw[hy]at hx;cases hx
    | some y =>rw[hy]at hx;simp only[Option.map_some,Eu]at hx;exact⟨hof,y,rfl,by rw[<- hx,hshp],Du ho⟩
 have hids: ∀ i∈st.ids,i=t->f=t:=by
  intro i hi he;rcases ht with h | h
  .exact h
  .exact absurd (he▸hi) h.ids
 have hmr: ∀ o,(o=t->f=t)->(fun o=>if o=t then m f else m o) (rho f t o)=m o:=by all_goals grind[rho]
 refine⟨(fun b k=>(O b k).map (rho f t)),(fun o=>if o=t then m f else m o),hS.defers,by rw[hS.size];simp,fun i hi=> ?_,fun o y hy=> ?_,hS.frame,fun b k o hb ho hne=> ?_,fun o y hy=> ?_,fun b k hb h=>hS.less b k hb (fun e=>h (by show(O b k).map _=none;rw[e];rfl)),fun o hr ho=> ?_,fun b k hb h=>by show(O b k).map (rho f t)=_;rw[hS.VF b k hb h];exact congrArg some (Du (fun e=>h255 e.symm)),hS.inv⟩
 .have hi':i<st.tmps.length:=by simpa using hi
  have e:(st.tmps.map (Me f t)).getD i .undef=Me f t (st.tmps.getD i .undef):=by simp [Di,hi']
  show Jw _ _ _ _ _ ((st.tmps.map (Me f t)).getD i .undef);rw[e];exact(hS.tmps i hi').ren hR (fun j hj=>hids j (VK hi' hj))
 .have hy':=hy;dsimp only at hy;rw[hag]at hy;by_cases h1:o=t
  .rw[Dw h1]at hy;simp only[Option.map_some,Eu]at hy;subst hy;have:=(hS.Jm f x hf).ren hR (hmr f (fun e=>e)) (fun i hi=>hids i (Ry hf hi));have e:rho f t f=t:=Dw rfl;rw[e]at this;rw[h1];exact this
  .rw[Du h1]at hy;by_cases h2:o=f
   .rw[Dw h2]at hy;cases hy
   .rw[Du h2]at hy;cases hz:Jr st.Jm o with
    | none=>rw[hz]at hy;cases hy
    | some z =>rw[hz]at hy;simp only[Option.map_some,Eu]at hy;subst hy;have:=(hS.Jm o z hz).ren hR (hmr o (fun e=>absurd e h1)) (fun i hi=>hids i (Ry hz hi));have e:rho f t o=o:=Du h2;rw[e]at this;exact this
 .cases hq:O b k with
  | none =>have:(O b k).map (rho f t)=some o:=ho;rw[hq]at this;cases this
  | some o1 =>have:(O b k).map (rho f t)=some o:=ho;rw[hq]at this;simp only[Option.map_some,Eu]at this;refine hS.own b k o1 hb hq (fun e=>hne ?_);rw[<- this,e];exact Du (fun e=>h255 e.symm)
 .dsimp only at hy;rw[hag]at hy;by_cases h1:o=t
  .rw[h1];rcases ht with h | h
   .rw[<- h];exact h255
   .exact h.ne
  .rw[Du h1]at hy;by_cases h2:o=f
   .rw[h2];exact h255
   .rw[Du h2]at hy;cases hz:Jr st.Jm o with
    | none=>rw[hz]at hy;cases hy
    | some z=>exact hS.ids o z hz
 .dsimp only at ho ⊢;rw[hag]at ho;by_cases h1:o=t
  .rw[Dw h1];rcases ht with h | h
   .rw[h1,<- h];exact hS.root f (by rw[h,<- h1];exact hr) (by rw[hf];rfl)
   .rw[h1,h.root]at hr;cases hr
  .rw[Du h1]at ho ⊢;by_cases h2:o=f
   .rw[Dw h2]at ho;cases ho
   .rw[Du h2]at ho;refine hS.root o hr ?_;cases hz:Jr st.Jm o with
    | none=>rw[hz]at ho;cases ho
    | some z=>rfl
theorem Aea: ∀(l:List (Nat×Nat)) {O:Own} {m:Nat->Value} {st:St},Sim V0 O0 w0 O m st a w->(fO st l).1=true-> ∃ O' m',Sim V0 O0 w0 O' m' (fO st l).2 a w:=by
 intro l
 induction l with
 | nil=>intro O m st hS _;exact⟨O,m,hS⟩
 | cons p r ih =>
  intro O m st hS h;obtain⟨f,t⟩:=p;simp only[fO]at h ⊢;cases hx:Jr st.Jm f with
  | none=>rw[hx]at h;exact ih hS h
  | some x =>
   rw[hx]at h;dsimp only at h ⊢;rw[Dn,Qi]at h
   obtain⟨O1,m1,hS1⟩:=hS.renamed (t:=t) hx (by
    by_cases hft:f=t
    .exact .inl hft
    .have h1:=h.1;rw[show decide (f=t)=false by simpa using hft]at h1;exact .inr (Ls h1))
   exact ih hS1 h.2
theorem Ad0: ∀(l:List Nat) {O:Own} {st:St},Sim V0 O0 w0 O m st a w-> ∃ O',Sim V0 O0 w0 O' m {st with Jm:=Aa9 st.Jm l} a w:=by
 intro l
 induction l with
 | nil=>intro O st hS;exact⟨O,hS⟩
 | cons n r ih =>
  intro O st hS;simp only[Aa9];cases hx:Jr st.Jm n with
  | none=>exact ih hS
  | some x =>
   cases x with
   | mp _=>exact ih hS
   | box cs=>exact ih hS
   | arr e f l =>obtain⟨O1,hS1,_⟩:=hS.XP hx;exact ih hS1
theorem YV {t:Nat} {v:Value} (hs:a.tmps.getD t undef=v) (hlt:t<a.tmps.size):a.put (some t) v=a:=by
 have:a.tmps.setIfInBounds t v=a.tmps:=by apply Array.ext_getElem?;intro i;rw[En];by_cases hi:t=i;all_goals simp_all[getD_eq,hs]
 simp only[Act.put,this]
theorem AeZ {x:A} (h:XR x=true):x= .Ky:=by cases x<;>first | rfl | cases h
theorem Aed {id:Nat}: ∀(ts:List Nat) {O:Own} {m:Nat->Value} {st:St},Sim V0 O0 w0 O m st a w->(∀ t∈ts,t<st.tmps.length)->(∀ t∈ts,J4 O st.Jm m w (a.tmps.getD t undef) (.own id)) ->
 Sim V0 O0 w0 O m {st with tmps:=fV id ts st.tmps} a w:=by
 intro ts
 induction ts with
 | nil=>intro O m st hS _ _;exact hS
 | cons t r ih =>intro O m st hS hl hc;have hlt:=hl t Dp;have h1:=hS.put (some t) (x:=.own id) (v:=a.tmps.getD t undef) ((hc t Dp).toT);rw[YV rfl (by rw[hS.size];exact hlt)]at h1;exact ih (st:= {st with tmps:=st.tmps.set t (.own id)}) h1 (fun q hq=>by simpa using hl q (Dq _ hq)) (fun q hq=>hc q (Dq _ hq))
theorem AdV: ∀(l:List (List Nat×Nat×Ty×Nat)) {O:Own} {m:Nat->Value} {st:St},Sim V0 O0 w0 O m st a w->(owns l st).1=true-> ∃ O' m',Sim V0 O0 w0 O' m' (owns l st).2 a w:=by
 intro l
 induction l with
 | nil=>intro O m st hS _;exact⟨O,m,hS⟩
 | cons p r ih =>
  intro O m st hS h;obtain⟨ts,e,ty,id⟩:=p;unfold owns at h ⊢;cases hany:ts.any (fun t=>XR (st.tmps.getD t .undef))with
  | false=>rw[hany]at h;exact ih hS h
  | true =>
   rw[hany]at h;simp only[cond_true]at h ⊢;rw[Dn,Dn]at h;obtain⟨⟨h1,h2⟩,h3⟩:=h;have hall: ∀ t∈ts,st.tmps.getD t .undef= .Ky/\t<st.tmps.length:=by all_goals grind[AeZ]
   have hval: ∀ t∈ts,a.tmps.getD t undef= .slice none 0 0:=by intro t ht;have hv:=hS.tmps t (hall t ht).2;rw[(hall t ht).1]at hv;exact hv
   cases ts with
   | nil=>cases hany
   | cons t ts =>
    have hlt:=(hall t Dp).2;obtain⟨O',m',hS'⟩:=YN hS (d:=t) (e:=e) (t:=ty) (frz:=false) (del:=[]) (Ls h2);rw[YV (hval t Dp) (by rw[hS.size];exact hlt)]at hS';have hslot:=hS'.tmps t (by simpa using hlt);have e0:(st.tmps.set t (.own id)).getD t .undef= .own id:=by simp [Di,hlt]
    rw[e0,hval t Dp]at hslot;have hfin:=Aed (a:=a) ts hS' (fun q hq=>by simpa using (hall q (Dq _ hq)).2) (fun q hq=>by rw[hval q (Dq _ hq)];exact hslot);exact ih hfin h3
theorem Af0: ∀(l:List (Option Nat×Nat×Ty)) {O:Own} {st:St},Sim V0 O0 w0 O m st a w-> ∃ O',Sim V0 O0 w0 O' m (pzs l st) a w:=by
 intro l
 induction l with
 | nil=>intro O st hS;exact⟨O,hS⟩
 | cons p r ih =>
  intro O st hS;obtain⟨b,j,ty⟩:=p;cases b with
  | none =>
   unfold pzs;cases hx:st.tmps.getD j .undef with
   | Ky =>
    dsimp only
    have hlt:j<st.tmps.length:=by
     rcases DN j st.tmps.length with h | h
     .exact h
     .rw[Di,DL h]at hx;cases hx
    have hc:=hS.tmps j hlt;rw[hx]at hc;have hc:a.tmps.getD j undef= .slice none 0 0:=hc;have h2:=hS.put (some j) (x:=.sl ⟨ty,[]⟩) (v:=a.tmps.getD j undef) (by rw[hc];exact Jt.nil ty);rw[YV rfl (by rw[hS.size];exact hlt)]at h2;exact ih h2
   | own o =>
    dsimp only;cases ho:Jr st.Jm o with
    | none=>exact ih hS
    | some y =>
     cases y with
     | box _=>exact ih hS
     | mp _=>exact ih hS
     | arr e f l =>
      dsimp only;obtain⟨O1,hS1,hp1,_,hv1,_⟩:=hS.XP ho
      have hlt:j<st.tmps.length:=by
       rcases DN j st.tmps.length with h | h
       .exact h
       .rw[Di,DL h]at hx;cases hx
      have hc:=hS.tmps j hlt;rw[hx]at hc;have hc:J4 O st.Jm m w (a.tmps.getD j undef) (.own o):=hc;have hc2:=hc.2;rw[ho]at hc2;have hm:a.tmps.getD j undef=m o:=hc2;have h2:=hS1.put (some j) (x:=.sl l) (v:=a.tmps.getD j undef) (by rw[hm];exact hv1);rw[YV rfl (by rw[hS.size];exact hlt)]at h2;exact ih h2
   | _=>exact ih hS
  | some b =>
   unfold pzs;cases hb:Jr st.Jm b with
   | none=>exact ih hS
   | some y =>
    cases y with
    | arr _ _ _=>exact ih hS
    | mp _=>exact ih hS
    | box cs =>
     dsimp only;cases hx:cs.getD j .undef with
     | own o =>
      dsimp only;cases ho:Jr st.Jm o with
      | none=>exact ih hS
      | some y =>
       cases y with
       | box _=>exact ih hS
       | mp _=>exact ih hS
       | arr e f l =>
        dsimp only;obtain⟨O1,hS1,hp1,_,hv1,_⟩:=hS.XP ho;have hbo:b≠o:=fun h=>by rw[h,ho]at hb;cases hb
        have hb1:Jr (KG st.Jm o (.arr e true l)) b=some (.box cs):=by rw[JL,Du hbo];exact hb
        have ho1:Jr (KG st.Jm o (.arr e true l)) o=some (.arr e true l):=by rw[JL,Dw rfl]
        have hjl:j<cs.length:=by
         rcases DN j cs.length with h | h
         .exact h
         .rw[Di,DL h]at hx;cases hx
        have hE:NY (KG st.Jm o (.arr e true l)) m (KG (KG st.Jm o (.arr e true l)) b (.box (cs.set j (.sl l)))) m (fun _=>False):=by
         intro q z hz;rw[JL]at hz;by_cases hq:q=b
         .rw[Dw hq]at hz;injection hz with hz;subst hz;exact .inr ⟨.box cs,by rw[hq];exact hb1,rfl,rfl⟩
         .rw[Du hq]at hz;exact .inr ⟨z,hz,rfl,rfl⟩
        have h2:=hS1.next (st':= {st with Jm:=KG (KG st.Jm o (.arr e true l)) b (.box (cs.set j (.sl l)))}) (d:=none) (v:=undef) (x:=.undef) (T:=fun _=>False) (Nw:=fun _=>False) (Moves.refl O1 _ w) ⟨fun _ _ _ h=>h,fun _ _ _ _ h _=>h⟩ (fun _ _ _ h=>h) hE (fun _ h=>h.elim) (fun _ h=>h.elim)
         (fun q z hz=>by
           rw[JL]at hz;by_cases hq:q=b
           .rw[Dw hq]at hz;injection hz with hz;subst hz;right;obtain⟨bk,base,g1,g2⟩:=hS1.Jm b _ hb1;rw[hq];refine⟨⟨bk,base,g1,fun i hi=> ?_⟩,hS.ids b _ hb⟩;rw[EI]at hi;obtain⟨k1,k2,u,k3,k4⟩:=g2 i hi;refine⟨k1,k2,u,k3,?_⟩;by_cases hij:j=i
            .subst hij;have e1:(cs.set j (.sl l)).getD j .undef= .sl l:=by simp [Di,hjl]
             rw[e1];rw[hx]at k4;have k5:=k4.2;rw[ho1]at k5;have hm:u=m o:=k5;rw[hm];exact hv1
            .have e1:(cs.set j (.sl l)).getD i .undef=cs.getD i .undef:=by
              simp only[Di,E8];rw[Du hij]
             rw[e1];exact k4.step (fun _ _ _ h hc=>⟨h,hc⟩) hE (fun _ _ h=>h)
           .rw[Du hq]at hz;exact .inl ⟨fun h=>h,hz,rfl⟩) rfl (fun h=>absurd rfl h)
        exact ih h2
     | _=>exact ih hS
theorem AdN (hS:Sim V0 O0 w0 O m st a w) {key:Nat} (h:(norm C key st).1=true): ∃ O' m',Sim V0 O0 w0 O' m' (norm C key st).2 a w:=by
 unfold norm at h ⊢;cases hn:C.nrm key with
 | none=>exact⟨O,m,hS⟩
 | some n =>rw[hn]at h;dsimp only at h ⊢;rw[Dn]at h;obtain⟨O4,hS4⟩:=Af0 n.pz hS;obtain⟨O1,m1,hS1⟩:=Aea n.ren (hS4.dropped n.keep (reached (drop n.keep (pzs n.pz st).tmps 0) (pzs n.pz st).Jm)) h.1;obtain⟨O3,m3,hS3⟩:=AdV n.nw hS1 h.2;obtain⟨O2,hS2⟩:=Ad0 n.frz hS3;exact⟨O2,m3,hS2⟩
theorem dN {ρ :Type} (hS:Sim V0 O0 w0 O m st a w) {key:Nat} {K:St->Option ρ} {r: ρ} (h:Pj C key st K=some r): ∃ O' m' st',Sim V0 O0 w0 O' m' st' a w/\K st'=some r:=by
 unfold Pj at h;cases hn:(norm C key st).1 with
 | false =>have h':(bif (norm C key st).1 then K (norm C key st).2 else none)=some r:=h;rw[hn]at h';cases h'
 | true =>have h':(bif (norm C key st).1 then K (norm C key st).2 else none)=some r:=h;rw[hn]at h';obtain⟨O1,m1,hS1⟩:=AdN hS hn;exact⟨O1,m1,_,hS1,h'⟩
theorem YM {ρ :Type} (hS:Sim V0 O0 w0 O m st a w) {kind:Nat} {c:Code} {K:St->Option ρ} {r: ρ} (h:meet C kind c st K=some r): ∃ O' m' st',Sim V0 O0 w0 O' m' st' a w/\K st'=some r:=by
 unfold meet at h;cases hn:KX c with
 | none=>rw[hn]at h;exact⟨O,m,st,hS,h⟩
 | some n=>rw[hn]at h;exact dN hS h
end
section
variable {P:Program} {C:Ctx} {V0:Nat->Value} {O0 O:Own} {w0 w:World} {m:Nat->Value} {st:St} {a:Act}
theorem AcT {C:Ctx} {o:Oper} {f:Nat} {q:Alt} (h:UO C o=some (f,q)):C.alt f=some q:=by
 unfold UO at h;split at h
 .rename_i g _ _ _ _;cases ha:C.alt g with
  | none=>rw[ha]at h;cases h
  | some q'=>simp_all[Alt,UO]
 .cases h
theorem Aft {ρ :Type} (hC:LX P C) {ops:Array Oper} {Q:Exit->Act->World->Prop} {v: ρ} {K:St->Option ρ} (hK: ∀ O' m' st' a' w',Sim V0 O0 w0 O' m' st' a' w'->K st'=some v->Q .normal a' w') :
 ∀(l:List Oper) {O:Own} {m:Nat->Value} {st:St} {a:Act} {w:World},Sim V0 O0 w0 O m st a w->QE C ops.toList l st K=some v->wpList P ops Q l a w:=by
 intro l
 induction l with
 | nil=>intro O m st a w hS h;exact hK _ _ _ _ _ hS h
 | cons o r ih =>
  intro O m st a w hS h;have one: ∀ C':Ctx,LX P C'->allT (JR C' ops.toList o st).ok (QE C ops.toList r (apply st o (JR C' ops.toList o st)) K)=some v->wpList P ops Q (o::r) a w:=by intro C' hC' h;obtain⟨h1,h2⟩:=PH h;refine wpList_step fun k hk=> ?_;exact qX hC' hS h1 k Q fun O' m' a' w' hS'=>hk _ _ (ih hS' h2)
  unfold QE at h;cases ha:UO C o with
  | none=>rw[ha]at h;exact one C hC h
  | some q =>
   obtain⟨f,q⟩:=q;rw[ha]at h;dsimp only at h;obtain⟨h1,h2⟩:=hC.alt f q (AcT ha);cases hb:rO o st q with
   | true=>rw[hb]at h;exact one _ (hC.put h1) h
   | false=>rw[hb]at h;exact one _ (hC.put h2) h
def Post {ρ :Type} (V0:Nat->Value) (O0:Own) (w0:World) (fin:St->Option ρ) (K:Ex->St->Option ρ) (v: ρ):Exit->Act->World->Prop
 | .normal,a,w=> ∃ O m st,Sim V0 O0 w0 O m st a w/\K .normal st=some v
 | .exit id,a,w=> ∃ O m st,Sim V0 O0 w0 O m st a w/\K (.exit id) st=some v
 | .ret,a,w=> ∃ O m st,Sim V0 O0 w0 O m st a w/\fin st=some v
 | _,_,_=>False
theorem Ae4 (hS:Sim V0 O0 w0 O m st a w) {c:Operand} {t:Bool} (h:JY st.tmps c= .bool t\/JY st.tmps c= .cnd true (.bool t)):a.eval c= .bool t:=by
 have:=kV hS c;rcases h with h | h
 .rw[h]at this;exact this.bool
 .rw[h]at this;have h1:Jt O w (a.eval c) (.bool t):=this.1 rfl;generalize a.eval c=z at h1 ⊢;cases h1;rfl
theorem Adh {ρ :Type} (hC:LX P C) (N:Nat) {fin:St->Option ρ} {v: ρ}
 (hdraw: ∀ {C:Ctx},LX P C-> ∀(id:Nat) (ops:Array Oper) {O:Own} {m:Nat->Value} {st:St} {a:Act} {w:World} (K:Ex->St->Option ρ),Sim V0 O0 w0 O m st a w->Ph C ops.toList st=true->QF C ops.toList ops.toList st (fun st'=>K .normal st')=some v ->
   (Code.region id ops true).wp P (Post V0 O0 w0 fin K v) a w) :
 ∀(c:Code) {O:Own} {m:Nat->Value} {st:St} {a:Act} {w:World} {K:Ex->St->Option ρ},Sim V0 O0 w0 O m st a w->exec C N fin c st K=some v->c.wp P (Post V0 O0 w0 fin K v) a w:=by
 intro c
 induction c with
 | skip=>intro O m st a w K hS h;exact wp_skip ⟨O,m,st,hS,h⟩
 | label l=>intro O m st a w K hS h;exact wp_label ⟨O,m,st,hS,h⟩
 | ret=>intro O m st a w K hS h;exact wp_ret ⟨O,m,st,hS,h⟩
 | exit id =>intro O m st a w K hS h;obtain⟨O',m',st',hS',h'⟩:=dN hS (show Pj C (4*id+3) st (fun st'=>K (.exit id) st')=some v from h);exact wp_exit ⟨O',m',st',hS',h'⟩
 | region id ops d =>
  intro O m st a w K hS h;cases d with
  | false =>
   have key: ∀ C':Ctx,LX P C'->QE C' ops.toList ops.toList st (fun st'=>K .normal st')=some v->(Code.region id ops false).wp P (Post V0 O0 w0 fin K v) a w:=fun C' hC' h' =>
    wp_region_list (Aft hC' (K:=fun st'=>K .normal st') (fun O' m' st' a' w' hS' h'=>⟨O',m',st',hS',h'⟩) ops.toList hS h')
   rcases(Vg (show split C id ops.toList st _=some v from h)).1 with h' | ⟨ds,b,h'⟩
   .exact key C hC h'
   .exact key _ (hC.decide ds b) h'
  | true =>
   have key: ∀ C':Ctx,LX P C'->(bif Ph C' ops.toList st then QF C' ops.toList ops.toList st (fun st'=>K .normal st')else none)=some v->(Code.region id ops true).wp P (Post V0 O0 w0 fin K v) a w:=by
    intro C' hC' h';cases hd:Ph C' ops.toList st with
    | false=>rw[hd]at h';cases h'
    | true=>rw[hd]at h';exact hdraw hC' id ops K hS hd h'
   rcases(Vg (show split C id ops.toList st _=some v from h)).1 with h' | ⟨ds,b,h'⟩
   .exact key C hC h'
   .exact key _ (hC.decide ds b) h'
 | seq x y ihx ihy =>
  intro O m st a w K hS h;refine wp_seq (Gq (ihx (K:=fun | .normal,st'=>meet C 1 y st' fun st''=>exec C N fin y st'' K | .exit id,st'=>K (.exit id) st') hS h) fun e a' w' hq=> ?_);cases e with
  | normal =>obtain⟨O1,m1,st1,hS1,h1⟩:=hq;obtain⟨O2,m2,st2,hS2,h2⟩:=YM hS1 h1;exact ihy hS2 h2
  | exit id=>exact hq
  | ret=>exact hq
  | goto l=>exact hq
  | panic ch=>exact hq
  | outgrown=>exact hq
 | cond c x y ihx ihy =>
  intro O m st a w K hS h
  have key: ∀ t:Bool,(JY st.tmps c= .bool t\/JY st.tmps c= .cnd true (.bool t))->(bif t then exec C N fin x st K else exec C N fin y st K)=some v->(Code.cond c x y).wp P (Post V0 O0 w0 fin K v) a w:=by
   intro t ht h';refine wp_cond (Ae4 hS ht) ?_;cases t with
   | true=>exact ihx hS h'
   | false=>exact ihy hS h'
  simp only[exec]at h;cases he:JY st.tmps c with
  | bool t=>rw[he]at h;exact key t (.inl he) h
  | cnd g y' =>
   rw[he]at h;cases y' with
   | bool t =>
    cases g with
    | false=>cases h
    | true=>exact key t (.inr he) h
   | _=>cases h
  | _=>rw[he]at h;cases h
 | block id c ih =>
  intro O m st a w K hS h;refine wp_block (Gq (ih (K:=fun | .exit j,st'=>bif Nat.beq j id then K .normal st' else K (.exit j) st' | .normal,st'=>K .normal st') hS h) fun e a' w' hq=> ?_);cases e with
  | normal=>exact hq
  | exit j =>
   obtain⟨O1,m1,st1,hS1,h1⟩:=hq;dsimp only at h1;show if j=id then _ else _;rw[Qi]at h1;by_cases hj:j=id
   .rw[Dw hj];simp only[hj,FN,cond_true]at h1;exact⟨O1,m1,st1,hS1,h1⟩
   .rw[Du hj];rw[show decide (j=id)=false by simpa using hj]at h1;exact⟨O1,m1,st1,hS1,h1⟩
  | ret=>exact hq
  | goto l=>exact hq
  | panic ch=>exact hq
  | outgrown=>exact hq
 | loop c ih =>
  intro O m st a w K hS h;obtain⟨O1,m1,st1,hS1,h1⟩:=YM hS (show meet C 2 c st (fun st'=>rounds (meet C 2 c) (exec C N fin c) N st' K)=some v from h);refine wp_loop_rounds N ?_
  have key: ∀(n:Nat) {O:Own} {m:Nat->Value} {st:St} {a:Act} {w:World},Sim V0 O0 w0 O m st a w->rounds (meet C 2 c) (exec C N fin c) n st K=some v->Code.rounds P c (Post V0 O0 w0 fin K v) n a w:=by
   intro n
   induction n with
   | zero=>intro O m st a w _ h;cases h
   | succ n ihn =>
    intro O m st a w hS h;refine Gq (ih (K:=fun | .normal,st'=>meet C 2 c st' fun st''=>rounds (meet C 2 c) (exec C N fin c) n st'' K | .exit id,st'=>K (.exit id) st') hS h) fun e a' w' hq=> ?_;cases e with
    | normal =>obtain⟨O2,m2,st2,hS2,h2⟩:=hq;obtain⟨O3,m3,st3,hS3,h3⟩:=YM hS2 h2;exact ihn hS3 h3
    | exit id=>exact hq
    | ret=>exact hq
    | goto l=>exact hq
    | panic ch=>exact hq
    | outgrown=>exact hq
  exact key N hS1 h1
 | scope c ih =>intro O m st a w K hS h;refine wp_scope_straight (Gq (ih hS (show exec C N fin c st K=some v from h)) fun e a' w' hq=> ?_);cases e<;>first | exact hq | exact hq.elim
 | _=>intro O m st a w K hS h;cases h
end
def MZ:Sh->Sh
 | .box ks=>.box ks
 | .map kt vt=>.map kt vt
 | .clo _ ks=>.box ks
 | _=>.cell false .bool
def AgH:Sh->Nat->A
 | .box _,i=>.ptr (256*i) 0
 | .map _ _,i=>.own (256*i)
 | .clo _ _,i=>.ptr (256*i) 0
 | _,_=>.bool true
def Nq:List Sh->Nat->List A
 | [],_=>[]
 | s::ss,i=>AgH s i::Nq ss (i+1)
def unbox:A->A
 | .box cs=>.agg cs
 | a=>a
def gY (Jp:List Sh) (xs:List A) (n:Nat):St:= {tmps:=(JX 0 256 Jp xs 0).2.1++List.replicate (n - Jp.length) .undef,Jm:=J3 [] (JX 0 256 Jp xs 0).2.2}
def lK (C:Ctx) (st:St) (q:Nat×Option Nat):List Bool×A :=
 match q.2 with
 | none=>([Nat.blt q.1 st.tmps.length],st.tmps.getD q.1 .undef)
 | some ty=>match Rw C st.Jm ty (st.tmps.getD q.1 .undef)with
  | δ =>(Nat.blt q.1 st.tmps.length:: δ.ok,δ.val)
def MR (C:Ctx) (outs:List (Nat×Option Nat)) (st:St):List A:=outs.map (fun q=>(lK C st q).2)
def finish (C:Ctx) (Jp Jz:List Sh) (outs:List (Nat×Option Nat)) (st:St):Option (List A) :=
 allT ((J7 st.Jm Jz (MR C outs st)).1++(J7 st.Jm (Jp.map MZ) (Nq Jp 0)).1 ++
  [nodup ((LH st.Jm 256000 256 Jz (MR C outs st)++LH st.Jm 0 256 (Jp.map MZ) (Nq Jp 0)).map (·.1)),!(Jz.any wS||(Jp.map MZ).any wS)||((J7 st.Jm Jz (MR C outs st)).2.2.1.isEmpty&&(J7 st.Jm (Jp.map MZ) (Nq Jp 0)).2.2.1.isEmpty)]++outs.flatMap (fun q=>(lK C st q).1))
  (some ((J7 st.Jm Jz (MR C outs st)).2.1++(KC Jp 0).map (fun i=>unbox ((J7 st.Jm (Jp.map MZ) (Nq Jp 0)).2.1.getD i .undef))))
def runK {ρ :Type} (C:Ctx) (N:Nat) (Jp:List Sh) (n:Nat) (code:Code) (fin:St->Option ρ) (xs:List A):Option ρ :=
 allT ((JX 0 256 Jp xs 0).1++[nodup ((JX 0 256 Jp xs 0).2.2.map (·.1)),!(has ((JX 0 256 Jp xs 0).2.2.map (·.1)) 255)])
  (exec C N fin code (gY Jp xs n) fun
    | .normal,st=>fin st
    | .exit _,_=>none)
section
variable {P:Program} {C:Ctx} {V0:Nat->Value} {O0 O:Own} {w0 w:World} {m:Nat->Value} {st:St} {a:Act}
theorem PV {id:Nat}: ∀(ks:List (Bool×CK)) (cs:List A) (j0:Nat),∀ p∈(J6 id ks cs j0).2.2,∃ x,p.1=id+x/\x<j0+ks.length:=by
 intro ks
 induction ks with
 | nil=>intro cs j0 p hp;simp [J6]at hp
 | cons k ks ih =>
  intro cs j0 p hp;have step:p∈(J6 id ks cs (j0+1)).2.2-> ∃ x,p.1=id+x/\x<j0+(k::ks).length:=by intro h;obtain⟨x,h1,h2⟩:=ih cs (j0+1) p h;exact⟨x,h1,by simp only[List.length_cons];omega⟩
  obtain⟨u,k⟩:=k;cases u with
  | false=>exact step hp
  | true =>
   cases k with
   | sl e sz =>
    simp only[J6]at hp;rcases Dx.1 hp with rfl | hp
    .exact⟨j0,rfl,by simp⟩
    .exact step hp
   | sln e sz =>
    simp only[J6]at hp;rcases Dx.1 hp with rfl | hp
    .exact⟨j0,rfl,by simp⟩
    .exact step hp
   | bx t =>
    simp only[J6]at hp;rcases Dx.1 hp with rfl | hp
    .exact⟨j0,rfl,by simp⟩
    .exact step hp
   | mp kt vt =>
    simp only[J6]at hp;rcases Dx.1 hp with rfl | hp
    .exact⟨j0,rfl,by simp⟩
    .exact step hp
   | _=>simp [J6]at hp
theorem Aew {id:Nat} {s:Sh} {x:A} (hok:Jv (back id s x).1): ∀ p∈(back id s x).2.2,∃ i,p.1=id+i/\i<255:=by
 intro p hp;cases s with
 | cell u k =>obtain⟨i,h1,h2⟩:=PV _ _ _ p hp;exact⟨i,h1,by simp at h2;omega⟩
 | agg ks =>simp only[back]at hok hp;have:=D6 hok.cons.1;obtain⟨i,h1,h2⟩:=PV _ _ _ p hp;exact⟨1+i,by omega,by omega⟩
 | box ks =>
  simp only[back]at hok hp;have:=D6 hok.cons.1;rcases Dx.1 hp with rfl | hp
  .exact⟨0,rfl,by omega⟩
  .obtain⟨i,h1,h2⟩:=PV _ _ _ p hp;exact⟨1+i,by omega,by omega⟩
 | clo f' ks =>
  simp only[back]at hok hp;have:=D6 hok.cons.1;rcases Dx.1 hp with rfl | hp
  .exact⟨0,rfl,by omega⟩
  .obtain⟨i,h1,h2⟩:=PV _ _ _ p hp;exact⟨1+i,by omega,by omega⟩
 | map kt vt=>simp_all[back,Sh,Jv]
theorem AcW {f:Nat->Value}: ∀(ss:List Sh) (rs:List A) (j0:Nat),Jv (JX 0 256 ss rs j0).1-> ∀ p∈QZ w f 0 256 ss rs j0,p.2=LQ w (f (p.1 / 256)) (p.1 % 256):=by
 intro ss
 induction ss with
 | nil=>grind[QZ]
 | cons s ss ih =>intro rs j0 hok p hp;simp only[JX]at hok;obtain⟨h1,h2⟩:=hok.append;all_goals grind[QZ,Aew]
theorem AeK {Jp:List Sh} {xs:List A} {n:Nat} {vs:Array Value} (hI:Inv O w) (hv:vs.size=xs.length) (hl:xs.length=Jp.length) (h: ∀ j,j<xs.length->IR O w (256*j) (vs.getD j undef) (xs.getD j .undef))
 (hok:Jv (JX 0 256 Jp xs 0).1) (hnd:nodup ((JX 0 256 Jp xs 0).2.2.map (·.1))=true) (h255:has ((JX 0 256 Jp xs 0).2.2.map (·.1)) 255=false) :
 Sim (fun o=>innerS w (Jp.getD (o / 256) (.agg [])) (vs.getD (o / 256) undef)) O w O (fun o=>LQ w (innerS w (Jp.getD (o / 256) (.agg [])) (vs.getD (o / 256) undef)) (o % 256)) (gY Jp xs n) {tmps:=vs++Array.replicate (n - vs.size) undef,defers:=[]} w:=by
 have hmem: ∀ o x,Jr (J3 [] (JX 0 256 Jp xs 0).2.2) o=some x->(o,x)∈(JX 0 256 Jp xs 0).2.2:=by
  intro o x hx;rcases UX _ (kP hx)with h | h
  .exact h
  .cases h
 have hget: ∀ p∈(JX 0 256 Jp xs 0).2.2,Jr (J3 [] (JX 0 256 Jp xs 0).2.2) p.1=some p.2:=fun p hp=>Yn (Jm:=[]) (upd:=[]) (del:=[]) hnd (o:=p.1) (x:=p.2) hp
 obtain⟨r1,r2,r3⟩:=mP (Oc:=O) (O':=O) (w:=w) (objs':=J3 [] (JX 0 256 Jp xs 0).2.2) (m':=fun o=>LQ w (innerS w (Jp.getD (o / 256) (.agg [])) (vs.getD (o / 256) undef)) (o % 256)) (cid:=0) (cst:=256) (id:=0) (stride:=256) (f:=fun j=>vs.getD j undef) (g:=fun j=>innerS w (Jp.getD j (.agg [])) (vs.getD j undef)) (rs:=xs)
  (fun _ _ _ h hc=>⟨h,hc⟩) (fun _ _ h=>h) Jp 0 (fun j _=>by rw[DD]) (fun j hj=>by rw[DD,DD];exact h j (by rw[hl];exact hj)) (fun j _ b k i _ hb=>hb) hok hget
  (fun p hp=>(AcW Jp xs 0 hok p hp).symm)
 refine⟨rfl,?_,fun t ht=> ?_,fun o x hx=>r3 _ (hmem o x hx),Moves.refl O _ w,fun b k o _ ho hne=>⟨o,ho,hne⟩,fun o x hx e=> ?_,fun b k _ h=>h,fun o hr _=> ?_,fun b k _ h=>h,hI⟩
 .simp [gY,r1,hv,hl]
 .show Jw O _ _ w (((vs++Array.replicate (n - vs.size) undef).getD t undef)) (((JX 0 256 Jp xs 0).2.1++List.replicate (n - Jp.length) A.undef).getD t .undef);rcases DN t Jp.length with htl | htl
  .have e1:((JX 0 256 Jp xs 0).2.1++List.replicate (n - Jp.length) A.undef).getD t .undef=(JX 0 256 Jp xs 0).2.1.getD t .undef:=by
    simp [Di,DU,r1,htl]
   have e2:(vs++Array.replicate (n - vs.size) undef).getD t undef=vs.getD t undef:=by
    have:t<vs.size:=by rw[hv,hl];exact htl
    simp [Dj,Ei,this]
   rw[e1,e2];have:=(r2 t htl).1;rw[DD]at this;exact this
  .have e1:((JX 0 256 Jp xs 0).2.1++List.replicate (n - Jp.length) A.undef).getD t .undef= .undef:=by
    rw[Di,Ea (by rw[r1];exact htl),List.getElem?_replicate];split<;>rfl
   rw[e1];trivial
 .subst e;have:=hmem _ x hx;have h':has ((JX 0 256 Jp xs 0).2.2.map (·.1)) 255=true:=MS.2 (D8.2 ⟨_,this,rfl⟩);rw[h']at h255;cases h255
 .unfold Sj at hr;rw[Dn]at hr;have:=Dk hr.2;rw[this];rfl
theorem AaD {fet:Fet}: ∀(ss:List Sh) (xs:List A),Jv (J7 fet ss xs).1-> ∀ i s,ss[i]? =some s->JP s=true->qM (unbox ((J7 fet ss xs).2.1.getD i .undef))=(J7 fet ss xs).2.1.getD i .undef:=by
 intro ss
 induction ss with
 | nil=>intro xs _ i s h;simp at h
 | cons s ss ih =>
  intro xs hok i s' h hb;cases xs with
  | nil=>have:=hok false (by simp [J7]);cases this
  | cons x xs =>
   simp only[J7]at hok ⊢;obtain⟨h1,h2⟩:=hok.append;cases i with
   | zero =>
    simp at h;subst h;cases s with
    | cell _ _=>cases hb
    | agg _=>cases hb
    | map kt vt =>
     cases x with
     | own q =>
      unfold JD at h1 ⊢;dsimp only at h1 ⊢;cases hg:Jr fet q with
      | none=>rw[hg]at h1;have:=h1 false (by simp);cases this
      | some y =>
       cases y with
       | mp l=>rfl
       | _=>rw[hg]at h1;have:=h1 false (by simp);cases this
     | _=>have:=h1 false (by simp [JD]);cases this
    | box ks =>
     cases x with
     | ptr q off =>
      unfold JD at h1 ⊢;dsimp only at h1 ⊢;cases hb:KQ fet q with
      | none=>rw[hb]at h1;have:=h1 false (by simp);cases this
      | some cs=>rfl
     | _=>have:=h1 false (by simp [JD]);cases this
    | clo f' ks =>
     cases x with
     | clo g q =>
      unfold JD at h1 ⊢;dsimp only at h1 ⊢;cases hb:KQ fet q with
      | none=>rw[hb]at h1;have:=h1 false (by simp);cases this
      | some cs=>rfl
     | _=>have:=h1 false (by simp [JD]);cases this
   | succ i=>simpa using ih xs h2 i s' (by simpa using h) hb
theorem AcZ: ∀(ss:List Sh) (i0 j i:Nat),(KC ss i0)[j]? =some i-> ∃ r s,i=i0+r/\ss[r]? =some s/\JP s=true:=by
 intro ss
 induction ss with
 | nil=>grind[KC]
 | cons s ss ih =>
  intro i0 j i h;have step: ∀ j':Nat,(KC ss (i0+1))[j']? =some i-> ∃ r s',i=i0+r/\(s::ss)[r]? =some s'/\JP s'=true:=by intro j' h';obtain⟨r,s',h1,h2,h3⟩:=ih (i0+1) j' i h';exact⟨r+1,s',by omega,by simpa using h2,h3⟩
  simp only[KC]at h;cases s with
  | box ks =>
   simp only[JP,cond_true]at h;cases j with
   | zero=>simp_all[Sh,KC,JP]
   | succ j=>exact step j (by simpa using h)
  | clo f' ks =>
   simp only[JP,cond_true]at h;cases j with
   | zero=>simp_all[Sh,KC,JP]
   | succ j=>exact step j (by simpa using h)
  | map kt vt =>
   simp only[JP,cond_true]at h;cases j with
   | zero=>simp_all[Sh,KC,JP]
   | succ j=>exact step j (by simpa using h)
  | cell u k=>grind[JP]
  | agg ks=>grind[JP]
theorem AaW: ∀(ss:List Sh) (i0:Nat),(Nq ss i0).length=ss.length:=by
 intro ss
 induction ss with
 | nil=>intro i0;rfl
 | cons s ss ih=>intro i0;simp [Nq,ih]
theorem AdI: ∀(ss:List Sh) (i0 j:Nat),j<ss.length->(Nq ss i0).getD j .undef=AgH (ss.getD j (.agg [])) (i0+j):=by
 intro ss
 induction ss with
 | nil=>intro i0 j h;simp at h
 | cons s ss ih =>
  intro i0 j h;cases j with
  | zero=>grind[Nq]
  | succ j=>grind[Nq]
end
end Go.Proofs.YtpaimpmokhihmaaGreatDoor.Vm
