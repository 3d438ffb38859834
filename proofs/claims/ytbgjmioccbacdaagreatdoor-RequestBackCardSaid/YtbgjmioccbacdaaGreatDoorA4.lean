import Derived.Test.YtbgjmioccbacdaaGreatDoorA3
import Derived.Laws.Append
import Derived.Laws.AppendOwn
import Derived.Laws.OwnMore
import Derived.Laws.MakeOwn
set_option linter.all false
namespace Go.Proofs.YtbgjmioccbacdaaGreatDoor.Vm
open Classical
section
variable {P:Program} {C:Ctx} {V0:Nat->Value} {O0 O:Own} {w0 w:World} {m:Nat->Value} {st:St} {a:Act} {o:Oper}
theorem Sim.kP (hS:Sim V0 O0 w0 O m st a w) {q e:Nat} {f:Bool} {l:Sl} (hq:Jv st.Jp q=some (.arr e f l)) :
 ∃ O',Sim V0 O0 w0 O' m {st with Jp:=L9 st.Jp q (.arr e true l)} a w/\Nj O w O' w/\(∀ b k,O' b k≠none->O b k≠none)/\Jw O' w (m q) (.sl l)/\ ∀ b k r,O b k=some r->r≠q->O' b k=some r:=by
 obtain⟨hsz,hr⟩:=hS.Jp q _ hq;let O':Own:=fun b k=>if(∃ n cap,m q= .slice (some (at' b 0)) n cap)/\k<l.es.length*l.sz then none else O b k;have hno: ∀ b k,O b k=none->O' b k=none:=by intro b k h;show(if _ then _ else _)=_;split;rfl;exact h
 have hle: ∀ b k,O' b k≠none->O b k≠none:=by intro b k h h';exact h (hno b k h')
 have hkeep: ∀ b k r,O b k=some r->r≠q->O' b k=some r:=by
  intro b k r h hne;show(if _ then _ else _)=_;rw[Dt ?_]
  .exact h
  .rintro ⟨⟨n,cap,hm⟩,hk⟩;rcases hr with ⟨_,h2,_⟩ | ⟨_,g,cap',cur,h1,_,_,_,_,_,_,h8⟩;all_goals simp_all[Jv,L9,Nj,Jw]
 have hp:Nj O w O' w:=fun b k u h hc=>⟨hno b k h,hc⟩
 have hE:Rz st.Jp m (L9 st.Jp q (.arr e true l)) m (fun _=>False):=by
  intro r y hy;rw[Ky]at hy;by_cases hrq:r=q
  .subst hrq;rw[Dw rfl]at hy;injection hy with hy;subst hy;exact .inr ⟨_,hq,rfl,rfl⟩
  .rw[Dt hrq]at hy;exact .inr ⟨y,hy,rfl,rfl⟩
 have hO:KZ O' (L9 st.Jp q (.arr e true l)) m w q (.arr e true l):=by
  refine⟨hsz,?_⟩;rcases hr with h | ⟨h1,g,cap,cur,h2,h3,h4,h5,h6,h7,h8,h9⟩
  .exact .inl h
  .refine .inr ⟨h1,g,cap,cur,h2,h3,h4,h5,h6,fun i j hi hj=> ?_,fun k hk hge=> ?_,fun k hk=> ?_⟩
   .obtain⟨u,h10,h11⟩:=h7 i j hi hj;exact⟨u,h10,h11.JW hp⟩
   .show(if _ then _ else _)=_;rw[Dt (by rintro ⟨_,h⟩;omega)];exact h8 k hk hge
   .show(if _ then _ else _)=_;rw[Dw ⟨⟨_,_,h2⟩,hk⟩];rfl
 refine⟨O',⟨hS.defers,hS.size,fun t ht=>(hS.tmps t ht).step hp hE (fun _ _ h=>h),fun r y hy=> ?_,hS.frame,fun b k r hb h hne=> ?_,fun r y hy=> ?_,fun b k hb h=>hS.less b k hb (hle b k h),fun o hr ho=>hS.root o hr (by dsimp only at ho;rw[Ky]at ho;by_cases hq':o=q;(rw [hq',hq];rfl);(rw [Dt hq']at ho;exact ho)),fun b k hb h=>hkeep b k 255 (hS.VA b k hb h) (fun e=>hS.ids q _ hq e.symm),hS.inv⟩,hp,hle,?_,hkeep⟩
 .have hy':=hy;rw[Ky]at hy;by_cases hrq:r=q
  .subst hrq;rw[Dw rfl]at hy;injection hy with hy;subst hy;exact hO
  .rw[Dt hrq]at hy;exact(hS.Jp r y hy).step (T:=fun i=>i=q) (Moves.refl O _ w) ⟨fun b k _ h=>hno b k h,fun b k r' _ h hT=>hkeep b k r' h hT⟩ hE hrq rfl (fun _ _ h=>h)
 .have h':(if(∃ n cap,m q= .slice (some (at' b 0)) n cap)/\k<l.es.length*l.sz then none else O b k)=some r:=h;split at h'
  .cases h'
  .exact hS.own b k r hb h' hne
 .rw[Ky]at hy;by_cases hrq:r=q
  .rw[hrq];exact hS.ids q _ hq
  .rw[Dt hrq]at hy;exact hS.ids r y hy
 .rcases hr with ⟨h1,h2,h3⟩ | ⟨h1,g,cap,cur,h2,h3,h4,h5,h6,h7,h8,h9⟩
  .rw[h3];exact Jw.ofNil h2
  .rw[h2];have hv: ∀ i j,i<l.es.length->j<l.sz-> ∃ u,cur[i*l.sz+j]? =some u/\Jw O w u ((l.es.getD i []).getD j .undef):=h7;refine Jw.sl (fun i j=>(cur[i*l.sz+j]?).getD undef) h4 (fun i j hi hj=> ?_) (fun i j hi hj=> ?_)
   .obtain⟨u,h10,_⟩:=hv i j hi hj;refine⟨?_,by rw[DR,h3.cell,h10];rfl⟩;show(if _ then _ else _)=_;rw[Dw];refine⟨⟨_,_,h2⟩,?_⟩;have:(i+1)*l.sz<=l.es.length*l.sz:=DN _ hi;rw[Ei]at this;omega
   .obtain⟨u,h10,h11⟩:=hv i j hi hj;rw[h10];exact h11.JW hp
theorem KZ.frozen {Jp:List (Nat×Obj)} {q e:Nat} {l:Sl} (h:KZ O Jp m w q (.arr e true l)):Jw O w (m q) (.sl l):=by
 rcases h.2 with ⟨h1,h2,h3⟩ | ⟨h1,g,cap,cur,h2,h3,h4,h5,h6,h7,h8,h9⟩
 .rw[h3];exact Jw.ofNil h2
 .rw[h2];refine Jw.sl (fun i j=>(cur[i*l.sz+j]?).getD undef) h4 (fun i j hi hj=> ?_) (fun i j hi hj=> ?_)
  .obtain⟨u,h10,_⟩:=h7 i j hi hj;have:(i+1)*l.sz<=l.es.length*l.sz:=DN _ hi;rw[Ei]at this;refine⟨by have:=h9 (i*l.sz+j) (by omega);simpa using this,by rw[DR,h3.cell,h10];rfl⟩
  .obtain⟨u,h10,h11⟩:=h7 i j hi hj;rw[h10];exact h11
def Frz (Jp:List (Nat×Obj)) (U:List (Nat×Obj)):Prop:= ∀ p∈U,∃ e f l,Jv Jp p.1=some (.arr e f l)/\p.2= .arr e true l
def NR (Jp:List (Nat×Obj)) (q:Nat):Prop:= ∀ e f l,Jv Jp q≠some (.arr e f l)
theorem NR.of {Jp:List (Nat×Obj)} {q:Nat} {x:Obj} (h:Jv Jp q=some x) (hx: ∀ e f l,x≠ .arr e f l):NR Jp q:=by grind[Obj,Jv,NR]
theorem Sim.freezes: ∀(U:List (Nat×Obj)) {O:Own} {st:St},Sim V0 O0 w0 O m st a w->Frz st.Jp U ->
 ∃ O',Sim V0 O0 w0 O' m {st with Jp:=JC st.Jp U} a w/\Nj O w O' w/\(∀ b k,O' b k≠none->O b k≠none)/\(∀ p∈U,∀ e l,p.2= .arr e true l->Jw O' w (m p.1) (.sl l)) /\
  Rz st.Jp m (JC st.Jp U) m (fun _=>False)/\ ∀ b k r,O b k=some r->(NR st.Jp r\/U=[])->O' b k=some r:=by
 intro U
 induction U with
 | nil=>intro O st hS _;exact⟨O,hS,fun _ _ _ h hc=>⟨h,hc⟩,fun _ _ h=>h,(fun p hp=>by cases hp),(fun o y hy=>.inr ⟨y,hy,rfl,rfl⟩),fun _ _ _ h _=>h⟩
 | cons p U ih =>
  intro O st hS hU;obtain⟨q,y⟩:=p;obtain⟨e,f,l,h1,h2⟩:=hU (q,y) Du;dsimp only at h1 h2;subst h2;obtain⟨O1,hS1,hp1,hle1,hv1,hk1⟩:=hS.kP h1
  obtain⟨O2,hS2,hp2,hle2,hv2,hE2,hk2⟩:=ih hS1 (fun p hp=>by
   obtain⟨e',f',l',h3,h4⟩:=hU p (Dy _ hp);by_cases hq:p.1=q
   .refine⟨e',true,l',?_,h4⟩;rw[Ky,Dw hq];rw[hq,h1]at h3;injection h3 with h3;injection h3 with q1 q2 q3;subst q1;subst q3;rfl
   .exact⟨e',f',l',by rw[Ky,Dt hq];exact h3,h4⟩)
  refine⟨O2,hS2,fun b k u h hc=>hp2 b k u (hp1 b k u h hc).1 hc,fun b k h=>hle1 b k (hle2 b k h),fun p hp e' l' he=> ?_,fun r y hy=> ?_,fun b k r h hb=> ?_⟩
  .rcases Dz.1 hp with rfl | hp
   .injection he with q1 _ q3;subst q1;subst q3;exact hv1.JW hp2
   .exact hv2 p hp _ _ he
  .rcases hE2 r y hy with h | ⟨z,h3,h4,_⟩
   .exact h.elim
   .right;dsimp only at h3;rw[Ky]at h3;by_cases hr:r=q
    .subst hr;rw[Dw rfl]at h3;injection h3 with h3;subst h3;exact⟨_,h1,h4,rfl⟩
    .rw[Dt hr]at h3;exact⟨z,h3,h4,rfl⟩
  .have hb:=hb.resolve_right (by simp);have hrq:r≠q:=fun h=>hb _ _ _ (by rw[h];exact h1);exact hk2 b k r (hk1 b k r h hrq) (.inl fun e' f' l'=>by dsimp only;rw[Ky,Dt hrq];exact hb e' f' l')
theorem Abf {l:List (Nat×Obj)} {n:Nat} {p:Nat×Obj} (h:p∈SX l n):p∈l:=by
 induction l with
 | nil=>cases h
 | cons q r ih=>grind[sN]
theorem AhC {l:List (Nat×Obj)} {n:Nat} {y:Obj} {p:Nat×Obj} (h:p∈YY l n y):p=(n,y)\/p∈l:=by
 induction l with
 | nil=>grind[YY]
 | cons q r ih=>grind[YY]
theorem ZB: ∀(u:List (Nat×Obj)) {l:List (Nat×Obj)} {p:Nat×Obj},p∈JC l u->p∈u\/p∈l:=by
 intro u
 induction u with
 | nil=>intro l p h;exact .inr h
 | cons q u ih =>
  intro l p h;obtain⟨n,y⟩:=q;rcases ih h with h | h
  .grind[Obj,JC]
  .rcases AhC h with h | h;all_goals grind[Abf]
theorem Qu.frz {n:Nat} {U:List (Nat×Obj)} (h:Qu st n) (hU:Frz st.Jp U):Qu {st with Jp:=JC st.Jp U} n:=by
 refine⟨fun hm=> ?_,?_,h.ne,h.root⟩
 .rcases DU.1 hm with h1 | h1
  .exact h.1 (DD _ h1)
  .obtain⟨p,hp,hi⟩:=DX.1 h1;rcases ZB U hp with hp | hp
   .obtain⟨e,f,l,_,h2⟩:=hU p hp;rw[h2]at hi;cases hi
   .exact h.1 (DC _ (DX.2 ⟨p,hp,hi⟩))
 .rw[MI _ _ _ (fun p hp he=> ?_)]
  .exact h.2
  .obtain⟨e,f,l,h1,_⟩:=hU p hp;rw[he,h.2]at h1;cases h1
def OL (Jp:List (Nat×Obj)) (fet:Fet):Prop:= ∀ q x,Jv fet q=some x->Jv Jp q=some x
theorem AhU {O:Own} {w:World} {k:CK} {v:Value} {l:Sl} (hok:J5 (W9 k l).1) (h:Jw O w v (.sl l)):Jw O w v (W9 k l).2:=by
 cases k<;>first
  | exact h
  | (have h0:=hok.cons.1
     exact .sln h fun he=>by simp [he]at h0)
theorem Aqa {O:Own} {w:World} {v:Value} {l:Sl} (k:CK) (h:Jw O w v (.sln l)):Jw O w v (AtI k l):=by
 cases k<;>first
  | exact h
  | (cases h with
     | sln h _=>exact h)
theorem AhV {fet:Fet} {k:CK} {c:A} {v:Value} (hf:OL st.Jp fet) (hc:JF O st.Jp m w v c) (hok:J5 (pur fet k c).1) :
 Frz st.Jp (pur fet k c).2.2/\ ∀ {O':Own},Nj O w O' w->(∀ p∈(pur fet k c).2.2,∀ e l,p.2= .arr e true l->Jw O' w (m p.1) (.sl l))->Jw O' w v (pur fet k c).2.1:=by
 have triv:Frz st.Jp []:=fun p hp=>by cases hp
 unfold pur at *
 cases c with
 | own q =>
  dsimp only at hok ⊢;cases hg:Jv fet q with
  | none=>simp_all[Fet,CK,OL,JF,J5,pur]
  | some x =>
   cases x with
   | box _=>simp_all[Fet,CK,OL,JF,J5,pur]
   | mp _=>simp_all[Fet,CK,OL,JF,J5,pur]
   | arr e f l =>
    rw[hg]at hok;dsimp only at hok ⊢;have h1:=hf q _ hg;refine⟨fun p hp=> ?_,fun hp hv=> ?_⟩
    .simp at hp;subst hp;exact⟨e,f,l,h1,rfl⟩
    .have h2:=hc.2;rw[h1]at h2;simp only[Option.map_some,Obj.shp]at h2;rw[h2];exact AhU hok (hv _ Du e l rfl)
 | Lj =>
  have hv:=hc.Lj;cases k with
  | sl e sz=>subst hv;exact⟨triv,fun _ _=>.nil _⟩
  | sln e sz=>subst hv;exact⟨triv,fun _ _=>.sln (.nil _) fun _=>rfl⟩
  | _=>have:=hok false (by simp);cases this
 | bool _=>exact⟨triv,fun hp _=>Jw.JW hp hc⟩
 | int _ _=>exact⟨triv,fun hp _=>Jw.JW hp hc⟩
 | str _=>exact⟨triv,fun hp _=>Jw.JW hp hc⟩
 | sl _=>exact⟨triv,fun hp _=>AhU hok (Jw.JW hp hc)⟩
 | sln _=>exact⟨triv,fun hp _=>Aqa k (Jw.JW hp hc)⟩
 | LP=>exact⟨triv,fun hp _=>Jw.JW hp hc⟩
 | fn _=>exact⟨triv,fun hp _=>Jw.JW hp hc⟩
 | _=>have:=hok false (by simp);cases this
theorem Frz.append {Jp:List (Nat×Obj)} {U V:List (Nat×Obj)} (h:Frz Jp U) (h':Frz Jp V):Frz Jp (U++V):=by grind[Obj,Frz]
theorem UQ {fet:Fet} (hf:OL st.Jp fet): ∀(ks:List CK) (cs:List A) (f:Nat->Value),(∀ j,j<cs.length->JF O st.Jp m w (f j) (cs.getD j .undef))->J5 (KF fet ks cs).1 ->
 (KF fet ks cs).2.1.length=ks.length/\cs.length=ks.length/\Frz st.Jp (KF fet ks cs).2.2/\ ∀ {O':Own},Nj O w O' w->(∀ p∈(KF fet ks cs).2.2,∀ e l,p.2= .arr e true l->Jw O' w (m p.1) (.sl l)) ->
   ∀ j,j<ks.length->Jw O' w (f j) ((KF fet ks cs).2.1.getD j .undef):=by
 intro ks
 induction ks with
 | nil =>
  intro cs f _ hok;cases cs with
  | nil=>simp_all[KF,Fet,OL,CK,JF,J5,Frz]
  | cons _ _=>have:=hok false (by simp [KF]);cases this
 | cons k ks ih =>
  intro cs f h hok;cases cs with
  | nil=>have:=hok false (by simp [KF]);cases this
  | cons c cs =>
   simp only[KF]at hok ⊢;obtain⟨hok1,hok2⟩:=hok.append;obtain⟨h1,h2⟩:=AhV hf (h 0 (by simp)) hok1;obtain⟨h3,h4,h5,h6⟩:=ih cs (fun j=>f (j+1)) (fun j hj=>by simpa using h (j+1) (by simpa using hj)) hok2;refine⟨by simp [h3],by simp [h4],h1.append h5,fun hp hv j hj=> ?_⟩;cases j with
   | zero=>exact h2 hp (fun p hp=>hv p (DD _ hp))
   | succ j=>simpa using h6 hp (fun p hp=>hv p (DC _ hp)) j (by simpa using hj)
end
section
variable {P:Program} {C:Ctx} {V0:Nat->Value} {O0 O:Own} {w0 w:World} {m:Nat->Value} {st:St} {a:Act} {o:Oper}
def Held (O:Own) (w:World) (cur:Array Value) (sz:Nat) (es:List (List A)):Prop :=
 (∀ x∈es,x.length=sz)/\ ∀ i j,i<es.length->j<sz-> ∃ u,cur[i*sz+j]? =some u/\Jw O w u ((es.getD i []).getD j .undef)
theorem Aao (hS:Sim V0 O0 w0 O m st a w) {w2:World} (hM:Moves O (fun _=>False) w w2) {d:Tmp} {e cap:Nat} {frz:Bool} {l:Sl} {cur:Array Value} {del:List Nat} (hnew:NJ w2 w.heap.size cur e)
 (hcap:l.es.length<=cap) (hmax:cap<=maxLen) (hcur:cur.size=cap*l.sz) (hh:Held O w cur l.sz l.es) (hfresh:Qu st (b2 d)) :
 ∃ O' m',Sim V0 O0 w0 O' m' {tmps:=st.tmps.set d (.own (b2 d)),Jp:=JC (Kw st.Jp del) [(b2 d,.arr e frz l)]} (a.put (some d) (.slice (some (at' w.heap.size 0)) l.es.length cap)) w2:=by
 let id:=b2 d;let O':Own:=fun b k=>if b=w.heap.size then(if frz=true/\k<l.es.length*l.sz then none else some id)else O b k;let m':Nat->Value:=fun i=>if i=id then .slice (some (at' w.heap.size 0)) l.es.length cap else m i;have hlt: ∀ {b k},b<w.heap.size->O' b k=O b k:=fun hb=>Dt (GH hb);have hP:Passes O O' (fun _=>False) w.heap.size:=⟨fun b k hb h=>by rw[hlt hb];exact h,fun b k q hb h _=>by rw[hlt hb];exact h⟩
 have hpr:=hM.JW hP
 have hget: ∀ i y,Jv (JC (Kw st.Jp del) [(id,.arr e frz l)]) i=some y->(i=id/\y= .arr e frz l)\/(i≠id/\Jv st.Jp i=some y):=by
  intro i y hy;simp only[JC]at hy;rw[Ky]at hy;by_cases hi:i=id
  .rw[Dw hi]at hy;injection hy with hy;exact .inl ⟨hi,hy.symm⟩
  .rw[Dt hi,Ui]at hy;split at hy
   .cases hy
   .exact .inr ⟨hi,hy⟩
 have hE:Rz st.Jp m (JC (Kw st.Jp del) [(id,.arr e frz l)]) m' (fun i=>i=id):=by
  intro i y hy;rcases hget i y hy with ⟨h1,_⟩ | ⟨h1,h2⟩
  .exact .inl h1
  .exact .inr ⟨y,h2,rfl,Dt h1⟩
 refine⟨O',m',hS.next (st':= {tmps:=st.tmps.set d (.own (b2 d)),Jp:=JC (Kw st.Jp del) [(id,.arr e frz l)]}) (x:=.own id) (T:=fun _=>False) (Nw:=fun i=>i=id) hM hP (fun b k hb h=>by rw[hlt hb]at h;exact h) hE (fun n hn=>by rw[hn];exact hfresh.both) (fun _ h=>h.elim) (fun i y hy=> ?_) rfl (fun _=> ?_)⟩
 .rcases hget i y hy with ⟨h1,h2⟩ | ⟨h1,h2⟩
  .right;subst h1;subst h2;refine⟨⟨hh.1,.inr ⟨trivial,w.heap.size,cap,cur,Dw rfl,hnew,hcap,hmax,hcur,fun i j hi hj=> ?_,fun k hk hge=> ?_,fun k hk=> ?_⟩⟩,hfresh.ne⟩
   .obtain⟨u,h3,h4⟩:=hh.2 i j hi hj;exact⟨u,h3,h4.JW hpr⟩
   .show(if _ then(if _ then _ else _)else _)=_;rw[Dw rfl,AvH]
   .show(if _ then(if _ then _ else _)else _)=_;rw[Dw rfl];cases frz
    .simp
    .simp [hk]
  .exact .inl ⟨fun h=>h,h2,Dt h1⟩
 .refine⟨rfl,?_⟩;all_goals grind[Jv,JC,Kw,Ky,Obj.shp]
theorem X3 (hS:Sim V0 O0 w0 O m st a w) {w1:World} (hM1:Moves O (fun _=>False) w w1) (hsz1:w1.heap.size=w.heap.size) {d:Tmp} {e cap:Nat} {frz:Bool} {l:Sl} {cur:Array Value} {del:List Nat}
 (hcap:l.es.length<=cap) (hmax:cap<=maxLen) (hcur:cur.size=cap*l.sz) (hh:Held O w cur l.sz l.es) (hfresh:Qu st (b2 d)) :
 ∃ O' m',Sim V0 O0 w0 O' m' {tmps:=st.tmps.set d (.own (b2 d)),Jp:=JC (Kw st.Jp del) [(b2 d,.arr e frz l)]} (a.put (some d) (.slice (some (at' w.heap.size 0)) l.es.length cap)) (w1.alloc (.cells cur e)):=by
 exact Aao hS (hM1.then (by rw[<- hsz1]at *;exact Moves.push _)) ⟨_,by rw[<- hsz1];exact nT _ _,.inl rfl⟩ hcap hmax hcur hh hfresh
theorem oG (hS:Sim V0 O0 w0 O m st a w) {d:Tmp} {e:Nat} {frz:Bool} {t:Ty} {del:List Nat} {id:Nat} (hfresh:Qu st id) :
 ∃ O' m',Sim V0 O0 w0 O' m' {tmps:=st.tmps.set d (.own id),Jp:=JC (Kw st.Jp del) [(id,.arr e frz ⟨t,[]⟩)]} (a.put (some d) (.slice none 0 0)) w:=by
 let m':Nat->Value:=fun i=>if i=id then .slice none 0 0 else m i
 have hget: ∀ i y,Jv (JC (Kw st.Jp del) [(id,.arr e frz ⟨t,[]⟩)]) i=some y->(i=id/\y= .arr e frz ⟨t,[]⟩)\/(i≠id/\Jv st.Jp i=some y):=by
  intro i y hy;simp only[JC]at hy;rw[Ky]at hy;by_cases hi:i=id
  .rw[Dw hi]at hy;injection hy with hy;exact .inl ⟨hi,hy.symm⟩
  .rw[Dt hi,Ui]at hy;split at hy
   .cases hy
   .exact .inr ⟨hi,hy⟩
 have hE:Rz st.Jp m (JC (Kw st.Jp del) [(id,.arr e frz ⟨t,[]⟩)]) m' (fun i=>i=id):=by
  intro i y hy;rcases hget i y hy with ⟨h1,_⟩ | ⟨h1,h2⟩
  .exact .inl h1
  .exact .inr ⟨y,h2,rfl,Dt h1⟩
 refine⟨O,m',hS.next (st':= {tmps:=st.tmps.set d (.own id),Jp:=JC (Kw st.Jp del) [(id,.arr e frz ⟨t,[]⟩)]}) (x:=.own id) (T:=fun _=>False) (Nw:=fun i=>i=id) (Moves.refl _ _ _) ⟨fun _ _ _ h=>h,fun _ _ _ _ h _=>h⟩ (fun b k hb h=>h) hE (fun n hn=>by rw[hn];exact hfresh.both) (fun _ h=>h.elim) (fun i y hy=> ?_) rfl (fun _=> ?_)⟩
 .rcases hget i y hy with ⟨h1,h2⟩ | ⟨h1,h2⟩
  .right;subst h1;subst h2;exact⟨⟨by simp [Sl.es],.inl ⟨trivial,rfl,Dw rfl⟩⟩,hfresh.ne⟩
  .exact .inl ⟨fun h=>h,h2,Dt h1⟩
 .refine⟨rfl,?_⟩;all_goals grind[Jv,JC,Kw,Ky,Obj.shp]
theorem AiN (hS:Sim V0 O0 w0 O m st a w) {d:Tmp} {q e cap g:Nat} {frz:Bool} {l l':Sl} {ns:List (List A)} {cur:Array Value} {news:List Value}
 (hq:Jv st.Jp q=some (.arr e frz l)) (hm:m q= .slice (some (at' g 0)) l.es.length cap) (hg:NJ w g cur e) (hcap:l.es.length+ns.length<=cap) (hle:l'.es=l.es++ns) (hls:l'.sz=l.sz)
 (hl:news.length=ns.length*l.sz) (hns: ∀ x∈ns,x.length=l.sz) (hnv: ∀ i j,i<ns.length->j<l.sz->Jw O w (news.getD (i*l.sz+j) undef) ((ns.getD i []).getD j .undef)) (hfresh:Qu st (b2 d)) :
 ∃ O' m',Sim V0 O0 w0 O' m' {tmps:=st.tmps.set d (.own (b2 d)),Jp:=JC (Kw st.Jp [q]) [(b2 d,.arr e frz l')]} (a.put (some d) (.slice (some (at' g 0)) (l.es.length+ns.length) cap)) (w.setCells g (l.es.length*l.sz) news):=by
 let id:=b2 d;have hidq:id≠q:=fun h=>by have:=hfresh.2;rw[show b2 d=id from rfl,h,hq]at this;cases this
 obtain⟨hsz,hr⟩:=hS.Jp q _ hq
 obtain⟨g',cap',cur',h2,h3,h4,h5,h6,h7,h8,h9⟩: ∃ g' cap' cur',m q= .slice (some (at' g' 0)) l.es.length cap'/\NJ w g' cur' e/\l.es.length<=cap'/\cap'<=maxLen/\cur'.size=cap'*l.sz /\
  (∀ i j,i<l.es.length->j<l.sz-> ∃ u,cur'[i*l.sz+j]? =some u/\Jw O w u ((l.es.getD i []).getD j .undef))/\(∀ k,k<cur'.size->l.es.length*l.sz<=k->O g' k=some q)/\(∀ k,k<l.es.length*l.sz->O g' k=if frz then none else some q):=by
  rcases hr with ⟨_,_,h⟩ | ⟨_,h⟩
  .rw[hm]at h;cases h
  .exact h
 rw[hm]at h2;injection h2 with h2 _ hcc;injection h2 with h2;injection h2 with h2;subst h2;subst hcc;obtain⟨h3,_⟩:=hg.inj h3;subst h3;obtain⟨fr,hg,hfr0⟩:=hg;have hmul:(l.es.length+ns.length)*l.sz<=cap*l.sz:=DN _ hcap;rw[Ei]at hmul;obtain⟨c',g1,g2,g3,g4,g5,g6,g7,g8⟩:=Zi g news (l.es.length*l.sz) w hg (by rw[hl,h6];exact hmul);let w':=w.setCells g (l.es.length*l.sz) news;let O':Own:=fun b k=>if b=g/\k<cur.size then(if frz=true/\k<(l.es.length+ns.length)*l.sz then none else some id)else O b k;let m':Nat->Value:=fun i=>if i=id then .slice (some (at' g 0)) (l.es.length+ns.length) cap else m i;have hsame: ∀ k,(k<l.es.length*l.sz\/(l.es.length+ns.length)*l.sz<=k)->c'[k]? =cur[k]? :=by all_goals grind[getD_eq]
 have hM:Moves O (fun i=>i=q) w w':=by refine Moves.row g6 g7 g8 g5 hg g1 g4 g2 (fun k hk=>hsame k ?_) ?_;all_goals grind[apply]
 have hg':g<w.heap.size:=(DT.1 hg).1
 have own_g: ∀ k,k<cur.size->O g k=none\/O g k=some q:=by
  intro k hk;rcases Ec k (l.es.length*l.sz)with h | h
  .rw[h9 k h];cases frz<;>simp
  .exact .inr (h8 k hk h)
 have hP:Passes O O' (fun i=>i=q) w.heap.size:=by
  refine⟨fun b k _ h=> ?_,fun b k r _ h hne=> ?_⟩
  .show(if _ then(if _ then _ else _)else _)=_;by_cases hc:b=g/\k<cur.size
   .rw[Dw hc];obtain⟨rfl,hk⟩:=hc;rcases Ec k (l.es.length*l.sz)with h' | h'
    .have:=h9 k h';rw[h]at this;cases frz
     .simp at this
     .rw[Dw ⟨rfl,by rw[Ei];omega⟩]
    .rw[h8 k hk h']at h;cases h
   .rw[Dt hc];exact h
  .show(if _ then(if _ then _ else _)else _)=_;by_cases hc:b=g/\k<cur.size
   .obtain⟨rfl,hk⟩:=hc;rcases own_g k hk with h' | h'
    .rw[h]at h';cases h'
    .rw[h]at h';injection h' with h';exact absurd h' hne
   .rw[Dt hc];exact h
 have hpr:=hM.JW hP
 have hget: ∀ i y,Jv (JC (Kw st.Jp [q]) [(id,.arr e frz l')]) i=some y->(i=id/\y= .arr e frz l')\/(i≠id/\i≠q/\Jv st.Jp i=some y):=by
  intro i y hy;simp only[JC]at hy;rw[Ky]at hy;by_cases hi:i=id
  .rw[Dw hi]at hy;injection hy with hy;exact .inl ⟨hi,hy.symm⟩
  .rw[Dt hi,Ui]at hy;split at hy
   .cases hy
   .rename_i hnd;exact .inr ⟨hi,by simpa using hnd,hy⟩
 have hE:Rz st.Jp m (JC (Kw st.Jp [q]) [(id,.arr e frz l')]) m' (fun i=>i=id):=by
  intro i y hy;rcases hget i y hy with ⟨h1,_⟩ | ⟨h1,_,h2⟩
  .exact .inl h1
  .exact .inr ⟨y,h2,rfl,Dt h1⟩
 refine⟨O',m',hS.next (st':= {tmps:=st.tmps.set d (.own (b2 d)),Jp:=JC (Kw st.Jp [q]) [(id,.arr e frz l')]}) (x:=.own id) (T:=fun i=>i=q) (Nw:=fun i=>i=id) hM hP (fun b k hb h=> ?_) hE (fun n hn=>by rw[hn];exact hfresh.both) (fun o ho=>by rw[ho,hq];rfl) (fun i y hy=> ?_) rfl (fun _=> ?_)⟩
 .have h':(if b=g/\k<cur.size then(if frz=true/\k<(l.es.length+ns.length)*l.sz then none else some id)else O b k)≠none:=h;by_cases hc:b=g/\k<cur.size
  .rw[Dw hc]at h';obtain⟨rfl,hk⟩:=hc;rcases Ec k (l.es.length*l.sz)with hlt | hge
   .rw[h9 k hlt];cases frz
    .simp
    .exfalso;refine h' ?_;rw[Dw ⟨rfl,by rw[Ei];omega⟩]
   .rw[h8 k hk hge];simp
  .rw[Dt hc]at h';exact h'
 .rcases hget i y hy with ⟨h1,h2⟩ | ⟨h1,hiq,h2⟩
  .right;subst h1;subst h2;refine⟨?_,hfresh.ne⟩;simp only[KZ];rw[hle,hls];refine⟨fun x hx=>(DU.1 hx).elim (hsz x) (hns x),.inr ⟨trivial,g,cap,c',by rw[Dv];exact Dw rfl,⟨fr,g1,by rw[g2];exact hfr0⟩,by rw[Dv];exact hcap,h5,by rw[g2];exact h6,fun i j hi hj=> ?_,fun k hk hge=> ?_,fun k hk=> ?_⟩⟩
   .rw[Dv]at hi;by_cases hil:i<l.es.length
    .obtain⟨u,h10,h11⟩:=h7 i j hil hj;have hlt:i*l.sz+j<l.es.length*l.sz:=by have:(i+1)*l.sz<=l.es.length*l.sz:=DN _ hil;rw[Ei]at this;omega
     refine⟨u,by rw[hsame _ (.inl hlt)];exact h10,?_⟩;have e1:(l.es++ns).getD i []=l.es.getD i []:=by simp only[Dj];rw[Em hil]
     rw[e1];exact h11.JW hpr
    .obtain⟨i',rfl⟩: ∃ i',i=l.es.length+i':=⟨i - l.es.length,by omega⟩
     have hi':i'<ns.length:=by omega
     have hlt:i'*l.sz+j<ns.length*l.sz:=by have:(i'+1)*l.sz<=ns.length*l.sz:=DN _ hi';rw[Ei]at this;omega
     have hidx:(l.es.length+i')*l.sz+j=l.es.length*l.sz+(i'*l.sz+j):=by rw[Ei];omega
     have hsz':l.es.length*l.sz+(i'*l.sz+j)<c'.size:=by rw[g2,h6];omega
     refine⟨news.getD (i'*l.sz+j) undef,?_,?_⟩
     .rw[hidx,getD_eq hsz',g3,Dw ⟨by omega,by rw[hl];omega⟩];rw[show l.es.length*l.sz+(i'*l.sz+j) - l.es.length*l.sz=i'*l.sz+j from by omega]
     .have e1:(l.es++ns).getD (l.es.length+i') []=ns.getD i' []:=by
       simp only[Dj];rw[E5 (by omega),Gy]
      rw[e1];exact(hnv i' j hi' hj).JW hpr
   .rw[g2]at hk;rw[Dv]at hge;show(if _ then(if _ then _ else _)else _)=_;rw[Dw ⟨rfl,hk⟩,AvH]
   .rw[Dv]at hk;show(if _ then(if _ then _ else _)else _)=_;rw[Dw ⟨rfl,by rw[Ei]at hk;omega⟩];cases frz
    .simp
    .simp [hk]
  .exact .inl ⟨hiq,h2,Dt h1⟩
 .refine⟨rfl,?_⟩;have:Jv (JC (Kw st.Jp [q]) [(id,.arr e frz l')]) id=some (.arr e frz l'):=by simp only[JC];rw[Ky,Dw rfl]
  show match (Jv (JC (Kw st.Jp [q]) [(id,.arr e frz l')]) id).map Obj.shp with | some (.arr _ _)=>_ | some .mp=>_ | _=>True
  rw[this];exact(Dw rfl:m' id=_).symm
theorem AkF (hS:Sim V0 O0 w0 O m st a w) {d:Tmp} {q e cap g n:Nat} {l l':Sl} {cur:Array Value}
 (hq:Jv st.Jp q=some (.arr e false l)) (hm:m q= .slice (some (at' g 0)) l.es.length cap) (hg:NJ w g cur e) (hn:n<=l.es.length) (hle:l'.es=l.es.take n) (hls:l'.sz=l.sz) (hfresh:Qu st (b2 d)) :
 ∃ O' m',Sim V0 O0 w0 O' m' {tmps:=st.tmps.set d (.own (b2 d)),Jp:=JC (Kw st.Jp [q]) [(b2 d,.arr e false l')]} (a.put (some d) (.slice (some (at' g 0)) n cap)) w:=by
 let id:=b2 d;obtain⟨hsz,hr⟩:=hS.Jp q _ hq
 obtain⟨g',cap',cur',h2,h3,h4,h5,h6,h7,h8,h9⟩: ∃ g' cap' cur',m q= .slice (some (at' g' 0)) l.es.length cap'/\NJ w g' cur' e/\l.es.length<=cap'/\cap'<=maxLen/\cur'.size=cap'*l.sz /\
  (∀ i j,i<l.es.length->j<l.sz-> ∃ u,cur'[i*l.sz+j]? =some u/\Jw O w u ((l.es.getD i []).getD j .undef))/\(∀ k,k<cur'.size->l.es.length*l.sz<=k->O g' k=some q)/\(∀ k,k<l.es.length*l.sz->O g' k=some q):=by
  rcases hr with ⟨_,_,h⟩ | ⟨_,h⟩
  .rw[hm]at h;cases h
  .simpa using h
 rw[hm]at h2;injection h2 with h2 _ hcc;injection h2 with h2;injection h2 with h2;subst h2;subst hcc;obtain⟨h3,_⟩:=hg.inj h3;subst h3
 have own_g: ∀ k,k<cur.size->O g k=some q:=by
  intro k hk;rcases Ec k (l.es.length*l.sz)with h | h
  .exact h9 k h
  .exact h8 k hk h
 let O':Own:=fun b k=>if b=g/\k<cur.size then some id else O b k;let m':Nat->Value:=fun i=>if i=id then .slice (some (at' g 0)) n cap else m i;have hM:Moves O (fun i=>i=q) w w:=Moves.refl _ _ _
 have hP:Passes O O' (fun i=>i=q) w.heap.size:=by
  refine⟨fun b k _ h=> ?_,fun b k r _ h hne=> ?_⟩
  .show(if _ then _ else _)=_;by_cases hc:b=g/\k<cur.size
   .obtain⟨rfl,hk⟩:=hc;rw[own_g k hk]at h;cases h
   .rw[Dt hc];exact h
  .show(if _ then _ else _)=_;by_cases hc:b=g/\k<cur.size
   .obtain⟨rfl,hk⟩:=hc;rw[own_g k hk]at h;injection h with h;exact absurd h.symm hne
   .rw[Dt hc];exact h
 have hpr:=hM.JW hP
 have hget: ∀ i y,Jv (JC (Kw st.Jp [q]) [(id,.arr e false l')]) i=some y->(i=id/\y= .arr e false l')\/(i≠id/\i≠q/\Jv st.Jp i=some y):=by
  intro i y hy;simp only[JC]at hy;rw[Ky]at hy;by_cases hi:i=id
  .rw[Dw hi]at hy;injection hy with hy;exact .inl ⟨hi,hy.symm⟩
  .rw[Dt hi,Ui]at hy;split at hy
   .cases hy
   .rename_i hnd;exact .inr ⟨hi,by simpa using hnd,hy⟩
 have hE:Rz st.Jp m (JC (Kw st.Jp [q]) [(id,.arr e false l')]) m' (fun i=>i=id):=by
  intro i y hy;rcases hget i y hy with ⟨h1,_⟩ | ⟨h1,_,h2⟩
  .exact .inl h1
  .exact .inr ⟨y,h2,rfl,Dt h1⟩
 have hlen:l'.es.length=n:=by rw[hle,Ea];omega
 have hmul:n*l.sz<=l.es.length*l.sz:=DN _ hn;have hmul2:l.es.length*l.sz<=cap*l.sz:=DN _ h4;refine⟨O',m',hS.next (st':= {tmps:=st.tmps.set d (.own (b2 d)),Jp:=JC (Kw st.Jp [q]) [(id,.arr e false l')]}) (x:=.own id) (T:=fun i=>i=q) (Nw:=fun i=>i=id) hM hP (fun b k hb h=> ?_) hE (fun n hn=>by rw[hn];exact hfresh.both) (fun o ho=>by rw[ho,hq];rfl) (fun i y hy=> ?_) rfl (fun _=> ?_)⟩
 .have h':(if b=g/\k<cur.size then some id else O b k)≠none:=h;by_cases hc:b=g/\k<cur.size
  .obtain⟨rfl,hk⟩:=hc;rw[own_g k hk];simp
  .rw[Dt hc]at h';exact h'
 .rcases hget i y hy with ⟨h1,h2⟩ | ⟨h1,hiq,h2⟩
  .right;subst h1;subst h2;refine⟨?_,hfresh.ne⟩;simp only[KZ];rw[hls,hlen];refine⟨fun x hx=>hsz x (by rw[hle]at hx;exact Gn hx),.inr ⟨trivial,g,cap,cur,Dw rfl,hg,by omega,h5,h6,fun i j hi hj=> ?_,fun k hk hge=>Dw ⟨rfl,hk⟩,fun k hk=> ?_⟩⟩
   .obtain⟨u,h10,h11⟩:=h7 i j (by omega) hj;refine⟨u,h10,?_⟩;have e1:l'.es.getD i []=l.es.getD i []:=by rw[hle];simp only[Dj,GR];rw[Dw hi]
    rw[e1];exact h11.JW hpr
   .show(if _ then _ else _)=_;rw[Dw ⟨rfl,by omega⟩];rfl
  .exact .inl ⟨hiq,h2,Dt h1⟩
 .refine⟨rfl,?_⟩;have:Jv (JC (Kw st.Jp [q]) [(id,.arr e false l')]) id=some (.arr e false l'):=by simp only[JC];rw[Ky,Dw rfl]
  show match (Jv (JC (Kw st.Jp [q]) [(id,.arr e false l')]) id).map Obj.shp with | some (.arr _ _)=>_ | some .mp=>_ | _=>True
  rw[this];exact(Dw rfl:m' id=_).symm
end
section
variable {P:Program} {C:Ctx} {V0:Nat->Value} {O0 O:Own} {w0 w:World} {m:Nat->Value} {st:St} {a:Act} {o:Oper}
theorem We {δ :Dl} {d:Tmp} (hd:o.dst=some d):apply st o δ = {tmps:=st.tmps.set d δ.val,Jp:=JC (Kw (JC st.Jp δ.upd) δ.del) δ.new}:=by unfold apply;rw[hd];rfl
theorem WI {t:Nat} {k:Nat->TI->Dl} (hok:J5 (elemOf C t k).ok): ∃ ti e te,C.T t=some ti/\ti.d= .slice e/\C.T e=some te/\elemOf C t k=k e te:=by
 unfold elemOf at *
 obtain⟨ti,ht,he⟩:=Kt hok;rw[he]at hok ⊢;clear he;obtain⟨e,hel,he⟩:=JL hok;rw[he]at hok ⊢;clear he;obtain⟨te,hte,he⟩:=Kt hok;exact⟨ti,e,te,ht,RX hel,hte,he⟩
theorem An8 {O':Own} {w':World} {fet:Fet} {te:TI} {ty:Ty} (hf:OL st.Jp fet) (hp:Nj O w O' w) (hw:w'=w): ∀(xs:List (Nat×A)) (ps:List (Nat×Value)) (vs:Array Value) (zs:List ty.Val),
 xs.length=ps.length->(∀(j:Nat) (x:Nat×A) (p:Nat×Value),xs[j]? =some x->ps[j]? =some p->p.1=x.1/\J8 O st.Jp m w p.2 x.2/\x.2.isVal=true) ->
 vs.size=zs.length*te.cs.length->Held O' w' vs te.cs.length (zs.map ty.cells)->J5 (O7 fet te ty xs zs).1 ->
 (∀ p∈(O7 fet te ty xs zs).2.2,∀ e l,p.2= .arr e true l->Jw O' w (m p.1) (.sl l)) ->
 (O7 fet te ty xs zs).2.1.length=zs.length/\ ∃ vs',Instr.fill (fun i=>some (i*te.cs.length,te.cs.length)) vs ps=some vs'/\vs'.size=vs.size/\Held O' w' vs' te.cs.length ((O7 fet te ty xs zs).2.1.map ty.cells):=by
 subst hw;intro xs
 induction xs with
 | nil =>
  intro ps vs zs hl _ hsz hh _ _;cases ps with
  | nil=>exact⟨rfl,vs,rfl,rfl,hh⟩
  | cons _ _=>simp at hl
 | cons x xs ih =>
  intro ps vs zs hl hr hsz hh hok hU;cases ps with
  | nil=>simp at hl
  | cons p ps =>
   obtain⟨i,x⟩:=x;obtain⟨i',v⟩:=p;obtain⟨h1,h2,hval⟩:=hr 0 (i,x) (i',v) rfl rfl;dsimp only at h1 h2 hval;subst h1;simp only[O7]at hok hU ⊢;obtain⟨hok1,hok2⟩:=hok.append;obtain⟨hok0,hok1⟩:=hok1.append;obtain⟨hmk,hok1⟩:=hok1.cons;have hmk:=Ty.SG _ _ hmk;have hil':i'<zs.length:=by simpa [Ep]using hok1.cons.1
   have hset:(zs.set i' (ty.mk (KF fet te.cs x.cells).2.1).2).map ty.cells=(zs.map ty.cells).set i' (KF fet te.cs x.cells).2.1:=by rw[List.map_set,hmk]
   have hzl:zs.length=(zs.map ty.cells).length:=by simp
   rw[hzl]at hsz hil';generalize hes:zs.map ty.cells=es at *
   have hil:i'<es.length:=hil';have hcs:=h2.cells hval;obtain⟨g1,g2,g3,g4⟩:=UQ hf te.cs x.cells (fun j=>v.cells.getD j undef) (fun j hj=>hcs.2 j hj) hok0;have g5:=g4 hp (fun p hp'=>hU p (DD _ hp'));have hvsz:v.cells.size=te.cs.length:=by rw[hcs.1,g2]
   have hle:i'*te.cs.length+te.cs.length<=vs.size:=by rw[hsz];have:(i'+1)*te.cs.length<=es.length*te.cs.length:=DN _ hil;rw[Ei]at this;omega
   have e0:v.cells.zipIdx.foldl (fun cs (c,j)=>cs.setIfInBounds (i'*te.cs.length+j) c) vs=(v.cells.toList.zipIdx 0).foldl (fun cs (p:Value×Nat)=>cs.setIfInBounds (i'*te.cs.length+p.2) p.1) vs:=by rw[<- Iy];simp
   have hl0:i'*te.cs.length+0+v.cells.toList.length<=vs.size:=by rw[Array.length_toList,hvsz];omega
   obtain⟨k1,_⟩:=Vj v.cells.toList 0 (i'*te.cs.length) vs 0 hl0;have k2:=fun j=>(Vj v.cells.toList 0 (i'*te.cs.length) vs j hl0).2;rw[<- e0]at k1
   have hh':Held O' w' (v.cells.zipIdx.foldl (fun cs (c,j)=>cs.setIfInBounds (i'*te.cs.length+j) c) vs) te.cs.length (es.set i' (KF fet te.cs x.cells).2.1):=by
    refine⟨fun y hy=> ?_,fun r j hrl hj=> ?_⟩
    .rcases FV hy with h | h
     .exact hh.1 y h
     .rw[h,g1]
    .rw[F7]at hrl;have hlt:r*te.cs.length+j<vs.size:=by rw[hsz];have:(r+1)*te.cs.length<=es.length*te.cs.length:=DN _ hrl;rw[Ei]at this;omega
     have hk:=k2 (r*te.cs.length+j);rw[<- e0]at hk;by_cases hri:r=i'
     .subst hri;rw[Dw (by rw[Array.length_toList,hvsz];omega)]at hk;have e1:(es.set r (KF fet te.cs x.cells).2.1).getD r []=(KF fet te.cs x.cells).2.1:=by simp [Dj,hil]
      refine⟨_,getD_eq,?_⟩;rw[hk,e1,show r*te.cs.length+j - (r*te.cs.length+0)=j from by omega];have e2:v.cells.toList.getD j undef=v.cells.getD j undef:=by rw[Dn,Dj,DY]
      rw[e2];exact g5 j hj
     .have hno: ¬(i'*te.cs.length+0<=r*te.cs.length+j/\r*te.cs.length+j<i'*te.cs.length+0+v.cells.toList.length):=by
       rw[Array.length_toList,hvsz];rintro ⟨ha,hb⟩;rcases Iz hri with h | h
       .have:(r+1)*te.cs.length<=i'*te.cs.length:=DN _ h;rw[Ei]at this;omega
       .have:(i'+1)*te.cs.length<=r*te.cs.length:=DN _ h;rw[Ei]at this;omega
      rw[Dt hno]at hk;obtain⟨u,h3,h4⟩:=hh.2 r j hrl hj;refine⟨u,?_,?_⟩
      .rw[getD_eq,hk,<- getD_eq hlt];exact h3
      .have e1:(es.set i' (KF fet te.cs x.cells).2.1).getD r []=es.getD r []:=by
        simp only[Dj,FC];rw[Dt (fun h=>hri h.symm)]
       rw[e1];exact h4
   obtain⟨f1,vs',f2,f3,f4⟩:=ih ps _ (zs.set i' (ty.mk (KF fet te.cs x.cells).2.1).2) (by simpa using hl) (fun j x p hx hp=>hr (j+1) x p (by simpa using hx) (by simpa using hp)) (by rw[k1,hsz,F7,hzl]) (by rw[hset];exact hh') hok2
    (fun p hp'=>hU p (DC _ hp'))
   refine⟨by rw[f1,F7],vs',?_,by rw[f3,k1],f4⟩;simp only[Instr.fill];have: ¬(v.cells.size≠te.cs.length||decide (i'*te.cs.length+v.cells.size>vs.size))=true:=by rw[hvsz];simp;omega
   rw[Dt (by simpa using this)];exact f2
end
section
variable {P:Program} {C:Ctx} {V0:Nat->Value} {O0 O:Own} {w0 w:World} {m:Nat->Value} {st:St} {a:Act} {o:Oper}
theorem oU {fet:Fet} {ks:List CK} {x:A} (hok:J5 (KF fet ks x.cells).1):x.isVal=true:=by
 have no: ∀ {y:A},(∀ k,(pur fet k y).1=[false])-> ¬ J5 (KF fet ks [y]).1:=by
  intro y h hh;cases ks with
  | nil=>simp_all[KF,Fet,CK,J5]
  | cons k ks=>simp_all[KF,Fet,CK,J5]
 cases x with
 | undef=>exact(no (fun k=>rfl) hok).elim
 | tup _=>exact(no (fun k=>rfl) hok).elim
 | usl _ _ _=>exact(no (fun k=>rfl) hok).elim
 | ump _=>exact(no (fun k=>rfl) hok).elim
 | box _=>exact(no (fun k=>rfl) hok).elim
 | cbx _ _=>exact(no (fun k=>rfl) hok).elim
 | cnd _ _=>exact(no (fun k=>rfl) hok).elim
 | _=>rfl
theorem AiJ {fet:Fet} {te:TI} {ty:Ty} (hf:OL st.Jp fet): ∀(xs:List (Nat×A)) (zs:List ty.Val),(∀ x∈xs,∃ v,J8 O st.Jp m w v x.2)->J5 (O7 fet te ty xs zs).1->Frz st.Jp (O7 fet te ty xs zs).2.2/\ ∀ x∈xs,x.2.isVal=true:=by
 intro xs
 induction xs with
 | nil=>intro zs _ _;exact⟨(fun p hp=>by simp [O7]at hp),fun x hx=>by cases hx⟩
 | cons x xs ih =>intro zs h hok;obtain⟨i,x⟩:=x;simp only[O7]at hok ⊢;obtain⟨hok1,hok2⟩:=hok.append;obtain⟨hok0,_⟩:=hok1.append;have hv:=oU hok0;obtain⟨v,hx⟩:=h (i,x) Du;have hcs:=J8.cells (show J8 O st.Jp m w v x from hx) hv;obtain⟨_,_,g3,_⟩:=UQ hf te.cs x.cells (fun j=>v.cells.getD j undef) (fun j hj=>hcs.2 j hj) hok0;obtain⟨f1,f2⟩:=ih _ (fun y hy=>h y (Dy _ hy)) hok2;exact⟨g3.append f1,fun y hy=>by rcases Dz.1 hy with rfl | hy;exact hv;exact f2 y hy⟩
theorem Zm: ∀(vs:List Value) (ks:List CK),KC vs ks=true->ks.all CK.plain=true-> ∀ j,j<ks.length->Jw O w (vs.getD j undef) ((ks.map CK.OZ).getD j .undef):=by
 intro vs ks h hp j hj;obtain⟨h1,h2⟩:=TD (O:=O) (Jp:=[]) (m:=fun _=>undef) (w:=w) vs ks h;have h3:=h2 j hj;have hk:(ks.getD j .oth).plain=true:=by all_goals simp_all[CK,KC,CK.plain,Jw,CK.OZ]
 have e1:(ks.map CK.zero).getD j .undef=(ks.getD j .oth).zero:=by simp [Dj,hj]
 have e2:(ks.map CK.OZ).getD j .undef=(ks.getD j .oth).OZ:=by simp [Dj,hj]
 rw[e1]at h3;rw[e2];generalize ks.getD j .oth=k at *
 generalize vs.getD j undef=v at *
 cases k with
 | oth=>cases hk
 | mp _ _=>cases hk
 | bx _=>cases hk
 | fn=>exact h3
 | sl e sz=>have:=JF.Lj h3;subst this;exact .nil _
 | sln e sz=>have:=JF.Lj h3;subst this;exact .nil _
 | bool=>exact h3
 | int _=>exact h3
 | str=>exact h3
 | ptr=>exact h3
def zeros (z:Value) (n:Nat):Array Value:=(Array.range n).map (z.cells[· % z.cells.size]!)
theorem Held.less {cur:Array Value} {sz:Nat} {x:List A} {n k:Nat} (h:Held O w cur sz (List.replicate k x)) (hk:n<=k):Held O w cur sz (List.replicate n x):=by
 refine⟨fun y hy=> ?_,fun i j hi hj=> ?_⟩
 .rw[F8 hy];cases k with
  | zero=>grind[Held]
  | succ k=>grind[Held]
 .rw[Eo]at hi;obtain⟨u,h1,h2⟩:=h.2 i j (by rw[Eo];omega) hj;refine⟨u,h1,?_⟩;have e1:(List.replicate n x).getD i []=x:=by simp [Dj,hi]
  all_goals grind[Held]
theorem nU {t:Nat} {te:TI} {z:Value} (hT:V8 P t te) (hz:(P.info? t).bind (·.zero)=some z) (hp:te.cs.all CK.plain=true) (h0:0<te.cs.length) (n:Nat) :
 (zeros z (n*te.cs.length)).size=n*te.cs.length/\Held O w (zeros z (n*te.cs.length)) te.cs.length (List.replicate n (te.cs.map CK.OZ)):=by
 obtain⟨i,z',h1,h2,h3,h4,h5,h6⟩:=hT.i;rw[h1]at hz;simp only[Option.bind_some,h4]at hz;injection hz with hz;subst hz;have hsz:z'.cells.size=te.cs.length:=by rw[<- Array.length_toList];exact(TD (O:=O) (Jp:=[]) (m:=fun _=>undef) (w:=w) _ _ h5).1
 have hv:=Zm (O:=O) (w:=w) _ _ h5 hp;refine⟨by simp [zeros],fun x hx=>by rw[F8 hx];simp,fun r j hr hj=> ?_⟩;rw[Eo]at hr;have hlt:r*te.cs.length+j<n*te.cs.length:=by have:(r+1)*te.cs.length<=n*te.cs.length:=DN _ hr;rw[Ei]at this;omega
 have hmod:(r*te.cs.length+j) % te.cs.length=j:=by rw[He,Nat.mul_add_mod];exact Hf hj
 all_goals grind[zeros,CK.OZ]
theorem AbP {t n:Nat} {ps:Array (Nat×Operand)} (hC:TOk P C) (hS:Sim V0 O0 w0 O m st a w) {d:Tmp} (hd:o.dst=some d) (ho:o.op= .buildSlice t n ps) {fet:Fet} (hf:OL st.Jp fet) {xs:List (Nat×A)}
 (hl:xs.length=ps.size) (hx: ∀(j:Nat) (x:Nat×A) (p:Nat×Operand),xs[j]? =some x->ps[j]? =some p->p.1=x.1/\J8 O st.Jp m w (a.eval p.2) x.2)
 (hok:J5 (SB C fet d t n xs).ok) (hfr: ∀ p∈(SB C fet d t n xs).new,st.fresh p.1=true):Good P V0 O0 w0 (apply st o (SB C fet d t n xs)) o a w:=by
 intro next Q hn
 unfold SB at *
 obtain⟨ti,e,te,ht,hte,hd',he⟩:=WI hok;rw[he]at hn hfr hok;clear he;obtain⟨hok1,hok2⟩:=hok.append;obtain⟨hb1,hb2⟩:=hok2.cons;obtain⟨hb2,hb3⟩:=hb2.cons;have hb1:=DI hb1;have hb2:0<te.cs.length:=by simpa [Ep]using hb2
 have hb3:=hb3.cons.1;have hT:=hC.is hd';obtain⟨i,z,h1,h2,h3,h4,h5,h6⟩:=hT.i;have hu:=(hC.is ht).d;rw[hte]at hu;obtain⟨hU,hval⟩:=AiJ (te:=te) (ty:=tyl te.cs) hf xs (List.replicate n (tyl te.cs).zero) (fun x hx'=>by obtain⟨j,hj,hje⟩:=F9.1 hx';have:=hx j x (ps[j]'(by omega)) (by rw[<- hje];exact D9 hj) (by simp [show j<ps.size from by omega]);exact⟨_,this.2⟩) hok1;obtain⟨O1,hS1,hp1,hle1,hv1,hE1,_⟩:=hS.freezes _ hU;obtain⟨hz1,hz2⟩:=nU (O:=O1) (w:=w) hT (by rw[h1];exact h4) hb3 hb2 n
 obtain⟨f1,vs',f2,f3,f4⟩:=An8 (te:=te) (ty:=tyl te.cs) hf hp1 rfl xs (ps.map (fun(i,x)=>(i,a.eval x))).toList (zeros z (n*te.cs.length)) (List.replicate n (tyl te.cs).zero) (by simp [hl]) (fun j x p hxj hpj=>by
  simp only[Ha,Ed]at hpj;cases hq:ps.toList[j]? with
  | none=>rw[hq]at hpj;cases hpj
  | some q =>rw[hq]at hpj;injection hpj with hpj;subst hpj;have:=hx j x q hxj (by simpa using hq);exact⟨this.1,this.2,hval x (FB hxj)⟩) (by rw[hz1,Eo]) (by rw[<- Sl.aS _ _ hb3]at hz2;exact hz2) hok1 hv1
 have hlen:(O7 fet te (tyl te.cs) xs (List.replicate n (tyl te.cs).zero)).2.1.length=n:=by rw[f1,Eo]
 have hnn:n*te.cs.length<=16777216:=hb1;have hnle:n<=16777216:=Gj (Nat.le_mul_of_pos_right n hb2) hnn
 have hr:(execOp a.eval o).run P w= .ok (.value (.slice (some (at' w.heap.size 0)) n n)) (w.alloc (.cells vs' e)):=by
  have hbig: ¬(16777216<n*te.cs.length):=by omega
  simp only[execOp,ho,D8,Instr.buildSlice,DL hu,Result.andThen_ok,hT.OC];rw[Dt (by simpa using hbig)];by_cases h0:n*te.cs.length=0
  .have hz0:(Array.range (n*te.cs.length)).map ((#[]:Array Value)[· % (#[]:Array Value).size]!)=zeros z (n*te.cs.length):=by simp [zeros,h0]
   simp only[Dw h0,D8,Sem.run_pure,Result.andThen_ok,hz0,f2];rfl
  .simp only[Dt h0,D8,Sem.run_pure,Result.andThen_ok,zeroValue,typeInfo,run_program,h1,h4];have hz0:(Array.range (n*te.cs.length)).map (z.cells[· % z.cells.size]!)=zeros z (n*te.cs.length):=rfl;rw[hz0,f2];rfl
 unfold Oper.wp;rw[hr,Oper.upon_value,hd];have hfr':=(show Qu st (b2 d)from Nl (hfr _ Du)).frz hU;obtain⟨O',m',h⟩:=X3 hS1 (Moves.refl _ _ w) rfl (d:=d) (e:=e) (cap:=n) (frz:=false) (l:=⟨tyl te.cs,(O7 fet te (tyl te.cs) xs (List.replicate n (tyl te.cs).zero)).2.1⟩) (del:=[]) (by rw[Sl.KI,hlen];exact DW _) (by unfold maxLen;omega) (by rw[f3,hz1];show _=_*(tyl te.cs).len;rw[V4]) (by show Held _ _ _ (tyl te.cs).len _;rw[V4];exact f4) hfr';rw[Sl.KI,hlen]at h;refine hn O' m' _ _ ?_;rw[We hd];exact h
end
section
variable {P:Program} {C:Ctx} {V0:Nat->Value} {O0 O:Own} {w0 w:World} {m:Nat->Value} {st:St} {a:Act} {o:Oper}
theorem AnQ {t:Nat} {lo co:Operand} (hC:TOk P C) (hS:Sim V0 O0 w0 O m st a w) {d:Tmp} (hd:o.dst=some d) (ho:o.op= .makeSlice t lo co) {l c:A} (hl:J8 O st.Jp m w (a.eval lo) l) (hc:J8 O st.Jp m w (a.eval co) c)
 (hok:J5 (o9 C d t l c).ok) (hfr: ∀ p∈(o9 C d t l c).new,st.fresh p.1=true):Good P V0 O0 w0 (apply st o (o9 C d t l c)) o a w:=by
 intro next Q hn
 unfold o9 at *
 obtain⟨n,hn1,he⟩:=JL hok;rw[he]at hok hfr hn;clear he;obtain⟨n',hn2,he⟩:=JL hok;rw[he]at hok hfr hn;clear he;obtain⟨ti,e,te,ht,hte,hd',he⟩:=WI hok;rw[he]at hok hfr hn;clear he;obtain⟨k1,rfl⟩:=UI hn1;obtain⟨k2,rfl⟩:=UI hn2;obtain⟨h1,h2⟩:=hok.cons;obtain⟨h2,h3⟩:=h2.cons;obtain⟨h3,h4⟩:=h3.cons;obtain⟨h4,h5⟩:=h4.cons;have h5:=h5.cons.1;have h1:n<=n':=by simpa using h1
 have h2:0<=n:=by simpa using h2
 have h3:n'*((te.bytes:Int)+1)<=140737488355328:=by simpa using h3
 have h4:0<te.cs.length:=by simpa [Ep]using h4
 have hl:=hl.int;have hc:=hc.int;obtain⟨k,rfl⟩:=EP h2;obtain⟨c,rfl⟩:=EP (Int.le_trans h2 h1);have hkc:k<=c:=by omega
 have hT:=hC.is hd';obtain⟨i,z,g1,g2,g3,g4,g5,g6⟩:=hT.i;have hu:=(hC.is ht).d;rw[hte]at hu
 have h3':c*te.bytes+c<=140737488355328:=by
  have e0:(c:Int)*((te.bytes:Int)+1)=((c*te.bytes+c:Nat):Int):=by rw[Int.mul_add,Int.natCast_add,Int.natCast_mul,Int.mul_one]
  have h3:(c:Int)*((te.bytes:Int)+1)<=140737488355328:=h3;rw[e0]at h3;omega
 obtain⟨hz1,hz2⟩:=nU (O:=O) (w:=w) hT (by rw[g1];exact g4) h5 h4 c;have hz2:=hz2.less hkc
 have hr:(execOp a.eval o).run P w= .ok (.value (.slice (some (at' w.heap.size 0)) k c)) (w.alloc (.cells (zeros z (c*te.cs.length)) e)):=by
  have e1:(i.bytes:Int)*(c:Int)<=281474976710656:=by
   have:(i.bytes:Int)*c=((c*te.bytes:Nat):Int):=by rw[g3,Int.mul_comm,Int.natCast_mul]
   rw[this];omega
  have:=run_make (P:=P) w t e i z hu g1 g4 k1 k2 k c (by omega) (by omega) e1 (by omega);simp only[Int.toNat_natCast,g2]at this;have hl':a.eval lo= .int k1 (k:Int):=hl;have hc':a.eval co= .int k2 (c:Int):=hc;simp only[execOp,ho,D8,hl',hc',this,Result.andThen_ok,Sem.run_pure];rfl
 unfold Oper.wp;rw[hr,Oper.upon_value,hd];obtain⟨O',m',h⟩:=X3 hS (Moves.refl _ _ w) rfl (d:=d) (e:=e) (cap:=c) (frz:=false) (l:=⟨tyl te.cs,List.replicate k (tyl te.cs).zero⟩) (del:=[]) (by rw[Sl.KI,Eo];exact hkc) (by unfold maxLen;omega) (by rw[hz1];show _=_*(tyl te.cs).len;rw[V4]) (by show Held _ _ _ (tyl te.cs).len _;rw[V4,Sl.aS _ _ h5];exact hz2) (Nl (hfr _ Du));rw[Sl.KI,Eo]at h;refine hn O' m' _ _ ?_;rw[We hd];exact h
theorem AfU {t:Nat} {x:Operand} {lo hi mx:Option Operand} (hC:TOk P C) (hS:Sim V0 O0 w0 O m st a w) (ho:o.op= .slice t x lo hi mx) (hmx:mx=none) {fet:Fet} (hf:OL st.Jp fet) {q:Nat} {lo' hi':Option A}
 (hx:J8 O st.Jp m w (a.eval x) (.own q)) (hlo:ORl O st.Jp m w (lo.map a.eval) lo') (hhi:ORl O st.Jp m w (hi.map a.eval) hi')
 (hok:J5 (Mc C fet t (.own q) lo' hi').ok):Good P V0 O0 w0 (apply st o (Mc C fet t (.own q) lo' hi')) o a w:=by
 subst hmx;intro next Q hn
 unfold Mc at *
 obtain⟨ti,ht,he⟩:=Kt hok;rw[he]at hok hn;clear he;dsimp only at hok hn;obtain⟨ro,hro,he⟩:=JL hok;rw[he]at hok hn;clear he;obtain⟨r,hr,he⟩:=JL hok;rw[he]at hok hn;clear he;obtain⟨e,hel,he⟩:=JL hok;rw[he]at hok hn;clear he;obtain⟨te,hte,he⟩:=Kt hok;rw[he]at hok hn;clear he;obtain⟨h1,h2⟩:=hok.cons;rw[<- Sl.KI]at hr;have hsz:=Dp h1;have hq:=hf q _ (NK hro)
 have key: ∃ O1,Sim V0 O0 w0 O1 m {st with Jp:=JC st.Jp (bif ro.frz then []else [(q,.arr ro.e true ro.l)])} a w/\Jw O1 w (m q) (.sl ro.l):=by
  cases hfz:ro.frz with
  | false =>obtain⟨O1,hS1,_,_,hv1,_⟩:=hS.kP hq;exact⟨O1,hS1,hv1⟩
  | true =>rw[hfz]at hq;exact⟨O,hS,(hS.Jp q _ hq).frozen⟩
 obtain⟨O1,hS1,hv1⟩:=key;have hd:=RX hel;have hu:=(hC.is ht).run w;rw[hd]at hu;have hs:=(hC.is hte).OC w;rw[<- hsz]at hs;have hxv:a.eval x=m q:=by have h2:JF O st.Jp m w (a.eval x) (.own q):=hx;have h2:=h2.2;rw[hq]at h2;exact h2
 obtain⟨h4,h5⟩:r.2.1<=r.2.2/\r.2.2<=ro.l.es.length:=(Uj (isS:=true) (P:=P) hlo hhi (DW _) hr h2).2;obtain⟨ad,n,c,hv,hn',hc,hcut⟩:=hv1.cut r.2.1 r.2.2 h4 h5;obtain⟨h3,_,_⟩:=Uj (isS:=true) (P:=P) (cap:=c) hlo hhi (by rw[<- hn'];exact hc) hr h2;rw[<- hn']at h3;have hrun:(execOp a.eval o).run P w= .ok (.value (.slice (if c=r.2.1 then ad else ad.map (·.add (r.2.1*ro.l.sz))) (r.2.2 - r.2.1) (c - r.2.1))) w:=by simp only[execOp,ho,Instr.sliceAt,D8,hu,Result.andThen_ok,Instr.slice,hxv,hv,Option.map_none,h3,hs,Sem.run_pure]
 unfold Oper.wp;rw[hrun,Oper.upon_value];refine hn O1 m _ _ ?_;have:=hS1.put o.dst (x:=.sl ⟨ro.l.t,J6 ro.l.xs r.2.1 r.2.2⟩) (v:=.slice (if c=r.2.1 then ad else ad.map (·.add (r.2.1*ro.l.sz))) (r.2.2 - r.2.1) (c - r.2.1)) (hcut c rfl);exact this
theorem Apo {t:Nat} {x h:Operand} (hC:TOk P C) (hS:Sim V0 O0 w0 O m st a w) {d:Tmp} (hd:o.dst=some d) (ho:o.op= .slice t x none (some h) none) {fet:Fet} (hf:OL st.Jp fet) {x' b':A}
 (hx:J8 O st.Jp m w (a.eval x) x') (hb:J8 O st.Jp m w (a.eval h) b') (hok:J5 (uQ C fet d t x' b').ok) (hfr: ∀ p∈(uQ C fet d t x' b').new,st.fresh p.1=true) :
 Good P V0 O0 w0 (apply st o (uQ C fet d t x' b')) o a w:=by
 intro next Q hn
 unfold uQ at *
 obtain⟨ti,ht,he⟩:=Kt hok;rw[he]at hok hn hfr;clear he;cases x' with
 | own q =>
  dsimp only at hok hn hfr;obtain⟨ro,hro,he⟩:=JL hok;rw[he]at hok hn hfr;clear he;obtain⟨r,hr,he⟩:=JL hok;rw[he]at hok hn hfr;clear he;obtain⟨e,hel,he⟩:=JL hok;rw[he]at hok hn hfr;clear he;obtain⟨te,hte,he⟩:=Kt hok;rw[he]at hok hn hfr;clear he;obtain⟨hok,hfz⟩:=hok.append;obtain⟨h1,h2⟩:=hok.cons;have hfz:ro.frz=false:=by simpa using hfz.cons.1
  rw[<- Sl.KI]at hr;have hsz:=Dp h1;have hq:=hf q _ (NK hro);rw[hfz]at hq;have hd':=RX hel;have hu:=(hC.is ht).run w;rw[hd']at hu;have hs:=(hC.is hte).OC w;rw[<- hsz]at hs;have hxv:a.eval x=m q:=by have h2:JF O st.Jp m w (a.eval x) (.own q):=hx;have h2:=h2.2;rw[hq]at h2;exact h2
  have hh:ORl O st.Jp m w (some (a.eval h)) (some b'):=hb;have hlo0:ORl O st.Jp m w none none:=trivial;obtain⟨h4,h5⟩:r.2.1<=r.2.2/\r.2.2<=ro.l.es.length:=(Uj (isS:=true) (P:=P) hlo0 hh (DW _) hr h2).2
  have hr0:r.2.1=0:=by
   unfold uP at hr;split at hr<;>first | (injection hr with hr;rw[<- hr];done) | (injection hr with hr;rw[<- hr]) | cases hr
   all_goals (first | rfl | (rename_i hc _;cases hc))
  have hfresh:Qu st (b2 d):=Nl (hfr _ Du);have hes:(⟨ro.l.t,J6 ro.l.xs r.2.1 r.2.2⟩:Sl).es=ro.l.es.take r.2.2:=by rw[Sl.Anu,hr0];simp [J6]
  obtain⟨hszs,hrow⟩:=hS.Jp q _ hq;have hgoal: ∀ v,(∀ cap:Nat,True)->(execOp a.eval o).run P w= .ok (.value v) w->(∃ O' m',Sim V0 O0 w0 O' m' {tmps:=st.tmps.set d (.own (b2 d)),Jp:=JC (Kw st.Jp [q]) [(b2 d,.arr ro.e false ⟨ro.l.t,J6 ro.l.xs r.2.1 r.2.2⟩)]} (a.put (some d) v) w)->o.wp P a w next Q:=by intro v _ hrun ⟨O',m',h⟩;unfold Oper.wp;rw[hrun,Oper.upon_value,hd];refine hn O' m' _ _ ?_;unfold apply;rw[hd];exact h
  rcases hrow with ⟨_,hnil,hm⟩ | ⟨_,g,cap,cur,hm,hg,hcap,_⟩
  .have h0:r.2.2=0:=by rw[hnil]at h5;simpa using h5
   obtain⟨h3,_,_⟩:=Uj (isS:=true) (P:=P) (w:=w) (cap:=0) hlo0 hh (by rw[hnil];exact DW _) hr h2;rw[hnil]at h3;refine hgoal (.slice none 0 0) (fun _=>trivial) ?_ ?_
   .have h3:(Instr.sliceBounds true 0 0 none (some (a.eval h)) none).run P w= .ok (r.2.1,r.2.2,0) w:=h3;rw[hr0,h0]at h3;simp only[execOp,ho,Instr.sliceAt,D8,hu,Result.andThen_ok,Instr.slice,hxv,hm,Option.map_none,Option.map_some,h3,hs,Sem.run_pure];rfl
   .have hxs:J6 ro.l.xs r.2.1 r.2.2=[]:=by
     have:ro.l.xs=[]:=Ady hnil;rw[this];simp [J6]
    rw[hxs];exact oG hS hfresh
  .obtain⟨h3,_,_⟩:=Uj (isS:=true) (P:=P) (w:=w) (cap:=cap) hlo0 hh hcap hr h2;refine hgoal (.slice (some (at' g 0)) r.2.2 cap) (fun _=>trivial) ?_ ?_
   .have h3:(Instr.sliceBounds true ro.l.es.length cap none (some (a.eval h)) none).run P w= .ok (r.2.1,r.2.2,cap) w:=h3;rw[hr0]at h3;simp only[execOp,ho,Instr.sliceAt,D8,hu,Result.andThen_ok,Instr.slice,hxv,hm,Option.map_none,Option.map_some,h3,hs,Sem.run_pure];simp [RP]
   .exact AkF hS hq hm hg h5 hes rfl hfresh
 | _=>exact(JE hok).elim
end
section
variable {P:Program} {C:Ctx} {V0:Nat->Value} {O0 O:Own} {w0 w:World} {m:Nat->Value} {st:St} {a:Act} {o:Oper}
structure Src (P:Program) (O:Own) (w:World) (sz:Nat) (y:Value) (ns:List (List A)) (news:List Value):Prop where
 len: ∀ w',(Builtin.lenOf y).run P w'= .ok ns.length w'
 cells: ∀ w',(∀ b k u,w.cell? (at' b k)=some u->w'.cell? (at' b k)=some u)->(Builtin.firstCells sz ns.length y).run P w'= .ok news.toArray w'
 size:news.length=ns.length*sz
 each: ∀ x∈ns,x.length=sz
 rel: ∀ i j,i<ns.length->j<sz->Jw O w (news.getD (i*sz+j) undef) ((ns.getD i []).getD j .undef)
theorem Src.one {sz:Nat} {y:Value} {ns:List (List A)} {news:List Value} (h:Src P O w sz y ns news) (h0:0<sz): ∀ v∈news,v.oneCell'=true:=by
 intro v hv;obtain⟨k,hk,hke⟩:=F9.1 hv;have hd:k=(k / sz)*sz+k % sz:=by rw[He];exact(IX k sz).symm
 have hlt:k / sz<ns.length:=by rw[H6 h0,<- h.size];exact hk
 have:=h.rel (k / sz) (k % sz) hlt (Nat.mod_lt _ h0);rw[<- hd,Dj,D9 hk]at this;simp only[Option.getD_some,hke]at this;exact this.one
theorem Aud {l:Sl} {v:Value} (h:Ad2 w O v l): ∃ news,Src P O w l.sz v l.es news:=by
 rcases h with ⟨ad,hv,hn⟩ | ⟨b,k,c,hv,hc,hcell⟩
 .have hn:l.es=[]:=by simp [Sl.es,hn]
  refine⟨[],⟨fun w'=>by rw[hv,hn];rfl,fun w' _=>by
   rw[hv,hn];cases ad with
   | none=>rfl
   | some ad =>show(Builtin.firstCells l.sz 0 (.slice (some ad) 0 0)).run P w'=_;simp only[Builtin.firstCells,Hg];exact run_loadCells (P:=P) w' ad 0 (fun _=>undef) (fun i hi=>absurd hi (Hw i)),by rw[hn];simp,l.es_len,fun i j hi=>by rw[hn]at hi;simp at hi⟩⟩
 .let news:List Value:=(List.range (l.es.length*l.sz)).map fun i=>(w.cell? (at' b (k+i))).getD undef
  have hcells: ∀ i,i<l.es.length*l.sz-> ∃ u,w.cell? (at' b (k+i))=some u:=by
   intro i hi
   have h0:0<l.sz:=by
    rcases GU l.sz with h | h
    .rw[h]at hi;simp at hi
    .exact h
   have hd:i=(i / l.sz)*l.sz+i % l.sz:=by rw[He];exact(IX i l.sz).symm
   obtain⟨u,hu,_⟩:=hcell (i / l.sz) (i % l.sz) (by rw[H6 h0];exact hi) (Nat.mod_lt _ h0);rw[<- hd]at hu;exact⟨u,hu⟩
  refine⟨news,⟨fun w'=>by rw[hv];rfl,fun w' hw'=> ?_,by simp [news],l.es_len,fun i j hi hj=> ?_⟩⟩
  .rw[hv];simp only[Builtin.firstCells];have:=run_loadCells (P:=P) w' (at' b k) (l.es.length*l.sz) (fun i=>(w.cell? (at' b (k+i))).getD undef) (fun i hi=>by obtain⟨u,hu⟩:=hcells i hi;rw[RP,hw' _ _ _ hu,hu];rfl);exact this
  .obtain⟨u,h3,h4⟩:=hcell i j hi hj;have hlt:i*l.sz+j<l.es.length*l.sz:=by have:(i+1)*l.sz<=l.es.length*l.sz:=DN _ hi;rw[Ei]at this;omega
   all_goals grind[Ad2]
theorem src_of {fet:Fet} {t:Ty} {y:A} {v:Value} (hf:FOk O st.Jp m w fet) (hy:J8 O st.Jp m w v y) (hok:J5 (Rt fet t y).1): ∃ news,Src P O w t.len v (⟨t,(Rt fet t y).2⟩:Sl).es news:=by
 have hrd:J5 (rdT fet t y).1-> ∃ news,Src P O w t.len v (⟨t,(rdT fet t y).2⟩:Sl).es news:=fun hok=>Aud (Akc hf hy hok);by_cases hs: ∃ s,y= .str s
 .obtain⟨s,rfl⟩:=hs;by_cases ht:t= .int .u8 .nil
  .subst ht;obtain⟨b,hb,hl⟩:=hy.str;have hbl:b.size=s.length:=by rw[Un,hl]
   have hes:(⟨.int .u8 .nil,(Rt fet (.int .u8 .nil) (.str s)).2⟩:Sl).es=s.map (fun(x:UInt8)=>[A.int .u8 (x.toNat:Int)]):=by show List.map (Ty.int IntKind.u8 Ty.nil).cells (List.map (fun(b:UInt8)=>((b.toNat:Int))) s)=_;exact EO.trans rfl
   rw[hes];refine⟨s.map (fun(x:UInt8)=>Value.int .u8 (x.toNat:Int)),⟨fun w'=>by rw[hb];simp [Builtin.lenOf,hbl],fun w' _=> ?_,by simp [Ty.len],by simp [Ty.len],fun i j hi hj=> ?_⟩⟩
   .rw[hb];simp only[Builtin.firstCells,Dx,Sem.run_pure];congr 1;all_goals grind[Aac,Un,J6,apply]
   .have hj0:j=0:=by simp [Ty.len]at hj;omega
    subst hj0;have hi':i<s.length:=by simpa using hi
    simp [Dj,hi',Ty.len];exact .int _ _
  .simp_all[Rt,hok,Fet,Ty,FOk,J8,J5]
 .simp_all[Rt,rdT,hs,hok,Fet,Ty,FOk,J8,J5]
theorem Ac2 {d:TypeDesc} (h:Yk d=true):(∃ e,d= .slice e)\/d= .string:=by unfold Yk at h;split at h<;>simp_all
theorem qO {t u ty e n sLen sCap:Nat} {i:TypeInfo} {du:TypeDesc} {base:Option Addr} {y:Value} {news:List Value} {w':World} (hu:P.underlying t=some (.slice e)) (hu2:P.underlying u=some du) (hdu:Yk du=true) (hi:P.info? e=some i)
 (hlen:(Builtin.lenOf y).run P w= .ok n w) (hnew:(Builtin.firstCells i.size n y).run P w= .ok news.toArray w) (hle:sLen+n<=sCap)
 (hst:match base with | some ad=>(storeCells (ad.add (sLen*i.size)) news).run P w= .ok () w' | none=>w'=w) :
 (Builtin.append_ #[t,u] ty #[.slice base sLen sCap,y]).run P w= .ok (.slice base (sLen+n) sCap) w':=by
 rcases Ac2 hdu with ⟨e',rfl⟩ | rfl
 .cases base with
  | none=>subst hst;simp [Builtin.append_,DL hu,DL hu2,sizeOf,typeInfo,hi,hlen,hnew,hle]
  | some ad=>dsimp only at hst;simp [Builtin.append_,DL hu,DL hu2,sizeOf,typeInfo,hi,hlen,hnew,hle,hst]
 .cases base with
  | none=>subst hst;simp [Builtin.append_,DL hu,DL hu2,sizeOf,typeInfo,hi,hlen,hnew,hle]
  | some ad=>dsimp only at hst;simp [Builtin.append_,DL hu,DL hu2,sizeOf,typeInfo,hi,hlen,hnew,hle,hst]
theorem lM {t u ty e n sLen sCap:Nat} {i:TypeInfo} {z:Value} {du:TypeDesc} {base:Option Addr} {y:Value} {olds news:List Value} (hu:P.underlying t=some (.slice e)) (hu2:P.underlying u=some du) (hdu:Yk du=true) (hi:P.info? e=some i) (hz:i.zero=some z)
 (hlen:(Builtin.lenOf y).run P w= .ok n w) (hold:(Builtin.firstCells i.size sLen (.slice base sLen sCap)).run P w.drew= .ok olds.toArray w.drew) (hnew:(Builtin.firstCells i.size n y).run P w.drew= .ok news.toArray w.drew) (hgt:sCap<sLen+n)
 (hb:(sLen+n)*i.bytes<=140737488355328) (h0:0<i.bytes\/((sLen+n:Nat):Int)<=9223372036854775807) :
 (Builtin.append_ #[t,u] ty #[.slice base sLen sCap,y]).run P w =
   .ok (.slice (some (at' w.heap.size 0)) (sLen+n) (grownCap w (sLen+n) sCap e)) (w.drew.alloc (.cells (olds.toArray++news.toArray++Builtin.zeroCells z.cells (grownCap w (sLen+n) sCap e - (sLen+n))) e)):=by
 have hn: ¬(sLen+n<=sCap):=by omega
 have hfit:=growslice_fits hgt hb;have h48': ¬(281474976710656<Builtin.nextslicecap (sLen+n) sCap*i.bytes):=by omega
 have h63: ¬(((sLen:Int)+(n:Int))>9223372036854775807/\i.bytes=0):=by
  rintro ⟨ha,hb'⟩;rcases h0 with h0 | h0
  .omega
  .rw[Int.natCast_add]at h0;omega
 have h63': ¬(9223372036854775807<((sLen:Int)+(n:Int))/\i.bytes=0):=h63;rcases Ac2 hdu with ⟨e',rfl⟩ | rfl
 .simp [Builtin.append_,DL hu,DL hu2,sizeOf,typeInfo,zeroValue,hi,hz,hlen,hn,h63',h48',Question.forced,hold,hnew,newRow,grownCap];all_goals grind[apply]
 .simp [Builtin.append_,DL hu,DL hu2,sizeOf,typeInfo,zeroValue,hi,hz,hlen,hn,h63',h48',Question.forced,hold,hnew,newRow,grownCap];all_goals grind[apply]
end
section
variable {P:Program} {C:Ctx} {V0:Nat->Value} {O0 O:Own} {w0 w:World} {m:Nat->Value} {st:St} {a:Act} {o:Oper}
theorem Acu {sz cap:Nat} {es ns:List (List A)} {olds news:List Value} {z:Array Value} (hes: ∀ x∈es,x.length=sz) (hns: ∀ x∈ns,x.length=sz) (hol:olds.length=es.length*sz) (hnl:news.length=ns.length*sz) (hz:z.size=sz) (hcap:es.length+ns.length<=cap)
 (ho: ∀ i j,i<es.length->j<sz->Jw O w (olds.getD (i*sz+j) undef) ((es.getD i []).getD j .undef)) (hn: ∀ i j,i<ns.length->j<sz->Jw O w (news.getD (i*sz+j) undef) ((ns.getD i []).getD j .undef)) :
 (olds.toArray++news.toArray++Builtin.zeroCells z (cap - (es.length+ns.length))).size=cap*sz/\Held O w (olds.toArray++news.toArray++Builtin.zeroCells z (cap - (es.length+ns.length))) sz (es++ns):=by
 refine⟨?_,fun x hx=>(DU.1 hx).elim (hes x) (hns x),fun i j hi hj=> ?_⟩
 .simp only[Array.size_append,List.size_toArray,hol,hnl,size_zeroCells,hz];rw[<- Ei,<- Ei];congr 1;omega
 .rw[Dv]at hi;by_cases hil:i<es.length
  .have hlt:i*sz+j<es.length*sz:=by
    have:(i+1)*sz<=es.length*sz:=DN _ hil;rw[Ei]at this;omega
   refine⟨olds.getD (i*sz+j) undef,?_,?_⟩
   .rw[I4,E8 (by simp;omega)];all_goals simp_all[Jw,Held]
   .have e1:(es++ns).getD i []=es.getD i []:=by
     all_goals simp_all[Jw,Held]
    rw[e1];exact ho i j hil hj
  .obtain⟨i',rfl⟩: ∃ i',i=es.length+i':=⟨i - es.length,by omega⟩
   have hi':i'<ns.length:=by omega
   have hlt:i'*sz+j<ns.length*sz:=by have:(i'+1)*sz<=ns.length*sz:=DN _ hi';rw[Ei]at this;omega
   have hidx:(es.length+i')*sz+j=es.length*sz+(i'*sz+j):=by rw[Ei];omega
   refine⟨news.getD (i'*sz+j) undef,?_,?_⟩
   .rw[hidx,I4,Fj (by simp;omega),E8 (by simp;omega)];all_goals simp_all[Jw,Held]
   .have e1:(es++ns).getD (es.length+i') []=ns.getD i' []:=by
     all_goals simp_all[Jw,Held]
    rw[e1];exact hn i' j hi' hj
theorem Anm (w:World) (b k:Nat):w.drew.cell? (at' b k)=w.cell? (at' b k):=rfl
theorem zY {c:Call} {s y:Operand} {t u e:Nat} {te tu:TI} {ti:TI} (hC:TOk P C) (hS:Sim V0 O0 w0 O m st a w) {d:Tmp} (hd:o.dst=some d) (ho:o.op= .call c) (hcal:c.callee= .builtin .append) (hargs:c.args= #[s,y]) (hty:c.argTypes.toList=[t,u])
 (ht:C.T t=some ti) (hte:ti.d= .slice e) (hte':C.T e=some te) (htu:C.T u=some tu) (hsl:Yk tu.d=true) {frz:Bool} {l l':Sl} {ns:List (List A)} {news:List Value} {del:List Nat}
 (hsrc:Src P O w te.cs.length (a.eval y) ns news) (h0:0<te.cs.length) (hb:(l.es.length+ns.length)*(te.bytes+1)<=140737488355328) (hfresh:Qu st (b2 d))
 (hel:l'.es=l.es++ns) (hls:l.sz=te.cs.length) (hls':l'.sz=te.cs.length)
 (hx:(True/\l.es=[]/\a.eval s= .slice none 0 0)\/(True/\ ∃ q g cap cur,del=[q]/\Jv st.Jp q=some (.arr e frz l)/\m q= .slice (some (at' g 0)) l.es.length cap/\a.eval s= .slice (some (at' g 0)) l.es.length cap/\NJ w g cur e)) :
 ∀(next:Act->World->Prop) (Q:Exit->Act->World->Prop),(∀ O' m' a' w',Sim V0 O0 w0 O' m' {tmps:=st.tmps.set d (.own (b2 d)),Jp:=JC (Kw st.Jp del) [(b2 d,.arr e frz l')]} a' w'->next a' w')->o.wp P a w next Q:=by
 intro next Q hn
 have hat:c.argTypes= #[t,u]:=by have:=congrArg List.toArray hty;simpa using this
 have hu:=(hC.is ht).d;rw[hte]at hu;have hu2:=(hC.is htu).d;have hT:=hC.is hte';obtain⟨i,z,g1,g2,g3,g4,g5,g6⟩:=hT.i;have hzs:z.cells.size=te.cs.length:=by rw[<- Array.length_toList];exact(TD (O:=O) (Jp:=[]) (m:=fun _=>undef) (w:=w) _ _ g5).1
 have hbb:(l.es.length+ns.length)*te.bytes<=140737488355328/\l.es.length+ns.length<=140737488355328:=by rw[II,EU]at hb;omega
 have hexec: ∀ v w',(Builtin.append_ #[t,u] o.type #[a.eval s,a.eval y]).run P w= .ok v w'->(execOp a.eval o).run P w= .ok (.value v) w':=by
  intro v w' h;simp only[execOp,ho,resolve,hcal,hargs,hat,D8,Sem.run_pure,Result.andThen_ok,invoke,builtin];have:(#[s,y].map a.eval)= #[a.eval s,a.eval y]:=by simp
  rw[this,h];rfl
 have hlen:=hsrc.len w;have hcells:=hsrc.cells w (fun _ _ _ h=>h);have hcells':=hsrc.cells w.drew (fun _ _ _ h=>h);rcases hx with ⟨_,hes,hsv⟩ | ⟨_,q,g,cap,cur,hdel,hq,hmq,hsv,hg⟩
 .rw[hes]at hel hbb;simp only[List.nil_append]at hel;simp only[List.length_nil,DR]at hbb;by_cases hn0:ns.length=0
  .have hns:ns=[]:=GK hn0;have:=qO (P:=P) (w:=w) (w':=w) (t:=t) (u:=u) (ty:=o.type) (base:=none) (sLen:=0) (sCap:=0) (news:=news) hu hu2 hsl g1 hlen (by rw[g2];exact hcells) (by simp [hn0]) rfl;rw[<- hsv,hn0]at this;unfold Oper.wp;rw[hexec _ _ this,Oper.upon_value,hd];obtain⟨t',xs'⟩:=l';have hxs:xs'=[]:=Ady (l:=⟨t',xs'⟩) (by rw[hel,hns]);subst hxs;obtain⟨O',m',h⟩:=oG hS (d:=d) (e:=e) (t:=t') (frz:=frz) (del:=del) hfresh;exact hn O' m' _ _ h
  .have:=lM (P:=P) (w:=w) (t:=t) (u:=u) (ty:=o.type) (base:=none) (sLen:=0) (sCap:=0) (olds:=[]) (news:=news) hu hu2 hsl g1 g4 hlen rfl (by rw[g2];exact hcells') (by omega) (by rw[g3];simpa using hbb.1) (.inr (by have:=hbb.2;omega));rw[<- hsv]at this;unfold Oper.wp;rw[hexec _ _ this,Oper.upon_value,hd];have hge:=grownCap_ge w (0+ns.length) 0 e;obtain⟨k1,k2⟩:=Acu (O:=O) (w:=w) (cap:=grownCap w (0+ns.length) 0 e) (z:=z.cells) (es:=[]) (olds:=[]) (by simp) hsrc.each (by simp) hsrc.size hzs (by simpa using hge) (fun i j hi=>by simp at hi) hsrc.rel;obtain⟨O',m',h⟩:=X3 hS (Moves.drew _ _ w) rfl (d:=d) (e:=e) (cap:=grownCap w (0+ns.length) 0 e) (frz:=frz) (l:=l') (del:=del) (by rw[hel];simpa using hge) (grownCap_le_maxLen w _ _ _ (by unfold maxLen;have:=hbb.2;omega)) (by rw[hls'];exact k1) (by rw[hls',hel];exact k2) hfresh;refine hn O' m' _ _ ?_;rw[hel]at h;simpa using h
 .subst hdel;obtain⟨hsz,hr⟩:=hS.Jp q _ hq;rw[hls]at hsz
  obtain⟨g',cap',cur',h2,h3,h4,h5,h6,h7,h8,h9⟩: ∃ g' cap' cur',m q= .slice (some (at' g' 0)) l.es.length cap'/\NJ w g' cur' e/\l.es.length<=cap'/\cap'<=maxLen/\cur'.size=cap'*te.cs.length /\
   (∀ i j,i<l.es.length->j<te.cs.length-> ∃ u,cur'[i*te.cs.length+j]? =some u/\Jw O w u ((l.es.getD i []).getD j .undef))/\(∀ k,k<cur'.size->l.es.length*te.cs.length<=k->O g' k=some q)/\(∀ k,k<l.es.length*te.cs.length->O g' k=if frz then none else some q):=by
   rcases hr with ⟨_,_,h⟩ | ⟨_,h⟩
   .rw[hmq]at h;cases h
   .rw[hls]at h;exact h
  rw[hmq]at h2;injection h2 with h2 _ hcc;injection h2 with h2;injection h2 with h2;subst h2;subst hcc;obtain⟨h3,_⟩:=hg.inj h3;subst h3;by_cases hroom:l.es.length+ns.length<=cap
  .have hst:(storeCells ((at' g 0).add (l.es.length*i.size)) news).run P w= .ok () (w.setCells g (l.es.length*te.cs.length) news):=by
    rw[RP,DR,g2];have hmul:(l.es.length+ns.length)*te.cs.length<=cap*te.cs.length:=DN _ hroom;rw[Ei]at hmul
    have:=run_storeCells_cells (P:=P) g (l.es.length*te.cs.length) news 0 w (fun j hj=>by
     rw[hg.cell];rw[hsrc.size]at hj;have hlt:l.es.length*te.cs.length+j<cur.size:=by omega
     simp [hlt]) (fun j hj=>by rw[hsrc.size]at hj;exact hg.frozen (by omega)) (hsrc.one h0)
    simpa using this
   have:=qO (P:=P) (w:=w) (t:=t) (u:=u) (ty:=o.type) (base:=some (at' g 0)) (sLen:=l.es.length) (sCap:=cap) (news:=news) hu hu2 hsl g1 hlen (by rw[g2];exact hcells) hroom hst;rw[<- hsv]at this;unfold Oper.wp;rw[hexec _ _ this,Oper.upon_value,hd];obtain⟨O',m',h⟩:=AiN hS hq hmq hg hroom hel (by rw[hls',hls]) (by rw[hls];exact hsrc.size) (by rw[hls];exact hsrc.each) (by rw[hls];exact hsrc.rel) hfresh;rw[hls]at h;exact hn O' m' _ _ h
  .have hcur: ∀ k,k<l.es.length*te.cs.length-> ∃ u,cur[k]? =some u:=by
    intro k hk;have:l.es.length*te.cs.length<=cap*te.cs.length:=DN _ h4;exact⟨cur[k]'(by omega),by simp [show k<cur.size from by omega]⟩
   let olds:List Value:=(List.range (l.es.length*te.cs.length)).map fun k=>cur.getD k undef;have hold:(Builtin.firstCells i.size l.es.length (.slice (some (at' g 0)) l.es.length cap)).run P w.drew= .ok olds.toArray w.drew:=by simp only[Builtin.firstCells,g2];exact run_loadCells (P:=P) w.drew (at' g 0) (l.es.length*te.cs.length) (fun k=>cur.getD k undef) (fun k hk=>by obtain⟨u,hu'⟩:=hcur k hk;rw[RP,DR,Anm,hg.cell];rw[Dn,hu'];rfl)
   have:=lM (P:=P) (w:=w) (t:=t) (u:=u) (ty:=o.type) (base:=some (at' g 0)) (sLen:=l.es.length) (sCap:=cap) (olds:=olds) (news:=news) hu hu2 hsl g1 g4 hlen hold (by rw[g2];exact hcells') (by omega) (by rw[g3];exact hbb.1) (.inr (by have:=hbb.2;omega));rw[<- hsv]at this;unfold Oper.wp;rw[hexec _ _ this,Oper.upon_value,hd];have hge:=grownCap_ge w (l.es.length+ns.length) cap e
   obtain⟨k1,k2⟩:=Acu (O:=O) (w:=w) (cap:=grownCap w (l.es.length+ns.length) cap e) (z:=z.cells) (es:=l.es) (olds:=olds) hsz hsrc.each (by simp [olds]) hsrc.size hzs hge (fun i j hi hj=>by
    obtain⟨u,h10,h11⟩:=h7 i j hi hj;have hlt:i*te.cs.length+j<l.es.length*te.cs.length:=by have:(i+1)*te.cs.length<=l.es.length*te.cs.length:=DN _ hi;rw[Ei]at this;omega
    have e1:olds.getD (i*te.cs.length+j) undef=u:=by simp [olds,Dj,hlt,h10]
    rw[e1];exact h11) hsrc.rel
   obtain⟨O',m',h⟩:=X3 hS (Moves.drew _ _ w) rfl (d:=d) (e:=e) (cap:=grownCap w (l.es.length+ns.length) cap e) (frz:=frz) (l:=l') (del:=[q]) (by rw[hel,Dv];exact hge) (grownCap_le_maxLen w _ _ _ (by unfold maxLen;have:=hbb.2;omega)) (by rw[hls'];exact k1) (by rw[hls',hel];exact k2) hfresh;rw[hel,Dv]at h;exact hn O' m' _ _ h
end
end Go.Proofs.YtbgjmioccbacdaaGreatDoor.Vm
