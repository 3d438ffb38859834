import Derived.Test.YtadefjgbcapakaaGreatDoorA4
import Derived.Laws.Append
import Derived.Laws.AppendOwn
import Derived.Laws.OwnMore
set_option linter.all false
namespace Go.Proofs.YtadefjgbcapakaaGreatDoor.Vm
open Classical
section
variable {P:Program} {C:Ctx} {V0:Nat->Value} {O0 O:Own} {w0 w:World} {m:Nat->Value} {st:St} {a:Act} {o:Oper}
theorem Sim.Tj (hS:Sim V0 O0 w0 O m st a w) {q e:Nat} {f:Bool} {l:Sl} (hq:Ag st.Aa q=some (.arr e f l)) :
    ∃ O',Sim V0 O0 w0 O' m {st with Aa:=BP st.Aa q (.arr e true l)} a w/\DN O w O' w/\(∀ b k,O' b k≠none->O b k≠none)/\Ai O' w (m q) (.sl l)/\ ∀ b k r,O b k=some r->r≠q->O' b k=some r:=by
  obtain⟨hsz,hr⟩:=hS.Aa q _ hq
  let O':Own:=fun b k=>if(∃ n cap,m q= .slice (some (at' b 0)) n cap)/\k<l.es.length*l.sz then none else O b k
  have hno: ∀ b k,O b k=none->O' b k=none:=by
    intro b k h;show(if _ then _ else _)=_;split;rfl;exact h
  have hle: ∀ b k,O' b k≠none->O b k≠none:=by
    intro b k h h';exact h (hno b k h')
  have hkeep: ∀ b k r,O b k=some r->r≠q->O' b k=some r:=by
    intro b k r h hne
    show(if _ then _ else _)=_
    rw[if_neg ?_]
    ·exact h
    ·rintro ⟨⟨n,cap,hm⟩,hk⟩
     rcases hr with ⟨_,h2,_⟩ | ⟨_,g,cap',cur,h1,_,_,_,_,_,_,h8⟩
     ·rw[h2]at hk;simp at hk
     ·rw[h1]at hm;injection hm with hm;injection hm with hm;injection hm with hm
      subst hm
      have:=h8 k hk
      rw[h]at this
      cases f
      ·simp at this;exact hne this
      ·simp at this
  have hp:DN O w O' w:=fun b k u h hc=>⟨hno b k h,hc⟩
  have hE:F5 st.Aa m (BP st.Aa q (.arr e true l)) m (fun _=>False):=by
    intro r y hy
    rw[Bd]at hy
    by_cases hrq:r=q
    ·subst hrq
     rw[if_pos rfl]at hy;injection hy with hy;subst hy
     exact .inr ⟨_,hq,rfl,rfl⟩
    ·rw[if_neg hrq]at hy;exact .inr ⟨y,hy,rfl,rfl⟩
  have hO:Ce O' (BP st.Aa q (.arr e true l)) m w q (.arr e true l):=by
    refine⟨hsz,?_⟩
    rcases hr with h | ⟨h1,g,cap,cur,h2,h3,h4,h5,h6,h7,h8,h9⟩
    ·exact .inl h
    ·refine .inr ⟨h1,g,cap,cur,h2,h3,h4,h5,h6,fun i j hi hj=> ?_,fun k hk hge=> ?_,fun k hk=> ?_⟩
     ·obtain⟨u,h10,h11⟩:=h7 i j hi hj
      exact⟨u,h10,h11.AX hp⟩
     ·show(if _ then _ else _)=_
      rw[if_neg (by rintro ⟨_,h⟩;omega)];exact h8 k hk hge
     ·show(if _ then _ else _)=_
      rw[if_pos ⟨⟨_,_,h2⟩,hk⟩];rfl
  refine⟨O',⟨hS.defers,hS.size,fun t ht=>(hS.tmps t ht).step hp hE (fun _ _ h=>h),fun r y hy=> ?_,hS.frame,fun b k r hb h hne=> ?_,fun r y hy=> ?_,fun b k hb h=>hS.less b k hb (hle b k h),fun o hr ho=>hS.root o hr (by dsimp only at ho;rw[Bd]at ho;by_cases hq':o=q;(rw [hq',hq];rfl);(rw [if_neg hq']at ho;exact ho)),fun b k hb h=>hkeep b k 255 (hS.Ry b k hb h) (fun e=>hS.ids q _ hq e.symm),hS.inv⟩,hp,hle,?_,hkeep⟩
  ·have hy':=hy
   rw[Bd]at hy
   by_cases hrq:r=q
   ·subst hrq
    rw[if_pos rfl]at hy;injection hy with hy;subst hy
    exact hO
   ·rw[if_neg hrq]at hy
    exact(hS.Aa r y hy).step (T:=fun i=>i=q) (Moves.refl O _ w) ⟨fun b k _ h=>hno b k h,fun b k r' _ h hT=>hkeep b k r' h hT⟩ hE hrq rfl (fun _ _ h=>h)
  ·have h':(if(∃ n cap,m q= .slice (some (at' b 0)) n cap)/\k<l.es.length*l.sz then none else O b k)=some r:=h
   split at h'
   ·cases h'
   ·exact hS.own b k r hb h' hne
  ·rw[Bd]at hy
   by_cases hrq:r=q
   ·rw[hrq];exact hS.ids q _ hq
   ·rw[if_neg hrq]at hy;exact hS.ids r y hy
  ·rcases hr with ⟨h1,h2,h3⟩ | ⟨h1,g,cap,cur,h2,h3,h4,h5,h6,h7,h8,h9⟩
   ·rw[h3];exact Ai.ofNil h2
   ·rw[h2]
    have hv: ∀ i j,i<l.es.length->j<l.sz-> ∃ u,cur[i*l.sz+j]? =some u/\Ai O w u ((l.es.getD i []).getD j .undef):=h7
    refine Ai.sl (fun i j=>(cur[i*l.sz+j]?).getD undef) h4 (fun i j hi hj=> ?_) (fun i j hi hj=> ?_)
    ·obtain⟨u,h10,_⟩:=hv i j hi hj
     refine⟨?_,by rw[Nat.zero_add,h3.cell,h10];rfl⟩
     show(if _ then _ else _)=_
     rw[if_pos]
     refine⟨⟨_,_,h2⟩,?_⟩
     have:(i+1)*l.sz<=l.es.length*l.sz:=Nat.mul_le_mul_right _ hi
     rw[Nat.add_mul]at this;omega
    ·obtain⟨u,h10,h11⟩:=hv i j hi hj
     rw[h10];exact h11.AX hp
theorem Ce.frozen {Aa:List (Nat×Obj)} {q e:Nat} {l:Sl} (h:Ce O Aa m w q (.arr e true l)):Ai O w (m q) (.sl l):=by
  rcases h.2 with ⟨h1,h2,h3⟩ | ⟨h1,g,cap,cur,h2,h3,h4,h5,h6,h7,h8,h9⟩
  ·rw[h3];exact Ai.ofNil h2
  ·rw[h2]
   refine Ai.sl (fun i j=>(cur[i*l.sz+j]?).getD undef) h4 (fun i j hi hj=> ?_) (fun i j hi hj=> ?_)
   ·obtain⟨u,h10,_⟩:=h7 i j hi hj
    have:(i+1)*l.sz<=l.es.length*l.sz:=Nat.mul_le_mul_right _ hi
    rw[Nat.add_mul]at this
    refine⟨by have:=h9 (i*l.sz+j) (by omega);simpa using this,by rw[Nat.zero_add,h3.cell,h10];rfl⟩
   ·obtain⟨u,h10,h11⟩:=h7 i j hi hj
    rw[h10];exact h11
def Frz (Aa:List (Nat×Obj)) (U:List (Nat×Obj)):Prop:= ∀ p∈U,∃ e f l,Ag Aa p.1=some (.arr e f l)/\p.2= .arr e true l
def NR (Aa:List (Nat×Obj)) (q:Nat):Prop:= ∀ e f l,Ag Aa q≠some (.arr e f l)
theorem NR.of {Aa:List (Nat×Obj)} {q:Nat} {x:Obj} (h:Ag Aa q=some x) (hx: ∀ e f l,x≠ .arr e f l):NR Aa q:=fun e f l h'=>hx e f l (by rw[h]at h';injection h')
theorem Sim.freezes: ∀(U:List (Nat×Obj)) {O:Own} {st:St},Sim V0 O0 w0 O m st a w->Frz st.Aa U ->
    ∃ O',Sim V0 O0 w0 O' m {st with Aa:=Aj st.Aa U} a w/\DN O w O' w/\(∀ b k,O' b k≠none->O b k≠none)/\(∀ p∈U,∀ e l,p.2= .arr e true l->Ai O' w (m p.1) (.sl l)) /\
      F5 st.Aa m (Aj st.Aa U) m (fun _=>False)/\ ∀ b k r,O b k=some r->NR st.Aa r->O' b k=some r:=by
  intro U
  induction U with
  | nil=>intro O st hS _;exact⟨O,hS,fun _ _ _ h hc=>⟨h,hc⟩,fun _ _ h=>h,(fun p hp=>by cases hp),(fun o y hy=>.inr ⟨y,hy,rfl,rfl⟩),fun _ _ _ h _=>h⟩
  | cons p U ih =>
    intro O st hS hU
    obtain⟨q,y⟩:=p
    obtain⟨e,f,l,h1,h2⟩:=hU (q,y) List.mem_cons_self
    dsimp only at h1 h2
    subst h2
    obtain⟨O1,hS1,hp1,hle1,hv1,hk1⟩:=hS.Tj h1
    obtain⟨O2,hS2,hp2,hle2,hv2,hE2,hk2⟩:=ih hS1 (fun p hp=>by
      obtain⟨e',f',l',h3,h4⟩:=hU p (List.mem_cons_of_mem _ hp)
      by_cases hq:p.1=q
      ·refine⟨e',true,l',?_,h4⟩
       rw[Bd,if_pos hq]
       rw[hq,h1]at h3;injection h3 with h3;injection h3 with q1 q2 q3
       subst q1;subst q3;rfl
      ·exact⟨e',f',l',by rw[Bd,if_neg hq];exact h3,h4⟩)
    refine⟨O2,hS2,fun b k u h hc=>hp2 b k u (hp1 b k u h hc).1 hc,fun b k h=>hle1 b k (hle2 b k h),fun p hp e' l' he=> ?_,fun r y hy=> ?_,fun b k r h hb=> ?_⟩
    ·rcases List.mem_cons.1 hp with rfl | hp
     ·injection he with q1 _ q3
      subst q1;subst q3
      exact hv1.AX hp2
     ·exact hv2 p hp _ _ he
    ·rcases hE2 r y hy with h | ⟨z,h3,h4,_⟩
     ·exact h.elim
     ·right
      dsimp only at h3
      rw[Bd]at h3
      by_cases hr:r=q
      ·subst hr
       rw[if_pos rfl]at h3;injection h3 with h3;subst h3
       exact⟨_,h1,h4,rfl⟩
      ·rw[if_neg hr]at h3;exact⟨z,h3,h4,rfl⟩
    ·have hrq:r≠q:=fun h=>hb _ _ _ (by rw[h];exact h1)
     exact hk2 b k r (hk1 b k r h hrq) (fun e' f' l'=>by dsimp only;rw[Bd,if_neg hrq];exact hb e' f' l')
theorem bK {l:List (Nat×Obj)} {n:Nat} {p:Nat×Obj} (h:p∈Gw l n):p∈l:=by
  induction l with
  | nil=>cases h
  | cons q r ih =>
    obtain⟨k,x⟩:=q
    rw[WC]at h
    split at h
    ·exact List.mem_cons_of_mem _ (ih h)
    ·rcases List.mem_cons.1 h with h | h
     ·rw[h];exact List.mem_cons_self
     ·exact List.mem_cons_of_mem _ (ih h)
theorem vJ {l:List (Nat×Obj)} {n:Nat} {y:Obj} {p:Nat×Obj} (h:p∈NL l n y):p=(n,y)\/p∈l:=by
  induction l with
  | nil=>simp only[NL,List.mem_singleton]at h;exact .inl h
  | cons q r ih =>
    obtain⟨k,x⟩:=q
    simp only[NL]at h
    cases hle:Nat.ble n k with
    | true =>
      rw[hle]at h;simp only[cond_true]at h
      rcases List.mem_cons.1 h with h | h
      ·exact .inl h
      ·exact .inr h
    | false =>
      rw[hle]at h;simp only[cond_false]at h
      rcases List.mem_cons.1 h with h | h
      ·exact .inr (by rw[h];exact List.mem_cons_self)
      ·rcases ih h with h | h
       ·exact .inl h
       ·exact .inr (List.mem_cons_of_mem _ h)
theorem OO: ∀(u:List (Nat×Obj)) {l:List (Nat×Obj)} {p:Nat×Obj},p∈Aj l u->p∈u\/p∈l:=by
  intro u
  induction u with
  | nil=>intro l p h;exact .inr h
  | cons q u ih =>
    intro l p h
    obtain⟨n,y⟩:=q
    rcases ih h with h | h
    ·exact .inl (List.mem_cons_of_mem _ h)
    ·rcases vJ h with h | h
     ·exact .inl (by rw[h];exact List.mem_cons_self)
     ·exact .inr (bK h)
theorem EK.frz {n:Nat} {U:List (Nat×Obj)} (h:EK st n) (hU:Frz st.Aa U):EK {st with Aa:=Aj st.Aa U} n:=by
  refine⟨fun hm=> ?_,?_,h.ne,h.root⟩
  ·rcases List.mem_append.1 hm with h1 | h1
   ·exact h.1 (List.mem_append_left _ h1)
   ·obtain⟨p,hp,hi⟩:=List.mem_flatMap.1 h1
    rcases OO U hp with hp | hp
    ·obtain⟨e,f,l,_,h2⟩:=hU p hp
     rw[h2]at hi;cases hi
    ·exact h.1 (List.mem_append_right _ (List.mem_flatMap.2 ⟨p,hp,hi⟩))
  ·rw[Cj _ _ _ (fun p hp he=> ?_)]
   ·exact h.2
   ·obtain⟨e,f,l,h1,_⟩:=hU p hp
    rw[he,h.2]at h1;cases h1
def EZ (Aa:List (Nat×Obj)) (fet:Fet):Prop:= ∀ q x,Ag fet q=some x->Ag Aa q=some x
theorem vY {O:Own} {w:World} {k:CK} {v:Value} {l:Sl} (hok:Ak (lU k l).1) (h:Ai O w v (.sl l)):Ai O w v (lU k l).2:=by
  cases k<;>first
    | exact h
    | (have h0:=hok.cons.1
       exact .sln h fun he=>by simp [he]at h0)
theorem Afb {O:Own} {w:World} {v:Value} {l:Sl} (k:CK) (h:Ai O w v (.sln l)):Ai O w v (AgB k l):=by
  cases k<;>first
    | exact h
    | (cases h with
       | sln h _=>exact h)
theorem vZ {fet:Fet} {k:CK} {c:A} {v:Value} (hf:EZ st.Aa fet) (hc:Au O st.Aa m w v c) (hok:Ak (pur fet k c).1) :
    Frz st.Aa (pur fet k c).2.2/\ ∀ {O':Own},DN O w O' w->(∀ p∈(pur fet k c).2.2,∀ e l,p.2= .arr e true l->Ai O' w (m p.1) (.sl l))->Ai O' w v (pur fet k c).2.1:=by
  have triv:Frz st.Aa []:=fun p hp=>by cases hp
  unfold pur at *
  cases c with
  | own q =>
    dsimp only at hok ⊢
    cases hg:Ag fet q with
    | none=>rw[hg]at hok;have:=hok false (by simp);cases this
    | some x =>
      cases x with
      | box _=>rw[hg]at hok;have:=hok false (by simp);cases this
      | mp _=>rw[hg]at hok;have:=hok false (by simp);cases this
      | arr e f l =>
        rw[hg]at hok
        dsimp only at hok ⊢
        have h1:=hf q _ hg
        refine⟨fun p hp=> ?_,fun hp hv=> ?_⟩
        ·simp at hp;subst hp;exact⟨e,f,l,h1,rfl⟩
        ·have h2:=hc.2
         rw[h1]at h2
         simp only[Option.map_some,Obj.shp]at h2
         rw[h2]
         exact vY hok (hv _ List.mem_cons_self e l rfl)
  | BU =>
    have hv:=hc.BU
    cases k with
    | sl e sz=>subst hv;exact⟨triv,fun _ _=>.nil _⟩
    | sln e sz=>subst hv;exact⟨triv,fun _ _=>.sln (.nil _) fun _=>rfl⟩
    | _=>have:=hok false (by simp);cases this
  | bool _=>exact⟨triv,fun hp _=>Ai.AX hp hc⟩
  | int _ _=>exact⟨triv,fun hp _=>Ai.AX hp hc⟩
  | str _=>exact⟨triv,fun hp _=>Ai.AX hp hc⟩
  | sl _=>exact⟨triv,fun hp _=>vY hok (Ai.AX hp hc)⟩
  | sln _=>exact⟨triv,fun hp _=>Afb k (Ai.AX hp hc)⟩
  | Cc=>exact⟨triv,fun hp _=>Ai.AX hp hc⟩
  | fn _=>exact⟨triv,fun hp _=>Ai.AX hp hc⟩
  | _=>have:=hok false (by simp);cases this
theorem Frz.append {Aa:List (Nat×Obj)} {U V:List (Nat×Obj)} (h:Frz Aa U) (h':Frz Aa V):Frz Aa (U++V):=fun p hp=>(List.mem_append.1 hp).elim (h p) (h' p)
theorem QV {fet:Fet} (hf:EZ st.Aa fet): ∀(ks:List CK) (cs:List A) (f:Nat->Value),(∀ j,j<cs.length->Au O st.Aa m w (f j) (cs.getD j .undef))->Ak (BH fet ks cs).1 ->
    (BH fet ks cs).2.1.length=ks.length/\cs.length=ks.length/\Frz st.Aa (BH fet ks cs).2.2/\ ∀ {O':Own},DN O w O' w->(∀ p∈(BH fet ks cs).2.2,∀ e l,p.2= .arr e true l->Ai O' w (m p.1) (.sl l)) ->
      ∀ j,j<ks.length->Ai O' w (f j) ((BH fet ks cs).2.1.getD j .undef):=by
  intro ks
  induction ks with
  | nil =>
    intro cs f _ hok
    cases cs with
    | nil=>exact⟨rfl,rfl,fun p hp=>by simp [BH]at hp,fun _ _ j hj=>by simp at hj⟩
    | cons _ _=>have:=hok false (by simp [BH]);cases this
  | cons k ks ih =>
    intro cs f h hok
    cases cs with
    | nil=>have:=hok false (by simp [BH]);cases this
    | cons c cs =>
      simp only[BH]at hok ⊢
      obtain⟨hok1,hok2⟩:=hok.append
      obtain⟨h1,h2⟩:=vZ hf (h 0 (by simp)) hok1
      obtain⟨h3,h4,h5,h6⟩:=ih cs (fun j=>f (j+1)) (fun j hj=>by simpa using h (j+1) (by simpa using hj)) hok2
      refine⟨by simp [h3],by simp [h4],h1.append h5,fun hp hv j hj=> ?_⟩
      cases j with
      | zero=>exact h2 hp (fun p hp=>hv p (List.mem_append_left _ hp))
      | succ j=>simpa using h6 hp (fun p hp=>hv p (List.mem_append_right _ hp)) j (by simpa using hj)
end
end Go.Proofs.YtadefjgbcapakaaGreatDoor.Vm
namespace Go.Proofs.YtadefjgbcapakaaGreatDoor.Vm
open Classical
section
variable {P:Program} {C:Ctx} {V0:Nat->Value} {O0 O:Own} {w0 w:World} {m:Nat->Value} {st:St} {a:Act} {o:Oper}
def Held (O:Own) (w:World) (cur:Array Value) (sz:Nat) (es:List (List A)):Prop :=
  (∀ x∈es,x.length=sz)/\ ∀ i j,i<es.length->j<sz-> ∃ u,cur[i*sz+j]? =some u/\Ai O w u ((es.getD i []).getD j .undef)
theorem Z7 (hS:Sim V0 O0 w0 O m st a w) {w2:World} (hM:Moves O (fun _=>False) w w2) {d:Tmp} {e cap:Nat} {frz:Bool} {l:Sl} {cur:Array Value} {del:List Nat} (hnew:DT w2 w.heap.size cur e)
    (hcap:l.es.length<=cap) (hmax:cap<=maxLen) (hcur:cur.size=cap*l.sz) (hh:Held O w cur l.sz l.es) (hfresh:EK st (b2 d)) :
    ∃ O' m',Sim V0 O0 w0 O' m' {tmps:=st.tmps.set d (.own (b2 d)),Aa:=Aj (Ba st.Aa del) [(b2 d,.arr e frz l)]} (a.put (some d) (.slice (some (at' w.heap.size 0)) l.es.length cap)) w2:=by
  let id:=b2 d
  let O':Own:=fun b k=>if b=w.heap.size then(if frz=true/\k<l.es.length*l.sz then none else some id)else O b k
  let m':Nat->Value:=fun i=>if i=id then .slice (some (at' w.heap.size 0)) l.es.length cap else m i
  have hlt: ∀ {b k},b<w.heap.size->O' b k=O b k:=fun hb=>if_neg (Nat.ne_of_lt hb)
  have hP:Passes O O' (fun _=>False) w.heap.size:=⟨fun b k hb h=>by rw[hlt hb];exact h,fun b k q hb h _=>by rw[hlt hb];exact h⟩
  have hpr:=hM.AX hP
  have hget: ∀ i y,Ag (Aj (Ba st.Aa del) [(id,.arr e frz l)]) i=some y->(i=id/\y= .arr e frz l)\/(i≠id/\Ag st.Aa i=some y):=by
    intro i y hy
    simp only[Aj]at hy
    rw[Bd]at hy
    by_cases hi:i=id
    ·rw[if_pos hi]at hy;injection hy with hy;exact .inl ⟨hi,hy.symm⟩
    ·rw[if_neg hi,HY]at hy
     split at hy
     ·cases hy
     ·exact .inr ⟨hi,hy⟩
  have hE:F5 st.Aa m (Aj (Ba st.Aa del) [(id,.arr e frz l)]) m' (fun i=>i=id):=by
    intro i y hy
    rcases hget i y hy with ⟨h1,_⟩ | ⟨h1,h2⟩
    ·exact .inl h1
    ·exact .inr ⟨y,h2,rfl,if_neg h1⟩
  refine⟨O',m',hS.next (st':= {tmps:=st.tmps.set d (.own (b2 d)),Aa:=Aj (Ba st.Aa del) [(id,.arr e frz l)]}) (x:=.own id) (T:=fun _=>False) (Nw:=fun i=>i=id) hM hP (fun b k hb h=>by rw[hlt hb]at h;exact h) hE (fun n hn=>by rw[hn];exact hfresh.both) (fun _ h=>h.elim) (fun i y hy=> ?_) rfl (fun _=> ?_)⟩
  ·rcases hget i y hy with ⟨h1,h2⟩ | ⟨h1,h2⟩
   ·right
    subst h1;subst h2
    refine⟨⟨hh.1,.inr ⟨trivial,w.heap.size,cap,cur,if_pos rfl,hnew,hcap,hmax,hcur,fun i j hi hj=> ?_,fun k hk hge=> ?_,fun k hk=> ?_⟩⟩,hfresh.ne⟩
    ·obtain⟨u,h3,h4⟩:=hh.2 i j hi hj
     exact⟨u,h3,h4.AX hpr⟩
    ·show(if _ then(if _ then _ else _)else _)=_
     rw[if_pos rfl,if_neg (by omega)]
    ·show(if _ then(if _ then _ else _)else _)=_
     rw[if_pos rfl]
     cases frz
     ·simp
     ·simp [hk]
   ·exact .inl ⟨fun h=>h,h2,if_neg h1⟩
  ·refine⟨rfl,?_⟩
   have:Ag (Aj (Ba st.Aa del) [(id,.arr e frz l)]) id=some (.arr e frz l):=by simp only[Aj];rw[Bd,if_pos rfl]
   show match (Ag (Aj (Ba st.Aa del) [(id,.arr e frz l)]) id).map Obj.shp with | some (.arr _ _)=>_ | some .mp=>_ | _=>True
   rw[this]
   exact(if_pos rfl:m' id=_).symm
theorem KI (hS:Sim V0 O0 w0 O m st a w) {w1:World} (hM1:Moves O (fun _=>False) w w1) (hsz1:w1.heap.size=w.heap.size) {d:Tmp} {e cap:Nat} {frz:Bool} {l:Sl} {cur:Array Value} {del:List Nat}
    (hcap:l.es.length<=cap) (hmax:cap<=maxLen) (hcur:cur.size=cap*l.sz) (hh:Held O w cur l.sz l.es) (hfresh:EK st (b2 d)) :
    ∃ O' m',Sim V0 O0 w0 O' m' {tmps:=st.tmps.set d (.own (b2 d)),Aa:=Aj (Ba st.Aa del) [(b2 d,.arr e frz l)]} (a.put (some d) (.slice (some (at' w.heap.size 0)) l.es.length cap)) (w1.alloc (.cells cur e)):=by
  exact Z7 hS (hM1.then (by rw[<- hsz1]at *;exact Moves.push _)) ⟨_,by rw[<- hsz1];exact Uz _ _,.inl rfl⟩ hcap hmax hcur hh hfresh
theorem UJ (hS:Sim V0 O0 w0 O m st a w) {d:Tmp} {e:Nat} {frz:Bool} {t:Ty} {del:List Nat} {id:Nat} (hfresh:EK st id) :
    ∃ O' m',Sim V0 O0 w0 O' m' {tmps:=st.tmps.set d (.own id),Aa:=Aj (Ba st.Aa del) [(id,.arr e frz ⟨t,[]⟩)]} (a.put (some d) (.slice none 0 0)) w:=by
  let m':Nat->Value:=fun i=>if i=id then .slice none 0 0 else m i
  have hget: ∀ i y,Ag (Aj (Ba st.Aa del) [(id,.arr e frz ⟨t,[]⟩)]) i=some y->(i=id/\y= .arr e frz ⟨t,[]⟩)\/(i≠id/\Ag st.Aa i=some y):=by
    intro i y hy
    simp only[Aj]at hy
    rw[Bd]at hy
    by_cases hi:i=id
    ·rw[if_pos hi]at hy;injection hy with hy;exact .inl ⟨hi,hy.symm⟩
    ·rw[if_neg hi,HY]at hy
     split at hy
     ·cases hy
     ·exact .inr ⟨hi,hy⟩
  have hE:F5 st.Aa m (Aj (Ba st.Aa del) [(id,.arr e frz ⟨t,[]⟩)]) m' (fun i=>i=id):=by
    intro i y hy
    rcases hget i y hy with ⟨h1,_⟩ | ⟨h1,h2⟩
    ·exact .inl h1
    ·exact .inr ⟨y,h2,rfl,if_neg h1⟩
  refine⟨O,m',hS.next (st':= {tmps:=st.tmps.set d (.own id),Aa:=Aj (Ba st.Aa del) [(id,.arr e frz ⟨t,[]⟩)]}) (x:=.own id) (T:=fun _=>False) (Nw:=fun i=>i=id) (Moves.refl _ _ _) ⟨fun _ _ _ h=>h,fun _ _ _ _ h _=>h⟩ (fun b k hb h=>h) hE (fun n hn=>by rw[hn];exact hfresh.both) (fun _ h=>h.elim) (fun i y hy=> ?_) rfl (fun _=> ?_)⟩
  ·rcases hget i y hy with ⟨h1,h2⟩ | ⟨h1,h2⟩
   ·right
    subst h1;subst h2
    exact⟨⟨by simp [Sl.es],.inl ⟨trivial,rfl,if_pos rfl⟩⟩,hfresh.ne⟩
   ·exact .inl ⟨fun h=>h,h2,if_neg h1⟩
  ·refine⟨rfl,?_⟩
   have:Ag (Aj (Ba st.Aa del) [(id,.arr e frz ⟨t,[]⟩)]) id=some (.arr e frz ⟨t,[]⟩):=by simp only[Aj];rw[Bd,if_pos rfl]
   show match (Ag (Aj (Ba st.Aa del) [(id,.arr e frz ⟨t,[]⟩)]) id).map Obj.shp with | some (.arr _ _)=>_ | some .mp=>_ | _=>True
   rw[this]
   exact(if_pos rfl:m' id=_).symm
theorem yF (hS:Sim V0 O0 w0 O m st a w) {d:Tmp} {q e cap g:Nat} {frz:Bool} {l l':Sl} {ns:List (List A)} {cur:Array Value} {news:List Value}
    (hq:Ag st.Aa q=some (.arr e frz l)) (hm:m q= .slice (some (at' g 0)) l.es.length cap) (hg:DT w g cur e) (hcap:l.es.length+ns.length<=cap) (hle:l'.es=l.es++ns) (hls:l'.sz=l.sz)
    (hl:news.length=ns.length*l.sz) (hns: ∀ x∈ns,x.length=l.sz) (hnv: ∀ i j,i<ns.length->j<l.sz->Ai O w (news.getD (i*l.sz+j) undef) ((ns.getD i []).getD j .undef)) (hfresh:EK st (b2 d)) :
    ∃ O' m',Sim V0 O0 w0 O' m' {tmps:=st.tmps.set d (.own (b2 d)),Aa:=Aj (Ba st.Aa [q]) [(b2 d,.arr e frz l')]} (a.put (some d) (.slice (some (at' g 0)) (l.es.length+ns.length) cap)) (w.setCells g (l.es.length*l.sz) news):=by
  let id:=b2 d
  have hidq:id≠q:=fun h=>by
    have:=hfresh.2
    rw[show b2 d=id from rfl,h,hq]at this;cases this
  obtain⟨hsz,hr⟩:=hS.Aa q _ hq
  obtain⟨g',cap',cur',h2,h3,h4,h5,h6,h7,h8,h9⟩: ∃ g' cap' cur',m q= .slice (some (at' g' 0)) l.es.length cap'/\DT w g' cur' e/\l.es.length<=cap'/\cap'<=maxLen/\cur'.size=cap'*l.sz /\
      (∀ i j,i<l.es.length->j<l.sz-> ∃ u,cur'[i*l.sz+j]? =some u/\Ai O w u ((l.es.getD i []).getD j .undef))/\(∀ k,k<cur'.size->l.es.length*l.sz<=k->O g' k=some q)/\(∀ k,k<l.es.length*l.sz->O g' k=if frz then none else some q):=by
    rcases hr with ⟨_,_,h⟩ | ⟨_,h⟩
    ·rw[hm]at h;cases h
    ·exact h
  rw[hm]at h2
  injection h2 with h2 _ hcc;injection h2 with h2;injection h2 with h2
  subst h2;subst hcc
  obtain⟨h3,_⟩:=hg.inj h3
  subst h3
  obtain⟨fr,hg,hfr0⟩:=hg
  have hmul:(l.es.length+ns.length)*l.sz<=cap*l.sz:=Nat.mul_le_mul_right _ hcap
  rw[Nat.add_mul]at hmul
  obtain⟨c',g1,g2,g3,g4,g5,g6,g7,g8⟩:=Oh g news (l.es.length*l.sz) w hg (by rw[hl,h6];exact hmul)
  let w':=w.setCells g (l.es.length*l.sz) news
  let O':Own:=fun b k=>if b=g/\k<cur.size then(if frz=true/\k<(l.es.length+ns.length)*l.sz then none else some id)else O b k
  let m':Nat->Value:=fun i=>if i=id then .slice (some (at' g 0)) (l.es.length+ns.length) cap else m i
  have hsame: ∀ k,(k<l.es.length*l.sz\/(l.es.length+ns.length)*l.sz<=k)->c'[k]? =cur[k]? :=by
    intro k hk
    rw[Nat.add_mul]at hk
    by_cases hks:k<cur.size
    ·have:=g3 k
     rw[if_neg (by rw[hl];omega)]at this
     rw[getD_eq (by omega),getD_eq hks,this]
    ·rw[Array.getElem?_eq_none (by omega),Array.getElem?_eq_none (by omega)]
  have hM:Moves O (fun i=>i=q) w w':=by
    refine Moves.row g6 g7 g8 g5 hg g1 g4 g2 (fun k hk=>hsame k ?_) ?_
    ·rcases Nat.lt_or_ge k (l.es.length*l.sz)with h | h
     ·exact .inl h
     ·right
      rcases Nat.lt_or_ge k cur.size with hks | hks
      ·exact absurd rfl (hk q (h8 k hks h))
      ·rw[Nat.add_mul];omega
    ·by_cases hn:ns.length*l.sz=0
     ·right
      have:news=[]:=List.eq_nil_of_length_eq_zero (by omega)
      apply Array.ext_getElem?
      intro k
      refine hsame k ?_
      rw[Nat.add_mul,hn];omega
     ·left
      refine⟨l.es.length*l.sz,q,by omega,h8 _ (by omega) (Nat.le_refl _),rfl⟩
  have hg':g<w.heap.size:=(Array.getElem?_eq_some_iff.1 hg).1
  have own_g: ∀ k,k<cur.size->O g k=none\/O g k=some q:=by
    intro k hk
    rcases Nat.lt_or_ge k (l.es.length*l.sz)with h | h
    ·rw[h9 k h];cases frz<;>simp
    ·exact .inr (h8 k hk h)
  have hP:Passes O O' (fun i=>i=q) w.heap.size:=by
    refine⟨fun b k _ h=> ?_,fun b k r _ h hne=> ?_⟩
    ·show(if _ then(if _ then _ else _)else _)=_
     by_cases hc:b=g/\k<cur.size
     ·rw[if_pos hc]
      obtain⟨rfl,hk⟩:=hc
      rcases Nat.lt_or_ge k (l.es.length*l.sz)with h' | h'
      ·have:=h9 k h'
       rw[h]at this
       cases frz
       ·simp at this
       ·rw[if_pos ⟨rfl,by rw[Nat.add_mul];omega⟩]
      ·rw[h8 k hk h']at h;cases h
     ·rw[if_neg hc];exact h
    ·show(if _ then(if _ then _ else _)else _)=_
     by_cases hc:b=g/\k<cur.size
     ·obtain⟨rfl,hk⟩:=hc
      rcases own_g k hk with h' | h'
      ·rw[h]at h';cases h'
      ·rw[h]at h';injection h' with h';exact absurd h' hne
     ·rw[if_neg hc];exact h
  have hpr:=hM.AX hP
  have hget: ∀ i y,Ag (Aj (Ba st.Aa [q]) [(id,.arr e frz l')]) i=some y->(i=id/\y= .arr e frz l')\/(i≠id/\i≠q/\Ag st.Aa i=some y):=by
    intro i y hy
    simp only[Aj]at hy
    rw[Bd]at hy
    by_cases hi:i=id
    ·rw[if_pos hi]at hy;injection hy with hy;exact .inl ⟨hi,hy.symm⟩
    ·rw[if_neg hi,HY]at hy
     split at hy
     ·cases hy
     ·rename_i hnd;exact .inr ⟨hi,by simpa using hnd,hy⟩
  have hE:F5 st.Aa m (Aj (Ba st.Aa [q]) [(id,.arr e frz l')]) m' (fun i=>i=id):=by
    intro i y hy
    rcases hget i y hy with ⟨h1,_⟩ | ⟨h1,_,h2⟩
    ·exact .inl h1
    ·exact .inr ⟨y,h2,rfl,if_neg h1⟩
  refine⟨O',m',hS.next (st':= {tmps:=st.tmps.set d (.own (b2 d)),Aa:=Aj (Ba st.Aa [q]) [(id,.arr e frz l')]}) (x:=.own id) (T:=fun i=>i=q) (Nw:=fun i=>i=id) hM hP (fun b k hb h=> ?_) hE (fun n hn=>by rw[hn];exact hfresh.both) (fun o ho=>by rw[ho,hq];rfl) (fun i y hy=> ?_) rfl (fun _=> ?_)⟩
  ·have h':(if b=g/\k<cur.size then(if frz=true/\k<(l.es.length+ns.length)*l.sz then none else some id)else O b k)≠none:=h
   by_cases hc:b=g/\k<cur.size
   ·rw[if_pos hc]at h'
    obtain⟨rfl,hk⟩:=hc
    rcases Nat.lt_or_ge k (l.es.length*l.sz)with hlt | hge
    ·rw[h9 k hlt]
     cases frz
     ·simp
     ·exfalso;refine h' ?_;rw[if_pos ⟨rfl,by rw[Nat.add_mul];omega⟩]
    ·rw[h8 k hk hge];simp
   ·rw[if_neg hc]at h';exact h'
  ·rcases hget i y hy with ⟨h1,h2⟩ | ⟨h1,hiq,h2⟩
   ·right
    subst h1;subst h2
    refine⟨?_,hfresh.ne⟩
    simp only[Ce]
    rw[hle,hls]
    refine⟨fun x hx=>(List.mem_append.1 hx).elim (hsz x) (hns x),.inr ⟨trivial,g,cap,c',by rw[List.length_append];exact if_pos rfl,⟨fr,g1,by rw[g2];exact hfr0⟩,by rw[List.length_append];exact hcap,h5,by rw[g2];exact h6,fun i j hi hj=> ?_,fun k hk hge=> ?_,fun k hk=> ?_⟩⟩
    ·rw[List.length_append]at hi
     by_cases hil:i<l.es.length
     ·obtain⟨u,h10,h11⟩:=h7 i j hil hj
      have hlt:i*l.sz+j<l.es.length*l.sz:=by
        have:(i+1)*l.sz<=l.es.length*l.sz:=Nat.mul_le_mul_right _ hil
        rw[Nat.add_mul]at this;omega
      refine⟨u,by rw[hsame _ (.inl hlt)];exact h10,?_⟩
      have e1:(l.es++ns).getD i []=l.es.getD i []:=by
        simp only[List.getD_eq_getElem?_getD];rw[List.getElem?_append_left hil]
      rw[e1];exact h11.AX hpr
     ·obtain⟨i',rfl⟩: ∃ i',i=l.es.length+i':=⟨i - l.es.length,by omega⟩
      have hi':i'<ns.length:=by omega
      have hlt:i'*l.sz+j<ns.length*l.sz:=by
        have:(i'+1)*l.sz<=ns.length*l.sz:=Nat.mul_le_mul_right _ hi'
        rw[Nat.add_mul]at this;omega
      have hidx:(l.es.length+i')*l.sz+j=l.es.length*l.sz+(i'*l.sz+j):=by rw[Nat.add_mul];omega
      have hsz':l.es.length*l.sz+(i'*l.sz+j)<c'.size:=by rw[g2,h6];omega
      refine⟨news.getD (i'*l.sz+j) undef,?_,?_⟩
      ·rw[hidx,getD_eq hsz',g3,if_pos ⟨by omega,by rw[hl];omega⟩]
       rw[show l.es.length*l.sz+(i'*l.sz+j) - l.es.length*l.sz=i'*l.sz+j from by omega]
      ·have e1:(l.es++ns).getD (l.es.length+i') []=ns.getD i' []:=by
         simp only[List.getD_eq_getElem?_getD];rw[List.getElem?_append_right (by omega),Nat.add_sub_cancel_left]
       rw[e1];exact(hnv i' j hi' hj).AX hpr
    ·rw[g2]at hk
     rw[List.length_append]at hge
     show(if _ then(if _ then _ else _)else _)=_
     rw[if_pos ⟨rfl,hk⟩,if_neg (by omega)]
    ·rw[List.length_append]at hk
     show(if _ then(if _ then _ else _)else _)=_
     rw[if_pos ⟨rfl,by rw[Nat.add_mul]at hk;omega⟩]
     cases frz
     ·simp
     ·simp [hk]
   ·exact .inl ⟨hiq,h2,if_neg h1⟩
  ·refine⟨rfl,?_⟩
   have:Ag (Aj (Ba st.Aa [q]) [(id,.arr e frz l')]) id=some (.arr e frz l'):=by simp only[Aj];rw[Bd,if_pos rfl]
   show match (Ag (Aj (Ba st.Aa [q]) [(id,.arr e frz l')]) id).map Obj.shp with | some (.arr _ _)=>_ | some .mp=>_ | _=>True
   rw[this]
   exact(if_pos rfl:m' id=_).symm
theorem AaD (hS:Sim V0 O0 w0 O m st a w) {d:Tmp} {q e cap g n:Nat} {l l':Sl} {cur:Array Value}
    (hq:Ag st.Aa q=some (.arr e false l)) (hm:m q= .slice (some (at' g 0)) l.es.length cap) (hg:DT w g cur e) (hn:n<=l.es.length) (hle:l'.es=l.es.take n) (hls:l'.sz=l.sz) (hfresh:EK st (b2 d)) :
    ∃ O' m',Sim V0 O0 w0 O' m' {tmps:=st.tmps.set d (.own (b2 d)),Aa:=Aj (Ba st.Aa [q]) [(b2 d,.arr e false l')]} (a.put (some d) (.slice (some (at' g 0)) n cap)) w:=by
  let id:=b2 d
  obtain⟨hsz,hr⟩:=hS.Aa q _ hq
  obtain⟨g',cap',cur',h2,h3,h4,h5,h6,h7,h8,h9⟩: ∃ g' cap' cur',m q= .slice (some (at' g' 0)) l.es.length cap'/\DT w g' cur' e/\l.es.length<=cap'/\cap'<=maxLen/\cur'.size=cap'*l.sz /\
      (∀ i j,i<l.es.length->j<l.sz-> ∃ u,cur'[i*l.sz+j]? =some u/\Ai O w u ((l.es.getD i []).getD j .undef))/\(∀ k,k<cur'.size->l.es.length*l.sz<=k->O g' k=some q)/\(∀ k,k<l.es.length*l.sz->O g' k=some q):=by
    rcases hr with ⟨_,_,h⟩ | ⟨_,h⟩
    ·rw[hm]at h;cases h
    ·simpa using h
  rw[hm]at h2
  injection h2 with h2 _ hcc;injection h2 with h2;injection h2 with h2
  subst h2;subst hcc
  obtain⟨h3,_⟩:=hg.inj h3
  subst h3
  have own_g: ∀ k,k<cur.size->O g k=some q:=by
    intro k hk
    rcases Nat.lt_or_ge k (l.es.length*l.sz)with h | h
    ·exact h9 k h
    ·exact h8 k hk h
  let O':Own:=fun b k=>if b=g/\k<cur.size then some id else O b k
  let m':Nat->Value:=fun i=>if i=id then .slice (some (at' g 0)) n cap else m i
  have hM:Moves O (fun i=>i=q) w w:=Moves.refl _ _ _
  have hP:Passes O O' (fun i=>i=q) w.heap.size:=by
    refine⟨fun b k _ h=> ?_,fun b k r _ h hne=> ?_⟩
    ·show(if _ then _ else _)=_
     by_cases hc:b=g/\k<cur.size
     ·obtain⟨rfl,hk⟩:=hc
      rw[own_g k hk]at h;cases h
     ·rw[if_neg hc];exact h
    ·show(if _ then _ else _)=_
     by_cases hc:b=g/\k<cur.size
     ·obtain⟨rfl,hk⟩:=hc
      rw[own_g k hk]at h;injection h with h;exact absurd h.symm hne
     ·rw[if_neg hc];exact h
  have hpr:=hM.AX hP
  have hget: ∀ i y,Ag (Aj (Ba st.Aa [q]) [(id,.arr e false l')]) i=some y->(i=id/\y= .arr e false l')\/(i≠id/\i≠q/\Ag st.Aa i=some y):=by
    intro i y hy
    simp only[Aj]at hy
    rw[Bd]at hy
    by_cases hi:i=id
    ·rw[if_pos hi]at hy;injection hy with hy;exact .inl ⟨hi,hy.symm⟩
    ·rw[if_neg hi,HY]at hy
     split at hy
     ·cases hy
     ·rename_i hnd;exact .inr ⟨hi,by simpa using hnd,hy⟩
  have hE:F5 st.Aa m (Aj (Ba st.Aa [q]) [(id,.arr e false l')]) m' (fun i=>i=id):=by
    intro i y hy
    rcases hget i y hy with ⟨h1,_⟩ | ⟨h1,_,h2⟩
    ·exact .inl h1
    ·exact .inr ⟨y,h2,rfl,if_neg h1⟩
  have hlen:l'.es.length=n:=by rw[hle,List.length_take];omega
  have hmul:n*l.sz<=l.es.length*l.sz:=Nat.mul_le_mul_right _ hn
  have hmul2:l.es.length*l.sz<=cap*l.sz:=Nat.mul_le_mul_right _ h4
  refine⟨O',m',hS.next (st':= {tmps:=st.tmps.set d (.own (b2 d)),Aa:=Aj (Ba st.Aa [q]) [(id,.arr e false l')]}) (x:=.own id) (T:=fun i=>i=q) (Nw:=fun i=>i=id) hM hP (fun b k hb h=> ?_) hE (fun n hn=>by rw[hn];exact hfresh.both) (fun o ho=>by rw[ho,hq];rfl) (fun i y hy=> ?_) rfl (fun _=> ?_)⟩
  ·have h':(if b=g/\k<cur.size then some id else O b k)≠none:=h
   by_cases hc:b=g/\k<cur.size
   ·obtain⟨rfl,hk⟩:=hc
    rw[own_g k hk];simp
   ·rw[if_neg hc]at h';exact h'
  ·rcases hget i y hy with ⟨h1,h2⟩ | ⟨h1,hiq,h2⟩
   ·right
    subst h1;subst h2
    refine⟨?_,hfresh.ne⟩
    simp only[Ce]
    rw[hls,hlen]
    refine⟨fun x hx=>hsz x (by rw[hle]at hx;exact List.mem_of_mem_take hx),.inr ⟨trivial,g,cap,cur,if_pos rfl,hg,by omega,h5,h6,fun i j hi hj=> ?_,fun k hk hge=>if_pos ⟨rfl,hk⟩,fun k hk=> ?_⟩⟩
    ·obtain⟨u,h10,h11⟩:=h7 i j (by omega) hj
     refine⟨u,h10,?_⟩
     have e1:l'.es.getD i []=l.es.getD i []:=by
       rw[hle]
       simp only[List.getD_eq_getElem?_getD,List.getElem?_take]
       rw[if_pos hi]
     rw[e1];exact h11.AX hpr
    ·show(if _ then _ else _)=_
     rw[if_pos ⟨rfl,by omega⟩];rfl
   ·exact .inl ⟨hiq,h2,if_neg h1⟩
  ·refine⟨rfl,?_⟩
   have:Ag (Aj (Ba st.Aa [q]) [(id,.arr e false l')]) id=some (.arr e false l'):=by simp only[Aj];rw[Bd,if_pos rfl]
   show match (Ag (Aj (Ba st.Aa [q]) [(id,.arr e false l')]) id).map Obj.shp with | some (.arr _ _)=>_ | some .mp=>_ | _=>True
   rw[this]
   exact(if_pos rfl:m' id=_).symm
end
end Go.Proofs.YtadefjgbcapakaaGreatDoor.Vm
namespace Go.Proofs.YtadefjgbcapakaaGreatDoor.Vm
open Classical
section
variable {P:Program} {C:Ctx} {V0:Nat->Value} {O0 O:Own} {w0 w:World} {m:Nat->Value} {st:St} {a:Act} {o:Oper}
theorem LH {δ :Dl} {d:Tmp} (hd:o.dst=some d):apply st o δ = {tmps:=st.tmps.set d δ.val,Aa:=Aj (Ba (Aj st.Aa δ.upd) δ.del) δ.new}:=by
  unfold apply;rw[hd];rfl
theorem Ny {t:Nat} {k:Nat->TI->Dl} (hok:Ak (elemOf C t k).ok): ∃ ti e te,C.T t=some ti/\ti.d= .slice e/\C.T e=some te/\elemOf C t k=k e te:=by
  unfold elemOf at *
  obtain⟨ti,ht,he⟩:=Bf hok
  rw[he]at hok ⊢;clear he
  obtain⟨e,hel,he⟩:=AA hok
  rw[he]at hok ⊢;clear he
  obtain⟨te,hte,he⟩:=Bf hok
  exact⟨ti,e,te,ht,IZ hel,hte,he⟩
theorem Adh {O':Own} {w':World} {fet:Fet} {te:TI} {ty:Ty} (hf:EZ st.Aa fet) (hp:DN O w O' w) (hw:w'=w): ∀(xs:List (Nat×A)) (ps:List (Nat×Value)) (vs:Array Value) (zs:List ty.Val),
    xs.length=ps.length->(∀(j:Nat) (x:Nat×A) (p:Nat×Value),xs[j]? =some x->ps[j]? =some p->p.1=x.1/\Ap O st.Aa m w p.2 x.2/\x.2.isVal=true) ->
    vs.size=zs.length*te.cs.length->Held O' w' vs te.cs.length (zs.map ty.cells)->Ak (DL fet te ty xs zs).1 ->
    (∀ p∈(DL fet te ty xs zs).2.2,∀ e l,p.2= .arr e true l->Ai O' w (m p.1) (.sl l)) ->
    (DL fet te ty xs zs).2.1.length=zs.length/\ ∃ vs',Instr.fill (fun i=>some (i*te.cs.length,te.cs.length)) vs ps=some vs'/\vs'.size=vs.size/\Held O' w' vs' te.cs.length ((DL fet te ty xs zs).2.1.map ty.cells):=by
  subst hw
  intro xs
  induction xs with
  | nil =>
    intro ps vs zs hl _ hsz hh _ _
    cases ps with
    | nil=>exact⟨rfl,vs,rfl,rfl,hh⟩
    | cons _ _=>simp at hl
  | cons x xs ih =>
    intro ps vs zs hl hr hsz hh hok hU
    cases ps with
    | nil=>simp at hl
    | cons p ps =>
      obtain⟨i,x⟩:=x
      obtain⟨i',v⟩:=p
      obtain⟨h1,h2,hval⟩:=hr 0 (i,x) (i',v) rfl rfl
      dsimp only at h1 h2 hval
      subst h1
      simp only[DL]at hok hU ⊢
      obtain⟨hok1,hok2⟩:=hok.append
      obtain⟨hok0,hok1⟩:=hok1.append
      obtain⟨hmk,hok1⟩:=hok1.cons
      have hmk:=Ty.Gi _ _ hmk
      have hil':i'<zs.length:=by simpa [Nat.blt_eq]using hok1.cons.1
      have hset:(zs.set i' (ty.mk (BH fet te.cs x.cells).2.1).2).map ty.cells=(zs.map ty.cells).set i' (BH fet te.cs x.cells).2.1:=by rw[List.map_set,hmk]
      have hzl:zs.length=(zs.map ty.cells).length:=by simp
      rw[hzl]at hsz hil'
      generalize hes:zs.map ty.cells=es at *
      have hil:i'<es.length:=hil'
      have hcs:=h2.cells hval
      obtain⟨g1,g2,g3,g4⟩:=QV hf te.cs x.cells (fun j=>v.cells.getD j undef) (fun j hj=>hcs.2 j hj) hok0
      have g5:=g4 hp (fun p hp'=>hU p (List.mem_append_left _ hp'))
      have hvsz:v.cells.size=te.cs.length:=by rw[hcs.1,g2]
      have hle:i'*te.cs.length+te.cs.length<=vs.size:=by
        rw[hsz]
        have:(i'+1)*te.cs.length<=es.length*te.cs.length:=Nat.mul_le_mul_right _ hil
        rw[Nat.add_mul]at this;omega
      have e0:v.cells.zipIdx.foldl (fun cs (c,j)=>cs.setIfInBounds (i'*te.cs.length+j) c) vs=(v.cells.toList.zipIdx 0).foldl (fun cs (p:Value×Nat)=>cs.setIfInBounds (i'*te.cs.length+p.2) p.1) vs:=by
        rw[<- Array.foldl_toList];simp
      have hl0:i'*te.cs.length+0+v.cells.toList.length<=vs.size:=by rw[Array.length_toList,hvsz];omega
      obtain⟨k1,_⟩:=Jb v.cells.toList 0 (i'*te.cs.length) vs 0 hl0
      have k2:=fun j=>(Jb v.cells.toList 0 (i'*te.cs.length) vs j hl0).2
      rw[<- e0]at k1
      have hh':Held O' w' (v.cells.zipIdx.foldl (fun cs (c,j)=>cs.setIfInBounds (i'*te.cs.length+j) c) vs) te.cs.length (es.set i' (BH fet te.cs x.cells).2.1):=by
        refine⟨fun y hy=> ?_,fun r j hrl hj=> ?_⟩
        ·rcases List.mem_or_eq_of_mem_set hy with h | h
         ·exact hh.1 y h
         ·rw[h,g1]
        ·rw[List.length_set]at hrl
         have hlt:r*te.cs.length+j<vs.size:=by
           rw[hsz]
           have:(r+1)*te.cs.length<=es.length*te.cs.length:=Nat.mul_le_mul_right _ hrl
           rw[Nat.add_mul]at this;omega
         have hk:=k2 (r*te.cs.length+j)
         rw[<- e0]at hk
         by_cases hri:r=i'
         ·subst hri
          rw[if_pos (by rw[Array.length_toList,hvsz];omega)]at hk
          have e1:(es.set r (BH fet te.cs x.cells).2.1).getD r []=(BH fet te.cs x.cells).2.1:=by
            simp [List.getD_eq_getElem?_getD,hil]
          refine⟨_,getD_eq (by omega),?_⟩
          rw[hk,e1,show r*te.cs.length+j - (r*te.cs.length+0)=j from by omega]
          have e2:v.cells.toList.getD j undef=v.cells.getD j undef:=by
            rw[Array.getD_eq_getD_getElem?,List.getD_eq_getElem?_getD,Array.getElem?_toList]
          rw[e2];exact g5 j hj
         ·have hno: ¬(i'*te.cs.length+0<=r*te.cs.length+j/\r*te.cs.length+j<i'*te.cs.length+0+v.cells.toList.length):=by
            rw[Array.length_toList,hvsz]
            rintro ⟨ha,hb⟩
            rcases Nat.lt_or_gt_of_ne hri with h | h
            ·have:(r+1)*te.cs.length<=i'*te.cs.length:=Nat.mul_le_mul_right _ h
             rw[Nat.add_mul]at this;omega
            ·have:(i'+1)*te.cs.length<=r*te.cs.length:=Nat.mul_le_mul_right _ h
             rw[Nat.add_mul]at this;omega
          rw[if_neg hno]at hk
          obtain⟨u,h3,h4⟩:=hh.2 r j hrl hj
          refine⟨u,?_,?_⟩
          ·rw[getD_eq (by omega),hk,<- getD_eq hlt];exact h3
          ·have e1:(es.set i' (BH fet te.cs x.cells).2.1).getD r []=es.getD r []:=by
             simp only[List.getD_eq_getElem?_getD,List.getElem?_set]
             rw[if_neg (fun h=>hri h.symm)]
           rw[e1];exact h4
      obtain⟨f1,vs',f2,f3,f4⟩:=ih ps _ (zs.set i' (ty.mk (BH fet te.cs x.cells).2.1).2) (by simpa using hl) (fun j x p hx hp=>hr (j+1) x p (by simpa using hx) (by simpa using hp)) (by rw[k1,hsz,List.length_set,hzl]) (by rw[hset];exact hh') hok2
        (fun p hp'=>hU p (List.mem_append_right _ hp'))
      refine⟨by rw[f1,List.length_set],vs',?_,by rw[f3,k1],f4⟩
      simp only[Instr.fill]
      have: ¬(v.cells.size≠te.cs.length||decide (i'*te.cs.length+v.cells.size>vs.size))=true:=by
        rw[hvsz];simp;omega
      rw[if_neg (by simpa using this)]
      exact f2
end
end Go.Proofs.YtadefjgbcapakaaGreatDoor.Vm
namespace Go.Proofs.YtadefjgbcapakaaGreatDoor.Vm
open Classical
section
variable {P:Program} {C:Ctx} {V0:Nat->Value} {O0 O:Own} {w0 w:World} {m:Nat->Value} {st:St} {a:Act} {o:Oper}
theorem wB {fet:Fet} {ks:List CK} {x:A} (hok:Ak (BH fet ks x.cells).1):x.isVal=true:=by
  have no: ∀ {y:A},(∀ k,(pur fet k y).1=[false])-> ¬ Ak (BH fet ks [y]).1:=by
    intro y h hh
    cases ks with
    | nil=>have:=hh false (by simp [BH]);cases this
    | cons k ks =>
      have:=hh false (by simp [BH,h k]);cases this
  cases x with
  | undef=>exact(no (fun k=>rfl) hok).elim
  | tup _=>exact(no (fun k=>rfl) hok).elim
  | usl _ _=>exact(no (fun k=>rfl) hok).elim
  | ump _=>exact(no (fun k=>rfl) hok).elim
  | box _=>exact(no (fun k=>rfl) hok).elim
  | cbx _ _=>exact(no (fun k=>rfl) hok).elim
  | cnd _ _=>exact(no (fun k=>rfl) hok).elim
  | _=>rfl
theorem yC {fet:Fet} {te:TI} {ty:Ty} (hf:EZ st.Aa fet): ∀(xs:List (Nat×A)) (zs:List ty.Val),(∀ x∈xs,∃ v,Ap O st.Aa m w v x.2)->Ak (DL fet te ty xs zs).1->Frz st.Aa (DL fet te ty xs zs).2.2/\ ∀ x∈xs,x.2.isVal=true:=by
  intro xs
  induction xs with
  | nil=>intro zs _ _;exact⟨(fun p hp=>by simp [DL]at hp),fun x hx=>by cases hx⟩
  | cons x xs ih =>
    intro zs h hok
    obtain⟨i,x⟩:=x
    simp only[DL]at hok ⊢
    obtain⟨hok1,hok2⟩:=hok.append
    obtain⟨hok0,_⟩:=hok1.append
    have hv:=wB hok0
    obtain⟨v,hx⟩:=h (i,x) List.mem_cons_self
    have hcs:=Ap.cells (show Ap O st.Aa m w v x from hx) hv
    obtain⟨_,_,g3,_⟩:=QV hf te.cs x.cells (fun j=>v.cells.getD j undef) (fun j hj=>hcs.2 j hj) hok0
    obtain⟨f1,f2⟩:=ih _ (fun y hy=>h y (List.mem_cons_of_mem _ hy)) hok2
    exact⟨g3.append f1,fun y hy=>by rcases List.mem_cons.1 hy with rfl | hy;exact hv;exact f2 y hy⟩
theorem Om: ∀(vs:List Value) (ks:List CK),Bj vs ks=true->ks.all CK.plain=true-> ∀ j,j<ks.length->Ai O w (vs.getD j undef) ((ks.map CK.Ea).getD j .undef):=by
  intro vs ks h hp j hj
  obtain⟨h1,h2⟩:=GM (O:=O) (Aa:=[]) (m:=fun _=>undef) (w:=w) vs ks h
  have h3:=h2 j hj
  have hk:(ks.getD j .oth).plain=true:=by
    refine(List.all_eq_true.1 hp) _ ?_
    rw[List.getD_eq_getElem?_getD,List.getElem?_eq_getElem hj];simp
  have e1:(ks.map CK.zero).getD j .undef=(ks.getD j .oth).zero:=by simp [List.getD_eq_getElem?_getD,hj]
  have e2:(ks.map CK.Ea).getD j .undef=(ks.getD j .oth).Ea:=by simp [List.getD_eq_getElem?_getD,hj]
  rw[e1]at h3
  rw[e2]
  generalize ks.getD j .oth=k at *
  generalize vs.getD j undef=v at *
  cases k with
  | oth=>cases hk
  | mp _ _=>cases hk
  | fn=>exact h3
  | sl e sz=>have:=Au.BU h3;subst this;exact .nil _
  | sln e sz=>have:=Au.BU h3;subst this;exact .nil _
  | bool=>exact h3
  | int _=>exact h3
  | str=>exact h3
  | ptr=>exact h3
def zeros (z:Value) (n:Nat):Array Value:=(Array.range n).map (z.cells[· % z.cells.size]!)
theorem Held.less {cur:Array Value} {sz:Nat} {x:List A} {n k:Nat} (h:Held O w cur sz (List.replicate k x)) (hk:n<=k):Held O w cur sz (List.replicate n x):=by
  refine⟨fun y hy=> ?_,fun i j hi hj=> ?_⟩
  ·rw[List.eq_of_mem_replicate hy]
   cases k with
   | zero=>exact absurd (List.mem_replicate.1 hy).1 (by omega)
   | succ k=>exact h.1 x (List.mem_replicate.2 ⟨by omega,rfl⟩)
  ·rw[List.length_replicate]at hi
   obtain⟨u,h1,h2⟩:=h.2 i j (by rw[List.length_replicate];omega) hj
   refine⟨u,h1,?_⟩
   have e1:(List.replicate n x).getD i []=x:=by simp [List.getD_eq_getElem?_getD,hi]
   have e2:(List.replicate k x).getD i []=x:=by simp [List.getD_eq_getElem?_getD,show i<k by omega]
   rw[e1];rw[e2]at h2;exact h2
theorem U0 {t:Nat} {te:TI} {z:Value} (hT:Jl P t te) (hz:(P.info? t).bind (·.zero)=some z) (hp:te.cs.all CK.plain=true) (h0:0<te.cs.length) (n:Nat) :
    (zeros z (n*te.cs.length)).size=n*te.cs.length/\Held O w (zeros z (n*te.cs.length)) te.cs.length (List.replicate n (te.cs.map CK.Ea)):=by
  obtain⟨i,z',h1,h2,h3,h4,h5,h6⟩:=hT.i
  rw[h1]at hz
  simp only[Option.bind_some,h4]at hz
  injection hz with hz
  subst hz
  have hsz:z'.cells.size=te.cs.length:=by
    rw[<- Array.length_toList];exact(GM (O:=O) (Aa:=[]) (m:=fun _=>undef) (w:=w) _ _ h5).1
  have hv:=Om (O:=O) (w:=w) _ _ h5 hp
  refine⟨by simp [zeros],fun x hx=>by rw[List.eq_of_mem_replicate hx];simp,fun r j hr hj=> ?_⟩
  rw[List.length_replicate]at hr
  have hlt:r*te.cs.length+j<n*te.cs.length:=by
    have:(r+1)*te.cs.length<=n*te.cs.length:=Nat.mul_le_mul_right _ hr
    rw[Nat.add_mul]at this;omega
  have hmod:(r*te.cs.length+j) % te.cs.length=j:=by
    rw[Nat.mul_comm,Nat.mul_add_mod];exact Nat.mod_eq_of_lt hj
  refine⟨z'.cells.toList.getD j undef,?_,?_⟩
  ·simp only[zeros,Array.getElem?_map,Array.getElem?_range]
   rw[if_pos hlt]
   simp only[Option.map_some,hsz,hmod]
   congr 1
   rw[getElem!_pos z'.cells j (by omega)]
   simp [List.getD_eq_getElem?_getD,show j<z'.cells.size from by omega]
  ·have e1:(List.replicate n (te.cs.map CK.Ea)).getD r []=te.cs.map CK.Ea:=by
     simp [List.getD_eq_getElem?_getD,hr]
   rw[e1];exact hv j hj
theorem dX {t n:Nat} {ps:Array (Nat×Operand)} (hC:TOk P C) (hS:Sim V0 O0 w0 O m st a w) {d:Tmp} (hd:o.dst=some d) (ho:o.op= .buildSlice t n ps) {fet:Fet} (hf:EZ st.Aa fet) {xs:List (Nat×A)}
    (hl:xs.length=ps.size) (hx: ∀(j:Nat) (x:Nat×A) (p:Nat×Operand),xs[j]? =some x->ps[j]? =some p->p.1=x.1/\Ap O st.Aa m w (a.eval p.2) x.2)
    (hok:Ak (Gf C fet d t n xs).ok) (hfr: ∀ p∈(Gf C fet d t n xs).new,st.fresh p.1=true):Good P V0 O0 w0 (apply st o (Gf C fet d t n xs)) o a w:=by
  intro next Q hn
  unfold Gf at *
  obtain⟨ti,e,te,ht,hte,hd',he⟩:=Ny hok
  rw[he]at hn hfr hok;clear he
  obtain⟨hok1,hok2⟩:=hok.append
  obtain⟨hb1,hb2⟩:=hok2.cons
  obtain⟨hb2,hb3⟩:=hb2.cons
  have hb1:=Nat.le_of_ble_eq_true hb1
  have hb2:0<te.cs.length:=by simpa [Nat.blt_eq]using hb2
  have hb3:=hb3.cons.1
  have hT:=hC.is hd'
  obtain⟨i,z,h1,h2,h3,h4,h5,h6⟩:=hT.i
  have hu:=(hC.is ht).d
  rw[hte]at hu
  obtain⟨hU,hval⟩:=yC (te:=te) (ty:=tyl te.cs) hf xs (List.replicate n (tyl te.cs).zero) (fun x hx'=>by
    obtain⟨j,hj,hje⟩:=List.mem_iff_getElem.1 hx'
    have:=hx j x (ps[j]'(by omega)) (by rw[<- hje];exact List.getElem?_eq_getElem hj) (by simp [show j<ps.size from by omega])
    exact⟨_,this.2⟩) hok1
  obtain⟨O1,hS1,hp1,hle1,hv1,hE1,_⟩:=hS.freezes _ hU
  obtain⟨hz1,hz2⟩:=U0 (O:=O1) (w:=w) hT (by rw[h1];exact h4) hb3 hb2 n
  obtain⟨f1,vs',f2,f3,f4⟩:=Adh (te:=te) (ty:=tyl te.cs) hf hp1 rfl xs (ps.map (fun(i,x)=>(i,a.eval x))).toList (zeros z (n*te.cs.length)) (List.replicate n (tyl te.cs).zero) (by simp [hl]) (fun j x p hxj hpj=>by
    simp only[Array.toList_map,List.getElem?_map]at hpj
    cases hq:ps.toList[j]? with
    | none=>rw[hq]at hpj;cases hpj
    | some q =>
      rw[hq]at hpj
      injection hpj with hpj
      subst hpj
      have:=hx j x q hxj (by simpa using hq)
      exact⟨this.1,this.2,hval x (List.mem_of_getElem? hxj)⟩) (by rw[hz1,List.length_replicate]) (by rw[<- Sl.PY _ _ hb3]at hz2;exact hz2) hok1 hv1
  have hlen:(DL fet te (tyl te.cs) xs (List.replicate n (tyl te.cs).zero)).2.1.length=n:=by rw[f1,List.length_replicate]
  have hnn:n*te.cs.length<=16777216:=hb1
  have hnle:n<=16777216:=Nat.le_trans (Nat.le_mul_of_pos_right n hb2) hnn
  have hr:(execOp a.eval o).run P w= .ok (.value (.slice (some (at' w.heap.size 0)) n n)) (w.alloc (.cells vs' e)):=by
    have hbig: ¬(16777216<n*te.cs.length):=by omega
    simp only[execOp,ho,Sem.run_bind,Instr.buildSlice,run_underlying hu,Result.andThen_ok,hT.GL]
    rw[if_neg (by simpa using hbig)]
    by_cases h0:n*te.cs.length=0
    ·have hz0:(Array.range (n*te.cs.length)).map ((#[]:Array Value)[· % (#[]:Array Value).size]!)=zeros z (n*te.cs.length):=by simp [zeros,h0]
     simp only[if_pos h0,Sem.run_bind,Sem.run_pure,Result.andThen_ok,hz0,f2]
     rfl
    ·simp only[if_neg h0,Sem.run_bind,Sem.run_pure,Result.andThen_ok,zeroValue,typeInfo,run_program,h1,h4]
     have hz0:(Array.range (n*te.cs.length)).map (z.cells[· % z.cells.size]!)=zeros z (n*te.cs.length):=rfl
     rw[hz0,f2]
     rfl
  unfold Oper.wp
  rw[hr,Oper.upon_value,hd]
  have hfr':=(show EK st (b2 d)from Dv (hfr _ List.mem_cons_self)).frz hU
  obtain⟨O',m',h⟩:=KI hS1 (Moves.refl _ _ w) rfl (d:=d) (e:=e) (cap:=n) (frz:=false) (l:=⟨tyl te.cs,(DL fet te (tyl te.cs) xs (List.replicate n (tyl te.cs).zero)).2.1⟩) (del:=[]) (by rw[Sl.BC,hlen];exact Nat.le_refl _) (by unfold maxLen;omega) (by rw[f3,hz1];show _=_*(tyl te.cs).len;rw[Jj]) (by show Held _ _ _ (tyl te.cs).len _;rw[Jj];exact f4) hfr'
  rw[Sl.BC,hlen]at h
  refine hn O' m' _ _ ?_
  rw[LH hd]
  exact h
end
