import Derived.Test.YtmgpaalplkkpnaaGreatDoorA6
import Derived.Scope
import Derived.LoopN
import Derived.Tactics
set_option linter.all false
namespace Go.Proofs.YtmgpaalplkkpnaaGreatDoor.Vm
open Classical
section
variable {P:Program} {C:Ctx} {V0:Nat->Value} {O0 O:Own} {w0 w:World} {m:Nat->Value} {st:St} {a:Act} {o:Oper}
theorem Azb (Js:List (Nat×Obj)): ∀(l:List Nat) (q:Nat) (x:Obj),JA (fetch Js l) q=some x->JA Js q=some x:=by
 intro l
 induction l with
 | nil=>intro q x h;cases h
 | cons n r ih=>grind[fetch,JA,O6]
theorem Arl (a b:List (Nat×Obj)) (q:Nat):JA (a++b) q=match JA a q with | some x=>some x | none=>JA b q:=by
 induction a with
 | nil=>rfl
 | cons p r ih=>grind[O6]
theorem xU (st:St) (vs:List A):Pz st.Js (Kw st vs):=by intro q x h;grind[Kw,Arl,split,Azb]
theorem Aya {v:Value} {x:A} (h:JJ O st.Js m w v x) (hok:JE x.strip.1):JJ O st.Js m w v x.strip.2:=by
 cases x with
 | cnd g y =>have:=h.1 hok.cons.1;cases y<;>first | trivial | exact this | exact this.elim
 | _=>exact h
theorem Asr: ∀(xs:List A) (f:Nat->Value),(∀ j,j<xs.length->JJ O st.Js m w (f j) (xs.getD j .undef))->JE (strips xs).1 ->
 (strips xs).2.length=xs.length/\ ∀ j,j<xs.length->JJ O st.Js m w (f j) ((strips xs).2.getD j .undef):=by
 intro xs
 induction xs with
 | nil=>intro f _ _;exact⟨rfl,fun j hj=>by simp at hj⟩
 | cons x xs ih =>
  intro f h hok;simp only[strips]at hok ⊢;obtain⟨h1,h2⟩:=hok.append;obtain⟨g1,g2⟩:=ih (fun j=>f (j+1)) (fun j hj=>by simpa using h (j+1) (by simpa using hj)) h2;refine⟨by simp [g1],fun j hj=> ?_⟩;cases j with
  | zero=>grind[Aya]
  | succ j=>simpa using g2 j (by simpa using hj)
theorem A0z {v:Value} {x:A} (h:JJ O st.Js m w v x):JJ O st.Js m w v x.weak:=by
 cases x with
 | sln l =>
  have h':JC O w v (.sln l):=h;cases h' with
  | sln h _=>exact h
 | _=>exact h
theorem A0y (x:A):x.weak.ids=x.ids:=by cases x<;>rfl
theorem Ayf (xs:List A) (j:Nat):(xs.map A.weak).getD j .undef=(xs.getD j .undef).weak:=by simp only[Dj,EC];cases xs[j]? <;>rfl
theorem Afl (op:Op) (xs:List A):(∃ a b c,op= .pick a b c)\/Lm op xs=((strips xs).1,bif Acg op then(strips xs).2 else(strips xs).2.map A.weak):=by cases op<;>first | exact .inr rfl | exact .inl ⟨_,_,_,rfl⟩
theorem AaM {op:Op} {xs:List A} {f:Nat->Value} (h: ∀ j,j<xs.length->JJ O st.Js m w (f j) (xs.getD j .undef)) (hok:JE (Lm op xs).1) :
 (Lm op xs).2.length=xs.length/\ ∀ j,j<xs.length->JJ O st.Js m w (f j) ((Lm op xs).2.getD j .undef):=by
 rcases Afl op xs with ⟨x,y,z,rfl⟩ | he
 .exact⟨rfl,h⟩
 .rw[he]at hok ⊢;obtain⟨g1,g2⟩:=Asr xs f h hok;cases hb:Acg op with
  | true=>exact⟨g1,g2⟩
  | false =>refine⟨by simp [g1],fun j hj=> ?_⟩;show JJ O st.Js m w (f j) (((strips xs).2.map A.weak).getD j .undef);rw[Ayf];exact A0z (g2 j hj)
theorem AxZ {v:Value} {x:A} {i:Nat} (ht:JJ O st.Js m w v x) (hok:JE x.strip.1) (h:i∈x.strip.2.ids):i∈x.ids:=by
 cases x with
 | cnd g y =>have h1:=ht.1 hok.cons.1;cases y<;>first | exact h | exact h1.elim
 | _=>exact h
theorem AvA: ∀(xs:List A) (f:Nat->Value),(∀ j,j<xs.length->JJ O st.Js m w (f j) (xs.getD j .undef))->JE (strips xs).1-> ∀ x∈(strips xs).2,∀ i∈x.ids,∃ y∈xs,i∈y.ids:=by
 intro xs
 induction xs with
 | nil=>grind[strips]
 | cons z xs ih =>
  intro f h hok x hx i hi;simp only[strips]at hok hx;obtain⟨h1,h2⟩:=hok.append;rcases D7.1 hx with rfl | hx
  .exact⟨z,Dv,AxZ (h 0 (by simp)) h1 hi⟩
  .obtain⟨y,hy,hi'⟩:=ih (fun j=>f (j+1)) (fun j hj=>by simpa using h (j+1) (by simpa using hj)) h2 x hx i hi;exact⟨y,Dx _ hy,hi'⟩
theorem AcH {op:Op} {xs:List A} {f:Nat->Value} (h: ∀ j,j<xs.length->JJ O st.Js m w (f j) (xs.getD j .undef)) (hok:JE (Lm op xs).1): ∀ x∈(Lm op xs).2,∀ i∈x.ids,∃ y∈xs,i∈y.ids:=by
 rcases Afl op xs with ⟨x,y,z,rfl⟩ | he
 .exact fun x hx i hi=>⟨x,hx,hi⟩
 .rw[he]at hok ⊢;have g:=AvA xs f h hok;cases hb:Acg op with
  | true=>exact g
  | false =>intro x hx i hi;obtain⟨z,hz,rfl⟩:=DI.1 (show x∈(strips xs).2.map A.weak from hx);rw[A0y]at hi;exact g z hz i hi
theorem Auy {ops:Array Oper} {gd:Option (Nat×Bool)} (hS:Sim V0 O0 w0 O m st a w) (hgd:o.guard=gd) :
 (guardOf ops.toList st.tmps gd=some none->Region.wanted o (yielded ops a.tmps)=true) /\
 ∀ g,guardOf ops.toList st.tmps gd=some (some g)->Region.wanted o (yielded ops a.tmps)=g:=by
 cases gd with
 | none =>refine⟨fun _=>by unfold Region.wanted;rw[hgd],fun g h=>by simp [guardOf]at h⟩
 | some p =>
  obtain⟨j,want⟩:=p;unfold Region.wanted;rw[hgd];dsimp only
  have key: ∀ oj t,ops[j]? =some oj->oj.dst=some t->yielded ops a.tmps j=match a.tmps[t]? with | some (.bool b)=>some b | _=>none:=by
   intro oj t h1 h2;unfold yielded;have:(ops[j]?).bind (·.dst)=some t:=by rw[h1];exact h2
   rw[this];show(match a.tmps[t]? with | some (.bool b)=>some b | _=>none)=_;cases a.tmps[t]? with
   | none=>rfl
   | some v=>cases v<;>rfl
  unfold guardOf;have hop:ops.toList[j]? =ops[j]? :=by simp
  dsimp only;rw[hop];cases hj:ops[j]? with
  | none=>exact⟨fun h=>by simp at h,fun g h=>by simp at h⟩
  | some oj =>
   dsimp only;cases hd:oj.dst with
   | none=>exact⟨fun h=>by simp at h,fun g h=>by simp at h⟩
   | some t =>
    dsimp only;have ht:=hS.tmps t;rw[key oj t hj hd];cases hv:st.tmps.getD t .undef with
    | bool b =>
     refine⟨fun h=>by simp at h,fun g h=> ?_⟩;simp only[F8]at h
     have htl:t<st.tmps.length:=by
      rcases Ej t st.tmps.length with h | h
      .exact h
      .rw[Dj,Ed h]at hv;cases hv
     have:=ht htl;rw[hv]at this;have:=this.bool;have hts:t<a.tmps.size:=by rw[hS.size];exact htl
     rw[getD_eq hts,this,<- h];cases want<;>cases b<;>rfl
    | cnd g0 y =>
     cases y with
     | bool b =>
      refine⟨fun h=>by simp at h,fun g h=> ?_⟩;simp only[F8]at h
      have htl:t<st.tmps.length:=by
       rcases Ej t st.tmps.length with h | h
       .exact h
       .rw[Dj,Ed h]at hv;cases hv
      have:=ht htl;rw[hv]at this;have hts:t<a.tmps.size:=by rw[hS.size];exact htl
      rw[getD_eq hts,<- h];cases g0 with
      | true =>have h1:JC O w (a.tmps.getD t undef) (.bool b):=this.1 rfl;generalize a.tmps.getD t undef=z at h1;cases h1;cases want<;>cases b<;>rfl
      | false =>rw[this.2 rfl];simp [undef]
     | _=>exact⟨fun h=>by simp at h,fun g h=>by simp at h⟩
    | _=>exact⟨fun h=>by simp at h,fun g h=>by simp at h⟩
theorem Awm (v:Value):(ofConst v).ids=[]:=by
 have hc: ∀ u:Value,(Pn u).Nz=[]:=by intro u;unfold Pn;split<;>rfl
 have hc2: ∀ u:Value,(Pn u).ids=[]:=by intro u;unfold Pn;split<;>rfl
 unfold ofConst;split
 .rename_i vs;cases vs.toList.all Value.oneCell' with
  | false=>rfl
  | true =>show(vs.toList.map Pn).flatMap A.Nz=[];rw[Iz];intro x hx;obtain⟨u,_,rfl⟩:=DI.1 hx;exact hc u
 .exact hc2 v
theorem ArS {a b:A} (h:qM a b=true):Aas true a b=b/\Aas false a b=a:=by
 cases a<;>cases b<;>first | exact⟨rfl,rfl⟩ | exact(Bool.false_ne_true h).elim | skip
 case int.int k x k' y =>
  have e:k=k':=by cases k<;>cases k'<;>first | rfl | cases h
  subst e;exact⟨rfl,rfl⟩
 case sl.sl l l' =>
  obtain⟨t,xs⟩:=l;obtain⟨t',xs'⟩:=l';unfold qM Sl.cast at h;unfold Aas Sl.cast;dsimp only at h ⊢;cases hd:decEq t' t with
  | isTrue e=>subst e;exact⟨rfl,rfl⟩
  | isFalse e=>rw[hd]at h;cases h
 case sln.sln l l' =>
  obtain⟨t,xs⟩:=l;obtain⟨t',xs'⟩:=l';unfold qM Sl.cast at h;unfold Aas Sl.cast;dsimp only at h ⊢;cases hd:decEq t' t with
  | isTrue e=>subst e;exact⟨rfl,rfl⟩
  | isFalse e=>rw[hd]at h;cases h
 all_goals simp_all[qM,Aas]
theorem AmV: ∀ {aa bs:List A},okM aa bs=true->Amm true aa bs=bs/\Amm false aa bs=aa
 | [],[],_=>⟨rfl,rfl⟩
 | a::aa,b::bs,h=>by unfold okM at h;obtain⟨h1,h2⟩:=Bool.and_eq_true_iff.1 h;obtain⟨i1,i2⟩:=ArS h1;obtain⟨j1,j2⟩:=AmV h2;exact⟨by unfold Amm;rw[i1,j1],by unfold Amm;rw[i2,j2]⟩
 | [],_::_,h=>by cases h
 | _::_,[],h=>by cases h
theorem AgE {c:Bool} {x:Option Obj} {y:Obj} (h:qN c x y=true) :
 (Zx true x y=y/\ ∃ cs,x=some (.box cs)/\Zx false x y= .box cs)\/c=true/\ ∃ e f l l',x=some (.arr e f l)/\y= .arr e true l'/\ ∀ g,Zx g x y= .arr e true l:=by
 cases x with
 | none=>cases h
 | some x =>
  cases x with
  | box cs=>grind[AmV,okM,Obj,qN,Zx]
  | arr e f l =>
   cases y with
   | arr e' f' l' =>
    cases f' with
    | true=>simp_all[Obj,qN,Zx]
    | false=>cases h
   | _=>cases h
  | _=>cases h
def Closes (Js U:List (Nat×Obj)):Prop:= ∀ p∈U,(∃ cs,JA Js p.1=some (.box cs)/\p.2= .box cs)\/ ∃ e f l,JA Js p.1=some (.arr e f l)/\p.2= .arr e true l
theorem _root_.Go.Proofs.YtmgpaalplkkpnaaGreatDoor.Vm.Sim.AzW {objs':List (Nat×Obj)} (hS:Sim V0 O0 w0 O m st a w) (h: ∀ n,JA objs' n=JA st.Js n):Sim V0 O0 w0 O m {st with Js:=objs'} a w:=by
 have he:RN st.Js m objs' m (fun _=>False):=fun o x hx=>.inr ⟨x,by rw[<- h];exact hx,rfl,rfl⟩;have hp:N8 O w O w:=fun b k u h1 h2=>⟨h1,h2⟩
 refine⟨hS.defers,hS.size,fun t ht=>(hS.tmps t ht).step hp he (fun _ _=>id),fun o x hx=> ?_,hS.frame,hS.own,fun o x hx=>hS.ids o x (by rw[<- h];exact hx),hS.less,fun o ho hx=>hS.root o ho (by rw[<- h];exact hx),hS.y7,hS.inv⟩;have h0:=hS.Js o x (by rw[<- h];exact hx);cases x with
 | box cs =>obtain⟨b,base,h1,h2⟩:=h0;refine⟨b,base,h1,fun j hj=> ?_⟩;obtain⟨g1,g2,u,g3,g4⟩:=h2 j hj;exact⟨g1,g2,u,g3,g4.step hp he (fun _ _=>id)⟩
 | arr e f l=>exact h0
 | mp l=>exact h0
theorem _root_.Go.Proofs.YtmgpaalplkkpnaaGreatDoor.Vm.Sim.closes: ∀(U:List (Nat×Obj)) {O:Own} {st:St},Sim V0 O0 w0 O m st a w->Closes st.Js U-> ∃ O',Sim V0 O0 w0 O' m {st with Js:=JL st.Js U} a w:=by
 intro U
 induction U with
 | nil=>intro O st hS _;exact⟨O,hS⟩
 | cons p U ih =>
  intro O st hS h;obtain⟨n,y⟩:=p;have h0:=h (n,y) Dv
  have hrest:Closes (LM st.Js n y) U:=by
   intro q hq;have h1:=h q (Dx _ hq);rw[KA];by_cases hk:q.1=n
   .rw[Dn hk];rw[hk]at h1;rcases h0 with ⟨cs,g1,g2⟩ | ⟨e,f,l,g1,g2⟩
    .dsimp only at g1 g2;rw[g1]at h1;rcases h1 with ⟨cs',k1,k2⟩ | ⟨e',f',l',k1,k2⟩
     .injection k1 with k1;rw[<- k1]at k2;exact .inl ⟨cs,by rw[g2],k2⟩
     .cases k1
    .dsimp only at g1 g2;rw[g1]at h1;rcases h1 with ⟨cs',k1,k2⟩ | ⟨e',f',l',k1,k2⟩
     .cases k1
     .injection k1 with k1;injection k1 with q1 q2 q3;subst q1;subst q3;exact .inr ⟨e,true,l,by rw[g2],k2⟩
   .rw[Dk hk];exact h1
  show ∃ O',Sim V0 O0 w0 O' m {st with Js:=JL (LM st.Js n y) U} a w;rcases h0 with ⟨cs,g1,g2⟩ | ⟨e,f,l,g1,g2⟩
  .dsimp only at g1 g2
   have hS':Sim V0 O0 w0 O m {st with Js:=LM st.Js n y} a w:=hS.AzW fun k=>by
    rw[KA];by_cases hk:k=n
    .rw[Dn hk,hk,g1,g2]
    .rw[Dk hk]
   exact ih hS' hrest
  .dsimp only at g1 g2;obtain⟨O1,hS1,_⟩:=hS.freezes [(n,y)] (fun q hq=>by simp at hq;subst hq;exact⟨e,f,l,g1,g2⟩);exact ih hS1 hrest
def Kq (fet:Fet) (U:List (Nat×Obj)):Prop:= ∀ p∈U,∀ e f l,p.2= .arr e f l-> ∃ e' f',JA fet p.1=some (.arr e' f' l)/\f=true
theorem Kq.append {fet:Fet} {U V:List (Nat×Obj)} (h:Kq fet U) (h':Kq fet V):Kq fet (U++V):=fun p hp=>(DK.1 hp).elim (h p) (h' p)
theorem Kq.nil (fet:Fet):Kq fet []:=fun p hp=>by cases hp
theorem Kq.one {fet:Fet} {n e e0:Nat} {f:Bool} {l:Sl} (h:JA fet n=some (.arr e f l)):Kq fet [(n,.arr e0 true l)]:=by simp_all[Fet,JA,Kq]
theorem Kq.cons {fet:Fet} {n e e0:Nat} {f:Bool} {l:Sl} {U:List (Nat×Obj)} (h:JA fet n=some (.arr e f l)) (h':Kq fet U):Kq fet ((n,.arr e0 true l)::U):=(Kq.one h).append h'
theorem AjW (fet:Fet) (k:CK) (c:A):Kq fet (pur fet k c).2.2:=by
 unfold pur;split
 .split
  .rename_i h;exact .one h
  .exact .nil _
 .split<;>exact .nil _
 all_goals exact .nil _
theorem Asd (fet:Fet): ∀(ks:List CK) (cs:List A),Kq fet (KQ fet ks cs).2.2:=by
 intro ks
 induction ks with
 | nil=>intro cs;cases cs<;>exact .nil _
 | cons k ks ih=>intro cs;cases cs with
  | nil=>exact .nil _
  | cons c cs=>exact(AjW fet k c).append (ih cs)
theorem Uu (fet:Fet): ∀(ks:List (Bool×CK)) (cs:List A),Kq fet (JG fet ks cs).2.2.1:=by
 intro ks
 induction ks with
 | nil=>intro cs;cases cs<;>exact .nil _
 | cons k ks ih =>
  intro cs;obtain⟨u,k⟩:=k;cases cs with
  | nil=>cases u<;>cases k<;>exact .nil _
  | cons c cs =>
   cases u with
   | false=>exact(AjW fet k c).append (ih cs)
   | true =>
    cases k with
    | sl e t =>
     cases c with
     | own q =>
      simp only[JG];cases h:JA fet q with
      | none=>exact .nil _
      | some x =>
       cases x with
       | arr e' f l=>exact .cons h (ih cs)
       | _=>exact .nil _
     | LC=>exact ih cs
     | _=>exact .nil _
    | sln e t =>
     cases c with
     | own q =>
      simp only[JG];cases h:JA fet q with
      | none=>exact .nil _
      | some x =>
       cases x with
       | arr e' f l=>exact ih cs
       | _=>exact .nil _
     | LC=>exact ih cs
     | _=>exact .nil _
    | bx t =>
     cases c with
     | ptr q off =>
      simp only[JG];cases MB fet q with
      | none=>exact .nil _
      | some zs=>exact(Asd fet _ zs).append (ih cs)
     | _=>exact .nil _
    | _=>cases c<;>exact .nil _
theorem Ali (fet:Fet) (s:Sh) (x:A):Kq fet (JZ fet s x).upd:=by
 cases s with
 | cell u k =>
  have:=Uu fet [(u,k)] [x];unfold JZ;dsimp only;generalize JG fet [(u,k)] [x]=r at this ⊢;obtain⟨ok,cs,upd,del⟩:=r;cases cs with
  | nil=>exact .nil _
  | cons c cs=>cases cs with
   | nil=>exact this
   | cons _ _=>exact .nil _
 | agg ks=>cases x<;>first | exact .nil _ | exact Uu fet _ _
 | box ks =>
  cases x with
  | ptr q off =>
   unfold JZ;dsimp only;cases MB fet q with
   | none=>exact .nil _
   | some cs=>exact Uu fet _ _
  | _=>exact .nil _
 | clo f' ks =>
  cases x with
  | clo g q =>
   unfold JZ;dsimp only;cases MB fet q with
   | none=>exact .nil _
   | some cs=>exact Uu fet _ _
  | _=>exact .nil _
 | map kt vt =>
  cases x with
  | own q =>unfold JZ;dsimp only;split<;>exact .nil _
  | _=>exact .nil _
theorem Ajj (fet:Fet): ∀(ss:List Sh) (xs:List A),Kq fet (JS fet ss xs).2.2.1:=by
 intro ss
 induction ss with
 | nil=>intro xs;cases xs<;>exact .nil _
 | cons s ss ih =>
  intro xs;cases xs with
  | nil=>exact .nil _
  | cons x xs=>exact(Ali fet s x).append (ih xs)
theorem Ahc (fet:Fet) (rb:Nat->Nat) (rs:List A): ∀(bs:List (Nat×Sh)) (j:Nat),Kq fet (Ll rb rs bs j).2.1:=by
 intro bs
 induction bs with
 | nil=>intro j;exact .nil _
 | cons b bs ih =>
  intro j p hp;obtain⟨q,s⟩:=b;rcases D7.1 hp with rfl | hp
  .intro e f l he;cases s<;>cases he
  .exact ih (j+1) p hp
theorem oL (fet:Fet) (d:Nat) (sg:Sig) (xs:List A):Kq fet (QA fet d sg xs).upd :=
 (Ajj fet _ _).append (Ahc fet _ _ _ _)
theorem Yu {t:Nat} {k:TI->Dl} {fet:Fet} (h: ∀ ti,Kq fet (k ti).upd):Kq fet (MJ C t k).upd:=by
 unfold MJ Kv;cases C.T t with
 | none=>exact .nil _
 | some ti=>exact h ti
theorem Qz {α :Type} {o:Option α} {k: α ->Dl} {fet:Fet} (h: ∀ x,o=some x->Kq fet (k x).upd):Kq fet (Kv o k).upd:=by
 unfold Kv;cases o with
 | none=>exact .nil _
 | some x=>exact h x rfl
theorem Ya (fet:Fet) (t:Nat) (x:A) (lo hi:Option A):Kq fet (MZ C fet t x lo hi).upd:=by
 unfold MZ;refine Yu fun ti=> ?_;split
 .exact Qz fun _ _=>.nil _
 .exact Qz fun _ _=>Qz fun _ _=>Yu fun _=>.nil _
 .refine Qz fun r hr=>Qz fun _ _=>Qz fun _ _=>Yu fun _=> ?_;cases r.frz with
  | true=>exact .nil _
  | false=>exact .one (NZ hr)
 .exact .nil _
theorem Arz (fet:Fet) (d t:Nat) (x hi:A):Kq fet (AdB C fet d t x hi).upd:=by
 unfold AdB;refine Yu fun ti=> ?_;split
 .exact Qz fun _ _=>Qz fun _ _=>Qz fun _ _=>Yu fun _=>.nil _
 .exact .nil _
theorem AqP (fet:Fet) (t:Nat) (x h:A):Kq fet (Ach C fet t x h).upd:=by
 unfold Ach;refine Yu fun ti=> ?_;split
 .exact Qz fun _ _=>Qz fun _ _=>Qz fun _ _=>Yu fun _=>.nil _
 .exact .nil _
theorem ApJ {fet:Fet} (x:A) (j:Nat) {δ :Dl} (h:Kq fet δ.upd):Kq fet (Ux fet x j δ).upd:=by
 unfold Ux;split
 .split
  .rename_i q _ _ cs _;cases Nat.blt j cs.length&& δ.upd.all (fun p=> !(Nat.beq p.1 q)||Aj7 cs.length p.2)with
   | false=>exact h
   | true =>
    intro p hp e f l he;obtain⟨p0,hp0,rfl⟩:=DI.1 (show p∈ δ.upd.map _ from hp);cases hq:Nat.beq p0.1 q with
    | false=>rw[hq]at he;exact h p0 hp0 e f l he
    | true =>
     rw[hq]at he;obtain⟨n,y⟩:=p0;cases y with
     | box _=>cases he
     | arr e' f' l'=>exact h _ hp0 e f l he
     | mp _=>cases he
  .exact h
 .exact h
theorem ApK {fet:Fet} (xs:List A): ∀(ks:List (Nat×Nat)) {δ :Dl},Kq fet δ.upd->Kq fet (keepD fet xs ks δ).upd:=by
 intro ks
 induction ks with
 | nil=>intro δ h;exact h
 | cons k ks ih=>intro δ h;exact ih (ApJ _ _ h)
theorem Ai9 {fet:Fet} {xs:List A} (h:AaV o.op=true):Kq fet (opX C o xs fet).upd:=by
 obtain⟨dst,op,ty,pos,after,guard⟩:=o;cases op with
 | slice t x lo hi mx =>
  show Kq fet (slX C dst fet t lo hi mx xs).upd;unfold slX;split
  .unfold a1;split<;>first | exact Ya fet _ _ _ _ | exact .nil _
  .unfold a2;split
   .grind[split,has,Ya,AqP]
   .exact .nil _
  .unfold a2;split
   .grind[split,has,Ya,Arz]
   .exact .nil _
  .unfold a3;split<;>first | exact Ya fet _ _ _ _ | exact .nil _
  .exact .nil _
 | call c =>
  obtain⟨callee,args,ts⟩:=c;cases callee with
  | value fo =>
   cases fo with
   | func f =>
    cases xs with
    | nil=>exact .nil _
    | cons x xs =>
     show Kq fet (lY C fet (dst.getD 0) f xs).upd;unfold lY;cases C.G f with
     | none=>exact .nil _
     | some sg=>grind[ApK,oL]
   | tmp t =>
    cases xs with
    | nil=>exact .nil _
    | cons x xs =>
     show Kq fet (Apl C fet (dst.getD 0) t x xs).upd;unfold Apl;cases x with
     | fn n =>
      dsimp only;cases C.dyn t with
      | none=>exact .nil _
      | some F=>exact oL fet _ _ _
     | clo f q =>
      dsimp only;cases MB fet q with
      | none=>exact .nil _
      | some _ =>
       show Kq fet (match C.dyn t with | some sg=>QA fet (dst.getD 0) (sg f) (xs++[A.clo 0 q]) | none=>.no).upd;cases C.dyn t with
       | none=>exact .nil _
       | some F=>exact oL fet _ _ _
     | _=>exact .nil _
   | _=>cases h
  | _=>cases h
 | _=>cases h
theorem Akk (hC:OG P C) (hS:Sim V0 O0 w0 O m st a w) {ops:Array Oper} (hok:JE (KO C ops.toList o st).ok) (next:Act->World->Prop) (Q:Exit->Act->World->Prop)
 (hn: ∀ O' m' a' w',Sim V0 O0 w0 O' m' (apply st o (KO C ops.toList o st)) a' w'->next a' w') :
 if Region.wanted o (yielded ops a.tmps)then o.wp P a w next Q else next (a.put o.dst undef) w:=by
 have hx0: ∀ j,j<(o.op.operands.toList.map (Lj st.tmps)).length->JJ O st.Js m w (a.eval (o.op.operands.getD j (.tmp 0))) ((o.op.operands.toList.map (Lj st.tmps)).getD j .undef):=by
  intro j hj;have hj':j<o.op.operands.size:=by simpa using hj
  have e1:o.op.operands.getD j (.tmp 0)=o.op.operands[j]:=by rw[Du,DC hj'];rfl
  have e2:(o.op.operands.toList.map (Lj st.tmps)).getD j .undef=Lj st.tmps o.op.operands[j]:=by simp [Dj,hj']
  rw[e1,e2];exact Ahm hS _
 have hid0: ∀ y∈o.op.operands.toList.map (Lj st.tmps),∀ i∈y.ids,i∈st.ids:=by
  intro y hy i hi;obtain⟨x,_,rfl⟩:=DI.1 hy;cases x with
  | tmp t =>
   rcases Ej t st.tmps.length with h | h
   .exact qL h hi
   .have:Lj st.tmps (.tmp t)= .undef:=by simp [Lj,Dj,Ed h]
    rw[this]at hi;cases hi
  | const v=>have:Lj st.tmps (.const v)=ofConst v:=rfl
             rw[this,Awm]at hi;cases hi
  | global g =>
   have hi:i∈(A0k (Afm g)).ids:=hi;cases hg:Afm g with
   | none=>rw[hg]at hi;cases hi
   | some q=>rw[hg]at hi;cases hi
  | func f=>cases hi
 obtain⟨hg1,hg2⟩:=Auy (ops:=ops) (o:=o) hS rfl;have plain: ∀ pre,JE (TV C o st pre).ok->(∀ O' m' a' w',Sim V0 O0 w0 O' m' (apply st o (TV C o st pre)) a' w'->next a' w')->o.wp P a w next Q:=by intro pre hok hn;unfold TV at hok hn;dsimp only at hok hn;obtain⟨_,hok⟩:=hok.append;obtain⟨hokA,hokB⟩:=hok.append;obtain⟨hok1,hok2⟩:=hokA.append;obtain⟨hB1,hB2⟩:=hokB.cons;have hB2:=hB2.cons.1;obtain⟨hl,hx⟩:=AaM hx0 hok1;have hid:=AcH hx0 hok1;have hg:=Aqi hC hS (xU st _) (by rw[hl];simp) (fun j hj=>hx j (by rw[<- hl];exact hj)) (fun x hx' i hi=>by obtain⟨y,hy,hi'⟩:=hid x hx' i hi;exact .inl (hid0 y hy i hi')) hok2 (fun p hp=>(D8.1 hB1) p hp) hB2;exact hg next Q hn
 unfold KO at hok hn;cases hgo:guardOf ops.toList st.tmps o.guard with
 | none=>rw[hgo]at hok;exact(JR hok).elim
 | some r =>
  cases r with
  | none =>rw[hgo]at hok hn;rw[hg1 hgo,Dn rfl];exact plain _ hok hn
  | some g =>
   rw[hgo]at hok hn;rw[hg2 g hgo];dsimp only at hok hn;cases hde:Auc C o with
   | some b =>
    rw[hde]at hok hn;cases b with
    | true =>
     have hg:g=true:=by have:=hok;unfold TV at this;exact(this.append).1.cons.1
     subst hg;rw[Dn rfl];exact plain _ hok hn
    | false =>
     have hg:g=false:=by simpa using (show JE [!g]from hok).cons.1
     subst hg;rw[Dk (by simp)];exact hn O m _ _ (hS.put o.dst (x:=.cnd false .undef) ⟨fun h=>by(cases h),fun _=>rfl⟩)
   | none =>
   rw[hde]at hok hn;dsimp only at hok hn;obtain⟨hokA,hokB⟩:=hok.append;obtain⟨h1,hokB⟩:=hokB.cons;obtain⟨h3,hokB⟩:=hokB.cons;obtain⟨hdst,hmg⟩:=hokB.cons;generalize hxs:(Lm o.op (o.op.operands.toList.map (Lj st.tmps)))=sf at *
   generalize hδ :opX C o sf.2 (Kw st sf.2)= δ at *
   have hfet:=xU st sf.2;generalize hfe:Kw st sf.2=fet at *
   have e1: δ.new=[]:=by simpa using h1
   have e3: δ.del=[]:=by simpa using h3
   have hm2: ∀ p∈ δ.upd,qN (AaV o.op) (JA fet p.1) p.2=true:=fun p hp=>hmg _ (DI.2 ⟨p,hp,rfl⟩);cases g with
   | false =>
    rw[Dk (by simp)];have hS1:=hS.put o.dst (x:=.cnd false δ.val) ⟨fun h=>by(cases h),fun _=>rfl⟩
    obtain⟨O1,hS2⟩:=hS1.closes (δ.upd.map (fun p=>(p.1,Zx false (JA fet p.1) p.2))) (by
     intro q hq;obtain⟨p,hp,rfl⟩:=DI.1 hq;rcases AgE (hm2 p hp)with ⟨_,cs,h1,h2⟩ | ⟨_,e,f,l,l',h1,h2,h3⟩
     .exact .inl ⟨cs,hfet _ _ h1,h2⟩
     .exact .inr ⟨e,f,l,hfet _ _ h1,h3 false⟩)
    exact hn O1 m _ _ hS2
   | true =>
    rw[Dn rfl];have hokA':JE (sf.1++(δ.val.isVal:: δ.ok)):=by intro b hb;have:=hokA (b|| !true) (DI.2 ⟨b,hb,rfl⟩);simpa using this
    obtain⟨hok1,hok2⟩:=hokA'.append;obtain⟨hv,hok2⟩:=hok2.cons;rw[<- hxs]at hok1;obtain⟨hl,hx⟩:=AaM hx0 hok1;have hid:=AcH hx0 hok1;rw[hxs]at hl hx hid;have hg:=Aqi (xs:=sf.2) (fet:=fet) hC hS hfet (by rw[hl];simp) (fun j hj=>hx j (by rw[<- hl];exact hj)) (fun x hx' i hi=>by obtain⟨y,hy,hi'⟩:=hid x hx' i hi;exact .inl (hid0 y hy i hi')) (by rw[hδ];exact hok2) (fun p hp=>by rw[hδ,e1]at hp;cases hp) (by rw[hδ,e1];rfl);rw[hδ]at hg;refine hg next Q (fun O' m' a' w' h=>hn O' m' a' w' ?_)
    have eu: δ.upd.map (fun p=>(p.1,Zx true (JA fet p.1) p.2))= δ.upd:=by
     conv=>rhs;rw[<- Gp δ.upd]
     refine E5 fun p hp=> ?_;rcases AgE (hm2 p hp)with ⟨h1,_⟩ | ⟨hc,e,f,l,l',h1,h2,h3⟩
     .rw[h1];rfl
     .have hcl:=Ai9 (C:=C) (fet:=fet) (xs:=sf.2) hc;rw[hδ]at hcl;obtain⟨e',f',h4,_⟩:=hcl p hp _ _ _ h2;rw[h1]at h4;injection h4 with h4;injection h4 with q1 q2 q3;rw[h3 true,q3,<- h2];rfl
    have ea:apply st o δ = {tmps:=put st.tmps o.dst δ.val,Js:=JL st.Js δ.upd}:=by unfold apply;rw[e1,e3];rfl
    rw[ea]at h;have eb: ∀ ok,apply st o {ok:=ok,val:=.cnd true δ.val,upd:= δ.upd.map (fun p=>(p.1,Zx true (JA fet p.1) p.2))}= {tmps:=put st.tmps o.dst (.cnd true δ.val),Js:=JL st.Js δ.upd}:=by intro ok;unfold apply;dsimp only;rw[eu];rfl
    rw[eb];refine⟨h.defers,by have:=h.size;dsimp only at this ⊢;rw[ZQ]at this ⊢;exact this,fun t ht=> ?_,h.Js,h.frame,h.own,h.ids,h.less,h.root,h.y7,h.inv⟩;have ht':t<st.tmps.length:=by have ht2:t<(put st.tmps o.dst (.cnd true δ.val)).length:=ht;rw[ZQ]at ht2;exact ht2
    have:=h.tmps t (by show t<(put st.tmps o.dst δ.val).length;rw[ZQ];exact ht');dsimp only at this ⊢;rw[AhO _ _ _ _ ht']at this;rw[AhO _ _ _ _ ht'];by_cases hd:o.dst=some t
    .rw[Dn hd]at this ⊢;exact⟨fun _=>this.A3O hv,fun h=>by(cases h)⟩
    .rw[Dk hd]at this ⊢;exact this
end
section
variable {P:Program} {C:Ctx} {V0:Nat->Value} {O0 O:Own} {w0 w:World} {m:Nat->Value} {st:St} {a:Act}
theorem Arm (p:Nat->Bool) (l:List (Nat×Obj)) (k:Nat):JA (l.filter (fun q=>p q.1)) k=if p k then JA l k else none:=by
 induction l with
 | nil=>simp [JA]
 | cons q r ih=>grind[O6]
theorem Ayw (g:Obj->Obj) (l:List (Nat×Obj)) (k:Nat):JA (l.map (fun q=>(q.1,g q.2))) k=(JA l k).map g:=by
 induction l with
 | nil=>rfl
 | cons q r ih=>grind[O6]
theorem drop_length (keep:List Nat): ∀(l:List A) (i:Nat),(drop keep l i).length=l.length:=by
 intro l
 induction l with
 | nil=>intro i;rfl
 | cons x r ih=>intro i;simp [drop,ih]
theorem Aw2 (keep:List Nat): ∀(l:List A) (i t:Nat),(drop keep l i).getD t .undef= .undef\/(drop keep l i).getD t .undef=l.getD t .undef:=by
 intro l
 induction l with
 | nil=>grind[drop]
 | cons x r ih =>
  intro i t;cases t with
  | zero=>grind[drop,has]
  | succ t=>simp_all[drop]
theorem Sim.dropped (hS:Sim V0 O0 w0 O m st a w) (keep Js:List Nat):Sim V0 O0 w0 O m {tmps:=drop keep st.tmps 0,Js:=st.Js.filter (fun p=>has Js p.1)} a w:=by
 have hag: ∀ o x,JA (st.Js.filter (fun p=>has Js p.1)) o=some x->JA st.Js o=some x:=by
  intro o x h;rw[Arm (has Js)]at h;split at h
  .exact h
  .cases h
 have hE:RN st.Js m (st.Js.filter (fun p=>has Js p.1)) m (fun _=>False):=fun o x h=>.inr ⟨x,hag o x h,rfl,rfl⟩;have hp:N8 O w O w:=fun _ _ _ h hc=>⟨h,hc⟩
 refine⟨hS.defers,by rw[hS.size];exact(drop_length _ _ _).symm,fun t ht=> ?_,fun o x h=> ?_,hS.frame,hS.own,fun o x h=>hS.ids o x (hag o x h),hS.less,fun o hr ho=>(by obtain⟨x,hx⟩:=EY.1 ho;exact hS.root o hr (by rw[hag o x hx];rfl)),hS.y7,hS.inv⟩
 .have ht':t<st.tmps.length:=by
   all_goals grind[drop,drop_length]
  show JJ O _ m w _ ((drop keep st.tmps 0).getD t .undef);rcases Aw2 keep st.tmps 0 t with h | h
  .rw[h];trivial
  .rw[h];exact(hS.tmps t ht').step hp hE (fun _ _ h=>h)
 .exact(hS.Js o x (hag o x h)).step (T:=fun _=>False) (Moves.refl O _ w) ⟨fun _ _ _ h=>h,fun _ _ _ _ h _=>h⟩ hE id rfl (fun _ _ h=>h)
def rho (f t o:Nat):Nat:=if o=f then t else o
theorem iZ (f t o:Nat):(bif Nat.beq o f then t else o)=rho f t o:=by grind[Xl,rho]
def Q4 (f t:Nat):A->A
 | .ptr o off=>.ptr (rho f t o) off
 | .own o=>.own (rho f t o)
 | .clo g o=>.clo g (rho f t o)
 | .bsl o n=>.bsl (rho f t o) n
 | .osl o n=>.osl (rho f t o) n
 | .Kt o i off=>.Kt (rho f t o) i off
 | c=>c
theorem AzT (f t:Nat) (cs:List A):OI f t (.agg cs)= .agg (cs.map (Q4 f t)):=by show A.agg (cs.map _)=_;congr 1;refine E5 fun c _=> ?_;all_goals grind[Q4,iZ]
theorem A31 (f t:Nat) (c:A):(∃ cs,c= .agg cs)\/OI f t c=Q4 f t c:=by cases c<;>first | exact .inl ⟨_,rfl⟩ | exact .inr rfl | (right;simp only[Q4,OI,iZ])
structure Ren (O:Own) (Js:List (Nat×Obj)) (m:Nat->Value) (f t:Nat) (O':Own) (objs':List (Nat×Obj)) (m':Nat->Value):Prop where
 here: ∀ x',JA objs' t=some x'-> ∃ x,JA Js f=some x/\x.shp=x'.shp/\m' t=m f
 there: ∀ o x',o≠t->JA objs' o=some x'->o≠f/\ ∃ x,JA Js o=some x/\x.shp=x'.shp/\m' o=m o
 own: ∀ b k,O' b k=(O b k).map (rho f t)
theorem Ren.Kr {O':Own} {Js objs':List (Nat×Obj)} {m':Nat->Value} {f t:Nat} (h:Ren O Js m f t O' objs' m'):N8 O w O' w:=by intro b k u hn hc;exact⟨by rw[h.own,hn];rfl,hc⟩
theorem JO.ren {O':Own} {Js objs':List (Nat×Obj)} {m':Nat->Value} {f t:Nat} (h:Ren O Js m f t O' objs' m') {v:Value} {c:A} (hn: ∀ i∈c.Nz,i=t->f=t) (hc:JO O Js m w v c) :
 JO O' objs' m' w v (Q4 f t c):=by
 have key: ∀ o,(o=t->f=t)-> ∀ x',JA objs' (rho f t o)=some x'-> ∃ x,JA Js o=some x/\x.shp=x'.shp/\m' (rho f t o)=m o:=by
  intro o ho x' hx;unfold rho at hx ⊢;by_cases hf:o=f
  .rw[Dn hf]at hx ⊢;rw[hf];exact h.here x' hx
  .rw[Dk hf]at hx ⊢;exact(h.there o x' (fun e=>hf (by rw[e,ho e])) hx).2
 cases c with
 | ptr o off =>
  simp only[JO,Q4]at *
  refine⟨hc.1,?_⟩;have hc:=hc.2;cases hx:JA objs' (rho f t o)with
  | none=>simp
  | some x' =>obtain⟨x,h1,h2,h3⟩:=key o (hn o (by simp [A.Nz])) x' hx;rw[h1]at hc;simp only[Option.map_some,h2]at hc;simp only[Option.map_some,h3];exact hc
 | own o =>
  simp only[JO,Q4]at *
  refine⟨hc.1,?_⟩;have hc:=hc.2;cases hx:JA objs' (rho f t o)with
  | none=>simp
  | some x' =>obtain⟨x,h1,h2,h3⟩:=key o (hn o (by simp [A.Nz])) x' hx;rw[h1]at hc;simp only[Option.map_some,h2]at hc;simp only[Option.map_some,h3];exact hc
 | clo k o =>
  simp only[JO,Q4]at *
  obtain⟨h0,p,h4,h5,hc⟩:=hc;refine⟨h0,p,h4,h5.Kr h.Kr,?_⟩;cases hx:JA objs' (rho f t o)with
  | none=>simp
  | some x' =>obtain⟨x,h1,h2,h3⟩:=key o (hn o (by simp [A.Nz])) x' hx;rw[h1]at hc;simp only[Option.map_some,h2]at hc;simp only[Option.map_some,h3];exact hc
 | bsl o n =>
  simp only[JO,Q4]at *
  refine⟨hc.1,?_⟩;have hc:=hc.2;cases hx:JA objs' (rho f t o)with
  | none=>simp
  | some x' =>obtain⟨x,h1,h2,h3⟩:=key o (hn o (by simp [A.Nz])) x' hx;rw[h1]at hc;simp only[Option.map_some,h2]at hc;simp only[Option.map_some,h3];exact hc
 | osl o n =>
  simp only[JO,Q4]at *
  refine⟨hc.1,?_⟩;have hc:=hc.2;cases hx:JA objs' (rho f t o)with
  | none=>simp
  | some x' =>obtain⟨x,h1,h2,h3⟩:=key o (hn o (by simp [A.Nz])) x' hx;rw[h1]at hc;simp only[Option.map_some,h2]at hc;simp only[Option.map_some,h3];exact hc
 | Kt o i off =>
  simp only[JO,Q4]at *
  refine⟨hc.1,?_⟩;have hc:=hc.2;cases hx:JA objs' (rho f t o)with
  | none=>simp
  | some x' =>obtain⟨x,h1,h2,h3⟩:=key o (hn o (by simp [A.Nz])) x' hx;rw[h1]at hc;simp only[Option.map_some,h2]at hc;simp only[Option.map_some,h3];exact hc
 | elt cs =>obtain⟨b,off,hv,hc⟩:=hc;refine⟨b,off,hv,fun j hj=> ?_⟩;obtain⟨h1,u,h2,h3⟩:=hc j hj;obtain⟨h4,h5⟩:=h.Kr _ _ _ h1 h2;exact⟨h4,u,h5,h3.Kr h.Kr⟩
 | fn f=>exact JC.Kr h.Kr hc
 | ump _=>exact hc
 | undef=>exact hc
 | LC=>exact hc
 | bool b=>exact JC.Kr h.Kr hc
 | int k n=>exact JC.Kr h.Kr hc
 | str s=>exact JC.Kr h.Kr hc
 | sl l=>exact JC.Kr h.Kr hc
 | sln l=>exact JC.Kr h.Kr hc
 | Me=>exact JC.Kr h.Kr hc
 | usl _ _ _=>exact hc
 | agg _=>exact hc
 | tup _=>exact hc
 | box _=>exact hc
 | cbx _ _=>exact hc
 | cnd _ _=>exact hc
theorem Ren.exts {O':Own} {Js objs':List (Nat×Obj)} {m':Nat->Value} {f t:Nat} (h:Ren O Js m f t O' objs' m'):RN Js m objs' m' (fun o=>o=t/\f≠t):=by
 intro o x' hx;by_cases ho:o=t
 .subst ho;by_cases hf:f=o
  .right;obtain⟨x,h1,h2,h3⟩:=h.here x' hx;rw[hf]at h1 h3;exact⟨x,h1,h2,h3⟩
  .exact .inl ⟨rfl,hf⟩
 .exact .inr (h.there o x' ho hx).2
theorem JJ.ren {O':Own} {Js objs':List (Nat×Obj)} {m':Nat->Value} {f t:Nat} (h:Ren O Js m f t O' objs' m') {v:Value} {c:A} (hn: ∀ i∈c.ids,i=t->f=t) (hc:JJ O Js m w v c) :
 JJ O' objs' m' w v (OI f t c):=by
 cases c with
 | agg cs =>
  rw[AzT];obtain⟨vs,h1,h2,h3⟩:=hc;refine⟨vs,h1,by simpa using h2,fun j hj=> ?_⟩;have hj':j<cs.length:=by simpa using hj
  have e:(cs.map (Q4 f t)).getD j .undef=Q4 f t (cs.getD j .undef):=by simp [Dj,hj']
  rw[e];exact(h3 j hj').ren h (fun i hi=>hn i (UA (f:=A.Nz) hj' hi))
 | tup l=>exact JJ.step h.Kr h.exts (fun o ho hN=>hN.2 (hn o ho hN.1)) hc
 | cnd g c=>exact JJ.step h.Kr h.exts (fun o ho hN=>hN.2 (hn o ho hN.1)) hc
 | undef=>trivial
 | ptr o off =>
  have e:OI f t (.ptr o off)=Q4 f t (.ptr o off):=by simp only[Q4,OI,iZ]
  rw[e];exact JO.ren (w:=w) (m:=m) (c:=.ptr o off) h hn hc
 | own o =>
  have e:OI f t (.own o)=Q4 f t (.own o):=by simp only[Q4,OI,iZ]
  rw[e];exact JO.ren (w:=w) (m:=m) (c:=.own o) h hn hc
 | clo g o =>
  have e:OI f t (.clo g o)=Q4 f t (.clo g o):=by simp only[Q4,OI,iZ]
  rw[e];exact JO.ren (w:=w) (m:=m) (c:=.clo g o) h hn hc
 | bsl o n =>
  have e:OI f t (.bsl o n)=Q4 f t (.bsl o n):=by simp only[Q4,OI,iZ]
  rw[e];exact JO.ren (w:=w) (m:=m) (c:=.bsl o n) h hn hc
 | osl o n =>
  have e:OI f t (.osl o n)=Q4 f t (.osl o n):=by simp only[Q4,OI,iZ]
  rw[e];exact JO.ren (w:=w) (m:=m) (c:=.osl o n) h hn hc
 | Kt o i off =>
  have e:OI f t (.Kt o i off)=Q4 f t (.Kt o i off):=by simp only[Q4,OI,iZ]
  rw[e];exact JO.ren (w:=w) (m:=m) (c:=.Kt o i off) h hn hc
 | bool b=>exact JO.ren (w:=w) (m:=m) (c:=.bool b) h hn hc
 | int k n=>exact JO.ren (w:=w) (m:=m) (c:=.int k n) h hn hc
 | str s=>exact JO.ren (w:=w) (m:=m) (c:=.str s) h hn hc
 | sl l=>exact JO.ren (w:=w) (m:=m) (c:=.sl l) h hn hc
 | sln l=>exact JO.ren (w:=w) (m:=m) (c:=.sln l) h hn hc
 | LC=>exact JO.ren (w:=w) (m:=m) (c:=.LC) h hn hc
 | Me=>exact JO.ren (w:=w) (m:=m) (c:=.Me) h hn hc
 | elt cs=>exact JO.ren (w:=w) (m:=m) (c:=.elt cs) h hn hc
 | fn g=>exact JO.ren (w:=w) (m:=m) (c:=.fn g) h hn hc
 | ump _=>exact hc
 | usl _ _ _=>exact hc
 | box _=>exact hc
 | cbx _ _=>exact hc
theorem JO.OI {O':Own} {Js objs':List (Nat×Obj)} {m':Nat->Value} {f t:Nat} (h:Ren O Js m f t O' objs' m') {v:Value} {c:A} (hn: ∀ i∈c.Nz,i=t->f=t) (hc:JO O Js m w v c) :
 JO O' objs' m' w v (Vm.OI f t c):=by
 rcases A31 f t c with ⟨cs,rfl⟩ | e
 .exact hc.elim
 .rw[e];exact hc.ren h hn
theorem Lt.ren {O':Own} {Js objs':List (Nat×Obj)} {m':Nat->Value} {f t:Nat} (h:Ren O Js m f t O' objs' m') {o:Nat} {x:Obj} (hm:m' (rho f t o)=m o) (hn: ∀ i∈x.ids,i=t->f=t) (hx:Lt O Js m w o x) :
 Lt O' objs' m' w (rho f t o) (Afa f t x):=by
 cases x with
 | box cs =>
  obtain⟨b,base,h1,h2⟩:=hx;refine⟨b,base,by rw[hm];exact h1,fun j hj=> ?_⟩;have hj':j<cs.length:=by simpa using hj
  obtain⟨h3,h4,u,h5,h6⟩:=h2 j hj';refine⟨by rw[h.own,h3];rfl,h4,u,h5,?_⟩;have e:(cs.map (Vm.OI f t)).getD j .undef=Vm.OI f t (cs.getD j .undef):=by simp [Dj,hj']
  rw[e];exact h6.OI h (fun i hi=>hn i (UA (f:=A.Nz) hj' hi))
 | arr e frz l =>
  obtain⟨h0,hx⟩:=hx;refine⟨h0,?_⟩;rcases hx with ⟨h1,h2,h3⟩ | ⟨h1,g,cap,cur,h2,h3,h4,h5,h6,h7,h8,h9⟩
  .exact .inl ⟨h1,h2,by rw[hm];exact h3⟩
  .refine .inr ⟨h1,g,cap,cur,by rw[hm];exact h2,h3,h4,h5,h6,fun i j hi hj=> ?_,fun k hk hge=> ?_,fun k hk=> ?_⟩
   .obtain⟨u,h10,h11⟩:=h7 i j hi hj;exact⟨u,h10,h11.Kr h.Kr⟩
   .rw[h.own,h8 k hk hge];rfl
   .rw[h.own,h9 k hk];cases frz<;>rfl
 | mp l =>
  obtain⟨r,es,ck,h1,h2,h3,h4,h5⟩:=(show PD O w o (m o) l from hx)
  refine(⟨r,es,ck,by rw[hm];exact h1,h2,by rw[h.own,h3];rfl,h4,fun i p hi=> ?_⟩:PD O' w (rho f t o) (m' (rho f t o)) l);obtain⟨e,k1,k2,k3⟩:=h5 i p hi;exact⟨e,k1,k2.Kr h.Kr,k3.Kr h.Kr⟩
theorem Sim.renamed (hS:Sim V0 O0 w0 O m st a w) {f t:Nat} {x:Obj} (hf:JA st.Js f=some x) (ht:f=t\/Qe st t) :
 ∃ O' m',Sim V0 O0 w0 O' m' {tmps:=st.tmps.map (OI f t),Js:=(LM (TF st.Js f) t x).map (fun p=>(p.1,Afa f t p.2))} a w:=by
 have hag: ∀ o,JA ((LM (TF st.Js f) t x).map (fun p=>(p.1,Afa f t p.2))) o=(if o=t then some x else if o=f then none else JA st.Js o).map (Afa f t):=by intro o;rw[Ayw,KA,uG]
 have hshp: ∀ y,(Afa f t y).shp=y.shp:=by intro y;cases y<;>rfl
 have h255:f≠255:=hS.ids f x hf
 have hR:Ren O st.Js m f t (fun b k=>(O b k).map (rho f t)) ((LM (TF st.Js f) t x).map (fun p=>(p.1,Afa f t p.2))) (fun o=>if o=t then m f else m o):=by
  refine⟨fun x' hx=> ?_,fun o x' ho hx=> ?_,fun _ _=>rfl⟩
  .rw[hag,Dn rfl]at hx;simp only[Option.map_some,F8]at hx;exact⟨x,hf,by rw[<- hx,hshp],Dn rfl⟩
  .rw[hag,Dk ho]at hx;by_cases hof:o=f
   .rw[Dn hof]at hx;cases hx
   .rw[Dk hof]at hx;cases hy:JA st.Js o with
    | none=>rw[hy]at hx;cases hx
    | some y =>rw[hy]at hx;simp only[Option.map_some,F8]at hx;exact⟨hof,y,rfl,by rw[<- hx,hshp],Dk ho⟩
 have hids: ∀ i∈st.ids,i=t->f=t:=by
  intro i hi he;rcases ht with h | h
  .exact h
  .exact absurd (he▸hi) h.ids
 have hmr: ∀ o,(o=t->f=t)->(fun o=>if o=t then m f else m o) (rho f t o)=m o:=by all_goals grind[rho]
 refine⟨(fun b k=>(O b k).map (rho f t)),(fun o=>if o=t then m f else m o),hS.defers,by rw[hS.size];simp,fun i hi=> ?_,fun o y hy=> ?_,hS.frame,fun b k o hb ho hne=> ?_,fun o y hy=> ?_,fun b k hb h=>hS.less b k hb (fun e=>h (by show(O b k).map _=none;rw[e];rfl)),fun o hr ho=> ?_,fun b k hb h=>by show(O b k).map (rho f t)=_;rw[hS.y7 b k hb h];exact congrArg some (Dk (fun e=>h255 e.symm)),hS.inv⟩
 .have hi':i<st.tmps.length:=by simpa using hi
  have e:(st.tmps.map (OI f t)).getD i .undef=OI f t (st.tmps.getD i .undef):=by simp [Dj,hi']
  show JJ _ _ _ _ _ ((st.tmps.map (OI f t)).getD i .undef);rw[e];exact(hS.tmps i hi').ren hR (fun j hj=>hids j (qL hi' hj))
 .have hy':=hy;dsimp only at hy;rw[hag]at hy;by_cases h1:o=t
  .rw[Dn h1]at hy;simp only[Option.map_some,F8]at hy;subst hy;have:=(hS.Js f x hf).ren hR (hmr f (fun e=>e)) (fun i hi=>hids i (Zw hf hi));have e:rho f t f=t:=Dn rfl;rw[e]at this;rw[h1];exact this
  .rw[Dk h1]at hy;by_cases h2:o=f
   .rw[Dn h2]at hy;cases hy
   .rw[Dk h2]at hy;cases hz:JA st.Js o with
    | none=>rw[hz]at hy;cases hy
    | some z =>rw[hz]at hy;simp only[Option.map_some,F8]at hy;subst hy;have:=(hS.Js o z hz).ren hR (hmr o (fun e=>absurd e h1)) (fun i hi=>hids i (Zw hz hi));have e:rho f t o=o:=Dk h2;rw[e]at this;exact this
 .cases hq:O b k with
  | none =>have:(O b k).map (rho f t)=some o:=ho;rw[hq]at this;cases this
  | some o1 =>have:(O b k).map (rho f t)=some o:=ho;rw[hq]at this;simp only[Option.map_some,F8]at this;refine hS.own b k o1 hb hq (fun e=>hne ?_);rw[<- this,e];exact Dk (fun e=>h255 e.symm)
 .dsimp only at hy;rw[hag]at hy;by_cases h1:o=t
  .rw[h1];rcases ht with h | h
   .rw[<- h];exact h255
   .exact h.ne
  .rw[Dk h1]at hy;by_cases h2:o=f
   .rw[h2];exact h255
   .rw[Dk h2]at hy;cases hz:JA st.Js o with
    | none=>rw[hz]at hy;cases hy
    | some z=>exact hS.ids o z hz
 .dsimp only at ho ⊢;rw[hag]at ho;by_cases h1:o=t
  .rw[Dn h1];rcases ht with h | h
   .rw[h1,<- h];exact hS.root f (by rw[h,<- h1];exact hr) (by rw[hf];rfl)
   .rw[h1,h.root]at hr;cases hr
  .rw[Dk h1]at ho ⊢;by_cases h2:o=f
   .rw[Dn h2]at ho;cases ho
   .rw[Dk h2]at ho;refine hS.root o hr ?_;cases hz:JA st.Js o with
    | none=>rw[hz]at ho;cases ho
    | some z=>rfl
theorem Avv: ∀(l:List (Nat×Nat)) {O:Own} {m:Nat->Value} {st:St},Sim V0 O0 w0 O m st a w->(Afb st l).1=true-> ∃ O' m',Sim V0 O0 w0 O' m' (Afb st l).2 a w:=by
 intro l
 induction l with
 | nil=>intro O m st hS _;exact⟨O,m,hS⟩
 | cons p r ih =>
  intro O m st hS h;obtain⟨f,t⟩:=p;simp only[Afb]at h ⊢;cases hx:JA st.Js f with
  | none=>rw[hx]at h;exact ih hS h
  | some x =>
   rw[hx]at h;dsimp only at h ⊢;rw[Dq,Xl]at h
   obtain⟨O1,m1,hS1⟩:=hS.renamed (t:=t) hx (by
    by_cases hft:f=t
    .exact .inl hft
    .have h1:=h.1;rw[show decide (f=t)=false by simpa using hft]at h1;exact .inr (N9 h1))
   exact ih hS1 h.2
theorem Auv: ∀(l:List Nat) {O:Own} {st:St},Sim V0 O0 w0 O m st a w-> ∃ O',Sim V0 O0 w0 O' m {st with Js:=Ap1 st.Js l} a w:=by
 intro l
 induction l with
 | nil=>intro O st hS;exact⟨O,hS⟩
 | cons n r ih =>
  intro O st hS;simp only[Ap1];cases hx:JA st.Js n with
  | none=>exact ih hS
  | some x =>
   cases x with
   | mp _=>exact ih hS
   | box cs=>exact ih hS
   | arr e f l =>obtain⟨O1,hS1,_⟩:=hS.Aae hx;exact ih hS1
theorem AbI {t:Nat} {v:Value} (hs:a.tmps.getD t undef=v) (hlt:t<a.tmps.size):a.put (some t) v=a:=by
 have:a.tmps.setIfInBounds t v=a.tmps:=by apply Array.ext_getElem?;intro i;rw[Fg];by_cases hi:t=i;all_goals simp_all[getD_eq,hs]
 simp only[Act.put,this]
theorem Axd {x:A} (h:Aao x=true):x= .LC:=by cases x<;>first | rfl | cases h
theorem Av2 {id:Nat}: ∀(ts:List Nat) {O:Own} {m:Nat->Value} {st:St},Sim V0 O0 w0 O m st a w->(∀ t∈ts,t<st.tmps.length)->(∀ t∈ts,JO O st.Js m w (a.tmps.getD t undef) (.own id)) ->
 Sim V0 O0 w0 O m {st with tmps:=Afe id ts st.tmps} a w:=by
 intro ts
 induction ts with
 | nil=>intro O m st hS _ _;exact hS
 | cons t r ih =>intro O m st hS hl hc;have hlt:=hl t Dv;have h1:=hS.put (some t) (x:=.own id) (v:=a.tmps.getD t undef) ((hc t Dv).toT);rw[AbI rfl (by rw[hS.size];exact hlt)]at h1;exact ih (st:= {st with tmps:=st.tmps.set t (.own id)}) h1 (fun q hq=>by simpa using hl q (Dx _ hq)) (fun q hq=>hc q (Dx _ hq))
theorem Avm: ∀(l:List (List Nat×Nat×Ty×Nat)) {O:Own} {m:Nat->Value} {st:St},Sim V0 O0 w0 O m st a w->(owns l st).1=true-> ∃ O' m',Sim V0 O0 w0 O' m' (owns l st).2 a w:=by
 intro l
 induction l with
 | nil=>intro O m st hS _;exact⟨O,m,hS⟩
 | cons p r ih =>
  intro O m st hS h;obtain⟨ts,e,ty,id⟩:=p;unfold owns at h ⊢;cases hany:ts.any (fun t=>Aao (st.tmps.getD t .undef))with
  | false=>rw[hany]at h;exact ih hS h
  | true =>
   rw[hany]at h;simp only[cond_true]at h ⊢;rw[Dq,Dq]at h;obtain⟨⟨h1,h2⟩,h3⟩:=h;have hall: ∀ t∈ts,st.tmps.getD t .undef= .LC/\t<st.tmps.length:=by all_goals grind[Axd]
   have hval: ∀ t∈ts,a.tmps.getD t undef= .slice none 0 0:=by intro t ht;have hv:=hS.tmps t (hall t ht).2;rw[(hall t ht).1]at hv;exact hv
   cases ts with
   | nil=>cases hany
   | cons t ts =>
    have hlt:=(hall t Dv).2;obtain⟨O',m',hS'⟩:=Ab8 hS (d:=t) (e:=e) (t:=ty) (frz:=false) (del:=[]) (N9 h2);rw[AbI (hval t Dv) (by rw[hS.size];exact hlt)]at hS';have hslot:=hS'.tmps t (by simpa using hlt);have e0:(st.tmps.set t (.own id)).getD t .undef= .own id:=by simp [Dj,hlt]
    rw[e0,hval t Dv]at hslot;have hfin:=Av2 (a:=a) ts hS' (fun q hq=>by simpa using (hall q (Dx _ hq)).2) (fun q hq=>by rw[hval q (Dx _ hq)];exact hslot);exact ih hfin h3
theorem AxK: ∀(l:List (Option Nat×Nat×Ty)) {O:Own} {st:St},Sim V0 O0 w0 O m st a w-> ∃ O',Sim V0 O0 w0 O' m (pzs l st) a w:=by
 intro l
 induction l with
 | nil=>intro O st hS;exact⟨O,hS⟩
 | cons p r ih =>
  intro O st hS;obtain⟨b,j,ty⟩:=p;cases b with
  | none =>
   unfold pzs;cases hx:st.tmps.getD j .undef with
   | LC =>
    dsimp only
    have hlt:j<st.tmps.length:=by
     rcases Ej j st.tmps.length with h | h
     .exact h
     .rw[Dj,Ed h]at hx;cases hx
    have hc:=hS.tmps j hlt;rw[hx]at hc;have hc:a.tmps.getD j undef= .slice none 0 0:=hc;have h2:=hS.put (some j) (x:=.sl ⟨ty,[]⟩) (v:=a.tmps.getD j undef) (by rw[hc];exact JC.nil ty);rw[AbI rfl (by rw[hS.size];exact hlt)]at h2;exact ih h2
   | own o =>
    dsimp only;cases ho:JA st.Js o with
    | none=>exact ih hS
    | some y =>
     cases y with
     | box _=>exact ih hS
     | mp _=>exact ih hS
     | arr e f l =>
      dsimp only;obtain⟨O1,hS1,hp1,_,hv1,_⟩:=hS.Aae ho
      have hlt:j<st.tmps.length:=by
       rcases Ej j st.tmps.length with h | h
       .exact h
       .rw[Dj,Ed h]at hx;cases hx
      have hc:=hS.tmps j hlt;rw[hx]at hc;have hc:JO O st.Js m w (a.tmps.getD j undef) (.own o):=hc;have hc2:=hc.2;rw[ho]at hc2;have hm:a.tmps.getD j undef=m o:=hc2;have h2:=hS1.put (some j) (x:=.sl l) (v:=a.tmps.getD j undef) (by rw[hm];exact hv1);rw[AbI rfl (by rw[hS.size];exact hlt)]at h2;exact ih h2
   | _=>exact ih hS
  | some b =>
   unfold pzs;cases hb:JA st.Js b with
   | none=>exact ih hS
   | some y =>
    cases y with
    | arr _ _ _=>exact ih hS
    | mp _=>exact ih hS
    | box cs =>
     dsimp only;cases hx:cs.getD j .undef with
     | own o =>
      dsimp only;cases ho:JA st.Js o with
      | none=>exact ih hS
      | some y =>
       cases y with
       | box _=>exact ih hS
       | mp _=>exact ih hS
       | arr e f l =>
        dsimp only;obtain⟨O1,hS1,hp1,_,hv1,_⟩:=hS.Aae ho;have hbo:b≠o:=fun h=>by rw[h,ho]at hb;cases hb
        have hb1:JA (LM st.Js o (.arr e true l)) b=some (.box cs):=by rw[KA,Dk hbo];exact hb
        have ho1:JA (LM st.Js o (.arr e true l)) o=some (.arr e true l):=by rw[KA,Dn rfl]
        have hjl:j<cs.length:=by
         rcases Ej j cs.length with h | h
         .exact h
         .rw[Dj,Ed h]at hx;cases hx
        have hE:RN (LM st.Js o (.arr e true l)) m (LM (LM st.Js o (.arr e true l)) b (.box (cs.set j (.sl l)))) m (fun _=>False):=by
         intro q z hz;rw[KA]at hz;by_cases hq:q=b
         .rw[Dn hq]at hz;injection hz with hz;subst hz;exact .inr ⟨.box cs,by rw[hq];exact hb1,rfl,rfl⟩
         .rw[Dk hq]at hz;exact .inr ⟨z,hz,rfl,rfl⟩
        have h2:=hS1.next (st':= {st with Js:=LM (LM st.Js o (.arr e true l)) b (.box (cs.set j (.sl l)))}) (d:=none) (v:=undef) (x:=.undef) (T:=fun _=>False) (Nw:=fun _=>False) (Moves.refl O1 _ w) ⟨fun _ _ _ h=>h,fun _ _ _ _ h _=>h⟩ (fun _ _ _ h=>h) hE (fun _ h=>h.elim) (fun _ h=>h.elim)
         (fun q z hz=>by
           rw[KA]at hz;by_cases hq:q=b
           .rw[Dn hq]at hz;injection hz with hz;subst hz;right;obtain⟨bk,base,g1,g2⟩:=hS1.Js b _ hb1;rw[hq];refine⟨⟨bk,base,g1,fun i hi=> ?_⟩,hS.ids b _ hb⟩;rw[Gg]at hi;obtain⟨k1,k2,u,k3,k4⟩:=g2 i hi;refine⟨k1,k2,u,k3,?_⟩;by_cases hij:j=i
            .subst hij;have e1:(cs.set j (.sl l)).getD j .undef= .sl l:=by simp [Dj,hjl]
             rw[e1];rw[hx]at k4;have k5:=k4.2;rw[ho1]at k5;have hm:u=m o:=k5;rw[hm];exact hv1
            .have e1:(cs.set j (.sl l)).getD i .undef=cs.getD i .undef:=by
              simp only[Dj,FN];rw[Dk hij]
             rw[e1];exact k4.step (fun _ _ _ h hc=>⟨h,hc⟩) hE (fun _ _ h=>h)
           .rw[Dk hq]at hz;exact .inl ⟨fun h=>h,hz,rfl⟩) rfl (fun h=>absurd rfl h)
        exact ih h2
     | _=>exact ih hS
theorem AuY (hS:Sim V0 O0 w0 O m st a w) {key:Nat} (h:(norm C key st).1=true): ∃ O' m',Sim V0 O0 w0 O' m' (norm C key st).2 a w:=by
 unfold norm at h ⊢;cases hn:C.nrm key with
 | none=>exact⟨O,m,hS⟩
 | some n =>rw[hn]at h;dsimp only at h ⊢;rw[Dq]at h;obtain⟨O4,hS4⟩:=AxK n.pz hS;obtain⟨O1,m1,hS1⟩:=Avv n.ren (hS4.dropped n.keep (reached (drop n.keep (pzs n.pz st).tmps 0) (pzs n.pz st).Js)) h.1;obtain⟨O3,m3,hS3⟩:=Avm n.nw hS1 h.2;obtain⟨O2,hS2⟩:=Auv n.frz hS3;exact⟨O2,m3,hS2⟩
theorem Aes {ρ :Type} (hS:Sim V0 O0 w0 O m st a w) {key:Nat} {K:St->Option ρ} {r: ρ} (h:UZ C key st K=some r): ∃ O' m' st',Sim V0 O0 w0 O' m' st' a w/\K st'=some r:=by
 unfold UZ at h;cases hn:(norm C key st).1 with
 | false =>have h':(bif (norm C key st).1 then K (norm C key st).2 else none)=some r:=h;rw[hn]at h';cases h'
 | true =>have h':(bif (norm C key st).1 then K (norm C key st).2 else none)=some r:=h;rw[hn]at h';obtain⟨O1,m1,hS1⟩:=AuY hS hn;exact⟨O1,m1,_,hS1,h'⟩
theorem Ab6 {ρ :Type} (hS:Sim V0 O0 w0 O m st a w) {kind:Nat} {c:Code} {K:St->Option ρ} {r: ρ} (h:meet C kind c st K=some r): ∃ O' m' st',Sim V0 O0 w0 O' m' st' a w/\K st'=some r:=by
 unfold meet at h;cases hn:MS c with
 | none=>rw[hn]at h;exact⟨O,m,st,hS,h⟩
 | some n=>rw[hn]at h;exact Aes hS h
end
section
variable {P:Program} {C:Ctx} {V0:Nat->Value} {O0 O:Own} {w0 w:World} {m:Nat->Value} {st:St} {a:Act}
theorem Atx {C:Ctx} {o:Oper} {f:Nat} {q:Alt} (h:lW C o=some (f,q)):C.alt f=some q:=by
 unfold lW at h;split at h
 .rename_i g _ _ _ _;cases ha:C.alt g with
  | none=>rw[ha]at h;cases h
  | some q'=>simp_all[Alt,lW]
 .cases h
theorem Ax8 {ρ :Type} (hC:OG P C) {ops:Array Oper} {Q:Exit->Act->World->Prop} {v: ρ} {K:St->Option ρ} (hK: ∀ O' m' st' a' w',Sim V0 O0 w0 O' m' st' a' w'->K st'=some v->Q .normal a' w') :
 ∀(l:List Oper) {O:Own} {m:Nat->Value} {st:St} {a:Act} {w:World},Sim V0 O0 w0 O m st a w->Yn C ops.toList l st K=some v->wpList P ops Q l a w:=by
 intro l
 induction l with
 | nil=>intro O m st a w hS h;exact hK _ _ _ _ _ hS h
 | cons o r ih =>
  intro O m st a w hS h;have one: ∀ C':Ctx,OG P C'->allT (KO C' ops.toList o st).ok (Yn C ops.toList r (apply st o (KO C' ops.toList o st)) K)=some v->wpList P ops Q (o::r) a w:=by intro C' hC' h;obtain⟨h1,h2⟩:=VD h;refine wpList_step fun k hk=> ?_;exact Akk hC' hS h1 k Q fun O' m' a' w' hS'=>hk _ _ (ih hS' h2)
  unfold Yn at h;cases ha:lW C o with
  | none=>rw[ha]at h;exact one C hC h
  | some q =>
   obtain⟨f,q⟩:=q;rw[ha]at h;dsimp only at h;obtain⟨h1,h2⟩:=hC.alt f q (Atx ha);cases hb:Ak3 o st q with
   | true=>rw[hb]at h;exact one _ (hC.put h1) h
   | false=>rw[hb]at h;exact one _ (hC.put h2) h
def Post {ρ :Type} (V0:Nat->Value) (O0:Own) (w0:World) (fin:St->Option ρ) (K:Ex->St->Option ρ) (v: ρ):Exit->Act->World->Prop
 | .normal,a,w=> ∃ O m st,Sim V0 O0 w0 O m st a w/\K .normal st=some v
 | .exit id,a,w=> ∃ O m st,Sim V0 O0 w0 O m st a w/\K (.exit id) st=some v
 | .ret,a,w=> ∃ O m st,Sim V0 O0 w0 O m st a w/\fin st=some v
 | _,_,_=>False
theorem Awl (hS:Sim V0 O0 w0 O m st a w) {c:Operand} {t:Bool} (h:Lj st.tmps c= .bool t\/Lj st.tmps c= .cnd true (.bool t)):a.eval c= .bool t:=by
 have:=Ahm hS c;rcases h with h | h
 .rw[h]at this;exact this.bool
 .rw[h]at this;have h1:JC O w (a.eval c) (.bool t):=this.1 rfl;generalize a.eval c=z at h1 ⊢;cases h1;rfl
theorem AtW {ρ :Type} (hC:OG P C) (N:Nat) {fin:St->Option ρ} {v: ρ}
 (hdraw: ∀ {C:Ctx},OG P C-> ∀(id:Nat) (ops:Array Oper) {O:Own} {m:Nat->Value} {st:St} {a:Act} {w:World} (K:Ex->St->Option ρ),Sim V0 O0 w0 O m st a w->UW C ops.toList st=true->Yo C ops.toList ops.toList st (fun st'=>K .normal st')=some v ->
   (Code.region id ops true).wp P (Post V0 O0 w0 fin K v) a w) :
 ∀(c:Code) {O:Own} {m:Nat->Value} {st:St} {a:Act} {w:World} {K:Ex->St->Option ρ},Sim V0 O0 w0 O m st a w->exec C N fin c st K=some v->c.wp P (Post V0 O0 w0 fin K v) a w:=by
 intro c
 induction c with
 | skip=>intro O m st a w K hS h;exact wp_skip ⟨O,m,st,hS,h⟩
 | label l=>intro O m st a w K hS h;exact wp_label ⟨O,m,st,hS,h⟩
 | ret=>intro O m st a w K hS h;exact wp_ret ⟨O,m,st,hS,h⟩
 | exit id =>intro O m st a w K hS h;obtain⟨O',m',st',hS',h'⟩:=Aes hS (show UZ C (4*id+3) st (fun st'=>K (.exit id) st')=some v from h);exact wp_exit ⟨O',m',st',hS',h'⟩
 | region id ops d =>
  intro O m st a w K hS h;cases d with
  | false =>
   have key: ∀ C':Ctx,OG P C'->Yn C' ops.toList ops.toList st (fun st'=>K .normal st')=some v->(Code.region id ops false).wp P (Post V0 O0 w0 fin K v) a w:=fun C' hC' h' =>
    wp_region_list (Ax8 hC' (K:=fun st'=>K .normal st') (fun O' m' st' a' w' hS' h'=>⟨O',m',st',hS',h'⟩) ops.toList hS h')
   rcases(nU (show split C id ops.toList st _=some v from h)).1 with h' | ⟨ds,b,h'⟩
   .exact key C hC h'
   .exact key _ (hC.decide ds b) h'
  | true =>
   have key: ∀ C':Ctx,OG P C'->(bif UW C' ops.toList st then Yo C' ops.toList ops.toList st (fun st'=>K .normal st')else none)=some v->(Code.region id ops true).wp P (Post V0 O0 w0 fin K v) a w:=by
    intro C' hC' h';cases hd:UW C' ops.toList st with
    | false=>rw[hd]at h';cases h'
    | true=>rw[hd]at h';exact hdraw hC' id ops K hS hd h'
   rcases(nU (show split C id ops.toList st _=some v from h)).1 with h' | ⟨ds,b,h'⟩
   .exact key C hC h'
   .exact key _ (hC.decide ds b) h'
 | seq x y ihx ihy =>
  intro O m st a w K hS h;refine wp_seq (Jh (ihx (K:=fun | .normal,st'=>meet C 1 y st' fun st''=>exec C N fin y st'' K | .exit id,st'=>K (.exit id) st') hS h) fun e a' w' hq=> ?_);cases e with
  | normal =>obtain⟨O1,m1,st1,hS1,h1⟩:=hq;obtain⟨O2,m2,st2,hS2,h2⟩:=Ab6 hS1 h1;exact ihy hS2 h2
  | exit id=>exact hq
  | ret=>exact hq
  | goto l=>exact hq
  | panic ch=>exact hq
  | outgrown=>exact hq
 | cond c x y ihx ihy =>
  intro O m st a w K hS h
  have key: ∀ t:Bool,(Lj st.tmps c= .bool t\/Lj st.tmps c= .cnd true (.bool t))->(bif t then exec C N fin x st K else exec C N fin y st K)=some v->(Code.cond c x y).wp P (Post V0 O0 w0 fin K v) a w:=by
   intro t ht h';refine wp_cond (Awl hS ht) ?_;cases t with
   | true=>exact ihx hS h'
   | false=>exact ihy hS h'
  simp only[exec]at h;cases he:Lj st.tmps c with
  | bool t=>rw[he]at h;exact key t (.inl he) h
  | cnd g y' =>
   rw[he]at h;cases y' with
   | bool t =>
    cases g with
    | false=>cases h
    | true=>exact key t (.inr he) h
   | _=>cases h
  | _=>rw[he]at h;cases h
 | block id c ih =>
  intro O m st a w K hS h;refine wp_block (Jh (ih (K:=fun | .exit j,st'=>bif Nat.beq j id then K .normal st' else K (.exit j) st' | .normal,st'=>K .normal st') hS h) fun e a' w' hq=> ?_);cases e with
  | normal=>exact hq
  | exit j =>
   obtain⟨O1,m1,st1,hS1,h1⟩:=hq;dsimp only at h1;show if j=id then _ else _;rw[Xl]at h1;by_cases hj:j=id
   .rw[Dn hj];simp only[hj,I5,cond_true]at h1;exact⟨O1,m1,st1,hS1,h1⟩
   .rw[Dk hj];rw[show decide (j=id)=false by simpa using hj]at h1;exact⟨O1,m1,st1,hS1,h1⟩
  | ret=>exact hq
  | goto l=>exact hq
  | panic ch=>exact hq
  | outgrown=>exact hq
 | loop c ih =>
  intro O m st a w K hS h;obtain⟨O1,m1,st1,hS1,h1⟩:=Ab6 hS (show meet C 2 c st (fun st'=>rounds (meet C 2 c) (exec C N fin c) N st' K)=some v from h);refine wp_loop_rounds N ?_
  have key: ∀(n:Nat) {O:Own} {m:Nat->Value} {st:St} {a:Act} {w:World},Sim V0 O0 w0 O m st a w->rounds (meet C 2 c) (exec C N fin c) n st K=some v->Code.rounds P c (Post V0 O0 w0 fin K v) n a w:=by
   intro n
   induction n with
   | zero=>intro O m st a w _ h;cases h
   | succ n ihn =>
    intro O m st a w hS h;refine Jh (ih (K:=fun | .normal,st'=>meet C 2 c st' fun st''=>rounds (meet C 2 c) (exec C N fin c) n st'' K | .exit id,st'=>K (.exit id) st') hS h) fun e a' w' hq=> ?_;cases e with
    | normal =>obtain⟨O2,m2,st2,hS2,h2⟩:=hq;obtain⟨O3,m3,st3,hS3,h3⟩:=Ab6 hS2 h2;exact ihn hS3 h3
    | exit id=>exact hq
    | ret=>exact hq
    | goto l=>exact hq
    | panic ch=>exact hq
    | outgrown=>exact hq
  exact key N hS1 h1
 | scope c ih =>intro O m st a w K hS h;refine wp_scope_straight (Jh (ih hS (show exec C N fin c st K=some v from h)) fun e a' w' hq=> ?_);cases e<;>first | exact hq | exact hq.elim
 | _=>intro O m st a w K hS h;cases h
end
def PU:Sh->Sh
 | .box ks=>.box ks
 | .map kt vt=>.map kt vt
 | .clo _ ks=>.box ks
 | _=>.cell false .bool
def A0L:Sh->Nat->A
 | .box _,i=>.ptr (256*i) 0
 | .map _ _,i=>.own (256*i)
 | .clo _ _,i=>.ptr (256*i) 0
 | _,_=>.bool true
def Qm:List Sh->Nat->List A
 | [],_=>[]
 | s::ss,i=>A0L s i::Qm ss (i+1)
def unbox:A->A
 | .box cs=>.agg cs
 | a=>a
def Af1 (J7:List Sh) (xs:List A) (n:Nat):St:= {tmps:=(Ld 0 256 J7 xs 0).2.1++List.replicate (n - J7.length) .undef,Js:=JL [] (Ld 0 256 J7 xs 0).2.2}
def AhL (C:Ctx) (st:St) (q:Nat×Option Nat):List Bool×A :=
 match q.2 with
 | none=>([Nat.blt q.1 st.tmps.length],st.tmps.getD q.1 .undef)
 | some ty=>match Zu C st.Js ty (st.tmps.getD q.1 .undef)with
  | δ =>(Nat.blt q.1 st.tmps.length:: δ.ok,δ.val)
def P8 (C:Ctx) (outs:List (Nat×Option Nat)) (st:St):List A:=outs.map (fun q=>(AhL C st q).2)
def finish (C:Ctx) (J7 JP:List Sh) (outs:List (Nat×Option Nat)) (st:St):Option (List A) :=
 allT ((JS st.Js JP (P8 C outs st)).1++(JS st.Js (J7.map PU) (Qm J7 0)).1 ++
  [nodup ((Oh st.Js 256000 256 JP (P8 C outs st)++Oh st.Js 0 256 (J7.map PU) (Qm J7 0)).map (·.1)),!(JP.any wS||(J7.map PU).any wS)||((JS st.Js JP (P8 C outs st)).2.2.1.isEmpty&&(JS st.Js (J7.map PU) (Qm J7 0)).2.2.1.isEmpty)]++outs.flatMap (fun q=>(AhL C st q).1))
  (some ((JS st.Js JP (P8 C outs st)).2.1++(L6 J7 0).map (fun i=>unbox ((JS st.Js (J7.map PU) (Qm J7 0)).2.1.getD i .undef))))
def runK {ρ :Type} (C:Ctx) (N:Nat) (J7:List Sh) (n:Nat) (code:Code) (fin:St->Option ρ) (xs:List A):Option ρ :=
 allT ((Ld 0 256 J7 xs 0).1++[nodup ((Ld 0 256 J7 xs 0).2.2.map (·.1)),!(has ((Ld 0 256 J7 xs 0).2.2.map (·.1)) 255)])
  (exec C N fin code (Af1 J7 xs n) fun
    | .normal,st=>fin st
    | .exit _,_=>none)
section
variable {P:Program} {C:Ctx} {V0:Nat->Value} {O0 O:Own} {w0 w:World} {m:Nat->Value} {st:St} {a:Act}
theorem Wx {id:Nat}: ∀(ks:List (Bool×CK)) (cs:List A) (j0:Nat),∀ p∈(JX id ks cs j0).2.2,∃ x,p.1=id+x/\x<j0+ks.length:=by
 intro ks
 induction ks with
 | nil=>intro cs j0 p hp;simp [JX]at hp
 | cons k ks ih =>
  intro cs j0 p hp;have step:p∈(JX id ks cs (j0+1)).2.2-> ∃ x,p.1=id+x/\x<j0+(k::ks).length:=by intro h;obtain⟨x,h1,h2⟩:=ih cs (j0+1) p h;exact⟨x,h1,by simp only[List.length_cons];omega⟩
  obtain⟨u,k⟩:=k;cases u with
  | false=>exact step hp
  | true =>
   cases k with
   | sl e sz =>
    simp only[JX]at hp;rcases D7.1 hp with rfl | hp
    .exact⟨j0,rfl,by simp⟩
    .exact step hp
   | sln e sz =>
    simp only[JX]at hp;rcases D7.1 hp with rfl | hp
    .exact⟨j0,rfl,by simp⟩
    .exact step hp
   | bx t =>
    simp only[JX]at hp;rcases D7.1 hp with rfl | hp
    .exact⟨j0,rfl,by simp⟩
    .exact step hp
   | _=>simp [JX]at hp
theorem Awd {id:Nat} {s:Sh} {x:A} (hok:JE (back id s x).1): ∀ p∈(back id s x).2.2,∃ i,p.1=id+i/\i<255:=by
 intro p hp;cases s with
 | cell u k =>obtain⟨i,h1,h2⟩:=Wx _ _ _ p hp;exact⟨i,h1,by simp at h2;omega⟩
 | agg ks =>simp only[back]at hok hp;have:=DL hok.cons.1;obtain⟨i,h1,h2⟩:=Wx _ _ _ p hp;exact⟨1+i,by omega,by omega⟩
 | box ks =>
  simp only[back]at hok hp;have:=DL hok.cons.1;rcases D7.1 hp with rfl | hp
  .exact⟨0,rfl,by omega⟩
  .obtain⟨i,h1,h2⟩:=Wx _ _ _ p hp;exact⟨1+i,by omega,by omega⟩
 | clo f' ks =>
  simp only[back]at hok hp;have:=DL hok.cons.1;rcases D7.1 hp with rfl | hp
  .exact⟨0,rfl,by omega⟩
  .obtain⟨i,h1,h2⟩:=Wx _ _ _ p hp;exact⟨1+i,by omega,by omega⟩
 | map kt vt=>simp_all[back,Sh,JE]
theorem At5 {f:Nat->Value}: ∀(ss:List Sh) (rs:List A) (j0:Nat),JE (Ld 0 256 ss rs j0).1-> ∀ p∈YP w f 0 256 ss rs j0,p.2=Oz w (f (p.1 / 256)) (p.1 % 256):=by
 intro ss
 induction ss with
 | nil=>grind[YP]
 | cons s ss ih =>intro rs j0 hok p hp;simp only[Ld]at hok;obtain⟨h1,h2⟩:=hok.append;all_goals grind[YP,Awd]
theorem Aw9 {J7:List Sh} {xs:List A} {n:Nat} {vs:Array Value} (hI:Inv O w) (hv:vs.size=xs.length) (hl:xs.length=J7.length) (h: ∀ j,j<xs.length->IR O w (256*j) (vs.getD j undef) (xs.getD j .undef))
 (hok:JE (Ld 0 256 J7 xs 0).1) (hnd:nodup ((Ld 0 256 J7 xs 0).2.2.map (·.1))=true) (h255:has ((Ld 0 256 J7 xs 0).2.2.map (·.1)) 255=false) :
 Sim (fun o=>innerS w (J7.getD (o / 256) (.agg [])) (vs.getD (o / 256) undef)) O w O (fun o=>Oz w (innerS w (J7.getD (o / 256) (.agg [])) (vs.getD (o / 256) undef)) (o % 256)) (Af1 J7 xs n) {tmps:=vs++Array.replicate (n - vs.size) undef,defers:=[]} w:=by
 have hmem: ∀ o x,JA (JL [] (Ld 0 256 J7 xs 0).2.2) o=some x->(o,x)∈(Ld 0 256 J7 xs 0).2.2:=by
  intro o x hx;rcases mZ _ (Ahb hx)with h | h
  .exact h
  .cases h
 have hget: ∀ p∈(Ld 0 256 J7 xs 0).2.2,JA (JL [] (Ld 0 256 J7 xs 0).2.2) p.1=some p.2:=fun p hp=>AaQ (Js:=[]) (upd:=[]) (del:=[]) hnd (o:=p.1) (x:=p.2) hp
 obtain⟨r1,r2,r3⟩:=Aiy (Oc:=O) (O':=O) (w:=w) (objs':=JL [] (Ld 0 256 J7 xs 0).2.2) (m':=fun o=>Oz w (innerS w (J7.getD (o / 256) (.agg [])) (vs.getD (o / 256) undef)) (o % 256)) (cid:=0) (cst:=256) (id:=0) (stride:=256) (f:=fun j=>vs.getD j undef) (g:=fun j=>innerS w (J7.getD j (.agg [])) (vs.getD j undef)) (rs:=xs)
  (fun _ _ _ h hc=>⟨h,hc⟩) (fun _ _ h=>h) J7 0 (fun j _=>by rw[DT]) (fun j hj=>by rw[DT,DT];exact h j (by rw[hl];exact hj)) (fun j _ b k i _ hb=>hb) hok hget
  (fun p hp=>(At5 J7 xs 0 hok p hp).symm)
 refine⟨rfl,?_,fun t ht=> ?_,fun o x hx=>r3 _ (hmem o x hx),Moves.refl O _ w,fun b k o _ ho hne=>⟨o,ho,hne⟩,fun o x hx e=> ?_,fun b k _ h=>h,fun o hr _=> ?_,fun b k _ h=>h,hI⟩
 .simp [Af1,r1,hv,hl]
 .show JJ O _ _ w (((vs++Array.replicate (n - vs.size) undef).getD t undef)) (((Ld 0 256 J7 xs 0).2.1++List.replicate (n - J7.length) A.undef).getD t .undef);rcases Ej t J7.length with htl | htl
  .have e1:((Ld 0 256 J7 xs 0).2.1++List.replicate (n - J7.length) A.undef).getD t .undef=(Ld 0 256 J7 xs 0).2.1.getD t .undef:=by
    simp [Dj,Es,r1,htl]
   have e2:(vs++Array.replicate (n - vs.size) undef).getD t undef=vs.getD t undef:=by
    have:t<vs.size:=by rw[hv,hl];exact htl
    simp [Du,Fb,this]
   rw[e1,e2];have:=(r2 t htl).1;rw[DT]at this;exact this
  .have e1:((Ld 0 256 J7 xs 0).2.1++List.replicate (n - J7.length) A.undef).getD t .undef= .undef:=by
    rw[Dj,EJ (by rw[r1];exact htl),List.getElem?_replicate];split<;>rfl
   rw[e1];trivial
 .subst e;have:=hmem _ x hx;have h':has ((Ld 0 256 J7 xs 0).2.2.map (·.1)) 255=true:=PN.2 (DI.2 ⟨_,this,rfl⟩);rw[h']at h255;cases h255
 .unfold aG at hr;rw[Dq]at hr;have:=Dy hr.2;rw[this];rfl
theorem Ap6 {fet:Fet}: ∀(ss:List Sh) (xs:List A),JE (JS fet ss xs).1-> ∀ i s,ss[i]? =some s->KJ s=true->AfD (unbox ((JS fet ss xs).2.1.getD i .undef))=(JS fet ss xs).2.1.getD i .undef:=by
 intro ss
 induction ss with
 | nil=>intro xs _ i s h;simp at h
 | cons s ss ih =>
  intro xs hok i s' h hb;cases xs with
  | nil=>have:=hok false (by simp [JS]);cases this
  | cons x xs =>
   simp only[JS]at hok ⊢;obtain⟨h1,h2⟩:=hok.append;cases i with
   | zero =>
    simp at h;subst h;cases s with
    | cell _ _=>cases hb
    | agg _=>cases hb
    | map kt vt =>
     cases x with
     | own q =>
      unfold JZ at h1 ⊢;dsimp only at h1 ⊢;cases hg:JA fet q with
      | none=>rw[hg]at h1;have:=h1 false (by simp);cases this
      | some y =>
       cases y with
       | mp l=>rfl
       | _=>rw[hg]at h1;have:=h1 false (by simp);cases this
     | _=>have:=h1 false (by simp [JZ]);cases this
    | box ks =>
     cases x with
     | ptr q off =>
      unfold JZ at h1 ⊢;dsimp only at h1 ⊢;cases hb:MB fet q with
      | none=>rw[hb]at h1;have:=h1 false (by simp);cases this
      | some cs=>rfl
     | _=>have:=h1 false (by simp [JZ]);cases this
    | clo f' ks =>
     cases x with
     | clo g q =>
      unfold JZ at h1 ⊢;dsimp only at h1 ⊢;cases hb:MB fet q with
      | none=>rw[hb]at h1;have:=h1 false (by simp);cases this
      | some cs=>rfl
     | _=>have:=h1 false (by simp [JZ]);cases this
   | succ i=>simpa using ih xs h2 i s' (by simpa using h) hb
theorem AtG: ∀(ss:List Sh) (i0 j i:Nat),(L6 ss i0)[j]? =some i-> ∃ r s,i=i0+r/\ss[r]? =some s/\KJ s=true:=by
 intro ss
 induction ss with
 | nil=>grind[L6]
 | cons s ss ih =>
  intro i0 j i h;have step: ∀ j':Nat,(L6 ss (i0+1))[j']? =some i-> ∃ r s',i=i0+r/\(s::ss)[r]? =some s'/\KJ s'=true:=by intro j' h';obtain⟨r,s',h1,h2,h3⟩:=ih (i0+1) j' i h';exact⟨r+1,s',by omega,by simpa using h2,h3⟩
  simp only[L6]at h;cases s with
  | box ks =>
   simp only[KJ,cond_true]at h;cases j with
   | zero=>simp_all[Sh,L6,KJ]
   | succ j=>exact step j (by simpa using h)
  | clo f' ks =>
   simp only[KJ,cond_true]at h;cases j with
   | zero=>simp_all[Sh,L6,KJ]
   | succ j=>exact step j (by simpa using h)
  | map kt vt =>
   simp only[KJ,cond_true]at h;cases j with
   | zero=>simp_all[Sh,L6,KJ]
   | succ j=>exact step j (by simpa using h)
  | cell u k=>grind[KJ]
  | agg ks=>grind[KJ]
theorem ApS: ∀(ss:List Sh) (i0:Nat),(Qm ss i0).length=ss.length:=by
 intro ss
 induction ss with
 | nil=>intro i0;rfl
 | cons s ss ih=>intro i0;simp [Qm,ih]
theorem AuQ: ∀(ss:List Sh) (i0 j:Nat),j<ss.length->(Qm ss i0).getD j .undef=A0L (ss.getD j (.agg [])) (i0+j):=by
 intro ss
 induction ss with
 | nil=>intro i0 j h;simp at h
 | cons s ss ih =>
  intro i0 j h;cases j with
  | zero=>grind[Qm]
  | succ j=>grind[Qm]
end
def rv:Nat×Option Nat->ResultVar
 | (t,none)=>.tmp t
 | (a,some ty)=>.cell a ty
def AfC (tmps:Array Value):ResultVar->Sem Value
 | .tmp t=>pure (tmps.getD t undef)
 | .cell a t=>do loadVar t (<- asAddr (tmps.getD a undef))
def Az3 {P:Program} {w:World} {α :Type} {g: α ->Sem Value}: ∀(l:List α) (f:Nat->Value),(∀(j:Nat) (x: α),l[j]? =some x->(g x).run P w= .ok (f j) w)->(l.mapM g).run P w= .ok ((List.range l.length).map f) w:=by
 intro l
 induction l with
 | nil=>intro f _;simp
 | cons x r ih =>intro f h;have h1:=ih (fun j=>f (j+1)) (fun j y hy=>h (j+1) y (by simpa using hy));have h2:=h 0 x rfl;rw[I9];simp only[DJ,h2,Result.andThen_ok,h1,Sem.run_pure,List.length_cons,List.range_succ_eq_map,Ee,Fh];rfl
def Amj (us:Array Value):Value:=if h:us.size=1 then us[0]else .tuple us
def Asm {P:Program} {w:World} {fn:Func} {outs:List (Nat×Option Nat)} {tmps:Array Value} (h:fn.results=(outs.map rv).toArray) (f:Nat->Value) (hf: ∀(j:Nat) (q:Nat×Option Nat),outs[j]? =some q->(AfC tmps (rv q)).run P w= .ok (f j) w) :
 (results fn tmps).run P w= .ok (Amj ((List.range outs.length).map f).toArray) w:=by
 have e:results fn tmps=(do let vs <- fn.results.mapM (AfC tmps);pure (Amj vs)):=by
  have e0:AfC tmps=(fun | .tmp t=>pure (tmps.getD t undef) | .cell a t=>do loadVar t (<- asAddr (tmps.getD a undef))):=by funext x;cases x<;>rfl
  unfold results Amj;rw[e0];rfl
 rw[e,h,List.mapM_toArray]
 have:=Az3 (P:=P) (w:=w) (g:=AfC tmps) (outs.map rv) f (fun j x hx=>by
  rw[EC]at hx;cases hq:outs[j]? with
  | none=>rw[hq]at hx;cases hx
  | some q=>rw[hq]at hx;injection hx with hx;rw[<- hx];exact hf j q hq)
 all_goals simp_all[rv,AfC,Amj]
section
variable {P:Program} {C:Ctx} {V0:Nat->Value} {O0 O:Own} {w0 w:World} {m:Nat->Value} {st:St} {a:Act}
theorem Av4 {J7:List Sh} {i:Nat} {s:Sh} (h:J7[i]? =some s) (hb:KJ s=true):(J7.map PU)[i]? =some (PU s)/\KJ (PU s)=true/\KJ (J7.getD i (.agg []))=true/\i<J7.length:=by
 have hi:i<J7.length:=by all_goals grind[Sh,KJ,PU]
 refine⟨(by rw[EC,h];rfl),(by cases s<;>first | rfl | (cases hb;done)),?_,hi⟩;rw[Dj,h];exact hb
theorem Aw7 {J7 JP:List Sh} {outs:List (Nat×Option Nat)} {rs:List A} {vs:Array Value} {sg:Sig} {fn:Func} (hC:TOk P C) (hfn:fn.results=(outs.map rv).toArray) (hp:sg.J7=J7) (hr:sg.JP=JP) (h100:J7.length<=100)
 (hptr: ∀ i,i<J7.length->KJ (J7.getD i (.agg []))=true->(innerS w0 (J7.getD i (.agg [])) (vs.getD i undef)).oneCell'=true)
 (hS:Sim (fun o=>innerS w0 (J7.getD (o / 256) (.agg [])) (vs.getD (o / 256) undef)) O0 w0 O m st a w) (h:finish C J7 JP outs st=some rs) :
 ∃ v O',(results fn a.tmps).run P w= .ok v w/\Came O0 w0 vs sg rs v O' w:=by
 obtain⟨hok,hrs⟩:=VD h;injection hrs with hrs;obtain⟨hokA,hokO⟩:=hok.append;obtain⟨hokA,hokB⟩:=hokA.append;obtain⟨hok1,hok2⟩:=hokA.append;have hnd:=hokB.cons.1;have hwr:=hokB.cons.2.cons.1;have hf:Pz st.Js st.Js:=fun _ _ h=>h;generalize hN:Oh st.Js 256000 256 JP (P8 C outs st)++Oh st.Js 0 256 (J7.map PU) (Qm J7 0)=N at *
 have hout: ∀ j:Nat,∃ u:Value,∀ q,outs[j]? =some q->(AfC a.tmps (rv q)).run P w= .ok u w/\JJ O st.Js m w u (AhL C st q).2:=by
  intro j;cases hj:outs[j]? with
  | none=>exact⟨undef,fun q hq=>by cases hq⟩
  | some q =>
   have hqok:JE (AhL C st q).1:=fun b hb=>hokO b (Ep.2 ⟨q,H6 hj,hb⟩);obtain⟨t,ty⟩:=q;cases ty with
   | none =>have hlt:=hqok.cons.1;rw[EM]at hlt;exact⟨a.tmps.getD t undef,fun q hq=>by injection hq with hq;subst hq;exact⟨rfl,hS.tmps t hlt⟩⟩
   | some ty =>
    have hq2:JE (Nat.blt t st.tmps.length::(Zu C st.Js ty (st.tmps.getD t .undef)).ok):=hqok;obtain⟨hlt,hld⟩:=hq2.cons;rw[EM]at hlt;obtain⟨u,hu1,hu2⟩:=(AmC (o:= {(default:Oper)with op:=.load ty (.tmp t)}) hC (fun q x hq=>⟨hq,hS.Js q x hq⟩) rfl (Ahm hS (.tmp t)) hld).run;refine⟨u,fun q hq=> ?_⟩;injection hq with hq;subst hq;refine⟨?_,hu2⟩;have hev:a.eval (.tmp t)=a.tmps.getD t undef:=by simp [Act.eval]
    simp only[execOp,Instr.loadAt,hev]at hu1;show(do loadVar ty (<- asAddr (a.tmps.getD t undef)):Sem Value).run P w=_;generalize a.tmps.getD t undef=z at hu1 ⊢;cases z with
    | pointer p =>
     cases p with
     | none=>simp [Instr.sureAddr]at hu1
     | some ad =>
      simp only[asAddr,DJ,Sem.run_pure,Result.andThen_ok];simp only[Instr.sureAddr,pure_bind,DJ,Sem.run_pure]at hu1;cases hl:(loadVar ty ad).run P w with
      | ok x w2 =>rw[hl]at hu1;simp only[Result.andThen_ok,Sem.run_pure,Result.ok.injEq,Next.value.injEq]at hu1;rw[hu1.1,hu1.2]
      | halt x w2=>rw[hl]at hu1;simp [Result.andThen]at hu1
    | _=>simp [Instr.sureAddr]at hu1
 obtain⟨fv,hfv⟩:=Hl hout
 obtain⟨g1,g2,g3,_,g5⟩:=jS (W:=(JS st.Js JP (P8 C outs st)).2.2.1++(JS st.Js (J7.map PU) (Qm J7 0)).2.2.1=[]) hf hS.Js 256 JP (P8 C outs st) 256000 fv (fun e=>by rw[e]at hwr;simpa using hwr) (fun j hj=>by
  have hj':j<outs.length:=by simpa [P8]using hj
  have e:(P8 C outs st).getD j .undef=(AhL C st outs[j]).2:=by simp [P8,Dj,hj']
  rw[e];exact(hfv j _ (DD hj')).2) hok1
 have hmaskl:(J7.map PU).length=J7.length:=by simp
 obtain⟨k1,k2,k3,_,k5⟩:=jS (W:=(JS st.Js JP (P8 C outs st)).2.2.1++(JS st.Js (J7.map PU) (Qm J7 0)).2.2.1=[]) hf hS.Js 256 (J7.map PU) (Qm J7 0) 0 (fun j=>if KJ (J7.getD j (.agg []))then innerS w0 (J7.getD j (.agg [])) (vs.getD j undef)else .bool true) (fun e=>by rw[e,EF]at hwr;simpa using hwr) (fun j hj=>by
  have hj':j<J7.length:=by rw[ApS]at hj;exact hj
  rw[AuQ J7 0 j hj',DT];have hroot:aG (256*j)=true:=by unfold aG;rw[Dq,EM];refine⟨by omega,?_⟩;rw[Nat.mul_mod_right];rfl
  have hrt: ∀ x,JA st.Js (256*j)=some x->m (256*j)=innerS w0 (J7.getD j (.agg [])) (vs.getD j undef):=fun x hx=>by have:=hS.root (256*j) hroot (by rw[hx];rfl);rw[Nat.mul_div_cancel_left j (by decide)]at this;exact this
  have hp:=hptr j hj';generalize J7.getD j (.agg [])=s at hp hrt ⊢;cases s with
  | box ks =>
   rw[Dn (show KJ (Sh.box ks)=true from rfl)];refine⟨hp rfl,?_⟩;cases hx:JA st.Js (256*j)with
   | none=>trivial
   | some x =>
    cases x with
    | arr _ _ _=>trivial
    | mp _=>trivial
    | box cs =>obtain⟨b,base,h1,_⟩:=hS.Js _ _ hx;exact⟨b,base,h1,by rw[<- hrt _ hx,h1];rfl⟩
  | clo f' ks =>
   rw[Dn (show KJ (Sh.clo f' ks)=true from rfl)];refine⟨hp rfl,?_⟩;cases hx:JA st.Js (256*j)with
   | none=>trivial
   | some x =>
    cases x with
    | arr _ _ _=>trivial
    | mp _=>trivial
    | box cs =>obtain⟨b,base,h1,_⟩:=hS.Js _ _ hx;exact⟨b,base,h1,by rw[<- hrt _ hx,h1];rfl⟩
  | map kt vt =>
   rw[Dn (show KJ (Sh.map kt vt)=true from rfl)];refine⟨hp rfl,?_⟩;cases hx:JA st.Js (256*j)with
   | none=>trivial
   | some x =>
    cases x with
    | box _=>trivial
    | arr _ _ _=>exact(hrt _ hx).symm
    | mp _=>exact(hrt _ hx).symm
  | cell u k=>rw[Dk (show ¬ KJ (Sh.cell u k)=true from fun h=>by cases h)];exact JC.bool true
  | agg ks=>rw[Dk (show ¬ KJ (Sh.agg ks)=true from fun h=>by cases h)];exact JC.bool true) hok2
 obtain⟨O1,hS1,hp1,_,hv1,_,hk1⟩:=hS.freezes _ (g3.append k3);have hρ : ∀ p∈N,look N p.1=some p.2:=ApO hnd
 have halive: ∀ p∈N,(JA st.Js p.1).isSome:=by
  intro p hp';rw[<- hN]at hp';rcases DK.1 hp' with hp' | hp'
  .exact jW _ _ _ hok1 p hp'
  .exact jW _ _ _ hok2 p hp'
 generalize hU:(JS st.Js JP (P8 C outs st)).2.2.1++(JS st.Js (J7.map PU) (Qm J7 0)).2.2.1=U at *
 have hFU:Frz st.Js U:=by rw[<- hU];exact g3.append k3
 have hupdO: ∀ p∈U,Lt O1 (JL st.Js U) m w p.1 p.2:=by intro p hp;obtain⟨x,hx1,hx2⟩:=OO U st.Js p.1 ⟨p,hp,rfl⟩;obtain⟨e,fz,l,k1,k2⟩:=hFU p hp;obtain⟨e',fz',l',k3,k4⟩:=hFU _ hx1;dsimp only at k3 k4;rw[k1]at k3;injection k3 with k3;injection k3 with q1 q2 q3;subst q1;subst q3;rw[k2,<- k4];exact hS1.Js p.1 x hx2
 have hR:=g5 (ρ :=look N) hp1 (fun p hp=>hv1 p (by rw[<- hU];exact D9 _ hp)) (fun p hp=>hupdO p (by rw[<- hU];exact D9 _ hp)) hk1 (fun p hp=>hρ p (by rw[<- hN];exact D9 _ hp));have hB:=k5 (ρ :=look N) hp1 (fun p hp=>hv1 p (by rw[<- hU];exact DF _ hp)) (fun p hp=>hupdO p (by rw[<- hU];exact DF _ hp)) hk1 (fun p hp=>hρ p (by rw[<- hN];exact DF _ hp));have hol:outs.length=JP.length:=by rw[<- g2];simp [P8]
 refine⟨_,OH O1 (look N),Asm hfn fv (fun j q hq=>(hfv j q hq).1),hS1.frame,fun b k hb hne=>hS1.less b k hb (fun e=>hne (aF.2 e)),fun b k hb hj=> ?_,?_,?_,?_⟩
 .have:=hS1.y7 b k hb hj;unfold OH;rw[this];dsimp only;cases hl:look N 255 with
  | none=>rfl
  | some i =>have h1:=halive _ (Aeq hl);obtain⟨x,hx⟩:=EY.1 h1;exact absurd rfl (hS.ids 255 x hx)
 .rw[<- hrs,hp,hr];simp [g1]
 .refine⟨((List.range outs.length).map fv).toArray,by rw[hr];simp [hol],rfl,fun k hk=> ?_⟩;have hk':k<outs.length:=by simpa using hk
  have hus:(((List.range outs.length).map fv).toArray).getD k undef=fv k:=by simp [Du,hk']
  rw[hus];have:=hR k (by rw[<- hol];exact hk');have e:rs.getD k .undef=(JS st.Js JP (P8 C outs st)).2.1.getD k .undef:=by rw[<- hrs,Dj,Es (by rw[g1,<- hol];exact hk'),<- Dj]
  rw[e];exact this
 .intro j i hji;rw[hp]at hji;obtain⟨r,s,h1,h2,h2'⟩:=AtG J7 0 j i hji;rw[DT]at h1;subst h1;obtain⟨h3,h3',h4,h5⟩:=Av4 h2 h2';have h6:=Ap6 _ _ hok2 i _ h3 h3';have e:rs.getD (sg.JP.length+j) .undef=unbox ((JS st.Js (J7.map PU) (Qm J7 0)).2.1.getD i .undef):=by rw[<- hrs,hr,Dj,EJ (by rw[g1];omega),g1,Hg,EC,hji];rfl
  rw[e,h6,hp];have:=hB i (by rw[hmaskl];exact h5);rw[DT,Dn h4]at this;exact this
theorem AxO {ρ :Type} {o: ρ} {fin:St->Option ρ} (hC:OG P C) (N:Nat)
 (hdraw: ∀ {C:Ctx},OG P C-> ∀ {ρ :Type} {V0:Nat->Value} {O0:Own} {w0:World} {fin:St->Option ρ} {v: ρ} (id:Nat) (ops:Array Oper) {O:Own} {m:Nat->Value} {st:St} {a:Act} {w:World} (K:Ex->St->Option ρ),Sim V0 O0 w0 O m st a w->UW C ops.toList st=true->Yo C ops.toList ops.toList st (fun st'=>K .normal st')=some v ->
   (Code.region id ops true).wp P (Post V0 O0 w0 fin K v) a w)
 {f:FuncId} {fn:Func} {code:Code} {outs:List (Nat×Option Nat)} {sg:Sig} (hf:P.funcs[f]? =some fn) (hb:fn.body=some code) (hout:fn.results=(outs.map rv).toArray)
 {vs:Array Value} {xs rs:List A} (hI:Inv O w) (hv:vs.size=xs.length) (hl:xs.length=sg.J7.length) (h100:xs.length<=100) (hx: ∀ j,j<xs.length->IR O w (256*j) (vs.getD j undef) (xs.getD j .undef))
 (h:runK C N sg.J7 fn.ntmps code fin xs=some o) (hrs: ∀ st,fin st=some o->finish C sg.J7 sg.JP outs st=some rs) :
 Calls P f vs w fun e w'=> ∃ v O',e= .returned v/\Came O w vs sg rs v O' w':=by
 obtain⟨hok,h⟩:=VD h;obtain⟨hok1,hok2⟩:=hok.append;obtain⟨hnd,hok2⟩:=hok2.cons;have h255:=hok2.cons.1;rw[Eu]at h255;have hS:=Aw9 (n:=fn.ntmps) hI hv hl hx hok1 hnd h255
 have hptr: ∀ i,i<sg.J7.length->KJ (sg.J7.getD i (.agg []))=true->(innerS w (sg.J7.getD i (.agg [])) (vs.getD i undef)).oneCell'=true:=by
  intro i hi hb;have hi':i<xs.length:=by rw[hl];exact hi
  have hbk:JE (back (256*i) (sg.J7.getD i (.agg [])) (xs.getD i .undef)).1:=by
   have key: ∀(ss:List Sh) (j0 i:Nat),i<ss.length->JE (Ld 0 256 ss xs j0).1->JE (back (0+256*(j0+i)) (ss.getD i (.agg [])) (xs.getD (j0+i) .undef)).1:=by
    intro ss
    induction ss with
    | nil=>intro j0 i h;simp at h
    | cons s ss ih =>
     intro j0 i h hok;simp only[Ld]at hok;obtain⟨h1,h2⟩:=hok.append;cases i with
     | zero=>simpa using h1
     | succ i =>have:=ih (j0+1) i (by simpa using h) h2;rw[show j0+1+i=j0+(i+1)from by omega]at this;simpa using this
   have:=key sg.J7 0 i hi hok1;rw[DT,DT]at this;exact this
  have hir:=hx i hi';generalize sg.J7.getD i (.agg [])=s at hb hbk;cases s with
  | box ks =>
   simp only[back]at hbk;have h2:=hbk.cons.2.cons.1;generalize xs.getD i .undef=x at h2 hir;cases x with
   | box cs =>obtain⟨b,base,h3,_⟩:=hir;rw[h3];rfl
   | _=>cases h2
  | clo f' ks =>
   simp only[back]at hbk;have h2:=hbk.cons.2.cons.1;generalize xs.getD i .undef=x at h2 hir;cases x with
   | cbx g cs =>obtain⟨b,base,h3,_⟩:=hir;rw[show innerS w (.clo f' ks) (vs.getD i undef)=_ from h3.inner (ks:=ks)];rfl
   | _=>cases h2
  | map kt vt =>
   obtain⟨l,hl',_,_⟩:=Aby (show A.Abx kt vt _=true from hbk.cons.1);rw[hl']at hir;obtain⟨r,_,_,h3,_⟩:=(show PD O w _ _ l from hir)
   rw[h3];rfl
  | _=>cases hb
 refine calls_of_wp hf hb (Jh (AtW hC N (fun hC'=>hdraw hC') code hS h) fun e a' w' hq=> ?_);have fin':(∃ O' m' st',Sim (fun o=>innerS w (sg.J7.getD (o / 256) (.agg [])) (vs.getD (o / 256) undef)) O w O' m' st' a' w'/\fin st'=some o)->a'.defers=[]/\ ∃ v,(results fn a'.tmps).run P w'= .ok v w'/\ ∃ v' O',Ending.returned v= .returned v'/\Came O w vs sg rs v' O' w':=by rintro ⟨O',m',st',hS',hfin⟩;obtain⟨v,O2,hres,hcame⟩:=Aw7 (sg:=sg) hC.T hout rfl rfl (by rw[<- hl];exact h100) hptr hS' (hrs st' hfin);exact⟨hS'.defers,v,hres,v,O2,rfl,hcame⟩
 cases e with
 | normal=>exact fin' hq
 | ret=>exact fin' hq
 | exit id =>obtain⟨O',m',st',_,h'⟩:=hq;cases h'
 | goto l=>exact hq.elim
 | panic ch=>exact hq.elim
 | outgrown=>exact hq.elim
end
end Go.Proofs.YtmgpaalplkkpnaaGreatDoor.Vm
