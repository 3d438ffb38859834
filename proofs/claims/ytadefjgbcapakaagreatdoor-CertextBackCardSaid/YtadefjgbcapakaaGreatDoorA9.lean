import Derived.Test.YtadefjgbcapakaaGreatDoorA8
import Derived.Scope
import Derived.LoopN
import Derived.Tactics
set_option linter.all false
namespace Go.Proofs.YtadefjgbcapakaaGreatDoor.Vm
open Classical
section
variable {P:Program} {C:Ctx} {V0:Nat->Value} {O0 O:Own} {w0 w:World} {m:Nat->Value} {st:St} {a:Act} {o:Oper}
theorem AdR (Aa:List (Nat×Obj)): ∀(l:List Nat) (q:Nat) (x:Obj),Ah (fetch Aa l) q=some x->Ah Aa q=some x:=by
  intro l
  induction l with
  | nil=>intro q x h;cases h
  | cons n r ih =>
    intro q x h
    simp only[fetch]at h
    cases hn:Ah Aa n with
    | none=>rw[hn]at h;exact ih q x h
    | some y =>
      rw[hn]at h
      dsimp only at h
      rw[CX]at h
      by_cases hq:n=q
      ·rw[if_pos hq]at h;injection h with h;subst h;rw[<- hq];exact hn
      ·rw[if_neg hq]at h;exact ih q x h
theorem Afs (a b:List (Nat×Obj)) (q:Nat):Ah (a++b) q=match Ah a q with | some x=>some x | none=>Ah b q:=by
  induction a with
  | nil=>rfl
  | cons p r ih =>
    obtain⟨k,x⟩:=p
    rw[List.cons_append,CX,CX,ih]
    by_cases h:k=q<;>simp [h]
theorem nZ (st:St) (vs:List A):H8 st.Aa (CQ st vs):=by
  intro q x h
  unfold CQ at h
  dsimp only at h
  rw[Afs]at h
  split at h
  ·rename_i y hy;injection h with h;subst h;exact AdR _ _ _ _ hy
  ·exact AdR _ _ _ _ h
theorem Aln {v:Value} {x:A} (h:Au O st.Aa m w v x) (hok:Ar x.strip.1):Au O st.Aa m w v x.strip.2:=by
  cases x with
  | cnd g y =>
    have:=h.1 hok.cons.1
    cases y<;>first | trivial | exact this | exact this.elim
  | _=>exact h
theorem Agc: ∀(xs:List A) (f:Nat->Value),(∀ j,j<xs.length->Au O st.Aa m w (f j) (xs.getD j .undef))->Ar (strips xs).1 ->
    (strips xs).2.length=xs.length/\ ∀ j,j<xs.length->Au O st.Aa m w (f j) ((strips xs).2.getD j .undef):=by
  intro xs
  induction xs with
  | nil=>intro f _ _;exact⟨rfl,fun j hj=>by simp at hj⟩
  | cons x xs ih =>
    intro f h hok
    simp only[strips]at hok ⊢
    obtain⟨h1,h2⟩:=hok.append
    obtain⟨g1,g2⟩:=ih (fun j=>f (j+1)) (fun j hj=>by simpa using h (j+1) (by simpa using hj)) h2
    refine⟨by simp [g1],fun j hj=> ?_⟩
    cases j with
    | zero=>exact Aln (h 0 (by simp)) h1
    | succ j=>simpa using g2 j (by simpa using hj)
theorem Anq {v:Value} {x:A} (h:Au O st.Aa m w v x):Au O st.Aa m w v x.weak:=by
  cases x with
  | sln l =>
    have h':Ai O w v (.sln l):=h
    cases h' with
    | sln h _=>exact h
  | _=>exact h
theorem Anp (x:A):x.weak.ids=x.ids:=by cases x<;>rfl
theorem Alu (xs:List A) (j:Nat):(xs.map A.weak).getD j .undef=(xs.getD j .undef).weak:=by
  simp only[List.getD_eq_getElem?_getD,List.getElem?_map]
  cases xs[j]? <;>rfl
theorem kC (op:Op) (xs:List A):(∃ a b c,op= .pick a b c)\/CJ op xs=((strips xs).1,bif ZT op then(strips xs).2 else(strips xs).2.map A.weak):=by
  cases op<;>first | exact .inr rfl | exact .inl ⟨_,_,_,rfl⟩
theorem YB {op:Op} {xs:List A} {f:Nat->Value} (h: ∀ j,j<xs.length->Au O st.Aa m w (f j) (xs.getD j .undef)) (hok:Ar (CJ op xs).1) :
    (CJ op xs).2.length=xs.length/\ ∀ j,j<xs.length->Au O st.Aa m w (f j) ((CJ op xs).2.getD j .undef):=by
  rcases kC op xs with ⟨x,y,z,rfl⟩ | he
  ·exact⟨rfl,h⟩
  ·rw[he]at hok ⊢
   obtain⟨g1,g2⟩:=Agc xs f h hok
   cases hb:ZT op with
   | true=>exact⟨g1,g2⟩
   | false =>
     refine⟨by simp [g1],fun j hj=> ?_⟩
     show Au O st.Aa m w (f j) (((strips xs).2.map A.weak).getD j .undef)
     rw[Alu]
     exact Anq (g2 j hj)
theorem Alm {v:Value} {x:A} {i:Nat} (ht:Au O st.Aa m w v x) (hok:Ar x.strip.1) (h:i∈x.strip.2.ids):i∈x.ids:=by
  cases x with
  | cnd g y =>
    have h1:=ht.1 hok.cons.1
    cases y<;>first | exact h | exact h1.elim
  | _=>exact h
theorem AiK: ∀(xs:List A) (f:Nat->Value),(∀ j,j<xs.length->Au O st.Aa m w (f j) (xs.getD j .undef))->Ar (strips xs).1-> ∀ x∈(strips xs).2,∀ i∈x.ids,∃ y∈xs,i∈y.ids:=by
  intro xs
  induction xs with
  | nil=>intro f _ _ x hx;simp [strips]at hx
  | cons z xs ih =>
    intro f h hok x hx i hi
    simp only[strips]at hok hx
    obtain⟨h1,h2⟩:=hok.append
    rcases List.mem_cons.1 hx with rfl | hx
    ·exact⟨z,List.mem_cons_self,Alm (h 0 (by simp)) h1 hi⟩
    ·obtain⟨y,hy,hi'⟩:=ih (fun j=>f (j+1)) (fun j hj=>by simpa using h (j+1) (by simpa using hj)) h2 x hx i hi
     exact⟨y,List.mem_cons_of_mem _ hy,hi'⟩
theorem aS {op:Op} {xs:List A} {f:Nat->Value} (h: ∀ j,j<xs.length->Au O st.Aa m w (f j) (xs.getD j .undef)) (hok:Ar (CJ op xs).1): ∀ x∈(CJ op xs).2,∀ i∈x.ids,∃ y∈xs,i∈y.ids:=by
  rcases kC op xs with ⟨x,y,z,rfl⟩ | he
  ·exact fun x hx i hi=>⟨x,hx,hi⟩
  ·rw[he]at hok ⊢
   have g:=AiK xs f h hok
   cases hb:ZT op with
   | true=>exact g
   | false =>
     intro x hx i hi
     obtain⟨z,hz,rfl⟩:=List.mem_map.1 (show x∈(strips xs).2.map A.weak from hx)
     rw[Anp]at hi
     exact g z hz i hi
theorem AhF {ops:Array Oper} {gd:Option (Nat×Bool)} (hS:Sim V0 O0 w0 O m st a w) (hgd:o.guard=gd) :
    (guardOf ops.toList st.tmps gd=some none->Region.wanted o (yielded ops a.tmps)=true) /\
    ∀ g,guardOf ops.toList st.tmps gd=some (some g)->Region.wanted o (yielded ops a.tmps)=g:=by
  cases gd with
  | none =>
    refine⟨fun _=>by unfold Region.wanted;rw[hgd],fun g h=>by simp [guardOf]at h⟩
  | some p =>
    obtain⟨j,want⟩:=p
    unfold Region.wanted
    rw[hgd]
    dsimp only
    have key: ∀ oj t,ops[j]? =some oj->oj.dst=some t->yielded ops a.tmps j=match a.tmps[t]? with | some (.bool b)=>some b | _=>none:=by
      intro oj t h1 h2
      unfold yielded
      have:(ops[j]?).bind (·.dst)=some t:=by rw[h1];exact h2
      rw[this]
      show(match a.tmps[t]? with | some (.bool b)=>some b | _=>none)=_
      cases a.tmps[t]? with
      | none=>rfl
      | some v=>cases v<;>rfl
    unfold guardOf
    have hop:ops.toList[j]? =ops[j]? :=by simp
    dsimp only
    rw[hop]
    cases hj:ops[j]? with
    | none=>exact⟨fun h=>by simp at h,fun g h=>by simp at h⟩
    | some oj =>
      dsimp only
      cases hd:oj.dst with
      | none=>exact⟨fun h=>by simp at h,fun g h=>by simp at h⟩
      | some t =>
        dsimp only
        have ht:=hS.tmps t
        rw[key oj t hj hd]
        cases hv:st.tmps.getD t .undef with
        | bool b =>
          refine⟨fun h=>by simp at h,fun g h=> ?_⟩
          simp only[Option.some.injEq]at h
          have htl:t<st.tmps.length:=by
            rcases Nat.lt_or_ge t st.tmps.length with h | h
            ·exact h
            ·rw[List.getD_eq_getElem?_getD,List.getElem?_eq_none h]at hv;cases hv
          have:=ht htl
          rw[hv]at this
          have:=this.bool
          have hts:t<a.tmps.size:=by rw[hS.size];exact htl
          rw[getD_eq hts,this,<- h]
          cases want<;>cases b<;>rfl
        | cnd g0 y =>
          cases y with
          | bool b =>
            refine⟨fun h=>by simp at h,fun g h=> ?_⟩
            simp only[Option.some.injEq]at h
            have htl:t<st.tmps.length:=by
              rcases Nat.lt_or_ge t st.tmps.length with h | h
              ·exact h
              ·rw[List.getD_eq_getElem?_getD,List.getElem?_eq_none h]at hv;cases hv
            have:=ht htl
            rw[hv]at this
            have hts:t<a.tmps.size:=by rw[hS.size];exact htl
            rw[getD_eq hts,<- h]
            cases g0 with
            | true =>
              have h1:Ai O w (a.tmps.getD t undef) (.bool b):=this.1 rfl
              generalize a.tmps.getD t undef=z at h1
              cases h1
              cases want<;>cases b<;>rfl
            | false =>
              rw[this.2 rfl];simp [undef]
          | _=>exact⟨fun h=>by simp at h,fun g h=>by simp at h⟩
        | _=>exact⟨fun h=>by simp at h,fun g h=>by simp at h⟩
theorem Ajw (v:Value):(ofConst v).ids=[]:=by
  have hc: ∀ u:Value,(FD u).Eh=[]:=by intro u;unfold FD;split<;>rfl
  have hc2: ∀ u:Value,(FD u).ids=[]:=by intro u;unfold FD;split<;>rfl
  unfold ofConst
  split
  ·rename_i vs
   cases vs.toList.all Value.oneCell' with
   | false=>rfl
   | true =>
     show(vs.toList.map FD).flatMap A.Eh=[]
     rw[List.flatMap_eq_nil_iff]
     intro x hx
     obtain⟨u,_,rfl⟩:=List.mem_map.1 hx
     exact hc u
  ·exact hc2 v
theorem AfO {a b:A} (h:sQ a b=true):xQ true a b=b/\xQ false a b=a:=by
  cases a<;>cases b<;>first | exact⟨rfl,rfl⟩ | exact(Bool.false_ne_true h).elim | skip
  case int.int k x k' y =>
    have e:k=k':=by cases k<;>cases k'<;>first | rfl | cases h
    subst e;exact⟨rfl,rfl⟩
  case sl.sl l l' =>
    obtain⟨t,xs⟩:=l
    obtain⟨t',xs'⟩:=l'
    unfold sQ Sl.cast at h
    unfold xQ Sl.cast
    dsimp only at h ⊢
    cases hd:decEq t' t with
    | isTrue e=>subst e;exact⟨rfl,rfl⟩
    | isFalse e=>rw[hd]at h;cases h
  case own.own q q' =>
    have e:q=q':=Nat.eq_of_beq_eq_true h
    subst e;exact⟨rfl,rfl⟩
theorem Acf: ∀ {aa bs:List A},okM aa bs=true->Abv true aa bs=bs/\Abv false aa bs=aa
  | [],[],_=>⟨rfl,rfl⟩
  | a::aa,b::bs,h=>by
    unfold okM at h
    obtain⟨h1,h2⟩:=Bool.and_eq_true_iff.1 h
    obtain⟨i1,i2⟩:=AfO h1
    obtain⟨j1,j2⟩:=Acf h2
    exact⟨by unfold Abv;rw[i1,j1],by unfold Abv;rw[i2,j2]⟩
  | [],_::_,h=>by cases h
  | _::_,[],h=>by cases h
theorem oI {c:Bool} {x:Option Obj} {y:Obj} (h:sS c x y=true) :
    (UL true x y=y/\ ∃ cs,x=some (.box cs)/\UL false x y= .box cs)\/c=true/\ ∃ e f l l',x=some (.arr e f l)/\y= .arr e true l'/\ ∀ g,UL g x y= .arr e true l:=by
  cases x with
  | none=>cases h
  | some x =>
    cases x with
    | box cs =>
      cases y with
      | box ds =>
        obtain⟨h1,h2⟩:=Acf (show okM cs ds=true from h)
        exact .inl ⟨congrArg Obj.box h1,cs,rfl,congrArg Obj.box h2⟩
      | _=>cases h
    | arr e f l =>
      cases y with
      | arr e' f' l' =>
        cases f' with
        | true =>
          have h':(c&&Nat.beq e e')=true:=h
          simp only[Bool.and_eq_true]at h'
          have:=Nat.eq_of_beq_eq_true h'.2
          subst this
          exact .inr ⟨h'.1,e,f,l,l',rfl,rfl,fun _=>rfl⟩
        | false=>cases h
      | _=>cases h
    | _=>cases h
def Closes (Aa U:List (Nat×Obj)):Prop:= ∀ p∈U,(∃ cs,Ah Aa p.1=some (.box cs)/\p.2= .box cs)\/ ∃ e f l,Ah Aa p.1=some (.arr e f l)/\p.2= .arr e true l
theorem _root_.Go.Proofs.YtadefjgbcapakaaGreatDoor.Vm.Sim.AmR {objs':List (Nat×Obj)} (hS:Sim V0 O0 w0 O m st a w) (h: ∀ n,Ah objs' n=Ah st.Aa n):Sim V0 O0 w0 O m {st with Aa:=objs'} a w:=by
  have he:Ip st.Aa m objs' m (fun _=>False):=fun o x hx=>.inr ⟨x,by rw[<- h];exact hx,rfl,rfl⟩
  have hp:Fe O w O w:=fun b k u h1 h2=>⟨h1,h2⟩
  refine⟨hS.defers,hS.size,fun t ht=>(hS.tmps t ht).step hp he (fun _ _=>id),fun o x hx=> ?_,hS.frame,hS.own,fun o x hx=>hS.ids o x (by rw[<- h];exact hx),hS.less,fun o ho hx=>hS.root o ho (by rw[<- h];exact hx),hS.Xf,hS.inv⟩
  have h0:=hS.Aa o x (by rw[<- h];exact hx)
  cases x with
  | box cs =>
    obtain⟨b,base,h1,h2⟩:=h0
    refine⟨b,base,h1,fun j hj=> ?_⟩
    obtain⟨g1,g2,u,g3,g4⟩:=h2 j hj
    exact⟨g1,g2,u,g3,g4.step hp he (fun _ _=>id)⟩
  | arr e f l=>exact h0
  | mp l=>exact h0
theorem _root_.Go.Proofs.YtadefjgbcapakaaGreatDoor.Vm.Sim.closes: ∀(U:List (Nat×Obj)) {O:Own} {st:St},Sim V0 O0 w0 O m st a w->Closes st.Aa U-> ∃ O',Sim V0 O0 w0 O' m {st with Aa:=Ap st.Aa U} a w:=by
  intro U
  induction U with
  | nil=>intro O st hS _;exact⟨O,hS⟩
  | cons p U ih =>
    intro O st hS h
    obtain⟨n,y⟩:=p
    have h0:=h (n,y) List.mem_cons_self
    have hrest:Closes (CY st.Aa n y) U:=by
      intro q hq
      have h1:=h q (List.mem_cons_of_mem _ hq)
      rw[Bl]
      by_cases hk:q.1=n
      ·rw[if_pos hk]
       rw[hk]at h1
       rcases h0 with ⟨cs,g1,g2⟩ | ⟨e,f,l,g1,g2⟩
       ·dsimp only at g1 g2
        rw[g1]at h1
        rcases h1 with ⟨cs',k1,k2⟩ | ⟨e',f',l',k1,k2⟩
        ·injection k1 with k1;rw[<- k1]at k2
         exact .inl ⟨cs,by rw[g2],k2⟩
        ·cases k1
       ·dsimp only at g1 g2
        rw[g1]at h1
        rcases h1 with ⟨cs',k1,k2⟩ | ⟨e',f',l',k1,k2⟩
        ·cases k1
        ·injection k1 with k1;injection k1 with q1 q2 q3
         subst q1;subst q3
         exact .inr ⟨e,true,l,by rw[g2],k2⟩
      ·rw[if_neg hk];exact h1
    show ∃ O',Sim V0 O0 w0 O' m {st with Aa:=Ap (CY st.Aa n y) U} a w
    rcases h0 with ⟨cs,g1,g2⟩ | ⟨e,f,l,g1,g2⟩
    ·dsimp only at g1 g2
     have hS':Sim V0 O0 w0 O m {st with Aa:=CY st.Aa n y} a w:=hS.AmR fun k=>by
       rw[Bl]
       by_cases hk:k=n
       ·rw[if_pos hk,hk,g1,g2]
       ·rw[if_neg hk]
     exact ih hS' hrest
    ·dsimp only at g1 g2
     obtain⟨O1,hS1,_⟩:=hS.freezes [(n,y)] (fun q hq=>by
       simp at hq;subst hq;exact⟨e,f,l,g1,g2⟩)
     exact ih hS1 hrest
def Bo (fet:Fet) (U:List (Nat×Obj)):Prop:= ∀ p∈U,∀ e f l,p.2= .arr e f l-> ∃ e' f',Ah fet p.1=some (.arr e' f' l)/\f=true
theorem Bo.append {fet:Fet} {U V:List (Nat×Obj)} (h:Bo fet U) (h':Bo fet V):Bo fet (U++V):=fun p hp=>(List.mem_append.1 hp).elim (h p) (h' p)
theorem Bo.nil (fet:Fet):Bo fet []:=fun p hp=>by cases hp
theorem Bo.one {fet:Fet} {n e e0:Nat} {f:Bool} {l:Sl} (h:Ah fet n=some (.arr e f l)):Bo fet [(n,.arr e0 true l)]:=by
  intro p hp e' f' l' he
  simp at hp;subst hp
  injection he with h1 h2 h3
  subst h2;subst h3
  exact⟨e,f,h,rfl⟩
theorem Bo.cons {fet:Fet} {n e e0:Nat} {f:Bool} {l:Sl} {U:List (Nat×Obj)} (h:Ah fet n=some (.arr e f l)) (h':Bo fet U):Bo fet ((n,.arr e0 true l)::U):=(Bo.one h).append h'
theorem Ai7 (fet:Fet) (k:CK) (c:A):Bo fet (pur fet k c).2.2:=by
  unfold pur
  split
  ·split
   ·rename_i h;exact .one h
   ·exact .nil _
  ·split<;>exact .nil _
  all_goals exact .nil _
theorem JJ (fet:Fet): ∀(ks:List (Bool×CK)) (cs:List A),Bo fet (AO fet ks cs).2.2.1:=by
  intro ks
  induction ks with
  | nil=>intro cs;cases cs<;>exact .nil _
  | cons k ks ih =>
    intro cs
    obtain⟨u,k⟩:=k
    cases cs with
    | nil=>cases u<;>cases k<;>exact .nil _
    | cons c cs =>
      cases u with
      | false=>exact(Ai7 fet k c).append (ih cs)
      | true =>
        cases k with
        | sl e t =>
          cases c with
          | own q =>
            simp only[AO]
            cases h:Ah fet q with
            | none=>exact .nil _
            | some x =>
              cases x with
              | arr e' f l=>exact .cons h (ih cs)
              | _=>exact .nil _
          | Dh=>exact ih cs
          | _=>exact .nil _
        | _=>cases c<;>exact .nil _
theorem AaB (fet:Fet) (s:Sh) (x:A):Bo fet (Bc fet s x).upd:=by
  cases s with
  | cell u k =>
    have:=JJ fet [(u,k)] [x]
    unfold Bc
    dsimp only
    generalize AO fet [(u,k)] [x]=r at this ⊢
    obtain⟨ok,cs,upd,del⟩:=r
    cases cs with
    | nil=>exact .nil _
    | cons c cs=>cases cs with
      | nil=>exact this
      | cons _ _=>exact .nil _
  | agg ks=>cases x<;>first | exact .nil _ | exact JJ fet _ _
  | box ks =>
    cases x with
    | ptr q off =>
      unfold Bc
      dsimp only
      cases FH fet q with
      | none=>exact .nil _
      | some cs=>exact JJ fet _ _
    | _=>exact .nil _
  | clo f' ks =>
    cases x with
    | clo g q =>
      unfold Bc
      dsimp only
      cases FH fet q with
      | none=>exact .nil _
      | some cs=>exact JJ fet _ _
    | _=>exact .nil _
  | map kt vt =>
    cases x with
    | own q =>
      unfold Bc
      dsimp only
      split<;>exact .nil _
    | _=>exact .nil _
theorem wM (fet:Fet): ∀(ss:List Sh) (xs:List A),Bo fet (AY fet ss xs).2.2.1:=by
  intro ss
  induction ss with
  | nil=>intro xs;cases xs<;>exact .nil _
  | cons s ss ih =>
    intro xs
    cases xs with
    | nil=>exact .nil _
    | cons x xs=>exact(AaB fet s x).append (ih xs)
theorem pF (fet:Fet) (rb:Nat->Nat) (rs:List A): ∀(bs:List (Nat×Sh)) (j:Nat),Bo fet (BO rb rs bs j).2.1:=by
  intro bs
  induction bs with
  | nil=>intro j;exact .nil _
  | cons b bs ih =>
    intro j p hp
    obtain⟨q,s⟩:=b
    rcases List.mem_cons.1 hp with rfl | hp
    ·intro e f l he
     cases s<;>cases he
    ·exact ih (j+1) p hp
theorem TW (fet:Fet) (d:Nat) (sg:Sig) (xs:List A):Bo fet (II fet d sg xs).upd :=
  (wM fet _ _).append (pF fet _ _ _ _)
theorem Vg {t:Nat} {k:TI->Dl} {fet:Fet} (h: ∀ ti,Bo fet (k ti).upd):Bo fet (DV C t k).upd:=by
  unfold DV BB
  cases C.T t with
  | none=>exact .nil _
  | some ti=>exact h ti
theorem JO {α :Type} {o:Option α} {k: α ->Dl} {fet:Fet} (h: ∀ x,o=some x->Bo fet (k x).upd):Bo fet (BB o k).upd:=by
  unfold BB
  cases o with
  | none=>exact .nil _
  | some x=>exact h x rfl
theorem Kw (fet:Fet) (t:Nat) (x:A) (lo hi:Option A):Bo fet (Es C fet t x lo hi).upd:=by
  unfold Es
  refine Vg fun ti=> ?_
  split
  ·exact JO fun _ _=>.nil _
  ·exact JO fun _ _=>JO fun _ _=>Vg fun _=>.nil _
  ·refine JO fun r hr=>JO fun _ _=>JO fun _ _=>Vg fun _=> ?_
   cases r.frz with
   | true=>exact .nil _
   | false=>exact .one (Hr hr)
  ·exact .nil _
theorem Af1 (fet:Fet) (d t:Nat) (x hi:A):Bo fet (fZ C fet d t x hi).upd:=by
  unfold fZ
  refine Vg fun ti=> ?_
  split
  ·exact JO fun _ _=>JO fun _ _=>JO fun _ _=>Vg fun _=>.nil _
  ·exact .nil _
theorem vN {fet:Fet} {xs:List A} (h:Ze o.op=true):Bo fet (opX C o xs fet).upd:=by
  obtain⟨dst,op,ty,pos,after,guard⟩:=o
  cases op with
  | slice t x lo hi mx =>
    show Bo fet (slX C dst fet t lo hi mx xs).upd
    unfold slX
    split
    ·unfold a1;split<;>first | exact Kw fet _ _ _ _ | exact .nil _
    ·unfold a2;split<;>first | exact Kw fet _ _ _ _ | exact .nil _
    ·unfold a2
     split
     ·dsimp only
      split
      ·rename_i d
       cases has C.cuts d with
       | false=>exact Kw fet _ _ _ _
       | true=>exact Af1 fet _ _ _ _
      ·exact Kw fet _ _ _ _
     ·exact .nil _
    ·unfold a3;split<;>first | exact Kw fet _ _ _ _ | exact .nil _
    ·exact .nil _
  | call c =>
    obtain⟨callee,args,ts⟩:=c
    cases callee with
    | value fo =>
      cases fo with
      | func f =>
        cases xs with
        | nil=>exact .nil _
        | cons x xs =>
          show Bo fet (YK C fet (dst.getD 0) f xs).upd
          unfold YK
          cases C.G f with
          | none=>exact .nil _
          | some sg=>exact TW fet _ _ _
      | tmp t =>
        cases xs with
        | nil=>exact .nil _
        | cons x xs =>
          show Bo fet (AdL C fet (dst.getD 0) t x xs).upd
          unfold AdL
          cases x with
          | fn n =>
            dsimp only
            cases C.dyn t with
            | none=>exact .nil _
            | some F=>exact TW fet _ _ _
          | clo f q =>
            dsimp only
            cases FH fet q with
            | none=>exact .nil _
            | some _ =>
              show Bo fet (match C.dyn t with | some sg=>II fet (dst.getD 0) (sg f) (xs++[A.clo 0 q]) | none=>.no).upd
              cases C.dyn t with
              | none=>exact .nil _
              | some F=>exact TW fet _ _ _
          | _=>exact .nil _
      | _=>cases h
    | _=>cases h
  | _=>cases h
theorem yX (hC:Jf P C) (hS:Sim V0 O0 w0 O m st a w) {ops:Array Oper} (hok:Ar (BM C ops.toList o st).ok) (next:Act->World->Prop) (Q:Exit->Act->World->Prop)
    (hn: ∀ O' m' a' w',Sim V0 O0 w0 O' m' (apply st o (BM C ops.toList o st)) a' w'->next a' w') :
    if Region.wanted o (yielded ops a.tmps)then o.wp P a w next Q else next (a.put o.dst undef) w:=by
  have hx0: ∀ j,j<(o.op.operands.toList.map (Ci st.tmps)).length->Au O st.Aa m w (a.eval (o.op.operands.getD j (.tmp 0))) ((o.op.operands.toList.map (Ci st.tmps)).getD j .undef):=by
    intro j hj
    have hj':j<o.op.operands.size:=by simpa using hj
    have e1:o.op.operands.getD j (.tmp 0)=o.op.operands[j]:=by rw[Array.getD_eq_getD_getElem?,Array.getElem?_eq_getElem hj'];rfl
    have e2:(o.op.operands.toList.map (Ci st.tmps)).getD j .undef=Ci st.tmps o.op.operands[j]:=by simp [List.getD_eq_getElem?_getD,hj']
    rw[e1,e2];exact rC hS _
  have hid0: ∀ y∈o.op.operands.toList.map (Ci st.tmps),∀ i∈y.ids,i∈st.ids:=by
    intro y hy i hi
    obtain⟨x,_,rfl⟩:=List.mem_map.1 hy
    cases x with
    | tmp t =>
      rcases Nat.lt_or_ge t st.tmps.length with h | h
      ·exact UK h hi
      ·have:Ci st.tmps (.tmp t)= .undef:=by simp [Ci,List.getD_eq_getElem?_getD,List.getElem?_eq_none h]
       rw[this]at hi;cases hi
    | const v=>have:Ci st.tmps (.const v)=ofConst v:=rfl
               rw[this,Ajw]at hi;cases hi
    | global g=>cases hi
    | func f=>cases hi
  obtain⟨hg1,hg2⟩:=AhF (ops:=ops) (o:=o) hS rfl
  unfold BM at hok hn
  cases hgo:guardOf ops.toList st.tmps o.guard with
  | none=>rw[hgo]at hok;exact(AP hok).elim
  | some r =>
    cases r with
    | none =>
      rw[hgo]at hok hn
      rw[hg1 hgo,if_pos rfl]
      dsimp only at hok hn
      obtain⟨hokA,hokB⟩:=hok.append
      obtain⟨hok1,hok2⟩:=hokA.append
      obtain⟨hB1,hB2⟩:=hokB.cons
      have hB2:=hB2.cons.1
      obtain⟨hl,hx⟩:=YB hx0 hok1
      have hid:=aS hx0 hok1
      have hg:=AeE hC hS (nZ st _) (by rw[hl];simp) (fun j hj=>hx j (by rw[<- hl];exact hj)) (fun x hx' i hi=>by
        obtain⟨y,hy,hi'⟩:=hid x hx' i hi
        exact .inl (hid0 y hy i hi')) hok2 (fun p hp=>(List.all_eq_true.1 hB1) p hp) hB2
      exact hg next Q hn
    | some g =>
      rw[hgo]at hok hn
      rw[hg2 g hgo]
      dsimp only at hok hn
      obtain⟨hokA,hokB⟩:=hok.append
      obtain⟨h1,hokB⟩:=hokB.cons
      obtain⟨h3,hokB⟩:=hokB.cons
      obtain⟨hdst,hmg⟩:=hokB.cons
      generalize hxs:(CJ o.op (o.op.operands.toList.map (Ci st.tmps)))=sf at *
      generalize hδ :opX C o sf.2 (CQ st sf.2)= δ at *
      have hfet:=nZ st sf.2
      generalize hfe:CQ st sf.2=fet at *
      have e1: δ.new=[]:=by simpa using h1
      have e3: δ.del=[]:=by simpa using h3
      have hm2: ∀ p∈ δ.upd,sS (Ze o.op) (Ah fet p.1) p.2=true:=fun p hp=>hmg _ (List.mem_map.2 ⟨p,hp,rfl⟩)
      cases g with
      | false =>
        rw[if_neg (by simp)]
        have hS1:=hS.put o.dst (x:=.cnd false δ.val) ⟨fun h=>by(cases h),fun _=>rfl⟩
        obtain⟨O1,hS2⟩:=hS1.closes (δ.upd.map (fun p=>(p.1,UL false (Ah fet p.1) p.2))) (by
          intro q hq
          obtain⟨p,hp,rfl⟩:=List.mem_map.1 hq
          rcases oI (hm2 p hp)with ⟨_,cs,h1,h2⟩ | ⟨_,e,f,l,l',h1,h2,h3⟩
          ·exact .inl ⟨cs,hfet _ _ h1,h2⟩
          ·exact .inr ⟨e,f,l,hfet _ _ h1,h3 false⟩)
        exact hn O1 m _ _ hS2
      | true =>
        rw[if_pos rfl]
        have hokA':Ar (sf.1++(δ.val.isVal:: δ.ok)):=by
          intro b hb
          have:=hokA (b|| !true) (List.mem_map.2 ⟨b,hb,rfl⟩)
          simpa using this
        obtain⟨hok1,hok2⟩:=hokA'.append
        obtain⟨hv,hok2⟩:=hok2.cons
        rw[<- hxs]at hok1
        obtain⟨hl,hx⟩:=YB hx0 hok1
        have hid:=aS hx0 hok1
        rw[hxs]at hl hx hid
        have hg:=AeE (xs:=sf.2) (fet:=fet) hC hS hfet (by rw[hl];simp) (fun j hj=>hx j (by rw[<- hl];exact hj)) (fun x hx' i hi=>by
          obtain⟨y,hy,hi'⟩:=hid x hx' i hi
          exact .inl (hid0 y hy i hi')) (by rw[hδ];exact hok2) (fun p hp=>by rw[hδ,e1]at hp;cases hp) (by rw[hδ,e1];rfl)
        rw[hδ]at hg
        refine hg next Q (fun O' m' a' w' h=>hn O' m' a' w' ?_)
        have eu: δ.upd.map (fun p=>(p.1,UL true (Ah fet p.1) p.2))= δ.upd:=by
          conv=>rhs;rw[<- List.map_id δ.upd]
          refine List.map_congr_left fun p hp=> ?_
          rcases oI (hm2 p hp)with ⟨h1,_⟩ | ⟨hc,e,f,l,l',h1,h2,h3⟩
          ·rw[h1];rfl
          ·have hcl:=vN (C:=C) (fet:=fet) (xs:=sf.2) hc
           rw[hδ]at hcl
           obtain⟨e',f',h4,_⟩:=hcl p hp _ _ _ h2
           rw[h1]at h4
           injection h4 with h4;injection h4 with q1 q2 q3
           rw[h3 true,q3,<- h2];rfl
        have ea:apply st o δ = {tmps:=put st.tmps o.dst δ.val,Aa:=Ap st.Aa δ.upd}:=by
          unfold apply;rw[e1,e3];rfl
        rw[ea]at h
        have eb: ∀ ok,apply st o {ok:=ok,val:=.cnd true δ.val,upd:= δ.upd.map (fun p=>(p.1,UL true (Ah fet p.1) p.2))}= {tmps:=put st.tmps o.dst (.cnd true δ.val),Aa:=Ap st.Aa δ.upd}:=by
          intro ok;unfold apply;dsimp only;rw[eu];rfl
        rw[eb]
        refine⟨h.defers,by have:=h.size;dsimp only at this ⊢;rw[PE]at this ⊢;exact this,fun t ht=> ?_,h.Aa,h.frame,h.own,h.ids,h.less,h.root,h.Xf,h.inv⟩
        have ht':t<st.tmps.length:=by
          have ht2:t<(put st.tmps o.dst (.cnd true δ.val)).length:=ht
          rw[PE]at ht2;exact ht2
        have:=h.tmps t (by show t<(put st.tmps o.dst δ.val).length;rw[PE];exact ht')
        dsimp only at this ⊢
        rw[tJ _ _ _ _ ht']at this
        rw[tJ _ _ _ _ ht']
        by_cases hd:o.dst=some t
        ·rw[if_pos hd]at this ⊢
         exact⟨fun _=>this.ApX hv,fun h=>by(cases h)⟩
        ·rw[if_neg hd]at this ⊢;exact this
end
end Go.Proofs.YtadefjgbcapakaaGreatDoor.Vm
namespace Go.Proofs.YtadefjgbcapakaaGreatDoor.Vm
open Classical
section
variable {P:Program} {C:Ctx} {V0:Nat->Value} {O0 O:Own} {w0 w:World} {m:Nat->Value} {st:St} {a:Act}
theorem Aft (p:Nat->Bool) (l:List (Nat×Obj)) (k:Nat):Ah (l.filter (fun q=>p q.1)) k=if p k then Ah l k else none:=by
  induction l with
  | nil=>simp [Ah]
  | cons q r ih =>
    obtain⟨n,x⟩:=q
    by_cases hp:p n=true
    ·rw[List.filter_cons_of_pos (by simpa using hp),CX,CX,ih]
     by_cases hk:n=k
     ·subst hk;simp [hp]
     ·simp [hk]
    ·rw[List.filter_cons_of_neg (by simpa using hp),CX,ih]
     by_cases hk:n=k
     ·subst hk;simp [hp]
     ·simp [hk]
theorem Al5 (g:Obj->Obj) (l:List (Nat×Obj)) (k:Nat):Ah (l.map (fun q=>(q.1,g q.2))) k=(Ah l k).map g:=by
  induction l with
  | nil=>rfl
  | cons q r ih =>
    obtain⟨n,x⟩:=q
    rw[List.map_cons,CX,CX,ih]
    by_cases hk:n=k<;>simp [hk]
theorem drop_length (keep:List Nat): ∀(l:List A) (i:Nat),(drop keep l i).length=l.length:=by
  intro l
  induction l with
  | nil=>intro i;rfl
  | cons x r ih=>intro i;simp [drop,ih]
theorem Aj8 (keep:List Nat): ∀(l:List A) (i t:Nat),(drop keep l i).getD t .undef= .undef\/(drop keep l i).getD t .undef=l.getD t .undef:=by
  intro l
  induction l with
  | nil=>intro i t;exact .inl (by simp [drop])
  | cons x r ih =>
    intro i t
    cases t with
    | zero =>
      simp only[drop,List.getD_cons_zero]
      cases has keep i with
      | true=>exact .inr rfl
      | false=>exact .inl rfl
    | succ t=>simpa [drop]using ih (i+1) t
theorem Sim.dropped (hS:Sim V0 O0 w0 O m st a w) (keep Aa:List Nat):Sim V0 O0 w0 O m {tmps:=drop keep st.tmps 0,Aa:=st.Aa.filter (fun p=>has Aa p.1)} a w:=by
  have hag: ∀ o x,Ah (st.Aa.filter (fun p=>has Aa p.1)) o=some x->Ah st.Aa o=some x:=by
    intro o x h
    rw[Aft (has Aa)]at h
    split at h
    ·exact h
    ·cases h
  have hE:Ip st.Aa m (st.Aa.filter (fun p=>has Aa p.1)) m (fun _=>False):=fun o x h=>.inr ⟨x,hag o x h,rfl,rfl⟩
  have hp:Fe O w O w:=fun _ _ _ h hc=>⟨h,hc⟩
  refine⟨hS.defers,by rw[hS.size];exact(drop_length _ _ _).symm,fun t ht=> ?_,fun o x h=> ?_,hS.frame,hS.own,fun o x h=>hS.ids o x (hag o x h),hS.less,fun o hr ho=>(by obtain⟨x,hx⟩:=Option.isSome_iff_exists.1 ho;exact hS.root o hr (by rw[hag o x hx];rfl)),hS.Xf,hS.inv⟩
  ·have ht':t<st.tmps.length:=by
     have:t<(drop keep st.tmps 0).length:=ht
     rwa [drop_length]at this
   show Au O _ m w _ ((drop keep st.tmps 0).getD t .undef)
   rcases Aj8 keep st.tmps 0 t with h | h
   ·rw[h];trivial
   ·rw[h];exact(hS.tmps t ht').step hp hE (fun _ _ h=>h)
  ·exact(hS.Aa o x (hag o x h)).step (T:=fun _=>False) (Moves.refl O _ w) ⟨fun _ _ _ h=>h,fun _ _ _ _ h _=>h⟩ hE id rfl (fun _ _ h=>h)
def rho (f t o:Nat):Nat:=if o=f then t else o
theorem Vb (f t o:Nat):(bif Nat.beq o f then t else o)=rho f t o:=by
  rw[L9];unfold rho;by_cases h:o=f<;>simp [h]
def Iy (f t:Nat):A->A
  | .ptr o off=>.ptr (rho f t o) off
  | .own o=>.own (rho f t o)
  | .clo g o=>.clo g (rho f t o)
  | .bsl o n=>.bsl (rho f t o) n
  | .Dc o i off=>.Dc (rho f t o) i off
  | c=>c
theorem AmN (f t:Nat) (cs:List A):FK f t (.agg cs)= .agg (cs.map (Iy f t)):=by
  show A.agg (cs.map _)=_
  congr 1
  refine List.map_congr_left fun c _=> ?_
  cases c<;>first | rfl | (simp only[Iy,Vb])
theorem Ap8 (f t:Nat) (c:A):(∃ cs,c= .agg cs)\/FK f t c=Iy f t c:=by
  cases c<;>first | exact .inl ⟨_,rfl⟩ | exact .inr rfl | (right;simp only[Iy,FK,Vb])
structure Ren (O:Own) (Aa:List (Nat×Obj)) (m:Nat->Value) (f t:Nat) (O':Own) (objs':List (Nat×Obj)) (m':Nat->Value):Prop where
  here: ∀ x',Ah objs' t=some x'-> ∃ x,Ah Aa f=some x/\x.shp=x'.shp/\m' t=m f
  there: ∀ o x',o≠t->Ah objs' o=some x'->o≠f/\ ∃ x,Ah Aa o=some x/\x.shp=x'.shp/\m' o=m o
  own: ∀ b k,O' b k=(O b k).map (rho f t)
theorem Ren.Bf {O':Own} {Aa objs':List (Nat×Obj)} {m':Nat->Value} {f t:Nat} (h:Ren O Aa m f t O' objs' m'):Fe O w O' w:=by
  intro b k u hn hc
  exact⟨by rw[h.own,hn];rfl,hc⟩
theorem AL.ren {O':Own} {Aa objs':List (Nat×Obj)} {m':Nat->Value} {f t:Nat} (h:Ren O Aa m f t O' objs' m') {v:Value} {c:A} (hn: ∀ i∈c.Eh,i=t->f=t) (hc:AL O Aa m w v c) :
    AL O' objs' m' w v (Iy f t c):=by
  have key: ∀ o,(o=t->f=t)-> ∀ x',Ah objs' (rho f t o)=some x'-> ∃ x,Ah Aa o=some x/\x.shp=x'.shp/\m' (rho f t o)=m o:=by
    intro o ho x' hx
    unfold rho at hx ⊢
    by_cases hf:o=f
    ·rw[if_pos hf]at hx ⊢;rw[hf];exact h.here x' hx
    ·rw[if_neg hf]at hx ⊢
     exact(h.there o x' (fun e=>hf (by rw[e,ho e])) hx).2
  cases c with
  | ptr o off =>
    simp only[AL,Iy]at *
    refine⟨hc.1,?_⟩
    have hc:=hc.2
    cases hx:Ah objs' (rho f t o)with
    | none=>simp
    | some x' =>
      obtain⟨x,h1,h2,h3⟩:=key o (hn o (by simp [A.Eh])) x' hx
      rw[h1]at hc;simp only[Option.map_some,h2]at hc;simp only[Option.map_some,h3];exact hc
  | own o =>
    simp only[AL,Iy]at *
    refine⟨hc.1,?_⟩
    have hc:=hc.2
    cases hx:Ah objs' (rho f t o)with
    | none=>simp
    | some x' =>
      obtain⟨x,h1,h2,h3⟩:=key o (hn o (by simp [A.Eh])) x' hx
      rw[h1]at hc;simp only[Option.map_some,h2]at hc;simp only[Option.map_some,h3];exact hc
  | clo k o =>
    simp only[AL,Iy]at *
    obtain⟨h0,p,h4,h5,hc⟩:=hc
    refine⟨h0,p,h4,h5.Bf h.Bf,?_⟩
    cases hx:Ah objs' (rho f t o)with
    | none=>simp
    | some x' =>
      obtain⟨x,h1,h2,h3⟩:=key o (hn o (by simp [A.Eh])) x' hx
      rw[h1]at hc;simp only[Option.map_some,h2]at hc;simp only[Option.map_some,h3];exact hc
  | bsl o n =>
    simp only[AL,Iy]at *
    refine⟨hc.1,?_⟩
    have hc:=hc.2
    cases hx:Ah objs' (rho f t o)with
    | none=>simp
    | some x' =>
      obtain⟨x,h1,h2,h3⟩:=key o (hn o (by simp [A.Eh])) x' hx
      rw[h1]at hc;simp only[Option.map_some,h2]at hc;simp only[Option.map_some,h3];exact hc
  | Dc o i off =>
    simp only[AL,Iy]at *
    refine⟨hc.1,?_⟩
    have hc:=hc.2
    cases hx:Ah objs' (rho f t o)with
    | none=>simp
    | some x' =>
      obtain⟨x,h1,h2,h3⟩:=key o (hn o (by simp [A.Eh])) x' hx
      rw[h1]at hc;simp only[Option.map_some,h2]at hc;simp only[Option.map_some,h3];exact hc
  | elt cs =>
    obtain⟨b,off,hv,hc⟩:=hc
    refine⟨b,off,hv,fun j hj=> ?_⟩
    obtain⟨h1,u,h2,h3⟩:=hc j hj
    obtain⟨h4,h5⟩:=h.Bf _ _ _ h1 h2
    exact⟨h4,u,h5,h3.Bf h.Bf⟩
  | fn f=>exact Ai.Bf h.Bf hc
  | ump _=>exact hc
  | undef=>exact hc
  | Dh=>exact hc
  | bool b=>exact Ai.Bf h.Bf hc
  | int k n=>exact Ai.Bf h.Bf hc
  | str s=>exact Ai.Bf h.Bf hc
  | sl l=>exact Ai.Bf h.Bf hc
  | sln l=>exact Ai.Bf h.Bf hc
  | Dk=>exact Ai.Bf h.Bf hc
  | usl _ _=>exact hc
  | agg _=>exact hc
  | tup _=>exact hc
  | box _=>exact hc
  | cbx _ _=>exact hc
  | cnd _ _=>exact hc
theorem Ren.exts {O':Own} {Aa objs':List (Nat×Obj)} {m':Nat->Value} {f t:Nat} (h:Ren O Aa m f t O' objs' m'):Ip Aa m objs' m' (fun o=>o=t/\f≠t):=by
  intro o x' hx
  by_cases ho:o=t
  ·subst ho
   by_cases hf:f=o
   ·right
    obtain⟨x,h1,h2,h3⟩:=h.here x' hx
    rw[hf]at h1 h3
    exact⟨x,h1,h2,h3⟩
   ·exact .inl ⟨rfl,hf⟩
  ·exact .inr (h.there o x' ho hx).2
theorem Au.ren {O':Own} {Aa objs':List (Nat×Obj)} {m':Nat->Value} {f t:Nat} (h:Ren O Aa m f t O' objs' m') {v:Value} {c:A} (hn: ∀ i∈c.ids,i=t->f=t) (hc:Au O Aa m w v c) :
    Au O' objs' m' w v (FK f t c):=by
  cases c with
  | agg cs =>
    rw[AmN]
    obtain⟨vs,h1,h2,h3⟩:=hc
    refine⟨vs,h1,by simpa using h2,fun j hj=> ?_⟩
    have hj':j<cs.length:=by simpa using hj
    have e:(cs.map (Iy f t)).getD j .undef=Iy f t (cs.getD j .undef):=by
      simp [List.getD_eq_getElem?_getD,hj']
    rw[e]
    exact(h3 j hj').ren h (fun i hi=>hn i (JM (f:=A.Eh) hj' hi))
  | tup l=>exact Au.step h.Bf h.exts (fun o ho hN=>hN.2 (hn o ho hN.1)) hc
  | cnd g c=>exact Au.step h.Bf h.exts (fun o ho hN=>hN.2 (hn o ho hN.1)) hc
  | undef=>trivial
  | ptr o off =>
    have e:FK f t (.ptr o off)=Iy f t (.ptr o off):=by simp only[Iy,FK,Vb]
    rw[e];exact AL.ren (w:=w) (m:=m) (c:=.ptr o off) h hn hc
  | own o =>
    have e:FK f t (.own o)=Iy f t (.own o):=by simp only[Iy,FK,Vb]
    rw[e];exact AL.ren (w:=w) (m:=m) (c:=.own o) h hn hc
  | clo g o =>
    have e:FK f t (.clo g o)=Iy f t (.clo g o):=by simp only[Iy,FK,Vb]
    rw[e];exact AL.ren (w:=w) (m:=m) (c:=.clo g o) h hn hc
  | bsl o n =>
    have e:FK f t (.bsl o n)=Iy f t (.bsl o n):=by simp only[Iy,FK,Vb]
    rw[e];exact AL.ren (w:=w) (m:=m) (c:=.bsl o n) h hn hc
  | Dc o i off =>
    have e:FK f t (.Dc o i off)=Iy f t (.Dc o i off):=by simp only[Iy,FK,Vb]
    rw[e];exact AL.ren (w:=w) (m:=m) (c:=.Dc o i off) h hn hc
  | bool b=>exact AL.ren (w:=w) (m:=m) (c:=.bool b) h hn hc
  | int k n=>exact AL.ren (w:=w) (m:=m) (c:=.int k n) h hn hc
  | str s=>exact AL.ren (w:=w) (m:=m) (c:=.str s) h hn hc
  | sl l=>exact AL.ren (w:=w) (m:=m) (c:=.sl l) h hn hc
  | sln l=>exact AL.ren (w:=w) (m:=m) (c:=.sln l) h hn hc
  | Dh=>exact AL.ren (w:=w) (m:=m) (c:=.Dh) h hn hc
  | Dk=>exact AL.ren (w:=w) (m:=m) (c:=.Dk) h hn hc
  | elt cs=>exact AL.ren (w:=w) (m:=m) (c:=.elt cs) h hn hc
  | fn g=>exact AL.ren (w:=w) (m:=m) (c:=.fn g) h hn hc
  | ump _=>exact hc
  | usl _ _=>exact hc
  | box _=>exact hc
  | cbx _ _=>exact hc
theorem AL.FK {O':Own} {Aa objs':List (Nat×Obj)} {m':Nat->Value} {f t:Nat} (h:Ren O Aa m f t O' objs' m') {v:Value} {c:A} (hn: ∀ i∈c.Eh,i=t->f=t) (hc:AL O Aa m w v c) :
    AL O' objs' m' w v (Vm.FK f t c):=by
  rcases Ap8 f t c with ⟨cs,rfl⟩ | e
  ·exact hc.elim
  ·rw[e];exact hc.ren h hn
theorem Dx.ren {O':Own} {Aa objs':List (Nat×Obj)} {m':Nat->Value} {f t:Nat} (h:Ren O Aa m f t O' objs' m') {o:Nat} {x:Obj} (hm:m' (rho f t o)=m o) (hn: ∀ i∈x.ids,i=t->f=t) (hx:Dx O Aa m w o x) :
    Dx O' objs' m' w (rho f t o) (jT f t x):=by
  cases x with
  | box cs =>
    obtain⟨b,base,h1,h2⟩:=hx
    refine⟨b,base,by rw[hm];exact h1,fun j hj=> ?_⟩
    have hj':j<cs.length:=by simpa using hj
    obtain⟨h3,h4,u,h5,h6⟩:=h2 j hj'
    refine⟨by rw[h.own,h3];rfl,h4,u,h5,?_⟩
    have e:(cs.map (Vm.FK f t)).getD j .undef=Vm.FK f t (cs.getD j .undef):=by
      simp [List.getD_eq_getElem?_getD,hj']
    rw[e]
    exact h6.FK h (fun i hi=>hn i (JM (f:=A.Eh) hj' hi))
  | arr e frz l =>
    obtain⟨h0,hx⟩:=hx
    refine⟨h0,?_⟩
    rcases hx with ⟨h1,h2,h3⟩ | ⟨h1,g,cap,cur,h2,h3,h4,h5,h6,h7,h8,h9⟩
    ·exact .inl ⟨h1,h2,by rw[hm];exact h3⟩
    ·refine .inr ⟨h1,g,cap,cur,by rw[hm];exact h2,h3,h4,h5,h6,fun i j hi hj=> ?_,fun k hk hge=> ?_,fun k hk=> ?_⟩
     ·obtain⟨u,h10,h11⟩:=h7 i j hi hj
      exact⟨u,h10,h11.Bf h.Bf⟩
     ·rw[h.own,h8 k hk hge];rfl
     ·rw[h.own,h9 k hk];cases frz<;>rfl
  | mp l =>
    obtain⟨r,es,ck,h1,h2,h3,h4,h5⟩:=(show Gx O w o (m o) l from hx)
    refine(⟨r,es,ck,by rw[hm];exact h1,h2,by rw[h.own,h3];rfl,h4,fun i p hi=> ?_⟩:Gx O' w (rho f t o) (m' (rho f t o)) l)
    obtain⟨e,k1,k2,k3⟩:=h5 i p hi
    exact⟨e,k1,k2.Bf h.Bf,k3.Bf h.Bf⟩
theorem Sim.renamed (hS:Sim V0 O0 w0 O m st a w) {f t:Nat} {x:Obj} (hf:Ah st.Aa f=some x) (ht:f=t\/He st t) :
    ∃ O' m',Sim V0 O0 w0 O' m' {tmps:=st.tmps.map (FK f t),Aa:=(CY (Jj st.Aa f) t x).map (fun p=>(p.1,jT f t p.2))} a w:=by
  have hag: ∀ o,Ah ((CY (Jj st.Aa f) t x).map (fun p=>(p.1,jT f t p.2))) o=(if o=t then some x else if o=f then none else Ah st.Aa o).map (jT f t):=by
    intro o
    rw[Al5,Bl,QT]
  have hshp: ∀ y,(jT f t y).shp=y.shp:=by intro y;cases y<;>rfl
  have h255:f≠255:=hS.ids f x hf
  have hR:Ren O st.Aa m f t (fun b k=>(O b k).map (rho f t)) ((CY (Jj st.Aa f) t x).map (fun p=>(p.1,jT f t p.2))) (fun o=>if o=t then m f else m o):=by
    refine⟨fun x' hx=> ?_,fun o x' ho hx=> ?_,fun _ _=>rfl⟩
    ·rw[hag,if_pos rfl]at hx
     simp only[Option.map_some,Option.some.injEq]at hx
     exact⟨x,hf,by rw[<- hx,hshp],if_pos rfl⟩
    ·rw[hag,if_neg ho]at hx
     by_cases hof:o=f
     ·rw[if_pos hof]at hx;cases hx
     ·rw[if_neg hof]at hx
      cases hy:Ah st.Aa o with
      | none=>rw[hy]at hx;cases hx
      | some y =>
        rw[hy]at hx
        simp only[Option.map_some,Option.some.injEq]at hx
        exact⟨hof,y,rfl,by rw[<- hx,hshp],if_neg ho⟩
  have hids: ∀ i∈st.ids,i=t->f=t:=by
    intro i hi he
    rcases ht with h | h
    ·exact h
    ·exact absurd (he▸hi) h.ids
  have hmr: ∀ o,(o=t->f=t)->(fun o=>if o=t then m f else m o) (rho f t o)=m o:=by
    intro o ho
    unfold rho
    by_cases h1:o=f
    ·rw[if_pos h1,h1];exact if_pos rfl
    ·rw[if_neg h1];exact if_neg (fun e=>h1 (by rw[e,ho e]))
  refine⟨(fun b k=>(O b k).map (rho f t)),(fun o=>if o=t then m f else m o),hS.defers,by rw[hS.size];simp,fun i hi=> ?_,fun o y hy=> ?_,hS.frame,fun b k o hb ho hne=> ?_,fun o y hy=> ?_,fun b k hb h=>hS.less b k hb (fun e=>h (by show(O b k).map _=none;rw[e];rfl)),fun o hr ho=> ?_,fun b k hb h=>by show(O b k).map (rho f t)=_;rw[hS.Xf b k hb h];exact congrArg some (if_neg (fun e=>h255 e.symm)),hS.inv⟩
  ·have hi':i<st.tmps.length:=by simpa using hi
   have e:(st.tmps.map (FK f t)).getD i .undef=FK f t (st.tmps.getD i .undef):=by
     simp [List.getD_eq_getElem?_getD,hi']
   show Au _ _ _ _ _ ((st.tmps.map (FK f t)).getD i .undef)
   rw[e]
   exact(hS.tmps i hi').ren hR (fun j hj=>hids j (UK hi' hj))
  ·have hy':=hy
   dsimp only at hy
   rw[hag]at hy
   by_cases h1:o=t
   ·rw[if_pos h1]at hy
    simp only[Option.map_some,Option.some.injEq]at hy
    subst hy
    have:=(hS.Aa f x hf).ren hR (hmr f (fun e=>e)) (fun i hi=>hids i (Pm hf hi))
    have e:rho f t f=t:=if_pos rfl
    rw[e]at this;rw[h1];exact this
   ·rw[if_neg h1]at hy
    by_cases h2:o=f
    ·rw[if_pos h2]at hy;cases hy
    ·rw[if_neg h2]at hy
     cases hz:Ah st.Aa o with
     | none=>rw[hz]at hy;cases hy
     | some z =>
       rw[hz]at hy
       simp only[Option.map_some,Option.some.injEq]at hy
       subst hy
       have:=(hS.Aa o z hz).ren hR (hmr o (fun e=>absurd e h1)) (fun i hi=>hids i (Pm hz hi))
       have e:rho f t o=o:=if_neg h2
       rw[e]at this;exact this
  ·cases hq:O b k with
   | none =>
     have:(O b k).map (rho f t)=some o:=ho
     rw[hq]at this;cases this
   | some o1 =>
     have:(O b k).map (rho f t)=some o:=ho
     rw[hq]at this
     simp only[Option.map_some,Option.some.injEq]at this
     refine hS.own b k o1 hb hq (fun e=>hne ?_)
     rw[<- this,e];exact if_neg (fun e=>h255 e.symm)
  ·dsimp only at hy
   rw[hag]at hy
   by_cases h1:o=t
   ·rw[h1]
    rcases ht with h | h
    ·rw[<- h];exact h255
    ·exact h.ne
   ·rw[if_neg h1]at hy
    by_cases h2:o=f
    ·rw[h2];exact h255
    ·rw[if_neg h2]at hy
     cases hz:Ah st.Aa o with
     | none=>rw[hz]at hy;cases hy
     | some z=>exact hS.ids o z hz
  ·dsimp only at ho ⊢
   rw[hag]at ho
   by_cases h1:o=t
   ·rw[if_pos h1]
    rcases ht with h | h
    ·rw[h1,<- h];exact hS.root f (by rw[h,<- h1];exact hr) (by rw[hf];rfl)
    ·rw[h1,h.root]at hr;cases hr
   ·rw[if_neg h1]at ho ⊢
    by_cases h2:o=f
    ·rw[if_pos h2]at ho;cases ho
    ·rw[if_neg h2]at ho
     refine hS.root o hr ?_
     cases hz:Ah st.Aa o with
     | none=>rw[hz]at ho;cases ho
     | some z=>rfl
theorem AiB: ∀(l:List (Nat×Nat)) {O:Own} {m:Nat->Value} {st:St},Sim V0 O0 w0 O m st a w->(jU st l).1=true-> ∃ O' m',Sim V0 O0 w0 O' m' (jU st l).2 a w:=by
  intro l
  induction l with
  | nil=>intro O m st hS _;exact⟨O,m,hS⟩
  | cons p r ih =>
    intro O m st hS h
    obtain⟨f,t⟩:=p
    simp only[jU]at h ⊢
    cases hx:Ah st.Aa f with
    | none=>rw[hx]at h;exact ih hS h
    | some x =>
      rw[hx]at h
      dsimp only at h ⊢
      rw[Bool.and_eq_true,L9]at h
      obtain⟨O1,m1,hS1⟩:=hS.renamed (t:=t) hx (by
        by_cases hft:f=t
        ·exact .inl hft
        ·have h1:=h.1
         rw[show decide (f=t)=false by simpa using hft]at h1
         exact .inr (Ey h1))
      exact ih hS1 h.2
theorem AhC: ∀(l:List Nat) {O:Own} {st:St},Sim V0 O0 w0 O m st a w-> ∃ O',Sim V0 O0 w0 O' m {st with Aa:=AdW st.Aa l} a w:=by
  intro l
  induction l with
  | nil=>intro O st hS;exact⟨O,hS⟩
  | cons n r ih =>
    intro O st hS
    simp only[AdW]
    cases hx:Ah st.Aa n with
    | none=>exact ih hS
    | some x =>
      cases x with
      | mp _=>exact ih hS
      | box cs=>exact ih hS
      | arr e f l =>
        obtain⟨O1,hS1,_⟩:=hS.Yl hx
        exact ih hS1
theorem ZC {t:Nat} {v:Value} (hs:a.tmps.getD t undef=v) (hlt:t<a.tmps.size):a.put (some t) v=a:=by
  have:a.tmps.setIfInBounds t v=a.tmps:=by
    apply Array.ext_getElem?
    intro i
    rw[Array.getElem?_setIfInBounds]
    by_cases hi:t=i
    ·subst hi
     rw[if_pos rfl,if_pos hlt,getD_eq hlt,hs]
    ·rw[if_neg hi]
  simp only[Act.put,this]
theorem Akq {x:A} (h:Yu x=true):x= .Dh:=by cases x<;>first | rfl | cases h
theorem AiD {id:Nat}: ∀(ts:List Nat) {O:Own} {m:Nat->Value} {st:St},Sim V0 O0 w0 O m st a w->(∀ t∈ts,t<st.tmps.length)->(∀ t∈ts,AL O st.Aa m w (a.tmps.getD t undef) (.own id)) ->
    Sim V0 O0 w0 O m {st with tmps:=jX id ts st.tmps} a w:=by
  intro ts
  induction ts with
  | nil=>intro O m st hS _ _;exact hS
  | cons t r ih =>
    intro O m st hS hl hc
    have hlt:=hl t List.mem_cons_self
    have h1:=hS.put (some t) (x:=.own id) (v:=a.tmps.getD t undef) ((hc t List.mem_cons_self).toT)
    rw[ZC rfl (by rw[hS.size];exact hlt)]at h1
    exact ih (st:= {st with tmps:=st.tmps.set t (.own id)}) h1 (fun q hq=>by simpa using hl q (List.mem_cons_of_mem _ hq)) (fun q hq=>hc q (List.mem_cons_of_mem _ hq))
theorem Ai2: ∀(l:List (List Nat×Nat×Ty×Nat)) {O:Own} {m:Nat->Value} {st:St},Sim V0 O0 w0 O m st a w->(owns l st).1=true-> ∃ O' m',Sim V0 O0 w0 O' m' (owns l st).2 a w:=by
  intro l
  induction l with
  | nil=>intro O m st hS _;exact⟨O,m,hS⟩
  | cons p r ih =>
    intro O m st hS h
    obtain⟨ts,e,ty,id⟩:=p
    unfold owns at h ⊢
    cases hany:ts.any (fun t=>Yu (st.tmps.getD t .undef))with
    | false=>rw[hany]at h;exact ih hS h
    | true =>
      rw[hany]at h
      simp only[cond_true]at h ⊢
      rw[Bool.and_eq_true,Bool.and_eq_true]at h
      obtain⟨⟨h1,h2⟩,h3⟩:=h
      have hall: ∀ t∈ts,st.tmps.getD t .undef= .Dh/\t<st.tmps.length:=by
        intro t ht
        have:=List.all_eq_true.1 h1 t ht
        rw[Bool.and_eq_true,Nat.blt_eq]at this
        exact⟨Akq this.1,this.2⟩
      have hval: ∀ t∈ts,a.tmps.getD t undef= .slice none 0 0:=by
        intro t ht
        have hv:=hS.tmps t (hall t ht).2
        rw[(hall t ht).1]at hv
        exact hv
      cases ts with
      | nil=>cases hany
      | cons t ts =>
        have hlt:=(hall t List.mem_cons_self).2
        obtain⟨O',m',hS'⟩:=Z7 hS (d:=t) (e:=e) (t:=ty) (frz:=false) (del:=[]) (Ey h2)
        rw[ZC (hval t List.mem_cons_self) (by rw[hS.size];exact hlt)]at hS'
        have hslot:=hS'.tmps t (by simpa using hlt)
        have e0:(st.tmps.set t (.own id)).getD t .undef= .own id:=by simp [List.getD_eq_getElem?_getD,hlt]
        rw[e0,hval t List.mem_cons_self]at hslot
        have hfin:=AiD (a:=a) ts hS' (fun q hq=>by simpa using (hall q (List.mem_cons_of_mem _ hq)).2) (fun q hq=>by
          rw[hval q (List.mem_cons_of_mem _ hq)];exact hslot)
        exact ih hfin h3
theorem AkV: ∀(l:List (Option Nat×Nat×Ty)) {O:Own} {st:St},Sim V0 O0 w0 O m st a w-> ∃ O',Sim V0 O0 w0 O' m (pzs l st) a w:=by
  intro l
  induction l with
  | nil=>intro O st hS;exact⟨O,hS⟩
  | cons p r ih =>
    intro O st hS
    obtain⟨b,j,ty⟩:=p
    cases b with
    | none =>
      unfold pzs
      cases hx:st.tmps.getD j .undef with
      | Dh =>
        dsimp only
        have hlt:j<st.tmps.length:=by
          rcases Nat.lt_or_ge j st.tmps.length with h | h
          ·exact h
          ·rw[List.getD_eq_getElem?_getD,List.getElem?_eq_none h]at hx;cases hx
        have hc:=hS.tmps j hlt
        rw[hx]at hc
        have hc:a.tmps.getD j undef= .slice none 0 0:=hc
        have h2:=hS.put (some j) (x:=.sl ⟨ty,[]⟩) (v:=a.tmps.getD j undef) (by rw[hc];exact Ai.nil ty)
        rw[ZC rfl (by rw[hS.size];exact hlt)]at h2
        exact ih h2
      | own o =>
        dsimp only
        cases ho:Ah st.Aa o with
        | none=>exact ih hS
        | some y =>
          cases y with
          | box _=>exact ih hS
          | mp _=>exact ih hS
          | arr e f l =>
            dsimp only
            obtain⟨O1,hS1,hp1,_,hv1,_⟩:=hS.Yl ho
            have hlt:j<st.tmps.length:=by
              rcases Nat.lt_or_ge j st.tmps.length with h | h
              ·exact h
              ·rw[List.getD_eq_getElem?_getD,List.getElem?_eq_none h]at hx;cases hx
            have hc:=hS.tmps j hlt
            rw[hx]at hc
            have hc:AL O st.Aa m w (a.tmps.getD j undef) (.own o):=hc
            have hc2:=hc.2
            rw[ho]at hc2
            have hm:a.tmps.getD j undef=m o:=hc2
            have h2:=hS1.put (some j) (x:=.sl l) (v:=a.tmps.getD j undef) (by rw[hm];exact hv1)
            rw[ZC rfl (by rw[hS.size];exact hlt)]at h2
            exact ih h2
      | _=>exact ih hS
    | some b =>
      unfold pzs
      cases hb:Ah st.Aa b with
      | none=>exact ih hS
      | some y =>
        cases y with
        | arr _ _ _=>exact ih hS
        | mp _=>exact ih hS
        | box cs =>
          dsimp only
          cases hx:cs.getD j .undef with
          | own o =>
            dsimp only
            cases ho:Ah st.Aa o with
            | none=>exact ih hS
            | some y =>
              cases y with
              | box _=>exact ih hS
              | mp _=>exact ih hS
              | arr e f l =>
                dsimp only
                obtain⟨O1,hS1,hp1,_,hv1,_⟩:=hS.Yl ho
                have hbo:b≠o:=fun h=>by rw[h,ho]at hb;cases hb
                have hb1:Ah (CY st.Aa o (.arr e true l)) b=some (.box cs):=by rw[Bl,if_neg hbo];exact hb
                have ho1:Ah (CY st.Aa o (.arr e true l)) o=some (.arr e true l):=by rw[Bl,if_pos rfl]
                have hjl:j<cs.length:=by
                  rcases Nat.lt_or_ge j cs.length with h | h
                  ·exact h
                  ·rw[List.getD_eq_getElem?_getD,List.getElem?_eq_none h]at hx;cases hx
                have hE:Ip (CY st.Aa o (.arr e true l)) m (CY (CY st.Aa o (.arr e true l)) b (.box (cs.set j (.sl l)))) m (fun _=>False):=by
                  intro q z hz
                  rw[Bl]at hz
                  by_cases hq:q=b
                  ·rw[if_pos hq]at hz;injection hz with hz;subst hz
                   exact .inr ⟨.box cs,by rw[hq];exact hb1,rfl,rfl⟩
                  ·rw[if_neg hq]at hz;exact .inr ⟨z,hz,rfl,rfl⟩
                have h2:=hS1.next (st':= {st with Aa:=CY (CY st.Aa o (.arr e true l)) b (.box (cs.set j (.sl l)))}) (d:=none) (v:=undef) (x:=.undef) (T:=fun _=>False) (Nw:=fun _=>False) (Moves.refl O1 _ w) ⟨fun _ _ _ h=>h,fun _ _ _ _ h _=>h⟩ (fun _ _ _ h=>h) hE (fun _ h=>h.elim) (fun _ h=>h.elim)
                  (fun q z hz=>by
                    rw[Bl]at hz
                    by_cases hq:q=b
                    ·rw[if_pos hq]at hz;injection hz with hz;subst hz
                     right
                     obtain⟨bk,base,g1,g2⟩:=hS1.Aa b _ hb1
                     rw[hq]
                     refine⟨⟨bk,base,g1,fun i hi=> ?_⟩,hS.ids b _ hb⟩
                     rw[List.length_set]at hi
                     obtain⟨k1,k2,u,k3,k4⟩:=g2 i hi
                     refine⟨k1,k2,u,k3,?_⟩
                     by_cases hij:j=i
                     ·subst hij
                      have e1:(cs.set j (.sl l)).getD j .undef= .sl l:=by simp [List.getD_eq_getElem?_getD,hjl]
                      rw[e1]
                      rw[hx]at k4
                      have k5:=k4.2
                      rw[ho1]at k5
                      have hm:u=m o:=k5
                      rw[hm];exact hv1
                     ·have e1:(cs.set j (.sl l)).getD i .undef=cs.getD i .undef:=by
                        simp only[List.getD_eq_getElem?_getD,List.getElem?_set];rw[if_neg hij]
                      rw[e1]
                      exact k4.step (fun _ _ _ h hc=>⟨h,hc⟩) hE (fun _ _ h=>h)
                    ·rw[if_neg hq]at hz;exact .inl ⟨fun h=>h,hz,rfl⟩) rfl (fun h=>absurd rfl h)
                exact ih h2
          | _=>exact ih hS
theorem Aiq (hS:Sim V0 O0 w0 O m st a w) {key:Nat} (h:(norm C key st).1=true): ∃ O' m',Sim V0 O0 w0 O' m' (norm C key st).2 a w:=by
  unfold norm at h ⊢
  cases hn:C.nrm key with
  | none=>exact⟨O,m,hS⟩
  | some n =>
    rw[hn]at h
    dsimp only at h ⊢
    rw[Bool.and_eq_true]at h
    obtain⟨O4,hS4⟩:=AkV n.pz hS
    obtain⟨O1,m1,hS1⟩:=AiB n.ren (hS4.dropped n.keep (reached (drop n.keep (pzs n.pz st).tmps 0) (pzs n.pz st).Aa)) h.1
    obtain⟨O3,m3,hS3⟩:=Ai2 n.nw hS1 h.2
    obtain⟨O2,hS2⟩:=AhC n.frz hS3
    exact⟨O2,m3,hS2⟩
theorem jD {ρ :Type} (hS:Sim V0 O0 w0 O m st a w) {key:Nat} {K:St->Option ρ} {r: ρ} (h:Kv C key st K=some r): ∃ O' m' st',Sim V0 O0 w0 O' m' st' a w/\K st'=some r:=by
  unfold Kv at h
  cases hn:(norm C key st).1 with
  | false =>
    have h':(bif (norm C key st).1 then K (norm C key st).2 else none)=some r:=h
    rw[hn]at h';cases h'
  | true =>
    have h':(bif (norm C key st).1 then K (norm C key st).2 else none)=some r:=h
    rw[hn]at h'
    obtain⟨O1,m1,hS1⟩:=Aiq hS hn
    exact⟨O1,m1,_,hS1,h'⟩
theorem Z4 {ρ :Type} (hS:Sim V0 O0 w0 O m st a w) {kind:Nat} {c:Code} {K:St->Option ρ} {r: ρ} (h:meet C kind c st K=some r): ∃ O' m' st',Sim V0 O0 w0 O' m' st' a w/\K st'=some r:=by
  unfold meet at h
  cases hn:Dz c with
  | none=>rw[hn]at h;exact⟨O,m,st,hS,h⟩
  | some n=>rw[hn]at h;exact jD hS h
end
end Go.Proofs.YtadefjgbcapakaaGreatDoor.Vm
namespace Go.Proofs.YtadefjgbcapakaaGreatDoor.Vm
open Classical
section
variable {P:Program} {C:Ctx} {V0:Nat->Value} {O0 O:Own} {w0 w:World} {m:Nat->Value} {st:St} {a:Act}
theorem AgT {C:Ctx} {o:Oper} {f:Nat} {q:Alt} (h:VE C o=some (f,q)):C.alt f=some q:=by
  unfold VE at h
  split at h
  ·rename_i g _ _ _ _
   cases ha:C.alt g with
   | none=>rw[ha]at h;cases h
   | some q'=>rw[ha]at h;injection h with h;injection h with h1 h2;rw[<- h1,<- h2];exact ha
  ·cases h
theorem AkJ {ρ :Type} (hC:Jf P C) {ops:Array Oper} {Q:Exit->Act->World->Prop} {v: ρ} {K:St->Option ρ} (hK: ∀ O' m' st' a' w',Sim V0 O0 w0 O' m' st' a' w'->K st'=some v->Q .normal a' w') :
    ∀(l:List Oper) {O:Own} {m:Nat->Value} {st:St} {a:Act} {w:World},Sim V0 O0 w0 O m st a w->Pz C ops.toList l st K=some v->wpList P ops Q l a w:=by
  intro l
  induction l with
  | nil=>intro O m st a w hS h;exact hK _ _ _ _ _ hS h
  | cons o r ih =>
    intro O m st a w hS h
    have one: ∀ C':Ctx,Jf P C'->allT (BM C' ops.toList o st).ok (Pz C ops.toList r (apply st o (BM C' ops.toList o st)) K)=some v->wpList P ops Q (o::r) a w:=by
      intro C' hC' h
      obtain⟨h1,h2⟩:=La h
      refine wpList_step fun k hk=> ?_
      exact yX hC' hS h1 k Q fun O' m' a' w' hS'=>hk _ _ (ih hS' h2)
    unfold Pz at h
    cases ha:VE C o with
    | none=>rw[ha]at h;exact one C hC h
    | some q =>
      obtain⟨f,q⟩:=q
      rw[ha]at h
      dsimp only at h
      obtain⟨h1,h2⟩:=hC.alt f q (AgT ha)
      cases hb:zW o st q with
      | true=>rw[hb]at h;exact one _ (hC.put h1) h
      | false=>rw[hb]at h;exact one _ (hC.put h2) h
def Post {ρ :Type} (V0:Nat->Value) (O0:Own) (w0:World) (fin:St->Option ρ) (K:Ex->St->Option ρ) (v: ρ):Exit->Act->World->Prop
  | .normal,a,w=> ∃ O m st,Sim V0 O0 w0 O m st a w/\K .normal st=some v
  | .exit id,a,w=> ∃ O m st,Sim V0 O0 w0 O m st a w/\K (.exit id) st=some v
  | .ret,a,w=> ∃ O m st,Sim V0 O0 w0 O m st a w/\fin st=some v
  | _,_,_=>False
theorem Ajv (hS:Sim V0 O0 w0 O m st a w) {c:Operand} {t:Bool} (h:Ci st.tmps c= .bool t\/Ci st.tmps c= .cnd true (.bool t)):a.eval c= .bool t:=by
  have:=rC hS c
  rcases h with h | h
  ·rw[h]at this;exact this.bool
  ·rw[h]at this
   have h1:Ai O w (a.eval c) (.bool t):=this.1 rfl
   generalize a.eval c=z at h1 ⊢
   cases h1;rfl
theorem Ahp {ρ :Type} (hC:Jf P C) (N:Nat) {fin:St->Option ρ} {v: ρ}
    (hdraw: ∀(id:Nat) (ops:Array Oper) {O:Own} {m:Nat->Value} {st:St} {a:Act} {w:World} (K:Ex->St->Option ρ),Sim V0 O0 w0 O m st a w->Ko C ops.toList st=true->NZ C ops.toList ops.toList st (fun st'=>K .normal st')=some v ->
      (Code.region id ops true).wp P (Post V0 O0 w0 fin K v) a w) :
    ∀(c:Code) {O:Own} {m:Nat->Value} {st:St} {a:Act} {w:World} {K:Ex->St->Option ρ},Sim V0 O0 w0 O m st a w->exec C N fin c st K=some v->c.wp P (Post V0 O0 w0 fin K v) a w:=by
  intro c
  induction c with
  | skip=>intro O m st a w K hS h;exact wp_skip ⟨O,m,st,hS,h⟩
  | label l=>intro O m st a w K hS h;exact wp_label ⟨O,m,st,hS,h⟩
  | ret=>intro O m st a w K hS h;exact wp_ret ⟨O,m,st,hS,h⟩
  | exit id =>
    intro O m st a w K hS h
    obtain⟨O',m',st',hS',h'⟩:=jD hS (show Kv C (4*id+3) st (fun st'=>K (.exit id) st')=some v from h)
    exact wp_exit ⟨O',m',st',hS',h'⟩
  | region id ops d =>
    intro O m st a w K hS h
    cases d with
    | false =>
      refine wp_region_list (AkJ hC (K:=fun st'=>K .normal st') (fun O' m' st' a' w' hS' h'=>⟨O',m',st',hS',h'⟩) ops.toList hS h)
    | true =>
      have h':(bif Ko C ops.toList st then NZ C ops.toList ops.toList st (fun st'=>K .normal st')else none)=some v:=h
      cases hd:Ko C ops.toList st with
      | false=>rw[hd]at h';cases h'
      | true=>rw[hd]at h';exact hdraw id ops K hS hd h'
  | seq x y ihx ihy =>
    intro O m st a w K hS h
    refine wp_seq (wp_mono (ihx (K:=fun | .normal,st'=>meet C 1 y st' fun st''=>exec C N fin y st'' K | .exit id,st'=>K (.exit id) st') hS h) fun e a' w' hq=> ?_)
    cases e with
    | normal =>
      obtain⟨O1,m1,st1,hS1,h1⟩:=hq
      obtain⟨O2,m2,st2,hS2,h2⟩:=Z4 hS1 h1
      exact ihy hS2 h2
    | exit id=>exact hq
    | ret=>exact hq
    | goto l=>exact hq
    | panic ch=>exact hq
    | outgrown=>exact hq
  | cond c x y ihx ihy =>
    intro O m st a w K hS h
    have key: ∀ t:Bool,(Ci st.tmps c= .bool t\/Ci st.tmps c= .cnd true (.bool t))->(bif t then exec C N fin x st K else exec C N fin y st K)=some v->(Code.cond c x y).wp P (Post V0 O0 w0 fin K v) a w:=by
      intro t ht h'
      refine wp_cond (Ajv hS ht) ?_
      cases t with
      | true=>exact ihx hS h'
      | false=>exact ihy hS h'
    simp only[exec]at h
    cases he:Ci st.tmps c with
    | bool t=>rw[he]at h;exact key t (.inl he) h
    | cnd g y' =>
      rw[he]at h
      cases y' with
      | bool t =>
        cases g with
        | false=>cases h
        | true=>exact key t (.inr he) h
      | _=>cases h
    | _=>rw[he]at h;cases h
  | block id c ih =>
    intro O m st a w K hS h
    refine wp_block (wp_mono (ih (K:=fun | .exit j,st'=>bif Nat.beq j id then K .normal st' else K (.exit j) st' | .normal,st'=>K .normal st') hS h) fun e a' w' hq=> ?_)
    cases e with
    | normal=>exact hq
    | exit j =>
      obtain⟨O1,m1,st1,hS1,h1⟩:=hq
      dsimp only at h1
      show if j=id then _ else _
      rw[L9]at h1
      by_cases hj:j=id
      ·rw[if_pos hj]
       simp only[hj,decide_true,cond_true]at h1
       exact⟨O1,m1,st1,hS1,h1⟩
      ·rw[if_neg hj]
       rw[show decide (j=id)=false by simpa using hj]at h1
       exact⟨O1,m1,st1,hS1,h1⟩
    | ret=>exact hq
    | goto l=>exact hq
    | panic ch=>exact hq
    | outgrown=>exact hq
  | loop c ih =>
    intro O m st a w K hS h
    obtain⟨O1,m1,st1,hS1,h1⟩:=Z4 hS (show meet C 2 c st (fun st'=>rounds (meet C 2 c) (exec C N fin c) N st' K)=some v from h)
    refine wp_loop_rounds N ?_
    have key: ∀(n:Nat) {O:Own} {m:Nat->Value} {st:St} {a:Act} {w:World},Sim V0 O0 w0 O m st a w->rounds (meet C 2 c) (exec C N fin c) n st K=some v->Code.rounds P c (Post V0 O0 w0 fin K v) n a w:=by
      intro n
      induction n with
      | zero=>intro O m st a w _ h;cases h
      | succ n ihn =>
        intro O m st a w hS h
        refine wp_mono (ih (K:=fun | .normal,st'=>meet C 2 c st' fun st''=>rounds (meet C 2 c) (exec C N fin c) n st'' K | .exit id,st'=>K (.exit id) st') hS h) fun e a' w' hq=> ?_
        cases e with
        | normal =>
          obtain⟨O2,m2,st2,hS2,h2⟩:=hq
          obtain⟨O3,m3,st3,hS3,h3⟩:=Z4 hS2 h2
          exact ihn hS3 h3
        | exit id=>exact hq
        | ret=>exact hq
        | goto l=>exact hq
        | panic ch=>exact hq
        | outgrown=>exact hq
    exact key N hS1 h1
  | scope c ih =>
    intro O m st a w K hS h
    refine wp_scope_straight (wp_mono (ih hS (show exec C N fin c st K=some v from h)) fun e a' w' hq=> ?_)
    cases e<;>first | exact hq | exact hq.elim
  | _=>intro O m st a w K hS h;cases h
end
