import Derived.Test.YtbaomhegdndpnaaGreatDoorA12
set_option linter.all false
namespace Go.Proofs.YtbaomhegdndpnaaGreatDoor.Vm
open Classical
section
variable {P:Program} {C:Ctx} {V0:Nat->Value} {O0 O:Own} {w0 w:World} {m:Nat->Value} {st:St} {a:Act} {o:Oper}
theorem vZ (Aa:List (Nat×Obj)): ∀(l:List Nat) (q:Nat) (x:Obj),Ai (fetch Aa l) q=some x->Ai Aa q=some x:=by
  intro l
  induction l with
  | nil=>intro q x h;cases h
  | cons n r ih =>
    intro q x h
    simp only[fetch]at h
    cases hn:Ai Aa n with
    | none=>rw[hn]at h;exact ih q x h
    | some y =>
      rw[hn]at h
      dsimp only at h
      rw[Cb]at h
      by_cases hq:n=q
      ·rw[if_pos hq]at h;injection h with h;subst h;rw[<- hq];exact hn
      ·rw[if_neg hq]at h;exact ih q x h
theorem yT (a b:List (Nat×Obj)) (q:Nat):Ai (a++b) q=match Ai a q with | some x=>some x | none=>Ai b q:=by
  induction a with
  | nil=>rfl
  | cons p r ih =>
    obtain⟨k,x⟩:=p
    rw[List.cons_append,Cb,Cb,ih]
    by_cases h:k=q<;>simp [h]
theorem S9 (st:St) (vs:List A):DL st.Aa (AX st vs):=by
  intro q x h
  unfold AX at h
  dsimp only at h
  rw[yT]at h
  split at h
  ·rename_i y hy;injection h with h;subst h;exact vZ _ _ _ _ hy
  ·exact vZ _ _ _ _ h
theorem Adr {v:Value} {x:A} (h:Au O st.Aa m w v x) (hok:Am x.strip.1):Au O st.Aa m w v x.strip.2:=by
  cases x with
  | cnd g y =>
    have:=h.1 hok.cons.1
    cases y<;>first | trivial | exact this | exact this.elim
  | _=>exact h
theorem Aak: ∀(xs:List A) (f:Nat->Value),(∀ j,j<xs.length->Au O st.Aa m w (f j) (xs.getD j .undef))->Am (strips xs).1 ->
    (strips xs).2.length=xs.length/\ ∀ j,j<xs.length->Au O st.Aa m w (f j) ((strips xs).2.getD j .undef):=by
  intro xs
  induction xs with
  | nil=>intro f _ _;exact⟨rfl,fun j hj=>by simp at hj⟩
  | cons x xs ih =>
    intro f h hok
    simp only[strips]at hok ⊢
    obtain⟨h1,h2⟩:=hok.append
    obtain⟨g1,g2⟩:=ih (fun j=>f (j+1)) (fun j hj=>by simpa using h (j+1) (by simpa using hj)) h2
    refine⟨by simp [g1],fun j hj=> ?_⟩
    cases j with
    | zero=>exact Adr (h 0 (by simp)) h1
    | succ j=>simpa using g2 j (by simpa using hj)
theorem Ae7 {v:Value} {x:A} (h:Au O st.Aa m w v x):Au O st.Aa m w v x.weak:=by
  cases x with
  | sln l =>
    have h':Ak O w v (.sln l):=h
    cases h' with
    | sln h _=>exact h
  | _=>exact h
theorem Ae6 (x:A):x.weak.ids=x.ids:=by cases x<;>rfl
theorem Adt (xs:List A) (j:Nat):(xs.map A.weak).getD j .undef=(xs.getD j .undef).weak:=by
  simp only[List.getD_eq_getElem?_getD,List.getElem?_map]
  cases xs[j]? <;>rfl
theorem YK (op:Op) (xs:List A):(∃ a b c,op= .pick a b c)\/Bv op xs=((strips xs).1,bif VM op then(strips xs).2 else(strips xs).2.map A.weak):=by
  cases op<;>first | exact .inr rfl | exact .inl ⟨_,_,_,rfl⟩
theorem U1 {op:Op} {xs:List A} {f:Nat->Value} (h: ∀ j,j<xs.length->Au O st.Aa m w (f j) (xs.getD j .undef)) (hok:Am (Bv op xs).1) :
    (Bv op xs).2.length=xs.length/\ ∀ j,j<xs.length->Au O st.Aa m w (f j) ((Bv op xs).2.getD j .undef):=by
  rcases YK op xs with ⟨x,y,z,rfl⟩ | he
  ·exact⟨rfl,h⟩
  ·rw[he]at hok ⊢
   obtain⟨g1,g2⟩:=Aak xs f h hok
   cases hb:VM op with
   | true=>exact⟨g1,g2⟩
   | false =>
     refine⟨by simp [g1],fun j hj=> ?_⟩
     show Au O st.Aa m w (f j) (((strips xs).2.map A.weak).getD j .undef)
     rw[Adt]
     exact Ae7 (g2 j hj)
theorem Adq {v:Value} {x:A} {i:Nat} (ht:Au O st.Aa m w v x) (hok:Am x.strip.1) (h:i∈x.strip.2.ids):i∈x.ids:=by
  cases x with
  | cnd g y =>
    have h1:=ht.1 hok.cons.1
    cases y<;>first | exact h | exact h1.elim
  | _=>exact h
theorem AbW: ∀(xs:List A) (f:Nat->Value),(∀ j,j<xs.length->Au O st.Aa m w (f j) (xs.getD j .undef))->Am (strips xs).1-> ∀ x∈(strips xs).2,∀ i∈x.ids,∃ y∈xs,i∈y.ids:=by
  intro xs
  induction xs with
  | nil=>intro f _ _ x hx;simp [strips]at hx
  | cons z xs ih =>
    intro f h hok x hx i hi
    simp only[strips]at hok hx
    obtain⟨h1,h2⟩:=hok.append
    rcases List.mem_cons.1 hx with rfl | hx
    ·exact⟨z,List.mem_cons_self,Adq (h 0 (by simp)) h1 hi⟩
    ·obtain⟨y,hy,hi'⟩:=ih (fun j=>f (j+1)) (fun j hj=>by simpa using h (j+1) (by simpa using hj)) h2 x hx i hi
     exact⟨y,List.mem_cons_of_mem _ hy,hi'⟩
theorem WC {op:Op} {xs:List A} {f:Nat->Value} (h: ∀ j,j<xs.length->Au O st.Aa m w (f j) (xs.getD j .undef)) (hok:Am (Bv op xs).1): ∀ x∈(Bv op xs).2,∀ i∈x.ids,∃ y∈xs,i∈y.ids:=by
  rcases YK op xs with ⟨x,y,z,rfl⟩ | he
  ·exact fun x hx i hi=>⟨x,hx,hi⟩
  ·rw[he]at hok ⊢
   have g:=AbW xs f h hok
   cases hb:VM op with
   | true=>exact g
   | false =>
     intro x hx i hi
     obtain⟨z,hz,rfl⟩:=List.mem_map.1 (show x∈(strips xs).2.map A.weak from hx)
     rw[Ae6]at hi
     exact g z hz i hi
theorem Abp {ops:Array Oper} {gd:Option (Nat×Bool)} (hS:Sim V0 O0 w0 O m st a w) (hgd:o.guard=gd) :
    (guardOf ops.toList st.tmps gd=some none->Region.wanted o (yielded ops a.tmps)=true) /\
    ∀ g,guardOf ops.toList st.tmps gd=some (some g)->Region.wanted o (yielded ops a.tmps)=g:=by
  cases gd with
  | none =>
    refine⟨fun _=>by unfold Region.wanted;rw[hgd],fun g h=>by simp [guardOf]at h⟩
  | some p =>
    obtain⟨j,want⟩:=p
    unfold Region.wanted
    rw[hgd]
    dsimp only
    have key: ∀ oj t,ops[j]? =some oj->oj.dst=some t->yielded ops a.tmps j=match a.tmps[t]? with | some (.bool b)=>some b | _=>none:=by
      intro oj t h1 h2
      unfold yielded
      have:(ops[j]?).bind (·.dst)=some t:=by rw[h1];exact h2
      rw[this]
      show(match a.tmps[t]? with | some (.bool b)=>some b | _=>none)=_
      cases a.tmps[t]? with
      | none=>rfl
      | some v=>cases v<;>rfl
    unfold guardOf
    have hop:ops.toList[j]? =ops[j]? :=by simp
    dsimp only
    rw[hop]
    cases hj:ops[j]? with
    | none=>exact⟨fun h=>by simp at h,fun g h=>by simp at h⟩
    | some oj =>
      dsimp only
      cases hd:oj.dst with
      | none=>exact⟨fun h=>by simp at h,fun g h=>by simp at h⟩
      | some t =>
        dsimp only
        have ht:=hS.tmps t
        rw[key oj t hj hd]
        cases hv:st.tmps.getD t .undef with
        | bool b =>
          refine⟨fun h=>by simp at h,fun g h=> ?_⟩
          simp only[Option.some.injEq]at h
          have htl:t<st.tmps.length:=by
            rcases Nat.lt_or_ge t st.tmps.length with h | h
            ·exact h
            ·rw[List.getD_eq_getElem?_getD,List.getElem?_eq_none h]at hv;cases hv
          have:=ht htl
          rw[hv]at this
          have:=this.bool
          have hts:t<a.tmps.size:=by rw[hS.size];exact htl
          rw[getD_eq hts,this,<- h]
          cases want<;>cases b<;>rfl
        | cnd g0 y =>
          cases y with
          | bool b =>
            refine⟨fun h=>by simp at h,fun g h=> ?_⟩
            simp only[Option.some.injEq]at h
            have htl:t<st.tmps.length:=by
              rcases Nat.lt_or_ge t st.tmps.length with h | h
              ·exact h
              ·rw[List.getD_eq_getElem?_getD,List.getElem?_eq_none h]at hv;cases hv
            have:=ht htl
            rw[hv]at this
            have hts:t<a.tmps.size:=by rw[hS.size];exact htl
            rw[getD_eq hts,<- h]
            cases g0 with
            | true =>
              have h1:Ak O w (a.tmps.getD t undef) (.bool b):=this.1 rfl
              generalize a.tmps.getD t undef=z at h1
              cases h1
              cases want<;>cases b<;>rfl
            | false =>
              rw[this.2 rfl];simp [undef]
          | _=>exact⟨fun h=>by simp at h,fun g h=>by simp at h⟩
        | _=>exact⟨fun h=>by simp at h,fun g h=>by simp at h⟩
theorem Acx (v:Value):(ofConst v).ids=[]:=by
  have hc: ∀ u:Value,(DD u).CG=[]:=by intro u;unfold DD;split<;>rfl
  have hc2: ∀ u:Value,(DD u).ids=[]:=by intro u;unfold DD;split<;>rfl
  unfold ofConst
  split
  ·rename_i vs
   cases vs.toList.all Value.oneCell' with
   | false=>rfl
   | true =>
     show(vs.toList.map DD).flatMap A.CG=[]
     rw[List.flatMap_eq_nil_iff]
     intro x hx
     obtain⟨u,_,rfl⟩:=List.mem_map.1 hx
     exact hc u
  ·exact hc2 v
theorem zX {a b:A} (h:Vu a b=true):Yn true a b=b/\Yn false a b=a:=by
  cases a<;>cases b<;>first | exact⟨rfl,rfl⟩ | exact(Bool.false_ne_true h).elim | skip
  case int.int k x k' y =>
    have e:k=k':=by cases k<;>cases k'<;>first | rfl | cases h
    subst e;exact⟨rfl,rfl⟩
  case sl.sl l l' =>
    obtain⟨t,xs⟩:=l
    obtain⟨t',xs'⟩:=l'
    unfold Vu Sl.cast at h
    unfold Yn Sl.cast
    dsimp only at h ⊢
    cases hd:decEq t' t with
    | isTrue e=>subst e;exact⟨rfl,rfl⟩
    | isFalse e=>rw[hd]at h;cases h
  case sln.sln l l' =>
    obtain⟨t,xs⟩:=l
    obtain⟨t',xs'⟩:=l'
    unfold Vu Sl.cast at h
    unfold Yn Sl.cast
    dsimp only at h ⊢
    cases hd:decEq t' t with
    | isTrue e=>subst e;exact⟨rfl,rfl⟩
    | isFalse e=>rw[hd]at h;cases h
  case own.own q q' =>
    have e:q=q':=Nat.eq_of_beq_eq_true h
    subst e;exact⟨rfl,rfl⟩
theorem qF: ∀ {aa bs:List A},okM aa bs=true->oG true aa bs=bs/\oG false aa bs=aa
  | [],[],_=>⟨rfl,rfl⟩
  | a::aa,b::bs,h=>by
    unfold okM at h
    obtain⟨h1,h2⟩:=Bool.and_eq_true_iff.1 h
    obtain⟨i1,i2⟩:=zX h1
    obtain⟨j1,j2⟩:=qF h2
    exact⟨by unfold oG;rw[i1,j1],by unfold oG;rw[i2,j2]⟩
  | [],_::_,h=>by cases h
  | _::_,[],h=>by cases h
theorem ZU {c:Bool} {x:Option Obj} {y:Obj} (h:bU c x y=true) :
    (Qn true x y=y/\ ∃ cs,x=some (.box cs)/\Qn false x y= .box cs)\/c=true/\ ∃ e f l l',x=some (.arr e f l)/\y= .arr e true l'/\ ∀ g,Qn g x y= .arr e true l:=by
  cases x with
  | none=>cases h
  | some x =>
    cases x with
    | box cs =>
      cases y with
      | box ds =>
        obtain⟨h1,h2⟩:=qF (show okM cs ds=true from h)
        exact .inl ⟨congrArg Obj.box h1,cs,rfl,congrArg Obj.box h2⟩
      | _=>cases h
    | arr e f l =>
      cases y with
      | arr e' f' l' =>
        cases f' with
        | true =>
          have h':(c&&Nat.beq e e')=true:=h
          simp only[Bool.and_eq_true]at h'
          have:=Nat.eq_of_beq_eq_true h'.2
          subst this
          exact .inr ⟨h'.1,e,f,l,l',rfl,rfl,fun _=>rfl⟩
        | false=>cases h
      | _=>cases h
    | _=>cases h
def Closes (Aa U:List (Nat×Obj)):Prop:= ∀ p∈U,(∃ cs,Ai Aa p.1=some (.box cs)/\p.2= .box cs)\/ ∃ e f l,Ai Aa p.1=some (.arr e f l)/\p.2= .arr e true l
theorem _root_.Go.Proofs.YtbaomhegdndpnaaGreatDoor.Vm.Sim.Aer {objs':List (Nat×Obj)} (hS:Sim V0 O0 w0 O m st a w) (h: ∀ n,Ai objs' n=Ai st.Aa n):Sim V0 O0 w0 O m {st with Aa:=objs'} a w:=by
  have he:EX st.Aa m objs' m (fun _=>False):=fun o x hx=>.inr ⟨x,by rw[<- h];exact hx,rfl,rfl⟩
  have hp:CS O w O w:=fun b k u h1 h2=>⟨h1,h2⟩
  refine⟨hS.defers,hS.size,fun t ht=>(hS.tmps t ht).step hp he (fun _ _=>id),fun o x hx=> ?_,hS.frame,hS.own,fun o x hx=>hS.ids o x (by rw[<- h];exact hx),hS.less,fun o ho hx=>hS.root o ho (by rw[<- h];exact hx),hS.SG,hS.inv⟩
  have h0:=hS.Aa o x (by rw[<- h];exact hx)
  cases x with
  | box cs =>
    obtain⟨b,base,h1,h2⟩:=h0
    refine⟨b,base,h1,fun j hj=> ?_⟩
    obtain⟨g1,g2,u,g3,g4⟩:=h2 j hj
    exact⟨g1,g2,u,g3,g4.step hp he (fun _ _=>id)⟩
  | arr e f l=>exact h0
  | mp l=>exact h0
theorem _root_.Go.Proofs.YtbaomhegdndpnaaGreatDoor.Vm.Sim.closes: ∀(U:List (Nat×Obj)) {O:Own} {st:St},Sim V0 O0 w0 O m st a w->Closes st.Aa U-> ∃ O',Sim V0 O0 w0 O' m {st with Aa:=Ar st.Aa U} a w:=by
  intro U
  induction U with
  | nil=>intro O st hS _;exact⟨O,hS⟩
  | cons p U ih =>
    intro O st hS h
    obtain⟨n,y⟩:=p
    have h0:=h (n,y) List.mem_cons_self
    have hrest:Closes (BG st.Aa n y) U:=by
      intro q hq
      have h1:=h q (List.mem_cons_of_mem _ hq)
      rw[Bc]
      by_cases hk:q.1=n
      ·rw[if_pos hk]
       rw[hk]at h1
       rcases h0 with ⟨cs,g1,g2⟩ | ⟨e,f,l,g1,g2⟩
       ·dsimp only at g1 g2
        rw[g1]at h1
        rcases h1 with ⟨cs',k1,k2⟩ | ⟨e',f',l',k1,k2⟩
        ·injection k1 with k1;rw[<- k1]at k2
         exact .inl ⟨cs,by rw[g2],k2⟩
        ·cases k1
       ·dsimp only at g1 g2
        rw[g1]at h1
        rcases h1 with ⟨cs',k1,k2⟩ | ⟨e',f',l',k1,k2⟩
        ·cases k1
        ·injection k1 with k1;injection k1 with q1 q2 q3
         subst q1;subst q3
         exact .inr ⟨e,true,l,by rw[g2],k2⟩
      ·rw[if_neg hk];exact h1
    show ∃ O',Sim V0 O0 w0 O' m {st with Aa:=Ar (BG st.Aa n y) U} a w
    rcases h0 with ⟨cs,g1,g2⟩ | ⟨e,f,l,g1,g2⟩
    ·dsimp only at g1 g2
     have hS':Sim V0 O0 w0 O m {st with Aa:=BG st.Aa n y} a w:=hS.Aer fun k=>by
       rw[Bc]
       by_cases hk:k=n
       ·rw[if_pos hk,hk,g1,g2]
       ·rw[if_neg hk]
     exact ih hS' hrest
    ·dsimp only at g1 g2
     obtain⟨O1,hS1,_⟩:=hS.freezes [(n,y)] (fun q hq=>by
       simp at hq;subst hq;exact⟨e,f,l,g1,g2⟩)
     exact ih hS1 hrest
def AU (fet:Fet) (U:List (Nat×Obj)):Prop:= ∀ p∈U,∀ e f l,p.2= .arr e f l-> ∃ e' f',Ai fet p.1=some (.arr e' f' l)/\f=true
theorem AU.append {fet:Fet} {U V:List (Nat×Obj)} (h:AU fet U) (h':AU fet V):AU fet (U++V):=fun p hp=>(List.mem_append.1 hp).elim (h p) (h' p)
theorem AU.nil (fet:Fet):AU fet []:=fun p hp=>by cases hp
theorem AU.one {fet:Fet} {n e e0:Nat} {f:Bool} {l:Sl} (h:Ai fet n=some (.arr e f l)):AU fet [(n,.arr e0 true l)]:=by
  intro p hp e' f' l' he
  simp at hp;subst hp
  injection he with h1 h2 h3
  subst h2;subst h3
  exact⟨e,f,h,rfl⟩
theorem AU.cons {fet:Fet} {n e e0:Nat} {f:Bool} {l:Sl} {U:List (Nat×Obj)} (h:Ai fet n=some (.arr e f l)) (h':AU fet U):AU fet ((n,.arr e0 true l)::U):=(AU.one h).append h'
theorem jR (fet:Fet) (k:CK) (c:A):AU fet (pur fet k c).2.2:=by
  unfold pur
  split
  ·split
   ·rename_i h;exact .one h
   ·exact .nil _
  ·split<;>exact .nil _
  all_goals exact .nil _
theorem Aac (fet:Fet): ∀(ks:List CK) (cs:List A),AU fet (Bg fet ks cs).2.2:=by
  intro ks
  induction ks with
  | nil=>intro cs;cases cs<;>exact .nil _
  | cons k ks ih=>intro cs;cases cs with
    | nil=>exact .nil _
    | cons c cs=>exact(jR fet k c).append (ih cs)
theorem Gf (fet:Fet): ∀(ks:List (Bool×CK)) (cs:List A),AU fet (Ap fet ks cs).2.2.1:=by
  intro ks
  induction ks with
  | nil=>intro cs;cases cs<;>exact .nil _
  | cons k ks ih =>
    intro cs
    obtain⟨u,k⟩:=k
    cases cs with
    | nil=>cases u<;>cases k<;>exact .nil _
    | cons c cs =>
      cases u with
      | false=>exact(jR fet k c).append (ih cs)
      | true =>
        cases k with
        | sl e t =>
          cases c with
          | own q =>
            simp only[Ap]
            cases h:Ai fet q with
            | none=>exact .nil _
            | some x =>
              cases x with
              | arr e' f l=>exact .cons h (ih cs)
              | _=>exact .nil _
          | BB=>exact ih cs
          | _=>exact .nil _
        | sln e t =>
          cases c with
          | own q =>
            simp only[Ap]
            cases h:Ai fet q with
            | none=>exact .nil _
            | some x =>
              cases x with
              | arr e' f l=>exact ih cs
              | _=>exact .nil _
          | BB=>exact ih cs
          | _=>exact .nil _
        | bx t =>
          cases c with
          | ptr q off =>
            simp only[Ap]
            cases BP fet q with
            | none=>exact .nil _
            | some zs=>exact(Aac fet _ zs).append (ih cs)
          | _=>exact .nil _
        | _=>cases c<;>exact .nil _
theorem mM (fet:Fet) (s:Sh) (x:A):AU fet (AO fet s x).upd:=by
  cases s with
  | cell u k =>
    have:=Gf fet [(u,k)] [x]
    unfold AO
    dsimp only
    generalize Ap fet [(u,k)] [x]=r at this ⊢
    obtain⟨ok,cs,upd,del⟩:=r
    cases cs with
    | nil=>exact .nil _
    | cons c cs=>cases cs with
      | nil=>exact this
      | cons _ _=>exact .nil _
  | agg ks=>cases x<;>first | exact .nil _ | exact Gf fet _ _
  | box ks =>
    cases x with
    | ptr q off =>
      unfold AO
      dsimp only
      cases BP fet q with
      | none=>exact .nil _
      | some cs=>exact Gf fet _ _
    | _=>exact .nil _
  | clo f' ks =>
    cases x with
    | clo g q =>
      unfold AO
      dsimp only
      cases BP fet q with
      | none=>exact .nil _
      | some cs=>exact Gf fet _ _
    | _=>exact .nil _
  | map kt vt =>
    cases x with
    | own q =>
      unfold AO
      dsimp only
      split<;>exact .nil _
    | _=>exact .nil _
theorem iD (fet:Fet): ∀(ss:List Sh) (xs:List A),AU fet (A8 fet ss xs).2.2.1:=by
  intro ss
  induction ss with
  | nil=>intro xs;cases xs<;>exact .nil _
  | cons s ss ih =>
    intro xs
    cases xs with
    | nil=>exact .nil _
    | cons x xs=>exact(mM fet s x).append (ih xs)
theorem aS (fet:Fet) (rb:Nat->Nat) (rs:List A): ∀(bs:List (Nat×Sh)) (j:Nat),AU fet (Bq rb rs bs j).2.1:=by
  intro bs
  induction bs with
  | nil=>intro j;exact .nil _
  | cons b bs ih =>
    intro j p hp
    obtain⟨q,s⟩:=b
    rcases List.mem_cons.1 hp with rfl | hp
    ·intro e f l he
     cases s<;>cases he
    ·exact ih (j+1) p hp
theorem P6 (fet:Fet) (d:Nat) (sg:Sig) (xs:List A):AU fet (EC fet d sg xs).upd :=
  (iD fet _ _).append (aS fet _ _ _ _)
theorem Jo {t:Nat} {k:TI->Dl} {fet:Fet} (h: ∀ ti,AU fet (k ti).upd):AU fet (BQ C t k).upd:=by
  unfold BQ AY
  cases C.T t with
  | none=>exact .nil _
  | some ti=>exact h ti
theorem Ew {α :Type} {o:Option α} {k: α ->Dl} {fet:Fet} (h: ∀ x,o=some x->AU fet (k x).upd):AU fet (AY o k).upd:=by
  unfold AY
  cases o with
  | none=>exact .nil _
  | some x=>exact h x rfl
theorem Ff (fet:Fet) (t:Nat) (x:A) (lo hi:Option A):AU fet (Ce C fet t x lo hi).upd:=by
  unfold Ce
  refine Jo fun ti=> ?_
  split
  ·exact Ew fun _ _=>.nil _
  ·exact Ew fun _ _=>Ew fun _ _=>Jo fun _=>.nil _
  ·refine Ew fun r hr=>Ew fun _ _=>Ew fun _ _=>Jo fun _=> ?_
   cases r.frz with
   | true=>exact .nil _
   | false=>exact .one (CY hr)
  ·exact .nil _
theorem zF (fet:Fet) (d t:Nat) (x hi:A):AU fet (X9 C fet d t x hi).upd:=by
  unfold X9
  refine Jo fun ti=> ?_
  split
  ·exact Ew fun _ _=>Ew fun _ _=>Ew fun _ _=>Jo fun _=>.nil _
  ·exact .nil _
theorem yH (fet:Fet) (t:Nat) (x h:A):AU fet (VN C fet t x h).upd:=by
  unfold VN
  refine Jo fun ti=> ?_
  split
  ·exact Ew fun _ _=>Ew fun _ _=>Ew fun _ _=>Jo fun _=>.nil _
  ·exact .nil _
theorem wQ {fet:Fet} (x:A) (j:Nat) {δ :Dl} (h:AU fet δ.upd):AU fet (IW fet x j δ).upd:=by
  unfold IW
  split
  ·split
   ·rename_i q _ _ cs _
    cases Nat.blt j cs.length&& δ.upd.all (fun p=> !(Nat.beq p.1 q)||jA cs.length p.2)with
    | false=>exact h
    | true =>
      intro p hp e f l he
      obtain⟨p0,hp0,rfl⟩:=List.mem_map.1 (show p∈ δ.upd.map _ from hp)
      cases hq:Nat.beq p0.1 q with
      | false=>rw[hq]at he;exact h p0 hp0 e f l he
      | true =>
        rw[hq]at he
        obtain⟨n,y⟩:=p0
        cases y with
        | box _=>cases he
        | arr e' f' l'=>exact h _ hp0 e f l he
        | mp _=>cases he
   ·exact h
  ·exact h
theorem wR {fet:Fet} (xs:List A): ∀(ks:List (Nat×Nat)) {δ :Dl},AU fet δ.upd->AU fet (keepD fet xs ks δ).upd:=by
  intro ks
  induction ks with
  | nil=>intro δ h;exact h
  | cons k ks ih=>intro δ h;exact ih (wQ _ _ h)
theorem eH {fet:Fet} {xs:List A} (h:UF o.op=true):AU fet (opX C o xs fet).upd:=by
  obtain⟨dst,op,ty,pos,after,guard⟩:=o
  cases op with
  | slice t x lo hi mx =>
    show AU fet (slX C dst fet t lo hi mx xs).upd
    unfold slX
    split
    ·unfold a1;split<;>first | exact Ff fet _ _ _ _ | exact .nil _
    ·unfold a2
     split
     ·dsimp only
      split
      ·rename_i d
       cases has C.cuts d with
       | false=>exact Ff fet _ _ _ _
       | true=>exact yH fet _ _ _
      ·exact Ff fet _ _ _ _
     ·exact .nil _
    ·unfold a2
     split
     ·dsimp only
      split
      ·rename_i d
       cases has C.cuts d with
       | false=>exact Ff fet _ _ _ _
       | true=>exact zF fet _ _ _ _
      ·exact Ff fet _ _ _ _
     ·exact .nil _
    ·unfold a3;split<;>first | exact Ff fet _ _ _ _ | exact .nil _
    ·exact .nil _
  | call c =>
    obtain⟨callee,args,ts⟩:=c
    cases callee with
    | value fo =>
      cases fo with
      | func f =>
        cases xs with
        | nil=>exact .nil _
        | cons x xs =>
          show AU fet (OH C fet (dst.getD 0) f xs).upd
          unfold OH
          cases C.G f with
          | none=>exact .nil _
          | some sg=>exact wR _ _ (P6 fet _ _ _)
      | tmp t =>
        cases xs with
        | nil=>exact .nil _
        | cons x xs =>
          show AU fet (vO C fet (dst.getD 0) t x xs).upd
          unfold vO
          cases x with
          | fn n =>
            dsimp only
            cases C.dyn t with
            | none=>exact .nil _
            | some F=>exact P6 fet _ _ _
          | clo f q =>
            dsimp only
            cases BP fet q with
            | none=>exact .nil _
            | some _ =>
              show AU fet (match C.dyn t with | some sg=>EC fet (dst.getD 0) (sg f) (xs++[A.clo 0 q]) | none=>.no).upd
              cases C.dyn t with
              | none=>exact .nil _
              | some F=>exact P6 fet _ _ _
          | _=>exact .nil _
      | _=>cases h
    | _=>cases h
  | _=>cases h
theorem kF (hC:D5 P C) (hS:Sim V0 O0 w0 O m st a w) {ops:Array Oper} (hok:Am (Bh C ops.toList o st).ok) (next:Act->World->Prop) (Q:Exit->Act->World->Prop)
    (hn: ∀ O' m' a' w',Sim V0 O0 w0 O' m' (apply st o (Bh C ops.toList o st)) a' w'->next a' w') :
    if Region.wanted o (yielded ops a.tmps)then o.wp P a w next Q else next (a.put o.dst undef) w:=by
  have hx0: ∀ j,j<(o.op.operands.toList.map (evalA st.tmps)).length->Au O st.Aa m w (a.eval (o.op.operands.getD j (.tmp 0))) ((o.op.operands.toList.map (evalA st.tmps)).getD j .undef):=by
    intro j hj
    have hj':j<o.op.operands.size:=by simpa using hj
    have e1:o.op.operands.getD j (.tmp 0)=o.op.operands[j]:=by rw[Array.getD_eq_getD_getElem?,Array.getElem?_eq_getElem hj'];rfl
    have e2:(o.op.operands.toList.map (evalA st.tmps)).getD j .undef=evalA st.tmps o.op.operands[j]:=by simp [List.getD_eq_getElem?_getD,hj']
    rw[e1,e2];exact bD hS _
  have hid0: ∀ y∈o.op.operands.toList.map (evalA st.tmps),∀ i∈y.ids,i∈st.ids:=by
    intro y hy i hi
    obtain⟨x,_,rfl⟩:=List.mem_map.1 hy
    cases x with
    | tmp t =>
      rcases Nat.lt_or_ge t st.tmps.length with h | h
      ·exact Qm h hi
      ·have:evalA st.tmps (.tmp t)= .undef:=by simp [evalA,List.getD_eq_getElem?_getD,List.getElem?_eq_none h]
       rw[this]at hi;cases hi
    | const v=>have:evalA st.tmps (.const v)=ofConst v:=rfl
               rw[this,Acx]at hi;cases hi
    | global g =>
      have hi:i∈(Aez (YL g)).ids:=hi
      cases hg:YL g with
      | none=>rw[hg]at hi;cases hi
      | some q=>rw[hg]at hi;cases hi
    | func f=>cases hi
  obtain⟨hg1,hg2⟩:=Abp (ops:=ops) (o:=o) hS rfl
  have plain: ∀ pre,Am (FT C o st pre).ok->(∀ O' m' a' w',Sim V0 O0 w0 O' m' (apply st o (FT C o st pre)) a' w'->next a' w')->o.wp P a w next Q:=by
    intro pre hok hn
    unfold FT at hok hn
    dsimp only at hok hn
    obtain⟨_,hok⟩:=hok.append
    obtain⟨hokA,hokB⟩:=hok.append
    obtain⟨hok1,hok2⟩:=hokA.append
    obtain⟨hB1,hB2⟩:=hokB.cons
    have hB2:=hB2.cons.1
    obtain⟨hl,hx⟩:=U1 hx0 hok1
    have hid:=WC hx0 hok1
    have hg:=xK hC hS (S9 st _) (by rw[hl];simp) (fun j hj=>hx j (by rw[<- hl];exact hj)) (fun x hx' i hi=>by
      obtain⟨y,hy,hi'⟩:=hid x hx' i hi
      exact .inl (hid0 y hy i hi')) hok2 (fun p hp=>(List.all_eq_true.1 hB1) p hp) hB2
    exact hg next Q hn
  unfold Bh at hok hn
  cases hgo:guardOf ops.toList st.tmps o.guard with
  | none=>rw[hgo]at hok;exact(Az hok).elim
  | some r =>
    cases r with
    | none =>
      rw[hgo]at hok hn
      rw[hg1 hgo,if_pos rfl]
      exact plain _ hok hn
    | some g =>
      rw[hgo]at hok hn
      rw[hg2 g hgo]
      dsimp only at hok hn
      cases hde:AaY C o with
      | some b =>
        rw[hde]at hok hn
        cases b with
        | true =>
          have hg:g=true:=by
            have:=hok
            unfold FT at this
            exact(this.append).1.cons.1
          subst hg
          rw[if_pos rfl]
          exact plain _ hok hn
        | false =>
          have hg:g=false:=by simpa using (show Am [!g]from hok).cons.1
          subst hg
          rw[if_neg (by simp)]
          exact hn O m _ _ (hS.put o.dst (x:=.cnd false .undef) ⟨fun h=>by(cases h),fun _=>rfl⟩)
      | none =>
      rw[hde]at hok hn
      dsimp only at hok hn
      obtain⟨hokA,hokB⟩:=hok.append
      obtain⟨h1,hokB⟩:=hokB.cons
      obtain⟨h3,hokB⟩:=hokB.cons
      obtain⟨hdst,hmg⟩:=hokB.cons
      generalize hxs:(Bv o.op (o.op.operands.toList.map (evalA st.tmps)))=sf at *
      generalize hδ :opX C o sf.2 (AX st sf.2)= δ at *
      have hfet:=S9 st sf.2
      generalize hfe:AX st sf.2=fet at *
      have e1: δ.new=[]:=by simpa using h1
      have e3: δ.del=[]:=by simpa using h3
      have hm2: ∀ p∈ δ.upd,bU (UF o.op) (Ai fet p.1) p.2=true:=fun p hp=>hmg _ (List.mem_map.2 ⟨p,hp,rfl⟩)
      cases g with
      | false =>
        rw[if_neg (by simp)]
        have hS1:=hS.put o.dst (x:=.cnd false δ.val) ⟨fun h=>by(cases h),fun _=>rfl⟩
        obtain⟨O1,hS2⟩:=hS1.closes (δ.upd.map (fun p=>(p.1,Qn false (Ai fet p.1) p.2))) (by
          intro q hq
          obtain⟨p,hp,rfl⟩:=List.mem_map.1 hq
          rcases ZU (hm2 p hp)with ⟨_,cs,h1,h2⟩ | ⟨_,e,f,l,l',h1,h2,h3⟩
          ·exact .inl ⟨cs,hfet _ _ h1,h2⟩
          ·exact .inr ⟨e,f,l,hfet _ _ h1,h3 false⟩)
        exact hn O1 m _ _ hS2
      | true =>
        rw[if_pos rfl]
        have hokA':Am (sf.1++(δ.val.isVal:: δ.ok)):=by
          intro b hb
          have:=hokA (b|| !true) (List.mem_map.2 ⟨b,hb,rfl⟩)
          simpa using this
        obtain⟨hok1,hok2⟩:=hokA'.append
        obtain⟨hv,hok2⟩:=hok2.cons
        rw[<- hxs]at hok1
        obtain⟨hl,hx⟩:=U1 hx0 hok1
        have hid:=WC hx0 hok1
        rw[hxs]at hl hx hid
        have hg:=xK (xs:=sf.2) (fet:=fet) hC hS hfet (by rw[hl];simp) (fun j hj=>hx j (by rw[<- hl];exact hj)) (fun x hx' i hi=>by
          obtain⟨y,hy,hi'⟩:=hid x hx' i hi
          exact .inl (hid0 y hy i hi')) (by rw[hδ];exact hok2) (fun p hp=>by rw[hδ,e1]at hp;cases hp) (by rw[hδ,e1];rfl)
        rw[hδ]at hg
        refine hg next Q (fun O' m' a' w' h=>hn O' m' a' w' ?_)
        have eu: δ.upd.map (fun p=>(p.1,Qn true (Ai fet p.1) p.2))= δ.upd:=by
          conv=>rhs;rw[<- List.map_id δ.upd]
          refine List.map_congr_left fun p hp=> ?_
          rcases ZU (hm2 p hp)with ⟨h1,_⟩ | ⟨hc,e,f,l,l',h1,h2,h3⟩
          ·rw[h1];rfl
          ·have hcl:=eH (C:=C) (fet:=fet) (xs:=sf.2) hc
           rw[hδ]at hcl
           obtain⟨e',f',h4,_⟩:=hcl p hp _ _ _ h2
           rw[h1]at h4
           injection h4 with h4;injection h4 with q1 q2 q3
           rw[h3 true,q3,<- h2];rfl
        have ea:apply st o δ = {tmps:=put st.tmps o.dst δ.val,Aa:=Ar st.Aa δ.upd}:=by
          unfold apply;rw[e1,e3];rfl
        rw[ea]at h
        have eb: ∀ ok,apply st o {ok:=ok,val:=.cnd true δ.val,upd:= δ.upd.map (fun p=>(p.1,Qn true (Ai fet p.1) p.2))}= {tmps:=put st.tmps o.dst (.cnd true δ.val),Aa:=Ar st.Aa δ.upd}:=by
          intro ok;unfold apply;dsimp only;rw[eu];rfl
        rw[eb]
        refine⟨h.defers,by have:=h.size;dsimp only at this ⊢;rw[KN]at this ⊢;exact this,fun t ht=> ?_,h.Aa,h.frame,h.own,h.ids,h.less,h.root,h.SG,h.inv⟩
        have ht':t<st.tmps.length:=by
          have ht2:t<(put st.tmps o.dst (.cnd true δ.val)).length:=ht
          rw[KN]at ht2;exact ht2
        have:=h.tmps t (by show t<(put st.tmps o.dst δ.val).length;rw[KN];exact ht')
        dsimp only at this ⊢
        rw[dD _ _ _ _ ht']at this
        rw[dD _ _ _ _ ht']
        by_cases hd:o.dst=some t
        ·rw[if_pos hd]at this ⊢
         exact⟨fun _=>this.AfV hv,fun h=>by(cases h)⟩
        ·rw[if_neg hd]at this ⊢;exact this
end
