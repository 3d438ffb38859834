import Derived.Test.YtpaimpmokhihmaaGreatDoorA10
set_option linter.all false
namespace Go.Proofs.YtpaimpmokhihmaaGreatDoor.Vm
open Classical
section
variable {P:Program} {C:Ctx} {V0:Nat->Value} {O0 O:Own} {w0 w:World} {m:Nat->Value} {st:St} {a:Act} {o:Oper}
theorem Agq (Jm:List (Nat×Obj)): ∀(l:List Nat) (q:Nat) (x:Obj),Jr (fetch Jm l) q=some x->Jr Jm q=some x:=by
 intro l
 induction l with
 | nil=>intro q x h;cases h
 | cons n r ih=>grind[fetch,Jr,LX]
theorem AbV (a b:List (Nat×Obj)) (q:Nat):Jr (a++b) q=match Jr a q with | some x=>some x | none=>Jr b q:=by
 induction a with
 | nil=>rfl
 | cons p r ih=>grind[LX]
theorem Xy (st:St) (vs:List A):MV st.Jm (JJ st vs):=by intro q x h;grind[JJ,AbV,split,Agq]
theorem AfK {v:Value} {x:A} (h:Jy O st.Jm m w v x) (hok:Jv x.strip.1):Jy O st.Jm m w v x.strip.2:=by
 cases x with
 | cnd g y =>have:=h.1 hok.cons.1;cases y<;>first | trivial | exact this | exact this.elim
 | _=>exact h
theorem AcJ: ∀(xs:List A) (f:Nat->Value),(∀ j,j<xs.length->Jy O st.Jm m w (f j) (xs.getD j .undef))->Jv (strips xs).1 ->
 (strips xs).2.length=xs.length/\ ∀ j,j<xs.length->Jy O st.Jm m w (f j) ((strips xs).2.getD j .undef):=by
 intro xs
 induction xs with
 | nil=>intro f _ _;exact⟨rfl,fun j hj=>by simp at hj⟩
 | cons x xs ih =>
  intro f h hok;simp only[strips]at hok ⊢;obtain⟨h1,h2⟩:=hok.append;obtain⟨g1,g2⟩:=ih (fun j=>f (j+1)) (fun j hj=>by simpa using h (j+1) (by simpa using hj)) h2;refine⟨by simp [g1],fun j hj=> ?_⟩;cases j with
  | zero=>grind[AfK]
  | succ j=>simpa using g2 j (by simpa using hj)
theorem AgR {v:Value} {x:A} (h:Jy O st.Jm m w v x):Jy O st.Jm m w v x.weak:=by
 cases x with
 | sln l =>
  have h':Jt O w v (.sln l):=h;cases h' with
  | sln h _=>exact h
 | _=>exact h
theorem AgQ (x:A):x.weak.ids=x.ids:=by cases x<;>rfl
theorem AfM (xs:List A) (j:Nat):(xs.map A.weak).getD j .undef=(xs.getD j .undef).weak:=by simp only[Di,DW];cases xs[j]? <;>rfl
theorem gY (op:Op) (xs:List A):(∃ a b c,op= .pick a b c)\/Kv op xs=((strips xs).1,bif Zp op then(strips xs).2 else(strips xs).2.map A.weak):=by cases op<;>first | exact .inr rfl | exact .inl ⟨_,_,_,rfl⟩
theorem Yr {op:Op} {xs:List A} {f:Nat->Value} (h: ∀ j,j<xs.length->Jy O st.Jm m w (f j) (xs.getD j .undef)) (hok:Jv (Kv op xs).1) :
 (Kv op xs).2.length=xs.length/\ ∀ j,j<xs.length->Jy O st.Jm m w (f j) ((Kv op xs).2.getD j .undef):=by
 rcases gY op xs with ⟨x,y,z,rfl⟩ | he
 .exact⟨rfl,h⟩
 .rw[he]at hok ⊢;obtain⟨g1,g2⟩:=AcJ xs f h hok;cases hb:Zp op with
  | true=>exact⟨g1,g2⟩
  | false =>refine⟨by simp [g1],fun j hj=> ?_⟩;show Jy O st.Jm m w (f j) (((strips xs).2.map A.weak).getD j .undef);rw[AfM];exact AgR (g2 j hj)
theorem AfJ {v:Value} {x:A} {i:Nat} (ht:Jy O st.Jm m w v x) (hok:Jv x.strip.1) (h:i∈x.strip.2.ids):i∈x.ids:=by
 cases x with
 | cnd g y =>have h1:=ht.1 hok.cons.1;cases y<;>first | exact h | exact h1.elim
 | _=>exact h
theorem Aev: ∀(xs:List A) (f:Nat->Value),(∀ j,j<xs.length->Jy O st.Jm m w (f j) (xs.getD j .undef))->Jv (strips xs).1-> ∀ x∈(strips xs).2,∀ i∈x.ids,∃ y∈xs,i∈y.ids:=by
 intro xs
 induction xs with
 | nil=>grind[strips]
 | cons z xs ih =>
  intro f h hok x hx i hi;simp only[strips]at hok hx;obtain⟨h1,h2⟩:=hok.append;rcases Dz.1 hx with rfl | hx
  .exact⟨z,Dp,AfJ (h 0 (by simp)) h1 hi⟩
  .obtain⟨y,hy,hi'⟩:=ih (fun j=>f (j+1)) (fun j hj=>by simpa using h (j+1) (by simpa using hj)) h2 x hx i hi;exact⟨y,Dq _ hy,hi'⟩
theorem ZN {op:Op} {xs:List A} {f:Nat->Value} (h: ∀ j,j<xs.length->Jy O st.Jm m w (f j) (xs.getD j .undef)) (hok:Jv (Kv op xs).1): ∀ x∈(Kv op xs).2,∀ i∈x.ids,∃ y∈xs,i∈y.ids:=by
 rcases gY op xs with ⟨x,y,z,rfl⟩ | he
 .exact fun x hx i hi=>⟨x,hx,hi⟩
 .rw[he]at hok ⊢;have g:=Aev xs f h hok;cases hb:Zp op with
  | true=>exact g
  | false =>intro x hx i hi;obtain⟨z,hz,rfl⟩:=D6.1 (show x∈(strips xs).2.map A.weak from hx);rw[AgQ]at hi;exact g z hz i hi
theorem AdC {ops:Array Oper} {gd:Option (Nat×Bool)} (hS:Sim V0 O0 w0 O m st a w) (hgd:o.guard=gd) :
 (guardOf ops.toList st.tmps gd=some none->Region.wanted o (yielded ops a.tmps)=true) /\
 ∀ g,guardOf ops.toList st.tmps gd=some (some g)->Region.wanted o (yielded ops a.tmps)=g:=by
 cases gd with
 | none =>refine⟨fun _=>by unfold Region.wanted;rw[hgd],fun g h=>by simp [guardOf]at h⟩
 | some p =>
  obtain⟨j,want⟩:=p;unfold Region.wanted;rw[hgd];dsimp only
  have key: ∀ oj t,ops[j]? =some oj->oj.dst=some t->yielded ops a.tmps j=match a.tmps[t]? with | some (.bool b)=>some b | _=>none:=by
   intro oj t h1 h2;unfold yielded;have:(ops[j]?).bind (·.dst)=some t:=by rw[h1];exact h2
   rw[this];show(match a.tmps[t]? with | some (.bool b)=>some b | _=>none)=_;cases a.tmps[t]? with
   | none=>rfl
   | some v=>cases v<;>rfl
  unfold guardOf;have hop:ops.toList[j]? =ops[j]? :=by simp
  dsimp only;rw[hop];cases hj:ops[j]? with
  | none=>exact⟨fun h=>by simp at h,fun g h=>by simp at h⟩
  | some oj =>
   dsimp only;cases hd:oj.dst with
   | none=>exact⟨fun h=>by simp at h,fun g h=>by simp at h⟩
   | some t =>
    dsimp only;have ht:=hS.tmps t;rw[key oj t hj hd];cases hv:st.tmps.getD t .undef with
    | bool b =>
     refine⟨fun h=>by simp at h,fun g h=> ?_⟩;simp only[Ez]at h
     have htl:t<st.tmps.length:=by
      rcases DT t st.tmps.length with h | h
      .exact h
      .rw[Di,DN h]at hv;cases hv
     have:=ht htl;rw[hv]at this;have:=this.bool;have hts:t<a.tmps.size:=by rw[hS.size];exact htl
     rw[getD_eq hts,this,<- h];cases want<;>cases b<;>rfl
    | cnd g0 y =>
     cases y with
     | bool b =>
      refine⟨fun h=>by simp at h,fun g h=> ?_⟩;simp only[Ez]at h
      have htl:t<st.tmps.length:=by
       rcases DT t st.tmps.length with h | h
       .exact h
       .rw[Di,DN h]at hv;cases hv
      have:=ht htl;rw[hv]at this;have hts:t<a.tmps.size:=by rw[hS.size];exact htl
      rw[getD_eq hts,<- h];cases g0 with
      | true =>have h1:Jt O w (a.tmps.getD t undef) (.bool b):=this.1 rfl;generalize a.tmps.getD t undef=z at h1;cases h1;cases want<;>cases b<;>rfl
      | false =>rw[this.2 rfl];simp [undef]
     | _=>exact⟨fun h=>by simp at h,fun g h=>by simp at h⟩
    | _=>exact⟨fun h=>by simp at h,fun g h=>by simp at h⟩
theorem AeH (v:Value):(ofConst v).ids=[]:=by
 have hc: ∀ u:Value,(MR u).Ls=[]:=by intro u;unfold MR;split<;>rfl
 have hc2: ∀ u:Value,(MR u).ids=[]:=by intro u;unfold MR;split<;>rfl
 unfold ofConst;split
 .rename_i vs;cases vs.toList.all Value.oneCell' with
  | false=>rfl
  | true =>show(vs.toList.map MR).flatMap A.Ls=[];rw[FP];intro x hx;obtain⟨u,_,rfl⟩:=D6.1 hx;exact hc u
 .exact hc2 v
theorem Ac6 {a b:A} (h:VT a b=true):Yc true a b=b/\Yc false a b=a:=by
 cases a<;>cases b<;>first | exact⟨rfl,rfl⟩ | exact(Bool.false_ne_true h).elim | skip
 case int.int k x k' y =>
  have e:k=k':=by cases k<;>cases k'<;>first | rfl | cases h
  subst e;exact⟨rfl,rfl⟩
 case sl.sl l l' =>
  obtain⟨t,xs⟩:=l;obtain⟨t',xs'⟩:=l';unfold VT Sl.cast at h;unfold Yc Sl.cast;dsimp only at h ⊢;cases hd:decEq t' t with
  | isTrue e=>subst e;exact⟨rfl,rfl⟩
  | isFalse e=>rw[hd]at h;cases h
 case sln.sln l l' =>
  obtain⟨t,xs⟩:=l;obtain⟨t',xs'⟩:=l';unfold VT Sl.cast at h;unfold Yc Sl.cast;dsimp only at h ⊢;cases hd:decEq t' t with
  | isTrue e=>subst e;exact⟨rfl,rfl⟩
  | isFalse e=>rw[hd]at h;cases h
 all_goals simp_all[VT,Yc]
theorem xE: ∀ {aa bs:List A},okM aa bs=true->wG true aa bs=bs/\wG false aa bs=aa
 | [],[],_=>⟨rfl,rfl⟩
 | a::aa,b::bs,h=>by unfold okM at h;obtain⟨h1,h2⟩:=Bool.and_eq_true_iff.1 h;obtain⟨i1,i2⟩:=Ac6 h1;obtain⟨j1,j2⟩:=xE h2;exact⟨by unfold wG;rw[i1,j1],by unfold wG;rw[i2,j2]⟩
 | [],_::_,h=>by cases h
 | _::_,[],h=>by cases h
theorem kD {c:Bool} {x:Option Obj} {y:Obj} (h:VU c x y=true) :
 (RH true x y=y/\ ∃ cs,x=some (.box cs)/\RH false x y= .box cs)\/c=true/\ ∃ e f l l',x=some (.arr e f l)/\y= .arr e true l'/\ ∀ g,RH g x y= .arr e true l:=by
 cases x with
 | none=>cases h
 | some x =>
  cases x with
  | box cs=>grind[xE,okM,Obj,VU,RH]
  | arr e f l =>
   cases y with
   | arr e' f' l' =>
    cases f' with
    | true=>simp_all[Obj,VU,RH]
    | false=>cases h
   | _=>cases h
  | _=>cases h
def Closes (Jm U:List (Nat×Obj)):Prop:= ∀ p∈U,(∃ cs,Jr Jm p.1=some (.box cs)/\p.2= .box cs)\/ ∃ e f l,Jr Jm p.1=some (.arr e f l)/\p.2= .arr e true l
theorem _root_.Go.Proofs.YtpaimpmokhihmaaGreatDoor.Vm.Sim.AgD {objs':List (Nat×Obj)} (hS:Sim V0 O0 w0 O m st a w) (h: ∀ n,Jr objs' n=Jr st.Jm n):Sim V0 O0 w0 O m {st with Jm:=objs'} a w:=by
 have he:NW st.Jm m objs' m (fun _=>False):=fun o x hx=>.inr ⟨x,by rw[<- h];exact hx,rfl,rfl⟩;have hp:Lt O w O w:=fun b k u h1 h2=>⟨h1,h2⟩
 refine⟨hS.defers,hS.size,fun t ht=>(hS.tmps t ht).step hp he (fun _ _=>id),fun o x hx=> ?_,hS.frame,hS.own,fun o x hx=>hS.ids o x (by rw[<- h];exact hx),hS.less,fun o ho hx=>hS.root o ho (by rw[<- h];exact hx),hS.VM,hS.inv⟩;have h0:=hS.Jm o x (by rw[<- h];exact hx);cases x with
 | box cs =>obtain⟨b,base,h1,h2⟩:=h0;refine⟨b,base,h1,fun j hj=> ?_⟩;obtain⟨g1,g2,u,g3,g4⟩:=h2 j hj;exact⟨g1,g2,u,g3,g4.step hp he (fun _ _=>id)⟩
 | arr e f l=>exact h0
 | mp l=>exact h0
theorem _root_.Go.Proofs.YtpaimpmokhihmaaGreatDoor.Vm.Sim.closes: ∀(U:List (Nat×Obj)) {O:Own} {st:St},Sim V0 O0 w0 O m st a w->Closes st.Jm U-> ∃ O',Sim V0 O0 w0 O' m {st with Jm:=J3 st.Jm U} a w:=by
 intro U
 induction U with
 | nil=>intro O st hS _;exact⟨O,hS⟩
 | cons p U ih =>
  intro O st hS h;obtain⟨n,y⟩:=p;have h0:=h (n,y) Dp
  have hrest:Closes (KI st.Jm n y) U:=by
   intro q hq;have h1:=h q (Dq _ hq);rw[JO];by_cases hk:q.1=n
   .rw[Dw hk];rw[hk]at h1;rcases h0 with ⟨cs,g1,g2⟩ | ⟨e,f,l,g1,g2⟩
    .dsimp only at g1 g2;rw[g1]at h1;rcases h1 with ⟨cs',k1,k2⟩ | ⟨e',f',l',k1,k2⟩
     .injection k1 with k1;rw[<- k1]at k2;exact .inl ⟨cs,by rw[g2],k2⟩
     .cases k1
    .dsimp only at g1 g2;rw[g1]at h1;rcases h1 with ⟨cs',k1,k2⟩ | ⟨e',f',l',k1,k2⟩
     .cases k1
     .injection k1 with k1;injection k1 with q1 q2 q3;subst q1;subst q3;exact .inr ⟨e,true,l,by rw[g2],k2⟩
   .rw[Du hk];exact h1
  show ∃ O',Sim V0 O0 w0 O' m {st with Jm:=J3 (KI st.Jm n y) U} a w;rcases h0 with ⟨cs,g1,g2⟩ | ⟨e,f,l,g1,g2⟩
  .dsimp only at g1 g2
   have hS':Sim V0 O0 w0 O m {st with Jm:=KI st.Jm n y} a w:=hS.AgD fun k=>by
    rw[JO];by_cases hk:k=n
    .rw[Dw hk,hk,g1,g2]
    .rw[Du hk]
   exact ih hS' hrest
  .dsimp only at g1 g2;obtain⟨O1,hS1,_⟩:=hS.freezes [(n,y)] (fun q hq=>by simp at hq;subst hq;exact⟨e,f,l,g1,g2⟩);exact ih hS1 hrest
def JF (fet:Fet) (U:List (Nat×Obj)):Prop:= ∀ p∈U,∀ e f l,p.2= .arr e f l-> ∃ e' f',Jr fet p.1=some (.arr e' f' l)/\f=true
theorem JF.append {fet:Fet} {U V:List (Nat×Obj)} (h:JF fet U) (h':JF fet V):JF fet (U++V):=fun p hp=>(DI.1 hp).elim (h p) (h' p)
theorem JF.nil (fet:Fet):JF fet []:=fun p hp=>by cases hp
theorem JF.one {fet:Fet} {n e e0:Nat} {f:Bool} {l:Sl} (h:Jr fet n=some (.arr e f l)):JF fet [(n,.arr e0 true l)]:=by simp_all[Fet,Jr,JF]
theorem JF.cons {fet:Fet} {n e e0:Nat} {f:Bool} {l:Sl} {U:List (Nat×Obj)} (h:Jr fet n=some (.arr e f l)) (h':JF fet U):JF fet ((n,.arr e0 true l)::U):=(JF.one h).append h'
theorem qP (fet:Fet) (k:CK) (c:A):JF fet (pur fet k c).2.2:=by
 unfold pur;split
 .split
  .rename_i h;exact .one h
  .exact .nil _
 .split<;>exact .nil _
 all_goals exact .nil _
theorem Ac9 (fet:Fet): ∀(ks:List CK) (cs:List A),JF fet (JV fet ks cs).2.2:=by
 intro ks
 induction ks with
 | nil=>intro cs;cases cs<;>exact .nil _
 | cons k ks ih=>intro cs;cases cs with
  | nil=>exact .nil _
  | cons c cs=>exact(qP fet k c).append (ih cs)
theorem OV (fet:Fet): ∀(ks:List (Bool×CK)) (cs:List A),JF fet (Ju fet ks cs).2.2.1:=by
 intro ks
 induction ks with
 | nil=>intro cs;cases cs<;>exact .nil _
 | cons k ks ih =>
  intro cs;obtain⟨u,k⟩:=k;cases cs with
  | nil=>cases u<;>cases k<;>exact .nil _
  | cons c cs =>
   cases u with
   | false=>exact(qP fet k c).append (ih cs)
   | true =>
    cases k with
    | sl e t =>
     cases c with
     | own q =>
      simp only[Ju];cases h:Jr fet q with
      | none=>exact .nil _
      | some x =>
       cases x with
       | arr e' f l=>exact .cons h (ih cs)
       | _=>exact .nil _
     | KD=>exact ih cs
     | _=>exact .nil _
    | sln e t =>
     cases c with
     | own q =>
      simp only[Ju];cases h:Jr fet q with
      | none=>exact .nil _
      | some x =>
       cases x with
       | arr e' f l=>exact ih cs
       | _=>exact .nil _
     | KD=>exact ih cs
     | _=>exact .nil _
    | bx t =>
     cases c with
     | ptr q off =>
      simp only[Ju];cases KT fet q with
      | none=>exact .nil _
      | some zs=>exact(Ac9 fet _ zs).append (ih cs)
     | _=>exact .nil _
    | mp kt vt =>
     cases c with
     | own q =>
      simp only[Ju];cases h:Jr fet q with
      | none=>exact .nil _
      | some x =>
       cases x with
       | mp l=>exact ih cs
       | _=>exact .nil _
     | _=>exact .nil _
    | _=>cases c<;>exact .nil _
theorem uS (fet:Fet) (s:Sh) (x:A):JF fet (JD fet s x).upd:=by
 cases s with
 | cell u k =>
  have:=OV fet [(u,k)] [x];unfold JD;dsimp only;generalize Ju fet [(u,k)] [x]=r at this ⊢;obtain⟨ok,cs,upd,del⟩:=r;cases cs with
  | nil=>exact .nil _
  | cons c cs=>cases cs with
   | nil=>exact this
   | cons _ _=>exact .nil _
 | agg ks=>cases x<;>first | exact .nil _ | exact OV fet _ _
 | box ks =>
  cases x with
  | ptr q off =>
   unfold JD;dsimp only;cases KT fet q with
   | none=>exact .nil _
   | some cs=>exact OV fet _ _
  | _=>exact .nil _
 | clo f' ks =>
  cases x with
  | clo g q =>
   unfold JD;dsimp only;cases KT fet q with
   | none=>exact .nil _
   | some cs=>exact OV fet _ _
  | _=>exact .nil _
 | map kt vt =>
  cases x with
  | own q =>unfold JD;dsimp only;split<;>exact .nil _
  | _=>exact .nil _
theorem oZ (fet:Fet): ∀(ss:List Sh) (xs:List A),JF fet (J8 fet ss xs).2.2.1:=by
 intro ss
 induction ss with
 | nil=>intro xs;cases xs<;>exact .nil _
 | cons s ss ih =>
  intro xs;cases xs with
  | nil=>exact .nil _
  | cons x xs=>exact(uS fet s x).append (ih xs)
theorem kX (fet:Fet) (rb:Nat->Nat) (rs:List A): ∀(bs:List (Nat×Sh)) (j:Nat),JF fet (Kt rb rs bs j).2.1:=by
 intro bs
 induction bs with
 | nil=>intro j;exact .nil _
 | cons b bs ih =>
  intro j p hp;obtain⟨q,s⟩:=b;rcases Dz.1 hp with rfl | hp
  .intro e f l he;cases s<;>cases he
  .exact ih (j+1) p hp
theorem V3 (fet:Fet) (d:Nat) (sg:Sig) (xs:List A):JF fet (N9 fet d sg xs).upd :=
 (oZ fet _ _).append (kX fet _ _ _ _)
theorem PX {t:Nat} {k:TI->Dl} {fet:Fet} (h: ∀ ti,JF fet (k ti).upd):JF fet (KP C t k).upd:=by
 unfold KP JH;cases C.T t with
 | none=>exact .nil _
 | some ti=>exact h ti
theorem ML {α :Type} {o:Option α} {k: α ->Dl} {fet:Fet} (h: ∀ x,o=some x->JF fet (k x).upd):JF fet (JH o k).upd:=by
 unfold JH;cases o with
 | none=>exact .nil _
 | some x=>exact h x rfl
theorem Q7 (fet:Fet) (t:Nat) (x:A) (lo hi:Option A):JF fet (KR C fet t x lo hi).upd:=by
 unfold KR;refine PX fun ti=> ?_;split
 .exact ML fun _ _=>.nil _
 .exact ML fun _ _=>ML fun _ _=>PX fun _=>.nil _
 .exact ML fun _ _=>ML fun _ _=>PX fun _=>.nil _
 .refine ML fun r hr=>ML fun _ _=>ML fun _ _=>PX fun _=> ?_;cases r.frz with
  | true=>exact .nil _
  | false=>exact .one (LD hr)
 .exact .nil _
theorem Acg (fet:Fet) (d t:Nat) (x hi:A):JF fet (bP C fet d t x hi).upd:=by
 unfold bP;refine PX fun ti=> ?_;split
 .exact ML fun _ _=>ML fun _ _=>ML fun _ _=>PX fun _=>.nil _
 .exact .nil _
theorem AbK (fet:Fet) (t:Nat) (x h:A):JF fet (Zq C fet t x h).upd:=by
 unfold Zq;refine PX fun ti=> ?_;split
 .exact ML fun _ _=>ML fun _ _=>ML fun _ _=>PX fun _=>.nil _
 .exact .nil _
theorem AaW {fet:Fet} (x:A) (j:Nat) {δ :Dl} (h:JF fet δ.upd):JF fet (OW fet x j δ).upd:=by
 unfold OW;split
 .split
  .rename_i q _ _ cs _;cases Nat.blt j cs.length&& δ.upd.all (fun p=> !(Nat.beq p.1 q)||pY cs.length p.2)with
   | false=>exact h
   | true =>
    intro p hp e f l he;obtain⟨p0,hp0,rfl⟩:=D6.1 (show p∈ δ.upd.map _ from hp);cases hq:Nat.beq p0.1 q with
    | false=>rw[hq]at he;exact h p0 hp0 e f l he
    | true =>
     rw[hq]at he;obtain⟨n,y⟩:=p0;cases y with
     | box _=>cases he
     | arr e' f' l'=>exact h _ hp0 e f l he
     | mp _=>cases he
  .exact h
 .exact h
theorem AaX {fet:Fet} (xs:List A): ∀(ks:List (Nat×Nat)) {δ :Dl},JF fet δ.upd->JF fet (keepD fet xs ks δ).upd:=by
 intro ks
 induction ks with
 | nil=>intro δ h;exact h
 | cons k ks ih=>intro δ h;exact ih (AaW _ _ h)
theorem nM {fet:Fet} {xs:List A} (h:Y2 o.op=true):JF fet (opX C o xs fet).upd:=by
 obtain⟨dst,op,ty,pos,after,guard⟩:=o;cases op with
 | slice t x lo hi mx =>
  show JF fet (slX C dst fet t lo hi mx xs).upd;unfold slX;split
  .unfold a1;split<;>first | exact Q7 fet _ _ _ _ | exact .nil _
  .unfold a2;split
   .grind[split,has,Q7,AbK]
   .exact .nil _
  .unfold a2;split
   .grind[split,has,Q7,Acg]
   .exact .nil _
  .unfold a3;split<;>first | exact Q7 fet _ _ _ _ | exact .nil _
  .exact .nil _
 | call c =>
  obtain⟨callee,args,ts⟩:=c;cases callee with
  | value fo =>
   cases fo with
   | func f =>
    cases xs with
    | nil=>exact .nil _
    | cons x xs =>
     show JF fet (UZ C fet (dst.getD 0) f xs).upd;unfold UZ;cases C.G f with
     | none=>exact .nil _
     | some sg=>grind[AaX,V3]
   | tmp t =>
    cases xs with
    | nil=>exact .nil _
    | cons x xs =>
     show JF fet (Aa5 C fet (dst.getD 0) t x xs).upd;unfold Aa5;cases x with
     | fn n =>
      dsimp only;cases C.dyn t with
      | none=>exact .nil _
      | some F=>exact V3 fet _ _ _
     | clo f q =>
      dsimp only;cases KT fet q with
      | none=>exact .nil _
      | some _ =>
       show JF fet (match C.dyn t with | some sg=>N9 fet (dst.getD 0) (sg f) (xs++[A.clo 0 q]) | none=>.no).upd;cases C.dyn t with
       | none=>exact .nil _
       | some F=>exact V3 fet _ _ _
     | _=>exact .nil _
   | _=>cases h
  | _=>cases h
 | _=>cases h
theorem rE (hC:Md P C) (hS:Sim V0 O0 w0 O m st a w) {ops:Array Oper} (hok:Jv (JU C ops.toList o st).ok) (next:Act->World->Prop) (Q:Exit->Act->World->Prop)
 (hn: ∀ O' m' a' w',Sim V0 O0 w0 O' m' (apply st o (JU C ops.toList o st)) a' w'->next a' w') :
 if Region.wanted o (yielded ops a.tmps)then o.wp P a w next Q else next (a.put o.dst undef) w:=by
 have hx0: ∀ j,j<(o.op.operands.toList.map (Kq st.tmps)).length->Jy O st.Jm m w (a.eval (o.op.operands.getD j (.tmp 0))) ((o.op.operands.toList.map (Kq st.tmps)).getD j .undef):=by
  intro j hj;have hj':j<o.op.operands.size:=by simpa using hj
  have e1:o.op.operands.getD j (.tmp 0)=o.op.operands[j]:=by rw[Dj,Dt hj'];rfl
  have e2:(o.op.operands.toList.map (Kq st.tmps)).getD j .undef=Kq st.tmps o.op.operands[j]:=by simp [Di,hj']
  rw[e1,e2];exact lC hS _
 have hid0: ∀ y∈o.op.operands.toList.map (Kq st.tmps),∀ i∈y.ids,i∈st.ids:=by
  intro y hy i hi;obtain⟨x,_,rfl⟩:=D6.1 hy;cases x with
  | tmp t =>
   rcases DT t st.tmps.length with h | h
   .exact VS h hi
   .have:Kq st.tmps (.tmp t)= .undef:=by simp [Kq,Di,DN h]
    rw[this]at hi;cases hi
  | const v=>have:Kq st.tmps (.const v)=ofConst v:=rfl
             rw[this,AeH]at hi;cases hi
  | global g =>
   have hi:i∈(AgM (gZ g)).ids:=hi;cases hg:gZ g with
   | none=>rw[hg]at hi;cases hi
   | some q=>rw[hg]at hi;cases hi
  | func f=>cases hi
 obtain⟨hg1,hg2⟩:=AdC (ops:=ops) (o:=o) hS rfl;have plain: ∀ pre,Jv (OI C o st pre).ok->(∀ O' m' a' w',Sim V0 O0 w0 O' m' (apply st o (OI C o st pre)) a' w'->next a' w')->o.wp P a w next Q:=by intro pre hok hn;unfold OI at hok hn;dsimp only at hok hn;obtain⟨_,hok⟩:=hok.append;obtain⟨hokA,hokB⟩:=hok.append;obtain⟨hok1,hok2⟩:=hokA.append;obtain⟨hB1,hB2⟩:=hokB.cons;have hB2:=hB2.cons.1;obtain⟨hl,hx⟩:=Yr hx0 hok1;have hid:=ZN hx0 hok1;have hg:=Abn hC hS (Xy st _) (by rw[hl];simp) (fun j hj=>hx j (by rw[<- hl];exact hj)) (fun x hx' i hi=>by obtain⟨y,hy,hi'⟩:=hid x hx' i hi;exact .inl (hid0 y hy i hi')) hok2 (fun p hp=>(DK.1 hB1) p hp) hB2;exact hg next Q hn
 unfold JU at hok hn;cases hgo:guardOf ops.toList st.tmps o.guard with
 | none=>rw[hgo]at hok;exact(J5 hok).elim
 | some r =>
  cases r with
  | none =>rw[hgo]at hok hn;rw[hg1 hgo,Dw rfl];exact plain _ hok hn
  | some g =>
   rw[hgo]at hok hn;rw[hg2 g hgo];dsimp only at hok hn;cases hde:Adx C o with
   | some b =>
    rw[hde]at hok hn;cases b with
    | true =>
     have hg:g=true:=by have:=hok;unfold OI at this;exact(this.append).1.cons.1
     subst hg;rw[Dw rfl];exact plain _ hok hn
    | false =>
     have hg:g=false:=by simpa using (show Jv [!g]from hok).cons.1
     subst hg;rw[Du (by simp)];exact hn O m _ _ (hS.put o.dst (x:=.cnd false .undef) ⟨fun h=>by(cases h),fun _=>rfl⟩)
   | none =>
   rw[hde]at hok hn;dsimp only at hok hn;obtain⟨hokA,hokB⟩:=hok.append;obtain⟨h1,hokB⟩:=hokB.cons;obtain⟨h3,hokB⟩:=hokB.cons;obtain⟨hdst,hmg⟩:=hokB.cons;generalize hxs:(Kv o.op (o.op.operands.toList.map (Kq st.tmps)))=sf at *
   generalize hδ :opX C o sf.2 (JJ st sf.2)= δ at *
   have hfet:=Xy st sf.2;generalize hfe:JJ st sf.2=fet at *
   have e1: δ.new=[]:=by simpa using h1
   have e3: δ.del=[]:=by simpa using h3
   have hm2: ∀ p∈ δ.upd,VU (Y2 o.op) (Jr fet p.1) p.2=true:=fun p hp=>hmg _ (D6.2 ⟨p,hp,rfl⟩);cases g with
   | false =>
    rw[Du (by simp)];have hS1:=hS.put o.dst (x:=.cnd false δ.val) ⟨fun h=>by(cases h),fun _=>rfl⟩
    obtain⟨O1,hS2⟩:=hS1.closes (δ.upd.map (fun p=>(p.1,RH false (Jr fet p.1) p.2))) (by
     intro q hq;obtain⟨p,hp,rfl⟩:=D6.1 hq;rcases kD (hm2 p hp)with ⟨_,cs,h1,h2⟩ | ⟨_,e,f,l,l',h1,h2,h3⟩
     .exact .inl ⟨cs,hfet _ _ h1,h2⟩
     .exact .inr ⟨e,f,l,hfet _ _ h1,h3 false⟩)
    exact hn O1 m _ _ hS2
   | true =>
    rw[Dw rfl];have hokA':Jv (sf.1++(δ.val.isVal:: δ.ok)):=by intro b hb;have:=hokA (b|| !true) (D6.2 ⟨b,hb,rfl⟩);simpa using this
    obtain⟨hok1,hok2⟩:=hokA'.append;obtain⟨hv,hok2⟩:=hok2.cons;rw[<- hxs]at hok1;obtain⟨hl,hx⟩:=Yr hx0 hok1;have hid:=ZN hx0 hok1;rw[hxs]at hl hx hid;have hg:=Abn (xs:=sf.2) (fet:=fet) hC hS hfet (by rw[hl];simp) (fun j hj=>hx j (by rw[<- hl];exact hj)) (fun x hx' i hi=>by obtain⟨y,hy,hi'⟩:=hid x hx' i hi;exact .inl (hid0 y hy i hi')) (by rw[hδ];exact hok2) (fun p hp=>by rw[hδ,e1]at hp;cases hp) (by rw[hδ,e1];rfl);rw[hδ]at hg;refine hg next Q (fun O' m' a' w' h=>hn O' m' a' w' ?_)
    have eu: δ.upd.map (fun p=>(p.1,RH true (Jr fet p.1) p.2))= δ.upd:=by
     conv=>rhs;rw[<- F7 δ.upd]
     refine Ew fun p hp=> ?_;rcases kD (hm2 p hp)with ⟨h1,_⟩ | ⟨hc,e,f,l,l',h1,h2,h3⟩
     .rw[h1];rfl
     .have hcl:=nM (C:=C) (fet:=fet) (xs:=sf.2) hc;rw[hδ]at hcl;obtain⟨e',f',h4,_⟩:=hcl p hp _ _ _ h2;rw[h1]at h4;injection h4 with h4;injection h4 with q1 q2 q3;rw[h3 true,q3,<- h2];rfl
    have ea:apply st o δ = {tmps:=put st.tmps o.dst δ.val,Jm:=J3 st.Jm δ.upd}:=by unfold apply;rw[e1,e3];rfl
    rw[ea]at h;have eb: ∀ ok,apply st o {ok:=ok,val:=.cnd true δ.val,upd:= δ.upd.map (fun p=>(p.1,RH true (Jr fet p.1) p.2))}= {tmps:=put st.tmps o.dst (.cnd true δ.val),Jm:=J3 st.Jm δ.upd}:=by intro ok;unfold apply;dsimp only;rw[eu];rfl
    rw[eb];refine⟨h.defers,by have:=h.size;dsimp only at this ⊢;rw[RQ]at this ⊢;exact this,fun t ht=> ?_,h.Jm,h.frame,h.own,h.ids,h.less,h.root,h.VM,h.inv⟩;have ht':t<st.tmps.length:=by have ht2:t<(put st.tmps o.dst (.cnd true δ.val)).length:=ht;rw[RQ]at ht2;exact ht2
    have:=h.tmps t (by show t<(put st.tmps o.dst δ.val).length;rw[RQ];exact ht');dsimp only at this ⊢;rw[lW _ _ _ _ ht']at this;rw[lW _ _ _ _ ht'];by_cases hd:o.dst=some t
    .rw[Dw hd]at this ⊢;exact⟨fun _=>this.Ail hv,fun h=>by(cases h)⟩
    .rw[Du hd]at this ⊢;exact this
end
section
variable {P:Program} {C:Ctx} {V0:Nat->Value} {O0 O:Own} {w0 w:World} {m:Nat->Value} {st:St} {a:Act}
theorem AbW (p:Nat->Bool) (l:List (Nat×Obj)) (k:Nat):Jr (l.filter (fun q=>p q.1)) k=if p k then Jr l k else none:=by
 induction l with
 | nil=>simp [Jr]
 | cons q r ih=>grind[LX]
theorem AfX (g:Obj->Obj) (l:List (Nat×Obj)) (k:Nat):Jr (l.map (fun q=>(q.1,g q.2))) k=(Jr l k).map g:=by
 induction l with
 | nil=>rfl
 | cons q r ih=>grind[LX]
theorem drop_length (keep:List Nat): ∀(l:List A) (i:Nat),(drop keep l i).length=l.length:=by
 intro l
 induction l with
 | nil=>intro i;rfl
 | cons x r ih=>intro i;simp [drop,ih]
theorem AeT (keep:List Nat): ∀(l:List A) (i t:Nat),(drop keep l i).getD t .undef= .undef\/(drop keep l i).getD t .undef=l.getD t .undef:=by
 intro l
 induction l with
 | nil=>grind[drop]
 | cons x r ih =>
  intro i t;cases t with
  | zero=>grind[drop,has]
  | succ t=>simp_all[drop]
theorem Sim.dropped (hS:Sim V0 O0 w0 O m st a w) (keep Jm:List Nat):Sim V0 O0 w0 O m {tmps:=drop keep st.tmps 0,Jm:=st.Jm.filter (fun p=>has Jm p.1)} a w:=by
 have hag: ∀ o x,Jr (st.Jm.filter (fun p=>has Jm p.1)) o=some x->Jr st.Jm o=some x:=by
  intro o x h;rw[AbW (has Jm)]at h;split at h
  .exact h
  .cases h
 have hE:NW st.Jm m (st.Jm.filter (fun p=>has Jm p.1)) m (fun _=>False):=fun o x h=>.inr ⟨x,hag o x h,rfl,rfl⟩;have hp:Lt O w O w:=fun _ _ _ h hc=>⟨h,hc⟩
 refine⟨hS.defers,by rw[hS.size];exact(drop_length _ _ _).symm,fun t ht=> ?_,fun o x h=> ?_,hS.frame,hS.own,fun o x h=>hS.ids o x (hag o x h),hS.less,fun o hr ho=>(by obtain⟨x,hx⟩:=Ei.1 ho;exact hS.root o hr (by rw[hag o x hx];rfl)),hS.VM,hS.inv⟩
 .have ht':t<st.tmps.length:=by
   all_goals grind[drop,drop_length]
  show Jy O _ m w _ ((drop keep st.tmps 0).getD t .undef);rcases AeT keep st.tmps 0 t with h | h
  .rw[h];trivial
  .rw[h];exact(hS.tmps t ht').step hp hE (fun _ _ h=>h)
 .exact(hS.Jm o x (hag o x h)).step (T:=fun _=>False) (Moves.refl O _ w) ⟨fun _ _ _ h=>h,fun _ _ _ _ h _=>h⟩ hE id rfl (fun _ _ h=>h)
def rho (f t o:Nat):Nat:=if o=f then t else o
theorem Uh (f t o:Nat):(bif Nat.beq o f then t else o)=rho f t o:=by grind[Ql,rho]
def N7 (f t:Nat):A->A
 | .ptr o off=>.ptr (rho f t o) off
 | .own o=>.own (rho f t o)
 | .clo g o=>.clo g (rho f t o)
 | .bsl o n=>.bsl (rho f t o) n
 | .osl o n=>.osl (rho f t o) n
 | .KG o i off=>.KG (rho f t o) i off
 | c=>c
theorem AgB (f t:Nat) (cs:List A):MC f t (.agg cs)= .agg (cs.map (N7 f t)):=by show A.agg (cs.map _)=_;congr 1;refine Ew fun c _=> ?_;all_goals grind[N7,Uh]
theorem Aic (f t:Nat) (c:A):(∃ cs,c= .agg cs)\/MC f t c=N7 f t c:=by cases c<;>first | exact .inl ⟨_,rfl⟩ | exact .inr rfl | (right;simp only[N7,MC,Uh])
structure Ren (O:Own) (Jm:List (Nat×Obj)) (m:Nat->Value) (f t:Nat) (O':Own) (objs':List (Nat×Obj)) (m':Nat->Value):Prop where
 here: ∀ x',Jr objs' t=some x'-> ∃ x,Jr Jm f=some x/\x.shp=x'.shp/\m' t=m f
 there: ∀ o x',o≠t->Jr objs' o=some x'->o≠f/\ ∃ x,Jr Jm o=some x/\x.shp=x'.shp/\m' o=m o
 own: ∀ b k,O' b k=(O b k).map (rho f t)
theorem Ren.JE {O':Own} {Jm objs':List (Nat×Obj)} {m':Nat->Value} {f t:Nat} (h:Ren O Jm m f t O' objs' m'):Lt O w O' w:=by intro b k u hn hc;exact⟨by rw[h.own,hn];rfl,hc⟩
theorem J4.ren {O':Own} {Jm objs':List (Nat×Obj)} {m':Nat->Value} {f t:Nat} (h:Ren O Jm m f t O' objs' m') {v:Value} {c:A} (hn: ∀ i∈c.Ls,i=t->f=t) (hc:J4 O Jm m w v c) :
 J4 O' objs' m' w v (N7 f t c):=by
 have key: ∀ o,(o=t->f=t)-> ∀ x',Jr objs' (rho f t o)=some x'-> ∃ x,Jr Jm o=some x/\x.shp=x'.shp/\m' (rho f t o)=m o:=by
  intro o ho x' hx;unfold rho at hx ⊢;by_cases hf:o=f
  .rw[Dw hf]at hx ⊢;rw[hf];exact h.here x' hx
  .rw[Du hf]at hx ⊢;exact(h.there o x' (fun e=>hf (by rw[e,ho e])) hx).2
 cases c with
 | ptr o off =>
  simp only[J4,N7]at *
  refine⟨hc.1,?_⟩;have hc:=hc.2;cases hx:Jr objs' (rho f t o)with
  | none=>simp
  | some x' =>obtain⟨x,h1,h2,h3⟩:=key o (hn o (by simp [A.Ls])) x' hx;rw[h1]at hc;simp only[Option.map_some,h2]at hc;simp only[Option.map_some,h3];exact hc
 | own o =>
  simp only[J4,N7]at *
  refine⟨hc.1,?_⟩;have hc:=hc.2;cases hx:Jr objs' (rho f t o)with
  | none=>simp
  | some x' =>obtain⟨x,h1,h2,h3⟩:=key o (hn o (by simp [A.Ls])) x' hx;rw[h1]at hc;simp only[Option.map_some,h2]at hc;simp only[Option.map_some,h3];exact hc
 | clo k o =>
  simp only[J4,N7]at *
  obtain⟨h0,p,h4,h5,hc⟩:=hc;refine⟨h0,p,h4,h5.JE h.JE,?_⟩;cases hx:Jr objs' (rho f t o)with
  | none=>simp
  | some x' =>obtain⟨x,h1,h2,h3⟩:=key o (hn o (by simp [A.Ls])) x' hx;rw[h1]at hc;simp only[Option.map_some,h2]at hc;simp only[Option.map_some,h3];exact hc
 | bsl o n =>
  simp only[J4,N7]at *
  refine⟨hc.1,?_⟩;have hc:=hc.2;cases hx:Jr objs' (rho f t o)with
  | none=>simp
  | some x' =>obtain⟨x,h1,h2,h3⟩:=key o (hn o (by simp [A.Ls])) x' hx;rw[h1]at hc;simp only[Option.map_some,h2]at hc;simp only[Option.map_some,h3];exact hc
 | osl o n =>
  simp only[J4,N7]at *
  refine⟨hc.1,?_⟩;have hc:=hc.2;cases hx:Jr objs' (rho f t o)with
  | none=>simp
  | some x' =>obtain⟨x,h1,h2,h3⟩:=key o (hn o (by simp [A.Ls])) x' hx;rw[h1]at hc;simp only[Option.map_some,h2]at hc;simp only[Option.map_some,h3];exact hc
 | KG o i off =>
  simp only[J4,N7]at *
  refine⟨hc.1,?_⟩;have hc:=hc.2;cases hx:Jr objs' (rho f t o)with
  | none=>simp
  | some x' =>obtain⟨x,h1,h2,h3⟩:=key o (hn o (by simp [A.Ls])) x' hx;rw[h1]at hc;simp only[Option.map_some,h2]at hc;simp only[Option.map_some,h3];exact hc
 | elt cs =>obtain⟨b,off,hv,hc⟩:=hc;refine⟨b,off,hv,fun j hj=> ?_⟩;obtain⟨h1,u,h2,h3⟩:=hc j hj;obtain⟨h4,h5⟩:=h.JE _ _ _ h1 h2;exact⟨h4,u,h5,h3.JE h.JE⟩
 | fn f=>exact Jt.JE h.JE hc
 | ump _=>exact hc
 | undef=>exact hc
 | KD=>exact hc
 | bool b=>exact Jt.JE h.JE hc
 | int k n=>exact Jt.JE h.JE hc
 | str s=>exact Jt.JE h.JE hc
 | sl l=>exact Jt.JE h.JE hc
 | sln l=>exact Jt.JE h.JE hc
 | KQ=>exact Jt.JE h.JE hc
 | usl _ _ _=>exact hc
 | agg _=>exact hc
 | tup _=>exact hc
 | box _=>exact hc
 | cbx _ _=>exact hc
 | cnd _ _=>exact hc
theorem Ren.exts {O':Own} {Jm objs':List (Nat×Obj)} {m':Nat->Value} {f t:Nat} (h:Ren O Jm m f t O' objs' m'):NW Jm m objs' m' (fun o=>o=t/\f≠t):=by
 intro o x' hx;by_cases ho:o=t
 .subst ho;by_cases hf:f=o
  .right;obtain⟨x,h1,h2,h3⟩:=h.here x' hx;rw[hf]at h1 h3;exact⟨x,h1,h2,h3⟩
  .exact .inl ⟨rfl,hf⟩
 .exact .inr (h.there o x' ho hx).2
theorem Jy.ren {O':Own} {Jm objs':List (Nat×Obj)} {m':Nat->Value} {f t:Nat} (h:Ren O Jm m f t O' objs' m') {v:Value} {c:A} (hn: ∀ i∈c.ids,i=t->f=t) (hc:Jy O Jm m w v c) :
 Jy O' objs' m' w v (MC f t c):=by
 cases c with
 | agg cs =>
  rw[AgB];obtain⟨vs,h1,h2,h3⟩:=hc;refine⟨vs,h1,by simpa using h2,fun j hj=> ?_⟩;have hj':j<cs.length:=by simpa using hj
  have e:(cs.map (N7 f t)).getD j .undef=N7 f t (cs.getD j .undef):=by simp [Di,hj']
  rw[e];exact(h3 j hj').ren h (fun i hi=>hn i (OX (f:=A.Ls) hj' hi))
 | tup l=>exact Jy.step h.JE h.exts (fun o ho hN=>hN.2 (hn o ho hN.1)) hc
 | cnd g c=>exact Jy.step h.JE h.exts (fun o ho hN=>hN.2 (hn o ho hN.1)) hc
 | undef=>trivial
 | ptr o off =>
  have e:MC f t (.ptr o off)=N7 f t (.ptr o off):=by simp only[N7,MC,Uh]
  rw[e];exact J4.ren (w:=w) (m:=m) (c:=.ptr o off) h hn hc
 | own o =>
  have e:MC f t (.own o)=N7 f t (.own o):=by simp only[N7,MC,Uh]
  rw[e];exact J4.ren (w:=w) (m:=m) (c:=.own o) h hn hc
 | clo g o =>
  have e:MC f t (.clo g o)=N7 f t (.clo g o):=by simp only[N7,MC,Uh]
  rw[e];exact J4.ren (w:=w) (m:=m) (c:=.clo g o) h hn hc
 | bsl o n =>
  have e:MC f t (.bsl o n)=N7 f t (.bsl o n):=by simp only[N7,MC,Uh]
  rw[e];exact J4.ren (w:=w) (m:=m) (c:=.bsl o n) h hn hc
 | osl o n =>
  have e:MC f t (.osl o n)=N7 f t (.osl o n):=by simp only[N7,MC,Uh]
  rw[e];exact J4.ren (w:=w) (m:=m) (c:=.osl o n) h hn hc
 | KG o i off =>
  have e:MC f t (.KG o i off)=N7 f t (.KG o i off):=by simp only[N7,MC,Uh]
  rw[e];exact J4.ren (w:=w) (m:=m) (c:=.KG o i off) h hn hc
 | bool b=>exact J4.ren (w:=w) (m:=m) (c:=.bool b) h hn hc
 | int k n=>exact J4.ren (w:=w) (m:=m) (c:=.int k n) h hn hc
 | str s=>exact J4.ren (w:=w) (m:=m) (c:=.str s) h hn hc
 | sl l=>exact J4.ren (w:=w) (m:=m) (c:=.sl l) h hn hc
 | sln l=>exact J4.ren (w:=w) (m:=m) (c:=.sln l) h hn hc
 | KD=>exact J4.ren (w:=w) (m:=m) (c:=.KD) h hn hc
 | KQ=>exact J4.ren (w:=w) (m:=m) (c:=.KQ) h hn hc
 | elt cs=>exact J4.ren (w:=w) (m:=m) (c:=.elt cs) h hn hc
 | fn g=>exact J4.ren (w:=w) (m:=m) (c:=.fn g) h hn hc
 | ump _=>exact hc
 | usl _ _ _=>exact hc
 | box _=>exact hc
 | cbx _ _=>exact hc
theorem J4.MC {O':Own} {Jm objs':List (Nat×Obj)} {m':Nat->Value} {f t:Nat} (h:Ren O Jm m f t O' objs' m') {v:Value} {c:A} (hn: ∀ i∈c.Ls,i=t->f=t) (hc:J4 O Jm m w v c) :
 J4 O' objs' m' w v (Vm.MC f t c):=by
 rcases Aic f t c with ⟨cs,rfl⟩ | e
 .exact hc.elim
 .rw[e];exact hc.ren h hn
theorem Kz.ren {O':Own} {Jm objs':List (Nat×Obj)} {m':Nat->Value} {f t:Nat} (h:Ren O Jm m f t O' objs' m') {o:Nat} {x:Obj} (hm:m' (rho f t o)=m o) (hn: ∀ i∈x.ids,i=t->f=t) (hx:Kz O Jm m w o x) :
 Kz O' objs' m' w (rho f t o) (gB f t x):=by
 cases x with
 | box cs =>
  obtain⟨b,base,h1,h2⟩:=hx;refine⟨b,base,by rw[hm];exact h1,fun j hj=> ?_⟩;have hj':j<cs.length:=by simpa using hj
  obtain⟨h3,h4,u,h5,h6⟩:=h2 j hj';refine⟨by rw[h.own,h3];rfl,h4,u,h5,?_⟩;have e:(cs.map (Vm.MC f t)).getD j .undef=Vm.MC f t (cs.getD j .undef):=by simp [Di,hj']
  rw[e];exact h6.MC h (fun i hi=>hn i (OX (f:=A.Ls) hj' hi))
 | arr e frz l =>
  obtain⟨h0,hx⟩:=hx;refine⟨h0,?_⟩;rcases hx with ⟨h1,h2,h3⟩ | ⟨h1,g,cap,cur,h2,h3,h4,h5,h6,h7,h8,h9⟩
  .exact .inl ⟨h1,h2,by rw[hm];exact h3⟩
  .refine .inr ⟨h1,g,cap,cur,by rw[hm];exact h2,h3,h4,h5,h6,fun i j hi hj=> ?_,fun k hk hge=> ?_,fun k hk=> ?_⟩
   .obtain⟨u,h10,h11⟩:=h7 i j hi hj;exact⟨u,h10,h11.JE h.JE⟩
   .rw[h.own,h8 k hk hge];rfl
   .rw[h.own,h9 k hk];cases frz<;>rfl
 | mp l =>
  obtain⟨r,es,ck,h1,h2,h3,h4,h5⟩:=(show LP O w o (m o) l from hx)
  refine(⟨r,es,ck,by rw[hm];exact h1,h2,by rw[h.own,h3];rfl,h4,fun i p hi=> ?_⟩:LP O' w (rho f t o) (m' (rho f t o)) l);obtain⟨e,k1,k2,k3⟩:=h5 i p hi;exact⟨e,k1,k2.JE h.JE,k3.JE h.JE⟩
theorem Sim.renamed (hS:Sim V0 O0 w0 O m st a w) {f t:Nat} {x:Obj} (hf:Jr st.Jm f=some x) (ht:f=t\/Ns st t) :
 ∃ O' m',Sim V0 O0 w0 O' m' {tmps:=st.tmps.map (MC f t),Jm:=(KI (OB st.Jm f) t x).map (fun p=>(p.1,gB f t p.2))} a w:=by
 have hag: ∀ o,Jr ((KI (OB st.Jm f) t x).map (fun p=>(p.1,gB f t p.2))) o=(if o=t then some x else if o=f then none else Jr st.Jm o).map (gB f t):=by intro o;rw[AfX,JO,WU]
 have hshp: ∀ y,(gB f t y).shp=y.shp:=by intro y;cases y<;>rfl
 have h255:f≠255:=hS.ids f x hf
 have hR:Ren O st.Jm m f t (fun b k=>(O b k).map (rho f t)) ((KI (OB st.Jm f) t x).map (fun p=>(p.1,gB f t p.2))) (fun o=>if o=t then m f else m o):=by
  refine⟨fun x' hx=> ?_,fun o x' ho hx=> ?_,fun _ _=>rfl⟩
  .rw[hag,Dw rfl]at hx;simp only[Option.map_some,Ez]at hx;exact⟨x,hf,by rw[<- hx,hshp],Dw rfl⟩
  .rw[hag,Du ho]at hx;by_cases hof:o=f
   .rw[Dw hof]at hx;cases hx
   .rw[Du hof]at hx;cases hy:Jr st.Jm o with
    | none=>rw[hy]at hx;cases hx
    | some y =>rw[hy]at hx;simp only[Option.map_some,Ez]at hx;exact⟨hof,y,rfl,by rw[<- hx,hshp],Du ho⟩
 have hids: ∀ i∈st.ids,i=t->f=t:=by
  intro i hi he;rcases ht with h | h
  .exact h
  .exact absurd (he▸hi) h.ids
 have hmr: ∀ o,(o=t->f=t)->(fun o=>if o=t then m f else m o) (rho f t o)=m o:=by all_goals grind[rho]
 refine⟨(fun b k=>(O b k).map (rho f t)),(fun o=>if o=t then m f else m o),hS.defers,by rw[hS.size];simp,fun i hi=> ?_,fun o y hy=> ?_,hS.frame,fun b k o hb ho hne=> ?_,fun o y hy=> ?_,fun b k hb h=>hS.less b k hb (fun e=>h (by show(O b k).map _=none;rw[e];rfl)),fun o hr ho=> ?_,fun b k hb h=>by show(O b k).map (rho f t)=_;rw[hS.VM b k hb h];exact congrArg some (Du (fun e=>h255 e.symm)),hS.inv⟩
 .have hi':i<st.tmps.length:=by simpa using hi
  have e:(st.tmps.map (MC f t)).getD i .undef=MC f t (st.tmps.getD i .undef):=by simp [Di,hi']
  show Jy _ _ _ _ _ ((st.tmps.map (MC f t)).getD i .undef);rw[e];exact(hS.tmps i hi').ren hR (fun j hj=>hids j (VS hi' hj))
 .have hy':=hy;dsimp only at hy;rw[hag]at hy;by_cases h1:o=t
  .rw[Dw h1]at hy;simp only[Option.map_some,Ez]at hy;subst hy;have:=(hS.Jm f x hf).ren hR (hmr f (fun e=>e)) (fun i hi=>hids i (RG hf hi));have e:rho f t f=t:=Dw rfl;rw[e]at this;rw[h1];exact this
  .rw[Du h1]at hy;by_cases h2:o=f
   .rw[Dw h2]at hy;cases hy
   .rw[Du h2]at hy;cases hz:Jr st.Jm o with
    | none=>rw[hz]at hy;cases hy
    | some z =>rw[hz]at hy;simp only[Option.map_some,Ez]at hy;subst hy;have:=(hS.Jm o z hz).ren hR (hmr o (fun e=>absurd e h1)) (fun i hi=>hids i (RG hz hi));have e:rho f t o=o:=Du h2;rw[e]at this;exact this
 .cases hq:O b k with
  | none =>have:(O b k).map (rho f t)=some o:=ho;rw[hq]at this;cases this
  | some o1 =>have:(O b k).map (rho f t)=some o:=ho;rw[hq]at this;simp only[Option.map_some,Ez]at this;refine hS.own b k o1 hb hq (fun e=>hne ?_);rw[<- this,e];exact Du (fun e=>h255 e.symm)
 .dsimp only at hy;rw[hag]at hy;by_cases h1:o=t
  .rw[h1];rcases ht with h | h
   .rw[<- h];exact h255
   .exact h.ne
  .rw[Du h1]at hy;by_cases h2:o=f
   .rw[h2];exact h255
   .rw[Du h2]at hy;cases hz:Jr st.Jm o with
    | none=>rw[hz]at hy;cases hy
    | some z=>exact hS.ids o z hz
 .dsimp only at ho ⊢;rw[hag]at ho;by_cases h1:o=t
  .rw[Dw h1];rcases ht with h | h
   .rw[h1,<- h];exact hS.root f (by rw[h,<- h1];exact hr) (by rw[hf];rfl)
   .rw[h1,h.root]at hr;cases hr
  .rw[Du h1]at ho ⊢;by_cases h2:o=f
   .rw[Dw h2]at ho;cases ho
   .rw[Du h2]at ho;refine hS.root o hr ?_;cases hz:Jr st.Jm o with
    | none=>rw[hz]at ho;cases ho
    | some z=>rfl
theorem Aem: ∀(l:List (Nat×Nat)) {O:Own} {m:Nat->Value} {st:St},Sim V0 O0 w0 O m st a w->(gG st l).1=true-> ∃ O' m',Sim V0 O0 w0 O' m' (gG st l).2 a w:=by
 intro l
 induction l with
 | nil=>intro O m st hS _;exact⟨O,m,hS⟩
 | cons p r ih =>
  intro O m st hS h;obtain⟨f,t⟩:=p;simp only[gG]at h ⊢;cases hx:Jr st.Jm f with
  | none=>rw[hx]at h;exact ih hS h
  | some x =>
   rw[hx]at h;dsimp only at h ⊢;rw[Dn,Ql]at h
   obtain⟨O1,m1,hS1⟩:=hS.renamed (t:=t) hx (by
    by_cases hft:f=t
    .exact .inl hft
    .have h1:=h.1;rw[show decide (f=t)=false by simpa using hft]at h1;exact .inr (Lu h1))
   exact ih hS1 h.2
theorem AdB: ∀(l:List Nat) {O:Own} {st:St},Sim V0 O0 w0 O m st a w-> ∃ O',Sim V0 O0 w0 O' m {st with Jm:=AaG st.Jm l} a w:=by
 intro l
 induction l with
 | nil=>intro O st hS;exact⟨O,hS⟩
 | cons n r ih =>
  intro O st hS;simp only[AaG];cases hx:Jr st.Jm n with
  | none=>exact ih hS
  | some x =>
   cases x with
   | mp _=>exact ih hS
   | box cs=>exact ih hS
   | arr e f l =>obtain⟨O1,hS1,_⟩:=hS.XX hx;exact ih hS1
theorem Za {t:Nat} {v:Value} (hs:a.tmps.getD t undef=v) (hlt:t<a.tmps.size):a.put (some t) v=a:=by
 have:a.tmps.setIfInBounds t v=a.tmps:=by apply Array.ext_getElem?;intro i;rw[Ep];by_cases hi:t=i;all_goals simp_all[getD_eq,hs]
 simp only[Act.put,this]
theorem Afl {x:A} (h:XZ x=true):x= .KD:=by cases x<;>first | rfl | cases h
theorem Aeq {id:Nat}: ∀(ts:List Nat) {O:Own} {m:Nat->Value} {st:St},Sim V0 O0 w0 O m st a w->(∀ t∈ts,t<st.tmps.length)->(∀ t∈ts,J4 O st.Jm m w (a.tmps.getD t undef) (.own id)) ->
 Sim V0 O0 w0 O m {st with tmps:=gQ id ts st.tmps} a w:=by
 intro ts
 induction ts with
 | nil=>intro O m st hS _ _;exact hS
 | cons t r ih =>intro O m st hS hl hc;have hlt:=hl t Dp;have h1:=hS.put (some t) (x:=.own id) (v:=a.tmps.getD t undef) ((hc t Dp).toT);rw[Za rfl (by rw[hS.size];exact hlt)]at h1;exact ih (st:= {st with tmps:=st.tmps.set t (.own id)}) h1 (fun q hq=>by simpa using hl q (Dq _ hq)) (fun q hq=>hc q (Dq _ hq))
theorem Aeh: ∀(l:List (List Nat×Nat×Ty×Nat)) {O:Own} {m:Nat->Value} {st:St},Sim V0 O0 w0 O m st a w->(owns l st).1=true-> ∃ O' m',Sim V0 O0 w0 O' m' (owns l st).2 a w:=by
 intro l
 induction l with
 | nil=>intro O m st hS _;exact⟨O,m,hS⟩
 | cons p r ih =>
  intro O m st hS h;obtain⟨ts,e,ty,id⟩:=p;unfold owns at h ⊢;cases hany:ts.any (fun t=>XZ (st.tmps.getD t .undef))with
  | false=>rw[hany]at h;exact ih hS h
  | true =>
   rw[hany]at h;simp only[cond_true]at h ⊢;rw[Dn,Dn]at h;obtain⟨⟨h1,h2⟩,h3⟩:=h;have hall: ∀ t∈ts,st.tmps.getD t .undef= .KD/\t<st.tmps.length:=by all_goals grind[Afl]
   have hval: ∀ t∈ts,a.tmps.getD t undef= .slice none 0 0:=by intro t ht;have hv:=hS.tmps t (hall t ht).2;rw[(hall t ht).1]at hv;exact hv
   cases ts with
   | nil=>cases hany
   | cons t ts =>
    have hlt:=(hall t Dp).2;obtain⟨O',m',hS'⟩:=YS hS (d:=t) (e:=e) (t:=ty) (frz:=false) (del:=[]) (Lu h2);rw[Za (hval t Dp) (by rw[hS.size];exact hlt)]at hS';have hslot:=hS'.tmps t (by simpa using hlt);have e0:(st.tmps.set t (.own id)).getD t .undef= .own id:=by simp [Di,hlt]
    rw[e0,hval t Dp]at hslot;have hfin:=Aeq (a:=a) ts hS' (fun q hq=>by simpa using (hall q (Dq _ hq)).2) (fun q hq=>by rw[hval q (Dq _ hq)];exact hslot);exact ih hfin h3
theorem AfC: ∀(l:List (Option Nat×Nat×Ty)) {O:Own} {st:St},Sim V0 O0 w0 O m st a w-> ∃ O',Sim V0 O0 w0 O' m (pzs l st) a w:=by
 intro l
 induction l with
 | nil=>intro O st hS;exact⟨O,hS⟩
 | cons p r ih =>
  intro O st hS;obtain⟨b,j,ty⟩:=p;cases b with
  | none =>
   unfold pzs;cases hx:st.tmps.getD j .undef with
   | KD =>
    dsimp only
    have hlt:j<st.tmps.length:=by
     rcases DT j st.tmps.length with h | h
     .exact h
     .rw[Di,DN h]at hx;cases hx
    have hc:=hS.tmps j hlt;rw[hx]at hc;have hc:a.tmps.getD j undef= .slice none 0 0:=hc;have h2:=hS.put (some j) (x:=.sl ⟨ty,[]⟩) (v:=a.tmps.getD j undef) (by rw[hc];exact Jt.nil ty);rw[Za rfl (by rw[hS.size];exact hlt)]at h2;exact ih h2
   | own o =>
    dsimp only;cases ho:Jr st.Jm o with
    | none=>exact ih hS
    | some y =>
     cases y with
     | box _=>exact ih hS
     | mp _=>exact ih hS
     | arr e f l =>
      dsimp only;obtain⟨O1,hS1,hp1,_,hv1,_⟩:=hS.XX ho
      have hlt:j<st.tmps.length:=by
       rcases DT j st.tmps.length with h | h
       .exact h
       .rw[Di,DN h]at hx;cases hx
      have hc:=hS.tmps j hlt;rw[hx]at hc;have hc:J4 O st.Jm m w (a.tmps.getD j undef) (.own o):=hc;have hc2:=hc.2;rw[ho]at hc2;have hm:a.tmps.getD j undef=m o:=hc2;have h2:=hS1.put (some j) (x:=.sl l) (v:=a.tmps.getD j undef) (by rw[hm];exact hv1);rw[Za rfl (by rw[hS.size];exact hlt)]at h2;exact ih h2
   | _=>exact ih hS
  | some b =>
   unfold pzs;cases hb:Jr st.Jm b with
   | none=>exact ih hS
   | some y =>
    cases y with
    | arr _ _ _=>exact ih hS
    | mp _=>exact ih hS
    | box cs =>
     dsimp only;cases hx:cs.getD j .undef with
     | own o =>
      dsimp only;cases ho:Jr st.Jm o with
      | none=>exact ih hS
      | some y =>
       cases y with
       | box _=>exact ih hS
       | mp _=>exact ih hS
       | arr e f l =>
        dsimp only;obtain⟨O1,hS1,hp1,_,hv1,_⟩:=hS.XX ho;have hbo:b≠o:=fun h=>by rw[h,ho]at hb;cases hb
        have hb1:Jr (KI st.Jm o (.arr e true l)) b=some (.box cs):=by rw[JO,Du hbo];exact hb
        have ho1:Jr (KI st.Jm o (.arr e true l)) o=some (.arr e true l):=by rw[JO,Dw rfl]
        have hjl:j<cs.length:=by
         rcases DT j cs.length with h | h
         .exact h
         .rw[Di,DN h]at hx;cases hx
        have hE:NW (KI st.Jm o (.arr e true l)) m (KI (KI st.Jm o (.arr e true l)) b (.box (cs.set j (.sl l)))) m (fun _=>False):=by
         intro q z hz;rw[JO]at hz;by_cases hq:q=b
         .rw[Dw hq]at hz;injection hz with hz;subst hz;exact .inr ⟨.box cs,by rw[hq];exact hb1,rfl,rfl⟩
         .rw[Du hq]at hz;exact .inr ⟨z,hz,rfl,rfl⟩
        have h2:=hS1.next (st':= {st with Jm:=KI (KI st.Jm o (.arr e true l)) b (.box (cs.set j (.sl l)))}) (d:=none) (v:=undef) (x:=.undef) (T:=fun _=>False) (Nw:=fun _=>False) (Moves.refl O1 _ w) ⟨fun _ _ _ h=>h,fun _ _ _ _ h _=>h⟩ (fun _ _ _ h=>h) hE (fun _ h=>h.elim) (fun _ h=>h.elim)
         (fun q z hz=>by
           rw[JO]at hz;by_cases hq:q=b
           .rw[Dw hq]at hz;injection hz with hz;subst hz;right;obtain⟨bk,base,g1,g2⟩:=hS1.Jm b _ hb1;rw[hq];refine⟨⟨bk,base,g1,fun i hi=> ?_⟩,hS.ids b _ hb⟩;rw[EO]at hi;obtain⟨k1,k2,u,k3,k4⟩:=g2 i hi;refine⟨k1,k2,u,k3,?_⟩;by_cases hij:j=i
            .subst hij;have e1:(cs.set j (.sl l)).getD j .undef= .sl l:=by simp [Di,hjl]
             rw[e1];rw[hx]at k4;have k5:=k4.2;rw[ho1]at k5;have hm:u=m o:=k5;rw[hm];exact hv1
            .have e1:(cs.set j (.sl l)).getD i .undef=cs.getD i .undef:=by
              simp only[Di,ED];rw[Du hij]
             rw[e1];exact k4.step (fun _ _ _ h hc=>⟨h,hc⟩) hE (fun _ _ h=>h)
           .rw[Du hq]at hz;exact .inl ⟨fun h=>h,hz,rfl⟩) rfl (fun h=>absurd rfl h)
        exact ih h2
     | _=>exact ih hS
theorem AdZ (hS:Sim V0 O0 w0 O m st a w) {key:Nat} (h:(norm C key st).1=true): ∃ O' m',Sim V0 O0 w0 O' m' (norm C key st).2 a w:=by
 unfold norm at h ⊢;cases hn:C.nrm key with
 | none=>exact⟨O,m,hS⟩
 | some n =>rw[hn]at h;dsimp only at h ⊢;rw[Dn]at h;obtain⟨O4,hS4⟩:=AfC n.pz hS;obtain⟨O1,m1,hS1⟩:=Aem n.ren (hS4.dropped n.keep (reached (drop n.keep (pzs n.pz st).tmps 0) (pzs n.pz st).Jm)) h.1;obtain⟨O3,m3,hS3⟩:=Aeh n.nw hS1 h.2;obtain⟨O2,hS2⟩:=AdB n.frz hS3;exact⟨O2,m3,hS2⟩
theorem dV {ρ :Type} (hS:Sim V0 O0 w0 O m st a w) {key:Nat} {K:St->Option ρ} {r: ρ} (h:Pm C key st K=some r): ∃ O' m' st',Sim V0 O0 w0 O' m' st' a w/\K st'=some r:=by
 unfold Pm at h;cases hn:(norm C key st).1 with
 | false =>have h':(bif (norm C key st).1 then K (norm C key st).2 else none)=some r:=h;rw[hn]at h';cases h'
 | true =>have h':(bif (norm C key st).1 then K (norm C key st).2 else none)=some r:=h;rw[hn]at h';obtain⟨O1,m1,hS1⟩:=AdZ hS hn;exact⟨O1,m1,_,hS1,h'⟩
theorem YR {ρ :Type} (hS:Sim V0 O0 w0 O m st a w) {kind:Nat} {c:Code} {K:St->Option ρ} {r: ρ} (h:meet C kind c st K=some r): ∃ O' m' st',Sim V0 O0 w0 O' m' st' a w/\K st'=some r:=by
 unfold meet at h;cases hn:KZ c with
 | none=>rw[hn]at h;exact⟨O,m,st,hS,h⟩
 | some n=>rw[hn]at h;exact dV hS h
end
end Go.Proofs.YtpaimpmokhihmaaGreatDoor.Vm
