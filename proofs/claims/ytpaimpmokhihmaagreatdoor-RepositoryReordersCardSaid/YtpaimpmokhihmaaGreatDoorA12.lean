import Derived.Test.YtpaimpmokhihmaaGreatDoorA11
import Derived.Scope
import Derived.LoopN
import Derived.Tactics
import Derived.Orders
set_option linter.all false
namespace Go.Proofs.YtpaimpmokhihmaaGreatDoor.Vm
open Classical
section
variable {P:Program} {C:Ctx} {V0:Nat->Value} {O0 O:Own} {w0 w:World} {m:Nat->Value} {st:St} {a:Act}
theorem Adf {C:Ctx} {o:Oper} {f:Nat} {q:Alt} (h:UX C o=some (f,q)):C.alt f=some q:=by
 unfold UX at h;split at h
 .rename_i g _ _ _ _;cases ha:C.alt g with
  | none=>rw[ha]at h;cases h
  | some q'=>simp_all[Alt,UX]
 .cases h
theorem Af5 {ρ :Type} (hC:Md P C) {ops:Array Oper} {Q:Exit->Act->World->Prop} {v: ρ} {K:St->Option ρ} (hK: ∀ O' m' st' a' w',Sim V0 O0 w0 O' m' st' a' w'->K st'=some v->Q .normal a' w') :
 ∀(l:List Oper) {O:Own} {m:Nat->Value} {st:St} {a:Act} {w:World},Sim V0 O0 w0 O m st a w->QI C ops.toList l st K=some v->wpList P ops Q l a w:=by
 intro l
 induction l with
 | nil=>intro O m st a w hS h;exact hK _ _ _ _ _ hS h
 | cons o r ih =>
  intro O m st a w hS h;have one: ∀ C':Ctx,Md P C'->allT (JU C' ops.toList o st).ok (QI C ops.toList r (apply st o (JU C' ops.toList o st)) K)=some v->wpList P ops Q (o::r) a w:=by intro C' hC' h;obtain⟨h1,h2⟩:=PL h;refine wpList_step fun k hk=> ?_;exact rE hC' hS h1 k Q fun O' m' a' w' hS'=>hk _ _ (ih hS' h2)
  unfold QI at h;cases ha:UX C o with
  | none=>rw[ha]at h;exact one C hC h
  | some q =>
   obtain⟨f,q⟩:=q;rw[ha]at h;dsimp only at h;obtain⟨h1,h2⟩:=hC.alt f q (Adf ha);cases hb:rW o st q with
   | true=>rw[hb]at h;exact one _ (hC.put h1) h
   | false=>rw[hb]at h;exact one _ (hC.put h2) h
def Post {ρ :Type} (V0:Nat->Value) (O0:Own) (w0:World) (fin:St->Option ρ) (K:Ex->St->Option ρ) (v: ρ):Exit->Act->World->Prop
 | .normal,a,w=> ∃ O m st,Sim V0 O0 w0 O m st a w/\K .normal st=some v
 | .exit id,a,w=> ∃ O m st,Sim V0 O0 w0 O m st a w/\K (.exit id) st=some v
 | .ret,a,w=> ∃ O m st,Sim V0 O0 w0 O m st a w/\fin st=some v
 | _,_,_=>False
theorem AeG (hS:Sim V0 O0 w0 O m st a w) {c:Operand} {t:Bool} (h:Kq st.tmps c= .bool t\/Kq st.tmps c= .cnd true (.bool t)):a.eval c= .bool t:=by
 have:=lC hS c;rcases h with h | h
 .rw[h]at this;exact this.bool
 .rw[h]at this;have h1:Jt O w (a.eval c) (.bool t):=this.1 rfl;generalize a.eval c=z at h1 ⊢;cases h1;rfl
theorem Ads {ρ :Type} (hC:Md P C) (N:Nat) {fin:St->Option ρ} {v: ρ}
 (hdraw: ∀ {C:Ctx},Md P C-> ∀(id:Nat) (ops:Array Oper) {O:Own} {m:Nat->Value} {st:St} {a:Act} {w:World} (K:Ex->St->Option ρ),Sim V0 O0 w0 O m st a w->Pj C ops.toList st=true->QJ C ops.toList ops.toList st (fun st'=>K .normal st')=some v ->
   (Code.region id ops true).wp P (Post V0 O0 w0 fin K v) a w) :
 ∀(c:Code) {O:Own} {m:Nat->Value} {st:St} {a:Act} {w:World} {K:Ex->St->Option ρ},Sim V0 O0 w0 O m st a w->exec C N fin c st K=some v->c.wp P (Post V0 O0 w0 fin K v) a w:=by
 intro c
 induction c with
 | skip=>intro O m st a w K hS h;exact wp_skip ⟨O,m,st,hS,h⟩
 | label l=>intro O m st a w K hS h;exact wp_label ⟨O,m,st,hS,h⟩
 | ret=>intro O m st a w K hS h;exact wp_ret ⟨O,m,st,hS,h⟩
 | exit id =>intro O m st a w K hS h;obtain⟨O',m',st',hS',h'⟩:=dV hS (show Pm C (4*id+3) st (fun st'=>K (.exit id) st')=some v from h);exact wp_exit ⟨O',m',st',hS',h'⟩
 | region id ops d =>
  intro O m st a w K hS h;cases d with
  | false =>
   have key: ∀ C':Ctx,Md P C'->QI C' ops.toList ops.toList st (fun st'=>K .normal st')=some v->(Code.region id ops false).wp P (Post V0 O0 w0 fin K v) a w:=fun C' hC' h' =>
    wp_region_list (Af5 hC' (K:=fun st'=>K .normal st') (fun O' m' st' a' w' hS' h'=>⟨O',m',st',hS',h'⟩) ops.toList hS h')
   rcases(Vp (show split C id ops.toList st _=some v from h)).1 with h' | ⟨ds,b,h'⟩
   .exact key C hC h'
   .exact key _ (hC.decide ds b) h'
  | true =>
   have key: ∀ C':Ctx,Md P C'->(bif Pj C' ops.toList st then QJ C' ops.toList ops.toList st (fun st'=>K .normal st')else none)=some v->(Code.region id ops true).wp P (Post V0 O0 w0 fin K v) a w:=by
    intro C' hC' h';cases hd:Pj C' ops.toList st with
    | false=>rw[hd]at h';cases h'
    | true=>rw[hd]at h';exact hdraw hC' id ops K hS hd h'
   rcases(Vp (show split C id ops.toList st _=some v from h)).1 with h' | ⟨ds,b,h'⟩
   .exact key C hC h'
   .exact key _ (hC.decide ds b) h'
 | seq x y ihx ihy =>
  intro O m st a w K hS h;refine wp_seq (Gx (ihx (K:=fun | .normal,st'=>meet C 1 y st' fun st''=>exec C N fin y st'' K | .exit id,st'=>K (.exit id) st') hS h) fun e a' w' hq=> ?_);cases e with
  | normal =>obtain⟨O1,m1,st1,hS1,h1⟩:=hq;obtain⟨O2,m2,st2,hS2,h2⟩:=YR hS1 h1;exact ihy hS2 h2
  | exit id=>exact hq
  | ret=>exact hq
  | goto l=>exact hq
  | panic ch=>exact hq
  | outgrown=>exact hq
 | cond c x y ihx ihy =>
  intro O m st a w K hS h
  have key: ∀ t:Bool,(Kq st.tmps c= .bool t\/Kq st.tmps c= .cnd true (.bool t))->(bif t then exec C N fin x st K else exec C N fin y st K)=some v->(Code.cond c x y).wp P (Post V0 O0 w0 fin K v) a w:=by
   intro t ht h';refine wp_cond (AeG hS ht) ?_;cases t with
   | true=>exact ihx hS h'
   | false=>exact ihy hS h'
  simp only[exec]at h;cases he:Kq st.tmps c with
  | bool t=>rw[he]at h;exact key t (.inl he) h
  | cnd g y' =>
   rw[he]at h;cases y' with
   | bool t =>
    cases g with
    | false=>cases h
    | true=>exact key t (.inr he) h
   | _=>cases h
  | _=>rw[he]at h;cases h
 | block id c ih =>
  intro O m st a w K hS h;refine wp_block (Gx (ih (K:=fun | .exit j,st'=>bif Nat.beq j id then K .normal st' else K (.exit j) st' | .normal,st'=>K .normal st') hS h) fun e a' w' hq=> ?_);cases e with
  | normal=>exact hq
  | exit j =>
   obtain⟨O1,m1,st1,hS1,h1⟩:=hq;dsimp only at h1;show if j=id then _ else _;rw[Ql]at h1;by_cases hj:j=id
   .rw[Dw hj];simp only[hj,FU,cond_true]at h1;exact⟨O1,m1,st1,hS1,h1⟩
   .rw[Du hj];rw[show decide (j=id)=false by simpa using hj]at h1;exact⟨O1,m1,st1,hS1,h1⟩
  | ret=>exact hq
  | goto l=>exact hq
  | panic ch=>exact hq
  | outgrown=>exact hq
 | loop c ih =>
  intro O m st a w K hS h;obtain⟨O1,m1,st1,hS1,h1⟩:=YR hS (show meet C 2 c st (fun st'=>rounds (meet C 2 c) (exec C N fin c) N st' K)=some v from h);refine wp_loop_rounds N ?_
  have key: ∀(n:Nat) {O:Own} {m:Nat->Value} {st:St} {a:Act} {w:World},Sim V0 O0 w0 O m st a w->rounds (meet C 2 c) (exec C N fin c) n st K=some v->Code.rounds P c (Post V0 O0 w0 fin K v) n a w:=by
   intro n
   induction n with
   | zero=>intro O m st a w _ h;cases h
   | succ n ihn =>
    intro O m st a w hS h;refine Gx (ih (K:=fun | .normal,st'=>meet C 2 c st' fun st''=>rounds (meet C 2 c) (exec C N fin c) n st'' K | .exit id,st'=>K (.exit id) st') hS h) fun e a' w' hq=> ?_;cases e with
    | normal =>obtain⟨O2,m2,st2,hS2,h2⟩:=hq;obtain⟨O3,m3,st3,hS3,h3⟩:=YR hS2 h2;exact ihn hS3 h3
    | exit id=>exact hq
    | ret=>exact hq
    | goto l=>exact hq
    | panic ch=>exact hq
    | outgrown=>exact hq
  exact key N hS1 h1
 | scope c ih =>intro O m st a w K hS h;refine wp_scope_straight (Gx (ih hS (show exec C N fin c st K=some v from h)) fun e a' w' hq=> ?_);cases e<;>first | exact hq | exact hq.elim
 | _=>intro O m st a w K hS h;cases h
end
def Nc:Sh->Sh
 | .box ks=>.box ks
 | .map kt vt=>.map kt vt
 | .clo _ ks=>.box ks
 | _=>.cell false .bool
def AgZ:Sh->Nat->A
 | .box _,i=>.ptr (256*i) 0
 | .map _ _,i=>.own (256*i)
 | .clo _ _,i=>.ptr (256*i) 0
 | _,_=>.bool true
def Nv:List Sh->Nat->List A
 | [],_=>[]
 | s::ss,i=>AgZ s i::Nv ss (i+1)
def unbox:A->A
 | .box cs=>.agg cs
 | a=>a
def iH (Jp:List Sh) (xs:List A) (n:Nat):St:= {tmps:=(Ko 0 256 Jp xs 0).2.1++List.replicate (n - Jp.length) .undef,Jm:=J3 [] (Ko 0 256 Jp xs 0).2.2}
def lU (C:Ctx) (st:St) (q:Nat×Option Nat):List Bool×A :=
 match q.2 with
 | none=>([Nat.blt q.1 st.tmps.length],st.tmps.getD q.1 .undef)
 | some ty=>match RD C st.Jm ty (st.tmps.getD q.1 .undef)with
  | δ =>(Nat.blt q.1 st.tmps.length:: δ.ok,δ.val)
def MX (C:Ctx) (outs:List (Nat×Option Nat)) (st:St):List A:=outs.map (fun q=>(lU C st q).2)
def finish (C:Ctx) (Jp Jz:List Sh) (outs:List (Nat×Option Nat)) (st:St):Option (List A) :=
 allT ((J8 st.Jm Jz (MX C outs st)).1++(J8 st.Jm (Jp.map Nc) (Nv Jp 0)).1 ++
  [nodup ((LK st.Jm 256000 256 Jz (MX C outs st)++LK st.Jm 0 256 (Jp.map Nc) (Nv Jp 0)).map (·.1)),!(Jz.any wS||(Jp.map Nc).any wS)||((J8 st.Jm Jz (MX C outs st)).2.2.1.isEmpty&&(J8 st.Jm (Jp.map Nc) (Nv Jp 0)).2.2.1.isEmpty)]++outs.flatMap (fun q=>(lU C st q).1))
  (some ((J8 st.Jm Jz (MX C outs st)).2.1++(KF Jp 0).map (fun i=>unbox ((J8 st.Jm (Jp.map Nc) (Nv Jp 0)).2.1.getD i .undef))))
def runK {ρ :Type} (C:Ctx) (N:Nat) (Jp:List Sh) (n:Nat) (code:Code) (fin:St->Option ρ) (xs:List A):Option ρ :=
 allT ((Ko 0 256 Jp xs 0).1++[nodup ((Ko 0 256 Jp xs 0).2.2.map (·.1)),!(has ((Ko 0 256 Jp xs 0).2.2.map (·.1)) 255)])
  (exec C N fin code (iH Jp xs n) fun
    | .normal,st=>fin st
    | .exit _,_=>none)
section
variable {P:Program} {C:Ctx} {V0:Nat->Value} {O0 O:Own} {w0 w:World} {m:Nat->Value} {st:St} {a:Act}
theorem PZ {id:Nat}: ∀(ks:List (Bool×CK)) (cs:List A) (j0:Nat),∀ p∈(J6 id ks cs j0).2.2,∃ x,p.1=id+x/\x<j0+ks.length:=by
 intro ks
 induction ks with
 | nil=>intro cs j0 p hp;simp [J6]at hp
 | cons k ks ih =>
  intro cs j0 p hp;have step:p∈(J6 id ks cs (j0+1)).2.2-> ∃ x,p.1=id+x/\x<j0+(k::ks).length:=by intro h;obtain⟨x,h1,h2⟩:=ih cs (j0+1) p h;exact⟨x,h1,by simp only[List.length_cons];omega⟩
  obtain⟨u,k⟩:=k;cases u with
  | false=>exact step hp
  | true =>
   cases k with
   | sl e sz =>
    simp only[J6]at hp;rcases Dz.1 hp with rfl | hp
    .exact⟨j0,rfl,by simp⟩
    .exact step hp
   | sln e sz =>
    simp only[J6]at hp;rcases Dz.1 hp with rfl | hp
    .exact⟨j0,rfl,by simp⟩
    .exact step hp
   | bx t =>
    simp only[J6]at hp;rcases Dz.1 hp with rfl | hp
    .exact⟨j0,rfl,by simp⟩
    .exact step hp
   | mp kt vt =>
    simp only[J6]at hp;rcases Dz.1 hp with rfl | hp
    .exact⟨j0,rfl,by simp⟩
    .exact step hp
   | _=>simp [J6]at hp
theorem Ae8 {id:Nat} {s:Sh} {x:A} (hok:Jv (back id s x).1): ∀ p∈(back id s x).2.2,∃ i,p.1=id+i/\i<255:=by
 intro p hp;cases s with
 | cell u k =>obtain⟨i,h1,h2⟩:=PZ _ _ _ p hp;exact⟨i,h1,by simp at h2;omega⟩
 | agg ks =>simp only[back]at hok hp;have:=D7 hok.cons.1;obtain⟨i,h1,h2⟩:=PZ _ _ _ p hp;exact⟨1+i,by omega,by omega⟩
 | box ks =>
  simp only[back]at hok hp;have:=D7 hok.cons.1;rcases Dz.1 hp with rfl | hp
  .exact⟨0,rfl,by omega⟩
  .obtain⟨i,h1,h2⟩:=PZ _ _ _ p hp;exact⟨1+i,by omega,by omega⟩
 | clo f' ks =>
  simp only[back]at hok hp;have:=D7 hok.cons.1;rcases Dz.1 hp with rfl | hp
  .exact⟨0,rfl,by omega⟩
  .obtain⟨i,h1,h2⟩:=PZ _ _ _ p hp;exact⟨1+i,by omega,by omega⟩
 | map kt vt=>simp_all[back,Sh,Jv]
theorem Adi {f:Nat->Value}: ∀(ss:List Sh) (rs:List A) (j0:Nat),Jv (Ko 0 256 ss rs j0).1-> ∀ p∈Rk w f 0 256 ss rs j0,p.2=LW w (f (p.1 / 256)) (p.1 % 256):=by
 intro ss
 induction ss with
 | nil=>grind[Rk]
 | cons s ss ih =>intro rs j0 hok p hp;simp only[Ko]at hok;obtain⟨h1,h2⟩:=hok.append;all_goals grind[Rk,Ae8]
theorem AeW {Jp:List Sh} {xs:List A} {n:Nat} {vs:Array Value} (hI:Inv O w) (hv:vs.size=xs.length) (hl:xs.length=Jp.length) (h: ∀ j,j<xs.length->IR O w (256*j) (vs.getD j undef) (xs.getD j .undef))
 (hok:Jv (Ko 0 256 Jp xs 0).1) (hnd:nodup ((Ko 0 256 Jp xs 0).2.2.map (·.1))=true) (h255:has ((Ko 0 256 Jp xs 0).2.2.map (·.1)) 255=false) :
 Sim (fun o=>innerS w (Jp.getD (o / 256) (.agg [])) (vs.getD (o / 256) undef)) O w O (fun o=>LW w (innerS w (Jp.getD (o / 256) (.agg [])) (vs.getD (o / 256) undef)) (o % 256)) (iH Jp xs n) {tmps:=vs++Array.replicate (n - vs.size) undef,defers:=[]} w:=by
 have hmem: ∀ o x,Jr (J3 [] (Ko 0 256 Jp xs 0).2.2) o=some x->(o,x)∈(Ko 0 256 Jp xs 0).2.2:=by
  intro o x hx;rcases Ve _ (kW hx)with h | h
  .exact h
  .cases h
 have hget: ∀ p∈(Ko 0 256 Jp xs 0).2.2,Jr (J3 [] (Ko 0 256 Jp xs 0).2.2) p.1=some p.2:=fun p hp=>Yu (Jm:=[]) (upd:=[]) (del:=[]) hnd (o:=p.1) (x:=p.2) hp
 obtain⟨r1,r2,r3⟩:=mZ (Oc:=O) (O':=O) (w:=w) (objs':=J3 [] (Ko 0 256 Jp xs 0).2.2) (m':=fun o=>LW w (innerS w (Jp.getD (o / 256) (.agg [])) (vs.getD (o / 256) undef)) (o % 256)) (cid:=0) (cst:=256) (id:=0) (stride:=256) (f:=fun j=>vs.getD j undef) (g:=fun j=>innerS w (Jp.getD j (.agg [])) (vs.getD j undef)) (rs:=xs)
  (fun _ _ _ h hc=>⟨h,hc⟩) (fun _ _ h=>h) Jp 0 (fun j _=>by rw[DF]) (fun j hj=>by rw[DF,DF];exact h j (by rw[hl];exact hj)) (fun j _ b k i _ hb=>hb) hok hget
  (fun p hp=>(Adi Jp xs 0 hok p hp).symm)
 refine⟨rfl,?_,fun t ht=> ?_,fun o x hx=>r3 _ (hmem o x hx),Moves.refl O _ w,fun b k o _ ho hne=>⟨o,ho,hne⟩,fun o x hx e=> ?_,fun b k _ h=>h,fun o hr _=> ?_,fun b k _ h=>h,hI⟩
 .simp [iH,r1,hv,hl]
 .show Jy O _ _ w (((vs++Array.replicate (n - vs.size) undef).getD t undef)) (((Ko 0 256 Jp xs 0).2.1++List.replicate (n - Jp.length) A.undef).getD t .undef);rcases DT t Jp.length with htl | htl
  .have e1:((Ko 0 256 Jp xs 0).2.1++List.replicate (n - Jp.length) A.undef).getD t .undef=(Ko 0 256 Jp xs 0).2.1.getD t .undef:=by
    simp [Di,DV,r1,htl]
   have e2:(vs++Array.replicate (n - vs.size) undef).getD t undef=vs.getD t undef:=by
    have:t<vs.size:=by rw[hv,hl];exact htl
    simp [Dj,Em,this]
   rw[e1,e2];have:=(r2 t htl).1;rw[DF]at this;exact this
  .have e1:((Ko 0 256 Jp xs 0).2.1++List.replicate (n - Jp.length) A.undef).getD t .undef= .undef:=by
    rw[Di,Eb (by rw[r1];exact htl),List.getElem?_replicate];split<;>rfl
   rw[e1];trivial
 .subst e;have:=hmem _ x hx;have h':has ((Ko 0 256 Jp xs 0).2.2.map (·.1)) 255=true:=MZ.2 (D6.2 ⟨_,this,rfl⟩);rw[h']at h255;cases h255
 .unfold Su at hr;rw[Dn]at hr;have:=Dk hr.2;rw[this];rfl
theorem AaK {fet:Fet}: ∀(ss:List Sh) (xs:List A),Jv (J8 fet ss xs).1-> ∀ i s,ss[i]? =some s->JR s=true->qR (unbox ((J8 fet ss xs).2.1.getD i .undef))=(J8 fet ss xs).2.1.getD i .undef:=by
 intro ss
 induction ss with
 | nil=>intro xs _ i s h;simp at h
 | cons s ss ih =>
  intro xs hok i s' h hb;cases xs with
  | nil=>have:=hok false (by simp [J8]);cases this
  | cons x xs =>
   simp only[J8]at hok ⊢;obtain⟨h1,h2⟩:=hok.append;cases i with
   | zero =>
    simp at h;subst h;cases s with
    | cell _ _=>cases hb
    | agg _=>cases hb
    | map kt vt =>
     cases x with
     | own q =>
      unfold JD at h1 ⊢;dsimp only at h1 ⊢;cases hg:Jr fet q with
      | none=>rw[hg]at h1;have:=h1 false (by simp);cases this
      | some y =>
       cases y with
       | mp l=>rfl
       | _=>rw[hg]at h1;have:=h1 false (by simp);cases this
     | _=>have:=h1 false (by simp [JD]);cases this
    | box ks =>
     cases x with
     | ptr q off =>
      unfold JD at h1 ⊢;dsimp only at h1 ⊢;cases hb:KT fet q with
      | none=>rw[hb]at h1;have:=h1 false (by simp);cases this
      | some cs=>rfl
     | _=>have:=h1 false (by simp [JD]);cases this
    | clo f' ks =>
     cases x with
     | clo g q =>
      unfold JD at h1 ⊢;dsimp only at h1 ⊢;cases hb:KT fet q with
      | none=>rw[hb]at h1;have:=h1 false (by simp);cases this
      | some cs=>rfl
     | _=>have:=h1 false (by simp [JD]);cases this
   | succ i=>simpa using ih xs h2 i s' (by simpa using h) hb
theorem Adl: ∀(ss:List Sh) (i0 j i:Nat),(KF ss i0)[j]? =some i-> ∃ r s,i=i0+r/\ss[r]? =some s/\JR s=true:=by
 intro ss
 induction ss with
 | nil=>grind[KF]
 | cons s ss ih =>
  intro i0 j i h;have step: ∀ j':Nat,(KF ss (i0+1))[j']? =some i-> ∃ r s',i=i0+r/\(s::ss)[r]? =some s'/\JR s'=true:=by intro j' h';obtain⟨r,s',h1,h2,h3⟩:=ih (i0+1) j' i h';exact⟨r+1,s',by omega,by simpa using h2,h3⟩
  simp only[KF]at h;cases s with
  | box ks =>
   simp only[JR,cond_true]at h;cases j with
   | zero=>simp_all[Sh,KF,JR]
   | succ j=>exact step j (by simpa using h)
  | clo f' ks =>
   simp only[JR,cond_true]at h;cases j with
   | zero=>simp_all[Sh,KF,JR]
   | succ j=>exact step j (by simpa using h)
  | map kt vt =>
   simp only[JR,cond_true]at h;cases j with
   | zero=>simp_all[Sh,KF,JR]
   | succ j=>exact step j (by simpa using h)
  | cell u k=>grind[JR]
  | agg ks=>grind[JR]
theorem Abd: ∀(ss:List Sh) (i0:Nat),(Nv ss i0).length=ss.length:=by
 intro ss
 induction ss with
 | nil=>intro i0;rfl
 | cons s ss ih=>intro i0;simp [Nv,ih]
theorem AdU: ∀(ss:List Sh) (i0 j:Nat),j<ss.length->(Nv ss i0).getD j .undef=AgZ (ss.getD j (.agg [])) (i0+j):=by
 intro ss
 induction ss with
 | nil=>intro i0 j h;simp at h
 | cons s ss ih =>
  intro i0 j h;cases j with
  | zero=>grind[Nv]
  | succ j=>grind[Nv]
end
def rv:Nat×Option Nat->ResultVar
 | (t,none)=>.tmp t
 | (a,some ty)=>.cell a ty
def iM (tmps:Array Value):ResultVar->Sem Value
 | .tmp t=>pure (tmps.getD t undef)
 | .cell a t=>do loadVar t (<- asAddr (tmps.getD a undef))
def Agy {P:Program} {w:World} {α :Type} {g: α ->Sem Value}: ∀(l:List α) (f:Nat->Value),(∀(j:Nat) (x: α),l[j]? =some x->(g x).run P w= .ok (f j) w)->(l.mapM g).run P w= .ok ((List.range l.length).map f) w:=by
 intro l
 induction l with
 | nil=>intro f _;simp
 | cons x r ih =>intro f h;have h1:=ih (fun j=>f (j+1)) (fun j y hy=>h (j+1) y (by simpa using hy));have h2:=h 0 x rfl;rw[FV];simp only[Dv,h2,Result.andThen_ok,h1,Sem.run_pure,List.length_cons,List.range_succ_eq_map,DY,EN];rfl
def wF (us:Array Value):Value:=if h:us.size=1 then us[0]else .tuple us
def AcG {P:Program} {w:World} {fn:Func} {outs:List (Nat×Option Nat)} {tmps:Array Value} (h:fn.results=(outs.map rv).toArray) (f:Nat->Value) (hf: ∀(j:Nat) (q:Nat×Option Nat),outs[j]? =some q->(iM tmps (rv q)).run P w= .ok (f j) w) :
 (results fn tmps).run P w= .ok (wF ((List.range outs.length).map f).toArray) w:=by
 have e:results fn tmps=(do let vs <- fn.results.mapM (iM tmps);pure (wF vs)):=by
  have e0:iM tmps=(fun | .tmp t=>pure (tmps.getD t undef) | .cell a t=>do loadVar t (<- asAddr (tmps.getD a undef))):=by funext x;cases x<;>rfl
  unfold results wF;rw[e0];rfl
 rw[e,h,List.mapM_toArray]
 have:=Agy (P:=P) (w:=w) (g:=iM tmps) (outs.map rv) f (fun j x hx=>by
  rw[DW]at hx;cases hq:outs[j]? with
  | none=>rw[hq]at hx;cases hx
  | some q=>rw[hq]at hx;injection hx with hx;rw[<- hx];exact hf j q hq)
 all_goals simp_all[rv,iM,wF]
section
variable {P:Program} {C:Ctx} {V0:Nat->Value} {O0 O:Own} {w0 w:World} {m:Nat->Value} {st:St} {a:Act}
theorem Aer {Jp:List Sh} {i:Nat} {s:Sh} (h:Jp[i]? =some s) (hb:JR s=true):(Jp.map Nc)[i]? =some (Nc s)/\JR (Nc s)=true/\JR (Jp.getD i (.agg []))=true/\i<Jp.length:=by
 have hi:i<Jp.length:=by all_goals grind[Sh,JR,Nc]
 refine⟨(by rw[DW,h];rfl),(by cases s<;>first | rfl | (cases hb;done)),?_,hi⟩;rw[Di,h];exact hb
theorem AeV {Jp Jz:List Sh} {outs:List (Nat×Option Nat)} {rs:List A} {vs:Array Value} {sg:Sig} {fn:Func} (hC:TOk P C) (hfn:fn.results=(outs.map rv).toArray) (hp:sg.Jp=Jp) (hr:sg.Jz=Jz) (h100:Jp.length<=100)
 (hptr: ∀ i,i<Jp.length->JR (Jp.getD i (.agg []))=true->(innerS w0 (Jp.getD i (.agg [])) (vs.getD i undef)).oneCell'=true)
 (hS:Sim (fun o=>innerS w0 (Jp.getD (o / 256) (.agg [])) (vs.getD (o / 256) undef)) O0 w0 O m st a w) (h:finish C Jp Jz outs st=some rs) :
 ∃ v O',(results fn a.tmps).run P w= .ok v w/\Came O0 w0 vs sg rs v O' w:=by
 obtain⟨hok,hrs⟩:=PL h;injection hrs with hrs;obtain⟨hokA,hokO⟩:=hok.append;obtain⟨hokA,hokB⟩:=hokA.append;obtain⟨hok1,hok2⟩:=hokA.append;have hnd:=hokB.cons.1;have hwr:=hokB.cons.2.cons.1;have hf:MV st.Jm st.Jm:=fun _ _ h=>h;generalize hN:LK st.Jm 256000 256 Jz (MX C outs st)++LK st.Jm 0 256 (Jp.map Nc) (Nv Jp 0)=N at *
 have hout: ∀ j:Nat,∃ u:Value,∀ q,outs[j]? =some q->(iM a.tmps (rv q)).run P w= .ok u w/\Jy O st.Jm m w u (lU C st q).2:=by
  intro j;cases hj:outs[j]? with
  | none=>exact⟨undef,fun q hq=>by cases hq⟩
  | some q =>
   have hqok:Jv (lU C st q).1:=fun b hb=>hokO b (DX.2 ⟨q,F5 hj,hb⟩);obtain⟨t,ty⟩:=q;cases ty with
   | none =>have hlt:=hqok.cons.1;rw[DZ]at hlt;exact⟨a.tmps.getD t undef,fun q hq=>by injection hq with hq;subst hq;exact⟨rfl,hS.tmps t hlt⟩⟩
   | some ty =>
    have hq2:Jv (Nat.blt t st.tmps.length::(RD C st.Jm ty (st.tmps.getD t .undef)).ok):=hqok;obtain⟨hlt,hld⟩:=hq2.cons;rw[DZ]at hlt;obtain⟨u,hu1,hu2⟩:=(wW (o:= {(default:Oper)with op:=.load ty (.tmp t)}) hC (fun q x hq=>⟨hq,hS.Jm q x hq⟩) rfl (lC hS (.tmp t)) hld).run;refine⟨u,fun q hq=> ?_⟩;injection hq with hq;subst hq;refine⟨?_,hu2⟩;have hev:a.eval (.tmp t)=a.tmps.getD t undef:=by simp [Act.eval]
    simp only[execOp,Instr.loadAt,hev]at hu1;show(do loadVar ty (<- asAddr (a.tmps.getD t undef)):Sem Value).run P w=_;generalize a.tmps.getD t undef=z at hu1 ⊢;cases z with
    | pointer p =>
     cases p with
     | none=>simp [Instr.sureAddr]at hu1
     | some ad =>
      simp only[asAddr,Dv,Sem.run_pure,Result.andThen_ok];simp only[Instr.sureAddr,pure_bind,Dv,Sem.run_pure]at hu1;cases hl:(loadVar ty ad).run P w with
      | ok x w2 =>rw[hl]at hu1;simp only[Result.andThen_ok,Sem.run_pure,Result.ok.injEq,Next.value.injEq]at hu1;rw[hu1.1,hu1.2]
      | halt x w2=>rw[hl]at hu1;simp [Result.andThen]at hu1
    | _=>simp [Instr.sureAddr]at hu1
 obtain⟨fv,hfv⟩:=Ff hout
 obtain⟨g1,g2,g3,_,g5⟩:=Ut (W:=(J8 st.Jm Jz (MX C outs st)).2.2.1++(J8 st.Jm (Jp.map Nc) (Nv Jp 0)).2.2.1=[]) hf hS.Jm 256 Jz (MX C outs st) 256000 fv (fun e=>by rw[e]at hwr;simpa using hwr) (fun j hj=>by
  have hj':j<outs.length:=by simpa [MX]using hj
  have e:(MX C outs st).getD j .undef=(lU C st outs[j]).2:=by simp [MX,Di,hj']
  rw[e];exact(hfv j _ (D9 hj')).2) hok1
 have hmaskl:(Jp.map Nc).length=Jp.length:=by simp
 obtain⟨k1,k2,k3,_,k5⟩:=Ut (W:=(J8 st.Jm Jz (MX C outs st)).2.2.1++(J8 st.Jm (Jp.map Nc) (Nv Jp 0)).2.2.1=[]) hf hS.Jm 256 (Jp.map Nc) (Nv Jp 0) 0 (fun j=>if JR (Jp.getD j (.agg []))then innerS w0 (Jp.getD j (.agg [])) (vs.getD j undef)else .bool true) (fun e=>by rw[e,FN]at hwr;simpa using hwr) (fun j hj=>by
  have hj':j<Jp.length:=by rw[Abd]at hj;exact hj
  rw[AdU Jp 0 j hj',DF];have hroot:Su (256*j)=true:=by unfold Su;rw[Dn,DZ];refine⟨by omega,?_⟩;rw[Nat.mul_mod_right];rfl
  have hrt: ∀ x,Jr st.Jm (256*j)=some x->m (256*j)=innerS w0 (Jp.getD j (.agg [])) (vs.getD j undef):=fun x hx=>by have:=hS.root (256*j) hroot (by rw[hx];rfl);rw[Nat.mul_div_cancel_left j (by decide)]at this;exact this
  have hp:=hptr j hj';generalize Jp.getD j (.agg [])=s at hp hrt ⊢;cases s with
  | box ks =>
   rw[Dw (show JR (Sh.box ks)=true from rfl)];refine⟨hp rfl,?_⟩;cases hx:Jr st.Jm (256*j)with
   | none=>trivial
   | some x =>
    cases x with
    | arr _ _ _=>trivial
    | mp _=>trivial
    | box cs =>obtain⟨b,base,h1,_⟩:=hS.Jm _ _ hx;exact⟨b,base,h1,by rw[<- hrt _ hx,h1];rfl⟩
  | clo f' ks =>
   rw[Dw (show JR (Sh.clo f' ks)=true from rfl)];refine⟨hp rfl,?_⟩;cases hx:Jr st.Jm (256*j)with
   | none=>trivial
   | some x =>
    cases x with
    | arr _ _ _=>trivial
    | mp _=>trivial
    | box cs =>obtain⟨b,base,h1,_⟩:=hS.Jm _ _ hx;exact⟨b,base,h1,by rw[<- hrt _ hx,h1];rfl⟩
  | map kt vt =>
   rw[Dw (show JR (Sh.map kt vt)=true from rfl)];refine⟨hp rfl,?_⟩;cases hx:Jr st.Jm (256*j)with
   | none=>trivial
   | some x =>
    cases x with
    | box _=>trivial
    | arr _ _ _=>exact(hrt _ hx).symm
    | mp _=>exact(hrt _ hx).symm
  | cell u k=>rw[Du (show ¬ JR (Sh.cell u k)=true from fun h=>by cases h)];exact Jt.bool true
  | agg ks=>rw[Du (show ¬ JR (Sh.agg ks)=true from fun h=>by cases h)];exact Jt.bool true) hok2
 obtain⟨O1,hS1,hp1,_,hv1,_,hk1⟩:=hS.freezes _ (g3.append k3);have hρ : ∀ p∈N,look N p.1=some p.2:=Abb hnd
 have halive: ∀ p∈N,(Jr st.Jm p.1).isSome:=by
  intro p hp';rw[<- hN]at hp';rcases DI.1 hp' with hp' | hp'
  .exact Ux _ _ _ hok1 p hp'
  .exact Ux _ _ _ hok2 p hp'
 generalize hU:(J8 st.Jm Jz (MX C outs st)).2.2.1++(J8 st.Jm (Jp.map Nc) (Nv Jp 0)).2.2.1=U at *
 have hFU:Frz st.Jm U:=by rw[<- hU];exact g3.append k3
 have hupdO: ∀ p∈U,Kz O1 (J3 st.Jm U) m w p.1 p.2:=by intro p hp;obtain⟨x,hx1,hx2⟩:=MG U st.Jm p.1 ⟨p,hp,rfl⟩;obtain⟨e,fz,l,k1,k2⟩:=hFU p hp;obtain⟨e',fz',l',k3,k4⟩:=hFU _ hx1;dsimp only at k3 k4;rw[k1]at k3;injection k3 with k3;injection k3 with q1 q2 q3;subst q1;subst q3;rw[k2,<- k4];exact hS1.Jm p.1 x hx2
 have hR:=g5 (ρ :=look N) hp1 (fun p hp=>hv1 p (by rw[<- hU];exact Dx _ hp)) (fun p hp=>hupdO p (by rw[<- hU];exact Dx _ hp)) hk1 (fun p hp=>hρ p (by rw[<- hN];exact Dx _ hp));have hB:=k5 (ρ :=look N) hp1 (fun p hp=>hv1 p (by rw[<- hU];exact Dy _ hp)) (fun p hp=>hupdO p (by rw[<- hU];exact Dy _ hp)) hk1 (fun p hp=>hρ p (by rw[<- hN];exact Dy _ hp));have hol:outs.length=Jz.length:=by rw[<- g2];simp [MX]
 refine⟨_,Me O1 (look N),AcG hfn fv (fun j q hq=>(hfv j q hq).1),hS1.frame,fun b k hb hne=>hS1.less b k hb (fun e=>hne (Sm.2 e)),fun b k hb hj=> ?_,?_,?_,?_⟩
 .have:=hS1.VM b k hb hj;unfold Me;rw[this];dsimp only;cases hl:look N 255 with
  | none=>rfl
  | some i =>have h1:=halive _ (dU hl);obtain⟨x,hx⟩:=Ei.1 h1;exact absurd rfl (hS.ids 255 x hx)
 .rw[<- hrs,hp,hr];simp [g1]
 .refine⟨((List.range outs.length).map fv).toArray,by rw[hr];simp [hol],rfl,fun k hk=> ?_⟩;have hk':k<outs.length:=by simpa using hk
  have hus:(((List.range outs.length).map fv).toArray).getD k undef=fv k:=by simp [Dj,hk']
  rw[hus];have:=hR k (by rw[<- hol];exact hk');have e:rs.getD k .undef=(J8 st.Jm Jz (MX C outs st)).2.1.getD k .undef:=by rw[<- hrs,Di,DV (by rw[g1,<- hol];exact hk'),<- Di]
  rw[e];exact this
 .intro j i hji;rw[hp]at hji;obtain⟨r,s,h1,h2,h2'⟩:=Adl Jp 0 j i hji;rw[DF]at h1;subst h1;obtain⟨h3,h3',h4,h5⟩:=Aer h2 h2';have h6:=AaK _ _ hok2 i _ h3 h3';have e:rs.getD (sg.Jz.length+j) .undef=unbox ((J8 st.Jm (Jp.map Nc) (Nv Jp 0)).2.1.getD i .undef):=by rw[<- hrs,hr,Di,Eb (by rw[g1];omega),g1,Fe,DW,hji];rfl
  rw[e,h6,hp];have:=hB i (by rw[hmaskl];exact h5);rw[DF,Dw h4]at this;exact this
theorem AfE {ρ :Type} {o: ρ} {fin:St->Option ρ} (hC:Md P C) (N:Nat)
 (hdraw: ∀ {C:Ctx},Md P C-> ∀ {ρ :Type} {V0:Nat->Value} {O0:Own} {w0:World} {fin:St->Option ρ} {v: ρ} (id:Nat) (ops:Array Oper) {O:Own} {m:Nat->Value} {st:St} {a:Act} {w:World} (K:Ex->St->Option ρ),Sim V0 O0 w0 O m st a w->Pj C ops.toList st=true->QJ C ops.toList ops.toList st (fun st'=>K .normal st')=some v ->
   (Code.region id ops true).wp P (Post V0 O0 w0 fin K v) a w)
 {f:FuncId} {fn:Func} {code:Code} {outs:List (Nat×Option Nat)} {sg:Sig} (hf:P.funcs[f]? =some fn) (hb:fn.body=some code) (hout:fn.results=(outs.map rv).toArray)
 {vs:Array Value} {xs rs:List A} (hI:Inv O w) (hv:vs.size=xs.length) (hl:xs.length=sg.Jp.length) (h100:xs.length<=100) (hx: ∀ j,j<xs.length->IR O w (256*j) (vs.getD j undef) (xs.getD j .undef))
 (h:runK C N sg.Jp fn.ntmps code fin xs=some o) (hrs: ∀ st,fin st=some o->finish C sg.Jp sg.Jz outs st=some rs) :
 Calls P f vs w fun e w'=> ∃ v O',e= .returned v/\Came O w vs sg rs v O' w':=by
 obtain⟨hok,h⟩:=PL h;obtain⟨hok1,hok2⟩:=hok.append;obtain⟨hnd,hok2⟩:=hok2.cons;have h255:=hok2.cons.1;rw[Eo]at h255;have hS:=AeW (n:=fn.ntmps) hI hv hl hx hok1 hnd h255
 have hptr: ∀ i,i<sg.Jp.length->JR (sg.Jp.getD i (.agg []))=true->(innerS w (sg.Jp.getD i (.agg [])) (vs.getD i undef)).oneCell'=true:=by
  intro i hi hb;have hi':i<xs.length:=by rw[hl];exact hi
  have hbk:Jv (back (256*i) (sg.Jp.getD i (.agg [])) (xs.getD i .undef)).1:=by
   have key: ∀(ss:List Sh) (j0 i:Nat),i<ss.length->Jv (Ko 0 256 ss xs j0).1->Jv (back (0+256*(j0+i)) (ss.getD i (.agg [])) (xs.getD (j0+i) .undef)).1:=by
    intro ss
    induction ss with
    | nil=>intro j0 i h;simp at h
    | cons s ss ih =>
     intro j0 i h hok;simp only[Ko]at hok;obtain⟨h1,h2⟩:=hok.append;cases i with
     | zero=>simpa using h1
     | succ i =>have:=ih (j0+1) i (by simpa using h) h2;rw[show j0+1+i=j0+(i+1)from by omega]at this;simpa using this
   have:=key sg.Jp 0 i hi hok1;rw[DF,DF]at this;exact this
  have hir:=hx i hi';generalize sg.Jp.getD i (.agg [])=s at hb hbk;cases s with
  | box ks =>
   simp only[back]at hbk;have h2:=hbk.cons.2.cons.1;generalize xs.getD i .undef=x at h2 hir;cases x with
   | box cs =>obtain⟨b,base,h3,_⟩:=hir;rw[h3];rfl
   | _=>cases h2
  | clo f' ks =>
   simp only[back]at hbk;have h2:=hbk.cons.2.cons.1;generalize xs.getD i .undef=x at h2 hir;cases x with
   | cbx g cs =>obtain⟨b,base,h3,_⟩:=hir;rw[show innerS w (.clo f' ks) (vs.getD i undef)=_ from h3.inner (ks:=ks)];rfl
   | _=>cases h2
  | map kt vt =>
   obtain⟨l,hl',_,_⟩:=VL (show A.WZ kt vt _=true from hbk.cons.1);rw[hl']at hir;obtain⟨r,_,_,h3,_⟩:=(show LP O w _ _ l from hir)
   rw[h3];rfl
  | _=>cases hb
 refine calls_of_wp hf hb (Gx (Ads hC N (fun hC'=>hdraw hC') code hS h) fun e a' w' hq=> ?_);have fin':(∃ O' m' st',Sim (fun o=>innerS w (sg.Jp.getD (o / 256) (.agg [])) (vs.getD (o / 256) undef)) O w O' m' st' a' w'/\fin st'=some o)->a'.defers=[]/\ ∃ v,(results fn a'.tmps).run P w'= .ok v w'/\ ∃ v' O',Ending.returned v= .returned v'/\Came O w vs sg rs v' O' w':=by rintro ⟨O',m',st',hS',hfin⟩;obtain⟨v,O2,hres,hcame⟩:=AeV (sg:=sg) hC.T hout rfl rfl (by rw[<- hl];exact h100) hptr hS' (hrs st' hfin);exact⟨hS'.defers,v,hres,v,O2,rfl,hcame⟩
 cases e with
 | normal=>exact fin' hq
 | ret=>exact fin' hq
 | exit id =>obtain⟨O',m',st',_,h'⟩:=hq;cases h'
 | goto l=>exact hq.elim
 | panic ch=>exact hq.elim
 | outgrown=>exact hq.elim
end
section
variable {P:Program} {C:Ctx} {V0:Nat->Value} {O0 O:Own} {w0 w:World} {m:Nat->Value} {st:St} {a:Act}
theorem Le {a b:List Nat} (h:P6 a b=true): ∀ n∈a,n∉b:=by intro n hn hb;have:=DK.1 h n hn;rw[MZ.2 hb]at this;cases this
def lastOf:List (Nat×Obj)->Nat->Option Obj
 | [],_=>none
 | (n,x)::r,k=>match lastOf r k with
  | some y=>some y
  | none=>if n=k then some x else none
theorem kC {u:List (Nat×Obj)} {k:Nat} (h:k∉u.map (·.1)):lastOf u k=none:=by
 induction u with
 | nil=>rfl
 | cons p r ih=>grind[lastOf]
theorem jR (u:List (Nat×Obj)): ∀(l:List (Nat×Obj)) (k:Nat),Jr (J3 l u) k=match lastOf u k with | some x=>some x | none=>Jr l k:=by
 induction u with
 | nil=>intro l k;rfl
 | cons p r ih=>grind[J3,JO,lastOf]
theorem OC (st:St) (o:Oper) (δ :Dl) (k:Nat):Jr (apply st o δ).Jm k=match lastOf δ.new k with
 | some x=>some x
 | none=>if k∈ δ.del then none else match lastOf δ.upd k with
  | some x=>some x
  | none=>Jr st.Jm k:=by
 unfold apply;dsimp only;rw[jR,Pq,jR]
theorem PK {st:St} {o:Oper} {δ :Dl} {k:Nat} (h:k∉ δ.upd.map (·.1)++ δ.del++ δ.new.map (·.1)):Jr (apply st o δ).Jm k=Jr st.Jm k:=by grind[OC,kC]
def Srt:List (Nat×Obj)->Prop:=List.Pairwise (fun p q=>p.1<q.1)
theorem Aes: ∀ {l:List (Nat×Obj)},sorted l=true->Srt l:=by
 intro l
 induction l with
 | nil=>intro _;exact List.Pairwise.nil
 | cons p r ih =>
  intro h;cases r with
  | nil=>exact FQ _ _
  | cons q r =>
   obtain⟨n,x⟩:=p;obtain⟨k,y⟩:=q;simp only[sorted,Dn,DZ]at h;have hr:=ih h.2;refine List.Pairwise.cons (fun q hq=> ?_) hr;rcases Dz.1 hq with rfl | hq
   .exact h.1
   .exact Nat.lt_trans h.1 ((Eu.1 hr).1 q hq)
theorem Srt.OB {l:List (Nat×Obj)} (h:Srt l) (n:Nat):Srt (Vm.OB l n):=by
 induction l with
 | nil=>exact h
 | cons p r ih =>
  obtain⟨k,x⟩:=p;obtain⟨h1,h2⟩:=Eu.1 h;rw[aJ];split
  .exact ih h2
  .exact List.Pairwise.cons (fun q hq=>h1 q (lS hq)) (ih h2)
theorem Srt.Ul {l:List (Nat×Obj)} (h:Srt l) {n:Nat} (y:Obj) (hn:Jr l n=none):Srt (Vm.Ul l n y):=by
 induction l with
 | nil=>exact FQ _ _
 | cons p r ih =>
  obtain⟨k,x⟩:=p;obtain⟨h1,h2⟩:=Eu.1 h;rw[LX]at hn;have hkn:k≠n:=fun e=>by rw[Dw e]at hn;cases hn
  rw[Du hkn]at hn;simp only[Vm.Ul];cases hle:Nat.ble n k with
  | true =>have:=D7 hle;refine List.Pairwise.cons (fun q hq=> ?_) h;all_goals grind[Obj,Srt,Jr]
  | false =>
   have hlt:k<n:=by
    rcases DT k n with h | h
    .exact h
    .rw[Nat.ble_eq_true_of_le h]at hle;cases hle
   refine List.Pairwise.cons (fun q hq=> ?_) (ih h2 hn);rcases Abf hq with rfl | hq
   .exact hlt
   .exact h1 q hq
theorem Srt.KI {l:List (Nat×Obj)} (h:Srt l) (n:Nat) (y:Obj):Srt (Vm.KI l n y):=(h.OB n).Ul y (by rw[WU,Dw rfl])
theorem Srt.J3: ∀(u:List (Nat×Obj)) {l:List (Nat×Obj)},Srt l->Srt (Vm.J3 l u):=by
 intro u
 induction u with
 | nil=>intro l h;exact h
 | cons p r ih=>intro l h;obtain⟨n,x⟩:=p;exact ih (h.KI n x)
theorem Srt.JM: ∀(u:List Nat) {l:List (Nat×Obj)},Srt l->Srt (Vm.JM l u):=by
 intro u
 induction u with
 | nil=>intro l h;exact h
 | cons n r ih=>intro l h;exact ih (h.OB n)
theorem Srt.apply {st:St} (h:Srt st.Jm) (o:Oper) (δ :Dl):Srt (Vm.apply st o δ).Jm:=((h.J3 δ.upd).JM δ.del).J3 δ.new
theorem TG {n:Nat} {x:Obj} {r:List (Nat×Obj)}:Jr ((n,x)::r) n=some x:=by rw[LX,Dw rfl]
theorem AcV {l:List (Nat×Obj)} {k:Nat} (h: ∀ p∈l,k<p.1):Jr l k=none:=by
 cases hx:Jr l k with
 | none=>rfl
 | some x=>exact absurd (h _ (kW hx)) (Nat.lt_irrefl _)
theorem Srt.ext: ∀ {l l':List (Nat×Obj)},Srt l->Srt l'->(∀ k,Jr l k=Jr l' k)->l=l':=by
 intro l
 induction l with
 | nil =>
  intro l' _ _ h;cases l' with
  | nil=>rfl
  | cons p r=>grind[TG,Obj,Srt,Jr]
 | cons p r ih =>
  intro l' h1 h2 h;obtain⟨n,x⟩:=p;cases l' with
  | nil=>grind[TG,Obj,Srt,Jr]
  | cons q r' =>
   obtain⟨k,y⟩:=q;obtain⟨a1,a2⟩:=Eu.1 h1;obtain⟨b1,b2'⟩:=Eu.1 h2;have hnk:n=k:=by all_goals grind[TG,AcV,a1]
   subst hnk;have hx:=h n;rw[TG,TG]at hx;injection hx with hx;subst hx;rw[ih a2 b2' (fun j=> ?_)];by_cases hj:n=j
   .grind[AcV,a1]
   .have:=h j;rw[LX,LX,Du hj,Du hj]at this;exact this
theorem put_comm (tmps:List A) {d e:Option Tmp} (x y:A) (h: ∀ t,d=some t->e≠some t):put (put tmps d x) e y=put (put tmps e y) d x:=by
 cases d with
 | none=>rfl
 | some d =>
  cases e with
  | none=>rfl
  | some e =>have:d≠e:=fun he=>h d rfl (by rw[he]);exact List.set_comm _ _ this
theorem Adb (tmps:List A) {d:Option Tmp} (x:A) {t:Nat} (h:d≠some t):(put tmps d x).getD t .undef=tmps.getD t .undef:=by
 cases d with
 | none=>rfl
 | some d=>grind[put]
theorem Vt {o:Oper} {t:Nat}:t∈TB o↔o.dst=some t:=by grind[TB]
theorem Aa7 {ops:List Oper} {o:Oper} {tmps:List A} {d:Option Tmp} {v:A} (h: ∀ t,d=some t->t∉slotsOf ops o) {x:Operand} (hx:x∈o.op.operands):Kq (put tmps d v) x=Kq tmps x:=by
 cases x with
 | tmp t =>refine Adb tmps v fun hd=>h t hd ?_;exact Dx _ (Gu.2 ⟨.tmp t,by simpa using hx,rfl⟩)
 | _=>rfl
theorem wR {ops:List Oper} {o:Oper} {tmps:List A} {d:Option Tmp} {v:A} (h: ∀ t,d=some t->t∉slotsOf ops o):guardOf ops (put tmps d v) o.guard=guardOf ops tmps o.guard:=by
 cases hg:o.guard with
 | none=>rfl
 | some p =>
  obtain⟨j,want⟩:=p;unfold guardOf;dsimp only;cases hj:ops[j]? with
  | none=>rfl
  | some oj =>
   dsimp only;cases hd:oj.dst with
   | none=>rfl
   | some t =>dsimp only;rw[Adb tmps v (t:=t) (fun hd'=>h t hd' (by unfold slotsOf;refine Dy _ ?_;rw[hg];dsimp only;rw[hj];dsimp only;rw[hd];simp))]
theorem Acr {Jm objs':List (Nat×Obj)}: ∀(l:List Nat),(∀ n∈l,Jr Jm n=Jr objs' n)->fetch Jm l=fetch objs' l:=by
 intro l
 induction l with
 | nil=>intro _;rfl
 | cons n r ih=>grind[fetch]
theorem Aao {op:Op} {vs:List A} (h:XH op vs=true):(∃ x,op= .move x)\/(∃ x,op= .assign x)\/ ∃ t x k q,op= .load t x/\vs=[.clo k q]:=by unfold XH at h;all_goals grind[split]
theorem TU {α :Type} {x:Option α} {k: α ->Dl} (h: ∀ y,(k y).upd=[]):(JH x k).upd=[]:=by
 cases x with
 | none=>rfl
 | some y=>exact h y
theorem Qx (s:St) (q off:Nat):Jr (JJ s [.ptr q off]) q=Jr s.Jm q:=by show Jr (fetch s.Jm [q]++fetch s.Jm ((fetch s.Jm [q]).flatMap (fun p=>p.2.ids))) q=_;all_goals grind[Jr,fetch,LX]
theorem aK {o:Oper} {vs:List A} {q:Nat} (h:SK o.op vs=some q): ∃ off,vs=[.ptr q off]/\ ∀ f f',KT f q=KT f' q->opX C o vs f=opX C o vs f'/\(opX C o vs f).upd=[]:=by
 obtain⟨dst,op,ty,pos,after,guard⟩:=o;dsimp only at h;unfold SK at h;split at h
 .injection h with h;subst h;refine⟨_,rfl,fun f f' hb=> ?_⟩;unfold opX;dsimp only[a1];unfold QU;dsimp only;rw[hb];exact⟨rfl,by unfold JH;split<;>rfl⟩
 .injection h with h;subst h;refine⟨_,rfl,fun f f' hb=> ?_⟩;unfold opX;dsimp only[a1];unfold Qc Tt;dsimp only;rw[hb];refine⟨rfl,?_⟩;unfold KP;refine TU fun ti=>TU fun p=> ?_;exact TU (fun _=>rfl)
 .injection h with h;subst h;refine⟨_,rfl,fun f f' hb=> ?_⟩;unfold opX;dsimp only[a1];unfold RD;dsimp only;rw[hb];refine⟨rfl,?_⟩;unfold KP;exact TU fun ti=>TU fun _=>rfl
 .cases h
theorem xA {ops:List Oper} {o:Oper} {s1 s2:St} (hE: ∀ x∈o.op.operands,Kq s2.tmps x=Kq s1.tmps x) (hG:guardOf ops s2.tmps o.guard=guardOf ops s1.tmps o.guard)
 (key:(opX C o (JP o s1) (JJ s2 (JP o s1))=opX C o (JP o s1) (JJ s1 (JP o s1))/\(∀ f,(opX C o (JP o s1) f).upd=[])/\KL o s2 (JP o s1)=KL o s1 (JP o s1))\/(JJ s2 (JP o s1)=JJ s1 (JP o s1)/\KL o s2 (JP o s1)=KL o s1 (JP o s1))) (h1: ∀ n∈(JU C ops o s1).new.map (·.1),s1.fresh n=true) (h2: ∀ n∈(JU C ops o s1).new.map (·.1),s2.fresh n=true) :
 JU C ops o s2=JU C ops o s1/\KL o s2 (JP o s2)=KL o s1 (JP o s1)/\JP o s2=JP o s1:=by
 have hmap:o.op.operands.toList.map (Kq s2.tmps)=o.op.operands.toList.map (Kq s1.tmps):=Ew fun x hx=>hE x (by simpa using hx);have hvs:JP o s2=JP o s1:=by unfold JP;rw[hmap]
 have hop:opX C o (JP o s1) (JJ s2 (JP o s1))=opX C o (JP o s1) (JJ s1 (JP o s1)):=by
  rcases key with h | h
  .exact h.1
  .rw[h.1]
 refine⟨?_,by rw[hvs];rcases key with h | h;exact h.2.2;exact h.2,hvs⟩
 have hpl: ∀ pre,(∀ n∈(OI C o s1 pre).new.map (·.1),s1.fresh n=true)->(∀ n∈(OI C o s1 pre).new.map (·.1),s2.fresh n=true)->OI C o s2 pre=OI C o s1 pre:=by
  intro pre h1 h2;unfold OI at h1 h2 ⊢;rw[hmap];dsimp only at h1 h2 ⊢;rw[show opX C o (Kv o.op (o.op.operands.toList.map (Kq s1.tmps))).2 (JJ s2 (Kv o.op (o.op.operands.toList.map (Kq s1.tmps))).2)=opX C o (Kv o.op (o.op.operands.toList.map (Kq s1.tmps))).2 (JJ s1 (Kv o.op (o.op.operands.toList.map (Kq s1.tmps))).2)from hop];generalize opX C o (Kv o.op (o.op.operands.toList.map (Kq s1.tmps))).2 (JJ s1 (Kv o.op (o.op.operands.toList.map (Kq s1.tmps))).2)= δ at *
  have a1: δ.new.all (fun p=>s1.fresh p.1)=true:=DK.2 fun p hp=>h1 p.1 (D6.2 ⟨p,hp,rfl⟩);have a2: δ.new.all (fun p=>s2.fresh p.1)=true:=DK.2 fun p hp=>h2 p.1 (D6.2 ⟨p,hp,rfl⟩);rw[a1,a2]
 unfold JU at h1 h2 ⊢;rw[hG,hmap];have hfa':opX C o (Kv o.op (o.op.operands.toList.map (Kq s1.tmps))).2 (JJ s2 (Kv o.op (o.op.operands.toList.map (Kq s1.tmps))).2)=opX C o (Kv o.op (o.op.operands.toList.map (Kq s1.tmps))).2 (JJ s1 (Kv o.op (o.op.operands.toList.map (Kq s1.tmps))).2):=hop;cases hg:guardOf ops s1.tmps o.guard with
 | none=>rfl
 | some r =>
  cases r with
  | some g =>
   rw[hg]at h1 h2;dsimp only at h1 h2 ⊢;cases hde:Adx C o with
   | some b =>
    rw[hde]at h1 h2;cases b with
    | true=>exact hpl _ h1 h2
    | false=>rfl
   | none =>
   dsimp only;rcases key with h | h
   .have hu:=h.2.1 (JJ s1 (JP o s1));rw[hfa'];have hu':(opX C o (Kv o.op (o.op.operands.toList.map (Kq s1.tmps))).2 (JJ s1 (Kv o.op (o.op.operands.toList.map (Kq s1.tmps))).2)).upd=[]:=hu;simp only[hu',EH]
   .grind[JJ,Kv,Kq,guardOf,opX,JP,KL,JU]
  | none =>rw[hg]at h1 h2;exact hpl _ h1 h2
theorem wI {o:Oper} {s1 s2:St} (hF: ∀ n∈KL o s1 (JP o s1),Jr s2.Jm n=Jr s1.Jm n) :
 (opX C o (JP o s1) (JJ s2 (JP o s1))=opX C o (JP o s1) (JJ s1 (JP o s1))/\(∀ f,(opX C o (JP o s1) f).upd=[])/\KL o s2 (JP o s1)=KL o s1 (JP o s1))\/(JJ s2 (JP o s1)=JJ s1 (JP o s1)/\KL o s2 (JP o s1)=KL o s1 (JP o s1)):=by
 unfold KL at hF ⊢;cases hm:XH o.op (JP o s1)with
 | true =>
  have hu: ∀(v:List A),(a1 (fun a=>.v a) v).upd=[]:=fun v=>by
   cases v with
   | nil=>rfl
   | cons x r=>cases r<;>rfl
  rcases Aao hm with ⟨x,e⟩ | ⟨x,e⟩ | ⟨t,x,k,q,e,ev⟩
  .grind[opX]
  .grind[opX]
  .have hl: ∀ f,(RD C f t (.clo k q)).upd=[]:=fun f=>by
    unfold RD KP JH;cases C.T t<;>rfl
   exact .inl ⟨by unfold opX;rw[e,ev];rfl,fun f=>by unfold opX;rw[e,ev];exact hl f,rfl⟩
 | false =>
  rw[hm]at hF;cases h1':SK o.op (JP o s1)with
  | some q =>rw[h1']at hF;have hq:Jr s2.Jm q=Jr s1.Jm q:=hF q (Ee.2 rfl);obtain⟨off,ev,hO⟩:=aK (C:=C) h1';refine .inl ⟨(hO _ _ ?_).1,fun f=>(hO f f rfl).2,rfl⟩;rw[ev];unfold KT;rw[Qx,Qx,hq]
  | none =>
  all_goals grind[fetch,JP,Acr,JJ]
theorem Aeu {ops:List Oper} {o:Oper} {s1 s2:St} (hE: ∀ x∈o.op.operands,Kq s2.tmps x=Kq s1.tmps x) (hG:guardOf ops s2.tmps o.guard=guardOf ops s1.tmps o.guard)
 (hF: ∀ n∈KL o s1 (JP o s1),Jr s2.Jm n=Jr s1.Jm n) (h1: ∀ n∈(JU C ops o s1).new.map (·.1),s1.fresh n=true) (h2: ∀ n∈(JU C ops o s1).new.map (·.1),s2.fresh n=true) :
 JU C ops o s2=JU C ops o s1/\KL o s2 (JP o s2)=KL o s1 (JP o s1)/\JP o s2=JP o s1:=by grind[xA,wI]
theorem Af4 {o:Oper} {vs:List A} {q off n:Nat} (h:oneOf C o.op vs=some (q,off,n)):SK o.op vs=some q/\ ∀ {f f':Fet} {cs cs':List A},KT f q=some cs->KT f' q=some cs'->cs'.length=cs.length->(∀ k,k<n->cs'.getD (off+k) .undef=cs.getD (off+k) .undef)->opX C o vs f'=opX C o vs f:=by
 obtain⟨dst,op,ty,pos,after,guard⟩:=o;dsimp only at h;unfold oneOf at h;split at h
 .injection h with h;injection h with h1 h2;subst h1;refine⟨rfl,fun {f f' cs cs'} h1 h2 h3 h4=> ?_⟩;unfold opX;dsimp only[a1];unfold QU;dsimp only;rw[h1,h2];rfl
 .simp_all[opX,a1,Qc,Tt,JH,oneOf,SK,Fet]
 .rename_i t _ o' off';cases ht:C.T t with
  | none=>rw[ht]at h;cases h
  | some ti =>
   rw[ht]at h;dsimp only at h;cases h0:Nat.blt 0 ti.cs.length with
   | false=>rw[h0]at h;cases h
   | true =>
   rw[h0]at h;injection h with h;injection h with h1 h2;injection h2 with h2 h3';subst h1;subst h2;subst h3';have h0:0<ti.cs.length:=by simpa [DZ]using h0
   refine⟨rfl,fun {f f' cs cs'} h1 h2 h3 h4=> ?_⟩;unfold opX;dsimp only[a1];unfold RD KP;rw[ht];unfold JH;dsimp only;rw[h1,h2];dsimp only;rw[h3];congr 1;unfold YW;cases ti.agg with
   | false =>have:=h4 0 h0;simpa using this
   | true =>
    refine congrArg A.agg (Gz fun i=> ?_);rw[F8,F8];by_cases hi:i<ti.cs.length
    .rw[Dw hi,Dw hi,EP,EP];have:=h4 i hi;rw[Di,Di]at this;by_cases hl:off'+i<cs.length
     .simp_all[oneOf,SK,Fet,opX]
     .rw[DN (by omega),DN (by omega)]
    .rw[Du hi,Du hi]
 .cases h
def MF (fet:Fet) (δ :Dl):Prop:= ∀ e∈ δ.same,∃ cs,KT fet e.1=some cs/\ ∀ p∈ δ.upd,p.1=e.1-> ∃ cs',p.2= .box cs'/\cs'.length=cs.length/\cs'.getD e.2 .undef=cs.getD e.2 .undef
theorem AdH {fet:Fet} (x:A) (j:Nat) {δ :Dl} (h:MF fet δ):MF fet (OW fet x j δ):=by
 unfold OW;split
 .rename_i q off;cases hb:KT fet q with
  | none=>exact h
  | some cs =>
   dsimp only;cases hc:Nat.blt j cs.length&& δ.upd.all (fun p=> !(Nat.beq p.1 q)||pY cs.length p.2)with
   | false=>exact h
   | true =>
    rw[Dn,DZ]at hc;have hset: ∀ ds:List A,ds.length=cs.length-> ∀ i,(ds.set j (cs.getD j .undef)).getD i .undef=if j=i then cs.getD j .undef else ds.getD i .undef:=by intro ds hd i;rw[Di,ED];by_cases hij:j=i;all_goals simp_all[Fet,MF,OW]
    have key: ∀ p0∈ δ.upd,Nat.beq p0.1 q=true-> ∃ ds,p0.2= .box ds/\ds.length=cs.length:=by
     intro p0 hp0 hq;have h1:=DK.1 hc.2 p0 hp0;rw[hq]at h1;have h1:pY cs.length p0.2=true:=h1;obtain⟨n,y⟩:=p0;cases y with
     | box ds=>exact⟨ds,rfl,Dk h1⟩
     | _=>cases h1
    intro e he;rcases Dz.1 (show e∈(q,j):: δ.same from he)with rfl | he
    .refine⟨cs,hb,fun p hp hpq=> ?_⟩;obtain⟨p0,hp0,rfl⟩:=D6.1 (show p∈ δ.upd.map _ from hp);cases hq:Nat.beq p0.1 q with
     | false=>simp_all[Fet,MF,OW]
     | true=>grind[AgH]
    .obtain⟨cs0,h4,h5⟩:=h e he;refine⟨cs0,h4,fun p hp hpq=> ?_⟩;obtain⟨p0,hp0,rfl⟩:=D6.1 (show p∈ δ.upd.map _ from hp);cases hq:Nat.beq p0.1 q with
     | false=>rw[hq]at hpq;exact h5 p0 hp0 hpq
     | true =>rw[hq]at hpq;have hpq:p0.1=e.1:=hpq;obtain⟨ds,h2,h3⟩:=key p0 hp0 hq;obtain⟨cs',g1,g2,g3⟩:=h5 p0 hp0 hpq;all_goals simp_all[AgH,Fet,MF,OW]
 .exact h
theorem AdJ {fet:Fet} (xs:List A): ∀(ks:List (Nat×Nat)) {δ :Dl},MF fet δ ->MF fet (keepD fet xs ks δ):=by
 intro ks
 induction ks with
 | nil=>intro δ h;exact h
 | cons k ks ih=>intro δ h;exact ih (AdH _ _ h)
theorem MF.nil {fet:Fet} {δ :Dl} (h: δ.same=[]):MF fet δ :=fun e he=>by rw[h]at he;cases he
theorem qM {o:Oper} {s:St} (pre:List Bool):MF (JJ s (JP o s)) (OI C o s pre):=by
 cases hc:iI o.op with
 | false=>grind[MF.nil,OI]
 | true =>
  have key:MF (JJ s (JP o s)) (opX C o (JP o s) (JJ s (JP o s))):=by
   generalize JP o s=vs;generalize JJ s vs=fet;obtain⟨dst,op,ty,pos,after,guard⟩:=o;dsimp only at hc;unfold iI at hc;split at hc
   .cases vs with
    | nil=>exact MF.nil rfl
    | cons x xs =>
     rename_i f _ _;show MF fet (UZ C fet (dst.getD 0) f xs);unfold UZ;cases C.G f with
     | none=>exact MF.nil rfl
     | some sg=>exact AdJ _ _ (MF.nil rfl)
   .cases hc
  intro e he;have he:e∈(bif iI o.op then(opX C o (JP o s) (JJ s (JP o s))).same else []):=he;rw[hc]at he;exact key e he
theorem Aet {ops:List Oper} {o:Oper} {s:St}:MF (JJ s (JP o s)) (JU C ops o s):=by
 unfold JU;split
 .exact qM _
 .grind[split,qM,MF.nil]
 .exact MF.nil rfl
end
end Go.Proofs.YtpaimpmokhihmaaGreatDoor.Vm
