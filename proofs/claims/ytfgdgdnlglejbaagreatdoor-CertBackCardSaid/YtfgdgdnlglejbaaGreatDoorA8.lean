import Derived.Test.YtfgdgdnlglejbaaGreatDoorA7
import Derived.Scope
import Derived.LoopN
import Derived.Tactics
import Derived.Orders
set_option linter.all false
namespace Go.Proofs.YtfgdgdnlglejbaaGreatDoor.Vm
open Classical
section
variable {P:Program} {C:Ctx} {V0:Nat->Value} {O0 O:Own} {w0 w:World} {m:Nat->Value} {st:St} {a:Act}
theorem Alz {C:Ctx} {o:Oper} {f:Nat} {q:Alt} (h:XY C o=some (f,q)):C.alt f=some q:=by
 unfold XY at h;split at h
 ·rename_i g _ _ _ _;cases ha:C.alt g with
  | none=>rw[ha]at h;cases h
  | some q'=>simp_all[Alt,XY]
 ·cases h
theorem AoU {ρ :Type} (hC:IJ P C) {ops:Array Oper} {Q:Exit->Act->World->Prop} {v: ρ} {K:St->Option ρ} (hK: ∀ O' m' st' a' w',Sim V0 O0 w0 O' m' st' a' w'->K st'=some v->Q .normal a' w') :
 ∀(l:List Oper) {O:Own} {m:Nat->Value} {st:St} {a:Act} {w:World},Sim V0 O0 w0 O m st a w->SC C ops.toList l st K=some v->wpList P ops Q l a w:=by
 intro l
 induction l with
 | nil=>intro O m st a w hS h;exact hK _ _ _ _ _ hS h
 | cons o r ih =>
  intro O m st a w hS h;have one: ∀ C':Ctx,IJ P C'->allT (E8 C' ops.toList o st).ok (SC C ops.toList r (apply st o (E8 C' ops.toList o st)) K)=some v->wpList P ops Q (o::r) a w:=by intro C' hC' h;obtain⟨h1,h2⟩:=PN h;refine wpList_step fun k hk=> ?_;exact Aem hC' hS h1 k Q fun O' m' a' w' hS'=>hk _ _ (ih hS' h2)
  unfold SC at h;cases ha:XY C o with
  | none=>rw[ha]at h;exact one C hC h
  | some q =>
   obtain⟨f,q⟩:=q;rw[ha]at h;dsimp only at h;obtain⟨h1,h2⟩:=hC.alt f q (Alz ha);cases hb:Ae3 o st q with
   | true=>rw[hb]at h;exact one _ (hC.put h1) h
   | false=>rw[hb]at h;exact one _ (hC.put h2) h
def Post {ρ :Type} (V0:Nat->Value) (O0:Own) (w0:World) (fin:St->Option ρ) (K:Ex->St->Option ρ) (v: ρ):Exit->Act->World->Prop
 | .normal,a,w=> ∃ O m st,Sim V0 O0 w0 O m st a w/\K .normal st=some v
 | .exit id,a,w=> ∃ O m st,Sim V0 O0 w0 O m st a w/\K (.exit id) st=some v
 | .ret,a,w=> ∃ O m st,Sim V0 O0 w0 O m st a w/\fin st=some v
 | _,_,_=>False
theorem AnT (hS:Sim V0 O0 w0 O m st a w) {c:Operand} {t:Bool} (h:ET st.tmps c= .bool t\/ET st.tmps c= .cnd true (.bool t)):a.eval c= .bool t:=by
 have:=AbH hS c;rcases h with h | h
 ·rw[h]at this;exact this.bool
 ·rw[h]at this;have h1:D6 O w (a.eval c) (.bool t):=this.1 rfl;generalize a.eval c=z at h1 ⊢;cases h1;rfl
theorem AlK {ρ :Type} (hC:IJ P C) (N:Nat) {fin:St->Option ρ} {v: ρ}
 (hdraw: ∀ {C:Ctx},IJ P C-> ∀(id:Nat) (ops:Array Oper) {O:Own} {m:Nat->Value} {st:St} {a:Act} {w:World} (K:Ex->St->Option ρ),Sim V0 O0 w0 O m st a w->OB C ops.toList st=true->SE C ops.toList ops.toList st (fun st'=>K .normal st')=some v ->
   (Code.region id ops true).wp P (Post V0 O0 w0 fin K v) a w) :
 ∀(c:Code) {O:Own} {m:Nat->Value} {st:St} {a:Act} {w:World} {K:Ex->St->Option ρ},Sim V0 O0 w0 O m st a w->exec C N fin c st K=some v->c.wp P (Post V0 O0 w0 fin K v) a w:=by
 intro c
 induction c with
 | skip=>intro O m st a w K hS h;exact wp_skip ⟨O,m,st,hS,h⟩
 | label l=>intro O m st a w K hS h;exact wp_label ⟨O,m,st,hS,h⟩
 | ret=>intro O m st a w K hS h;exact wp_ret ⟨O,m,st,hS,h⟩
 | exit id =>intro O m st a w K hS h;obtain⟨O',m',st',hS',h'⟩:=xP hS (show OG C (4*id+3) st (fun st'=>K (.exit id) st')=some v from h);exact wp_exit ⟨O',m',st',hS',h'⟩
 | region id ops d =>
  intro O m st a w K hS h;cases d with
  | false =>
   have key: ∀ C':Ctx,IJ P C'->SC C' ops.toList ops.toList st (fun st'=>K .normal st')=some v->(Code.region id ops false).wp P (Post V0 O0 w0 fin K v) a w:=fun C' hC' h' =>
    wp_region_list (AoU hC' (K:=fun st'=>K .normal st') (fun O' m' st' a' w' hS' h'=>⟨O',m',st',hS',h'⟩) ops.toList hS h')
   rcases(Yq (show split C id ops.toList st _=some v from h)).1 with h' | ⟨ds,b,h'⟩
   ·exact key C hC h'
   ·exact key _ (hC.decide ds b) h'
  | true =>
   have key: ∀ C':Ctx,IJ P C'->(bif OB C' ops.toList st then SE C' ops.toList ops.toList st (fun st'=>K .normal st')else none)=some v->(Code.region id ops true).wp P (Post V0 O0 w0 fin K v) a w:=by
    intro C' hC' h';cases hd:OB C' ops.toList st with
    | false=>rw[hd]at h';cases h'
    | true=>rw[hd]at h';exact hdraw hC' id ops K hS hd h'
   rcases(Yq (show split C id ops.toList st _=some v from h)).1 with h' | ⟨ds,b,h'⟩
   ·exact key C hC h'
   ·exact key _ (hC.decide ds b) h'
 | seq x y ihx ihy =>
  intro O m st a w K hS h;refine wp_seq (wp_mono (ihx (K:=fun | .normal,st'=>meet C 1 y st' fun st''=>exec C N fin y st'' K | .exit id,st'=>K (.exit id) st') hS h) fun e a' w' hq=> ?_);cases e with
  | normal =>obtain⟨O1,m1,st1,hS1,h1⟩:=hq;obtain⟨O2,m2,st2,hS2,h2⟩:=o5 hS1 h1;exact ihy hS2 h2
  | exit id=>exact hq
  | ret=>exact hq
  | goto l=>exact hq
  | panic ch=>exact hq
  | outgrown=>exact hq
 | cond c x y ihx ihy =>
  intro O m st a w K hS h
  have key: ∀ t:Bool,(ET st.tmps c= .bool t\/ET st.tmps c= .cnd true (.bool t))->(bif t then exec C N fin x st K else exec C N fin y st K)=some v->(Code.cond c x y).wp P (Post V0 O0 w0 fin K v) a w:=by
   intro t ht h';refine wp_cond (AnT hS ht) ?_;cases t with
   | true=>exact ihx hS h'
   | false=>exact ihy hS h'
  simp only[exec]at h;cases he:ET st.tmps c with
  | bool t=>rw[he]at h;exact key t (.inl he) h
  | cnd g y' =>
   rw[he]at h;cases y' with
   | bool t =>
    cases g with
    | false=>cases h
    | true=>exact key t (.inr he) h
   | _=>cases h
  | _=>rw[he]at h;cases h
 | block id c ih =>
  intro O m st a w K hS h;refine wp_block (wp_mono (ih (K:=fun | .exit j,st'=>bif Nat.beq j id then K .normal st' else K (.exit j) st' | .normal,st'=>K .normal st') hS h) fun e a' w' hq=> ?_);cases e with
  | normal=>exact hq
  | exit j =>
   obtain⟨O1,m1,st1,hS1,h1⟩:=hq;dsimp only at h1;show if j=id then _ else _;rw[Rj]at h1;by_cases hj:j=id
   ·rw[if_pos hj];simp only[hj,decide_true,cond_true]at h1;exact⟨O1,m1,st1,hS1,h1⟩
   ·rw[if_neg hj];rw[show decide (j=id)=false by simpa using hj]at h1;exact⟨O1,m1,st1,hS1,h1⟩
  | ret=>exact hq
  | goto l=>exact hq
  | panic ch=>exact hq
  | outgrown=>exact hq
 | loop c ih =>
  intro O m st a w K hS h;obtain⟨O1,m1,st1,hS1,h1⟩:=o5 hS (show meet C 2 c st (fun st'=>rounds (meet C 2 c) (exec C N fin c) N st' K)=some v from h);refine wp_loop_rounds N ?_
  have key: ∀(n:Nat) {O:Own} {m:Nat->Value} {st:St} {a:Act} {w:World},Sim V0 O0 w0 O m st a w->rounds (meet C 2 c) (exec C N fin c) n st K=some v->Code.rounds P c (Post V0 O0 w0 fin K v) n a w:=by
   intro n
   induction n with
   | zero=>intro O m st a w _ h;cases h
   | succ n ihn =>
    intro O m st a w hS h;refine wp_mono (ih (K:=fun | .normal,st'=>meet C 2 c st' fun st''=>rounds (meet C 2 c) (exec C N fin c) n st'' K | .exit id,st'=>K (.exit id) st') hS h) fun e a' w' hq=> ?_;cases e with
    | normal =>obtain⟨O2,m2,st2,hS2,h2⟩:=hq;obtain⟨O3,m3,st3,hS3,h3⟩:=o5 hS2 h2;exact ihn hS3 h3
    | exit id=>exact hq
    | ret=>exact hq
    | goto l=>exact hq
    | panic ch=>exact hq
    | outgrown=>exact hq
  exact key N hS1 h1
 | scope c ih =>intro O m st a w K hS h;refine wp_scope_straight (wp_mono (ih hS (show exec C N fin c st K=some v from h)) fun e a' w' hq=> ?_);cases e<;>first | exact hq | exact hq.elim
 | _=>intro O m st a w K hS h;cases h
end
end Go.Proofs.YtfgdgdnlglejbaaGreatDoor.Vm
namespace Go.Proofs.YtfgdgdnlglejbaaGreatDoor.Vm
open Classical
def Ky:Sh->Sh
 | .box ks=>.box ks
 | .map kt vt=>.map kt vt
 | .clo _ ks=>.box ks
 | _=>.cell false .bool
def Ar6:Sh->Nat->A
 | .box _,i=>.ptr (256*i) 0
 | .map _ _,i=>.own (256*i)
 | .clo _ _,i=>.ptr (256*i) 0
 | _,_=>.bool true
def Kz:List Sh->Nat->List A
 | [],_=>[]
 | s::ss,i=>Ar6 s i::Kz ss (i+1)
def unbox:A->A
 | .box cs=>.agg cs
 | a=>a
def zK (Du:List Sh) (xs:List A) (n:Nat):St:= {tmps:=(EO 0 256 Du xs 0).2.1++List.replicate (n - Du.length) .undef,Dk:=DJ [] (EO 0 256 Du xs 0).2.2}
def Acj (C:Ctx) (st:St) (q:Nat×Option Nat):List Bool×A :=
 match q.2 with
 | none=>([Nat.blt q.1 st.tmps.length],st.tmps.getD q.1 .undef)
 | some ty=>match VP C st.Dk ty (st.tmps.getD q.1 .undef)with
  | δ =>(Nat.blt q.1 st.tmps.length:: δ.ok,δ.val)
def Jz (C:Ctx) (outs:List (Nat×Option Nat)) (st:St):List A:=outs.map (fun q=>(Acj C st q).2)
def finish (C:Ctx) (Du DK:List Sh) (outs:List (Nat×Option Nat)) (st:St):Option (List A) :=
 allT ((DW st.Dk DK (Jz C outs st)).1++(DW st.Dk (Du.map Ky) (Kz Du 0)).1 ++
  [nodup ((H6 st.Dk 256000 256 DK (Jz C outs st)++H6 st.Dk 0 256 (Du.map Ky) (Kz Du 0)).map (·.1)),!(DK.any wS||(Du.map Ky).any wS)||((DW st.Dk DK (Jz C outs st)).2.2.1.isEmpty&&(DW st.Dk (Du.map Ky) (Kz Du 0)).2.2.1.isEmpty)]++outs.flatMap (fun q=>(Acj C st q).1))
  (some ((DW st.Dk DK (Jz C outs st)).2.1++(EZ Du 0).map (fun i=>unbox ((DW st.Dk (Du.map Ky) (Kz Du 0)).2.1.getD i .undef))))
def runK {ρ :Type} (C:Ctx) (N:Nat) (Du:List Sh) (n:Nat) (code:Code) (fin:St->Option ρ) (xs:List A):Option ρ :=
 allT ((EO 0 256 Du xs 0).1++[nodup ((EO 0 256 Du xs 0).2.2.map (·.1)),!(has ((EO 0 256 Du xs 0).2.2.map (·.1)) 255)])
  (exec C N fin code (zK Du xs n) fun
    | .normal,st=>fin st
    | .exit _,_=>none)
section
variable {P:Program} {C:Ctx} {V0:Nat->Value} {O0 O:Own} {w0 w:World} {m:Nat->Value} {st:St} {a:Act}
theorem Qz {id:Nat}: ∀(ks:List (Bool×CK)) (cs:List A) (j0:Nat),∀ p∈(DZ id ks cs j0).2.2,∃ x,p.1=id+x/\x<j0+ks.length:=by
 intro ks
 induction ks with
 | nil=>intro cs j0 p hp;simp [DZ]at hp
 | cons k ks ih =>
  intro cs j0 p hp;have step:p∈(DZ id ks cs (j0+1)).2.2-> ∃ x,p.1=id+x/\x<j0+(k::ks).length:=by intro h;obtain⟨x,h1,h2⟩:=ih cs (j0+1) p h;exact⟨x,h1,by simp only[List.length_cons];omega⟩
  obtain⟨u,k⟩:=k;cases u with
  | false=>exact step hp
  | true =>
   cases k with
   | sl e sz =>
    simp only[DZ]at hp;rcases List.mem_cons.1 hp with rfl | hp
    ·exact⟨j0,rfl,by simp⟩
    ·exact step hp
   | sln e sz =>
    simp only[DZ]at hp;rcases List.mem_cons.1 hp with rfl | hp
    ·exact⟨j0,rfl,by simp⟩
    ·exact step hp
   | bx t =>
    simp only[DZ]at hp;rcases List.mem_cons.1 hp with rfl | hp
    ·exact⟨j0,rfl,by simp⟩
    ·exact step hp
   | _=>simp [DZ]at hp
theorem AnE {id:Nat} {s:Sh} {x:A} (hok:D8 (back id s x).1): ∀ p∈(back id s x).2.2,∃ i,p.1=id+i/\i<255:=by
 intro p hp;cases s with
 | cell u k =>obtain⟨i,h1,h2⟩:=Qz _ _ _ p hp;exact⟨i,h1,by simp at h2;omega⟩
 | agg ks =>simp only[back]at hok hp;have:=Nat.le_of_ble_eq_true hok.cons.1;obtain⟨i,h1,h2⟩:=Qz _ _ _ p hp;exact⟨1+i,by omega,by omega⟩
 | box ks =>
  simp only[back]at hok hp;have:=Nat.le_of_ble_eq_true hok.cons.1;rcases List.mem_cons.1 hp with rfl | hp
  ·exact⟨0,rfl,by omega⟩
  ·obtain⟨i,h1,h2⟩:=Qz _ _ _ p hp;exact⟨1+i,by omega,by omega⟩
 | clo f' ks =>
  simp only[back]at hok hp;have:=Nat.le_of_ble_eq_true hok.cons.1;rcases List.mem_cons.1 hp with rfl | hp
  ·exact⟨0,rfl,by omega⟩
  ·obtain⟨i,h1,h2⟩:=Qz _ _ _ p hp;exact⟨1+i,by omega,by omega⟩
 | map kt vt=>simp_all[back,Sh,D8]
theorem Al5 {f:Nat->Value}: ∀(ss:List Sh) (rs:List A) (j0:Nat),D8 (EO 0 256 ss rs j0).1-> ∀ p∈TJ w f 0 256 ss rs j0,p.2=Iy w (f (p.1 / 256)) (p.1 % 256):=by
 intro ss
 induction ss with
 | nil=>grind[TJ]
 | cons s ss ih =>intro rs j0 hok p hp;simp only[EO]at hok;obtain⟨h1,h2⟩:=hok.append;all_goals grind[TJ,AnE]
theorem Aoj {Du:List Sh} {xs:List A} {n:Nat} {vs:Array Value} (hI:Inv O w) (hv:vs.size=xs.length) (hl:xs.length=Du.length) (h: ∀ j,j<xs.length->IR O w (256*j) (vs.getD j undef) (xs.getD j .undef))
 (hok:D8 (EO 0 256 Du xs 0).1) (hnd:nodup ((EO 0 256 Du xs 0).2.2.map (·.1))=true) (h255:has ((EO 0 256 Du xs 0).2.2.map (·.1)) 255=false) :
 Sim (fun o=>innerS w (Du.getD (o / 256) (.agg [])) (vs.getD (o / 256) undef)) O w O (fun o=>Iy w (innerS w (Du.getD (o / 256) (.agg [])) (vs.getD (o / 256) undef)) (o % 256)) (zK Du xs n) {tmps:=vs++Array.replicate (n - vs.size) undef,defers:=[]} w:=by
 have hmem: ∀ o x,Dy (DJ [] (EO 0 256 Du xs 0).2.2) o=some x->(o,x)∈(EO 0 256 Du xs 0).2.2:=by
  intro o x hx;rcases Yk _ (Abr hx)with h | h
  ·exact h
  ·cases h
 have hget: ∀ p∈(EO 0 256 Du xs 0).2.2,Dy (DJ [] (EO 0 256 Du xs 0).2.2) p.1=some p.2:=fun p hp=>l9 (Dk:=[]) (upd:=[]) (del:=[]) hnd (o:=p.1) (x:=p.2) hp
 obtain⟨r1,r2,r3⟩:=Ac8 (Oc:=O) (O':=O) (w:=w) (objs':=DJ [] (EO 0 256 Du xs 0).2.2) (m':=fun o=>Iy w (innerS w (Du.getD (o / 256) (.agg [])) (vs.getD (o / 256) undef)) (o % 256)) (cid:=0) (cst:=256) (id:=0) (stride:=256) (f:=fun j=>vs.getD j undef) (g:=fun j=>innerS w (Du.getD j (.agg [])) (vs.getD j undef)) (rs:=xs)
  (fun _ _ _ h hc=>⟨h,hc⟩) (fun _ _ h=>h) Du 0 (fun j _=>by rw[Nat.zero_add]) (fun j hj=>by rw[Nat.zero_add,Nat.zero_add];exact h j (by rw[hl];exact hj)) (fun j _ b k i _ hb=>hb) hok hget
  (fun p hp=>(Al5 Du xs 0 hok p hp).symm)
 refine⟨rfl,?_,fun t ht=> ?_,fun o x hx=>r3 _ (hmem o x hx),Moves.refl O _ w,fun b k o _ ho hne=>⟨o,ho,hne⟩,fun o x hx e=> ?_,fun b k _ h=>h,fun o hr _=> ?_,fun b k _ h=>h,hI⟩
 ·simp [zK,r1,hv,hl]
 ·show DI O _ _ w (((vs++Array.replicate (n - vs.size) undef).getD t undef)) (((EO 0 256 Du xs 0).2.1++List.replicate (n - Du.length) A.undef).getD t .undef);rcases Nat.lt_or_ge t Du.length with htl | htl
  ·have e1:((EO 0 256 Du xs 0).2.1++List.replicate (n - Du.length) A.undef).getD t .undef=(EO 0 256 Du xs 0).2.1.getD t .undef:=by
    simp [List.getD_eq_getElem?_getD,List.getElem?_append_left,r1,htl]
   have e2:(vs++Array.replicate (n - vs.size) undef).getD t undef=vs.getD t undef:=by
    have:t<vs.size:=by rw[hv,hl];exact htl
    simp [Array.getD_eq_getD_getElem?,Array.getElem?_append_left,this]
   rw[e1,e2];have:=(r2 t htl).1;rw[Nat.zero_add]at this;exact this
  ·have e1:((EO 0 256 Du xs 0).2.1++List.replicate (n - Du.length) A.undef).getD t .undef= .undef:=by
    rw[List.getD_eq_getElem?_getD,List.getElem?_append_right (by rw[r1];exact htl),List.getElem?_replicate];split<;>rfl
   rw[e1];trivial
 ·subst e;have:=hmem _ x hx;have h':has ((EO 0 256 Du xs 0).2.2.map (·.1)) 255=true:=JA.2 (List.mem_map.2 ⟨_,this,rfl⟩);rw[h']at h255;cases h255
 ·unfold UC at hr;rw[Bool.and_eq_true]at hr;have:=Nat.eq_of_beq_eq_true hr.2;rw[this];rfl
theorem Aiw {fet:Fet}: ∀(ss:List Sh) (xs:List A),D8 (DW fet ss xs).1-> ∀ i s,ss[i]? =some s->E5 s=true->Aac (unbox ((DW fet ss xs).2.1.getD i .undef))=(DW fet ss xs).2.1.getD i .undef:=by
 intro ss
 induction ss with
 | nil=>intro xs _ i s h;simp at h
 | cons s ss ih =>
  intro xs hok i s' h hb;cases xs with
  | nil=>have:=hok false (by simp [DW]);cases this
  | cons x xs =>
   simp only[DW]at hok ⊢;obtain⟨h1,h2⟩:=hok.append;cases i with
   | zero =>
    simp at h;subst h;cases s with
    | cell _ _=>cases hb
    | agg _=>cases hb
    | map kt vt =>
     cases x with
     | own q =>
      unfold Ec at h1 ⊢;dsimp only at h1 ⊢;cases hg:Dy fet q with
      | none=>rw[hg]at h1;have:=h1 false (by simp);cases this
      | some y =>
       cases y with
       | mp l=>rfl
       | _=>rw[hg]at h1;have:=h1 false (by simp);cases this
     | _=>have:=h1 false (by simp [Ec]);cases this
    | box ks =>
     cases x with
     | ptr q off =>
      unfold Ec at h1 ⊢;dsimp only at h1 ⊢;cases hb:Gf fet q with
      | none=>rw[hb]at h1;have:=h1 false (by simp);cases this
      | some cs=>rfl
     | _=>have:=h1 false (by simp [Ec]);cases this
    | clo f' ks =>
     cases x with
     | clo g q =>
      unfold Ec at h1 ⊢;dsimp only at h1 ⊢;cases hb:Gf fet q with
      | none=>rw[hb]at h1;have:=h1 false (by simp);cases this
      | some cs=>rfl
     | _=>have:=h1 false (by simp [Ec]);cases this
   | succ i=>simpa using ih xs h2 i s' (by simpa using h) hb
theorem AlB: ∀(ss:List Sh) (i0 j i:Nat),(EZ ss i0)[j]? =some i-> ∃ r s,i=i0+r/\ss[r]? =some s/\E5 s=true:=by
 intro ss
 induction ss with
 | nil=>grind[EZ]
 | cons s ss ih =>
  intro i0 j i h;have step: ∀ j':Nat,(EZ ss (i0+1))[j']? =some i-> ∃ r s',i=i0+r/\(s::ss)[r]? =some s'/\E5 s'=true:=by intro j' h';obtain⟨r,s',h1,h2,h3⟩:=ih (i0+1) j' i h';exact⟨r+1,s',by omega,by simpa using h2,h3⟩
  simp only[EZ]at h;cases s with
  | box ks =>
   simp only[E5,cond_true]at h;cases j with
   | zero=>simp_all[Sh,EZ,E5]
   | succ j=>exact step j (by simpa using h)
  | clo f' ks =>
   simp only[E5,cond_true]at h;cases j with
   | zero=>simp_all[Sh,EZ,E5]
   | succ j=>exact step j (by simpa using h)
  | map kt vt =>
   simp only[E5,cond_true]at h;cases j with
   | zero=>simp_all[Sh,EZ,E5]
   | succ j=>exact step j (by simpa using h)
  | cell u k=>grind[E5]
  | agg ks=>grind[E5]
theorem AiG: ∀(ss:List Sh) (i0:Nat),(Kz ss i0).length=ss.length:=by
 intro ss
 induction ss with
 | nil=>intro i0;rfl
 | cons s ss ih=>intro i0;simp [Kz,ih]
theorem AmB: ∀(ss:List Sh) (i0 j:Nat),j<ss.length->(Kz ss i0).getD j .undef=Ar6 (ss.getD j (.agg [])) (i0+j):=by
 intro ss
 induction ss with
 | nil=>intro i0 j h;simp at h
 | cons s ss ih =>
  intro i0 j h;cases j with
  | zero=>grind[Kz]
  | succ j=>grind[Kz]
end
end Go.Proofs.YtfgdgdnlglejbaaGreatDoor.Vm
namespace Go.Proofs.YtfgdgdnlglejbaaGreatDoor.Vm
open Classical
def rv:Nat×Option Nat->ResultVar
 | (t,none)=>.tmp t
 | (a,some ty)=>.cell a ty
def Aeb (tmps:Array Value):ResultVar->Sem Value
 | .tmp t=>pure (tmps.getD t undef)
 | .cell a t=>do loadVar t (<- asAddr (tmps.getD a undef))
theorem Aqx {P:Program} {w:World} {α :Type} {g: α ->Sem Value}: ∀(l:List α) (f:Nat->Value),(∀(j:Nat) (x: α),l[j]? =some x->(g x).run P w= .ok (f j) w)->(l.mapM g).run P w= .ok ((List.range l.length).map f) w:=by
 intro l
 induction l with
 | nil=>intro f _;simp
 | cons x r ih =>intro f h;have h1:=ih (fun j=>f (j+1)) (fun j y hy=>h (j+1) y (by simpa using hy));have h2:=h 0 x rfl;rw[List.mapM_cons];simp only[Sem.run_bind,h2,Result.andThen_ok,h1,Sem.run_pure,List.length_cons,List.range_succ_eq_map,List.map_cons,List.map_map];rfl
def Ajz (us:Array Value):Value:=if h:us.size=1 then us[0]else .tuple us
theorem Akt {P:Program} {w:World} {fn:Func} {outs:List (Nat×Option Nat)} {tmps:Array Value} (h:fn.results=(outs.map rv).toArray) (f:Nat->Value) (hf: ∀(j:Nat) (q:Nat×Option Nat),outs[j]? =some q->(Aeb tmps (rv q)).run P w= .ok (f j) w) :
 (results fn tmps).run P w= .ok (Ajz ((List.range outs.length).map f).toArray) w:=by
 have e:results fn tmps=(do let vs <- fn.results.mapM (Aeb tmps);pure (Ajz vs)):=by
  have e0:Aeb tmps=(fun | .tmp t=>pure (tmps.getD t undef) | .cell a t=>do loadVar t (<- asAddr (tmps.getD a undef))):=by funext x;cases x<;>rfl
  unfold results Ajz;rw[e0];rfl
 rw[e,h,List.mapM_toArray]
 have:=Aqx (P:=P) (w:=w) (g:=Aeb tmps) (outs.map rv) f (fun j x hx=>by
  rw[List.getElem?_map]at hx;cases hq:outs[j]? with
  | none=>rw[hq]at hx;cases hx
  | some q=>rw[hq]at hx;injection hx with hx;rw[<- hx];exact hf j q hq)
 rw[List.length_map]at this;simp only[map_eq_pure_bind,bind_assoc,pure_bind,Sem.run_bind,Sem.run_pure,this,Result.andThen_ok]
section
variable {P:Program} {C:Ctx} {V0:Nat->Value} {O0 O:Own} {w0 w:World} {m:Nat->Value} {st:St} {a:Act}
theorem Ani {Du:List Sh} {i:Nat} {s:Sh} (h:Du[i]? =some s) (hb:E5 s=true):(Du.map Ky)[i]? =some (Ky s)/\E5 (Ky s)=true/\E5 (Du.getD i (.agg []))=true/\i<Du.length:=by
 have hi:i<Du.length:=by
  rcases Nat.lt_or_ge i Du.length with h' | h'
  ·exact h'
  ·rw[List.getElem?_eq_none h']at h;cases h
 refine⟨(by rw[List.getElem?_map,h];rfl),(by cases s<;>first | rfl | (cases hb;done)),?_,hi⟩;rw[List.getD_eq_getElem?_getD,h];exact hb
theorem Aoi {Du DK:List Sh} {outs:List (Nat×Option Nat)} {rs:List A} {vs:Array Value} {sg:Sig} {fn:Func} (hC:TOk P C) (hfn:fn.results=(outs.map rv).toArray) (hp:sg.Du=Du) (hr:sg.DK=DK) (h100:Du.length<=100)
 (hptr: ∀ i,i<Du.length->E5 (Du.getD i (.agg []))=true->(innerS w0 (Du.getD i (.agg [])) (vs.getD i undef)).oneCell'=true)
 (hS:Sim (fun o=>innerS w0 (Du.getD (o / 256) (.agg [])) (vs.getD (o / 256) undef)) O0 w0 O m st a w) (h:finish C Du DK outs st=some rs) :
 ∃ v O',(results fn a.tmps).run P w= .ok v w/\Came O0 w0 vs sg rs v O' w:=by
 obtain⟨hok,hrs⟩:=PN h;injection hrs with hrs;obtain⟨hokA,hokO⟩:=hok.append;obtain⟨hokA,hokB⟩:=hokA.append;obtain⟨hok1,hok2⟩:=hokA.append;have hnd:=hokB.cons.1;have hwr:=hokB.cons.2.cons.1;have hf:Jm st.Dk st.Dk:=fun _ _ h=>h;generalize hN:H6 st.Dk 256000 256 DK (Jz C outs st)++H6 st.Dk 0 256 (Du.map Ky) (Kz Du 0)=N at *
 have hout: ∀ j:Nat,∃ u:Value,∀ q,outs[j]? =some q->(Aeb a.tmps (rv q)).run P w= .ok u w/\DI O st.Dk m w u (Acj C st q).2:=by
  intro j;cases hj:outs[j]? with
  | none=>exact⟨undef,fun q hq=>by cases hq⟩
  | some q =>
   have hqok:D8 (Acj C st q).1:=fun b hb=>hokO b (List.mem_flatMap.2 ⟨q,List.mem_of_getElem? hj,hb⟩);obtain⟨t,ty⟩:=q;cases ty with
   | none =>have hlt:=hqok.cons.1;rw[Nat.blt_eq]at hlt;exact⟨a.tmps.getD t undef,fun q hq=>by injection hq with hq;subst hq;exact⟨rfl,hS.tmps t hlt⟩⟩
   | some ty =>
    have hq2:D8 (Nat.blt t st.tmps.length::(VP C st.Dk ty (st.tmps.getD t .undef)).ok):=hqok;obtain⟨hlt,hld⟩:=hq2.cons;rw[Nat.blt_eq]at hlt;obtain⟨u,hu1,hu2⟩:=(Agp (o:= {(default:Oper)with op:=.load ty (.tmp t)}) hC (fun q x hq=>⟨hq,hS.Dk q x hq⟩) rfl (AbH hS (.tmp t)) hld).run;refine⟨u,fun q hq=> ?_⟩;injection hq with hq;subst hq;refine⟨?_,hu2⟩;have hev:a.eval (.tmp t)=a.tmps.getD t undef:=by simp [Act.eval]
    simp only[execOp,Instr.loadAt,hev]at hu1;show(do loadVar ty (<- asAddr (a.tmps.getD t undef)):Sem Value).run P w=_;generalize a.tmps.getD t undef=z at hu1 ⊢;cases z with
    | pointer p =>
     cases p with
     | none=>simp [Instr.sureAddr]at hu1
     | some ad =>
      simp only[asAddr,Sem.run_bind,Sem.run_pure,Result.andThen_ok];simp only[Instr.sureAddr,pure_bind,Sem.run_bind,Sem.run_pure]at hu1;cases hl:(loadVar ty ad).run P w with
      | ok x w2 =>rw[hl]at hu1;simp only[Result.andThen_ok,Sem.run_pure,Result.ok.injEq,Next.value.injEq]at hu1;rw[hu1.1,hu1.2]
      | halt x w2=>rw[hl]at hu1;simp [Result.andThen]at hu1
    | _=>simp [Instr.sureAddr]at hu1
 obtain⟨fv,hfv⟩:=Classical.axiomOfChoice hout
 obtain⟨g1,g2,g3,_,g5⟩:=Xt (W:=(DW st.Dk DK (Jz C outs st)).2.2.1++(DW st.Dk (Du.map Ky) (Kz Du 0)).2.2.1=[]) hf hS.Dk 256 DK (Jz C outs st) 256000 fv (fun e=>by rw[e]at hwr;simpa using hwr) (fun j hj=>by
  have hj':j<outs.length:=by simpa [Jz]using hj
  have e:(Jz C outs st).getD j .undef=(Acj C st outs[j]).2:=by simp [Jz,List.getD_eq_getElem?_getD,hj']
  rw[e];exact(hfv j _ (List.getElem?_eq_getElem hj')).2) hok1
 have hmaskl:(Du.map Ky).length=Du.length:=by simp
 obtain⟨k1,k2,k3,_,k5⟩:=Xt (W:=(DW st.Dk DK (Jz C outs st)).2.2.1++(DW st.Dk (Du.map Ky) (Kz Du 0)).2.2.1=[]) hf hS.Dk 256 (Du.map Ky) (Kz Du 0) 0 (fun j=>if E5 (Du.getD j (.agg []))then innerS w0 (Du.getD j (.agg [])) (vs.getD j undef)else .bool true) (fun e=>by rw[e,Bool.or_true]at hwr;simpa using hwr) (fun j hj=>by
  have hj':j<Du.length:=by rw[AiG]at hj;exact hj
  rw[AmB Du 0 j hj',Nat.zero_add];have hroot:UC (256*j)=true:=by unfold UC;rw[Bool.and_eq_true,Nat.blt_eq];refine⟨by omega,?_⟩;rw[Nat.mul_mod_right];rfl
  have hrt: ∀ x,Dy st.Dk (256*j)=some x->m (256*j)=innerS w0 (Du.getD j (.agg [])) (vs.getD j undef):=fun x hx=>by have:=hS.root (256*j) hroot (by rw[hx];rfl);rw[Nat.mul_div_cancel_left j (by decide)]at this;exact this
  have hp:=hptr j hj';generalize Du.getD j (.agg [])=s at hp hrt ⊢;cases s with
  | box ks =>
   rw[if_pos (show E5 (Sh.box ks)=true from rfl)];refine⟨hp rfl,?_⟩;cases hx:Dy st.Dk (256*j)with
   | none=>trivial
   | some x =>
    cases x with
    | arr _ _ _=>trivial
    | mp _=>trivial
    | box cs =>obtain⟨b,base,h1,_⟩:=hS.Dk _ _ hx;exact⟨b,base,h1,by rw[<- hrt _ hx,h1];rfl⟩
  | clo f' ks =>
   rw[if_pos (show E5 (Sh.clo f' ks)=true from rfl)];refine⟨hp rfl,?_⟩;cases hx:Dy st.Dk (256*j)with
   | none=>trivial
   | some x =>
    cases x with
    | arr _ _ _=>trivial
    | mp _=>trivial
    | box cs =>obtain⟨b,base,h1,_⟩:=hS.Dk _ _ hx;exact⟨b,base,h1,by rw[<- hrt _ hx,h1];rfl⟩
  | map kt vt =>
   rw[if_pos (show E5 (Sh.map kt vt)=true from rfl)];refine⟨hp rfl,?_⟩;cases hx:Dy st.Dk (256*j)with
   | none=>trivial
   | some x =>
    cases x with
    | box _=>trivial
    | arr _ _ _=>exact(hrt _ hx).symm
    | mp _=>exact(hrt _ hx).symm
  | cell u k=>rw[if_neg (show ¬ E5 (Sh.cell u k)=true from fun h=>by cases h)];exact D6.bool true
  | agg ks=>rw[if_neg (show ¬ E5 (Sh.agg ks)=true from fun h=>by cases h)];exact D6.bool true) hok2
 obtain⟨O1,hS1,hp1,_,hv1,_,hk1⟩:=hS.freezes _ (g3.append k3);have hρ : ∀ p∈N,look N p.1=some p.2:=AiA hnd
 have halive: ∀ p∈N,(Dy st.Dk p.1).isSome:=by
  intro p hp';rw[<- hN]at hp';rcases List.mem_append.1 hp' with hp' | hp'
  ·exact Xz _ _ _ hok1 p hp'
  ·exact Xz _ _ _ hok2 p hp'
 generalize hU:(DW st.Dk DK (Jz C outs st)).2.2.1++(DW st.Dk (Du.map Ky) (Kz Du 0)).2.2.1=U at *
 have hFU:Frz st.Dk U:=by rw[<- hU];exact g3.append k3
 have hupdO: ∀ p∈U,Fp O1 (DJ st.Dk U) m w p.1 p.2:=by intro p hp;obtain⟨x,hx1,hx2⟩:=IQ U st.Dk p.1 ⟨p,hp,rfl⟩;obtain⟨e,fz,l,k1,k2⟩:=hFU p hp;obtain⟨e',fz',l',k3,k4⟩:=hFU _ hx1;dsimp only at k3 k4;rw[k1]at k3;injection k3 with k3;injection k3 with q1 q2 q3;subst q1;subst q3;rw[k2,<- k4];exact hS1.Dk p.1 x hx2
 have hR:=g5 (ρ :=look N) hp1 (fun p hp=>hv1 p (by rw[<- hU];exact List.mem_append_left _ hp)) (fun p hp=>hupdO p (by rw[<- hU];exact List.mem_append_left _ hp)) hk1 (fun p hp=>hρ p (by rw[<- hN];exact List.mem_append_left _ hp));have hB:=k5 (ρ :=look N) hp1 (fun p hp=>hv1 p (by rw[<- hU];exact List.mem_append_right _ hp)) (fun p hp=>hupdO p (by rw[<- hU];exact List.mem_append_right _ hp)) hk1 (fun p hp=>hρ p (by rw[<- hN];exact List.mem_append_right _ hp));have hol:outs.length=DK.length:=by rw[<- g2];simp [Jz]
 refine⟨_,Jn O1 (look N),Akt hfn fv (fun j q hq=>(hfv j q hq).1),hS1.frame,fun b k hb hne=>hS1.less b k hb (fun e=>hne (UB.2 e)),fun b k hb hj=> ?_,?_,?_,?_⟩
 ·have:=hS1.eY b k hb hj;unfold Jn;rw[this];dsimp only;cases hl:look N 255 with
  | none=>rfl
  | some i =>have h1:=halive _ (xJ hl);obtain⟨x,hx⟩:=Option.isSome_iff_exists.1 h1;exact absurd rfl (hS.ids 255 x hx)
 ·rw[<- hrs,hp,hr];simp [g1]
 ·refine⟨((List.range outs.length).map fv).toArray,by rw[hr];simp [hol],rfl,fun k hk=> ?_⟩;have hk':k<outs.length:=by simpa using hk
  have hus:(((List.range outs.length).map fv).toArray).getD k undef=fv k:=by simp [Array.getD_eq_getD_getElem?,hk']
  rw[hus];have:=hR k (by rw[<- hol];exact hk');have e:rs.getD k .undef=(DW st.Dk DK (Jz C outs st)).2.1.getD k .undef:=by rw[<- hrs,List.getD_eq_getElem?_getD,List.getElem?_append_left (by rw[g1,<- hol];exact hk'),<- List.getD_eq_getElem?_getD]
  rw[e];exact this
 ·intro j i hji;rw[hp]at hji;obtain⟨r,s,h1,h2,h2'⟩:=AlB Du 0 j i hji;rw[Nat.zero_add]at h1;subst h1;obtain⟨h3,h3',h4,h5⟩:=Ani h2 h2';have h6:=Aiw _ _ hok2 i _ h3 h3';have e:rs.getD (sg.DK.length+j) .undef=unbox ((DW st.Dk (Du.map Ky) (Kz Du 0)).2.1.getD i .undef):=by rw[<- hrs,hr,List.getD_eq_getElem?_getD,List.getElem?_append_right (by rw[g1];omega),g1,Nat.add_sub_cancel_left,List.getElem?_map,hji];rfl
  rw[e,h6,hp];have:=hB i (by rw[hmaskl];exact h5);rw[Nat.zero_add,if_pos h4]at this;exact this
theorem Aph {ρ :Type} {o: ρ} {fin:St->Option ρ} (hC:IJ P C) (N:Nat)
 (hdraw: ∀ {C:Ctx},IJ P C-> ∀ {ρ :Type} {V0:Nat->Value} {O0:Own} {w0:World} {fin:St->Option ρ} {v: ρ} (id:Nat) (ops:Array Oper) {O:Own} {m:Nat->Value} {st:St} {a:Act} {w:World} (K:Ex->St->Option ρ),Sim V0 O0 w0 O m st a w->OB C ops.toList st=true->SE C ops.toList ops.toList st (fun st'=>K .normal st')=some v ->
   (Code.region id ops true).wp P (Post V0 O0 w0 fin K v) a w)
 {f:FuncId} {fn:Func} {code:Code} {outs:List (Nat×Option Nat)} {sg:Sig} (hf:P.funcs[f]? =some fn) (hb:fn.body=some code) (hout:fn.results=(outs.map rv).toArray)
 {vs:Array Value} {xs rs:List A} (hI:Inv O w) (hv:vs.size=xs.length) (hl:xs.length=sg.Du.length) (h100:xs.length<=100) (hx: ∀ j,j<xs.length->IR O w (256*j) (vs.getD j undef) (xs.getD j .undef))
 (h:runK C N sg.Du fn.ntmps code fin xs=some o) (hrs: ∀ st,fin st=some o->finish C sg.Du sg.DK outs st=some rs) :
 Calls P f vs w fun e w'=> ∃ v O',e= .returned v/\Came O w vs sg rs v O' w':=by
 obtain⟨hok,h⟩:=PN h;obtain⟨hok1,hok2⟩:=hok.append;obtain⟨hnd,hok2⟩:=hok2.cons;have h255:=hok2.cons.1;rw[Bool.not_eq_true']at h255;have hS:=Aoj (n:=fn.ntmps) hI hv hl hx hok1 hnd h255
 have hptr: ∀ i,i<sg.Du.length->E5 (sg.Du.getD i (.agg []))=true->(innerS w (sg.Du.getD i (.agg [])) (vs.getD i undef)).oneCell'=true:=by
  intro i hi hb;have hi':i<xs.length:=by rw[hl];exact hi
  have hbk:D8 (back (256*i) (sg.Du.getD i (.agg [])) (xs.getD i .undef)).1:=by
   have key: ∀(ss:List Sh) (j0 i:Nat),i<ss.length->D8 (EO 0 256 ss xs j0).1->D8 (back (0+256*(j0+i)) (ss.getD i (.agg [])) (xs.getD (j0+i) .undef)).1:=by
    intro ss
    induction ss with
    | nil=>intro j0 i h;simp at h
    | cons s ss ih =>
     intro j0 i h hok;simp only[EO]at hok;obtain⟨h1,h2⟩:=hok.append;cases i with
     | zero=>simpa using h1
     | succ i =>have:=ih (j0+1) i (by simpa using h) h2;rw[show j0+1+i=j0+(i+1)from by omega]at this;simpa using this
   have:=key sg.Du 0 i hi hok1;rw[Nat.zero_add,Nat.zero_add]at this;exact this
  have hir:=hx i hi';generalize sg.Du.getD i (.agg [])=s at hb hbk;cases s with
  | box ks =>
   simp only[back]at hbk;have h2:=hbk.cons.2.cons.1;generalize xs.getD i .undef=x at h2 hir;cases x with
   | box cs =>obtain⟨b,base,h3,_⟩:=hir;rw[h3];rfl
   | _=>cases h2
  | clo f' ks =>
   simp only[back]at hbk;have h2:=hbk.cons.2.cons.1;generalize xs.getD i .undef=x at h2 hir;cases x with
   | cbx g cs =>obtain⟨b,base,h3,_⟩:=hir;rw[show innerS w (.clo f' ks) (vs.getD i undef)=_ from h3.inner (ks:=ks)];rfl
   | _=>cases h2
  | map kt vt =>
   obtain⟨l,hl',_,_⟩:=nO (show A.nN kt vt _=true from hbk.cons.1);rw[hl']at hir;obtain⟨r,_,_,h3,_⟩:=(show J3 O w _ _ l from hir)
   rw[h3];rfl
  | _=>cases hb
 refine calls_of_wp hf hb (wp_mono (AlK hC N (fun hC'=>hdraw hC') code hS h) fun e a' w' hq=> ?_);have fin':(∃ O' m' st',Sim (fun o=>innerS w (sg.Du.getD (o / 256) (.agg [])) (vs.getD (o / 256) undef)) O w O' m' st' a' w'/\fin st'=some o)->a'.defers=[]/\ ∃ v,(results fn a'.tmps).run P w'= .ok v w'/\ ∃ v' O',Ending.returned v= .returned v'/\Came O w vs sg rs v' O' w':=by rintro ⟨O',m',st',hS',hfin⟩;obtain⟨v,O2,hres,hcame⟩:=Aoi (sg:=sg) hC.T hout rfl rfl (by rw[<- hl];exact h100) hptr hS' (hrs st' hfin);exact⟨hS'.defers,v,hres,v,O2,rfl,hcame⟩
 cases e with
 | normal=>exact fin' hq
 | ret=>exact fin' hq
 | exit id =>obtain⟨O',m',st',_,h'⟩:=hq;cases h'
 | goto l=>exact hq.elim
 | panic ch=>exact hq.elim
 | outgrown=>exact hq.elim
end
end Go.Proofs.YtfgdgdnlglejbaaGreatDoor.Vm
namespace Go.Proofs.YtfgdgdnlglejbaaGreatDoor.Vm
open Classical
section
variable {P:Program} {C:Ctx} {V0:Nat->Value} {O0 O:Own} {w0 w:World} {m:Nat->Value} {st:St} {a:Act}
theorem Gt {a b:List Nat} (h:OY a b=true): ∀ n∈a,n∉b:=by intro n hn hb;have:=List.all_eq_true.1 h n hn;rw[JA.2 hb]at this;cases this
def lastOf:List (Nat×Obj)->Nat->Option Obj
 | [],_=>none
 | (n,x)::r,k=>match lastOf r k with
  | some y=>some y
  | none=>if n=k then some x else none
theorem AaR {u:List (Nat×Obj)} {k:Nat} (h:k∉u.map (·.1)):lastOf u k=none:=by
 induction u with
 | nil=>rfl
 | cons p r ih=>grind[lastOf]
theorem Aa8 (u:List (Nat×Obj)): ∀(l:List (Nat×Obj)) (k:Nat),Dy (DJ l u) k=match lastOf u k with | some x=>some x | none=>Dy l k:=by
 induction u with
 | nil=>intro l k;rfl
 | cons p r ih=>grind[DJ,Ew,lastOf]
theorem N9 (st:St) (o:Oper) (δ :Dl) (k:Nat):Dy (apply st o δ).Dk k=match lastOf δ.new k with
 | some x=>some x
 | none=>if k∈ δ.del then none else match lastOf δ.upd k with
  | some x=>some x
  | none=>Dy st.Dk k:=by
 unfold apply;dsimp only;rw[Aa8,OI,Aa8]
theorem PK {st:St} {o:Oper} {δ :Dl} {k:Nat} (h:k∉ δ.upd.map (·.1)++ δ.del++ δ.new.map (·.1)):Dy (apply st o δ).Dk k=Dy st.Dk k:=by grind[N9,AaR]
def Srt:List (Nat×Obj)->Prop:=List.Pairwise (fun p q=>p.1<q.1)
theorem Anj: ∀ {l:List (Nat×Obj)},sorted l=true->Srt l:=by
 intro l
 induction l with
 | nil=>intro _;exact List.Pairwise.nil
 | cons p r ih =>
  intro h;cases r with
  | nil=>exact List.pairwise_singleton _ _
  | cons q r =>
   obtain⟨n,x⟩:=p;obtain⟨k,y⟩:=q;simp only[sorted,Bool.and_eq_true,Nat.blt_eq]at h;have hr:=ih h.2;refine List.Pairwise.cons (fun q hq=> ?_) hr;rcases List.mem_cons.1 hq with rfl | hq
   ·exact h.1
   ·exact Nat.lt_trans h.1 ((List.pairwise_cons.1 hr).1 q hq)
theorem Srt.N8 {l:List (Nat×Obj)} (h:Srt l) (n:Nat):Srt (Vm.N8 l n):=by
 induction l with
 | nil=>exact h
 | cons p r ih =>
  obtain⟨k,x⟩:=p;obtain⟨h1,h2⟩:=List.pairwise_cons.1 h;rw[uC];split
  ·exact ih h2
  ·exact List.Pairwise.cons (fun q hq=>h1 q (AbZ hq)) (ih h2)
theorem Srt.Xb {l:List (Nat×Obj)} (h:Srt l) {n:Nat} (y:Obj) (hn:Dy l n=none):Srt (Vm.Xb l n y):=by
 induction l with
 | nil=>exact List.pairwise_singleton _ _
 | cons p r ih =>
  obtain⟨k,x⟩:=p;obtain⟨h1,h2⟩:=List.pairwise_cons.1 h;rw[Iz]at hn;have hkn:k≠n:=fun e=>by rw[if_pos e]at hn;cases hn
  rw[if_neg hkn]at hn;simp only[Vm.Xb];cases hle:Nat.ble n k with
  | true =>have:=Nat.le_of_ble_eq_true hle;refine List.Pairwise.cons (fun q hq=> ?_) h;all_goals grind[Obj,Srt,Dy]
  | false =>
   have hlt:k<n:=by
    rcases Nat.lt_or_ge k n with h | h
    ·exact h
    ·rw[Nat.ble_eq_true_of_le h]at hle;cases hle
   refine List.Pairwise.cons (fun q hq=> ?_) (ih h2 hn);rcases AiI hq with rfl | hq
   ·exact hlt
   ·exact h1 q hq
theorem Srt.FB {l:List (Nat×Obj)} (h:Srt l) (n:Nat) (y:Obj):Srt (Vm.FB l n y):=(h.N8 n).Xb y (by rw[aJ,if_pos rfl])
theorem Srt.DJ: ∀(u:List (Nat×Obj)) {l:List (Nat×Obj)},Srt l->Srt (Vm.DJ l u):=by
 intro u
 induction u with
 | nil=>intro l h;exact h
 | cons p r ih=>intro l h;obtain⟨n,x⟩:=p;exact ih (h.FB n x)
theorem Srt.Es: ∀(u:List Nat) {l:List (Nat×Obj)},Srt l->Srt (Vm.Es l u):=by
 intro u
 induction u with
 | nil=>intro l h;exact h
 | cons n r ih=>intro l h;exact ih (h.N8 n)
theorem Srt.apply {st:St} (h:Srt st.Dk) (o:Oper) (δ :Dl):Srt (Vm.apply st o δ).Dk:=((h.DJ δ.upd).Es δ.del).DJ δ.new
theorem Wi {n:Nat} {x:Obj} {r:List (Nat×Obj)}:Dy ((n,x)::r) n=some x:=by rw[Iz,if_pos rfl]
theorem AkD {l:List (Nat×Obj)} {k:Nat} (h: ∀ p∈l,k<p.1):Dy l k=none:=by
 cases hx:Dy l k with
 | none=>rfl
 | some x=>exact absurd (h _ (Abr hx)) (Nat.lt_irrefl _)
theorem Srt.ext: ∀ {l l':List (Nat×Obj)},Srt l->Srt l'->(∀ k,Dy l k=Dy l' k)->l=l':=by
 intro l
 induction l with
 | nil =>
  intro l' _ _ h;cases l' with
  | nil=>rfl
  | cons p r=>grind[Wi,Obj,Srt,Dy]
 | cons p r ih =>
  intro l' h1 h2 h;obtain⟨n,x⟩:=p;cases l' with
  | nil=>grind[Wi,Obj,Srt,Dy]
  | cons q r' =>
   obtain⟨k,y⟩:=q;obtain⟨a1,a2⟩:=List.pairwise_cons.1 h1;obtain⟨b1,b2'⟩:=List.pairwise_cons.1 h2;have hnk:n=k:=by all_goals grind[Wi,AkD,a1]
   subst hnk;have hx:=h n;rw[Wi,Wi]at hx;injection hx with hx;subst hx;rw[ih a2 b2' (fun j=> ?_)];by_cases hj:n=j
   ·grind[AkD,a1]
   ·have:=h j;rw[Iz,Iz,if_neg hj,if_neg hj]at this;exact this
theorem put_comm (tmps:List A) {d e:Option Tmp} (x y:A) (h: ∀ t,d=some t->e≠some t):put (put tmps d x) e y=put (put tmps e y) d x:=by
 cases d with
 | none=>rfl
 | some d =>
  cases e with
  | none=>rfl
  | some e =>have:d≠e:=fun he=>h d rfl (by rw[he]);exact List.set_comm _ _ this
theorem Ald (tmps:List A) {d:Option Tmp} (x:A) {t:Nat} (h:d≠some t):(put tmps d x).getD t .undef=tmps.getD t .undef:=by
 cases d with
 | none=>rfl
 | some d=>grind[put]
theorem Yy {o:Oper} {t:Nat}:t∈VO o↔o.dst=some t:=by grind[VO]
theorem Aif {ops:List Oper} {o:Oper} {tmps:List A} {d:Option Tmp} {v:A} (h: ∀ t,d=some t->t∉slotsOf ops o) {x:Operand} (hx:x∈o.op.operands):ET (put tmps d v) x=ET tmps x:=by
 cases x with
 | tmp t =>refine Ald tmps v fun hd=>h t hd ?_;exact List.mem_append_left _ (List.mem_filterMap.2 ⟨.tmp t,by simpa using hx,rfl⟩)
 | _=>rfl
theorem Agi {ops:List Oper} {o:Oper} {tmps:List A} {d:Option Tmp} {v:A} (h: ∀ t,d=some t->t∉slotsOf ops o):guardOf ops (put tmps d v) o.guard=guardOf ops tmps o.guard:=by
 cases hg:o.guard with
 | none=>rfl
 | some p =>
  obtain⟨j,want⟩:=p;unfold guardOf;dsimp only;cases hj:ops[j]? with
  | none=>rfl
  | some oj =>
   dsimp only;cases hd:oj.dst with
   | none=>rfl
   | some t =>dsimp only;rw[Ald tmps v (t:=t) (fun hd'=>h t hd' (by unfold slotsOf;refine List.mem_append_right _ ?_;rw[hg];dsimp only;rw[hj];dsimp only;rw[hd];simp))]
theorem AjO {Dk objs':List (Nat×Obj)}: ∀(l:List Nat),(∀ n∈l,Dy Dk n=Dy objs' n)->fetch Dk l=fetch objs' l:=by
 intro l
 induction l with
 | nil=>intro _;rfl
 | cons n r ih=>grind[fetch]
theorem AhL {op:Op} {vs:List A} (h:gU op vs=true):(∃ x,op= .move x)\/(∃ x,op= .assign x)\/ ∃ t x k q,op= .load t x/\vs=[.clo k q]:=by unfold gU at h;all_goals grind[split]
theorem WM {α :Type} {x:Option α} {k: α ->Dl} (h: ∀ y,(k y).upd=[]):(Eo x k).upd=[]:=by
 cases x with
 | none=>rfl
 | some y=>exact h y
theorem RH (s:St) (q off:Nat):Dy (Et s [.ptr q off]) q=Dy s.Dk q:=by show Dy (fetch s.Dk [q]++fetch s.Dk ((fetch s.Dk [q]).flatMap (fun p=>p.2.ids))) q=_;all_goals grind[Dy,fetch,Iz]
theorem uF {o:Oper} {vs:List A} {q:Nat} (h:Vb o.op vs=some q): ∃ off,vs=[.ptr q off]/\ ∀ f f',Gf f q=Gf f' q->opX C o vs f=opX C o vs f'/\(opX C o vs f).upd=[]:=by
 obtain⟨dst,op,ty,pos,after,guard⟩:=o;dsimp only at h;unfold Vb at h;split at h
 ·injection h with h;subst h;refine⟨_,rfl,fun f f' hb=> ?_⟩;unfold opX;dsimp only[a1];unfold Tz;dsimp only;rw[hb];exact⟨rfl,by unfold Eo;split<;>rfl⟩
 ·injection h with h;subst h;refine⟨_,rfl,fun f f' hb=> ?_⟩;unfold opX;dsimp only[a1];unfold Q8 XW;dsimp only;rw[hb];refine⟨rfl,?_⟩;unfold Gg;refine WM fun ti=>WM fun p=> ?_;exact WM (fun _=>rfl)
 ·injection h with h;subst h;refine⟨_,rfl,fun f f' hb=> ?_⟩;unfold opX;dsimp only[a1];unfold VP;dsimp only;rw[hb];refine⟨rfl,?_⟩;unfold Gg;exact WM fun ti=>WM fun _=>rfl
 ·cases h
theorem Ag4 {ops:List Oper} {o:Oper} {s1 s2:St} (hE: ∀ x∈o.op.operands,ET s2.tmps x=ET s1.tmps x) (hG:guardOf ops s2.tmps o.guard=guardOf ops s1.tmps o.guard)
 (key:(opX C o (Ez o s1) (Et s2 (Ez o s1))=opX C o (Ez o s1) (Et s1 (Ez o s1))/\(∀ f,(opX C o (Ez o s1) f).upd=[])/\FI o s2 (Ez o s1)=FI o s1 (Ez o s1))\/(Et s2 (Ez o s1)=Et s1 (Ez o s1)/\FI o s2 (Ez o s1)=FI o s1 (Ez o s1))) (h1: ∀ n∈(E8 C ops o s1).new.map (·.1),s1.fresh n=true) (h2: ∀ n∈(E8 C ops o s1).new.map (·.1),s2.fresh n=true) :
 E8 C ops o s2=E8 C ops o s1/\FI o s2 (Ez o s2)=FI o s1 (Ez o s1)/\Ez o s2=Ez o s1:=by
 have hmap:o.op.operands.toList.map (ET s2.tmps)=o.op.operands.toList.map (ET s1.tmps):=List.map_congr_left fun x hx=>hE x (by simpa using hx);have hvs:Ez o s2=Ez o s1:=by unfold Ez;rw[hmap]
 have hop:opX C o (Ez o s1) (Et s2 (Ez o s1))=opX C o (Ez o s1) (Et s1 (Ez o s1)):=by
  rcases key with h | h
  ·exact h.1
  ·rw[h.1]
 refine⟨?_,by rw[hvs];rcases key with h | h;exact h.2.2;exact h.2,hvs⟩
 have hpl: ∀ pre,(∀ n∈(NM C o s1 pre).new.map (·.1),s1.fresh n=true)->(∀ n∈(NM C o s1 pre).new.map (·.1),s2.fresh n=true)->NM C o s2 pre=NM C o s1 pre:=by
  intro pre h1 h2;unfold NM at h1 h2 ⊢;rw[hmap];dsimp only at h1 h2 ⊢;rw[show opX C o (EW o.op (o.op.operands.toList.map (ET s1.tmps))).2 (Et s2 (EW o.op (o.op.operands.toList.map (ET s1.tmps))).2)=opX C o (EW o.op (o.op.operands.toList.map (ET s1.tmps))).2 (Et s1 (EW o.op (o.op.operands.toList.map (ET s1.tmps))).2)from hop];generalize opX C o (EW o.op (o.op.operands.toList.map (ET s1.tmps))).2 (Et s1 (EW o.op (o.op.operands.toList.map (ET s1.tmps))).2)= δ at *
  have a1: δ.new.all (fun p=>s1.fresh p.1)=true:=List.all_eq_true.2 fun p hp=>h1 p.1 (List.mem_map.2 ⟨p,hp,rfl⟩);have a2: δ.new.all (fun p=>s2.fresh p.1)=true:=List.all_eq_true.2 fun p hp=>h2 p.1 (List.mem_map.2 ⟨p,hp,rfl⟩);rw[a1,a2]
 unfold E8 at h1 h2 ⊢;rw[hG,hmap];have hfa':opX C o (EW o.op (o.op.operands.toList.map (ET s1.tmps))).2 (Et s2 (EW o.op (o.op.operands.toList.map (ET s1.tmps))).2)=opX C o (EW o.op (o.op.operands.toList.map (ET s1.tmps))).2 (Et s1 (EW o.op (o.op.operands.toList.map (ET s1.tmps))).2):=hop;cases hg:guardOf ops s1.tmps o.guard with
 | none=>rfl
 | some r =>
  cases r with
  | some g =>
   rw[hg]at h1 h2;dsimp only at h1 h2 ⊢;cases hde:AlP C o with
   | some b =>
    rw[hde]at h1 h2;cases b with
    | true=>exact hpl _ h1 h2
    | false=>rfl
   | none =>
   dsimp only;rcases key with h | h
   ·have hu:=h.2.1 (Et s1 (Ez o s1));rw[hfa'];have hu':(opX C o (EW o.op (o.op.operands.toList.map (ET s1.tmps))).2 (Et s1 (EW o.op (o.op.operands.toList.map (ET s1.tmps))).2)).upd=[]:=hu;simp only[hu',List.map_nil]
   ·grind[Et,EW,ET,guardOf,opX,Ez,FI,E8]
  | none =>rw[hg]at h1 h2;exact hpl _ h1 h2
theorem AfS {o:Oper} {s1 s2:St} (hF: ∀ n∈FI o s1 (Ez o s1),Dy s2.Dk n=Dy s1.Dk n) :
 (opX C o (Ez o s1) (Et s2 (Ez o s1))=opX C o (Ez o s1) (Et s1 (Ez o s1))/\(∀ f,(opX C o (Ez o s1) f).upd=[])/\FI o s2 (Ez o s1)=FI o s1 (Ez o s1))\/(Et s2 (Ez o s1)=Et s1 (Ez o s1)/\FI o s2 (Ez o s1)=FI o s1 (Ez o s1)):=by
 unfold FI at hF ⊢;cases hm:gU o.op (Ez o s1)with
 | true =>
  have hu: ∀(v:List A),(a1 (fun a=>.v a) v).upd=[]:=fun v=>by
   cases v with
   | nil=>rfl
   | cons x r=>cases r<;>rfl
  rcases AhL hm with ⟨x,e⟩ | ⟨x,e⟩ | ⟨t,x,k,q,e,ev⟩
  ·grind[opX]
  ·grind[opX]
  ·have hl: ∀ f,(VP C f t (.clo k q)).upd=[]:=fun f=>by
    unfold VP Gg Eo;cases C.T t<;>rfl
   exact .inl ⟨by unfold opX;rw[e,ev];rfl,fun f=>by unfold opX;rw[e,ev];exact hl f,rfl⟩
 | false =>
  rw[hm]at hF;cases h1':Vb o.op (Ez o s1)with
  | some q =>rw[h1']at hF;have hq:Dy s2.Dk q=Dy s1.Dk q:=hF q (List.mem_singleton.2 rfl);obtain⟨off,ev,hO⟩:=uF (C:=C) h1';refine .inl ⟨(hO _ _ ?_).1,fun f=>(hO f f rfl).2,rfl⟩;rw[ev];unfold Gf;rw[RH,RH,hq]
  | none =>
  all_goals grind[fetch,Ez,AjO,Et]
theorem Anl {ops:List Oper} {o:Oper} {s1 s2:St} (hE: ∀ x∈o.op.operands,ET s2.tmps x=ET s1.tmps x) (hG:guardOf ops s2.tmps o.guard=guardOf ops s1.tmps o.guard)
 (hF: ∀ n∈FI o s1 (Ez o s1),Dy s2.Dk n=Dy s1.Dk n) (h1: ∀ n∈(E8 C ops o s1).new.map (·.1),s1.fresh n=true) (h2: ∀ n∈(E8 C ops o s1).new.map (·.1),s2.fresh n=true) :
 E8 C ops o s2=E8 C ops o s1/\FI o s2 (Ez o s2)=FI o s1 (Ez o s1)/\Ez o s2=Ez o s1:=by grind[Ag4,AfS]
theorem AoT {o:Oper} {vs:List A} {q off n:Nat} (h:oneOf C o.op vs=some (q,off,n)):Vb o.op vs=some q/\ ∀ {f f':Fet} {cs cs':List A},Gf f q=some cs->Gf f' q=some cs'->cs'.length=cs.length->(∀ k,k<n->cs'.getD (off+k) .undef=cs.getD (off+k) .undef)->opX C o vs f'=opX C o vs f:=by
 obtain⟨dst,op,ty,pos,after,guard⟩:=o;dsimp only at h;unfold oneOf at h;split at h
 ·injection h with h;injection h with h1 h2;subst h1;refine⟨rfl,fun {f f' cs cs'} h1 h2 h3 h4=> ?_⟩;unfold opX;dsimp only[a1];unfold Tz;dsimp only;rw[h1,h2];rfl
 ·simp_all[opX,a1,Q8,XW,Eo,oneOf,Vb,Fet]
 ·rename_i t _ o' off';cases ht:C.T t with
  | none=>rw[ht]at h;cases h
  | some ti =>
   rw[ht]at h;dsimp only at h;cases h0:Nat.blt 0 ti.cs.length with
   | false=>rw[h0]at h;cases h
   | true =>
   rw[h0]at h;injection h with h;injection h with h1 h2;injection h2 with h2 h3';subst h1;subst h2;subst h3';have h0:0<ti.cs.length:=by simpa [Nat.blt_eq]using h0
   refine⟨rfl,fun {f f' cs cs'} h1 h2 h3 h4=> ?_⟩;unfold opX;dsimp only[a1];unfold VP Gg;rw[ht];unfold Eo;dsimp only;rw[h1,h2];dsimp only;rw[h3];congr 1;unfold zZ;cases ti.agg with
   | false =>have:=h4 0 h0;simpa using this
   | true =>
    refine congrArg A.agg (List.ext_getElem? fun i=> ?_);rw[List.getElem?_take,List.getElem?_take];by_cases hi:i<ti.cs.length
    ·rw[if_pos hi,if_pos hi,List.getElem?_drop,List.getElem?_drop];have:=h4 i hi;rw[List.getD_eq_getElem?_getD,List.getD_eq_getElem?_getD]at this;by_cases hl:off'+i<cs.length
     ·simp_all[oneOf,Vb,Fet,opX]
     ·rw[List.getElem?_eq_none (by omega),List.getElem?_eq_none (by omega)]
    ·rw[if_neg hi,if_neg hi]
 ·cases h
def IP (fet:Fet) (δ :Dl):Prop:= ∀ e∈ δ.same,∃ cs,Gf fet e.1=some cs/\ ∀ p∈ δ.upd,p.1=e.1-> ∃ cs',p.2= .box cs'/\cs'.length=cs.length/\cs'.getD e.2 .undef=cs.getD e.2 .undef
theorem Amx {fet:Fet} (x:A) (j:Nat) {δ :Dl} (h:IP fet δ):IP fet (Ot fet x j δ):=by
 unfold Ot;split
 ·rename_i q off;cases hb:Gf fet q with
  | none=>exact h
  | some cs =>
   dsimp only;cases hc:Nat.blt j cs.length&& δ.upd.all (fun p=> !(Nat.beq p.1 q)||AdA cs.length p.2)with
   | false=>exact h
   | true =>
    rw[Bool.and_eq_true,Nat.blt_eq]at hc;have hset: ∀ ds:List A,ds.length=cs.length-> ∀ i,(ds.set j (cs.getD j .undef)).getD i .undef=if j=i then cs.getD j .undef else ds.getD i .undef:=by intro ds hd i;rw[List.getD_eq_getElem?_getD,List.getElem?_set];by_cases hij:j=i;all_goals simp_all[Fet,IP,Ot]
    have key: ∀ p0∈ δ.upd,Nat.beq p0.1 q=true-> ∃ ds,p0.2= .box ds/\ds.length=cs.length:=by
     intro p0 hp0 hq;have h1:=List.all_eq_true.1 hc.2 p0 hp0;rw[hq]at h1;have h1:AdA cs.length p0.2=true:=h1;obtain⟨n,y⟩:=p0;cases y with
     | box ds=>exact⟨ds,rfl,Nat.eq_of_beq_eq_true h1⟩
     | _=>cases h1
    intro e he;rcases List.mem_cons.1 (show e∈(q,j):: δ.same from he)with rfl | he
    ·refine⟨cs,hb,fun p hp hpq=> ?_⟩;obtain⟨p0,hp0,rfl⟩:=List.mem_map.1 (show p∈ δ.upd.map _ from hp);cases hq:Nat.beq p0.1 q with
     | false=>simp_all[Fet,IP,Ot]
     | true=>grind[AqR]
    ·obtain⟨cs0,h4,h5⟩:=h e he;refine⟨cs0,h4,fun p hp hpq=> ?_⟩;obtain⟨p0,hp0,rfl⟩:=List.mem_map.1 (show p∈ δ.upd.map _ from hp);cases hq:Nat.beq p0.1 q with
     | false=>rw[hq]at hpq;exact h5 p0 hp0 hpq
     | true =>rw[hq]at hpq;have hpq:p0.1=e.1:=hpq;obtain⟨ds,h2,h3⟩:=key p0 hp0 hq;obtain⟨cs',g1,g2,g3⟩:=h5 p0 hp0 hpq;all_goals simp_all[AqR,Fet,IP,Ot]
 ·exact h
theorem Amz {fet:Fet} (xs:List A): ∀(ks:List (Nat×Nat)) {δ :Dl},IP fet δ ->IP fet (keepD fet xs ks δ):=by
 intro ks
 induction ks with
 | nil=>intro δ h;exact h
 | cons k ks ih=>intro δ h;exact ih (Amx _ _ h)
theorem IP.nil {fet:Fet} {δ :Dl} (h: δ.same=[]):IP fet δ :=fun e he=>by rw[h]at he;cases he
theorem AdU {o:Oper} {s:St} (pre:List Bool):IP (Et s (Ez o s)) (NM C o s pre):=by
 cases hc:zO o.op with
 | false=>grind[IP.nil,NM]
 | true =>
  have key:IP (Et s (Ez o s)) (opX C o (Ez o s) (Et s (Ez o s))):=by
   generalize Ez o s=vs;generalize Et s vs=fet;obtain⟨dst,op,ty,pos,after,guard⟩:=o;dsimp only at hc;unfold zO at hc;split at hc
   ·cases vs with
    | nil=>exact IP.nil rfl
    | cons x xs =>
     rename_i f _ _;show IP fet (Ya C fet (dst.getD 0) f xs);unfold Ya;cases C.G f with
     | none=>exact IP.nil rfl
     | some sg=>exact Amz _ _ (IP.nil rfl)
   ·cases hc
  intro e he;have he:e∈(bif zO o.op then(opX C o (Ez o s) (Et s (Ez o s))).same else []):=he;rw[hc]at he;exact key e he
theorem Ank {ops:List Oper} {o:Oper} {s:St}:IP (Et s (Ez o s)) (E8 C ops o s):=by
 unfold E8;split
 ·exact AdU _
 ·grind[split,AdU,IP.nil]
 ·exact IP.nil rfl
end
end Go.Proofs.YtfgdgdnlglejbaaGreatDoor.Vm
namespace Go.Proofs.YtfgdgdnlglejbaaGreatDoor.Vm
open Classical
section
variable {P:Program} {C:Ctx} {V0:Nat->Value} {O0 O:Own} {w0 w:World} {m:Nat->Value} {st st':St} {a:Act}
structure AhG (C:Ctx) (ops:List Oper) (x:Fq) (st:St):Prop where
 step:E8 C ops x.o st=x.δ
 rd:FI x.o st (Ez x.o st)=x.rd
 one:oneOf C x.o.op (Ez x.o st)=x.one
def tZ (C:Ctx) (ops:List Oper):List Fq->St->St->Prop
 | [],s,s'=>s=s'
 | x::r,s,s'=>AhG C ops x s/\tZ C ops r (apply s x.o x.δ) s'
theorem AmD: ∀(u:List Nat) {l:List (Nat×Obj)} {p:Nat×Obj},p∈Es l u->p∈l:=by
 intro u
 induction u with
 | nil=>intro l p h;exact h
 | cons n r ih=>intro l p h;exact AbZ (ih h)
theorem W9 {x:Fq} {n:Nat} (h:st.fresh n=true) (h1:n∉x.says) (h2:n∉x.keys):(apply st x.o x.δ).fresh n=true:=by
 obtain⟨f1,f2,f3,f4⟩:=GU h;unfold Fq.says at h1;simp only[List.mem_append,not_or]at h1
 have g1:has (apply st x.o x.δ).ids n=false:=by
  rw[<- Bool.not_eq_true];intro hh;rcases List.mem_append.1 (JA.1 hh)with hm | hm
  ·obtain⟨c,hc,hi⟩:=List.mem_flatMap.1 hm;have hc:c∈put st.tmps x.o.dst x.δ.val:=hc
   have:c∈st.tmps\/c=x.δ.val:=by
    cases hd:x.o.dst with
    | none=>rw[hd]at hc;exact .inl hc
    | some d=>rw[hd]at hc;exact List.mem_or_eq_of_mem_set hc
   rcases this with hc | hc
   ·exact f1 (List.mem_append_left _ (List.mem_flatMap.2 ⟨c,hc,hi⟩))
   ·rw[hc]at hi;exact h1.1.1 hi
  ·obtain⟨p,hp,hi⟩:=List.mem_flatMap.1 hm;rcases Yk x.δ.new (show p∈DJ (Es (DJ st.Dk x.δ.upd) x.δ.del) x.δ.new from hp)with hp | hp
   ·exact h1.2 (List.mem_flatMap.2 ⟨p,hp,hi⟩)
   ·rcases Yk x.δ.upd (AmD _ hp)with hp | hp
    ·exact h1.1.2 (List.mem_flatMap.2 ⟨p,hp,hi⟩)
    ·exact f1 (List.mem_append_right _ (List.mem_flatMap.2 ⟨p,hp,hi⟩))
 have g2:Dy (apply st x.o x.δ).Dk n=none:=by rw[PK h2];exact f2
 all_goals grind[St.fresh,Rj]
theorem Am6 {u:List (Nat×Obj)} {k:Nat} {x:Obj} (h:lastOf u k=some x):(k,x)∈u:=by
 induction u with
 | nil=>cases h
 | cons p r ih=>grind[lastOf]
theorem ApK {ops:List Oper} {x y:Fq} (hx:AhG C ops x st) (hy:AhG C ops y (apply st x.o x.δ)) (h:calm x y=true) :
 (opX C x.o (Ez x.o st) (Et (apply st y.o y.δ) (Ez x.o st))=opX C x.o (Ez x.o st) (Et st (Ez x.o st))/\(∀ f,(opX C x.o (Ez x.o st) f).upd=[])/\FI x.o (apply st y.o y.δ) (Ez x.o st)=FI x.o st (Ez x.o st)) \/
 (Et (apply st y.o y.δ) (Ez x.o st)=Et st (Ez x.o st)/\FI x.o (apply st y.o y.δ) (Ez x.o st)=FI x.o st (Ez x.o st)):=by
 unfold calm at h;cases ho:x.one with
 | none=>rw[ho]at h;cases h
 | some p =>
  obtain⟨q,off,n⟩:=p;rw[ho]at h;simp only[Bool.and_eq_true,Bool.not_eq_true']at h;obtain⟨h1,h2,h3,h4,h5⟩:=h;have hone:=hx.one;rw[ho]at hone;obtain⟨k1,k2⟩:=AoT hone;obtain⟨off',ev,hO⟩:=uF (C:=C) k1;have hS:=Ank (C:=C) (ops:=ops) (o:=y.o) (s:=apply st x.o x.δ);rw[hy.step]at hS;have hxk:Dy (apply st x.o x.δ).Dk q=Dy st.Dk q:=PK fun hm=>by have:=h1.symm.trans (JA.2 hm);cases this
  have hbox: ∀ e∈y.δ.same,e.1=q-> ∃ cs,Dy st.Dk q=some (.box cs)/\ ∀ p∈y.δ.upd,p.1=q-> ∃ cs',p.2= .box cs'/\cs'.length=cs.length/\cs'.getD e.2 .undef=cs.getD e.2 .undef:=by intro e he heq;obtain⟨cs,g1,g2⟩:=hS e he;rw[heq]at g1 g2;exact⟨cs,by rw[<- hxk];exact eH _ _ _ _ (FK g1),g2⟩
  obtain⟨e0,he0,heq0⟩:=List.any_eq_true.1 h4;obtain⟨cs,g1,g2⟩:=hbox e0 he0 (Nat.eq_of_beq_eq_true heq0);have hcell: ∀ k,k<n-> ∀ p∈y.δ.upd,p.1=q-> ∀ cs',p.2= .box cs'->cs'.getD (off+k) .undef=cs.getD (off+k) .undef:=by intro k hk p hp hpq cs' hcs;have:=List.all_eq_true.1 h5 k (List.mem_range.2 hk);obtain⟨e,he,heq⟩:=List.any_eq_true.1 this;rw[Bool.and_eq_true]at heq;obtain⟨cs2,g3,g4⟩:=hbox e he (Nat.eq_of_beq_eq_true heq.1);rw[g1]at g3;injection g3 with g3;injection g3 with g3;subst g3;obtain⟨cs3,g5,_,g6⟩:=g4 p hp hpq;rw[hcs]at g5;injection g5 with g5;subst g5;rw[Nat.eq_of_beq_eq_true heq.2]at g6;exact g6
  have hnd:lastOf y.δ.new q=none:=AaR fun hm=>by have:=h3.symm.trans (JA.2 hm);cases this
  have hdl:q∉y.δ.del:=fun hm=>by rw[JA.2 hm]at h2;cases h2
  have hnew: ∃ cs',Dy (apply st y.o y.δ).Dk q=some (.box cs')/\cs'.length=cs.length/\ ∀ k,k<n->cs'.getD (off+k) .undef=cs.getD (off+k) .undef:=by
   rw[N9,hnd];dsimp only;rw[if_neg hdl];cases hl:lastOf y.δ.upd q with
   | none=>exact⟨cs,g1,rfl,fun _ _=>rfl⟩
   | some z =>have hm:=Am6 hl;obtain⟨cs',g3,g4,_⟩:=g2 _ hm rfl;dsimp only at g3;subst g3;exact⟨cs',rfl,g4,fun k hk=>hcell k hk _ hm rfl _ rfl⟩
  obtain⟨cs',g3,g4,g5⟩:=hnew;have hask: ∀ s,FI x.o s (Ez x.o st)=bif gU x.o.op (Ez x.o st)then []else [q]:=by intro s;unfold FI;rw[k1]
  refine .inl ⟨k2 ?_ ?_ g4 g5,fun f=>(hO f f rfl).2,by rw[hask,hask]⟩
  ·rw[ev];unfold Gf;rw[RH,g1]
  ·rw[ev];unfold Gf;rw[RH,g3]
theorem swap {ops:List Oper} {x y:Fq} {r:List Fq} (hi:indep ops x y=true) (hxF: ∀ n∈x.news,st.fresh n=true) (hyF: ∀ n∈y.news,st.fresh n=true) (h1:OY y.news x.says=true) (h2:OY y.news x.keys=true)
 (hs:Srt st.Dk) (h:tZ C ops (x::y::r) st st'):tZ C ops (y::x::r) st st':=by
 unfold indep at hi;simp only[Bool.and_eq_true]at hi;obtain⟨⟨⟨⟨⟨⟨i1,i2⟩,i3⟩,i4⟩,i5⟩,i6⟩,i7⟩:=hi;obtain⟨hx,hy,hr⟩:=h;have hkx: ∀ n,n∈x.keys->n∉y.keys:=Gt i6;have hnx: ∀ n∈x.news,n∈x.keys:=fun n hn=>List.mem_append_right _ hn
 have cy:=Anl (C:=C) (ops:=ops) (o:=y.o) (s1:=apply st x.o x.δ) (s2:=st)
  (fun z hz=>(Aif (fun t ht=>Gt i2 t (Yy.2 ht)) hz).symm) (Agi (fun t ht=>Gt i2 t (Yy.2 ht))).symm
  (fun n hn=>(PK (fun hk=>Gt i4 n hk (by rw[<- hy.rd];exact hn))).symm)
  (fun n hn=>by rw[hy.step]at hn;exact W9 (hyF n hn) (Gt h1 n hn) (Gt h2 n hn))
  (fun n hn=>by rw[hy.step]at hn;exact hyF n hn)
 have cx:=Ag4 (C:=C) (ops:=ops) (o:=x.o) (s1:=st) (s2:=apply st y.o y.δ)
  (fun z hz=>Aif (fun t ht=>Gt i3 t (Yy.2 ht)) hz) (Agi (fun t ht=>Gt i3 t (Yy.2 ht)))
  (by
    rcases Bool.or_eq_true_iff.1 i5 with i5 | i5
    ·exact AfS (fun n hn=>PK (fun hk=>Gt i5 n hk (by rw[<- hx.rd];exact hn)))
    ·exact ApK hx hy i5)
  (fun n hn=>by rw[hx.step]at hn;exact hxF n hn)
  (fun n hn=>by rw[hx.step]at hn;exact W9 (hxF n hn) (Gt i7 n hn) (hkx n (hnx n hn)))
 have hst:apply (apply st y.o y.δ) x.o x.δ =apply (apply st x.o x.δ) y.o y.δ :=by
  have e1:(apply (apply st y.o y.δ) x.o x.δ).tmps=(apply (apply st x.o x.δ) y.o y.δ).tmps:=(put_comm st.tmps x.δ.val y.δ.val (fun t ht he=>Gt i1 t (Yy.2 ht) (Yy.2 he))).symm
  have e2:(apply (apply st y.o y.δ) x.o x.δ).Dk=(apply (apply st x.o x.δ) y.o y.δ).Dk:=by
   refine Srt.ext ((hs.apply _ _).apply _ _) ((hs.apply _ _).apply _ _) fun k=> ?_;by_cases hk:k∈x.keys
   ·have hky:=hkx k hk;rw[PK (o:=y.o) (δ :=y.δ) hky,N9 (apply st y.o y.δ),PK (o:=y.o) (δ :=y.δ) hky,<- N9 st]
   ·rw[PK (o:=x.o) (δ :=x.δ) hk,N9 (apply st x.o x.δ),PK (o:=x.o) (δ :=x.δ) hk,<- N9 st]
  generalize apply (apply st y.o y.δ) x.o x.δ =s at *
  generalize apply (apply st x.o x.δ) y.o y.δ =s' at *
  cases s;cases s';dsimp only at e1 e2;rw[e1,e2]
 refine⟨⟨by rw[cy.1,hy.step],by rw[cy.2.1,hy.rd],by rw[cy.2.2,hy.one]⟩,⟨by rw[cx.1,hx.step],by rw[cx.2.1,hx.rd],by rw[cx.2.2,hx.one]⟩,?_⟩;rw[hst];exact hr
structure Pre (R:List Fq) (st:St):Prop where
 srt:Srt st.Dk
 fresh: ∀ z∈R,∀ n∈z.news,st.fresh n=true
 pairs:R.Pairwise (fun y z=>OY z.news y.says=true/\OY z.news y.keys=true)
theorem Pre.step {y:Fq} {R:List Fq} (h:Pre (y::R) st):Pre R (apply st y.o y.δ):=by obtain⟨h1,h2⟩:=List.pairwise_cons.1 h.pairs;exact⟨h.srt.apply _ _,fun z hz n hn=>W9 (h.fresh z (List.mem_cons_of_mem _ hz) n hn) (Gt (h1 z hz).1 n hn) (Gt (h1 z hz).2 n hn),h2⟩
theorem front {ops:List Oper} {x:Fq} {L2:List Fq}: ∀(L1:List Fq) {st:St},Pre (L1++x::L2) st->(∀ y∈L1,indep ops y x=true)->tZ C ops (L1++x::L2) st st'->tZ C ops (x::(L1++L2)) st st':=by
 intro L1
 induction L1 with
 | nil=>intro st _ _ h;exact h
 | cons y L1 ih =>intro st hP hi h;have h1:=ih (st:=apply st y.o y.δ) (hP.step) (fun z hz=>hi z (List.mem_cons_of_mem _ hz)) h.2;have hx:x∈L1++x::L2:=List.mem_append_right _ List.mem_cons_self;obtain⟨p1,_⟩:=List.pairwise_cons.1 hP.pairs;exact swap (hi y List.mem_cons_self) (hP.fresh y List.mem_cons_self) (hP.fresh x (List.mem_cons_of_mem _ hx)) (p1 x hx).1 (p1 x hx).2 hP.srt ⟨h.1,h1⟩
theorem AnJ {md:Region.Mode} {e:Edge} (h:Region.binds .any e=true):Region.binds md e=true:=by unfold Region.binds at h ⊢;all_goals grind
theorem VV {ops:List Oper} {i:Nat} {x y:Fq} (h:WQ ops i x y=true):OY y.news x.says=true/\OY y.news x.keys=true/\(i∈y.anc\/indep ops x y=true):=by unfold WQ at h;simp only[Bool.and_eq_true,Bool.or_eq_true]at h;exact⟨h.1.1,h.1.2,h.2.imp JA.1 id⟩
theorem Aiu {l:Array Bool} {i:Nat} (h:i<l.size) (b c:Bool):l.getD i b=l.getD i c:=by grind
theorem Amc {α :Type} (f: α ->Nat): ∀(l:List α),l≠ []-> ∃ x∈l,∀ y∈l,f x<=f y:=by
 intro l
 induction l with
 | nil=>grind
 | cons a r ih =>
  intro _;by_cases hr:r=[]
  ·simp_all
  ·grind
theorem ApX {ρ :Type} (hC:IJ P C) {ops:Array Oper} {md:Region.Mode} {Q:Exit->Act->World->Prop} {v: ρ} {K:St->Option ρ} (hQ: ∀ O' m' st' a' w',Sim V0 O0 w0 O' m' st' a' w'->K st'=some v->Q .normal a' w')
 {ANC:List (List Nat)} (hanc: ∀(j:Nat) (o:Oper),ops[j]? =some o-> ∀ i∈ANC.getD j [],∃ e∈TV o,i=e\/i∈ANC.getD e []) {rk:Nat->Nat} (hback: ∀(j:Nat) (o:Oper),ops[j]? =some o-> ∀ e∈o.after,Region.binds md e=true->e.on<ops.size/\rk e.on<rk j) :
 ∀(fuel:Nat) (R:List (Nat×Fq)) (listed:Array Bool) {O:Own} {m:Nat->Value} {st:St} {a:Act} {w:World},R.length=fuel->R.Pairwise (fun p q=>p.1<q.1) ->
  (∀ p∈R,ops[p.1]? =some p.2.o/\D8 p.2.δ.ok/\p.2.anc=ANC.getD p.1 [])->listed.size=ops.size->(∀ i,i<ops.size->(listed.getD i true=false↔i∈R.map (·.1))) ->
  (∀ e,listed.getD e false=true-> ∀ i∈ANC.getD e [],listed.getD i false=true)->R.Pairwise (fun p q=>WQ ops.toList p.1 p.2 q.2=true)->(∀ p∈R,∀ n∈p.2.news,st.fresh n=true)->Srt st.Dk ->
  tZ C ops.toList (R.map (·.2)) st st'->K st'=some v->Sim V0 O0 w0 O m st a w->wpAny P md ops Q fuel listed a w:=by
 intro fuel
 induction fuel with
 | zero =>
  intro R listed O m st a w hlen _ _ hsz hl _ _ _ _ hruns hK hS;have hR:R=[]:=List.length_eq_zero_iff.1 hlen;subst hR;refine⟨?_,?_⟩
  ·rw[List.eq_nil_iff_forall_not_mem];intro i hi;obtain⟨h1,o,h2,_⟩:=mem_ready.1 hi;have hlt:=(Array.getElem?_eq_some_iff.1 h2).1;have:=(hl i hlt).1 h1;simp at this
  ·have:st=st':=hruns;subst this;exact hQ _ _ _ _ _ hS hK
 | succ fuel ih =>
  intro R listed O m st a w hlen hord hops hsz hl hcl hpr hfr hsrt hruns hK hS;have hin: ∀ p∈R,p.1<ops.size:=fun p hp=>(Array.getElem?_eq_some_iff.1 (hops p hp).1).1;refine⟨fun hnil=> ?_,fun i hi=> ?_⟩
  ·exfalso;obtain⟨p,hpR,hmin⟩:=Amc (fun q:Nat×Fq=>rk q.1) R (by intro h;rw[h]at hlen;simp at hlen);have hp:=hin p hpR
   have:p.1∈Region.ready md ops listed:=by
    refine mem_ready.2 ⟨(hl p.1 hp).2 (List.mem_map.2 ⟨p,hpR,rfl⟩),p.2.o,(hops p hpR).1,fun e he hb=> ?_⟩;obtain⟨hsize,hlt⟩:=hback _ _ (hops p hpR).1 e he hb;have hno:e.on∉R.map (·.1):=by intro hm;obtain⟨q,hq,hqe⟩:=List.mem_map.1 hm;have:=hmin q hq;rw[hqe]at this;omega
    have:listed.getD e.on true≠false:=fun h=>hno ((hl e.on hsize).1 h);rw[Aiu (by rw[hsz];exact hsize) false true];simpa using this
   rw[hnil]at this;cases this
  ·obtain⟨hi1,oi,hi2,hi3⟩:=mem_ready.1 hi;have hilt:=(Array.getElem?_eq_some_iff.1 hi2).1;obtain⟨p,hp,rfl⟩:=List.mem_map.1 ((hl i hilt).1 hi1);obtain⟨L1,L2,rfl⟩:=List.append_of_mem hp;obtain⟨i,x⟩:=p;dsimp only at hi hi1 hi2 hi3 hilt ⊢;obtain⟨hx1,hx2,hx3⟩:=hops (i,x) hp;dsimp only at hx1 hx2 hx3
   have hancl: ∀ j∈ANC.getD i [],listed.getD j false=true:=by
    intro j hj;obtain⟨e,he,hje⟩:=hanc i _ hx1 j hj;have hel:listed.getD e false=true:=by unfold TV at he;obtain⟨ed,hed,hb⟩:=List.mem_filterMap.1 he;all_goals grind[AnJ]
    rcases hje with rfl | hje
    ·exact hel
    ·exact hcl e hel j hje
   have hord':=List.pairwise_append.1 hord;have hpr':=List.pairwise_append.1 hpr;have hind: ∀ q∈L1,WQ ops.toList q.1 q.2 x=true/\indep ops.toList q.2 x=true:=by intro q hq;have hpq:=hpr'.2.2 q hq (i,x) List.mem_cons_self;dsimp only at hpq;refine⟨hpq,(VV hpq).2.2.resolve_left fun hm=> ?_⟩;rw[hx3]at hm;have h1:=hancl _ hm;have hqR:q∈L1++(i,x)::L2:=List.mem_append_left _ hq;have hqlt:=hin q hqR;have h2:=(hl q.1 hqlt).2 (List.mem_map.2 ⟨q,hqR,rfl⟩);rw[Aiu (by rw[hsz];exact hqlt) true false,h1]at h2;cases h2
   have hPre:Pre ((L1++(i,x)::L2).map (·.2)) st:=by
    refine⟨hsrt,fun z hz n hn=> ?_,?_⟩
    ·obtain⟨q,hq,rfl⟩:=List.mem_map.1 hz;exact hfr q hq n hn
    ·rw[List.pairwise_map];exact hpr.imp fun h=>⟨(VV h).1,(VV h).2.1⟩
   have hfront:tZ C ops.toList (x::(L1.map (·.2)++L2.map (·.2))) st st':=by refine front (L1.map (·.2)) (by simpa using hPre) (fun y hy=> ?_) (by simpa using hruns);obtain⟨q,hq,rfl⟩:=List.mem_map.1 hy;exact(hind q hq).2
   obtain⟨hstep,hrest⟩:=hfront;have hsub:List.Sublist (L1++L2) (L1++(i,x)::L2):=List.Sublist.append_left (List.sublist_cons_self _ _) _
   have hnext: ∀ O' m' a' w',Sim V0 O0 w0 O' m' (apply st x.o (E8 C ops.toList x.o st)) a' w'->wpAny P md ops Q fuel (listed.setIfInBounds i true) a' w':=by
    intro O' m' a' w' hS';rw[hstep.step]at hS';refine ih (L1++L2) _ (by simp at hlen ⊢;omega) (hord.sublist hsub) (fun q hq=>hops q (hsub.subset hq)) (by simpa using hsz) (fun j hj=> ?_) (fun e he j hj=> ?_) (hpr.sublist hsub) (fun q hq n hn=> ?_) (hsrt.apply _ _) (by simpa using hrest) hK hS'
    ·by_cases hji:i=j
     ·subst hji;have h1:(listed.setIfInBounds i true).getD i true=true:=by simp [Array.getD_eq_getD_getElem?,hsz,hj]
      rw[h1];refine⟨fun h=>(by cases h),fun h=> ?_⟩;obtain⟨q,hq,hqi⟩:=List.mem_map.1 h;rcases List.mem_append.1 hq with hq | hq
      ·have:=hord'.2.2 q hq (i,x) List.mem_cons_self;dsimp only at this;omega
      ·have:=(List.pairwise_cons.1 hord'.2.1).1 q hq;dsimp only at this;omega
     ·rw[getD_set_ne true hji,hl j hj];simp only[List.map_append,List.map_cons,List.mem_append,List.mem_cons];constructor
      ·rintro (h | h | h)
       ·exact .inl h
       ·exact absurd h.symm hji
       ·exact .inr h
      ·rintro (h | h)
       ·exact .inl h
       ·exact .inr (.inr h)
    ·by_cases hei:i=e
     ·subst hei;exact getD_set_true (hancl j hj)
     ·rw[getD_set_ne false hei]at he;exact getD_set_true (hcl e he j hj)
    ·have hq':=hsub.subset hq;have hf:=hfr q hq' n hn;rcases List.mem_append.1 hq with hq | hq
     ·have hi':=(hind q hq).2;unfold indep at hi';simp only[Bool.and_eq_true]at hi';exact W9 hf (Gt hi'.2 n hn) (Gt hi'.1.2 n (List.mem_append_right _ hn))
     ·have hpq:=VV ((List.pairwise_cons.1 hpr'.2.1).1 q hq);exact W9 hf (Gt hpq.1 n hn) (Gt hpq.2.1 n hn)
   have hw:=Aem hC hS (ops:=ops) (o:=x.o) (by rw[hstep.step];exact hx2) (wpAny P md ops Q fuel (listed.setIfInBounds i true)) Q hnext;unfold wpOp;rw[hx1];dsimp only;split
   ·rename_i hwt;rw[if_pos hwt]at hw;exact .inl hw
   ·rename_i hwt;rw[if_neg hwt]at hw;exact hw
end
end Go.Proofs.YtfgdgdnlglejbaaGreatDoor.Vm
namespace Go.Proofs.YtfgdgdnlglejbaaGreatDoor.Vm
open Classical
section
variable {P:Program} {C:Ctx} {V0:Nat->Value} {O0 O:Own} {w0 w:World} {m:Nat->Value} {st st':St} {a:Act}
def enum:Nat->List Fq->List (Nat×Fq)
 | _,[]=>[]
 | i,x::r=>(i,x)::enum (i+1) r
theorem AjL: ∀(l:List Fq) (i:Nat),(enum i l).length=l.length:=by
 intro l
 induction l with
 | nil=>intro i;rfl
 | cons x r ih=>intro i;simp [enum,ih]
theorem Aqc: ∀(l:List Fq) (i:Nat),(enum i l).map (·.2)=l:=by
 intro l
 induction l with
 | nil=>intro i;rfl
 | cons x r ih=>intro i;simp [enum,ih]
theorem mO: ∀(l:List Fq) (i:Nat) (p:Nat×Fq),p∈enum i l-> ∃ k,p.1=i+k/\l[k]? =some p.2:=by
 intro l
 induction l with
 | nil=>intro i p h;cases h
 | cons x r ih =>
  intro i p h;rcases List.mem_cons.1 h with rfl | h
  ·exact⟨0,rfl,rfl⟩
  ·obtain⟨k,h1,h2⟩:=ih (i+1) p h;exact⟨k+1,by omega,by simpa using h2⟩
theorem Aqa: ∀(l:List Fq) (i j:Nat),j∈(enum i l).map (·.1)↔i<=j/\j<i+l.length:=by
 intro l
 induction l with
 | nil=>intro i j;simp [enum]
 | cons x r ih=>grind[enum]
theorem Aqb: ∀(l:List Fq) (i:Nat),(enum i l).Pairwise (fun p q=>p.1<q.1):=by
 intro l
 induction l with
 | nil=>simp_all[enum]
 | cons x r ih =>intro i;refine List.Pairwise.cons (fun q hq=> ?_) (ih (i+1));all_goals grind[mO]
theorem Ama {ops:List Oper}: ∀(l:List Fq) (i:Nat),Y1 ops i l=true->(enum i l).Pairwise (fun p q=>WQ ops p.1 p.2 q.2=true):=by
 intro l
 induction l with
 | nil=>intro i _;exact List.Pairwise.nil
 | cons x r ih =>intro i h;simp only[Y1,Bool.and_eq_true]at h;refine List.Pairwise.cons (fun q hq=> ?_) (ih (i+1) h.2);all_goals grind[mO]
theorem Aoh {o:Oper} {e:Nat} (h:e∈TV o): ∃ ed∈o.after,ed.on=e/\Region.binds .any ed=true:=by grind[TV]
theorem AgA: ∀(l:List Oper) (i:Nat),backward i l=true-> ∀(k:Nat) (o:Oper),l[k]? =some o-> ∀ e∈o.after,e.on<i+k:=by
 intro l
 induction l with
 | nil=>intro i _ k o h;simp at h
 | cons x r ih =>
  intro i h k o hk e he;simp only[backward,Bool.and_eq_true]at h;cases k with
  | zero =>simp at hk;subst hk;have:=List.all_eq_true.1 h.1 e (by simpa using he);rw[Nat.blt_eq]at this;exact this
  | succ k=>grind[backward]
theorem Ae6: ∀(l:List Oper) (i:Nat),ML i l=true-> ∀(k:Nat) (o:Oper),l[k]? =some o-> ∀ e∈o.after,Region.binds .any e=true->e.on<i+k:=by
 intro l
 induction l with
 | nil=>intro i _ k o h;simp at h
 | cons x r ih =>
  intro i h k o hk e he hb;simp only[ML,Bool.and_eq_true]at h;cases k with
  | zero =>simp at hk;subst hk;have:=List.all_eq_true.1 h.1 e (by simpa using he);all_goals simp_all[ML]
  | succ k=>grind[ML]
theorem Ahe {md:Region.Mode} {n:Nat} {rk:List Nat}: ∀(l:List Oper) (i:Nat),VE md n rk i l=true-> ∀(k:Nat) (o:Oper),l[k]? =some o-> ∀ e∈o.after,Region.binds md e=true->e.on<n/\rk.getD e.on 0<rk.getD (i+k) 0:=by
 intro l
 induction l with
 | nil=>intro i _ k o h;simp at h
 | cons x r ih =>
  intro i h k o hk e he hb;simp only[VE,Bool.and_eq_true]at h;cases k with
  | zero =>simp at hk;subst hk;have:=List.all_eq_true.1 h.1 e (by simpa using he);all_goals simp_all[VE]
  | succ k=>grind[VE]
theorem AiU {ops:Array Oper} (h:ordered ops.toList=true) (md:Region.Mode): ∃ rk:Nat->Nat,∀(j:Nat) (o:Oper),ops[j]? =some o-> ∀ e∈o.after,Region.binds md e=true->e.on<ops.size/\rk e.on<rk j:=by
 unfold ordered at h;rw[Bool.and_eq_true,Bool.or_eq_true]at h;rcases h.2 with h | h
 ·refine⟨id,fun j o hj e he _=> ?_⟩;have h1:=AgA _ _ h j o (by simpa using hj) e he;all_goals grind[ordered]
 ·simp only[Bool.and_eq_true]at h;have key:AdZ md ops.toList=true:=by cases md<;>first | exact h.1.1 | exact h.1.2 | exact h.2
  refine⟨fun i=>(ranks md ops.toList ops.toList.length (ops.toList.map fun _=>0)).getD i 0,fun j o hj e he hb=> ?_⟩;have:=Ahe _ _ key j o (by simpa using hj) e he hb;all_goals grind[ordered]
theorem Afg {α β :Type} {f g: α ->List β}: ∀(l:List α),(∀ x∈l,f x=g x)->l.flatMap f=l.flatMap g:=by
 intro l
 induction l with
 | nil=>intro _;rfl
 | cons x r ih=>grind
theorem Amj {ops:List Oper}: ∀(l:List Oper) (acc:List (List Nat)) (st:St),ML acc.length l=true->(Py C ops l acc st).length=l.length /\
 ∀(k:Nat) (o:Oper),l[k]? =some o-> ∃ x,(Py C ops l acc st)[k]? =some x/\x.o=o/\x.anc=(TV o).flatMap (fun e=>e::(acc++(Py C ops l acc st).map Fq.anc).getD e []):=by
 intro l
 induction l with
 | nil=>intro acc st _;exact⟨rfl,fun k o h=>by simp at h⟩
 | cons o' r ih =>
  intro acc st h;have hb:=Ae6 _ _ h;simp only[ML,Bool.and_eq_true]at h;let an:=(TV o').flatMap (fun e=>e::acc.getD e []);let s1:=apply st o' (E8 C ops o' st);have hf:Py C ops (o'::r) acc st=⟨o',E8 C ops o' st,FI o' st (Ez o' st),oneOf C o'.op (Ez o' st),an⟩::Py C ops r (acc++[an]) s1:=rfl;obtain⟨g1,g2⟩:=ih (acc++[an]) s1 (by simpa using h.2);rw[hf];refine⟨by simp [g1],fun k o hk=> ?_⟩;cases k with
  | zero =>simp at hk;subst hk;refine⟨_,rfl,rfl,?_⟩;refine Afg _ fun e he=> ?_;obtain⟨ed,h1,h2,h3⟩:=Aoh he;have hlt:=hb 0 o' rfl ed h1 h3;rw[List.getD_eq_getElem?_getD,List.getD_eq_getElem?_getD,List.getElem?_append_left (by omega)]
  | succ k =>obtain⟨x,h1,h2,h3⟩:=g2 k o (by simpa using hk);refine⟨x,by simpa using h1,h2,?_⟩;rw[h3];simp [List.append_assoc]
theorem Ami {ρ :Type} {ops:List Oper} {K:St->Option ρ} {v: ρ}: ∀(l:List Oper) (acc:List (List Nat)) (st:St),SE C ops l st K=some v-> ∃ st',tZ C ops (Py C ops l acc st) st st'/\K st'=some v/\ ∀ x∈Py C ops l acc st,D8 x.δ.ok:=by
 intro l
 induction l with
 | nil=>intro acc st h;exact⟨st,rfl,h,fun x hx=>by cases hx⟩
 | cons o r ih =>
  intro acc st h;obtain⟨h1,h2⟩:=PN (show allT (E8 C ops o st).ok (SE C ops r (apply st o (E8 C ops o st)) K)=some v from h);obtain⟨st',h3,h4,h5⟩:=ih (acc++[(TV o).flatMap (fun e=>e::acc.getD e [])]) _ h2;refine⟨st',⟨⟨rfl,rfl,rfl⟩,h3⟩,h4,fun x hx=> ?_⟩;rcases List.mem_cons.1 hx with rfl | hx
  ·exact h1
  ·exact h5 x hx
theorem Sim.drew (hS:Sim V0 O0 w0 O m st a w):Sim V0 O0 w0 O m st a {w with drawn:=w.drawn+1} :=
 hS.next (st':=st) (d:=none) (v:=undef) (x:=.undef) (T:=fun _=>False) (Nw:=fun _=>False) ⟨rfl,rfl,rfl,Nat.le_refl _,fun _ _=>.inl rfl⟩ ⟨fun _ _ _ h=>h,fun _ _ _ _ h _=>h⟩ (fun _ _ _ h=>h) (fun _ y ho=>.inr ⟨y,ho,rfl,rfl⟩) (fun _ h=>h.elim) (fun _ h=>h.elim)
  (fun _ _ ho=>.inl ⟨id,ho,rfl⟩) rfl (fun h=>absurd rfl h)
theorem AlY {ρ :Type} (hC:IJ P C) {fin:St->Option ρ} {v: ρ} (id:Nat) (ops:Array Oper) {O:Own} {m:Nat->Value} {st:St} {a:Act} {w:World} (K:Ex->St->Option ρ) (hS:Sim V0 O0 w0 O m st a w) (hd:OB C ops.toList st=true)
 (hx:SE C ops.toList ops.toList st (fun st'=>K .normal st')=some v):(Code.region id ops true).wp P (Post V0 O0 w0 fin K v) a w:=by
 unfold OB at hd;dsimp only at hd;simp only[Bool.and_eq_true]at hd;obtain⟨⟨⟨d1,d2⟩,d3⟩,d4⟩:=hd;have d1A:ML 0 ops.toList=true:=by all_goals grind[ordered]
 obtain⟨f1,f2⟩:=Amj (C:=C) (ops:=ops.toList) ops.toList [] st d1A;obtain⟨st',r1,r2,r3⟩:=Ami ops.toList [] st hx;generalize hfs:Py C ops.toList ops.toList [] st=fs at *
 have hlen:fs.length=ops.size:=by rw[f1];simp
 have hsize:(enum 0 fs).length=ops.size:=by rw[AjL,hlen]
 have hany: ∀ md,wpAny P md ops (Post V0 O0 w0 fin K v) ops.size (Array.replicate ops.size false) a {w with drawn:=w.drawn+1}:=by
  intro md;obtain⟨rk,hrk⟩:=AiU d1 md
  refine ApX (V0:=V0) (O0:=O0) (w0:=w0) hC (K:=fun st'=>K .normal st') (v:=v) (st':=st') (fun O' m' s a' w' h1 h2=>⟨O',m',s,h1,h2⟩) (ANC:=fs.map Fq.anc) (rk:=rk) (fun j o hj i hi=> ?_) hrk
   ops.size (enum 0 fs) _ hsize (Aqb _ _) (fun p hp=> ?_) (by simp) (fun i hi=> ?_) (fun e he i _=> ?_) (Ama _ _ d2) (fun p hp n hn=> ?_) (Anj d4) (by rw[Aqc];exact r1) r2 hS.drew
  ·obtain⟨x,h1,h2,h3⟩:=f2 j o (by simpa using hj);have e1:(fs.map Fq.anc).getD j []=x.anc:=by rw[List.getD_eq_getElem?_getD,List.getElem?_map,h1];rfl
   rw[e1,h3]at hi;obtain⟨e,he,hie⟩:=List.mem_flatMap.1 hi;rcases List.mem_cons.1 hie with h | h
   ·exact⟨e,he,.inl h⟩
   ·exact⟨e,he,.inr (by simpa using h)⟩
  ·obtain⟨k,h1,h2⟩:=mO _ _ _ hp;rw[Nat.zero_add]at h1
   have hk:k<ops.toList.length:=by
    rw[<- f1];rcases Nat.lt_or_ge k fs.length with h | h
    ·exact h
    ·rw[List.getElem?_eq_none h]at h2;cases h2
   obtain⟨x,h3,h4,h5⟩:=f2 k ops.toList[k] (by simp at hk ⊢);rw[h2]at h3;injection h3 with h3;refine⟨?_,r3 _ (List.mem_of_getElem? h2),?_⟩
   ·rw[h1,h3,h4];simp at hk ⊢
   ·rw[h1,List.getD_eq_getElem?_getD,List.getElem?_map,h2];rfl
  ·rw[Aqa];simp [Array.getD_eq_getD_getElem?,hi,hlen]
  ·have:(Array.replicate ops.size false).getD e false=false:=by
    rw[Array.getD_eq_getD_getElem?,Array.getElem?_replicate];split<;>rfl
   rw[this]at he;cases he
  ·grind[mO]
 refine wp_region_draw fun t=> ?_;unfold Region.schedule;split
 ·exact wpAny_sound _ _ _ _ _ (hany _)
 ·exact wpAny_sound _ _ _ _ _ (hany _)
end
