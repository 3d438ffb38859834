import Derived.Test.YtbgjmioccbacdaaGreatDoorA6
import Derived.Calls
set_option linter.all false
namespace Go.Proofs.YtbgjmioccbacdaaGreatDoor.Vm
open Classical
def Arb (k:Nat):Nat:=256000+256*k
def yR:A->A
 | .agg cs=>.box cs
 | a=>a
def La:List Sh->Nat->List Nat
 | [],_=>[]
 | s::ss,i=>bif KD s then i::La ss (i+1)else La ss (i+1)
structure Came (O:Own) (w:World) (vs:Array Value) (sg:Sig) (rs:List A) (v:Value) (O':Own) (w':World):Prop where
 moves:Moves O (fun o=>o≠255) w w'
 less: ∀ b k,b<w.heap.size->O' b k≠none->O b k≠none
 VA: ∀ b k,b<w.heap.size->O b k=some 255->O' b k=some 255
 count:rs.length=sg.J7.length+(La sg.Js 0).length
 res: ∃ us:Array Value,us.size=sg.J7.length/\v=(if h:us.size=1 then us[0]else .tuple us)/\ ∀ k,k<us.size->IR O' w' (Arb k) (us.getD k undef) (rs.getD k .undef)
 boxes: ∀ j i,(La sg.Js 0)[j]? =some i->IR O' w' (256*i) (innerS w (sg.Js.getD i (.agg [])) (vs.getD i undef)) (yR (rs.getD (sg.J7.length+j) .undef))
def Spec (P:Program) (f:FuncId) (sg:Sig):Prop :=
 (∀ args w,(callFunc f args).run P w= .ok (.enter f args) w) /\
 ∀(O:Own) (w:World) (vs:Array Value) (xs rs:List A),Inv O w->vs.size=xs.length->xs.length=sg.Js.length->xs.length<=100->(∀ j,j<xs.length->IR O w (256*j) (vs.getD j undef) (xs.getD j .undef))->sg.F xs=some rs ->
  Calls P f vs w fun e w'=> ∃ v O',e= .returned v/\Came O w vs sg rs v O' w'
def Uu (b:Bool) (vs:Array Value):Array Value:=bif b then #[.agg vs]else #[vs.getD 1 undef]
def AmO (p:Nat×Bool) (vs:Array Value):Value:=.func (.func p.1) (Uu p.2 vs) #[]
def WY (P:Program) (f:FuncId) (b:Bool) (sg:Sig):Prop :=
 (∀ args w,(callFunc f args).run P w= .ok (.enter f args) w) /\
 ∀(O:Own) (w:World) (vs:Array Value) (xs rs:List A),Inv O w->vs.size=xs.length->xs.length=sg.Js.length->xs.length<=100->(∀ j,j<xs.length->IR O w (256*j) (vs.getD j undef) (xs.getD j .undef))->sg.F xs=some rs ->
  Calls P f (Uu b vs) w fun e w'=> ∃ v O',e= .returned v/\Came O w vs sg rs v O' w'
def iW (P:Program) (e:FuncId) (fs:List (Nat×Bool)) (sg:Sig):Prop :=
 (∀ args w,(callFunc e args).run P w= .ok (.enter e args) w) /\
 ∀(O:Own) (w:World) (vs:Array Value) (xs rs:List A) (b:Nat),Inv O w->vs.size=xs.length->xs.length=sg.Js.length->xs.length<=100->(∀ j,j<xs.length->IR O w (256*j) (vs.getD j undef) (xs.getD j .undef))->(∀ i p,fs[i]? =some p->O b i=none/\w.cell? (at' b i)=some (AmO p vs))->sg.F xs=some rs ->
  Calls P e #[.slice (some (at' b 0)) fs.length fs.length] w fun e w'=> ∃ v O',e= .returned v/\Came O w vs sg rs v O' w'
section
variable {P:Program} {C:Ctx} {V0:Nat->Value} {O0 O:Own} {w0 w:World} {m:Nat->Value} {st:St} {a:Act} {o:Oper}
def Xa (w:World) (f:Nat->Value) (id stride:Nat):List Sh->List A->Nat->List (Nat×Value)
 | [],_,_=>[]
 | s::ss,rs,j=>(back (id+stride*j) s (rs.getD j .undef)).2.2.map (fun p=>(p.1,Nq w (f j) (p.1 - (id+stride*j))))++Xa w f id stride ss rs (j+1)
theorem Akx (w:World) (f:Nat->Value) (id stride:Nat): ∀(ss:List Sh) (rs:List A) (j:Nat),(Xa w f id stride ss rs j).map (·.1)=(KA id stride ss rs j).2.2.map (·.1):=by
 intro ss
 induction ss with
 | nil=>intro rs j;rfl
 | cons s ss ih=>intro rs j;simp [Xa,KA,ih]
theorem An3 {k:CK} {c:A} (hp:k.plain=true) (h:J5 (force k c).1):(force k c).2.isVal=true:=by
 cases k<;>first
  | (cases hp;done)
  | (have h1:=h.cons.1;cases c<;>first | rfl | (cases h1;done))
theorem AbI {Oc O':Own} {objs':List (Nat×Obj)} {m':Nat->Value} {cid cst id stride:Nat} {f g:Nat->Value} {rs:List A} (hp:Nj Oc w O' w) (hn: ∀ b k,Oc b k=none->O' b k=none): ∀(ss:List Sh) (j0:Nat),(∀ j,j<ss.length->g (j0+j)=innerS w (ss.getD j (.agg [])) (f (j0+j))) ->
 (∀ j,j<ss.length->IR Oc w (cid+cst*(j0+j)) (f (j0+j)) (rs.getD (j0+j) .undef))->(∀ j,j<ss.length-> ∀ b k i,i<255->Oc b k=some (cid+cst*(j0+j)+i)->O' b k=some (id+stride*(j0+j)+i)) ->
 J5 (KA id stride ss rs j0).1->(∀ p∈(KA id stride ss rs j0).2.2,Jv objs' p.1=some p.2)->(∀ p∈Xa w g id stride ss rs j0,m' p.1=p.2) ->
 (KA id stride ss rs j0).2.1.length=ss.length/\(∀ j,j<ss.length->J8 O' objs' m' w (f (j0+j)) ((KA id stride ss rs j0).2.1.getD j .undef)/\((KA id stride ss rs j0).2.1.getD j .undef).isVal=true) /\
   ∀ p∈(KA id stride ss rs j0).2.2,KZ O' objs' m' w p.1 p.2:=by
 intro ss
 induction ss with
 | nil=>grind[KA]
 | cons s ss ih =>
  intro j0 hg h hr hok hO hm;simp only[KA]at hok hO ⊢;simp only[Xa]at hm;obtain⟨hok1,hok2⟩:=hok.append
  obtain⟨g1,g2,g3⟩:=ih (j0+1) (fun j hj=>by have:=hg (j+1) (by simpa using hj);rwa [show j0+(j+1)=j0+1+j from by omega]at this) (fun j hj=>by have:=h (j+1) (by simpa using hj);rwa [show j0+(j+1)=j0+1+j from by omega]at this)
   (fun j hj=>by have:=hr (j+1) (by simpa using hj);rwa [show j0+(j+1)=j0+1+j from by omega]at this) hok2 (fun p hp=>hO p (DC _ hp)) (fun p hp=>hm p (DC _ hp))
  have h0:=h 0 (by simp);have hr0:=hr 0 (by simp);have hg0:g (j0+0)=innerS w s (f (j0+0)):=hg 0 (by simp);rw[Nat.add_zero]at h0 hr0 hg0;obtain⟨k1,k2⟩:=AmI (id:=id+stride*j0) (m':=m') (objs':=objs') hp hn h0 hr0 hok1 (fun p hp=>hO p (DD _ hp)) (fun p hp i hi=>by have:=hm (p.1,Nq w (g j0) (p.1 - (id+stride*j0))) (DD _ (DF.2 ⟨p,hp,rfl⟩));rw[this,hi,Gy,hg0]);refine⟨by simp [g1],fun j hj=> ?_,fun p hp=> ?_⟩
  .cases j with
   | zero =>
    refine⟨k1,?_⟩;show((back (id+stride*j0) s (rs.getD j0 .undef)).2.1).isVal=true;cases s with
    | agg ks=>rfl
    | box ks=>rfl
    | clo f' ks=>rfl
    | map kt vt=>rfl
    | cell u' k =>
     have hpl:k.plain=true:=by simp only[back]at hok1;exact hok1.append.2.cons.1
     cases u' with
     | true=>cases k<;>first | (cases hpl;done) | rfl | (exfalso;have:=hok1 false (by simp [back,JI]);cases this)
     | false =>
      have hf:J5 (force k (rs.getD j0 .undef)).1:=by have h1:=hok1;simp only[back,JI]at h1;exact h1.append.1.append.1
      show(force k (rs.getD j0 .undef)).2.isVal=true;exact An3 hpl hf
   | succ j =>have:=g2 j (by simpa using hj);rw[show j0+(j+1)=j0+1+j from by omega];simpa using this
  .rcases DU.1 hp with hp | hp
   .exact k2 p hp
   .exact g3 p hp
def look (N:List (Nat×Nat)) (q:Nat):Option Nat:=(N.find? (fun p=>p.1==q)).map (·.2)
theorem Ah5 {N:List (Nat×Nat)} (hnd:nodup (N.map (·.1))=true): ∀ p∈N,look N p.1=some p.2:=by
 induction N with
 | nil=>intro p hp;cases hp
 | cons q N ih =>
  intro p hp;simp only[Eb,nodup,Dq,Ef]at hnd;unfold look;rcases Dz.1 hp with rfl | hp
  .simp
  .have hne:q.1≠p.1:=fun e=>by
    have:has (N.map (·.1)) q.1=true:=NC.2 (DF.2 ⟨p,hp,e.symm⟩);rw[this]at hnd;cases hnd.1
   all_goals grind[nodup,look]
theorem vY {N:List (Nat×Nat)} {q i:Nat} (h:look N q=some i):(q,i)∈N:=by
 unfold look at h;cases hf:N.find? (fun p=>p.1==q)with
 | none=>rw[hf]at h;cases h
 | some p=>grind[look]
def eF (N:List (Nat×Value)) (q:Nat):Option Value:=(N.find? (fun p=>p.1==q)).map (·.2)
theorem AnN {N:List (Nat×Value)} (hnd:nodup (N.map (·.1))=true): ∀ p∈N,eF N p.1=some p.2:=by
 induction N with
 | nil=>intro p hp;cases hp
 | cons q N ih =>
  intro p hp;simp only[Eb,nodup,Dq,Ef]at hnd;unfold eF;rcases Dz.1 hp with rfl | hp
  .simp
  .have hne:q.1≠p.1:=fun e=>by
    have:has (N.map (·.1)) q.1=true:=NC.2 (DF.2 ⟨p,hp,e.symm⟩);rw[this]at hnd;cases hnd.1
   all_goals grind[nodup,eF]
theorem Al5 {N:List (Nat×Value)} {q:Nat} (h:q∉N.map (·.1)):eF N q=none:=by grind[eF]
theorem J8.Aul {Jp:List (Nat×Obj)} {v:Value} {x:A} (h:J8 O Jp m w v x) (hv:x.isVal=true):T1 O Jp m w v x:=by cases x<;>first | (cases hv;done) | exact h
theorem X0 {fet:Fet}: ∀(ks:List (Bool×CK)) (cs:List A) (id:Nat),J5 (J3 fet ks cs).1-> ∀ p∈Ld id ks cs,(Jv fet p.1).isSome/\ ∃ x,x<ks.length/\p.2=id+x:=by
 intro ks
 induction ks with
 | nil=>intro cs id _ p hp;cases cs<;>simp [Ld]at hp
 | cons k ks ih =>
  intro cs id hok p hp;obtain⟨u,k⟩:=k;cases cs with
  | nil=>cases u<;>simp [Ld]at hp
  | cons c cs =>
   have step:J5 (J3 fet ks cs).1->p∈Ld (id+1) ks cs->(Jv fet p.1).isSome/\ ∃ x,x<((u,k)::ks).length/\p.2=id+x:=by intro h1 h2;obtain⟨h3,x,h4,h5⟩:=ih cs (id+1) h1 p h2;exact⟨h3,x+1,by simpa using h4,by omega⟩
   cases u with
   | false =>
    have hnm:Ld id ((false,k)::ks) (c::cs)=Ld (id+1) ks cs:=by cases c<;>rfl
    rw[hnm]at hp;simp only[J3]at hok;exact step hok.append.2 hp
   | true =>
    cases k with
    | sl e sz =>
     cases c with
     | own q =>
      simp only[J3]at hok;cases hg:Jv fet q with
      | none=>rw[hg]at hok;have:=hok false (by simp);cases this
      | some y =>
       cases y with
       | box _=>rw[hg]at hok;have:=hok false (by simp);cases this
       | mp _=>rw[hg]at hok;have:=hok false (by simp);cases this
       | arr e' fz l =>
        rw[hg]at hok;simp only[Ld]at hp;rcases Dz.1 hp with rfl | hp
        .exact⟨by rw[hg];rfl,0,by simp,rfl⟩
        .exact step hok.append.2 hp
     | Lj =>simp only[J3]at hok;exact step hok hp
     | _=>have:=hok false (by simp [J3]);cases this
    | sln e sz =>
     cases c with
     | own q =>
      simp only[J3]at hok;cases hg:Jv fet q with
      | none=>rw[hg]at hok;have:=hok false (by simp);cases this
      | some y =>
       cases y with
       | box _=>rw[hg]at hok;have:=hok false (by simp);cases this
       | mp _=>rw[hg]at hok;have:=hok false (by simp);cases this
       | arr e' fz l =>
        rw[hg]at hok;simp only[Ld]at hp;rcases Dz.1 hp with rfl | hp
        .exact⟨by rw[hg];rfl,0,by simp,rfl⟩
        .exact step hok.append.2 hp
     | Lj =>simp only[J3]at hok;exact step hok hp
     | _=>have:=hok false (by simp [J3]);cases this
    | bx t =>
     cases c with
     | ptr q off =>
      simp only[J3]at hok;cases hg:Lp fet q with
      | none=>rw[hg]at hok;have:=hok false (by simp);cases this
      | some zs =>
       rw[hg]at hok;simp only[Ld]at hp;rcases Dz.1 hp with rfl | hp
       .exact⟨by rw[KX hg];rfl,0,by simp,rfl⟩
       .exact step hok.cons.2.append.2 hp
     | _=>have:=hok false (by simp [J3]);cases this
    | mp kt vt =>
     cases c with
     | own q =>
      simp only[J3]at hok;cases hg:Jv fet q with
      | none=>rw[hg]at hok;have:=hok false (by simp);cases this
      | some y =>
       cases y with
       | box _=>rw[hg]at hok;have:=hok false (by simp);cases this
       | arr _ _ _=>rw[hg]at hok;have:=hok false (by simp);cases this
       | mp l =>
        rw[hg]at hok;simp only[Ld]at hp;rcases Dz.1 hp with rfl | hp
        .exact⟨by rw[hg];rfl,0,by simp,rfl⟩
        .exact step hok.append.2 hp
     | _=>have:=hok false (by simp [J3]);cases this
    | _=>have:=hok false (by simp [J3]);cases this
theorem AhD {fet:Fet} {s:Sh} {x:A} {id:Nat} (hok:J5 (JU fet s x).ok): ∀ p∈Ph fet id s x,(Jv fet p.1).isSome/\ ∃ i,p.2=id+i/\(i<202\/(∃ ks,s= .agg ks)):=by
 intro p hp;cases s with
 | cell u k =>
  simp only[Ph]at hp
  have hh:J5 (J3 fet [(u,k)] [x]).1:=by
   unfold JU at hok;dsimp only at hok;generalize J3 fet [(u,k)] [x]=r at *
   obtain⟨ok,cs,upd,del⟩:=r;cases cs with
   | nil=>have:=hok false (by simp);cases this
   | cons c cs =>
    cases cs with
    | nil=>exact hok
    | cons _ _=>have:=hok false (by simp);cases this
  obtain⟨h1,i,h2,h3⟩:=X0 _ _ _ hh p hp;exact⟨h1,i,h3,.inl (by simp at h2;omega)⟩
 | agg ks =>
  cases x with
  | agg cs =>simp only[Ph]at hp;obtain⟨h1,i,h2,h3⟩:=X0 _ _ _ (show J5 (J3 fet ks cs).1 from hok) p hp;exact⟨h1,1+i,by omega,.inr ⟨ks,rfl⟩⟩
  | _=>cases hp
 | box ks =>
  cases x with
  | ptr q off =>
   simp only[Ph]at hp;unfold JU at hok;dsimp only at hok;cases hg:Lp fet q with
   | none=>rw[hg]at hok;have:=hok false (by simp);cases this
   | some cs =>
    rw[hg]at hok hp;dsimp only at hok hp;obtain⟨_,hokA⟩:=hok.cons;obtain⟨hf,hokB⟩:=hokA.cons;have hf:=DI hf;rcases Dz.1 hp with rfl | hp
    .exact⟨by rw[KX hg];rfl,0,rfl,.inl (by omega)⟩
    .obtain⟨h1,i,h2,h3⟩:=X0 _ _ _ hokB p hp;exact⟨h1,1+i,by omega,.inl (by omega)⟩
  | _=>cases hp
 | clo f' ks =>
  cases x with
  | clo g q =>
   simp only[Ph]at hp;unfold JU at hok;dsimp only at hok;cases hg:Lp fet q with
   | none=>rw[hg]at hok;have:=hok false (by simp);cases this
   | some cs =>
    rw[hg]at hok hp;dsimp only at hok hp;obtain⟨_,hokA⟩:=hok.cons;obtain⟨hf,hokB⟩:=hokA.cons;have hf:=DI hf;rcases Dz.1 hp with rfl | hp
    .exact⟨by rw[KX hg];rfl,0,rfl,.inl (by omega)⟩
    .obtain⟨h1,i,h2,h3⟩:=X0 _ _ _ hokB p hp;exact⟨h1,1+i,by omega,.inl (by omega)⟩
  | _=>cases hp
 | map kt vt =>
  cases x with
  | own q =>
   obtain rfl:p=(q,id):=by simpa [Ph]using hp
   unfold JU at hok;dsimp only at hok;cases hg:Jv fet q with
   | none=>rw[hg]at hok;have:=hok false (by simp);cases this
   | some y=>exact⟨rfl,0,rfl,.inl (by omega)⟩
  | _=>cases hp
theorem Zh {fet:Fet} {stride:Nat}: ∀(ss:List Sh) (xs:List A) (id:Nat),J5 (JK fet ss xs).1-> ∀ p∈NQ fet id stride ss xs,(Jv fet p.1).isSome:=by
 intro ss
 induction ss with
 | nil=>intro xs id _ p hp;cases xs<;>simp [NQ]at hp
 | cons s ss ih =>
  intro xs id hok p hp;cases xs with
  | nil=>simp [NQ]at hp
  | cons x xs =>
   simp only[JK]at hok;obtain⟨h1,h2⟩:=hok.append;rcases DU.1 hp with hp | hp
   .exact(AhD h1 p hp).1
   .exact ih xs _ h2 p hp
theorem Moves.Asz {ρ :Nat->Option Nat} {w w':World} (h:Moves (OG O ρ) (fun o=>o≠255) w w'):Moves O (fun o=> ∃ i,ρ o=some i) w w':=by
 refine⟨h.os,h.tape,h.output,h.size,fun b hb=> ?_⟩;have un: ∀ k i,OG O ρ b k=some i->i≠255-> ∃ q,O b k=some q/\ ∃ i,ρ q=some i:=by all_goals grind[OG]
 rcases h.blk b hb with he | ⟨c,c',e,fr,h1,h2,h3,h4,k,q,h5,h6,h7⟩ | ⟨es,ck,es',ck',q,h1,h2,h3,h4⟩
 .exact .inl he
 .refine .inr (.inl ⟨c,c',e,fr,h1,h2,h3,fun k hk=>h4 k (fun i hi hne=> ?_),k,?_⟩)
  .obtain⟨q,hq,hρ⟩:=un k i hi hne;exact hk q hq hρ
  .simp_all[un,OG]
 .simp_all[un,OG]
end
section
variable {P:Program} {C:Ctx} {V0:Nat->Value} {O0 O:Own} {w0 w:World} {m:Nat->Value} {st:St} {a:Act} {o:Oper}
def As5 (fet:Fet) (p:Nat×Sh) (x:Option A):Sh->Prop
 | .box ks=>(∃ cs,Jv fet p.1=some (.box cs))/\x=some (.ptr p.1 0)/\ks.length<=200/\p.2= .box ks
 | .clo k ks=>(∃ cs,Jv fet p.1=some (.box cs))/\x=some (.clo k p.1)/\ks.length<=200/\p.2= .box ks
 | .map kt vt=>(∃ l,Jv fet p.1=some (.mp l))/\x=some (.own p.1)/\p.2= .map kt vt
 | _=>False
theorem Apf {fet:Fet} {stride:Nat}: ∀(ss:List Sh) (xs:List A) (id i0:Nat),J5 (JK fet ss xs).1 ->
 (JK fet ss xs).2.2.2.2.length=(La ss i0).length/\ ∀(j:Nat) (p:Nat×Sh),(JK fet ss xs).2.2.2.2[j]? =some p-> ∃ i,(La ss i0)[j]? =some (i0+i)/\i<ss.length/\(p.1,id+stride*i)∈NQ fet id stride ss xs/\ ∃ s,ss[i]? =some s/\As5 fet p xs[i]? s:=by
 intro ss
 induction ss with
 | nil=>intro xs id i0 hok;cases xs with
  | nil=>exact⟨rfl,fun j p h=>by simp [JK]at h⟩
  | cons _ _=>have:=hok false (by simp [JK]);cases this
 | cons s ss ih =>
  intro xs id i0 hok;cases xs with
  | nil=>have:=hok false (by simp [JK]);cases this
  | cons x xs =>
   simp only[JK]at hok ⊢;obtain⟨h1,h2⟩:=hok.append;obtain⟨g1,g2⟩:=ih xs (id+stride) (i0+1) h2;have hrest: ∀(j:Nat) (p:Nat×Sh),(JK fet ss xs).2.2.2.2[j]? =some p-> ∃ i,(La ss (i0+1))[j]? =some (i0+i)/\i<(s::ss).length/\(p.1,id+stride*i)∈NQ fet id stride (s::ss) (x::xs)/\ ∃ s',(s::ss)[i]? =some s'/\As5 fet p (x::xs)[i]? s':=by intro j p hp;obtain⟨i,a1,a2,a3,s',a4,a5⟩:=g2 j p hp;refine⟨i+1,by rw[a1];congr 1;omega,by simpa using a2,DC _ ?_,s',by simpa using a4,by simpa using a5⟩;rw[show id+stride*(i+1)=id+stride+stride*i from by rw[II];omega];exact a3
   cases s with
   | box ks =>
    cases x with
    | ptr q off =>
     have hA:J5 (JU fet (.box ks) (.ptr q off)).ok:=h1;unfold JU at h1;dsimp only at h1;cases hg:Lp fet q with
     | none=>rw[hg]at h1;have:=h1 false (by simp);cases this
     | some cs =>
      rw[hg]at h1;dsimp only at h1;obtain⟨h3,h4⟩:=h1.cons;obtain⟨h4,_⟩:=h4.cons;have h3:=Dp h3;have h4:=DI h4;subst h3;have hb:(JU fet (.box ks) (.ptr q 0)).boxes=[(q,.box ks)]:=by unfold JU;dsimp only;rw[hg]
      rw[hb];refine⟨by simp [La,KD,g1],fun j p hp=> ?_⟩;cases j with
      | zero =>simp at hp;subst hp;exact⟨0,by simp [La,KD],by simp,DD _ (by simp [Ph]),_,rfl,⟨cs,KX hg⟩,rfl,h4,rfl⟩
      | succ j =>
       have hp':(JK fet ss xs).2.2.2.2[j]? =some p:=by simpa using hp
       obtain⟨i,a1,a2⟩:=hrest j p hp';exact⟨i,by simpa [La,KD]using a1,a2⟩
    | _=>have:=h1 false (by simp [JU]);cases this
   | clo f' ks =>
    cases x with
    | clo g q =>
     have hA:J5 (JU fet (.clo f' ks) (.clo g q)).ok:=h1;unfold JU at h1;dsimp only at h1;cases hg:Lp fet q with
     | none=>rw[hg]at h1;have:=h1 false (by simp);cases this
     | some cs =>
      rw[hg]at h1;dsimp only at h1;obtain⟨h3,h4⟩:=h1.cons;obtain⟨h4,_⟩:=h4.cons;have h3:=Dp h3;have h4:=DI h4;subst h3;have hb:(JU fet (.clo f' ks) (.clo f' q)).boxes=[(q,.box ks)]:=by unfold JU;dsimp only;rw[hg]
      rw[hb];refine⟨by simp [La,KD,g1],fun j p hp=> ?_⟩;cases j with
      | zero =>simp at hp;subst hp;exact⟨0,by simp [La,KD],by simp,DD _ (by simp [Ph]),_,rfl,⟨cs,KX hg⟩,rfl,h4,rfl⟩
      | succ j =>
       have hp':(JK fet ss xs).2.2.2.2[j]? =some p:=by simpa using hp
       obtain⟨i,a1,a2⟩:=hrest j p hp';exact⟨i,by simpa [La,KD]using a1,a2⟩
    | _=>have:=h1 false (by simp [JU]);cases this
   | cell u k=>grind[JU,split,La,KD]
   | agg ks =>
    have hb:(JU fet (.agg ks) x).boxes=[]:=by unfold JU;cases x<;>rfl
    rw[hb];exact⟨by simpa [La,KD]using g1,fun j p hp=>by simpa [La,KD]using hrest j p (by simpa using hp)⟩
   | map kt vt =>
    cases x with
    | own q =>
     unfold JU at h1;dsimp only at h1;cases hg:Jv fet q with
     | none=>rw[hg]at h1;have:=h1 false (by simp);cases this
     | some y =>
      cases y with
      | box _=>rw[hg]at h1;have:=h1 false (by simp);cases this
      | arr _ _ _=>rw[hg]at h1;have:=h1 false (by simp);cases this
      | mp l =>
       have hb:(JU fet (.map kt vt) (.own q)).boxes=[(q,.map kt vt)]:=by unfold JU;dsimp only;rw[hg]
       rw[hb];refine⟨by simp [La,KD,g1],fun j p hp=> ?_⟩;cases j with
       | zero =>simp at hp;subst hp;exact⟨0,by simp [La,KD],by simp,DD _ (by simp [Ph]),_,rfl,⟨l,hg⟩,rfl,rfl⟩
       | succ j =>
        have hp':(JK fet ss xs).2.2.2.2[j]? =some p:=by simpa using hp
        obtain⟨i,a1,a2⟩:=hrest j p hp';exact⟨i,by simpa [La,KD]using a1,a2⟩
    | _=>have:=h1 false (by simp [JU]);cases this
def Va (rb:Nat->Nat) (w:World) (vf:Nat->Value) (rs:List A):List (Nat×Sh)->Nat->List (Nat×Value)
 | [],_=>[]
 | (o,s)::r,j=>(Ox (rb o) s (rs.getD j .undef)).2.2.map (fun p=>(p.1,Nq w (vf j) (p.1 - rb o)))++Va rb w vf rs r (j+1)
theorem Ad7 (rb:Nat->Nat) (w:World) (vf:Nat->Value) (rs:List A): ∀(bs:List (Nat×Sh)) (j:Nat),(Va rb w vf rs bs j).map (·.1)=(KR rb rs bs j).2.2.map (·.1):=by
 intro bs
 induction bs with
 | nil=>intro j;rfl
 | cons b bs ih=>simp_all[Va,KR,Sh]
theorem Afx (rb:Nat->Nat) (rs:List A): ∀(bs:List (Nat×Sh)) (j:Nat),(KR rb rs bs j).2.1.map (·.1)=bs.map (·.1):=by
 intro bs
 induction bs with
 | nil=>intro j;rfl
 | cons b bs ih=>grind[KR]
theorem AgE {rb:Nat} {Oc O':Own} {objs':List (Nat×Obj)} {m':Nat->Value} {v:Value} {cid q:Nat} {s:Sh} {r:A} (hp:Nj Oc w O' w) (hn: ∀ b k,Oc b k=none->O' b k=none)
 (hs: ∀ ks,s= .box ks->ks.length<=200) (hmq:m' q=v) (hir:IR Oc w cid v (yR r)) (hr: ∀ b k i,i<255->Oc b k=some (cid+i)->O' b k=some (if i=0 then q else rb+i))
 (hok:J5 (Ox rb s r).1) (hO: ∀ p∈(Ox rb s r).2.2,Jv objs' p.1=some p.2) (hm: ∀ p∈(Ox rb s r).2.2,m' p.1=Nq w v (p.1 - rb)) :
 KZ O' objs' m' w q (Ox rb s r).2.1/\ ∀ p∈(Ox rb s r).2.2,KZ O' objs' m' w p.1 p.2:=by
 cases s with
 | cell _ _=>have:=hok false (by simp [Ox]);cases this
 | agg _=>have:=hok false (by simp [Ox]);cases this
 | clo _ _=>have:=hok false (by simp [Ox]);cases this
 | map kt vt =>simp only[Ox]at hok ⊢;obtain⟨l,rfl,_,_⟩:=bG hok.cons.1;refine⟨?_,fun p hp=>by cases hp⟩;show NU O' w q (m' q) l;rw[hmq];exact NU.carry (show NU Oc w cid v l from hir) hp (fun b k hb=>by have:=hr b k 0 (by omega) hb;exact this)
 | box ks =>
  have hf:=hs ks rfl;simp only[Ox]at hok hO hm ⊢;obtain⟨hok0,hok1⟩:=hok.cons;cases r with
  | agg cs =>
   have hl:cs.length=ks.length:=by simpa [A.isAgg,VC]using hok0
   obtain⟨bk,base,h1,h2⟩:=(show IR Oc w cid v (.box cs)from hir)
   have hcell: ∀ j,Nq w v (j+1)=(w.cell? (at' bk (base+j))).getD undef:=by intro j;rw[h1];rfl
   obtain⟨k1,k2,k3⟩:=Tc (objs':=objs') (m':=m') (cid:=cid+1) (id:=rb+1) (f:=fun j=>(w.cell? (at' bk (base+j))).getD undef) hp hn ks cs 0 (fun j hj=>by
    obtain⟨_,_,u,h5,h6⟩:=h2 j (by omega);rw[DR,h5];exact h6) (fun b k i hi hb=>by
    have:=hr b k (1+i) (by omega) (by rw[<- EE];exact hb);rw[AvH,<- EE]at this;exact this) hok1 hO (fun p hp i hi=>by
    have:=hm p hp;rw[this,hi,show rb+1+i - rb=i+1 from by omega,hcell])
   refine⟨⟨bk,base,by rw[hmq];exact h1,fun j hj=> ?_⟩,fun p hp=>(k3 p hp).1⟩;have hj:j<(JI (rb+1) ks cs 0).2.1.length:=hj;rw[k1]at hj;obtain⟨a1,a2,u,a3,_⟩:=h2 j (by omega);have:=k2 j hj;rw[DR,a3]at this;exact⟨by have:=hr bk (base+j) 0 (by omega) a1;exact this,a2,u,a3,this⟩
  | _=>cases hok0
theorem Ad8 {rb:Nat->Nat} {Oc O':Own} {objs':List (Nat×Obj)} {m':Nat->Value} {val:Nat->Value} {cid:Nat->Nat} {rs:List A} (hp:Nj Oc w O' w) (hn: ∀ b k,Oc b k=none->O' b k=none): ∀(bs:List (Nat×Sh)) (j0:Nat),
 (∀(j:Nat) (p:Nat×Sh),bs[j]? =some p->(∀ ks,p.2= .box ks->ks.length<=200)/\m' p.1=val (j0+j)/\IR Oc w (cid (j0+j)) (val (j0+j)) (yR (rs.getD (j0+j) .undef))/\ ∀ b k i,i<255->Oc b k=some (cid (j0+j)+i)->O' b k=some (if i=0 then p.1 else rb p.1+i)) ->
 J5 (KR rb rs bs j0).1->(∀ p∈(KR rb rs bs j0).2.2,Jv objs' p.1=some p.2)->(∀ p∈Va rb w val rs bs j0,m' p.1=p.2) ->
 (∀ p∈(KR rb rs bs j0).2.1,KZ O' objs' m' w p.1 p.2)/\ ∀ p∈(KR rb rs bs j0).2.2,KZ O' objs' m' w p.1 p.2:=by
 intro bs
 induction bs with
 | nil=>grind[KR]
 | cons b bs ih =>
  intro j0 h hok hO hm;obtain⟨q,s⟩:=b;simp only[KR]at hok hO ⊢;simp only[Va]at hm;obtain⟨hok1,hok2⟩:=hok.append;obtain⟨g1,g2⟩:=ih (j0+1) (fun j p hj=>by have:=h (j+1) p (by simpa using hj);rwa [show j0+(j+1)=j0+1+j from by omega]at this) hok2 (fun p hp=>hO p (DC _ hp)) (fun p hp=>hm p (DC _ hp));obtain⟨hf,hmq,hir,hr⟩:=h 0 (q,s) rfl;rw[Nat.add_zero]at hmq hir hr;obtain⟨k1,k2⟩:=AgE (objs':=objs') (m':=m') (rb:=rb q) (q:=q) hp hn hf hmq hir hr hok1 (fun p hp=>hO p (DD _ hp)) (fun p hp=>hm (p.1,Nq w (val j0) (p.1 - rb q)) (DD _ (DF.2 ⟨p,hp,rfl⟩)));refine⟨fun p hp=> ?_,fun p hp=> ?_⟩
  .rcases Dz.1 hp with rfl | hp
   .exact k1
   .exact g1 p hp
  .rcases DU.1 hp with hp | hp
   .exact k2 p hp
   .exact g2 p hp
end
section
variable {P:Program} {C:Ctx} {V0:Nat->Value} {O0 O:Own} {w0 w:World} {m:Nat->Value} {st:St} {a:Act} {o:Oper}
def AbN (ss:List Sh) (xs:List A) (i:Nat):Option Nat:=match ss.getD i (.agg []),xs.getD i .undef with
 | .map _ _,.own o=>some o
 | .clo _ _,.clo _ o=>some o
 | .box _,.clo _ o=>some o
 | .clo _ _,.ptr o _=>some o
 | _,.ptr o _=>some o
 | _,_=>none
def yY (rb:Nat->Nat) (d:Nat) (ss:List Sh) (xs:List A) (n:Nat):Option Nat :=
 if 256000<=n then some (b2 d+16*((n - 256000) / 256)+(n - 256000) % 256)
 else match AbN ss xs (n / 256)with
  | some q=>some (if n % 256=0 then q else rb q+n % 256)
  | none=>none
def Agt:Sh->Obj->Prop
 | .box _,.box _=>True
 | .map _ _,.mp _=>True
 | _,_=>False
theorem wO {s:Sh} {e:Nat} {f:Bool} {l:Sl} (h:Agt s (.arr e f l)):False:=by cases s<;>exact h
theorem Aog {s:Sh} {y:Obj} {rb:Nat} {r:A} (h:Agt s y):y.shp=(Ox rb s r).2.1.shp:=by cases s<;>cases y<;>first | exact h.elim | rfl
theorem AgH {d:Nat} {fet:Fet} {sg:Sig} {xs:List A} (h:J5 (OE fet d sg xs).ok):sg.ok (aV fet sg.Js xs).vs=true:=by unfold OE Agi at h;exact h.append.1.append.1.append.1.append.2.cons.1
theorem AeN {X:(Value->World->Prop)->Prop} {sg:Sig} {av:Array Value} (hS:Sim V0 O0 w0 O m st a w) (hX: ∀(R:Value->World->Prop) (O':Own) (xs rs:List A),(∀ b k u,O b k=none->w.cell? (at' b k)=some u->O' b k=none)->Inv O' w->av.size=xs.length->xs.length=sg.Js.length->xs.length<=100->(∀ j,j<xs.length->IR O' w (256*j) (av.getD j undef) (xs.getD j .undef))->sg.F xs=some rs->(∀ v Of w',Came O' w av sg rs v Of w'->R v w')->X R) {d:Nat} {fet:Fet} (hf:OL st.Jp fet) {xs:List A}
 (hl:xs.length=av.size) (hx: ∀ j,j<xs.length->J8 O st.Jp m w (av.getD j undef) (xs.getD j .undef))
 (hok:J5 (OE fet d sg xs).ok) (hfr: ∀ p∈(OE fet d sg xs).new,st.fresh p.1=true) (hnd:nodup ((OE fet d sg xs).new.map (·.1))=true) (next:Value->World->Prop) (hn: ∀ O' m' v w',Sim V0 O0 w0 O' m' (apply st o (OE fet d sg xs)) (a.put o.dst v) w'->next v w'):X next:=by
 unfold OE at hok hfr hnd hn;generalize hH:aV fet sg.Js xs=H at *
 obtain⟨hok1,vsA,upd,del,bxs⟩:=H;have hHs:JK fet sg.Js xs=(hok1,vsA,upd,del,bxs):=by unfold aV at hH;injection hH with q1 q2 q3 q4 q5;rw[<- q1,<- q2,<- q3,<- q4,<- q5]
 dsimp only at hok hfr hnd hn;unfold Agi at hok;obtain⟨hokA,hokB⟩:=hok.append;obtain⟨hokA,hokC⟩:=hokA.append;obtain⟨hokA,hokD⟩:=hokA.append;obtain⟨hokA,hokE⟩:=hokA.append;obtain⟨hN,hokB⟩:=hokB.cons;obtain⟨h100,hokB⟩:=hokB.cons;have h100:=DI h100;have hF:sg.F vsA=some (sg.val vsA):=by have:=hokE.cons.1;unfold Sig.F;rw[this];rfl
 have hokA':J5 (JK fet sg.Js xs).1:=by rw[hHs];exact hokA
 generalize sg.val vsA=rs at hF hfr hnd hn hokB hokC hokD;simp only[Agi]at hfr hnd hn hokB hokC hokD;have hcnt:=Dp hokB.cons.1;obtain⟨g1,g2,g3,g4,g5⟩:=Zc (W:=upd=[]) hf hS.Jp 256 sg.Js xs 0 (fun j=>av.getD j undef) (fun e=>by have:=hokB.cons.2.cons.1;rw[e]at this;simpa using this) hx hokA';obtain⟨b1,b2'⟩:=Apf (fet:=fet) (stride:=256) sg.Js xs 0 0 hokA';have halive:=Zh (fet:=fet) (stride:=256) sg.Js xs 0 hokA';rw[hHs]at g1 g3 g4 g5 b1 b2';dsimp only at g1 g3 g4 g5 b1 b2';generalize hNs:NQ fet 0 256 sg.Js xs=N at *
 obtain⟨O1,hS1,hp1,hle1,hv1,hE1,hk1⟩:=hS.freezes _ g3;let ρ :=look N;have hρ : ∀ p∈N,ρ p.1=some p.2:=Ah5 hN;have hupdO: ∀ p∈upd,KZ O1 (JC st.Jp upd) m w p.1 p.2:=by intro p hp;obtain⟨x,hx1,hx2⟩:=OO upd st.Jp p.1 ⟨p,hp,rfl⟩;obtain⟨e,fz,l,k1,k2⟩:=g3 p hp;obtain⟨e',fz',l',k3,k4⟩:=g3 _ hx1;dsimp only at k3 k4;rw[k1]at k3;injection k3 with k3;injection k3 with q1 q2 q3;subst q1;subst q3;rw[k2,<- k4];exact hS1.Jp p.1 x hx2
 have hIR:=g5 hp1 hv1 hupdO hk1 hρ;have hargs:av.size=vsA.length:=by rw[<- hl,g2,g1]
 refine hX next (OG O1 ρ) vsA rs (fun b k u h hc=>Vx.2 (hp1 b k u h hc).1) ⟨fun g j p ht=>⟨Vx.2 (hS1.Acy.1 g j p ht).1,(hS1.Acy.1 g j p ht).2⟩,hS1.Acy.2⟩ hargs g1 (by rw[g1,<- g2];exact h100) (fun j hj=> ?_) hF ?_
 .have:=hIR j (by rw[<- g1];exact hj);rw[DR]at this;exact this
 rintro v Of w' hcame;obtain⟨us,hus1,hus2,hus3⟩:=hcame.res;let T:Nat->Prop:=fun q=> ∃ i,ρ q=some i;let O2:Own:=fun b k=>if b<w.heap.size then(match O1 b k with | none=>none | some q=>if T q then(Of b k).bind (yY (MM fet) d sg.Js xs)else some q)else(Of b k).bind (yY (MM fet) d sg.Js xs);have hM:Moves O1 T w w':=hcame.moves.Asz;have hO2lt: ∀ {b k},b<w.heap.size->O2 b k=(match O1 b k with | none=>none | some q=>if T q then(Of b k).bind (yY (MM fet) d sg.Js xs)else some q):=fun hb=>Dw hb;have hP2:Passes O1 O2 T w.heap.size:=by refine⟨fun b k hb h=>by rw[hO2lt hb,h],fun b k q hb h ht=> ?_⟩;rw[hO2lt hb,h];exact Dt ht
 have hless2: ∀ b k,b<w.heap.size->O2 b k≠none->O1 b k≠none:=by intro b k hb h h';rw[hO2lt hb,h']at h;exact h rfl
 have hnone: ∀ b k,Of b k=none->O2 b k=none:=by
  intro b k h;by_cases hb:b<w.heap.size
  .rw[hO2lt hb];cases hO:O1 b k with
   | none=>rfl
   | some q =>
    by_cases ht:T q
    .show(if T q then _ else _)=_;rw[Dw ht,h];rfl
    .exfalso
     have hr:OG O1 ρ b k=some 255:=by
      unfold OG;rw[hO]
      have: ρ q=none:=by
       cases hh: ρ q with
       | none=>rfl
       | some i=>exact absurd ⟨i,hh⟩ ht
      simp [this]
     have:=hcame.VA b k hb hr;rw[h]at this;cases this
  .show(if _ then _ else _)=_;rw[Dt hb,h];rfl
 have hsome: ∀ b k n,Of b k=some n->n≠255->O2 b k=yY (MM fet) d sg.Js xs n:=by
  intro b k n h hne;by_cases hb:b<w.heap.size
  .rw[hO2lt hb];have h1:=hcame.less b k hb (by rw[h];simp);rw[Ne,Vx]at h1;cases hO:O1 b k with
   | none=>exact absurd hO h1
   | some q =>
    by_cases ht:T q
    .show(if T q then _ else _)=_;rw[Dw ht,h];rfl
    .exfalso
     have hr:OG O1 ρ b k=some 255:=by
      unfold OG;rw[hO]
      have: ρ q=none:=by
       cases hh: ρ q with
       | none=>rfl
       | some i=>exact absurd ⟨i,hh⟩ ht
      simp [this]
     have:=hcame.VA b k hb hr;rw[h]at this;injection this with this;exact hne this
  .show(if _ then _ else _)=_;rw[Dt hb,h];rfl
 have hpf:Nj Of w' O2 w':=fun b k u h hc=>⟨hnone b k h,hc⟩
 have hbcnt:bxs.length=(La sg.Js 0).length:=b1;let bi:Nat->Nat:=fun j=>(La sg.Js 0).getD j 0;let bval:Nat->Value:=fun j=>innerS w (sg.Js.getD (bi j) (.agg [])) (av.getD (bi j) undef);let HV:=Xa w' (fun k=>innerS w' (sg.J7.getD k (.agg [])) (us.getD k undef)) (b2 d) 16 sg.J7 rs 0++Va (MM fet) w' bval (rs.drop sg.J7.length) bxs 0;have hHVf:HV.map (·.1)=((KA (b2 d) 16 sg.J7 rs 0).2.2++(KR (MM fet) (rs.drop sg.J7.length) bxs 0).2.2).map (·.1):=by simp only[HV,EY,Akx,Ad7]
 have hHVn:nodup (HV.map (·.1))=true:=by rw[hHVf];exact hnd
 let m2:Nat->Value:=fun i=>(eF HV i).getD (m i);have hm2: ∀ p∈HV,m2 p.1=p.2:=by intro p hp;show(eF HV p.1).getD _=_;rw[AnN hHVn p hp];rfl
 let Nw:Nat->Prop:=fun i=> ∃ p∈(KA (b2 d) 16 sg.J7 rs 0).2.2++(KR (MM fet) (rs.drop sg.J7.length) bxs 0).2.2,p.1=i;have hNw: ∀ i,Nw i->Qu {st with Jp:=JC st.Jp upd} i:=by rintro i ⟨p,hp,rfl⟩;exact(Nl (hfr p hp)).frz g3
 have hm2not: ∀ i,¬ Nw i->m2 i=m i:=by
  intro i hi;show(eF HV i).getD _=_;rw[Al5 (fun h=> ?_)]
  .rfl
  .rw[hHVf]at h;obtain⟨p,hp,hpe⟩:=DF.1 h;exact hi ⟨p,hp,hpe⟩
 have hrres: ∀ j,j<sg.J7.length-> ∀ b k i,i<255->Of b k=some (256000+256*(0+j)+i)->O2 b k=some (b2 d+16*(0+j)+i):=by
  intro j hj b k i hi h;rw[hsome b k _ h (by omega)];unfold yY;rw[AvI,DR];have e1:(256000+256*j+i - 256000) / 256=j:=by omega
  have e2:(256000+256*j+i - 256000) % 256=i:=by omega
  rw[e1,e2]
 have hbx: ∀(j:Nat) (p:Nat×Sh),bxs[j]? =some p->(∃ y,Jv st.Jp p.1=some y/\Agt p.2 y)/\(∀ ks,p.2= .box ks->ks.length<=200)/\m p.1=bval j/\IR Of w' (256*bi j) (bval j) (yR (rs.getD (sg.J7.length+j) .undef)) /\
  ∀ b k i,i<255->Of b k=some (256*bi j+i)->O2 b k=some (if i=0 then p.1 else MM fet p.1+i):=by
  intro j p hp;obtain⟨i',a1,a2,a3,s',a7,a4⟩:=b2' j p hp;rw[DR]at a1;have hbi:bi j=i':=by show(La sg.Js 0).getD j 0=_;rw[Dj,a1];rfl
  have c2:=hcame.boxes j i' a1;have hi'x:i'<xs.length:=by rw[g2];exact a2
  have hxv:=hx i' hi'x;have hF':FOk O st.Jp m w fet:=fun q x h=>⟨hf q x h,hS.Jp q x (hf q x h)⟩
  have hkey:(∃ y,Jv st.Jp p.1=some y/\Agt p.2 y)/\(∀ ks,p.2= .box ks->ks.length<=200)/\m p.1=innerS w (sg.Js.getD i' (.agg [])) (av.getD i' undef)/\AbN sg.Js xs i'=some p.1:=by
   obtain⟨q,s⟩:=p;have hs':sg.Js.getD i' (.agg [])=s':=by rw[Dj,a7];rfl
   cases s' with
   | cell _ _=>exact a4.elim
   | agg _=>exact a4.elim
   | box ks =>
    obtain⟨⟨cs0,a4⟩,a5,a6,a8⟩:=a4;dsimp only at a8;subst a8;have e5:xs.getD i' .undef= .ptr q 0:=by rw[Dj,a5];rfl
    rw[e5]at hxv;obtain⟨bk,base,k1,k2,_⟩:=hxv.ptr hF' a4;refine⟨⟨_,hf _ _ a4,trivial⟩,(fun ks' h=>by injection h with h;rw[<- h];exact a6),by rw[hs'];dsimp only at k1 ⊢;rw[k1,k2,Nat.add_zero];rfl,?_⟩;unfold AbN;rw[hs',e5]
   | clo f' ks =>
    obtain⟨⟨cs0,a4⟩,a5,a6,a8⟩:=a4;dsimp only at a8;subst a8;have e5:xs.getD i' .undef= .clo f' q:=by rw[Dj,a5];rfl
    rw[e5]at hxv;have hc:JF O st.Jp m w (av.getD i' undef) (.clo f' q):=hxv;obtain⟨_,p',_,hc2,hc⟩:=hc;rw[hf _ _ a4]at hc;obtain⟨b',base',e1,e2⟩:=hc;have hc:Zu O w f' (av.getD i' undef) (m q):=by rw[e1,<- e2];exact hc2
    refine⟨⟨_,hf _ _ a4,trivial⟩,(fun ks' h=>by injection h with h;rw[<- h];exact a6),by rw[hs'];exact hc.inner.symm,?_⟩;unfold AbN;rw[hs',e5]
   | map kt vt =>
    obtain⟨⟨l,a4⟩,a5,a8⟩:=a4;dsimp only at a8;subst a8;have e5:xs.getD i' .undef= .own q:=by rw[Dj,a5];rfl
    rw[e5]at hxv;have hc:JF O st.Jp m w (av.getD i' undef) (.own q):=hxv;have hc:=hc.2;rw[hf _ _ a4]at hc;refine⟨⟨_,hf _ _ a4,trivial⟩,(fun ks' h=>by cases h),by rw[hs'];exact hc.symm,?_⟩;unfold AbN;rw[hs',e5]
  obtain⟨hky,hk200,hkm,e7⟩:=hkey;refine⟨hky,hk200,?_,?_,fun b k i hi h=> ?_⟩
  .show _=innerS w (sg.Js.getD (bi j) (.agg [])) (av.getD (bi j) undef);rw[hbi];exact hkm
  .show IR Of w' (256*bi j) (innerS w (sg.Js.getD (bi j) (.agg [])) (av.getD (bi j) undef)) _;rw[hbi];exact c2
  .rw[hbi]at h;rw[hsome b k _ h (by omega)];unfold yY;rw[AvH];have e1:(256*i'+i) / 256=i':=by omega
   have e2:(256*i'+i) % 256=i:=by omega
   rw[e1,e2,e7]
 let NEW:=(KA (b2 d) 16 sg.J7 rs 0).2.2++(KR (MM fet) (rs.drop sg.J7.length) bxs 0).2.2;let BX:=(KR (MM fet) (rs.drop sg.J7.length) bxs 0).2.1;let objsF:=JC (Kw (JC st.Jp (upd++BX)) del) NEW;have hnewO: ∀ p∈NEW,Jv objsF p.1=some p.2:=fun p hp=>lY hnd hp
 have hBXk: ∀ i z,(i,z)∈BX-> ∃(j:Nat) (p:Nat×Sh),bxs[j]? =some p/\p.1=i/\ ∃ r,z=(Ox (MM fet p.1) p.2 r).2.1:=by
  intro i z hz
  have: ∀(bs:List (Nat×Sh)) (j0:Nat),(i,z)∈(KR (MM fet) (rs.drop sg.J7.length) bs j0).2.1-> ∃(j:Nat) (p:Nat×Sh),bs[j]? =some p/\p.1=i/\ ∃ r,z=(Ox (MM fet p.1) p.2 r).2.1:=by
   intro bs
   induction bs with
   | nil=>intro j0 h;simp [KR]at h
   | cons b bs ih =>
    intro j0 h;obtain⟨q,ks⟩:=b;simp only[KR]at h;rcases Dz.1 h with h | h
    .injection h with h1 h2;exact⟨0,(q,ks),rfl,h1.symm,_,h2⟩
    .obtain⟨j,p,h1,h2⟩:=ih (j0+1) h;exact⟨j+1,p,by simpa using h1,h2⟩
  exact this bxs 0 hz
 have hupdk: ∀ i z,(i,z)∈upd->(∃ e l f,z= .arr e true l/\Jv st.Jp i=some (.arr e f l))/\Jv (JC st.Jp upd) i=some z:=by intro i z hz;obtain⟨e,fz,l,k1,k2⟩:=g3 _ hz;dsimp only at k1 k2;refine⟨⟨e,l,fz,k2,k1⟩,?_⟩;obtain⟨x,hx1,hx2⟩:=OO upd st.Jp i ⟨(i,z),hz,rfl⟩;obtain⟨e',fz',l',k3,k4⟩:=g3 _ hx1;dsimp only at k3 k4;rw[k1]at k3;injection k3 with k3;injection k3 with q1 q2 q3;subst q1;subst q3;rw[hx2,k4,k2]
 have hnoBX: ∀ i,(∃ e f l,Jv st.Jp i=some (.arr e f l))-> ∀ y,(i,y)∉BX:=by rintro i ⟨e,f',l,h⟩ y hy;obtain⟨j,p,h1,h2,_⟩:=hBXk i y hy;obtain⟨⟨y',h3,h4⟩,_⟩:=hbx j p h1;rw[h2,h]at h3;injection h3 with h3;subst h3;exact wO h4
 have hTiff: ∀ i,T i->i∈del\/ ∃ y,(i,y)∈BX:=by
  rintro i ⟨n,hn'⟩;have h1:(i,n)∈N:=vY hn';have h2:=(g4 i).2 (DF.2 ⟨_,h1,rfl⟩);rcases DU.1 h2 with h2 | h2
  .exact .inl h2
  .right;rw[<- Afx (MM fet) (rs.drop sg.J7.length) bxs 0]at h2;obtain⟨q,hq1,hq2⟩:=DF.1 h2;exact⟨q.2,by rw[<- hq2];exact hq1⟩
 have hget: ∀ i z,Jv objsF i=some z->(i,z)∈NEW\/(¬ Nw i/\i∉del/\((i,z)∈BX\/((∀ y,(i,y)∉BX)/\Jv (JC st.Jp upd) i=some z))):=by
  intro i z hz;rcases WZ hz with h | ⟨hno,hnd',h⟩
  .exact .inl h
  .have hni: ¬ Nw i:=by rintro ⟨p,hp,rfl⟩;exact hno p.2 hp
   refine .inr ⟨hni,hnd',?_⟩;rcases h with h | ⟨h1,h2⟩
   .rcases DU.1 h with h | h
    .obtain⟨⟨e,l,f',h3,h4⟩,h5⟩:=hupdk i z h;exact .inr ⟨hnoBX i ⟨e,f',l,h4⟩,h5⟩
    .exact .inl h
   .right;refine⟨fun y hy=>h1 y (DC _ hy),?_⟩;rw[MI _ _ _ (fun p hp e=>h1 p.2 (DD _ (by rw[<- e];exact hp)))];exact h2
 have hbxst: ∀ i z,(i,z)∈BX-> ∃ y,Jv st.Jp i=some y/\Jv (JC st.Jp upd) i=some y/\y.shp=z.shp:=by
  intro i z hz;obtain⟨j,p,h1,h2,r,h4⟩:=hBXk i z hz;obtain⟨⟨y,h3,h5⟩,_⟩:=hbx j p h1;rw[h2]at h3;refine⟨y,h3,?_,by rw[h4];exact Aog h5⟩;rw[MI _ _ _ (fun p hp e=> ?_)]
  .exact h3
  .obtain⟨⟨e1,e2,e3,_,h6⟩,_⟩:=hupdk p.1 p.2 hp;rw[e,h3]at h6;injection h6 with h6;rw[h6]at h5;exact wO h5
 have hE:Rz (JC st.Jp upd) m objsF m2 Nw:=by
  intro i z hz;rcases hget i z hz with h | ⟨h1,h2,h | ⟨h3,h4⟩⟩
  .exact .inl ⟨_,h,rfl⟩
  .obtain⟨y,h5,h6,h7⟩:=hbxst i z h;exact .inr ⟨y,h6,h7,hm2not i h1⟩
  .exact .inr ⟨z,h4,rfl,hm2not i h1⟩
 obtain⟨r1,r2,r3⟩:=AbI (objs':=objsF) (m':=m2) (cid:=256000) (cst:=256) (id:=b2 d) (stride:=16) (f:=fun k=>us.getD k undef) (g:=fun k=>innerS w' (sg.J7.getD k (.agg [])) (us.getD k undef)) (rs:=rs) hpf hnone sg.J7 0 (fun j _=>by rw[DR]) (fun j hj=>by have:=hus3 j (by rw[hus1];exact hj);rw[DR];exact this) hrres hokD (fun p hp=>hnewO p (DD _ hp)) (fun p hp=>hm2 p (DD _ hp))
 obtain⟨s1,s2⟩:=Ad8 (rb:=MM fet) (objs':=objsF) (m':=m2) (val:=bval) (cid:=fun j=>256*bi j) (rs:=rs.drop sg.J7.length) hpf hnone bxs 0 (fun j p hp=>by
  obtain⟨⟨y0,h0,h0'⟩,h1,h2,h4,h5⟩:=hbx j p hp
  have hni: ¬ Nw p.1:=fun h=>by
   have:=(hNw p.1 h).Jp;dsimp only at this;rw[MI _ _ _ (fun p' hp' e=> ?_)]at this
   .rw[h0]at this;cases this
   .obtain⟨⟨e1,e2,e3,_,h6⟩,_⟩:=hupdk p'.1 p'.2 hp';rw[e,h0]at h6;injection h6 with h6;rw[h6]at h0';exact wO h0'
  rw[DR];refine⟨h1,by rw[hm2not _ hni];exact h2,?_,h5⟩;rw[Dj,Gi,<- Dj];exact h4) hokC (fun p hp=>hnewO p (DC _ hp)) (fun p hp=>hm2 p (DC _ hp))
 let vsR:=(KA (b2 d) 16 sg.J7 rs 0).2.1
 have hval:J8 O2 objsF m2 w' v (Agx vsR):=by
  have hlen:vsR.length=us.size:=by rw[r1,hus1]
  rw[hus2];by_cases h1:us.size=1
  .rw[GZ h1];obtain⟨x,hx'⟩: ∃ x,vsR=[x]:=Fv.1 (by rw[hlen];exact h1);rw[hx'];have:=(r2 0 (by rw[<- hus1];omega)).1;have e1:(KA (b2 d) 16 sg.J7 rs 0).2.1.getD 0 .undef=x:=by show vsR.getD 0 .undef=x;rw[hx'];rfl
   rw[e1]at this;have e2:us.getD (0+0) undef=us[0]:=by simp [Dn,show 0<us.size from by omega]
   rw[<- e2];exact this
  .rw[dif_neg h1]
   have e1:Agx vsR= .tup vsR:=by
    cases hv':vsR with
    | nil=>rfl
    | cons x l =>
     cases l with
     | nil=>rw[hv']at hlen;simp at hlen;omega
     | cons _ _=>rfl
   rw[e1];refine⟨us,rfl,hlen.symm,fun j hj=> ?_⟩;have hj':j<sg.J7.length:=by rw[<- r1];exact hj
   have:=r2 j hj';rw[DR]at this;exact this.1.Aul this.2
 refine hn O2 m2 _ _ ?_;refine hS1.next (T:=T) (Nw:=Nw) (x:=Agx vsR) hM hP2 hless2 hE (fun n hn'=>(hNw n hn').both) (fun q hq=> ?_) (fun i z hz=> ?_) rfl (fun _=>hval)
 .obtain⟨n,hn'⟩:=hq;have h1:(q,n)∈N:=vY hn';have h2:=halive _ h1;obtain⟨y,hy⟩:=Ez.1 h2;have h3:=hf _ _ hy;by_cases hu: ∃ p∈upd,p.1=q
  .obtain⟨x,_,hx2⟩:=OO upd st.Jp q hu;exact Ez.2 ⟨x,hx2⟩
  .dsimp only;rw[MI _ _ _ (fun p hp e=>hu ⟨p,hp,e⟩)];exact Ez.2 ⟨y,h3⟩
 .rcases hget i z hz with h | ⟨h1,h2,h | ⟨h3,h4⟩⟩
  .right;refine⟨?_,(hNw i ⟨_,h,rfl⟩).ne⟩;rcases DU.1 h with h | h
   .exact r3 _ h
   .exact s2 _ h
  .right;obtain⟨y,h5,h6,_⟩:=hbxst i z h;exact⟨s1 _ h,hS.ids i _ h5⟩
  .left;refine⟨fun ht=> ?_,h4,hm2not i h1⟩;rcases hTiff i ht with h | ⟨y,hy⟩
   .exact h2 h
   .exact h3 y hy
theorem AbQ {c:Call} {f:Nat} {sg:Sig} {x0:Operand} {caps av:Array Value} (hS:Sim V0 O0 w0 O m st a w) (ho:o.op= .call c) (hcal:c.callee= .value x0) (hev:a.eval x0= .func (.func f) #[] caps) (hav:c.args.map a.eval++caps=av) (hsp:Spec P f sg) {d:Nat} {fet:Fet} (hf:OL st.Jp fet) {xs:List A}
 (hl:xs.length=av.size) (hx: ∀ j,j<xs.length->J8 O st.Jp m w (av.getD j undef) (xs.getD j .undef))
 (hok:J5 (OE fet d sg xs).ok) (hfr: ∀ p∈(OE fet d sg xs).new,st.fresh p.1=true) (hnd:nodup ((OE fet d sg xs).new.map (·.1))=true):Good P V0 O0 w0 (apply st o (OE fet d sg xs)) o a w:=by
 intro next Q hn
 unfold Oper.wp;have hexec:(execOp a.eval o).run P w= .ok (.enter f av) w:=by simp only[execOp,ho,resolve,hcal,hev,Deferred.ofValue,D8,Sem.run_pure,Result.andThen_ok,invoke];have:=hsp.1 av w;simpa [hav]using this
 rw[hexec,Oper.upon_enter];exact AeN (o:=o) (X:=fun R=>Calls P f av w fun e w'=> ∃ v,e= .returned v/\R v w') hS (fun R O xs rs _ h1 h2 h3 h4 h5 h6 h7=>(hsp.2 O w av xs rs h1 h2 h3 h4 h5 h6).mono fun e w' ⟨v,O',he,hc⟩=>⟨v,he,h7 v O' w' hc⟩) hf hl hx hok hfr hnd (fun v w'=>next (a.put o.dst v) w') (fun O' m' v w' h=>hn O' m' _ w' h) |>.mono (by rintro e w' ⟨v,rfl,h⟩;exact h)
theorem AeO {c:Call} {f:Nat} {sg:Sig} {x0:Operand} (hS:Sim V0 O0 w0 O m st a w) (ho:o.op= .call c) (hcal:c.callee= .value x0) (hev:a.eval x0= .func (.func f) #[] #[]) (hsp:Spec P f sg) {d:Nat} {fet:Fet} (hf:OL st.Jp fet) {xs:List A}
 (hl:xs.length=c.args.size) (hx: ∀ j,j<xs.length->J8 O st.Jp m w (a.eval (c.args.getD j (.tmp 0))) (xs.getD j .undef))
 (hok:J5 (OE fet d sg xs).ok) (hfr: ∀ p∈(OE fet d sg xs).new,st.fresh p.1=true) (hnd:nodup ((OE fet d sg xs).new.map (·.1))=true):Good P V0 O0 w0 (apply st o (OE fet d sg xs)) o a w:=by
 refine AbQ (av:=c.args.map a.eval) hS ho hcal hev (by simp) hsp hf (by simpa using hl) (fun j hj=> ?_) hok hfr hnd;have hjs:j<c.args.size:=by rw[<- hl];exact hj
 have e:(c.args.map a.eval).getD j undef=a.eval (c.args.getD j (.tmp 0)):=by simp [Dn,hjs]
 rw[e];exact hx j hj
end
section
variable {P:Program} {C:Ctx} {V0:Nat->Value} {O0 O:Own} {w0 w:World} {m:Nat->Value} {st:St} {a:Act} {o:Oper}
theorem AlY {cs:List A} {r:Nat} (h:AlX cs=some r):cs=[.ptr r 0]:=by unfold AlX at h;all_goals grind[split]
theorem Apl {f:Nat} {x:Operand} (hS:Sim V0 O0 w0 O m st a w) (ho:o.op= .makeFunc (.func f) #[] #[x]) {fet:Fet} (hf:OL st.Jp fet) {x':A} (hx:J8 O st.Jp m w (a.eval x) x') (hok:J5 (AdK fet f x').ok) :
 Good P V0 O0 w0 (apply st o (AdK fet f x')) o a w:=by
 intro next Q hn
 have hF:FOk O st.Jp m w fet:=fun q x h=>⟨hf q x h,hS.Jp q x (hf q x h)⟩
 cases x' with
 | ptr q off =>
  unfold AdK at hok hn;dsimp only at hok hn;obtain⟨cs,hb,he⟩:=JL hok;rw[he]at hok hn;clear he;obtain⟨r,hr,he⟩:=JL hok;rw[he]at hok hn;clear he;have h0:=Dp hok.cons.1;subst h0;obtain rfl:=AlY hr;obtain⟨b,base,g1,g2,g3⟩:=hx.ptr hF (KX hb);obtain⟨k1,k2,u,k3,k4⟩:=g3 0 (by simp);rw[Nat.add_zero]at k1 k3 g2;let O':Own:=fun b' k'=>if b'=b/\k'=base then none else O b' k';have hO': ∀ b' k',O' b' k'=if b'=b/\k'=base then none else O b' k':=fun _ _=>rfl;have hrun:(execOp a.eval o).run P w= .ok (.value (.func (.func f) #[] #[a.eval x])) w:=by simp [execOp,ho,Instr.makeFunc]
  unfold Oper.wp;rw[hrun,Oper.upon_value];refine hn O' m _ _ ?_;have hP:Passes O O' (· =q) w.heap.size:=by refine⟨fun b' k' _ h=> ?_,fun b' k' o' _ h ht=> ?_⟩;all_goals grind[split]
  have hget: ∀ i y,Jv (apply st o {ok:=[Nat.beq 0 0],val:=.clo (f+1) r,del:=[q]}).Jp i=some y->i≠q/\Jv st.Jp i=some y:=by
   intro i y hy;rcases WZ hy with h | ⟨_,h2,h | ⟨_,h⟩⟩
   .cases h
   .cases h
   .exact⟨fun e=>h2 (by rw[e];exact Du),h⟩
  refine hS.next (T:=(· =q)) (Nw:=fun _=>False) (Moves.refl O _ w) hP (fun b' k' _ h h'=>h (by rw[hO',h'];split<;>rfl)) (fun i y hy=>.inr ⟨y,(hget i y hy).2,rfl,rfl⟩) (fun _ h=>h.elim)
   (fun o' h=>by rw[h,hf _ _ (KX hb)];rfl) (fun i y hy=>.inl ⟨(hget i y hy).1,(hget i y hy).2,rfl⟩) rfl (fun _=> ?_)
  show JF O' _ m w _ (.clo (f+1) r);have k4:JF O st.Jp m w u (.ptr r 0):=k4;refine⟨rfl,u,k4.1,⟨b,base,by rw[g2];rfl,by rw[hO',Dw ⟨rfl,rfl⟩],k3⟩,?_⟩;cases hr':Jv (apply st o {ok:=[Nat.beq 0 0],val:=.clo (f+1) r,del:=[q]}).Jp r with
  | none=>trivial
  | some y =>
   have hy:=(hget r y hr').2;cases y with
   | box cs' =>have k4:=k4.2;rw[hy]at k4;exact k4
   | _=>trivial
 | _=>exact(JE hok).elim
theorem Apz {C:Ctx} {d:TypeDesc}: ∀(xs:List (Nat×A)) (cs cs':List A),fill C d xs cs=some cs'-> ∀ i∈cs'.flatMap A.Nc,i∈cs.flatMap A.Nc\/ ∃ x∈xs,i∈x.2.ids:=by
 intro xs
 induction xs with
 | nil=>intro cs cs' h i hi;simp only[fill]at h;injection h with h;rw[h];exact .inl hi
 | cons x xs ih =>
  intro cs cs' h i hi;obtain⟨k,x⟩:=x;simp only[fill]at h;cases hp:yO C d k with
  | none=>rw[hp]at h;cases h
  | some q =>
   obtain⟨off,ti⟩:=q;rw[hp]at h;dsimp only at h;cases hb:(x.isVal&&Nat.beq x.cells.length ti.cs.length&&Nat.ble (off+ti.cs.length) cs.length)with
   | false=>rw[hb]at h;cases h
   | true =>
    rw[hb]at h;simp only[cond_true]at h;simp only[Dq]at hb;rcases ih _ _ h i hi with h1 | ⟨y,h1,h2⟩
    .unfold splice at h1;simp only[Gf,DU]at h1;rcases h1 with (h1 | h1) | h1
     .left;obtain⟨c,hc,hci⟩:=DX.1 h1;exact DX.2 ⟨c,Gn hc,hci⟩
     .right;refine⟨(k,x),Du,?_⟩;obtain⟨c,hc,hci⟩:=DX.1 h1;obtain⟨j,hj,rfl⟩:=F9.1 hc;all_goals grind[tK]
     .left;obtain⟨c,hc,hci⟩:=DX.1 h1;exact DX.2 ⟨c,Ie hc,hci⟩
    .exact .inr ⟨y,Dy _ h1,h2⟩
theorem Apg {t n:Nat} {ps:Array (Nat×Operand)} (hC:TOk P C) (hS:Sim V0 O0 w0 O m st a w) {d:Tmp} (hd:o.dst=some d) (ho:o.op= .buildSlice t n ps) {xs:List (Nat×A)}
 (hl:xs.length=ps.size) (hx: ∀(j:Nat) (x:Nat×A) (p:Nat×Operand),xs[j]? =some x->ps[j]? =some p->p.1=x.1/\J8 O st.Jp m w (a.eval p.2) x.2)
 (hids: ∀ x∈xs,∀ i∈x.2.ids,i∈st.ids\/(Jv st.Jp i).isSome)
 (hok:J5 (sZ C d t n xs).ok) (hfr: ∀ p∈(sZ C d t n xs).new,st.fresh p.1=true) (hnd:nodup ((sZ C d t n xs).new.map (·.1))=true):Good P V0 O0 w0 (apply st o (sZ C d t n xs)) o a w:=by
 unfold sZ at *
 obtain⟨ti,e,te,ht,hte,hd',he⟩:=WI hok;rw[he]at hok hfr hnd ⊢;clear he;obtain⟨cs,hcs,he⟩:=JL hok;rw[he]at hok hfr hnd ⊢;clear he;obtain⟨h0,h1⟩:=hok.cons;have hn:=DI h1.cons.1;have hk:=Afd h0;have hk1:te.cs.length=1:=by rw[hk];rfl
 have hT:=hC.is hd';obtain⟨i,z,g1,g2,g3,g4,g5,g6⟩:=hT.i;have hu:=(hC.is ht).d;rw[hte]at hu;obtain⟨hz1,hz2⟩:=nU (O:=O) (w:=w) hT (by rw[g1];exact g4) (by rw[hk];rfl) (by rw[hk1];decide) n;rw[hk1,EU]at hz1
 have hz:RN O st.Jp m w (zeros z (n*te.cs.length)) (List.replicate n .LP):=by
  rw[hk1,EU];refine⟨by rw[hz1,Eo],fun j hj=> ?_⟩;rw[Eo]at hj;obtain⟨u,k1,k2⟩:=hz2.2 j 0 (by simpa using hj) (by rw[hk1];decide);rw[hk1,EU,EU,Nat.add_zero]at k1;have e1:(zeros z n).getD j undef=u:=by rw[Dn,k1];rfl
  have e2:(List.replicate n A.LP).getD j .undef= .LP:=by simp [Dj,hj]
  rw[e1,e2];have e3:((List.replicate n (te.cs.map CK.OZ)).getD j []).getD 0 .undef= .LP:=by simp [Dj,hj,hk,CK.OZ,CK.zero]
  rw[e3]at k2;exact k2
 obtain⟨vs',f1,f2⟩:=Ahc (O:=O) (Jp:=st.Jp) (m:=m) (w:=w) hC (d:=.array n e) (place:=fun i=>some (i*te.cs.length,te.cs.length)) (fun i p hp=>by
  simp only[bT,g1,Option.map_some]at hp;rw[<- hp];have:te.cs.length=_:=rfl;simp [g2]) xs (ps.map (fun(i,x)=>(i,a.eval x))).toList _ _ cs (by simp [hl]) (fun j x p hxj hpj=>by
  simp only[Ha,Ed]at hpj;cases hq:ps.toList[j]? with
  | none=>rw[hq]at hpj;cases hpj
  | some q =>rw[hq]at hpj;injection hpj with hpj;subst hpj;exact hx j x q hxj (by simpa using hq)) hz hcs
 refine AeL (ks:=[]) (t:=e) (r:=.slice (some (at' w.heap.size 0)) n n) hS f2 (fun j hj i hi=> ?_) hd ?_ (fun O' objs' m' w' c hc hm=> ?_) hfr hnd
 .rcases Apz _ _ _ hcs i (TP (f:=A.Nc) hj hi)with h | ⟨x,h2,h3⟩
  .obtain⟨c,hc,hci⟩:=DX.1 h;rw[F8 hc]at hci;cases hci
  .exact hids x h2 i h3
 .have hbig: ¬(16777216<n*te.cs.length):=by rw[hk1];omega
  simp only[execOp,ho,D8,Instr.buildSlice,DL hu,Result.andThen_ok,hT.OC];rw[Dt (by simpa using hbig)];by_cases h0:n*te.cs.length=0
  .have hz0:(Array.range (n*te.cs.length)).map ((#[]:Array Value)[· % (#[]:Array Value).size]!)=zeros z (n*te.cs.length):=by simp [zeros,h0]
   simp only[Dw h0,D8,Sem.run_pure,Result.andThen_ok,hz0,f1];rfl
  .simp only[Dt h0,D8,Sem.run_pure,Result.andThen_ok,zeroValue,typeInfo,run_program,g1,g4];have hz0:(Array.range (n*te.cs.length)).map (z.cells[· % z.cells.size]!)=zeros z (n*te.cs.length):=rfl;rw[hz0,f1];rfl
 .show JF O' objs' m' w' _ (.bsl (b2 d) n);refine⟨rfl,?_⟩;rw[hc];exact⟨w.heap.size,0,hm,rfl⟩
end
end Go.Proofs.YtbgjmioccbacdaaGreatDoor.Vm
