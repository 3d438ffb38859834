import Derived.Test.YtpaimpmokhihmaaGreatDoorA8
import Derived.Calls
set_option linter.all false
namespace Go.Proofs.YtpaimpmokhihmaaGreatDoor.Vm
open Classical
def Ah0:Value->Value
 | .func g fi caps=>caps.getD 0 (.func g fi caps)
 | v=>v
def deref (w:World):Value->Value
 | .pointer (some a)=>(w.cell? a).getD undef
 | _=>undef
def innerS (w:World):Sh->Value->Value
 | .clo _ _,v=>deref w (Ah0 v)
 | _,v=>v
def UU.inner {O:Own} {w:World} {k:Nat} {v p:Value} {ks:List (Bool×CK)} (h:UU O w k v p):innerS w (.clo k ks) v=p:=by obtain⟨b,j,h1,_,h3⟩:=h;rw[h1];cases k<;>(show(w.cell? _).getD _=_;rw[h3];rfl)
def LW (w:World) (v:Value):Nat->Value
 | 0=>v
 | x+1=>match v with
  | .agg vs=>vs.getD x undef
  | .pointer (some a)=>(w.cell? (at' a.block (a.off+x))).getD undef
  | _=>undef
section
variable {Oc O':Own} {w:World} {objs':List (Nat×Obj)} {m':Nat->Value}
theorem Kz.carry {Jm:List (Nat×Obj)} {m:Nat->Value} {c i e:Nat} {z:Bool} {l:Sl} (h:Kz Oc Jm m w c (.arr e z l)) (hp:Lt Oc w O' w) (hr: ∀ b k,Oc b k=some c->O' b k=some i) (hn: ∀ b k,Oc b k=none->O' b k=none) (hm:m' i=m c) :
 Kz O' objs' m' w i (.arr e z l):=by
 refine⟨h.1,?_⟩;rcases h.2 with ⟨h1,h2,h3⟩ | ⟨h1,g,cap,cur,h2,h3,h4,h5,h6,h7,h8,h9⟩
 .grind[Obj,Kz,Lt]
 .refine .inr ⟨h1,g,cap,cur,by rw[hm];exact h2,h3,h4,h5,h6,fun r j hr' hj=> ?_,fun k hk hge=>hr _ _ (h8 k hk hge),fun k hk=> ?_⟩
  .obtain⟨u,h10,h11⟩:=h7 r j hr' hj;exact⟨u,h10,h11.JE hp⟩
  .grind[Obj,Kz,Lt]
theorem LP.carry {c i:Nat} {v:Value} {l:Mp} (h:LP Oc w c v l) (hp:Lt Oc w O' w) (hr: ∀ b k,Oc b k=some c->O' b k=some i):LP O' w i v l:=by obtain⟨r,es,ck,h1,h2,h3,h4,h5⟩:=h;refine⟨r,es,ck,h1,h2,hr _ _ h3,h4,fun j p hj=> ?_⟩;obtain⟨e,k1,k2,k3⟩:=h5 j p hj;exact⟨e,k1,k2.JE hp,k3.JE hp⟩
theorem VL {kt vt:Ty} {a:A} (h:a.WZ kt vt=true): ∃ l,a= .ump l/\l.kt=kt/\l.vt=vt:=by
 cases a with
 | ump l =>have h':(decide (l.kt=kt)&&decide (l.vt=vt))=true:=h;all_goals grind[Ty]
 | _=>cases h
theorem Jt.toC {v:Value} {a:A} (h:Jt O' w v a):J4 O' objs' m' w v a:=by cases a<;>first | exact h | (cases h;done)
theorem Acu {id:Nat} {k:CK} {v:Value} {c:A} (h:IC Oc w id v c) (hp:Lt Oc w O' w) (hok:Jv (force k c).1):J4 O' objs' m' w v (force k c).2:=by
 cases c with
 | box cs =>
  cases k with
  | oth=>obtain⟨b,base,h1,_⟩:=h;rw[h1];rfl
  | mp _ _=>have:=hok.cons.1;cases this
  | bx _=>have:=hok.cons.1;cases this
  | _=>have:=hok.cons.1;simp [A.isB,A.isI,A.isS,A.lK,A.YO,A.VK,A.isFn]at this
 | usl z e l =>
  cases k with
  | oth =>
   rcases h.2 with ⟨_,_,h3⟩ | ⟨_,g,cap,cur,h2,_⟩
   .show v.oneCell'=true;have h3:v=_:=h3;rw[h3];rfl
   .show v.oneCell'=true;have h2:v=_:=h2;rw[h2];rfl
  | mp _ _=>have:=hok.cons.1;cases this
  | bx _=>have:=hok.cons.1;cases this
  | _=>have:=hok.cons.1;simp [A.isB,A.isI,A.isS,A.lK,A.YO,A.VK,A.isFn]at this
 | ump l =>
  cases k with
  | oth=>obtain⟨r,_,_,h1,_⟩:=h;rw[h1];rfl
  | mp _ _=>have:=hok.cons.1;cases this
  | bx _=>have:=hok.cons.1;cases this
  | _=>have:=hok.cons.1;simp [A.isB,A.isI,A.isS,A.lK,A.YO,A.VK,A.isFn]at this
 | _=>exact dG (Jt.JE hp h) hok
theorem OD {cid id:Nat} {f:Nat->Value} (hp:Lt Oc w O' w) (hn: ∀ b k,Oc b k=none->O' b k=none): ∀(ks:List (Bool×CK)) (cs:List A) (j0:Nat),(∀ j,j<ks.length->IC Oc w (cid+(j0+j)) (f (j0+j)) (cs.getD (j0+j) .undef)) ->
 (∀ b k x,x<j0+ks.length->Oc b k=some (cid+x)->O' b k=some (id+x))->Jv (J6 id ks cs j0).1->(∀ p∈(J6 id ks cs j0).2.2,Jr objs' p.1=some p.2)->(∀ p∈(J6 id ks cs j0).2.2,∀ x,p.1=id+x->m' p.1=f x) ->
 (J6 id ks cs j0).2.1.length=ks.length/\(∀ j,j<ks.length->J4 O' objs' m' w (f (j0+j)) ((J6 id ks cs j0).2.1.getD j .undef))/\ ∀ p∈(J6 id ks cs j0).2.2,Kz O' objs' m' w p.1 p.2/\ ∃ x,p.1=id+x/\j0<=x/\x<j0+ks.length:=by
 intro ks
 induction ks with
 | nil=>intro cs j0 _ _ _ _ _;exact⟨rfl,fun j hj=>by simp at hj,fun p hp=>by simp [J6]at hp⟩
 | cons k ks ih =>
  intro cs j0 h hr hok hO hm;obtain⟨u,k⟩:=k;have h0:=h 0 (by simp);rw[Nat.add_zero]at h0;have hrest:=fun hok2 hO2 hm2=>ih cs (j0+1) (fun j hj=>by have:=h (j+1) (by simpa using hj);rwa [show j0+(j+1)=j0+1+j from by omega]at this) (fun b k x hx=>hr b k x (by simp only[List.length_cons];omega)) hok2 hO2 hm2;cases u with
  | false =>
   simp only[J6]at hok hO hm ⊢;obtain⟨hok1,hok2⟩:=hok.append;obtain⟨g1,g2,g3⟩:=hrest hok2 hO hm;refine⟨by simp [g1],fun j hj=> ?_,fun p hp=> ?_⟩
   .cases j with
    | zero=>exact Acu h0 hp hok1
    | succ j =>have:=g2 j (by simpa using hj);rw[show j0+(j+1)=j0+1+j from by omega];simpa using this
   .obtain⟨a1,x,a2,a3,a4⟩:=g3 p hp;exact⟨a1,x,a2,by omega,by simp only[List.length_cons];omega⟩
  | true =>
   cases k with
   | sl e sz =>
    simp only[J6]at hok hO hm ⊢;obtain⟨hok1,hok2⟩:=hok.cons;obtain⟨g1,g2,g3⟩:=hrest hok2 (fun p hp=>hO p (Dq _ hp)) (fun p hp=>hm p (Dq _ hp));have hO0:=hO _ Dp;have hm0:=hm _ Dp j0 rfl;dsimp only at hO0 hm0
    have hc:cs.getD j0 .undef= .usl true e (cs.getD j0 .undef).toL:=by
     generalize cs.getD j0 .undef=c at *
     cases c<;>simp only[A.pW]at hok1<;>first | (cases hok1;done) | skip
     simp only[Dn,FD]at hok1;rw[Dk hok1.2.1,<- hok1.1];rfl
    rw[hc]at h0;have hor:Kz O' objs' m' w (id+j0) (.arr e true (cs.getD j0 .undef).toL):=Kz.carry (show Kz Oc [] (fun _=>f j0) w (cid+j0) _ from h0) hp (fun b k hbk=>hr b k j0 (by simp) hbk) hn hm0;refine⟨by simp [g1],fun j hj=> ?_,fun p hp=> ?_⟩
    .cases j with
     | zero =>
      have hone:(f j0).oneCell'=true:=by
       rcases h0.2 with ⟨_,_,h3⟩ | ⟨_,g,cap,cur,h2,_⟩
       .have h3:f j0=_:=h3;rw[h3];rfl
       .have h2:f j0=_:=h2;rw[h2];rfl
      refine⟨hone,?_⟩;show match (Jr objs' (id+j0)).map Obj.shp with | some (.arr _ _)=>_ | some .mp=>_ | _=>True
      rw[hO0];exact hm0.symm
     | succ j =>have:=g2 j (by simpa using hj);rw[show j0+(j+1)=j0+1+j from by omega];simpa using this
    .rcases Dz.1 hp with rfl | hp
     .exact⟨hor,j0,rfl,DR _,by simp⟩
     .obtain⟨a1,x,a2,a3,a4⟩:=g3 p hp;exact⟨a1,x,a2,by omega,by simp only[List.length_cons];omega⟩
   | sln e sz =>
    simp only[J6]at hok hO hm ⊢;obtain⟨hok1,hok2⟩:=hok.cons;obtain⟨g1,g2,g3⟩:=hrest hok2 (fun p hp=>hO p (Dq _ hp)) (fun p hp=>hm p (Dq _ hp));have hO0:=hO _ Dp;have hm0:=hm _ Dp j0 rfl;dsimp only at hO0 hm0
    have hc:cs.getD j0 .undef= .usl false e (cs.getD j0 .undef).toL:=by
     generalize cs.getD j0 .undef=c at *
     cases c<;>simp only[A.pW]at hok1<;>first | (cases hok1;done) | skip
     simp only[Dn,FD]at hok1;rw[Dk hok1.2.1,<- hok1.1];rfl
    rw[hc]at h0;have hor:Kz O' objs' m' w (id+j0) (.arr e false (cs.getD j0 .undef).toL):=Kz.carry (show Kz Oc [] (fun _=>f j0) w (cid+j0) _ from h0) hp (fun b k hbk=>hr b k j0 (by simp) hbk) hn hm0;refine⟨by simp [g1],fun j hj=> ?_,fun p hp=> ?_⟩
    .cases j with
     | zero =>
      have hone:(f j0).oneCell'=true:=by
       rcases h0.2 with ⟨_,_,h3⟩ | ⟨_,g,cap,cur,h2,_⟩
       .have h3:f j0=_:=h3;rw[h3];rfl
       .have h2:f j0=_:=h2;rw[h2];rfl
      refine⟨hone,?_⟩;show match (Jr objs' (id+j0)).map Obj.shp with | some (.arr _ _)=>_ | some .mp=>_ | _=>True
      rw[hO0];exact hm0.symm
     | succ j =>have:=g2 j (by simpa using hj);rw[show j0+(j+1)=j0+1+j from by omega];simpa using this
    .rcases Dz.1 hp with rfl | hp
     .exact⟨hor,j0,rfl,DR _,by simp⟩
     .obtain⟨a1,x,a2,a3,a4⟩:=g3 p hp;exact⟨a1,x,a2,by omega,by simp only[List.length_cons];omega⟩
   | bx t =>
    simp only[J6]at hok hO hm ⊢;obtain⟨hok1,hok2⟩:=hok.cons;obtain⟨g1,g2,g3⟩:=hrest hok2 (fun p hp=>hO p (Dq _ hp)) (fun p hp=>hm p (Dq _ hp));have hO0:=hO _ Dp;have hm0:=hm _ Dp j0 rfl;dsimp only at hO0 hm0;generalize cs.getD j0 .undef=c at *
    cases c with
    | box ds =>
     obtain⟨b,base,e1,e2⟩:=h0;refine⟨by simp [g1],fun j hj=> ?_,fun p hp=> ?_⟩
     .cases j with
      | zero =>
       refine⟨by rw[Nat.add_zero,e1];rfl,?_⟩;show match (Jr objs' (id+j0)).map Obj.shp with | some .box=>_ | _=>True
       rw[hO0];exact⟨b,base,by rw[hm0];exact e1,e1⟩
      | succ j =>have:=g2 j (by simpa using hj);rw[show j0+(j+1)=j0+1+j from by omega];simpa using this
     .rcases Dz.1 hp with rfl | hp
      .refine⟨⟨b,base,by rw[hm0];exact e1,fun j hj=> ?_⟩,j0,rfl,DR _,by simp⟩;obtain⟨a1,a2,u,a3,a4⟩:=e2 j hj;exact⟨hr _ _ _ (by simp) a1,a2,u,a3,(Jt.JE ‹_› a4).toC⟩
      .obtain⟨a1,x,a2,a3,a4⟩:=g3 p hp;exact⟨a1,x,a2,by omega,by simp only[List.length_cons];omega⟩
    | _=>cases hok1
   | mp kt vt =>
    simp only[J6]at hok hO hm ⊢;obtain⟨hok1,hok2⟩:=hok.cons;obtain⟨g1,g2,g3⟩:=hrest hok2 (fun p hp=>hO p (Dq _ hp)) (fun p hp=>hm p (Dq _ hp));have hO0:=hO _ Dp;have hm0:=hm _ Dp j0 rfl;dsimp only at hO0 hm0;generalize cs.getD j0 .undef=c at *
    obtain⟨l,rfl,_,_⟩:=VL hok1;have h0:LP Oc w (cid+j0) (f j0) l:=h0;have h2:LP O' w (id+j0) (f j0) l:=h0.carry hp (fun b k hb=>hr b k j0 (by simp) hb);refine⟨by simp [g1],fun j hj=> ?_,fun p hp=> ?_⟩
    .cases j with
     | zero =>
      refine⟨by obtain⟨r,_,_,h1,_⟩:=h0;rw[Nat.add_zero,h1];rfl,?_⟩;show match (Jr objs' (id+j0)).map Obj.shp with | some (.arr _ _)=>_ | some .mp=>_ | _=>True
      rw[hO0];exact hm0.symm
     | succ j =>have:=g2 j (by simpa using hj);rw[show j0+(j+1)=j0+1+j from by omega];simpa using this
    .rcases Dz.1 hp with rfl | hp
     .refine⟨?_,j0,rfl,DR _,by simp⟩;show LP O' w (id+j0) (m' (id+j0)) l;rw[hm0];exact h2
     .obtain⟨a1,x,a2,a3,a4⟩:=g3 p hp;exact⟨a1,x,a2,by omega,by simp only[List.length_cons];omega⟩
   | _=>have:=hok false (by simp [J6]);cases this
theorem Ae9 {cid id:Nat} {s:Sh} {x:A} {v:Value} (hp:Lt Oc w O' w) (hn: ∀ b k,Oc b k=none->O' b k=none) (h:IR Oc w cid v x) (hr: ∀ b k i,i<255->Oc b k=some (cid+i)->O' b k=some (id+i))
 (hok:Jv (back id s x).1) (hO: ∀ p∈(back id s x).2.2,Jr objs' p.1=some p.2) (hm: ∀ p∈(back id s x).2.2,∀ i,p.1=id+i->m' p.1=LW w (innerS w s v) i) :
 Jy O' objs' m' w v (back id s x).2.1/\ ∀ p∈(back id s x).2.2,Kz O' objs' m' w p.1 p.2:=by
 cases s with
 | cell u k =>
  simp only[back]at hok hO hm ⊢;obtain⟨hok1,hok2⟩:=hok.append;have hpl:=hok2.cons.1
  have hic:IC Oc w cid v x:=by
   have bad: ∀ cs l,x= .agg cs\/x= .box cs\/x= .ump l\/(∃ f,x= .cbx f cs)->False:=by rintro cs l (rfl | rfl | rfl | ⟨f,rfl⟩)<;>(cases u<;>cases k<;>first | (cases hpl;done) | (have:=hok1 false (by simp [J6,force,A.isB,A.isI,A.isS,A.lK,A.YO,A.VK,A.pW,A.isFn]);cases this))
   cases x with
   | agg cs=>exact(bad cs default (.inl rfl)).elim
   | box cs=>exact(bad cs default (.inr (.inl rfl))).elim
   | ump l=>exact(bad [] l (.inr (.inr (.inl rfl)))).elim
   | cbx f cs=>exact(bad cs default (.inr (.inr (.inr ⟨f,rfl⟩)))).elim
   | _=>exact h
  obtain⟨g1,g2,g3⟩:=OD (cid:=cid) (id:=id) (f:=LW w v) hp hn [(u,k)] [x] 0 (fun j hj=>by
   have:j=0:=by simpa using hj
   subst this;exact hic) (fun b k i hi hb=>hr b k i (by simp at hi;omega) hb) hok1 hO hm
  have:=g2 0 (by simp);exact⟨this.toT,fun p hp=>(g3 p hp).1⟩
 | agg ks =>
  simp only[back]at hok hO hm ⊢;obtain⟨hf,hok⟩:=hok.cons;have hf:=D7 hf;obtain⟨hok1,hok2⟩:=hok.cons;cases x with
  | agg cs =>
   obtain⟨vs,h1,h2,h3⟩:=h;have hl:cs.length=ks.length:=by simpa [A.isAgg,Ql]using hok1
   obtain⟨g1,g2,g3⟩:=OD (objs':=objs') (m':=m') (cid:=cid+1) (id:=id+1) (f:=fun j=>vs.getD j undef) hp hn ks cs 0 (fun j hj=>by
    have:=h3 j (by omega);rw[DF];exact this) (fun b k i hi hb=>by
    have:=hr b k (1+i) (by omega) (by rw[<- Eg];exact hb);rw[<- Eg]at this;exact this) hok2 hO (fun p hp i hi=>by
    have:=hm p hp (i+1) (by omega);rw[this,h1];rfl)
   refine⟨⟨vs,h1,?_,fun j hj=> ?_⟩,fun p hp=>(g3 p hp).1⟩
   .show vs.size=(J6 (id+1) ks cs 0).2.1.length;rw[h2,g1,hl]
   .have hj:j<(J6 (id+1) ks cs 0).2.1.length:=hj;rw[g1]at hj;have:=g2 j hj;rwa [DF]at this
  | _=>simp [A.isAgg]at hok1
 | box ks =>
  simp only[back]at hok hO hm ⊢;obtain⟨hf,hok⟩:=hok.cons;have hf:=D7 hf;obtain⟨hok1,hok2⟩:=hok.cons;cases x with
  | box cs =>
   obtain⟨b,base,h1,h2⟩:=h;have h1':LW w v 0= .pointer (some (at' b base)):=by rw[h1];rfl
   have hl:cs.length=ks.length:=by simpa [A.Aab,Ql]using hok1
   have hcell: ∀ j,LW w v (j+1)=(w.cell? (at' b (base+j))).getD undef:=by intro j;rw[h1];rfl
   obtain⟨g1,g2,g3⟩:=OD (objs':=objs') (m':=m') (cid:=cid+1) (id:=id+1) (f:=fun j=>(w.cell? (at' b (base+j))).getD undef) hp hn ks cs 0 (fun j hj=>by
    obtain⟨_,_,u,h5,h6⟩:=h2 j (by omega);rw[DF,h5];exact h6) (fun b k i hi hb=>by
    have:=hr b k (1+i) (by omega) (by rw[<- Eg];exact hb);rw[<- Eg]at this;exact this) hok2 (fun p hp=>hO p (Dq _ hp)) (fun p hp i hi=>by
    have:=hm p (Dq _ hp) (i+1) (by omega);rw[this];exact hcell _)
   have hO0:=hO _ Dp;have hm0:=hm _ Dp 0 rfl;dsimp only at hO0 hm0;refine⟨?_,fun p hp=> ?_⟩
   .show J4 O' objs' m' w v (.ptr id 0);refine⟨by rw[h1];rfl,?_⟩;show match (Jr objs' id).map Obj.shp with | some .box=>_ | _=>True
    rw[hO0];exact⟨b,base,by rw[hm0];exact h1',h1⟩
   .rcases Dz.1 hp with rfl | hp
    .refine⟨b,base,by rw[hm0];exact h1',fun j hj=> ?_⟩;have hj:j<(J6 (id+1) ks cs 0).2.1.length:=hj;rw[g1]at hj;obtain⟨a1,a2,u,a3,_⟩:=h2 j (by omega);have:=g2 j hj;rw[DF,a3]at this;exact⟨by have:=hr b (base+j) 0 (by omega) a1;exact this,a2,u,a3,this⟩
    .exact(g3 p hp).1
  | _=>simp [A.Aab]at hok1
 | clo f' ks =>
  simp only[back]at hok hO hm ⊢;obtain⟨hf,hok⟩:=hok.cons;have hf:=D7 hf;obtain⟨hok1,hok2⟩:=hok.cons;cases x with
  | cbx g cs =>
   have hg:f'=g:=by have h':=hok1;simp only[A.Aac,Dn]at h';exact Dk h'.1
   subst hg;obtain⟨b,base,h1,h2⟩:=h;have h1':LW w (innerS w (.clo f' ks) v) 0= .pointer (some (at' b base)):=h1.inner (ks:=ks);have hl:cs.length=ks.length:=by have h':=hok1;simp only[A.Aac,Dn]at h';exact Dk h'.2
   have hcell: ∀ j,LW w (innerS w (.clo f' ks) v) (j+1)=(w.cell? (at' b (base+j))).getD undef:=by intro j;rw[h1.inner (ks:=ks)];rfl
   obtain⟨g1,g2,g3⟩:=OD (objs':=objs') (m':=m') (cid:=cid+1) (id:=id+1) (f:=fun j=>(w.cell? (at' b (base+j))).getD undef) hp hn ks cs 0 (fun j hj=>by
    obtain⟨_,_,u,h5,h6⟩:=h2 j (by omega);rw[DF,h5];exact h6) (fun b k i hi hb=>by
    have:=hr b k (1+i) (by omega) (by rw[<- Eg];exact hb);rw[<- Eg]at this;exact this) hok2 (fun p hp=>hO p (Dq _ hp)) (fun p hp i hi=>by
    have:=hm p (Dq _ hp) (i+1) (by omega);rw[this];exact hcell _)
   have hO0:=hO _ Dp;have hm0:=hm _ Dp 0 rfl;dsimp only at hO0 hm0;refine⟨?_,fun p hp=> ?_⟩
   .show J4 O' objs' m' w v (.clo f' id);refine⟨by obtain⟨_,_,e,_⟩:=h1;rw[e];cases f'<;>rfl,_,rfl,h1.JE hp,?_⟩;show match (Jr objs' id).map Obj.shp with | some .box=>_ | _=>True
    rw[hO0];exact⟨b,base,hm0.trans h1',rfl⟩
   .rcases Dz.1 hp with rfl | hp
    .refine⟨b,base,by rw[hm0];exact h1',fun j hj=> ?_⟩;have hj:j<(J6 (id+1) ks cs 0).2.1.length:=hj;rw[g1]at hj;obtain⟨a1,a2,u,a3,_⟩:=h2 j (by omega);have:=g2 j hj;rw[DF,a3]at this;exact⟨by have:=hr b (base+j) 0 (by omega) a1;exact this,a2,u,a3,this⟩
    .exact(g3 p hp).1
  | _=>simp [A.Aac]at hok1
 | map kt vt =>
  simp only[back]at hok hO hm ⊢;obtain⟨l,rfl,_,_⟩:=VL hok.cons.1;have hO0:=hO _ Dp;have hm0:=hm _ Dp 0 rfl;dsimp only at hO0 hm0;have h:LP Oc w cid v l:=h;have hm0:m' id=v:=hm0;have h2:LP O' w id v l:=h.carry hp (fun b k hb=>hr b k 0 (by omega) hb);refine⟨?_,fun p hp=> ?_⟩
  .show J4 O' objs' m' w v (.own id);refine⟨by obtain⟨r,_,_,h1,_⟩:=h;rw[h1];rfl,?_⟩;rw[hO0];exact hm0.symm
  .obtain rfl:p=(id,.mp l):=Ee.1 hp;show LP O' w id (m' id) l;rw[hm0];exact h2
end
def AiC (k:Nat):Nat:=256000+256*k
def qR:A->A
 | .agg cs=>.box cs
 | a=>a
def KF:List Sh->Nat->List Nat
 | [],_=>[]
 | s::ss,i=>bif JR s then i::KF ss (i+1)else KF ss (i+1)
structure Came (O:Own) (w:World) (vs:Array Value) (sg:Sig) (rs:List A) (v:Value) (O':Own) (w':World):Prop where
 moves:Moves O (fun o=>o≠255) w w'
 less: ∀ b k,b<w.heap.size->O' b k≠none->O b k≠none
 VM: ∀ b k,b<w.heap.size->O b k=some 255->O' b k=some 255
 count:rs.length=sg.Jz.length+(KF sg.Jp 0).length
 res: ∃ us:Array Value,us.size=sg.Jz.length/\v=(if h:us.size=1 then us[0]else .tuple us)/\ ∀ k,k<us.size->IR O' w' (AiC k) (us.getD k undef) (rs.getD k .undef)
 boxes: ∀ j i,(KF sg.Jp 0)[j]? =some i->IR O' w' (256*i) (innerS w (sg.Jp.getD i (.agg [])) (vs.getD i undef)) (qR (rs.getD (sg.Jz.length+j) .undef))
def Spec (P:Program) (f:FuncId) (sg:Sig):Prop :=
 (∀ args w,(callFunc f args).run P w= .ok (.enter f args) w) /\
 ∀(O:Own) (w:World) (vs:Array Value) (xs rs:List A),Inv O w->vs.size=xs.length->xs.length=sg.Jp.length->xs.length<=100->(∀ j,j<xs.length->IR O w (256*j) (vs.getD j undef) (xs.getD j .undef))->sg.F xs=some rs ->
  Calls P f vs w fun e w'=> ∃ v O',e= .returned v/\Came O w vs sg rs v O' w'
section
variable {P:Program} {C:Ctx} {V0:Nat->Value} {O0 O:Own} {w0 w:World} {m:Nat->Value} {st:St} {a:Act} {o:Oper}
def Rk (w:World) (f:Nat->Value) (id stride:Nat):List Sh->List A->Nat->List (Nat×Value)
 | [],_,_=>[]
 | s::ss,rs,j=>(back (id+stride*j) s (rs.getD j .undef)).2.2.map (fun p=>(p.1,LW w (f j) (p.1 - (id+stride*j))))++Rk w f id stride ss rs (j+1)
theorem Adh (w:World) (f:Nat->Value) (id stride:Nat): ∀(ss:List Sh) (rs:List A) (j:Nat),(Rk w f id stride ss rs j).map (·.1)=(Ko id stride ss rs j).2.2.map (·.1):=by
 intro ss
 induction ss with
 | nil=>intro rs j;rfl
 | cons s ss ih=>intro rs j;simp [Rk,Ko,ih]
theorem Afd {k:CK} {c:A} (hp:k.plain=true) (h:Jv (force k c).1):(force k c).2.isVal=true:=by
 cases k<;>first
  | (cases hp;done)
  | (have h1:=h.cons.1;cases c<;>first | rfl | (cases h1;done))
theorem mZ {Oc O':Own} {objs':List (Nat×Obj)} {m':Nat->Value} {cid cst id stride:Nat} {f g:Nat->Value} {rs:List A} (hp:Lt Oc w O' w) (hn: ∀ b k,Oc b k=none->O' b k=none): ∀(ss:List Sh) (j0:Nat),(∀ j,j<ss.length->g (j0+j)=innerS w (ss.getD j (.agg [])) (f (j0+j))) ->
 (∀ j,j<ss.length->IR Oc w (cid+cst*(j0+j)) (f (j0+j)) (rs.getD (j0+j) .undef))->(∀ j,j<ss.length-> ∀ b k i,i<255->Oc b k=some (cid+cst*(j0+j)+i)->O' b k=some (id+stride*(j0+j)+i)) ->
 Jv (Ko id stride ss rs j0).1->(∀ p∈(Ko id stride ss rs j0).2.2,Jr objs' p.1=some p.2)->(∀ p∈Rk w g id stride ss rs j0,m' p.1=p.2) ->
 (Ko id stride ss rs j0).2.1.length=ss.length/\(∀ j,j<ss.length->Jy O' objs' m' w (f (j0+j)) ((Ko id stride ss rs j0).2.1.getD j .undef)/\((Ko id stride ss rs j0).2.1.getD j .undef).isVal=true) /\
   ∀ p∈(Ko id stride ss rs j0).2.2,Kz O' objs' m' w p.1 p.2:=by
 intro ss
 induction ss with
 | nil=>grind[Ko]
 | cons s ss ih =>
  intro j0 hg h hr hok hO hm;simp only[Ko]at hok hO ⊢;simp only[Rk]at hm;obtain⟨hok1,hok2⟩:=hok.append
  obtain⟨g1,g2,g3⟩:=ih (j0+1) (fun j hj=>by have:=hg (j+1) (by simpa using hj);rwa [show j0+(j+1)=j0+1+j from by omega]at this) (fun j hj=>by have:=h (j+1) (by simpa using hj);rwa [show j0+(j+1)=j0+1+j from by omega]at this)
   (fun j hj=>by have:=hr (j+1) (by simpa using hj);rwa [show j0+(j+1)=j0+1+j from by omega]at this) hok2 (fun p hp=>hO p (Dy _ hp)) (fun p hp=>hm p (Dy _ hp))
  have h0:=h 0 (by simp);have hr0:=hr 0 (by simp);have hg0:g (j0+0)=innerS w s (f (j0+0)):=hg 0 (by simp);rw[Nat.add_zero]at h0 hr0 hg0;obtain⟨k1,k2⟩:=Ae9 (id:=id+stride*j0) (m':=m') (objs':=objs') hp hn h0 hr0 hok1 (fun p hp=>hO p (Dx _ hp)) (fun p hp i hi=>by have:=hm (p.1,LW w (g j0) (p.1 - (id+stride*j0))) (Dx _ (D6.2 ⟨p,hp,rfl⟩));rw[this,hi,Fe,hg0]);refine⟨by simp [g1],fun j hj=> ?_,fun p hp=> ?_⟩
  .cases j with
   | zero =>
    refine⟨k1,?_⟩;show((back (id+stride*j0) s (rs.getD j0 .undef)).2.1).isVal=true;cases s with
    | agg ks=>rfl
    | box ks=>rfl
    | clo f' ks=>rfl
    | map kt vt=>rfl
    | cell u' k =>
     have hpl:k.plain=true:=by simp only[back]at hok1;exact hok1.append.2.cons.1
     cases u' with
     | true=>cases k<;>first | (cases hpl;done) | rfl | (exfalso;have:=hok1 false (by simp [back,J6]);cases this)
     | false =>
      have hf:Jv (force k (rs.getD j0 .undef)).1:=by have h1:=hok1;simp only[back,J6]at h1;exact h1.append.1.append.1
      show(force k (rs.getD j0 .undef)).2.isVal=true;exact Afd hpl hf
   | succ j =>have:=g2 j (by simpa using hj);rw[show j0+(j+1)=j0+1+j from by omega];simpa using this
  .rcases DI.1 hp with hp | hp
   .exact k2 p hp
   .exact g3 p hp
def look (N:List (Nat×Nat)) (q:Nat):Option Nat:=(N.find? (fun p=>p.1==q)).map (·.2)
theorem Abb {N:List (Nat×Nat)} (hnd:nodup (N.map (·.1))=true): ∀ p∈N,look N p.1=some p.2:=by
 induction N with
 | nil=>intro p hp;cases hp
 | cons q N ih =>
  intro p hp;simp only[DY,nodup,Dn,Eo]at hnd;unfold look;rcases Dz.1 hp with rfl | hp
  .simp
  .have hne:q.1≠p.1:=fun e=>by
    have:has (N.map (·.1)) q.1=true:=MZ.2 (D6.2 ⟨p,hp,e.symm⟩);rw[this]at hnd;cases hnd.1
   all_goals grind[nodup,look]
theorem dU {N:List (Nat×Nat)} {q i:Nat} (h:look N q=some i):(q,i)∈N:=by
 unfold look at h;cases hf:N.find? (fun p=>p.1==q)with
 | none=>rw[hf]at h;cases h
 | some p=>grind[look]
def Xa (N:List (Nat×Value)) (q:Nat):Option Value:=(N.find? (fun p=>p.1==q)).map (·.2)
theorem Afr {N:List (Nat×Value)} (hnd:nodup (N.map (·.1))=true): ∀ p∈N,Xa N p.1=some p.2:=by
 induction N with
 | nil=>intro p hp;cases hp
 | cons q N ih =>
  intro p hp;simp only[DY,nodup,Dn,Eo]at hnd;unfold Xa;rcases Dz.1 hp with rfl | hp
  .simp
  .have hne:q.1≠p.1:=fun e=>by
    have:has (N.map (·.1)) q.1=true:=MZ.2 (D6.2 ⟨p,hp,e.symm⟩);rw[this]at hnd;cases hnd.1
   all_goals grind[nodup,Xa]
theorem AdS {N:List (Nat×Value)} {q:Nat} (h:q∉N.map (·.1)):Xa N q=none:=by grind[Xa]
theorem Jy.Ail {Jm:List (Nat×Obj)} {v:Value} {x:A} (h:Jy O Jm m w v x) (hv:x.isVal=true):T1 O Jm m w v x:=by cases x<;>first | (cases hv;done) | exact h
theorem RI {fet:Fet}: ∀(ks:List (Bool×CK)) (cs:List A) (id:Nat),Jv (Ju fet ks cs).1-> ∀ p∈KC id ks cs,(Jr fet p.1).isSome/\ ∃ x,x<ks.length/\p.2=id+x:=by
 intro ks
 induction ks with
 | nil=>intro cs id _ p hp;cases cs<;>simp [KC]at hp
 | cons k ks ih =>
  intro cs id hok p hp;obtain⟨u,k⟩:=k;cases cs with
  | nil=>cases u<;>simp [KC]at hp
  | cons c cs =>
   have step:Jv (Ju fet ks cs).1->p∈KC (id+1) ks cs->(Jr fet p.1).isSome/\ ∃ x,x<((u,k)::ks).length/\p.2=id+x:=by intro h1 h2;obtain⟨h3,x,h4,h5⟩:=ih cs (id+1) h1 p h2;exact⟨h3,x+1,by simpa using h4,by omega⟩
   cases u with
   | false =>
    have hnm:KC id ((false,k)::ks) (c::cs)=KC (id+1) ks cs:=by cases c<;>rfl
    rw[hnm]at hp;simp only[Ju]at hok;exact step hok.append.2 hp
   | true =>
    cases k with
    | sl e sz =>
     cases c with
     | own q =>
      simp only[Ju]at hok;cases hg:Jr fet q with
      | none=>rw[hg]at hok;have:=hok false (by simp);cases this
      | some y =>
       cases y with
       | box _=>rw[hg]at hok;have:=hok false (by simp);cases this
       | mp _=>rw[hg]at hok;have:=hok false (by simp);cases this
       | arr e' fz l =>
        rw[hg]at hok;simp only[KC]at hp;rcases Dz.1 hp with rfl | hp
        .exact⟨by rw[hg];rfl,0,by simp,rfl⟩
        .exact step hok.append.2 hp
     | KD =>simp only[Ju]at hok;exact step hok hp
     | _=>have:=hok false (by simp [Ju]);cases this
    | sln e sz =>
     cases c with
     | own q =>
      simp only[Ju]at hok;cases hg:Jr fet q with
      | none=>rw[hg]at hok;have:=hok false (by simp);cases this
      | some y =>
       cases y with
       | box _=>rw[hg]at hok;have:=hok false (by simp);cases this
       | mp _=>rw[hg]at hok;have:=hok false (by simp);cases this
       | arr e' fz l =>
        rw[hg]at hok;simp only[KC]at hp;rcases Dz.1 hp with rfl | hp
        .exact⟨by rw[hg];rfl,0,by simp,rfl⟩
        .exact step hok.append.2 hp
     | KD =>simp only[Ju]at hok;exact step hok hp
     | _=>have:=hok false (by simp [Ju]);cases this
    | bx t =>
     cases c with
     | ptr q off =>
      simp only[Ju]at hok;cases hg:KT fet q with
      | none=>rw[hg]at hok;have:=hok false (by simp);cases this
      | some zs =>
       rw[hg]at hok;simp only[KC]at hp;rcases Dz.1 hp with rfl | hp
       .exact⟨by rw[KN hg];rfl,0,by simp,rfl⟩
       .exact step hok.cons.2.append.2 hp
     | _=>have:=hok false (by simp [Ju]);cases this
    | mp kt vt =>
     cases c with
     | own q =>
      simp only[Ju]at hok;cases hg:Jr fet q with
      | none=>rw[hg]at hok;have:=hok false (by simp);cases this
      | some y =>
       cases y with
       | box _=>rw[hg]at hok;have:=hok false (by simp);cases this
       | arr _ _ _=>rw[hg]at hok;have:=hok false (by simp);cases this
       | mp l =>
        rw[hg]at hok;simp only[KC]at hp;rcases Dz.1 hp with rfl | hp
        .exact⟨by rw[hg];rfl,0,by simp,rfl⟩
        .exact step hok.append.2 hp
     | _=>have:=hok false (by simp [Ju]);cases this
    | _=>have:=hok false (by simp [Ju]);cases this
theorem Abg {fet:Fet} {s:Sh} {x:A} {id:Nat} (hok:Jv (JD fet s x).ok): ∀ p∈MK fet id s x,(Jr fet p.1).isSome/\ ∃ i,p.2=id+i/\(i<202\/(∃ ks,s= .agg ks)):=by
 intro p hp;cases s with
 | cell u k =>
  simp only[MK]at hp
  have hh:Jv (Ju fet [(u,k)] [x]).1:=by
   unfold JD at hok;dsimp only at hok;generalize Ju fet [(u,k)] [x]=r at *
   obtain⟨ok,cs,upd,del⟩:=r;cases cs with
   | nil=>have:=hok false (by simp);cases this
   | cons c cs =>
    cases cs with
    | nil=>exact hok
    | cons _ _=>have:=hok false (by simp);cases this
  obtain⟨h1,i,h2,h3⟩:=RI _ _ _ hh p hp;exact⟨h1,i,h3,.inl (by simp at h2;omega)⟩
 | agg ks =>
  cases x with
  | agg cs =>simp only[MK]at hp;obtain⟨h1,i,h2,h3⟩:=RI _ _ _ (show Jv (Ju fet ks cs).1 from hok) p hp;exact⟨h1,1+i,by omega,.inr ⟨ks,rfl⟩⟩
  | _=>cases hp
 | box ks =>
  cases x with
  | ptr q off =>
   simp only[MK]at hp;unfold JD at hok;dsimp only at hok;cases hg:KT fet q with
   | none=>rw[hg]at hok;have:=hok false (by simp);cases this
   | some cs =>
    rw[hg]at hok hp;dsimp only at hok hp;obtain⟨_,hokA⟩:=hok.cons;obtain⟨hf,hokB⟩:=hokA.cons;have hf:=D7 hf;rcases Dz.1 hp with rfl | hp
    .exact⟨by rw[KN hg];rfl,0,rfl,.inl (by omega)⟩
    .obtain⟨h1,i,h2,h3⟩:=RI _ _ _ hokB p hp;exact⟨h1,1+i,by omega,.inl (by omega)⟩
  | _=>cases hp
 | clo f' ks =>
  cases x with
  | clo g q =>
   simp only[MK]at hp;unfold JD at hok;dsimp only at hok;cases hg:KT fet q with
   | none=>rw[hg]at hok;have:=hok false (by simp);cases this
   | some cs =>
    rw[hg]at hok hp;dsimp only at hok hp;obtain⟨_,hokA⟩:=hok.cons;obtain⟨hf,hokB⟩:=hokA.cons;have hf:=D7 hf;rcases Dz.1 hp with rfl | hp
    .exact⟨by rw[KN hg];rfl,0,rfl,.inl (by omega)⟩
    .obtain⟨h1,i,h2,h3⟩:=RI _ _ _ hokB p hp;exact⟨h1,1+i,by omega,.inl (by omega)⟩
  | _=>cases hp
 | map kt vt =>
  cases x with
  | own q =>
   obtain rfl:p=(q,id):=by simpa [MK]using hp
   unfold JD at hok;dsimp only at hok;cases hg:Jr fet q with
   | none=>rw[hg]at hok;have:=hok false (by simp);cases this
   | some y=>exact⟨rfl,0,rfl,.inl (by omega)⟩
  | _=>cases hp
theorem Ux {fet:Fet} {stride:Nat}: ∀(ss:List Sh) (xs:List A) (id:Nat),Jv (J8 fet ss xs).1-> ∀ p∈LK fet id stride ss xs,(Jr fet p.1).isSome:=by
 intro ss
 induction ss with
 | nil=>intro xs id _ p hp;cases xs<;>simp [LK]at hp
 | cons s ss ih =>
  intro xs id hok p hp;cases xs with
  | nil=>simp [LK]at hp
  | cons x xs =>
   simp only[J8]at hok;obtain⟨h1,h2⟩:=hok.append;rcases DI.1 hp with hp | hp
   .exact(Abg h1 p hp).1
   .exact ih xs _ h2 p hp
theorem Moves.Ahz {ρ :Nat->Option Nat} {w w':World} (h:Moves (Me O ρ) (fun o=>o≠255) w w'):Moves O (fun o=> ∃ i,ρ o=some i) w w':=by
 refine⟨h.os,h.tape,h.output,h.size,fun b hb=> ?_⟩;have un: ∀ k i,Me O ρ b k=some i->i≠255-> ∃ q,O b k=some q/\ ∃ i,ρ q=some i:=by all_goals grind[Me]
 rcases h.blk b hb with he | ⟨c,c',e,fr,h1,h2,h3,h4,k,q,h5,h6,h7⟩ | ⟨es,ck,es',ck',q,h1,h2,h3,h4⟩
 .exact .inl he
 .refine .inr (.inl ⟨c,c',e,fr,h1,h2,h3,fun k hk=>h4 k (fun i hi hne=> ?_),k,?_⟩)
  .obtain⟨q,hq,hρ⟩:=un k i hi hne;exact hk q hq hρ
  .simp_all[un,Me]
 .simp_all[un,Me]
end
section
variable {P:Program} {C:Ctx} {V0:Nat->Value} {O0 O:Own} {w0 w:World} {m:Nat->Value} {st:St} {a:Act} {o:Oper}
def Ah2 (fet:Fet) (p:Nat×Sh) (x:Option A):Sh->Prop
 | .box ks=>(∃ cs,Jr fet p.1=some (.box cs))/\x=some (.ptr p.1 0)/\ks.length<=200/\p.2= .box ks
 | .clo k ks=>(∃ cs,Jr fet p.1=some (.box cs))/\x=some (.clo k p.1)/\ks.length<=200/\p.2= .box ks
 | .map kt vt=>(∃ l,Jr fet p.1=some (.mp l))/\x=some (.own p.1)/\p.2= .map kt vt
 | _=>False
theorem Agd {fet:Fet} {stride:Nat}: ∀(ss:List Sh) (xs:List A) (id i0:Nat),Jv (J8 fet ss xs).1 ->
 (J8 fet ss xs).2.2.2.2.length=(KF ss i0).length/\ ∀(j:Nat) (p:Nat×Sh),(J8 fet ss xs).2.2.2.2[j]? =some p-> ∃ i,(KF ss i0)[j]? =some (i0+i)/\i<ss.length/\(p.1,id+stride*i)∈LK fet id stride ss xs/\ ∃ s,ss[i]? =some s/\Ah2 fet p xs[i]? s:=by
 intro ss
 induction ss with
 | nil=>intro xs id i0 hok;cases xs with
  | nil=>exact⟨rfl,fun j p h=>by simp [J8]at h⟩
  | cons _ _=>have:=hok false (by simp [J8]);cases this
 | cons s ss ih =>
  intro xs id i0 hok;cases xs with
  | nil=>have:=hok false (by simp [J8]);cases this
  | cons x xs =>
   simp only[J8]at hok ⊢;obtain⟨h1,h2⟩:=hok.append;obtain⟨g1,g2⟩:=ih xs (id+stride) (i0+1) h2;have hrest: ∀(j:Nat) (p:Nat×Sh),(J8 fet ss xs).2.2.2.2[j]? =some p-> ∃ i,(KF ss (i0+1))[j]? =some (i0+i)/\i<(s::ss).length/\(p.1,id+stride*i)∈LK fet id stride (s::ss) (x::xs)/\ ∃ s',(s::ss)[i]? =some s'/\Ah2 fet p (x::xs)[i]? s':=by intro j p hp;obtain⟨i,a1,a2,a3,s',a4,a5⟩:=g2 j p hp;refine⟨i+1,by rw[a1];congr 1;omega,by simpa using a2,Dy _ ?_,s',by simpa using a4,by simpa using a5⟩;rw[show id+stride*(i+1)=id+stride+stride*i from by rw[G7];omega];exact a3
   cases s with
   | box ks =>
    cases x with
    | ptr q off =>
     have hA:Jv (JD fet (.box ks) (.ptr q off)).ok:=h1;unfold JD at h1;dsimp only at h1;cases hg:KT fet q with
     | none=>rw[hg]at h1;have:=h1 false (by simp);cases this
     | some cs =>
      rw[hg]at h1;dsimp only at h1;obtain⟨h3,h4⟩:=h1.cons;obtain⟨h4,_⟩:=h4.cons;have h3:=Dk h3;have h4:=D7 h4;subst h3;have hb:(JD fet (.box ks) (.ptr q 0)).boxes=[(q,.box ks)]:=by unfold JD;dsimp only;rw[hg]
      rw[hb];refine⟨by simp [KF,JR,g1],fun j p hp=> ?_⟩;cases j with
      | zero =>simp at hp;subst hp;exact⟨0,by simp [KF,JR],by simp,Dx _ (by simp [MK]),_,rfl,⟨cs,KN hg⟩,rfl,h4,rfl⟩
      | succ j =>
       have hp':(J8 fet ss xs).2.2.2.2[j]? =some p:=by simpa using hp
       obtain⟨i,a1,a2⟩:=hrest j p hp';exact⟨i,by simpa [KF,JR]using a1,a2⟩
    | _=>have:=h1 false (by simp [JD]);cases this
   | clo f' ks =>
    cases x with
    | clo g q =>
     have hA:Jv (JD fet (.clo f' ks) (.clo g q)).ok:=h1;unfold JD at h1;dsimp only at h1;cases hg:KT fet q with
     | none=>rw[hg]at h1;have:=h1 false (by simp);cases this
     | some cs =>
      rw[hg]at h1;dsimp only at h1;obtain⟨h3,h4⟩:=h1.cons;obtain⟨h4,_⟩:=h4.cons;have h3:=Dk h3;have h4:=D7 h4;subst h3;have hb:(JD fet (.clo f' ks) (.clo f' q)).boxes=[(q,.box ks)]:=by unfold JD;dsimp only;rw[hg]
      rw[hb];refine⟨by simp [KF,JR,g1],fun j p hp=> ?_⟩;cases j with
      | zero =>simp at hp;subst hp;exact⟨0,by simp [KF,JR],by simp,Dx _ (by simp [MK]),_,rfl,⟨cs,KN hg⟩,rfl,h4,rfl⟩
      | succ j =>
       have hp':(J8 fet ss xs).2.2.2.2[j]? =some p:=by simpa using hp
       obtain⟨i,a1,a2⟩:=hrest j p hp';exact⟨i,by simpa [KF,JR]using a1,a2⟩
    | _=>have:=h1 false (by simp [JD]);cases this
   | cell u k=>grind[JD,split,KF,JR]
   | agg ks =>
    have hb:(JD fet (.agg ks) x).boxes=[]:=by unfold JD;cases x<;>rfl
    rw[hb];exact⟨by simpa [KF,JR]using g1,fun j p hp=>by simpa [KF,JR]using hrest j p (by simpa using hp)⟩
   | map kt vt =>
    cases x with
    | own q =>
     unfold JD at h1;dsimp only at h1;cases hg:Jr fet q with
     | none=>rw[hg]at h1;have:=h1 false (by simp);cases this
     | some y =>
      cases y with
      | box _=>rw[hg]at h1;have:=h1 false (by simp);cases this
      | arr _ _ _=>rw[hg]at h1;have:=h1 false (by simp);cases this
      | mp l =>
       have hb:(JD fet (.map kt vt) (.own q)).boxes=[(q,.map kt vt)]:=by unfold JD;dsimp only;rw[hg]
       rw[hb];refine⟨by simp [KF,JR,g1],fun j p hp=> ?_⟩;cases j with
       | zero =>simp at hp;subst hp;exact⟨0,by simp [KF,JR],by simp,Dx _ (by simp [MK]),_,rfl,⟨l,hg⟩,rfl,rfl⟩
       | succ j =>
        have hp':(J8 fet ss xs).2.2.2.2[j]? =some p:=by simpa using hp
        obtain⟨i,a1,a2⟩:=hrest j p hp';exact⟨i,by simpa [KF,JR]using a1,a2⟩
    | _=>have:=h1 false (by simp [JD]);cases this
def PY (rb:Nat->Nat) (w:World) (vf:Nat->Value) (rs:List A):List (Nat×Sh)->Nat->List (Nat×Value)
 | [],_=>[]
 | (o,s)::r,j=>(LY (rb o) s (rs.getD j .undef)).2.2.map (fun p=>(p.1,LW w (vf j) (p.1 - rb o)))++PY rb w vf rs r (j+1)
theorem rX (rb:Nat->Nat) (w:World) (vf:Nat->Value) (rs:List A): ∀(bs:List (Nat×Sh)) (j:Nat),(PY rb w vf rs bs j).map (·.1)=(Kt rb rs bs j).2.2.map (·.1):=by
 intro bs
 induction bs with
 | nil=>intro j;rfl
 | cons b bs ih=>simp_all[PY,Kt,Sh]
theorem xI (rb:Nat->Nat) (rs:List A): ∀(bs:List (Nat×Sh)) (j:Nat),(Kt rb rs bs j).2.1.map (·.1)=bs.map (·.1):=by
 intro bs
 induction bs with
 | nil=>intro j;rfl
 | cons b bs ih=>grind[Kt]
theorem Aap {rb:Nat} {Oc O':Own} {objs':List (Nat×Obj)} {m':Nat->Value} {v:Value} {cid q:Nat} {s:Sh} {r:A} (hp:Lt Oc w O' w) (hn: ∀ b k,Oc b k=none->O' b k=none)
 (hs: ∀ ks,s= .box ks->ks.length<=200) (hmq:m' q=v) (hir:IR Oc w cid v (qR r)) (hr: ∀ b k i,i<255->Oc b k=some (cid+i)->O' b k=some (if i=0 then q else rb+i))
 (hok:Jv (LY rb s r).1) (hO: ∀ p∈(LY rb s r).2.2,Jr objs' p.1=some p.2) (hm: ∀ p∈(LY rb s r).2.2,m' p.1=LW w v (p.1 - rb)) :
 Kz O' objs' m' w q (LY rb s r).2.1/\ ∀ p∈(LY rb s r).2.2,Kz O' objs' m' w p.1 p.2:=by
 cases s with
 | cell _ _=>have:=hok false (by simp [LY]);cases this
 | agg _=>have:=hok false (by simp [LY]);cases this
 | clo _ _=>have:=hok false (by simp [LY]);cases this
 | map kt vt =>simp only[LY]at hok ⊢;obtain⟨l,rfl,_,_⟩:=VL hok.cons.1;refine⟨?_,fun p hp=>by cases hp⟩;show LP O' w q (m' q) l;rw[hmq];exact LP.carry (show LP Oc w cid v l from hir) hp (fun b k hb=>by have:=hr b k 0 (by omega) hb;exact this)
 | box ks =>
  have hf:=hs ks rfl;simp only[LY]at hok hO hm ⊢;obtain⟨hok0,hok1⟩:=hok.cons;cases r with
  | agg cs =>
   have hl:cs.length=ks.length:=by simpa [A.isAgg,Ql]using hok0
   obtain⟨bk,base,h1,h2⟩:=(show IR Oc w cid v (.box cs)from hir)
   have hcell: ∀ j,LW w v (j+1)=(w.cell? (at' bk (base+j))).getD undef:=by intro j;rw[h1];rfl
   obtain⟨k1,k2,k3⟩:=OD (objs':=objs') (m':=m') (cid:=cid+1) (id:=rb+1) (f:=fun j=>(w.cell? (at' bk (base+j))).getD undef) hp hn ks cs 0 (fun j hj=>by
    obtain⟨_,_,u,h5,h6⟩:=h2 j (by omega);rw[DF,h5];exact h6) (fun b k i hi hb=>by
    have:=hr b k (1+i) (by omega) (by rw[<- Eg];exact hb);rw[Du,<- Eg]at this;exact this) hok1 hO (fun p hp i hi=>by
    have:=hm p hp;rw[this,hi,show rb+1+i - rb=i+1 from by omega,hcell])
   refine⟨⟨bk,base,by rw[hmq];exact h1,fun j hj=> ?_⟩,fun p hp=>(k3 p hp).1⟩;have hj:j<(J6 (rb+1) ks cs 0).2.1.length:=hj;rw[k1]at hj;obtain⟨a1,a2,u,a3,_⟩:=h2 j (by omega);have:=k2 j hj;rw[DF,a3]at this;exact⟨by have:=hr bk (base+j) 0 (by omega) a1;exact this,a2,u,a3,this⟩
  | _=>cases hok0
theorem rY {rb:Nat->Nat} {Oc O':Own} {objs':List (Nat×Obj)} {m':Nat->Value} {val:Nat->Value} {cid:Nat->Nat} {rs:List A} (hp:Lt Oc w O' w) (hn: ∀ b k,Oc b k=none->O' b k=none): ∀(bs:List (Nat×Sh)) (j0:Nat),
 (∀(j:Nat) (p:Nat×Sh),bs[j]? =some p->(∀ ks,p.2= .box ks->ks.length<=200)/\m' p.1=val (j0+j)/\IR Oc w (cid (j0+j)) (val (j0+j)) (qR (rs.getD (j0+j) .undef))/\ ∀ b k i,i<255->Oc b k=some (cid (j0+j)+i)->O' b k=some (if i=0 then p.1 else rb p.1+i)) ->
 Jv (Kt rb rs bs j0).1->(∀ p∈(Kt rb rs bs j0).2.2,Jr objs' p.1=some p.2)->(∀ p∈PY rb w val rs bs j0,m' p.1=p.2) ->
 (∀ p∈(Kt rb rs bs j0).2.1,Kz O' objs' m' w p.1 p.2)/\ ∀ p∈(Kt rb rs bs j0).2.2,Kz O' objs' m' w p.1 p.2:=by
 intro bs
 induction bs with
 | nil=>grind[Kt]
 | cons b bs ih =>
  intro j0 h hok hO hm;obtain⟨q,s⟩:=b;simp only[Kt]at hok hO ⊢;simp only[PY]at hm;obtain⟨hok1,hok2⟩:=hok.append;obtain⟨g1,g2⟩:=ih (j0+1) (fun j p hj=>by have:=h (j+1) p (by simpa using hj);rwa [show j0+(j+1)=j0+1+j from by omega]at this) hok2 (fun p hp=>hO p (Dy _ hp)) (fun p hp=>hm p (Dy _ hp));obtain⟨hf,hmq,hir,hr⟩:=h 0 (q,s) rfl;rw[Nat.add_zero]at hmq hir hr;obtain⟨k1,k2⟩:=Aap (objs':=objs') (m':=m') (rb:=rb q) (q:=q) hp hn hf hmq hir hr hok1 (fun p hp=>hO p (Dx _ hp)) (fun p hp=>hm (p.1,LW w (val j0) (p.1 - rb q)) (Dx _ (D6.2 ⟨p,hp,rfl⟩)));refine⟨fun p hp=> ?_,fun p hp=> ?_⟩
  .rcases Dz.1 hp with rfl | hp
   .exact k1
   .exact g1 p hp
  .rcases DI.1 hp with hp | hp
   .exact k2 p hp
   .exact g2 p hp
end
end Go.Proofs.YtpaimpmokhihmaaGreatDoor.Vm
