import Derived.Test.YtehkhflpjkokeaaGreatDoorA5
import Derived.Calls
set_option linter.all false
namespace Go.Proofs.YtehkhflpjkokeaaGreatDoor.Vm
open Classical
def Awb:Value->Value
 | .func g fi caps=>caps.getD 0 (.func g fi caps)
 | v=>v
def deref (w:World):Value->Value
 | .pointer (some a)=>(w.cell? a).getD undef
 | _=>undef
def innerS (w:World):Sh->Value->Value
 | .clo _ _,v=>deref w (Awb v)
 | _,v=>v
def aN.inner {O:Own} {w:World} {k:Nat} {v p:Value} {ks:List (Bool×CK)} (h:aN O w k v p):innerS w (.clo k ks) v=p:=by obtain⟨b,j,h1,_,h3⟩:=h;rw[h1];cases k<;>(show(w.cell? _).getD _=_;rw[h3];rfl)
def NG (w:World) (v:Value):Nat->Value
 | 0=>v
 | x+1=>match v with
  | .agg vs=>vs.getD x undef
  | .pointer (some a)=>(w.cell? (at' a.block (a.off+x))).getD undef
  | _=>undef
section
variable {Oc O':Own} {w:World} {objs':List (Nat×Obj)} {m':Nat->Value}
def KT.carry {Jp:List (Nat×Obj)} {m:Nat->Value} {c i e:Nat} {z:Bool} {l:Sl} (h:KT Oc Jp m w c (.arr e z l)) (hp:MS Oc w O' w) (hr: ∀ b k,Oc b k=some c->O' b k=some i) (hn: ∀ b k,Oc b k=none->O' b k=none) (hm:m' i=m c) :
 KT O' objs' m' w i (.arr e z l):=by
 refine⟨h.1,?_⟩;rcases h.2 with ⟨h1,h2,h3⟩ | ⟨h1,g,cap,cur,h2,h3,h4,h5,h6,h7,h8,h9⟩
 .grind[Obj,KT,MS]
 .refine .inr ⟨h1,g,cap,cur,by rw[hm];exact h2,h3,h4,h5,h6,fun r j hr' hj=> ?_,fun k hk hge=>hr _ _ (h8 k hk hge),fun k hk=> ?_⟩
  .obtain⟨u,h10,h11⟩:=h7 r j hr' hj;exact⟨u,h10,h11.JW hp⟩
  .grind[Obj,KT,MS]
def Ny.carry {c i:Nat} {v:Value} {l:Mp} (h:Ny Oc w c v l) (hp:MS Oc w O' w) (hr: ∀ b k,Oc b k=some c->O' b k=some i):Ny O' w i v l:=by obtain⟨r,es,ck,h1,h2,h3,h4,h5⟩:=h;refine⟨r,es,ck,h1,h2,hr _ _ h3,h4,fun j p hj=> ?_⟩;obtain⟨e,k1,k2,k3⟩:=h5 j p hj;exact⟨e,k1,k2.JW hp,k3.JW hp⟩
def eU {kt vt:Ty} {a:A} (h:a.jC kt vt=true): ∃ l,a= .ump l/\l.kt=kt/\l.vt=vt:=by
 cases a with
 | ump l =>have h':(decide (l.kt=kt)&&decide (l.vt=vt))=true:=h;all_goals grind[Ty]
 | _=>cases h
def J3.toC {v:Value} {a:A} (h:J3 O' w v a):JC O' objs' m' w v a:=by cases a<;>first | exact h | (cases h;done)
def AmD {id:Nat} {k:CK} {v:Value} {c:A} (h:IC Oc w id v c) (hp:MS Oc w O' w) (hok:J5 (force k c).1):JC O' objs' m' w v (force k c).2:=by
 cases c with
 | box cs =>
  cases k with
  | oth=>obtain⟨b,base,h1,_⟩:=h;rw[h1];rfl
  | mp _ _=>have:=hok.cons.1;cases this
  | bx _=>have:=hok.cons.1;cases this
  | _=>have:=hok.cons.1;simp [A.isB,A.isI,A.isS,A.AcG,A.qU,A.eQ,A.isFn]at this
 | usl z e l =>
  cases k with
  | oth =>
   rcases h.2 with ⟨_,_,h3⟩ | ⟨_,g,cap,cur,h2,_⟩
   .show v.oneCell'=true;have h3:v=_:=h3;rw[h3];rfl
   .show v.oneCell'=true;have h2:v=_:=h2;rw[h2];rfl
  | mp _ _=>have:=hok.cons.1;cases this
  | bx _=>have:=hok.cons.1;cases this
  | _=>have:=hok.cons.1;simp [A.isB,A.isI,A.isS,A.AcG,A.qU,A.eQ,A.isFn]at this
 | ump l =>
  cases k with
  | oth=>obtain⟨r,_,_,h1,_⟩:=h;rw[h1];rfl
  | mp _ _=>have:=hok.cons.1;cases this
  | bx _=>have:=hok.cons.1;cases this
  | _=>have:=hok.cons.1;simp [A.isB,A.isI,A.isS,A.AcG,A.qU,A.eQ,A.isFn]at this
 | _=>exact yK (J3.JW hp h) hok
def Sr {cid id:Nat} {f:Nat->Value} (hp:MS Oc w O' w) (hn: ∀ b k,Oc b k=none->O' b k=none): ∀(ks:List (Bool×CK)) (cs:List A) (j0:Nat),(∀ j,j<ks.length->IC Oc w (cid+(j0+j)) (f (j0+j)) (cs.getD (j0+j) .undef)) ->
 (∀ b k x,x<j0+ks.length->Oc b k=some (cid+x)->O' b k=some (id+x))->J5 (JI id ks cs j0).1->(∀ p∈(JI id ks cs j0).2.2,Jy objs' p.1=some p.2)->(∀ p∈(JI id ks cs j0).2.2,∀ x,p.1=id+x->m' p.1=f x) ->
 (JI id ks cs j0).2.1.length=ks.length/\(∀ j,j<ks.length->JC O' objs' m' w (f (j0+j)) ((JI id ks cs j0).2.1.getD j .undef))/\ ∀ p∈(JI id ks cs j0).2.2,KT O' objs' m' w p.1 p.2/\ ∃ x,p.1=id+x/\j0<=x/\x<j0+ks.length:=by
 intro ks
 induction ks with
 | nil=>intro cs j0 _ _ _ _ _;exact⟨rfl,fun j hj=>by simp at hj,fun p hp=>by simp [JI]at hp⟩
 | cons k ks ih =>
  intro cs j0 h hr hok hO hm;obtain⟨u,k⟩:=k;have h0:=h 0 (by simp);rw[Nat.add_zero]at h0;have hrest:=fun hok2 hO2 hm2=>ih cs (j0+1) (fun j hj=>by have:=h (j+1) (by simpa using hj);rwa [show j0+(j+1)=j0+1+j from by omega]at this) (fun b k x hx=>hr b k x (by simp only[List.length_cons];omega)) hok2 hO2 hm2;cases u with
  | false =>
   simp only[JI]at hok hO hm ⊢;obtain⟨hok1,hok2⟩:=hok.append;obtain⟨g1,g2,g3⟩:=hrest hok2 hO hm;refine⟨by simp [g1],fun j hj=> ?_,fun p hp=> ?_⟩
   .cases j with
    | zero=>exact AmD h0 hp hok1
    | succ j =>have:=g2 j (by simpa using hj);rw[show j0+(j+1)=j0+1+j from by omega];simpa using this
   .obtain⟨a1,x,a2,a3,a4⟩:=g3 p hp;exact⟨a1,x,a2,by omega,by simp only[List.length_cons];omega⟩
  | true =>
   cases k with
   | sl e sz =>
    simp only[JI]at hok hO hm ⊢;obtain⟨hok1,hok2⟩:=hok.cons;obtain⟨g1,g2,g3⟩:=hrest hok2 (fun p hp=>hO p (Dw _ hp)) (fun p hp=>hm p (Dw _ hp));have hO0:=hO _ Dv;have hm0:=hm _ Dv j0 rfl;dsimp only at hO0 hm0
    have hc:cs.getD j0 .undef= .usl true e (cs.getD j0 .undef).toL:=by
     generalize cs.getD j0 .undef=c at *
     cases c<;>simp only[A.Ae2]at hok1<;>first | (cases hok1;done) | skip
     simp only[Du,EI]at hok1;rw[Dy hok1.2.1,<- hok1.1];rfl
    rw[hc]at h0;have hor:KT O' objs' m' w (id+j0) (.arr e true (cs.getD j0 .undef).toL):=KT.carry (show KT Oc [] (fun _=>f j0) w (cid+j0) _ from h0) hp (fun b k hbk=>hr b k j0 (by simp) hbk) hn hm0;refine⟨by simp [g1],fun j hj=> ?_,fun p hp=> ?_⟩
    .cases j with
     | zero =>
      have hone:(f j0).oneCell'=true:=by
       rcases h0.2 with ⟨_,_,h3⟩ | ⟨_,g,cap,cur,h2,_⟩
       .have h3:f j0=_:=h3;rw[h3];rfl
       .have h2:f j0=_:=h2;rw[h2];rfl
      refine⟨hone,?_⟩;show match (Jy objs' (id+j0)).map Obj.shp with | some (.arr _ _)=>_ | some .mp=>_ | _=>True
      rw[hO0];exact hm0.symm
     | succ j =>have:=g2 j (by simpa using hj);rw[show j0+(j+1)=j0+1+j from by omega];simpa using this
    .rcases D6.1 hp with rfl | hp
     .exact⟨hor,j0,rfl,DN _,by simp⟩
     .obtain⟨a1,x,a2,a3,a4⟩:=g3 p hp;exact⟨a1,x,a2,by omega,by simp only[List.length_cons];omega⟩
   | sln e sz =>
    simp only[JI]at hok hO hm ⊢;obtain⟨hok1,hok2⟩:=hok.cons;obtain⟨g1,g2,g3⟩:=hrest hok2 (fun p hp=>hO p (Dw _ hp)) (fun p hp=>hm p (Dw _ hp));have hO0:=hO _ Dv;have hm0:=hm _ Dv j0 rfl;dsimp only at hO0 hm0
    have hc:cs.getD j0 .undef= .usl false e (cs.getD j0 .undef).toL:=by
     generalize cs.getD j0 .undef=c at *
     cases c<;>simp only[A.Ae2]at hok1<;>first | (cases hok1;done) | skip
     simp only[Du,EI]at hok1;rw[Dy hok1.2.1,<- hok1.1];rfl
    rw[hc]at h0;have hor:KT O' objs' m' w (id+j0) (.arr e false (cs.getD j0 .undef).toL):=KT.carry (show KT Oc [] (fun _=>f j0) w (cid+j0) _ from h0) hp (fun b k hbk=>hr b k j0 (by simp) hbk) hn hm0;refine⟨by simp [g1],fun j hj=> ?_,fun p hp=> ?_⟩
    .cases j with
     | zero =>
      have hone:(f j0).oneCell'=true:=by
       rcases h0.2 with ⟨_,_,h3⟩ | ⟨_,g,cap,cur,h2,_⟩
       .have h3:f j0=_:=h3;rw[h3];rfl
       .have h2:f j0=_:=h2;rw[h2];rfl
      refine⟨hone,?_⟩;show match (Jy objs' (id+j0)).map Obj.shp with | some (.arr _ _)=>_ | some .mp=>_ | _=>True
      rw[hO0];exact hm0.symm
     | succ j =>have:=g2 j (by simpa using hj);rw[show j0+(j+1)=j0+1+j from by omega];simpa using this
    .rcases D6.1 hp with rfl | hp
     .exact⟨hor,j0,rfl,DN _,by simp⟩
     .obtain⟨a1,x,a2,a3,a4⟩:=g3 p hp;exact⟨a1,x,a2,by omega,by simp only[List.length_cons];omega⟩
   | bx t =>
    simp only[JI]at hok hO hm ⊢;obtain⟨hok1,hok2⟩:=hok.cons;obtain⟨g1,g2,g3⟩:=hrest hok2 (fun p hp=>hO p (Dw _ hp)) (fun p hp=>hm p (Dw _ hp));have hO0:=hO _ Dv;have hm0:=hm _ Dv j0 rfl;dsimp only at hO0 hm0;generalize cs.getD j0 .undef=c at *
    cases c with
    | box ds =>
     obtain⟨b,base,e1,e2⟩:=h0;refine⟨by simp [g1],fun j hj=> ?_,fun p hp=> ?_⟩
     .cases j with
      | zero =>
       refine⟨by rw[Nat.add_zero,e1];rfl,?_⟩;show match (Jy objs' (id+j0)).map Obj.shp with | some .box=>_ | _=>True
       rw[hO0];exact⟨b,base,by rw[hm0];exact e1,e1⟩
      | succ j =>have:=g2 j (by simpa using hj);rw[show j0+(j+1)=j0+1+j from by omega];simpa using this
     .rcases D6.1 hp with rfl | hp
      .refine⟨⟨b,base,by rw[hm0];exact e1,fun j hj=> ?_⟩,j0,rfl,DN _,by simp⟩;obtain⟨a1,a2,u,a3,a4⟩:=e2 j hj;exact⟨hr _ _ _ (by simp) a1,a2,u,a3,(J3.JW ‹_› a4).toC⟩
      .obtain⟨a1,x,a2,a3,a4⟩:=g3 p hp;exact⟨a1,x,a2,by omega,by simp only[List.length_cons];omega⟩
    | _=>cases hok1
   | mp kt vt =>
    simp only[JI]at hok hO hm ⊢;obtain⟨hok1,hok2⟩:=hok.cons;obtain⟨g1,g2,g3⟩:=hrest hok2 (fun p hp=>hO p (Dw _ hp)) (fun p hp=>hm p (Dw _ hp));have hO0:=hO _ Dv;have hm0:=hm _ Dv j0 rfl;dsimp only at hO0 hm0;generalize cs.getD j0 .undef=c at *
    obtain⟨l,rfl,_,_⟩:=eU hok1;have h0:Ny Oc w (cid+j0) (f j0) l:=h0;have h2:Ny O' w (id+j0) (f j0) l:=h0.carry hp (fun b k hb=>hr b k j0 (by simp) hb);refine⟨by simp [g1],fun j hj=> ?_,fun p hp=> ?_⟩
    .cases j with
     | zero =>
      refine⟨by obtain⟨r,_,_,h1,_⟩:=h0;rw[Nat.add_zero,h1];rfl,?_⟩;show match (Jy objs' (id+j0)).map Obj.shp with | some (.arr _ _)=>_ | some .mp=>_ | _=>True
      rw[hO0];exact hm0.symm
     | succ j =>have:=g2 j (by simpa using hj);rw[show j0+(j+1)=j0+1+j from by omega];simpa using this
    .rcases D6.1 hp with rfl | hp
     .refine⟨?_,j0,rfl,DN _,by simp⟩;show Ny O' w (id+j0) (m' (id+j0)) l;rw[hm0];exact h2
     .obtain⟨a1,x,a2,a3,a4⟩:=g3 p hp;exact⟨a1,x,a2,by omega,by simp only[List.length_cons];omega⟩
   | _=>have:=hok false (by simp [JI]);cases this
def AqH {cid id:Nat} {s:Sh} {x:A} {v:Value} (hp:MS Oc w O' w) (hn: ∀ b k,Oc b k=none->O' b k=none) (h:IR Oc w cid v x) (hr: ∀ b k i,i<255->Oc b k=some (cid+i)->O' b k=some (id+i))
 (hok:J5 (back id s x).1) (hO: ∀ p∈(back id s x).2.2,Jy objs' p.1=some p.2) (hm: ∀ p∈(back id s x).2.2,∀ i,p.1=id+i->m' p.1=NG w (innerS w s v) i) :
 J7 O' objs' m' w v (back id s x).2.1/\ ∀ p∈(back id s x).2.2,KT O' objs' m' w p.1 p.2:=by
 cases s with
 | cell u k =>
  simp only[back]at hok hO hm ⊢;obtain⟨hok1,hok2⟩:=hok.append;have hpl:=hok2.cons.1
  have hic:IC Oc w cid v x:=by
   have bad: ∀ cs l,x= .agg cs\/x= .box cs\/x= .ump l\/(∃ f,x= .cbx f cs)->False:=by rintro cs l (rfl | rfl | rfl | ⟨f,rfl⟩)<;>(cases u<;>cases k<;>first | (cases hpl;done) | (have:=hok1 false (by simp [JI,force,A.isB,A.isI,A.isS,A.AcG,A.qU,A.eQ,A.Ae2,A.isFn]);cases this))
   cases x with
   | agg cs=>exact(bad cs default (.inl rfl)).elim
   | box cs=>exact(bad cs default (.inr (.inl rfl))).elim
   | ump l=>exact(bad [] l (.inr (.inr (.inl rfl)))).elim
   | cbx f cs=>exact(bad cs default (.inr (.inr (.inr ⟨f,rfl⟩)))).elim
   | _=>exact h
  obtain⟨g1,g2,g3⟩:=Sr (cid:=cid) (id:=id) (f:=NG w v) hp hn [(u,k)] [x] 0 (fun j hj=>by
   have:j=0:=by simpa using hj
   subst this;exact hic) (fun b k i hi hb=>hr b k i (by simp at hi;omega) hb) hok1 hO hm
  have:=g2 0 (by simp);exact⟨this.toT,fun p hp=>(g3 p hp).1⟩
 | agg ks =>
  simp only[back]at hok hO hm ⊢;obtain⟨hf,hok⟩:=hok.cons;have hf:=DW hf;obtain⟨hok1,hok2⟩:=hok.cons;cases x with
  | agg cs =>
   obtain⟨vs,h1,h2,h3⟩:=h;have hl:cs.length=ks.length:=by simpa [A.isAgg,UO]using hok1
   obtain⟨g1,g2,g3⟩:=Sr (objs':=objs') (m':=m') (cid:=cid+1) (id:=id+1) (f:=fun j=>vs.getD j undef) hp hn ks cs 0 (fun j hj=>by
    have:=h3 j (by omega);rw[DV];exact this) (fun b k i hi hb=>by
    have:=hr b k (1+i) (by omega) (by rw[<- EL];exact hb);rw[<- EL]at this;exact this) hok2 hO (fun p hp i hi=>by
    have:=hm p hp (i+1) (by omega);rw[this,h1];rfl)
   refine⟨⟨vs,h1,?_,fun j hj=> ?_⟩,fun p hp=>(g3 p hp).1⟩
   .show vs.size=(JI (id+1) ks cs 0).2.1.length;rw[h2,g1,hl]
   .have hj:j<(JI (id+1) ks cs 0).2.1.length:=hj;rw[g1]at hj;have:=g2 j hj;rwa [DV]at this
  | _=>simp [A.isAgg]at hok1
 | box ks =>
  simp only[back]at hok hO hm ⊢;obtain⟨hf,hok⟩:=hok.cons;have hf:=DW hf;obtain⟨hok1,hok2⟩:=hok.cons;cases x with
  | box cs =>
   obtain⟨b,base,h1,h2⟩:=h;have h1':NG w v 0= .pointer (some (at' b base)):=by rw[h1];rfl
   have hl:cs.length=ks.length:=by simpa [A.Ajv,UO]using hok1
   have hcell: ∀ j,NG w v (j+1)=(w.cell? (at' b (base+j))).getD undef:=by intro j;rw[h1];rfl
   obtain⟨g1,g2,g3⟩:=Sr (objs':=objs') (m':=m') (cid:=cid+1) (id:=id+1) (f:=fun j=>(w.cell? (at' b (base+j))).getD undef) hp hn ks cs 0 (fun j hj=>by
    obtain⟨_,_,u,h5,h6⟩:=h2 j (by omega);rw[DV,h5];exact h6) (fun b k i hi hb=>by
    have:=hr b k (1+i) (by omega) (by rw[<- EL];exact hb);rw[<- EL]at this;exact this) hok2 (fun p hp=>hO p (Dw _ hp)) (fun p hp i hi=>by
    have:=hm p (Dw _ hp) (i+1) (by omega);rw[this];exact hcell _)
   have hO0:=hO _ Dv;have hm0:=hm _ Dv 0 rfl;dsimp only at hO0 hm0;refine⟨?_,fun p hp=> ?_⟩
   .show JC O' objs' m' w v (.ptr id 0);refine⟨by rw[h1];rfl,?_⟩;show match (Jy objs' id).map Obj.shp with | some .box=>_ | _=>True
    rw[hO0];exact⟨b,base,by rw[hm0];exact h1',h1⟩
   .rcases D6.1 hp with rfl | hp
    .refine⟨b,base,by rw[hm0];exact h1',fun j hj=> ?_⟩;have hj:j<(JI (id+1) ks cs 0).2.1.length:=hj;rw[g1]at hj;obtain⟨a1,a2,u,a3,_⟩:=h2 j (by omega);have:=g2 j hj;rw[DV,a3]at this;exact⟨by have:=hr b (base+j) 0 (by omega) a1;exact this,a2,u,a3,this⟩
    .exact(g3 p hp).1
  | _=>simp [A.Ajv]at hok1
 | clo f' ks =>
  simp only[back]at hok hO hm ⊢;obtain⟨hf,hok⟩:=hok.cons;have hf:=DW hf;obtain⟨hok1,hok2⟩:=hok.cons;cases x with
  | cbx g cs =>
   have hg:f'=g:=by have h':=hok1;simp only[A.Ajw,Du]at h';exact Dy h'.1
   subst hg;obtain⟨b,base,h1,h2⟩:=h;have h1':NG w (innerS w (.clo f' ks) v) 0= .pointer (some (at' b base)):=h1.inner (ks:=ks);have hl:cs.length=ks.length:=by have h':=hok1;simp only[A.Ajw,Du]at h';exact Dy h'.2
   have hcell: ∀ j,NG w (innerS w (.clo f' ks) v) (j+1)=(w.cell? (at' b (base+j))).getD undef:=by intro j;rw[h1.inner (ks:=ks)];rfl
   obtain⟨g1,g2,g3⟩:=Sr (objs':=objs') (m':=m') (cid:=cid+1) (id:=id+1) (f:=fun j=>(w.cell? (at' b (base+j))).getD undef) hp hn ks cs 0 (fun j hj=>by
    obtain⟨_,_,u,h5,h6⟩:=h2 j (by omega);rw[DV,h5];exact h6) (fun b k i hi hb=>by
    have:=hr b k (1+i) (by omega) (by rw[<- EL];exact hb);rw[<- EL]at this;exact this) hok2 (fun p hp=>hO p (Dw _ hp)) (fun p hp i hi=>by
    have:=hm p (Dw _ hp) (i+1) (by omega);rw[this];exact hcell _)
   have hO0:=hO _ Dv;have hm0:=hm _ Dv 0 rfl;dsimp only at hO0 hm0;refine⟨?_,fun p hp=> ?_⟩
   .show JC O' objs' m' w v (.clo f' id);refine⟨by obtain⟨_,_,e,_⟩:=h1;rw[e];cases f'<;>rfl,_,rfl,h1.JW hp,?_⟩;show match (Jy objs' id).map Obj.shp with | some .box=>_ | _=>True
    rw[hO0];exact⟨b,base,hm0.trans h1',rfl⟩
   .rcases D6.1 hp with rfl | hp
    .refine⟨b,base,by rw[hm0];exact h1',fun j hj=> ?_⟩;have hj:j<(JI (id+1) ks cs 0).2.1.length:=hj;rw[g1]at hj;obtain⟨a1,a2,u,a3,_⟩:=h2 j (by omega);have:=g2 j hj;rw[DV,a3]at this;exact⟨by have:=hr b (base+j) 0 (by omega) a1;exact this,a2,u,a3,this⟩
    .exact(g3 p hp).1
  | _=>simp [A.Ajw]at hok1
 | map kt vt =>
  simp only[back]at hok hO hm ⊢;obtain⟨l,rfl,_,_⟩:=eU hok.cons.1;have hO0:=hO _ Dv;have hm0:=hm _ Dv 0 rfl;dsimp only at hO0 hm0;have h:Ny Oc w cid v l:=h;have hm0:m' id=v:=hm0;have h2:Ny O' w id v l:=h.carry hp (fun b k hb=>hr b k 0 (by omega) hb);refine⟨?_,fun p hp=> ?_⟩
  .show JC O' objs' m' w v (.own id);refine⟨by obtain⟨r,_,_,h1,_⟩:=h;rw[h1];rfl,?_⟩;rw[hO0];exact hm0.symm
  .obtain rfl:p=(id,.mp l):=DT.1 hp;show Ny O' w id (m' id) l;rw[hm0];exact h2
end
def ApY (k:Nat):Nat:=256000+256*k
def Abj:A->A
 | .agg cs=>.box cs
 | a=>a
def KX:List Sh->Nat->List Nat
 | [],_=>[]
 | s::ss,i=>bif KE s then i::KX ss (i+1)else KX ss (i+1)
structure Came (O:Own) (w:World) (vs:Array Value) (sg:Sig) (rs:List A) (v:Value) (O':Own) (w':World):Prop where
 moves:Moves O (fun o=>o≠255) w w'
 less: ∀ b k,b<w.heap.size->O' b k≠none->O b k≠none
 kQ: ∀ b k,b<w.heap.size->O b k=some 255->O' b k=some 255
 count:rs.length=sg.JA.length+(KX sg.Js 0).length
 res: ∃ us:Array Value,us.size=sg.JA.length/\v=(if h:us.size=1 then us[0]else .tuple us)/\ ∀ k,k<us.size->IR O' w' (ApY k) (us.getD k undef) (rs.getD k .undef)
 boxes: ∀ j i,(KX sg.Js 0)[j]? =some i->IR O' w' (256*i) (innerS w (sg.Js.getD i (.agg [])) (vs.getD i undef)) (Abj (rs.getD (sg.JA.length+j) .undef))
def Spec (P:Program) (f:FuncId) (sg:Sig):Prop :=
 (∀ args w,(callFunc f args).run P w= .ok (.enter f args) w) /\
 ∀(O:Own) (w:World) (vs:Array Value) (xs rs:List A),Inv O w->vs.size=xs.length->xs.length=sg.Js.length->xs.length<=100->(∀ j,j<xs.length->IR O w (256*j) (vs.getD j undef) (xs.getD j .undef))->sg.F xs=some rs ->
  Calls P f vs w fun e w'=> ∃ v O',e= .returned v/\Came O w vs sg rs v O' w'
section
variable {P:Program} {C:Ctx} {V0:Nat->Value} {O0 O:Own} {w0 w:World} {m:Nat->Value} {st:St} {a:Act} {o:Oper}
def Xg (w:World) (f:Nat->Value) (id stride:Nat):List Sh->List A->Nat->List (Nat×Value)
 | [],_,_=>[]
 | s::ss,rs,j=>(back (id+stride*j) s (rs.getD j .undef)).2.2.map (fun p=>(p.1,NG w (f j) (p.1 - (id+stride*j))))++Xg w f id stride ss rs (j+1)
def Aoz (w:World) (f:Nat->Value) (id stride:Nat): ∀(ss:List Sh) (rs:List A) (j:Nat),(Xg w f id stride ss rs j).map (·.1)=(KL id stride ss rs j).2.2.map (·.1):=by
 intro ss
 induction ss with
 | nil=>intro rs j;rfl
 | cons s ss ih=>intro rs j;simp [Xg,KL,ih]
def Arw {k:CK} {c:A} (hp:k.plain=true) (h:J5 (force k c).1):(force k c).2.isVal=true:=by
 cases k<;>first
  | (cases hp;done)
  | (have h1:=h.cons.1;cases c<;>first | rfl | (cases h1;done))
def Ad1 {Oc O':Own} {objs':List (Nat×Obj)} {m':Nat->Value} {cid cst id stride:Nat} {f g:Nat->Value} {rs:List A} (hp:MS Oc w O' w) (hn: ∀ b k,Oc b k=none->O' b k=none): ∀(ss:List Sh) (j0:Nat),(∀ j,j<ss.length->g (j0+j)=innerS w (ss.getD j (.agg [])) (f (j0+j))) ->
 (∀ j,j<ss.length->IR Oc w (cid+cst*(j0+j)) (f (j0+j)) (rs.getD (j0+j) .undef))->(∀ j,j<ss.length-> ∀ b k i,i<255->Oc b k=some (cid+cst*(j0+j)+i)->O' b k=some (id+stride*(j0+j)+i)) ->
 J5 (KL id stride ss rs j0).1->(∀ p∈(KL id stride ss rs j0).2.2,Jy objs' p.1=some p.2)->(∀ p∈Xg w g id stride ss rs j0,m' p.1=p.2) ->
 (KL id stride ss rs j0).2.1.length=ss.length/\(∀ j,j<ss.length->J7 O' objs' m' w (f (j0+j)) ((KL id stride ss rs j0).2.1.getD j .undef)/\((KL id stride ss rs j0).2.1.getD j .undef).isVal=true) /\
   ∀ p∈(KL id stride ss rs j0).2.2,KT O' objs' m' w p.1 p.2:=by
 intro ss
 induction ss with
 | nil=>grind[KL]
 | cons s ss ih =>
  intro j0 hg h hr hok hO hm;simp only[KL]at hok hO ⊢;simp only[Xg]at hm;obtain⟨hok1,hok2⟩:=hok.append
  obtain⟨g1,g2,g3⟩:=ih (j0+1) (fun j hj=>by have:=hg (j+1) (by simpa using hj);rwa [show j0+(j+1)=j0+1+j from by omega]at this) (fun j hj=>by have:=h (j+1) (by simpa using hj);rwa [show j0+(j+1)=j0+1+j from by omega]at this)
   (fun j hj=>by have:=hr (j+1) (by simpa using hj);rwa [show j0+(j+1)=j0+1+j from by omega]at this) hok2 (fun p hp=>hO p (DI _ hp)) (fun p hp=>hm p (DI _ hp))
  have h0:=h 0 (by simp);have hr0:=hr 0 (by simp);have hg0:g (j0+0)=innerS w s (f (j0+0)):=hg 0 (by simp);rw[Nat.add_zero]at h0 hr0 hg0;obtain⟨k1,k2⟩:=AqH (id:=id+stride*j0) (m':=m') (objs':=objs') hp hn h0 hr0 hok1 (fun p hp=>hO p (DL _ hp)) (fun p hp i hi=>by have:=hm (p.1,NG w (g j0) (p.1 - (id+stride*j0))) (DL _ (DF.2 ⟨p,hp,rfl⟩));rw[this,hi,Ht,hg0]);refine⟨by simp [g1],fun j hj=> ?_,fun p hp=> ?_⟩
  .cases j with
   | zero =>
    refine⟨k1,?_⟩;show((back (id+stride*j0) s (rs.getD j0 .undef)).2.1).isVal=true;cases s with
    | agg ks=>rfl
    | box ks=>rfl
    | clo f' ks=>rfl
    | map kt vt=>rfl
    | cell u' k =>
     have hpl:k.plain=true:=by simp only[back]at hok1;exact hok1.append.2.cons.1
     cases u' with
     | true=>cases k<;>first | (cases hpl;done) | rfl | (exfalso;have:=hok1 false (by simp [back,JI]);cases this)
     | false =>
      have hf:J5 (force k (rs.getD j0 .undef)).1:=by have h1:=hok1;simp only[back,JI]at h1;exact h1.append.1.append.1
      show(force k (rs.getD j0 .undef)).2.isVal=true;exact Arw hpl hf
   | succ j =>have:=g2 j (by simpa using hj);rw[show j0+(j+1)=j0+1+j from by omega];simpa using this
  .rcases DJ.1 hp with hp | hp
   .exact k2 p hp
   .exact g3 p hp
def look (N:List (Nat×Nat)) (q:Nat):Option Nat:=(N.find? (fun p=>p.1==q)).map (·.2)
def AkV {N:List (Nat×Nat)} (hnd:nodup (N.map (·.1))=true): ∀ p∈N,look N p.1=some p.2:=by
 induction N with
 | nil=>intro p hp;cases hp
 | cons q N ih =>
  intro p hp;simp only[Em,nodup,Du,EY]at hnd;unfold look;rcases D6.1 hp with rfl | hp
  .simp
  .have hne:q.1≠p.1:=fun e=>by
    have:has (N.map (·.1)) q.1=true:=OL.2 (DF.2 ⟨p,hp,e.symm⟩);rw[this]at hnd;cases hnd.1
   all_goals grind[nodup,look]
def zH {N:List (Nat×Nat)} {q i:Nat} (h:look N q=some i):(q,i)∈N:=by
 unfold look at h;cases hf:N.find? (fun p=>p.1==q)with
 | none=>rw[hf]at h;cases h
 | some p=>grind[look]
def jD (N:List (Nat×Value)) (q:Nat):Option Value:=(N.find? (fun p=>p.1==q)).map (·.2)
def ArK {N:List (Nat×Value)} (hnd:nodup (N.map (·.1))=true): ∀ p∈N,jD N p.1=some p.2:=by
 induction N with
 | nil=>intro p hp;cases hp
 | cons q N ih =>
  intro p hp;simp only[Em,nodup,Du,EY]at hnd;unfold jD;rcases D6.1 hp with rfl | hp
  .simp
  .have hne:q.1≠p.1:=fun e=>by
    have:has (N.map (·.1)) q.1=true:=OL.2 (DF.2 ⟨p,hp,e.symm⟩);rw[this]at hnd;cases hnd.1
   all_goals grind[nodup,jD]
def Ap2 {N:List (Nat×Value)} {q:Nat} (h:q∉N.map (·.1)):jD N q=none:=by grind[jD]
def J7.Axc {Jp:List (Nat×Obj)} {v:Value} {x:A} (h:J7 O Jp m w v x) (hv:x.isVal=true):T1 O Jp m w v x:=by cases x<;>first | (cases hv;done) | exact h
def X8 {fet:Fet}: ∀(ks:List (Bool×CK)) (cs:List A) (id:Nat),J5 (J4 fet ks cs).1-> ∀ p∈KZ id ks cs,(Jy fet p.1).isSome/\ ∃ x,x<ks.length/\p.2=id+x:=by
 intro ks
 induction ks with
 | nil=>intro cs id _ p hp;cases cs<;>simp [KZ]at hp
 | cons k ks ih =>
  intro cs id hok p hp;obtain⟨u,k⟩:=k;cases cs with
  | nil=>cases u<;>simp [KZ]at hp
  | cons c cs =>
   have step:J5 (J4 fet ks cs).1->p∈KZ (id+1) ks cs->(Jy fet p.1).isSome/\ ∃ x,x<((u,k)::ks).length/\p.2=id+x:=by intro h1 h2;obtain⟨h3,x,h4,h5⟩:=ih cs (id+1) h1 p h2;exact⟨h3,x+1,by simpa using h4,by omega⟩
   cases u with
   | false =>
    have hnm:KZ id ((false,k)::ks) (c::cs)=KZ (id+1) ks cs:=by cases c<;>rfl
    rw[hnm]at hp;simp only[J4]at hok;exact step hok.append.2 hp
   | true =>
    cases k with
    | sl e sz =>
     cases c with
     | own q =>
      simp only[J4]at hok;cases hg:Jy fet q with
      | none=>rw[hg]at hok;have:=hok false (by simp);cases this
      | some y =>
       cases y with
       | box _=>rw[hg]at hok;have:=hok false (by simp);cases this
       | mp _=>rw[hg]at hok;have:=hok false (by simp);cases this
       | arr e' fz l =>
        rw[hg]at hok;simp only[KZ]at hp;rcases D6.1 hp with rfl | hp
        .exact⟨by rw[hg];rfl,0,by simp,rfl⟩
        .exact step hok.append.2 hp
     | La =>simp only[J4]at hok;exact step hok hp
     | _=>have:=hok false (by simp [J4]);cases this
    | sln e sz =>
     cases c with
     | own q =>
      simp only[J4]at hok;cases hg:Jy fet q with
      | none=>rw[hg]at hok;have:=hok false (by simp);cases this
      | some y =>
       cases y with
       | box _=>rw[hg]at hok;have:=hok false (by simp);cases this
       | mp _=>rw[hg]at hok;have:=hok false (by simp);cases this
       | arr e' fz l =>
        rw[hg]at hok;simp only[KZ]at hp;rcases D6.1 hp with rfl | hp
        .exact⟨by rw[hg];rfl,0,by simp,rfl⟩
        .exact step hok.append.2 hp
     | La =>simp only[J4]at hok;exact step hok hp
     | _=>have:=hok false (by simp [J4]);cases this
    | bx t =>
     cases c with
     | ptr q off =>
      simp only[J4]at hok;cases hg:L6 fet q with
      | none=>rw[hg]at hok;have:=hok false (by simp);cases this
      | some zs =>
       rw[hg]at hok;simp only[KZ]at hp;rcases D6.1 hp with rfl | hp
       .exact⟨by rw[Lp hg];rfl,0,by simp,rfl⟩
       .exact step hok.cons.2.append.2 hp
     | _=>have:=hok false (by simp [J4]);cases this
    | mp kt vt =>
     cases c with
     | own q =>
      simp only[J4]at hok;cases hg:Jy fet q with
      | none=>rw[hg]at hok;have:=hok false (by simp);cases this
      | some y =>
       cases y with
       | box _=>rw[hg]at hok;have:=hok false (by simp);cases this
       | arr _ _ _=>rw[hg]at hok;have:=hok false (by simp);cases this
       | mp l =>
        rw[hg]at hok;simp only[KZ]at hp;rcases D6.1 hp with rfl | hp
        .exact⟨by rw[hg];rfl,0,by simp,rfl⟩
        .exact step hok.append.2 hp
     | _=>have:=hok false (by simp [J4]);cases this
    | _=>have:=hok false (by simp [J4]);cases this
def Ald {fet:Fet} {s:Sh} {x:A} {id:Nat} (hok:J5 (JU fet s x).ok): ∀ p∈Oq fet id s x,(Jy fet p.1).isSome/\ ∃ i,p.2=id+i/\(i<202\/(∃ ks,s= .agg ks)):=by
 intro p hp;cases s with
 | cell u k =>
  simp only[Oq]at hp
  have hh:J5 (J4 fet [(u,k)] [x]).1:=by
   unfold JU at hok;dsimp only at hok;generalize J4 fet [(u,k)] [x]=r at *
   obtain⟨ok,cs,upd,del⟩:=r;cases cs with
   | nil=>have:=hok false (by simp);cases this
   | cons c cs =>
    cases cs with
    | nil=>exact hok
    | cons _ _=>have:=hok false (by simp);cases this
  obtain⟨h1,i,h2,h3⟩:=X8 _ _ _ hh p hp;exact⟨h1,i,h3,.inl (by simp at h2;omega)⟩
 | agg ks =>
  cases x with
  | agg cs =>simp only[Oq]at hp;obtain⟨h1,i,h2,h3⟩:=X8 _ _ _ (show J5 (J4 fet ks cs).1 from hok) p hp;exact⟨h1,1+i,by omega,.inr ⟨ks,rfl⟩⟩
  | _=>cases hp
 | box ks =>
  cases x with
  | ptr q off =>
   simp only[Oq]at hp;unfold JU at hok;dsimp only at hok;cases hg:L6 fet q with
   | none=>rw[hg]at hok;have:=hok false (by simp);cases this
   | some cs =>
    rw[hg]at hok hp;dsimp only at hok hp;obtain⟨_,hokA⟩:=hok.cons;obtain⟨hf,hokB⟩:=hokA.cons;have hf:=DW hf;rcases D6.1 hp with rfl | hp
    .exact⟨by rw[Lp hg];rfl,0,rfl,.inl (by omega)⟩
    .obtain⟨h1,i,h2,h3⟩:=X8 _ _ _ hokB p hp;exact⟨h1,1+i,by omega,.inl (by omega)⟩
  | _=>cases hp
 | clo f' ks =>
  cases x with
  | clo g q =>
   simp only[Oq]at hp;unfold JU at hok;dsimp only at hok;cases hg:L6 fet q with
   | none=>rw[hg]at hok;have:=hok false (by simp);cases this
   | some cs =>
    rw[hg]at hok hp;dsimp only at hok hp;obtain⟨_,hokA⟩:=hok.cons;obtain⟨hf,hokB⟩:=hokA.cons;have hf:=DW hf;rcases D6.1 hp with rfl | hp
    .exact⟨by rw[Lp hg];rfl,0,rfl,.inl (by omega)⟩
    .obtain⟨h1,i,h2,h3⟩:=X8 _ _ _ hokB p hp;exact⟨h1,1+i,by omega,.inl (by omega)⟩
  | _=>cases hp
 | map kt vt =>
  cases x with
  | own q =>
   obtain rfl:p=(q,id):=by simpa [Oq]using hp
   unfold JU at hok;dsimp only at hok;cases hg:Jy fet q with
   | none=>rw[hg]at hok;have:=hok false (by simp);cases this
   | some y=>exact⟨rfl,0,rfl,.inl (by omega)⟩
  | _=>cases hp
def ZH {fet:Fet} {stride:Nat}: ∀(ss:List Sh) (xs:List A) (id:Nat),J5 (J8 fet ss xs).1-> ∀ p∈MQ fet id stride ss xs,(Jy fet p.1).isSome:=by
 intro ss
 induction ss with
 | nil=>intro xs id _ p hp;cases xs<;>simp [MQ]at hp
 | cons s ss ih =>
  intro xs id hok p hp;cases xs with
  | nil=>simp [MQ]at hp
  | cons x xs =>
   simp only[J8]at hok;obtain⟨h1,h2⟩:=hok.append;rcases DJ.1 hp with hp | hp
   .exact(Ald h1 p hp).1
   .exact ih xs _ h2 p hp
def Moves.Awa {ρ :Nat->Option Nat} {w w':World} (h:Moves (Na O ρ) (fun o=>o≠255) w w'):Moves O (fun o=> ∃ i,ρ o=some i) w w':=by
 refine⟨h.os,h.tape,h.output,h.size,fun b hb=> ?_⟩;have un: ∀ k i,Na O ρ b k=some i->i≠255-> ∃ q,O b k=some q/\ ∃ i,ρ q=some i:=by all_goals grind[Na]
 rcases h.blk b hb with he | ⟨c,c',e,fr,h1,h2,h3,h4,k,q,h5,h6,h7⟩ | ⟨es,ck,es',ck',q,h1,h2,h3,h4⟩
 .exact .inl he
 .refine .inr (.inl ⟨c,c',e,fr,h1,h2,h3,fun k hk=>h4 k (fun i hi hne=> ?_),k,?_⟩)
  .obtain⟨q,hq,hρ⟩:=un k i hi hne;exact hk q hq hρ
  .simp_all[un,Na]
 .simp_all[un,Na]
end
section
variable {P:Program} {C:Ctx} {V0:Nat->Value} {O0 O:Own} {w0 w:World} {m:Nat->Value} {st:St} {a:Act} {o:Oper}
def Awe (fet:Fet) (p:Nat×Sh) (x:Option A):Sh->Prop
 | .box ks=>(∃ cs,Jy fet p.1=some (.box cs))/\x=some (.ptr p.1 0)/\ks.length<=200/\p.2= .box ks
 | .clo k ks=>(∃ cs,Jy fet p.1=some (.box cs))/\x=some (.clo k p.1)/\ks.length<=200/\p.2= .box ks
 | .map kt vt=>(∃ l,Jy fet p.1=some (.mp l))/\x=some (.own p.1)/\p.2= .map kt vt
 | _=>False
def Atg {fet:Fet} {stride:Nat}: ∀(ss:List Sh) (xs:List A) (id i0:Nat),J5 (J8 fet ss xs).1 ->
 (J8 fet ss xs).2.2.2.2.length=(KX ss i0).length/\ ∀(j:Nat) (p:Nat×Sh),(J8 fet ss xs).2.2.2.2[j]? =some p-> ∃ i,(KX ss i0)[j]? =some (i0+i)/\i<ss.length/\(p.1,id+stride*i)∈MQ fet id stride ss xs/\ ∃ s,ss[i]? =some s/\Awe fet p xs[i]? s:=by
 intro ss
 induction ss with
 | nil=>intro xs id i0 hok;cases xs with
  | nil=>exact⟨rfl,fun j p h=>by simp [J8]at h⟩
  | cons _ _=>have:=hok false (by simp [J8]);cases this
 | cons s ss ih =>
  intro xs id i0 hok;cases xs with
  | nil=>have:=hok false (by simp [J8]);cases this
  | cons x xs =>
   simp only[J8]at hok ⊢;obtain⟨h1,h2⟩:=hok.append;obtain⟨g1,g2⟩:=ih xs (id+stride) (i0+1) h2;have hrest: ∀(j:Nat) (p:Nat×Sh),(J8 fet ss xs).2.2.2.2[j]? =some p-> ∃ i,(KX ss (i0+1))[j]? =some (i0+i)/\i<(s::ss).length/\(p.1,id+stride*i)∈MQ fet id stride (s::ss) (x::xs)/\ ∃ s',(s::ss)[i]? =some s'/\Awe fet p (x::xs)[i]? s':=by intro j p hp;obtain⟨i,a1,a2,a3,s',a4,a5⟩:=g2 j p hp;refine⟨i+1,by rw[a1];congr 1;omega,by simpa using a2,DI _ ?_,s',by simpa using a4,by simpa using a5⟩;rw[show id+stride*(i+1)=id+stride+stride*i from by rw[Jo];omega];exact a3
   cases s with
   | box ks =>
    cases x with
    | ptr q off =>
     have hA:J5 (JU fet (.box ks) (.ptr q off)).ok:=h1;unfold JU at h1;dsimp only at h1;cases hg:L6 fet q with
     | none=>rw[hg]at h1;have:=h1 false (by simp);cases this
     | some cs =>
      rw[hg]at h1;dsimp only at h1;obtain⟨h3,h4⟩:=h1.cons;obtain⟨h4,_⟩:=h4.cons;have h3:=Dy h3;have h4:=DW h4;subst h3;have hb:(JU fet (.box ks) (.ptr q 0)).boxes=[(q,.box ks)]:=by unfold JU;dsimp only;rw[hg]
      rw[hb];refine⟨by simp [KX,KE,g1],fun j p hp=> ?_⟩;cases j with
      | zero =>simp at hp;subst hp;exact⟨0,by simp [KX,KE],by simp,DL _ (by simp [Oq]),_,rfl,⟨cs,Lp hg⟩,rfl,h4,rfl⟩
      | succ j =>
       have hp':(J8 fet ss xs).2.2.2.2[j]? =some p:=by simpa using hp
       obtain⟨i,a1,a2⟩:=hrest j p hp';exact⟨i,by simpa [KX,KE]using a1,a2⟩
    | _=>have:=h1 false (by simp [JU]);cases this
   | clo f' ks =>
    cases x with
    | clo g q =>
     have hA:J5 (JU fet (.clo f' ks) (.clo g q)).ok:=h1;unfold JU at h1;dsimp only at h1;cases hg:L6 fet q with
     | none=>rw[hg]at h1;have:=h1 false (by simp);cases this
     | some cs =>
      rw[hg]at h1;dsimp only at h1;obtain⟨h3,h4⟩:=h1.cons;obtain⟨h4,_⟩:=h4.cons;have h3:=Dy h3;have h4:=DW h4;subst h3;have hb:(JU fet (.clo f' ks) (.clo f' q)).boxes=[(q,.box ks)]:=by unfold JU;dsimp only;rw[hg]
      rw[hb];refine⟨by simp [KX,KE,g1],fun j p hp=> ?_⟩;cases j with
      | zero =>simp at hp;subst hp;exact⟨0,by simp [KX,KE],by simp,DL _ (by simp [Oq]),_,rfl,⟨cs,Lp hg⟩,rfl,h4,rfl⟩
      | succ j =>
       have hp':(J8 fet ss xs).2.2.2.2[j]? =some p:=by simpa using hp
       obtain⟨i,a1,a2⟩:=hrest j p hp';exact⟨i,by simpa [KX,KE]using a1,a2⟩
    | _=>have:=h1 false (by simp [JU]);cases this
   | cell u k=>grind[JU,split,KX,KE]
   | agg ks =>
    have hb:(JU fet (.agg ks) x).boxes=[]:=by unfold JU;cases x<;>rfl
    rw[hb];exact⟨by simpa [KX,KE]using g1,fun j p hp=>by simpa [KX,KE]using hrest j p (by simpa using hp)⟩
   | map kt vt =>
    cases x with
    | own q =>
     unfold JU at h1;dsimp only at h1;cases hg:Jy fet q with
     | none=>rw[hg]at h1;have:=h1 false (by simp);cases this
     | some y =>
      cases y with
      | box _=>rw[hg]at h1;have:=h1 false (by simp);cases this
      | arr _ _ _=>rw[hg]at h1;have:=h1 false (by simp);cases this
      | mp l =>
       have hb:(JU fet (.map kt vt) (.own q)).boxes=[(q,.map kt vt)]:=by unfold JU;dsimp only;rw[hg]
       rw[hb];refine⟨by simp [KX,KE,g1],fun j p hp=> ?_⟩;cases j with
       | zero =>simp at hp;subst hp;exact⟨0,by simp [KX,KE],by simp,DL _ (by simp [Oq]),_,rfl,⟨l,hg⟩,rfl,rfl⟩
       | succ j =>
        have hp':(J8 fet ss xs).2.2.2.2[j]? =some p:=by simpa using hp
        obtain⟨i,a1,a2⟩:=hrest j p hp';exact⟨i,by simpa [KX,KE]using a1,a2⟩
    | _=>have:=h1 false (by simp [JU]);cases this
def Vh (rb:Nat->Nat) (w:World) (vf:Nat->Value) (rs:List A):List (Nat×Sh)->Nat->List (Nat×Value)
 | [],_=>[]
 | (o,s)::r,j=>(NM (rb o) s (rs.getD j .undef)).2.2.map (fun p=>(p.1,NG w (vf j) (p.1 - rb o)))++Vh rb w vf rs r (j+1)
def Af4 (rb:Nat->Nat) (w:World) (vf:Nat->Value) (rs:List A): ∀(bs:List (Nat×Sh)) (j:Nat),(Vh rb w vf rs bs j).map (·.1)=(KQ rb rs bs j).2.2.map (·.1):=by
 intro bs
 induction bs with
 | nil=>intro j;rfl
 | cons b bs ih=>simp_all[Vh,KQ,Sh]
def AhR (rb:Nat->Nat) (rs:List A): ∀(bs:List (Nat×Sh)) (j:Nat),(KQ rb rs bs j).2.1.map (·.1)=bs.map (·.1):=by
 intro bs
 induction bs with
 | nil=>intro j;rfl
 | cons b bs ih=>grind[KQ]
def AjN {rb:Nat} {Oc O':Own} {objs':List (Nat×Obj)} {m':Nat->Value} {v:Value} {cid q:Nat} {s:Sh} {r:A} (hp:MS Oc w O' w) (hn: ∀ b k,Oc b k=none->O' b k=none)
 (hs: ∀ ks,s= .box ks->ks.length<=200) (hmq:m' q=v) (hir:IR Oc w cid v (Abj r)) (hr: ∀ b k i,i<255->Oc b k=some (cid+i)->O' b k=some (if i=0 then q else rb+i))
 (hok:J5 (NM rb s r).1) (hO: ∀ p∈(NM rb s r).2.2,Jy objs' p.1=some p.2) (hm: ∀ p∈(NM rb s r).2.2,m' p.1=NG w v (p.1 - rb)) :
 KT O' objs' m' w q (NM rb s r).2.1/\ ∀ p∈(NM rb s r).2.2,KT O' objs' m' w p.1 p.2:=by
 cases s with
 | cell _ _=>have:=hok false (by simp [NM]);cases this
 | agg _=>have:=hok false (by simp [NM]);cases this
 | clo _ _=>have:=hok false (by simp [NM]);cases this
 | map kt vt =>simp only[NM]at hok ⊢;obtain⟨l,rfl,_,_⟩:=eU hok.cons.1;refine⟨?_,fun p hp=>by cases hp⟩;show Ny O' w q (m' q) l;rw[hmq];exact Ny.carry (show Ny Oc w cid v l from hir) hp (fun b k hb=>by have:=hr b k 0 (by omega) hb;exact this)
 | box ks =>
  have hf:=hs ks rfl;simp only[NM]at hok hO hm ⊢;obtain⟨hok0,hok1⟩:=hok.cons;cases r with
  | agg cs =>
   have hl:cs.length=ks.length:=by simpa [A.isAgg,UO]using hok0
   obtain⟨bk,base,h1,h2⟩:=(show IR Oc w cid v (.box cs)from hir)
   have hcell: ∀ j,NG w v (j+1)=(w.cell? (at' bk (base+j))).getD undef:=by intro j;rw[h1];rfl
   obtain⟨k1,k2,k3⟩:=Sr (objs':=objs') (m':=m') (cid:=cid+1) (id:=rb+1) (f:=fun j=>(w.cell? (at' bk (base+j))).getD undef) hp hn ks cs 0 (fun j hj=>by
    obtain⟨_,_,u,h5,h6⟩:=h2 j (by omega);rw[DV,h5];exact h6) (fun b k i hi hb=>by
    have:=hr b k (1+i) (by omega) (by rw[<- EL];exact hb);rw[Ay9,<- EL]at this;exact this) hok1 hO (fun p hp i hi=>by
    have:=hm p hp;rw[this,hi,show rb+1+i - rb=i+1 from by omega,hcell])
   refine⟨⟨bk,base,by rw[hmq];exact h1,fun j hj=> ?_⟩,fun p hp=>(k3 p hp).1⟩;have hj:j<(JI (rb+1) ks cs 0).2.1.length:=hj;rw[k1]at hj;obtain⟨a1,a2,u,a3,_⟩:=h2 j (by omega);have:=k2 j hj;rw[DV,a3]at this;exact⟨by have:=hr bk (base+j) 0 (by omega) a1;exact this,a2,u,a3,this⟩
  | _=>cases hok0
def Af5 {rb:Nat->Nat} {Oc O':Own} {objs':List (Nat×Obj)} {m':Nat->Value} {val:Nat->Value} {cid:Nat->Nat} {rs:List A} (hp:MS Oc w O' w) (hn: ∀ b k,Oc b k=none->O' b k=none): ∀(bs:List (Nat×Sh)) (j0:Nat),
 (∀(j:Nat) (p:Nat×Sh),bs[j]? =some p->(∀ ks,p.2= .box ks->ks.length<=200)/\m' p.1=val (j0+j)/\IR Oc w (cid (j0+j)) (val (j0+j)) (Abj (rs.getD (j0+j) .undef))/\ ∀ b k i,i<255->Oc b k=some (cid (j0+j)+i)->O' b k=some (if i=0 then p.1 else rb p.1+i)) ->
 J5 (KQ rb rs bs j0).1->(∀ p∈(KQ rb rs bs j0).2.2,Jy objs' p.1=some p.2)->(∀ p∈Vh rb w val rs bs j0,m' p.1=p.2) ->
 (∀ p∈(KQ rb rs bs j0).2.1,KT O' objs' m' w p.1 p.2)/\ ∀ p∈(KQ rb rs bs j0).2.2,KT O' objs' m' w p.1 p.2:=by
 intro bs
 induction bs with
 | nil=>grind[KQ]
 | cons b bs ih =>
  intro j0 h hok hO hm;obtain⟨q,s⟩:=b;simp only[KQ]at hok hO ⊢;simp only[Vh]at hm;obtain⟨hok1,hok2⟩:=hok.append;obtain⟨g1,g2⟩:=ih (j0+1) (fun j p hj=>by have:=h (j+1) p (by simpa using hj);rwa [show j0+(j+1)=j0+1+j from by omega]at this) hok2 (fun p hp=>hO p (DI _ hp)) (fun p hp=>hm p (DI _ hp));obtain⟨hf,hmq,hir,hr⟩:=h 0 (q,s) rfl;rw[Nat.add_zero]at hmq hir hr;obtain⟨k1,k2⟩:=AjN (objs':=objs') (m':=m') (rb:=rb q) (q:=q) hp hn hf hmq hir hr hok1 (fun p hp=>hO p (DL _ hp)) (fun p hp=>hm (p.1,NG w (val j0) (p.1 - rb q)) (DL _ (DF.2 ⟨p,hp,rfl⟩)));refine⟨fun p hp=> ?_,fun p hp=> ?_⟩
  .rcases D6.1 hp with rfl | hp
   .exact k1
   .exact g1 p hp
  .rcases DJ.1 hp with hp | hp
   .exact k2 p hp
   .exact g2 p hp
end
section
variable {P:Program} {C:Ctx} {V0:Nat->Value} {O0 O:Own} {w0 w:World} {m:Nat->Value} {st:St} {a:Act} {o:Oper}
def Ad6 (ss:List Sh) (xs:List A) (i:Nat):Option Nat:=match ss.getD i (.agg []),xs.getD i .undef with
 | .map _ _,.own o=>some o
 | .clo _ _,.clo _ o=>some o
 | .box _,.clo _ o=>some o
 | .clo _ _,.ptr o _=>some o
 | _,.ptr o _=>some o
 | _,_=>none
def Abp (rb:Nat->Nat) (d:Nat) (ss:List Sh) (xs:List A) (n:Nat):Option Nat :=
 if 256000<=n then some (b2 d+16*((n - 256000) / 256)+(n - 256000) % 256)
 else match Ad6 ss xs (n / 256)with
  | some q=>some (if n % 256=0 then q else rb q+n % 256)
  | none=>none
def Ajz:Sh->Obj->Prop
 | .box _,.box _=>True
 | .map _ _,.mp _=>True
 | _,_=>False
def zX {s:Sh} {e:Nat} {f:Bool} {l:Sl} (h:Ajz s (.arr e f l)):False:=by cases s<;>exact h
def ArZ {s:Sh} {y:Obj} {rb:Nat} {r:A} (h:Ajz s y):y.shp=(NM rb s r).2.1.shp:=by cases s<;>cases y<;>first | exact h.elim | rfl
def AjT {d:Nat} {fet:Fet} {sg:Sig} {xs:List A} (h:J5 (PM fet d sg xs).ok):sg.ok (eF fet sg.Js xs).vs=true:=by unfold PM Ajl at h;exact h.append.1.append.1.append.1.append.2.cons.1
def AdA {c:Call} {f:Nat} {sg:Sig} {x0:Operand} {caps av:Array Value} (hS:Sim V0 O0 w0 O m st a w) (ho:o.op= .call c) (hcal:c.callee= .value x0) (hev:a.eval x0= .func (.func f) #[] caps) (hav:c.args.map a.eval++caps=av) (hsp:Spec P f sg) {d:Nat} {fet:Fet} (hf:Ob st.Jp fet) {xs:List A}
 (hl:xs.length=av.size) (hx: ∀ j,j<xs.length->J7 O st.Jp m w (av.getD j undef) (xs.getD j .undef))
 (hok:J5 (PM fet d sg xs).ok) (hfr: ∀ p∈(PM fet d sg xs).new,st.fresh p.1=true) (hnd:nodup ((PM fet d sg xs).new.map (·.1))=true):Good P V0 O0 w0 (apply st o (PM fet d sg xs)) o a w:=by
 intro next Q hn
 unfold PM at hok hfr hnd hn;generalize hH:eF fet sg.Js xs=H at *
 obtain⟨hok1,vsA,upd,del,bxs⟩:=H;have hHs:J8 fet sg.Js xs=(hok1,vsA,upd,del,bxs):=by unfold eF at hH;injection hH with q1 q2 q3 q4 q5;rw[<- q1,<- q2,<- q3,<- q4,<- q5]
 dsimp only at hok hfr hnd hn;unfold Ajl at hok;obtain⟨hokA,hokB⟩:=hok.append;obtain⟨hokA,hokC⟩:=hokA.append;obtain⟨hokA,hokD⟩:=hokA.append;obtain⟨hokA,hokE⟩:=hokA.append;obtain⟨hN,hokB⟩:=hokB.cons;obtain⟨h100,hokB⟩:=hokB.cons;have h100:=DW h100;have hF:sg.F vsA=some (sg.val vsA):=by have:=hokE.cons.1;unfold Sig.F;rw[this];rfl
 have hokA':J5 (J8 fet sg.Js xs).1:=by rw[hHs];exact hokA
 generalize sg.val vsA=rs at hF hfr hnd hn hokB hokC hokD;simp only[Ajl]at hfr hnd hn hokB hokC hokD;have hcnt:=Dy hokB.cons.1;obtain⟨g1,g2,g3,g4,g5⟩:=We (W:=upd=[]) hf hS.Jp 256 sg.Js xs 0 (fun j=>av.getD j undef) (fun e=>by have:=hokB.cons.2.cons.1;rw[e]at this;simpa using this) hx hokA';obtain⟨b1,b2'⟩:=Atg (fet:=fet) (stride:=256) sg.Js xs 0 0 hokA';have halive:=ZH (fet:=fet) (stride:=256) sg.Js xs 0 hokA';rw[hHs]at g1 g3 g4 g5 b1 b2';dsimp only at g1 g3 g4 g5 b1 b2';generalize hNs:MQ fet 0 256 sg.Js xs=N at *
 obtain⟨O1,hS1,hp1,hle1,hv1,hE1,hk1⟩:=hS.freezes _ g3;let ρ :=look N;have hρ : ∀ p∈N,ρ p.1=some p.2:=AkV hN;have hupdO: ∀ p∈upd,KT O1 (JD st.Jp upd) m w p.1 p.2:=by intro p hp;obtain⟨x,hx1,hx2⟩:=Nl upd st.Jp p.1 ⟨p,hp,rfl⟩;obtain⟨e,fz,l,k1,k2⟩:=g3 p hp;obtain⟨e',fz',l',k3,k4⟩:=g3 _ hx1;dsimp only at k3 k4;rw[k1]at k3;injection k3 with k3;injection k3 with q1 q2 q3;subst q1;subst q3;rw[k2,<- k4];exact hS1.Jp p.1 x hx2
 have hIR:=g5 hp1 hv1 hupdO hk1 hρ;have hargs:av.size=vsA.length:=by rw[<- hl,g2,g1]
 have hexec:(execOp a.eval o).run P w= .ok (.enter f av) w:=by simp only[execOp,ho,resolve,hcal,hev,Deferred.ofValue,D8,Sem.run_pure,Result.andThen_ok,invoke];have:=hsp.1 av w;simpa [hav]using this
 unfold Oper.wp;rw[hexec,Oper.upon_enter];refine(hsp.2 (Na O1 ρ) w av vsA rs ⟨fun g j p ht=>⟨V8.2 (hS1.eH.1 g j p ht).1,(hS1.eH.1 g j p ht).2⟩,hS1.eH.2⟩ hargs g1 (by rw[g1,<- g2];exact h100) (fun j hj=> ?_) hF).mono ?_
 .have:=hIR j (by rw[<- g1];exact hj);rw[DV]at this;exact this
 rintro e w' ⟨v,Of,rfl,hcame⟩;dsimp only;obtain⟨us,hus1,hus2,hus3⟩:=hcame.res;let T:Nat->Prop:=fun q=> ∃ i,ρ q=some i;let O2:Own:=fun b k=>if b<w.heap.size then(match O1 b k with | none=>none | some q=>if T q then(Of b k).bind (Abp (LY fet) d sg.Js xs)else some q)else(Of b k).bind (Abp (LY fet) d sg.Js xs);have hM:Moves O1 T w w':=hcame.moves.Awa;have hO2lt: ∀ {b k},b<w.heap.size->O2 b k=(match O1 b k with | none=>none | some q=>if T q then(Of b k).bind (Abp (LY fet) d sg.Js xs)else some q):=fun hb=>Dp hb;have hP2:Passes O1 O2 T w.heap.size:=by refine⟨fun b k hb h=>by rw[hO2lt hb,h],fun b k q hb h ht=> ?_⟩;rw[hO2lt hb,h];exact Dk ht
 have hless2: ∀ b k,b<w.heap.size->O2 b k≠none->O1 b k≠none:=by intro b k hb h h';rw[hO2lt hb,h']at h;exact h rfl
 have hnone: ∀ b k,Of b k=none->O2 b k=none:=by
  intro b k h;by_cases hb:b<w.heap.size
  .rw[hO2lt hb];cases hO:O1 b k with
   | none=>rfl
   | some q =>
    by_cases ht:T q
    .show(if T q then _ else _)=_;rw[Dp ht,h];rfl
    .exfalso
     have hr:Na O1 ρ b k=some 255:=by
      unfold Na;rw[hO]
      have: ρ q=none:=by
       cases hh: ρ q with
       | none=>rfl
       | some i=>exact absurd ⟨i,hh⟩ ht
      simp [this]
     have:=hcame.kQ b k hb hr;rw[h]at this;cases this
  .show(if _ then _ else _)=_;rw[Dk hb,h];rfl
 have hsome: ∀ b k n,Of b k=some n->n≠255->O2 b k=Abp (LY fet) d sg.Js xs n:=by
  intro b k n h hne;by_cases hb:b<w.heap.size
  .rw[hO2lt hb];have h1:=hcame.less b k hb (by rw[h];simp);rw[Ne,V8]at h1;cases hO:O1 b k with
   | none=>exact absurd hO h1
   | some q =>
    by_cases ht:T q
    .show(if T q then _ else _)=_;rw[Dp ht,h];rfl
    .exfalso
     have hr:Na O1 ρ b k=some 255:=by
      unfold Na;rw[hO]
      have: ρ q=none:=by
       cases hh: ρ q with
       | none=>rfl
       | some i=>exact absurd ⟨i,hh⟩ ht
      simp [this]
     have:=hcame.kQ b k hb hr;rw[h]at this;injection this with this;exact hne this
  .show(if _ then _ else _)=_;rw[Dk hb,h];rfl
 have hpf:MS Of w' O2 w':=fun b k u h hc=>⟨hnone b k h,hc⟩
 have hbcnt:bxs.length=(KX sg.Js 0).length:=b1;let bi:Nat->Nat:=fun j=>(KX sg.Js 0).getD j 0;let bval:Nat->Value:=fun j=>innerS w (sg.Js.getD (bi j) (.agg [])) (av.getD (bi j) undef);let HV:=Xg w' (fun k=>innerS w' (sg.JA.getD k (.agg [])) (us.getD k undef)) (b2 d) 16 sg.JA rs 0++Vh (LY fet) w' bval (rs.drop sg.JA.length) bxs 0;have hHVf:HV.map (·.1)=((KL (b2 d) 16 sg.JA rs 0).2.2++(KQ (LY fet) (rs.drop sg.JA.length) bxs 0).2.2).map (·.1):=by simp only[HV,F7,Aoz,Af4]
 have hHVn:nodup (HV.map (·.1))=true:=by rw[hHVf];exact hnd
 let m2:Nat->Value:=fun i=>(jD HV i).getD (m i);have hm2: ∀ p∈HV,m2 p.1=p.2:=by intro p hp;show(jD HV p.1).getD _=_;rw[ArK hHVn p hp];rfl
 let Nw:Nat->Prop:=fun i=> ∃ p∈(KL (b2 d) 16 sg.JA rs 0).2.2++(KQ (LY fet) (rs.drop sg.JA.length) bxs 0).2.2,p.1=i;have hNw: ∀ i,Nw i->Pj {st with Jp:=JD st.Jp upd} i:=by rintro i ⟨p,hp,rfl⟩;exact(MV (hfr p hp)).frz g3
 have hm2not: ∀ i,¬ Nw i->m2 i=m i:=by
  intro i hi;show(jD HV i).getD _=_;rw[Ap2 (fun h=> ?_)]
  .rfl
  .rw[hHVf]at h;obtain⟨p,hp,hpe⟩:=DF.1 h;exact hi ⟨p,hp,hpe⟩
 have hrres: ∀ j,j<sg.JA.length-> ∀ b k i,i<255->Of b k=some (256000+256*(0+j)+i)->O2 b k=some (b2 d+16*(0+j)+i):=by
  intro j hj b k i hi h;rw[hsome b k _ h (by omega)];unfold Abp;rw[AyA,DV];have e1:(256000+256*j+i - 256000) / 256=j:=by omega
  have e2:(256000+256*j+i - 256000) % 256=i:=by omega
  rw[e1,e2]
 have hbx: ∀(j:Nat) (p:Nat×Sh),bxs[j]? =some p->(∃ y,Jy st.Jp p.1=some y/\Ajz p.2 y)/\(∀ ks,p.2= .box ks->ks.length<=200)/\m p.1=bval j/\IR Of w' (256*bi j) (bval j) (Abj (rs.getD (sg.JA.length+j) .undef)) /\
  ∀ b k i,i<255->Of b k=some (256*bi j+i)->O2 b k=some (if i=0 then p.1 else LY fet p.1+i):=by
  intro j p hp;obtain⟨i',a1,a2,a3,s',a7,a4⟩:=b2' j p hp;rw[DV]at a1;have hbi:bi j=i':=by show(KX sg.Js 0).getD j 0=_;rw[Dj,a1];rfl
  have c2:=hcame.boxes j i' a1;have hi'x:i'<xs.length:=by rw[g2];exact a2
  have hxv:=hx i' hi'x;have hF':FOk O st.Jp m w fet:=fun q x h=>⟨hf q x h,hS.Jp q x (hf q x h)⟩
  have hkey:(∃ y,Jy st.Jp p.1=some y/\Ajz p.2 y)/\(∀ ks,p.2= .box ks->ks.length<=200)/\m p.1=innerS w (sg.Js.getD i' (.agg [])) (av.getD i' undef)/\Ad6 sg.Js xs i'=some p.1:=by
   obtain⟨q,s⟩:=p;have hs':sg.Js.getD i' (.agg [])=s':=by rw[Dj,a7];rfl
   cases s' with
   | cell _ _=>exact a4.elim
   | agg _=>exact a4.elim
   | box ks =>
    obtain⟨⟨cs0,a4⟩,a5,a6,a8⟩:=a4;dsimp only at a8;subst a8;have e5:xs.getD i' .undef= .ptr q 0:=by rw[Dj,a5];rfl
    rw[e5]at hxv;obtain⟨bk,base,k1,k2,_⟩:=hxv.ptr hF' a4;refine⟨⟨_,hf _ _ a4,trivial⟩,(fun ks' h=>by injection h with h;rw[<- h];exact a6),by rw[hs'];dsimp only at k1 ⊢;rw[k1,k2,Nat.add_zero];rfl,?_⟩;unfold Ad6;rw[hs',e5]
   | clo f' ks =>
    obtain⟨⟨cs0,a4⟩,a5,a6,a8⟩:=a4;dsimp only at a8;subst a8;have e5:xs.getD i' .undef= .clo f' q:=by rw[Dj,a5];rfl
    rw[e5]at hxv;have hc:JC O st.Jp m w (av.getD i' undef) (.clo f' q):=hxv;obtain⟨_,p',_,hc2,hc⟩:=hc;rw[hf _ _ a4]at hc;obtain⟨b',base',e1,e2⟩:=hc;have hc:aN O w f' (av.getD i' undef) (m q):=by rw[e1,<- e2];exact hc2
    refine⟨⟨_,hf _ _ a4,trivial⟩,(fun ks' h=>by injection h with h;rw[<- h];exact a6),by rw[hs'];exact hc.inner.symm,?_⟩;unfold Ad6;rw[hs',e5]
   | map kt vt =>
    obtain⟨⟨l,a4⟩,a5,a8⟩:=a4;dsimp only at a8;subst a8;have e5:xs.getD i' .undef= .own q:=by rw[Dj,a5];rfl
    rw[e5]at hxv;have hc:JC O st.Jp m w (av.getD i' undef) (.own q):=hxv;have hc:=hc.2;rw[hf _ _ a4]at hc;refine⟨⟨_,hf _ _ a4,trivial⟩,(fun ks' h=>by cases h),by rw[hs'];exact hc.symm,?_⟩;unfold Ad6;rw[hs',e5]
  obtain⟨hky,hk200,hkm,e7⟩:=hkey;refine⟨hky,hk200,?_,?_,fun b k i hi h=> ?_⟩
  .show _=innerS w (sg.Js.getD (bi j) (.agg [])) (av.getD (bi j) undef);rw[hbi];exact hkm
  .show IR Of w' (256*bi j) (innerS w (sg.Js.getD (bi j) (.agg [])) (av.getD (bi j) undef)) _;rw[hbi];exact c2
  .rw[hbi]at h;rw[hsome b k _ h (by omega)];unfold Abp;rw[Ay9];have e1:(256*i'+i) / 256=i':=by omega
   have e2:(256*i'+i) % 256=i:=by omega
   rw[e1,e2,e7]
 let NEW:=(KL (b2 d) 16 sg.JA rs 0).2.2++(KQ (LY fet) (rs.drop sg.JA.length) bxs 0).2.2;let BX:=(KQ (LY fet) (rs.drop sg.JA.length) bxs 0).2.1;let objsF:=JD (Ky (JD st.Jp (upd++BX)) del) NEW;have hnewO: ∀ p∈NEW,Jy objsF p.1=some p.2:=fun p hp=>oW hnd hp
 have hBXk: ∀ i z,(i,z)∈BX-> ∃(j:Nat) (p:Nat×Sh),bxs[j]? =some p/\p.1=i/\ ∃ r,z=(NM (LY fet p.1) p.2 r).2.1:=by
  intro i z hz
  have: ∀(bs:List (Nat×Sh)) (j0:Nat),(i,z)∈(KQ (LY fet) (rs.drop sg.JA.length) bs j0).2.1-> ∃(j:Nat) (p:Nat×Sh),bs[j]? =some p/\p.1=i/\ ∃ r,z=(NM (LY fet p.1) p.2 r).2.1:=by
   intro bs
   induction bs with
   | nil=>intro j0 h;simp [KQ]at h
   | cons b bs ih =>
    intro j0 h;obtain⟨q,ks⟩:=b;simp only[KQ]at h;rcases D6.1 h with h | h
    .injection h with h1 h2;exact⟨0,(q,ks),rfl,h1.symm,_,h2⟩
    .obtain⟨j,p,h1,h2⟩:=ih (j0+1) h;exact⟨j+1,p,by simpa using h1,h2⟩
  exact this bxs 0 hz
 have hupdk: ∀ i z,(i,z)∈upd->(∃ e l f,z= .arr e true l/\Jy st.Jp i=some (.arr e f l))/\Jy (JD st.Jp upd) i=some z:=by intro i z hz;obtain⟨e,fz,l,k1,k2⟩:=g3 _ hz;dsimp only at k1 k2;refine⟨⟨e,l,fz,k2,k1⟩,?_⟩;obtain⟨x,hx1,hx2⟩:=Nl upd st.Jp i ⟨(i,z),hz,rfl⟩;obtain⟨e',fz',l',k3,k4⟩:=g3 _ hx1;dsimp only at k3 k4;rw[k1]at k3;injection k3 with k3;injection k3 with q1 q2 q3;subst q1;subst q3;rw[hx2,k4,k2]
 have hnoBX: ∀ i,(∃ e f l,Jy st.Jp i=some (.arr e f l))-> ∀ y,(i,y)∉BX:=by rintro i ⟨e,f',l,h⟩ y hy;obtain⟨j,p,h1,h2,_⟩:=hBXk i y hy;obtain⟨⟨y',h3,h4⟩,_⟩:=hbx j p h1;rw[h2,h]at h3;injection h3 with h3;subst h3;exact zX h4
 have hTiff: ∀ i,T i->i∈del\/ ∃ y,(i,y)∈BX:=by
  rintro i ⟨n,hn'⟩;have h1:(i,n)∈N:=zH hn';have h2:=(g4 i).2 (DF.2 ⟨_,h1,rfl⟩);rcases DJ.1 h2 with h2 | h2
  .exact .inl h2
  .right;rw[<- AhR (LY fet) (rs.drop sg.JA.length) bxs 0]at h2;obtain⟨q,hq1,hq2⟩:=DF.1 h2;exact⟨q.2,by rw[<- hq2];exact hq1⟩
 have hget: ∀ i z,Jy objsF i=some z->(i,z)∈NEW\/(¬ Nw i/\i∉del/\((i,z)∈BX\/((∀ y,(i,y)∉BX)/\Jy (JD st.Jp upd) i=some z))):=by
  intro i z hz;rcases Xf hz with h | ⟨hno,hnd',h⟩
  .exact .inl h
  .have hni: ¬ Nw i:=by rintro ⟨p,hp,rfl⟩;exact hno p.2 hp
   refine .inr ⟨hni,hnd',?_⟩;rcases h with h | ⟨h1,h2⟩
   .rcases DJ.1 h with h | h
    .obtain⟨⟨e,l,f',h3,h4⟩,h5⟩:=hupdk i z h;exact .inr ⟨hnoBX i ⟨e,f',l,h4⟩,h5⟩
    .exact .inl h
   .right;refine⟨fun y hy=>h1 y (DI _ hy),?_⟩;rw[LJ _ _ _ (fun p hp e=>h1 p.2 (DL _ (by rw[<- e];exact hp)))];exact h2
 have hbxst: ∀ i z,(i,z)∈BX-> ∃ y,Jy st.Jp i=some y/\Jy (JD st.Jp upd) i=some y/\y.shp=z.shp:=by
  intro i z hz;obtain⟨j,p,h1,h2,r,h4⟩:=hBXk i z hz;obtain⟨⟨y,h3,h5⟩,_⟩:=hbx j p h1;rw[h2]at h3;refine⟨y,h3,?_,by rw[h4];exact ArZ h5⟩;rw[LJ _ _ _ (fun p hp e=> ?_)]
  .exact h3
  .obtain⟨⟨e1,e2,e3,_,h6⟩,_⟩:=hupdk p.1 p.2 hp;rw[e,h3]at h6;injection h6 with h6;rw[h6]at h5;exact zX h5
 have hE:Q9 (JD st.Jp upd) m objsF m2 Nw:=by
  intro i z hz;rcases hget i z hz with h | ⟨h1,h2,h | ⟨h3,h4⟩⟩
  .exact .inl ⟨_,h,rfl⟩
  .obtain⟨y,h5,h6,h7⟩:=hbxst i z h;exact .inr ⟨y,h6,h7,hm2not i h1⟩
  .exact .inr ⟨z,h4,rfl,hm2not i h1⟩
 obtain⟨r1,r2,r3⟩:=Ad1 (objs':=objsF) (m':=m2) (cid:=256000) (cst:=256) (id:=b2 d) (stride:=16) (f:=fun k=>us.getD k undef) (g:=fun k=>innerS w' (sg.JA.getD k (.agg [])) (us.getD k undef)) (rs:=rs) hpf hnone sg.JA 0 (fun j _=>by rw[DV]) (fun j hj=>by have:=hus3 j (by rw[hus1];exact hj);rw[DV];exact this) hrres hokD (fun p hp=>hnewO p (DL _ hp)) (fun p hp=>hm2 p (DL _ hp))
 obtain⟨s1,s2⟩:=Af5 (rb:=LY fet) (objs':=objsF) (m':=m2) (val:=bval) (cid:=fun j=>256*bi j) (rs:=rs.drop sg.JA.length) hpf hnone bxs 0 (fun j p hp=>by
  obtain⟨⟨y0,h0,h0'⟩,h1,h2,h4,h5⟩:=hbx j p hp
  have hni: ¬ Nw p.1:=fun h=>by
   have:=(hNw p.1 h).Jp;dsimp only at this;rw[LJ _ _ _ (fun p' hp' e=> ?_)]at this
   .rw[h0]at this;cases this
   .obtain⟨⟨e1,e2,e3,_,h6⟩,_⟩:=hupdk p'.1 p'.2 hp';rw[e,h0]at h6;injection h6 with h6;rw[h6]at h0';exact zX h0'
  rw[DV];refine⟨h1,by rw[hm2not _ hni];exact h2,?_,h5⟩;rw[Dj,FO,<- Dj];exact h4) hokC (fun p hp=>hnewO p (DI _ hp)) (fun p hp=>hm2 p (DI _ hp))
 let vsR:=(KL (b2 d) 16 sg.JA rs 0).2.1
 have hval:J7 O2 objsF m2 w' v (jU vsR):=by
  have hlen:vsR.length=us.size:=by rw[r1,hus1]
  rw[hus2];by_cases h1:us.size=1
  .rw[Io h1];obtain⟨x,hx'⟩: ∃ x,vsR=[x]:=Fz.1 (by rw[hlen];exact h1);rw[hx'];have:=(r2 0 (by rw[<- hus1];omega)).1;have e1:(KL (b2 d) 16 sg.JA rs 0).2.1.getD 0 .undef=x:=by show vsR.getD 0 .undef=x;rw[hx'];rfl
   rw[e1]at this;have e2:us.getD (0+0) undef=us[0]:=by simp [Dq,show 0<us.size from by omega]
   rw[<- e2];exact this
  .rw[Jj h1]
   have e1:jU vsR= .tup vsR:=by
    cases hv':vsR with
    | nil=>rfl
    | cons x l =>
     cases l with
     | nil=>rw[hv']at hlen;simp at hlen;omega
     | cons _ _=>rfl
   rw[e1];refine⟨us,rfl,hlen.symm,fun j hj=> ?_⟩;have hj':j<sg.JA.length:=by rw[<- r1];exact hj
   have:=r2 j hj';rw[DV]at this;exact this.1.Axc this.2
 refine hn O2 m2 _ _ ?_;refine hS1.next (T:=T) (Nw:=Nw) (x:=jU vsR) hM hP2 hless2 hE (fun n hn'=>(hNw n hn').both) (fun q hq=> ?_) (fun i z hz=> ?_) rfl (fun _=>hval)
 .obtain⟨n,hn'⟩:=hq;have h1:(q,n)∈N:=zH hn';have h2:=halive _ h1;obtain⟨y,hy⟩:=EU.1 h2;have h3:=hf _ _ hy;by_cases hu: ∃ p∈upd,p.1=q
  .obtain⟨x,_,hx2⟩:=Nl upd st.Jp q hu;exact EU.2 ⟨x,hx2⟩
  .dsimp only;rw[LJ _ _ _ (fun p hp e=>hu ⟨p,hp,e⟩)];exact EU.2 ⟨y,h3⟩
 .rcases hget i z hz with h | ⟨h1,h2,h | ⟨h3,h4⟩⟩
  .right;refine⟨?_,(hNw i ⟨_,h,rfl⟩).ne⟩;rcases DJ.1 h with h | h
   .exact r3 _ h
   .exact s2 _ h
  .right;obtain⟨y,h5,h6,_⟩:=hbxst i z h;exact⟨s1 _ h,hS.ids i _ h5⟩
  .left;refine⟨fun ht=> ?_,h4,hm2not i h1⟩;rcases hTiff i ht with h | ⟨y,hy⟩
   .exact h2 h
   .exact h3 y hy
def Ahk {c:Call} {f:Nat} {sg:Sig} {x0:Operand} (hS:Sim V0 O0 w0 O m st a w) (ho:o.op= .call c) (hcal:c.callee= .value x0) (hev:a.eval x0= .func (.func f) #[] #[]) (hsp:Spec P f sg) {d:Nat} {fet:Fet} (hf:Ob st.Jp fet) {xs:List A}
 (hl:xs.length=c.args.size) (hx: ∀ j,j<xs.length->J7 O st.Jp m w (a.eval (c.args.getD j (.tmp 0))) (xs.getD j .undef))
 (hok:J5 (PM fet d sg xs).ok) (hfr: ∀ p∈(PM fet d sg xs).new,st.fresh p.1=true) (hnd:nodup ((PM fet d sg xs).new.map (·.1))=true):Good P V0 O0 w0 (apply st o (PM fet d sg xs)) o a w:=by
 refine AdA (av:=c.args.map a.eval) hS ho hcal hev (by simp) hsp hf (by simpa using hl) (fun j hj=> ?_) hok hfr hnd;have hjs:j<c.args.size:=by rw[<- hl];exact hj
 have e:(c.args.map a.eval).getD j undef=a.eval (c.args.getD j (.tmp 0)):=by simp [Dq,hjs]
 rw[e];exact hx j hj
def IC.one {Of:Own} {w':World} {id:Nat} {v:Value} {c:A} (h:IC Of w' id v c):v.oneCell'=true:=by
 cases c with
 | usl z e l =>
  rcases h.2 with ⟨_,_,h3⟩ | ⟨_,g,cap,cur,h2,_⟩
  .have h3:v=_:=h3;rw[h3];rfl
  .have h2:v=_:=h2;rw[h2];rfl
 | box cs=>obtain⟨b,base,h1,_⟩:=h;rw[h1];rfl
 | ump l=>obtain⟨_,_,_,h2,_⟩:=h;rw[h2];rfl
 | _=>exact(J3.toC (objs':=[]) (m':=fun _=>undef) (show J3 Of w' v _ from h)).one
def AkU {Of O3:Own} {Jp:List (Nat×Obj)} {w':World} {id:Nat} {v:Value} {k:CK} {c:A} (h:IC Of w' id v c) (hok:J5 (zD k c).1):JC O3 Jp m w' v (zD k c).2:=by
 have un:JC O3 Jp m w' v .undef:=h.one;cases k with
 | bool =>
  have h1:=hok.cons.1;cases c<;>first | (cases h1;done) | skip
  have h:J3 Of w' v (.bool _):=h;cases h;exact J3.bool _
 | int k =>
  have h1:=hok.cons.1;cases c<;>first | (cases h1;done) | skip
  have h:J3 Of w' v (.int _ _):=h;cases h;exact J3.int _ _
 | str =>
  have h1:=hok.cons.1;cases c<;>first | (cases h1;done) | skip
  have h:J3 Of w' v (.str _):=h;cases h;exact J3.str _
 | _=>exact un
def ArI {Of O3:Own} {Jp:List (Nat×Obj)} {w':World} {cid:Nat} {f:Nat->Value} {cs:List A}: ∀(ks:List (Bool×CK)) (j0:Nat),(∀ j,j<ks.length->IC Of w' (cid+(j0+j)) (f (j0+j)) (cs.getD (j0+j) .undef))->J5 (YD ks cs j0).1 ->
 (YD ks cs j0).2.length=ks.length/\ ∀ j,j<ks.length->JC O3 Jp m w' (f (j0+j)) ((YD ks cs j0).2.getD j .undef):=by
 intro ks
 induction ks with
 | nil=>intro j0 _ _;exact⟨rfl,fun j hj=>by simp at hj⟩
 | cons k ks ih =>
  intro j0 h hok;simp only[YD]at hok ⊢;obtain⟨h1,h2⟩:=hok.append;obtain⟨g1,g2⟩:=ih (j0+1) (fun j hj=>by have:=h (j+1) (by simpa using hj);rwa [show j0+(j+1)=j0+1+j from by omega]at this) h2;refine⟨by simp [g1],fun j hj=> ?_⟩;cases j with
  | zero=>exact AkU (h 0 (by simp)) h1
  | succ j =>have:=g2 j (by simpa using hj);rw[show j0+(j+1)=j0+1+j from by omega];simpa using this
def AtT {Of O3:Own} {Jp:List (Nat×Obj)} {w':World} {cid:Nat} {v:Value} {s:Sh} {x:A} (h:IR Of w' cid v x) (hok:J5 (Ap0 s x).1):T1 O3 Jp m w' v (Ap0 s x).2:=by
 cases s with
 | cell u k =>
  obtain⟨h0,h1⟩:=hok.cons;have hs:(zD k x).2=x:=by cases k<;>first | rfl | cases h0
  show T1 O3 Jp m w' v (zD k x).2
  have hx:IC Of w' cid v x/\(∀ cs,x≠ .agg cs):=by
   cases k with
   | bool=>have h2:=h1.cons.1;cases x<;>first | (cases h2;done) | exact⟨h,fun _ h=>by cases h⟩
   | int _=>have h2:=h1.cons.1;cases x<;>first | (cases h2;done) | exact⟨h,fun _ h=>by cases h⟩
   | str=>have h2:=h1.cons.1;cases x<;>first | (cases h2;done) | exact⟨h,fun _ h=>by cases h⟩
   | _=>cases h0
  have:=AkU (m:=m) (O3:=O3) (Jp:=Jp) hx.1 h1;rw[hs]at this ⊢;cases x<;>first | exact this | exact absurd rfl (hx.2 _)
 | agg ks =>
  obtain⟨h0,h1⟩:=hok.cons;cases x with
  | agg cs =>
   obtain⟨vs,e1,e2,e3⟩:=h;have hl:cs.length=ks.length:=by simpa [A.isAgg,UO]using h0
   obtain⟨g1,g2⟩:=ArI (m:=m) (O3:=O3) (Jp:=Jp) (cid:=cid+1) (f:=fun j=>vs.getD j undef) (cs:=cs) ks 0 (fun j hj=>by have:=e3 j (by omega);rw[DV];exact this) h1;refine⟨vs,e1,?_,fun j hj=> ?_⟩
   .show vs.size=(YD ks cs 0).2.length;rw[e2,g1,hl]
   .have hj:j<(YD ks cs 0).2.length:=hj;rw[g1]at hj;have:=g2 j hj;rwa [DV]at this
  | _=>cases h0
 | box ks=>cases hok.cons.1
 | map kt vt=>cases hok.cons.1
 | clo f ks=>cases hok.cons.1
def ArJ {Of O3:Own} {Jp:List (Nat×Obj)} {w':World} {us:Array Value} {rs:List A}: ∀(ss:List Sh) (j0:Nat),(∀ j,j<ss.length->IR Of w' (ApY (j0+j)) (us.getD (j0+j) undef) (rs.getD (j0+j) .undef))->J5 (Xz ss rs j0).1 ->
 (Xz ss rs j0).2.length=ss.length/\ ∀ j,j<ss.length->T1 O3 Jp m w' (us.getD (j0+j) undef) ((Xz ss rs j0).2.getD j .undef):=by
 intro ss
 induction ss with
 | nil=>intro j0 _ _;exact⟨rfl,fun j hj=>by simp at hj⟩
 | cons s ss ih =>
  intro j0 h hok;simp only[Xz]at hok ⊢;obtain⟨h1,h2⟩:=hok.append;obtain⟨g1,g2⟩:=ih (j0+1) (fun j hj=>by have:=h (j+1) (by simpa using hj);rwa [show j0+(j+1)=j0+1+j from by omega]at this) h2;refine⟨by simp [g1],fun j hj=> ?_⟩;cases j with
  | zero=>exact AtT (h 0 (by simp)) h1
  | succ j =>have:=g2 j (by simpa using hj);rw[show j0+(j+1)=j0+1+j from by omega];simpa using this
def T1.AxJ {Of:Own} {Jp:List (Nat×Obj)} {w':World} {v:Value} {x:A} (h:T1 Of Jp m w' v x):J7 Of Jp m w' v x:=by cases x<;>first | exact h | exact trivial | exact h.elim
def ArH {c:Call} {f:Nat} {sg:Sig} {x0:Operand} (hS:Sim V0 O0 w0 O m st a w) (ho:o.op= .call c) (hcal:c.callee= .value x0) (hev:a.eval x0= .func (.func f) #[] #[]) (hsp:Spec P f sg) {fet:Fet} (hf:Ob st.Jp fet) {xs:List A}
 (hl:xs.length=c.args.size) (hx: ∀ j,j<xs.length->J7 O st.Jp m w (a.eval (c.args.getD j (.tmp 0))) (xs.getD j .undef))
 (hok:J5 (Ae9 fet sg xs).ok):Good P V0 O0 w0 (apply st o (Ae9 fet sg xs)) o a w:=by
 intro next Q hn
 have hx: ∀ j,j<xs.length->J7 O st.Jp m w ((c.args.map a.eval).getD j undef) (xs.getD j .undef):=fun j hj=>by
  have hjs:j<c.args.size:=by rw[<- hl];exact hj
  have e:(c.args.map a.eval).getD j undef=a.eval (c.args.getD j (.tmp 0)):=by simp [Dq,hjs]
  rw[e];exact hx j hj
 have hl':xs.length=(c.args.map a.eval).size:=by simpa using hl
 generalize hav:c.args.map a.eval=av at hx hl';unfold Ae9 at hok;obtain⟨hokA,hokM⟩:=hok.append;obtain⟨hokA,hokB⟩:=hokA.append;obtain⟨hsok,hokB⟩:=hokB.cons;obtain⟨hdel,hokB⟩:=hokB.cons;obtain⟨hbxe,hokB⟩:=hokB.cons;obtain⟨hnw,hokB⟩:=hokB.cons;obtain⟨h100,hokB⟩:=hokB.cons;have h100:=DW h100;have hcnt:=Dy hokB.cons.1;obtain⟨g1,g2,g3,g4,g5⟩:=We (W:=False) hf hS.Jp 256 sg.Js xs 0 (fun j=>av.getD j undef) (fun e=>by rw[e]at hnw;cases hnw) hx hokA
 have hNe:MQ fet 0 256 sg.Js xs=[]:=by
  rw[Gz]at hdel hbxe;cases hN:MQ fet 0 256 sg.Js xs with
  | nil=>rfl
  | cons p N =>have:=(g4 p.1).2 (by rw[hN];simp);rw[hdel,hbxe]at this;cases this
 obtain⟨O1,hS1,hp1,hle1,hv1,hE1,hk1⟩:=hS.freezes _ g3;have hupdO: ∀ p∈(J8 fet sg.Js xs).2.2.1,KT O1 (JD st.Jp (J8 fet sg.Js xs).2.2.1) m w p.1 p.2:=by intro p hp;obtain⟨x,hx1,hx2⟩:=Nl (J8 fet sg.Js xs).2.2.1 st.Jp p.1 ⟨p,hp,rfl⟩;obtain⟨e,fz,l,k1,k2⟩:=g3 p hp;obtain⟨e',fz',l',k3,k4⟩:=g3 _ hx1;dsimp only at k3 k4;rw[k1]at k3;injection k3 with k3;injection k3 with q1 q2 q3;subst q1;subst q3;rw[k2,<- k4];exact hS1.Jp p.1 x hx2
 have hIR:=g5 (ρ :=fun _=>none) hp1 hv1 hupdO (fun b k q h1 h2=>hk1 b k q h1 (h2.elim .inl fun h=>h.elim)) (by rw[hNe];intro p hp;cases hp);have hF:sg.F (J8 fet sg.Js xs).2.1=some (sg.val (J8 fet sg.Js xs).2.1):=by unfold Sig.F;rw[hsok];rfl
 have hargs:av.size=(J8 fet sg.Js xs).2.1.length:=by rw[<- hl',g2,g1]
 have hexec:(execOp a.eval o).run P w= .ok (.enter f av) w:=by simp only[execOp,ho,resolve,hcal,hev,Deferred.ofValue,D8,Sem.run_pure,Result.andThen_ok,invoke];have:=hsp.1 av w;simpa [hav]using this
 unfold Oper.wp;rw[hexec,Oper.upon_enter];refine(hsp.2 (Na O1 fun _=>none) w av _ _ ⟨fun g j p ht=>⟨V8.2 (hS1.eH.1 g j p ht).1,(hS1.eH.1 g j p ht).2⟩,hS1.eH.2⟩ hargs g1 (by rw[g1,<- g2];exact h100) (fun j hj=> ?_) hF).mono ?_
 .have:=hIR j (by rw[<- g1];exact hj);rw[DV]at this;exact this
 rintro e w' ⟨v,Of,rfl,hcame⟩;dsimp only;obtain⟨us,hus1,hus2,hus3⟩:=hcame.res;have hMr:=hcame.moves
 have h255: ∀ b k i,Na O1 (fun _=>none) b k=some i->i=255:=by
  intro b k i h;unfold Na at h;cases hO:O1 b k with
  | none=>rw[hO]at h;cases h
  | some q=>rw[hO]at h;injection h with h;exact h.symm
 have hM:Moves O (fun _=>False) w w':=by
  refine⟨hMr.os,hMr.tape,hMr.output,hMr.size,fun b hb=>.inl ?_⟩;rcases hMr.blk b hb with he | ⟨c,c',e,fr,_,_,_,_,k,i,_,h2,h3⟩ | ⟨es,ck,es',ck',i,_,_,h2,h3⟩
  .exact he
  .exact absurd (h255 _ _ _ h2) h3
  .exact absurd (h255 _ _ _ h2) h3
 let O3:Own:=fun b k=>if b<w.heap.size then O b k else some 255;have h3lt: ∀ {b k},b<w.heap.size->O3 b k=O b k:=fun hb=>Dp hb;obtain⟨r1,r2⟩:=ArJ (m:=m) (O3:=O3) (Jp:=st.Jp) (us:=us) (rs:=sg.val (J8 fet sg.Js xs).2.1) sg.JA 0 (fun j hj=>by have:=hus3 j (by rw[hus1];exact hj);rw[DV];exact this) hokM
 have hval:J7 O3 st.Jp m w' v (jU (Xz sg.JA (sg.val (J8 fet sg.Js xs).2.1) 0).2):=by
  generalize (Xz sg.JA (sg.val (J8 fet sg.Js xs).2.1) 0).2=vsR at r1 r2;have hlen:vsR.length=us.size:=by rw[r1,hus1]
  rw[hus2];by_cases h1:us.size=1
  .rw[Io h1];obtain⟨x,hx'⟩: ∃ x,vsR=[x]:=Fz.1 (by rw[hlen];exact h1);subst hx';have:=r2 0 (by rw[<- hus1];omega);have e2:us.getD (0+0) undef=us[0]:=by simp [Dq,show 0<us.size from by omega]
   rw[e2]at this;exact this.AxJ
  .rw[Jj h1]
   have e1:jU vsR= .tup vsR:=by
    cases hv':vsR with
    | nil=>rfl
    | cons x l =>
     cases l with
     | nil=>rw[hv']at hlen;simp at hlen;omega
     | cons _ _=>rfl
   rw[e1];refine⟨us,rfl,hlen.symm,fun j hj=> ?_⟩;have:=r2 j (by rw[<- r1];exact hj);rw[DV]at this;exact this
 refine hn O3 m _ _ ?_
 exact hS.next (T:=fun _=>False) (Nw:=fun _=>False) (x:=jU (Xz sg.JA (sg.val (J8 fet sg.Js xs).2.1) 0).2) hM ⟨fun b k hb h=>by rw[h3lt hb];exact h,fun b k q hb h _=>by rw[h3lt hb];exact h⟩ (fun b k hb h=>by rw[h3lt hb]at h;exact h)
  (fun i y hy=>.inr ⟨y,hy,rfl,rfl⟩) (fun n h=>h.elim) (fun q h=>h.elim) (fun i z hz=>.inl ⟨fun h=>h,hz,rfl⟩) rfl (fun _=>hval)
end
section
variable {P:Program} {C:Ctx} {V0:Nat->Value} {O0 O:Own} {w0 w:World} {m:Nat->Value} {st:St} {a:Act} {o:Oper}
def ApT {cs:List A} {r:Nat} (h:ApS cs=some r):cs=[.ptr r 0]:=by unfold ApS at h;all_goals grind[split]
def Atk {f:Nat} {x:Operand} (hS:Sim V0 O0 w0 O m st a w) (ho:o.op= .makeFunc (.func f) #[] #[x]) {fet:Fet} (hf:Ob st.Jp fet) {x':A} (hx:J7 O st.Jp m w (a.eval x) x') (hok:J5 (AfC fet f x').ok) :
 Good P V0 O0 w0 (apply st o (AfC fet f x')) o a w:=by
 intro next Q hn
 have hF:FOk O st.Jp m w fet:=fun q x h=>⟨hf q x h,hS.Jp q x (hf q x h)⟩
 cases x' with
 | ptr q off =>
  unfold AfC at hok hn;dsimp only at hok hn;obtain⟨cs,hb,he⟩:=JL hok;rw[he]at hok hn;clear he;obtain⟨r,hr,he⟩:=JL hok;rw[he]at hok hn;clear he;have h0:=Dy hok.cons.1;subst h0;obtain rfl:=ApT hr;obtain⟨b,base,g1,g2,g3⟩:=hx.ptr hF (Lp hb);obtain⟨k1,k2,u,k3,k4⟩:=g3 0 (by simp);rw[Nat.add_zero]at k1 k3 g2;let O':Own:=fun b' k'=>if b'=b/\k'=base then none else O b' k';have hO': ∀ b' k',O' b' k'=if b'=b/\k'=base then none else O b' k':=fun _ _=>rfl;have hrun:(execOp a.eval o).run P w= .ok (.value (.func (.func f) #[] #[a.eval x])) w:=by simp [execOp,ho,Instr.makeFunc]
  unfold Oper.wp;rw[hrun,Oper.upon_value];refine hn O' m _ _ ?_;have hP:Passes O O' (· =q) w.heap.size:=by refine⟨fun b' k' _ h=> ?_,fun b' k' o' _ h ht=> ?_⟩;all_goals grind[split]
  have hget: ∀ i y,Jy (apply st o {ok:=[Nat.beq 0 0],val:=.clo (f+1) r,del:=[q]}).Jp i=some y->i≠q/\Jy st.Jp i=some y:=by
   intro i y hy;rcases Xf hy with h | ⟨_,h2,h | ⟨_,h⟩⟩
   .cases h
   .cases h
   .exact⟨fun e=>h2 (by rw[e];exact Dv),h⟩
  refine hS.next (T:=(· =q)) (Nw:=fun _=>False) (Moves.refl O _ w) hP (fun b' k' _ h h'=>h (by rw[hO',h'];split<;>rfl)) (fun i y hy=>.inr ⟨y,(hget i y hy).2,rfl,rfl⟩) (fun _ h=>h.elim)
   (fun o' h=>by rw[h,hf _ _ (Lp hb)];rfl) (fun i y hy=>.inl ⟨(hget i y hy).1,(hget i y hy).2,rfl⟩) rfl (fun _=> ?_)
  show JC O' _ m w _ (.clo (f+1) r);have k4:JC O st.Jp m w u (.ptr r 0):=k4;refine⟨rfl,u,k4.1,⟨b,base,by rw[g2];rfl,by rw[hO',Dp ⟨rfl,rfl⟩],k3⟩,?_⟩;cases hr':Jy (apply st o {ok:=[Nat.beq 0 0],val:=.clo (f+1) r,del:=[q]}).Jp r with
  | none=>trivial
  | some y =>
   have hy:=(hget r y hr').2;cases y with
   | box cs' =>have k4:=k4.2;rw[hy]at k4;exact k4
   | _=>trivial
 | _=>exact(JE hok).elim
def At4 {C:Ctx} {d:TypeDesc}: ∀(xs:List (Nat×A)) (cs cs':List A),fill C d xs cs=some cs'-> ∀ i∈cs'.flatMap A.MP,i∈cs.flatMap A.MP\/ ∃ x∈xs,i∈x.2.ids:=by
 intro xs
 induction xs with
 | nil=>intro cs cs' h i hi;simp only[fill]at h;injection h with h;rw[h];exact .inl hi
 | cons x xs ih =>
  intro cs cs' h i hi;obtain⟨k,x⟩:=x;simp only[fill]at h;cases hp:Abg C d k with
  | none=>rw[hp]at h;cases h
  | some q =>
   obtain⟨off,ti⟩:=q;rw[hp]at h;dsimp only at h;cases hb:(x.isVal&&Nat.beq x.cells.length ti.cs.length&&Nat.ble (off+ti.cs.length) cs.length)with
   | false=>rw[hb]at h;cases h
   | true =>
    rw[hb]at h;simp only[cond_true]at h;simp only[Du]at hb;rcases ih _ _ h i hi with h1 | ⟨y,h1,h2⟩
    .unfold splice at h1;simp only[List.flatMap_append,DJ]at h1;rcases h1 with (h1 | h1) | h1
     .left;obtain⟨c,hc,hci⟩:=Ez.1 h1;exact Ez.2 ⟨c,F9 hc,hci⟩
     .right;refine⟨(k,x),Dv,?_⟩;obtain⟨c,hc,hci⟩:=Ez.1 h1;obtain⟨j,hj,rfl⟩:=FT.1 hc;all_goals grind[wZ]
     .left;obtain⟨c,hc,hci⟩:=Ez.1 h1;exact Ez.2 ⟨c,FU hc,hci⟩
    .exact .inr ⟨y,Dw _ h1,h2⟩
def Ath {t n:Nat} {ps:Array (Nat×Operand)} (hC:TOk P C) (hS:Sim V0 O0 w0 O m st a w) {d:Tmp} (hd:o.dst=some d) (ho:o.op= .buildSlice t n ps) {xs:List (Nat×A)}
 (hl:xs.length=ps.size) (hx: ∀(j:Nat) (x:Nat×A) (p:Nat×Operand),xs[j]? =some x->ps[j]? =some p->p.1=x.1/\J7 O st.Jp m w (a.eval p.2) x.2)
 (hids: ∀ x∈xs,∀ i∈x.2.ids,i∈st.ids\/(Jy st.Jp i).isSome)
 (hok:J5 (wV C d t n xs).ok) (hfr: ∀ p∈(wV C d t n xs).new,st.fresh p.1=true) (hnd:nodup ((wV C d t n xs).new.map (·.1))=true):Good P V0 O0 w0 (apply st o (wV C d t n xs)) o a w:=by
 unfold wV at *
 obtain⟨ti,e,te,ht,hte,hd',he⟩:=WS hok;rw[he]at hok hfr hnd ⊢;clear he;obtain⟨cs,hcs,he⟩:=JL hok;rw[he]at hok hfr hnd ⊢;clear he;obtain⟨h0,h1⟩:=hok.cons;have hn:=DW h1.cons.1;have hk:=Ahz h0;have hk1:te.cs.length=1:=by rw[hk];rfl
 have hT:=hC.is hd';obtain⟨i,z,g1,g2,g3,g4,g5,g6⟩:=hT.i;have hu:=(hC.is ht).d;rw[hte]at hu;obtain⟨hz1,hz2⟩:=qQ (O:=O) (w:=w) hT (by rw[g1];exact g4) (by rw[hk];rfl) (by rw[hk1];decide) n;rw[hk1,Fh]at hz1
 have hz:QJ O st.Jp m w (zeros z (n*te.cs.length)) (List.replicate n .Lt):=by
  rw[hk1,Fh];refine⟨by rw[hz1,EH],fun j hj=> ?_⟩;rw[EH]at hj;obtain⟨u,k1,k2⟩:=hz2.2 j 0 (by simpa using hj) (by rw[hk1];decide);rw[hk1,Fh,Fh,Nat.add_zero]at k1;have e1:(zeros z n).getD j undef=u:=by rw[Dq,k1];rfl
  have e2:(List.replicate n A.Lt).getD j .undef= .Lt:=by simp [Dj,hj]
  rw[e1,e2];have e3:((List.replicate n (te.cs.map CK.Oj)).getD j []).getD 0 .undef= .Lt:=by simp [Dj,hj,hk,CK.Oj,CK.zero]
  rw[e3]at k2;exact k2
 obtain⟨vs',f1,f2⟩:=Ak2 (O:=O) (Jp:=st.Jp) (m:=m) (w:=w) hC (d:=.array n e) (place:=fun i=>some (i*te.cs.length,te.cs.length)) (fun i p hp=>by
  simp only[fO,g1,Option.map_some]at hp;rw[<- hp];have:te.cs.length=_:=rfl;simp [g2]) xs (ps.map (fun(i,x)=>(i,a.eval x))).toList _ _ cs (by simp [hl]) (fun j x p hxj hpj=>by
  simp only[Ip,EF]at hpj;cases hq:ps.toList[j]? with
  | none=>rw[hq]at hpj;cases hpj
  | some q =>rw[hq]at hpj;injection hpj with hpj;subst hpj;exact hx j x q hxj (by simpa using hq)) hz hcs
 refine Ahh (ks:=[]) (t:=e) (r:=.slice (some (at' w.heap.size 0)) n n) hS f2 (fun j hj i hi=> ?_) hd ?_ (fun O' objs' m' w' c hc hm=> ?_) hfr hnd
 .rcases At4 _ _ _ hcs i (Tu (f:=A.MP) hj hi)with h | ⟨x,h2,h3⟩
  .obtain⟨c,hc,hci⟩:=Ez.1 h;rw[FQ hc]at hci;cases hci
  .exact hids x h2 i h3
 .have hbig: ¬(16777216<n*te.cs.length):=by rw[hk1];omega
  simp only[execOp,ho,D8,Instr.buildSlice,Eb hu,Result.andThen_ok,hT.O5];rw[Dk (by simpa using hbig)];by_cases h0:n*te.cs.length=0
  .have hz0:(Array.range (n*te.cs.length)).map ((#[]:Array Value)[· % (#[]:Array Value).size]!)=zeros z (n*te.cs.length):=by simp [zeros,h0]
   simp only[Dp h0,D8,Sem.run_pure,Result.andThen_ok,hz0,f1];rfl
  .simp only[Dk h0,D8,Sem.run_pure,Result.andThen_ok,zeroValue,typeInfo,run_program,g1,g4];have hz0:(Array.range (n*te.cs.length)).map (z.cells[· % z.cells.size]!)=zeros z (n*te.cs.length):=rfl;rw[hz0,f1];rfl
 .show JC O' objs' m' w' _ (.bsl (b2 d) n);refine⟨rfl,?_⟩;rw[hc];exact⟨w.heap.size,0,hm,rfl⟩
end
end Go.Proofs.YtehkhflpjkokeaaGreatDoor.Vm
