import Derived.Test.YtadefjgbcapakaaGreatDoorA6
import Derived.Calls
set_option linter.all false
namespace Go.Proofs.YtadefjgbcapakaaGreatDoor.Vm
open Classical
def Fh (w:World) (v:Value):Nat->Value
  | 0=>v
  | x+1=>match v with
    | .agg vs=>vs.getD x undef
    | .pointer (some a)=>(w.cell? (at' a.block (a.off+x))).getD undef
    | _=>undef
section
variable {Oc O':Own} {w:World} {objs':List (Nat×Obj)} {m':Nat->Value}
theorem CV.carry {Aa:List (Nat×Obj)} {m:Nat->Value} {c i e:Nat} {l:Sl} (h:CV Oc Aa m w c (.arr e true l)) (hp:Ej Oc w O' w) (hr: ∀ b k,Oc b k=some c->O' b k=some i) (hn: ∀ b k,Oc b k=none->O' b k=none) (hm:m' i=m c) :
    CV O' objs' m' w i (.arr e true l):=by
  refine⟨h.1,?_⟩
  rcases h.2 with ⟨h1,h2,h3⟩ | ⟨h1,g,cap,cur,h2,h3,h4,h5,h6,h7,h8,h9⟩
  ·exact .inl ⟨h1,h2,by rw[hm];exact h3⟩
  ·refine .inr ⟨h1,g,cap,cur,by rw[hm];exact h2,h3,h4,h5,h6,fun r j hr' hj=> ?_,fun k hk hge=>hr _ _ (h8 k hk hge),fun k hk=> ?_⟩
   ·obtain⟨u,h10,h11⟩:=h7 r j hr' hj
    exact⟨u,h10,h11.Bg hp⟩
   ·have:=h9 k hk
    simp only[if_true]at this ⊢
    exact hn _ _ this
theorem EU.carry {c i:Nat} {v:Value} {l:Mp} (h:EU Oc w c v l) (hp:Ej Oc w O' w) (hr: ∀ b k,Oc b k=some c->O' b k=some i):EU O' w i v l:=by
  obtain⟨r,es,ck,h1,h2,h3,h4,h5⟩:=h
  refine⟨r,es,ck,h1,h2,hr _ _ h3,h4,fun j p hj=> ?_⟩
  obtain⟨e,k1,k2,k3⟩:=h5 j p hj
  exact⟨e,k1,k2.Bg hp,k3.Bg hp⟩
theorem Zx {kt vt:Ty} {a:A} (h:a.Zw kt vt=true): ∃ l,a= .ump l/\l.kt=kt/\l.vt=vt:=by
  cases a with
  | ump l =>
    have h':(decide (l.kt=kt)&&decide (l.vt=vt))=true:=h
    simp only[Bool.and_eq_true,decide_eq_true_eq]at h'
    exact⟨l,rfl,h'.1,h'.2⟩
  | _=>cases h
theorem Af2 {id:Nat} {k:CK} {v:Value} {c:A} (h:IC Oc w id v c) (hp:Ej Oc w O' w) (hok:A7 (force k c).1):AQ O' objs' m' w v (force k c).2:=by
  cases c with
  | usl e l =>
    cases k with
    | oth =>
      rcases h.2 with ⟨_,_,h3⟩ | ⟨_,g,cap,cur,h2,_⟩
      ·show v.oneCell'=true
       have h3:v=_:=h3
       rw[h3];rfl
      ·show v.oneCell'=true
       have h2:v=_:=h2
       rw[h2];rfl
    | mp _ _=>have:=hok.cons.1;cases this
    | _=>have:=hok.cons.1;simp [A.isB,A.isI,A.isS,A.Aes,A.Adl,A.jF,A.isFn]at this
  | _=>exact iR (Aq.Bg hp h) hok
theorem KZ {cid id:Nat} {f:Nat->Value} (hp:Ej Oc w O' w) (hn: ∀ b k,Oc b k=none->O' b k=none): ∀(ks:List (Bool×CK)) (cs:List A) (j0:Nat),(∀ j,j<ks.length->IC Oc w (cid+(j0+j)) (f (j0+j)) (cs.getD (j0+j) .undef)) ->
    (∀ b k x,x<j0+ks.length->Oc b k=some (cid+x)->O' b k=some (id+x))->A7 (AZ id ks cs j0).1->(∀ p∈(AZ id ks cs j0).2.2,Aj objs' p.1=some p.2)->(∀ p∈(AZ id ks cs j0).2.2,∀ x,p.1=id+x->m' p.1=f x) ->
    (AZ id ks cs j0).2.1.length=ks.length/\(∀ j,j<ks.length->AQ O' objs' m' w (f (j0+j)) ((AZ id ks cs j0).2.1.getD j .undef))/\ ∀ p∈(AZ id ks cs j0).2.2,CV O' objs' m' w p.1 p.2/\ ∃ x,p.1=id+x/\j0<=x/\x<j0+ks.length:=by
  intro ks
  induction ks with
  | nil=>intro cs j0 _ _ _ _ _;exact⟨rfl,fun j hj=>by simp at hj,fun p hp=>by simp [AZ]at hp⟩
  | cons k ks ih =>
    intro cs j0 h hr hok hO hm
    obtain⟨u,k⟩:=k
    have h0:=h 0 (by simp)
    rw[Nat.add_zero]at h0
    have hrest:=fun hok2 hO2 hm2=>ih cs (j0+1) (fun j hj=>by have:=h (j+1) (by simpa using hj);rwa [show j0+(j+1)=j0+1+j from by omega]at this) (fun b k x hx=>hr b k x (by simp only[List.length_cons];omega)) hok2 hO2 hm2
    cases u with
    | false =>
      simp only[AZ]at hok hO hm ⊢
      obtain⟨hok1,hok2⟩:=hok.append
      obtain⟨g1,g2,g3⟩:=hrest hok2 hO hm
      refine⟨by simp [g1],fun j hj=> ?_,fun p hp=> ?_⟩
      ·cases j with
       | zero=>exact Af2 h0 hp hok1
       | succ j =>
         have:=g2 j (by simpa using hj)
         rw[show j0+(j+1)=j0+1+j from by omega];simpa using this
      ·obtain⟨a1,x,a2,a3,a4⟩:=g3 p hp
       exact⟨a1,x,a2,by omega,by simp only[List.length_cons];omega⟩
    | true =>
      cases k with
      | sl e sz =>
        simp only[AZ]at hok hO hm ⊢
        obtain⟨hok1,hok2⟩:=hok.cons
        obtain⟨g1,g2,g3⟩:=hrest hok2 (fun p hp=>hO p (List.mem_cons_of_mem _ hp)) (fun p hp=>hm p (List.mem_cons_of_mem _ hp))
        have hO0:=hO _ List.mem_cons_self
        have hm0:=hm _ List.mem_cons_self j0 rfl
        dsimp only at hO0 hm0
        have hc:cs.getD j0 .undef= .usl e (cs.getD j0 .undef).toL:=by
          generalize cs.getD j0 .undef=c at *
          cases c<;>simp only[A.Ahu]at hok1<;>first | (cases hok1;done) | skip
          simp only[Bool.and_eq_true]at hok1
          rw[Nat.eq_of_beq_eq_true hok1.1];rfl
        rw[hc]at h0
        have hor:CV O' objs' m' w (id+j0) (.arr e true (cs.getD j0 .undef).toL):=CV.carry (show CV Oc [] (fun _=>f j0) w (cid+j0) _ from h0) hp (fun b k hbk=>hr b k j0 (by simp) hbk) hn hm0
        refine⟨by simp [g1],fun j hj=> ?_,fun p hp=> ?_⟩
        ·cases j with
         | zero =>
           have hone:(f j0).oneCell'=true:=by
             rcases h0.2 with ⟨_,_,h3⟩ | ⟨_,g,cap,cur,h2,_⟩
             ·have h3:f j0=_:=h3
              rw[h3];rfl
             ·have h2:f j0=_:=h2
              rw[h2];rfl
           refine⟨hone,?_⟩
           show match (Aj objs' (id+j0)).map Obj.shp with | some (.arr _ _)=>_ | some .mp=>_ | _=>True
           rw[hO0]
           exact hm0.symm
         | succ j =>
           have:=g2 j (by simpa using hj)
           rw[show j0+(j+1)=j0+1+j from by omega];simpa using this
        ·rcases List.mem_cons.1 hp with rfl | hp
         ·exact⟨hor,j0,rfl,Nat.le_refl _,by simp⟩
         ·obtain⟨a1,x,a2,a3,a4⟩:=g3 p hp
          exact⟨a1,x,a2,by omega,by simp only[List.length_cons];omega⟩
      | _=>have:=hok false (by simp [AZ]);cases this
theorem Ait {cid id:Nat} {s:Sh} {x:A} {v:Value} (hp:Ej Oc w O' w) (hn: ∀ b k,Oc b k=none->O' b k=none) (h:IR Oc w cid v x) (hr: ∀ b k i,i<255->Oc b k=some (cid+i)->O' b k=some (id+i))
    (hok:A7 (back id s x).1) (hO: ∀ p∈(back id s x).2.2,Aj objs' p.1=some p.2) (hm: ∀ p∈(back id s x).2.2,∀ i,p.1=id+i->m' p.1=Fh w v i) :
    A8 O' objs' m' w v (back id s x).2.1/\ ∀ p∈(back id s x).2.2,CV O' objs' m' w p.1 p.2:=by
  cases s with
  | cell u k =>
    simp only[back]at hok hO hm ⊢
    obtain⟨hok1,hok2⟩:=hok.append
    have hpl:=hok2.cons.1
    have hic:IC Oc w cid v x:=by
      have bad: ∀ cs l,x= .agg cs\/x= .box cs\/x= .ump l->False:=by
        rintro cs l (rfl | rfl | rfl)<;>(cases u<;>cases k<;>first | (cases hpl;done) | (have:=hok1 false (by simp [AZ,force,A.isB,A.isI,A.isS,A.Aes,A.Adl,A.jF,A.Ahu,A.isFn]);cases this))
      cases x with
      | agg cs=>exact(bad cs default (.inl rfl)).elim
      | box cs=>exact(bad cs default (.inr (.inl rfl))).elim
      | ump l=>exact(bad [] l (.inr (.inr rfl))).elim
      | _=>exact h
    obtain⟨g1,g2,g3⟩:=KZ (cid:=cid) (id:=id) (f:=Fh w v) hp hn [(u,k)] [x] 0 (fun j hj=>by
      have:j=0:=by simpa using hj
      subst this;exact hic) (fun b k i hi hb=>hr b k i (by simp at hi;omega) hb) hok1 hO hm
    have:=g2 0 (by simp)
    exact⟨this.toT,fun p hp=>(g3 p hp).1⟩
  | agg ks =>
    simp only[back]at hok hO hm ⊢
    obtain⟨hf,hok⟩:=hok.cons
    have hf:=Nat.le_of_ble_eq_true hf
    obtain⟨hok1,hok2⟩:=hok.cons
    cases x with
    | agg cs =>
      obtain⟨vs,h1,h2,h3⟩:=h
      have hl:cs.length=ks.length:=by simpa [A.isAgg,KE]using hok1
      obtain⟨g1,g2,g3⟩:=KZ (objs':=objs') (m':=m') (cid:=cid+1) (id:=id+1) (f:=fun j=>vs.getD j undef) hp hn ks cs 0 (fun j hj=>by
        have:=h3 j (by omega)
        rw[Nat.zero_add];exact this) (fun b k i hi hb=>by
        have:=hr b k (1+i) (by omega) (by rw[<- Nat.add_assoc];exact hb)
        rw[<- Nat.add_assoc]at this;exact this) hok2 hO (fun p hp i hi=>by
        have:=hm p hp (i+1) (by omega)
        rw[this,h1];rfl)
      refine⟨⟨vs,h1,?_,fun j hj=> ?_⟩,fun p hp=>(g3 p hp).1⟩
      ·show vs.size=(AZ (id+1) ks cs 0).2.1.length
       rw[h2,g1,hl]
      ·have hj:j<(AZ (id+1) ks cs 0).2.1.length:=hj
       rw[g1]at hj
       have:=g2 j hj
       rwa [Nat.zero_add]at this
    | _=>simp [A.isAgg]at hok1
  | box ks =>
    simp only[back]at hok hO hm ⊢
    obtain⟨hf,hok⟩:=hok.cons
    have hf:=Nat.le_of_ble_eq_true hf
    obtain⟨hok1,hok2⟩:=hok.cons
    cases x with
    | box cs =>
      obtain⟨b,base,h1,h2⟩:=h
      have hl:cs.length=ks.length:=by simpa [A.Ahs,KE]using hok1
      have hcell: ∀ j,Fh w v (j+1)=(w.cell? (at' b (base+j))).getD undef:=by intro j;rw[h1];rfl
      obtain⟨g1,g2,g3⟩:=KZ (objs':=objs') (m':=m') (cid:=cid+1) (id:=id+1) (f:=fun j=>(w.cell? (at' b (base+j))).getD undef) hp hn ks cs 0 (fun j hj=>by
        obtain⟨_,_,u,h5,h6⟩:=h2 j (by omega)
        rw[Nat.zero_add,h5];exact h6) (fun b k i hi hb=>by
        have:=hr b k (1+i) (by omega) (by rw[<- Nat.add_assoc];exact hb)
        rw[<- Nat.add_assoc]at this;exact this) hok2 (fun p hp=>hO p (List.mem_cons_of_mem _ hp)) (fun p hp i hi=>by
        have:=hm p (List.mem_cons_of_mem _ hp) (i+1) (by omega)
        rw[this,hcell])
      have hO0:=hO _ List.mem_cons_self
      have hm0:=hm _ List.mem_cons_self 0 rfl
      dsimp only at hO0 hm0
      refine⟨?_,fun p hp=> ?_⟩
      ·show AQ O' objs' m' w v (.ptr id 0)
       refine⟨by rw[h1];rfl,?_⟩
       show match (Aj objs' id).map Obj.shp with | some .box=>_ | _=>True
       rw[hO0]
       exact⟨b,base,by rw[hm0];exact h1,h1⟩
      ·rcases List.mem_cons.1 hp with rfl | hp
       ·refine⟨b,base,by rw[hm0];exact h1,fun j hj=> ?_⟩
        have hj:j<(AZ (id+1) ks cs 0).2.1.length:=hj
        rw[g1]at hj
        obtain⟨a1,a2,u,a3,_⟩:=h2 j (by omega)
        have:=g2 j hj
        rw[Nat.zero_add,a3]at this
        exact⟨by have:=hr b (base+j) 0 (by omega) a1;exact this,a2,u,a3,this⟩
       ·exact(g3 p hp).1
    | _=>simp [A.Ahs]at hok1
  | map kt vt =>
    simp only[back]at hok hO hm ⊢
    obtain⟨l,rfl,_,_⟩:=Zx hok.cons.1
    have hO0:=hO _ List.mem_cons_self
    have hm0:=hm _ List.mem_cons_self 0 rfl
    dsimp only at hO0 hm0
    have hm0:m' id=v:=hm0
    have h:EU Oc w cid v l:=h
    have h2:EU O' w id v l:=h.carry hp (fun b k hb=>hr b k 0 (by omega) hb)
    refine⟨?_,fun p hp=> ?_⟩
    ·show AQ O' objs' m' w v (.own id)
     refine⟨by obtain⟨r,_,_,h1,_⟩:=h;rw[h1];rfl,?_⟩
     rw[hO0]
     exact hm0.symm
    ·obtain rfl:p=(id,.mp l):=List.mem_singleton.1 hp
     show EU O' w id (m' id) l
     rw[hm0];exact h2
end
end Go.Proofs.YtadefjgbcapakaaGreatDoor.Vm
namespace Go.Proofs.YtadefjgbcapakaaGreatDoor.Vm
open Classical
def AnK (k:Nat):Nat:=256000+256*k
def yX:A->A
  | .agg cs=>.box cs
  | a=>a
def CP:List Sh->Nat->List Nat
  | [],_=>[]
  | s::ss,i=>bif BO s then i::CP ss (i+1)else CP ss (i+1)
structure Came (O:Own) (w:World) (vs:Array Value) (sg:Sig) (rs:List A) (v:Value) (O':Own) (w':World):Prop where
  moves:Moves O (fun o=>o≠255) w w'
  less: ∀ b k,b<w.heap.size->O' b k≠none->O b k≠none
  Xo: ∀ b k,b<w.heap.size->O b k=some 255->O' b k=some 255
  count:rs.length=sg.AA.length+(CP sg.Ag 0).length
  res: ∃ us:Array Value,us.size=sg.AA.length/\v=(if h:us.size=1 then us[0]else .tuple us)/\ ∀ k,k<us.size->IR O' w' (AnK k) (us.getD k undef) (rs.getD k .undef)
  boxes: ∀ j i,(CP sg.Ag 0)[j]? =some i->IR O' w' (256*i) (vs.getD i undef) (yX (rs.getD (sg.AA.length+j) .undef))
def Spec (P:Program) (f:FuncId) (sg:Sig):Prop :=
  (∀ args w,(callFunc f args).run P w= .ok (.enter f args) w) /\
  ∀(O:Own) (w:World) (vs:Array Value) (xs rs:List A),Inv O w->vs.size=xs.length->xs.length=sg.Ag.length->xs.length<=100->(∀ j,j<xs.length->IR O w (256*j) (vs.getD j undef) (xs.getD j .undef))->sg.F xs=some rs ->
   Calls P f vs w fun e w'=> ∃ v O',e= .returned v/\Came O w vs sg rs v O' w'
section
variable {P:Program} {C:Ctx} {V0:Nat->Value} {O0 O:Own} {w0 w:World} {m:Nat->Value} {st:St} {a:Act} {o:Oper}
def OC (w:World) (f:Nat->Value) (id stride:Nat):List Sh->List A->Nat->List (Nat×Value)
  | [],_,_=>[]
  | s::ss,rs,j=>(back (id+stride*j) s (rs.getD j .undef)).2.2.map (fun p=>(p.1,Fh w (f j) (p.1 - (id+stride*j))))++OC w f id stride ss rs (j+1)
theorem AgB (w:World) (f:Nat->Value) (id stride:Nat): ∀(ss:List Sh) (rs:List A) (j:Nat),(OC w f id stride ss rs j).map (·.1)=(BK id stride ss rs j).2.2.map (·.1):=by
  intro ss
  induction ss with
  | nil=>intro rs j;rfl
  | cons s ss ih=>intro rs j;simp [OC,BK,ih]
theorem AiQ {k:CK} {c:A} (hp:k.plain=true) (h:A7 (force k c).1):(force k c).2.isVal=true:=by
  cases k<;>first
    | (cases hp;done)
    | (have h1:=h.cons.1;cases c<;>first | rfl | (cases h1;done))
theorem vP {Oc O':Own} {objs':List (Nat×Obj)} {m':Nat->Value} {cid cst id stride:Nat} {f:Nat->Value} {rs:List A} (hp:Ej Oc w O' w) (hn: ∀ b k,Oc b k=none->O' b k=none): ∀(ss:List Sh) (j0:Nat),
    (∀ j,j<ss.length->IR Oc w (cid+cst*(j0+j)) (f (j0+j)) (rs.getD (j0+j) .undef))->(∀ j,j<ss.length-> ∀ b k i,i<255->Oc b k=some (cid+cst*(j0+j)+i)->O' b k=some (id+stride*(j0+j)+i)) ->
    A7 (BK id stride ss rs j0).1->(∀ p∈(BK id stride ss rs j0).2.2,Aj objs' p.1=some p.2)->(∀ p∈OC w f id stride ss rs j0,m' p.1=p.2) ->
    (BK id stride ss rs j0).2.1.length=ss.length/\(∀ j,j<ss.length->A8 O' objs' m' w (f (j0+j)) ((BK id stride ss rs j0).2.1.getD j .undef)/\((BK id stride ss rs j0).2.1.getD j .undef).isVal=true) /\
      ∀ p∈(BK id stride ss rs j0).2.2,CV O' objs' m' w p.1 p.2:=by
  intro ss
  induction ss with
  | nil=>intro j0 _ _ _ _ _;exact⟨rfl,fun j hj=>by simp at hj,fun p hp=>by simp [BK]at hp⟩
  | cons s ss ih =>
    intro j0 h hr hok hO hm
    simp only[BK]at hok hO ⊢
    simp only[OC]at hm
    obtain⟨hok1,hok2⟩:=hok.append
    obtain⟨g1,g2,g3⟩:=ih (j0+1) (fun j hj=>by have:=h (j+1) (by simpa using hj);rwa [show j0+(j+1)=j0+1+j from by omega]at this)
      (fun j hj=>by have:=hr (j+1) (by simpa using hj);rwa [show j0+(j+1)=j0+1+j from by omega]at this) hok2 (fun p hp=>hO p (List.mem_append_right _ hp)) (fun p hp=>hm p (List.mem_append_right _ hp))
    have h0:=h 0 (by simp)
    have hr0:=hr 0 (by simp)
    rw[Nat.add_zero]at h0 hr0
    obtain⟨k1,k2⟩:=Ait (id:=id+stride*j0) (m':=m') (objs':=objs') hp hn h0 hr0 hok1 (fun p hp=>hO p (List.mem_append_left _ hp)) (fun p hp i hi=>by
      have:=hm (p.1,Fh w (f j0) (p.1 - (id+stride*j0))) (List.mem_append_left _ (List.mem_map.2 ⟨p,hp,rfl⟩))
      rw[this,hi,Nat.add_sub_cancel_left])
    refine⟨by simp [g1],fun j hj=> ?_,fun p hp=> ?_⟩
    ·cases j with
     | zero =>
       refine⟨k1,?_⟩
       show((back (id+stride*j0) s (rs.getD j0 .undef)).2.1).isVal=true
       cases s with
       | agg ks=>rfl
       | box ks=>rfl
       | map kt vt=>rfl
       | cell u' k =>
         have hpl:k.plain=true:=by
           simp only[back]at hok1
           exact hok1.append.2.cons.1
         cases u' with
         | true=>cases k<;>first | (cases hpl;done) | rfl | (exfalso;have:=hok1 false (by simp [back,AZ]);cases this)
         | false =>
           have hf:A7 (force k (rs.getD j0 .undef)).1:=by
             have h1:=hok1
             simp only[back,AZ]at h1
             exact h1.append.1.append.1
           show(force k (rs.getD j0 .undef)).2.isVal=true
           exact AiQ hpl hf
     | succ j =>
       have:=g2 j (by simpa using hj)
       rw[show j0+(j+1)=j0+1+j from by omega]
       simpa using this
    ·rcases List.mem_append.1 hp with hp | hp
     ·exact k2 p hp
     ·exact g3 p hp
def look (N:List (Nat×Nat)) (q:Nat):Option Nat:=(N.find? (fun p=>p.1==q)).map (·.2)
theorem Aey {N:List (Nat×Nat)} (hnd:nodup (N.map (·.1))=true): ∀ p∈N,look N p.1=some p.2:=by
  induction N with
  | nil=>intro p hp;cases hp
  | cons q N ih =>
    intro p hp
    simp only[List.map_cons,nodup,Bool.and_eq_true,Bool.not_eq_true']at hnd
    unfold look
    rcases List.mem_cons.1 hp with rfl | hp
    ·simp
    ·have hne:q.1≠p.1:=fun e=>by
       have:has (N.map (·.1)) q.1=true:=G9.2 (List.mem_map.2 ⟨p,hp,e.symm⟩)
       rw[this]at hnd;cases hnd.1
     rw[List.find?_cons_of_neg (by simpa using hne)]
     exact ih hnd.2 p hp
theorem jM {N:List (Nat×Nat)} {q i:Nat} (h:look N q=some i):(q,i)∈N:=by
  unfold look at h
  cases hf:N.find? (fun p=>p.1==q)with
  | none=>rw[hf]at h;cases h
  | some p =>
    rw[hf]at h
    injection h with h
    have h1:=List.find?_some hf
    have h2:=List.mem_of_find?_eq_some hf
    have:p.1=q:=by simpa using h1
    rw[<- this,<- h];exact h2
def Z7 (N:List (Nat×Value)) (q:Nat):Option Value:=(N.find? (fun p=>p.1==q)).map (·.2)
theorem Ajj {N:List (Nat×Value)} (hnd:nodup (N.map (·.1))=true): ∀ p∈N,Z7 N p.1=some p.2:=by
  induction N with
  | nil=>intro p hp;cases hp
  | cons q N ih =>
    intro p hp
    simp only[List.map_cons,nodup,Bool.and_eq_true,Bool.not_eq_true']at hnd
    unfold Z7
    rcases List.mem_cons.1 hp with rfl | hp
    ·simp
    ·have hne:q.1≠p.1:=fun e=>by
       have:has (N.map (·.1)) q.1=true:=G9.2 (List.mem_map.2 ⟨p,hp,e.symm⟩)
       rw[this]at hnd;cases hnd.1
     rw[List.find?_cons_of_neg (by simpa using hne)]
     exact ih hnd.2 p hp
theorem Ah2 {N:List (Nat×Value)} {q:Nat} (h:q∉N.map (·.1)):Z7 N q=none:=by
  unfold Z7
  rw[List.find?_eq_none.2 (fun p hp=>by simp;exact fun e=>h (List.mem_map.2 ⟨p,hp,e⟩))]
  rfl
theorem A8.Anz {Aa:List (Nat×Obj)} {v:Value} {x:A} (h:A8 O Aa m w v x) (hv:x.isVal=true):T1 O Aa m w v x:=by cases x<;>first | (cases hv;done) | exact h
theorem Ve {fet:Fet}: ∀(ks:List (Bool×CK)) (cs:List A) (id:Nat),A7 (AL fet ks cs).1-> ∀ p∈DW id ks cs,(∃ e f l,Aj fet p.1=some (.arr e f l))/\ ∃ x,x<ks.length/\p.2=id+x:=by
  intro ks
  induction ks with
  | nil=>intro cs id _ p hp;cases cs<;>simp [DW]at hp
  | cons k ks ih =>
    intro cs id hok p hp
    obtain⟨u,k⟩:=k
    cases cs with
    | nil=>cases u<;>simp [DW]at hp
    | cons c cs =>
      have step:A7 (AL fet ks cs).1->p∈DW (id+1) ks cs->(∃ e f l,Aj fet p.1=some (.arr e f l))/\ ∃ x,x<((u,k)::ks).length/\p.2=id+x:=by
        intro h1 h2
        obtain⟨h3,x,h4,h5⟩:=ih cs (id+1) h1 p h2
        exact⟨h3,x+1,by simpa using h4,by omega⟩
      cases u with
      | false =>
        have hnm:DW id ((false,k)::ks) (c::cs)=DW (id+1) ks cs:=by cases c<;>rfl
        rw[hnm]at hp
        simp only[AL]at hok
        exact step hok.append.2 hp
      | true =>
        cases k with
        | sl e sz =>
          cases c with
          | own q =>
            simp only[AL]at hok
            cases hg:Aj fet q with
            | none=>rw[hg]at hok;have:=hok false (by simp);cases this
            | some y =>
              cases y with
              | box _=>rw[hg]at hok;have:=hok false (by simp);cases this
              | mp _=>rw[hg]at hok;have:=hok false (by simp);cases this
              | arr e' fz l =>
                rw[hg]at hok
                simp only[DW]at hp
                rcases List.mem_cons.1 hp with rfl | hp
                ·exact⟨⟨_,_,_,hg⟩,0,by simp,rfl⟩
                ·exact step hok.append.2 hp
          | CG =>
            simp only[AL]at hok
            exact step hok hp
          | _=>have:=hok false (by simp [AL]);cases this
        | _=>have:=hok false (by simp [AL]);cases this
theorem Ae6 {fet:Fet} {s:Sh} {x:A} {id:Nat} (hok:A7 (Be fet s x).ok): ∀ p∈Gh fet id s x,(Aj fet p.1).isSome/\ ∃ i,p.2=id+i/\(i<202\/(∃ ks,s= .agg ks)):=by
  intro p hp
  cases s with
  | cell u k =>
    simp only[Gh]at hp
    have hh:A7 (AL fet [(u,k)] [x]).1:=by
      unfold Be at hok
      dsimp only at hok
      generalize AL fet [(u,k)] [x]=r at *
      obtain⟨ok,cs,upd,del⟩:=r
      cases cs with
      | nil=>have:=hok false (by simp);cases this
      | cons c cs =>
        cases cs with
        | nil=>exact hok
        | cons _ _=>have:=hok false (by simp);cases this
    obtain⟨⟨e,f,l,h1⟩,i,h2,h3⟩:=Ve _ _ _ hh p hp
    exact⟨by rw[h1];rfl,i,h3,.inl (by simp at h2;omega)⟩
  | agg ks =>
    cases x with
    | agg cs =>
      simp only[Gh]at hp
      obtain⟨⟨e,f,l,h1⟩,i,h2,h3⟩:=Ve _ _ _ (show A7 (AL fet ks cs).1 from hok) p hp
      exact⟨by rw[h1];rfl,1+i,by omega,.inr ⟨ks,rfl⟩⟩
    | _=>cases hp
  | box ks =>
    cases x with
    | ptr q off =>
      simp only[Gh]at hp
      unfold Be at hok
      dsimp only at hok
      cases hg:LY fet q with
      | none=>rw[hg]at hok;have:=hok false (by simp);cases this
      | some cs =>
        rw[hg]at hok hp
        dsimp only at hok hp
        obtain⟨_,hokA⟩:=hok.cons
        obtain⟨hf,hokB⟩:=hokA.cons
        have hf:=Nat.le_of_ble_eq_true hf
        rcases List.mem_cons.1 hp with rfl | hp
        ·exact⟨by rw[FN hg];rfl,0,rfl,.inl (by omega)⟩
        ·obtain⟨⟨e,f,l,h1⟩,i,h2,h3⟩:=Ve _ _ _ hokB p hp
         exact⟨by rw[h1];rfl,1+i,by omega,.inl (by omega)⟩
    | _=>cases hp
  | map kt vt =>
    cases x with
    | own q =>
      obtain rfl:p=(q,id):=by simpa [Gh]using hp
      unfold Be at hok
      dsimp only at hok
      cases hg:Aj fet q with
      | none=>rw[hg]at hok;have:=hok false (by simp);cases this
      | some y=>exact⟨rfl,0,rfl,.inl (by omega)⟩
    | _=>cases hp
theorem SG {fet:Fet} {stride:Nat}: ∀(ss:List Sh) (xs:List A) (id:Nat),A7 (AU fet ss xs).1-> ∀ p∈DT fet id stride ss xs,(Aj fet p.1).isSome:=by
  intro ss
  induction ss with
  | nil=>intro xs id _ p hp;cases xs<;>simp [DT]at hp
  | cons s ss ih =>
    intro xs id hok p hp
    cases xs with
    | nil=>simp [DT]at hp
    | cons x xs =>
      simp only[AU]at hok
      obtain⟨h1,h2⟩:=hok.append
      rcases List.mem_append.1 hp with hp | hp
      ·exact(Ae6 h1 p hp).1
      ·exact ih xs _ h2 p hp
theorem Moves.Amw {ρ :Nat->Option Nat} {w w':World} (h:Moves (ET O ρ) (fun o=>o≠255) w w'):Moves O (fun o=> ∃ i,ρ o=some i) w w':=by
  refine⟨h.os,h.tape,h.output,h.size,fun b hb=> ?_⟩
  have un: ∀ k i,ET O ρ b k=some i->i≠255-> ∃ q,O b k=some q/\ ∃ i,ρ q=some i:=by
    intro k i hr hne
    unfold ET at hr
    cases hO:O b k with
    | none=>rw[hO]at hr;cases hr
    | some q =>
      rw[hO]at hr
      dsimp only at hr
      cases hρ : ρ q with
      | none=>rw[hρ]at hr;injection hr with hr;exact absurd hr.symm hne
      | some j=>exact⟨q,rfl,j,hρ⟩
  rcases h.blk b hb with he | ⟨c,c',e,fr,h1,h2,h3,h4,k,q,h5,h6,h7⟩ | ⟨es,ck,es',ck',q,h1,h2,h3,h4⟩
  ·exact .inl he
  ·refine .inr (.inl ⟨c,c',e,fr,h1,h2,h3,fun k hk=>h4 k (fun i hi hne=> ?_),k,?_⟩)
   ·obtain⟨q,hq,hρ⟩:=un k i hi hne
    exact hk q hq hρ
   ·obtain⟨q',hq',hρ⟩:=un k q h6 h7
    exact⟨q',h5,hq',hρ⟩
  ·obtain⟨q',hq',hρ⟩:=un 0 q h3 h4
   exact .inr (.inr ⟨es,ck,es',ck',q',h1,h2,hq',hρ⟩)
end
end Go.Proofs.YtadefjgbcapakaaGreatDoor.Vm
namespace Go.Proofs.YtadefjgbcapakaaGreatDoor.Vm
open Classical
section
variable {P:Program} {C:Ctx} {V0:Nat->Value} {O0 O:Own} {w0 w:World} {m:Nat->Value} {st:St} {a:Act} {o:Oper}
def Amz (fet:Fet) (p:Nat×Sh) (x:Option A):Prop:=match p.2 with
  | .box ks=>(∃ cs,Aj fet p.1=some (.box cs))/\x=some (.ptr p.1 0)/\ks.length<=200
  | .map _ _=>(∃ l,Aj fet p.1=some (.mp l))/\x=some (.own p.1)
  | _=>False
theorem Akc {fet:Fet} {stride:Nat}: ∀(ss:List Sh) (xs:List A) (id i0:Nat),A7 (AU fet ss xs).1 ->
    (AU fet ss xs).2.2.2.2.length=(CP ss i0).length/\ ∀(j:Nat) (p:Nat×Sh),(AU fet ss xs).2.2.2.2[j]? =some p-> ∃ i,(CP ss i0)[j]? =some (i0+i)/\i<ss.length/\(p.1,id+stride*i)∈DT fet id stride ss xs/\Amz fet p xs[i]? /\ss[i]? =some p.2:=by
  intro ss
  induction ss with
  | nil=>intro xs id i0 hok;cases xs with
    | nil=>exact⟨rfl,fun j p h=>by simp [AU]at h⟩
    | cons _ _=>have:=hok false (by simp [AU]);cases this
  | cons s ss ih =>
    intro xs id i0 hok
    cases xs with
    | nil=>have:=hok false (by simp [AU]);cases this
    | cons x xs =>
      simp only[AU]at hok ⊢
      obtain⟨h1,h2⟩:=hok.append
      obtain⟨g1,g2⟩:=ih xs (id+stride) (i0+1) h2
      have hrest: ∀(j:Nat) (p:Nat×Sh),(AU fet ss xs).2.2.2.2[j]? =some p-> ∃ i,(CP ss (i0+1))[j]? =some (i0+i)/\i<(s::ss).length/\(p.1,id+stride*i)∈DT fet id stride (s::ss) (x::xs)/\Amz fet p (x::xs)[i]? /\(s::ss)[i]? =some p.2:=by
        intro j p hp
        obtain⟨i,a1,a2,a3,a4,a5⟩:=g2 j p hp
        refine⟨i+1,by rw[a1];congr 1;omega,by simpa using a2,List.mem_append_right _ ?_,by simpa using a4,by simpa using a5⟩
        rw[show id+stride*(i+1)=id+stride+stride*i from by rw[Nat.mul_add];omega];exact a3
      cases s with
      | box ks =>
        cases x with
        | ptr q off =>
          have hA:A7 (Be fet (.box ks) (.ptr q off)).ok:=h1
          unfold Be at h1
          dsimp only at h1
          cases hg:LY fet q with
          | none=>rw[hg]at h1;have:=h1 false (by simp);cases this
          | some cs =>
            rw[hg]at h1
            dsimp only at h1
            obtain⟨h3,h4⟩:=h1.cons
            obtain⟨h4,_⟩:=h4.cons
            have h3:=Nat.eq_of_beq_eq_true h3
            have h4:=Nat.le_of_ble_eq_true h4
            subst h3
            have hb:(Be fet (.box ks) (.ptr q 0)).boxes=[(q,.box ks)]:=by unfold Be;dsimp only;rw[hg]
            rw[hb]
            refine⟨by simp [CP,BO,g1],fun j p hp=> ?_⟩
            cases j with
            | zero =>
              simp at hp;subst hp
              exact⟨0,by simp [CP,BO],by simp,List.mem_append_left _ (by simp [Gh]),⟨⟨cs,FN hg⟩,rfl,h4⟩,rfl⟩
            | succ j =>
              have hp':(AU fet ss xs).2.2.2.2[j]? =some p:=by simpa using hp
              obtain⟨i,a1,a2⟩:=hrest j p hp'
              exact⟨i,by simpa [CP,BO]using a1,a2⟩
        | _=>have:=h1 false (by simp [Be]);cases this
      | cell u k =>
        have hb:(Be fet (.cell u k) x).boxes=[]:=by
          unfold Be
          dsimp only
          split<;>rfl
        rw[hb]
        exact⟨by simpa [CP,BO]using g1,fun j p hp=>by simpa [CP,BO]using hrest j p (by simpa using hp)⟩
      | agg ks =>
        have hb:(Be fet (.agg ks) x).boxes=[]:=by
          unfold Be
          cases x<;>rfl
        rw[hb]
        exact⟨by simpa [CP,BO]using g1,fun j p hp=>by simpa [CP,BO]using hrest j p (by simpa using hp)⟩
      | map kt vt =>
        cases x with
        | own q =>
          unfold Be at h1
          dsimp only at h1
          cases hg:Aj fet q with
          | none=>rw[hg]at h1;have:=h1 false (by simp);cases this
          | some y =>
            cases y with
            | box _=>rw[hg]at h1;have:=h1 false (by simp);cases this
            | arr _ _ _=>rw[hg]at h1;have:=h1 false (by simp);cases this
            | mp l =>
              have hb:(Be fet (.map kt vt) (.own q)).boxes=[(q,.map kt vt)]:=by unfold Be;dsimp only;rw[hg]
              rw[hb]
              refine⟨by simp [CP,BO,g1],fun j p hp=> ?_⟩
              cases j with
              | zero =>
                simp at hp;subst hp
                exact⟨0,by simp [CP,BO],by simp,List.mem_append_left _ (by simp [Gh]),⟨⟨l,hg⟩,rfl⟩,rfl⟩
              | succ j =>
                have hp':(AU fet ss xs).2.2.2.2[j]? =some p:=by simpa using hp
                obtain⟨i,a1,a2⟩:=hrest j p hp'
                exact⟨i,by simpa [CP,BO]using a1,a2⟩
        | _=>have:=h1 false (by simp [Be]);cases this
def KY (rb:Nat->Nat) (w:World) (vf:Nat->Value) (rs:List A):List (Nat×Sh)->Nat->List (Nat×Value)
  | [],_=>[]
  | (o,s)::r,j=>(Ew (rb o) s (rs.getD j .undef)).2.2.map (fun p=>(p.1,Fh w (vf j) (p.1 - rb o)))++KY rb w vf rs r (j+1)
theorem Aaf (rb:Nat->Nat) (w:World) (vf:Nat->Value) (rs:List A): ∀(bs:List (Nat×Sh)) (j:Nat),(KY rb w vf rs bs j).map (·.1)=(BL rb rs bs j).2.2.map (·.1):=by
  intro bs
  induction bs with
  | nil=>intro j;rfl
  | cons b bs ih=>intro j;obtain⟨q,ks⟩:=b;simp [KY,BL,ih]
theorem Ace (rb:Nat->Nat) (rs:List A): ∀(bs:List (Nat×Sh)) (j:Nat),(BL rb rs bs j).2.1.map (·.1)=bs.map (·.1):=by
  intro bs
  induction bs with
  | nil=>intro j;rfl
  | cons b bs ih=>intro j;obtain⟨q,ks⟩:=b;simp [BL,ih]
theorem AdD {rb:Nat} {Oc O':Own} {objs':List (Nat×Obj)} {m':Nat->Value} {v:Value} {cid q:Nat} {s:Sh} {r:A} (hp:Ej Oc w O' w) (hn: ∀ b k,Oc b k=none->O' b k=none)
    (hs: ∀ ks,s= .box ks->ks.length<=200) (hmq:m' q=v) (hir:IR Oc w cid v (yX r)) (hr: ∀ b k i,i<255->Oc b k=some (cid+i)->O' b k=some (if i=0 then q else rb+i))
    (hok:A7 (Ew rb s r).1) (hO: ∀ p∈(Ew rb s r).2.2,Aj objs' p.1=some p.2) (hm: ∀ p∈(Ew rb s r).2.2,m' p.1=Fh w v (p.1 - rb)) :
    CV O' objs' m' w q (Ew rb s r).2.1/\ ∀ p∈(Ew rb s r).2.2,CV O' objs' m' w p.1 p.2:=by
  cases s with
  | cell _ _=>have:=hok false (by simp [Ew]);cases this
  | agg _=>have:=hok false (by simp [Ew]);cases this
  | map kt vt =>
    simp only[Ew]at hok ⊢
    obtain⟨l,rfl,_,_⟩:=Zx hok.cons.1
    refine⟨?_,fun p hp=>by cases hp⟩
    show EU O' w q (m' q) l
    rw[hmq]
    exact EU.carry (show EU Oc w cid v l from hir) hp (fun b k hb=>by have:=hr b k 0 (by omega) hb;exact this)
  | box ks =>
    have hf:=hs ks rfl
    simp only[Ew]at hok hO hm ⊢
    obtain⟨hok0,hok1⟩:=hok.cons
    cases r with
    | agg cs =>
      have hl:cs.length=ks.length:=by simpa [A.isAgg,KE]using hok0
      obtain⟨bk,base,h1,h2⟩:=(show IR Oc w cid v (.box cs)from hir)
      have hcell: ∀ j,Fh w v (j+1)=(w.cell? (at' bk (base+j))).getD undef:=by intro j;rw[h1];rfl
      obtain⟨k1,k2,k3⟩:=KZ (objs':=objs') (m':=m') (cid:=cid+1) (id:=rb+1) (f:=fun j=>(w.cell? (at' bk (base+j))).getD undef) hp hn ks cs 0 (fun j hj=>by
        obtain⟨_,_,u,h5,h6⟩:=h2 j (by omega)
        rw[Nat.zero_add,h5];exact h6) (fun b k i hi hb=>by
        have:=hr b k (1+i) (by omega) (by rw[<- Nat.add_assoc];exact hb)
        rw[if_neg (by omega),<- Nat.add_assoc]at this;exact this) hok1 hO (fun p hp i hi=>by
        have:=hm p hp
        rw[this,hi,show rb+1+i - rb=i+1 from by omega,hcell])
      refine⟨⟨bk,base,by rw[hmq];exact h1,fun j hj=> ?_⟩,fun p hp=>(k3 p hp).1⟩
      have hj:j<(AZ (rb+1) ks cs 0).2.1.length:=hj
      rw[k1]at hj
      obtain⟨a1,a2,u,a3,_⟩:=h2 j (by omega)
      have:=k2 j hj
      rw[Nat.zero_add,a3]at this
      exact⟨by have:=hr bk (base+j) 0 (by omega) a1;exact this,a2,u,a3,this⟩
    | _=>cases hok0
theorem Aag {rb:Nat->Nat} {Oc O':Own} {objs':List (Nat×Obj)} {m':Nat->Value} {val:Nat->Value} {cid:Nat->Nat} {rs:List A} (hp:Ej Oc w O' w) (hn: ∀ b k,Oc b k=none->O' b k=none): ∀(bs:List (Nat×Sh)) (j0:Nat),
    (∀(j:Nat) (p:Nat×Sh),bs[j]? =some p->(∀ ks,p.2= .box ks->ks.length<=200)/\m' p.1=val (j0+j)/\IR Oc w (cid (j0+j)) (val (j0+j)) (yX (rs.getD (j0+j) .undef))/\ ∀ b k i,i<255->Oc b k=some (cid (j0+j)+i)->O' b k=some (if i=0 then p.1 else rb p.1+i)) ->
    A7 (BL rb rs bs j0).1->(∀ p∈(BL rb rs bs j0).2.2,Aj objs' p.1=some p.2)->(∀ p∈KY rb w val rs bs j0,m' p.1=p.2) ->
    (∀ p∈(BL rb rs bs j0).2.1,CV O' objs' m' w p.1 p.2)/\ ∀ p∈(BL rb rs bs j0).2.2,CV O' objs' m' w p.1 p.2:=by
  intro bs
  induction bs with
  | nil=>intro j0 _ _ _ _;exact⟨fun p hp=>by simp [BL]at hp,fun p hp=>by simp [BL]at hp⟩
  | cons b bs ih =>
    intro j0 h hok hO hm
    obtain⟨q,s⟩:=b
    simp only[BL]at hok hO ⊢
    simp only[KY]at hm
    obtain⟨hok1,hok2⟩:=hok.append
    obtain⟨g1,g2⟩:=ih (j0+1) (fun j p hj=>by have:=h (j+1) p (by simpa using hj);rwa [show j0+(j+1)=j0+1+j from by omega]at this) hok2 (fun p hp=>hO p (List.mem_append_right _ hp)) (fun p hp=>hm p (List.mem_append_right _ hp))
    obtain⟨hf,hmq,hir,hr⟩:=h 0 (q,s) rfl
    rw[Nat.add_zero]at hmq hir hr
    obtain⟨k1,k2⟩:=AdD (objs':=objs') (m':=m') (rb:=rb q) (q:=q) hp hn hf hmq hir hr hok1 (fun p hp=>hO p (List.mem_append_left _ hp)) (fun p hp=>hm (p.1,Fh w (val j0) (p.1 - rb q)) (List.mem_append_left _ (List.mem_map.2 ⟨p,hp,rfl⟩)))
    refine⟨fun p hp=> ?_,fun p hp=> ?_⟩
    ·rcases List.mem_cons.1 hp with rfl | hp
     ·exact k1
     ·exact g1 p hp
    ·rcases List.mem_append.1 hp with hp | hp
     ·exact k2 p hp
     ·exact g2 p hp
end
end Go.Proofs.YtadefjgbcapakaaGreatDoor.Vm
namespace Go.Proofs.YtadefjgbcapakaaGreatDoor.Vm
open Classical
section
variable {P:Program} {C:Ctx} {V0:Nat->Value} {O0 O:Own} {w0 w:World} {m:Nat->Value} {st:St} {a:Act} {o:Oper}
def Adb (ss:List Sh) (xs:List A) (i:Nat):Option Nat:=match ss.getD i (.agg []),xs.getD i .undef with
  | .map _ _,.own o=>some o
  | _,.ptr o _=>some o
  | _,_=>none
def sigma (rb:Nat->Nat) (d:Nat) (ss:List Sh) (xs:List A) (n:Nat):Option Nat :=
  if 256000<=n then some (b2 d+16*((n - 256000) / 256)+(n - 256000) % 256)
  else match Adb ss xs (n / 256)with
    | some q=>some (if n % 256=0 then q else rb q+n % 256)
    | none=>none
def Adq:Sh->Obj->Prop
  | .box _,.box _=>True
  | .map _ _,.mp _=>True
  | _,_=>False
theorem jZ {s:Sh} {e:Nat} {f:Bool} {l:Sl} (h:Adq s (.arr e f l)):False:=by cases s<;>exact h
theorem Ajs {s:Sh} {y:Obj} {rb:Nat} {r:A} (h:Adq s y):y.shp=(Ew rb s r).2.1.shp:=by
  cases s<;>cases y<;>first | exact h.elim | rfl
theorem Akd {d:Nat} {fet:Fet} {sg:Sig} {xs:List A} (h:A7 (OD fet d sg xs).ok):sg.ok (UO fet sg.Ag xs).vs=true:=by
  unfold OD Adc at h
  exact h.append.1.append.1.append.1.append.2.cons.1
theorem Abq {c:Call} {f:Nat} {sg:Sig} {x0:Operand} (hS:Sim V0 O0 w0 O m st a w) (ho:o.op= .call c) (hcal:c.callee= .value x0) (hev:a.eval x0= .func (.func f) #[] #[]) (hsp:Spec P f sg) {d:Nat} {fet:Fet} (hf:Hl st.Aa fet) {xs:List A}
    (hl:xs.length=c.args.size) (hx: ∀ j,j<xs.length->A8 O st.Aa m w (a.eval (c.args.getD j (.tmp 0))) (xs.getD j .undef))
    (hok:A7 (OD fet d sg xs).ok) (hfr: ∀ p∈(OD fet d sg xs).new,st.fresh p.1=true) (hnd:nodup ((OD fet d sg xs).new.map (·.1))=true):Good P V0 O0 w0 (apply st o (OD fet d sg xs)) o a w:=by
  intro next Q hn
  unfold OD at hok hfr hnd hn
  generalize hH:UO fet sg.Ag xs=H at *
  obtain⟨hok1,vsA,upd,del,bxs⟩:=H
  have hHs:AU fet sg.Ag xs=(hok1,vsA,upd,del,bxs):=by
    unfold UO at hH
    injection hH with q1 q2 q3 q4 q5
    rw[<- q1,<- q2,<- q3,<- q4,<- q5]
  dsimp only at hok hfr hnd hn
  unfold Adc at hok
  obtain⟨hokA,hokB⟩:=hok.append
  obtain⟨hokA,hokC⟩:=hokA.append
  obtain⟨hokA,hokD⟩:=hokA.append
  obtain⟨hokA,hokE⟩:=hokA.append
  obtain⟨hN,hokB⟩:=hokB.cons
  obtain⟨h100,hokB⟩:=hokB.cons
  have h100:=Nat.le_of_ble_eq_true h100
  have hF:sg.F vsA=some (sg.val vsA):=by
    have:=hokE.cons.1
    unfold Sig.F
    rw[this];rfl
  have hokA':A7 (AU fet sg.Ag xs).1:=by rw[hHs];exact hokA
  generalize sg.val vsA=rs at hF hfr hnd hn hokB hokC hokD
  simp only[Adc]at hfr hnd hn hokB hokC hokD
  have hcnt:=Nat.eq_of_beq_eq_true hokB.cons.1
  obtain⟨g1,g2,g3,g4,g5⟩:=Sz hf hS.Aa 256 sg.Ag xs 0 (fun j=>a.eval (c.args.getD j (.tmp 0))) hx hokA'
  obtain⟨b1,b2'⟩:=Akc (fet:=fet) (stride:=256) sg.Ag xs 0 0 hokA'
  have halive:=SG (fet:=fet) (stride:=256) sg.Ag xs 0 hokA'
  rw[hHs]at g1 g3 g4 g5 b1 b2'
  dsimp only at g1 g3 g4 g5 b1 b2'
  generalize hNs:DT fet 0 256 sg.Ag xs=N at *
  obtain⟨O1,hS1,hp1,hle1,hv1,hE1,hk1⟩:=hS.freezes _ g3
  let ρ :=look N
  have hρ : ∀ p∈N,ρ p.1=some p.2:=Aey hN
  have hupdO: ∀ p∈upd,CV O1 (Aw st.Aa upd) m w p.1 p.2:=by
    intro p hp
    obtain⟨x,hx1,hx2⟩:=En upd st.Aa p.1 ⟨p,hp,rfl⟩
    obtain⟨e,fz,l,k1,k2⟩:=g3 p hp
    obtain⟨e',fz',l',k3,k4⟩:=g3 _ hx1
    dsimp only at k3 k4
    rw[k1]at k3
    injection k3 with k3;injection k3 with q1 q2 q3
    subst q1;subst q3
    rw[k2,<- k4]
    exact hS1.Aa p.1 x hx2
  have hIR:=g5 hp1 hv1 hupdO hk1 hρ
  have hargs:(c.args.map a.eval).size=vsA.length:=by rw[Array.size_map,<- hl,g2,g1]
  have hexec:(execOp a.eval o).run P w= .ok (.enter f (c.args.map a.eval)) w:=by
    simp only[execOp,ho,resolve,hcal,hev,Deferred.ofValue,Sem.run_bind,Sem.run_pure,Result.andThen_ok,invoke]
    have:=hsp.1 (c.args.map a.eval) w
    simpa using this
  unfold Oper.wp
  rw[hexec,Oper.upon_enter]
  refine(hsp.2 (ET O1 ρ) w (c.args.map a.eval) vsA rs ⟨fun g j p ht=>⟨PU.2 (hS1.Aer.1 g j p ht).1,(hS1.Aer.1 g j p ht).2⟩,hS1.Aer.2⟩ hargs g1 (by rw[g1,<- g2];exact h100) (fun j hj=> ?_) hF).mono ?_
  ·have:=hIR j (by rw[<- g1];exact hj)
   rw[Nat.zero_add]at this
   have e:(c.args.map a.eval).getD j undef=a.eval (c.args.getD j (.tmp 0)):=by
     have hjs:j<c.args.size:=by rw[<- hl,g2,<- g1];exact hj
     simp [Array.getD_eq_getD_getElem?,hjs]
   rw[e];exact this
  rintro e w' ⟨v,Of,rfl,hcame⟩
  dsimp only
  obtain⟨us,hus1,hus2,hus3⟩:=hcame.res
  let T:Nat->Prop:=fun q=> ∃ i,ρ q=some i
  let O2:Own:=fun b k=>if b<w.heap.size then(match O1 b k with | none=>none | some q=>if T q then(Of b k).bind (sigma (Dh fet) d sg.Ag xs)else some q)else(Of b k).bind (sigma (Dh fet) d sg.Ag xs)
  have hM:Moves O1 T w w':=hcame.moves.Amw
  have hO2lt: ∀ {b k},b<w.heap.size->O2 b k=(match O1 b k with | none=>none | some q=>if T q then(Of b k).bind (sigma (Dh fet) d sg.Ag xs)else some q):=fun hb=>if_pos hb
  have hP2:Passes O1 O2 T w.heap.size:=by
    refine⟨fun b k hb h=>by rw[hO2lt hb,h],fun b k q hb h ht=> ?_⟩
    rw[hO2lt hb,h]
    exact if_neg ht
  have hless2: ∀ b k,b<w.heap.size->O2 b k≠none->O1 b k≠none:=by
    intro b k hb h h'
    rw[hO2lt hb,h']at h;exact h rfl
  have hnone: ∀ b k,Of b k=none->O2 b k=none:=by
    intro b k h
    by_cases hb:b<w.heap.size
    ·rw[hO2lt hb]
     cases hO:O1 b k with
     | none=>rfl
     | some q =>
       by_cases ht:T q
       ·show(if T q then _ else _)=_
        rw[if_pos ht,h];rfl
       ·exfalso
        have hr:ET O1 ρ b k=some 255:=by
          unfold ET;rw[hO]
          have: ρ q=none:=by
            cases hh: ρ q with
            | none=>rfl
            | some i=>exact absurd ⟨i,hh⟩ ht
          simp [this]
        have:=hcame.Xo b k hb hr
        rw[h]at this;cases this
    ·show(if _ then _ else _)=_
     rw[if_neg hb,h];rfl
  have hsome: ∀ b k n,Of b k=some n->n≠255->O2 b k=sigma (Dh fet) d sg.Ag xs n:=by
    intro b k n h hne
    by_cases hb:b<w.heap.size
    ·rw[hO2lt hb]
     have h1:=hcame.less b k hb (by rw[h];simp)
     rw[Ne,PU]at h1
     cases hO:O1 b k with
     | none=>exact absurd hO h1
     | some q =>
       by_cases ht:T q
       ·show(if T q then _ else _)=_
        rw[if_pos ht,h];rfl
       ·exfalso
        have hr:ET O1 ρ b k=some 255:=by
          unfold ET;rw[hO]
          have: ρ q=none:=by
            cases hh: ρ q with
            | none=>rfl
            | some i=>exact absurd ⟨i,hh⟩ ht
          simp [this]
        have:=hcame.Xo b k hb hr
        rw[h]at this;injection this with this;exact hne this
    ·show(if _ then _ else _)=_
     rw[if_neg hb,h];rfl
  have hpf:Ej Of w' O2 w':=fun b k u h hc=>⟨hnone b k h,hc⟩
  have hbcnt:bxs.length=(CP sg.Ag 0).length:=b1
  let bi:Nat->Nat:=fun j=>(CP sg.Ag 0).getD j 0
  let bval:Nat->Value:=fun j=>a.eval (c.args.getD (bi j) (.tmp 0))
  let HV:=OC w' (fun k=>us.getD k undef) (b2 d) 16 sg.AA rs 0++KY (Dh fet) w' bval (rs.drop sg.AA.length) bxs 0
  have hHVf:HV.map (·.1)=((BK (b2 d) 16 sg.AA rs 0).2.2++(BL (Dh fet) (rs.drop sg.AA.length) bxs 0).2.2).map (·.1):=by
    simp only[HV,List.map_append,AgB,Aaf]
  have hHVn:nodup (HV.map (·.1))=true:=by rw[hHVf];exact hnd
  let m2:Nat->Value:=fun i=>(Z7 HV i).getD (m i)
  have hm2: ∀ p∈HV,m2 p.1=p.2:=by
    intro p hp
    show(Z7 HV p.1).getD _=_
    rw[Ajj hHVn p hp];rfl
  let Nw:Nat->Prop:=fun i=> ∃ p∈(BK (b2 d) 16 sg.AA rs 0).2.2++(BL (Dh fet) (rs.drop sg.AA.length) bxs 0).2.2,p.1=i
  have hNw: ∀ i,Nw i->F7 {st with Aa:=Aw st.Aa upd} i:=by
    rintro i ⟨p,hp,rfl⟩
    exact(DL (hfr p hp)).frz g3
  have hm2not: ∀ i,¬ Nw i->m2 i=m i:=by
    intro i hi
    show(Z7 HV i).getD _=_
    rw[Ah2 (fun h=> ?_)]
    ·rfl
    ·rw[hHVf]at h
     obtain⟨p,hp,hpe⟩:=List.mem_map.1 h
     exact hi ⟨p,hp,hpe⟩
  have hrres: ∀ j,j<sg.AA.length-> ∀ b k i,i<255->Of b k=some (256000+256*(0+j)+i)->O2 b k=some (b2 d+16*(0+j)+i):=by
    intro j hj b k i hi h
    rw[hsome b k _ h (by omega)]
    unfold sigma
    rw[if_pos (by omega),Nat.zero_add]
    have e1:(256000+256*j+i - 256000) / 256=j:=by omega
    have e2:(256000+256*j+i - 256000) % 256=i:=by omega
    rw[e1,e2]
  have hbx: ∀(j:Nat) (p:Nat×Sh),bxs[j]? =some p->(∃ y,Aj st.Aa p.1=some y/\Adq p.2 y)/\(∀ ks,p.2= .box ks->ks.length<=200)/\m p.1=bval j/\IR Of w' (256*bi j) (bval j) (yX (rs.getD (sg.AA.length+j) .undef)) /\
      ∀ b k i,i<255->Of b k=some (256*bi j+i)->O2 b k=some (if i=0 then p.1 else Dh fet p.1+i):=by
    intro j p hp
    obtain⟨i',a1,a2,a3,a4,a7⟩:=b2' j p hp
    rw[Nat.zero_add]at a1
    have hbi:bi j=i':=by show(CP sg.Ag 0).getD j 0=_;rw[List.getD_eq_getElem?_getD,a1];rfl
    have c2:=hcame.boxes j i' a1
    have hi'x:i'<xs.length:=by rw[g2];exact a2
    have hxv:=hx i' hi'x
    have hF':FOk O st.Aa m w fet:=fun q x h=>⟨hf q x h,hS.Aa q x (hf q x h)⟩
    have hkey:(∃ y,Aj st.Aa p.1=some y/\Adq p.2 y)/\(∀ ks,p.2= .box ks->ks.length<=200)/\m p.1=a.eval (c.args.getD i' (.tmp 0))/\Adb sg.Ag xs i'=some p.1:=by
      obtain⟨q,s⟩:=p
      have hsh:sg.Ag.getD i' (.agg [])=s:=by rw[List.getD_eq_getElem?_getD,a7];rfl
      cases s with
      | cell _ _=>exact a4.elim
      | agg _=>exact a4.elim
      | box ks =>
        obtain⟨⟨cs0,a4⟩,a5,a6⟩:=a4
        have e5:xs.getD i' .undef= .ptr q 0:=by rw[List.getD_eq_getElem?_getD,a5];rfl
        rw[e5]at hxv
        obtain⟨bk,base,k1,k2,_⟩:=hxv.ptr hF' a4
        refine⟨⟨_,hf _ _ a4,trivial⟩,(fun ks' h=>by injection h with h;rw[<- h];exact a6),by dsimp only at k1 ⊢;rw[k1,k2,Nat.add_zero],?_⟩
        unfold Adb;rw[hsh,e5]
      | map kt vt =>
        obtain⟨⟨l,a4⟩,a5⟩:=a4
        have e5:xs.getD i' .undef= .own q:=by rw[List.getD_eq_getElem?_getD,a5];rfl
        rw[e5]at hxv
        have hc:AQ O st.Aa m w (a.eval (c.args.getD i' (.tmp 0))) (.own q):=hxv
        have hc:=hc.2
        rw[hf _ _ a4]at hc
        refine⟨⟨_,hf _ _ a4,trivial⟩,(fun ks' h=>by cases h),hc.symm,?_⟩
        unfold Adb;rw[hsh,e5]
    obtain⟨hky,hk200,hkm,e7⟩:=hkey
    have e6:(c.args.map a.eval).getD i' undef=a.eval (c.args.getD i' (.tmp 0)):=by
      have hjs:i'<c.args.size:=by rw[<- hl];exact hi'x
      simp [Array.getD_eq_getD_getElem?,hjs]
    refine⟨hky,hk200,?_,?_,fun b k i hi h=> ?_⟩
    ·show _=a.eval (c.args.getD (bi j) (.tmp 0))
     rw[hbi];exact hkm
    ·show IR Of w' (256*bi j) (a.eval (c.args.getD (bi j) (.tmp 0))) _
     rw[hbi,<- e6];exact c2
    ·rw[hbi]at h
     rw[hsome b k _ h (by omega)]
     unfold sigma
     rw[if_neg (by omega)]
     have e1:(256*i'+i) / 256=i':=by omega
     have e2:(256*i'+i) % 256=i:=by omega
     rw[e1,e2,e7]
  let NEW:=(BK (b2 d) 16 sg.AA rs 0).2.2++(BL (Dh fet) (rs.drop sg.AA.length) bxs 0).2.2
  let BX:=(BL (Dh fet) (rs.drop sg.AA.length) bxs 0).2.1
  let objsF:=Aw (Bh (Aw st.Aa (upd++BX)) del) NEW
  have hnewO: ∀ p∈NEW,Aj objsF p.1=some p.2:=fun p hp=>YO hnd hp
  have hBXk: ∀ i z,(i,z)∈BX-> ∃(j:Nat) (p:Nat×Sh),bxs[j]? =some p/\p.1=i/\ ∃ r,z=(Ew (Dh fet p.1) p.2 r).2.1:=by
    intro i z hz
    have: ∀(bs:List (Nat×Sh)) (j0:Nat),(i,z)∈(BL (Dh fet) (rs.drop sg.AA.length) bs j0).2.1-> ∃(j:Nat) (p:Nat×Sh),bs[j]? =some p/\p.1=i/\ ∃ r,z=(Ew (Dh fet p.1) p.2 r).2.1:=by
      intro bs
      induction bs with
      | nil=>intro j0 h;simp [BL]at h
      | cons b bs ih =>
        intro j0 h
        obtain⟨q,ks⟩:=b
        simp only[BL]at h
        rcases List.mem_cons.1 h with h | h
        ·injection h with h1 h2
         exact⟨0,(q,ks),rfl,h1.symm,_,h2⟩
        ·obtain⟨j,p,h1,h2⟩:=ih (j0+1) h
         exact⟨j+1,p,by simpa using h1,h2⟩
    exact this bxs 0 hz
  have hupdk: ∀ i z,(i,z)∈upd->(∃ e l f,z= .arr e true l/\Aj st.Aa i=some (.arr e f l))/\Aj (Aw st.Aa upd) i=some z:=by
    intro i z hz
    obtain⟨e,fz,l,k1,k2⟩:=g3 _ hz
    dsimp only at k1 k2
    refine⟨⟨e,l,fz,k2,k1⟩,?_⟩
    obtain⟨x,hx1,hx2⟩:=En upd st.Aa i ⟨(i,z),hz,rfl⟩
    obtain⟨e',fz',l',k3,k4⟩:=g3 _ hx1
    dsimp only at k3 k4
    rw[k1]at k3
    injection k3 with k3;injection k3 with q1 q2 q3
    subst q1;subst q3
    rw[hx2,k4,k2]
  have hnoBX: ∀ i,(∃ e f l,Aj st.Aa i=some (.arr e f l))-> ∀ y,(i,y)∉BX:=by
    rintro i ⟨e,f',l,h⟩ y hy
    obtain⟨j,p,h1,h2,_⟩:=hBXk i y hy
    obtain⟨⟨y',h3,h4⟩,_⟩:=hbx j p h1
    rw[h2,h]at h3;injection h3 with h3;subst h3
    exact jZ h4
  have hTiff: ∀ i,T i->i∈del\/ ∃ y,(i,y)∈BX:=by
    rintro i ⟨n,hn'⟩
    have h1:(i,n)∈N:=jM hn'
    have h2:=(g4 i).2 (List.mem_map.2 ⟨_,h1,rfl⟩)
    rcases List.mem_append.1 h2 with h2 | h2
    ·exact .inl h2
    ·right
     rw[<- Ace (Dh fet) (rs.drop sg.AA.length) bxs 0]at h2
     obtain⟨q,hq1,hq2⟩:=List.mem_map.1 h2
     exact⟨q.2,by rw[<- hq2];exact hq1⟩
  have hget: ∀ i z,Aj objsF i=some z->(i,z)∈NEW\/(¬ Nw i/\i∉del/\((i,z)∈BX\/((∀ y,(i,y)∉BX)/\Aj (Aw st.Aa upd) i=some z))):=by
    intro i z hz
    rcases TL hz with h | ⟨hno,hnd',h⟩
    ·exact .inl h
    ·have hni: ¬ Nw i:=by rintro ⟨p,hp,rfl⟩;exact hno p.2 hp
     refine .inr ⟨hni,hnd',?_⟩
     rcases h with h | ⟨h1,h2⟩
     ·rcases List.mem_append.1 h with h | h
      ·obtain⟨⟨e,l,f',h3,h4⟩,h5⟩:=hupdk i z h
       exact .inr ⟨hnoBX i ⟨e,f',l,h4⟩,h5⟩
      ·exact .inl h
     ·right
      refine⟨fun y hy=>h1 y (List.mem_append_right _ hy),?_⟩
      rw[CY _ _ _ (fun p hp e=>h1 p.2 (List.mem_append_left _ (by rw[<- e];exact hp)))]
      exact h2
  have hbxst: ∀ i z,(i,z)∈BX-> ∃ y,Aj st.Aa i=some y/\Aj (Aw st.Aa upd) i=some y/\y.shp=z.shp:=by
    intro i z hz
    obtain⟨j,p,h1,h2,r,h4⟩:=hBXk i z hz
    obtain⟨⟨y,h3,h5⟩,_⟩:=hbx j p h1
    rw[h2]at h3
    refine⟨y,h3,?_,by rw[h4];exact Ajs h5⟩
    rw[CY _ _ _ (fun p hp e=> ?_)]
    ·exact h3
    ·obtain⟨⟨e1,e2,e3,_,h6⟩,_⟩:=hupdk p.1 p.2 hp
     rw[e,h3]at h6;injection h6 with h6;rw[h6]at h5;exact jZ h5
  have hE:Gz (Aw st.Aa upd) m objsF m2 Nw:=by
    intro i z hz
    rcases hget i z hz with h | ⟨h1,h2,h | ⟨h3,h4⟩⟩
    ·exact .inl ⟨_,h,rfl⟩
    ·obtain⟨y,h5,h6,h7⟩:=hbxst i z h
     exact .inr ⟨y,h6,h7,hm2not i h1⟩
    ·exact .inr ⟨z,h4,rfl,hm2not i h1⟩
  obtain⟨r1,r2,r3⟩:=vP (objs':=objsF) (m':=m2) (cid:=256000) (cst:=256) (id:=b2 d) (stride:=16) (f:=fun k=>us.getD k undef) (rs:=rs) hpf hnone sg.AA 0 (fun j hj=>by
    have:=hus3 j (by rw[hus1];exact hj)
    rw[Nat.zero_add];exact this) hrres hokD (fun p hp=>hnewO p (List.mem_append_left _ hp)) (fun p hp=>hm2 p (List.mem_append_left _ hp))
  obtain⟨s1,s2⟩:=Aag (rb:=Dh fet) (objs':=objsF) (m':=m2) (val:=bval) (cid:=fun j=>256*bi j) (rs:=rs.drop sg.AA.length) hpf hnone bxs 0 (fun j p hp=>by
    obtain⟨⟨y0,h0,h0'⟩,h1,h2,h4,h5⟩:=hbx j p hp
    have hni: ¬ Nw p.1:=fun h=>by
      have:=(hNw p.1 h).Aa
      dsimp only at this
      rw[CY _ _ _ (fun p' hp' e=> ?_)]at this
      ·rw[h0]at this;cases this
      ·obtain⟨⟨e1,e2,e3,_,h6⟩,_⟩:=hupdk p'.1 p'.2 hp'
       rw[e,h0]at h6;injection h6 with h6;rw[h6]at h0';exact jZ h0'
    rw[Nat.zero_add]
    refine⟨h1,by rw[hm2not _ hni];exact h2,?_,h5⟩
    rw[List.getD_eq_getElem?_getD,List.getElem?_drop,<- List.getD_eq_getElem?_getD];exact h4) hokC (fun p hp=>hnewO p (List.mem_append_right _ hp)) (fun p hp=>hm2 p (List.mem_append_right _ hp))
  let vsR:=(BK (b2 d) 16 sg.AA rs 0).2.1
  have hval:A8 O2 objsF m2 w' v (Adv vsR):=by
    have hlen:vsR.length=us.size:=by rw[r1,hus1]
    rw[hus2]
    by_cases h1:us.size=1
    ·rw[dif_pos h1]
     obtain⟨x,hx'⟩: ∃ x,vsR=[x]:=List.length_eq_one_iff.1 (by rw[hlen];exact h1)
     rw[hx']
     have:=(r2 0 (by rw[<- hus1];omega)).1
     have e1:(BK (b2 d) 16 sg.AA rs 0).2.1.getD 0 .undef=x:=by
       show vsR.getD 0 .undef=x
       rw[hx'];rfl
     rw[e1]at this
     have e2:us.getD (0+0) undef=us[0]:=by simp [Array.getD_eq_getD_getElem?,show 0<us.size from by omega]
     rw[<- e2];exact this
    ·rw[dif_neg h1]
     have e1:Adv vsR= .tup vsR:=by
       cases hv':vsR with
       | nil=>rfl
       | cons x l =>
         cases l with
         | nil=>rw[hv']at hlen;simp at hlen;omega
         | cons _ _=>rfl
     rw[e1]
     refine⟨us,rfl,hlen.symm,fun j hj=> ?_⟩
     have hj':j<sg.AA.length:=by rw[<- r1];exact hj
     have:=r2 j hj'
     rw[Nat.zero_add]at this
     exact this.1.Anz this.2
  refine hn O2 m2 _ _ ?_
  refine hS1.next (T:=T) (Nw:=Nw) (x:=Adv vsR) hM hP2 hless2 hE (fun n hn'=>(hNw n hn').both) (fun q hq=> ?_) (fun i z hz=> ?_) rfl (fun _=>hval)
  ·obtain⟨n,hn'⟩:=hq
   have h1:(q,n)∈N:=jM hn'
   have h2:=halive _ h1
   obtain⟨y,hy⟩:=Option.isSome_iff_exists.1 h2
   have h3:=hf _ _ hy
   by_cases hu: ∃ p∈upd,p.1=q
   ·obtain⟨x,_,hx2⟩:=En upd st.Aa q hu
    exact Option.isSome_iff_exists.2 ⟨x,hx2⟩
   ·dsimp only
    rw[CY _ _ _ (fun p hp e=>hu ⟨p,hp,e⟩)]
    exact Option.isSome_iff_exists.2 ⟨y,h3⟩
  ·rcases hget i z hz with h | ⟨h1,h2,h | ⟨h3,h4⟩⟩
   ·right
    refine⟨?_,(hNw i ⟨_,h,rfl⟩).ne⟩
    rcases List.mem_append.1 h with h | h
    ·exact r3 _ h
    ·exact s2 _ h
   ·right
    obtain⟨y,h5,h6,_⟩:=hbxst i z h
    exact⟨s1 _ h,hS.ids i _ h5⟩
   ·left
    refine⟨fun ht=> ?_,h4,hm2not i h1⟩
    rcases hTiff i ht with h | ⟨y,hy⟩
    ·exact h2 h
    ·exact h3 y hy
end
