/-
  CertextCheck: the law returns true whatever the input; machine, functions, plain law (part 13 of 47.)
-/
import Derived.Test.YtadefjgbcapakaaGreatDoorA12
import Derived.Calls
set_option linter.unusedVariables false
set_option linter.unusedSimpArgs false
namespace Go.Proofs.YtadefjgbcapakaaGreatDoor.Vm
open Classical
section
variable {P:Program} {C:Ctx} {V0:Nat→Value} {O0 O:Own} {w0 w:World} {m:Nat→Value} {st:St} {a:Act} {o:Oper}
theorem AeU {fet:Fet} (hf:Ir st.Aa fet) {s:Sh} {x:A} {v:Value} {id:Nat} (hx:AB O st.Aa m w v x) (hS: ∀ q y,Ai st.Aa q=some y→Dc O st.Aa m w q y) (hok:AA (Bi fet s x).ok) :
    Frz st.Aa (Bi fet s x).upd∧(∀ q∈(Bi fet s x).del++(Bi fet s x).boxes.map (·.1),q∈(GN fet id s x).map (·.1))∧(∀ q∈(GN fet id s x).map (·.1),q∈(Bi fet s x).del++(Bi fet s x).boxes.map (·.1)) ∧
    (BN s=true↔(Bi fet s x).boxes≠ []) ∧
    ∀ {O':Own} {objs':List (Nat×Obj)} {ρ :Nat→Option Nat},Ep O w O' w→(∀ p∈(Bi fet s x).upd,∀ e l,p.2= .arr e true l→Am O' w (m p.1) (.sl l)) →
      (∀ p∈(Bi fet s x).upd,Dc O' objs' m w p.1 p.2)→(∀ b k q,O b k=some q→NR st.Aa q→O' b k=some q)→(∀ p∈GN fet id s x,ρ p.1=some p.2) →
      IR (F9 O' ρ) w id v (Bi fet s x).a:=by
  cases s with
  | cell u k =>
    unfold Bi at *
    dsimp only at hok ⊢
    have hall: ∀ hc:AV O st.Aa m w v x,_:=fun hc=>Q4 hf [(u,k)] [x] id (fun _=>v) (fun j hj=>by
      have:j=0:=by simpa using hj
      subst this;exact hc)
    have hnc: ∀(h:AA (AQ fet [(u,k)] [x]).1),AV O st.Aa m w v x:=by
      intro h
      cases x with
      | undef=>cases u<;>cases k<;>(have:=h false (by simp [AQ,pur]);cases this)
      | agg _=>cases u<;>cases k<;>(have:=h false (by simp [AQ,pur]);cases this)
      | tup _=>cases u<;>cases k<;>(have:=h false (by simp [AQ,pur]);cases this)
      | cnd _ _=>cases u<;>cases k<;>(have:=h false (by simp [AQ,pur]);cases this)
      | _=>exact hx
    generalize hh:AQ fet [(u,k)] [x]=r at *
    obtain⟨ok,cs,upd,del⟩:=r
    cases cs with
    | nil=>have:=hok false (by simp);cases this
    | cons c cs =>
      cases cs with
      | cons _ _=>have:=hok false (by simp);cases this
      | nil =>
        dsimp only at hok ⊢
        obtain⟨h1,h2,h3,h4,h5⟩:=hall (hnc hok) hok
        have h4:del=(Ed id [(u,k)] [x]).map (·.1):=h4
        refine⟨h3,fun q hq=> ?_,fun q hq=> ?_,⟨(fun h=>by cases h),fun h=>absurd rfl h⟩,fun {O' objs' ρ} hp hv hO _ hρ => ?_⟩
        ·simp only[List.map_nil,List.append_nil]at hq;rw[h4]at hq;exact hq
        ·simp only[List.map_nil,List.append_nil];rw[h4];exact hq
        ·have:=h5 hp hv hO hρ 0 (by simp)
         have e: [c].getD 0 .undef=c:=rfl
         dsimp only at this
         rw[e]at this
         cases c<;>first | exact this | cases this
  | agg ks =>
    cases x with
    | agg cs =>
      unfold Bi at *
      dsimp only at hok ⊢
      obtain⟨vs,g1,g2,g3⟩:=hx
      obtain⟨h1,h2,h3,h4,h5⟩:=Q4 hf ks cs (id+1) (fun j=>vs.getD j undef) g3 hok
      refine⟨h3,fun q hq=> ?_,fun q hq=> ?_,⟨(fun h=>by cases h),fun h=>absurd rfl h⟩,fun {O' objs' ρ} hp hv hO _ hρ => ?_⟩
      ·simp only[List.map_nil,List.append_nil]at hq;rw[h4]at hq;exact hq
      ·simp only[List.map_nil,List.append_nil];rw[h4];exact hq
      ·exact⟨vs,g1,by rw[g2,h1,h2],fun j hj=>h5 hp hv hO hρ j (by rw[← h1];exact hj)⟩
    | _=>have:=hok false (by simp [Bi]);cases this
  | box ks =>
    cases x with
    | ptr q off =>
      unfold Bi at *
      dsimp only at hok ⊢
      cases hg:MK fet q with
      | none=>rw[hg]at hok;have:=hok false (by simp);cases this
      | some cs =>
            rw[hg]at hok
            dsimp only at hok ⊢
            obtain⟨ho0,hokA⟩:=hok.cons
            obtain⟨_,hokB⟩:=hokA.cons
            have ho0:=Nat.eq_of_beq_eq_true ho0
            subst ho0
            have hq:=hf q _ (Gv hg)
            obtain⟨b,base,g1,g2⟩:=hS q _ hq
            have hv0:v= .pointer (some (at' b base)):=by
              have hc:AV O st.Aa m w v (.ptr q 0):=hx
              have hc:=hc.2
              rw[hq]at hc
              simp only[Option.map_some,Obj.shp]at hc
              obtain⟨b',base',g3,g4⟩:=hc
              rw[g1]at g3;injection g3 with g3;injection g3 with g3;injection g3 with e1 e2
              subst e1;subst e2;exact g4
            let f:Nat→Value:=fun j=>(w.cell? (at' b (base+j))).getD undef
            have hfc: ∀ j,j<cs.length→w.cell? (at' b (base+j))=some (f j)∧AV O st.Aa m w (f j) (cs.getD j .undef):=by
              intro j hj
              obtain⟨_,_,u,h3,h4⟩:=g2 j hj
              have:f j=u:=by show(w.cell? _).getD _=_;rw[h3];rfl
              rw[this];exact⟨h3,h4⟩
            obtain⟨h1,h2,h3,h4,h5⟩:=Q4 hf ks cs (id+1) f (fun j hj=>(hfc j hj).2) hokB
            have hnames:GN fet id (.box ks) (.ptr q 0)=(q,id)::Ed (id+1) ks cs:=by simp only[GN,hg]
            rw[hnames]
            refine⟨h3,fun r hr=> ?_,fun r hr=> ?_,⟨fun _=>by simp,fun _=>rfl⟩,fun {O' objs' ρ} hp hv hO hbx hρ => ?_⟩
            ·simp only[List.map_cons,List.map_nil,List.mem_append,List.mem_singleton]at hr
             rcases hr with hr | hr
             ·rw[h4]at hr;exact List.mem_cons_of_mem _ hr
             ·rw[hr];exact List.mem_cons_self
            ·simp only[List.map_cons,List.map_nil,List.mem_append,List.mem_singleton]
             rcases List.mem_cons.1 hr with hr | hr
             ·exact .inr hr
             ·left;rw[h4];exact hr
            ·refine⟨b,base,hv0,fun j hj=> ?_⟩
             rw[h1]at hj
             obtain⟨k1,k2,u,k3,_⟩:=g2 j (by rw[h2];exact hj)
             refine⟨ZO (hbx _ _ _ k1 (.of hq (fun _ _ _ h=>by cases h))) (hρ (q,id) List.mem_cons_self),k2,f j,(hfc j (by rw[h2];exact hj)).1,h5 hp hv hO (fun p hp'=>hρ p (List.mem_cons_of_mem _ hp')) j hj⟩
    | _=>have:=hok false (by simp [Bi]);cases this
  | map kt vt =>
    cases x with
    | own q =>
      unfold Bi at *
      dsimp only at hok ⊢
      cases hg:Ai fet q with
      | none=>rw[hg]at hok;have:=hok false (by simp);cases this
      | some y =>
        cases y with
        | box _=>rw[hg]at hok;have:=hok false (by simp);cases this
        | arr _ _ _=>rw[hg]at hok;have:=hok false (by simp);cases this
        | mp l =>
          rw[hg]at hok
          dsimp only at hok ⊢
          have hq:=hf q _ hg
          have hv0:v=m q:=by
            have hc:AV O st.Aa m w v (.own q):=hx
            have hc:=hc.2
            rw[hq]at hc
            exact hc
          refine⟨(fun p hp=>by cases hp),fun r hr=> ?_,fun r hr=> ?_,⟨fun _=>by simp,fun _=>rfl⟩,fun {O' objs' ρ} hp hv hO hbx hρ => ?_⟩
          ·simpa [GN]using hr
          ·simpa [GN]using hr
          ·obtain⟨r,es,ck,g1,g2,g3,g4,g5⟩:=(show FB O w q (m q) l from hS q _ hq)
           refine⟨r,es,ck,by rw[hv0];exact g1,g2,ZO (hbx _ _ _ g3 (.of hq (fun _ _ _ h=>by cases h))) (hρ (q,id) List.mem_cons_self),g4,fun i p hip=> ?_⟩
           obtain⟨e,k1,k2,k3⟩:=g5 i p hip
           exact⟨e,k1,(k2.Bj hp).Bj (TL ρ),(k3.Bj hp).Bj (TL ρ)⟩
    | _=>have:=hok false (by simp [Bi]);cases this
theorem Sr {fet:Fet} (hf:Ir st.Aa fet) (hS: ∀ q y,Ai st.Aa q=some y→Dc O st.Aa m w q y) (stride:Nat): ∀(ss:List Sh) (xs:List A) (id:Nat) (f:Nat→Value),(∀ j,j<xs.length→AB O st.Aa m w (f j) (xs.getD j .undef))→AA (AX fet ss xs).1 →
    (AX fet ss xs).2.1.length=ss.length∧xs.length=ss.length∧Frz st.Aa (AX fet ss xs).2.2.1 ∧
    (∀ q,q∈(AX fet ss xs).2.2.2.1++(AX fet ss xs).2.2.2.2.map (·.1)↔q∈(DZ fet id stride ss xs).map (·.1)) ∧
    ∀ {O':Own} {objs':List (Nat×Obj)} {ρ :Nat→Option Nat},Ep O w O' w→(∀ p∈(AX fet ss xs).2.2.1,∀ e l,p.2= .arr e true l→Am O' w (m p.1) (.sl l)) →
      (∀ p∈(AX fet ss xs).2.2.1,Dc O' objs' m w p.1 p.2)→(∀ b k q,O b k=some q→NR st.Aa q→O' b k=some q)→(∀ p∈DZ fet id stride ss xs,ρ p.1=some p.2) →
      ∀ j,j<ss.length→IR (F9 O' ρ) w (id+stride*j) (f j) ((AX fet ss xs).2.1.getD j .undef):=by
  intro ss
  induction ss with
  | nil =>
    intro xs id f _ hok
    cases xs with
    | nil=>exact⟨rfl,rfl,(fun p hp=>by simp [AX]at hp),(fun q=>by simp [AX,DZ]),fun _ _ _ _ _ j hj=>by simp at hj⟩
    | cons _ _=>have:=hok false (by simp [AX]);cases this
  | cons s ss ih =>
    intro xs id f h hok
    cases xs with
    | nil=>have:=hok false (by simp [AX]);cases this
    | cons x xs =>
      simp only[AX]at hok ⊢
      obtain⟨hok1,hok2⟩:=hok.append
      obtain⟨h1,h2,h3,_,h4⟩:=AeU (id:=id) hf (h 0 (by simp)) hS hok1
      obtain⟨g1,g2,g3,g4,g5⟩:=ih xs (id+stride) (fun j=>f (j+1)) (fun j hj=>by simpa using h (j+1) (by simpa using hj)) hok2
      refine⟨by simp [g1],by simp [g2],h1.append g3,fun q=> ?_,fun {O' objs' ρ} hp hv hO hbx hρ j hj=> ?_⟩
      ·simp only[DZ,List.map_append,List.mem_append]
       have a1:=h2 q
       have a2:=h3 q
       have a3:=g4 q
       simp only[List.mem_append]at a1 a2 a3
       constructor
       ·rintro ((h | h) | (h | h))
        ·exact .inl (a1 (.inl h))
        ·exact .inr (a3.1 (.inl h))
        ·exact .inl (a1 (.inr h))
        ·exact .inr (a3.1 (.inr h))
       ·rintro (h | h)
        ·rcases a2 h with h | h
         ·exact .inl (.inl h)
         ·exact .inr (.inl h)
        ·rcases a3.2 h with h | h
         ·exact .inl (.inr h)
         ·exact .inr (.inr h)
      ·cases j with
       | zero=>simpa using h4 hp (fun p hp=>hv p (List.mem_append_left _ hp)) (fun p hp=>hO p (List.mem_append_left _ hp)) hbx (fun p hp=>hρ p (List.mem_append_left _ hp))
       | succ j =>
         have:=g5 hp (fun p hp=>hv p (List.mem_append_right _ hp)) (fun p hp=>hO p (List.mem_append_right _ hp)) hbx (fun p hp=>hρ p (List.mem_append_right _ hp)) j (by simpa using hj)
         rw[show id+stride*(j+1)=id+stride+stride*j from by rw[Nat.mul_add];omega]
         simpa using this
end
end Go.Proofs.YtadefjgbcapakaaGreatDoor.Vm
namespace Go.Proofs.YtadefjgbcapakaaGreatDoor.Vm
open Classical
def Gf (w:World) (v:Value):Nat→Value
  | 0=>v
  | x+1=>match v with
    | .agg vs=>vs.getD x undef
    | .pointer (some a)=>(w.cell? (at' a.block (a.off+x))).getD undef
    | _=>undef
section
variable {Oc O':Own} {w:World} {objs':List (Nat×Obj)} {m':Nat→Value}
theorem Dc.carry {Aa:List (Nat×Obj)} {m:Nat→Value} {c i e:Nat} {l:Sl} (h:Dc Oc Aa m w c (.arr e true l)) (hp:Ep Oc w O' w) (hr: ∀ b k,Oc b k=some c→O' b k=some i) (hn: ∀ b k,Oc b k=none→O' b k=none) (hm:m' i=m c) :
    Dc O' objs' m' w i (.arr e true l):=by
  refine⟨h.1,?_⟩
  rcases h.2 with ⟨h1,h2,h3⟩ | ⟨h1,g,cap,cur,h2,h3,h4,h5,h6,h7,h8,h9⟩
  ·exact .inl ⟨h1,h2,by rw[hm];exact h3⟩
  ·refine .inr ⟨h1,g,cap,cur,by rw[hm];exact h2,h3,h4,h5,h6,fun r j hr' hj=> ?_,fun k hk hge=>hr _ _ (h8 k hk hge),fun k hk=> ?_⟩
   ·obtain⟨u,h10,h11⟩:=h7 r j hr' hj
    exact⟨u,h10,h11.Bj hp⟩
   ·have:=h9 k hk
    simp only[if_true]at this ⊢
    exact hn _ _ this
theorem FB.carry {c i:Nat} {v:Value} {l:Mp} (h:FB Oc w c v l) (hp:Ep Oc w O' w) (hr: ∀ b k,Oc b k=some c→O' b k=some i):FB O' w i v l:=by
  obtain⟨r,es,ck,h1,h2,h3,h4,h5⟩:=h
  refine⟨r,es,ck,h1,h2,hr _ _ h3,h4,fun j p hj=> ?_⟩
  obtain⟨e,k1,k2,k3⟩:=h5 j p hj
  exact⟨e,k1,k2.Bj hp,k3.Bj hp⟩
theorem Ze {kt vt:Ty} {a:A} (h:a.Zd kt vt=true): ∃ l,a= .ump l∧l.kt=kt∧l.vt=vt:=by
  cases a with
  | ump l =>
    have h':(decide (l.kt=kt)&&decide (l.vt=vt))=true:=h
    simp only[Bool.and_eq_true,decide_eq_true_eq]at h'
    exact⟨l,rfl,h'.1,h'.2⟩
  | _=>cases h
theorem Ag1 {id:Nat} {k:CK} {v:Value} {c:A} (h:IC Oc w id v c) (hp:Ep Oc w O' w) (hok:AA (force k c).1):AV O' objs' m' w v (force k c).2:=by
  cases c with
  | usl e l =>
    cases k with
    | oth =>
      rcases h.2 with ⟨_,_,h3⟩ | ⟨_,g,cap,cur,h2,_⟩
      ·show v.oneCell'=true
       have h3:v=_:=h3
       rw[h3];rfl
      ·show v.oneCell'=true
       have h2:v=_:=h2
       rw[h2];rfl
    | mp _ _=>have:=hok.cons.1;cases this
    | _=>have:=hok.cons.1;simp [A.isB,A.isI,A.isS,A.Afh,A.Aee,A.iU,A.isFn]at this
  | _=>exact iH (Am.Bj hp h) hok
theorem L9 {cid id:Nat} {f:Nat→Value} (hp:Ep Oc w O' w) (hn: ∀ b k,Oc b k=none→O' b k=none): ∀(ks:List (Bool×CK)) (cs:List A) (j0:Nat),(∀ j,j<ks.length→IC Oc w (cid+(j0+j)) (f (j0+j)) (cs.getD (j0+j) .undef)) →
    (∀ b k x,x<j0+ks.length→Oc b k=some (cid+x)→O' b k=some (id+x))→AA (Bg id ks cs j0).1→(∀ p∈(Bg id ks cs j0).2.2,Ai objs' p.1=some p.2)→(∀ p∈(Bg id ks cs j0).2.2,∀ x,p.1=id+x→m' p.1=f x) →
    (Bg id ks cs j0).2.1.length=ks.length∧(∀ j,j<ks.length→AV O' objs' m' w (f (j0+j)) ((Bg id ks cs j0).2.1.getD j .undef))∧ ∀ p∈(Bg id ks cs j0).2.2,Dc O' objs' m' w p.1 p.2∧ ∃ x,p.1=id+x∧j0≤x∧x<j0+ks.length:=by
  intro ks
  induction ks with
  | nil=>intro cs j0 _ _ _ _ _;exact⟨rfl,fun j hj=>by simp at hj,fun p hp=>by simp [Bg]at hp⟩
  | cons k ks ih =>
    intro cs j0 h hr hok hO hm
    obtain⟨u,k⟩:=k
    have h0:=h 0 (by simp)
    rw[Nat.add_zero]at h0
    have hrest:=fun hok2 hO2 hm2=>ih cs (j0+1) (fun j hj=>by have:=h (j+1) (by simpa using hj);rwa [show j0+(j+1)=j0+1+j from by omega]at this) (fun b k x hx=>hr b k x (by simp only[List.length_cons];omega)) hok2 hO2 hm2
    cases u with
    | false =>
      simp only[Bg]at hok hO hm ⊢
      obtain⟨hok1,hok2⟩:=hok.append
      obtain⟨g1,g2,g3⟩:=hrest hok2 hO hm
      refine⟨by simp [g1],fun j hj=> ?_,fun p hp=> ?_⟩
      ·cases j with
       | zero=>exact Ag1 h0 hp hok1
       | succ j =>
         have:=g2 j (by simpa using hj)
         rw[show j0+(j+1)=j0+1+j from by omega];simpa using this
      ·obtain⟨a1,x,a2,a3,a4⟩:=g3 p hp
       exact⟨a1,x,a2,by omega,by simp only[List.length_cons];omega⟩
    | true =>
      cases k with
      | sl e sz =>
        simp only[Bg]at hok hO hm ⊢
        obtain⟨hok1,hok2⟩:=hok.cons
        obtain⟨g1,g2,g3⟩:=hrest hok2 (fun p hp=>hO p (List.mem_cons_of_mem _ hp)) (fun p hp=>hm p (List.mem_cons_of_mem _ hp))
        have hO0:=hO _ List.mem_cons_self
        have hm0:=hm _ List.mem_cons_self j0 rfl
        dsimp only at hO0 hm0
        have hc:cs.getD j0 .undef= .usl e (cs.getD j0 .undef).toL:=by
          generalize cs.getD j0 .undef=c at *
          cases c<;>simp only[A.Ai9]at hok1<;>first | (cases hok1;done) | skip
          simp only[Bool.and_eq_true]at hok1
          rw[Nat.eq_of_beq_eq_true hok1.1];rfl
        rw[hc]at h0
        have hor:Dc O' objs' m' w (id+j0) (.arr e true (cs.getD j0 .undef).toL):=Dc.carry (show Dc Oc [] (fun _=>f j0) w (cid+j0) _ from h0) hp (fun b k hbk=>hr b k j0 (by simp) hbk) hn hm0
        refine⟨by simp [g1],fun j hj=> ?_,fun p hp=> ?_⟩
        ·cases j with
         | zero =>
           have hone:(f j0).oneCell'=true:=by
             rcases h0.2 with ⟨_,_,h3⟩ | ⟨_,g,cap,cur,h2,_⟩
             ·have h3:f j0=_:=h3
              rw[h3];rfl
             ·have h2:f j0=_:=h2
              rw[h2];rfl
           refine⟨hone,?_⟩
           show match (Ai objs' (id+j0)).map Obj.shp with | some (.arr _ _)=>_ | some .mp=>_ | _=>True
           rw[hO0]
           exact hm0.symm
         | succ j =>
           have:=g2 j (by simpa using hj)
           rw[show j0+(j+1)=j0+1+j from by omega];simpa using this
        ·rcases List.mem_cons.1 hp with rfl | hp
         ·exact⟨hor,j0,rfl,Nat.le_refl _,by simp⟩
         ·obtain⟨a1,x,a2,a3,a4⟩:=g3 p hp
          exact⟨a1,x,a2,by omega,by simp only[List.length_cons];omega⟩
      | _=>have:=hok false (by simp [Bg]);cases this
theorem AjD {cid id:Nat} {s:Sh} {x:A} {v:Value} (hp:Ep Oc w O' w) (hn: ∀ b k,Oc b k=none→O' b k=none) (h:IR Oc w cid v x) (hr: ∀ b k i,i<255→Oc b k=some (cid+i)→O' b k=some (id+i))
    (hok:AA (back id s x).1) (hO: ∀ p∈(back id s x).2.2,Ai objs' p.1=some p.2) (hm: ∀ p∈(back id s x).2.2,∀ i,p.1=id+i→m' p.1=Gf w v i) :
    AB O' objs' m' w v (back id s x).2.1∧ ∀ p∈(back id s x).2.2,Dc O' objs' m' w p.1 p.2:=by
  cases s with
  | cell u k =>
    simp only[back]at hok hO hm ⊢
    obtain⟨hok1,hok2⟩:=hok.append
    have hpl:=hok2.cons.1
    have hic:IC Oc w cid v x:=by
      have bad: ∀ cs l,x= .agg cs∨x= .box cs∨x= .ump l→False:=by
        rintro cs l (rfl | rfl | rfl)<;>(cases u<;>cases k<;>first | (cases hpl;done) | (have:=hok1 false (by simp [Bg,force,A.isB,A.isI,A.isS,A.Afh,A.Aee,A.iU,A.Ai9,A.isFn]);cases this))
      cases x with
      | agg cs=>exact(bad cs default (.inl rfl)).elim
      | box cs=>exact(bad cs default (.inr (.inl rfl))).elim
      | ump l=>exact(bad [] l (.inr (.inr rfl))).elim
      | _=>exact h
    obtain⟨g1,g2,g3⟩:=L9 (cid:=cid) (id:=id) (f:=Gf w v) hp hn [(u,k)] [x] 0 (fun j hj=>by
      have:j=0:=by simpa using hj
      subst this;exact hic) (fun b k i hi hb=>hr b k i (by simp at hi;omega) hb) hok1 hO hm
    have:=g2 0 (by simp)
    exact⟨this.toT,fun p hp=>(g3 p hp).1⟩
  | agg ks =>
    simp only[back]at hok hO hm ⊢
    obtain⟨hf,hok⟩:=hok.cons
    have hf:=Nat.le_of_ble_eq_true hf
    obtain⟨hok1,hok2⟩:=hok.cons
    cases x with
    | agg cs =>
      obtain⟨vs,h1,h2,h3⟩:=h
      have hl:cs.length=ks.length:=by simpa [A.isAgg,KZ]using hok1
      obtain⟨g1,g2,g3⟩:=L9 (objs':=objs') (m':=m') (cid:=cid+1) (id:=id+1) (f:=fun j=>vs.getD j undef) hp hn ks cs 0 (fun j hj=>by
        have:=h3 j (by omega)
        rw[Nat.zero_add];exact this) (fun b k i hi hb=>by
        have:=hr b k (1+i) (by omega) (by rw[← Nat.add_assoc];exact hb)
        rw[← Nat.add_assoc]at this;exact this) hok2 hO (fun p hp i hi=>by
        have:=hm p hp (i+1) (by omega)
        rw[this,h1];rfl)
      refine⟨⟨vs,h1,?_,fun j hj=> ?_⟩,fun p hp=>(g3 p hp).1⟩
      ·show vs.size=(Bg (id+1) ks cs 0).2.1.length
       rw[h2,g1,hl]
      ·have hj:j<(Bg (id+1) ks cs 0).2.1.length:=hj
       rw[g1]at hj
       have:=g2 j hj
       rwa [Nat.zero_add]at this
    | _=>simp [A.isAgg]at hok1
  | box ks =>
    simp only[back]at hok hO hm ⊢
    obtain⟨hf,hok⟩:=hok.cons
    have hf:=Nat.le_of_ble_eq_true hf
    obtain⟨hok1,hok2⟩:=hok.cons
    cases x with
    | box cs =>
      obtain⟨b,base,h1,h2⟩:=h
      have hl:cs.length=ks.length:=by simpa [A.Ai7,KZ]using hok1
      have hcell: ∀ j,Gf w v (j+1)=(w.cell? (at' b (base+j))).getD undef:=by intro j;rw[h1];rfl
      obtain⟨g1,g2,g3⟩:=L9 (objs':=objs') (m':=m') (cid:=cid+1) (id:=id+1) (f:=fun j=>(w.cell? (at' b (base+j))).getD undef) hp hn ks cs 0 (fun j hj=>by
        obtain⟨_,_,u,h5,h6⟩:=h2 j (by omega)
        rw[Nat.zero_add,h5];exact h6) (fun b k i hi hb=>by
        have:=hr b k (1+i) (by omega) (by rw[← Nat.add_assoc];exact hb)
        rw[← Nat.add_assoc]at this;exact this) hok2 (fun p hp=>hO p (List.mem_cons_of_mem _ hp)) (fun p hp i hi=>by
        have:=hm p (List.mem_cons_of_mem _ hp) (i+1) (by omega)
        rw[this,hcell])
      have hO0:=hO _ List.mem_cons_self
      have hm0:=hm _ List.mem_cons_self 0 rfl
      dsimp only at hO0 hm0
      refine⟨?_,fun p hp=> ?_⟩
      ·show AV O' objs' m' w v (.ptr id 0)
       refine⟨by rw[h1];rfl,?_⟩
       show match (Ai objs' id).map Obj.shp with | some .box=>_ | _=>True
       rw[hO0]
       exact⟨b,base,by rw[hm0];exact h1,h1⟩
      ·rcases List.mem_cons.1 hp with rfl | hp
       ·refine⟨b,base,by rw[hm0];exact h1,fun j hj=> ?_⟩
        have hj:j<(Bg (id+1) ks cs 0).2.1.length:=hj
        rw[g1]at hj
        obtain⟨a1,a2,u,a3,_⟩:=h2 j (by omega)
        have:=g2 j hj
        rw[Nat.zero_add,a3]at this
        exact⟨by have:=hr b (base+j) 0 (by omega) a1;exact this,a2,u,a3,this⟩
       ·exact(g3 p hp).1
    | _=>simp [A.Ai7]at hok1
  | map kt vt =>
    simp only[back]at hok hO hm ⊢
    obtain⟨l,rfl,_,_⟩:=Ze hok.cons.1
    have hO0:=hO _ List.mem_cons_self
    have hm0:=hm _ List.mem_cons_self 0 rfl
    dsimp only at hO0 hm0
    have hm0:m' id=v:=hm0
    have h:FB Oc w cid v l:=h
    have h2:FB O' w id v l:=h.carry hp (fun b k hb=>hr b k 0 (by omega) hb)
    refine⟨?_,fun p hp=> ?_⟩
    ·show AV O' objs' m' w v (.own id)
     refine⟨by obtain⟨r,_,_,h1,_⟩:=h;rw[h1];rfl,?_⟩
     rw[hO0]
     exact hm0.symm
    ·obtain rfl:p=(id,.mp l):=List.mem_singleton.1 hp
     show FB O' w id (m' id) l
     rw[hm0];exact h2
end
end Go.Proofs.YtadefjgbcapakaaGreatDoor.Vm
namespace Go.Proofs.YtadefjgbcapakaaGreatDoor.Vm
open Classical
def Ao0 (k:Nat):Nat:=256000+256*k
def Aac:A→A
  | .agg cs=>.box cs
  | a=>a
def CV:List Sh→Nat→List Nat
  | [],_=>[]
  | s::ss,i=>bif BN s then i::CV ss (i+1)else CV ss (i+1)
structure Came (O:Own) (w:World) (vs:Array Value) (sg:Sig) (rs:List A) (v:Value) (O':Own) (w':World):Prop where
  moves:Moves O (fun o=>o≠255) w w'
  less: ∀ b k,b<w.heap.size→O' b k≠none→O b k≠none
  WN: ∀ b k,b<w.heap.size→O b k=some 255→O' b k=some 255
  count:rs.length=sg.AL.length+(CV sg.Ah 0).length
  res: ∃ us:Array Value,us.size=sg.AL.length∧v=(if h:us.size=1 then us[0]else .tuple us)∧ ∀ k,k<us.size→IR O' w' (Ao0 k) (us.getD k undef) (rs.getD k .undef)
  boxes: ∀ j i,(CV sg.Ah 0)[j]? =some i→IR O' w' (256*i) (vs.getD i undef) (Aac (rs.getD (sg.AL.length+j) .undef))
def Spec (P:Program) (f:FuncId) (sg:Sig):Prop :=
  (∀ args w,(callFunc f args).run P w= .ok (.enter f args) w) ∧
  ∀(O:Own) (w:World) (vs:Array Value) (xs rs:List A),Inv O w→vs.size=xs.length→xs.length=sg.Ah.length→xs.length≤100→(∀ j,j<xs.length→IR O w (256*j) (vs.getD j undef) (xs.getD j .undef))→sg.F xs=some rs →
   Calls P f vs w fun e w'=> ∃ v O',e= .returned v∧Came O w vs sg rs v O' w'
section
variable {P:Program} {C:Ctx} {V0:Nat→Value} {O0 O:Own} {w0 w:World} {m:Nat→Value} {st:St} {a:Act} {o:Oper}
def OD (w:World) (f:Nat→Value) (id stride:Nat):List Sh→List A→Nat→List (Nat×Value)
  | [],_,_=>[]
  | s::ss,rs,j=>(back (id+stride*j) s (rs.getD j .undef)).2.2.map (fun p=>(p.1,Gf w (f j) (p.1 - (id+stride*j))))++OD w f id stride ss rs (j+1)
theorem AhO (w:World) (f:Nat→Value) (id stride:Nat): ∀(ss:List Sh) (rs:List A) (j:Nat),(OD w f id stride ss rs j).map (·.1)=(BL id stride ss rs j).2.2.map (·.1):=by
  intro ss
  induction ss with
  | nil=>intro rs j;rfl
  | cons s ss ih=>intro rs j;simp [OD,BL,ih]
theorem Akg {k:CK} {c:A} (hp:k.plain=true) (h:AA (force k c).1):(force k c).2.isVal=true:=by
  cases k<;>first
    | (cases hp;done)
    | (have h1:=h.cons.1;cases c<;>first | rfl | (cases h1;done))
theorem wY {Oc O':Own} {objs':List (Nat×Obj)} {m':Nat→Value} {cid cst id stride:Nat} {f:Nat→Value} {rs:List A} (hp:Ep Oc w O' w) (hn: ∀ b k,Oc b k=none→O' b k=none): ∀(ss:List Sh) (j0:Nat),
    (∀ j,j<ss.length→IR Oc w (cid+cst*(j0+j)) (f (j0+j)) (rs.getD (j0+j) .undef))→(∀ j,j<ss.length→ ∀ b k i,i<255→Oc b k=some (cid+cst*(j0+j)+i)→O' b k=some (id+stride*(j0+j)+i)) →
    AA (BL id stride ss rs j0).1→(∀ p∈(BL id stride ss rs j0).2.2,Ai objs' p.1=some p.2)→(∀ p∈OD w f id stride ss rs j0,m' p.1=p.2) →
    (BL id stride ss rs j0).2.1.length=ss.length∧(∀ j,j<ss.length→AB O' objs' m' w (f (j0+j)) ((BL id stride ss rs j0).2.1.getD j .undef)∧((BL id stride ss rs j0).2.1.getD j .undef).isVal=true) ∧
      ∀ p∈(BL id stride ss rs j0).2.2,Dc O' objs' m' w p.1 p.2:=by
  intro ss
  induction ss with
  | nil=>intro j0 _ _ _ _ _;exact⟨rfl,fun j hj=>by simp at hj,fun p hp=>by simp [BL]at hp⟩
  | cons s ss ih =>
    intro j0 h hr hok hO hm
    simp only[BL]at hok hO ⊢
    simp only[OD]at hm
    obtain⟨hok1,hok2⟩:=hok.append
    obtain⟨g1,g2,g3⟩:=ih (j0+1) (fun j hj=>by have:=h (j+1) (by simpa using hj);rwa [show j0+(j+1)=j0+1+j from by omega]at this)
      (fun j hj=>by have:=hr (j+1) (by simpa using hj);rwa [show j0+(j+1)=j0+1+j from by omega]at this) hok2 (fun p hp=>hO p (List.mem_append_right _ hp)) (fun p hp=>hm p (List.mem_append_right _ hp))
    have h0:=h 0 (by simp)
    have hr0:=hr 0 (by simp)
    rw[Nat.add_zero]at h0 hr0
    obtain⟨k1,k2⟩:=AjD (id:=id+stride*j0) (m':=m') (objs':=objs') hp hn h0 hr0 hok1 (fun p hp=>hO p (List.mem_append_left _ hp)) (fun p hp i hi=>by
      have:=hm (p.1,Gf w (f j0) (p.1 - (id+stride*j0))) (List.mem_append_left _ (List.mem_map.2 ⟨p,hp,rfl⟩))
      rw[this,hi,Nat.add_sub_cancel_left])
    refine⟨by simp [g1],fun j hj=> ?_,fun p hp=> ?_⟩
    ·cases j with
     | zero =>
       refine⟨k1,?_⟩
       show((back (id+stride*j0) s (rs.getD j0 .undef)).2.1).isVal=true
       cases s with
       | agg ks=>rfl
       | box ks=>rfl
       | map kt vt=>rfl
       | cell u' k =>
         have hpl:k.plain=true:=by
           simp only[back]at hok1
           exact hok1.append.2.cons.1
         cases u' with
         | true=>cases k<;>first | (cases hpl;done) | rfl | (exfalso;have:=hok1 false (by simp [back,Bg]);cases this)
         | false =>
           have hf:AA (force k (rs.getD j0 .undef)).1:=by
             have h1:=hok1
             simp only[back,Bg]at h1
             exact h1.append.1.append.1
           show(force k (rs.getD j0 .undef)).2.isVal=true
           exact Akg hpl hf
     | succ j =>
       have:=g2 j (by simpa using hj)
       rw[show j0+(j+1)=j0+1+j from by omega]
       simpa using this
    ·rcases List.mem_append.1 hp with hp | hp
     ·exact k2 p hp
     ·exact g3 p hp
def look (N:List (Nat×Nat)) (q:Nat):Option Nat:=(N.find? (fun p=>p.1==q)).map (·.2)
theorem Afm {N:List (Nat×Nat)} (hnd:nodup (N.map (·.1))=true): ∀ p∈N,look N p.1=some p.2:=by
  induction N with
  | nil=>intro p hp;cases hp
  | cons q N ih =>
    intro p hp
    simp only[List.map_cons,nodup,Bool.and_eq_true,Bool.not_eq_true']at hnd
    unfold look
    rcases List.mem_cons.1 hp with rfl | hp
    ·simp
    ·have hne:q.1≠p.1:=fun e=>by
       have:has (N.map (·.1)) q.1=true:=H7.2 (List.mem_map.2 ⟨p,hp,e.symm⟩)
       rw[this]at hnd;cases hnd.1
     rw[List.find?_cons_of_neg (by simpa using hne)]
     exact ih hnd.2 p hp
theorem jB {N:List (Nat×Nat)} {q i:Nat} (h:look N q=some i):(q,i)∈N:=by
  unfold look at h
  cases hf:N.find? (fun p=>p.1==q)with
  | none=>rw[hf]at h;cases h
  | some p =>
    rw[hf]at h
    injection h with h
    have h1:=List.find?_some hf
    have h2:=List.mem_of_find?_eq_some hf
    have:p.1=q:=by simpa using h1
    rw[← this, ←h];exact h2
def Zk (N:List (Nat×Value)) (q:Nat):Option Value:=(N.find? (fun p=>p.1==q)).map (·.2)
theorem Aky {N:List (Nat×Value)} (hnd:nodup (N.map (·.1))=true): ∀ p∈N,Zk N p.1=some p.2:=by
  induction N with
  | nil=>intro p hp;cases hp
  | cons q N ih =>
    intro p hp
    simp only[List.map_cons,nodup,Bool.and_eq_true,Bool.not_eq_true']at hnd
    unfold Zk
    rcases List.mem_cons.1 hp with rfl | hp
    ·simp
    ·have hne:q.1≠p.1:=fun e=>by
       have:has (N.map (·.1)) q.1=true:=H7.2 (List.mem_map.2 ⟨p,hp,e.symm⟩)
       rw[this]at hnd;cases hnd.1
     rw[List.find?_cons_of_neg (by simpa using hne)]
     exact ih hnd.2 p hp
theorem AiH {N:List (Nat×Value)} {q:Nat} (h:q∉N.map (·.1)):Zk N q=none:=by
  unfold Zk
  rw[List.find?_eq_none.2 (fun p hp=>by simp;exact fun e=>h (List.mem_map.2 ⟨p,hp,e⟩))]
  rfl
theorem AB.Aoi {Aa:List (Nat×Obj)} {v:Value} {x:A} (h:AB O Aa m w v x) (hv:x.isVal=true):T1 O Aa m w v x:=by cases x<;>first | (cases hv;done) | exact h
theorem UE {fet:Fet}: ∀(ks:List (Bool×CK)) (cs:List A) (id:Nat),AA (AQ fet ks cs).1→ ∀ p∈Ed id ks cs,(∃ e f l,Ai fet p.1=some (.arr e f l))∧ ∃ x,x<ks.length∧p.2=id+x:=by
  intro ks
  induction ks with
  | nil=>intro cs id _ p hp;cases cs<;>simp [Ed]at hp
  | cons k ks ih =>
    intro cs id hok p hp
    obtain⟨u,k⟩:=k
    cases cs with
    | nil=>cases u<;>simp [Ed]at hp
    | cons c cs =>
      have step:AA (AQ fet ks cs).1→p∈Ed (id+1) ks cs→(∃ e f l,Ai fet p.1=some (.arr e f l))∧ ∃ x,x<((u,k)::ks).length∧p.2=id+x:=by
        intro h1 h2
        obtain⟨h3,x,h4,h5⟩:=ih cs (id+1) h1 p h2
        exact⟨h3,x+1,by simpa using h4,by omega⟩
      cases u with
      | false =>
        have hnm:Ed id ((false,k)::ks) (c::cs)=Ed (id+1) ks cs:=by cases c<;>rfl
        rw[hnm]at hp
        simp only[AQ]at hok
        exact step hok.append.2 hp
      | true =>
        cases k with
        | sl e sz =>
          cases c with
          | own q =>
            simp only[AQ]at hok
            cases hg:Ai fet q with
            | none=>rw[hg]at hok;have:=hok false (by simp);cases this
            | some y =>
              cases y with
              | box _=>rw[hg]at hok;have:=hok false (by simp);cases this
              | mp _=>rw[hg]at hok;have:=hok false (by simp);cases this
              | arr e' fz l =>
                rw[hg]at hok
                simp only[Ed]at hp
                rcases List.mem_cons.1 hp with rfl | hp
                ·exact⟨⟨_,_,_,hg⟩,0,by simp,rfl⟩
                ·exact step hok.append.2 hp
          | CJ =>
            simp only[AQ]at hok
            exact step hok hp
          | _=>have:=hok false (by simp [AQ]);cases this
        | _=>have:=hok false (by simp [AQ]);cases this
theorem Afv {fet:Fet} {s:Sh} {x:A} {id:Nat} (hok:AA (Bi fet s x).ok): ∀ p∈GN fet id s x,(Ai fet p.1).isSome∧ ∃ i,p.2=id+i∧(i<202∨(∃ ks,s= .agg ks)):=by
  intro p hp
  cases s with
  | cell u k =>
    simp only[GN]at hp
    have hh:AA (AQ fet [(u,k)] [x]).1:=by
      unfold Bi at hok
      dsimp only at hok
      generalize AQ fet [(u,k)] [x]=r at *
      obtain⟨ok,cs,upd,del⟩:=r
      cases cs with
      | nil=>have:=hok false (by simp);cases this
      | cons c cs =>
        cases cs with
        | nil=>exact hok
        | cons _ _=>have:=hok false (by simp);cases this
    obtain⟨⟨e,f,l,h1⟩,i,h2,h3⟩:=UE _ _ _ hh p hp
    exact⟨by rw[h1];rfl,i,h3,.inl (by simp at h2;omega)⟩
  | agg ks =>
    cases x with
    | agg cs =>
      simp only[GN]at hp
      obtain⟨⟨e,f,l,h1⟩,i,h2,h3⟩:=UE _ _ _ (show AA (AQ fet ks cs).1 from hok) p hp
      exact⟨by rw[h1];rfl,1+i,by omega,.inr ⟨ks,rfl⟩⟩
    | _=>cases hp
  | box ks =>
    cases x with
    | ptr q off =>
      simp only[GN]at hp
      unfold Bi at hok
      dsimp only at hok
      cases hg:MK fet q with
      | none=>rw[hg]at hok;have:=hok false (by simp);cases this
      | some cs =>
        rw[hg]at hok hp
        dsimp only at hok hp
        obtain⟨_,hokA⟩:=hok.cons
        obtain⟨hf,hokB⟩:=hokA.cons
        have hf:=Nat.le_of_ble_eq_true hf
        rcases List.mem_cons.1 hp with rfl | hp
        ·exact⟨by rw[Gv hg];rfl,0,rfl,.inl (by omega)⟩
        ·obtain⟨⟨e,f,l,h1⟩,i,h2,h3⟩:=UE _ _ _ hokB p hp
         exact⟨by rw[h1];rfl,1+i,by omega,.inl (by omega)⟩
    | _=>cases hp
  | map kt vt =>
    cases x with
    | own q =>
      obtain rfl:p=(q,id):=by simpa [GN]using hp
      unfold Bi at hok
      dsimp only at hok
      cases hg:Ai fet q with
      | none=>rw[hg]at hok;have:=hok false (by simp);cases this
      | some y=>exact⟨rfl,0,rfl,.inl (by omega)⟩
    | _=>cases hp
theorem Sz {fet:Fet} {stride:Nat}: ∀(ss:List Sh) (xs:List A) (id:Nat),AA (AX fet ss xs).1→ ∀ p∈DZ fet id stride ss xs,(Ai fet p.1).isSome:=by
  intro ss
  induction ss with
  | nil=>intro xs id _ p hp;cases xs<;>simp [DZ]at hp
  | cons s ss ih =>
    intro xs id hok p hp
    cases xs with
    | nil=>simp [DZ]at hp
    | cons x xs =>
      simp only[AX]at hok
      obtain⟨h1,h2⟩:=hok.append
      rcases List.mem_append.1 hp with hp | hp
      ·exact(Afv h1 p hp).1
      ·exact ih xs _ h2 p hp
theorem Moves.Anv {ρ :Nat→Option Nat} {w w':World} (h:Moves (F9 O ρ) (fun o=>o≠255) w w'):Moves O (fun o=> ∃ i,ρ o=some i) w w':=by
  refine⟨h.os,h.tape,h.output,h.size,fun b hb=> ?_⟩
  have un: ∀ k i,F9 O ρ b k=some i→i≠255→ ∃ q,O b k=some q∧ ∃ i,ρ q=some i:=by
    intro k i hr hne
    unfold F9 at hr
    cases hO:O b k with
    | none=>rw[hO]at hr;cases hr
    | some q =>
      rw[hO]at hr
      dsimp only at hr
      cases hρ : ρ q with
      | none=>rw[hρ]at hr;injection hr with hr;exact absurd hr.symm hne
      | some j=>exact⟨q,rfl,j,hρ⟩
  rcases h.blk b hb with he | ⟨c,c',e,fr,h1,h2,h3,h4,k,q,h5,h6,h7⟩ | ⟨es,ck,es',ck',q,h1,h2,h3,h4⟩
  ·exact .inl he
  ·refine .inr (.inl ⟨c,c',e,fr,h1,h2,h3,fun k hk=>h4 k (fun i hi hne=> ?_),k,?_⟩)
   ·obtain⟨q,hq,hρ⟩:=un k i hi hne
    exact hk q hq hρ
   ·obtain⟨q',hq',hρ⟩:=un k q h6 h7
    exact⟨q',h5,hq',hρ⟩
  ·obtain⟨q',hq',hρ⟩:=un 0 q h3 h4
   exact .inr (.inr ⟨es,ck,es',ck',q',h1,h2,hq',hρ⟩)
end
