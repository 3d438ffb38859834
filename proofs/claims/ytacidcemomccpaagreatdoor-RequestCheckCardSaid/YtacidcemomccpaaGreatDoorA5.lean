import Derived.Test.YtacidcemomccpaaGreatDoorA4
import Derived.Calls
set_option linter.all false
namespace Go.Proofs.YtacidcemomccpaaGreatDoor.Vm
open Classical
section
variable {P:Program} {C:Ctx} {V0:Nat->Value} {O0 O:Own} {w0 w:World} {m:Nat->Value} {st:St} {a:Act} {o:Oper}
def AlD {W:Prop} {fet:Fet} (hf:P8 st.Jr fet) {s:Sh} {x:A} {v:Value} {id:Nat} (hW:wS s=true->W) (hx:JC O st.Jr m w v x) (hS: ∀ q y,J3 st.Jr q=some y->Lm O st.Jr m w q y) (hok:J6 (JY fet s x).ok) :
 Frz st.Jr (JY fet s x).upd/\(∀ q∈(JY fet s x).del++(JY fet s x).boxes.map (·.1),q∈(OM fet id s x).map (·.1))/\(∀ q∈(OM fet id s x).map (·.1),q∈(JY fet s x).del++(JY fet s x).boxes.map (·.1)) /\
 (KE s=true↔(JY fet s x).boxes≠ []) /\
 ∀ {O':Own} {objs':List (Nat×Obj)} {ρ :Nat->Option Nat},Nz O w O' w->(∀ p∈(JY fet s x).upd,∀ e l,p.2= .arr e true l->J5 O' w (m p.1) (.sl l)) ->
  (∀ p∈(JY fet s x).upd,Lm O' objs' m w p.1 p.2)->(∀ b k q,O b k=some q->(NR st.Jr q\/W)->O' b k=some q)->(∀ p∈OM fet id s x,ρ p.1=some p.2) ->
  IR (O5 O' ρ) w id v (JY fet s x).a:=by
 cases s with
 | cell u k =>
  unfold JY at *
  dsimp only at hok ⊢
  have hall: ∀ hc:JG O st.Jr m w v x,_:=λhc=>Wu hf hS [(u,k)] [x] id (λ_=>v) (λh=>hW (by rw[List.any_cons,List.any_nil,EO]at h;exact h)) (λj hj=>by
   have:j=0:=by simpa using hj
   subst this;exact hc)
  have hnc: ∀(h:J6 (J8 fet [(u,k)] [x]).1),JG O st.Jr m w v x:=by
   intro h;cases x with
   | undef=>cases u<;>cases k<;>(have:=h false (by simp [J8,pur]);cases this)
   | agg _=>cases u<;>cases k<;>(have:=h false (by simp [J8,pur]);cases this)
   | tup _=>cases u<;>cases k<;>(have:=h false (by simp [J8,pur]);cases this)
   | cnd _ _=>cases u<;>cases k<;>(have:=h false (by simp [J8,pur]);cases this)
   | _=>exact hx
  generalize hh:J8 fet [(u,k)] [x]=r at *
  obtain⟨ok,cs,upd,del⟩:=r;cases cs with
  | nil=>have:=hok false (by simp);cases this
  | cons c cs =>
   cases cs with
   | cons _ _=>have:=hok false (by simp);cases this
   | nil =>
    dsimp only at hok ⊢;obtain⟨h1,h2,h3,h4,h5⟩:=hall (hnc hok) hok;have h4:del=(LK id [(u,k)] [x]).map (·.1):=h4;refine⟨h3,λq hq=> ?_,λq hq=> ?_,⟨(λh=>by cases h),λh=>absurd rfl h⟩,λ{O' objs' ρ} hp hv hO hbx hρ => ?_⟩
    .simp only[Fg,DT]at hq;rw[h4]at hq;exact hq
    .simp only[Fg,DT];rw[h4];exact hq
    .have:=h5 hp hv hO hbx hρ 0 (by simp);have e: [c].getD 0 .undef=c:=rfl;dsimp only at this;rw[e]at this;cases c<;>first | exact this | (obtain⟨b,base,e1,e2⟩:=this;exact⟨b,base,e1,λj hj=>let ⟨k1,k2,u,k3,k4⟩:=e2 j hj;⟨k1,k2,u,k3,k4.ic⟩⟩) | cases this
 | agg ks =>
  cases x with
  | agg cs =>
   unfold JY at *
   dsimp only at hok ⊢;obtain⟨vs,g1,g2,g3⟩:=hx;obtain⟨h1,h2,h3,h4,h5⟩:=Wu hf hS ks cs (id+1) (λj=>vs.getD j undef) hW g3 hok;refine⟨h3,λq hq=> ?_,λq hq=> ?_,⟨(λh=>by cases h),λh=>absurd rfl h⟩,λ{O' objs' ρ} hp hv hO hbx hρ => ?_⟩
   .simp only[Fg,DT]at hq;rw[h4]at hq;exact hq
   .simp only[Fg,DT];rw[h4];exact hq
   .exact⟨vs,g1,by rw[g2,h1,h2],λj hj=>h5 hp hv hO hbx hρ j (by rw[<- h1];exact hj)⟩
  | _=>have:=hok false (by simp [JY]);cases this
 | box ks =>
  cases x with
  | ptr q off =>
   unfold JY at *
   dsimp only at hok ⊢;cases hg:L8 fet q with
   | none=>rw[hg]at hok;have:=hok false (by simp);cases this
   | some cs =>
    rw[hg]at hok;dsimp only at hok ⊢;obtain⟨ho0,hokA⟩:=hok.cons;obtain⟨_,hokB⟩:=hokA.cons;have ho0:=Dx ho0;subst ho0;have hq:=hf q _ (Lj hg);obtain⟨b,base,g1,g2⟩:=hS q _ hq;have hv0:v= .pointer (some (at' b base)):=by have hc:JG O st.Jr m w v (.ptr q 0):=hx;have hc:=hc.2;all_goals grind[Obj.shp]
    let f:Nat->Value:=λj=>(w.cell? (at' b (base+j))).getD undef
    have hfc: ∀ j,j<cs.length->w.cell? (at' b (base+j))=some (f j)/\JG O st.Jr m w (f j) (cs.getD j .undef):=by
     intro j hj;obtain⟨_,_,u,h3,h4⟩:=g2 j hj;have:f j=u:=by show(w.cell? _).getD _=_;rw[h3];rfl
     rw[this];exact⟨h3,h4⟩
    obtain⟨h1,h2,h3,h4,h5⟩:=Wu hf hS ks cs (id+1) f hW (λj hj=>(hfc j hj).2) hokB;have hnames:OM fet id (.box ks) (.ptr q 0)=(q,id)::LK (id+1) ks cs:=by simp only[OM,hg]
    rw[hnames];refine⟨h3,λr hr=> ?_,λr hr=> ?_,⟨λ_=>by simp,λ_=>rfl⟩,λ{O' objs' ρ} hp hv hO hbx hρ => ?_⟩
    .simp only[Em,Fg,DN,Ec]at hr;rcases hr with hr | hr
     .rw[h4]at hr;exact Dz _ hr
     .rw[hr];exact Dy
    .simp only[Em,Fg,DN,Ec];rcases D7.1 hr with hr | hr
     .exact .inr hr
     .left;rw[h4];exact hr
    .refine⟨b,base,hv0,λj hj=> ?_⟩;rw[h1]at hj;obtain⟨k1,k2,u,k3,_⟩:=g2 j (by rw[h2];exact hj);refine⟨WI (hbx _ _ _ k1 (.inl (.of hq (λ_ _ _ h=>by cases h)))) (hρ (q,id) Dy),k2,f j,(hfc j (by rw[h2];exact hj)).1,h5 hp hv hO hbx (λp hp'=>hρ p (Dz _ hp')) j hj⟩
  | _=>have:=hok false (by simp [JY]);cases this
 | clo f' ks =>
  cases x with
  | clo g q =>
   unfold JY at *
   dsimp only at hok ⊢;cases hg:L8 fet q with
   | none=>rw[hg]at hok;have:=hok false (by simp);cases this
   | some cs =>
    rw[hg]at hok;dsimp only at hok ⊢;obtain⟨ho0,hokA⟩:=hok.cons;obtain⟨_,hokB⟩:=hokA.cons;have ho0:=Dx ho0;subst ho0;have hq:=hf q _ (Lj hg);obtain⟨b,base,g1,g2⟩:=hS q _ hq;have hv0:fB O w f' v (.pointer (some (at' b base))):=by have hc:JG O st.Jr m w v (.clo f' q):=hx;obtain⟨_,p,_,hc2,hc⟩:=hc;rw[hq]at hc;obtain⟨b',base',e1,e2⟩:=hc;rw[g1]at e1;rw[e1,<- e2];exact hc2
    let f:Nat->Value:=λj=>(w.cell? (at' b (base+j))).getD undef
    have hfc: ∀ j,j<cs.length->w.cell? (at' b (base+j))=some (f j)/\JG O st.Jr m w (f j) (cs.getD j .undef):=by
     intro j hj;obtain⟨_,_,u,h3,h4⟩:=g2 j hj;have:f j=u:=by show(w.cell? _).getD _=_;rw[h3];rfl
     rw[this];exact⟨h3,h4⟩
    obtain⟨h1,h2,h3,h4,h5⟩:=Wu hf hS ks cs (id+1) f hW (λj hj=>(hfc j hj).2) hokB;have hnames:OM fet id (.clo f' ks) (.clo f' q)=(q,id)::LK (id+1) ks cs:=by simp only[OM,hg]
    rw[hnames];refine⟨h3,λr hr=> ?_,λr hr=> ?_,⟨λ_=>by simp,λ_=>rfl⟩,λ{O' objs' ρ} hp hv hO hbx hρ => ?_⟩
    .simp only[Em,Fg,DN,Ec]at hr;rcases hr with hr | hr
     .rw[h4]at hr;exact Dz _ hr
     .rw[hr];exact Dy
    .simp only[Em,Fg,DN,Ec];rcases D7.1 hr with hr | hr
     .exact .inr hr
     .left;rw[h4];exact hr
    .refine⟨b,base,(hv0.Kr hp).Kr (WH ρ),λj hj=> ?_⟩;rw[h1]at hj;obtain⟨k1,k2,u,k3,_⟩:=g2 j (by rw[h2];exact hj);refine⟨WI (hbx _ _ _ k1 (.inl (.of hq (λ_ _ _ h=>by cases h)))) (hρ (q,id) Dy),k2,f j,(hfc j (by rw[h2];exact hj)).1,h5 hp hv hO hbx (λp hp'=>hρ p (Dz _ hp')) j hj⟩
  | _=>have:=hok false (by simp [JY]);cases this
 | map kt vt =>
  cases x with
  | own q =>
   unfold JY at *
   dsimp only at hok ⊢;cases hg:J3 fet q with
   | none=>rw[hg]at hok;have:=hok false (by simp);cases this
   | some y =>
    cases y with
    | box _=>rw[hg]at hok;have:=hok false (by simp);cases this
    | arr _ _ _=>rw[hg]at hok;have:=hok false (by simp);cases this
    | mp l =>
     rw[hg]at hok;dsimp only at hok ⊢;have hq:=hf q _ hg;have hv0:v=m q:=by have hc:JG O st.Jr m w v (.own q):=hx;have hc:=hc.2;rw[hq]at hc;exact hc
     refine⟨(λp hp=>by cases hp),λr hr=> ?_,λr hr=> ?_,⟨λ_=>by simp,λ_=>rfl⟩,λ{O' objs' ρ} hp hv hO hbx hρ => ?_⟩
     .simpa [OM]using hr
     .simpa [OM]using hr
     .obtain⟨r,es,ck,g1,g2,g3,g4,g5⟩:=(show QD O w q (m q) l from hS q _ hq)
      refine⟨r,es,ck,by rw[hv0];exact g1,g2,WI (hbx _ _ _ g3 (.inl (.of hq (λ_ _ _ h=>by cases h)))) (hρ (q,id) Dy),g4,λi p hip=> ?_⟩;obtain⟨e,k1,k2,k3⟩:=g5 i p hip;exact⟨e,k1,(k2.Kr hp).Kr (WH ρ),(k3.Kr hp).Kr (WH ρ)⟩
  | _=>have:=hok false (by simp [JY]);cases this
def dJ {W:Prop} {fet:Fet} (hf:P8 st.Jr fet) (hS: ∀ q y,J3 st.Jr q=some y->Lm O st.Jr m w q y) (stride:Nat): ∀(ss:List Sh) (xs:List A) (id:Nat) (f:Nat->Value),(ss.any wS=true->W)->(∀ j,j<xs.length->JC O st.Jr m w (f j) (xs.getD j .undef))->J6 (JM fet ss xs).1 ->
 (JM fet ss xs).2.1.length=ss.length/\xs.length=ss.length/\Frz st.Jr (JM fet ss xs).2.2.1 /\
 (∀ q,q∈(JM fet ss xs).2.2.2.1++(JM fet ss xs).2.2.2.2.map (·.1)↔q∈(NY fet id stride ss xs).map (·.1)) /\
 ∀ {O':Own} {objs':List (Nat×Obj)} {ρ :Nat->Option Nat},Nz O w O' w->(∀ p∈(JM fet ss xs).2.2.1,∀ e l,p.2= .arr e true l->J5 O' w (m p.1) (.sl l)) ->
  (∀ p∈(JM fet ss xs).2.2.1,Lm O' objs' m w p.1 p.2)->(∀ b k q,O b k=some q->(NR st.Jr q\/W)->O' b k=some q)->(∀ p∈NY fet id stride ss xs,ρ p.1=some p.2) ->
  ∀ j,j<ss.length->IR (O5 O' ρ) w (id+stride*j) (f j) ((JM fet ss xs).2.1.getD j .undef):=by
 intro ss
 induction ss with
 | nil =>
  intro xs id f _ _ hok;cases xs with
  | nil=>exact⟨rfl,rfl,(λp hp=>by simp [JM]at hp),(λq=>by simp [JM,NY]),λ_ _ _ _ _ j hj=>by simp at hj⟩
  | cons _ _=>have:=hok false (by simp [JM]);cases this
 | cons s ss ih =>
  intro xs id f hW h hok;cases xs with
  | nil=>have:=hok false (by simp [JM]);cases this
  | cons x xs =>
   simp only[JM]at hok ⊢;obtain⟨hok1,hok2⟩:=hok.append;obtain⟨h1,h2,h3,_,h4⟩:=AlD (id:=id) hf (λe=>hW (by rw[List.any_cons,e,DZ])) (h 0 (by simp)) hS hok1;obtain⟨g1,g2,g3,g4,g5⟩:=ih xs (id+stride) (λj=>f (j+1)) (λe=>hW (by rw[List.any_cons,e,EP])) (λj hj=>by simpa using h (j+1) (by simpa using hj)) hok2;refine⟨by simp [g1],by simp [g2],h1.append g3,λq=> ?_,λ{O' objs' ρ} hp hv hO hbx hρ j hj=> ?_⟩
   .grind[NY,a1,a2,a3]
   .cases j with
    | zero=>simpa using h4 hp (λp hp=>hv p (DJ _ hp)) (λp hp=>hO p (DJ _ hp)) hbx (λp hp=>hρ p (DJ _ hp))
    | succ j =>have:=g5 hp (λp hp=>hv p (DF _ hp)) (λp hp=>hO p (DF _ hp)) hbx (λp hp=>hρ p (DF _ hp)) j (by simpa using hj);rw[show id+stride*(j+1)=id+stride+stride*j from by rw[AzR];omega];simpa using this
end
def Axx:Value->Value
 | .func g fi caps=>caps.getD 0 (.func g fi caps)
 | v=>v
def deref (w:World):Value->Value
 | .pointer (some a)=>(w.cell? a).getD undef
 | _=>undef
def innerS (w:World):Sh->Value->Value
 | .clo _ _,v=>deref w (Axx v)
 | _,v=>v
def fB.inner {O:Own} {w:World} {k:Nat} {v p:Value} {ks:List (Bool×CK)} (h:fB O w k v p):innerS w (.clo k ks) v=p:=by obtain⟨b,j,h1,_,h3⟩:=h;rw[h1];cases k<;>(show(w.cell? _).getD _=_;rw[h3];rfl)
def N7 (w:World) (v:Value):Nat->Value
 | 0=>v
 | x+1=>match v with
  | .agg vs=>vs.getD x undef
  | .pointer (some a)=>(w.cell? (at' a.block (a.off+x))).getD undef
  | _=>undef
section
variable {Oc O':Own} {w:World} {objs':List (Nat×Obj)} {m':Nat->Value}
def Lm.carry {Jr:List (Nat×Obj)} {m:Nat->Value} {c i e:Nat} {z:Bool} {l:Sl} (h:Lm Oc Jr m w c (.arr e z l)) (hp:Nz Oc w O' w) (hr: ∀ b k,Oc b k=some c->O' b k=some i) (hn: ∀ b k,Oc b k=none->O' b k=none) (hm:m' i=m c) :
 Lm O' objs' m' w i (.arr e z l):=by
 refine⟨h.1,?_⟩;rcases h.2 with ⟨h1,h2,h3⟩ | ⟨h1,g,cap,cur,h2,h3,h4,h5,h6,h7,h8,h9⟩
 .grind[Obj,Lm,Nz]
 .refine .inr ⟨h1,g,cap,cur,by rw[hm];exact h2,h3,h4,h5,h6,λr j hr' hj=> ?_,λk hk hge=>hr _ _ (h8 k hk hge),λk hk=> ?_⟩
  .obtain⟨u,h10,h11⟩:=h7 r j hr' hj;exact⟨u,h10,h11.Kr hp⟩
  .grind[Obj,Lm,Nz]
def QD.carry {c i:Nat} {v:Value} {l:Mp} (h:QD Oc w c v l) (hp:Nz Oc w O' w) (hr: ∀ b k,Oc b k=some c->O' b k=some i):QD O' w i v l:=by obtain⟨r,es,ck,h1,h2,h3,h4,h5⟩:=h;refine⟨r,es,ck,h1,h2,hr _ _ h3,h4,λj p hj=> ?_⟩;obtain⟨e,k1,k2,k3⟩:=h5 j p hj;exact⟨e,k1,k2.Kr hp,k3.Kr hp⟩
def uZ {kt vt:Ty} {a:A} (h:a.uY kt vt=true): ∃ l,a= .ump l/\l.kt=kt/\l.vt=vt:=by
 cases a with
 | ump l =>have h':(decide (l.kt=kt)&&decide (l.vt=vt))=true:=h;all_goals grind[Ty]
 | _=>cases h
def J5.toC {v:Value} {a:A} (h:J5 O' w v a):JG O' objs' m' w v a:=by cases a<;>first | exact h | (cases h;done)
def An7 {id:Nat} {k:CK} {v:Value} {c:A} (h:IC Oc w id v c) (hp:Nz Oc w O' w) (hok:J6 (force k c).1):JG O' objs' m' w v (force k c).2:=by
 cases c with
 | box cs =>
  cases k with
  | oth=>obtain⟨b,base,h1,_⟩:=h;rw[h1];rfl
  | mp _ _=>have:=hok.cons.1;cases this
  | bx _=>have:=hok.cons.1;cases this
  | _=>have:=hok.cons.1;simp [A.isB,A.isI,A.isS,A.Ahp,A.Aca,A.qR,A.isFn]at this
 | usl z e l =>
  cases k with
  | oth =>
   rcases h.2 with ⟨_,_,h3⟩ | ⟨_,g,cap,cur,h2,_⟩
   .show v.oneCell'=true;have h3:v=_:=h3;rw[h3];rfl
   .show v.oneCell'=true;have h2:v=_:=h2;rw[h2];rfl
  | mp _ _=>have:=hok.cons.1;cases this
  | bx _=>have:=hok.cons.1;cases this
  | _=>have:=hok.cons.1;simp [A.isB,A.isI,A.isS,A.Ahp,A.Aca,A.qR,A.isFn]at this
 | _=>exact Aat (J5.Kr hp h) hok
def TG {cid id:Nat} {f:Nat->Value} (hp:Nz Oc w O' w) (hn: ∀ b k,Oc b k=none->O' b k=none): ∀(ks:List (Bool×CK)) (cs:List A) (j0:Nat),(∀ j,j<ks.length->IC Oc w (cid+(j0+j)) (f (j0+j)) (cs.getD (j0+j) .undef)) ->
 (∀ b k x,x<j0+ks.length->Oc b k=some (cid+x)->O' b k=some (id+x))->J6 (JP id ks cs j0).1->(∀ p∈(JP id ks cs j0).2.2,J3 objs' p.1=some p.2)->(∀ p∈(JP id ks cs j0).2.2,∀ x,p.1=id+x->m' p.1=f x) ->
 (JP id ks cs j0).2.1.length=ks.length/\(∀ j,j<ks.length->JG O' objs' m' w (f (j0+j)) ((JP id ks cs j0).2.1.getD j .undef))/\ ∀ p∈(JP id ks cs j0).2.2,Lm O' objs' m' w p.1 p.2/\ ∃ x,p.1=id+x/\j0<=x/\x<j0+ks.length:=by
 intro ks
 induction ks with
 | nil=>intro cs j0 _ _ _ _ _;exact⟨rfl,λj hj=>by simp at hj,λp hp=>by simp [JP]at hp⟩
 | cons k ks ih =>
  intro cs j0 h hr hok hO hm;obtain⟨u,k⟩:=k;have h0:=h 0 (by simp);rw[Nat.add_zero]at h0;have hrest:=λhok2 hO2 hm2=>ih cs (j0+1) (λj hj=>by have:=h (j+1) (by simpa using hj);rwa [show j0+(j+1)=j0+1+j from by omega]at this) (λb k x hx=>hr b k x (by simp only[List.length_cons];omega)) hok2 hO2 hm2;cases u with
  | false =>
   simp only[JP]at hok hO hm ⊢;obtain⟨hok1,hok2⟩:=hok.append;obtain⟨g1,g2,g3⟩:=hrest hok2 hO hm;refine⟨by simp [g1],λj hj=> ?_,λp hp=> ?_⟩
   .cases j with
    | zero=>exact An7 h0 hp hok1
    | succ j =>have:=g2 j (by simpa using hj);rw[show j0+(j+1)=j0+1+j from by omega];simpa using this
   .obtain⟨a1,x,a2,a3,a4⟩:=g3 p hp;exact⟨a1,x,a2,by omega,by simp only[List.length_cons];omega⟩
  | true =>
   cases k with
   | sl e sz =>
    simp only[JP]at hok hO hm ⊢;obtain⟨hok1,hok2⟩:=hok.cons;obtain⟨g1,g2,g3⟩:=hrest hok2 (λp hp=>hO p (Dz _ hp)) (λp hp=>hm p (Dz _ hp));have hO0:=hO _ Dy;have hm0:=hm _ Dy j0 rfl;dsimp only at hO0 hm0
    have hc:cs.getD j0 .undef= .usl true e (cs.getD j0 .undef).toL:=by
     generalize cs.getD j0 .undef=c at *
     cases c<;>simp only[A.Af7]at hok1<;>first | (cases hok1;done) | skip
     simp only[Dw,F8]at hok1;rw[Dx hok1.2.1,<- hok1.1];rfl
    rw[hc]at h0;have hor:Lm O' objs' m' w (id+j0) (.arr e true (cs.getD j0 .undef).toL):=Lm.carry (show Lm Oc [] (λ_=>f j0) w (cid+j0) _ from h0) hp (λb k hbk=>hr b k j0 (by simp) hbk) hn hm0;refine⟨by simp [g1],λj hj=> ?_,λp hp=> ?_⟩
    .cases j with
     | zero =>
      have hone:(f j0).oneCell'=true:=by
       rcases h0.2 with ⟨_,_,h3⟩ | ⟨_,g,cap,cur,h2,_⟩
       .have h3:f j0=_:=h3;rw[h3];rfl
       .have h2:f j0=_:=h2;rw[h2];rfl
      refine⟨hone,?_⟩;show match (J3 objs' (id+j0)).map Obj.shp with | some (.arr _ _)=>_ | some .mp=>_ | _=>True
      rw[hO0];exact hm0.symm
     | succ j =>have:=g2 j (by simpa using hj);rw[show j0+(j+1)=j0+1+j from by omega];simpa using this
    .rcases D7.1 hp with rfl | hp
     .exact⟨hor,j0,rfl,DD _,by simp⟩
     .obtain⟨a1,x,a2,a3,a4⟩:=g3 p hp;exact⟨a1,x,a2,by omega,by simp only[List.length_cons];omega⟩
   | sln e sz =>
    simp only[JP]at hok hO hm ⊢;obtain⟨hok1,hok2⟩:=hok.cons;obtain⟨g1,g2,g3⟩:=hrest hok2 (λp hp=>hO p (Dz _ hp)) (λp hp=>hm p (Dz _ hp));have hO0:=hO _ Dy;have hm0:=hm _ Dy j0 rfl;dsimp only at hO0 hm0
    have hc:cs.getD j0 .undef= .usl false e (cs.getD j0 .undef).toL:=by
     generalize cs.getD j0 .undef=c at *
     cases c<;>simp only[A.Af7]at hok1<;>first | (cases hok1;done) | skip
     simp only[Dw,F8]at hok1;rw[Dx hok1.2.1,<- hok1.1];rfl
    rw[hc]at h0;have hor:Lm O' objs' m' w (id+j0) (.arr e false (cs.getD j0 .undef).toL):=Lm.carry (show Lm Oc [] (λ_=>f j0) w (cid+j0) _ from h0) hp (λb k hbk=>hr b k j0 (by simp) hbk) hn hm0;refine⟨by simp [g1],λj hj=> ?_,λp hp=> ?_⟩
    .cases j with
     | zero =>
      have hone:(f j0).oneCell'=true:=by
       rcases h0.2 with ⟨_,_,h3⟩ | ⟨_,g,cap,cur,h2,_⟩
       .have h3:f j0=_:=h3;rw[h3];rfl
       .have h2:f j0=_:=h2;rw[h2];rfl
      refine⟨hone,?_⟩;show match (J3 objs' (id+j0)).map Obj.shp with | some (.arr _ _)=>_ | some .mp=>_ | _=>True
      rw[hO0];exact hm0.symm
     | succ j =>have:=g2 j (by simpa using hj);rw[show j0+(j+1)=j0+1+j from by omega];simpa using this
    .rcases D7.1 hp with rfl | hp
     .exact⟨hor,j0,rfl,DD _,by simp⟩
     .obtain⟨a1,x,a2,a3,a4⟩:=g3 p hp;exact⟨a1,x,a2,by omega,by simp only[List.length_cons];omega⟩
   | bx t =>
    simp only[JP]at hok hO hm ⊢;obtain⟨hok1,hok2⟩:=hok.cons;obtain⟨g1,g2,g3⟩:=hrest hok2 (λp hp=>hO p (Dz _ hp)) (λp hp=>hm p (Dz _ hp));have hO0:=hO _ Dy;have hm0:=hm _ Dy j0 rfl;dsimp only at hO0 hm0;generalize cs.getD j0 .undef=c at *
    cases c with
    | box ds =>
     obtain⟨b,base,e1,e2⟩:=h0;refine⟨by simp [g1],λj hj=> ?_,λp hp=> ?_⟩
     .cases j with
      | zero =>
       refine⟨by rw[Nat.add_zero,e1];rfl,?_⟩;show match (J3 objs' (id+j0)).map Obj.shp with | some .box=>_ | _=>True
       rw[hO0];exact⟨b,base,by rw[hm0];exact e1,e1⟩
      | succ j =>have:=g2 j (by simpa using hj);rw[show j0+(j+1)=j0+1+j from by omega];simpa using this
     .rcases D7.1 hp with rfl | hp
      .refine⟨⟨b,base,by rw[hm0];exact e1,λj hj=> ?_⟩,j0,rfl,DD _,by simp⟩;obtain⟨a1,a2,u,a3,a4⟩:=e2 j hj;exact⟨hr _ _ _ (by simp) a1,a2,u,a3,(J5.Kr ‹_› a4).toC⟩
      .obtain⟨a1,x,a2,a3,a4⟩:=g3 p hp;exact⟨a1,x,a2,by omega,by simp only[List.length_cons];omega⟩
    | _=>cases hok1
   | _=>have:=hok false (by simp [JP]);cases this
def ArY {cid id:Nat} {s:Sh} {x:A} {v:Value} (hp:Nz Oc w O' w) (hn: ∀ b k,Oc b k=none->O' b k=none) (h:IR Oc w cid v x) (hr: ∀ b k i,i<255->Oc b k=some (cid+i)->O' b k=some (id+i))
 (hok:J6 (back id s x).1) (hO: ∀ p∈(back id s x).2.2,J3 objs' p.1=some p.2) (hm: ∀ p∈(back id s x).2.2,∀ i,p.1=id+i->m' p.1=N7 w (innerS w s v) i) :
 JC O' objs' m' w v (back id s x).2.1/\ ∀ p∈(back id s x).2.2,Lm O' objs' m' w p.1 p.2:=by
 cases s with
 | cell u k =>
  simp only[back]at hok hO hm ⊢;obtain⟨hok1,hok2⟩:=hok.append;have hpl:=hok2.cons.1
  have hic:IC Oc w cid v x:=by
   have bad: ∀ cs l,x= .agg cs\/x= .box cs\/x= .ump l\/(∃ f,x= .cbx f cs)->False:=by rintro cs l (rfl | rfl | rfl | ⟨f,rfl⟩)<;>(cases u<;>cases k<;>first | (cases hpl;done) | (have:=hok1 false (by simp [JP,force,A.isB,A.isI,A.isS,A.Ahp,A.Aca,A.qR,A.Af7,A.isFn]);cases this))
   cases x with
   | agg cs=>exact(bad cs default (.inl rfl)).elim
   | box cs=>exact(bad cs default (.inr (.inl rfl))).elim
   | ump l=>exact(bad [] l (.inr (.inr (.inl rfl)))).elim
   | cbx f cs=>exact(bad cs default (.inr (.inr (.inr ⟨f,rfl⟩)))).elim
   | _=>exact h
  obtain⟨g1,g2,g3⟩:=TG (cid:=cid) (id:=id) (f:=N7 w v) hp hn [(u,k)] [x] 0 (λj hj=>by
   have:j=0:=by simpa using hj
   subst this;exact hic) (λb k i hi hb=>hr b k i (by simp at hi;omega) hb) hok1 hO hm
  have:=g2 0 (by simp);exact⟨this.toT,λp hp=>(g3 p hp).1⟩
 | agg ks =>
  simp only[back]at hok hO hm ⊢;obtain⟨hf,hok⟩:=hok.cons;have hf:=DR hf;obtain⟨hok1,hok2⟩:=hok.cons;cases x with
  | agg cs =>
   obtain⟨vs,h1,h2,h3⟩:=h;have hl:cs.length=ks.length:=by simpa [A.isAgg,XB]using hok1
   obtain⟨g1,g2,g3⟩:=TG (objs':=objs') (m':=m') (cid:=cid+1) (id:=id+1) (f:=λj=>vs.getD j undef) hp hn ks cs 0 (λj hj=>by
    have:=h3 j (by omega);rw[DV];exact this) (λb k i hi hb=>by
    have:=hr b k (1+i) (by omega) (by rw[<- EE];exact hb);rw[<- EE]at this;exact this) hok2 hO (λp hp i hi=>by
    have:=hm p hp (i+1) (by omega);rw[this,h1];rfl)
   refine⟨⟨vs,h1,?_,λj hj=> ?_⟩,λp hp=>(g3 p hp).1⟩
   .show vs.size=(JP (id+1) ks cs 0).2.1.length;rw[h2,g1,hl]
   .have hj:j<(JP (id+1) ks cs 0).2.1.length:=hj;rw[g1]at hj;have:=g2 j hj;rwa [DV]at this
  | _=>simp [A.isAgg]at hok1
 | box ks =>
  simp only[back]at hok hO hm ⊢;obtain⟨hf,hok⟩:=hok.cons;have hf:=DR hf;obtain⟨hok1,hok2⟩:=hok.cons;cases x with
  | box cs =>
   obtain⟨b,base,h1,h2⟩:=h;have h1':N7 w v 0= .pointer (some (at' b base)):=by rw[h1];rfl
   have hl:cs.length=ks.length:=by simpa [A.Ak4,XB]using hok1
   have hcell: ∀ j,N7 w v (j+1)=(w.cell? (at' b (base+j))).getD undef:=by intro j;rw[h1];rfl
   obtain⟨g1,g2,g3⟩:=TG (objs':=objs') (m':=m') (cid:=cid+1) (id:=id+1) (f:=λj=>(w.cell? (at' b (base+j))).getD undef) hp hn ks cs 0 (λj hj=>by
    obtain⟨_,_,u,h5,h6⟩:=h2 j (by omega);rw[DV,h5];exact h6) (λb k i hi hb=>by
    have:=hr b k (1+i) (by omega) (by rw[<- EE];exact hb);rw[<- EE]at this;exact this) hok2 (λp hp=>hO p (Dz _ hp)) (λp hp i hi=>by
    have:=hm p (Dz _ hp) (i+1) (by omega);rw[this];exact hcell _)
   have hO0:=hO _ Dy;have hm0:=hm _ Dy 0 rfl;dsimp only at hO0 hm0;refine⟨?_,λp hp=> ?_⟩
   .show JG O' objs' m' w v (.ptr id 0);refine⟨by rw[h1];rfl,?_⟩;show match (J3 objs' id).map Obj.shp with | some .box=>_ | _=>True
    rw[hO0];exact⟨b,base,by rw[hm0];exact h1',h1⟩
   .rcases D7.1 hp with rfl | hp
    .refine⟨b,base,by rw[hm0];exact h1',λj hj=> ?_⟩;have hj:j<(JP (id+1) ks cs 0).2.1.length:=hj;rw[g1]at hj;obtain⟨a1,a2,u,a3,_⟩:=h2 j (by omega);have:=g2 j hj;rw[DV,a3]at this;exact⟨by have:=hr b (base+j) 0 (by omega) a1;exact this,a2,u,a3,this⟩
    .exact(g3 p hp).1
  | _=>simp [A.Ak4]at hok1
 | clo f' ks =>
  simp only[back]at hok hO hm ⊢;obtain⟨hf,hok⟩:=hok.cons;have hf:=DR hf;obtain⟨hok1,hok2⟩:=hok.cons;cases x with
  | cbx g cs =>
   have hg:f'=g:=by have h':=hok1;simp only[A.Ak5,Dw]at h';exact Dx h'.1
   subst hg;obtain⟨b,base,h1,h2⟩:=h;have h1':N7 w (innerS w (.clo f' ks) v) 0= .pointer (some (at' b base)):=h1.inner (ks:=ks);have hl:cs.length=ks.length:=by have h':=hok1;simp only[A.Ak5,Dw]at h';exact Dx h'.2
   have hcell: ∀ j,N7 w (innerS w (.clo f' ks) v) (j+1)=(w.cell? (at' b (base+j))).getD undef:=by intro j;rw[h1.inner (ks:=ks)];rfl
   obtain⟨g1,g2,g3⟩:=TG (objs':=objs') (m':=m') (cid:=cid+1) (id:=id+1) (f:=λj=>(w.cell? (at' b (base+j))).getD undef) hp hn ks cs 0 (λj hj=>by
    obtain⟨_,_,u,h5,h6⟩:=h2 j (by omega);rw[DV,h5];exact h6) (λb k i hi hb=>by
    have:=hr b k (1+i) (by omega) (by rw[<- EE];exact hb);rw[<- EE]at this;exact this) hok2 (λp hp=>hO p (Dz _ hp)) (λp hp i hi=>by
    have:=hm p (Dz _ hp) (i+1) (by omega);rw[this];exact hcell _)
   have hO0:=hO _ Dy;have hm0:=hm _ Dy 0 rfl;dsimp only at hO0 hm0;refine⟨?_,λp hp=> ?_⟩
   .show JG O' objs' m' w v (.clo f' id);refine⟨by obtain⟨_,_,e,_⟩:=h1;rw[e];cases f'<;>rfl,_,rfl,h1.Kr hp,?_⟩;show match (J3 objs' id).map Obj.shp with | some .box=>_ | _=>True
    rw[hO0];exact⟨b,base,hm0.trans h1',rfl⟩
   .rcases D7.1 hp with rfl | hp
    .refine⟨b,base,by rw[hm0];exact h1',λj hj=> ?_⟩;have hj:j<(JP (id+1) ks cs 0).2.1.length:=hj;rw[g1]at hj;obtain⟨a1,a2,u,a3,_⟩:=h2 j (by omega);have:=g2 j hj;rw[DV,a3]at this;exact⟨by have:=hr b (base+j) 0 (by omega) a1;exact this,a2,u,a3,this⟩
    .exact(g3 p hp).1
  | _=>simp [A.Ak5]at hok1
 | map kt vt =>
  simp only[back]at hok hO hm ⊢;obtain⟨l,rfl,_,_⟩:=uZ hok.cons.1;have hO0:=hO _ Dy;have hm0:=hm _ Dy 0 rfl;dsimp only at hO0 hm0;have h:QD Oc w cid v l:=h;have hm0:m' id=v:=hm0;have h2:QD O' w id v l:=h.carry hp (λb k hb=>hr b k 0 (by omega) hb);refine⟨?_,λp hp=> ?_⟩
  .show JG O' objs' m' w v (.own id);refine⟨by obtain⟨r,_,_,h1,_⟩:=h;rw[h1];rfl,?_⟩;rw[hO0];exact hm0.symm
  .obtain rfl:p=(id,.mp l):=Ec.1 hp;show QD O' w id (m' id) l;rw[hm0];exact h2
end
def Awr (k:Nat):Nat:=256000+256*k
def Ach:A->A
 | .agg cs=>.box cs
 | a=>a
def Le:List Sh->Nat->List Nat
 | [],_=>[]
 | s::ss,i=>bif KE s then i::Le ss (i+1)else Le ss (i+1)
structure Came (O:Own) (w:World) (vs:Array Value) (sg:Sig) (rs:List A) (v:Value) (O':Own) (w':World):Prop where
 moves:Moves O (λo=>o≠255) w w'
 less: ∀ b k,b<w.heap.size->O' b k≠none->O b k≠none
 WS: ∀ b k,b<w.heap.size->O b k=some 255->O' b k=some 255
 count:rs.length=sg.J7.length+(Le sg.Jt 0).length
 res: ∃ us:Array Value,us.size=sg.J7.length/\v=(if h:us.size=1 then us[0]else .tuple us)/\ ∀ k,k<us.size->IR O' w' (Awr k) (us.getD k undef) (rs.getD k .undef)
 boxes: ∀ j i,(Le sg.Jt 0)[j]? =some i->IR O' w' (256*i) (innerS w (sg.Jt.getD i (.agg [])) (vs.getD i undef)) (Ach (rs.getD (sg.J7.length+j) .undef))
def Spec (P:Program) (f:FuncId) (sg:Sig):Prop :=
 (∀ args w,(callFunc f args).run P w= .ok (.enter f args) w) /\
 ∀(O:Own) (w:World) (vs:Array Value) (xs rs:List A),Inv O w->vs.size=xs.length->xs.length=sg.Jt.length->xs.length<=100->(∀ j,j<xs.length->IR O w (256*j) (vs.getD j undef) (xs.getD j .undef))->sg.F xs=some rs ->
  Calls P f vs w λe w'=> ∃ v O',e= .returned v/\Came O w vs sg rs v O' w'
def Vu (b:Bool) (vs:Array Value):Array Value:=bif b then #[.agg vs]else #[vs.getD 1 undef]
def Asb (p:Nat×Bool) (vs:Array Value):Value:=.func (.func p.1) (Vu p.2 vs) #[]
def Yd (P:Program) (f:FuncId) (b:Bool) (sg:Sig):Prop :=
 (∀ args w,(callFunc f args).run P w= .ok (.enter f args) w) /\
 ∀(O:Own) (w:World) (vs:Array Value) (xs rs:List A),Inv O w->vs.size=xs.length->xs.length=sg.Jt.length->xs.length<=100->(∀ j,j<xs.length->IR O w (256*j) (vs.getD j undef) (xs.getD j .undef))->sg.F xs=some rs ->
  Calls P f (Vu b vs) w λe w'=> ∃ v O',e= .returned v/\Came O w vs sg rs v O' w'
def pF (P:Program) (e:FuncId) (fs:List (Nat×Bool)) (sg:Sig):Prop :=
 (∀ args w,(callFunc e args).run P w= .ok (.enter e args) w) /\
 ∀(O:Own) (w:World) (vs:Array Value) (xs rs:List A) (b:Nat),Inv O w->vs.size=xs.length->xs.length=sg.Jt.length->xs.length<=100->(∀ j,j<xs.length->IR O w (256*j) (vs.getD j undef) (xs.getD j .undef))->(∀ i p,fs[i]? =some p->O b i=none/\w.cell? (at' b i)=some (Asb p vs))->sg.F xs=some rs ->
  Calls P e #[.slice (some (at' b 0)) fs.length fs.length] w λe w'=> ∃ v O',e= .returned v/\Came O w vs sg rs v O' w'
section
variable {P:Program} {C:Ctx} {V0:Nat->Value} {O0 O:Own} {w0 w:World} {m:Nat->Value} {st:St} {a:Act} {o:Oper}
def Yg (w:World) (f:Nat->Value) (id stride:Nat):List Sh->List A->Nat->List (Nat×Value)
 | [],_,_=>[]
 | s::ss,rs,j=>(back (id+stride*j) s (rs.getD j .undef)).2.2.map (λp=>(p.1,N7 w (f j) (p.1 - (id+stride*j))))++Yg w f id stride ss rs (j+1)
def Ap5 (w:World) (f:Nat->Value) (id stride:Nat): ∀(ss:List Sh) (rs:List A) (j:Nat),(Yg w f id stride ss rs j).map (·.1)=(KG id stride ss rs j).2.2.map (·.1):=by
 intro ss
 induction ss with
 | nil=>intro rs j;rfl
 | cons s ss ih=>intro rs j;simp [Yg,KG,ih]
def AsD {k:CK} {c:A} (hp:k.plain=true) (h:J6 (force k c).1):(force k c).2.isVal=true:=by
 cases k<;>first
  | (cases hp;done)
  | (have h1:=h.cons.1;cases c<;>first | rfl | (cases h1;done))
def AeJ {Oc O':Own} {objs':List (Nat×Obj)} {m':Nat->Value} {cid cst id stride:Nat} {f g:Nat->Value} {rs:List A} (hp:Nz Oc w O' w) (hn: ∀ b k,Oc b k=none->O' b k=none): ∀(ss:List Sh) (j0:Nat),(∀ j,j<ss.length->g (j0+j)=innerS w (ss.getD j (.agg [])) (f (j0+j))) ->
 (∀ j,j<ss.length->IR Oc w (cid+cst*(j0+j)) (f (j0+j)) (rs.getD (j0+j) .undef))->(∀ j,j<ss.length-> ∀ b k i,i<255->Oc b k=some (cid+cst*(j0+j)+i)->O' b k=some (id+stride*(j0+j)+i)) ->
 J6 (KG id stride ss rs j0).1->(∀ p∈(KG id stride ss rs j0).2.2,J3 objs' p.1=some p.2)->(∀ p∈Yg w g id stride ss rs j0,m' p.1=p.2) ->
 (KG id stride ss rs j0).2.1.length=ss.length/\(∀ j,j<ss.length->JC O' objs' m' w (f (j0+j)) ((KG id stride ss rs j0).2.1.getD j .undef)/\((KG id stride ss rs j0).2.1.getD j .undef).isVal=true) /\
   ∀ p∈(KG id stride ss rs j0).2.2,Lm O' objs' m' w p.1 p.2:=by
 intro ss
 induction ss with
 | nil=>grind[KG]
 | cons s ss ih =>
  intro j0 hg h hr hok hO hm;simp only[KG]at hok hO ⊢;simp only[Yg]at hm;obtain⟨hok1,hok2⟩:=hok.append
  obtain⟨g1,g2,g3⟩:=ih (j0+1) (λj hj=>by have:=hg (j+1) (by simpa using hj);rwa [show j0+(j+1)=j0+1+j from by omega]at this) (λj hj=>by have:=h (j+1) (by simpa using hj);rwa [show j0+(j+1)=j0+1+j from by omega]at this)
   (λj hj=>by have:=hr (j+1) (by simpa using hj);rwa [show j0+(j+1)=j0+1+j from by omega]at this) hok2 (λp hp=>hO p (DF _ hp)) (λp hp=>hm p (DF _ hp))
  have h0:=h 0 (by simp);have hr0:=hr 0 (by simp);have hg0:g (j0+0)=innerS w s (f (j0+0)):=hg 0 (by simp);rw[Nat.add_zero]at h0 hr0 hg0;obtain⟨k1,k2⟩:=ArY (id:=id+stride*j0) (m':=m') (objs':=objs') hp hn h0 hr0 hok1 (λp hp=>hO p (DJ _ hp)) (λp hp i hi=>by have:=hm (p.1,N7 w (g j0) (p.1 - (id+stride*j0))) (DJ _ (DK.2 ⟨p,hp,rfl⟩));rw[this,hi,GU,hg0]);refine⟨by simp [g1],λj hj=> ?_,λp hp=> ?_⟩
  .cases j with
   | zero =>
    refine⟨k1,?_⟩;show((back (id+stride*j0) s (rs.getD j0 .undef)).2.1).isVal=true;cases s with
    | agg ks=>rfl
    | box ks=>rfl
    | clo f' ks=>rfl
    | map kt vt=>rfl
    | cell u' k =>
     have hpl:k.plain=true:=by simp only[back]at hok1;exact hok1.append.2.cons.1
     cases u' with
     | true=>cases k<;>first | (cases hpl;done) | rfl | (exfalso;have:=hok1 false (by simp [back,JP]);cases this)
     | false =>
      have hf:J6 (force k (rs.getD j0 .undef)).1:=by have h1:=hok1;simp only[back,JP]at h1;exact h1.append.1.append.1
      show(force k (rs.getD j0 .undef)).2.isVal=true;exact AsD hpl hf
   | succ j =>have:=g2 j (by simpa using hj);rw[show j0+(j+1)=j0+1+j from by omega];simpa using this
  .rcases DN.1 hp with hp | hp
   .exact k2 p hp
   .exact g3 p hp
def look (N:List (Nat×Nat)) (q:Nat):Option Nat:=(N.find? (λp=>p.1==q)).map (·.2)
def AlZ {N:List (Nat×Nat)} (hnd:nodup (N.map (·.1))=true): ∀ p∈N,look N p.1=some p.2:=by
 induction N with
 | nil=>intro p hp;cases hp
 | cons q N ih =>
  intro p hp;simp only[Em,nodup,Dw,EH]at hnd;unfold look;rcases D7.1 hp with rfl | hp
  .simp
  .have hne:q.1≠p.1:=λe=>by
    have:has (N.map (·.1)) q.1=true:=NF.2 (DK.2 ⟨p,hp,e.symm⟩);rw[this]at hnd;cases hnd.1
   all_goals grind[nodup,look]
def Aa9 {N:List (Nat×Nat)} {q i:Nat} (h:look N q=some i):(q,i)∈N:=by
 unfold look at h;cases hf:N.find? (λp=>p.1==q)with
 | none=>rw[hf]at h;cases h
 | some p=>grind[look]
def lX (N:List (Nat×Value)) (q:Nat):Option Value:=(N.find? (λp=>p.1==q)).map (·.2)
def AsY {N:List (Nat×Value)} (hnd:nodup (N.map (·.1))=true): ∀ p∈N,lX N p.1=some p.2:=by
 induction N with
 | nil=>intro p hp;cases hp
 | cons q N ih =>
  intro p hp;simp only[Em,nodup,Dw,EH]at hnd;unfold lX;rcases D7.1 hp with rfl | hp
  .simp
  .have hne:q.1≠p.1:=λe=>by
    have:has (N.map (·.1)) q.1=true:=NF.2 (DK.2 ⟨p,hp,e.symm⟩);rw[this]at hnd;cases hnd.1
   all_goals grind[nodup,lX]
def Aq9 {N:List (Nat×Value)} {q:Nat} (h:q∉N.map (·.1)):lX N q=none:=by grind[lX]
def JC.Ay3 {Jr:List (Nat×Obj)} {v:Value} {x:A} (h:JC O Jr m w v x) (hv:x.isVal=true):T1 O Jr m w v x:=by cases x<;>first | (cases hv;done) | exact h
def Y9 {fet:Fet}: ∀(ks:List (Bool×CK)) (cs:List A) (id:Nat),J6 (J8 fet ks cs).1-> ∀ p∈LK id ks cs,(J3 fet p.1).isSome/\ ∃ x,x<ks.length/\p.2=id+x:=by
 intro ks
 induction ks with
 | nil=>intro cs id _ p hp;cases cs<;>simp [LK]at hp
 | cons k ks ih =>
  intro cs id hok p hp;obtain⟨u,k⟩:=k;cases cs with
  | nil=>cases u<;>simp [LK]at hp
  | cons c cs =>
   have step:J6 (J8 fet ks cs).1->p∈LK (id+1) ks cs->(J3 fet p.1).isSome/\ ∃ x,x<((u,k)::ks).length/\p.2=id+x:=by intro h1 h2;obtain⟨h3,x,h4,h5⟩:=ih cs (id+1) h1 p h2;exact⟨h3,x+1,by simpa using h4,by omega⟩
   cases u with
   | false=>simp_all[LK,J8,hok,Fet,CK,J6,J3]
   | true =>
    cases k with
    | sl e sz =>
     cases c with
     | own q =>
      simp only[J8]at hok;cases hg:J3 fet q with
      | none=>rw[hg]at hok;have:=hok false (by simp);cases this
      | some y =>
       cases y with
       | box _=>rw[hg]at hok;have:=hok false (by simp);cases this
       | mp _=>rw[hg]at hok;have:=hok false (by simp);cases this
       | arr e' fz l =>
        rw[hg]at hok;simp only[LK]at hp;rcases D7.1 hp with rfl | hp
        .exact⟨by rw[hg];rfl,0,by simp,rfl⟩
        .exact step hok.append.2 hp
     | Lt =>simp only[J8]at hok;exact step hok hp
     | _=>have:=hok false (by simp [J8]);cases this
    | sln e sz =>
     cases c with
     | own q =>
      simp only[J8]at hok;cases hg:J3 fet q with
      | none=>rw[hg]at hok;have:=hok false (by simp);cases this
      | some y =>
       cases y with
       | box _=>rw[hg]at hok;have:=hok false (by simp);cases this
       | mp _=>rw[hg]at hok;have:=hok false (by simp);cases this
       | arr e' fz l =>
        rw[hg]at hok;simp only[LK]at hp;rcases D7.1 hp with rfl | hp
        .exact⟨by rw[hg];rfl,0,by simp,rfl⟩
        .exact step hok.append.2 hp
     | Lt =>simp only[J8]at hok;exact step hok hp
     | _=>have:=hok false (by simp [J8]);cases this
    | bx t =>
     cases c with
     | ptr q off =>
      simp only[J8]at hok;cases hg:L8 fet q with
      | none=>rw[hg]at hok;have:=hok false (by simp);cases this
      | some zs =>
       rw[hg]at hok;simp only[LK]at hp;rcases D7.1 hp with rfl | hp
       .exact⟨by rw[Lj hg];rfl,0,by simp,rfl⟩
       .exact step hok.cons.2.append.2 hp
     | _=>have:=hok false (by simp [J8]);cases this
    | _=>have:=hok false (by simp [J8]);cases this
def Amh {fet:Fet} {s:Sh} {x:A} {id:Nat} (hok:J6 (JY fet s x).ok): ∀ p∈OM fet id s x,(J3 fet p.1).isSome/\ ∃ i,p.2=id+i/\(i<202\/(∃ ks,s= .agg ks)):=by
 intro p hp;cases s with
 | cell u k =>
  simp only[OM]at hp
  have hh:J6 (J8 fet [(u,k)] [x]).1:=by
   unfold JY at hok;dsimp only at hok;generalize J8 fet [(u,k)] [x]=r at *
   obtain⟨ok,cs,upd,del⟩:=r;cases cs with
   | nil=>have:=hok false (by simp);cases this
   | cons c cs =>
    cases cs with
    | nil=>exact hok
    | cons _ _=>have:=hok false (by simp);cases this
  obtain⟨h1,i,h2,h3⟩:=Y9 _ _ _ hh p hp;exact⟨h1,i,h3,.inl (by simp at h2;omega)⟩
 | agg ks =>
  cases x with
  | agg cs =>simp only[OM]at hp;obtain⟨h1,i,h2,h3⟩:=Y9 _ _ _ (show J6 (J8 fet ks cs).1 from hok) p hp;exact⟨h1,1+i,by omega,.inr ⟨ks,rfl⟩⟩
  | _=>cases hp
 | box ks =>
  cases x with
  | ptr q off =>
   simp only[OM]at hp;unfold JY at hok;dsimp only at hok;cases hg:L8 fet q with
   | none=>rw[hg]at hok;have:=hok false (by simp);cases this
   | some cs =>
    rw[hg]at hok hp;dsimp only at hok hp;obtain⟨_,hokA⟩:=hok.cons;obtain⟨hf,hokB⟩:=hokA.cons;have hf:=DR hf;rcases D7.1 hp with rfl | hp
    .exact⟨by rw[Lj hg];rfl,0,rfl,.inl (by omega)⟩
    .obtain⟨h1,i,h2,h3⟩:=Y9 _ _ _ hokB p hp;exact⟨h1,1+i,by omega,.inl (by omega)⟩
  | _=>cases hp
 | clo f' ks =>
  cases x with
  | clo g q =>
   simp only[OM]at hp;unfold JY at hok;dsimp only at hok;cases hg:L8 fet q with
   | none=>rw[hg]at hok;have:=hok false (by simp);cases this
   | some cs =>
    rw[hg]at hok hp;dsimp only at hok hp;obtain⟨_,hokA⟩:=hok.cons;obtain⟨hf,hokB⟩:=hokA.cons;have hf:=DR hf;rcases D7.1 hp with rfl | hp
    .exact⟨by rw[Lj hg];rfl,0,rfl,.inl (by omega)⟩
    .obtain⟨h1,i,h2,h3⟩:=Y9 _ _ _ hokB p hp;exact⟨h1,1+i,by omega,.inl (by omega)⟩
  | _=>cases hp
 | map kt vt =>
  cases x with
  | own q =>
   obtain rfl:p=(q,id):=by simpa [OM]using hp
   unfold JY at hok;dsimp only at hok;cases hg:J3 fet q with
   | none=>rw[hg]at hok;have:=hok false (by simp);cases this
   | some y=>exact⟨rfl,0,rfl,.inl (by omega)⟩
  | _=>cases hp
def dM {fet:Fet} {stride:Nat}: ∀(ss:List Sh) (xs:List A) (id:Nat),J6 (JM fet ss xs).1-> ∀ p∈NY fet id stride ss xs,(J3 fet p.1).isSome:=by
 intro ss
 induction ss with
 | nil=>intro xs id _ p hp;cases xs<;>simp [NY]at hp
 | cons s ss ih =>
  intro xs id hok p hp;cases xs with
  | nil=>simp [NY]at hp
  | cons x xs =>
   simp only[JM]at hok;obtain⟨h1,h2⟩:=hok.append;rcases DN.1 hp with hp | hp
   .exact(Amh h1 p hp).1
   .exact ih xs _ h2 p hp
def Moves.Axw {ρ :Nat->Option Nat} {w w':World} (h:Moves (O5 O ρ) (λo=>o≠255) w w'):Moves O (λo=> ∃ i,ρ o=some i) w w':=by
 refine⟨h.os,h.tape,h.output,h.size,λb hb=> ?_⟩;have un: ∀ k i,O5 O ρ b k=some i->i≠255-> ∃ q,O b k=some q/\ ∃ i,ρ q=some i:=by all_goals grind[O5]
 rcases h.blk b hb with he | ⟨c,c',e,fr,h1,h2,h3,h4,k,q,h5,h6,h7⟩ | ⟨es,ck,es',ck',q,h1,h2,h3,h4⟩
 .exact .inl he
 .refine .inr (.inl ⟨c,c',e,fr,h1,h2,h3,λk hk=>h4 k (λi hi hne=> ?_),k,?_⟩)
  .obtain⟨q,hq,hρ⟩:=un k i hi hne;exact hk q hq hρ
  .simp_all[un,O5]
 .simp_all[un,O5]
end
section
variable {P:Program} {C:Ctx} {V0:Nat->Value} {O0 O:Own} {w0 w:World} {m:Nat->Value} {st:St} {a:Act} {o:Oper}
def Ax0 (fet:Fet) (p:Nat×Sh) (x:Option A):Sh->Prop
 | .box ks=>(∃ cs,J3 fet p.1=some (.box cs))/\x=some (.ptr p.1 0)/\ks.length<=200/\p.2= .box ks
 | .clo k ks=>(∃ cs,J3 fet p.1=some (.box cs))/\x=some (.clo k p.1)/\ks.length<=200/\p.2= .box ks
 | .map kt vt=>(∃ l,J3 fet p.1=some (.mp l))/\x=some (.own p.1)/\p.2= .map kt vt
 | _=>False
def Au0 {fet:Fet} {stride:Nat}: ∀(ss:List Sh) (xs:List A) (id i0:Nat),J6 (JM fet ss xs).1 ->
 (JM fet ss xs).2.2.2.2.length=(Le ss i0).length/\ ∀(j:Nat) (p:Nat×Sh),(JM fet ss xs).2.2.2.2[j]? =some p-> ∃ i,(Le ss i0)[j]? =some (i0+i)/\i<ss.length/\(p.1,id+stride*i)∈NY fet id stride ss xs/\ ∃ s,ss[i]? =some s/\Ax0 fet p xs[i]? s:=by
 intro ss
 induction ss with
 | nil=>intro xs id i0 hok;cases xs with
  | nil=>exact⟨rfl,λj p h=>by simp [JM]at h⟩
  | cons _ _=>have:=hok false (by simp [JM]);cases this
 | cons s ss ih =>
  intro xs id i0 hok;cases xs with
  | nil=>have:=hok false (by simp [JM]);cases this
  | cons x xs =>
   simp only[JM]at hok ⊢;obtain⟨h1,h2⟩:=hok.append;obtain⟨g1,g2⟩:=ih xs (id+stride) (i0+1) h2;have hrest: ∀(j:Nat) (p:Nat×Sh),(JM fet ss xs).2.2.2.2[j]? =some p-> ∃ i,(Le ss (i0+1))[j]? =some (i0+i)/\i<(s::ss).length/\(p.1,id+stride*i)∈NY fet id stride (s::ss) (x::xs)/\ ∃ s',(s::ss)[i]? =some s'/\Ax0 fet p (x::xs)[i]? s':=by intro j p hp;obtain⟨i,a1,a2,a3,s',a4,a5⟩:=g2 j p hp;refine⟨i+1,by rw[a1];congr 1;omega,by simpa using a2,DF _ ?_,s',by simpa using a4,by simpa using a5⟩;rw[show id+stride*(i+1)=id+stride+stride*i from by rw[AzR];omega];exact a3
   cases s with
   | box ks =>
    cases x with
    | ptr q off =>
     have hA:J6 (JY fet (.box ks) (.ptr q off)).ok:=h1;unfold JY at h1;dsimp only at h1;cases hg:L8 fet q with
     | none=>rw[hg]at h1;have:=h1 false (by simp);cases this
     | some cs =>
      rw[hg]at h1;dsimp only at h1;obtain⟨h3,h4⟩:=h1.cons;obtain⟨h4,_⟩:=h4.cons;have h3:=Dx h3;have h4:=DR h4;subst h3;have hb:(JY fet (.box ks) (.ptr q 0)).boxes=[(q,.box ks)]:=by unfold JY;dsimp only;rw[hg]
      rw[hb];refine⟨by simp [Le,KE,g1],λj p hp=> ?_⟩;cases j with
      | zero =>simp at hp;subst hp;exact⟨0,by simp [Le,KE],by simp,DJ _ (by simp [OM]),_,rfl,⟨cs,Lj hg⟩,rfl,h4,rfl⟩
      | succ j =>
       have hp':(JM fet ss xs).2.2.2.2[j]? =some p:=by simpa using hp
       obtain⟨i,a1,a2⟩:=hrest j p hp';exact⟨i,by simpa [Le,KE]using a1,a2⟩
    | _=>have:=h1 false (by simp [JY]);cases this
   | clo f' ks =>
    cases x with
    | clo g q =>
     have hA:J6 (JY fet (.clo f' ks) (.clo g q)).ok:=h1;unfold JY at h1;dsimp only at h1;cases hg:L8 fet q with
     | none=>rw[hg]at h1;have:=h1 false (by simp);cases this
     | some cs =>
      rw[hg]at h1;dsimp only at h1;obtain⟨h3,h4⟩:=h1.cons;obtain⟨h4,_⟩:=h4.cons;have h3:=Dx h3;have h4:=DR h4;subst h3;have hb:(JY fet (.clo f' ks) (.clo f' q)).boxes=[(q,.box ks)]:=by unfold JY;dsimp only;rw[hg]
      rw[hb];refine⟨by simp [Le,KE,g1],λj p hp=> ?_⟩;cases j with
      | zero =>simp at hp;subst hp;exact⟨0,by simp [Le,KE],by simp,DJ _ (by simp [OM]),_,rfl,⟨cs,Lj hg⟩,rfl,h4,rfl⟩
      | succ j =>
       have hp':(JM fet ss xs).2.2.2.2[j]? =some p:=by simpa using hp
       obtain⟨i,a1,a2⟩:=hrest j p hp';exact⟨i,by simpa [Le,KE]using a1,a2⟩
    | _=>have:=h1 false (by simp [JY]);cases this
   | cell u k=>grind[JY,split,Le,KE]
   | agg ks =>
    have hb:(JY fet (.agg ks) x).boxes=[]:=by unfold JY;cases x<;>rfl
    rw[hb];exact⟨by simpa [Le,KE]using g1,λj p hp=>by simpa [Le,KE]using hrest j p (by simpa using hp)⟩
   | map kt vt =>
    cases x with
    | own q =>
     unfold JY at h1;dsimp only at h1;cases hg:J3 fet q with
     | none=>rw[hg]at h1;have:=h1 false (by simp);cases this
     | some y =>
      cases y with
      | box _=>rw[hg]at h1;have:=h1 false (by simp);cases this
      | arr _ _ _=>rw[hg]at h1;have:=h1 false (by simp);cases this
      | mp l =>
       have hb:(JY fet (.map kt vt) (.own q)).boxes=[(q,.map kt vt)]:=by unfold JY;dsimp only;rw[hg]
       rw[hb];refine⟨by simp [Le,KE,g1],λj p hp=> ?_⟩;cases j with
       | zero =>simp at hp;subst hp;exact⟨0,by simp [Le,KE],by simp,DJ _ (by simp [OM]),_,rfl,⟨l,hg⟩,rfl,rfl⟩
       | succ j =>
        have hp':(JM fet ss xs).2.2.2.2[j]? =some p:=by simpa using hp
        obtain⟨i,a1,a2⟩:=hrest j p hp';exact⟨i,by simpa [Le,KE]using a1,a2⟩
    | _=>have:=h1 false (by simp [JY]);cases this
def Wi (rb:Nat->Nat) (w:World) (vf:Nat->Value) (rs:List A):List (Nat×Sh)->Nat->List (Nat×Value)
 | [],_=>[]
 | (o,s)::r,j=>(Om (rb o) s (rs.getD j .undef)).2.2.map (λp=>(p.1,N7 w (vf j) (p.1 - rb o)))++Wi rb w vf rs r (j+1)
def AgA (rb:Nat->Nat) (w:World) (vf:Nat->Value) (rs:List A): ∀(bs:List (Nat×Sh)) (j:Nat),(Wi rb w vf rs bs j).map (·.1)=(La rb rs bs j).2.2.map (·.1):=by
 intro bs
 induction bs with
 | nil=>intro j;rfl
 | cons b bs ih=>simp_all[Wi,La,Sh]
def Ajd (rb:Nat->Nat) (rs:List A): ∀(bs:List (Nat×Sh)) (j:Nat),(La rb rs bs j).2.1.map (·.1)=bs.map (·.1):=by
 intro bs
 induction bs with
 | nil=>intro j;rfl
 | cons b bs ih=>grind[La]
def AkV {rb:Nat} {Oc O':Own} {objs':List (Nat×Obj)} {m':Nat->Value} {v:Value} {cid q:Nat} {s:Sh} {r:A} (hp:Nz Oc w O' w) (hn: ∀ b k,Oc b k=none->O' b k=none)
 (hs: ∀ ks,s= .box ks->ks.length<=200) (hmq:m' q=v) (hir:IR Oc w cid v (Ach r)) (hr: ∀ b k i,i<255->Oc b k=some (cid+i)->O' b k=some (if i=0 then q else rb+i))
 (hok:J6 (Om rb s r).1) (hO: ∀ p∈(Om rb s r).2.2,J3 objs' p.1=some p.2) (hm: ∀ p∈(Om rb s r).2.2,m' p.1=N7 w v (p.1 - rb)) :
 Lm O' objs' m' w q (Om rb s r).2.1/\ ∀ p∈(Om rb s r).2.2,Lm O' objs' m' w p.1 p.2:=by
 cases s with
 | cell _ _=>have:=hok false (by simp [Om]);cases this
 | agg _=>have:=hok false (by simp [Om]);cases this
 | clo _ _=>have:=hok false (by simp [Om]);cases this
 | map kt vt =>simp only[Om]at hok ⊢;obtain⟨l,rfl,_,_⟩:=uZ hok.cons.1;refine⟨?_,λp hp=>by cases hp⟩;show QD O' w q (m' q) l;rw[hmq];exact QD.carry (show QD Oc w cid v l from hir) hp (λb k hb=>by have:=hr b k 0 (by omega) hb;exact this)
 | box ks =>
  have hf:=hs ks rfl;simp only[Om]at hok hO hm ⊢;obtain⟨hok0,hok1⟩:=hok.cons;cases r with
  | agg cs =>
   have hl:cs.length=ks.length:=by simpa [A.isAgg,XB]using hok0
   obtain⟨bk,base,h1,h2⟩:=(show IR Oc w cid v (.box cs)from hir)
   have hcell: ∀ j,N7 w v (j+1)=(w.cell? (at' bk (base+j))).getD undef:=by intro j;rw[h1];rfl
   obtain⟨k1,k2,k3⟩:=TG (objs':=objs') (m':=m') (cid:=cid+1) (id:=rb+1) (f:=λj=>(w.cell? (at' bk (base+j))).getD undef) hp hn ks cs 0 (λj hj=>by
    obtain⟨_,_,u,h5,h6⟩:=h2 j (by omega);rw[DV,h5];exact h6) (λb k i hi hb=>by
    have:=hr b k (1+i) (by omega) (by rw[<- EE];exact hb);rw[A0g,<- EE]at this;exact this) hok1 hO (λp hp i hi=>by
    have:=hm p hp;rw[this,hi,show rb+1+i - rb=i+1 from by omega,hcell])
   refine⟨⟨bk,base,by rw[hmq];exact h1,λj hj=> ?_⟩,λp hp=>(k3 p hp).1⟩;have hj:j<(JP (rb+1) ks cs 0).2.1.length:=hj;rw[k1]at hj;obtain⟨a1,a2,u,a3,_⟩:=h2 j (by omega);have:=k2 j hj;rw[DV,a3]at this;exact⟨by have:=hr bk (base+j) 0 (by omega) a1;exact this,a2,u,a3,this⟩
  | _=>cases hok0
def AgB {rb:Nat->Nat} {Oc O':Own} {objs':List (Nat×Obj)} {m':Nat->Value} {val:Nat->Value} {cid:Nat->Nat} {rs:List A} (hp:Nz Oc w O' w) (hn: ∀ b k,Oc b k=none->O' b k=none): ∀(bs:List (Nat×Sh)) (j0:Nat),
 (∀(j:Nat) (p:Nat×Sh),bs[j]? =some p->(∀ ks,p.2= .box ks->ks.length<=200)/\m' p.1=val (j0+j)/\IR Oc w (cid (j0+j)) (val (j0+j)) (Ach (rs.getD (j0+j) .undef))/\ ∀ b k i,i<255->Oc b k=some (cid (j0+j)+i)->O' b k=some (if i=0 then p.1 else rb p.1+i)) ->
 J6 (La rb rs bs j0).1->(∀ p∈(La rb rs bs j0).2.2,J3 objs' p.1=some p.2)->(∀ p∈Wi rb w val rs bs j0,m' p.1=p.2) ->
 (∀ p∈(La rb rs bs j0).2.1,Lm O' objs' m' w p.1 p.2)/\ ∀ p∈(La rb rs bs j0).2.2,Lm O' objs' m' w p.1 p.2:=by
 intro bs
 induction bs with
 | nil=>grind[La]
 | cons b bs ih =>
  intro j0 h hok hO hm;obtain⟨q,s⟩:=b;simp only[La]at hok hO ⊢;simp only[Wi]at hm;obtain⟨hok1,hok2⟩:=hok.append;obtain⟨g1,g2⟩:=ih (j0+1) (λj p hj=>by have:=h (j+1) p (by simpa using hj);rwa [show j0+(j+1)=j0+1+j from by omega]at this) hok2 (λp hp=>hO p (DF _ hp)) (λp hp=>hm p (DF _ hp));obtain⟨hf,hmq,hir,hr⟩:=h 0 (q,s) rfl;rw[Nat.add_zero]at hmq hir hr;obtain⟨k1,k2⟩:=AkV (objs':=objs') (m':=m') (rb:=rb q) (q:=q) hp hn hf hmq hir hr hok1 (λp hp=>hO p (DJ _ hp)) (λp hp=>hm (p.1,N7 w (val j0) (p.1 - rb q)) (DJ _ (DK.2 ⟨p,hp,rfl⟩)));refine⟨λp hp=> ?_,λp hp=> ?_⟩
  .rcases D7.1 hp with rfl | hp
   .exact k1
   .exact g1 p hp
  .rcases DN.1 hp with hp | hp
   .exact k2 p hp
   .exact g2 p hp
end
section
variable {P:Program} {C:Ctx} {V0:Nat->Value} {O0 O:Own} {w0 w:World} {m:Nat->Value} {st:St} {a:Act} {o:Oper}
def AeO (ss:List Sh) (xs:List A) (i:Nat):Option Nat:=match ss.getD i (.agg []),xs.getD i .undef with
 | .map _ _,.own o=>some o
 | .clo _ _,.clo _ o=>some o
 | .box _,.clo _ o=>some o
 | .clo _ _,.ptr o _=>some o
 | _,.ptr o _=>some o
 | _,_=>none
def Acp (rb:Nat->Nat) (d:Nat) (ss:List Sh) (xs:List A) (n:Nat):Option Nat :=
 if 256000<=n then some (b2 d+16*((n - 256000) / 256)+(n - 256000) % 256)
 else match AeO ss xs (n / 256)with
  | some q=>some (if n % 256=0 then q else rb q+n % 256)
  | none=>none
def Ak9:Sh->Obj->Prop
 | .box _,.box _=>True
 | .map _ _,.mp _=>True
 | _,_=>False
def AaQ {s:Sh} {e:Nat} {f:Bool} {l:Sl} (h:Ak9 s (.arr e f l)):False:=by cases s<;>exact h
def Atl {s:Sh} {y:Obj} {rb:Nat} {r:A} (h:Ak9 s y):y.shp=(Om rb s r).2.1.shp:=by cases s<;>cases y<;>first | exact h.elim | rfl
def AkY {d:Nat} {fet:Fet} {sg:Sig} {xs:List A} (h:J6 (Oy fet d sg xs).ok):sg.ok (jQ fet sg.Jt xs).vs=true:=by unfold Oy Akv at h;exact h.append.1.append.1.append.1.append.2.cons.1
def Aik {X:(Value->World->Prop)->Prop} {sg:Sig} {av:Array Value} (hS:Sim V0 O0 w0 O m st a w) (hX: ∀(R:Value->World->Prop) (O':Own) (xs rs:List A),(∀ b k u,O b k=none->w.cell? (at' b k)=some u->O' b k=none)->Inv O' w->av.size=xs.length->xs.length=sg.Jt.length->xs.length<=100->(∀ j,j<xs.length->IR O' w (256*j) (av.getD j undef) (xs.getD j .undef))->sg.F xs=some rs->(∀ v Of w',Came O' w av sg rs v Of w'->R v w')->X R) {d:Nat} {fet:Fet} (hf:P8 st.Jr fet) {xs:List A}
 (hl:xs.length=av.size) (hx: ∀ j,j<xs.length->JC O st.Jr m w (av.getD j undef) (xs.getD j .undef))
 (hok:J6 (Oy fet d sg xs).ok) (hfr: ∀ p∈(Oy fet d sg xs).new,st.fresh p.1=true) (hnd:nodup ((Oy fet d sg xs).new.map (·.1))=true) (next:Value->World->Prop) (hn: ∀ O' m' v w',Sim V0 O0 w0 O' m' (apply st o (Oy fet d sg xs)) (a.put o.dst v) w'->next v w'):X next:=by
 unfold Oy at hok hfr hnd hn;generalize hH:jQ fet sg.Jt xs=H at *
 obtain⟨hok1,vsA,upd,del,bxs⟩:=H;have hHs:JM fet sg.Jt xs=(hok1,vsA,upd,del,bxs):=by unfold jQ at hH;injection hH with q1 q2 q3 q4 q5;rw[<- q1,<- q2,<- q3,<- q4,<- q5]
 dsimp only at hok hfr hnd hn;unfold Akv at hok;obtain⟨hokA,hokB⟩:=hok.append;obtain⟨hokA,hokC⟩:=hokA.append;obtain⟨hokA,hokD⟩:=hokA.append;obtain⟨hokA,hokE⟩:=hokA.append;obtain⟨hN,hokB⟩:=hokB.cons;obtain⟨h100,hokB⟩:=hokB.cons;have h100:=DR h100;have hF:sg.F vsA=some (sg.val vsA):=by have:=hokE.cons.1;unfold Sig.F;rw[this];rfl
 have hokA':J6 (JM fet sg.Jt xs).1:=by rw[hHs];exact hokA
 generalize sg.val vsA=rs at hF hfr hnd hn hokB hokC hokD;simp only[Akv]at hfr hnd hn hokB hokC hokD;have hcnt:=Dx hokB.cons.1;obtain⟨g1,g2,g3,g4,g5⟩:=dJ (W:=upd=[]) hf hS.Jr 256 sg.Jt xs 0 (λj=>av.getD j undef) (λe=>by have:=hokB.cons.2.cons.1;rw[e]at this;simpa using this) hx hokA';obtain⟨b1,b2'⟩:=Au0 (fet:=fet) (stride:=256) sg.Jt xs 0 0 hokA';have halive:=dM (fet:=fet) (stride:=256) sg.Jt xs 0 hokA';rw[hHs]at g1 g3 g4 g5 b1 b2';dsimp only at g1 g3 g4 g5 b1 b2';generalize hNs:NY fet 0 256 sg.Jt xs=N at *
 obtain⟨O1,hS1,hp1,hle1,hv1,hE1,hk1⟩:=hS.freezes _ g3;let ρ :=look N;have hρ : ∀ p∈N,ρ p.1=some p.2:=AlZ hN;have hupdO: ∀ p∈upd,Lm O1 (JH st.Jr upd) m w p.1 p.2:=by intro p hp;obtain⟨x,hx1,hx2⟩:=OA upd st.Jr p.1 ⟨p,hp,rfl⟩;obtain⟨e,fz,l,k1,k2⟩:=g3 p hp;obtain⟨e',fz',l',k3,k4⟩:=g3 _ hx1;dsimp only at k3 k4;rw[k1]at k3;injection k3 with k3;injection k3 with q1 q2 q3;subst q1;subst q3;rw[k2,<- k4];exact hS1.Jr p.1 x hx2
 have hIR:=g5 hp1 hv1 hupdO hk1 hρ;have hargs:av.size=vsA.length:=by rw[<- hl,g2,g1]
 refine hX next (O5 O1 ρ) vsA rs (λb k u h hc=>WG.2 (hp1 b k u h hc).1) ⟨λg j p ht=>⟨WG.2 (hS1.Af0.1 g j p ht).1,(hS1.Af0.1 g j p ht).2⟩,hS1.Af0.2⟩ hargs g1 (by rw[g1,<- g2];exact h100) (λj hj=> ?_) hF ?_
 .have:=hIR j (by rw[<- g1];exact hj);rw[DV]at this;exact this
 rintro v Of w' hcame;obtain⟨us,hus1,hus2,hus3⟩:=hcame.res;let T:Nat->Prop:=λq=> ∃ i,ρ q=some i;let O2:Own:=λb k=>if b<w.heap.size then(match O1 b k with | none=>none | some q=>if T q then(Of b k).bind (Acp (MR fet) d sg.Jt xs)else some q)else(Of b k).bind (Acp (MR fet) d sg.Jt xs);have hM:Moves O1 T w w':=hcame.moves.Axw;have hO2lt: ∀ {b k},b<w.heap.size->O2 b k=(match O1 b k with | none=>none | some q=>if T q then(Of b k).bind (Acp (MR fet) d sg.Jt xs)else some q):=λhb=>Du hb;have hP2:Passes O1 O2 T w.heap.size:=by refine⟨λb k hb h=>by rw[hO2lt hb,h],λb k q hb h ht=> ?_⟩;rw[hO2lt hb,h];exact Dt ht
 have hless2: ∀ b k,b<w.heap.size->O2 b k≠none->O1 b k≠none:=by intro b k hb h h';rw[hO2lt hb,h']at h;exact h rfl
 have hnone: ∀ b k,Of b k=none->O2 b k=none:=by
  intro b k h;by_cases hb:b<w.heap.size
  .rw[hO2lt hb];cases hO:O1 b k with
   | none=>rfl
   | some q =>
    by_cases ht:T q
    .show(if T q then _ else _)=_;rw[Du ht,h];rfl
    .exfalso
     have hr:O5 O1 ρ b k=some 255:=by
      unfold O5;rw[hO]
      have: ρ q=none:=by
       cases hh: ρ q with
       | none=>rfl
       | some i=>exact absurd ⟨i,hh⟩ ht
      simp [this]
     have:=hcame.WS b k hb hr;rw[h]at this;cases this
  .show(if _ then _ else _)=_;rw[Dt hb,h];rfl
 have hsome: ∀ b k n,Of b k=some n->n≠255->O2 b k=Acp (MR fet) d sg.Jt xs n:=by
  intro b k n h hne;by_cases hb:b<w.heap.size
  .rw[hO2lt hb];have h1:=hcame.less b k hb (by rw[h];simp);rw[Ne,WG]at h1;cases hO:O1 b k with
   | none=>exact absurd hO h1
   | some q =>
    by_cases ht:T q
    .show(if T q then _ else _)=_;rw[Du ht,h];rfl
    .exfalso
     have hr:O5 O1 ρ b k=some 255:=by
      unfold O5;rw[hO]
      have: ρ q=none:=by
       cases hh: ρ q with
       | none=>rfl
       | some i=>exact absurd ⟨i,hh⟩ ht
      simp [this]
     have:=hcame.WS b k hb hr;rw[h]at this;injection this with this;exact hne this
  .show(if _ then _ else _)=_;rw[Dt hb,h];rfl
 have hpf:Nz Of w' O2 w':=λb k u h hc=>⟨hnone b k h,hc⟩
 have hbcnt:bxs.length=(Le sg.Jt 0).length:=b1;let bi:Nat->Nat:=λj=>(Le sg.Jt 0).getD j 0;let bval:Nat->Value:=λj=>innerS w (sg.Jt.getD (bi j) (.agg [])) (av.getD (bi j) undef);let HV:=Yg w' (λk=>innerS w' (sg.J7.getD k (.agg [])) (us.getD k undef)) (b2 d) 16 sg.J7 rs 0++Wi (MR fet) w' bval (rs.drop sg.J7.length) bxs 0;have hHVf:HV.map (·.1)=((KG (b2 d) 16 sg.J7 rs 0).2.2++(La (MR fet) (rs.drop sg.J7.length) bxs 0).2.2).map (·.1):=by simp only[HV,Fb,Ap5,AgA]
 have hHVn:nodup (HV.map (·.1))=true:=by rw[hHVf];exact hnd
 let m2:Nat->Value:=λi=>(lX HV i).getD (m i);have hm2: ∀ p∈HV,m2 p.1=p.2:=by intro p hp;show(lX HV p.1).getD _=_;rw[AsY hHVn p hp];rfl
 let Nw:Nat->Prop:=λi=> ∃ p∈(KG (b2 d) 16 sg.J7 rs 0).2.2++(La (MR fet) (rs.drop sg.J7.length) bxs 0).2.2,p.1=i;have hNw: ∀ i,Nw i->Qk {st with Jr:=JH st.Jr upd} i:=by rintro i ⟨p,hp,rfl⟩;exact(NQ (hfr p hp)).frz g3
 have hm2not: ∀ i,¬ Nw i->m2 i=m i:=by
  intro i hi;show(lX HV i).getD _=_;rw[Aq9 (λh=> ?_)]
  .rfl
  .rw[hHVf]at h;obtain⟨p,hp,hpe⟩:=DK.1 h;exact hi ⟨p,hp,hpe⟩
 have hrres: ∀ j,j<sg.J7.length-> ∀ b k i,i<255->Of b k=some (256000+256*(0+j)+i)->O2 b k=some (b2 d+16*(0+j)+i):=by
  intro j hj b k i hi h;rw[hsome b k _ h (by omega)];unfold Acp;rw[A0h,DV];have e1:(256000+256*j+i - 256000) / 256=j:=by omega
  have e2:(256000+256*j+i - 256000) % 256=i:=by omega
  rw[e1,e2]
 have hbx: ∀(j:Nat) (p:Nat×Sh),bxs[j]? =some p->(∃ y,J3 st.Jr p.1=some y/\Ak9 p.2 y)/\(∀ ks,p.2= .box ks->ks.length<=200)/\m p.1=bval j/\IR Of w' (256*bi j) (bval j) (Ach (rs.getD (sg.J7.length+j) .undef)) /\
  ∀ b k i,i<255->Of b k=some (256*bi j+i)->O2 b k=some (if i=0 then p.1 else MR fet p.1+i):=by
  intro j p hp;obtain⟨i',a1,a2,a3,s',a7,a4⟩:=b2' j p hp;rw[DV]at a1;have hbi:bi j=i':=by show(Le sg.Jt 0).getD j 0=_;rw[Dn,a1];rfl
  have c2:=hcame.boxes j i' a1;have hi'x:i'<xs.length:=by rw[g2];exact a2
  have hxv:=hx i' hi'x;have hF':FOk O st.Jr m w fet:=λq x h=>⟨hf q x h,hS.Jr q x (hf q x h)⟩
  have hkey:(∃ y,J3 st.Jr p.1=some y/\Ak9 p.2 y)/\(∀ ks,p.2= .box ks->ks.length<=200)/\m p.1=innerS w (sg.Jt.getD i' (.agg [])) (av.getD i' undef)/\AeO sg.Jt xs i'=some p.1:=by
   obtain⟨q,s⟩:=p;have hs':sg.Jt.getD i' (.agg [])=s':=by rw[Dn,a7];rfl
   cases s' with
   | cell _ _=>exact a4.elim
   | agg _=>exact a4.elim
   | box ks =>
    obtain⟨⟨cs0,a4⟩,a5,a6,a8⟩:=a4;dsimp only at a8;subst a8;have e5:xs.getD i' .undef= .ptr q 0:=by rw[Dn,a5];rfl
    rw[e5]at hxv;obtain⟨bk,base,k1,k2,_⟩:=hxv.ptr hF' a4;refine⟨⟨_,hf _ _ a4,trivial⟩,(λks' h=>by injection h with h;rw[<- h];exact a6),by rw[hs'];dsimp only at k1 ⊢;rw[k1,k2,Nat.add_zero];rfl,?_⟩;unfold AeO;rw[hs',e5]
   | clo f' ks =>
    obtain⟨⟨cs0,a4⟩,a5,a6,a8⟩:=a4;dsimp only at a8;subst a8;have e5:xs.getD i' .undef= .clo f' q:=by rw[Dn,a5];rfl
    rw[e5]at hxv;have hc:JG O st.Jr m w (av.getD i' undef) (.clo f' q):=hxv;obtain⟨_,p',_,hc2,hc⟩:=hc;rw[hf _ _ a4]at hc;obtain⟨b',base',e1,e2⟩:=hc;have hc:fB O w f' (av.getD i' undef) (m q):=by rw[e1,<- e2];exact hc2
    refine⟨⟨_,hf _ _ a4,trivial⟩,(λks' h=>by injection h with h;rw[<- h];exact a6),by rw[hs'];exact hc.inner.symm,?_⟩;unfold AeO;rw[hs',e5]
   | map kt vt =>
    obtain⟨⟨l,a4⟩,a5,a8⟩:=a4;dsimp only at a8;subst a8;have e5:xs.getD i' .undef= .own q:=by rw[Dn,a5];rfl
    rw[e5]at hxv;have hc:JG O st.Jr m w (av.getD i' undef) (.own q):=hxv;have hc:=hc.2;rw[hf _ _ a4]at hc;refine⟨⟨_,hf _ _ a4,trivial⟩,(λks' h=>by cases h),by rw[hs'];exact hc.symm,?_⟩;unfold AeO;rw[hs',e5]
  obtain⟨hky,hk200,hkm,e7⟩:=hkey;refine⟨hky,hk200,?_,?_,λb k i hi h=> ?_⟩
  .show _=innerS w (sg.Jt.getD (bi j) (.agg [])) (av.getD (bi j) undef);rw[hbi];exact hkm
  .show IR Of w' (256*bi j) (innerS w (sg.Jt.getD (bi j) (.agg [])) (av.getD (bi j) undef)) _;rw[hbi];exact c2
  .rw[hbi]at h;rw[hsome b k _ h (by omega)];unfold Acp;rw[A0g];have e1:(256*i'+i) / 256=i':=by omega
   have e2:(256*i'+i) % 256=i:=by omega
   rw[e1,e2,e7]
 let NEW:=(KG (b2 d) 16 sg.J7 rs 0).2.2++(La (MR fet) (rs.drop sg.J7.length) bxs 0).2.2;let BX:=(La (MR fet) (rs.drop sg.J7.length) bxs 0).2.1;let objsF:=JH (KC (JH st.Jr (upd++BX)) del) NEW;have hnewO: ∀ p∈NEW,J3 objsF p.1=some p.2:=λp hp=>sQ hnd hp
 have hBXk: ∀ i z,(i,z)∈BX-> ∃(j:Nat) (p:Nat×Sh),bxs[j]? =some p/\p.1=i/\ ∃ r,z=(Om (MR fet p.1) p.2 r).2.1:=by
  intro i z hz
  have: ∀(bs:List (Nat×Sh)) (j0:Nat),(i,z)∈(La (MR fet) (rs.drop sg.J7.length) bs j0).2.1-> ∃(j:Nat) (p:Nat×Sh),bs[j]? =some p/\p.1=i/\ ∃ r,z=(Om (MR fet p.1) p.2 r).2.1:=by
   intro bs
   induction bs with
   | nil=>intro j0 h;simp [La]at h
   | cons b bs ih =>
    intro j0 h;obtain⟨q,ks⟩:=b;simp only[La]at h;rcases D7.1 h with h | h
    .injection h with h1 h2;exact⟨0,(q,ks),rfl,h1.symm,_,h2⟩
    .obtain⟨j,p,h1,h2⟩:=ih (j0+1) h;exact⟨j+1,p,by simpa using h1,h2⟩
  exact this bxs 0 hz
 have hupdk: ∀ i z,(i,z)∈upd->(∃ e l f,z= .arr e true l/\J3 st.Jr i=some (.arr e f l))/\J3 (JH st.Jr upd) i=some z:=by intro i z hz;obtain⟨e,fz,l,k1,k2⟩:=g3 _ hz;dsimp only at k1 k2;refine⟨⟨e,l,fz,k2,k1⟩,?_⟩;obtain⟨x,hx1,hx2⟩:=OA upd st.Jr i ⟨(i,z),hz,rfl⟩;obtain⟨e',fz',l',k3,k4⟩:=g3 _ hx1;dsimp only at k3 k4;rw[k1]at k3;injection k3 with k3;injection k3 with q1 q2 q3;subst q1;subst q3;rw[hx2,k4,k2]
 have hnoBX: ∀ i,(∃ e f l,J3 st.Jr i=some (.arr e f l))-> ∀ y,(i,y)∉BX:=by rintro i ⟨e,f',l,h⟩ y hy;obtain⟨j,p,h1,h2,_⟩:=hBXk i y hy;obtain⟨⟨y',h3,h4⟩,_⟩:=hbx j p h1;rw[h2,h]at h3;injection h3 with h3;subst h3;exact AaQ h4
 have hTiff: ∀ i,T i->i∈del\/ ∃ y,(i,y)∈BX:=by
  rintro i ⟨n,hn'⟩;have h1:(i,n)∈N:=Aa9 hn';have h2:=(g4 i).2 (DK.2 ⟨_,h1,rfl⟩);rcases DN.1 h2 with h2 | h2
  .exact .inl h2
  .right;rw[<- Ajd (MR fet) (rs.drop sg.J7.length) bxs 0]at h2;obtain⟨q,hq1,hq2⟩:=DK.1 h2;exact⟨q.2,by rw[<- hq2];exact hq1⟩
 have hget: ∀ i z,J3 objsF i=some z->(i,z)∈NEW\/(¬ Nw i/\i∉del/\((i,z)∈BX\/((∀ y,(i,y)∉BX)/\J3 (JH st.Jr upd) i=some z))):=by
  intro i z hz;rcases Ye hz with h | ⟨hno,hnd',h⟩
  .exact .inl h
  .have hni: ¬ Nw i:=by rintro ⟨p,hp,rfl⟩;exact hno p.2 hp
   refine .inr ⟨hni,hnd',?_⟩;rcases h with h | ⟨h1,h2⟩
   .rcases DN.1 h with h | h
    .obtain⟨⟨e,l,f',h3,h4⟩,h5⟩:=hupdk i z h;exact .inr ⟨hnoBX i ⟨e,f',l,h4⟩,h5⟩
    .exact .inl h
   .right;refine⟨λy hy=>h1 y (DF _ hy),?_⟩;rw[Nl _ _ _ (λp hp e=>h1 p.2 (DJ _ (by rw[<- e];exact hp)))];exact h2
 have hbxst: ∀ i z,(i,z)∈BX-> ∃ y,J3 st.Jr i=some y/\J3 (JH st.Jr upd) i=some y/\y.shp=z.shp:=by
  intro i z hz;obtain⟨j,p,h1,h2,r,h4⟩:=hBXk i z hz;obtain⟨⟨y,h3,h5⟩,_⟩:=hbx j p h1;rw[h2]at h3;refine⟨y,h3,?_,by rw[h4];exact Atl h5⟩;rw[Nl _ _ _ (λp hp e=> ?_)]
  .exact h3
  .obtain⟨⟨e1,e2,e3,_,h6⟩,_⟩:=hupdk p.1 p.2 hp;rw[e,h3]at h6;injection h6 with h6;rw[h6]at h5;exact AaQ h5
 have hE:TC (JH st.Jr upd) m objsF m2 Nw:=by
  intro i z hz;rcases hget i z hz with h | ⟨h1,h2,h | ⟨h3,h4⟩⟩
  .exact .inl ⟨_,h,rfl⟩
  .obtain⟨y,h5,h6,h7⟩:=hbxst i z h;exact .inr ⟨y,h6,h7,hm2not i h1⟩
  .exact .inr ⟨z,h4,rfl,hm2not i h1⟩
 obtain⟨r1,r2,r3⟩:=AeJ (objs':=objsF) (m':=m2) (cid:=256000) (cst:=256) (id:=b2 d) (stride:=16) (f:=λk=>us.getD k undef) (g:=λk=>innerS w' (sg.J7.getD k (.agg [])) (us.getD k undef)) (rs:=rs) hpf hnone sg.J7 0 (λj _=>by rw[DV]) (λj hj=>by have:=hus3 j (by rw[hus1];exact hj);rw[DV];exact this) hrres hokD (λp hp=>hnewO p (DJ _ hp)) (λp hp=>hm2 p (DJ _ hp))
 obtain⟨s1,s2⟩:=AgB (rb:=MR fet) (objs':=objsF) (m':=m2) (val:=bval) (cid:=λj=>256*bi j) (rs:=rs.drop sg.J7.length) hpf hnone bxs 0 (λj p hp=>by
  obtain⟨⟨y0,h0,h0'⟩,h1,h2,h4,h5⟩:=hbx j p hp
  have hni: ¬ Nw p.1:=λh=>by
   have:=(hNw p.1 h).Jr;dsimp only at this;rw[Nl _ _ _ (λp' hp' e=> ?_)]at this
   .rw[h0]at this;cases this
   .obtain⟨⟨e1,e2,e3,_,h6⟩,_⟩:=hupdk p'.1 p'.2 hp';rw[e,h0]at h6;injection h6 with h6;rw[h6]at h0';exact AaQ h0'
  rw[DV];refine⟨h1,by rw[hm2not _ hni];exact h2,?_,h5⟩;rw[Dn,FK,<- Dn];exact h4) hokC (λp hp=>hnewO p (DF _ hp)) (λp hp=>hm2 p (DF _ hp))
 let vsR:=(KG (b2 d) 16 sg.J7 rs 0).2.1
 have hval:JC O2 objsF m2 w' v (AkB vsR):=by
  have hlen:vsR.length=us.size:=by rw[r1,hus1]
  rw[hus2];by_cases h1:us.size=1
  .rw[IG h1];obtain⟨x,hx'⟩: ∃ x,vsR=[x]:=Hf.1 (by rw[hlen];exact h1);rw[hx'];have:=(r2 0 (by rw[<- hus1];omega)).1;have e1:(KG (b2 d) 16 sg.J7 rs 0).2.1.getD 0 .undef=x:=by show vsR.getD 0 .undef=x;rw[hx'];rfl
   rw[e1]at this;have e2:us.getD (0+0) undef=us[0]:=by simp [Dv,show 0<us.size from by omega]
   rw[<- e2];exact this
  .rw[dif_neg h1]
   have e1:AkB vsR= .tup vsR:=by
    cases hv':vsR with
    | nil=>rfl
    | cons x l =>
     cases l with
     | nil=>rw[hv']at hlen;simp at hlen;omega
     | cons _ _=>rfl
   rw[e1];refine⟨us,rfl,hlen.symm,λj hj=> ?_⟩;have hj':j<sg.J7.length:=by rw[<- r1];exact hj
   have:=r2 j hj';rw[DV]at this;exact this.1.Ay3 this.2
 refine hn O2 m2 _ _ ?_;refine hS1.next (T:=T) (Nw:=Nw) (x:=AkB vsR) hM hP2 hless2 hE (λn hn'=>(hNw n hn').both) (λq hq=> ?_) (λi z hz=> ?_) rfl (λ_=>hval)
 .obtain⟨n,hn'⟩:=hq;have h1:(q,n)∈N:=Aa9 hn';have h2:=halive _ h1;obtain⟨y,hy⟩:=EG.1 h2;have h3:=hf _ _ hy;by_cases hu: ∃ p∈upd,p.1=q
  .obtain⟨x,_,hx2⟩:=OA upd st.Jr q hu;exact EG.2 ⟨x,hx2⟩
  .dsimp only;rw[Nl _ _ _ (λp hp e=>hu ⟨p,hp,e⟩)];exact EG.2 ⟨y,h3⟩
 .rcases hget i z hz with h | ⟨h1,h2,h | ⟨h3,h4⟩⟩
  .right;refine⟨?_,(hNw i ⟨_,h,rfl⟩).ne⟩;rcases DN.1 h with h | h
   .exact r3 _ h
   .exact s2 _ h
  .right;obtain⟨y,h5,h6,_⟩:=hbxst i z h;exact⟨s1 _ h,hS.ids i _ h5⟩
  .left;refine⟨λht=> ?_,h4,hm2not i h1⟩;rcases hTiff i ht with h | ⟨y,hy⟩
   .exact h2 h
   .exact h3 y hy
def AeS {c:Call} {f:Nat} {sg:Sig} {x0:Operand} {caps av:Array Value} (hS:Sim V0 O0 w0 O m st a w) (ho:o.op= .call c) (hcal:c.callee= .value x0) (hev:a.eval x0= .func (.func f) #[] caps) (hav:c.args.map a.eval++caps=av) (hsp:Spec P f sg) {d:Nat} {fet:Fet} (hf:P8 st.Jr fet) {xs:List A}
 (hl:xs.length=av.size) (hx: ∀ j,j<xs.length->JC O st.Jr m w (av.getD j undef) (xs.getD j .undef))
 (hok:J6 (Oy fet d sg xs).ok) (hfr: ∀ p∈(Oy fet d sg xs).new,st.fresh p.1=true) (hnd:nodup ((Oy fet d sg xs).new.map (·.1))=true):Good P V0 O0 w0 (apply st o (Oy fet d sg xs)) o a w:=by
 intro next Q hn
 unfold Oper.wp;have hexec:(execOp a.eval o).run P w= .ok (.enter f av) w:=by simp only[execOp,ho,resolve,hcal,hev,Deferred.ofValue,DL,Sem.run_pure,Result.andThen_ok,invoke];have:=hsp.1 av w;simpa [hav]using this
 rw[hexec,Oper.upon_enter];exact Aik (o:=o) (X:=λR=>Calls P f av w λe w'=> ∃ v,e= .returned v/\R v w') hS (λR O xs rs _ h1 h2 h3 h4 h5 h6 h7=>(hsp.2 O w av xs rs h1 h2 h3 h4 h5 h6).mono λe w' ⟨v,O',he,hc⟩=>⟨v,he,h7 v O' w' hc⟩) hf hl hx hok hfr hnd (λv w'=>next (a.put o.dst v) w') (λO' m' v w' h=>hn O' m' _ w' h) |>.mono (by rintro e w' ⟨v,rfl,h⟩;exact h)
def Aim {c:Call} {f:Nat} {sg:Sig} {x0:Operand} (hS:Sim V0 O0 w0 O m st a w) (ho:o.op= .call c) (hcal:c.callee= .value x0) (hev:a.eval x0= .func (.func f) #[] #[]) (hsp:Spec P f sg) {d:Nat} {fet:Fet} (hf:P8 st.Jr fet) {xs:List A}
 (hl:xs.length=c.args.size) (hx: ∀ j,j<xs.length->JC O st.Jr m w (a.eval (c.args.getD j (.tmp 0))) (xs.getD j .undef))
 (hok:J6 (Oy fet d sg xs).ok) (hfr: ∀ p∈(Oy fet d sg xs).new,st.fresh p.1=true) (hnd:nodup ((Oy fet d sg xs).new.map (·.1))=true):Good P V0 O0 w0 (apply st o (Oy fet d sg xs)) o a w:=by
 refine AeS (av:=c.args.map a.eval) hS ho hcal hev (by simp) hsp hf (by simpa using hl) (λj hj=> ?_) hok hfr hnd;have hjs:j<c.args.size:=by rw[<- hl];exact hj
 have e:(c.args.map a.eval).getD j undef=a.eval (c.args.getD j (.tmp 0)):=by simp [Dv,hjs]
 rw[e];exact hx j hj
end
section
variable {P:Program} {C:Ctx} {V0:Nat->Value} {O0 O:Own} {w0 w:World} {m:Nat->Value} {st:St} {a:Act} {o:Oper}
def Arf {cs:List A} {r:Nat} (h:Ard cs=some r):cs=[.ptr r 0]:=by unfold Ard at h;all_goals grind[split]
def Au5 {f:Nat} {x:Operand} (hS:Sim V0 O0 w0 O m st a w) (ho:o.op= .makeFunc (.func f) #[] #[x]) {fet:Fet} (hf:P8 st.Jr fet) {x':A} (hx:JC O st.Jr m w (a.eval x) x') (hok:J6 (AgN fet f x').ok) :
 Good P V0 O0 w0 (apply st o (AgN fet f x')) o a w:=by
 intro next Q hn
 have hF:FOk O st.Jr m w fet:=λq x h=>⟨hf q x h,hS.Jr q x (hf q x h)⟩
 cases x' with
 | ptr q off =>
  unfold AgN at hok hn;dsimp only at hok hn;obtain⟨cs,hb,he⟩:=JU hok;rw[he]at hok hn;clear he;obtain⟨r,hr,he⟩:=JU hok;rw[he]at hok hn;clear he;have h0:=Dx hok.cons.1;subst h0;obtain rfl:=Arf hr;obtain⟨b,base,g1,g2,g3⟩:=hx.ptr hF (Lj hb);obtain⟨k1,k2,u,k3,k4⟩:=g3 0 (by simp);rw[Nat.add_zero]at k1 k3 g2;let O':Own:=λb' k'=>if b'=b/\k'=base then none else O b' k';have hO': ∀ b' k',O' b' k'=if b'=b/\k'=base then none else O b' k':=λ_ _=>rfl;have hrun:(execOp a.eval o).run P w= .ok (.value (.func (.func f) #[] #[a.eval x])) w:=by simp [execOp,ho,Instr.makeFunc]
  unfold Oper.wp;rw[hrun,Oper.upon_value];refine hn O' m _ _ ?_;have hP:Passes O O' (· =q) w.heap.size:=by refine⟨λb' k' _ h=> ?_,λb' k' o' _ h ht=> ?_⟩;all_goals grind[split]
  have hget: ∀ i y,J3 (apply st o {ok:=[Nat.beq 0 0],val:=.clo (f+1) r,del:=[q]}).Jr i=some y->i≠q/\J3 st.Jr i=some y:=by
   intro i y hy;rcases Ye hy with h | ⟨_,h2,h | ⟨_,h⟩⟩
   .cases h
   .cases h
   .exact⟨λe=>h2 (by rw[e];exact Dy),h⟩
  refine hS.next (T:=(· =q)) (Nw:=λ_=>False) (Moves.refl O _ w) hP (λb' k' _ h h'=>h (by rw[hO',h'];split<;>rfl)) (λi y hy=>.inr ⟨y,(hget i y hy).2,rfl,rfl⟩) (λ_ h=>h.elim)
   (λo' h=>by rw[h,hf _ _ (Lj hb)];rfl) (λi y hy=>.inl ⟨(hget i y hy).1,(hget i y hy).2,rfl⟩) rfl (λ_=> ?_)
  show JG O' _ m w _ (.clo (f+1) r);have k4:JG O st.Jr m w u (.ptr r 0):=k4;refine⟨rfl,u,k4.1,⟨b,base,by rw[g2];rfl,by rw[hO',Du ⟨rfl,rfl⟩],k3⟩,?_⟩;cases hr':J3 (apply st o {ok:=[Nat.beq 0 0],val:=.clo (f+1) r,del:=[q]}).Jr r with
  | none=>trivial
  | some y =>
   have hy:=(hget r y hr').2;cases y with
   | box cs' =>have k4:=k4.2;rw[hy]at k4;exact k4
   | _=>trivial
 | _=>exact(JJ hok).elim
def AuM {C:Ctx} {d:TypeDesc}: ∀(xs:List (Nat×A)) (cs cs':List A),fill C d xs cs=some cs'-> ∀ i∈cs'.flatMap A.Nu,i∈cs.flatMap A.Nu\/ ∃ x∈xs,i∈x.2.ids:=by
 intro xs
 induction xs with
 | nil=>intro cs cs' h i hi;simp only[fill]at h;injection h with h;rw[h];exact .inl hi
 | cons x xs ih =>
  intro cs cs' h i hi;obtain⟨k,x⟩:=x;simp only[fill]at h;cases hp:Acf C d k with
  | none=>rw[hp]at h;cases h
  | some q =>
   obtain⟨off,ti⟩:=q;rw[hp]at h;dsimp only at h;cases hb:(x.isVal&&Nat.beq x.cells.length ti.cs.length&&Nat.ble (off+ti.cs.length) cs.length)with
   | false=>rw[hb]at h;cases h
   | true =>
    rw[hb]at h;simp only[cond_true]at h;simp only[Dw]at hb;rcases ih _ _ h i hi with h1 | ⟨y,h1,h2⟩
    .unfold splice at h1;simp only[List.flatMap_append,DN]at h1;rcases h1 with (h1 | h1) | h1
     .left;obtain⟨c,hc,hci⟩:=Eg.1 h1;exact Eg.2 ⟨c,Gm hc,hci⟩
     .right;refine⟨(k,x),Dy,?_⟩;obtain⟨c,hc,hci⟩:=Eg.1 h1;obtain⟨j,hj,rfl⟩:=FP.1 hc;all_goals grind[zT]
     .left;obtain⟨c,hc,hci⟩:=Eg.1 h1;exact Eg.2 ⟨c,FT hc,hci⟩
    .exact .inr ⟨y,Dz _ h1,h2⟩
def Au1 {t n:Nat} {ps:Array (Nat×Operand)} (hC:TOk P C) (hS:Sim V0 O0 w0 O m st a w) {d:Tmp} (hd:o.dst=some d) (ho:o.op= .buildSlice t n ps) {xs:List (Nat×A)}
 (hl:xs.length=ps.size) (hx: ∀(j:Nat) (x:Nat×A) (p:Nat×Operand),xs[j]? =some x->ps[j]? =some p->p.1=x.1/\JC O st.Jr m w (a.eval p.2) x.2)
 (hids: ∀ x∈xs,∀ i∈x.2.ids,i∈st.ids\/(J3 st.Jr i).isSome)
 (hok:J6 (zN C d t n xs).ok) (hfr: ∀ p∈(zN C d t n xs).new,st.fresh p.1=true) (hnd:nodup ((zN C d t n xs).new.map (·.1))=true):Good P V0 O0 w0 (apply st o (zN C d t n xs)) o a w:=by
 unfold zN at *
 obtain⟨ti,e,te,ht,hte,hd',he⟩:=XM hok;rw[he]at hok hfr hnd ⊢;clear he;obtain⟨cs,hcs,he⟩:=JU hok;rw[he]at hok hfr hnd ⊢;clear he;obtain⟨h0,h1⟩:=hok.cons;have hn:=DR h1.cons.1;have hk:=Ai6 h0;have hk1:te.cs.length=1:=by rw[hk];rfl
 have hT:=hC.is hd';obtain⟨i,z,g1,g2,g3,g4,g5,g6⟩:=hT.i;have hu:=(hC.is ht).d;rw[hte]at hu;obtain⟨hz1,hz2⟩:=uU (O:=O) (w:=w) hT (by rw[g1];exact g4) (by rw[hk];rfl) (by rw[hk1];decide) n;rw[hk1,F6]at hz1
 have hz:RZ O st.Jr m w (zeros z (n*te.cs.length)) (List.replicate n .Mc):=by
  rw[hk1,F6];refine⟨by rw[hz1,Ee],λj hj=> ?_⟩;rw[Ee]at hj;obtain⟨u,k1,k2⟩:=hz2.2 j 0 (by simpa using hj) (by rw[hk1];decide);rw[hk1,F6,F6,Nat.add_zero]at k1;have e1:(zeros z n).getD j undef=u:=by rw[Dv,k1];rfl
  have e2:(List.replicate n A.Mc).getD j .undef= .Mc:=by simp [Dn,hj]
  rw[e1,e2];have e3:((List.replicate n (te.cs.map CK.Qo)).getD j []).getD 0 .undef= .Mc:=by simp [Dn,hj,hk,CK.Qo,CK.zero]
  rw[e3]at k2;exact k2
 obtain⟨vs',f1,f2⟩:=Al1 (O:=O) (Jr:=st.Jr) (m:=m) (w:=w) hC (d:=.array n e) (place:=λi=>some (i*te.cs.length,te.cs.length)) (λi p hp=>by
  simp only[kE,g1,Option.map_some]at hp;rw[<- hp];have:te.cs.length=_:=rfl;simp [g2]) xs (ps.map (fun(i,x)=>(i,a.eval x))).toList _ _ cs (by simp [hl]) (λj x p hxj hpj=>by
  simp only[Ik,Ep]at hpj;cases hq:ps.toList[j]? with
  | none=>rw[hq]at hpj;cases hpj
  | some q =>rw[hq]at hpj;injection hpj with hpj;subst hpj;exact hx j x q hxj (by simpa using hq)) hz hcs
 refine Aig (ks:=[]) (t:=e) (r:=.slice (some (at' w.heap.size 0)) n n) hS f2 (λj hj i hi=> ?_) hd ?_ (λO' objs' m' w' c hc hm=> ?_) hfr hnd
 .rcases AuM _ _ _ hcs i (Uy (f:=A.Nu) hj hi)with h | ⟨x,h2,h3⟩
  .obtain⟨c,hc,hci⟩:=Eg.1 h;rw[FO hc]at hci;cases hci
  .exact hids x h2 i h3
 .have hbig: ¬(16777216<n*te.cs.length):=by rw[hk1];omega
  simp only[execOp,ho,DL,Instr.buildSlice,Ew hu,Result.andThen_ok,hT.OX];rw[Dt (by simpa using hbig)];by_cases h0:n*te.cs.length=0
  .have hz0:(Array.range (n*te.cs.length)).map ((#[]:Array Value)[· % (#[]:Array Value).size]!)=zeros z (n*te.cs.length):=by simp [zeros,h0]
   simp only[Du h0,DL,Sem.run_pure,Result.andThen_ok,hz0,f1];rfl
  .simp only[Dt h0,DL,Sem.run_pure,Result.andThen_ok,zeroValue,typeInfo,run_program,g1,g4];have hz0:(Array.range (n*te.cs.length)).map (z.cells[· % z.cells.size]!)=zeros z (n*te.cs.length):=rfl;rw[hz0,f1];rfl
 .show JG O' objs' m' w' _ (.bsl (b2 d) n);refine⟨rfl,?_⟩;rw[hc];exact⟨w.heap.size,0,hm,rfl⟩
end
end Go.Proofs.YtacidcemomccpaaGreatDoor.Vm
