import Derived.Test.YtadefjgbcapakaaGreatDoorA7
import Derived.Calls
set_option linter.all false
namespace Go.Proofs.YtadefjgbcapakaaGreatDoor.Vm
open Classical
def IC (O:Own) (w:World) (id:Nat) (v:Value):A->Prop
  | .usl e l=>Ce O [] (fun _=>v) w id (.arr e true l)
  | a=>Ai O w v a
def IR (O:Own) (w:World) (id:Nat) (v:Value):A->Prop
  | .agg cs=> ∃ vs:Array Value,v= .agg vs/\vs.size=cs.length/\ ∀ j,j<cs.length->IC O w (id+1+j) (vs.getD j undef) (cs.getD j .undef)
  | .box cs=> ∃ b base,v= .pointer (some (at' b base))/\ ∀ j,j<cs.length->O b (base+j)=some id/\w.frozen? (at' b (base+j))=false/\ ∃ u,w.cell? (at' b (base+j))=some u/\IC O w (id+1+j) u (cs.getD j .undef)
  | .cbx k cs=> ∃ b base,OA O w k v (.pointer (some (at' b base)))/\ ∀ j,j<cs.length->O b (base+j)=some id/\w.frozen? (at' b (base+j))=false/\ ∃ u,w.cell? (at' b (base+j))=some u/\IC O w (id+1+j) u (cs.getD j .undef)
  | .ump l=>Ey O w id v l
  | a=>IC O w id v a
section
variable {P:Program} {C:Ctx} {V0:Nat->Value} {O0 O:Own} {w0 w:World} {m:Nat->Value} {st:St} {a:Act} {o:Oper}
theorem Ai.ic {id:Nat} {v:Value} {x:A} (h:Ai O w v x):IC O w id v x:=by cases h<;>first | exact .bool _ | exact .int _ _ | exact .str _ | exact .nil _ | exact .Cc | exact .fn _ | exact .QQ | exact Ai.sl0 _ _ | (rename_i vs a1 a2 a3;exact Ai.sl vs a1 a2 a3) | (rename_i h hn;exact Ai.sln h hn)
def Ew (O:Own) (ρ :Nat->Option Nat):Own:=fun b k=>match O b k with
  | none=>none
  | some o=>match ρ o with
    | some i=>some i
    | none=>some 255
theorem Lh {ρ :Nat->Option Nat} {b k:Nat}:Ew O ρ b k=none↔O b k=none:=by
  unfold Ew
  cases O b k with
  | none=>simp
  | some o=>cases h: ρ o<;>simp [h]
theorem OZ {ρ :Nat->Option Nat} {b k o i:Nat} (h:O b k=some o) (hr: ρ o=some i):Ew O ρ b k=some i:=by
  unfold Ew;rw[h];simp [hr]
theorem Lj (ρ :Nat->Option Nat):DN O w (Ew O ρ) w:=fun _ _ _ h hc=>⟨Lh.2 h,hc⟩
theorem Ce.Ew {ρ :Nat->Option Nat} {q i e:Nat} {l:Sl} {Aa objs':List (Nat×Obj)} {m m':Nat->Value} (h:Ce O Aa m w q (.arr e true l)) (hr: ρ q=some i) (hm:m' i=m q) :
    Ce (Ew O ρ) objs' m' w i (.arr e true l):=by
  refine⟨h.1,?_⟩
  rcases h.2 with ⟨h1,h2,h3⟩ | ⟨h1,g,cap,cur,h2,h3,h4,h5,h6,h7,h8,h9⟩
  ·exact .inl ⟨h1,h2,by rw[hm];exact h3⟩
  ·refine .inr ⟨h1,g,cap,cur,by rw[hm];exact h2,h3,h4,h5,h6,fun r j hr' hj=> ?_,fun k hk hge=>OZ (h8 k hk hge) hr,fun k hk=> ?_⟩
   ·obtain⟨u,h10,h11⟩:=h7 r j hr' hj
    exact⟨u,h10,h11.AX (Lj ρ)⟩
   ·have:=h9 k hk
    simp only[if_true]at this ⊢
    exact Lh.2 this
theorem Jd {fet:Fet} (hf:EZ st.Aa fet): ∀(ks:List (Bool×CK)) (cs:List A) (id:Nat) (f:Nat->Value),(∀ j,j<cs.length->Au O st.Aa m w (f j) (cs.getD j .undef))->Ak (Aw fet ks cs).1 ->
    (Aw fet ks cs).2.1.length=ks.length/\cs.length=ks.length/\Frz st.Aa (Aw fet ks cs).2.2.1/\(Aw fet ks cs).2.2.2=(Dc id ks cs).map (·.1) /\
    ∀ {O':Own} {objs':List (Nat×Obj)} {ρ :Nat->Option Nat},DN O w O' w->(∀ p∈(Aw fet ks cs).2.2.1,∀ e l,p.2= .arr e true l->Ai O' w (m p.1) (.sl l)) ->
      (∀ p∈(Aw fet ks cs).2.2.1,Ce O' objs' m w p.1 p.2)->(∀ p∈Dc id ks cs,ρ p.1=some p.2) ->
      ∀ j,j<ks.length->IC (Ew O' ρ) w (id+j) (f j) ((Aw fet ks cs).2.1.getD j .undef):=by
  intro ks
  induction ks with
  | nil =>
    intro cs id f _ hok
    cases cs with
    | nil=>exact⟨rfl,rfl,(fun p hp=>by simp [Aw]at hp),rfl,fun _ _ _ _ j hj=>by simp at hj⟩
    | cons _ _=>have:=hok false (by simp [Aw]);cases this
  | cons k ks ih =>
    intro cs id f h hok
    obtain⟨u,k⟩:=k
    cases cs with
    | nil=>have:=hok false (by cases u<;>simp [Aw]);cases this
    | cons c cs =>
      have hrest:=fun hok2=>ih cs (id+1) (fun j=>f (j+1)) (fun j hj=>by simpa using h (j+1) (by simpa using hj)) hok2
      cases u with
      | false =>
        simp only[Aw]at hok ⊢
        obtain⟨hok1,hok2⟩:=hok.append
        obtain⟨h1,h2⟩:=vZ hf (h 0 (by simp)) hok1
        obtain⟨h3,h4,h5,h6,h7⟩:=hrest hok2
        have hnames:Dc id ((false,k)::ks) (c::cs)=Dc (id+1) ks cs:=by cases c<;>rfl
        refine⟨by simp [h3],by simp [h4],h1.append h5,by rw[hnames];exact h6,fun {O' objs' ρ} hp hv hO hρ j hj=> ?_⟩
        rw[hnames]at hρ
        cases j with
        | zero =>
          have hvr:=(h2 hp (fun p hp=>hv p (List.mem_append_left _ hp))).AX (Lj ρ)
          exact hvr.ic
        | succ j =>
          have:=h7 hp (fun p hp=>hv p (List.mem_append_right _ hp)) (fun p hp=>hO p (List.mem_append_right _ hp)) hρ j (by simpa using hj)
          rw[show id+(j+1)=id+1+j from by omega]
          simpa using this
      | true =>
        cases k with
        | sl e sz =>
          cases c with
          | own q =>
            simp only[Aw]at hok ⊢
            cases hg:Ag fet q with
            | none=>rw[hg]at hok;have:=hok false (by simp);cases this
            | some x =>
              cases x with
              | box _=>rw[hg]at hok;have:=hok false (by simp);cases this
              | mp _=>rw[hg]at hok;have:=hok false (by simp);cases this
              | arr e' fz l =>
                rw[hg]at hok
                dsimp only at hok ⊢
                obtain⟨hok1,hok2⟩:=hok.append
                obtain⟨e1,e2⟩:=hok1.cons
                have e1:=Nat.eq_of_beq_eq_true e1
                subst e1
                obtain⟨h3,h4,h5,h6,h7⟩:=hrest hok2
                have hq:=hf q _ hg
                refine⟨by simp [h3],by simp [h4],fun p hp=> ?_,?_,fun {O' objs' ρ} hp hv hO hρ j hj=> ?_⟩
                ·rcases List.mem_cons.1 hp with rfl | hp
                 ·exact⟨e,fz,l,hq,rfl⟩
                 ·exact h5 p hp
                ·simp only[Dc,List.map_cons,h6]
                ·cases j with
                 | zero =>
                   have hc:Au O st.Aa m w (f 0) (.own q):=h 0 (by simp)
                   have hc:=hc.2
                   rw[hq]at hc
                   simp only[Option.map_some,Obj.shp]at hc
                   have:=hO _ List.mem_cons_self
                   exact this.Ew (objs':=[]) (m':=fun _=>f 0) (hρ (q,id) List.mem_cons_self) hc
                 | succ j =>
                   have:=h7 hp (fun p hp=>hv p (List.mem_cons_of_mem _ hp)) (fun p hp=>hO p (List.mem_cons_of_mem _ hp)) (fun p hp=>hρ p (List.mem_cons_of_mem _ hp)) j (by simpa using hj)
                   rw[show id+(j+1)=id+1+j from by omega]
                   simpa using this
          | BU =>
            simp only[Aw]at hok ⊢
            obtain⟨h3,h4,h5,h6,h7⟩:=hrest hok
            have hnames:Dc id ((true,.sl e sz)::ks) (.BU::cs)=Dc (id+1) ks cs:=rfl
            refine⟨by simp [h3],by simp [h4],h5,by rw[hnames];exact h6,fun {O' objs' ρ} hp hv hO hρ j hj=> ?_⟩
            rw[hnames]at hρ
            cases j with
            | zero =>
              have hc:Au O st.Aa m w (f 0) .BU:=h 0 (by simp)
              have hc:f 0= .slice none 0 0:=hc
              show Ce _ [] (fun _=>f 0) w _ (.arr e true ⟨sz,[]⟩)
              exact⟨by simp [Sl.es],.inl ⟨trivial,rfl,hc⟩⟩
            | succ j =>
              have:=h7 hp hv hO hρ j (by simpa using hj)
              rw[show id+(j+1)=id+1+j from by omega]
              simpa using this
          | _=>have:=hok false (by simp [Aw]);cases this
        | _=>have:=hok false (by simp [Aw]);cases this
end
end Go.Proofs.YtadefjgbcapakaaGreatDoor.Vm
namespace Go.Proofs.YtadefjgbcapakaaGreatDoor.Vm
open Classical
section
variable {P:Program} {C:Ctx} {V0:Nat->Value} {O0 O:Own} {w0 w:World} {m:Nat->Value} {st:St} {a:Act} {o:Oper}
theorem uO {fet:Fet} (hf:EZ st.Aa fet) {s:Sh} {x:A} {v:Value} {id:Nat} (hx:Ap O st.Aa m w v x) (hS: ∀ q y,Ag st.Aa q=some y->Ce O st.Aa m w q y) (hok:Ak (AL fet s x).ok) :
    Frz st.Aa (AL fet s x).upd/\(∀ q∈(AL fet s x).del++(AL fet s x).boxes.map (·.1),q∈(Eb fet id s x).map (·.1))/\(∀ q∈(Eb fet id s x).map (·.1),q∈(AL fet s x).del++(AL fet s x).boxes.map (·.1)) /\
    (Bq s=true↔(AL fet s x).boxes≠ []) /\
    ∀ {O':Own} {objs':List (Nat×Obj)} {ρ :Nat->Option Nat},DN O w O' w->(∀ p∈(AL fet s x).upd,∀ e l,p.2= .arr e true l->Ai O' w (m p.1) (.sl l)) ->
      (∀ p∈(AL fet s x).upd,Ce O' objs' m w p.1 p.2)->(∀ b k q,O b k=some q->NR st.Aa q->O' b k=some q)->(∀ p∈Eb fet id s x,ρ p.1=some p.2) ->
      IR (Ew O' ρ) w id v (AL fet s x).a:=by
  cases s with
  | cell u k =>
    unfold AL at *
    dsimp only at hok ⊢
    have hall: ∀ hc:Au O st.Aa m w v x,_:=fun hc=>Jd hf [(u,k)] [x] id (fun _=>v) (fun j hj=>by
      have:j=0:=by simpa using hj
      subst this;exact hc)
    have hnc: ∀(h:Ak (Aw fet [(u,k)] [x]).1),Au O st.Aa m w v x:=by
      intro h
      cases x with
      | undef=>cases u<;>cases k<;>(have:=h false (by simp [Aw,pur]);cases this)
      | agg _=>cases u<;>cases k<;>(have:=h false (by simp [Aw,pur]);cases this)
      | tup _=>cases u<;>cases k<;>(have:=h false (by simp [Aw,pur]);cases this)
      | cnd _ _=>cases u<;>cases k<;>(have:=h false (by simp [Aw,pur]);cases this)
      | _=>exact hx
    generalize hh:Aw fet [(u,k)] [x]=r at *
    obtain⟨ok,cs,upd,del⟩:=r
    cases cs with
    | nil=>have:=hok false (by simp);cases this
    | cons c cs =>
      cases cs with
      | cons _ _=>have:=hok false (by simp);cases this
      | nil =>
        dsimp only at hok ⊢
        obtain⟨h1,h2,h3,h4,h5⟩:=hall (hnc hok) hok
        have h4:del=(Dc id [(u,k)] [x]).map (·.1):=h4
        refine⟨h3,fun q hq=> ?_,fun q hq=> ?_,⟨(fun h=>by cases h),fun h=>absurd rfl h⟩,fun {O' objs' ρ} hp hv hO _ hρ => ?_⟩
        ·simp only[List.map_nil,List.append_nil]at hq;rw[h4]at hq;exact hq
        ·simp only[List.map_nil,List.append_nil];rw[h4];exact hq
        ·have:=h5 hp hv hO hρ 0 (by simp)
         have e: [c].getD 0 .undef=c:=rfl
         dsimp only at this
         rw[e]at this
         cases c<;>first | exact this | cases this
  | agg ks =>
    cases x with
    | agg cs =>
      unfold AL at *
      dsimp only at hok ⊢
      obtain⟨vs,g1,g2,g3⟩:=hx
      obtain⟨h1,h2,h3,h4,h5⟩:=Jd hf ks cs (id+1) (fun j=>vs.getD j undef) g3 hok
      refine⟨h3,fun q hq=> ?_,fun q hq=> ?_,⟨(fun h=>by cases h),fun h=>absurd rfl h⟩,fun {O' objs' ρ} hp hv hO _ hρ => ?_⟩
      ·simp only[List.map_nil,List.append_nil]at hq;rw[h4]at hq;exact hq
      ·simp only[List.map_nil,List.append_nil];rw[h4];exact hq
      ·exact⟨vs,g1,by rw[g2,h1,h2],fun j hj=>h5 hp hv hO hρ j (by rw[<- h1];exact hj)⟩
    | _=>have:=hok false (by simp [AL]);cases this
  | box ks =>
    cases x with
    | ptr q off =>
      unfold AL at *
      dsimp only at hok ⊢
      cases hg:Eh fet q with
      | none=>rw[hg]at hok;have:=hok false (by simp);cases this
      | some cs =>
            rw[hg]at hok
            dsimp only at hok ⊢
            obtain⟨ho0,hokA⟩:=hok.cons
            obtain⟨_,hokB⟩:=hokA.cons
            have ho0:=Nat.eq_of_beq_eq_true ho0
            subst ho0
            have hq:=hf q _ (CB hg)
            obtain⟨b,base,g1,g2⟩:=hS q _ hq
            have hv0:v= .pointer (some (at' b base)):=by
              have hc:Au O st.Aa m w v (.ptr q 0):=hx
              have hc:=hc.2
              rw[hq]at hc
              simp only[Option.map_some,Obj.shp]at hc
              obtain⟨b',base',g3,g4⟩:=hc
              rw[g1]at g3;injection g3 with g3;injection g3 with g3;injection g3 with e1 e2
              subst e1;subst e2;exact g4
            let f:Nat->Value:=fun j=>(w.cell? (at' b (base+j))).getD undef
            have hfc: ∀ j,j<cs.length->w.cell? (at' b (base+j))=some (f j)/\Au O st.Aa m w (f j) (cs.getD j .undef):=by
              intro j hj
              obtain⟨_,_,u,h3,h4⟩:=g2 j hj
              have:f j=u:=by show(w.cell? _).getD _=_;rw[h3];rfl
              rw[this];exact⟨h3,h4⟩
            obtain⟨h1,h2,h3,h4,h5⟩:=Jd hf ks cs (id+1) f (fun j hj=>(hfc j hj).2) hokB
            have hnames:Eb fet id (.box ks) (.ptr q 0)=(q,id)::Dc (id+1) ks cs:=by simp only[Eb,hg]
            rw[hnames]
            refine⟨h3,fun r hr=> ?_,fun r hr=> ?_,⟨fun _=>by simp,fun _=>rfl⟩,fun {O' objs' ρ} hp hv hO hbx hρ => ?_⟩
            ·simp only[List.map_cons,List.map_nil,List.mem_append,List.mem_singleton]at hr
             rcases hr with hr | hr
             ·rw[h4]at hr;exact List.mem_cons_of_mem _ hr
             ·rw[hr];exact List.mem_cons_self
            ·simp only[List.map_cons,List.map_nil,List.mem_append,List.mem_singleton]
             rcases List.mem_cons.1 hr with hr | hr
             ·exact .inr hr
             ·left;rw[h4];exact hr
            ·refine⟨b,base,hv0,fun j hj=> ?_⟩
             rw[h1]at hj
             obtain⟨k1,k2,u,k3,_⟩:=g2 j (by rw[h2];exact hj)
             refine⟨OZ (hbx _ _ _ k1 (.of hq (fun _ _ _ h=>by cases h))) (hρ (q,id) List.mem_cons_self),k2,f j,(hfc j (by rw[h2];exact hj)).1,h5 hp hv hO (fun p hp'=>hρ p (List.mem_cons_of_mem _ hp')) j hj⟩
    | _=>have:=hok false (by simp [AL]);cases this
  | clo f' ks =>
    cases x with
    | clo g q =>
      unfold AL at *
      dsimp only at hok ⊢
      cases hg:Eh fet q with
      | none=>rw[hg]at hok;have:=hok false (by simp);cases this
      | some cs =>
            rw[hg]at hok
            dsimp only at hok ⊢
            obtain⟨ho0,hokA⟩:=hok.cons
            obtain⟨_,hokB⟩:=hokA.cons
            have ho0:=Nat.eq_of_beq_eq_true ho0
            subst ho0
            have hq:=hf q _ (CB hg)
            obtain⟨b,base,g1,g2⟩:=hS q _ hq
            have hv0:OA O w f' v (.pointer (some (at' b base))):=by
              have hc:Au O st.Aa m w v (.clo f' q):=hx
              obtain⟨_,p,_,hc2,hc⟩:=hc
              rw[hq]at hc
              obtain⟨b',base',e1,e2⟩:=hc
              rw[g1]at e1
              rw[e1,<- e2];exact hc2
            let f:Nat->Value:=fun j=>(w.cell? (at' b (base+j))).getD undef
            have hfc: ∀ j,j<cs.length->w.cell? (at' b (base+j))=some (f j)/\Au O st.Aa m w (f j) (cs.getD j .undef):=by
              intro j hj
              obtain⟨_,_,u,h3,h4⟩:=g2 j hj
              have:f j=u:=by show(w.cell? _).getD _=_;rw[h3];rfl
              rw[this];exact⟨h3,h4⟩
            obtain⟨h1,h2,h3,h4,h5⟩:=Jd hf ks cs (id+1) f (fun j hj=>(hfc j hj).2) hokB
            have hnames:Eb fet id (.clo f' ks) (.clo f' q)=(q,id)::Dc (id+1) ks cs:=by simp only[Eb,hg]
            rw[hnames]
            refine⟨h3,fun r hr=> ?_,fun r hr=> ?_,⟨fun _=>by simp,fun _=>rfl⟩,fun {O' objs' ρ} hp hv hO hbx hρ => ?_⟩
            ·simp only[List.map_cons,List.map_nil,List.mem_append,List.mem_singleton]at hr
             rcases hr with hr | hr
             ·rw[h4]at hr;exact List.mem_cons_of_mem _ hr
             ·rw[hr];exact List.mem_cons_self
            ·simp only[List.map_cons,List.map_nil,List.mem_append,List.mem_singleton]
             rcases List.mem_cons.1 hr with hr | hr
             ·exact .inr hr
             ·left;rw[h4];exact hr
            ·refine⟨b,base,(hv0.AX hp).AX (Lj ρ),fun j hj=> ?_⟩
             rw[h1]at hj
             obtain⟨k1,k2,u,k3,_⟩:=g2 j (by rw[h2];exact hj)
             refine⟨OZ (hbx _ _ _ k1 (.of hq (fun _ _ _ h=>by cases h))) (hρ (q,id) List.mem_cons_self),k2,f j,(hfc j (by rw[h2];exact hj)).1,h5 hp hv hO (fun p hp'=>hρ p (List.mem_cons_of_mem _ hp')) j hj⟩
    | _=>have:=hok false (by simp [AL]);cases this
  | map kt vt =>
    cases x with
    | own q =>
      unfold AL at *
      dsimp only at hok ⊢
      cases hg:Ag fet q with
      | none=>rw[hg]at hok;have:=hok false (by simp);cases this
      | some y =>
        cases y with
        | box _=>rw[hg]at hok;have:=hok false (by simp);cases this
        | arr _ _ _=>rw[hg]at hok;have:=hok false (by simp);cases this
        | mp l =>
          rw[hg]at hok
          dsimp only at hok ⊢
          have hq:=hf q _ hg
          have hv0:v=m q:=by
            have hc:Au O st.Aa m w v (.own q):=hx
            have hc:=hc.2
            rw[hq]at hc
            exact hc
          refine⟨(fun p hp=>by cases hp),fun r hr=> ?_,fun r hr=> ?_,⟨fun _=>by simp,fun _=>rfl⟩,fun {O' objs' ρ} hp hv hO hbx hρ => ?_⟩
          ·simpa [Eb]using hr
          ·simpa [Eb]using hr
          ·obtain⟨r,es,ck,g1,g2,g3,g4,g5⟩:=(show Ey O w q (m q) l from hS q _ hq)
           refine⟨r,es,ck,by rw[hv0];exact g1,g2,OZ (hbx _ _ _ g3 (.of hq (fun _ _ _ h=>by cases h))) (hρ (q,id) List.mem_cons_self),g4,fun i p hip=> ?_⟩
           obtain⟨e,k1,k2,k3⟩:=g5 i p hip
           exact⟨e,k1,(k2.AX hp).AX (Lj ρ),(k3.AX hp).AX (Lj ρ)⟩
    | _=>have:=hok false (by simp [AL]);cases this
theorem NV {fet:Fet} (hf:EZ st.Aa fet) (hS: ∀ q y,Ag st.Aa q=some y->Ce O st.Aa m w q y) (stride:Nat): ∀(ss:List Sh) (xs:List A) (id:Nat) (f:Nat->Value),(∀ j,j<xs.length->Ap O st.Aa m w (f j) (xs.getD j .undef))->Ak (A8 fet ss xs).1 ->
    (A8 fet ss xs).2.1.length=ss.length/\xs.length=ss.length/\Frz st.Aa (A8 fet ss xs).2.2.1 /\
    (∀ q,q∈(A8 fet ss xs).2.2.2.1++(A8 fet ss xs).2.2.2.2.map (·.1)↔q∈(Dy fet id stride ss xs).map (·.1)) /\
    ∀ {O':Own} {objs':List (Nat×Obj)} {ρ :Nat->Option Nat},DN O w O' w->(∀ p∈(A8 fet ss xs).2.2.1,∀ e l,p.2= .arr e true l->Ai O' w (m p.1) (.sl l)) ->
      (∀ p∈(A8 fet ss xs).2.2.1,Ce O' objs' m w p.1 p.2)->(∀ b k q,O b k=some q->NR st.Aa q->O' b k=some q)->(∀ p∈Dy fet id stride ss xs,ρ p.1=some p.2) ->
      ∀ j,j<ss.length->IR (Ew O' ρ) w (id+stride*j) (f j) ((A8 fet ss xs).2.1.getD j .undef):=by
  intro ss
  induction ss with
  | nil =>
    intro xs id f _ hok
    cases xs with
    | nil=>exact⟨rfl,rfl,(fun p hp=>by simp [A8]at hp),(fun q=>by simp [A8,Dy]),fun _ _ _ _ _ j hj=>by simp at hj⟩
    | cons _ _=>have:=hok false (by simp [A8]);cases this
  | cons s ss ih =>
    intro xs id f h hok
    cases xs with
    | nil=>have:=hok false (by simp [A8]);cases this
    | cons x xs =>
      simp only[A8]at hok ⊢
      obtain⟨hok1,hok2⟩:=hok.append
      obtain⟨h1,h2,h3,_,h4⟩:=uO (id:=id) hf (h 0 (by simp)) hS hok1
      obtain⟨g1,g2,g3,g4,g5⟩:=ih xs (id+stride) (fun j=>f (j+1)) (fun j hj=>by simpa using h (j+1) (by simpa using hj)) hok2
      refine⟨by simp [g1],by simp [g2],h1.append g3,fun q=> ?_,fun {O' objs' ρ} hp hv hO hbx hρ j hj=> ?_⟩
      ·simp only[Dy,List.map_append,List.mem_append]
       have a1:=h2 q
       have a2:=h3 q
       have a3:=g4 q
       simp only[List.mem_append]at a1 a2 a3
       constructor
       ·rintro ((h | h) | (h | h))
        ·exact .inl (a1 (.inl h))
        ·exact .inr (a3.1 (.inl h))
        ·exact .inl (a1 (.inr h))
        ·exact .inr (a3.1 (.inr h))
       ·rintro (h | h)
        ·rcases a2 h with h | h
         ·exact .inl (.inl h)
         ·exact .inr (.inl h)
        ·rcases a3.2 h with h | h
         ·exact .inl (.inr h)
         ·exact .inr (.inr h)
      ·cases j with
       | zero=>simpa using h4 hp (fun p hp=>hv p (List.mem_append_left _ hp)) (fun p hp=>hO p (List.mem_append_left _ hp)) hbx (fun p hp=>hρ p (List.mem_append_left _ hp))
       | succ j =>
         have:=g5 hp (fun p hp=>hv p (List.mem_append_right _ hp)) (fun p hp=>hO p (List.mem_append_right _ hp)) hbx (fun p hp=>hρ p (List.mem_append_right _ hp)) j (by simpa using hj)
         rw[show id+stride*(j+1)=id+stride+stride*j from by rw[Nat.mul_add];omega]
         simpa using this
end
end Go.Proofs.YtadefjgbcapakaaGreatDoor.Vm
namespace Go.Proofs.YtadefjgbcapakaaGreatDoor.Vm
open Classical
def Agi:Value->Value
  | .func g fi caps=>caps.getD 0 (.func g fi caps)
  | v=>v
def deref (w:World):Value->Value
  | .pointer (some a)=>(w.cell? a).getD undef
  | _=>undef
def innerS (w:World):Sh->Value->Value
  | .clo _ _,v=>deref w (Agi v)
  | _,v=>v
theorem OA.inner {O:Own} {w:World} {k:Nat} {v p:Value} {ks:List (Bool×CK)} (h:OA O w k v p):innerS w (.clo k ks) v=p:=by
  obtain⟨b,j,h1,_,h3⟩:=h
  rw[h1]
  cases k<;>(show(w.cell? _).getD _=_;rw[h3];rfl)
def D8 (w:World) (v:Value):Nat->Value
  | 0=>v
  | x+1=>match v with
    | .agg vs=>vs.getD x undef
    | .pointer (some a)=>(w.cell? (at' a.block (a.off+x))).getD undef
    | _=>undef
section
variable {Oc O':Own} {w:World} {objs':List (Nat×Obj)} {m':Nat->Value}
theorem Ce.carry {Aa:List (Nat×Obj)} {m:Nat->Value} {c i e:Nat} {l:Sl} (h:Ce Oc Aa m w c (.arr e true l)) (hp:DN Oc w O' w) (hr: ∀ b k,Oc b k=some c->O' b k=some i) (hn: ∀ b k,Oc b k=none->O' b k=none) (hm:m' i=m c) :
    Ce O' objs' m' w i (.arr e true l):=by
  refine⟨h.1,?_⟩
  rcases h.2 with ⟨h1,h2,h3⟩ | ⟨h1,g,cap,cur,h2,h3,h4,h5,h6,h7,h8,h9⟩
  ·exact .inl ⟨h1,h2,by rw[hm];exact h3⟩
  ·refine .inr ⟨h1,g,cap,cur,by rw[hm];exact h2,h3,h4,h5,h6,fun r j hr' hj=> ?_,fun k hk hge=>hr _ _ (h8 k hk hge),fun k hk=> ?_⟩
   ·obtain⟨u,h10,h11⟩:=h7 r j hr' hj
    exact⟨u,h10,h11.AX hp⟩
   ·have:=h9 k hk
    simp only[if_true]at this ⊢
    exact hn _ _ this
theorem Ey.carry {c i:Nat} {v:Value} {l:Mp} (h:Ey Oc w c v l) (hp:DN Oc w O' w) (hr: ∀ b k,Oc b k=some c->O' b k=some i):Ey O' w i v l:=by
  obtain⟨r,es,ck,h1,h2,h3,h4,h5⟩:=h
  refine⟨r,es,ck,h1,h2,hr _ _ h3,h4,fun j p hj=> ?_⟩
  obtain⟨e,k1,k2,k3⟩:=h5 j p hj
  exact⟨e,k1,k2.AX hp,k3.AX hp⟩
theorem UC {kt vt:Ty} {a:A} (h:a.UB kt vt=true): ∃ l,a= .ump l/\l.kt=kt/\l.vt=vt:=by
  cases a with
  | ump l =>
    have h':(decide (l.kt=kt)&&decide (l.vt=vt))=true:=h
    simp only[Bool.and_eq_true,decide_eq_true_eq]at h'
    exact⟨l,rfl,h'.1,h'.2⟩
  | _=>cases h
theorem yD {id:Nat} {k:CK} {v:Value} {c:A} (h:IC Oc w id v c) (hp:DN Oc w O' w) (hok:Ak (force k c).1):Au O' objs' m' w v (force k c).2:=by
  cases c with
  | usl e l =>
    cases k with
    | oth =>
      rcases h.2 with ⟨_,_,h3⟩ | ⟨_,g,cap,cur,h2,_⟩
      ·show v.oneCell'=true
       have h3:v=_:=h3
       rw[h3];rfl
      ·show v.oneCell'=true
       have h2:v=_:=h2
       rw[h2];rfl
    | mp _ _=>have:=hok.cons.1;cases this
    | _=>have:=hok.cons.1;simp [A.isB,A.isI,A.isS,A.uT,A.rG,A.Xv,A.isFn]at this
  | _=>exact Xr (Ai.AX hp h) hok
theorem Gy {cid id:Nat} {f:Nat->Value} (hp:DN Oc w O' w) (hn: ∀ b k,Oc b k=none->O' b k=none): ∀(ks:List (Bool×CK)) (cs:List A) (j0:Nat),(∀ j,j<ks.length->IC Oc w (cid+(j0+j)) (f (j0+j)) (cs.getD (j0+j) .undef)) ->
    (∀ b k x,x<j0+ks.length->Oc b k=some (cid+x)->O' b k=some (id+x))->Ak (AO id ks cs j0).1->(∀ p∈(AO id ks cs j0).2.2,Ag objs' p.1=some p.2)->(∀ p∈(AO id ks cs j0).2.2,∀ x,p.1=id+x->m' p.1=f x) ->
    (AO id ks cs j0).2.1.length=ks.length/\(∀ j,j<ks.length->Au O' objs' m' w (f (j0+j)) ((AO id ks cs j0).2.1.getD j .undef))/\ ∀ p∈(AO id ks cs j0).2.2,Ce O' objs' m' w p.1 p.2/\ ∃ x,p.1=id+x/\j0<=x/\x<j0+ks.length:=by
  intro ks
  induction ks with
  | nil=>intro cs j0 _ _ _ _ _;exact⟨rfl,fun j hj=>by simp at hj,fun p hp=>by simp [AO]at hp⟩
  | cons k ks ih =>
    intro cs j0 h hr hok hO hm
    obtain⟨u,k⟩:=k
    have h0:=h 0 (by simp)
    rw[Nat.add_zero]at h0
    have hrest:=fun hok2 hO2 hm2=>ih cs (j0+1) (fun j hj=>by have:=h (j+1) (by simpa using hj);rwa [show j0+(j+1)=j0+1+j from by omega]at this) (fun b k x hx=>hr b k x (by simp only[List.length_cons];omega)) hok2 hO2 hm2
    cases u with
    | false =>
      simp only[AO]at hok hO hm ⊢
      obtain⟨hok1,hok2⟩:=hok.append
      obtain⟨g1,g2,g3⟩:=hrest hok2 hO hm
      refine⟨by simp [g1],fun j hj=> ?_,fun p hp=> ?_⟩
      ·cases j with
       | zero=>exact yD h0 hp hok1
       | succ j =>
         have:=g2 j (by simpa using hj)
         rw[show j0+(j+1)=j0+1+j from by omega];simpa using this
      ·obtain⟨a1,x,a2,a3,a4⟩:=g3 p hp
       exact⟨a1,x,a2,by omega,by simp only[List.length_cons];omega⟩
    | true =>
      cases k with
      | sl e sz =>
        simp only[AO]at hok hO hm ⊢
        obtain⟨hok1,hok2⟩:=hok.cons
        obtain⟨g1,g2,g3⟩:=hrest hok2 (fun p hp=>hO p (List.mem_cons_of_mem _ hp)) (fun p hp=>hm p (List.mem_cons_of_mem _ hp))
        have hO0:=hO _ List.mem_cons_self
        have hm0:=hm _ List.mem_cons_self j0 rfl
        dsimp only at hO0 hm0
        have hc:cs.getD j0 .undef= .usl e (cs.getD j0 .undef).toL:=by
          generalize cs.getD j0 .undef=c at *
          cases c<;>simp only[A.Abb]at hok1<;>first | (cases hok1;done) | skip
          simp only[Bool.and_eq_true]at hok1
          rw[Nat.eq_of_beq_eq_true hok1.1];rfl
        rw[hc]at h0
        have hor:Ce O' objs' m' w (id+j0) (.arr e true (cs.getD j0 .undef).toL):=Ce.carry (show Ce Oc [] (fun _=>f j0) w (cid+j0) _ from h0) hp (fun b k hbk=>hr b k j0 (by simp) hbk) hn hm0
        refine⟨by simp [g1],fun j hj=> ?_,fun p hp=> ?_⟩
        ·cases j with
         | zero =>
           have hone:(f j0).oneCell'=true:=by
             rcases h0.2 with ⟨_,_,h3⟩ | ⟨_,g,cap,cur,h2,_⟩
             ·have h3:f j0=_:=h3
              rw[h3];rfl
             ·have h2:f j0=_:=h2
              rw[h2];rfl
           refine⟨hone,?_⟩
           show match (Ag objs' (id+j0)).map Obj.shp with | some (.arr _ _)=>_ | some .mp=>_ | _=>True
           rw[hO0]
           exact hm0.symm
         | succ j =>
           have:=g2 j (by simpa using hj)
           rw[show j0+(j+1)=j0+1+j from by omega];simpa using this
        ·rcases List.mem_cons.1 hp with rfl | hp
         ·exact⟨hor,j0,rfl,Nat.le_refl _,by simp⟩
         ·obtain⟨a1,x,a2,a3,a4⟩:=g3 p hp
          exact⟨a1,x,a2,by omega,by simp only[List.length_cons];omega⟩
      | _=>have:=hok false (by simp [AO]);cases this
theorem Ac2 {cid id:Nat} {s:Sh} {x:A} {v:Value} (hp:DN Oc w O' w) (hn: ∀ b k,Oc b k=none->O' b k=none) (h:IR Oc w cid v x) (hr: ∀ b k i,i<255->Oc b k=some (cid+i)->O' b k=some (id+i))
    (hok:Ak (back id s x).1) (hO: ∀ p∈(back id s x).2.2,Ag objs' p.1=some p.2) (hm: ∀ p∈(back id s x).2.2,∀ i,p.1=id+i->m' p.1=D8 w (innerS w s v) i) :
    Ap O' objs' m' w v (back id s x).2.1/\ ∀ p∈(back id s x).2.2,Ce O' objs' m' w p.1 p.2:=by
  cases s with
  | cell u k =>
    simp only[back]at hok hO hm ⊢
    obtain⟨hok1,hok2⟩:=hok.append
    have hpl:=hok2.cons.1
    have hic:IC Oc w cid v x:=by
      have bad: ∀ cs l,x= .agg cs\/x= .box cs\/x= .ump l\/(∃ f,x= .cbx f cs)->False:=by
        rintro cs l (rfl | rfl | rfl | ⟨f,rfl⟩)<;>(cases u<;>cases k<;>first | (cases hpl;done) | (have:=hok1 false (by simp [AO,force,A.isB,A.isI,A.isS,A.uT,A.rG,A.Xv,A.Abb,A.isFn]);cases this))
      cases x with
      | agg cs=>exact(bad cs default (.inl rfl)).elim
      | box cs=>exact(bad cs default (.inr (.inl rfl))).elim
      | ump l=>exact(bad [] l (.inr (.inr (.inl rfl)))).elim
      | cbx f cs=>exact(bad cs default (.inr (.inr (.inr ⟨f,rfl⟩)))).elim
      | _=>exact h
    obtain⟨g1,g2,g3⟩:=Gy (cid:=cid) (id:=id) (f:=D8 w v) hp hn [(u,k)] [x] 0 (fun j hj=>by
      have:j=0:=by simpa using hj
      subst this
      exact hic) (fun b k i hi hb=>hr b k i (by simp at hi;omega) hb) hok1 hO hm
    have:=g2 0 (by simp)
    exact⟨this.toT,fun p hp=>(g3 p hp).1⟩
  | agg ks =>
    simp only[back]at hok hO hm ⊢
    obtain⟨hf,hok⟩:=hok.cons
    have hf:=Nat.le_of_ble_eq_true hf
    obtain⟨hok1,hok2⟩:=hok.cons
    cases x with
    | agg cs =>
      obtain⟨vs,h1,h2,h3⟩:=h
      have hl:cs.length=ks.length:=by simpa [A.isAgg,IG]using hok1
      obtain⟨g1,g2,g3⟩:=Gy (objs':=objs') (m':=m') (cid:=cid+1) (id:=id+1) (f:=fun j=>vs.getD j undef) hp hn ks cs 0 (fun j hj=>by
        have:=h3 j (by omega)
        rw[Nat.zero_add];exact this) (fun b k i hi hb=>by
        have:=hr b k (1+i) (by omega) (by rw[<- Nat.add_assoc];exact hb)
        rw[<- Nat.add_assoc]at this;exact this) hok2 hO (fun p hp i hi=>by
        have:=hm p hp (i+1) (by omega)
        rw[this,h1];rfl)
      refine⟨⟨vs,h1,?_,fun j hj=> ?_⟩,fun p hp=>(g3 p hp).1⟩
      ·show vs.size=(AO (id+1) ks cs 0).2.1.length
       rw[h2,g1,hl]
      ·have hj:j<(AO (id+1) ks cs 0).2.1.length:=hj
       rw[g1]at hj
       have:=g2 j hj
       rwa [Nat.zero_add]at this
    | _=>simp [A.isAgg]at hok1
  | box ks =>
    simp only[back]at hok hO hm ⊢
    obtain⟨hf,hok⟩:=hok.cons
    have hf:=Nat.le_of_ble_eq_true hf
    obtain⟨hok1,hok2⟩:=hok.cons
    cases x with
    | box cs =>
      obtain⟨b,base,h1,h2⟩:=h
      have h1':D8 w v 0= .pointer (some (at' b base)):=by rw[h1];rfl
      have hl:cs.length=ks.length:=by simpa [A.AaZ,IG]using hok1
      have hcell: ∀ j,D8 w v (j+1)=(w.cell? (at' b (base+j))).getD undef:=by intro j;rw[h1];rfl
      obtain⟨g1,g2,g3⟩:=Gy (objs':=objs') (m':=m') (cid:=cid+1) (id:=id+1) (f:=fun j=>(w.cell? (at' b (base+j))).getD undef) hp hn ks cs 0 (fun j hj=>by
        obtain⟨_,_,u,h5,h6⟩:=h2 j (by omega)
        rw[Nat.zero_add,h5];exact h6) (fun b k i hi hb=>by
        have:=hr b k (1+i) (by omega) (by rw[<- Nat.add_assoc];exact hb)
        rw[<- Nat.add_assoc]at this;exact this) hok2 (fun p hp=>hO p (List.mem_cons_of_mem _ hp)) (fun p hp i hi=>by
        have:=hm p (List.mem_cons_of_mem _ hp) (i+1) (by omega)
        rw[this];exact hcell _)
      have hO0:=hO _ List.mem_cons_self
      have hm0:=hm _ List.mem_cons_self 0 rfl
      dsimp only at hO0 hm0
      refine⟨?_,fun p hp=> ?_⟩
      ·show Au O' objs' m' w v (.ptr id 0)
       refine⟨by rw[h1];rfl,?_⟩
       show match (Ag objs' id).map Obj.shp with | some .box=>_ | _=>True
       rw[hO0]
       exact⟨b,base,by rw[hm0];exact h1',h1⟩
      ·rcases List.mem_cons.1 hp with rfl | hp
       ·refine⟨b,base,by rw[hm0];exact h1',fun j hj=> ?_⟩
        have hj:j<(AO (id+1) ks cs 0).2.1.length:=hj
        rw[g1]at hj
        obtain⟨a1,a2,u,a3,_⟩:=h2 j (by omega)
        have:=g2 j hj
        rw[Nat.zero_add,a3]at this
        exact⟨by have:=hr b (base+j) 0 (by omega) a1;exact this,a2,u,a3,this⟩
       ·exact(g3 p hp).1
    | _=>simp [A.AaZ]at hok1
  | clo f' ks =>
    simp only[back]at hok hO hm ⊢
    obtain⟨hf,hok⟩:=hok.cons
    have hf:=Nat.le_of_ble_eq_true hf
    obtain⟨hok1,hok2⟩:=hok.cons
    cases x with
    | cbx g cs =>
      have hg:f'=g:=by
        have h':=hok1
        simp only[A.rF,Bool.and_eq_true]at h'
        exact Nat.eq_of_beq_eq_true h'.1
      subst hg
      obtain⟨b,base,h1,h2⟩:=h
      have h1':D8 w (innerS w (.clo f' ks) v) 0= .pointer (some (at' b base)):=h1.inner (ks:=ks)
      have hl:cs.length=ks.length:=by
        have h':=hok1
        simp only[A.rF,Bool.and_eq_true]at h'
        exact Nat.eq_of_beq_eq_true h'.2
      have hcell: ∀ j,D8 w (innerS w (.clo f' ks) v) (j+1)=(w.cell? (at' b (base+j))).getD undef:=by intro j;rw[h1.inner (ks:=ks)];rfl
      obtain⟨g1,g2,g3⟩:=Gy (objs':=objs') (m':=m') (cid:=cid+1) (id:=id+1) (f:=fun j=>(w.cell? (at' b (base+j))).getD undef) hp hn ks cs 0 (fun j hj=>by
        obtain⟨_,_,u,h5,h6⟩:=h2 j (by omega)
        rw[Nat.zero_add,h5];exact h6) (fun b k i hi hb=>by
        have:=hr b k (1+i) (by omega) (by rw[<- Nat.add_assoc];exact hb)
        rw[<- Nat.add_assoc]at this;exact this) hok2 (fun p hp=>hO p (List.mem_cons_of_mem _ hp)) (fun p hp i hi=>by
        have:=hm p (List.mem_cons_of_mem _ hp) (i+1) (by omega)
        rw[this];exact hcell _)
      have hO0:=hO _ List.mem_cons_self
      have hm0:=hm _ List.mem_cons_self 0 rfl
      dsimp only at hO0 hm0
      refine⟨?_,fun p hp=> ?_⟩
      ·show Au O' objs' m' w v (.clo f' id)
       refine⟨by obtain⟨_,_,e,_⟩:=h1;rw[e];cases f'<;>rfl,_,rfl,h1.AX hp,?_⟩
       show match (Ag objs' id).map Obj.shp with | some .box=>_ | _=>True
       rw[hO0]
       exact⟨b,base,hm0.trans h1',rfl⟩
      ·rcases List.mem_cons.1 hp with rfl | hp
       ·refine⟨b,base,by rw[hm0];exact h1',fun j hj=> ?_⟩
        have hj:j<(AO (id+1) ks cs 0).2.1.length:=hj
        rw[g1]at hj
        obtain⟨a1,a2,u,a3,_⟩:=h2 j (by omega)
        have:=g2 j hj
        rw[Nat.zero_add,a3]at this
        exact⟨by have:=hr b (base+j) 0 (by omega) a1;exact this,a2,u,a3,this⟩
       ·exact(g3 p hp).1
    | _=>simp [A.rF]at hok1
  | map kt vt =>
    simp only[back]at hok hO hm ⊢
    obtain⟨l,rfl,_,_⟩:=UC hok.cons.1
    have hO0:=hO _ List.mem_cons_self
    have hm0:=hm _ List.mem_cons_self 0 rfl
    dsimp only at hO0 hm0
    have h:Ey Oc w cid v l:=h
    have hm0:m' id=v:=hm0
    have h2:Ey O' w id v l:=h.carry hp (fun b k hb=>hr b k 0 (by omega) hb)
    refine⟨?_,fun p hp=> ?_⟩
    ·show Au O' objs' m' w v (.own id)
     refine⟨by obtain⟨r,_,_,h1,_⟩:=h;rw[h1];rfl,?_⟩
     rw[hO0]
     exact hm0.symm
    ·obtain rfl:p=(id,.mp l):=List.mem_singleton.1 hp
     show Ey O' w id (m' id) l
     rw[hm0];exact h2
end
end Go.Proofs.YtadefjgbcapakaaGreatDoor.Vm
namespace Go.Proofs.YtadefjgbcapakaaGreatDoor.Vm
open Classical
def Ahx (k:Nat):Nat:=256000+256*k
def iR:A->A
  | .agg cs=>.box cs
  | a=>a
def BZ:List Sh->Nat->List Nat
  | [],_=>[]
  | s::ss,i=>bif Bq s then i::BZ ss (i+1)else BZ ss (i+1)
structure Came (O:Own) (w:World) (vs:Array Value) (sg:Sig) (rs:List A) (v:Value) (O':Own) (w':World):Prop where
  moves:Moves O (fun o=>o≠255) w w'
  less: ∀ b k,b<w.heap.size->O' b k≠none->O b k≠none
  Ry: ∀ b k,b<w.heap.size->O b k=some 255->O' b k=some 255
  count:rs.length=sg.Aq.length+(BZ sg.Ad 0).length
  res: ∃ us:Array Value,us.size=sg.Aq.length/\v=(if h:us.size=1 then us[0]else .tuple us)/\ ∀ k,k<us.size->IR O' w' (Ahx k) (us.getD k undef) (rs.getD k .undef)
  boxes: ∀ j i,(BZ sg.Ad 0)[j]? =some i->IR O' w' (256*i) (innerS w (sg.Ad.getD i (.agg [])) (vs.getD i undef)) (iR (rs.getD (sg.Aq.length+j) .undef))
def Spec (P:Program) (f:FuncId) (sg:Sig):Prop :=
  (∀ args w,(callFunc f args).run P w= .ok (.enter f args) w) /\
  ∀(O:Own) (w:World) (vs:Array Value) (xs rs:List A),Inv O w->vs.size=xs.length->xs.length=sg.Ad.length->xs.length<=100->(∀ j,j<xs.length->IR O w (256*j) (vs.getD j undef) (xs.getD j .undef))->sg.F xs=some rs ->
   Calls P f vs w fun e w'=> ∃ v O',e= .returned v/\Came O w vs sg rs v O' w'
section
variable {P:Program} {C:Ctx} {V0:Nat->Value} {O0 O:Own} {w0 w:World} {m:Nat->Value} {st:St} {a:Act} {o:Oper}
def JW (w:World) (f:Nat->Value) (id stride:Nat):List Sh->List A->Nat->List (Nat×Value)
  | [],_,_=>[]
  | s::ss,rs,j=>(back (id+stride*j) s (rs.getD j .undef)).2.2.map (fun p=>(p.1,D8 w (f j) (p.1 - (id+stride*j))))++JW w f id stride ss rs (j+1)
theorem Aaw (w:World) (f:Nat->Value) (id stride:Nat): ∀(ss:List Sh) (rs:List A) (j:Nat),(JW w f id stride ss rs j).map (·.1)=(Bz id stride ss rs j).2.2.map (·.1):=by
  intro ss
  induction ss with
  | nil=>intro rs j;rfl
  | cons s ss ih=>intro rs j;simp [JW,Bz,ih]
theorem Adb {k:CK} {c:A} (hp:k.plain=true) (h:Ak (force k c).1):(force k c).2.isVal=true:=by
  cases k<;>first
    | (cases hp;done)
    | (have h1:=h.cons.1;cases c<;>first | rfl | (cases h1;done))
theorem dR {Oc O':Own} {objs':List (Nat×Obj)} {m':Nat->Value} {cid cst id stride:Nat} {f g:Nat->Value} {rs:List A} (hp:DN Oc w O' w) (hn: ∀ b k,Oc b k=none->O' b k=none): ∀(ss:List Sh) (j0:Nat),(∀ j,j<ss.length->g (j0+j)=innerS w (ss.getD j (.agg [])) (f (j0+j))) ->
    (∀ j,j<ss.length->IR Oc w (cid+cst*(j0+j)) (f (j0+j)) (rs.getD (j0+j) .undef))->(∀ j,j<ss.length-> ∀ b k i,i<255->Oc b k=some (cid+cst*(j0+j)+i)->O' b k=some (id+stride*(j0+j)+i)) ->
    Ak (Bz id stride ss rs j0).1->(∀ p∈(Bz id stride ss rs j0).2.2,Ag objs' p.1=some p.2)->(∀ p∈JW w g id stride ss rs j0,m' p.1=p.2) ->
    (Bz id stride ss rs j0).2.1.length=ss.length/\(∀ j,j<ss.length->Ap O' objs' m' w (f (j0+j)) ((Bz id stride ss rs j0).2.1.getD j .undef)/\((Bz id stride ss rs j0).2.1.getD j .undef).isVal=true) /\
      ∀ p∈(Bz id stride ss rs j0).2.2,Ce O' objs' m' w p.1 p.2:=by
  intro ss
  induction ss with
  | nil=>intro j0 _ _ _ _ _ _;exact⟨rfl,fun j hj=>by simp at hj,fun p hp=>by simp [Bz]at hp⟩
  | cons s ss ih =>
    intro j0 hg h hr hok hO hm
    simp only[Bz]at hok hO ⊢
    simp only[JW]at hm
    obtain⟨hok1,hok2⟩:=hok.append
    obtain⟨g1,g2,g3⟩:=ih (j0+1) (fun j hj=>by have:=hg (j+1) (by simpa using hj);rwa [show j0+(j+1)=j0+1+j from by omega]at this) (fun j hj=>by have:=h (j+1) (by simpa using hj);rwa [show j0+(j+1)=j0+1+j from by omega]at this)
      (fun j hj=>by have:=hr (j+1) (by simpa using hj);rwa [show j0+(j+1)=j0+1+j from by omega]at this) hok2 (fun p hp=>hO p (List.mem_append_right _ hp)) (fun p hp=>hm p (List.mem_append_right _ hp))
    have h0:=h 0 (by simp)
    have hr0:=hr 0 (by simp)
    have hg0:g (j0+0)=innerS w s (f (j0+0)):=hg 0 (by simp)
    rw[Nat.add_zero]at h0 hr0 hg0
    obtain⟨k1,k2⟩:=Ac2 (id:=id+stride*j0) (m':=m') (objs':=objs') hp hn h0 hr0 hok1 (fun p hp=>hO p (List.mem_append_left _ hp)) (fun p hp i hi=>by
      have:=hm (p.1,D8 w (g j0) (p.1 - (id+stride*j0))) (List.mem_append_left _ (List.mem_map.2 ⟨p,hp,rfl⟩))
      rw[this,hi,Nat.add_sub_cancel_left,hg0])
    refine⟨by simp [g1],fun j hj=> ?_,fun p hp=> ?_⟩
    ·cases j with
     | zero =>
       refine⟨k1,?_⟩
       show((back (id+stride*j0) s (rs.getD j0 .undef)).2.1).isVal=true
       cases s with
       | agg ks=>rfl
       | box ks=>rfl
       | clo f' ks=>rfl
       | map kt vt=>rfl
       | cell u' k =>
         have hpl:k.plain=true:=by
           simp only[back]at hok1
           exact hok1.append.2.cons.1
         cases u' with
         | true=>cases k<;>first | (cases hpl;done) | rfl | (exfalso;have:=hok1 false (by simp [back,AO]);cases this)
         | false =>
           have hf:Ak (force k (rs.getD j0 .undef)).1:=by
             have h1:=hok1
             simp only[back,AO]at h1
             exact h1.append.1.append.1
           show(force k (rs.getD j0 .undef)).2.isVal=true
           exact Adb hpl hf
     | succ j =>
       have:=g2 j (by simpa using hj)
       rw[show j0+(j+1)=j0+1+j from by omega]
       simpa using this
    ·rcases List.mem_append.1 hp with hp | hp
     ·exact k2 p hp
     ·exact g3 p hp
def look (N:List (Nat×Nat)) (q:Nat):Option Nat:=(N.find? (fun p=>p.1==q)).map (·.2)
theorem vC {N:List (Nat×Nat)} (hnd:nodup (N.map (·.1))=true): ∀ p∈N,look N p.1=some p.2:=by
  induction N with
  | nil=>intro p hp;cases hp
  | cons q N ih =>
    intro p hp
    simp only[List.map_cons,nodup,Bool.and_eq_true,Bool.not_eq_true']at hnd
    unfold look
    rcases List.mem_cons.1 hp with rfl | hp
    ·simp
    ·have hne:q.1≠p.1:=fun e=>by
       have:has (N.map (·.1)) q.1=true:=FH.2 (List.mem_map.2 ⟨p,hp,e.symm⟩)
       rw[this]at hnd;cases hnd.1
     rw[List.find?_cons_of_neg (by simpa using hne)]
     exact ih hnd.2 p hp
theorem X0 {N:List (Nat×Nat)} {q i:Nat} (h:look N q=some i):(q,i)∈N:=by
  unfold look at h
  cases hf:N.find? (fun p=>p.1==q)with
  | none=>rw[hf]at h;cases h
  | some p =>
    rw[hf]at h
    injection h with h
    have h1:=List.find?_some hf
    have h2:=List.mem_of_find?_eq_some hf
    have:p.1=q:=by simpa using h1
    rw[<- this,<- h];exact h2
def UE (N:List (Nat×Value)) (q:Nat):Option Value:=(N.find? (fun p=>p.1==q)).map (·.2)
theorem Ady {N:List (Nat×Value)} (hnd:nodup (N.map (·.1))=true): ∀ p∈N,UE N p.1=some p.2:=by
  induction N with
  | nil=>intro p hp;cases hp
  | cons q N ih =>
    intro p hp
    simp only[List.map_cons,nodup,Bool.and_eq_true,Bool.not_eq_true']at hnd
    unfold UE
    rcases List.mem_cons.1 hp with rfl | hp
    ·simp
    ·have hne:q.1≠p.1:=fun e=>by
       have:has (N.map (·.1)) q.1=true:=FH.2 (List.mem_map.2 ⟨p,hp,e.symm⟩)
       rw[this]at hnd;cases hnd.1
     rw[List.find?_cons_of_neg (by simpa using hne)]
     exact ih hnd.2 p hp
theorem Abj {N:List (Nat×Value)} {q:Nat} (h:q∉N.map (·.1)):UE N q=none:=by
  unfold UE
  rw[List.find?_eq_none.2 (fun p hp=>by simp;exact fun e=>h (List.mem_map.2 ⟨p,hp,e⟩))]
  rfl
theorem Ap.AgU {Aa:List (Nat×Obj)} {v:Value} {x:A} (h:Ap O Aa m w v x) (hv:x.isVal=true):T1 O Aa m w v x:=by cases x<;>first | (cases hv;done) | exact h
theorem KH {fet:Fet}: ∀(ks:List (Bool×CK)) (cs:List A) (id:Nat),Ak (Aw fet ks cs).1-> ∀ p∈Dc id ks cs,(∃ e f l,Ag fet p.1=some (.arr e f l))/\ ∃ x,x<ks.length/\p.2=id+x:=by
  intro ks
  induction ks with
  | nil=>intro cs id _ p hp;cases cs<;>simp [Dc]at hp
  | cons k ks ih =>
    intro cs id hok p hp
    obtain⟨u,k⟩:=k
    cases cs with
    | nil=>cases u<;>simp [Dc]at hp
    | cons c cs =>
      have step:Ak (Aw fet ks cs).1->p∈Dc (id+1) ks cs->(∃ e f l,Ag fet p.1=some (.arr e f l))/\ ∃ x,x<((u,k)::ks).length/\p.2=id+x:=by
        intro h1 h2
        obtain⟨h3,x,h4,h5⟩:=ih cs (id+1) h1 p h2
        exact⟨h3,x+1,by simpa using h4,by omega⟩
      cases u with
      | false =>
        have hnm:Dc id ((false,k)::ks) (c::cs)=Dc (id+1) ks cs:=by cases c<;>rfl
        rw[hnm]at hp
        simp only[Aw]at hok
        exact step hok.append.2 hp
      | true =>
        cases k with
        | sl e sz =>
          cases c with
          | own q =>
            simp only[Aw]at hok
            cases hg:Ag fet q with
            | none=>rw[hg]at hok;have:=hok false (by simp);cases this
            | some y =>
              cases y with
              | box _=>rw[hg]at hok;have:=hok false (by simp);cases this
              | mp _=>rw[hg]at hok;have:=hok false (by simp);cases this
              | arr e' fz l =>
                rw[hg]at hok
                simp only[Dc]at hp
                rcases List.mem_cons.1 hp with rfl | hp
                ·exact⟨⟨_,_,_,hg⟩,0,by simp,rfl⟩
                ·exact step hok.append.2 hp
          | BU =>
            simp only[Aw]at hok
            exact step hok hp
          | _=>have:=hok false (by simp [Aw]);cases this
        | _=>have:=hok false (by simp [Aw]);cases this
theorem vK {fet:Fet} {s:Sh} {x:A} {id:Nat} (hok:Ak (AL fet s x).ok): ∀ p∈Eb fet id s x,(Ag fet p.1).isSome/\ ∃ i,p.2=id+i/\(i<202\/(∃ ks,s= .agg ks)):=by
  intro p hp
  cases s with
  | cell u k =>
    simp only[Eb]at hp
    have hh:Ak (Aw fet [(u,k)] [x]).1:=by
      unfold AL at hok
      dsimp only at hok
      generalize Aw fet [(u,k)] [x]=r at *
      obtain⟨ok,cs,upd,del⟩:=r
      cases cs with
      | nil=>have:=hok false (by simp);cases this
      | cons c cs =>
        cases cs with
        | nil=>exact hok
        | cons _ _=>have:=hok false (by simp);cases this
    obtain⟨⟨e,f,l,h1⟩,i,h2,h3⟩:=KH _ _ _ hh p hp
    exact⟨by rw[h1];rfl,i,h3,.inl (by simp at h2;omega)⟩
  | agg ks =>
    cases x with
    | agg cs =>
      simp only[Eb]at hp
      obtain⟨⟨e,f,l,h1⟩,i,h2,h3⟩:=KH _ _ _ (show Ak (Aw fet ks cs).1 from hok) p hp
      exact⟨by rw[h1];rfl,1+i,by omega,.inr ⟨ks,rfl⟩⟩
    | _=>cases hp
  | box ks =>
    cases x with
    | ptr q off =>
      simp only[Eb]at hp
      unfold AL at hok
      dsimp only at hok
      cases hg:Eh fet q with
      | none=>rw[hg]at hok;have:=hok false (by simp);cases this
      | some cs =>
        rw[hg]at hok hp
        dsimp only at hok hp
        obtain⟨_,hokA⟩:=hok.cons
        obtain⟨hf,hokB⟩:=hokA.cons
        have hf:=Nat.le_of_ble_eq_true hf
        rcases List.mem_cons.1 hp with rfl | hp
        ·exact⟨by rw[CB hg];rfl,0,rfl,.inl (by omega)⟩
        ·obtain⟨⟨e,f,l,h1⟩,i,h2,h3⟩:=KH _ _ _ hokB p hp
         exact⟨by rw[h1];rfl,1+i,by omega,.inl (by omega)⟩
    | _=>cases hp
  | clo f' ks =>
    cases x with
    | clo g q =>
      simp only[Eb]at hp
      unfold AL at hok
      dsimp only at hok
      cases hg:Eh fet q with
      | none=>rw[hg]at hok;have:=hok false (by simp);cases this
      | some cs =>
        rw[hg]at hok hp
        dsimp only at hok hp
        obtain⟨_,hokA⟩:=hok.cons
        obtain⟨hf,hokB⟩:=hokA.cons
        have hf:=Nat.le_of_ble_eq_true hf
        rcases List.mem_cons.1 hp with rfl | hp
        ·exact⟨by rw[CB hg];rfl,0,rfl,.inl (by omega)⟩
        ·obtain⟨⟨e,f,l,h1⟩,i,h2,h3⟩:=KH _ _ _ hokB p hp
         exact⟨by rw[h1];rfl,1+i,by omega,.inl (by omega)⟩
    | _=>cases hp
  | map kt vt =>
    cases x with
    | own q =>
      obtain rfl:p=(q,id):=by simpa [Eb]using hp
      unfold AL at hok
      dsimp only at hok
      cases hg:Ag fet q with
      | none=>rw[hg]at hok;have:=hok false (by simp);cases this
      | some y=>exact⟨rfl,0,rfl,.inl (by omega)⟩
    | _=>cases hp
theorem NW {fet:Fet} {stride:Nat}: ∀(ss:List Sh) (xs:List A) (id:Nat),Ak (A8 fet ss xs).1-> ∀ p∈Dy fet id stride ss xs,(Ag fet p.1).isSome:=by
  intro ss
  induction ss with
  | nil=>intro xs id _ p hp;cases xs<;>simp [Dy]at hp
  | cons s ss ih =>
    intro xs id hok p hp
    cases xs with
    | nil=>simp [Dy]at hp
    | cons x xs =>
      simp only[A8]at hok
      obtain⟨h1,h2⟩:=hok.append
      rcases List.mem_append.1 hp with hp | hp
      ·exact(vK h1 p hp).1
      ·exact ih xs _ h2 p hp
theorem Moves.Agh {ρ :Nat->Option Nat} {w w':World} (h:Moves (Ew O ρ) (fun o=>o≠255) w w'):Moves O (fun o=> ∃ i,ρ o=some i) w w':=by
  refine⟨h.os,h.tape,h.output,h.size,fun b hb=> ?_⟩
  have un: ∀ k i,Ew O ρ b k=some i->i≠255-> ∃ q,O b k=some q/\ ∃ i,ρ q=some i:=by
    intro k i hr hne
    unfold Ew at hr
    cases hO:O b k with
    | none=>rw[hO]at hr;cases hr
    | some q =>
      rw[hO]at hr
      dsimp only at hr
      cases hρ : ρ q with
      | none=>rw[hρ]at hr;injection hr with hr;exact absurd hr.symm hne
      | some j=>exact⟨q,rfl,j,hρ⟩
  rcases h.blk b hb with he | ⟨c,c',e,fr,h1,h2,h3,h4,k,q,h5,h6,h7⟩ | ⟨es,ck,es',ck',q,h1,h2,h3,h4⟩
  ·exact .inl he
  ·refine .inr (.inl ⟨c,c',e,fr,h1,h2,h3,fun k hk=>h4 k (fun i hi hne=> ?_),k,?_⟩)
   ·obtain⟨q,hq,hρ⟩:=un k i hi hne
    exact hk q hq hρ
   ·obtain⟨q',hq',hρ⟩:=un k q h6 h7
    exact⟨q',h5,hq',hρ⟩
  ·obtain⟨q',hq',hρ⟩:=un 0 q h3 h4
   exact .inr (.inr ⟨es,ck,es',ck',q',h1,h2,hq',hρ⟩)
end
