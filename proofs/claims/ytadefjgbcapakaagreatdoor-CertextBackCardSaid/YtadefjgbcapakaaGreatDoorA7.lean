import Derived.Test.YtadefjgbcapakaaGreatDoorA6
import Derived.Calls
set_option linter.all false
namespace Go.Proofs.YtadefjgbcapakaaGreatDoor.Vm
open Classical
def IC (O:Own) (w:World) (id:Nat) (v:Value):A->Prop
  | .usl e l=>Dx O [] (fun _=>v) w id (.arr e true l)
  | a=>Ai O w v a
def IR (O:Own) (w:World) (id:Nat) (v:Value):A->Prop
  | .agg cs=> ∃ vs:Array Value,v= .agg vs/\vs.size=cs.length/\ ∀ j,j<cs.length->IC O w (id+1+j) (vs.getD j undef) (cs.getD j .undef)
  | .box cs=> ∃ b base,v= .pointer (some (at' b base))/\ ∀ j,j<cs.length->O b (base+j)=some id/\w.frozen? (at' b (base+j))=false/\ ∃ u,w.cell? (at' b (base+j))=some u/\IC O w (id+1+j) u (cs.getD j .undef)
  | .cbx k cs=> ∃ b base,SN O w k v (.pointer (some (at' b base)))/\ ∀ j,j<cs.length->O b (base+j)=some id/\w.frozen? (at' b (base+j))=false/\ ∃ u,w.cell? (at' b (base+j))=some u/\IC O w (id+1+j) u (cs.getD j .undef)
  | .ump l=>Gx O w id v l
  | a=>IC O w id v a
section
variable {P:Program} {C:Ctx} {V0:Nat->Value} {O0 O:Own} {w0 w:World} {m:Nat->Value} {st:St} {a:Act} {o:Oper}
theorem Ai.ic {id:Nat} {v:Value} {x:A} (h:Ai O w v x):IC O w id v x:=by cases h<;>first | exact .bool _ | exact .int _ _ | exact .str _ | exact .nil _ | exact .Dk | exact .fn _ | exact .VX | exact Ai.sl0 _ _ | (rename_i vs a1 a2 a3;exact Ai.sl vs a1 a2 a3) | (rename_i h hn;exact Ai.sln h hn)
def Gw (O:Own) (ρ :Nat->Option Nat):Own:=fun b k=>match O b k with
  | none=>none
  | some o=>match ρ o with
    | some i=>some i
    | none=>some 255
theorem PI {ρ :Nat->Option Nat} {b k:Nat}:Gw O ρ b k=none↔O b k=none:=by
  unfold Gw
  cases O b k with
  | none=>simp
  | some o=>cases h: ρ o<;>simp [h]
theorem TB {ρ :Nat->Option Nat} {b k o i:Nat} (h:O b k=some o) (hr: ρ o=some i):Gw O ρ b k=some i:=by
  unfold Gw;rw[h];simp [hr]
theorem PK (ρ :Nat->Option Nat):Fe O w (Gw O ρ) w:=fun _ _ _ h hc=>⟨PI.2 h,hc⟩
theorem Dx.Gw {ρ :Nat->Option Nat} {q i e:Nat} {l:Sl} {Aa objs':List (Nat×Obj)} {m m':Nat->Value} (h:Dx O Aa m w q (.arr e true l)) (hr: ρ q=some i) (hm:m' i=m q) :
    Dx (Gw O ρ) objs' m' w i (.arr e true l):=by
  refine⟨h.1,?_⟩
  rcases h.2 with ⟨h1,h2,h3⟩ | ⟨h1,g,cap,cur,h2,h3,h4,h5,h6,h7,h8,h9⟩
  ·exact .inl ⟨h1,h2,by rw[hm];exact h3⟩
  ·refine .inr ⟨h1,g,cap,cur,by rw[hm];exact h2,h3,h4,h5,h6,fun r j hr' hj=> ?_,fun k hk hge=>TB (h8 k hk hge) hr,fun k hk=> ?_⟩
   ·obtain⟨u,h10,h11⟩:=h7 r j hr' hj
    exact⟨u,h10,h11.Bf (PK ρ)⟩
   ·have:=h9 k hk
    simp only[if_true]at this ⊢
    exact PI.2 this
theorem MF {fet:Fet} (hf:H8 st.Aa fet): ∀(ks:List (Bool×CK)) (cs:List A) (id:Nat) (f:Nat->Value),(∀ j,j<cs.length->AL O st.Aa m w (f j) (cs.getD j .undef))->Ar (AO fet ks cs).1 ->
    (AO fet ks cs).2.1.length=ks.length/\cs.length=ks.length/\Frz st.Aa (AO fet ks cs).2.2.1/\(AO fet ks cs).2.2.2=(DZ id ks cs).map (·.1) /\
    ∀ {O':Own} {objs':List (Nat×Obj)} {ρ :Nat->Option Nat},Fe O w O' w->(∀ p∈(AO fet ks cs).2.2.1,∀ e l,p.2= .arr e true l->Ai O' w (m p.1) (.sl l)) ->
      (∀ p∈(AO fet ks cs).2.2.1,Dx O' objs' m w p.1 p.2)->(∀ p∈DZ id ks cs,ρ p.1=some p.2) ->
      ∀ j,j<ks.length->IC (Gw O' ρ) w (id+j) (f j) ((AO fet ks cs).2.1.getD j .undef):=by
  intro ks
  induction ks with
  | nil =>
    intro cs id f _ hok
    cases cs with
    | nil=>exact⟨rfl,rfl,(fun p hp=>by simp [AO]at hp),rfl,fun _ _ _ _ j hj=>by simp at hj⟩
    | cons _ _=>have:=hok false (by simp [AO]);cases this
  | cons k ks ih =>
    intro cs id f h hok
    obtain⟨u,k⟩:=k
    cases cs with
    | nil=>have:=hok false (by cases u<;>simp [AO]);cases this
    | cons c cs =>
      have hrest:=fun hok2=>ih cs (id+1) (fun j=>f (j+1)) (fun j hj=>by simpa using h (j+1) (by simpa using hj)) hok2
      cases u with
      | false =>
        simp only[AO]at hok ⊢
        obtain⟨hok1,hok2⟩:=hok.append
        obtain⟨h1,h2⟩:=AeN hf (h 0 (by simp)) hok1
        obtain⟨h3,h4,h5,h6,h7⟩:=hrest hok2
        have hnames:DZ id ((false,k)::ks) (c::cs)=DZ (id+1) ks cs:=by cases c<;>rfl
        refine⟨by simp [h3],by simp [h4],h1.append h5,by rw[hnames];exact h6,fun {O' objs' ρ} hp hv hO hρ j hj=> ?_⟩
        rw[hnames]at hρ
        cases j with
        | zero =>
          have hvr:=(h2 hp (fun p hp=>hv p (List.mem_append_left _ hp))).Bf (PK ρ)
          exact hvr.ic
        | succ j =>
          have:=h7 hp (fun p hp=>hv p (List.mem_append_right _ hp)) (fun p hp=>hO p (List.mem_append_right _ hp)) hρ j (by simpa using hj)
          rw[show id+(j+1)=id+1+j from by omega]
          simpa using this
      | true =>
        cases k with
        | sl e sz =>
          cases c with
          | own q =>
            simp only[AO]at hok ⊢
            cases hg:Ah fet q with
            | none=>rw[hg]at hok;have:=hok false (by simp);cases this
            | some x =>
              cases x with
              | box _=>rw[hg]at hok;have:=hok false (by simp);cases this
              | mp _=>rw[hg]at hok;have:=hok false (by simp);cases this
              | arr e' fz l =>
                rw[hg]at hok
                dsimp only at hok ⊢
                obtain⟨hok1,hok2⟩:=hok.append
                obtain⟨e1,e2⟩:=hok1.cons
                have e1:=Nat.eq_of_beq_eq_true e1
                subst e1
                obtain⟨h3,h4,h5,h6,h7⟩:=hrest hok2
                have hq:=hf q _ hg
                refine⟨by simp [h3],by simp [h4],fun p hp=> ?_,?_,fun {O' objs' ρ} hp hv hO hρ j hj=> ?_⟩
                ·rcases List.mem_cons.1 hp with rfl | hp
                 ·exact⟨e,fz,l,hq,rfl⟩
                 ·exact h5 p hp
                ·simp only[DZ,List.map_cons,h6]
                ·cases j with
                 | zero =>
                   have hc:AL O st.Aa m w (f 0) (.own q):=h 0 (by simp)
                   have hc:=hc.2
                   rw[hq]at hc
                   simp only[Option.map_some,Obj.shp]at hc
                   have:=hO _ List.mem_cons_self
                   exact this.Gw (objs':=[]) (m':=fun _=>f 0) (hρ (q,id) List.mem_cons_self) hc
                 | succ j =>
                   have:=h7 hp (fun p hp=>hv p (List.mem_cons_of_mem _ hp)) (fun p hp=>hO p (List.mem_cons_of_mem _ hp)) (fun p hp=>hρ p (List.mem_cons_of_mem _ hp)) j (by simpa using hj)
                   rw[show id+(j+1)=id+1+j from by omega]
                   simpa using this
          | Dh =>
            simp only[AO]at hok ⊢
            obtain⟨h3,h4,h5,h6,h7⟩:=hrest hok
            have hnames:DZ id ((true,.sl e sz)::ks) (.Dh::cs)=DZ (id+1) ks cs:=rfl
            refine⟨by simp [h3],by simp [h4],h5,by rw[hnames];exact h6,fun {O' objs' ρ} hp hv hO hρ j hj=> ?_⟩
            rw[hnames]at hρ
            cases j with
            | zero =>
              have hc:AL O st.Aa m w (f 0) .Dh:=h 0 (by simp)
              have hc:f 0= .slice none 0 0:=hc
              show Dx _ [] (fun _=>f 0) w _ (.arr e true ⟨sz,[]⟩)
              exact⟨by simp [Sl.es],.inl ⟨trivial,rfl,hc⟩⟩
            | succ j =>
              have:=h7 hp hv hO hρ j (by simpa using hj)
              rw[show id+(j+1)=id+1+j from by omega]
              simpa using this
          | _=>have:=hok false (by simp [AO]);cases this
        | _=>have:=hok false (by simp [AO]);cases this
end
end Go.Proofs.YtadefjgbcapakaaGreatDoor.Vm
namespace Go.Proofs.YtadefjgbcapakaaGreatDoor.Vm
open Classical
section
variable {P:Program} {C:Ctx} {V0:Nat->Value} {O0 O:Own} {w0 w:World} {m:Nat->Value} {st:St} {a:Act} {o:Oper}
theorem Aea {fet:Fet} (hf:H8 st.Aa fet) {s:Sh} {x:A} {v:Value} {id:Nat} (hx:Au O st.Aa m w v x) (hS: ∀ q y,Ah st.Aa q=some y->Dx O st.Aa m w q y) (hok:Ar (Bc fet s x).ok) :
    Frz st.Aa (Bc fet s x).upd/\(∀ q∈(Bc fet s x).del++(Bc fet s x).boxes.map (·.1),q∈(F7 fet id s x).map (·.1))/\(∀ q∈(F7 fet id s x).map (·.1),q∈(Bc fet s x).del++(Bc fet s x).boxes.map (·.1)) /\
    (BH s=true↔(Bc fet s x).boxes≠ []) /\
    ∀ {O':Own} {objs':List (Nat×Obj)} {ρ :Nat->Option Nat},Fe O w O' w->(∀ p∈(Bc fet s x).upd,∀ e l,p.2= .arr e true l->Ai O' w (m p.1) (.sl l)) ->
      (∀ p∈(Bc fet s x).upd,Dx O' objs' m w p.1 p.2)->(∀ b k q,O b k=some q->NR st.Aa q->O' b k=some q)->(∀ p∈F7 fet id s x,ρ p.1=some p.2) ->
      IR (Gw O' ρ) w id v (Bc fet s x).a:=by
  cases s with
  | cell u k =>
    unfold Bc at *
    dsimp only at hok ⊢
    have hall: ∀ hc:AL O st.Aa m w v x,_:=fun hc=>MF hf [(u,k)] [x] id (fun _=>v) (fun j hj=>by
      have:j=0:=by simpa using hj
      subst this;exact hc)
    have hnc: ∀(h:Ar (AO fet [(u,k)] [x]).1),AL O st.Aa m w v x:=by
      intro h
      cases x with
      | undef=>cases u<;>cases k<;>(have:=h false (by simp [AO,pur]);cases this)
      | agg _=>cases u<;>cases k<;>(have:=h false (by simp [AO,pur]);cases this)
      | tup _=>cases u<;>cases k<;>(have:=h false (by simp [AO,pur]);cases this)
      | cnd _ _=>cases u<;>cases k<;>(have:=h false (by simp [AO,pur]);cases this)
      | _=>exact hx
    generalize hh:AO fet [(u,k)] [x]=r at *
    obtain⟨ok,cs,upd,del⟩:=r
    cases cs with
    | nil=>have:=hok false (by simp);cases this
    | cons c cs =>
      cases cs with
      | cons _ _=>have:=hok false (by simp);cases this
      | nil =>
        dsimp only at hok ⊢
        obtain⟨h1,h2,h3,h4,h5⟩:=hall (hnc hok) hok
        have h4:del=(DZ id [(u,k)] [x]).map (·.1):=h4
        refine⟨h3,fun q hq=> ?_,fun q hq=> ?_,⟨(fun h=>by cases h),fun h=>absurd rfl h⟩,fun {O' objs' ρ} hp hv hO _ hρ => ?_⟩
        ·simp only[List.map_nil,List.append_nil]at hq;rw[h4]at hq;exact hq
        ·simp only[List.map_nil,List.append_nil];rw[h4];exact hq
        ·have:=h5 hp hv hO hρ 0 (by simp)
         have e: [c].getD 0 .undef=c:=rfl
         dsimp only at this
         rw[e]at this
         cases c<;>first | exact this | cases this
  | agg ks =>
    cases x with
    | agg cs =>
      unfold Bc at *
      dsimp only at hok ⊢
      obtain⟨vs,g1,g2,g3⟩:=hx
      obtain⟨h1,h2,h3,h4,h5⟩:=MF hf ks cs (id+1) (fun j=>vs.getD j undef) g3 hok
      refine⟨h3,fun q hq=> ?_,fun q hq=> ?_,⟨(fun h=>by cases h),fun h=>absurd rfl h⟩,fun {O' objs' ρ} hp hv hO _ hρ => ?_⟩
      ·simp only[List.map_nil,List.append_nil]at hq;rw[h4]at hq;exact hq
      ·simp only[List.map_nil,List.append_nil];rw[h4];exact hq
      ·exact⟨vs,g1,by rw[g2,h1,h2],fun j hj=>h5 hp hv hO hρ j (by rw[<- h1];exact hj)⟩
    | _=>have:=hok false (by simp [Bc]);cases this
  | box ks =>
    cases x with
    | ptr q off =>
      unfold Bc at *
      dsimp only at hok ⊢
      cases hg:FH fet q with
      | none=>rw[hg]at hok;have:=hok false (by simp);cases this
      | some cs =>
            rw[hg]at hok
            dsimp only at hok ⊢
            obtain⟨ho0,hokA⟩:=hok.cons
            obtain⟨_,hokB⟩:=hokA.cons
            have ho0:=Nat.eq_of_beq_eq_true ho0
            subst ho0
            have hq:=hf q _ (D8 hg)
            obtain⟨b,base,g1,g2⟩:=hS q _ hq
            have hv0:v= .pointer (some (at' b base)):=by
              have hc:AL O st.Aa m w v (.ptr q 0):=hx
              have hc:=hc.2
              rw[hq]at hc
              simp only[Option.map_some,Obj.shp]at hc
              obtain⟨b',base',g3,g4⟩:=hc
              rw[g1]at g3;injection g3 with g3;injection g3 with g3;injection g3 with e1 e2
              subst e1;subst e2;exact g4
            let f:Nat->Value:=fun j=>(w.cell? (at' b (base+j))).getD undef
            have hfc: ∀ j,j<cs.length->w.cell? (at' b (base+j))=some (f j)/\AL O st.Aa m w (f j) (cs.getD j .undef):=by
              intro j hj
              obtain⟨_,_,u,h3,h4⟩:=g2 j hj
              have:f j=u:=by show(w.cell? _).getD _=_;rw[h3];rfl
              rw[this];exact⟨h3,h4⟩
            obtain⟨h1,h2,h3,h4,h5⟩:=MF hf ks cs (id+1) f (fun j hj=>(hfc j hj).2) hokB
            have hnames:F7 fet id (.box ks) (.ptr q 0)=(q,id)::DZ (id+1) ks cs:=by simp only[F7,hg]
            rw[hnames]
            refine⟨h3,fun r hr=> ?_,fun r hr=> ?_,⟨fun _=>by simp,fun _=>rfl⟩,fun {O' objs' ρ} hp hv hO hbx hρ => ?_⟩
            ·simp only[List.map_cons,List.map_nil,List.mem_append,List.mem_singleton]at hr
             rcases hr with hr | hr
             ·rw[h4]at hr;exact List.mem_cons_of_mem _ hr
             ·rw[hr];exact List.mem_cons_self
            ·simp only[List.map_cons,List.map_nil,List.mem_append,List.mem_singleton]
             rcases List.mem_cons.1 hr with hr | hr
             ·exact .inr hr
             ·left;rw[h4];exact hr
            ·refine⟨b,base,hv0,fun j hj=> ?_⟩
             rw[h1]at hj
             obtain⟨k1,k2,u,k3,_⟩:=g2 j (by rw[h2];exact hj)
             refine⟨TB (hbx _ _ _ k1 (.of hq (fun _ _ _ h=>by cases h))) (hρ (q,id) List.mem_cons_self),k2,f j,(hfc j (by rw[h2];exact hj)).1,h5 hp hv hO (fun p hp'=>hρ p (List.mem_cons_of_mem _ hp')) j hj⟩
    | _=>have:=hok false (by simp [Bc]);cases this
  | clo f' ks =>
    cases x with
    | clo g q =>
      unfold Bc at *
      dsimp only at hok ⊢
      cases hg:FH fet q with
      | none=>rw[hg]at hok;have:=hok false (by simp);cases this
      | some cs =>
            rw[hg]at hok
            dsimp only at hok ⊢
            obtain⟨ho0,hokA⟩:=hok.cons
            obtain⟨_,hokB⟩:=hokA.cons
            have ho0:=Nat.eq_of_beq_eq_true ho0
            subst ho0
            have hq:=hf q _ (D8 hg)
            obtain⟨b,base,g1,g2⟩:=hS q _ hq
            have hv0:SN O w f' v (.pointer (some (at' b base))):=by
              have hc:AL O st.Aa m w v (.clo f' q):=hx
              obtain⟨_,p,_,hc2,hc⟩:=hc
              rw[hq]at hc
              obtain⟨b',base',e1,e2⟩:=hc
              rw[g1]at e1
              rw[e1,<- e2];exact hc2
            let f:Nat->Value:=fun j=>(w.cell? (at' b (base+j))).getD undef
            have hfc: ∀ j,j<cs.length->w.cell? (at' b (base+j))=some (f j)/\AL O st.Aa m w (f j) (cs.getD j .undef):=by
              intro j hj
              obtain⟨_,_,u,h3,h4⟩:=g2 j hj
              have:f j=u:=by show(w.cell? _).getD _=_;rw[h3];rfl
              rw[this];exact⟨h3,h4⟩
            obtain⟨h1,h2,h3,h4,h5⟩:=MF hf ks cs (id+1) f (fun j hj=>(hfc j hj).2) hokB
            have hnames:F7 fet id (.clo f' ks) (.clo f' q)=(q,id)::DZ (id+1) ks cs:=by simp only[F7,hg]
            rw[hnames]
            refine⟨h3,fun r hr=> ?_,fun r hr=> ?_,⟨fun _=>by simp,fun _=>rfl⟩,fun {O' objs' ρ} hp hv hO hbx hρ => ?_⟩
            ·simp only[List.map_cons,List.map_nil,List.mem_append,List.mem_singleton]at hr
             rcases hr with hr | hr
             ·rw[h4]at hr;exact List.mem_cons_of_mem _ hr
             ·rw[hr];exact List.mem_cons_self
            ·simp only[List.map_cons,List.map_nil,List.mem_append,List.mem_singleton]
             rcases List.mem_cons.1 hr with hr | hr
             ·exact .inr hr
             ·left;rw[h4];exact hr
            ·refine⟨b,base,(hv0.Bf hp).Bf (PK ρ),fun j hj=> ?_⟩
             rw[h1]at hj
             obtain⟨k1,k2,u,k3,_⟩:=g2 j (by rw[h2];exact hj)
             refine⟨TB (hbx _ _ _ k1 (.of hq (fun _ _ _ h=>by cases h))) (hρ (q,id) List.mem_cons_self),k2,f j,(hfc j (by rw[h2];exact hj)).1,h5 hp hv hO (fun p hp'=>hρ p (List.mem_cons_of_mem _ hp')) j hj⟩
    | _=>have:=hok false (by simp [Bc]);cases this
  | map kt vt =>
    cases x with
    | own q =>
      unfold Bc at *
      dsimp only at hok ⊢
      cases hg:Ah fet q with
      | none=>rw[hg]at hok;have:=hok false (by simp);cases this
      | some y =>
        cases y with
        | box _=>rw[hg]at hok;have:=hok false (by simp);cases this
        | arr _ _ _=>rw[hg]at hok;have:=hok false (by simp);cases this
        | mp l =>
          rw[hg]at hok
          dsimp only at hok ⊢
          have hq:=hf q _ hg
          have hv0:v=m q:=by
            have hc:AL O st.Aa m w v (.own q):=hx
            have hc:=hc.2
            rw[hq]at hc
            exact hc
          refine⟨(fun p hp=>by cases hp),fun r hr=> ?_,fun r hr=> ?_,⟨fun _=>by simp,fun _=>rfl⟩,fun {O' objs' ρ} hp hv hO hbx hρ => ?_⟩
          ·simpa [F7]using hr
          ·simpa [F7]using hr
          ·obtain⟨r,es,ck,g1,g2,g3,g4,g5⟩:=(show Gx O w q (m q) l from hS q _ hq)
           refine⟨r,es,ck,by rw[hv0];exact g1,g2,TB (hbx _ _ _ g3 (.of hq (fun _ _ _ h=>by cases h))) (hρ (q,id) List.mem_cons_self),g4,fun i p hip=> ?_⟩
           obtain⟨e,k1,k2,k3⟩:=g5 i p hip
           exact⟨e,k1,(k2.Bf hp).Bf (PK ρ),(k3.Bf hp).Bf (PK ρ)⟩
    | _=>have:=hok false (by simp [Bc]);cases this
theorem RX {fet:Fet} (hf:H8 st.Aa fet) (hS: ∀ q y,Ah st.Aa q=some y->Dx O st.Aa m w q y) (stride:Nat): ∀(ss:List Sh) (xs:List A) (id:Nat) (f:Nat->Value),(∀ j,j<xs.length->Au O st.Aa m w (f j) (xs.getD j .undef))->Ar (AY fet ss xs).1 ->
    (AY fet ss xs).2.1.length=ss.length/\xs.length=ss.length/\Frz st.Aa (AY fet ss xs).2.2.1 /\
    (∀ q,q∈(AY fet ss xs).2.2.2.1++(AY fet ss xs).2.2.2.2.map (·.1)↔q∈(EF fet id stride ss xs).map (·.1)) /\
    ∀ {O':Own} {objs':List (Nat×Obj)} {ρ :Nat->Option Nat},Fe O w O' w->(∀ p∈(AY fet ss xs).2.2.1,∀ e l,p.2= .arr e true l->Ai O' w (m p.1) (.sl l)) ->
      (∀ p∈(AY fet ss xs).2.2.1,Dx O' objs' m w p.1 p.2)->(∀ b k q,O b k=some q->NR st.Aa q->O' b k=some q)->(∀ p∈EF fet id stride ss xs,ρ p.1=some p.2) ->
      ∀ j,j<ss.length->IR (Gw O' ρ) w (id+stride*j) (f j) ((AY fet ss xs).2.1.getD j .undef):=by
  intro ss
  induction ss with
  | nil =>
    intro xs id f _ hok
    cases xs with
    | nil=>exact⟨rfl,rfl,(fun p hp=>by simp [AY]at hp),(fun q=>by simp [AY,EF]),fun _ _ _ _ _ j hj=>by simp at hj⟩
    | cons _ _=>have:=hok false (by simp [AY]);cases this
  | cons s ss ih =>
    intro xs id f h hok
    cases xs with
    | nil=>have:=hok false (by simp [AY]);cases this
    | cons x xs =>
      simp only[AY]at hok ⊢
      obtain⟨hok1,hok2⟩:=hok.append
      obtain⟨h1,h2,h3,_,h4⟩:=Aea (id:=id) hf (h 0 (by simp)) hS hok1
      obtain⟨g1,g2,g3,g4,g5⟩:=ih xs (id+stride) (fun j=>f (j+1)) (fun j hj=>by simpa using h (j+1) (by simpa using hj)) hok2
      refine⟨by simp [g1],by simp [g2],h1.append g3,fun q=> ?_,fun {O' objs' ρ} hp hv hO hbx hρ j hj=> ?_⟩
      ·simp only[EF,List.map_append,List.mem_append]
       have a1:=h2 q
       have a2:=h3 q
       have a3:=g4 q
       simp only[List.mem_append]at a1 a2 a3
       constructor
       ·rintro ((h | h) | (h | h))
        ·exact .inl (a1 (.inl h))
        ·exact .inr (a3.1 (.inl h))
        ·exact .inl (a1 (.inr h))
        ·exact .inr (a3.1 (.inr h))
       ·rintro (h | h)
        ·rcases a2 h with h | h
         ·exact .inl (.inl h)
         ·exact .inr (.inl h)
        ·rcases a3.2 h with h | h
         ·exact .inl (.inr h)
         ·exact .inr (.inr h)
      ·cases j with
       | zero=>simpa using h4 hp (fun p hp=>hv p (List.mem_append_left _ hp)) (fun p hp=>hO p (List.mem_append_left _ hp)) hbx (fun p hp=>hρ p (List.mem_append_left _ hp))
       | succ j =>
         have:=g5 hp (fun p hp=>hv p (List.mem_append_right _ hp)) (fun p hp=>hO p (List.mem_append_right _ hp)) hbx (fun p hp=>hρ p (List.mem_append_right _ hp)) j (by simpa using hj)
         rw[show id+stride*(j+1)=id+stride+stride*j from by rw[Nat.mul_add];omega]
         simpa using this
end
end Go.Proofs.YtadefjgbcapakaaGreatDoor.Vm
namespace Go.Proofs.YtadefjgbcapakaaGreatDoor.Vm
open Classical
def AoJ:Value->Value
  | .func g fi caps=>caps.getD 0 (.func g fi caps)
  | v=>v
def deref (w:World):Value->Value
  | .pointer (some a)=>(w.cell? a).getD undef
  | _=>undef
def innerS (w:World):Sh->Value->Value
  | .clo _ _,v=>deref w (AoJ v)
  | _,v=>v
theorem SN.inner {O:Own} {w:World} {k:Nat} {v p:Value} {ks:List (Bool×CK)} (h:SN O w k v p):innerS w (.clo k ks) v=p:=by
  obtain⟨b,j,h1,_,h3⟩:=h
  rw[h1]
  cases k<;>(show(w.cell? _).getD _=_;rw[h3];rfl)
def ER (w:World) (v:Value):Nat->Value
  | 0=>v
  | x+1=>match v with
    | .agg vs=>vs.getD x undef
    | .pointer (some a)=>(w.cell? (at' a.block (a.off+x))).getD undef
    | _=>undef
section
variable {Oc O':Own} {w:World} {objs':List (Nat×Obj)} {m':Nat->Value}
theorem Dx.carry {Aa:List (Nat×Obj)} {m:Nat->Value} {c i e:Nat} {l:Sl} (h:Dx Oc Aa m w c (.arr e true l)) (hp:Fe Oc w O' w) (hr: ∀ b k,Oc b k=some c->O' b k=some i) (hn: ∀ b k,Oc b k=none->O' b k=none) (hm:m' i=m c) :
    Dx O' objs' m' w i (.arr e true l):=by
  refine⟨h.1,?_⟩
  rcases h.2 with ⟨h1,h2,h3⟩ | ⟨h1,g,cap,cur,h2,h3,h4,h5,h6,h7,h8,h9⟩
  ·exact .inl ⟨h1,h2,by rw[hm];exact h3⟩
  ·refine .inr ⟨h1,g,cap,cur,by rw[hm];exact h2,h3,h4,h5,h6,fun r j hr' hj=> ?_,fun k hk hge=>hr _ _ (h8 k hk hge),fun k hk=> ?_⟩
   ·obtain⟨u,h10,h11⟩:=h7 r j hr' hj
    exact⟨u,h10,h11.Bf hp⟩
   ·have:=h9 k hk
    simp only[if_true]at this ⊢
    exact hn _ _ this
theorem Gx.carry {c i:Nat} {v:Value} {l:Mp} (h:Gx Oc w c v l) (hp:Fe Oc w O' w) (hr: ∀ b k,Oc b k=some c->O' b k=some i):Gx O' w i v l:=by
  obtain⟨r,es,ck,h1,h2,h3,h4,h5⟩:=h
  refine⟨r,es,ck,h1,h2,hr _ _ h3,h4,fun j p hj=> ?_⟩
  obtain⟨e,k1,k2,k3⟩:=h5 j p hj
  exact⟨e,k1,k2.Bf hp,k3.Bf hp⟩
theorem Zu {kt vt:Ty} {a:A} (h:a.Zt kt vt=true): ∃ l,a= .ump l/\l.kt=kt/\l.vt=vt:=by
  cases a with
  | ump l =>
    have h':(decide (l.kt=kt)&&decide (l.vt=vt))=true:=h
    simp only[Bool.and_eq_true,decide_eq_true_eq]at h'
    exact⟨l,rfl,h'.1,h'.2⟩
  | _=>cases h
theorem Af5 {id:Nat} {k:CK} {v:Value} {c:A} (h:IC Oc w id v c) (hp:Fe Oc w O' w) (hok:Ar (force k c).1):AL O' objs' m' w v (force k c).2:=by
  cases c with
  | usl e l =>
    cases k with
    | oth =>
      rcases h.2 with ⟨_,_,h3⟩ | ⟨_,g,cap,cur,h2,_⟩
      ·show v.oneCell'=true
       have h3:v=_:=h3
       rw[h3];rfl
      ·show v.oneCell'=true
       have h2:v=_:=h2
       rw[h2];rfl
    | mp _ _=>have:=hok.cons.1;cases this
    | _=>have:=hok.cons.1;simp [A.isB,A.isI,A.isS,A.Aeo,A.Adl,A.iT,A.isFn]at this
  | _=>exact iE (Ai.Bf hp h) hok
theorem Jk {cid id:Nat} {f:Nat->Value} (hp:Fe Oc w O' w) (hn: ∀ b k,Oc b k=none->O' b k=none): ∀(ks:List (Bool×CK)) (cs:List A) (j0:Nat),(∀ j,j<ks.length->IC Oc w (cid+(j0+j)) (f (j0+j)) (cs.getD (j0+j) .undef)) ->
    (∀ b k x,x<j0+ks.length->Oc b k=some (cid+x)->O' b k=some (id+x))->Ar (Bd id ks cs j0).1->(∀ p∈(Bd id ks cs j0).2.2,Ah objs' p.1=some p.2)->(∀ p∈(Bd id ks cs j0).2.2,∀ x,p.1=id+x->m' p.1=f x) ->
    (Bd id ks cs j0).2.1.length=ks.length/\(∀ j,j<ks.length->AL O' objs' m' w (f (j0+j)) ((Bd id ks cs j0).2.1.getD j .undef))/\ ∀ p∈(Bd id ks cs j0).2.2,Dx O' objs' m' w p.1 p.2/\ ∃ x,p.1=id+x/\j0<=x/\x<j0+ks.length:=by
  intro ks
  induction ks with
  | nil=>intro cs j0 _ _ _ _ _;exact⟨rfl,fun j hj=>by simp at hj,fun p hp=>by simp [Bd]at hp⟩
  | cons k ks ih =>
    intro cs j0 h hr hok hO hm
    obtain⟨u,k⟩:=k
    have h0:=h 0 (by simp)
    rw[Nat.add_zero]at h0
    have hrest:=fun hok2 hO2 hm2=>ih cs (j0+1) (fun j hj=>by have:=h (j+1) (by simpa using hj);rwa [show j0+(j+1)=j0+1+j from by omega]at this) (fun b k x hx=>hr b k x (by simp only[List.length_cons];omega)) hok2 hO2 hm2
    cases u with
    | false =>
      simp only[Bd]at hok hO hm ⊢
      obtain⟨hok1,hok2⟩:=hok.append
      obtain⟨g1,g2,g3⟩:=hrest hok2 hO hm
      refine⟨by simp [g1],fun j hj=> ?_,fun p hp=> ?_⟩
      ·cases j with
       | zero=>exact Af5 h0 hp hok1
       | succ j =>
         have:=g2 j (by simpa using hj)
         rw[show j0+(j+1)=j0+1+j from by omega];simpa using this
      ·obtain⟨a1,x,a2,a3,a4⟩:=g3 p hp
       exact⟨a1,x,a2,by omega,by simp only[List.length_cons];omega⟩
    | true =>
      cases k with
      | sl e sz =>
        simp only[Bd]at hok hO hm ⊢
        obtain⟨hok1,hok2⟩:=hok.cons
        obtain⟨g1,g2,g3⟩:=hrest hok2 (fun p hp=>hO p (List.mem_cons_of_mem _ hp)) (fun p hp=>hm p (List.mem_cons_of_mem _ hp))
        have hO0:=hO _ List.mem_cons_self
        have hm0:=hm _ List.mem_cons_self j0 rfl
        dsimp only at hO0 hm0
        have hc:cs.getD j0 .undef= .usl e (cs.getD j0 .undef).toL:=by
          generalize cs.getD j0 .undef=c at *
          cases c<;>simp only[A.AhQ]at hok1<;>first | (cases hok1;done) | skip
          simp only[Bool.and_eq_true]at hok1
          rw[Nat.eq_of_beq_eq_true hok1.1];rfl
        rw[hc]at h0
        have hor:Dx O' objs' m' w (id+j0) (.arr e true (cs.getD j0 .undef).toL):=Dx.carry (show Dx Oc [] (fun _=>f j0) w (cid+j0) _ from h0) hp (fun b k hbk=>hr b k j0 (by simp) hbk) hn hm0
        refine⟨by simp [g1],fun j hj=> ?_,fun p hp=> ?_⟩
        ·cases j with
         | zero =>
           have hone:(f j0).oneCell'=true:=by
             rcases h0.2 with ⟨_,_,h3⟩ | ⟨_,g,cap,cur,h2,_⟩
             ·have h3:f j0=_:=h3
              rw[h3];rfl
             ·have h2:f j0=_:=h2
              rw[h2];rfl
           refine⟨hone,?_⟩
           show match (Ah objs' (id+j0)).map Obj.shp with | some (.arr _ _)=>_ | some .mp=>_ | _=>True
           rw[hO0]
           exact hm0.symm
         | succ j =>
           have:=g2 j (by simpa using hj)
           rw[show j0+(j+1)=j0+1+j from by omega];simpa using this
        ·rcases List.mem_cons.1 hp with rfl | hp
         ·exact⟨hor,j0,rfl,Nat.le_refl _,by simp⟩
         ·obtain⟨a1,x,a2,a3,a4⟩:=g3 p hp
          exact⟨a1,x,a2,by omega,by simp only[List.length_cons];omega⟩
      | _=>have:=hok false (by simp [Bd]);cases this
theorem Ajl {cid id:Nat} {s:Sh} {x:A} {v:Value} (hp:Fe Oc w O' w) (hn: ∀ b k,Oc b k=none->O' b k=none) (h:IR Oc w cid v x) (hr: ∀ b k i,i<255->Oc b k=some (cid+i)->O' b k=some (id+i))
    (hok:Ar (back id s x).1) (hO: ∀ p∈(back id s x).2.2,Ah objs' p.1=some p.2) (hm: ∀ p∈(back id s x).2.2,∀ i,p.1=id+i->m' p.1=ER w (innerS w s v) i) :
    Au O' objs' m' w v (back id s x).2.1/\ ∀ p∈(back id s x).2.2,Dx O' objs' m' w p.1 p.2:=by
  cases s with
  | cell u k =>
    simp only[back]at hok hO hm ⊢
    obtain⟨hok1,hok2⟩:=hok.append
    have hpl:=hok2.cons.1
    have hic:IC Oc w cid v x:=by
      have bad: ∀ cs l,x= .agg cs\/x= .box cs\/x= .ump l\/(∃ f,x= .cbx f cs)->False:=by
        rintro cs l (rfl | rfl | rfl | ⟨f,rfl⟩)<;>(cases u<;>cases k<;>first | (cases hpl;done) | (have:=hok1 false (by simp [Bd,force,A.isB,A.isI,A.isS,A.Aeo,A.Adl,A.iT,A.AhQ,A.isFn]);cases this))
      cases x with
      | agg cs=>exact(bad cs default (.inl rfl)).elim
      | box cs=>exact(bad cs default (.inr (.inl rfl))).elim
      | ump l=>exact(bad [] l (.inr (.inr (.inl rfl)))).elim
      | cbx f cs=>exact(bad cs default (.inr (.inr (.inr ⟨f,rfl⟩)))).elim
      | _=>exact h
    obtain⟨g1,g2,g3⟩:=Jk (cid:=cid) (id:=id) (f:=ER w v) hp hn [(u,k)] [x] 0 (fun j hj=>by
      have:j=0:=by simpa using hj
      subst this
      exact hic) (fun b k i hi hb=>hr b k i (by simp at hi;omega) hb) hok1 hO hm
    have:=g2 0 (by simp)
    exact⟨this.toT,fun p hp=>(g3 p hp).1⟩
  | agg ks =>
    simp only[back]at hok hO hm ⊢
    obtain⟨hf,hok⟩:=hok.cons
    have hf:=Nat.le_of_ble_eq_true hf
    obtain⟨hok1,hok2⟩:=hok.cons
    cases x with
    | agg cs =>
      obtain⟨vs,h1,h2,h3⟩:=h
      have hl:cs.length=ks.length:=by simpa [A.isAgg,L9]using hok1
      obtain⟨g1,g2,g3⟩:=Jk (objs':=objs') (m':=m') (cid:=cid+1) (id:=id+1) (f:=fun j=>vs.getD j undef) hp hn ks cs 0 (fun j hj=>by
        have:=h3 j (by omega)
        rw[Nat.zero_add];exact this) (fun b k i hi hb=>by
        have:=hr b k (1+i) (by omega) (by rw[<- Nat.add_assoc];exact hb)
        rw[<- Nat.add_assoc]at this;exact this) hok2 hO (fun p hp i hi=>by
        have:=hm p hp (i+1) (by omega)
        rw[this,h1];rfl)
      refine⟨⟨vs,h1,?_,fun j hj=> ?_⟩,fun p hp=>(g3 p hp).1⟩
      ·show vs.size=(Bd (id+1) ks cs 0).2.1.length
       rw[h2,g1,hl]
      ·have hj:j<(Bd (id+1) ks cs 0).2.1.length:=hj
       rw[g1]at hj
       have:=g2 j hj
       rwa [Nat.zero_add]at this
    | _=>simp [A.isAgg]at hok1
  | box ks =>
    simp only[back]at hok hO hm ⊢
    obtain⟨hf,hok⟩:=hok.cons
    have hf:=Nat.le_of_ble_eq_true hf
    obtain⟨hok1,hok2⟩:=hok.cons
    cases x with
    | box cs =>
      obtain⟨b,base,h1,h2⟩:=h
      have h1':ER w v 0= .pointer (some (at' b base)):=by rw[h1];rfl
      have hl:cs.length=ks.length:=by simpa [A.AhO,L9]using hok1
      have hcell: ∀ j,ER w v (j+1)=(w.cell? (at' b (base+j))).getD undef:=by intro j;rw[h1];rfl
      obtain⟨g1,g2,g3⟩:=Jk (objs':=objs') (m':=m') (cid:=cid+1) (id:=id+1) (f:=fun j=>(w.cell? (at' b (base+j))).getD undef) hp hn ks cs 0 (fun j hj=>by
        obtain⟨_,_,u,h5,h6⟩:=h2 j (by omega)
        rw[Nat.zero_add,h5];exact h6) (fun b k i hi hb=>by
        have:=hr b k (1+i) (by omega) (by rw[<- Nat.add_assoc];exact hb)
        rw[<- Nat.add_assoc]at this;exact this) hok2 (fun p hp=>hO p (List.mem_cons_of_mem _ hp)) (fun p hp i hi=>by
        have:=hm p (List.mem_cons_of_mem _ hp) (i+1) (by omega)
        rw[this];exact hcell _)
      have hO0:=hO _ List.mem_cons_self
      have hm0:=hm _ List.mem_cons_self 0 rfl
      dsimp only at hO0 hm0
      refine⟨?_,fun p hp=> ?_⟩
      ·show AL O' objs' m' w v (.ptr id 0)
       refine⟨by rw[h1];rfl,?_⟩
       show match (Ah objs' id).map Obj.shp with | some .box=>_ | _=>True
       rw[hO0]
       exact⟨b,base,by rw[hm0];exact h1',h1⟩
      ·rcases List.mem_cons.1 hp with rfl | hp
       ·refine⟨b,base,by rw[hm0];exact h1',fun j hj=> ?_⟩
        have hj:j<(Bd (id+1) ks cs 0).2.1.length:=hj
        rw[g1]at hj
        obtain⟨a1,a2,u,a3,_⟩:=h2 j (by omega)
        have:=g2 j hj
        rw[Nat.zero_add,a3]at this
        exact⟨by have:=hr b (base+j) 0 (by omega) a1;exact this,a2,u,a3,this⟩
       ·exact(g3 p hp).1
    | _=>simp [A.AhO]at hok1
  | clo f' ks =>
    simp only[back]at hok hO hm ⊢
    obtain⟨hf,hok⟩:=hok.cons
    have hf:=Nat.le_of_ble_eq_true hf
    obtain⟨hok1,hok2⟩:=hok.cons
    cases x with
    | cbx g cs =>
      have hg:f'=g:=by
        have h':=hok1
        simp only[A.Adk,Bool.and_eq_true]at h'
        exact Nat.eq_of_beq_eq_true h'.1
      subst hg
      obtain⟨b,base,h1,h2⟩:=h
      have h1':ER w (innerS w (.clo f' ks) v) 0= .pointer (some (at' b base)):=h1.inner (ks:=ks)
      have hl:cs.length=ks.length:=by
        have h':=hok1
        simp only[A.Adk,Bool.and_eq_true]at h'
        exact Nat.eq_of_beq_eq_true h'.2
      have hcell: ∀ j,ER w (innerS w (.clo f' ks) v) (j+1)=(w.cell? (at' b (base+j))).getD undef:=by intro j;rw[h1.inner (ks:=ks)];rfl
      obtain⟨g1,g2,g3⟩:=Jk (objs':=objs') (m':=m') (cid:=cid+1) (id:=id+1) (f:=fun j=>(w.cell? (at' b (base+j))).getD undef) hp hn ks cs 0 (fun j hj=>by
        obtain⟨_,_,u,h5,h6⟩:=h2 j (by omega)
        rw[Nat.zero_add,h5];exact h6) (fun b k i hi hb=>by
        have:=hr b k (1+i) (by omega) (by rw[<- Nat.add_assoc];exact hb)
        rw[<- Nat.add_assoc]at this;exact this) hok2 (fun p hp=>hO p (List.mem_cons_of_mem _ hp)) (fun p hp i hi=>by
        have:=hm p (List.mem_cons_of_mem _ hp) (i+1) (by omega)
        rw[this];exact hcell _)
      have hO0:=hO _ List.mem_cons_self
      have hm0:=hm _ List.mem_cons_self 0 rfl
      dsimp only at hO0 hm0
      refine⟨?_,fun p hp=> ?_⟩
      ·show AL O' objs' m' w v (.clo f' id)
       refine⟨by obtain⟨_,_,e,_⟩:=h1;rw[e];cases f'<;>rfl,_,rfl,h1.Bf hp,?_⟩
       show match (Ah objs' id).map Obj.shp with | some .box=>_ | _=>True
       rw[hO0]
       exact⟨b,base,hm0.trans h1',rfl⟩
      ·rcases List.mem_cons.1 hp with rfl | hp
       ·refine⟨b,base,by rw[hm0];exact h1',fun j hj=> ?_⟩
        have hj:j<(Bd (id+1) ks cs 0).2.1.length:=hj
        rw[g1]at hj
        obtain⟨a1,a2,u,a3,_⟩:=h2 j (by omega)
        have:=g2 j hj
        rw[Nat.zero_add,a3]at this
        exact⟨by have:=hr b (base+j) 0 (by omega) a1;exact this,a2,u,a3,this⟩
       ·exact(g3 p hp).1
    | _=>simp [A.Adk]at hok1
  | map kt vt =>
    simp only[back]at hok hO hm ⊢
    obtain⟨l,rfl,_,_⟩:=Zu hok.cons.1
    have hO0:=hO _ List.mem_cons_self
    have hm0:=hm _ List.mem_cons_self 0 rfl
    dsimp only at hO0 hm0
    have h:Gx Oc w cid v l:=h
    have hm0:m' id=v:=hm0
    have h2:Gx O' w id v l:=h.carry hp (fun b k hb=>hr b k 0 (by omega) hb)
    refine⟨?_,fun p hp=> ?_⟩
    ·show AL O' objs' m' w v (.own id)
     refine⟨by obtain⟨r,_,_,h1,_⟩:=h;rw[h1];rfl,?_⟩
     rw[hO0]
     exact hm0.symm
    ·obtain rfl:p=(id,.mp l):=List.mem_singleton.1 hp
     show Gx O' w id (m' id) l
     rw[hm0];exact h2
end
end Go.Proofs.YtadefjgbcapakaaGreatDoor.Vm
namespace Go.Proofs.YtadefjgbcapakaaGreatDoor.Vm
open Classical
def Aq0 (k:Nat):Nat:=256000+256*k
def yR:A->A
  | .agg cs=>.box cs
  | a=>a
def CU:List Sh->Nat->List Nat
  | [],_=>[]
  | s::ss,i=>bif BH s then i::CU ss (i+1)else CU ss (i+1)
structure Came (O:Own) (w:World) (vs:Array Value) (sg:Sig) (rs:List A) (v:Value) (O':Own) (w':World):Prop where
  moves:Moves O (fun o=>o≠255) w w'
  less: ∀ b k,b<w.heap.size->O' b k≠none->O b k≠none
  Xf: ∀ b k,b<w.heap.size->O b k=some 255->O' b k=some 255
  count:rs.length=sg.A7.length+(CU sg.Af 0).length
  res: ∃ us:Array Value,us.size=sg.A7.length/\v=(if h:us.size=1 then us[0]else .tuple us)/\ ∀ k,k<us.size->IR O' w' (Aq0 k) (us.getD k undef) (rs.getD k .undef)
  boxes: ∀ j i,(CU sg.Af 0)[j]? =some i->IR O' w' (256*i) (innerS w (sg.Af.getD i (.agg [])) (vs.getD i undef)) (yR (rs.getD (sg.A7.length+j) .undef))
def Spec (P:Program) (f:FuncId) (sg:Sig):Prop :=
  (∀ args w,(callFunc f args).run P w= .ok (.enter f args) w) /\
  ∀(O:Own) (w:World) (vs:Array Value) (xs rs:List A),Inv O w->vs.size=xs.length->xs.length=sg.Af.length->xs.length<=100->(∀ j,j<xs.length->IR O w (256*j) (vs.getD j undef) (xs.getD j .undef))->sg.F xs=some rs ->
   Calls P f vs w fun e w'=> ∃ v O',e= .returned v/\Came O w vs sg rs v O' w'
section
variable {P:Program} {C:Ctx} {V0:Nat->Value} {O0 O:Own} {w0 w:World} {m:Nat->Value} {st:St} {a:Act} {o:Oper}
def OA (w:World) (f:Nat->Value) (id stride:Nat):List Sh->List A->Nat->List (Nat×Value)
  | [],_,_=>[]
  | s::ss,rs,j=>(back (id+stride*j) s (rs.getD j .undef)).2.2.map (fun p=>(p.1,ER w (f j) (p.1 - (id+stride*j))))++OA w f id stride ss rs (j+1)
theorem AgX (w:World) (f:Nat->Value) (id stride:Nat): ∀(ss:List Sh) (rs:List A) (j:Nat),(OA w f id stride ss rs j).map (·.1)=(BN id stride ss rs j).2.2.map (·.1):=by
  intro ss
  induction ss with
  | nil=>intro rs j;rfl
  | cons s ss ih=>intro rs j;simp [OA,BN,ih]
theorem AjW {k:CK} {c:A} (hp:k.plain=true) (h:Ar (force k c).1):(force k c).2.isVal=true:=by
  cases k<;>first
    | (cases hp;done)
    | (have h1:=h.cons.1;cases c<;>first | rfl | (cases h1;done))
theorem uT {Oc O':Own} {objs':List (Nat×Obj)} {m':Nat->Value} {cid cst id stride:Nat} {f g:Nat->Value} {rs:List A} (hp:Fe Oc w O' w) (hn: ∀ b k,Oc b k=none->O' b k=none): ∀(ss:List Sh) (j0:Nat),(∀ j,j<ss.length->g (j0+j)=innerS w (ss.getD j (.agg [])) (f (j0+j))) ->
    (∀ j,j<ss.length->IR Oc w (cid+cst*(j0+j)) (f (j0+j)) (rs.getD (j0+j) .undef))->(∀ j,j<ss.length-> ∀ b k i,i<255->Oc b k=some (cid+cst*(j0+j)+i)->O' b k=some (id+stride*(j0+j)+i)) ->
    Ar (BN id stride ss rs j0).1->(∀ p∈(BN id stride ss rs j0).2.2,Ah objs' p.1=some p.2)->(∀ p∈OA w g id stride ss rs j0,m' p.1=p.2) ->
    (BN id stride ss rs j0).2.1.length=ss.length/\(∀ j,j<ss.length->Au O' objs' m' w (f (j0+j)) ((BN id stride ss rs j0).2.1.getD j .undef)/\((BN id stride ss rs j0).2.1.getD j .undef).isVal=true) /\
      ∀ p∈(BN id stride ss rs j0).2.2,Dx O' objs' m' w p.1 p.2:=by
  intro ss
  induction ss with
  | nil=>intro j0 _ _ _ _ _ _;exact⟨rfl,fun j hj=>by simp at hj,fun p hp=>by simp [BN]at hp⟩
  | cons s ss ih =>
    intro j0 hg h hr hok hO hm
    simp only[BN]at hok hO ⊢
    simp only[OA]at hm
    obtain⟨hok1,hok2⟩:=hok.append
    obtain⟨g1,g2,g3⟩:=ih (j0+1) (fun j hj=>by have:=hg (j+1) (by simpa using hj);rwa [show j0+(j+1)=j0+1+j from by omega]at this) (fun j hj=>by have:=h (j+1) (by simpa using hj);rwa [show j0+(j+1)=j0+1+j from by omega]at this)
      (fun j hj=>by have:=hr (j+1) (by simpa using hj);rwa [show j0+(j+1)=j0+1+j from by omega]at this) hok2 (fun p hp=>hO p (List.mem_append_right _ hp)) (fun p hp=>hm p (List.mem_append_right _ hp))
    have h0:=h 0 (by simp)
    have hr0:=hr 0 (by simp)
    have hg0:g (j0+0)=innerS w s (f (j0+0)):=hg 0 (by simp)
    rw[Nat.add_zero]at h0 hr0 hg0
    obtain⟨k1,k2⟩:=Ajl (id:=id+stride*j0) (m':=m') (objs':=objs') hp hn h0 hr0 hok1 (fun p hp=>hO p (List.mem_append_left _ hp)) (fun p hp i hi=>by
      have:=hm (p.1,ER w (g j0) (p.1 - (id+stride*j0))) (List.mem_append_left _ (List.mem_map.2 ⟨p,hp,rfl⟩))
      rw[this,hi,Nat.add_sub_cancel_left,hg0])
    refine⟨by simp [g1],fun j hj=> ?_,fun p hp=> ?_⟩
    ·cases j with
     | zero =>
       refine⟨k1,?_⟩
       show((back (id+stride*j0) s (rs.getD j0 .undef)).2.1).isVal=true
       cases s with
       | agg ks=>rfl
       | box ks=>rfl
       | clo f' ks=>rfl
       | map kt vt=>rfl
       | cell u' k =>
         have hpl:k.plain=true:=by
           simp only[back]at hok1
           exact hok1.append.2.cons.1
         cases u' with
         | true=>cases k<;>first | (cases hpl;done) | rfl | (exfalso;have:=hok1 false (by simp [back,Bd]);cases this)
         | false =>
           have hf:Ar (force k (rs.getD j0 .undef)).1:=by
             have h1:=hok1
             simp only[back,Bd]at h1
             exact h1.append.1.append.1
           show(force k (rs.getD j0 .undef)).2.isVal=true
           exact AjW hpl hf
     | succ j =>
       have:=g2 j (by simpa using hj)
       rw[show j0+(j+1)=j0+1+j from by omega]
       simpa using this
    ·rcases List.mem_append.1 hp with hp | hp
     ·exact k2 p hp
     ·exact g3 p hp
def look (N:List (Nat×Nat)) (q:Nat):Option Nat:=(N.find? (fun p=>p.1==q)).map (·.2)
theorem Aew {N:List (Nat×Nat)} (hnd:nodup (N.map (·.1))=true): ∀ p∈N,look N p.1=some p.2:=by
  induction N with
  | nil=>intro p hp;cases hp
  | cons q N ih =>
    intro p hp
    simp only[List.map_cons,nodup,Bool.and_eq_true,Bool.not_eq_true']at hnd
    unfold look
    rcases List.mem_cons.1 hp with rfl | hp
    ·simp
    ·have hne:q.1≠p.1:=fun e=>by
       have:has (N.map (·.1)) q.1=true:=I8.2 (List.mem_map.2 ⟨p,hp,e.symm⟩)
       rw[this]at hnd;cases hnd.1
     rw[List.find?_cons_of_neg (by simpa using hne)]
     exact ih hnd.2 p hp
theorem jA {N:List (Nat×Nat)} {q i:Nat} (h:look N q=some i):(q,i)∈N:=by
  unfold look at h
  cases hf:N.find? (fun p=>p.1==q)with
  | none=>rw[hf]at h;cases h
  | some p =>
    rw[hf]at h
    injection h with h
    have h1:=List.find?_some hf
    have h2:=List.mem_of_find?_eq_some hf
    have:p.1=q:=by simpa using h1
    rw[<- this,<- h];exact h2
def Zx (N:List (Nat×Value)) (q:Nat):Option Value:=(N.find? (fun p=>p.1==q)).map (·.2)
theorem Ak0 {N:List (Nat×Value)} (hnd:nodup (N.map (·.1))=true): ∀ p∈N,Zx N p.1=some p.2:=by
  induction N with
  | nil=>intro p hp;cases hp
  | cons q N ih =>
    intro p hp
    simp only[List.map_cons,nodup,Bool.and_eq_true,Bool.not_eq_true']at hnd
    unfold Zx
    rcases List.mem_cons.1 hp with rfl | hp
    ·simp
    ·have hne:q.1≠p.1:=fun e=>by
       have:has (N.map (·.1)) q.1=true:=I8.2 (List.mem_map.2 ⟨p,hp,e.symm⟩)
       rw[this]at hnd;cases hnd.1
     rw[List.find?_cons_of_neg (by simpa using hne)]
     exact ih hnd.2 p hp
theorem Aib {N:List (Nat×Value)} {q:Nat} (h:q∉N.map (·.1)):Zx N q=none:=by
  unfold Zx
  rw[List.find?_eq_none.2 (fun p hp=>by simp;exact fun e=>h (List.mem_map.2 ⟨p,hp,e⟩))]
  rfl
theorem Au.ApX {Aa:List (Nat×Obj)} {v:Value} {x:A} (h:Au O Aa m w v x) (hv:x.isVal=true):T1 O Aa m w v x:=by cases x<;>first | (cases hv;done) | exact h
theorem Pn {fet:Fet}: ∀(ks:List (Bool×CK)) (cs:List A) (id:Nat),Ar (AO fet ks cs).1-> ∀ p∈DZ id ks cs,(∃ e f l,Ah fet p.1=some (.arr e f l))/\ ∃ x,x<ks.length/\p.2=id+x:=by
  intro ks
  induction ks with
  | nil=>intro cs id _ p hp;cases cs<;>simp [DZ]at hp
  | cons k ks ih =>
    intro cs id hok p hp
    obtain⟨u,k⟩:=k
    cases cs with
    | nil=>cases u<;>simp [DZ]at hp
    | cons c cs =>
      have step:Ar (AO fet ks cs).1->p∈DZ (id+1) ks cs->(∃ e f l,Ah fet p.1=some (.arr e f l))/\ ∃ x,x<((u,k)::ks).length/\p.2=id+x:=by
        intro h1 h2
        obtain⟨h3,x,h4,h5⟩:=ih cs (id+1) h1 p h2
        exact⟨h3,x+1,by simpa using h4,by omega⟩
      cases u with
      | false =>
        have hnm:DZ id ((false,k)::ks) (c::cs)=DZ (id+1) ks cs:=by cases c<;>rfl
        rw[hnm]at hp
        simp only[AO]at hok
        exact step hok.append.2 hp
      | true =>
        cases k with
        | sl e sz =>
          cases c with
          | own q =>
            simp only[AO]at hok
            cases hg:Ah fet q with
            | none=>rw[hg]at hok;have:=hok false (by simp);cases this
            | some y =>
              cases y with
              | box _=>rw[hg]at hok;have:=hok false (by simp);cases this
              | mp _=>rw[hg]at hok;have:=hok false (by simp);cases this
              | arr e' fz l =>
                rw[hg]at hok
                simp only[DZ]at hp
                rcases List.mem_cons.1 hp with rfl | hp
                ·exact⟨⟨_,_,_,hg⟩,0,by simp,rfl⟩
                ·exact step hok.append.2 hp
          | Dh =>
            simp only[AO]at hok
            exact step hok hp
          | _=>have:=hok false (by simp [AO]);cases this
        | _=>have:=hok false (by simp [AO]);cases this
theorem Ae6 {fet:Fet} {s:Sh} {x:A} {id:Nat} (hok:Ar (Bc fet s x).ok): ∀ p∈F7 fet id s x,(Ah fet p.1).isSome/\ ∃ i,p.2=id+i/\(i<202\/(∃ ks,s= .agg ks)):=by
  intro p hp
  cases s with
  | cell u k =>
    simp only[F7]at hp
    have hh:Ar (AO fet [(u,k)] [x]).1:=by
      unfold Bc at hok
      dsimp only at hok
      generalize AO fet [(u,k)] [x]=r at *
      obtain⟨ok,cs,upd,del⟩:=r
      cases cs with
      | nil=>have:=hok false (by simp);cases this
      | cons c cs =>
        cases cs with
        | nil=>exact hok
        | cons _ _=>have:=hok false (by simp);cases this
    obtain⟨⟨e,f,l,h1⟩,i,h2,h3⟩:=Pn _ _ _ hh p hp
    exact⟨by rw[h1];rfl,i,h3,.inl (by simp at h2;omega)⟩
  | agg ks =>
    cases x with
    | agg cs =>
      simp only[F7]at hp
      obtain⟨⟨e,f,l,h1⟩,i,h2,h3⟩:=Pn _ _ _ (show Ar (AO fet ks cs).1 from hok) p hp
      exact⟨by rw[h1];rfl,1+i,by omega,.inr ⟨ks,rfl⟩⟩
    | _=>cases hp
  | box ks =>
    cases x with
    | ptr q off =>
      simp only[F7]at hp
      unfold Bc at hok
      dsimp only at hok
      cases hg:FH fet q with
      | none=>rw[hg]at hok;have:=hok false (by simp);cases this
      | some cs =>
        rw[hg]at hok hp
        dsimp only at hok hp
        obtain⟨_,hokA⟩:=hok.cons
        obtain⟨hf,hokB⟩:=hokA.cons
        have hf:=Nat.le_of_ble_eq_true hf
        rcases List.mem_cons.1 hp with rfl | hp
        ·exact⟨by rw[D8 hg];rfl,0,rfl,.inl (by omega)⟩
        ·obtain⟨⟨e,f,l,h1⟩,i,h2,h3⟩:=Pn _ _ _ hokB p hp
         exact⟨by rw[h1];rfl,1+i,by omega,.inl (by omega)⟩
    | _=>cases hp
  | clo f' ks =>
    cases x with
    | clo g q =>
      simp only[F7]at hp
      unfold Bc at hok
      dsimp only at hok
      cases hg:FH fet q with
      | none=>rw[hg]at hok;have:=hok false (by simp);cases this
      | some cs =>
        rw[hg]at hok hp
        dsimp only at hok hp
        obtain⟨_,hokA⟩:=hok.cons
        obtain⟨hf,hokB⟩:=hokA.cons
        have hf:=Nat.le_of_ble_eq_true hf
        rcases List.mem_cons.1 hp with rfl | hp
        ·exact⟨by rw[D8 hg];rfl,0,rfl,.inl (by omega)⟩
        ·obtain⟨⟨e,f,l,h1⟩,i,h2,h3⟩:=Pn _ _ _ hokB p hp
         exact⟨by rw[h1];rfl,1+i,by omega,.inl (by omega)⟩
    | _=>cases hp
  | map kt vt =>
    cases x with
    | own q =>
      obtain rfl:p=(q,id):=by simpa [F7]using hp
      unfold Bc at hok
      dsimp only at hok
      cases hg:Ah fet q with
      | none=>rw[hg]at hok;have:=hok false (by simp);cases this
      | some y=>exact⟨rfl,0,rfl,.inl (by omega)⟩
    | _=>cases hp
theorem Si {fet:Fet} {stride:Nat}: ∀(ss:List Sh) (xs:List A) (id:Nat),Ar (AY fet ss xs).1-> ∀ p∈EF fet id stride ss xs,(Ah fet p.1).isSome:=by
  intro ss
  induction ss with
  | nil=>intro xs id _ p hp;cases xs<;>simp [EF]at hp
  | cons s ss ih =>
    intro xs id hok p hp
    cases xs with
    | nil=>simp [EF]at hp
    | cons x xs =>
      simp only[AY]at hok
      obtain⟨h1,h2⟩:=hok.append
      rcases List.mem_append.1 hp with hp | hp
      ·exact(Ae6 h1 p hp).1
      ·exact ih xs _ h2 p hp
theorem Moves.AoI {ρ :Nat->Option Nat} {w w':World} (h:Moves (Gw O ρ) (fun o=>o≠255) w w'):Moves O (fun o=> ∃ i,ρ o=some i) w w':=by
  refine⟨h.os,h.tape,h.output,h.size,fun b hb=> ?_⟩
  have un: ∀ k i,Gw O ρ b k=some i->i≠255-> ∃ q,O b k=some q/\ ∃ i,ρ q=some i:=by
    intro k i hr hne
    unfold Gw at hr
    cases hO:O b k with
    | none=>rw[hO]at hr;cases hr
    | some q =>
      rw[hO]at hr
      dsimp only at hr
      cases hρ : ρ q with
      | none=>rw[hρ]at hr;injection hr with hr;exact absurd hr.symm hne
      | some j=>exact⟨q,rfl,j,hρ⟩
  rcases h.blk b hb with he | ⟨c,c',e,fr,h1,h2,h3,h4,k,q,h5,h6,h7⟩ | ⟨es,ck,es',ck',q,h1,h2,h3,h4⟩
  ·exact .inl he
  ·refine .inr (.inl ⟨c,c',e,fr,h1,h2,h3,fun k hk=>h4 k (fun i hi hne=> ?_),k,?_⟩)
   ·obtain⟨q,hq,hρ⟩:=un k i hi hne
    exact hk q hq hρ
   ·obtain⟨q',hq',hρ⟩:=un k q h6 h7
    exact⟨q',h5,hq',hρ⟩
  ·obtain⟨q',hq',hρ⟩:=un 0 q h3 h4
   exact .inr (.inr ⟨es,ck,es',ck',q',h1,h2,hq',hρ⟩)
end
end Go.Proofs.YtadefjgbcapakaaGreatDoor.Vm
namespace Go.Proofs.YtadefjgbcapakaaGreatDoor.Vm
open Classical
section
variable {P:Program} {C:Ctx} {V0:Nat->Value} {O0 O:Own} {w0 w:World} {m:Nat->Value} {st:St} {a:Act} {o:Oper}
def AoN (fet:Fet) (p:Nat×Sh) (x:Option A):Sh->Prop
  | .box ks=>(∃ cs,Ah fet p.1=some (.box cs))/\x=some (.ptr p.1 0)/\ks.length<=200/\p.2= .box ks
  | .clo k ks=>(∃ cs,Ah fet p.1=some (.box cs))/\x=some (.clo k p.1)/\ks.length<=200/\p.2= .box ks
  | .map kt vt=>(∃ l,Ah fet p.1=some (.mp l))/\x=some (.own p.1)/\p.2= .map kt vt
  | _=>False
theorem AlO {fet:Fet} {stride:Nat}: ∀(ss:List Sh) (xs:List A) (id i0:Nat),Ar (AY fet ss xs).1 ->
    (AY fet ss xs).2.2.2.2.length=(CU ss i0).length/\ ∀(j:Nat) (p:Nat×Sh),(AY fet ss xs).2.2.2.2[j]? =some p-> ∃ i,(CU ss i0)[j]? =some (i0+i)/\i<ss.length/\(p.1,id+stride*i)∈EF fet id stride ss xs/\ ∃ s,ss[i]? =some s/\AoN fet p xs[i]? s:=by
  intro ss
  induction ss with
  | nil=>intro xs id i0 hok;cases xs with
    | nil=>exact⟨rfl,fun j p h=>by simp [AY]at h⟩
    | cons _ _=>have:=hok false (by simp [AY]);cases this
  | cons s ss ih =>
    intro xs id i0 hok
    cases xs with
    | nil=>have:=hok false (by simp [AY]);cases this
    | cons x xs =>
      simp only[AY]at hok ⊢
      obtain⟨h1,h2⟩:=hok.append
      obtain⟨g1,g2⟩:=ih xs (id+stride) (i0+1) h2
      have hrest: ∀(j:Nat) (p:Nat×Sh),(AY fet ss xs).2.2.2.2[j]? =some p-> ∃ i,(CU ss (i0+1))[j]? =some (i0+i)/\i<(s::ss).length/\(p.1,id+stride*i)∈EF fet id stride (s::ss) (x::xs)/\ ∃ s',(s::ss)[i]? =some s'/\AoN fet p (x::xs)[i]? s':=by
        intro j p hp
        obtain⟨i,a1,a2,a3,s',a4,a5⟩:=g2 j p hp
        refine⟨i+1,by rw[a1];congr 1;omega,by simpa using a2,List.mem_append_right _ ?_,s',by simpa using a4,by simpa using a5⟩
        rw[show id+stride*(i+1)=id+stride+stride*i from by rw[Nat.mul_add];omega];exact a3
      cases s with
      | box ks =>
        cases x with
        | ptr q off =>
          have hA:Ar (Bc fet (.box ks) (.ptr q off)).ok:=h1
          unfold Bc at h1
          dsimp only at h1
          cases hg:FH fet q with
          | none=>rw[hg]at h1;have:=h1 false (by simp);cases this
          | some cs =>
            rw[hg]at h1
            dsimp only at h1
            obtain⟨h3,h4⟩:=h1.cons
            obtain⟨h4,_⟩:=h4.cons
            have h3:=Nat.eq_of_beq_eq_true h3
            have h4:=Nat.le_of_ble_eq_true h4
            subst h3
            have hb:(Bc fet (.box ks) (.ptr q 0)).boxes=[(q,.box ks)]:=by unfold Bc;dsimp only;rw[hg]
            rw[hb]
            refine⟨by simp [CU,BH,g1],fun j p hp=> ?_⟩
            cases j with
            | zero =>
              simp at hp;subst hp
              exact⟨0,by simp [CU,BH],by simp,List.mem_append_left _ (by simp [F7]),_,rfl,⟨cs,D8 hg⟩,rfl,h4,rfl⟩
            | succ j =>
              have hp':(AY fet ss xs).2.2.2.2[j]? =some p:=by simpa using hp
              obtain⟨i,a1,a2⟩:=hrest j p hp'
              exact⟨i,by simpa [CU,BH]using a1,a2⟩
        | _=>have:=h1 false (by simp [Bc]);cases this
      | clo f' ks =>
        cases x with
        | clo g q =>
          have hA:Ar (Bc fet (.clo f' ks) (.clo g q)).ok:=h1
          unfold Bc at h1
          dsimp only at h1
          cases hg:FH fet q with
          | none=>rw[hg]at h1;have:=h1 false (by simp);cases this
          | some cs =>
            rw[hg]at h1
            dsimp only at h1
            obtain⟨h3,h4⟩:=h1.cons
            obtain⟨h4,_⟩:=h4.cons
            have h3:=Nat.eq_of_beq_eq_true h3
            have h4:=Nat.le_of_ble_eq_true h4
            subst h3
            have hb:(Bc fet (.clo f' ks) (.clo f' q)).boxes=[(q,.box ks)]:=by unfold Bc;dsimp only;rw[hg]
            rw[hb]
            refine⟨by simp [CU,BH,g1],fun j p hp=> ?_⟩
            cases j with
            | zero =>
              simp at hp;subst hp
              exact⟨0,by simp [CU,BH],by simp,List.mem_append_left _ (by simp [F7]),_,rfl,⟨cs,D8 hg⟩,rfl,h4,rfl⟩
            | succ j =>
              have hp':(AY fet ss xs).2.2.2.2[j]? =some p:=by simpa using hp
              obtain⟨i,a1,a2⟩:=hrest j p hp'
              exact⟨i,by simpa [CU,BH]using a1,a2⟩
        | _=>have:=h1 false (by simp [Bc]);cases this
      | cell u k =>
        have hb:(Bc fet (.cell u k) x).boxes=[]:=by
          unfold Bc
          dsimp only
          split<;>rfl
        rw[hb]
        exact⟨by simpa [CU,BH]using g1,fun j p hp=>by simpa [CU,BH]using hrest j p (by simpa using hp)⟩
      | agg ks =>
        have hb:(Bc fet (.agg ks) x).boxes=[]:=by
          unfold Bc
          cases x<;>rfl
        rw[hb]
        exact⟨by simpa [CU,BH]using g1,fun j p hp=>by simpa [CU,BH]using hrest j p (by simpa using hp)⟩
      | map kt vt =>
        cases x with
        | own q =>
          unfold Bc at h1
          dsimp only at h1
          cases hg:Ah fet q with
          | none=>rw[hg]at h1;have:=h1 false (by simp);cases this
          | some y =>
            cases y with
            | box _=>rw[hg]at h1;have:=h1 false (by simp);cases this
            | arr _ _ _=>rw[hg]at h1;have:=h1 false (by simp);cases this
            | mp l =>
              have hb:(Bc fet (.map kt vt) (.own q)).boxes=[(q,.map kt vt)]:=by unfold Bc;dsimp only;rw[hg]
              rw[hb]
              refine⟨by simp [CU,BH,g1],fun j p hp=> ?_⟩
              cases j with
              | zero =>
                simp at hp;subst hp
                exact⟨0,by simp [CU,BH],by simp,List.mem_append_left _ (by simp [F7]),_,rfl,⟨l,hg⟩,rfl,rfl⟩
              | succ j =>
                have hp':(AY fet ss xs).2.2.2.2[j]? =some p:=by simpa using hp
                obtain⟨i,a1,a2⟩:=hrest j p hp'
                exact⟨i,by simpa [CU,BH]using a1,a2⟩
        | _=>have:=h1 false (by simp [Bc]);cases this
def LQ (rb:Nat->Nat) (w:World) (vf:Nat->Value) (rs:List A):List (Nat×Sh)->Nat->List (Nat×Value)
  | [],_=>[]
  | (o,s)::r,j=>(EU (rb o) s (rs.getD j .undef)).2.2.map (fun p=>(p.1,ER w (vf j) (p.1 - rb o)))++LQ rb w vf rs r (j+1)
theorem zX (rb:Nat->Nat) (w:World) (vf:Nat->Value) (rs:List A): ∀(bs:List (Nat×Sh)) (j:Nat),(LQ rb w vf rs bs j).map (·.1)=(BO rb rs bs j).2.2.map (·.1):=by
  intro bs
  induction bs with
  | nil=>intro j;rfl
  | cons b bs ih=>intro j;obtain⟨q,ks⟩:=b;simp [LQ,BO,ih]
theorem Aci (rb:Nat->Nat) (rs:List A): ∀(bs:List (Nat×Sh)) (j:Nat),(BO rb rs bs j).2.1.map (·.1)=bs.map (·.1):=by
  intro bs
  induction bs with
  | nil=>intro j;rfl
  | cons b bs ih=>intro j;obtain⟨q,ks⟩:=b;simp [BO,ih]
theorem Ad8 {rb:Nat} {Oc O':Own} {objs':List (Nat×Obj)} {m':Nat->Value} {v:Value} {cid q:Nat} {s:Sh} {r:A} (hp:Fe Oc w O' w) (hn: ∀ b k,Oc b k=none->O' b k=none)
    (hs: ∀ ks,s= .box ks->ks.length<=200) (hmq:m' q=v) (hir:IR Oc w cid v (yR r)) (hr: ∀ b k i,i<255->Oc b k=some (cid+i)->O' b k=some (if i=0 then q else rb+i))
    (hok:Ar (EU rb s r).1) (hO: ∀ p∈(EU rb s r).2.2,Ah objs' p.1=some p.2) (hm: ∀ p∈(EU rb s r).2.2,m' p.1=ER w v (p.1 - rb)) :
    Dx O' objs' m' w q (EU rb s r).2.1/\ ∀ p∈(EU rb s r).2.2,Dx O' objs' m' w p.1 p.2:=by
  cases s with
  | cell _ _=>have:=hok false (by simp [EU]);cases this
  | agg _=>have:=hok false (by simp [EU]);cases this
  | clo _ _=>have:=hok false (by simp [EU]);cases this
  | map kt vt =>
    simp only[EU]at hok ⊢
    obtain⟨l,rfl,_,_⟩:=Zu hok.cons.1
    refine⟨?_,fun p hp=>by cases hp⟩
    show Gx O' w q (m' q) l
    rw[hmq]
    exact Gx.carry (show Gx Oc w cid v l from hir) hp (fun b k hb=>by have:=hr b k 0 (by omega) hb;exact this)
  | box ks =>
    have hf:=hs ks rfl
    simp only[EU]at hok hO hm ⊢
    obtain⟨hok0,hok1⟩:=hok.cons
    cases r with
    | agg cs =>
      have hl:cs.length=ks.length:=by simpa [A.isAgg,L9]using hok0
      obtain⟨bk,base,h1,h2⟩:=(show IR Oc w cid v (.box cs)from hir)
      have hcell: ∀ j,ER w v (j+1)=(w.cell? (at' bk (base+j))).getD undef:=by intro j;rw[h1];rfl
      obtain⟨k1,k2,k3⟩:=Jk (objs':=objs') (m':=m') (cid:=cid+1) (id:=rb+1) (f:=fun j=>(w.cell? (at' bk (base+j))).getD undef) hp hn ks cs 0 (fun j hj=>by
        obtain⟨_,_,u,h5,h6⟩:=h2 j (by omega)
        rw[Nat.zero_add,h5];exact h6) (fun b k i hi hb=>by
        have:=hr b k (1+i) (by omega) (by rw[<- Nat.add_assoc];exact hb)
        rw[if_neg (by omega),<- Nat.add_assoc]at this;exact this) hok1 hO (fun p hp i hi=>by
        have:=hm p hp
        rw[this,hi,show rb+1+i - rb=i+1 from by omega,hcell])
      refine⟨⟨bk,base,by rw[hmq];exact h1,fun j hj=> ?_⟩,fun p hp=>(k3 p hp).1⟩
      have hj:j<(Bd (rb+1) ks cs 0).2.1.length:=hj
      rw[k1]at hj
      obtain⟨a1,a2,u,a3,_⟩:=h2 j (by omega)
      have:=k2 j hj
      rw[Nat.zero_add,a3]at this
      exact⟨by have:=hr bk (base+j) 0 (by omega) a1;exact this,a2,u,a3,this⟩
    | _=>cases hok0
theorem zY {rb:Nat->Nat} {Oc O':Own} {objs':List (Nat×Obj)} {m':Nat->Value} {val:Nat->Value} {cid:Nat->Nat} {rs:List A} (hp:Fe Oc w O' w) (hn: ∀ b k,Oc b k=none->O' b k=none): ∀(bs:List (Nat×Sh)) (j0:Nat),
    (∀(j:Nat) (p:Nat×Sh),bs[j]? =some p->(∀ ks,p.2= .box ks->ks.length<=200)/\m' p.1=val (j0+j)/\IR Oc w (cid (j0+j)) (val (j0+j)) (yR (rs.getD (j0+j) .undef))/\ ∀ b k i,i<255->Oc b k=some (cid (j0+j)+i)->O' b k=some (if i=0 then p.1 else rb p.1+i)) ->
    Ar (BO rb rs bs j0).1->(∀ p∈(BO rb rs bs j0).2.2,Ah objs' p.1=some p.2)->(∀ p∈LQ rb w val rs bs j0,m' p.1=p.2) ->
    (∀ p∈(BO rb rs bs j0).2.1,Dx O' objs' m' w p.1 p.2)/\ ∀ p∈(BO rb rs bs j0).2.2,Dx O' objs' m' w p.1 p.2:=by
  intro bs
  induction bs with
  | nil=>intro j0 _ _ _ _;exact⟨fun p hp=>by simp [BO]at hp,fun p hp=>by simp [BO]at hp⟩
  | cons b bs ih =>
    intro j0 h hok hO hm
    obtain⟨q,s⟩:=b
    simp only[BO]at hok hO ⊢
    simp only[LQ]at hm
    obtain⟨hok1,hok2⟩:=hok.append
    obtain⟨g1,g2⟩:=ih (j0+1) (fun j p hj=>by have:=h (j+1) p (by simpa using hj);rwa [show j0+(j+1)=j0+1+j from by omega]at this) hok2 (fun p hp=>hO p (List.mem_append_right _ hp)) (fun p hp=>hm p (List.mem_append_right _ hp))
    obtain⟨hf,hmq,hir,hr⟩:=h 0 (q,s) rfl
    rw[Nat.add_zero]at hmq hir hr
    obtain⟨k1,k2⟩:=Ad8 (objs':=objs') (m':=m') (rb:=rb q) (q:=q) hp hn hf hmq hir hr hok1 (fun p hp=>hO p (List.mem_append_left _ hp)) (fun p hp=>hm (p.1,ER w (val j0) (p.1 - rb q)) (List.mem_append_left _ (List.mem_map.2 ⟨p,hp,rfl⟩)))
    refine⟨fun p hp=> ?_,fun p hp=> ?_⟩
    ·rcases List.mem_cons.1 hp with rfl | hp
     ·exact k1
     ·exact g1 p hp
    ·rcases List.mem_append.1 hp with hp | hp
     ·exact k2 p hp
     ·exact g2 p hp
end
