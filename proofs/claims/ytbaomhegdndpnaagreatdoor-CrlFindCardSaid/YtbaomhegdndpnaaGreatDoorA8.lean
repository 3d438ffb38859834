import Derived.Test.YtbaomhegdndpnaaGreatDoorA7
set_option linter.all false
namespace Go.Proofs.YtbaomhegdndpnaaGreatDoor.Vm
open Classical
def IC (O:Own) (w:World) (id:Nat) (v:Value):A->Prop
  | .usl z e l=>BL O [] (fun _=>v) w id (.arr e z l)
  | .box cs=> ∃ b base,v= .pointer (some (at' b base))/\ ∀ j,j<cs.length->O b (base+j)=some id/\w.frozen? (at' b (base+j))=false/\ ∃ u,w.cell? (at' b (base+j))=some u/\Ai O w u (cs.getD j .undef)
  | a=>Ai O w v a
def IR (O:Own) (w:World) (id:Nat) (v:Value):A->Prop
  | .agg cs=> ∃ vs:Array Value,v= .agg vs/\vs.size=cs.length/\ ∀ j,j<cs.length->IC O w (id+1+j) (vs.getD j undef) (cs.getD j .undef)
  | .box cs=> ∃ b base,v= .pointer (some (at' b base))/\ ∀ j,j<cs.length->O b (base+j)=some id/\w.frozen? (at' b (base+j))=false/\ ∃ u,w.cell? (at' b (base+j))=some u/\IC O w (id+1+j) u (cs.getD j .undef)
  | .cbx k cs=> ∃ b base,OQ O w k v (.pointer (some (at' b base)))/\ ∀ j,j<cs.length->O b (base+j)=some id/\w.frozen? (at' b (base+j))=false/\ ∃ u,w.cell? (at' b (base+j))=some u/\IC O w (id+1+j) u (cs.getD j .undef)
  | .ump l=>Ee O w id v l
  | a=>IC O w id v a
section
variable {P:Program} {C:Ctx} {V0:Nat->Value} {O0 O:Own} {w0 w:World} {m:Nat->Value} {st:St} {a:Act} {o:Oper}
theorem Ai.ic {id:Nat} {v:Value} {x:A} (h:Ai O w v x):IC O w id v x:=by cases h<;>first | exact .bool _ | exact .int _ _ | exact .str _ | exact .nil _ | exact .Cc | exact .fn _ | exact .RU | exact Ai.sl0 _ _ | (rename_i vs a1 a2 a3;exact Ai.sl vs a1 a2 a3) | (rename_i h hn;exact Ai.sln h hn)
def Eb (O:Own) (ρ :Nat->Option Nat):Own:=fun b k=>match O b k with
  | none=>none
  | some o=>match ρ o with
    | some i=>some i
    | none=>some 255
theorem Lr {ρ :Nat->Option Nat} {b k:Nat}:Eb O ρ b k=none↔O b k=none:=by grind[Eb]
theorem IL {ρ :Nat->Option Nat} {b k o i:Nat} (h:O b k=some o) (hr: ρ o=some i):Eb O ρ b k=some i:=by
  unfold Eb;rw[h];simp [hr]
theorem IK (ρ :Nat->Option Nat):Di O w (Eb O ρ) w:=fun _ _ _ h hc=>⟨Lr.2 h,hc⟩
theorem BL.Eb {ρ :Nat->Option Nat} {q i e:Nat} {z:Bool} {l:Sl} {Aa objs':List (Nat×Obj)} {m m':Nat->Value} (h:BL O Aa m w q (.arr e z l)) (hr: ρ q=some i) (hm:m' i=m q) :
    BL (Eb O ρ) objs' m' w i (.arr e z l):=by
  refine⟨h.1,?_⟩
  rcases h.2 with ⟨h1,h2,h3⟩ | ⟨h1,g,cap,cur,h2,h3,h4,h5,h6,h7,h8,h9⟩
  ·exact .inl ⟨h1,h2,by rw[hm];exact h3⟩
  ·refine .inr ⟨h1,g,cap,cur,by rw[hm];exact h2,h3,h4,h5,h6,fun r j hr' hj=> ?_,fun k hk hge=>IL (h8 k hk hge) hr,fun k hk=> ?_⟩
   ·obtain⟨u,h10,h11⟩:=h7 r j hr' hj
    exact⟨u,h10,h11.AX (IK ρ)⟩
   ·have:=h9 k hk
    cases z with
    | true=>exact Lr.2 this
    | false=>exact IL this hr
theorem BL.keep {O':Own} {q e:Nat} {l:Sl} {Aa objs':List (Nat×Obj)} {m:Nat->Value} (h:BL O Aa m w q (.arr e false l)) (hp:Di O w O' w) (hk: ∀ b k,O b k=some q->O' b k=some q):BL O' objs' m w q (.arr e false l):=by
  refine⟨h.1,?_⟩
  rcases h.2 with h0 | ⟨h1,g,cap,cur,h2,h3,h4,h5,h6,h7,h8,h9⟩
  ·exact .inl h0
  ·refine .inr ⟨h1,g,cap,cur,h2,h3,h4,h5,h6,fun r j hr' hj=> ?_,fun k a b=>hk _ _ (h8 k a b),fun k a=>hk _ _ (h9 k a)⟩
   obtain⟨u,h10,h11⟩:=h7 r j hr' hj
   exact⟨u,h10,h11.AX hp⟩
theorem IA {W:Prop} {fet:Fet} (hf:DZ st.Aa fet) (hS: ∀ q y,Af st.Aa q=some y->BL O st.Aa m w q y): ∀(ks:List (Bool×CK)) (cs:List A) (id:Nat) (f:Nat->Value),(ks.any wC=true->W)->(∀ j,j<cs.length->Aw O st.Aa m w (f j) (cs.getD j .undef))->Ak (Am fet ks cs).1 ->
    (Am fet ks cs).2.1.length=ks.length/\cs.length=ks.length/\Frz st.Aa (Am fet ks cs).2.2.1/\(Am fet ks cs).2.2.2=(BR id ks cs).map (·.1) /\
    ∀ {O':Own} {objs':List (Nat×Obj)} {ρ :Nat->Option Nat},Di O w O' w->(∀ p∈(Am fet ks cs).2.2.1,∀ e l,p.2= .arr e true l->Ai O' w (m p.1) (.sl l)) ->
      (∀ p∈(Am fet ks cs).2.2.1,BL O' objs' m w p.1 p.2)->(∀ b k q,O b k=some q->(NR st.Aa q\/W)->O' b k=some q)->(∀ p∈BR id ks cs,ρ p.1=some p.2) ->
      ∀ j,j<ks.length->IC (Eb O' ρ) w (id+j) (f j) ((Am fet ks cs).2.1.getD j .undef):=by
  intro ks
  induction ks with
  | nil =>
    intro cs id f _ _ hok
    cases cs with
    | nil=>exact⟨rfl,rfl,(fun p hp=>by simp [Am]at hp),rfl,fun _ _ _ _ _ j hj=>by simp at hj⟩
    | cons _ _=>have:=hok false (by simp [Am]);cases this
  | cons k ks ih =>
    intro cs id f hW h hok
    obtain⟨u,k⟩:=k
    cases cs with
    | nil=>have:=hok false (by cases u<;>simp [Am]);cases this
    | cons c cs =>
      have hrest:=fun hok2=>ih cs (id+1) (fun j=>f (j+1)) (fun h=>hW (by rw[List.any_cons,h,Bool.or_true])) (fun j hj=>by simpa using h (j+1) (by simpa using hj)) hok2
      cases u with
      | false =>
        simp only[Am]at hok ⊢
        obtain⟨hok1,hok2⟩:=hok.append
        obtain⟨h1,h2⟩:=yQ hf (h 0 (by simp)) hok1
        obtain⟨h3,h4,h5,h6,h7⟩:=hrest hok2
        have hnames:BR id ((false,k)::ks) (c::cs)=BR (id+1) ks cs:=by cases c<;>rfl
        refine⟨by simp [h3],by simp [h4],h1.append h5,by rw[hnames];exact h6,fun {O' objs' ρ} hp hv hO hbx hρ j hj=> ?_⟩
        rw[hnames]at hρ
        cases j with
        | zero =>
          have hvr:=(h2 hp (fun p hp=>hv p (List.mem_append_left _ hp))).AX (IK ρ)
          exact hvr.ic
        | succ j =>
          have:=h7 hp (fun p hp=>hv p (List.mem_append_right _ hp)) (fun p hp=>hO p (List.mem_append_right _ hp)) hbx hρ j (by simpa using hj)
          rw[show id+(j+1)=id+1+j from by omega]
          simpa using this
      | true =>
        cases k with
        | sl e sz =>
          cases c with
          | own q =>
            simp only[Am]at hok ⊢
            cases hg:Af fet q with
            | none=>rw[hg]at hok;have:=hok false (by simp);cases this
            | some x =>
              cases x with
              | box _=>rw[hg]at hok;have:=hok false (by simp);cases this
              | mp _=>rw[hg]at hok;have:=hok false (by simp);cases this
              | arr e' fz l =>
                rw[hg]at hok
                dsimp only at hok ⊢
                obtain⟨hok1,hok2⟩:=hok.append
                obtain⟨e1,e2⟩:=hok1.cons
                have e1:=Nat.eq_of_beq_eq_true e1
                subst e1
                obtain⟨h3,h4,h5,h6,h7⟩:=hrest hok2
                have hq:=hf q _ hg
                refine⟨by simp [h3],by simp [h4],fun p hp=> ?_,?_,fun {O' objs' ρ} hp hv hO hbx hρ j hj=> ?_⟩
                ·rcases List.mem_cons.1 hp with rfl | hp
                 ·exact⟨e,fz,l,hq,rfl⟩
                 ·exact h5 p hp
                ·simp only[BR,List.map_cons,h6]
                ·cases j with
                 | zero =>
                   have hc:Aw O st.Aa m w (f 0) (.own q):=h 0 (by simp)
                   have hc:=hc.2
                   rw[hq]at hc
                   simp only[Option.map_some,Obj.shp]at hc
                   have:=hO _ List.mem_cons_self
                   exact this.Eb (objs':=[]) (m':=fun _=>f 0) (hρ (q,id) List.mem_cons_self) hc
                 | succ j =>
                   have:=h7 hp (fun p hp=>hv p (List.mem_cons_of_mem _ hp)) (fun p hp=>hO p (List.mem_cons_of_mem _ hp)) hbx (fun p hp=>hρ p (List.mem_cons_of_mem _ hp)) j (by simpa using hj)
                   rw[show id+(j+1)=id+1+j from by omega]
                   simpa using this
          | BK =>
            simp only[Am]at hok ⊢
            obtain⟨h3,h4,h5,h6,h7⟩:=hrest hok
            have hnames:BR id ((true,.sl e sz)::ks) (.BK::cs)=BR (id+1) ks cs:=rfl
            refine⟨by simp [h3],by simp [h4],h5,by rw[hnames];exact h6,fun {O' objs' ρ} hp hv hO hbx hρ j hj=> ?_⟩
            rw[hnames]at hρ
            cases j with
            | zero =>
              have hc:Aw O st.Aa m w (f 0) .BK:=h 0 (by simp)
              have hc:f 0= .slice none 0 0:=hc
              show BL _ [] (fun _=>f 0) w _ (.arr e true ⟨sz,[]⟩)
              exact⟨by simp [Sl.es],.inl ⟨trivial,rfl,hc⟩⟩
            | succ j =>
              have:=h7 hp hv hO hbx hρ j (by simpa using hj)
              rw[show id+(j+1)=id+1+j from by omega]
              simpa using this
          | _=>have:=hok false (by simp [Am]);cases this
        | sln e sz =>
          cases c with
          | own q =>
            simp only[Am]at hok ⊢
            cases hg:Af fet q with
            | none=>rw[hg]at hok;have:=hok false (by simp);cases this
            | some x =>
              cases x with
              | box _=>rw[hg]at hok;have:=hok false (by simp);cases this
              | mp _=>rw[hg]at hok;have:=hok false (by simp);cases this
              | arr e' fz l =>
                rw[hg]at hok
                dsimp only at hok ⊢
                obtain⟨hok1,hok2⟩:=hok.append
                obtain⟨e1,e2⟩:=hok1.cons
                obtain⟨_,e3⟩:=e2.cons
                have e3:fz=false:=by simpa using e3.cons.1
                subst e3
                have e1:=Nat.eq_of_beq_eq_true e1
                subst e1
                obtain⟨h3,h4,h5,h6,h7⟩:=hrest hok2
                have hq:=hf q _ hg
                refine⟨by simp [h3],by simp [h4],h5,?_,fun {O' objs' ρ} hp hv hO hbx hρ j hj=> ?_⟩
                ·simp only[BR,List.map_cons,h6]
                ·cases j with
                 | zero =>
                   have hc:Aw O st.Aa m w (f 0) (.own q):=h 0 (by simp)
                   have hc:=hc.2
                   rw[hq]at hc
                   simp only[Option.map_some,Obj.shp]at hc
                   exact(BL.keep (objs':=st.Aa) (hS q _ hq) hp fun b k hb=>hbx b k q hb (.inr (hW rfl))).Eb (objs':=[]) (m':=fun _=>f 0) (hρ (q,id) List.mem_cons_self) hc
                 | succ j =>
                   have:=h7 hp hv hO hbx (fun p hp=>hρ p (List.mem_cons_of_mem _ hp)) j (by simpa using hj)
                   rw[show id+(j+1)=id+1+j from by omega]
                   simpa using this
          | BK =>
            simp only[Am]at hok ⊢
            obtain⟨h3,h4,h5,h6,h7⟩:=hrest hok
            have hnames:BR id ((true,.sln e sz)::ks) (.BK::cs)=BR (id+1) ks cs:=rfl
            refine⟨by simp [h3],by simp [h4],h5,by rw[hnames];exact h6,fun {O' objs' ρ} hp hv hO hbx hρ j hj=> ?_⟩
            rw[hnames]at hρ
            cases j with
            | zero =>
              have hc:Aw O st.Aa m w (f 0) .BK:=h 0 (by simp)
              have hc:f 0= .slice none 0 0:=hc
              show BL _ [] (fun _=>f 0) w _ (.arr e false ⟨sz,[]⟩)
              exact⟨by simp [Sl.es],.inl ⟨trivial,rfl,hc⟩⟩
            | succ j =>
              have:=h7 hp hv hO hbx hρ j (by simpa using hj)
              rw[show id+(j+1)=id+1+j from by omega]
              simpa using this
          | _=>have:=hok false (by simp [Am]);cases this
        | bx t =>
          cases c with
          | ptr q off =>
            simp only[Am]at hok ⊢
            cases hg:Ce fet q with
            | none=>rw[hg]at hok;have:=hok false (by simp);cases this
            | some zs =>
              rw[hg]at hok
              dsimp only at hok ⊢
              obtain⟨hok0,hok1⟩:=hok.cons
              obtain⟨hok1,hok2⟩:=hok1.append
              have hok0:=Nat.eq_of_beq_eq_true hok0
              subst hok0
              obtain⟨h3,h4,h5,h6,h7⟩:=hrest hok2
              have hq:=hf q _ (BV hg)
              obtain⟨b,base,g1,g2⟩:=hS q _ hq
              have hv0:f 0= .pointer (some (at' b base)):=by
                have hc:Aw O st.Aa m w (f 0) (.ptr q 0):=h 0 (by simp)
                have hc:=hc.2
                rw[hq]at hc
                simp only[Option.map_some,Obj.shp]at hc
                obtain⟨b',base',g3,g4⟩:=hc
                rw[g1]at g3;injection g3 with g3;injection g3 with g3;injection g3 with e1 e2
                subst e1;subst e2;exact g4
              have hfc: ∀ j,j<zs.length->w.cell? (at' b (base+j))=some ((w.cell? (at' b (base+j))).getD undef)/\Aw O st.Aa m w ((w.cell? (at' b (base+j))).getD undef) (zs.getD j .undef):=by
                intro j hj
                obtain⟨_,_,u,h3,h4⟩:=g2 j hj
                rw[h3];exact⟨rfl,h4⟩
              obtain⟨p1,p2,p3,p4⟩:=Il hf (tck t) zs (fun j=>(w.cell? (at' b (base+j))).getD undef) (fun j hj=>(hfc j hj).2) hok1
              refine⟨by simp [h3],by simp [h4],p3.append h5,?_,fun {O' objs' ρ} hp hv hO hbx hρ j hj=> ?_⟩
              ·simp only[BR,List.map_cons,h6]
              ·cases j with
               | zero =>
                 refine⟨b,base,hv0,fun j hj=> ?_⟩
                 have hj:j<(Bv fet (tck t) zs).2.1.length:=hj
                 rw[p1]at hj
                 have hj':j<zs.length:=by rw[p2];exact hj
                 obtain⟨k1,k2,_⟩:=g2 j hj'
                 exact⟨IL (hbx _ _ _ k1 (.inl (.of hq (fun _ _ _ h=>by cases h)))) (hρ (q,id) List.mem_cons_self),k2,_,(hfc j hj').1,(p4 hp (fun p hp=>hv p (List.mem_append_left _ hp)) j hj).AX (IK ρ)⟩
               | succ j =>
                 have:=h7 hp (fun p hp=>hv p (List.mem_append_right _ hp)) (fun p hp=>hO p (List.mem_append_right _ hp)) hbx (fun p hp=>hρ p (List.mem_cons_of_mem _ hp)) j (by simpa using hj)
                 rw[show id+(j+1)=id+1+j from by omega]
                 simpa using this
          | _=>have:=hok false (by simp [Am]);cases this
        | _=>have:=hok false (by simp [Am]);cases this
end
end Go.Proofs.YtbaomhegdndpnaaGreatDoor.Vm
namespace Go.Proofs.YtbaomhegdndpnaaGreatDoor.Vm
open Classical
section
variable {P:Program} {C:Ctx} {V0:Nat->Value} {O0 O:Own} {w0 w:World} {m:Nat->Value} {st:St} {a:Act} {o:Oper}
theorem xG {W:Prop} {fet:Fet} (hf:DZ st.Aa fet) {s:Sh} {x:A} {v:Value} {id:Nat} (hW:wS s=true->W) (hx:Ar O st.Aa m w v x) (hS: ∀ q y,Af st.Aa q=some y->BL O st.Aa m w q y) (hok:Ak (AU fet s x).ok) :
    Frz st.Aa (AU fet s x).upd/\(∀ q∈(AU fet s x).del++(AU fet s x).boxes.map (·.1),q∈(DU fet id s x).map (·.1))/\(∀ q∈(DU fet id s x).map (·.1),q∈(AU fet s x).del++(AU fet s x).boxes.map (·.1)) /\
    (Bo s=true↔(AU fet s x).boxes≠ []) /\
    ∀ {O':Own} {objs':List (Nat×Obj)} {ρ :Nat->Option Nat},Di O w O' w->(∀ p∈(AU fet s x).upd,∀ e l,p.2= .arr e true l->Ai O' w (m p.1) (.sl l)) ->
      (∀ p∈(AU fet s x).upd,BL O' objs' m w p.1 p.2)->(∀ b k q,O b k=some q->(NR st.Aa q\/W)->O' b k=some q)->(∀ p∈DU fet id s x,ρ p.1=some p.2) ->
      IR (Eb O' ρ) w id v (AU fet s x).a:=by
  cases s with
  | cell u k =>
    unfold AU at *
    dsimp only at hok ⊢
    have hall: ∀ hc:Aw O st.Aa m w v x,_:=fun hc=>IA hf hS [(u,k)] [x] id (fun _=>v) (fun h=>hW (by rw[List.any_cons,List.any_nil,Bool.or_false]at h;exact h)) (fun j hj=>by
      have:j=0:=by simpa using hj
      subst this;exact hc)
    have hnc: ∀(h:Ak (Am fet [(u,k)] [x]).1),Aw O st.Aa m w v x:=by
      intro h
      cases x with
      | undef=>cases u<;>cases k<;>(have:=h false (by simp [Am,pur]);cases this)
      | agg _=>cases u<;>cases k<;>(have:=h false (by simp [Am,pur]);cases this)
      | tup _=>cases u<;>cases k<;>(have:=h false (by simp [Am,pur]);cases this)
      | cnd _ _=>cases u<;>cases k<;>(have:=h false (by simp [Am,pur]);cases this)
      | _=>exact hx
    generalize hh:Am fet [(u,k)] [x]=r at *
    obtain⟨ok,cs,upd,del⟩:=r
    cases cs with
    | nil=>have:=hok false (by simp);cases this
    | cons c cs =>
      cases cs with
      | cons _ _=>have:=hok false (by simp);cases this
      | nil =>
        dsimp only at hok ⊢
        obtain⟨h1,h2,h3,h4,h5⟩:=hall (hnc hok) hok
        have h4:del=(BR id [(u,k)] [x]).map (·.1):=h4
        refine⟨h3,fun q hq=> ?_,fun q hq=> ?_,⟨(fun h=>by cases h),fun h=>absurd rfl h⟩,fun {O' objs' ρ} hp hv hO hbx hρ => ?_⟩
        ·simp only[List.map_nil,List.append_nil]at hq;rw[h4]at hq;exact hq
        ·simp only[List.map_nil,List.append_nil];rw[h4];exact hq
        ·have:=h5 hp hv hO hbx hρ 0 (by simp)
         have e: [c].getD 0 .undef=c:=rfl
         dsimp only at this
         rw[e]at this
         cases c<;>first | exact this | (obtain⟨b,base,e1,e2⟩:=this;exact⟨b,base,e1,fun j hj=>let ⟨k1,k2,u,k3,k4⟩:=e2 j hj;⟨k1,k2,u,k3,k4.ic⟩⟩) | cases this
  | agg ks =>
    cases x with
    | agg cs =>
      unfold AU at *
      dsimp only at hok ⊢
      obtain⟨vs,g1,g2,g3⟩:=hx
      obtain⟨h1,h2,h3,h4,h5⟩:=IA hf hS ks cs (id+1) (fun j=>vs.getD j undef) hW g3 hok
      refine⟨h3,fun q hq=> ?_,fun q hq=> ?_,⟨(fun h=>by cases h),fun h=>absurd rfl h⟩,fun {O' objs' ρ} hp hv hO hbx hρ => ?_⟩
      ·simp only[List.map_nil,List.append_nil]at hq;rw[h4]at hq;exact hq
      ·simp only[List.map_nil,List.append_nil];rw[h4];exact hq
      ·exact⟨vs,g1,by rw[g2,h1,h2],fun j hj=>h5 hp hv hO hbx hρ j (by rw[<- h1];exact hj)⟩
    | _=>have:=hok false (by simp [AU]);cases this
  | box ks =>
    cases x with
    | ptr q off =>
      unfold AU at *
      dsimp only at hok ⊢
      cases hg:Ce fet q with
      | none=>rw[hg]at hok;have:=hok false (by simp);cases this
      | some cs =>
            rw[hg]at hok
            dsimp only at hok ⊢
            obtain⟨ho0,hokA⟩:=hok.cons
            obtain⟨_,hokB⟩:=hokA.cons
            have ho0:=Nat.eq_of_beq_eq_true ho0
            subst ho0
            have hq:=hf q _ (BV hg)
            obtain⟨b,base,g1,g2⟩:=hS q _ hq
            have hv0:v= .pointer (some (at' b base)):=by
              have hc:Aw O st.Aa m w v (.ptr q 0):=hx
              have hc:=hc.2
              rw[hq]at hc
              simp only[Option.map_some,Obj.shp]at hc
              obtain⟨b',base',g3,g4⟩:=hc
              rw[g1]at g3;injection g3 with g3;injection g3 with g3;injection g3 with e1 e2
              subst e1;subst e2;exact g4
            let f:Nat->Value:=fun j=>(w.cell? (at' b (base+j))).getD undef
            have hfc: ∀ j,j<cs.length->w.cell? (at' b (base+j))=some (f j)/\Aw O st.Aa m w (f j) (cs.getD j .undef):=by
              intro j hj
              obtain⟨_,_,u,h3,h4⟩:=g2 j hj
              have:f j=u:=by show(w.cell? _).getD _=_;rw[h3];rfl
              rw[this];exact⟨h3,h4⟩
            obtain⟨h1,h2,h3,h4,h5⟩:=IA hf hS ks cs (id+1) f hW (fun j hj=>(hfc j hj).2) hokB
            have hnames:DU fet id (.box ks) (.ptr q 0)=(q,id)::BR (id+1) ks cs:=by simp only[DU,hg]
            rw[hnames]
            refine⟨h3,fun r hr=> ?_,fun r hr=> ?_,⟨fun _=>by simp,fun _=>rfl⟩,fun {O' objs' ρ} hp hv hO hbx hρ => ?_⟩
            ·simp only[List.map_cons,List.map_nil,List.mem_append,List.mem_singleton]at hr
             rcases hr with hr | hr
             ·rw[h4]at hr;exact List.mem_cons_of_mem _ hr
             ·rw[hr];exact List.mem_cons_self
            ·simp only[List.map_cons,List.map_nil,List.mem_append,List.mem_singleton]
             rcases List.mem_cons.1 hr with hr | hr
             ·exact .inr hr
             ·left;rw[h4];exact hr
            ·refine⟨b,base,hv0,fun j hj=> ?_⟩
             rw[h1]at hj
             obtain⟨k1,k2,u,k3,_⟩:=g2 j (by rw[h2];exact hj)
             refine⟨IL (hbx _ _ _ k1 (.inl (.of hq (fun _ _ _ h=>by cases h)))) (hρ (q,id) List.mem_cons_self),k2,f j,(hfc j (by rw[h2];exact hj)).1,h5 hp hv hO hbx (fun p hp'=>hρ p (List.mem_cons_of_mem _ hp')) j hj⟩
    | _=>have:=hok false (by simp [AU]);cases this
  | clo f' ks =>
    cases x with
    | clo g q =>
      unfold AU at *
      dsimp only at hok ⊢
      cases hg:Ce fet q with
      | none=>rw[hg]at hok;have:=hok false (by simp);cases this
      | some cs =>
            rw[hg]at hok
            dsimp only at hok ⊢
            obtain⟨ho0,hokA⟩:=hok.cons
            obtain⟨_,hokB⟩:=hokA.cons
            have ho0:=Nat.eq_of_beq_eq_true ho0
            subst ho0
            have hq:=hf q _ (BV hg)
            obtain⟨b,base,g1,g2⟩:=hS q _ hq
            have hv0:OQ O w f' v (.pointer (some (at' b base))):=by
              have hc:Aw O st.Aa m w v (.clo f' q):=hx
              obtain⟨_,p,_,hc2,hc⟩:=hc
              rw[hq]at hc
              obtain⟨b',base',e1,e2⟩:=hc
              rw[g1]at e1
              rw[e1,<- e2];exact hc2
            let f:Nat->Value:=fun j=>(w.cell? (at' b (base+j))).getD undef
            have hfc: ∀ j,j<cs.length->w.cell? (at' b (base+j))=some (f j)/\Aw O st.Aa m w (f j) (cs.getD j .undef):=by
              intro j hj
              obtain⟨_,_,u,h3,h4⟩:=g2 j hj
              have:f j=u:=by show(w.cell? _).getD _=_;rw[h3];rfl
              rw[this];exact⟨h3,h4⟩
            obtain⟨h1,h2,h3,h4,h5⟩:=IA hf hS ks cs (id+1) f hW (fun j hj=>(hfc j hj).2) hokB
            have hnames:DU fet id (.clo f' ks) (.clo f' q)=(q,id)::BR (id+1) ks cs:=by simp only[DU,hg]
            rw[hnames]
            refine⟨h3,fun r hr=> ?_,fun r hr=> ?_,⟨fun _=>by simp,fun _=>rfl⟩,fun {O' objs' ρ} hp hv hO hbx hρ => ?_⟩
            ·simp only[List.map_cons,List.map_nil,List.mem_append,List.mem_singleton]at hr
             rcases hr with hr | hr
             ·rw[h4]at hr;exact List.mem_cons_of_mem _ hr
             ·rw[hr];exact List.mem_cons_self
            ·simp only[List.map_cons,List.map_nil,List.mem_append,List.mem_singleton]
             rcases List.mem_cons.1 hr with hr | hr
             ·exact .inr hr
             ·left;rw[h4];exact hr
            ·refine⟨b,base,(hv0.AX hp).AX (IK ρ),fun j hj=> ?_⟩
             rw[h1]at hj
             obtain⟨k1,k2,u,k3,_⟩:=g2 j (by rw[h2];exact hj)
             refine⟨IL (hbx _ _ _ k1 (.inl (.of hq (fun _ _ _ h=>by cases h)))) (hρ (q,id) List.mem_cons_self),k2,f j,(hfc j (by rw[h2];exact hj)).1,h5 hp hv hO hbx (fun p hp'=>hρ p (List.mem_cons_of_mem _ hp')) j hj⟩
    | _=>have:=hok false (by simp [AU]);cases this
  | map kt vt =>
    cases x with
    | own q =>
      unfold AU at *
      dsimp only at hok ⊢
      cases hg:Af fet q with
      | none=>rw[hg]at hok;have:=hok false (by simp);cases this
      | some y =>
        cases y with
        | box _=>rw[hg]at hok;have:=hok false (by simp);cases this
        | arr _ _ _=>rw[hg]at hok;have:=hok false (by simp);cases this
        | mp l =>
          rw[hg]at hok
          dsimp only at hok ⊢
          have hq:=hf q _ hg
          have hv0:v=m q:=by
            have hc:Aw O st.Aa m w v (.own q):=hx
            have hc:=hc.2
            rw[hq]at hc
            exact hc
          refine⟨(fun p hp=>by cases hp),fun r hr=> ?_,fun r hr=> ?_,⟨fun _=>by simp,fun _=>rfl⟩,fun {O' objs' ρ} hp hv hO hbx hρ => ?_⟩
          ·simpa [DU]using hr
          ·simpa [DU]using hr
          ·obtain⟨r,es,ck,g1,g2,g3,g4,g5⟩:=(show Ee O w q (m q) l from hS q _ hq)
           refine⟨r,es,ck,by rw[hv0];exact g1,g2,IL (hbx _ _ _ g3 (.inl (.of hq (fun _ _ _ h=>by cases h)))) (hρ (q,id) List.mem_cons_self),g4,fun i p hip=> ?_⟩
           obtain⟨e,k1,k2,k3⟩:=g5 i p hip
           exact⟨e,k1,(k2.AX hp).AX (IK ρ),(k3.AX hp).AX (IK ρ)⟩
    | _=>have:=hok false (by simp [AU]);cases this
theorem Oh {W:Prop} {fet:Fet} (hf:DZ st.Aa fet) (hS: ∀ q y,Af st.Aa q=some y->BL O st.Aa m w q y) (stride:Nat): ∀(ss:List Sh) (xs:List A) (id:Nat) (f:Nat->Value),(ss.any wS=true->W)->(∀ j,j<xs.length->Ar O st.Aa m w (f j) (xs.getD j .undef))->Ak (AA fet ss xs).1 ->
    (AA fet ss xs).2.1.length=ss.length/\xs.length=ss.length/\Frz st.Aa (AA fet ss xs).2.2.1 /\
    (∀ q,q∈(AA fet ss xs).2.2.2.1++(AA fet ss xs).2.2.2.2.map (·.1)↔q∈(Dx fet id stride ss xs).map (·.1)) /\
    ∀ {O':Own} {objs':List (Nat×Obj)} {ρ :Nat->Option Nat},Di O w O' w->(∀ p∈(AA fet ss xs).2.2.1,∀ e l,p.2= .arr e true l->Ai O' w (m p.1) (.sl l)) ->
      (∀ p∈(AA fet ss xs).2.2.1,BL O' objs' m w p.1 p.2)->(∀ b k q,O b k=some q->(NR st.Aa q\/W)->O' b k=some q)->(∀ p∈Dx fet id stride ss xs,ρ p.1=some p.2) ->
      ∀ j,j<ss.length->IR (Eb O' ρ) w (id+stride*j) (f j) ((AA fet ss xs).2.1.getD j .undef):=by
  intro ss
  induction ss with
  | nil =>
    intro xs id f _ _ hok
    cases xs with
    | nil=>exact⟨rfl,rfl,(fun p hp=>by simp [AA]at hp),(fun q=>by simp [AA,Dx]),fun _ _ _ _ _ j hj=>by simp at hj⟩
    | cons _ _=>have:=hok false (by simp [AA]);cases this
  | cons s ss ih =>
    intro xs id f hW h hok
    cases xs with
    | nil=>have:=hok false (by simp [AA]);cases this
    | cons x xs =>
      simp only[AA]at hok ⊢
      obtain⟨hok1,hok2⟩:=hok.append
      obtain⟨h1,h2,h3,_,h4⟩:=xG (id:=id) hf (fun e=>hW (by rw[List.any_cons,e,Bool.true_or])) (h 0 (by simp)) hS hok1
      obtain⟨g1,g2,g3,g4,g5⟩:=ih xs (id+stride) (fun j=>f (j+1)) (fun e=>hW (by rw[List.any_cons,e,Bool.or_true])) (fun j hj=>by simpa using h (j+1) (by simpa using hj)) hok2
      refine⟨by simp [g1],by simp [g2],h1.append g3,fun q=> ?_,fun {O' objs' ρ} hp hv hO hbx hρ j hj=> ?_⟩
      ·simp only[Dx,List.map_append,List.mem_append]
       have a1:=h2 q
       have a2:=h3 q
       have a3:=g4 q
       simp only[List.mem_append]at a1 a2 a3
       constructor
       ·rintro ((h | h) | (h | h))
        ·exact .inl (a1 (.inl h))
        ·exact .inr (a3.1 (.inl h))
        ·exact .inl (a1 (.inr h))
        ·exact .inr (a3.1 (.inr h))
       ·rintro (h | h)
        ·rcases a2 h with h | h
         ·exact .inl (.inl h)
         ·exact .inr (.inl h)
        ·rcases a3.2 h with h | h
         ·exact .inl (.inr h)
         ·exact .inr (.inr h)
      ·cases j with
       | zero=>simpa using h4 hp (fun p hp=>hv p (List.mem_append_left _ hp)) (fun p hp=>hO p (List.mem_append_left _ hp)) hbx (fun p hp=>hρ p (List.mem_append_left _ hp))
       | succ j =>
         have:=g5 hp (fun p hp=>hv p (List.mem_append_right _ hp)) (fun p hp=>hO p (List.mem_append_right _ hp)) hbx (fun p hp=>hρ p (List.mem_append_right _ hp)) j (by simpa using hj)
         rw[show id+stride*(j+1)=id+stride+stride*j from by rw[Nat.mul_add];omega]
         simpa using this
end
end Go.Proofs.YtbaomhegdndpnaaGreatDoor.Vm
namespace Go.Proofs.YtbaomhegdndpnaaGreatDoor.Vm
open Classical
def AfT:Value->Value
  | .func g fi caps=>caps.getD 0 (.func g fi caps)
  | v=>v
def deref (w:World):Value->Value
  | .pointer (some a)=>(w.cell? a).getD undef
  | _=>undef
def innerS (w:World):Sh->Value->Value
  | .clo _ _,v=>deref w (AfT v)
  | _,v=>v
theorem OQ.inner {O:Own} {w:World} {k:Nat} {v p:Value} {ks:List (Bool×CK)} (h:OQ O w k v p):innerS w (.clo k ks) v=p:=by
  obtain⟨b,j,h1,_,h3⟩:=h
  rw[h1]
  cases k<;>(show(w.cell? _).getD _=_;rw[h3];rfl)
def D9 (w:World) (v:Value):Nat->Value
  | 0=>v
  | x+1=>match v with
    | .agg vs=>vs.getD x undef
    | .pointer (some a)=>(w.cell? (at' a.block (a.off+x))).getD undef
    | _=>undef
section
variable {Oc O':Own} {w:World} {objs':List (Nat×Obj)} {m':Nat->Value}
theorem BL.carry {Aa:List (Nat×Obj)} {m:Nat->Value} {c i e:Nat} {z:Bool} {l:Sl} (h:BL Oc Aa m w c (.arr e z l)) (hp:Di Oc w O' w) (hr: ∀ b k,Oc b k=some c->O' b k=some i) (hn: ∀ b k,Oc b k=none->O' b k=none) (hm:m' i=m c) :
    BL O' objs' m' w i (.arr e z l):=by
  refine⟨h.1,?_⟩
  rcases h.2 with ⟨h1,h2,h3⟩ | ⟨h1,g,cap,cur,h2,h3,h4,h5,h6,h7,h8,h9⟩
  ·exact .inl ⟨h1,h2,by rw[hm];exact h3⟩
  ·refine .inr ⟨h1,g,cap,cur,by rw[hm];exact h2,h3,h4,h5,h6,fun r j hr' hj=> ?_,fun k hk hge=>hr _ _ (h8 k hk hge),fun k hk=> ?_⟩
   ·obtain⟨u,h10,h11⟩:=h7 r j hr' hj
    exact⟨u,h10,h11.AX hp⟩
   ·have:=h9 k hk
    cases z with
    | true=>exact hn _ _ this
    | false=>exact hr _ _ this
theorem Ee.carry {c i:Nat} {v:Value} {l:Mp} (h:Ee Oc w c v l) (hp:Di Oc w O' w) (hr: ∀ b k,Oc b k=some c->O' b k=some i):Ee O' w i v l:=by
  obtain⟨r,es,ck,h1,h2,h3,h4,h5⟩:=h
  refine⟨r,es,ck,h1,h2,hr _ _ h3,h4,fun j p hj=> ?_⟩
  obtain⟨e,k1,k2,k3⟩:=h5 j p hj
  exact⟨e,k1,k2.AX hp,k3.AX hp⟩
theorem V5 {kt vt:Ty} {a:A} (h:a.V4 kt vt=true): ∃ l,a= .ump l/\l.kt=kt/\l.vt=vt:=by
  cases a with
  | ump l =>
    have h':(decide (l.kt=kt)&&decide (l.vt=vt))=true:=h
    simp only[Bool.and_eq_true,decide_eq_true_eq]at h'
    exact⟨l,rfl,h'.1,h'.2⟩
  | _=>cases h
theorem Ai.toC {v:Value} {a:A} (h:Ai O' w v a):Aw O' objs' m' w v a:=by cases a<;>first | exact h | (cases h;done)
theorem Aap {id:Nat} {k:CK} {v:Value} {c:A} (h:IC Oc w id v c) (hp:Di Oc w O' w) (hok:Ak (force k c).1):Aw O' objs' m' w v (force k c).2:=by
  cases c with
  | box cs =>
    cases k with
    | oth=>obtain⟨b,base,h1,_⟩:=h;rw[h1];rfl
    | mp _ _=>have:=hok.cons.1;cases this
    | bx _=>have:=hok.cons.1;cases this
    | _=>have:=hok.cons.1;simp [A.isB,A.isI,A.isS,A.nT,A.YX,A.Us,A.isFn]at this
  | usl z e l =>
    cases k with
    | oth =>
      rcases h.2 with ⟨_,_,h3⟩ | ⟨_,g,cap,cur,h2,_⟩
      ·show v.oneCell'=true
       have h3:v=_:=h3
       rw[h3];rfl
      ·show v.oneCell'=true
       have h2:v=_:=h2
       rw[h2];rfl
    | mp _ _=>have:=hok.cons.1;cases this
    | bx _=>have:=hok.cons.1;cases this
    | _=>have:=hok.cons.1;simp [A.isB,A.isI,A.isS,A.nT,A.YX,A.Us,A.isFn]at this
  | _=>exact XX (Ai.AX hp h) hok
theorem Gs {cid id:Nat} {f:Nat->Value} (hp:Di Oc w O' w) (hn: ∀ b k,Oc b k=none->O' b k=none): ∀(ks:List (Bool×CK)) (cs:List A) (j0:Nat),(∀ j,j<ks.length->IC Oc w (cid+(j0+j)) (f (j0+j)) (cs.getD (j0+j) .undef)) ->
    (∀ b k x,x<j0+ks.length->Oc b k=some (cid+x)->O' b k=some (id+x))->Ak (AL id ks cs j0).1->(∀ p∈(AL id ks cs j0).2.2,Af objs' p.1=some p.2)->(∀ p∈(AL id ks cs j0).2.2,∀ x,p.1=id+x->m' p.1=f x) ->
    (AL id ks cs j0).2.1.length=ks.length/\(∀ j,j<ks.length->Aw O' objs' m' w (f (j0+j)) ((AL id ks cs j0).2.1.getD j .undef))/\ ∀ p∈(AL id ks cs j0).2.2,BL O' objs' m' w p.1 p.2/\ ∃ x,p.1=id+x/\j0<=x/\x<j0+ks.length:=by
  intro ks
  induction ks with
  | nil=>intro cs j0 _ _ _ _ _;exact⟨rfl,fun j hj=>by simp at hj,fun p hp=>by simp [AL]at hp⟩
  | cons k ks ih =>
    intro cs j0 h hr hok hO hm
    obtain⟨u,k⟩:=k
    have h0:=h 0 (by simp)
    rw[Nat.add_zero]at h0
    have hrest:=fun hok2 hO2 hm2=>ih cs (j0+1) (fun j hj=>by have:=h (j+1) (by simpa using hj);rwa [show j0+(j+1)=j0+1+j from by omega]at this) (fun b k x hx=>hr b k x (by simp only[List.length_cons];omega)) hok2 hO2 hm2
    cases u with
    | false =>
      simp only[AL]at hok hO hm ⊢
      obtain⟨hok1,hok2⟩:=hok.append
      obtain⟨g1,g2,g3⟩:=hrest hok2 hO hm
      refine⟨by simp [g1],fun j hj=> ?_,fun p hp=> ?_⟩
      ·cases j with
       | zero=>exact Aap h0 hp hok1
       | succ j =>
         have:=g2 j (by simpa using hj)
         rw[show j0+(j+1)=j0+1+j from by omega];simpa using this
      ·obtain⟨a1,x,a2,a3,a4⟩:=g3 p hp
       exact⟨a1,x,a2,by omega,by simp only[List.length_cons];omega⟩
    | true =>
      cases k with
      | sl e sz =>
        simp only[AL]at hok hO hm ⊢
        obtain⟨hok1,hok2⟩:=hok.cons
        obtain⟨g1,g2,g3⟩:=hrest hok2 (fun p hp=>hO p (List.mem_cons_of_mem _ hp)) (fun p hp=>hm p (List.mem_cons_of_mem _ hp))
        have hO0:=hO _ List.mem_cons_self
        have hm0:=hm _ List.mem_cons_self j0 rfl
        dsimp only at hO0 hm0
        have hc:cs.getD j0 .undef= .usl true e (cs.getD j0 .undef).toL:=by
          generalize cs.getD j0 .undef=c at *
          cases c<;>simp only[A.jM]at hok1<;>first | (cases hok1;done) | skip
          simp only[Bool.and_eq_true,beq_iff_eq]at hok1
          rw[Nat.eq_of_beq_eq_true hok1.2.1,<- hok1.1];rfl
        rw[hc]at h0
        have hor:BL O' objs' m' w (id+j0) (.arr e true (cs.getD j0 .undef).toL):=BL.carry (show BL Oc [] (fun _=>f j0) w (cid+j0) _ from h0) hp (fun b k hbk=>hr b k j0 (by simp) hbk) hn hm0
        refine⟨by simp [g1],fun j hj=> ?_,fun p hp=> ?_⟩
        ·cases j with
         | zero =>
           have hone:(f j0).oneCell'=true:=by
             rcases h0.2 with ⟨_,_,h3⟩ | ⟨_,g,cap,cur,h2,_⟩
             ·have h3:f j0=_:=h3
              rw[h3];rfl
             ·have h2:f j0=_:=h2
              rw[h2];rfl
           refine⟨hone,?_⟩
           show match (Af objs' (id+j0)).map Obj.shp with | some (.arr _ _)=>_ | some .mp=>_ | _=>True
           rw[hO0]
           exact hm0.symm
         | succ j =>
           have:=g2 j (by simpa using hj)
           rw[show j0+(j+1)=j0+1+j from by omega];simpa using this
        ·rcases List.mem_cons.1 hp with rfl | hp
         ·exact⟨hor,j0,rfl,Nat.le_refl _,by simp⟩
         ·obtain⟨a1,x,a2,a3,a4⟩:=g3 p hp
          exact⟨a1,x,a2,by omega,by simp only[List.length_cons];omega⟩
      | sln e sz =>
        simp only[AL]at hok hO hm ⊢
        obtain⟨hok1,hok2⟩:=hok.cons
        obtain⟨g1,g2,g3⟩:=hrest hok2 (fun p hp=>hO p (List.mem_cons_of_mem _ hp)) (fun p hp=>hm p (List.mem_cons_of_mem _ hp))
        have hO0:=hO _ List.mem_cons_self
        have hm0:=hm _ List.mem_cons_self j0 rfl
        dsimp only at hO0 hm0
        have hc:cs.getD j0 .undef= .usl false e (cs.getD j0 .undef).toL:=by
          generalize cs.getD j0 .undef=c at *
          cases c<;>simp only[A.jM]at hok1<;>first | (cases hok1;done) | skip
          simp only[Bool.and_eq_true,beq_iff_eq]at hok1
          rw[Nat.eq_of_beq_eq_true hok1.2.1,<- hok1.1];rfl
        rw[hc]at h0
        have hor:BL O' objs' m' w (id+j0) (.arr e false (cs.getD j0 .undef).toL):=BL.carry (show BL Oc [] (fun _=>f j0) w (cid+j0) _ from h0) hp (fun b k hbk=>hr b k j0 (by simp) hbk) hn hm0
        refine⟨by simp [g1],fun j hj=> ?_,fun p hp=> ?_⟩
        ·cases j with
         | zero =>
           have hone:(f j0).oneCell'=true:=by
             rcases h0.2 with ⟨_,_,h3⟩ | ⟨_,g,cap,cur,h2,_⟩
             ·have h3:f j0=_:=h3
              rw[h3];rfl
             ·have h2:f j0=_:=h2
              rw[h2];rfl
           refine⟨hone,?_⟩
           show match (Af objs' (id+j0)).map Obj.shp with | some (.arr _ _)=>_ | some .mp=>_ | _=>True
           rw[hO0]
           exact hm0.symm
         | succ j =>
           have:=g2 j (by simpa using hj)
           rw[show j0+(j+1)=j0+1+j from by omega];simpa using this
        ·rcases List.mem_cons.1 hp with rfl | hp
         ·exact⟨hor,j0,rfl,Nat.le_refl _,by simp⟩
         ·obtain⟨a1,x,a2,a3,a4⟩:=g3 p hp
          exact⟨a1,x,a2,by omega,by simp only[List.length_cons];omega⟩
      | bx t =>
        simp only[AL]at hok hO hm ⊢
        obtain⟨hok1,hok2⟩:=hok.cons
        obtain⟨g1,g2,g3⟩:=hrest hok2 (fun p hp=>hO p (List.mem_cons_of_mem _ hp)) (fun p hp=>hm p (List.mem_cons_of_mem _ hp))
        have hO0:=hO _ List.mem_cons_self
        have hm0:=hm _ List.mem_cons_self j0 rfl
        dsimp only at hO0 hm0
        generalize cs.getD j0 .undef=c at *
        cases c with
        | box ds =>
          obtain⟨b,base,e1,e2⟩:=h0
          refine⟨by simp [g1],fun j hj=> ?_,fun p hp=> ?_⟩
          ·cases j with
           | zero =>
             refine⟨by rw[Nat.add_zero,e1];rfl,?_⟩
             show match (Af objs' (id+j0)).map Obj.shp with | some .box=>_ | _=>True
             rw[hO0]
             exact⟨b,base,by rw[hm0];exact e1,e1⟩
           | succ j =>
             have:=g2 j (by simpa using hj)
             rw[show j0+(j+1)=j0+1+j from by omega];simpa using this
          ·rcases List.mem_cons.1 hp with rfl | hp
           ·refine⟨⟨b,base,by rw[hm0];exact e1,fun j hj=> ?_⟩,j0,rfl,Nat.le_refl _,by simp⟩
            obtain⟨a1,a2,u,a3,a4⟩:=e2 j hj
            exact⟨hr _ _ _ (by simp) a1,a2,u,a3,(Ai.AX ‹_› a4).toC⟩
           ·obtain⟨a1,x,a2,a3,a4⟩:=g3 p hp
            exact⟨a1,x,a2,by omega,by simp only[List.length_cons];omega⟩
        | _=>cases hok1
      | _=>have:=hok false (by simp [AL]);cases this
theorem AcN {cid id:Nat} {s:Sh} {x:A} {v:Value} (hp:Di Oc w O' w) (hn: ∀ b k,Oc b k=none->O' b k=none) (h:IR Oc w cid v x) (hr: ∀ b k i,i<255->Oc b k=some (cid+i)->O' b k=some (id+i))
    (hok:Ak (back id s x).1) (hO: ∀ p∈(back id s x).2.2,Af objs' p.1=some p.2) (hm: ∀ p∈(back id s x).2.2,∀ i,p.1=id+i->m' p.1=D9 w (innerS w s v) i) :
    Ar O' objs' m' w v (back id s x).2.1/\ ∀ p∈(back id s x).2.2,BL O' objs' m' w p.1 p.2:=by
  cases s with
  | cell u k =>
    simp only[back]at hok hO hm ⊢
    obtain⟨hok1,hok2⟩:=hok.append
    have hpl:=hok2.cons.1
    have hic:IC Oc w cid v x:=by
      have bad: ∀ cs l,x= .agg cs\/x= .box cs\/x= .ump l\/(∃ f,x= .cbx f cs)->False:=by
        rintro cs l (rfl | rfl | rfl | ⟨f,rfl⟩)<;>(cases u<;>cases k<;>first | (cases hpl;done) | (have:=hok1 false (by simp [AL,force,A.isB,A.isI,A.isS,A.nT,A.YX,A.Us,A.jM,A.isFn]);cases this))
      cases x with
      | agg cs=>exact(bad cs default (.inl rfl)).elim
      | box cs=>exact(bad cs default (.inr (.inl rfl))).elim
      | ump l=>exact(bad [] l (.inr (.inr (.inl rfl)))).elim
      | cbx f cs=>exact(bad cs default (.inr (.inr (.inr ⟨f,rfl⟩)))).elim
      | _=>exact h
    obtain⟨g1,g2,g3⟩:=Gs (cid:=cid) (id:=id) (f:=D9 w v) hp hn [(u,k)] [x] 0 (fun j hj=>by
      have:j=0:=by simpa using hj
      subst this
      exact hic) (fun b k i hi hb=>hr b k i (by simp at hi;omega) hb) hok1 hO hm
    have:=g2 0 (by simp)
    exact⟨this.toT,fun p hp=>(g3 p hp).1⟩
  | agg ks =>
    simp only[back]at hok hO hm ⊢
    obtain⟨hf,hok⟩:=hok.cons
    have hf:=Nat.le_of_ble_eq_true hf
    obtain⟨hok1,hok2⟩:=hok.cons
    cases x with
    | agg cs =>
      obtain⟨vs,h1,h2,h3⟩:=h
      have hl:cs.length=ks.length:=by simpa [A.isAgg,Jc]using hok1
      obtain⟨g1,g2,g3⟩:=Gs (objs':=objs') (m':=m') (cid:=cid+1) (id:=id+1) (f:=fun j=>vs.getD j undef) hp hn ks cs 0 (fun j hj=>by
        have:=h3 j (by omega)
        rw[Nat.zero_add];exact this) (fun b k i hi hb=>by
        have:=hr b k (1+i) (by omega) (by rw[<- Nat.add_assoc];exact hb)
        rw[<- Nat.add_assoc]at this;exact this) hok2 hO (fun p hp i hi=>by
        have:=hm p hp (i+1) (by omega)
        rw[this,h1];rfl)
      refine⟨⟨vs,h1,?_,fun j hj=> ?_⟩,fun p hp=>(g3 p hp).1⟩
      ·show vs.size=(AL (id+1) ks cs 0).2.1.length
       rw[h2,g1,hl]
      ·have hj:j<(AL (id+1) ks cs 0).2.1.length:=hj
       rw[g1]at hj
       have:=g2 j hj
       rwa [Nat.zero_add]at this
    | _=>simp [A.isAgg]at hok1
  | box ks =>
    simp only[back]at hok hO hm ⊢
    obtain⟨hf,hok⟩:=hok.cons
    have hf:=Nat.le_of_ble_eq_true hf
    obtain⟨hok1,hok2⟩:=hok.cons
    cases x with
    | box cs =>
      obtain⟨b,base,h1,h2⟩:=h
      have h1':D9 w v 0= .pointer (some (at' b base)):=by rw[h1];rfl
      have hl:cs.length=ks.length:=by simpa [A.uY,Jc]using hok1
      have hcell: ∀ j,D9 w v (j+1)=(w.cell? (at' b (base+j))).getD undef:=by intro j;rw[h1];rfl
      obtain⟨g1,g2,g3⟩:=Gs (objs':=objs') (m':=m') (cid:=cid+1) (id:=id+1) (f:=fun j=>(w.cell? (at' b (base+j))).getD undef) hp hn ks cs 0 (fun j hj=>by
        obtain⟨_,_,u,h5,h6⟩:=h2 j (by omega)
        rw[Nat.zero_add,h5];exact h6) (fun b k i hi hb=>by
        have:=hr b k (1+i) (by omega) (by rw[<- Nat.add_assoc];exact hb)
        rw[<- Nat.add_assoc]at this;exact this) hok2 (fun p hp=>hO p (List.mem_cons_of_mem _ hp)) (fun p hp i hi=>by
        have:=hm p (List.mem_cons_of_mem _ hp) (i+1) (by omega)
        rw[this];exact hcell _)
      have hO0:=hO _ List.mem_cons_self
      have hm0:=hm _ List.mem_cons_self 0 rfl
      dsimp only at hO0 hm0
      refine⟨?_,fun p hp=> ?_⟩
      ·show Aw O' objs' m' w v (.ptr id 0)
       refine⟨by rw[h1];rfl,?_⟩
       show match (Af objs' id).map Obj.shp with | some .box=>_ | _=>True
       rw[hO0]
       exact⟨b,base,by rw[hm0];exact h1',h1⟩
      ·rcases List.mem_cons.1 hp with rfl | hp
       ·refine⟨b,base,by rw[hm0];exact h1',fun j hj=> ?_⟩
        have hj:j<(AL (id+1) ks cs 0).2.1.length:=hj
        rw[g1]at hj
        obtain⟨a1,a2,u,a3,_⟩:=h2 j (by omega)
        have:=g2 j hj
        rw[Nat.zero_add,a3]at this
        exact⟨by have:=hr b (base+j) 0 (by omega) a1;exact this,a2,u,a3,this⟩
       ·exact(g3 p hp).1
    | _=>simp [A.uY]at hok1
  | clo f' ks =>
    simp only[back]at hok hO hm ⊢
    obtain⟨hf,hok⟩:=hok.cons
    have hf:=Nat.le_of_ble_eq_true hf
    obtain⟨hok1,hok2⟩:=hok.cons
    cases x with
    | cbx g cs =>
      have hg:f'=g:=by
        have h':=hok1
        simp only[A.uZ,Bool.and_eq_true]at h'
        exact Nat.eq_of_beq_eq_true h'.1
      subst hg
      obtain⟨b,base,h1,h2⟩:=h
      have h1':D9 w (innerS w (.clo f' ks) v) 0= .pointer (some (at' b base)):=h1.inner (ks:=ks)
      have hl:cs.length=ks.length:=by
        have h':=hok1
        simp only[A.uZ,Bool.and_eq_true]at h'
        exact Nat.eq_of_beq_eq_true h'.2
      have hcell: ∀ j,D9 w (innerS w (.clo f' ks) v) (j+1)=(w.cell? (at' b (base+j))).getD undef:=by intro j;rw[h1.inner (ks:=ks)];rfl
      obtain⟨g1,g2,g3⟩:=Gs (objs':=objs') (m':=m') (cid:=cid+1) (id:=id+1) (f:=fun j=>(w.cell? (at' b (base+j))).getD undef) hp hn ks cs 0 (fun j hj=>by
        obtain⟨_,_,u,h5,h6⟩:=h2 j (by omega)
        rw[Nat.zero_add,h5];exact h6) (fun b k i hi hb=>by
        have:=hr b k (1+i) (by omega) (by rw[<- Nat.add_assoc];exact hb)
        rw[<- Nat.add_assoc]at this;exact this) hok2 (fun p hp=>hO p (List.mem_cons_of_mem _ hp)) (fun p hp i hi=>by
        have:=hm p (List.mem_cons_of_mem _ hp) (i+1) (by omega)
        rw[this];exact hcell _)
      have hO0:=hO _ List.mem_cons_self
      have hm0:=hm _ List.mem_cons_self 0 rfl
      dsimp only at hO0 hm0
      refine⟨?_,fun p hp=> ?_⟩
      ·show Aw O' objs' m' w v (.clo f' id)
       refine⟨by obtain⟨_,_,e,_⟩:=h1;rw[e];cases f'<;>rfl,_,rfl,h1.AX hp,?_⟩
       show match (Af objs' id).map Obj.shp with | some .box=>_ | _=>True
       rw[hO0]
       exact⟨b,base,hm0.trans h1',rfl⟩
      ·rcases List.mem_cons.1 hp with rfl | hp
       ·refine⟨b,base,by rw[hm0];exact h1',fun j hj=> ?_⟩
        have hj:j<(AL (id+1) ks cs 0).2.1.length:=hj
        rw[g1]at hj
        obtain⟨a1,a2,u,a3,_⟩:=h2 j (by omega)
        have:=g2 j hj
        rw[Nat.zero_add,a3]at this
        exact⟨by have:=hr b (base+j) 0 (by omega) a1;exact this,a2,u,a3,this⟩
       ·exact(g3 p hp).1
    | _=>simp [A.uZ]at hok1
  | map kt vt =>
    simp only[back]at hok hO hm ⊢
    obtain⟨l,rfl,_,_⟩:=V5 hok.cons.1
    have hO0:=hO _ List.mem_cons_self
    have hm0:=hm _ List.mem_cons_self 0 rfl
    dsimp only at hO0 hm0
    have h:Ee Oc w cid v l:=h
    have hm0:m' id=v:=hm0
    have h2:Ee O' w id v l:=h.carry hp (fun b k hb=>hr b k 0 (by omega) hb)
    refine⟨?_,fun p hp=> ?_⟩
    ·show Aw O' objs' m' w v (.own id)
     refine⟨by obtain⟨r,_,_,h1,_⟩:=h;rw[h1];rfl,?_⟩
     rw[hO0]
     exact hm0.symm
    ·obtain rfl:p=(id,.mp l):=List.mem_singleton.1 hp
     show Ee O' w id (m' id) l
     rw[hm0];exact h2
end
