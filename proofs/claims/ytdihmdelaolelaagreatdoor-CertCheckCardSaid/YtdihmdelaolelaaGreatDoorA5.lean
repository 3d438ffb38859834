import Derived.Test.YtdihmdelaolelaaGreatDoorA4
import Derived.Calls
set_option linter.all false
namespace Go.Proofs.YtdihmdelaolelaaGreatDoor.Vm
open Classical
def IC (O:Own) (w:World) (id:Nat) (v:Value):A->Prop
 | .usl z e l=>Ll O [] (fun _=>v) w id (.arr e z l)
 | .box cs=> ∃ b base,v= .pointer (some (at' b base))/\ ∀ j,j<cs.length->O b (base+j)=some id/\w.frozen? (at' b (base+j))=false/\ ∃ u,w.cell? (at' b (base+j))=some u/\J5 O w u (cs.getD j .undef)
 | a=>J5 O w v a
def IR (O:Own) (w:World) (id:Nat) (v:Value):A->Prop
 | .agg cs=> ∃ vs:Array Value,v= .agg vs/\vs.size=cs.length/\ ∀ j,j<cs.length->IC O w (id+1+j) (vs.getD j undef) (cs.getD j .undef)
 | .box cs=> ∃ b base,v= .pointer (some (at' b base))/\ ∀ j,j<cs.length->O b (base+j)=some id/\w.frozen? (at' b (base+j))=false/\ ∃ u,w.cell? (at' b (base+j))=some u/\IC O w (id+1+j) u (cs.getD j .undef)
 | .cbx k cs=> ∃ b base,gQ O w k v (.pointer (some (at' b base)))/\ ∀ j,j<cs.length->O b (base+j)=some id/\w.frozen? (at' b (base+j))=false/\ ∃ u,w.cell? (at' b (base+j))=some u/\IC O w (id+1+j) u (cs.getD j .undef)
 | .ump l=>Q5 O w id v l
 | a=>IC O w id v a
section
variable {P:Program} {C:Ctx} {V0:Nat->Value} {O0 O:Own} {w0 w:World} {m:Nat->Value} {st:St} {a:Act} {o:Oper}
def J5.ic {id:Nat} {v:Value} {x:A} (h:J5 O w v x):IC O w id v x:=by cases h<;>first | exact .bool _ | exact .int _ _ | exact .str _ | exact .nil _ | exact .Me | exact .fn _ | exact .vZ | exact J5.sl0 _ _ | (rename_i vs a1 a2 a3;exact J5.sl vs a1 a2 a3) | (rename_i h hn;exact J5.sln h hn)
def Ox (O:Own) (ρ :Nat->Option Nat):Own:=fun b k=>match O b k with
 | none=>none
 | some o=>match ρ o with
  | some i=>some i
  | none=>some 255
def YZ {ρ :Nat->Option Nat} {b k:Nat}:Ox O ρ b k=none↔O b k=none:=by grind[Ox]
def WM {ρ :Nat->Option Nat} {b k o i:Nat} (h:O b k=some o) (hr: ρ o=some i):Ox O ρ b k=some i:=by unfold Ox;rw[h];simp [hr]
def WL (ρ :Nat->Option Nat):MW O w (Ox O ρ) w:=fun _ _ _ h hc=>⟨YZ.2 h,hc⟩
theorem Ll.Ox {ρ :Nat->Option Nat} {q i e:Nat} {z:Bool} {l:Sl} {Js objs':List (Nat×Obj)} {m m':Nat->Value} (h:Ll O Js m w q (.arr e z l)) (hr: ρ q=some i) (hm:m' i=m q) :
 Ll (Ox O ρ) objs' m' w i (.arr e z l):=by
 refine⟨h.1,?_⟩;rcases h.2 with ⟨h1,h2,h3⟩ | ⟨h1,g,cap,cur,h2,h3,h4,h5,h6,h7,h8,h9⟩
 .exact .inl ⟨h1,h2,by rw[hm];exact h3⟩
 .refine .inr ⟨h1,g,cap,cur,by rw[hm];exact h2,h3,h4,h5,h6,fun r j hr' hj=> ?_,fun k hk hge=>WM (h8 k hk hge) hr,fun k hk=> ?_⟩
  .obtain⟨u,h10,h11⟩:=h7 r j hr' hj;exact⟨u,h10,h11.Kr (WL ρ)⟩
  .have:=h9 k hk;cases z with
   | true=>exact YZ.2 this
   | false=>exact WM this hr
def Ll.keep {O':Own} {q e:Nat} {l:Sl} {Js objs':List (Nat×Obj)} {m:Nat->Value} (h:Ll O Js m w q (.arr e false l)) (hp:MW O w O' w) (hk: ∀ b k,O b k=some q->O' b k=some q):Ll O' objs' m w q (.arr e false l):=by
 refine⟨h.1,?_⟩;rcases h.2 with h0 | ⟨h1,g,cap,cur,h2,h3,h4,h5,h6,h7,h8,h9⟩
 .exact .inl h0
 .refine .inr ⟨h1,g,cap,cur,h2,h3,h4,h5,h6,fun r j hr' hj=> ?_,fun k a b=>hk _ _ (h8 k a b),fun k a=>hk _ _ (h9 k a)⟩;obtain⟨u,h10,h11⟩:=h7 r j hr' hj;exact⟨u,h10,h11.Kr hp⟩
def Wx {W:Prop} {fet:Fet} (hf:PO st.Js fet) (hS: ∀ q y,J4 st.Js q=some y->Ll O st.Js m w q y): ∀(ks:List (Bool×CK)) (cs:List A) (id:Nat) (f:Nat->Value),(ks.any wC=true->W)->(∀ j,j<cs.length->JI O st.Js m w (f j) (cs.getD j .undef))->J7 (J9 fet ks cs).1 ->
 (J9 fet ks cs).2.1.length=ks.length/\cs.length=ks.length/\Frz st.Js (J9 fet ks cs).2.2.1/\(J9 fet ks cs).2.2.2=(LK id ks cs).map (·.1) /\
 ∀ {O':Own} {objs':List (Nat×Obj)} {ρ :Nat->Option Nat},MW O w O' w->(∀ p∈(J9 fet ks cs).2.2.1,∀ e l,p.2= .arr e true l->J5 O' w (m p.1) (.sl l)) ->
  (∀ p∈(J9 fet ks cs).2.2.1,Ll O' objs' m w p.1 p.2)->(∀ b k q,O b k=some q->(NR st.Js q\/W)->O' b k=some q)->(∀ p∈LK id ks cs,ρ p.1=some p.2) ->
  ∀ j,j<ks.length->IC (Ox O' ρ) w (id+j) (f j) ((J9 fet ks cs).2.1.getD j .undef):=by
 intro ks
 induction ks with
 | nil =>
  intro cs id f _ _ hok;cases cs with
  | nil=>exact⟨rfl,rfl,(fun p hp=>by simp [J9]at hp),rfl,fun _ _ _ _ _ j hj=>by simp at hj⟩
  | cons _ _=>have:=hok false (by simp [J9]);cases this
 | cons k ks ih =>
  intro cs id f hW h hok;obtain⟨u,k⟩:=k;cases cs with
  | nil=>have:=hok false (by cases u<;>simp [J9]);cases this
  | cons c cs =>
   have hrest:=fun hok2=>ih cs (id+1) (fun j=>f (j+1)) (fun h=>hW (by rw[List.any_cons,h,EM])) (fun j hj=>by simpa using h (j+1) (by simpa using hj)) hok2;cases u with
   | false =>
    simp only[J9]at hok ⊢;obtain⟨hok1,hok2⟩:=hok.append;obtain⟨h1,h2⟩:=Ank hf (h 0 (by simp)) hok1;obtain⟨h3,h4,h5,h6,h7⟩:=hrest hok2;have hnames:LK id ((false,k)::ks) (c::cs)=LK (id+1) ks cs:=by cases c<;>rfl
    refine⟨by simp [h3],by simp [h4],h1.append h5,by rw[hnames];exact h6,fun {O' objs' ρ} hp hv hO hbx hρ j hj=> ?_⟩;rw[hnames]at hρ;cases j with
    | zero =>have hvr:=(h2 hp (fun p hp=>hv p (DL _ hp))).Kr (WL ρ);exact hvr.ic
    | succ j =>have:=h7 hp (fun p hp=>hv p (DJ _ hp)) (fun p hp=>hO p (DJ _ hp)) hbx hρ j (by simpa using hj);rw[show id+(j+1)=id+1+j from by omega];simpa using this
   | true =>
    cases k with
    | sl e sz =>
     cases c with
     | own q =>
      simp only[J9]at hok ⊢;cases hg:J4 fet q with
      | none=>rw[hg]at hok;have:=hok false (by simp);cases this
      | some x =>
       cases x with
       | box _=>rw[hg]at hok;have:=hok false (by simp);cases this
       | mp _=>rw[hg]at hok;have:=hok false (by simp);cases this
       | arr e' fz l =>
        rw[hg]at hok;dsimp only at hok ⊢;obtain⟨hok1,hok2⟩:=hok.append;obtain⟨e1,e2⟩:=hok1.cons;have e1:=Dz e1;subst e1;obtain⟨h3,h4,h5,h6,h7⟩:=hrest hok2;have hq:=hf q _ hg;refine⟨by simp [h3],by simp [h4],fun p hp=> ?_,?_,fun {O' objs' ρ} hp hv hO hbx hρ j hj=> ?_⟩
        .rcases D8.1 hp with rfl | hp
         .exact⟨e,fz,l,hq,rfl⟩
         .exact h5 p hp
        .simp only[LK,Ei,h6]
        .cases j with
         | zero =>have hc:JI O st.Js m w (f 0) (.own q):=h 0 (by simp);have hc:=hc.2;rw[hq]at hc;simp only[Option.map_some,Obj.shp]at hc;have:=hO _ Dy;exact this.Ox (objs':=[]) (m':=fun _=>f 0) (hρ (q,id) Dy) hc
         | succ j =>have:=h7 hp (fun p hp=>hv p (D5 _ hp)) (fun p hp=>hO p (D5 _ hp)) hbx (fun p hp=>hρ p (D5 _ hp)) j (by simpa using hj);rw[show id+(j+1)=id+1+j from by omega];simpa using this
     | Ls =>
      simp only[J9]at hok ⊢;obtain⟨h3,h4,h5,h6,h7⟩:=hrest hok;have hnames:LK id ((true,.sl e sz)::ks) (.Ls::cs)=LK (id+1) ks cs:=rfl;refine⟨by simp [h3],by simp [h4],h5,by rw[hnames];exact h6,fun {O' objs' ρ} hp hv hO hbx hρ j hj=> ?_⟩;rw[hnames]at hρ;cases j with
      | zero =>have hc:JI O st.Js m w (f 0) .Ls:=h 0 (by simp);have hc:f 0= .slice none 0 0:=hc;show Ll _ [] (fun _=>f 0) w _ (.arr e true ⟨sz,[]⟩);exact⟨by simp [Sl.es],.inl ⟨trivial,rfl,hc⟩⟩
      | succ j =>have:=h7 hp hv hO hbx hρ j (by simpa using hj);rw[show id+(j+1)=id+1+j from by omega];simpa using this
     | _=>have:=hok false (by simp [J9]);cases this
    | sln e sz =>
     cases c with
     | own q =>
      simp only[J9]at hok ⊢;cases hg:J4 fet q with
      | none=>rw[hg]at hok;have:=hok false (by simp);cases this
      | some x =>
       cases x with
       | box _=>rw[hg]at hok;have:=hok false (by simp);cases this
       | mp _=>rw[hg]at hok;have:=hok false (by simp);cases this
       | arr e' fz l =>
        rw[hg]at hok;dsimp only at hok ⊢;obtain⟨hok1,hok2⟩:=hok.append;obtain⟨e1,e2⟩:=hok1.cons;obtain⟨_,e3⟩:=e2.cons;have e3:fz=false:=by simpa using e3.cons.1
        subst e3;have e1:=Dz e1;subst e1;obtain⟨h3,h4,h5,h6,h7⟩:=hrest hok2;have hq:=hf q _ hg;refine⟨by simp [h3],by simp [h4],h5,?_,fun {O' objs' ρ} hp hv hO hbx hρ j hj=> ?_⟩
        .simp only[LK,Ei,h6]
        .cases j with
         | zero =>have hc:JI O st.Js m w (f 0) (.own q):=h 0 (by simp);have hc:=hc.2;rw[hq]at hc;simp only[Option.map_some,Obj.shp]at hc;exact(Ll.keep (objs':=st.Js) (hS q _ hq) hp fun b k hb=>hbx b k q hb (.inr (hW rfl))).Ox (objs':=[]) (m':=fun _=>f 0) (hρ (q,id) Dy) hc
         | succ j =>have:=h7 hp hv hO hbx (fun p hp=>hρ p (D5 _ hp)) j (by simpa using hj);rw[show id+(j+1)=id+1+j from by omega];simpa using this
     | Ls =>
      simp only[J9]at hok ⊢;obtain⟨h3,h4,h5,h6,h7⟩:=hrest hok;have hnames:LK id ((true,.sln e sz)::ks) (.Ls::cs)=LK (id+1) ks cs:=rfl;refine⟨by simp [h3],by simp [h4],h5,by rw[hnames];exact h6,fun {O' objs' ρ} hp hv hO hbx hρ j hj=> ?_⟩;rw[hnames]at hρ;cases j with
      | zero =>have hc:JI O st.Js m w (f 0) .Ls:=h 0 (by simp);have hc:f 0= .slice none 0 0:=hc;show Ll _ [] (fun _=>f 0) w _ (.arr e false ⟨sz,[]⟩);exact⟨by simp [Sl.es],.inl ⟨trivial,rfl,hc⟩⟩
      | succ j =>have:=h7 hp hv hO hbx hρ j (by simpa using hj);rw[show id+(j+1)=id+1+j from by omega];simpa using this
     | _=>have:=hok false (by simp [J9]);cases this
    | bx t =>
     cases c with
     | ptr q off =>
      simp only[J9]at hok ⊢;cases hg:LW fet q with
      | none=>rw[hg]at hok;have:=hok false (by simp);cases this
      | some zs =>
       rw[hg]at hok;dsimp only at hok ⊢;obtain⟨hok0,hok1⟩:=hok.cons;obtain⟨hok1,hok2⟩:=hok1.append;have hok0:=Dz hok0;subst hok0;obtain⟨h3,h4,h5,h6,h7⟩:=hrest hok2;have hq:=hf q _ (LJ hg);obtain⟨b,base,g1,g2⟩:=hS q _ hq;have hv0:f 0= .pointer (some (at' b base)):=by have hc:JI O st.Js m w (f 0) (.ptr q 0):=h 0 (by simp);have hc:=hc.2;rw[hq]at hc;simp only[Option.map_some,Obj.shp]at hc;obtain⟨b',base',g3,g4⟩:=hc;rw[g1]at g3;injection g3 with g3;injection g3 with g3;injection g3 with e1 e2;subst e1;subst e2;exact g4
       have hfc: ∀ j,j<zs.length->w.cell? (at' b (base+j))=some ((w.cell? (at' b (base+j))).getD undef)/\JI O st.Js m w ((w.cell? (at' b (base+j))).getD undef) (zs.getD j .undef):=by intro j hj;obtain⟨_,_,u,h3,h4⟩:=g2 j hj;rw[h3];exact⟨rfl,h4⟩
       obtain⟨p1,p2,p3,p4⟩:=Yc hf (tck t) zs (fun j=>(w.cell? (at' b (base+j))).getD undef) (fun j hj=>(hfc j hj).2) hok1;refine⟨by simp [h3],by simp [h4],p3.append h5,?_,fun {O' objs' ρ} hp hv hO hbx hρ j hj=> ?_⟩
       .simp only[LK,Ei,h6]
       .cases j with
        | zero =>
         refine⟨b,base,hv0,fun j hj=> ?_⟩;have hj:j<(KO fet (tck t) zs).2.1.length:=hj;rw[p1]at hj;have hj':j<zs.length:=by rw[p2];exact hj
         obtain⟨k1,k2,_⟩:=g2 j hj';exact⟨WM (hbx _ _ _ k1 (.inl (.of hq (fun _ _ _ h=>by cases h)))) (hρ (q,id) Dy),k2,_,(hfc j hj').1,(p4 hp (fun p hp=>hv p (DL _ hp)) j hj).Kr (WL ρ)⟩
        | succ j =>have:=h7 hp (fun p hp=>hv p (DJ _ hp)) (fun p hp=>hO p (DJ _ hp)) hbx (fun p hp=>hρ p (D5 _ hp)) j (by simpa using hj);rw[show id+(j+1)=id+1+j from by omega];simpa using this
     | _=>have:=hok false (by simp [J9]);cases this
    | _=>have:=hok false (by simp [J9]);cases this
end
section
variable {P:Program} {C:Ctx} {V0:Nat->Value} {O0 O:Own} {w0 w:World} {m:Nat->Value} {st:St} {a:Act} {o:Oper}
def Amz {W:Prop} {fet:Fet} (hf:PO st.Js fet) {s:Sh} {x:A} {v:Value} {id:Nat} (hW:wS s=true->W) (hx:JG O st.Js m w v x) (hS: ∀ q y,J4 st.Js q=some y->Ll O st.Js m w q y) (hok:J7 (JZ fet s x).ok) :
 Frz st.Js (JZ fet s x).upd/\(∀ q∈(JZ fet s x).del++(JZ fet s x).boxes.map (·.1),q∈(OE fet id s x).map (·.1))/\(∀ q∈(OE fet id s x).map (·.1),q∈(JZ fet s x).del++(JZ fet s x).boxes.map (·.1)) /\
 (KF s=true↔(JZ fet s x).boxes≠ []) /\
 ∀ {O':Own} {objs':List (Nat×Obj)} {ρ :Nat->Option Nat},MW O w O' w->(∀ p∈(JZ fet s x).upd,∀ e l,p.2= .arr e true l->J5 O' w (m p.1) (.sl l)) ->
  (∀ p∈(JZ fet s x).upd,Ll O' objs' m w p.1 p.2)->(∀ b k q,O b k=some q->(NR st.Js q\/W)->O' b k=some q)->(∀ p∈OE fet id s x,ρ p.1=some p.2) ->
  IR (Ox O' ρ) w id v (JZ fet s x).a:=by
 cases s with
 | cell u k =>
  unfold JZ at *
  dsimp only at hok ⊢
  have hall: ∀ hc:JI O st.Js m w v x,_:=fun hc=>Wx hf hS [(u,k)] [x] id (fun _=>v) (fun h=>hW (by rw[List.any_cons,List.any_nil,ES]at h;exact h)) (fun j hj=>by
   have:j=0:=by simpa using hj
   subst this;exact hc)
  have hnc: ∀(h:J7 (J9 fet [(u,k)] [x]).1),JI O st.Js m w v x:=by
   intro h;cases x with
   | undef=>cases u<;>cases k<;>(have:=h false (by simp [J9,pur]);cases this)
   | agg _=>cases u<;>cases k<;>(have:=h false (by simp [J9,pur]);cases this)
   | tup _=>cases u<;>cases k<;>(have:=h false (by simp [J9,pur]);cases this)
   | cnd _ _=>cases u<;>cases k<;>(have:=h false (by simp [J9,pur]);cases this)
   | _=>exact hx
  generalize hh:J9 fet [(u,k)] [x]=r at *
  obtain⟨ok,cs,upd,del⟩:=r;cases cs with
  | nil=>have:=hok false (by simp);cases this
  | cons c cs =>
   cases cs with
   | cons _ _=>have:=hok false (by simp);cases this
   | nil =>
    dsimp only at hok ⊢;obtain⟨h1,h2,h3,h4,h5⟩:=hall (hnc hok) hok;have h4:del=(LK id [(u,k)] [x]).map (·.1):=h4;refine⟨h3,fun q hq=> ?_,fun q hq=> ?_,⟨(fun h=>by cases h),fun h=>absurd rfl h⟩,fun {O' objs' ρ} hp hv hO hbx hρ => ?_⟩
    .simp only[Ff,DV]at hq;rw[h4]at hq;exact hq
    .simp only[Ff,DV];rw[h4];exact hq
    .have:=h5 hp hv hO hbx hρ 0 (by simp);have e: [c].getD 0 .undef=c:=rfl;dsimp only at this;rw[e]at this;cases c<;>first | exact this | (obtain⟨b,base,e1,e2⟩:=this;exact⟨b,base,e1,fun j hj=>let ⟨k1,k2,u,k3,k4⟩:=e2 j hj;⟨k1,k2,u,k3,k4.ic⟩⟩) | cases this
 | agg ks =>
  cases x with
  | agg cs =>
   unfold JZ at *
   dsimp only at hok ⊢;obtain⟨vs,g1,g2,g3⟩:=hx;obtain⟨h1,h2,h3,h4,h5⟩:=Wx hf hS ks cs (id+1) (fun j=>vs.getD j undef) hW g3 hok;refine⟨h3,fun q hq=> ?_,fun q hq=> ?_,⟨(fun h=>by cases h),fun h=>absurd rfl h⟩,fun {O' objs' ρ} hp hv hO hbx hρ => ?_⟩
   .simp only[Ff,DV]at hq;rw[h4]at hq;exact hq
   .simp only[Ff,DV];rw[h4];exact hq
   .exact⟨vs,g1,by rw[g2,h1,h2],fun j hj=>h5 hp hv hO hbx hρ j (by rw[<- h1];exact hj)⟩
  | _=>have:=hok false (by simp [JZ]);cases this
 | box ks =>
  cases x with
  | ptr q off =>
   unfold JZ at *
   dsimp only at hok ⊢;cases hg:LW fet q with
   | none=>rw[hg]at hok;have:=hok false (by simp);cases this
   | some cs =>
    rw[hg]at hok;dsimp only at hok ⊢;obtain⟨ho0,hokA⟩:=hok.cons;obtain⟨_,hokB⟩:=hokA.cons;have ho0:=Dz ho0;subst ho0;have hq:=hf q _ (LJ hg);obtain⟨b,base,g1,g2⟩:=hS q _ hq;have hv0:v= .pointer (some (at' b base)):=by have hc:JI O st.Js m w v (.ptr q 0):=hx;have hc:=hc.2;all_goals grind[Obj.shp]
    let f:Nat->Value:=fun j=>(w.cell? (at' b (base+j))).getD undef
    have hfc: ∀ j,j<cs.length->w.cell? (at' b (base+j))=some (f j)/\JI O st.Js m w (f j) (cs.getD j .undef):=by
     intro j hj;obtain⟨_,_,u,h3,h4⟩:=g2 j hj;have:f j=u:=by show(w.cell? _).getD _=_;rw[h3];rfl
     rw[this];exact⟨h3,h4⟩
    obtain⟨h1,h2,h3,h4,h5⟩:=Wx hf hS ks cs (id+1) f hW (fun j hj=>(hfc j hj).2) hokB;have hnames:OE fet id (.box ks) (.ptr q 0)=(q,id)::LK (id+1) ks cs:=by simp only[OE,hg]
    rw[hnames];refine⟨h3,fun r hr=> ?_,fun r hr=> ?_,⟨fun _=>by simp,fun _=>rfl⟩,fun {O' objs' ρ} hp hv hO hbx hρ => ?_⟩
    .simp only[Ei,Ff,DR,Ed]at hr;rcases hr with hr | hr
     .rw[h4]at hr;exact D5 _ hr
     .rw[hr];exact Dy
    .simp only[Ei,Ff,DR,Ed];rcases D8.1 hr with hr | hr
     .exact .inr hr
     .left;rw[h4];exact hr
    .refine⟨b,base,hv0,fun j hj=> ?_⟩;rw[h1]at hj;obtain⟨k1,k2,u,k3,_⟩:=g2 j (by rw[h2];exact hj);refine⟨WM (hbx _ _ _ k1 (.inl (.of hq (fun _ _ _ h=>by cases h)))) (hρ (q,id) Dy),k2,f j,(hfc j (by rw[h2];exact hj)).1,h5 hp hv hO hbx (fun p hp'=>hρ p (D5 _ hp')) j hj⟩
  | _=>have:=hok false (by simp [JZ]);cases this
 | clo f' ks =>
  cases x with
  | clo g q =>
   unfold JZ at *
   dsimp only at hok ⊢;cases hg:LW fet q with
   | none=>rw[hg]at hok;have:=hok false (by simp);cases this
   | some cs =>
    rw[hg]at hok;dsimp only at hok ⊢;obtain⟨ho0,hokA⟩:=hok.cons;obtain⟨_,hokB⟩:=hokA.cons;have ho0:=Dz ho0;subst ho0;have hq:=hf q _ (LJ hg);obtain⟨b,base,g1,g2⟩:=hS q _ hq;have hv0:gQ O w f' v (.pointer (some (at' b base))):=by have hc:JI O st.Js m w v (.clo f' q):=hx;obtain⟨_,p,_,hc2,hc⟩:=hc;rw[hq]at hc;obtain⟨b',base',e1,e2⟩:=hc;rw[g1]at e1;rw[e1,<- e2];exact hc2
    let f:Nat->Value:=fun j=>(w.cell? (at' b (base+j))).getD undef
    have hfc: ∀ j,j<cs.length->w.cell? (at' b (base+j))=some (f j)/\JI O st.Js m w (f j) (cs.getD j .undef):=by
     intro j hj;obtain⟨_,_,u,h3,h4⟩:=g2 j hj;have:f j=u:=by show(w.cell? _).getD _=_;rw[h3];rfl
     rw[this];exact⟨h3,h4⟩
    obtain⟨h1,h2,h3,h4,h5⟩:=Wx hf hS ks cs (id+1) f hW (fun j hj=>(hfc j hj).2) hokB;have hnames:OE fet id (.clo f' ks) (.clo f' q)=(q,id)::LK (id+1) ks cs:=by simp only[OE,hg]
    rw[hnames];refine⟨h3,fun r hr=> ?_,fun r hr=> ?_,⟨fun _=>by simp,fun _=>rfl⟩,fun {O' objs' ρ} hp hv hO hbx hρ => ?_⟩
    .simp only[Ei,Ff,DR,Ed]at hr;rcases hr with hr | hr
     .rw[h4]at hr;exact D5 _ hr
     .rw[hr];exact Dy
    .simp only[Ei,Ff,DR,Ed];rcases D8.1 hr with hr | hr
     .exact .inr hr
     .left;rw[h4];exact hr
    .refine⟨b,base,(hv0.Kr hp).Kr (WL ρ),fun j hj=> ?_⟩;rw[h1]at hj;obtain⟨k1,k2,u,k3,_⟩:=g2 j (by rw[h2];exact hj);refine⟨WM (hbx _ _ _ k1 (.inl (.of hq (fun _ _ _ h=>by cases h)))) (hρ (q,id) Dy),k2,f j,(hfc j (by rw[h2];exact hj)).1,h5 hp hv hO hbx (fun p hp'=>hρ p (D5 _ hp')) j hj⟩
  | _=>have:=hok false (by simp [JZ]);cases this
 | map kt vt =>
  cases x with
  | own q =>
   unfold JZ at *
   dsimp only at hok ⊢;cases hg:J4 fet q with
   | none=>rw[hg]at hok;have:=hok false (by simp);cases this
   | some y =>
    cases y with
    | box _=>rw[hg]at hok;have:=hok false (by simp);cases this
    | arr _ _ _=>rw[hg]at hok;have:=hok false (by simp);cases this
    | mp l =>
     rw[hg]at hok;dsimp only at hok ⊢;have hq:=hf q _ hg;have hv0:v=m q:=by have hc:JI O st.Js m w v (.own q):=hx;have hc:=hc.2;rw[hq]at hc;exact hc
     refine⟨(fun p hp=>by cases hp),fun r hr=> ?_,fun r hr=> ?_,⟨fun _=>by simp,fun _=>rfl⟩,fun {O' objs' ρ} hp hv hO hbx hρ => ?_⟩
     .simpa [OE]using hr
     .simpa [OE]using hr
     .obtain⟨r,es,ck,g1,g2,g3,g4,g5⟩:=(show Q5 O w q (m q) l from hS q _ hq)
      refine⟨r,es,ck,by rw[hv0];exact g1,g2,WM (hbx _ _ _ g3 (.inl (.of hq (fun _ _ _ h=>by cases h)))) (hρ (q,id) Dy),g4,fun i p hip=> ?_⟩;obtain⟨e,k1,k2,k3⟩:=g5 i p hip;exact⟨e,k1,(k2.Kr hp).Kr (WL ρ),(k3.Kr hp).Kr (WL ρ)⟩
  | _=>have:=hok false (by simp [JZ]);cases this
def eG {W:Prop} {fet:Fet} (hf:PO st.Js fet) (hS: ∀ q y,J4 st.Js q=some y->Ll O st.Js m w q y) (stride:Nat): ∀(ss:List Sh) (xs:List A) (id:Nat) (f:Nat->Value),(ss.any wS=true->W)->(∀ j,j<xs.length->JG O st.Js m w (f j) (xs.getD j .undef))->J7 (JP fet ss xs).1 ->
 (JP fet ss xs).2.1.length=ss.length/\xs.length=ss.length/\Frz st.Js (JP fet ss xs).2.2.1 /\
 (∀ q,q∈(JP fet ss xs).2.2.2.1++(JP fet ss xs).2.2.2.2.map (·.1)↔q∈(NS fet id stride ss xs).map (·.1)) /\
 ∀ {O':Own} {objs':List (Nat×Obj)} {ρ :Nat->Option Nat},MW O w O' w->(∀ p∈(JP fet ss xs).2.2.1,∀ e l,p.2= .arr e true l->J5 O' w (m p.1) (.sl l)) ->
  (∀ p∈(JP fet ss xs).2.2.1,Ll O' objs' m w p.1 p.2)->(∀ b k q,O b k=some q->(NR st.Js q\/W)->O' b k=some q)->(∀ p∈NS fet id stride ss xs,ρ p.1=some p.2) ->
  ∀ j,j<ss.length->IR (Ox O' ρ) w (id+stride*j) (f j) ((JP fet ss xs).2.1.getD j .undef):=by
 intro ss
 induction ss with
 | nil =>
  intro xs id f _ _ hok;cases xs with
  | nil=>exact⟨rfl,rfl,(fun p hp=>by simp [JP]at hp),(fun q=>by simp [JP,NS]),fun _ _ _ _ _ j hj=>by simp at hj⟩
  | cons _ _=>have:=hok false (by simp [JP]);cases this
 | cons s ss ih =>
  intro xs id f hW h hok;cases xs with
  | nil=>have:=hok false (by simp [JP]);cases this
  | cons x xs =>
   simp only[JP]at hok ⊢;obtain⟨hok1,hok2⟩:=hok.append;obtain⟨h1,h2,h3,_,h4⟩:=Amz (id:=id) hf (fun e=>hW (by rw[List.any_cons,e,Ea])) (h 0 (by simp)) hS hok1;obtain⟨g1,g2,g3,g4,g5⟩:=ih xs (id+stride) (fun j=>f (j+1)) (fun e=>hW (by rw[List.any_cons,e,EM])) (fun j hj=>by simpa using h (j+1) (by simpa using hj)) hok2;refine⟨by simp [g1],by simp [g2],h1.append g3,fun q=> ?_,fun {O' objs' ρ} hp hv hO hbx hρ j hj=> ?_⟩
   .grind[NS,a1,a2,a3]
   .cases j with
    | zero=>simpa using h4 hp (fun p hp=>hv p (DL _ hp)) (fun p hp=>hO p (DL _ hp)) hbx (fun p hp=>hρ p (DL _ hp))
    | succ j =>have:=g5 hp (fun p hp=>hv p (DJ _ hp)) (fun p hp=>hO p (DJ _ hp)) hbx (fun p hp=>hρ p (DJ _ hp)) j (by simpa using hj);rw[show id+stride*(j+1)=id+stride+stride*j from by rw[Jh];omega];simpa using this
end
def AxY:Value->Value
 | .func g fi caps=>caps.getD 0 (.func g fi caps)
 | v=>v
def deref (w:World):Value->Value
 | .pointer (some a)=>(w.cell? a).getD undef
 | _=>undef
def innerS (w:World):Sh->Value->Value
 | .clo _ _,v=>deref w (AxY v)
 | _,v=>v
def gQ.inner {O:Own} {w:World} {k:Nat} {v p:Value} {ks:List (Bool×CK)} (h:gQ O w k v p):innerS w (.clo k ks) v=p:=by obtain⟨b,j,h1,_,h3⟩:=h;rw[h1];cases k<;>(show(w.cell? _).getD _=_;rw[h3];rfl)
def Oa (w:World) (v:Value):Nat->Value
 | 0=>v
 | x+1=>match v with
  | .agg vs=>vs.getD x undef
  | .pointer (some a)=>(w.cell? (at' a.block (a.off+x))).getD undef
  | _=>undef
section
variable {Oc O':Own} {w:World} {objs':List (Nat×Obj)} {m':Nat->Value}
def Ll.carry {Js:List (Nat×Obj)} {m:Nat->Value} {c i e:Nat} {z:Bool} {l:Sl} (h:Ll Oc Js m w c (.arr e z l)) (hp:MW Oc w O' w) (hr: ∀ b k,Oc b k=some c->O' b k=some i) (hn: ∀ b k,Oc b k=none->O' b k=none) (hm:m' i=m c) :
 Ll O' objs' m' w i (.arr e z l):=by
 refine⟨h.1,?_⟩;rcases h.2 with ⟨h1,h2,h3⟩ | ⟨h1,g,cap,cur,h2,h3,h4,h5,h6,h7,h8,h9⟩
 .grind[Obj,Ll,MW]
 .refine .inr ⟨h1,g,cap,cur,by rw[hm];exact h2,h3,h4,h5,h6,fun r j hr' hj=> ?_,fun k hk hge=>hr _ _ (h8 k hk hge),fun k hk=> ?_⟩
  .obtain⟨u,h10,h11⟩:=h7 r j hr' hj;exact⟨u,h10,h11.Kr hp⟩
  .grind[Obj,Ll,MW]
def Q5.carry {c i:Nat} {v:Value} {l:Mp} (h:Q5 Oc w c v l) (hp:MW Oc w O' w) (hr: ∀ b k,Oc b k=some c->O' b k=some i):Q5 O' w i v l:=by obtain⟨r,es,ck,h1,h2,h3,h4,h5⟩:=h;refine⟨r,es,ck,h1,h2,hr _ _ h3,h4,fun j p hj=> ?_⟩;obtain⟨e,k1,k2,k3⟩:=h5 j p hj;exact⟨e,k1,k2.Kr hp,k3.Kr hp⟩
def vP {kt vt:Ty} {a:A} (h:a.vO kt vt=true): ∃ l,a= .ump l/\l.kt=kt/\l.vt=vt:=by
 cases a with
 | ump l =>have h':(decide (l.kt=kt)&&decide (l.vt=vt))=true:=h;all_goals grind[Ty]
 | _=>cases h
def J5.toC {v:Value} {a:A} (h:J5 O' w v a):JI O' objs' m' w v a:=by cases a<;>first | exact h | (cases h;done)
def Ao4 {id:Nat} {k:CK} {v:Value} {c:A} (h:IC Oc w id v c) (hp:MW Oc w O' w) (hok:J7 (force k c).1):JI O' objs' m' w v (force k c).2:=by
 cases c with
 | box cs =>
  cases k with
  | oth=>obtain⟨b,base,h1,_⟩:=h;rw[h1];rfl
  | mp _ _=>have:=hok.cons.1;cases this
  | bx _=>have:=hok.cons.1;cases this
  | _=>have:=hok.cons.1;simp [A.isB,A.isI,A.isS,A.AhL,A.Acx,A.rG,A.isFn]at this
 | usl z e l =>
  cases k with
  | oth =>
   rcases h.2 with ⟨_,_,h3⟩ | ⟨_,g,cap,cur,h2,_⟩
   .show v.oneCell'=true;have h3:v=_:=h3;rw[h3];rfl
   .show v.oneCell'=true;have h2:v=_:=h2;rw[h2];rfl
  | mp _ _=>have:=hok.cons.1;cases this
  | bx _=>have:=hok.cons.1;cases this
  | _=>have:=hok.cons.1;simp [A.isB,A.isI,A.isS,A.AhL,A.Acx,A.rG,A.isFn]at this
 | _=>exact AaC (J5.Kr hp h) hok
def TF {cid id:Nat} {f:Nat->Value} (hp:MW Oc w O' w) (hn: ∀ b k,Oc b k=none->O' b k=none): ∀(ks:List (Bool×CK)) (cs:List A) (j0:Nat),(∀ j,j<ks.length->IC Oc w (cid+(j0+j)) (f (j0+j)) (cs.getD (j0+j) .undef)) ->
 (∀ b k x,x<j0+ks.length->Oc b k=some (cid+x)->O' b k=some (id+x))->J7 (JS id ks cs j0).1->(∀ p∈(JS id ks cs j0).2.2,J4 objs' p.1=some p.2)->(∀ p∈(JS id ks cs j0).2.2,∀ x,p.1=id+x->m' p.1=f x) ->
 (JS id ks cs j0).2.1.length=ks.length/\(∀ j,j<ks.length->JI O' objs' m' w (f (j0+j)) ((JS id ks cs j0).2.1.getD j .undef))/\ ∀ p∈(JS id ks cs j0).2.2,Ll O' objs' m' w p.1 p.2/\ ∃ x,p.1=id+x/\j0<=x/\x<j0+ks.length:=by
 intro ks
 induction ks with
 | nil=>intro cs j0 _ _ _ _ _;exact⟨rfl,fun j hj=>by simp at hj,fun p hp=>by simp [JS]at hp⟩
 | cons k ks ih =>
  intro cs j0 h hr hok hO hm;obtain⟨u,k⟩:=k;have h0:=h 0 (by simp);rw[Nat.add_zero]at h0;have hrest:=fun hok2 hO2 hm2=>ih cs (j0+1) (fun j hj=>by have:=h (j+1) (by simpa using hj);rwa [show j0+(j+1)=j0+1+j from by omega]at this) (fun b k x hx=>hr b k x (by simp only[List.length_cons];omega)) hok2 hO2 hm2;cases u with
  | false =>
   simp only[JS]at hok hO hm ⊢;obtain⟨hok1,hok2⟩:=hok.append;obtain⟨g1,g2,g3⟩:=hrest hok2 hO hm;refine⟨by simp [g1],fun j hj=> ?_,fun p hp=> ?_⟩
   .cases j with
    | zero=>exact Ao4 h0 hp hok1
    | succ j =>have:=g2 j (by simpa using hj);rw[show j0+(j+1)=j0+1+j from by omega];simpa using this
   .obtain⟨a1,x,a2,a3,a4⟩:=g3 p hp;exact⟨a1,x,a2,by omega,by simp only[List.length_cons];omega⟩
  | true =>
   cases k with
   | sl e sz =>
    simp only[JS]at hok hO hm ⊢;obtain⟨hok1,hok2⟩:=hok.cons;obtain⟨g1,g2,g3⟩:=hrest hok2 (fun p hp=>hO p (D5 _ hp)) (fun p hp=>hm p (D5 _ hp));have hO0:=hO _ Dy;have hm0:=hm _ Dy j0 rfl;dsimp only at hO0 hm0
    have hc:cs.getD j0 .undef= .usl true e (cs.getD j0 .undef).toL:=by
     generalize cs.getD j0 .undef=c at *
     cases c<;>simp only[A.Aga]at hok1<;>first | (cases hok1;done) | skip
     simp only[Dx,Fb]at hok1;rw[Dz hok1.2.1,<- hok1.1];rfl
    rw[hc]at h0;have hor:Ll O' objs' m' w (id+j0) (.arr e true (cs.getD j0 .undef).toL):=Ll.carry (show Ll Oc [] (fun _=>f j0) w (cid+j0) _ from h0) hp (fun b k hbk=>hr b k j0 (by simp) hbk) hn hm0;refine⟨by simp [g1],fun j hj=> ?_,fun p hp=> ?_⟩
    .cases j with
     | zero =>
      have hone:(f j0).oneCell'=true:=by
       rcases h0.2 with ⟨_,_,h3⟩ | ⟨_,g,cap,cur,h2,_⟩
       .have h3:f j0=_:=h3;rw[h3];rfl
       .have h2:f j0=_:=h2;rw[h2];rfl
      refine⟨hone,?_⟩;show match (J4 objs' (id+j0)).map Obj.shp with | some (.arr _ _)=>_ | some .mp=>_ | _=>True
      rw[hO0];exact hm0.symm
     | succ j =>have:=g2 j (by simpa using hj);rw[show j0+(j+1)=j0+1+j from by omega];simpa using this
    .rcases D8.1 hp with rfl | hp
     .exact⟨hor,j0,rfl,DK _,by simp⟩
     .obtain⟨a1,x,a2,a3,a4⟩:=g3 p hp;exact⟨a1,x,a2,by omega,by simp only[List.length_cons];omega⟩
   | sln e sz =>
    simp only[JS]at hok hO hm ⊢;obtain⟨hok1,hok2⟩:=hok.cons;obtain⟨g1,g2,g3⟩:=hrest hok2 (fun p hp=>hO p (D5 _ hp)) (fun p hp=>hm p (D5 _ hp));have hO0:=hO _ Dy;have hm0:=hm _ Dy j0 rfl;dsimp only at hO0 hm0
    have hc:cs.getD j0 .undef= .usl false e (cs.getD j0 .undef).toL:=by
     generalize cs.getD j0 .undef=c at *
     cases c<;>simp only[A.Aga]at hok1<;>first | (cases hok1;done) | skip
     simp only[Dx,Fb]at hok1;rw[Dz hok1.2.1,<- hok1.1];rfl
    rw[hc]at h0;have hor:Ll O' objs' m' w (id+j0) (.arr e false (cs.getD j0 .undef).toL):=Ll.carry (show Ll Oc [] (fun _=>f j0) w (cid+j0) _ from h0) hp (fun b k hbk=>hr b k j0 (by simp) hbk) hn hm0;refine⟨by simp [g1],fun j hj=> ?_,fun p hp=> ?_⟩
    .cases j with
     | zero =>
      have hone:(f j0).oneCell'=true:=by
       rcases h0.2 with ⟨_,_,h3⟩ | ⟨_,g,cap,cur,h2,_⟩
       .have h3:f j0=_:=h3;rw[h3];rfl
       .have h2:f j0=_:=h2;rw[h2];rfl
      refine⟨hone,?_⟩;show match (J4 objs' (id+j0)).map Obj.shp with | some (.arr _ _)=>_ | some .mp=>_ | _=>True
      rw[hO0];exact hm0.symm
     | succ j =>have:=g2 j (by simpa using hj);rw[show j0+(j+1)=j0+1+j from by omega];simpa using this
    .rcases D8.1 hp with rfl | hp
     .exact⟨hor,j0,rfl,DK _,by simp⟩
     .obtain⟨a1,x,a2,a3,a4⟩:=g3 p hp;exact⟨a1,x,a2,by omega,by simp only[List.length_cons];omega⟩
   | bx t =>
    simp only[JS]at hok hO hm ⊢;obtain⟨hok1,hok2⟩:=hok.cons;obtain⟨g1,g2,g3⟩:=hrest hok2 (fun p hp=>hO p (D5 _ hp)) (fun p hp=>hm p (D5 _ hp));have hO0:=hO _ Dy;have hm0:=hm _ Dy j0 rfl;dsimp only at hO0 hm0;generalize cs.getD j0 .undef=c at *
    cases c with
    | box ds =>
     obtain⟨b,base,e1,e2⟩:=h0;refine⟨by simp [g1],fun j hj=> ?_,fun p hp=> ?_⟩
     .cases j with
      | zero =>
       refine⟨by rw[Nat.add_zero,e1];rfl,?_⟩;show match (J4 objs' (id+j0)).map Obj.shp with | some .box=>_ | _=>True
       rw[hO0];exact⟨b,base,by rw[hm0];exact e1,e1⟩
      | succ j =>have:=g2 j (by simpa using hj);rw[show j0+(j+1)=j0+1+j from by omega];simpa using this
     .rcases D8.1 hp with rfl | hp
      .refine⟨⟨b,base,by rw[hm0];exact e1,fun j hj=> ?_⟩,j0,rfl,DK _,by simp⟩;obtain⟨a1,a2,u,a3,a4⟩:=e2 j hj;exact⟨hr _ _ _ (by simp) a1,a2,u,a3,(J5.Kr ‹_› a4).toC⟩
      .obtain⟨a1,x,a2,a3,a4⟩:=g3 p hp;exact⟨a1,x,a2,by omega,by simp only[List.length_cons];omega⟩
    | _=>cases hok1
   | _=>have:=hok false (by simp [JS]);cases this
def AsW {cid id:Nat} {s:Sh} {x:A} {v:Value} (hp:MW Oc w O' w) (hn: ∀ b k,Oc b k=none->O' b k=none) (h:IR Oc w cid v x) (hr: ∀ b k i,i<255->Oc b k=some (cid+i)->O' b k=some (id+i))
 (hok:J7 (back id s x).1) (hO: ∀ p∈(back id s x).2.2,J4 objs' p.1=some p.2) (hm: ∀ p∈(back id s x).2.2,∀ i,p.1=id+i->m' p.1=Oa w (innerS w s v) i) :
 JG O' objs' m' w v (back id s x).2.1/\ ∀ p∈(back id s x).2.2,Ll O' objs' m' w p.1 p.2:=by
 cases s with
 | cell u k =>
  simp only[back]at hok hO hm ⊢;obtain⟨hok1,hok2⟩:=hok.append;have hpl:=hok2.cons.1
  have hic:IC Oc w cid v x:=by
   have bad: ∀ cs l,x= .agg cs\/x= .box cs\/x= .ump l\/(∃ f,x= .cbx f cs)->False:=by rintro cs l (rfl | rfl | rfl | ⟨f,rfl⟩)<;>(cases u<;>cases k<;>first | (cases hpl;done) | (have:=hok1 false (by simp [JS,force,A.isB,A.isI,A.isS,A.AhL,A.Acx,A.rG,A.Aga,A.isFn]);cases this))
   cases x with
   | agg cs=>exact(bad cs default (.inl rfl)).elim
   | box cs=>exact(bad cs default (.inr (.inl rfl))).elim
   | ump l=>exact(bad [] l (.inr (.inr (.inl rfl)))).elim
   | cbx f cs=>exact(bad cs default (.inr (.inr (.inr ⟨f,rfl⟩)))).elim
   | _=>exact h
  obtain⟨g1,g2,g3⟩:=TF (cid:=cid) (id:=id) (f:=Oa w v) hp hn [(u,k)] [x] 0 (fun j hj=>by
   have:j=0:=by simpa using hj
   subst this;exact hic) (fun b k i hi hb=>hr b k i (by simp at hi;omega) hb) hok1 hO hm
  have:=g2 0 (by simp);exact⟨this.toT,fun p hp=>(g3 p hp).1⟩
 | agg ks =>
  simp only[back]at hok hO hm ⊢;obtain⟨hf,hok⟩:=hok.cons;have hf:=DX hf;obtain⟨hok1,hok2⟩:=hok.cons;cases x with
  | agg cs =>
   obtain⟨vs,h1,h2,h3⟩:=h;have hl:cs.length=ks.length:=by simpa [A.isAgg,XD]using hok1
   obtain⟨g1,g2,g3⟩:=TF (objs':=objs') (m':=m') (cid:=cid+1) (id:=id+1) (f:=fun j=>vs.getD j undef) hp hn ks cs 0 (fun j hj=>by
    have:=h3 j (by omega);rw[DY];exact this) (fun b k i hi hb=>by
    have:=hr b k (1+i) (by omega) (by rw[<- EG];exact hb);rw[<- EG]at this;exact this) hok2 hO (fun p hp i hi=>by
    have:=hm p hp (i+1) (by omega);rw[this,h1];rfl)
   refine⟨⟨vs,h1,?_,fun j hj=> ?_⟩,fun p hp=>(g3 p hp).1⟩
   .show vs.size=(JS (id+1) ks cs 0).2.1.length;rw[h2,g1,hl]
   .have hj:j<(JS (id+1) ks cs 0).2.1.length:=hj;rw[g1]at hj;have:=g2 j hj;rwa [DY]at this
  | _=>simp [A.isAgg]at hok1
 | box ks =>
  simp only[back]at hok hO hm ⊢;obtain⟨hf,hok⟩:=hok.cons;have hf:=DX hf;obtain⟨hok1,hok2⟩:=hok.cons;cases x with
  | box cs =>
   obtain⟨b,base,h1,h2⟩:=h;have h1':Oa w v 0= .pointer (some (at' b base)):=by rw[h1];rfl
   have hl:cs.length=ks.length:=by simpa [A.Alg,XD]using hok1
   have hcell: ∀ j,Oa w v (j+1)=(w.cell? (at' b (base+j))).getD undef:=by intro j;rw[h1];rfl
   obtain⟨g1,g2,g3⟩:=TF (objs':=objs') (m':=m') (cid:=cid+1) (id:=id+1) (f:=fun j=>(w.cell? (at' b (base+j))).getD undef) hp hn ks cs 0 (fun j hj=>by
    obtain⟨_,_,u,h5,h6⟩:=h2 j (by omega);rw[DY,h5];exact h6) (fun b k i hi hb=>by
    have:=hr b k (1+i) (by omega) (by rw[<- EG];exact hb);rw[<- EG]at this;exact this) hok2 (fun p hp=>hO p (D5 _ hp)) (fun p hp i hi=>by
    have:=hm p (D5 _ hp) (i+1) (by omega);rw[this];exact hcell _)
   have hO0:=hO _ Dy;have hm0:=hm _ Dy 0 rfl;dsimp only at hO0 hm0;refine⟨?_,fun p hp=> ?_⟩
   .show JI O' objs' m' w v (.ptr id 0);refine⟨by rw[h1];rfl,?_⟩;show match (J4 objs' id).map Obj.shp with | some .box=>_ | _=>True
    rw[hO0];exact⟨b,base,by rw[hm0];exact h1',h1⟩
   .rcases D8.1 hp with rfl | hp
    .refine⟨b,base,by rw[hm0];exact h1',fun j hj=> ?_⟩;have hj:j<(JS (id+1) ks cs 0).2.1.length:=hj;rw[g1]at hj;obtain⟨a1,a2,u,a3,_⟩:=h2 j (by omega);have:=g2 j hj;rw[DY,a3]at this;exact⟨by have:=hr b (base+j) 0 (by omega) a1;exact this,a2,u,a3,this⟩
    .exact(g3 p hp).1
  | _=>simp [A.Alg]at hok1
 | clo f' ks =>
  simp only[back]at hok hO hm ⊢;obtain⟨hf,hok⟩:=hok.cons;have hf:=DX hf;obtain⟨hok1,hok2⟩:=hok.cons;cases x with
  | cbx g cs =>
   have hg:f'=g:=by have h':=hok1;simp only[A.Alh,Dx]at h';exact Dz h'.1
   subst hg;obtain⟨b,base,h1,h2⟩:=h;have h1':Oa w (innerS w (.clo f' ks) v) 0= .pointer (some (at' b base)):=h1.inner (ks:=ks);have hl:cs.length=ks.length:=by have h':=hok1;simp only[A.Alh,Dx]at h';exact Dz h'.2
   have hcell: ∀ j,Oa w (innerS w (.clo f' ks) v) (j+1)=(w.cell? (at' b (base+j))).getD undef:=by intro j;rw[h1.inner (ks:=ks)];rfl
   obtain⟨g1,g2,g3⟩:=TF (objs':=objs') (m':=m') (cid:=cid+1) (id:=id+1) (f:=fun j=>(w.cell? (at' b (base+j))).getD undef) hp hn ks cs 0 (fun j hj=>by
    obtain⟨_,_,u,h5,h6⟩:=h2 j (by omega);rw[DY,h5];exact h6) (fun b k i hi hb=>by
    have:=hr b k (1+i) (by omega) (by rw[<- EG];exact hb);rw[<- EG]at this;exact this) hok2 (fun p hp=>hO p (D5 _ hp)) (fun p hp i hi=>by
    have:=hm p (D5 _ hp) (i+1) (by omega);rw[this];exact hcell _)
   have hO0:=hO _ Dy;have hm0:=hm _ Dy 0 rfl;dsimp only at hO0 hm0;refine⟨?_,fun p hp=> ?_⟩
   .show JI O' objs' m' w v (.clo f' id);refine⟨by obtain⟨_,_,e,_⟩:=h1;rw[e];cases f'<;>rfl,_,rfl,h1.Kr hp,?_⟩;show match (J4 objs' id).map Obj.shp with | some .box=>_ | _=>True
    rw[hO0];exact⟨b,base,hm0.trans h1',rfl⟩
   .rcases D8.1 hp with rfl | hp
    .refine⟨b,base,by rw[hm0];exact h1',fun j hj=> ?_⟩;have hj:j<(JS (id+1) ks cs 0).2.1.length:=hj;rw[g1]at hj;obtain⟨a1,a2,u,a3,_⟩:=h2 j (by omega);have:=g2 j hj;rw[DY,a3]at this;exact⟨by have:=hr b (base+j) 0 (by omega) a1;exact this,a2,u,a3,this⟩
    .exact(g3 p hp).1
  | _=>simp [A.Alh]at hok1
 | map kt vt =>
  simp only[back]at hok hO hm ⊢;obtain⟨l,rfl,_,_⟩:=vP hok.cons.1;have hO0:=hO _ Dy;have hm0:=hm _ Dy 0 rfl;dsimp only at hO0 hm0;have h:Q5 Oc w cid v l:=h;have hm0:m' id=v:=hm0;have h2:Q5 O' w id v l:=h.carry hp (fun b k hb=>hr b k 0 (by omega) hb);refine⟨?_,fun p hp=> ?_⟩
  .show JI O' objs' m' w v (.own id);refine⟨by obtain⟨r,_,_,h1,_⟩:=h;rw[h1];rfl,?_⟩;rw[hO0];exact hm0.symm
  .obtain rfl:p=(id,.mp l):=Ed.1 hp;show Q5 O' w id (m' id) l;rw[hm0];exact h2
end
def AwY (k:Nat):Nat:=256000+256*k
def Ac4:A->A
 | .agg cs=>.box cs
 | a=>a
def La:List Sh->Nat->List Nat
 | [],_=>[]
 | s::ss,i=>bif KF s then i::La ss (i+1)else La ss (i+1)
structure Came (O:Own) (w:World) (vs:Array Value) (sg:Sig) (rs:List A) (v:Value) (O':Own) (w':World):Prop where
 moves:Moves O (fun o=>o≠255) w w'
 less: ∀ b k,b<w.heap.size->O' b k≠none->O b k≠none
 oH: ∀ b k,b<w.heap.size->O b k=some 255->O' b k=some 255
 count:rs.length=sg.JB.length+(La sg.Ju 0).length
 res: ∃ us:Array Value,us.size=sg.JB.length/\v=(if h:us.size=1 then us[0]else .tuple us)/\ ∀ k,k<us.size->IR O' w' (AwY k) (us.getD k undef) (rs.getD k .undef)
 boxes: ∀ j i,(La sg.Ju 0)[j]? =some i->IR O' w' (256*i) (innerS w (sg.Ju.getD i (.agg [])) (vs.getD i undef)) (Ac4 (rs.getD (sg.JB.length+j) .undef))
def Spec (P:Program) (f:FuncId) (sg:Sig):Prop :=
 (∀ args w,(callFunc f args).run P w= .ok (.enter f args) w) /\
 ∀(O:Own) (w:World) (vs:Array Value) (xs rs:List A),Inv O w->vs.size=xs.length->xs.length=sg.Ju.length->xs.length<=100->(∀ j,j<xs.length->IR O w (256*j) (vs.getD j undef) (xs.getD j .undef))->sg.F xs=some rs ->
  Calls P f vs w fun e w'=> ∃ v O',e= .returned v/\Came O w vs sg rs v O' w'
section
variable {P:Program} {C:Ctx} {V0:Nat->Value} {O0 O:Own} {w0 w:World} {m:Nat->Value} {st:St} {a:Act} {o:Oper}
def Yo (w:World) (f:Nat->Value) (id stride:Nat):List Sh->List A->Nat->List (Nat×Value)
 | [],_,_=>[]
 | s::ss,rs,j=>(back (id+stride*j) s (rs.getD j .undef)).2.2.map (fun p=>(p.1,Oa w (f j) (p.1 - (id+stride*j))))++Yo w f id stride ss rs (j+1)
def Aq2 (w:World) (f:Nat->Value) (id stride:Nat): ∀(ss:List Sh) (rs:List A) (j:Nat),(Yo w f id stride ss rs j).map (·.1)=(KW id stride ss rs j).2.2.map (·.1):=by
 intro ss
 induction ss with
 | nil=>intro rs j;rfl
 | cons s ss ih=>intro rs j;simp [Yo,KW,ih]
def At8 {k:CK} {c:A} (hp:k.plain=true) (h:J7 (force k c).1):(force k c).2.isVal=true:=by
 cases k<;>first
  | (cases hp;done)
  | (have h1:=h.cons.1;cases c<;>first | rfl | (cases h1;done))
def Aff {Oc O':Own} {objs':List (Nat×Obj)} {m':Nat->Value} {cid cst id stride:Nat} {f g:Nat->Value} {rs:List A} (hp:MW Oc w O' w) (hn: ∀ b k,Oc b k=none->O' b k=none): ∀(ss:List Sh) (j0:Nat),(∀ j,j<ss.length->g (j0+j)=innerS w (ss.getD j (.agg [])) (f (j0+j))) ->
 (∀ j,j<ss.length->IR Oc w (cid+cst*(j0+j)) (f (j0+j)) (rs.getD (j0+j) .undef))->(∀ j,j<ss.length-> ∀ b k i,i<255->Oc b k=some (cid+cst*(j0+j)+i)->O' b k=some (id+stride*(j0+j)+i)) ->
 J7 (KW id stride ss rs j0).1->(∀ p∈(KW id stride ss rs j0).2.2,J4 objs' p.1=some p.2)->(∀ p∈Yo w g id stride ss rs j0,m' p.1=p.2) ->
 (KW id stride ss rs j0).2.1.length=ss.length/\(∀ j,j<ss.length->JG O' objs' m' w (f (j0+j)) ((KW id stride ss rs j0).2.1.getD j .undef)/\((KW id stride ss rs j0).2.1.getD j .undef).isVal=true) /\
   ∀ p∈(KW id stride ss rs j0).2.2,Ll O' objs' m' w p.1 p.2:=by
 intro ss
 induction ss with
 | nil=>grind[KW]
 | cons s ss ih =>
  intro j0 hg h hr hok hO hm;simp only[KW]at hok hO ⊢;simp only[Yo]at hm;obtain⟨hok1,hok2⟩:=hok.append
  obtain⟨g1,g2,g3⟩:=ih (j0+1) (fun j hj=>by have:=hg (j+1) (by simpa using hj);rwa [show j0+(j+1)=j0+1+j from by omega]at this) (fun j hj=>by have:=h (j+1) (by simpa using hj);rwa [show j0+(j+1)=j0+1+j from by omega]at this)
   (fun j hj=>by have:=hr (j+1) (by simpa using hj);rwa [show j0+(j+1)=j0+1+j from by omega]at this) hok2 (fun p hp=>hO p (DJ _ hp)) (fun p hp=>hm p (DJ _ hp))
  have h0:=h 0 (by simp);have hr0:=hr 0 (by simp);have hg0:g (j0+0)=innerS w s (f (j0+0)):=hg 0 (by simp);rw[Nat.add_zero]at h0 hr0 hg0;obtain⟨k1,k2⟩:=AsW (id:=id+stride*j0) (m':=m') (objs':=objs') hp hn h0 hr0 hok1 (fun p hp=>hO p (DL _ hp)) (fun p hp i hi=>by have:=hm (p.1,Oa w (g j0) (p.1 - (id+stride*j0))) (DL _ (DN.2 ⟨p,hp,rfl⟩));rw[this,hi,GV,hg0]);refine⟨by simp [g1],fun j hj=> ?_,fun p hp=> ?_⟩
  .cases j with
   | zero =>
    refine⟨k1,?_⟩;show((back (id+stride*j0) s (rs.getD j0 .undef)).2.1).isVal=true;cases s with
    | agg ks=>rfl
    | box ks=>rfl
    | clo f' ks=>rfl
    | map kt vt=>rfl
    | cell u' k =>
     have hpl:k.plain=true:=by simp only[back]at hok1;exact hok1.append.2.cons.1
     cases u' with
     | true=>cases k<;>first | (cases hpl;done) | rfl | (exfalso;have:=hok1 false (by simp [back,JS]);cases this)
     | false =>
      have hf:J7 (force k (rs.getD j0 .undef)).1:=by have h1:=hok1;simp only[back,JS]at h1;exact h1.append.1.append.1
      show(force k (rs.getD j0 .undef)).2.isVal=true;exact At8 hpl hf
   | succ j =>have:=g2 j (by simpa using hj);rw[show j0+(j+1)=j0+1+j from by omega];simpa using this
  .rcases DR.1 hp with hp | hp
   .exact k2 p hp
   .exact g3 p hp
def look (N:List (Nat×Nat)) (q:Nat):Option Nat:=(N.find? (fun p=>p.1==q)).map (·.2)
def AmJ {N:List (Nat×Nat)} (hnd:nodup (N.map (·.1))=true): ∀ p∈N,look N p.1=some p.2:=by
 induction N with
 | nil=>intro p hp;cases hp
 | cons q N ih =>
  intro p hp;simp only[Ei,nodup,Dx,EX]at hnd;unfold look;rcases D8.1 hp with rfl | hp
  .simp
  .have hne:q.1≠p.1:=fun e=>by
    have:has (N.map (·.1)) q.1=true:=P5.2 (DN.2 ⟨p,hp,e.symm⟩);rw[this]at hnd;cases hnd.1
   all_goals grind[nodup,look]
def AaS {N:List (Nat×Nat)} {q i:Nat} (h:look N q=some i):(q,i)∈N:=by
 unfold look at h;cases hf:N.find? (fun p=>p.1==q)with
 | none=>rw[hf]at h;cases h
 | some p=>grind[look]
def mV (N:List (Nat×Value)) (q:Nat):Option Value:=(N.find? (fun p=>p.1==q)).map (·.2)
def AtY {N:List (Nat×Value)} (hnd:nodup (N.map (·.1))=true): ∀ p∈N,mV N p.1=some p.2:=by
 induction N with
 | nil=>intro p hp;cases hp
 | cons q N ih =>
  intro p hp;simp only[Ei,nodup,Dx,EX]at hnd;unfold mV;rcases D8.1 hp with rfl | hp
  .simp
  .have hne:q.1≠p.1:=fun e=>by
    have:has (N.map (·.1)) q.1=true:=P5.2 (DN.2 ⟨p,hp,e.symm⟩);rw[this]at hnd;cases hnd.1
   all_goals grind[nodup,mV]
def Ar8 {N:List (Nat×Value)} {q:Nat} (h:q∉N.map (·.1)):mV N q=none:=by grind[mV]
def JG.Azb {Js:List (Nat×Obj)} {v:Value} {x:A} (h:JG O Js m w v x) (hv:x.isVal=true):T1 O Js m w v x:=by cases x<;>first | (cases hv;done) | exact h
def YK {fet:Fet}: ∀(ks:List (Bool×CK)) (cs:List A) (id:Nat),J7 (J9 fet ks cs).1-> ∀ p∈LK id ks cs,(J4 fet p.1).isSome/\ ∃ x,x<ks.length/\p.2=id+x:=by
 intro ks
 induction ks with
 | nil=>intro cs id _ p hp;cases cs<;>simp [LK]at hp
 | cons k ks ih =>
  intro cs id hok p hp;obtain⟨u,k⟩:=k;cases cs with
  | nil=>cases u<;>simp [LK]at hp
  | cons c cs =>
   have step:J7 (J9 fet ks cs).1->p∈LK (id+1) ks cs->(J4 fet p.1).isSome/\ ∃ x,x<((u,k)::ks).length/\p.2=id+x:=by intro h1 h2;obtain⟨h3,x,h4,h5⟩:=ih cs (id+1) h1 p h2;exact⟨h3,x+1,by simpa using h4,by omega⟩
   cases u with
   | false=>simp_all[LK,J9,hok,Fet,CK,J7,J4]
   | true =>
    cases k with
    | sl e sz =>
     cases c with
     | own q =>
      simp only[J9]at hok;cases hg:J4 fet q with
      | none=>rw[hg]at hok;have:=hok false (by simp);cases this
      | some y =>
       cases y with
       | box _=>rw[hg]at hok;have:=hok false (by simp);cases this
       | mp _=>rw[hg]at hok;have:=hok false (by simp);cases this
       | arr e' fz l =>
        rw[hg]at hok;simp only[LK]at hp;rcases D8.1 hp with rfl | hp
        .exact⟨by rw[hg];rfl,0,by simp,rfl⟩
        .exact step hok.append.2 hp
     | Ls =>simp only[J9]at hok;exact step hok hp
     | _=>have:=hok false (by simp [J9]);cases this
    | sln e sz =>
     cases c with
     | own q =>
      simp only[J9]at hok;cases hg:J4 fet q with
      | none=>rw[hg]at hok;have:=hok false (by simp);cases this
      | some y =>
       cases y with
       | box _=>rw[hg]at hok;have:=hok false (by simp);cases this
       | mp _=>rw[hg]at hok;have:=hok false (by simp);cases this
       | arr e' fz l =>
        rw[hg]at hok;simp only[LK]at hp;rcases D8.1 hp with rfl | hp
        .exact⟨by rw[hg];rfl,0,by simp,rfl⟩
        .exact step hok.append.2 hp
     | Ls =>simp only[J9]at hok;exact step hok hp
     | _=>have:=hok false (by simp [J9]);cases this
    | bx t =>
     cases c with
     | ptr q off =>
      simp only[J9]at hok;cases hg:LW fet q with
      | none=>rw[hg]at hok;have:=hok false (by simp);cases this
      | some zs =>
       rw[hg]at hok;simp only[LK]at hp;rcases D8.1 hp with rfl | hp
       .exact⟨by rw[LJ hg];rfl,0,by simp,rfl⟩
       .exact step hok.cons.2.append.2 hp
     | _=>have:=hok false (by simp [J9]);cases this
    | _=>have:=hok false (by simp [J9]);cases this
def AmS {fet:Fet} {s:Sh} {x:A} {id:Nat} (hok:J7 (JZ fet s x).ok): ∀ p∈OE fet id s x,(J4 fet p.1).isSome/\ ∃ i,p.2=id+i/\(i<202\/(∃ ks,s= .agg ks)):=by
 intro p hp;cases s with
 | cell u k =>
  simp only[OE]at hp
  have hh:J7 (J9 fet [(u,k)] [x]).1:=by
   unfold JZ at hok;dsimp only at hok;generalize J9 fet [(u,k)] [x]=r at *
   obtain⟨ok,cs,upd,del⟩:=r;cases cs with
   | nil=>have:=hok false (by simp);cases this
   | cons c cs =>
    cases cs with
    | nil=>exact hok
    | cons _ _=>have:=hok false (by simp);cases this
  obtain⟨h1,i,h2,h3⟩:=YK _ _ _ hh p hp;exact⟨h1,i,h3,.inl (by simp at h2;omega)⟩
 | agg ks =>
  cases x with
  | agg cs =>simp only[OE]at hp;obtain⟨h1,i,h2,h3⟩:=YK _ _ _ (show J7 (J9 fet ks cs).1 from hok) p hp;exact⟨h1,1+i,by omega,.inr ⟨ks,rfl⟩⟩
  | _=>cases hp
 | box ks =>
  cases x with
  | ptr q off =>
   simp only[OE]at hp;unfold JZ at hok;dsimp only at hok;cases hg:LW fet q with
   | none=>rw[hg]at hok;have:=hok false (by simp);cases this
   | some cs =>
    rw[hg]at hok hp;dsimp only at hok hp;obtain⟨_,hokA⟩:=hok.cons;obtain⟨hf,hokB⟩:=hokA.cons;have hf:=DX hf;rcases D8.1 hp with rfl | hp
    .exact⟨by rw[LJ hg];rfl,0,rfl,.inl (by omega)⟩
    .obtain⟨h1,i,h2,h3⟩:=YK _ _ _ hokB p hp;exact⟨h1,1+i,by omega,.inl (by omega)⟩
  | _=>cases hp
 | clo f' ks =>
  cases x with
  | clo g q =>
   simp only[OE]at hp;unfold JZ at hok;dsimp only at hok;cases hg:LW fet q with
   | none=>rw[hg]at hok;have:=hok false (by simp);cases this
   | some cs =>
    rw[hg]at hok hp;dsimp only at hok hp;obtain⟨_,hokA⟩:=hok.cons;obtain⟨hf,hokB⟩:=hokA.cons;have hf:=DX hf;rcases D8.1 hp with rfl | hp
    .exact⟨by rw[LJ hg];rfl,0,rfl,.inl (by omega)⟩
    .obtain⟨h1,i,h2,h3⟩:=YK _ _ _ hokB p hp;exact⟨h1,1+i,by omega,.inl (by omega)⟩
  | _=>cases hp
 | map kt vt =>
  cases x with
  | own q =>
   obtain rfl:p=(q,id):=by simpa [OE]using hp
   unfold JZ at hok;dsimp only at hok;cases hg:J4 fet q with
   | none=>rw[hg]at hok;have:=hok false (by simp);cases this
   | some y=>exact⟨rfl,0,rfl,.inl (by omega)⟩
  | _=>cases hp
def eQ {fet:Fet} {stride:Nat}: ∀(ss:List Sh) (xs:List A) (id:Nat),J7 (JP fet ss xs).1-> ∀ p∈NS fet id stride ss xs,(J4 fet p.1).isSome:=by
 intro ss
 induction ss with
 | nil=>intro xs id _ p hp;cases xs<;>simp [NS]at hp
 | cons s ss ih =>
  intro xs id hok p hp;cases xs with
  | nil=>simp [NS]at hp
  | cons x xs =>
   simp only[JP]at hok;obtain⟨h1,h2⟩:=hok.append;rcases DR.1 hp with hp | hp
   .exact(AmS h1 p hp).1
   .exact ih xs _ h2 p hp
def Moves.AxX {ρ :Nat->Option Nat} {w w':World} (h:Moves (Ox O ρ) (fun o=>o≠255) w w'):Moves O (fun o=> ∃ i,ρ o=some i) w w':=by
 refine⟨h.os,h.tape,h.output,h.size,fun b hb=> ?_⟩;have un: ∀ k i,Ox O ρ b k=some i->i≠255-> ∃ q,O b k=some q/\ ∃ i,ρ q=some i:=by all_goals grind[Ox]
 rcases h.blk b hb with he | ⟨c,c',e,fr,h1,h2,h3,h4,k,q,h5,h6,h7⟩ | ⟨es,ck,es',ck',q,h1,h2,h3,h4⟩
 .exact .inl he
 .refine .inr (.inl ⟨c,c',e,fr,h1,h2,h3,fun k hk=>h4 k (fun i hi hne=> ?_),k,?_⟩)
  .obtain⟨q,hq,hρ⟩:=un k i hi hne;exact hk q hq hρ
  .simp_all[un,Ox]
 .simp_all[un,Ox]
end
section
variable {P:Program} {C:Ctx} {V0:Nat->Value} {O0 O:Own} {w0 w:World} {m:Nat->Value} {st:St} {a:Act} {o:Oper}
def Ayb (fet:Fet) (p:Nat×Sh) (x:Option A):Sh->Prop
 | .box ks=>(∃ cs,J4 fet p.1=some (.box cs))/\x=some (.ptr p.1 0)/\ks.length<=200/\p.2= .box ks
 | .clo k ks=>(∃ cs,J4 fet p.1=some (.box cs))/\x=some (.clo k p.1)/\ks.length<=200/\p.2= .box ks
 | .map kt vt=>(∃ l,J4 fet p.1=some (.mp l))/\x=some (.own p.1)/\p.2= .map kt vt
 | _=>False
def Avl {fet:Fet} {stride:Nat}: ∀(ss:List Sh) (xs:List A) (id i0:Nat),J7 (JP fet ss xs).1 ->
 (JP fet ss xs).2.2.2.2.length=(La ss i0).length/\ ∀(j:Nat) (p:Nat×Sh),(JP fet ss xs).2.2.2.2[j]? =some p-> ∃ i,(La ss i0)[j]? =some (i0+i)/\i<ss.length/\(p.1,id+stride*i)∈NS fet id stride ss xs/\ ∃ s,ss[i]? =some s/\Ayb fet p xs[i]? s:=by
 intro ss
 induction ss with
 | nil=>intro xs id i0 hok;cases xs with
  | nil=>exact⟨rfl,fun j p h=>by simp [JP]at h⟩
  | cons _ _=>have:=hok false (by simp [JP]);cases this
 | cons s ss ih =>
  intro xs id i0 hok;cases xs with
  | nil=>have:=hok false (by simp [JP]);cases this
  | cons x xs =>
   simp only[JP]at hok ⊢;obtain⟨h1,h2⟩:=hok.append;obtain⟨g1,g2⟩:=ih xs (id+stride) (i0+1) h2;have hrest: ∀(j:Nat) (p:Nat×Sh),(JP fet ss xs).2.2.2.2[j]? =some p-> ∃ i,(La ss (i0+1))[j]? =some (i0+i)/\i<(s::ss).length/\(p.1,id+stride*i)∈NS fet id stride (s::ss) (x::xs)/\ ∃ s',(s::ss)[i]? =some s'/\Ayb fet p (x::xs)[i]? s':=by intro j p hp;obtain⟨i,a1,a2,a3,s',a4,a5⟩:=g2 j p hp;refine⟨i+1,by rw[a1];congr 1;omega,by simpa using a2,DJ _ ?_,s',by simpa using a4,by simpa using a5⟩;rw[show id+stride*(i+1)=id+stride+stride*i from by rw[Jh];omega];exact a3
   cases s with
   | box ks =>
    cases x with
    | ptr q off =>
     have hA:J7 (JZ fet (.box ks) (.ptr q off)).ok:=h1;unfold JZ at h1;dsimp only at h1;cases hg:LW fet q with
     | none=>rw[hg]at h1;have:=h1 false (by simp);cases this
     | some cs =>
      rw[hg]at h1;dsimp only at h1;obtain⟨h3,h4⟩:=h1.cons;obtain⟨h4,_⟩:=h4.cons;have h3:=Dz h3;have h4:=DX h4;subst h3;have hb:(JZ fet (.box ks) (.ptr q 0)).boxes=[(q,.box ks)]:=by unfold JZ;dsimp only;rw[hg]
      rw[hb];refine⟨by simp [La,KF,g1],fun j p hp=> ?_⟩;cases j with
      | zero =>simp at hp;subst hp;exact⟨0,by simp [La,KF],by simp,DL _ (by simp [OE]),_,rfl,⟨cs,LJ hg⟩,rfl,h4,rfl⟩
      | succ j =>
       have hp':(JP fet ss xs).2.2.2.2[j]? =some p:=by simpa using hp
       obtain⟨i,a1,a2⟩:=hrest j p hp';exact⟨i,by simpa [La,KF]using a1,a2⟩
    | _=>have:=h1 false (by simp [JZ]);cases this
   | clo f' ks =>
    cases x with
    | clo g q =>
     have hA:J7 (JZ fet (.clo f' ks) (.clo g q)).ok:=h1;unfold JZ at h1;dsimp only at h1;cases hg:LW fet q with
     | none=>rw[hg]at h1;have:=h1 false (by simp);cases this
     | some cs =>
      rw[hg]at h1;dsimp only at h1;obtain⟨h3,h4⟩:=h1.cons;obtain⟨h4,_⟩:=h4.cons;have h3:=Dz h3;have h4:=DX h4;subst h3;have hb:(JZ fet (.clo f' ks) (.clo f' q)).boxes=[(q,.box ks)]:=by unfold JZ;dsimp only;rw[hg]
      rw[hb];refine⟨by simp [La,KF,g1],fun j p hp=> ?_⟩;cases j with
      | zero =>simp at hp;subst hp;exact⟨0,by simp [La,KF],by simp,DL _ (by simp [OE]),_,rfl,⟨cs,LJ hg⟩,rfl,h4,rfl⟩
      | succ j =>
       have hp':(JP fet ss xs).2.2.2.2[j]? =some p:=by simpa using hp
       obtain⟨i,a1,a2⟩:=hrest j p hp';exact⟨i,by simpa [La,KF]using a1,a2⟩
    | _=>have:=h1 false (by simp [JZ]);cases this
   | cell u k=>grind[JZ,split,La,KF]
   | agg ks =>
    have hb:(JZ fet (.agg ks) x).boxes=[]:=by unfold JZ;cases x<;>rfl
    rw[hb];exact⟨by simpa [La,KF]using g1,fun j p hp=>by simpa [La,KF]using hrest j p (by simpa using hp)⟩
   | map kt vt =>
    cases x with
    | own q =>
     unfold JZ at h1;dsimp only at h1;cases hg:J4 fet q with
     | none=>rw[hg]at h1;have:=h1 false (by simp);cases this
     | some y =>
      cases y with
      | box _=>rw[hg]at h1;have:=h1 false (by simp);cases this
      | arr _ _ _=>rw[hg]at h1;have:=h1 false (by simp);cases this
      | mp l =>
       have hb:(JZ fet (.map kt vt) (.own q)).boxes=[(q,.map kt vt)]:=by unfold JZ;dsimp only;rw[hg]
       rw[hb];refine⟨by simp [La,KF,g1],fun j p hp=> ?_⟩;cases j with
       | zero =>simp at hp;subst hp;exact⟨0,by simp [La,KF],by simp,DL _ (by simp [OE]),_,rfl,⟨l,hg⟩,rfl,rfl⟩
       | succ j =>
        have hp':(JP fet ss xs).2.2.2.2[j]? =some p:=by simpa using hp
        obtain⟨i,a1,a2⟩:=hrest j p hp';exact⟨i,by simpa [La,KF]using a1,a2⟩
    | _=>have:=h1 false (by simp [JZ]);cases this
def Wl (rb:Nat->Nat) (w:World) (vf:Nat->Value) (rs:List A):List (Nat×Sh)->Nat->List (Nat×Value)
 | [],_=>[]
 | (o,s)::r,j=>(Oh (rb o) s (rs.getD j .undef)).2.2.map (fun p=>(p.1,Oa w (vf j) (p.1 - rb o)))++Wl rb w vf rs r (j+1)
def Aha (rb:Nat->Nat) (w:World) (vf:Nat->Value) (rs:List A): ∀(bs:List (Nat×Sh)) (j:Nat),(Wl rb w vf rs bs j).map (·.1)=(KZ rb rs bs j).2.2.map (·.1):=by
 intro bs
 induction bs with
 | nil=>intro j;rfl
 | cons b bs ih=>simp_all[Wl,KZ,Sh]
def Aj2 (rb:Nat->Nat) (rs:List A): ∀(bs:List (Nat×Sh)) (j:Nat),(KZ rb rs bs j).2.1.map (·.1)=bs.map (·.1):=by
 intro bs
 induction bs with
 | nil=>intro j;rfl
 | cons b bs ih=>grind[KZ]
def AlC {rb:Nat} {Oc O':Own} {objs':List (Nat×Obj)} {m':Nat->Value} {v:Value} {cid q:Nat} {s:Sh} {r:A} (hp:MW Oc w O' w) (hn: ∀ b k,Oc b k=none->O' b k=none)
 (hs: ∀ ks,s= .box ks->ks.length<=200) (hmq:m' q=v) (hir:IR Oc w cid v (Ac4 r)) (hr: ∀ b k i,i<255->Oc b k=some (cid+i)->O' b k=some (if i=0 then q else rb+i))
 (hok:J7 (Oh rb s r).1) (hO: ∀ p∈(Oh rb s r).2.2,J4 objs' p.1=some p.2) (hm: ∀ p∈(Oh rb s r).2.2,m' p.1=Oa w v (p.1 - rb)) :
 Ll O' objs' m' w q (Oh rb s r).2.1/\ ∀ p∈(Oh rb s r).2.2,Ll O' objs' m' w p.1 p.2:=by
 cases s with
 | cell _ _=>have:=hok false (by simp [Oh]);cases this
 | agg _=>have:=hok false (by simp [Oh]);cases this
 | clo _ _=>have:=hok false (by simp [Oh]);cases this
 | map kt vt =>simp only[Oh]at hok ⊢;obtain⟨l,rfl,_,_⟩:=vP hok.cons.1;refine⟨?_,fun p hp=>by cases hp⟩;show Q5 O' w q (m' q) l;rw[hmq];exact Q5.carry (show Q5 Oc w cid v l from hir) hp (fun b k hb=>by have:=hr b k 0 (by omega) hb;exact this)
 | box ks =>
  have hf:=hs ks rfl;simp only[Oh]at hok hO hm ⊢;obtain⟨hok0,hok1⟩:=hok.cons;cases r with
  | agg cs =>
   have hl:cs.length=ks.length:=by simpa [A.isAgg,XD]using hok0
   obtain⟨bk,base,h1,h2⟩:=(show IR Oc w cid v (.box cs)from hir)
   have hcell: ∀ j,Oa w v (j+1)=(w.cell? (at' bk (base+j))).getD undef:=by intro j;rw[h1];rfl
   obtain⟨k1,k2,k3⟩:=TF (objs':=objs') (m':=m') (cid:=cid+1) (id:=rb+1) (f:=fun j=>(w.cell? (at' bk (base+j))).getD undef) hp hn ks cs 0 (fun j hj=>by
    obtain⟨_,_,u,h5,h6⟩:=h2 j (by omega);rw[DY,h5];exact h6) (fun b k i hi hb=>by
    have:=hr b k (1+i) (by omega) (by rw[<- EG];exact hb);rw[A0y,<- EG]at this;exact this) hok1 hO (fun p hp i hi=>by
    have:=hm p hp;rw[this,hi,show rb+1+i - rb=i+1 from by omega,hcell])
   refine⟨⟨bk,base,by rw[hmq];exact h1,fun j hj=> ?_⟩,fun p hp=>(k3 p hp).1⟩;have hj:j<(JS (rb+1) ks cs 0).2.1.length:=hj;rw[k1]at hj;obtain⟨a1,a2,u,a3,_⟩:=h2 j (by omega);have:=k2 j hj;rw[DY,a3]at this;exact⟨by have:=hr bk (base+j) 0 (by omega) a1;exact this,a2,u,a3,this⟩
  | _=>cases hok0
def Ahb {rb:Nat->Nat} {Oc O':Own} {objs':List (Nat×Obj)} {m':Nat->Value} {val:Nat->Value} {cid:Nat->Nat} {rs:List A} (hp:MW Oc w O' w) (hn: ∀ b k,Oc b k=none->O' b k=none): ∀(bs:List (Nat×Sh)) (j0:Nat),
 (∀(j:Nat) (p:Nat×Sh),bs[j]? =some p->(∀ ks,p.2= .box ks->ks.length<=200)/\m' p.1=val (j0+j)/\IR Oc w (cid (j0+j)) (val (j0+j)) (Ac4 (rs.getD (j0+j) .undef))/\ ∀ b k i,i<255->Oc b k=some (cid (j0+j)+i)->O' b k=some (if i=0 then p.1 else rb p.1+i)) ->
 J7 (KZ rb rs bs j0).1->(∀ p∈(KZ rb rs bs j0).2.2,J4 objs' p.1=some p.2)->(∀ p∈Wl rb w val rs bs j0,m' p.1=p.2) ->
 (∀ p∈(KZ rb rs bs j0).2.1,Ll O' objs' m' w p.1 p.2)/\ ∀ p∈(KZ rb rs bs j0).2.2,Ll O' objs' m' w p.1 p.2:=by
 intro bs
 induction bs with
 | nil=>grind[KZ]
 | cons b bs ih =>
  intro j0 h hok hO hm;obtain⟨q,s⟩:=b;simp only[KZ]at hok hO ⊢;simp only[Wl]at hm;obtain⟨hok1,hok2⟩:=hok.append;obtain⟨g1,g2⟩:=ih (j0+1) (fun j p hj=>by have:=h (j+1) p (by simpa using hj);rwa [show j0+(j+1)=j0+1+j from by omega]at this) hok2 (fun p hp=>hO p (DJ _ hp)) (fun p hp=>hm p (DJ _ hp));obtain⟨hf,hmq,hir,hr⟩:=h 0 (q,s) rfl;rw[Nat.add_zero]at hmq hir hr;obtain⟨k1,k2⟩:=AlC (objs':=objs') (m':=m') (rb:=rb q) (q:=q) hp hn hf hmq hir hr hok1 (fun p hp=>hO p (DL _ hp)) (fun p hp=>hm (p.1,Oa w (val j0) (p.1 - rb q)) (DL _ (DN.2 ⟨p,hp,rfl⟩)));refine⟨fun p hp=> ?_,fun p hp=> ?_⟩
  .rcases D8.1 hp with rfl | hp
   .exact k1
   .exact g1 p hp
  .rcases DR.1 hp with hp | hp
   .exact k2 p hp
   .exact g2 p hp
end
section
variable {P:Program} {C:Ctx} {V0:Nat->Value} {O0 O:Own} {w0 w:World} {m:Nat->Value} {st:St} {a:Act} {o:Oper}
def Afk (ss:List Sh) (xs:List A) (i:Nat):Option Nat:=match ss.getD i (.agg []),xs.getD i .undef with
 | .map _ _,.own o=>some o
 | .clo _ _,.clo _ o=>some o
 | .box _,.clo _ o=>some o
 | .clo _ _,.ptr o _=>some o
 | _,.ptr o _=>some o
 | _,_=>none
def AcB (rb:Nat->Nat) (d:Nat) (ss:List Sh) (xs:List A) (n:Nat):Option Nat :=
 if 256000<=n then some (b2 d+16*((n - 256000) / 256)+(n - 256000) % 256)
 else match Afk ss xs (n / 256)with
  | some q=>some (if n % 256=0 then q else rb q+n % 256)
  | none=>none
def Alk:Sh->Obj->Prop
 | .box _,.box _=>True
 | .map _ _,.mp _=>True
 | _,_=>False
def Abj {s:Sh} {e:Nat} {f:Bool} {l:Sl} (h:Alk s (.arr e f l)):False:=by cases s<;>exact h
def Auo {s:Sh} {y:Obj} {rb:Nat} {r:A} (h:Alk s y):y.shp=(Oh rb s r).2.1.shp:=by cases s<;>cases y<;>first | exact h.elim | rfl
def AlH {d:Nat} {fet:Fet} {sg:Sig} {xs:List A} (h:J7 (Q7 fet d sg xs).ok):sg.ok (jW fet sg.Ju xs).vs=true:=by unfold Q7 AkZ at h;exact h.append.1.append.1.append.1.append.2.cons.1
def Afo {c:Call} {f:Nat} {sg:Sig} {x0:Operand} {caps av:Array Value} (hS:Sim V0 O0 w0 O m st a w) (ho:o.op= .call c) (hcal:c.callee= .value x0) (hev:a.eval x0= .func (.func f) #[] caps) (hav:c.args.map a.eval++caps=av) (hsp:Spec P f sg) {d:Nat} {fet:Fet} (hf:PO st.Js fet) {xs:List A}
 (hl:xs.length=av.size) (hx: ∀ j,j<xs.length->JG O st.Js m w (av.getD j undef) (xs.getD j .undef))
 (hok:J7 (Q7 fet d sg xs).ok) (hfr: ∀ p∈(Q7 fet d sg xs).new,st.fresh p.1=true) (hnd:nodup ((Q7 fet d sg xs).new.map (·.1))=true):Good P V0 O0 w0 (apply st o (Q7 fet d sg xs)) o a w:=by
 intro next Q hn
 unfold Q7 at hok hfr hnd hn;generalize hH:jW fet sg.Ju xs=H at *
 obtain⟨hok1,vsA,upd,del,bxs⟩:=H;have hHs:JP fet sg.Ju xs=(hok1,vsA,upd,del,bxs):=by unfold jW at hH;injection hH with q1 q2 q3 q4 q5;rw[<- q1,<- q2,<- q3,<- q4,<- q5]
 dsimp only at hok hfr hnd hn;unfold AkZ at hok;obtain⟨hokA,hokB⟩:=hok.append;obtain⟨hokA,hokC⟩:=hokA.append;obtain⟨hokA,hokD⟩:=hokA.append;obtain⟨hokA,hokE⟩:=hokA.append;obtain⟨hN,hokB⟩:=hokB.cons;obtain⟨h100,hokB⟩:=hokB.cons;have h100:=DX h100;have hF:sg.F vsA=some (sg.val vsA):=by have:=hokE.cons.1;unfold Sig.F;rw[this];rfl
 have hokA':J7 (JP fet sg.Ju xs).1:=by rw[hHs];exact hokA
 generalize sg.val vsA=rs at hF hfr hnd hn hokB hokC hokD;simp only[AkZ]at hfr hnd hn hokB hokC hokD;have hcnt:=Dz hokB.cons.1;obtain⟨g1,g2,g3,g4,g5⟩:=eG (W:=upd=[]) hf hS.Js 256 sg.Ju xs 0 (fun j=>av.getD j undef) (fun e=>by have:=hokB.cons.2.cons.1;rw[e]at this;simpa using this) hx hokA';obtain⟨b1,b2'⟩:=Avl (fet:=fet) (stride:=256) sg.Ju xs 0 0 hokA';have halive:=eQ (fet:=fet) (stride:=256) sg.Ju xs 0 hokA';rw[hHs]at g1 g3 g4 g5 b1 b2';dsimp only at g1 g3 g4 g5 b1 b2';generalize hNs:NS fet 0 256 sg.Ju xs=N at *
 obtain⟨O1,hS1,hp1,hle1,hv1,hE1,hk1⟩:=hS.freezes _ g3;let ρ :=look N;have hρ : ∀ p∈N,ρ p.1=some p.2:=AmJ hN;have hupdO: ∀ p∈upd,Ll O1 (JL st.Js upd) m w p.1 p.2:=by intro p hp;obtain⟨x,hx1,hx2⟩:=O6 upd st.Js p.1 ⟨p,hp,rfl⟩;obtain⟨e,fz,l,k1,k2⟩:=g3 p hp;obtain⟨e',fz',l',k3,k4⟩:=g3 _ hx1;dsimp only at k3 k4;rw[k1]at k3;injection k3 with k3;injection k3 with q1 q2 q3;subst q1;subst q3;rw[k2,<- k4];exact hS1.Js p.1 x hx2
 have hIR:=g5 hp1 hv1 hupdO hk1 hρ;have hargs:av.size=vsA.length:=by rw[<- hl,g2,g1]
 have hexec:(execOp a.eval o).run P w= .ok (.enter f av) w:=by simp only[execOp,ho,resolve,hcal,hev,Deferred.ofValue,DU,Sem.run_pure,Result.andThen_ok,invoke];have:=hsp.1 av w;simpa [hav]using this
 unfold Oper.wp;rw[hexec,Oper.upon_enter];refine(hsp.2 (Ox O1 ρ) w av vsA rs ⟨fun g j p ht=>⟨YZ.2 (hS1.AfT.1 g j p ht).1,(hS1.AfT.1 g j p ht).2⟩,hS1.AfT.2⟩ hargs g1 (by rw[g1,<- g2];exact h100) (fun j hj=> ?_) hF).mono ?_
 .have:=hIR j (by rw[<- g1];exact hj);rw[DY]at this;exact this
 rintro e w' ⟨v,Of,rfl,hcame⟩;dsimp only;obtain⟨us,hus1,hus2,hus3⟩:=hcame.res;let T:Nat->Prop:=fun q=> ∃ i,ρ q=some i;let O2:Own:=fun b k=>if b<w.heap.size then(match O1 b k with | none=>none | some q=>if T q then(Of b k).bind (AcB (MO fet) d sg.Ju xs)else some q)else(Of b k).bind (AcB (MO fet) d sg.Ju xs);have hM:Moves O1 T w w':=hcame.moves.AxX;have hO2lt: ∀ {b k},b<w.heap.size->O2 b k=(match O1 b k with | none=>none | some q=>if T q then(Of b k).bind (AcB (MO fet) d sg.Ju xs)else some q):=fun hb=>Du hb;have hP2:Passes O1 O2 T w.heap.size:=by refine⟨fun b k hb h=>by rw[hO2lt hb,h],fun b k q hb h ht=> ?_⟩;rw[hO2lt hb,h];exact Dp ht
 have hless2: ∀ b k,b<w.heap.size->O2 b k≠none->O1 b k≠none:=by intro b k hb h h';rw[hO2lt hb,h']at h;exact h rfl
 have hnone: ∀ b k,Of b k=none->O2 b k=none:=by
  intro b k h;by_cases hb:b<w.heap.size
  .rw[hO2lt hb];cases hO:O1 b k with
   | none=>rfl
   | some q =>
    by_cases ht:T q
    .show(if T q then _ else _)=_;rw[Du ht,h];rfl
    .exfalso
     have hr:Ox O1 ρ b k=some 255:=by
      unfold Ox;rw[hO]
      have: ρ q=none:=by
       cases hh: ρ q with
       | none=>rfl
       | some i=>exact absurd ⟨i,hh⟩ ht
      simp [this]
     have:=hcame.oH b k hb hr;rw[h]at this;cases this
  .show(if _ then _ else _)=_;rw[Dp hb,h];rfl
 have hsome: ∀ b k n,Of b k=some n->n≠255->O2 b k=AcB (MO fet) d sg.Ju xs n:=by
  intro b k n h hne;by_cases hb:b<w.heap.size
  .rw[hO2lt hb];have h1:=hcame.less b k hb (by rw[h];simp);rw[Ne,YZ]at h1;cases hO:O1 b k with
   | none=>exact absurd hO h1
   | some q =>
    by_cases ht:T q
    .show(if T q then _ else _)=_;rw[Du ht,h];rfl
    .exfalso
     have hr:Ox O1 ρ b k=some 255:=by
      unfold Ox;rw[hO]
      have: ρ q=none:=by
       cases hh: ρ q with
       | none=>rfl
       | some i=>exact absurd ⟨i,hh⟩ ht
      simp [this]
     have:=hcame.oH b k hb hr;rw[h]at this;injection this with this;exact hne this
  .show(if _ then _ else _)=_;rw[Dp hb,h];rfl
 have hpf:MW Of w' O2 w':=fun b k u h hc=>⟨hnone b k h,hc⟩
 have hbcnt:bxs.length=(La sg.Ju 0).length:=b1;let bi:Nat->Nat:=fun j=>(La sg.Ju 0).getD j 0;let bval:Nat->Value:=fun j=>innerS w (sg.Ju.getD (bi j) (.agg [])) (av.getD (bi j) undef);let HV:=Yo w' (fun k=>innerS w' (sg.JB.getD k (.agg [])) (us.getD k undef)) (b2 d) 16 sg.JB rs 0++Wl (MO fet) w' bval (rs.drop sg.JB.length) bxs 0;have hHVf:HV.map (·.1)=((KW (b2 d) 16 sg.JB rs 0).2.2++(KZ (MO fet) (rs.drop sg.JB.length) bxs 0).2.2).map (·.1):=by simp only[HV,Fq,Aq2,Aha]
 have hHVn:nodup (HV.map (·.1))=true:=by rw[hHVf];exact hnd
 let m2:Nat->Value:=fun i=>(mV HV i).getD (m i);have hm2: ∀ p∈HV,m2 p.1=p.2:=by intro p hp;show(mV HV p.1).getD _=_;rw[AtY hHVn p hp];rfl
 let Nw:Nat->Prop:=fun i=> ∃ p∈(KW (b2 d) 16 sg.JB rs 0).2.2++(KZ (MO fet) (rs.drop sg.JB.length) bxs 0).2.2,p.1=i;have hNw: ∀ i,Nw i->Qa {st with Js:=JL st.Js upd} i:=by rintro i ⟨p,hp,rfl⟩;exact(NJ (hfr p hp)).frz g3
 have hm2not: ∀ i,¬ Nw i->m2 i=m i:=by
  intro i hi;show(mV HV i).getD _=_;rw[Ar8 (fun h=> ?_)]
  .rfl
  .rw[hHVf]at h;obtain⟨p,hp,hpe⟩:=DN.1 h;exact hi ⟨p,hp,hpe⟩
 have hrres: ∀ j,j<sg.JB.length-> ∀ b k i,i<255->Of b k=some (256000+256*(0+j)+i)->O2 b k=some (b2 d+16*(0+j)+i):=by
  intro j hj b k i hi h;rw[hsome b k _ h (by omega)];unfold AcB;rw[A0z,DY];have e1:(256000+256*j+i - 256000) / 256=j:=by omega
  have e2:(256000+256*j+i - 256000) % 256=i:=by omega
  rw[e1,e2]
 have hbx: ∀(j:Nat) (p:Nat×Sh),bxs[j]? =some p->(∃ y,J4 st.Js p.1=some y/\Alk p.2 y)/\(∀ ks,p.2= .box ks->ks.length<=200)/\m p.1=bval j/\IR Of w' (256*bi j) (bval j) (Ac4 (rs.getD (sg.JB.length+j) .undef)) /\
  ∀ b k i,i<255->Of b k=some (256*bi j+i)->O2 b k=some (if i=0 then p.1 else MO fet p.1+i):=by
  intro j p hp;obtain⟨i',a1,a2,a3,s',a7,a4⟩:=b2' j p hp;rw[DY]at a1;have hbi:bi j=i':=by show(La sg.Ju 0).getD j 0=_;rw[Dn,a1];rfl
  have c2:=hcame.boxes j i' a1;have hi'x:i'<xs.length:=by rw[g2];exact a2
  have hxv:=hx i' hi'x;have hF':FOk O st.Js m w fet:=fun q x h=>⟨hf q x h,hS.Js q x (hf q x h)⟩
  have hkey:(∃ y,J4 st.Js p.1=some y/\Alk p.2 y)/\(∀ ks,p.2= .box ks->ks.length<=200)/\m p.1=innerS w (sg.Ju.getD i' (.agg [])) (av.getD i' undef)/\Afk sg.Ju xs i'=some p.1:=by
   obtain⟨q,s⟩:=p;have hs':sg.Ju.getD i' (.agg [])=s':=by rw[Dn,a7];rfl
   cases s' with
   | cell _ _=>exact a4.elim
   | agg _=>exact a4.elim
   | box ks =>
    obtain⟨⟨cs0,a4⟩,a5,a6,a8⟩:=a4;dsimp only at a8;subst a8;have e5:xs.getD i' .undef= .ptr q 0:=by rw[Dn,a5];rfl
    rw[e5]at hxv;obtain⟨bk,base,k1,k2,_⟩:=hxv.ptr hF' a4;refine⟨⟨_,hf _ _ a4,trivial⟩,(fun ks' h=>by injection h with h;rw[<- h];exact a6),by rw[hs'];dsimp only at k1 ⊢;rw[k1,k2,Nat.add_zero];rfl,?_⟩;unfold Afk;rw[hs',e5]
   | clo f' ks =>
    obtain⟨⟨cs0,a4⟩,a5,a6,a8⟩:=a4;dsimp only at a8;subst a8;have e5:xs.getD i' .undef= .clo f' q:=by rw[Dn,a5];rfl
    rw[e5]at hxv;have hc:JI O st.Js m w (av.getD i' undef) (.clo f' q):=hxv;obtain⟨_,p',_,hc2,hc⟩:=hc;rw[hf _ _ a4]at hc;obtain⟨b',base',e1,e2⟩:=hc;have hc:gQ O w f' (av.getD i' undef) (m q):=by rw[e1,<- e2];exact hc2
    refine⟨⟨_,hf _ _ a4,trivial⟩,(fun ks' h=>by injection h with h;rw[<- h];exact a6),by rw[hs'];exact hc.inner.symm,?_⟩;unfold Afk;rw[hs',e5]
   | map kt vt =>
    obtain⟨⟨l,a4⟩,a5,a8⟩:=a4;dsimp only at a8;subst a8;have e5:xs.getD i' .undef= .own q:=by rw[Dn,a5];rfl
    rw[e5]at hxv;have hc:JI O st.Js m w (av.getD i' undef) (.own q):=hxv;have hc:=hc.2;rw[hf _ _ a4]at hc;refine⟨⟨_,hf _ _ a4,trivial⟩,(fun ks' h=>by cases h),by rw[hs'];exact hc.symm,?_⟩;unfold Afk;rw[hs',e5]
  obtain⟨hky,hk200,hkm,e7⟩:=hkey;refine⟨hky,hk200,?_,?_,fun b k i hi h=> ?_⟩
  .show _=innerS w (sg.Ju.getD (bi j) (.agg [])) (av.getD (bi j) undef);rw[hbi];exact hkm
  .show IR Of w' (256*bi j) (innerS w (sg.Ju.getD (bi j) (.agg [])) (av.getD (bi j) undef)) _;rw[hbi];exact c2
  .rw[hbi]at h;rw[hsome b k _ h (by omega)];unfold AcB;rw[A0y];have e1:(256*i'+i) / 256=i':=by omega
   have e2:(256*i'+i) % 256=i:=by omega
   rw[e1,e2,e7]
 let NEW:=(KW (b2 d) 16 sg.JB rs 0).2.2++(KZ (MO fet) (rs.drop sg.JB.length) bxs 0).2.2;let BX:=(KZ (MO fet) (rs.drop sg.JB.length) bxs 0).2.1;let objsF:=JL (KC (JL st.Js (upd++BX)) del) NEW;have hnewO: ∀ p∈NEW,J4 objsF p.1=some p.2:=fun p hp=>tZ hnd hp
 have hBXk: ∀ i z,(i,z)∈BX-> ∃(j:Nat) (p:Nat×Sh),bxs[j]? =some p/\p.1=i/\ ∃ r,z=(Oh (MO fet p.1) p.2 r).2.1:=by
  intro i z hz
  have: ∀(bs:List (Nat×Sh)) (j0:Nat),(i,z)∈(KZ (MO fet) (rs.drop sg.JB.length) bs j0).2.1-> ∃(j:Nat) (p:Nat×Sh),bs[j]? =some p/\p.1=i/\ ∃ r,z=(Oh (MO fet p.1) p.2 r).2.1:=by
   intro bs
   induction bs with
   | nil=>intro j0 h;simp [KZ]at h
   | cons b bs ih =>
    intro j0 h;obtain⟨q,ks⟩:=b;simp only[KZ]at h;rcases D8.1 h with h | h
    .injection h with h1 h2;exact⟨0,(q,ks),rfl,h1.symm,_,h2⟩
    .obtain⟨j,p,h1,h2⟩:=ih (j0+1) h;exact⟨j+1,p,by simpa using h1,h2⟩
  exact this bxs 0 hz
 have hupdk: ∀ i z,(i,z)∈upd->(∃ e l f,z= .arr e true l/\J4 st.Js i=some (.arr e f l))/\J4 (JL st.Js upd) i=some z:=by intro i z hz;obtain⟨e,fz,l,k1,k2⟩:=g3 _ hz;dsimp only at k1 k2;refine⟨⟨e,l,fz,k2,k1⟩,?_⟩;obtain⟨x,hx1,hx2⟩:=O6 upd st.Js i ⟨(i,z),hz,rfl⟩;obtain⟨e',fz',l',k3,k4⟩:=g3 _ hx1;dsimp only at k3 k4;rw[k1]at k3;injection k3 with k3;injection k3 with q1 q2 q3;subst q1;subst q3;rw[hx2,k4,k2]
 have hnoBX: ∀ i,(∃ e f l,J4 st.Js i=some (.arr e f l))-> ∀ y,(i,y)∉BX:=by rintro i ⟨e,f',l,h⟩ y hy;obtain⟨j,p,h1,h2,_⟩:=hBXk i y hy;obtain⟨⟨y',h3,h4⟩,_⟩:=hbx j p h1;rw[h2,h]at h3;injection h3 with h3;subst h3;exact Abj h4
 have hTiff: ∀ i,T i->i∈del\/ ∃ y,(i,y)∈BX:=by
  rintro i ⟨n,hn'⟩;have h1:(i,n)∈N:=AaS hn';have h2:=(g4 i).2 (DN.2 ⟨_,h1,rfl⟩);rcases DR.1 h2 with h2 | h2
  .exact .inl h2
  .right;rw[<- Aj2 (MO fet) (rs.drop sg.JB.length) bxs 0]at h2;obtain⟨q,hq1,hq2⟩:=DN.1 h2;exact⟨q.2,by rw[<- hq2];exact hq1⟩
 have hget: ∀ i z,J4 objsF i=some z->(i,z)∈NEW\/(¬ Nw i/\i∉del/\((i,z)∈BX\/((∀ y,(i,y)∉BX)/\J4 (JL st.Js upd) i=some z))):=by
  intro i z hz;rcases Yn hz with h | ⟨hno,hnd',h⟩
  .exact .inl h
  .have hni: ¬ Nw i:=by rintro ⟨p,hp,rfl⟩;exact hno p.2 hp
   refine .inr ⟨hni,hnd',?_⟩;rcases h with h | ⟨h1,h2⟩
   .rcases DR.1 h with h | h
    .obtain⟨⟨e,l,f',h3,h4⟩,h5⟩:=hupdk i z h;exact .inr ⟨hnoBX i ⟨e,f',l,h4⟩,h5⟩
    .exact .inl h
   .right;refine⟨fun y hy=>h1 y (DJ _ hy),?_⟩;rw[Nc _ _ _ (fun p hp e=>h1 p.2 (DL _ (by rw[<- e];exact hp)))];exact h2
 have hbxst: ∀ i z,(i,z)∈BX-> ∃ y,J4 st.Js i=some y/\J4 (JL st.Js upd) i=some y/\y.shp=z.shp:=by
  intro i z hz;obtain⟨j,p,h1,h2,r,h4⟩:=hBXk i z hz;obtain⟨⟨y,h3,h5⟩,_⟩:=hbx j p h1;rw[h2]at h3;refine⟨y,h3,?_,by rw[h4];exact Auo h5⟩;rw[Nc _ _ _ (fun p hp e=> ?_)]
  .exact h3
  .obtain⟨⟨e1,e2,e3,_,h6⟩,_⟩:=hupdk p.1 p.2 hp;rw[e,h3]at h6;injection h6 with h6;rw[h6]at h5;exact Abj h5
 have hE:TB (JL st.Js upd) m objsF m2 Nw:=by
  intro i z hz;rcases hget i z hz with h | ⟨h1,h2,h | ⟨h3,h4⟩⟩
  .exact .inl ⟨_,h,rfl⟩
  .obtain⟨y,h5,h6,h7⟩:=hbxst i z h;exact .inr ⟨y,h6,h7,hm2not i h1⟩
  .exact .inr ⟨z,h4,rfl,hm2not i h1⟩
 obtain⟨r1,r2,r3⟩:=Aff (objs':=objsF) (m':=m2) (cid:=256000) (cst:=256) (id:=b2 d) (stride:=16) (f:=fun k=>us.getD k undef) (g:=fun k=>innerS w' (sg.JB.getD k (.agg [])) (us.getD k undef)) (rs:=rs) hpf hnone sg.JB 0 (fun j _=>by rw[DY]) (fun j hj=>by have:=hus3 j (by rw[hus1];exact hj);rw[DY];exact this) hrres hokD (fun p hp=>hnewO p (DL _ hp)) (fun p hp=>hm2 p (DL _ hp))
 obtain⟨s1,s2⟩:=Ahb (rb:=MO fet) (objs':=objsF) (m':=m2) (val:=bval) (cid:=fun j=>256*bi j) (rs:=rs.drop sg.JB.length) hpf hnone bxs 0 (fun j p hp=>by
  obtain⟨⟨y0,h0,h0'⟩,h1,h2,h4,h5⟩:=hbx j p hp
  have hni: ¬ Nw p.1:=fun h=>by
   have:=(hNw p.1 h).Js;dsimp only at this;rw[Nc _ _ _ (fun p' hp' e=> ?_)]at this
   .rw[h0]at this;cases this
   .obtain⟨⟨e1,e2,e3,_,h6⟩,_⟩:=hupdk p'.1 p'.2 hp';rw[e,h0]at h6;injection h6 with h6;rw[h6]at h0';exact Abj h0'
  rw[DY];refine⟨h1,by rw[hm2not _ hni];exact h2,?_,h5⟩;rw[Dn,FK,<- Dn];exact h4) hokC (fun p hp=>hnewO p (DJ _ hp)) (fun p hp=>hm2 p (DJ _ hp))
 let vsR:=(KW (b2 d) 16 sg.JB rs 0).2.1
 have hval:JG O2 objsF m2 w' v (Aln vsR):=by
  have hlen:vsR.length=us.size:=by rw[r1,hus1]
  rw[hus2];by_cases h1:us.size=1
  .rw[Ih h1];obtain⟨x,hx'⟩: ∃ x,vsR=[x]:=Hg.1 (by rw[hlen];exact h1);rw[hx'];have:=(r2 0 (by rw[<- hus1];omega)).1;have e1:(KW (b2 d) 16 sg.JB rs 0).2.1.getD 0 .undef=x:=by show vsR.getD 0 .undef=x;rw[hx'];rfl
   rw[e1]at this;have e2:us.getD (0+0) undef=us[0]:=by simp [Dw,show 0<us.size from by omega]
   rw[<- e2];exact this
  .rw[dif_neg h1]
   have e1:Aln vsR= .tup vsR:=by
    cases hv':vsR with
    | nil=>rfl
    | cons x l =>
     cases l with
     | nil=>rw[hv']at hlen;simp at hlen;omega
     | cons _ _=>rfl
   rw[e1];refine⟨us,rfl,hlen.symm,fun j hj=> ?_⟩;have hj':j<sg.JB.length:=by rw[<- r1];exact hj
   have:=r2 j hj';rw[DY]at this;exact this.1.Azb this.2
 refine hn O2 m2 _ _ ?_;refine hS1.next (T:=T) (Nw:=Nw) (x:=Aln vsR) hM hP2 hless2 hE (fun n hn'=>(hNw n hn').both) (fun q hq=> ?_) (fun i z hz=> ?_) rfl (fun _=>hval)
 .obtain⟨n,hn'⟩:=hq;have h1:(q,n)∈N:=AaS hn';have h2:=halive _ h1;obtain⟨y,hy⟩:=ET.1 h2;have h3:=hf _ _ hy;by_cases hu: ∃ p∈upd,p.1=q
  .obtain⟨x,_,hx2⟩:=O6 upd st.Js q hu;exact ET.2 ⟨x,hx2⟩
  .dsimp only;rw[Nc _ _ _ (fun p hp e=>hu ⟨p,hp,e⟩)];exact ET.2 ⟨y,h3⟩
 .rcases hget i z hz with h | ⟨h1,h2,h | ⟨h3,h4⟩⟩
  .right;refine⟨?_,(hNw i ⟨_,h,rfl⟩).ne⟩;rcases DR.1 h with h | h
   .exact r3 _ h
   .exact s2 _ h
  .right;obtain⟨y,h5,h6,_⟩:=hbxst i z h;exact⟨s1 _ h,hS.ids i _ h5⟩
  .left;refine⟨fun ht=> ?_,h4,hm2not i h1⟩;rcases hTiff i ht with h | ⟨y,hy⟩
   .exact h2 h
   .exact h3 y hy
def AiA {c:Call} {f:Nat} {sg:Sig} {x0:Operand} (hS:Sim V0 O0 w0 O m st a w) (ho:o.op= .call c) (hcal:c.callee= .value x0) (hev:a.eval x0= .func (.func f) #[] #[]) (hsp:Spec P f sg) {d:Nat} {fet:Fet} (hf:PO st.Js fet) {xs:List A}
 (hl:xs.length=c.args.size) (hx: ∀ j,j<xs.length->JG O st.Js m w (a.eval (c.args.getD j (.tmp 0))) (xs.getD j .undef))
 (hok:J7 (Q7 fet d sg xs).ok) (hfr: ∀ p∈(Q7 fet d sg xs).new,st.fresh p.1=true) (hnd:nodup ((Q7 fet d sg xs).new.map (·.1))=true):Good P V0 O0 w0 (apply st o (Q7 fet d sg xs)) o a w:=by
 refine Afo (av:=c.args.map a.eval) hS ho hcal hev (by simp) hsp hf (by simpa using hl) (fun j hj=> ?_) hok hfr hnd;have hjs:j<c.args.size:=by rw[<- hl];exact hj
 have e:(c.args.map a.eval).getD j undef=a.eval (c.args.getD j (.tmp 0)):=by simp [Dw,hjs]
 rw[e];exact hx j hj
end
end Go.Proofs.YtdihmdelaolelaaGreatDoor.Vm
