import Derived.Test.YtpaimpmokhihmaaGreatDoorA8
import Derived.Calls
set_option linter.all false
namespace Go.Proofs.YtpaimpmokhihmaaGreatDoor.Vm
open Classical
def IC (O:Own) (w:World) (id:Nat) (v:Value):A->Prop
 | .usl z e l=>Kv O [] (fun _=>v) w id (.arr e z l)
 | .box cs=> ∃ b base,v= .pointer (some (at' b base))/\ ∀ j,j<cs.length->O b (base+j)=some id/\w.frozen? (at' b (base+j))=false/\ ∃ u,w.cell? (at' b (base+j))=some u/\Jt O w u (cs.getD j .undef)
 | .ump l=>LK O w id v l
 | a=>Jt O w v a
def IR (O:Own) (w:World) (id:Nat) (v:Value):A->Prop
 | .agg cs=> ∃ vs:Array Value,v= .agg vs/\vs.size=cs.length/\ ∀ j,j<cs.length->IC O w (id+1+j) (vs.getD j undef) (cs.getD j .undef)
 | .box cs=> ∃ b base,v= .pointer (some (at' b base))/\ ∀ j,j<cs.length->O b (base+j)=some id/\w.frozen? (at' b (base+j))=false/\ ∃ u,w.cell? (at' b (base+j))=some u/\IC O w (id+1+j) u (cs.getD j .undef)
 | .cbx k cs=> ∃ b base,UM O w k v (.pointer (some (at' b base)))/\ ∀ j,j<cs.length->O b (base+j)=some id/\w.frozen? (at' b (base+j))=false/\ ∃ u,w.cell? (at' b (base+j))=some u/\IC O w (id+1+j) u (cs.getD j .undef)
 | .ump l=>LK O w id v l
 | a=>IC O w id v a
section
variable {P:Program} {C:Ctx} {V0:Nat->Value} {O0 O:Own} {w0 w:World} {m:Nat->Value} {st:St} {a:Act} {o:Oper}
theorem Jt.ic {id:Nat} {v:Value} {x:A} (h:Jt O w v x):IC O w id v x:=by cases h<;>first | exact .bool _ | exact .int _ _ | exact .str _ | exact .nil _ | exact .KO | exact .fn _ | exact .WU | exact Jt.sl0 _ _ | (rename_i vs a1 a2 a3;exact Jt.sl vs a1 a2 a3) | (rename_i h hn;exact Jt.sln h hn)
def LZ (O:Own) (ρ :Nat->Option Nat):Own:=fun b k=>match O b k with
 | none=>none
 | some o=>match ρ o with
  | some i=>some i
  | none=>some 255
theorem RY {ρ :Nat->Option Nat} {b k:Nat}:LZ O ρ b k=none↔O b k=none:=by grind[LZ]
theorem OY {ρ :Nat->Option Nat} {b k o i:Nat} (h:O b k=some o) (hr: ρ o=some i):LZ O ρ b k=some i:=by unfold LZ;rw[h];simp [hr]
theorem Oo (ρ :Nat->Option Nat):Lr O w (LZ O ρ) w:=fun _ _ _ h hc=>⟨RY.2 h,hc⟩
theorem Kv.LZ {ρ :Nat->Option Nat} {q i e:Nat} {z:Bool} {l:Sl} {Jm objs':List (Nat×Obj)} {m m':Nat->Value} (h:Kv O Jm m w q (.arr e z l)) (hr: ρ q=some i) (hm:m' i=m q) :
 Kv (LZ O ρ) objs' m' w i (.arr e z l):=by
 refine⟨h.1,?_⟩;rcases h.2 with ⟨h1,h2,h3⟩ | ⟨h1,g,cap,cur,h2,h3,h4,h5,h6,h7,h8,h9⟩
 .exact .inl ⟨h1,h2,by rw[hm];exact h3⟩
 .refine .inr ⟨h1,g,cap,cur,by rw[hm];exact h2,h3,h4,h5,h6,fun r j hr' hj=> ?_,fun k hk hge=>OY (h8 k hk hge) hr,fun k hk=> ?_⟩
  .obtain⟨u,h10,h11⟩:=h7 r j hr' hj;exact⟨u,h10,h11.JE (Oo ρ)⟩
  .have:=h9 k hk;cases z with
   | true=>exact RY.2 this
   | false=>exact OY this hr
theorem Kv.keep {O':Own} {q e:Nat} {l:Sl} {Jm objs':List (Nat×Obj)} {m:Nat->Value} (h:Kv O Jm m w q (.arr e false l)) (hp:Lr O w O' w) (hk: ∀ b k,O b k=some q->O' b k=some q):Kv O' objs' m w q (.arr e false l):=by
 refine⟨h.1,?_⟩;rcases h.2 with h0 | ⟨h1,g,cap,cur,h2,h3,h4,h5,h6,h7,h8,h9⟩
 .exact .inl h0
 .refine .inr ⟨h1,g,cap,cur,h2,h3,h4,h5,h6,fun r j hr' hj=> ?_,fun k a b=>hk _ _ (h8 k a b),fun k a=>hk _ _ (h9 k a)⟩;obtain⟨u,h10,h11⟩:=h7 r j hr' hj;exact⟨u,h10,h11.JE hp⟩
theorem Qb {W:Prop} {fet:Fet} (hf:MP st.Jm fet) (hS: ∀ q y,Jr st.Jm q=some y->Kv O st.Jm m w q y): ∀(ks:List (Bool×CK)) (cs:List A) (id:Nat) (f:Nat->Value),(ks.any wC=true->W)->(∀ j,j<cs.length->J4 O st.Jm m w (f j) (cs.getD j .undef))->Jv (Ju fet ks cs).1 ->
 (Ju fet ks cs).2.1.length=ks.length/\cs.length=ks.length/\Frz st.Jm (Ju fet ks cs).2.2.1/\(Ju fet ks cs).2.2.2=(Kw id ks cs).map (·.1) /\
 ∀ {O':Own} {objs':List (Nat×Obj)} {ρ :Nat->Option Nat},Lr O w O' w->(∀ p∈(Ju fet ks cs).2.2.1,∀ e l,p.2= .arr e true l->Jt O' w (m p.1) (.sl l)) ->
  (∀ p∈(Ju fet ks cs).2.2.1,Kv O' objs' m w p.1 p.2)->(∀ b k q,O b k=some q->(NR st.Jm q\/W)->O' b k=some q)->(∀ p∈Kw id ks cs,ρ p.1=some p.2) ->
  ∀ j,j<ks.length->IC (LZ O' ρ) w (id+j) (f j) ((Ju fet ks cs).2.1.getD j .undef):=by
 intro ks
 induction ks with
 | nil =>
  intro cs id f _ _ hok;cases cs with
  | nil=>exact⟨rfl,rfl,(fun p hp=>by simp [Ju]at hp),rfl,fun _ _ _ _ _ j hj=>by simp at hj⟩
  | cons _ _=>have:=hok false (by simp [Ju]);cases this
 | cons k ks ih =>
  intro cs id f hW h hok;obtain⟨u,k⟩:=k;cases cs with
  | nil=>have:=hok false (by cases u<;>simp [Ju]);cases this
  | cons c cs =>
   have hrest:=fun hok2=>ih cs (id+1) (fun j=>f (j+1)) (fun h=>hW (by rw[List.any_cons,h,Gl])) (fun j hj=>by simpa using h (j+1) (by simpa using hj)) hok2;cases u with
   | false =>
    simp only[Ju]at hok ⊢;obtain⟨hok1,hok2⟩:=hok.append;obtain⟨h1,h2⟩:=Abl hf (h 0 (by simp)) hok1;obtain⟨h3,h4,h5,h6,h7⟩:=hrest hok2;have hnames:Kw id ((false,k)::ks) (c::cs)=Kw (id+1) ks cs:=by cases c<;>rfl
    refine⟨by simp [h3],by simp [h4],h1.append h5,by rw[hnames];exact h6,fun {O' objs' ρ} hp hv hO hbx hρ j hj=> ?_⟩;rw[hnames]at hρ;cases j with
    | zero =>have hvr:=(h2 hp (fun p hp=>hv p (Dz _ hp))).JE (Oo ρ);exact hvr.ic
    | succ j =>have:=h7 hp (fun p hp=>hv p (Dy _ hp)) (fun p hp=>hO p (Dy _ hp)) hbx hρ j (by simpa using hj);rw[show id+(j+1)=id+1+j from by omega];simpa using this
   | true =>
    cases k with
    | sl e sz =>
     cases c with
     | own q =>
      simp only[Ju]at hok ⊢;cases hg:Jr fet q with
      | none=>rw[hg]at hok;have:=hok false (by simp);cases this
      | some x =>
       cases x with
       | box _=>rw[hg]at hok;have:=hok false (by simp);cases this
       | mp _=>rw[hg]at hok;have:=hok false (by simp);cases this
       | arr e' fz l =>
        rw[hg]at hok;dsimp only at hok ⊢;obtain⟨hok1,hok2⟩:=hok.append;obtain⟨e1,e2⟩:=hok1.cons;have e1:=Dk e1;subst e1;obtain⟨h3,h4,h5,h6,h7⟩:=hrest hok2;have hq:=hf q _ hg;refine⟨by simp [h3],by simp [h4],fun p hp=> ?_,?_,fun {O' objs' ρ} hp hv hO hbx hρ j hj=> ?_⟩
        .rcases Dx.1 hp with rfl | hp
         .exact⟨e,fz,l,hq,rfl⟩
         .exact h5 p hp
        .simp only[Kw,Ec,h6]
        .cases j with
         | zero =>have hc:J4 O st.Jm m w (f 0) (.own q):=h 0 (by simp);have hc:=hc.2;rw[hq]at hc;simp only[Option.map_some,Obj.shp]at hc;have:=hO _ Dp;exact this.LZ (objs':=[]) (m':=fun _=>f 0) (hρ (q,id) Dp) hc
         | succ j =>have:=h7 hp (fun p hp=>hv p (Dq _ hp)) (fun p hp=>hO p (Dq _ hp)) hbx (fun p hp=>hρ p (Dq _ hp)) j (by simpa using hj);rw[show id+(j+1)=id+1+j from by omega];simpa using this
     | Ky =>
      simp only[Ju]at hok ⊢;obtain⟨h3,h4,h5,h6,h7⟩:=hrest hok;have hnames:Kw id ((true,.sl e sz)::ks) (.Ky::cs)=Kw (id+1) ks cs:=rfl;refine⟨by simp [h3],by simp [h4],h5,by rw[hnames];exact h6,fun {O' objs' ρ} hp hv hO hbx hρ j hj=> ?_⟩;rw[hnames]at hρ;cases j with
      | zero =>have hc:J4 O st.Jm m w (f 0) .Ky:=h 0 (by simp);have hc:f 0= .slice none 0 0:=hc;show Kv _ [] (fun _=>f 0) w _ (.arr e true ⟨sz,[]⟩);exact⟨by simp [Sl.es],.inl ⟨trivial,rfl,hc⟩⟩
      | succ j =>have:=h7 hp hv hO hbx hρ j (by simpa using hj);rw[show id+(j+1)=id+1+j from by omega];simpa using this
     | _=>have:=hok false (by simp [Ju]);cases this
    | sln e sz =>
     cases c with
     | own q =>
      simp only[Ju]at hok ⊢;cases hg:Jr fet q with
      | none=>rw[hg]at hok;have:=hok false (by simp);cases this
      | some x =>
       cases x with
       | box _=>rw[hg]at hok;have:=hok false (by simp);cases this
       | mp _=>rw[hg]at hok;have:=hok false (by simp);cases this
       | arr e' fz l =>
        rw[hg]at hok;dsimp only at hok ⊢;obtain⟨hok1,hok2⟩:=hok.append;obtain⟨e1,e2⟩:=hok1.cons;obtain⟨_,e3⟩:=e2.cons;have e3:fz=false:=by simpa using e3.cons.1
        subst e3;have e1:=Dk e1;subst e1;obtain⟨h3,h4,h5,h6,h7⟩:=hrest hok2;have hq:=hf q _ hg;refine⟨by simp [h3],by simp [h4],h5,?_,fun {O' objs' ρ} hp hv hO hbx hρ j hj=> ?_⟩
        .simp only[Kw,Ec,h6]
        .cases j with
         | zero =>have hc:J4 O st.Jm m w (f 0) (.own q):=h 0 (by simp);have hc:=hc.2;rw[hq]at hc;simp only[Option.map_some,Obj.shp]at hc;exact(Kv.keep (objs':=st.Jm) (hS q _ hq) hp fun b k hb=>hbx b k q hb (.inr (hW rfl))).LZ (objs':=[]) (m':=fun _=>f 0) (hρ (q,id) Dp) hc
         | succ j =>have:=h7 hp hv hO hbx (fun p hp=>hρ p (Dq _ hp)) j (by simpa using hj);rw[show id+(j+1)=id+1+j from by omega];simpa using this
     | Ky =>
      simp only[Ju]at hok ⊢;obtain⟨h3,h4,h5,h6,h7⟩:=hrest hok;have hnames:Kw id ((true,.sln e sz)::ks) (.Ky::cs)=Kw (id+1) ks cs:=rfl;refine⟨by simp [h3],by simp [h4],h5,by rw[hnames];exact h6,fun {O' objs' ρ} hp hv hO hbx hρ j hj=> ?_⟩;rw[hnames]at hρ;cases j with
      | zero =>have hc:J4 O st.Jm m w (f 0) .Ky:=h 0 (by simp);have hc:f 0= .slice none 0 0:=hc;show Kv _ [] (fun _=>f 0) w _ (.arr e false ⟨sz,[]⟩);exact⟨by simp [Sl.es],.inl ⟨trivial,rfl,hc⟩⟩
      | succ j =>have:=h7 hp hv hO hbx hρ j (by simpa using hj);rw[show id+(j+1)=id+1+j from by omega];simpa using this
     | _=>have:=hok false (by simp [Ju]);cases this
    | bx t =>
     cases c with
     | ptr q off =>
      simp only[Ju]at hok ⊢;cases hg:KQ fet q with
      | none=>rw[hg]at hok;have:=hok false (by simp);cases this
      | some zs =>
       rw[hg]at hok;dsimp only at hok ⊢;obtain⟨hok0,hok1⟩:=hok.cons;obtain⟨hok1,hok2⟩:=hok1.append;have hok0:=Dk hok0;subst hok0;obtain⟨h3,h4,h5,h6,h7⟩:=hrest hok2;have hq:=hf q _ (KJ hg);obtain⟨b,base,g1,g2⟩:=hS q _ hq;have hv0:f 0= .pointer (some (at' b base)):=by have hc:J4 O st.Jm m w (f 0) (.ptr q 0):=h 0 (by simp);have hc:=hc.2;rw[hq]at hc;simp only[Option.map_some,Obj.shp]at hc;obtain⟨b',base',g3,g4⟩:=hc;rw[g1]at g3;injection g3 with g3;injection g3 with g3;injection g3 with e1 e2;subst e1;subst e2;exact g4
       have hfc: ∀ j,j<zs.length->w.cell? (at' b (base+j))=some ((w.cell? (at' b (base+j))).getD undef)/\J4 O st.Jm m w ((w.cell? (at' b (base+j))).getD undef) (zs.getD j .undef):=by intro j hj;obtain⟨_,_,u,h3,h4⟩:=g2 j hj;rw[h3];exact⟨rfl,h4⟩
       obtain⟨p1,p2,p3,p4⟩:=PN hf (tck t) zs (fun j=>(w.cell? (at' b (base+j))).getD undef) (fun j hj=>(hfc j hj).2) hok1;refine⟨by simp [h3],by simp [h4],p3.append h5,?_,fun {O' objs' ρ} hp hv hO hbx hρ j hj=> ?_⟩
       .simp only[Kw,Ec,h6]
       .cases j with
        | zero =>
         refine⟨b,base,hv0,fun j hj=> ?_⟩;have hj:j<(JS fet (tck t) zs).2.1.length:=hj;rw[p1]at hj;have hj':j<zs.length:=by rw[p2];exact hj
         obtain⟨k1,k2,_⟩:=g2 j hj';exact⟨OY (hbx _ _ _ k1 (.inl (.of hq (fun _ _ _ h=>by cases h)))) (hρ (q,id) Dp),k2,_,(hfc j hj').1,(p4 hp (fun p hp=>hv p (Dz _ hp)) j hj).JE (Oo ρ)⟩
        | succ j =>have:=h7 hp (fun p hp=>hv p (Dy _ hp)) (fun p hp=>hO p (Dy _ hp)) hbx (fun p hp=>hρ p (Dq _ hp)) j (by simpa using hj);rw[show id+(j+1)=id+1+j from by omega];simpa using this
     | _=>have:=hok false (by simp [Ju]);cases this
    | mp kt vt =>
     cases c with
     | own q =>
      simp only[Ju]at hok ⊢;cases hg:Jr fet q with
      | none=>rw[hg]at hok;have:=hok false (by simp);cases this
      | some x =>
       cases x with
       | box _=>rw[hg]at hok;have:=hok false (by simp);cases this
       | arr _ _ _=>rw[hg]at hok;have:=hok false (by simp);cases this
       | mp l =>
        rw[hg]at hok;dsimp only at hok ⊢;obtain⟨hok1,hok2⟩:=hok.append;obtain⟨h3,h4,h5,h6,h7⟩:=hrest hok2;have hq:=hf q _ hg;refine⟨by simp [h3],by simp [h4],h5,?_,fun {O' objs' ρ} hp hv hO hbx hρ j hj=> ?_⟩
        .simp only[Kw,Ec,h6]
        .cases j with
         | zero =>
          have hc:J4 O st.Jm m w (f 0) (.own q):=h 0 (by simp);have hc:=hc.2;rw[hq]at hc;have hv0:f 0=m q:=hc;obtain⟨r,es,ck,g1,g2,g3,g4,g5⟩:=(show LK O w q (m q) l from hS q _ hq)
          refine⟨r,es,ck,by rw[hv0];exact g1,g2,OY (hbx _ _ _ g3 (.inl (.of hq (fun _ _ _ h=>by cases h)))) (hρ (q,id) Dp),g4,fun i p hip=> ?_⟩;obtain⟨e,k1,k2,k3⟩:=g5 i p hip;exact⟨e,k1,(k2.JE hp).JE (Oo ρ),(k3.JE hp).JE (Oo ρ)⟩
         | succ j =>have:=h7 hp hv hO hbx (fun p hp=>hρ p (Dq _ hp)) j (by simpa using hj);rw[show id+(j+1)=id+1+j from by omega];simpa using this
     | _=>have:=hok false (by simp [Ju]);cases this
    | _=>have:=hok false (by simp [Ju]);cases this
end
section
variable {P:Program} {C:Ctx} {V0:Nat->Value} {O0 O:Own} {w0 w:World} {m:Nat->Value} {st:St} {a:Act} {o:Oper}
theorem AaC {W:Prop} {fet:Fet} (hf:MP st.Jm fet) {s:Sh} {x:A} {v:Value} {id:Nat} (hW:wS s=true->W) (hx:Jw O st.Jm m w v x) (hS: ∀ q y,Jr st.Jm q=some y->Kv O st.Jm m w q y) (hok:Jv (JD fet s x).ok) :
 Frz st.Jm (JD fet s x).upd/\(∀ q∈(JD fet s x).del++(JD fet s x).boxes.map (·.1),q∈(MH fet id s x).map (·.1))/\(∀ q∈(MH fet id s x).map (·.1),q∈(JD fet s x).del++(JD fet s x).boxes.map (·.1)) /\
 (JP s=true↔(JD fet s x).boxes≠ []) /\
 ∀ {O':Own} {objs':List (Nat×Obj)} {ρ :Nat->Option Nat},Lr O w O' w->(∀ p∈(JD fet s x).upd,∀ e l,p.2= .arr e true l->Jt O' w (m p.1) (.sl l)) ->
  (∀ p∈(JD fet s x).upd,Kv O' objs' m w p.1 p.2)->(∀ b k q,O b k=some q->(NR st.Jm q\/W)->O' b k=some q)->(∀ p∈MH fet id s x,ρ p.1=some p.2) ->
  IR (LZ O' ρ) w id v (JD fet s x).a:=by
 cases s with
 | cell u k =>
  unfold JD at *
  dsimp only at hok ⊢
  have hall: ∀ hc:J4 O st.Jm m w v x,_:=fun hc=>Qb hf hS [(u,k)] [x] id (fun _=>v) (fun h=>hW (by rw[List.any_cons,List.any_nil,Bool.or_false]at h;exact h)) (fun j hj=>by
   have:j=0:=by simpa using hj
   subst this;exact hc)
  have hnc: ∀(h:Jv (Ju fet [(u,k)] [x]).1),J4 O st.Jm m w v x:=by
   intro h;cases x with
   | undef=>cases u<;>cases k<;>(have:=h false (by simp [Ju,pur]);cases this)
   | agg _=>cases u<;>cases k<;>(have:=h false (by simp [Ju,pur]);cases this)
   | tup _=>cases u<;>cases k<;>(have:=h false (by simp [Ju,pur]);cases this)
   | cnd _ _=>cases u<;>cases k<;>(have:=h false (by simp [Ju,pur]);cases this)
   | _=>exact hx
  generalize hh:Ju fet [(u,k)] [x]=r at *
  obtain⟨ok,cs,upd,del⟩:=r;cases cs with
  | nil=>have:=hok false (by simp);cases this
  | cons c cs =>
   cases cs with
   | cons _ _=>have:=hok false (by simp);cases this
   | nil =>
    dsimp only at hok ⊢;obtain⟨h1,h2,h3,h4,h5⟩:=hall (hnc hok) hok;have h4:del=(Kw id [(u,k)] [x]).map (·.1):=h4;refine⟨h3,fun q hq=> ?_,fun q hq=> ?_,⟨(fun h=>by cases h),fun h=>absurd rfl h⟩,fun {O' objs' ρ} hp hv hO hbx hρ => ?_⟩
    .simp only[ED,EL]at hq;rw[h4]at hq;exact hq
    .simp only[ED,EL];rw[h4];exact hq
    .have:=h5 hp hv hO hbx hρ 0 (by simp);have e: [c].getD 0 .undef=c:=rfl;dsimp only at this;rw[e]at this;cases c<;>first | exact this | (obtain⟨b,base,e1,e2⟩:=this;exact⟨b,base,e1,fun j hj=>let ⟨k1,k2,u,k3,k4⟩:=e2 j hj;⟨k1,k2,u,k3,k4.ic⟩⟩) | cases this
 | agg ks =>
  cases x with
  | agg cs =>
   unfold JD at *
   dsimp only at hok ⊢;obtain⟨vs,g1,g2,g3⟩:=hx;obtain⟨h1,h2,h3,h4,h5⟩:=Qb hf hS ks cs (id+1) (fun j=>vs.getD j undef) hW g3 hok;refine⟨h3,fun q hq=> ?_,fun q hq=> ?_,⟨(fun h=>by cases h),fun h=>absurd rfl h⟩,fun {O' objs' ρ} hp hv hO hbx hρ => ?_⟩
   .simp only[ED,EL]at hq;rw[h4]at hq;exact hq
   .simp only[ED,EL];rw[h4];exact hq
   .exact⟨vs,g1,by rw[g2,h1,h2],fun j hj=>h5 hp hv hO hbx hρ j (by rw[<- h1];exact hj)⟩
  | _=>have:=hok false (by simp [JD]);cases this
 | box ks =>
  cases x with
  | ptr q off =>
   unfold JD at *
   dsimp only at hok ⊢;cases hg:KQ fet q with
   | none=>rw[hg]at hok;have:=hok false (by simp);cases this
   | some cs =>
    rw[hg]at hok;dsimp only at hok ⊢;obtain⟨ho0,hokA⟩:=hok.cons;obtain⟨_,hokB⟩:=hokA.cons;have ho0:=Dk ho0;subst ho0;have hq:=hf q _ (KJ hg);obtain⟨b,base,g1,g2⟩:=hS q _ hq;have hv0:v= .pointer (some (at' b base)):=by have hc:J4 O st.Jm m w v (.ptr q 0):=hx;have hc:=hc.2;all_goals grind[Obj.shp]
    let f:Nat->Value:=fun j=>(w.cell? (at' b (base+j))).getD undef
    have hfc: ∀ j,j<cs.length->w.cell? (at' b (base+j))=some (f j)/\J4 O st.Jm m w (f j) (cs.getD j .undef):=by
     intro j hj;obtain⟨_,_,u,h3,h4⟩:=g2 j hj;have:f j=u:=by show(w.cell? _).getD _=_;rw[h3];rfl
     rw[this];exact⟨h3,h4⟩
    obtain⟨h1,h2,h3,h4,h5⟩:=Qb hf hS ks cs (id+1) f hW (fun j hj=>(hfc j hj).2) hokB;have hnames:MH fet id (.box ks) (.ptr q 0)=(q,id)::Kw (id+1) ks cs:=by simp only[MH,hg]
    rw[hnames];refine⟨h3,fun r hr=> ?_,fun r hr=> ?_,⟨fun _=>by simp,fun _=>rfl⟩,fun {O' objs' ρ} hp hv hO hbx hρ => ?_⟩
    .simp only[Ec,ED,DJ,Ej]at hr;rcases hr with hr | hr
     .rw[h4]at hr;exact Dq _ hr
     .rw[hr];exact Dp
    .simp only[Ec,ED,DJ,Ej];rcases Dx.1 hr with hr | hr
     .exact .inr hr
     .left;rw[h4];exact hr
    .refine⟨b,base,hv0,fun j hj=> ?_⟩;rw[h1]at hj;obtain⟨k1,k2,u,k3,_⟩:=g2 j (by rw[h2];exact hj);refine⟨OY (hbx _ _ _ k1 (.inl (.of hq (fun _ _ _ h=>by cases h)))) (hρ (q,id) Dp),k2,f j,(hfc j (by rw[h2];exact hj)).1,h5 hp hv hO hbx (fun p hp'=>hρ p (Dq _ hp')) j hj⟩
  | _=>have:=hok false (by simp [JD]);cases this
 | clo f' ks =>
  cases x with
  | clo g q =>
   unfold JD at *
   dsimp only at hok ⊢;cases hg:KQ fet q with
   | none=>rw[hg]at hok;have:=hok false (by simp);cases this
   | some cs =>
    rw[hg]at hok;dsimp only at hok ⊢;obtain⟨ho0,hokA⟩:=hok.cons;obtain⟨_,hokB⟩:=hokA.cons;have ho0:=Dk ho0;subst ho0;have hq:=hf q _ (KJ hg);obtain⟨b,base,g1,g2⟩:=hS q _ hq;have hv0:UM O w f' v (.pointer (some (at' b base))):=by have hc:J4 O st.Jm m w v (.clo f' q):=hx;obtain⟨_,p,_,hc2,hc⟩:=hc;rw[hq]at hc;obtain⟨b',base',e1,e2⟩:=hc;rw[g1]at e1;rw[e1,<- e2];exact hc2
    let f:Nat->Value:=fun j=>(w.cell? (at' b (base+j))).getD undef
    have hfc: ∀ j,j<cs.length->w.cell? (at' b (base+j))=some (f j)/\J4 O st.Jm m w (f j) (cs.getD j .undef):=by
     intro j hj;obtain⟨_,_,u,h3,h4⟩:=g2 j hj;have:f j=u:=by show(w.cell? _).getD _=_;rw[h3];rfl
     rw[this];exact⟨h3,h4⟩
    obtain⟨h1,h2,h3,h4,h5⟩:=Qb hf hS ks cs (id+1) f hW (fun j hj=>(hfc j hj).2) hokB;have hnames:MH fet id (.clo f' ks) (.clo f' q)=(q,id)::Kw (id+1) ks cs:=by simp only[MH,hg]
    rw[hnames];refine⟨h3,fun r hr=> ?_,fun r hr=> ?_,⟨fun _=>by simp,fun _=>rfl⟩,fun {O' objs' ρ} hp hv hO hbx hρ => ?_⟩
    .simp only[Ec,ED,DJ,Ej]at hr;rcases hr with hr | hr
     .rw[h4]at hr;exact Dq _ hr
     .rw[hr];exact Dp
    .simp only[Ec,ED,DJ,Ej];rcases Dx.1 hr with hr | hr
     .exact .inr hr
     .left;rw[h4];exact hr
    .refine⟨b,base,(hv0.JE hp).JE (Oo ρ),fun j hj=> ?_⟩;rw[h1]at hj;obtain⟨k1,k2,u,k3,_⟩:=g2 j (by rw[h2];exact hj);refine⟨OY (hbx _ _ _ k1 (.inl (.of hq (fun _ _ _ h=>by cases h)))) (hρ (q,id) Dp),k2,f j,(hfc j (by rw[h2];exact hj)).1,h5 hp hv hO hbx (fun p hp'=>hρ p (Dq _ hp')) j hj⟩
  | _=>have:=hok false (by simp [JD]);cases this
 | map kt vt =>
  cases x with
  | own q =>
   unfold JD at *
   dsimp only at hok ⊢;cases hg:Jr fet q with
   | none=>rw[hg]at hok;have:=hok false (by simp);cases this
   | some y =>
    cases y with
    | box _=>rw[hg]at hok;have:=hok false (by simp);cases this
    | arr _ _ _=>rw[hg]at hok;have:=hok false (by simp);cases this
    | mp l =>
     rw[hg]at hok;dsimp only at hok ⊢;have hq:=hf q _ hg;have hv0:v=m q:=by have hc:J4 O st.Jm m w v (.own q):=hx;have hc:=hc.2;rw[hq]at hc;exact hc
     refine⟨(fun p hp=>by cases hp),fun r hr=> ?_,fun r hr=> ?_,⟨fun _=>by simp,fun _=>rfl⟩,fun {O' objs' ρ} hp hv hO hbx hρ => ?_⟩
     .simpa [MH]using hr
     .simpa [MH]using hr
     .obtain⟨r,es,ck,g1,g2,g3,g4,g5⟩:=(show LK O w q (m q) l from hS q _ hq)
      refine⟨r,es,ck,by rw[hv0];exact g1,g2,OY (hbx _ _ _ g3 (.inl (.of hq (fun _ _ _ h=>by cases h)))) (hρ (q,id) Dp),g4,fun i p hip=> ?_⟩;obtain⟨e,k1,k2,k3⟩:=g5 i p hip;exact⟨e,k1,(k2.JE hp).JE (Oo ρ),(k3.JE hp).JE (Oo ρ)⟩
  | _=>have:=hok false (by simp [JD]);cases this
theorem Ul {W:Prop} {fet:Fet} (hf:MP st.Jm fet) (hS: ∀ q y,Jr st.Jm q=some y->Kv O st.Jm m w q y) (stride:Nat): ∀(ss:List Sh) (xs:List A) (id:Nat) (f:Nat->Value),(ss.any wS=true->W)->(∀ j,j<xs.length->Jw O st.Jm m w (f j) (xs.getD j .undef))->Jv (J7 fet ss xs).1 ->
 (J7 fet ss xs).2.1.length=ss.length/\xs.length=ss.length/\Frz st.Jm (J7 fet ss xs).2.2.1 /\
 (∀ q,q∈(J7 fet ss xs).2.2.2.1++(J7 fet ss xs).2.2.2.2.map (·.1)↔q∈(LH fet id stride ss xs).map (·.1)) /\
 ∀ {O':Own} {objs':List (Nat×Obj)} {ρ :Nat->Option Nat},Lr O w O' w->(∀ p∈(J7 fet ss xs).2.2.1,∀ e l,p.2= .arr e true l->Jt O' w (m p.1) (.sl l)) ->
  (∀ p∈(J7 fet ss xs).2.2.1,Kv O' objs' m w p.1 p.2)->(∀ b k q,O b k=some q->(NR st.Jm q\/W)->O' b k=some q)->(∀ p∈LH fet id stride ss xs,ρ p.1=some p.2) ->
  ∀ j,j<ss.length->IR (LZ O' ρ) w (id+stride*j) (f j) ((J7 fet ss xs).2.1.getD j .undef):=by
 intro ss
 induction ss with
 | nil =>
  intro xs id f _ _ hok;cases xs with
  | nil=>exact⟨rfl,rfl,(fun p hp=>by simp [J7]at hp),(fun q=>by simp [J7,LH]),fun _ _ _ _ _ j hj=>by simp at hj⟩
  | cons _ _=>have:=hok false (by simp [J7]);cases this
 | cons s ss ih =>
  intro xs id f hW h hok;cases xs with
  | nil=>have:=hok false (by simp [J7]);cases this
  | cons x xs =>
   simp only[J7]at hok ⊢;obtain⟨hok1,hok2⟩:=hok.append;obtain⟨h1,h2,h3,_,h4⟩:=AaC (id:=id) hf (fun e=>hW (by rw[List.any_cons,e,Bool.true_or])) (h 0 (by simp)) hS hok1;obtain⟨g1,g2,g3,g4,g5⟩:=ih xs (id+stride) (fun j=>f (j+1)) (fun e=>hW (by rw[List.any_cons,e,Gl])) (fun j hj=>by simpa using h (j+1) (by simpa using hj)) hok2;refine⟨by simp [g1],by simp [g2],h1.append g3,fun q=> ?_,fun {O' objs' ρ} hp hv hO hbx hρ j hj=> ?_⟩
   .grind[LH,a1,a2,a3]
   .cases j with
    | zero=>simpa using h4 hp (fun p hp=>hv p (Dz _ hp)) (fun p hp=>hO p (Dz _ hp)) hbx (fun p hp=>hρ p (Dz _ hp))
    | succ j =>have:=g5 hp (fun p hp=>hv p (Dy _ hp)) (fun p hp=>hO p (Dy _ hp)) hbx (fun p hp=>hρ p (Dy _ hp)) j (by simpa using hj);rw[show id+stride*(j+1)=id+stride+stride*j from by rw[Gv];omega];simpa using this
end
def Ahg:Value->Value
 | .func g fi caps=>caps.getD 0 (.func g fi caps)
 | v=>v
def deref (w:World):Value->Value
 | .pointer (some a)=>(w.cell? a).getD undef
 | _=>undef
def innerS (w:World):Sh->Value->Value
 | .clo _ _,v=>deref w (Ahg v)
 | _,v=>v
def UM.inner {O:Own} {w:World} {k:Nat} {v p:Value} {ks:List (Bool×CK)} (h:UM O w k v p):innerS w (.clo k ks) v=p:=by obtain⟨b,j,h1,_,h3⟩:=h;rw[h1];cases k<;>(show(w.cell? _).getD _=_;rw[h3];rfl)
def LQ (w:World) (v:Value):Nat->Value
 | 0=>v
 | x+1=>match v with
  | .agg vs=>vs.getD x undef
  | .pointer (some a)=>(w.cell? (at' a.block (a.off+x))).getD undef
  | _=>undef
section
variable {Oc O':Own} {w:World} {objs':List (Nat×Obj)} {m':Nat->Value}
theorem Kv.carry {Jm:List (Nat×Obj)} {m:Nat->Value} {c i e:Nat} {z:Bool} {l:Sl} (h:Kv Oc Jm m w c (.arr e z l)) (hp:Lr Oc w O' w) (hr: ∀ b k,Oc b k=some c->O' b k=some i) (hn: ∀ b k,Oc b k=none->O' b k=none) (hm:m' i=m c) :
 Kv O' objs' m' w i (.arr e z l):=by
 refine⟨h.1,?_⟩;rcases h.2 with ⟨h1,h2,h3⟩ | ⟨h1,g,cap,cur,h2,h3,h4,h5,h6,h7,h8,h9⟩
 .grind[Obj,Kv,Lr]
 .refine .inr ⟨h1,g,cap,cur,by rw[hm];exact h2,h3,h4,h5,h6,fun r j hr' hj=> ?_,fun k hk hge=>hr _ _ (h8 k hk hge),fun k hk=> ?_⟩
  .obtain⟨u,h10,h11⟩:=h7 r j hr' hj;exact⟨u,h10,h11.JE hp⟩
  .grind[Obj,Kv,Lr]
theorem LK.carry {c i:Nat} {v:Value} {l:Mp} (h:LK Oc w c v l) (hp:Lr Oc w O' w) (hr: ∀ b k,Oc b k=some c->O' b k=some i):LK O' w i v l:=by obtain⟨r,es,ck,h1,h2,h3,h4,h5⟩:=h;refine⟨r,es,ck,h1,h2,hr _ _ h3,h4,fun j p hj=> ?_⟩;obtain⟨e,k1,k2,k3⟩:=h5 j p hj;exact⟨e,k1,k2.JE hp,k3.JE hp⟩
theorem VE {kt vt:Ty} {a:A} (h:a.WR kt vt=true): ∃ l,a= .ump l/\l.kt=kt/\l.vt=vt:=by
 cases a with
 | ump l =>have h':(decide (l.kt=kt)&&decide (l.vt=vt))=true:=h;all_goals grind[Ty]
 | _=>cases h
theorem Jt.toC {v:Value} {a:A} (h:Jt O' w v a):J4 O' objs' m' w v a:=by cases a<;>first | exact h | (cases h;done)
theorem Ach {id:Nat} {k:CK} {v:Value} {c:A} (h:IC Oc w id v c) (hp:Lr Oc w O' w) (hok:Jv (force k c).1):J4 O' objs' m' w v (force k c).2:=by
 cases c with
 | box cs =>
  cases k with
  | oth=>obtain⟨b,base,h1,_⟩:=h;rw[h1];rfl
  | mp _ _=>have:=hok.cons.1;cases this
  | bx _=>have:=hok.cons.1;cases this
  | _=>have:=hok.cons.1;simp [A.isB,A.isI,A.isS,A.lC,A.YI,A.VD,A.isFn]at this
 | usl z e l =>
  cases k with
  | oth =>
   rcases h.2 with ⟨_,_,h3⟩ | ⟨_,g,cap,cur,h2,_⟩
   .show v.oneCell'=true;have h3:v=_:=h3;rw[h3];rfl
   .show v.oneCell'=true;have h2:v=_:=h2;rw[h2];rfl
  | mp _ _=>have:=hok.cons.1;cases this
  | bx _=>have:=hok.cons.1;cases this
  | _=>have:=hok.cons.1;simp [A.isB,A.isI,A.isS,A.lC,A.YI,A.VD,A.isFn]at this
 | ump l =>
  cases k with
  | oth=>obtain⟨r,_,_,h1,_⟩:=h;rw[h1];rfl
  | mp _ _=>have:=hok.cons.1;cases this
  | bx _=>have:=hok.cons.1;cases this
  | _=>have:=hok.cons.1;simp [A.isB,A.isI,A.isS,A.lC,A.YI,A.VD,A.isFn]at this
 | _=>exact dA (Jt.JE hp h) hok
theorem OC {cid id:Nat} {f:Nat->Value} (hp:Lr Oc w O' w) (hn: ∀ b k,Oc b k=none->O' b k=none): ∀(ks:List (Bool×CK)) (cs:List A) (j0:Nat),(∀ j,j<ks.length->IC Oc w (cid+(j0+j)) (f (j0+j)) (cs.getD (j0+j) .undef)) ->
 (∀ b k x,x<j0+ks.length->Oc b k=some (cid+x)->O' b k=some (id+x))->Jv (J6 id ks cs j0).1->(∀ p∈(J6 id ks cs j0).2.2,Jr objs' p.1=some p.2)->(∀ p∈(J6 id ks cs j0).2.2,∀ x,p.1=id+x->m' p.1=f x) ->
 (J6 id ks cs j0).2.1.length=ks.length/\(∀ j,j<ks.length->J4 O' objs' m' w (f (j0+j)) ((J6 id ks cs j0).2.1.getD j .undef))/\ ∀ p∈(J6 id ks cs j0).2.2,Kv O' objs' m' w p.1 p.2/\ ∃ x,p.1=id+x/\j0<=x/\x<j0+ks.length:=by
 intro ks
 induction ks with
 | nil=>intro cs j0 _ _ _ _ _;exact⟨rfl,fun j hj=>by simp at hj,fun p hp=>by simp [J6]at hp⟩
 | cons k ks ih =>
  intro cs j0 h hr hok hO hm;obtain⟨u,k⟩:=k;have h0:=h 0 (by simp);rw[Nat.add_zero]at h0;have hrest:=fun hok2 hO2 hm2=>ih cs (j0+1) (fun j hj=>by have:=h (j+1) (by simpa using hj);rwa [show j0+(j+1)=j0+1+j from by omega]at this) (fun b k x hx=>hr b k x (by simp only[List.length_cons];omega)) hok2 hO2 hm2;cases u with
  | false =>
   simp only[J6]at hok hO hm ⊢;obtain⟨hok1,hok2⟩:=hok.append;obtain⟨g1,g2,g3⟩:=hrest hok2 hO hm;refine⟨by simp [g1],fun j hj=> ?_,fun p hp=> ?_⟩
   .cases j with
    | zero=>exact Ach h0 hp hok1
    | succ j =>have:=g2 j (by simpa using hj);rw[show j0+(j+1)=j0+1+j from by omega];simpa using this
   .obtain⟨a1,x,a2,a3,a4⟩:=g3 p hp;exact⟨a1,x,a2,by omega,by simp only[List.length_cons];omega⟩
  | true =>
   cases k with
   | sl e sz =>
    simp only[J6]at hok hO hm ⊢;obtain⟨hok1,hok2⟩:=hok.cons;obtain⟨g1,g2,g3⟩:=hrest hok2 (fun p hp=>hO p (Dq _ hp)) (fun p hp=>hm p (Dq _ hp));have hO0:=hO _ Dp;have hm0:=hm _ Dp j0 rfl;dsimp only at hO0 hm0
    have hc:cs.getD j0 .undef= .usl true e (cs.getD j0 .undef).toL:=by
     generalize cs.getD j0 .undef=c at *
     cases c<;>simp only[A.pM]at hok1<;>first | (cases hok1;done) | skip
     simp only[Dn,F8]at hok1;rw[Dk hok1.2.1,<- hok1.1];rfl
    rw[hc]at h0;have hor:Kv O' objs' m' w (id+j0) (.arr e true (cs.getD j0 .undef).toL):=Kv.carry (show Kv Oc [] (fun _=>f j0) w (cid+j0) _ from h0) hp (fun b k hbk=>hr b k j0 (by simp) hbk) hn hm0;refine⟨by simp [g1],fun j hj=> ?_,fun p hp=> ?_⟩
    .cases j with
     | zero =>
      have hone:(f j0).oneCell'=true:=by
       rcases h0.2 with ⟨_,_,h3⟩ | ⟨_,g,cap,cur,h2,_⟩
       .have h3:f j0=_:=h3;rw[h3];rfl
       .have h2:f j0=_:=h2;rw[h2];rfl
      refine⟨hone,?_⟩;show match (Jr objs' (id+j0)).map Obj.shp with | some (.arr _ _)=>_ | some .mp=>_ | _=>True
      rw[hO0];exact hm0.symm
     | succ j =>have:=g2 j (by simpa using hj);rw[show j0+(j+1)=j0+1+j from by omega];simpa using this
    .rcases Dx.1 hp with rfl | hp
     .exact⟨hor,j0,rfl,DR _,by simp⟩
     .obtain⟨a1,x,a2,a3,a4⟩:=g3 p hp;exact⟨a1,x,a2,by omega,by simp only[List.length_cons];omega⟩
   | sln e sz =>
    simp only[J6]at hok hO hm ⊢;obtain⟨hok1,hok2⟩:=hok.cons;obtain⟨g1,g2,g3⟩:=hrest hok2 (fun p hp=>hO p (Dq _ hp)) (fun p hp=>hm p (Dq _ hp));have hO0:=hO _ Dp;have hm0:=hm _ Dp j0 rfl;dsimp only at hO0 hm0
    have hc:cs.getD j0 .undef= .usl false e (cs.getD j0 .undef).toL:=by
     generalize cs.getD j0 .undef=c at *
     cases c<;>simp only[A.pM]at hok1<;>first | (cases hok1;done) | skip
     simp only[Dn,F8]at hok1;rw[Dk hok1.2.1,<- hok1.1];rfl
    rw[hc]at h0;have hor:Kv O' objs' m' w (id+j0) (.arr e false (cs.getD j0 .undef).toL):=Kv.carry (show Kv Oc [] (fun _=>f j0) w (cid+j0) _ from h0) hp (fun b k hbk=>hr b k j0 (by simp) hbk) hn hm0;refine⟨by simp [g1],fun j hj=> ?_,fun p hp=> ?_⟩
    .cases j with
     | zero =>
      have hone:(f j0).oneCell'=true:=by
       rcases h0.2 with ⟨_,_,h3⟩ | ⟨_,g,cap,cur,h2,_⟩
       .have h3:f j0=_:=h3;rw[h3];rfl
       .have h2:f j0=_:=h2;rw[h2];rfl
      refine⟨hone,?_⟩;show match (Jr objs' (id+j0)).map Obj.shp with | some (.arr _ _)=>_ | some .mp=>_ | _=>True
      rw[hO0];exact hm0.symm
     | succ j =>have:=g2 j (by simpa using hj);rw[show j0+(j+1)=j0+1+j from by omega];simpa using this
    .rcases Dx.1 hp with rfl | hp
     .exact⟨hor,j0,rfl,DR _,by simp⟩
     .obtain⟨a1,x,a2,a3,a4⟩:=g3 p hp;exact⟨a1,x,a2,by omega,by simp only[List.length_cons];omega⟩
   | bx t =>
    simp only[J6]at hok hO hm ⊢;obtain⟨hok1,hok2⟩:=hok.cons;obtain⟨g1,g2,g3⟩:=hrest hok2 (fun p hp=>hO p (Dq _ hp)) (fun p hp=>hm p (Dq _ hp));have hO0:=hO _ Dp;have hm0:=hm _ Dp j0 rfl;dsimp only at hO0 hm0;generalize cs.getD j0 .undef=c at *
    cases c with
    | box ds =>
     obtain⟨b,base,e1,e2⟩:=h0;refine⟨by simp [g1],fun j hj=> ?_,fun p hp=> ?_⟩
     .cases j with
      | zero =>
       refine⟨by rw[Nat.add_zero,e1];rfl,?_⟩;show match (Jr objs' (id+j0)).map Obj.shp with | some .box=>_ | _=>True
       rw[hO0];exact⟨b,base,by rw[hm0];exact e1,e1⟩
      | succ j =>have:=g2 j (by simpa using hj);rw[show j0+(j+1)=j0+1+j from by omega];simpa using this
     .rcases Dx.1 hp with rfl | hp
      .refine⟨⟨b,base,by rw[hm0];exact e1,fun j hj=> ?_⟩,j0,rfl,DR _,by simp⟩;obtain⟨a1,a2,u,a3,a4⟩:=e2 j hj;exact⟨hr _ _ _ (by simp) a1,a2,u,a3,(Jt.JE ‹_› a4).toC⟩
      .obtain⟨a1,x,a2,a3,a4⟩:=g3 p hp;exact⟨a1,x,a2,by omega,by simp only[List.length_cons];omega⟩
    | _=>cases hok1
   | mp kt vt =>
    simp only[J6]at hok hO hm ⊢;obtain⟨hok1,hok2⟩:=hok.cons;obtain⟨g1,g2,g3⟩:=hrest hok2 (fun p hp=>hO p (Dq _ hp)) (fun p hp=>hm p (Dq _ hp));have hO0:=hO _ Dp;have hm0:=hm _ Dp j0 rfl;dsimp only at hO0 hm0;generalize cs.getD j0 .undef=c at *
    obtain⟨l,rfl,_,_⟩:=VE hok1;have h0:LK Oc w (cid+j0) (f j0) l:=h0;have h2:LK O' w (id+j0) (f j0) l:=h0.carry hp (fun b k hb=>hr b k j0 (by simp) hb);refine⟨by simp [g1],fun j hj=> ?_,fun p hp=> ?_⟩
    .cases j with
     | zero =>
      refine⟨by obtain⟨r,_,_,h1,_⟩:=h0;rw[Nat.add_zero,h1];rfl,?_⟩;show match (Jr objs' (id+j0)).map Obj.shp with | some (.arr _ _)=>_ | some .mp=>_ | _=>True
      rw[hO0];exact hm0.symm
     | succ j =>have:=g2 j (by simpa using hj);rw[show j0+(j+1)=j0+1+j from by omega];simpa using this
    .rcases Dx.1 hp with rfl | hp
     .refine⟨?_,j0,rfl,DR _,by simp⟩;show LK O' w (id+j0) (m' (id+j0)) l;rw[hm0];exact h2
     .obtain⟨a1,x,a2,a3,a4⟩:=g3 p hp;exact⟨a1,x,a2,by omega,by simp only[List.length_cons];omega⟩
   | _=>have:=hok false (by simp [J6]);cases this
theorem Aex {cid id:Nat} {s:Sh} {x:A} {v:Value} (hp:Lr Oc w O' w) (hn: ∀ b k,Oc b k=none->O' b k=none) (h:IR Oc w cid v x) (hr: ∀ b k i,i<255->Oc b k=some (cid+i)->O' b k=some (id+i))
 (hok:Jv (back id s x).1) (hO: ∀ p∈(back id s x).2.2,Jr objs' p.1=some p.2) (hm: ∀ p∈(back id s x).2.2,∀ i,p.1=id+i->m' p.1=LQ w (innerS w s v) i) :
 Jw O' objs' m' w v (back id s x).2.1/\ ∀ p∈(back id s x).2.2,Kv O' objs' m' w p.1 p.2:=by
 cases s with
 | cell u k =>
  simp only[back]at hok hO hm ⊢;obtain⟨hok1,hok2⟩:=hok.append;have hpl:=hok2.cons.1
  have hic:IC Oc w cid v x:=by
   have bad: ∀ cs l,x= .agg cs\/x= .box cs\/x= .ump l\/(∃ f,x= .cbx f cs)->False:=by rintro cs l (rfl | rfl | rfl | ⟨f,rfl⟩)<;>(cases u<;>cases k<;>first | (cases hpl;done) | (have:=hok1 false (by simp [J6,force,A.isB,A.isI,A.isS,A.lC,A.YI,A.VD,A.pM,A.isFn]);cases this))
   cases x with
   | agg cs=>exact(bad cs default (.inl rfl)).elim
   | box cs=>exact(bad cs default (.inr (.inl rfl))).elim
   | ump l=>exact(bad [] l (.inr (.inr (.inl rfl)))).elim
   | cbx f cs=>exact(bad cs default (.inr (.inr (.inr ⟨f,rfl⟩)))).elim
   | _=>exact h
  obtain⟨g1,g2,g3⟩:=OC (cid:=cid) (id:=id) (f:=LQ w v) hp hn [(u,k)] [x] 0 (fun j hj=>by
   have:j=0:=by simpa using hj
   subst this;exact hic) (fun b k i hi hb=>hr b k i (by simp at hi;omega) hb) hok1 hO hm
  have:=g2 0 (by simp);exact⟨this.toT,fun p hp=>(g3 p hp).1⟩
 | agg ks =>
  simp only[back]at hok hO hm ⊢;obtain⟨hf,hok⟩:=hok.cons;have hf:=D6 hf;obtain⟨hok1,hok2⟩:=hok.cons;cases x with
  | agg cs =>
   obtain⟨vs,h1,h2,h3⟩:=h;have hl:cs.length=ks.length:=by simpa [A.isAgg,Qi]using hok1
   obtain⟨g1,g2,g3⟩:=OC (objs':=objs') (m':=m') (cid:=cid+1) (id:=id+1) (f:=fun j=>vs.getD j undef) hp hn ks cs 0 (fun j hj=>by
    have:=h3 j (by omega);rw[DD];exact this) (fun b k i hi hb=>by
    have:=hr b k (1+i) (by omega) (by rw[<- Ed];exact hb);rw[<- Ed]at this;exact this) hok2 hO (fun p hp i hi=>by
    have:=hm p hp (i+1) (by omega);rw[this,h1];rfl)
   refine⟨⟨vs,h1,?_,fun j hj=> ?_⟩,fun p hp=>(g3 p hp).1⟩
   .show vs.size=(J6 (id+1) ks cs 0).2.1.length;rw[h2,g1,hl]
   .have hj:j<(J6 (id+1) ks cs 0).2.1.length:=hj;rw[g1]at hj;have:=g2 j hj;rwa [DD]at this
  | _=>simp [A.isAgg]at hok1
 | box ks =>
  simp only[back]at hok hO hm ⊢;obtain⟨hf,hok⟩:=hok.cons;have hf:=D6 hf;obtain⟨hok1,hok2⟩:=hok.cons;cases x with
  | box cs =>
   obtain⟨b,base,h1,h2⟩:=h;have h1':LQ w v 0= .pointer (some (at' b base)):=by rw[h1];rfl
   have hl:cs.length=ks.length:=by simpa [A.zU,Qi]using hok1
   have hcell: ∀ j,LQ w v (j+1)=(w.cell? (at' b (base+j))).getD undef:=by intro j;rw[h1];rfl
   obtain⟨g1,g2,g3⟩:=OC (objs':=objs') (m':=m') (cid:=cid+1) (id:=id+1) (f:=fun j=>(w.cell? (at' b (base+j))).getD undef) hp hn ks cs 0 (fun j hj=>by
    obtain⟨_,_,u,h5,h6⟩:=h2 j (by omega);rw[DD,h5];exact h6) (fun b k i hi hb=>by
    have:=hr b k (1+i) (by omega) (by rw[<- Ed];exact hb);rw[<- Ed]at this;exact this) hok2 (fun p hp=>hO p (Dq _ hp)) (fun p hp i hi=>by
    have:=hm p (Dq _ hp) (i+1) (by omega);rw[this];exact hcell _)
   have hO0:=hO _ Dp;have hm0:=hm _ Dp 0 rfl;dsimp only at hO0 hm0;refine⟨?_,fun p hp=> ?_⟩
   .show J4 O' objs' m' w v (.ptr id 0);refine⟨by rw[h1];rfl,?_⟩;show match (Jr objs' id).map Obj.shp with | some .box=>_ | _=>True
    rw[hO0];exact⟨b,base,by rw[hm0];exact h1',h1⟩
   .rcases Dx.1 hp with rfl | hp
    .refine⟨b,base,by rw[hm0];exact h1',fun j hj=> ?_⟩;have hj:j<(J6 (id+1) ks cs 0).2.1.length:=hj;rw[g1]at hj;obtain⟨a1,a2,u,a3,_⟩:=h2 j (by omega);have:=g2 j hj;rw[DD,a3]at this;exact⟨by have:=hr b (base+j) 0 (by omega) a1;exact this,a2,u,a3,this⟩
    .exact(g3 p hp).1
  | _=>simp [A.zU]at hok1
 | clo f' ks =>
  simp only[back]at hok hO hm ⊢;obtain⟨hf,hok⟩:=hok.cons;have hf:=D6 hf;obtain⟨hok1,hok2⟩:=hok.cons;cases x with
  | cbx g cs =>
   have hg:f'=g:=by have h':=hok1;simp only[A.zV,Dn]at h';exact Dk h'.1
   subst hg;obtain⟨b,base,h1,h2⟩:=h;have h1':LQ w (innerS w (.clo f' ks) v) 0= .pointer (some (at' b base)):=h1.inner (ks:=ks);have hl:cs.length=ks.length:=by have h':=hok1;simp only[A.zV,Dn]at h';exact Dk h'.2
   have hcell: ∀ j,LQ w (innerS w (.clo f' ks) v) (j+1)=(w.cell? (at' b (base+j))).getD undef:=by intro j;rw[h1.inner (ks:=ks)];rfl
   obtain⟨g1,g2,g3⟩:=OC (objs':=objs') (m':=m') (cid:=cid+1) (id:=id+1) (f:=fun j=>(w.cell? (at' b (base+j))).getD undef) hp hn ks cs 0 (fun j hj=>by
    obtain⟨_,_,u,h5,h6⟩:=h2 j (by omega);rw[DD,h5];exact h6) (fun b k i hi hb=>by
    have:=hr b k (1+i) (by omega) (by rw[<- Ed];exact hb);rw[<- Ed]at this;exact this) hok2 (fun p hp=>hO p (Dq _ hp)) (fun p hp i hi=>by
    have:=hm p (Dq _ hp) (i+1) (by omega);rw[this];exact hcell _)
   have hO0:=hO _ Dp;have hm0:=hm _ Dp 0 rfl;dsimp only at hO0 hm0;refine⟨?_,fun p hp=> ?_⟩
   .show J4 O' objs' m' w v (.clo f' id);refine⟨by obtain⟨_,_,e,_⟩:=h1;rw[e];cases f'<;>rfl,_,rfl,h1.JE hp,?_⟩;show match (Jr objs' id).map Obj.shp with | some .box=>_ | _=>True
    rw[hO0];exact⟨b,base,hm0.trans h1',rfl⟩
   .rcases Dx.1 hp with rfl | hp
    .refine⟨b,base,by rw[hm0];exact h1',fun j hj=> ?_⟩;have hj:j<(J6 (id+1) ks cs 0).2.1.length:=hj;rw[g1]at hj;obtain⟨a1,a2,u,a3,_⟩:=h2 j (by omega);have:=g2 j hj;rw[DD,a3]at this;exact⟨by have:=hr b (base+j) 0 (by omega) a1;exact this,a2,u,a3,this⟩
    .exact(g3 p hp).1
  | _=>simp [A.zV]at hok1
 | map kt vt =>
  simp only[back]at hok hO hm ⊢;obtain⟨l,rfl,_,_⟩:=VE hok.cons.1;have hO0:=hO _ Dp;have hm0:=hm _ Dp 0 rfl;dsimp only at hO0 hm0;have h:LK Oc w cid v l:=h;have hm0:m' id=v:=hm0;have h2:LK O' w id v l:=h.carry hp (fun b k hb=>hr b k 0 (by omega) hb);refine⟨?_,fun p hp=> ?_⟩
  .show J4 O' objs' m' w v (.own id);refine⟨by obtain⟨r,_,_,h1,_⟩:=h;rw[h1];rfl,?_⟩;rw[hO0];exact hm0.symm
  .obtain rfl:p=(id,.mp l):=Ej.1 hp;show LK O' w id (m' id) l;rw[hm0];exact h2
end
def Aih (k:Nat):Nat:=256000+256*k
def qM:A->A
 | .agg cs=>.box cs
 | a=>a
def KC:List Sh->Nat->List Nat
 | [],_=>[]
 | s::ss,i=>bif JP s then i::KC ss (i+1)else KC ss (i+1)
structure Came (O:Own) (w:World) (vs:Array Value) (sg:Sig) (rs:List A) (v:Value) (O':Own) (w':World):Prop where
 moves:Moves O (fun o=>o≠255) w w'
 less: ∀ b k,b<w.heap.size->O' b k≠none->O b k≠none
 VF: ∀ b k,b<w.heap.size->O b k=some 255->O' b k=some 255
 count:rs.length=sg.Jz.length+(KC sg.Jp 0).length
 res: ∃ us:Array Value,us.size=sg.Jz.length/\v=(if h:us.size=1 then us[0]else .tuple us)/\ ∀ k,k<us.size->IR O' w' (Aih k) (us.getD k undef) (rs.getD k .undef)
 boxes: ∀ j i,(KC sg.Jp 0)[j]? =some i->IR O' w' (256*i) (innerS w (sg.Jp.getD i (.agg [])) (vs.getD i undef)) (qM (rs.getD (sg.Jz.length+j) .undef))
def Spec (P:Program) (f:FuncId) (sg:Sig):Prop :=
 (∀ args w,(callFunc f args).run P w= .ok (.enter f args) w) /\
 ∀(O:Own) (w:World) (vs:Array Value) (xs rs:List A),Inv O w->vs.size=xs.length->xs.length=sg.Jp.length->xs.length<=100->(∀ j,j<xs.length->IR O w (256*j) (vs.getD j undef) (xs.getD j .undef))->sg.F xs=some rs ->
  Calls P f vs w fun e w'=> ∃ v O',e= .returned v/\Came O w vs sg rs v O' w'
section
variable {P:Program} {C:Ctx} {V0:Nat->Value} {O0 O:Own} {w0 w:World} {m:Nat->Value} {st:St} {a:Act} {o:Oper}
def QZ (w:World) (f:Nat->Value) (id stride:Nat):List Sh->List A->Nat->List (Nat×Value)
 | [],_,_=>[]
 | s::ss,rs,j=>(back (id+stride*j) s (rs.getD j .undef)).2.2.map (fun p=>(p.1,LQ w (f j) (p.1 - (id+stride*j))))++QZ w f id stride ss rs (j+1)
theorem AcV (w:World) (f:Nat->Value) (id stride:Nat): ∀(ss:List Sh) (rs:List A) (j:Nat),(QZ w f id stride ss rs j).map (·.1)=(JX id stride ss rs j).2.2.map (·.1):=by
 intro ss
 induction ss with
 | nil=>intro rs j;rfl
 | cons s ss ih=>intro rs j;simp [QZ,JX,ih]
theorem AeR {k:CK} {c:A} (hp:k.plain=true) (h:Jv (force k c).1):(force k c).2.isVal=true:=by
 cases k<;>first
  | (cases hp;done)
  | (have h1:=h.cons.1;cases c<;>first | rfl | (cases h1;done))
theorem mP {Oc O':Own} {objs':List (Nat×Obj)} {m':Nat->Value} {cid cst id stride:Nat} {f g:Nat->Value} {rs:List A} (hp:Lr Oc w O' w) (hn: ∀ b k,Oc b k=none->O' b k=none): ∀(ss:List Sh) (j0:Nat),(∀ j,j<ss.length->g (j0+j)=innerS w (ss.getD j (.agg [])) (f (j0+j))) ->
 (∀ j,j<ss.length->IR Oc w (cid+cst*(j0+j)) (f (j0+j)) (rs.getD (j0+j) .undef))->(∀ j,j<ss.length-> ∀ b k i,i<255->Oc b k=some (cid+cst*(j0+j)+i)->O' b k=some (id+stride*(j0+j)+i)) ->
 Jv (JX id stride ss rs j0).1->(∀ p∈(JX id stride ss rs j0).2.2,Jr objs' p.1=some p.2)->(∀ p∈QZ w g id stride ss rs j0,m' p.1=p.2) ->
 (JX id stride ss rs j0).2.1.length=ss.length/\(∀ j,j<ss.length->Jw O' objs' m' w (f (j0+j)) ((JX id stride ss rs j0).2.1.getD j .undef)/\((JX id stride ss rs j0).2.1.getD j .undef).isVal=true) /\
   ∀ p∈(JX id stride ss rs j0).2.2,Kv O' objs' m' w p.1 p.2:=by
 intro ss
 induction ss with
 | nil=>grind[JX]
 | cons s ss ih =>
  intro j0 hg h hr hok hO hm;simp only[JX]at hok hO ⊢;simp only[QZ]at hm;obtain⟨hok1,hok2⟩:=hok.append
  obtain⟨g1,g2,g3⟩:=ih (j0+1) (fun j hj=>by have:=hg (j+1) (by simpa using hj);rwa [show j0+(j+1)=j0+1+j from by omega]at this) (fun j hj=>by have:=h (j+1) (by simpa using hj);rwa [show j0+(j+1)=j0+1+j from by omega]at this)
   (fun j hj=>by have:=hr (j+1) (by simpa using hj);rwa [show j0+(j+1)=j0+1+j from by omega]at this) hok2 (fun p hp=>hO p (Dy _ hp)) (fun p hp=>hm p (Dy _ hp))
  have h0:=h 0 (by simp);have hr0:=hr 0 (by simp);have hg0:g (j0+0)=innerS w s (f (j0+0)):=hg 0 (by simp);rw[Nat.add_zero]at h0 hr0 hg0;obtain⟨k1,k2⟩:=Aex (id:=id+stride*j0) (m':=m') (objs':=objs') hp hn h0 hr0 hok1 (fun p hp=>hO p (Dz _ hp)) (fun p hp i hi=>by have:=hm (p.1,LQ w (g j0) (p.1 - (id+stride*j0))) (Dz _ (D8.2 ⟨p,hp,rfl⟩));rw[this,hi,EY,hg0]);refine⟨by simp [g1],fun j hj=> ?_,fun p hp=> ?_⟩
  .cases j with
   | zero =>
    refine⟨k1,?_⟩;show((back (id+stride*j0) s (rs.getD j0 .undef)).2.1).isVal=true;cases s with
    | agg ks=>rfl
    | box ks=>rfl
    | clo f' ks=>rfl
    | map kt vt=>rfl
    | cell u' k =>
     have hpl:k.plain=true:=by simp only[back]at hok1;exact hok1.append.2.cons.1
     cases u' with
     | true=>cases k<;>first | (cases hpl;done) | rfl | (exfalso;have:=hok1 false (by simp [back,J6]);cases this)
     | false =>
      have hf:Jv (force k (rs.getD j0 .undef)).1:=by have h1:=hok1;simp only[back,J6]at h1;exact h1.append.1.append.1
      show(force k (rs.getD j0 .undef)).2.isVal=true;exact AeR hpl hf
   | succ j =>have:=g2 j (by simpa using hj);rw[show j0+(j+1)=j0+1+j from by omega];simpa using this
  .rcases DJ.1 hp with hp | hp
   .exact k2 p hp
   .exact g3 p hp
def look (N:List (Nat×Nat)) (q:Nat):Option Nat:=(N.find? (fun p=>p.1==q)).map (·.2)
theorem AaU {N:List (Nat×Nat)} (hnd:nodup (N.map (·.1))=true): ∀ p∈N,look N p.1=some p.2:=by
 induction N with
 | nil=>intro p hp;cases hp
 | cons q N ih =>
  intro p hp;simp only[Ec,nodup,Dn,Em]at hnd;unfold look;rcases Dx.1 hp with rfl | hp
  .simp
  .have hne:q.1≠p.1:=fun e=>by
    have:has (N.map (·.1)) q.1=true:=MS.2 (D8.2 ⟨p,hp,e.symm⟩);rw[this]at hnd;cases hnd.1
   all_goals grind[nodup,look]
theorem dM {N:List (Nat×Nat)} {q i:Nat} (h:look N q=some i):(q,i)∈N:=by
 unfold look at h;cases hf:N.find? (fun p=>p.1==q)with
 | none=>rw[hf]at h;cases h
 | some p=>grind[look]
def WS (N:List (Nat×Value)) (q:Nat):Option Value:=(N.find? (fun p=>p.1==q)).map (·.2)
theorem Afe {N:List (Nat×Value)} (hnd:nodup (N.map (·.1))=true): ∀ p∈N,WS N p.1=some p.2:=by
 induction N with
 | nil=>intro p hp;cases hp
 | cons q N ih =>
  intro p hp;simp only[Ec,nodup,Dn,Em]at hnd;unfold WS;rcases Dx.1 hp with rfl | hp
  .simp
  .have hne:q.1≠p.1:=fun e=>by
    have:has (N.map (·.1)) q.1=true:=MS.2 (D8.2 ⟨p,hp,e.symm⟩);rw[this]at hnd;cases hnd.1
   all_goals grind[nodup,WS]
theorem AdG {N:List (Nat×Value)} {q:Nat} (h:q∉N.map (·.1)):WS N q=none:=by grind[WS]
theorem Jw.AhO {Jm:List (Nat×Obj)} {v:Value} {x:A} (h:Jw O Jm m w v x) (hv:x.isVal=true):T1 O Jm m w v x:=by cases x<;>first | (cases hv;done) | exact h
theorem RD {fet:Fet}: ∀(ks:List (Bool×CK)) (cs:List A) (id:Nat),Jv (Ju fet ks cs).1-> ∀ p∈Kw id ks cs,(Jr fet p.1).isSome/\ ∃ x,x<ks.length/\p.2=id+x:=by
 intro ks
 induction ks with
 | nil=>intro cs id _ p hp;cases cs<;>simp [Kw]at hp
 | cons k ks ih =>
  intro cs id hok p hp;obtain⟨u,k⟩:=k;cases cs with
  | nil=>cases u<;>simp [Kw]at hp
  | cons c cs =>
   have step:Jv (Ju fet ks cs).1->p∈Kw (id+1) ks cs->(Jr fet p.1).isSome/\ ∃ x,x<((u,k)::ks).length/\p.2=id+x:=by intro h1 h2;obtain⟨h3,x,h4,h5⟩:=ih cs (id+1) h1 p h2;exact⟨h3,x+1,by simpa using h4,by omega⟩
   cases u with
   | false =>
    have hnm:Kw id ((false,k)::ks) (c::cs)=Kw (id+1) ks cs:=by cases c<;>rfl
    rw[hnm]at hp;simp only[Ju]at hok;exact step hok.append.2 hp
   | true =>
    cases k with
    | sl e sz =>
     cases c with
     | own q =>
      simp only[Ju]at hok;cases hg:Jr fet q with
      | none=>rw[hg]at hok;have:=hok false (by simp);cases this
      | some y =>
       cases y with
       | box _=>rw[hg]at hok;have:=hok false (by simp);cases this
       | mp _=>rw[hg]at hok;have:=hok false (by simp);cases this
       | arr e' fz l =>
        rw[hg]at hok;simp only[Kw]at hp;rcases Dx.1 hp with rfl | hp
        .exact⟨by rw[hg];rfl,0,by simp,rfl⟩
        .exact step hok.append.2 hp
     | Ky =>simp only[Ju]at hok;exact step hok hp
     | _=>have:=hok false (by simp [Ju]);cases this
    | sln e sz =>
     cases c with
     | own q =>
      simp only[Ju]at hok;cases hg:Jr fet q with
      | none=>rw[hg]at hok;have:=hok false (by simp);cases this
      | some y =>
       cases y with
       | box _=>rw[hg]at hok;have:=hok false (by simp);cases this
       | mp _=>rw[hg]at hok;have:=hok false (by simp);cases this
       | arr e' fz l =>
        rw[hg]at hok;simp only[Kw]at hp;rcases Dx.1 hp with rfl | hp
        .exact⟨by rw[hg];rfl,0,by simp,rfl⟩
        .exact step hok.append.2 hp
     | Ky =>simp only[Ju]at hok;exact step hok hp
     | _=>have:=hok false (by simp [Ju]);cases this
    | bx t =>
     cases c with
     | ptr q off =>
      simp only[Ju]at hok;cases hg:KQ fet q with
      | none=>rw[hg]at hok;have:=hok false (by simp);cases this
      | some zs =>
       rw[hg]at hok;simp only[Kw]at hp;rcases Dx.1 hp with rfl | hp
       .exact⟨by rw[KJ hg];rfl,0,by simp,rfl⟩
       .exact step hok.cons.2.append.2 hp
     | _=>have:=hok false (by simp [Ju]);cases this
    | mp kt vt =>
     cases c with
     | own q =>
      simp only[Ju]at hok;cases hg:Jr fet q with
      | none=>rw[hg]at hok;have:=hok false (by simp);cases this
      | some y =>
       cases y with
       | box _=>rw[hg]at hok;have:=hok false (by simp);cases this
       | arr _ _ _=>rw[hg]at hok;have:=hok false (by simp);cases this
       | mp l =>
        rw[hg]at hok;simp only[Kw]at hp;rcases Dx.1 hp with rfl | hp
        .exact⟨by rw[hg];rfl,0,by simp,rfl⟩
        .exact step hok.append.2 hp
     | _=>have:=hok false (by simp [Ju]);cases this
    | _=>have:=hok false (by simp [Ju]);cases this
theorem AaZ {fet:Fet} {s:Sh} {x:A} {id:Nat} (hok:Jv (JD fet s x).ok): ∀ p∈MH fet id s x,(Jr fet p.1).isSome/\ ∃ i,p.2=id+i/\(i<202\/(∃ ks,s= .agg ks)):=by
 intro p hp;cases s with
 | cell u k =>
  simp only[MH]at hp
  have hh:Jv (Ju fet [(u,k)] [x]).1:=by
   unfold JD at hok;dsimp only at hok;generalize Ju fet [(u,k)] [x]=r at *
   obtain⟨ok,cs,upd,del⟩:=r;cases cs with
   | nil=>have:=hok false (by simp);cases this
   | cons c cs =>
    cases cs with
    | nil=>exact hok
    | cons _ _=>have:=hok false (by simp);cases this
  obtain⟨h1,i,h2,h3⟩:=RD _ _ _ hh p hp;exact⟨h1,i,h3,.inl (by simp at h2;omega)⟩
 | agg ks =>
  cases x with
  | agg cs =>simp only[MH]at hp;obtain⟨h1,i,h2,h3⟩:=RD _ _ _ (show Jv (Ju fet ks cs).1 from hok) p hp;exact⟨h1,1+i,by omega,.inr ⟨ks,rfl⟩⟩
  | _=>cases hp
 | box ks =>
  cases x with
  | ptr q off =>
   simp only[MH]at hp;unfold JD at hok;dsimp only at hok;cases hg:KQ fet q with
   | none=>rw[hg]at hok;have:=hok false (by simp);cases this
   | some cs =>
    rw[hg]at hok hp;dsimp only at hok hp;obtain⟨_,hokA⟩:=hok.cons;obtain⟨hf,hokB⟩:=hokA.cons;have hf:=D6 hf;rcases Dx.1 hp with rfl | hp
    .exact⟨by rw[KJ hg];rfl,0,rfl,.inl (by omega)⟩
    .obtain⟨h1,i,h2,h3⟩:=RD _ _ _ hokB p hp;exact⟨h1,1+i,by omega,.inl (by omega)⟩
  | _=>cases hp
 | clo f' ks =>
  cases x with
  | clo g q =>
   simp only[MH]at hp;unfold JD at hok;dsimp only at hok;cases hg:KQ fet q with
   | none=>rw[hg]at hok;have:=hok false (by simp);cases this
   | some cs =>
    rw[hg]at hok hp;dsimp only at hok hp;obtain⟨_,hokA⟩:=hok.cons;obtain⟨hf,hokB⟩:=hokA.cons;have hf:=D6 hf;rcases Dx.1 hp with rfl | hp
    .exact⟨by rw[KJ hg];rfl,0,rfl,.inl (by omega)⟩
    .obtain⟨h1,i,h2,h3⟩:=RD _ _ _ hokB p hp;exact⟨h1,1+i,by omega,.inl (by omega)⟩
  | _=>cases hp
 | map kt vt =>
  cases x with
  | own q =>
   obtain rfl:p=(q,id):=by simpa [MH]using hp
   unfold JD at hok;dsimp only at hok;cases hg:Jr fet q with
   | none=>rw[hg]at hok;have:=hok false (by simp);cases this
   | some y=>exact⟨rfl,0,rfl,.inl (by omega)⟩
  | _=>cases hp
theorem Un {fet:Fet} {stride:Nat}: ∀(ss:List Sh) (xs:List A) (id:Nat),Jv (J7 fet ss xs).1-> ∀ p∈LH fet id stride ss xs,(Jr fet p.1).isSome:=by
 intro ss
 induction ss with
 | nil=>intro xs id _ p hp;cases xs<;>simp [LH]at hp
 | cons s ss ih =>
  intro xs id hok p hp;cases xs with
  | nil=>simp [LH]at hp
  | cons x xs =>
   simp only[J7]at hok;obtain⟨h1,h2⟩:=hok.append;rcases DJ.1 hp with hp | hp
   .exact(AaZ h1 p hp).1
   .exact ih xs _ h2 p hp
theorem Moves.Ahf {ρ :Nat->Option Nat} {w w':World} (h:Moves (LZ O ρ) (fun o=>o≠255) w w'):Moves O (fun o=> ∃ i,ρ o=some i) w w':=by
 refine⟨h.os,h.tape,h.output,h.size,fun b hb=> ?_⟩;have un: ∀ k i,LZ O ρ b k=some i->i≠255-> ∃ q,O b k=some q/\ ∃ i,ρ q=some i:=by all_goals grind[LZ]
 rcases h.blk b hb with he | ⟨c,c',e,fr,h1,h2,h3,h4,k,q,h5,h6,h7⟩ | ⟨es,ck,es',ck',q,h1,h2,h3,h4⟩
 .exact .inl he
 .refine .inr (.inl ⟨c,c',e,fr,h1,h2,h3,fun k hk=>h4 k (fun i hi hne=> ?_),k,?_⟩)
  .obtain⟨q,hq,hρ⟩:=un k i hi hne;exact hk q hq hρ
  .simp_all[un,LZ]
 .simp_all[un,LZ]
end
end Go.Proofs.YtpaimpmokhihmaaGreatDoor.Vm
