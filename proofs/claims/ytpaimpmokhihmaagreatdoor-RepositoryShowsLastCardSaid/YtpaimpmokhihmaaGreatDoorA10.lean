import Derived.Test.YtpaimpmokhihmaaGreatDoorA9
set_option linter.all false
namespace Go.Proofs.YtpaimpmokhihmaaGreatDoor.Vm
open Classical
section
variable {P:Program} {C:Ctx} {V0:Nat->Value} {O0 O:Own} {w0 w:World} {m:Nat->Value} {st:St} {a:Act} {o:Oper}
def Ahi (fet:Fet) (p:Nat×Sh) (x:Option A):Sh->Prop
 | .box ks=>(∃ cs,Jr fet p.1=some (.box cs))/\x=some (.ptr p.1 0)/\ks.length<=200/\p.2= .box ks
 | .clo k ks=>(∃ cs,Jr fet p.1=some (.box cs))/\x=some (.clo k p.1)/\ks.length<=200/\p.2= .box ks
 | .map kt vt=>(∃ l,Jr fet p.1=some (.mp l))/\x=some (.own p.1)/\p.2= .map kt vt
 | _=>False
theorem AfP {fet:Fet} {stride:Nat}: ∀(ss:List Sh) (xs:List A) (id i0:Nat),Jv (J7 fet ss xs).1 ->
 (J7 fet ss xs).2.2.2.2.length=(KC ss i0).length/\ ∀(j:Nat) (p:Nat×Sh),(J7 fet ss xs).2.2.2.2[j]? =some p-> ∃ i,(KC ss i0)[j]? =some (i0+i)/\i<ss.length/\(p.1,id+stride*i)∈LH fet id stride ss xs/\ ∃ s,ss[i]? =some s/\Ahi fet p xs[i]? s:=by
 intro ss
 induction ss with
 | nil=>intro xs id i0 hok;cases xs with
  | nil=>exact⟨rfl,fun j p h=>by simp [J7]at h⟩
  | cons _ _=>have:=hok false (by simp [J7]);cases this
 | cons s ss ih =>
  intro xs id i0 hok;cases xs with
  | nil=>have:=hok false (by simp [J7]);cases this
  | cons x xs =>
   simp only[J7]at hok ⊢;obtain⟨h1,h2⟩:=hok.append;obtain⟨g1,g2⟩:=ih xs (id+stride) (i0+1) h2;have hrest: ∀(j:Nat) (p:Nat×Sh),(J7 fet ss xs).2.2.2.2[j]? =some p-> ∃ i,(KC ss (i0+1))[j]? =some (i0+i)/\i<(s::ss).length/\(p.1,id+stride*i)∈LH fet id stride (s::ss) (x::xs)/\ ∃ s',(s::ss)[i]? =some s'/\Ahi fet p (x::xs)[i]? s':=by intro j p hp;obtain⟨i,a1,a2,a3,s',a4,a5⟩:=g2 j p hp;refine⟨i+1,by rw[a1];congr 1;omega,by simpa using a2,Dy _ ?_,s',by simpa using a4,by simpa using a5⟩;rw[show id+stride*(i+1)=id+stride+stride*i from by rw[Gv];omega];exact a3
   cases s with
   | box ks =>
    cases x with
    | ptr q off =>
     have hA:Jv (JD fet (.box ks) (.ptr q off)).ok:=h1;unfold JD at h1;dsimp only at h1;cases hg:KQ fet q with
     | none=>rw[hg]at h1;have:=h1 false (by simp);cases this
     | some cs =>
      rw[hg]at h1;dsimp only at h1;obtain⟨h3,h4⟩:=h1.cons;obtain⟨h4,_⟩:=h4.cons;have h3:=Dk h3;have h4:=D6 h4;subst h3;have hb:(JD fet (.box ks) (.ptr q 0)).boxes=[(q,.box ks)]:=by unfold JD;dsimp only;rw[hg]
      rw[hb];refine⟨by simp [KC,JP,g1],fun j p hp=> ?_⟩;cases j with
      | zero =>simp at hp;subst hp;exact⟨0,by simp [KC,JP],by simp,Dz _ (by simp [MH]),_,rfl,⟨cs,KJ hg⟩,rfl,h4,rfl⟩
      | succ j =>
       have hp':(J7 fet ss xs).2.2.2.2[j]? =some p:=by simpa using hp
       obtain⟨i,a1,a2⟩:=hrest j p hp';exact⟨i,by simpa [KC,JP]using a1,a2⟩
    | _=>have:=h1 false (by simp [JD]);cases this
   | clo f' ks =>
    cases x with
    | clo g q =>
     have hA:Jv (JD fet (.clo f' ks) (.clo g q)).ok:=h1;unfold JD at h1;dsimp only at h1;cases hg:KQ fet q with
     | none=>rw[hg]at h1;have:=h1 false (by simp);cases this
     | some cs =>
      rw[hg]at h1;dsimp only at h1;obtain⟨h3,h4⟩:=h1.cons;obtain⟨h4,_⟩:=h4.cons;have h3:=Dk h3;have h4:=D6 h4;subst h3;have hb:(JD fet (.clo f' ks) (.clo f' q)).boxes=[(q,.box ks)]:=by unfold JD;dsimp only;rw[hg]
      rw[hb];refine⟨by simp [KC,JP,g1],fun j p hp=> ?_⟩;cases j with
      | zero =>simp at hp;subst hp;exact⟨0,by simp [KC,JP],by simp,Dz _ (by simp [MH]),_,rfl,⟨cs,KJ hg⟩,rfl,h4,rfl⟩
      | succ j =>
       have hp':(J7 fet ss xs).2.2.2.2[j]? =some p:=by simpa using hp
       obtain⟨i,a1,a2⟩:=hrest j p hp';exact⟨i,by simpa [KC,JP]using a1,a2⟩
    | _=>have:=h1 false (by simp [JD]);cases this
   | cell u k=>grind[JD,split,KC,JP]
   | agg ks =>
    have hb:(JD fet (.agg ks) x).boxes=[]:=by unfold JD;cases x<;>rfl
    rw[hb];exact⟨by simpa [KC,JP]using g1,fun j p hp=>by simpa [KC,JP]using hrest j p (by simpa using hp)⟩
   | map kt vt =>
    cases x with
    | own q =>
     unfold JD at h1;dsimp only at h1;cases hg:Jr fet q with
     | none=>rw[hg]at h1;have:=h1 false (by simp);cases this
     | some y =>
      cases y with
      | box _=>rw[hg]at h1;have:=h1 false (by simp);cases this
      | arr _ _ _=>rw[hg]at h1;have:=h1 false (by simp);cases this
      | mp l =>
       have hb:(JD fet (.map kt vt) (.own q)).boxes=[(q,.map kt vt)]:=by unfold JD;dsimp only;rw[hg]
       rw[hb];refine⟨by simp [KC,JP,g1],fun j p hp=> ?_⟩;cases j with
       | zero =>simp at hp;subst hp;exact⟨0,by simp [KC,JP],by simp,Dz _ (by simp [MH]),_,rfl,⟨l,hg⟩,rfl,rfl⟩
       | succ j =>
        have hp':(J7 fet ss xs).2.2.2.2[j]? =some p:=by simpa using hp
        obtain⟨i,a1,a2⟩:=hrest j p hp';exact⟨i,by simpa [KC,JP]using a1,a2⟩
    | _=>have:=h1 false (by simp [JD]);cases this
def PU (rb:Nat->Nat) (w:World) (vf:Nat->Value) (rs:List A):List (Nat×Sh)->Nat->List (Nat×Value)
 | [],_=>[]
 | (o,s)::r,j=>(LV (rb o) s (rs.getD j .undef)).2.2.map (fun p=>(p.1,LQ w (vf j) (p.1 - rb o)))++PU rb w vf rs r (j+1)
theorem rP (rb:Nat->Nat) (w:World) (vf:Nat->Value) (rs:List A): ∀(bs:List (Nat×Sh)) (j:Nat),(PU rb w vf rs bs j).map (·.1)=(Ko rb rs bs j).2.2.map (·.1):=by
 intro bs
 induction bs with
 | nil=>intro j;rfl
 | cons b bs ih=>simp_all[PU,Ko,Sh]
theorem xA (rb:Nat->Nat) (rs:List A): ∀(bs:List (Nat×Sh)) (j:Nat),(Ko rb rs bs j).2.1.map (·.1)=bs.map (·.1):=by
 intro bs
 induction bs with
 | nil=>intro j;rfl
 | cons b bs ih=>grind[Ko]
theorem Aah {rb:Nat} {Oc O':Own} {objs':List (Nat×Obj)} {m':Nat->Value} {v:Value} {cid q:Nat} {s:Sh} {r:A} (hp:Lr Oc w O' w) (hn: ∀ b k,Oc b k=none->O' b k=none)
 (hs: ∀ ks,s= .box ks->ks.length<=200) (hmq:m' q=v) (hir:IR Oc w cid v (qM r)) (hr: ∀ b k i,i<255->Oc b k=some (cid+i)->O' b k=some (if i=0 then q else rb+i))
 (hok:Jv (LV rb s r).1) (hO: ∀ p∈(LV rb s r).2.2,Jr objs' p.1=some p.2) (hm: ∀ p∈(LV rb s r).2.2,m' p.1=LQ w v (p.1 - rb)) :
 Kv O' objs' m' w q (LV rb s r).2.1/\ ∀ p∈(LV rb s r).2.2,Kv O' objs' m' w p.1 p.2:=by
 cases s with
 | cell _ _=>have:=hok false (by simp [LV]);cases this
 | agg _=>have:=hok false (by simp [LV]);cases this
 | clo _ _=>have:=hok false (by simp [LV]);cases this
 | map kt vt =>simp only[LV]at hok ⊢;obtain⟨l,rfl,_,_⟩:=VE hok.cons.1;refine⟨?_,fun p hp=>by cases hp⟩;show LK O' w q (m' q) l;rw[hmq];exact LK.carry (show LK Oc w cid v l from hir) hp (fun b k hb=>by have:=hr b k 0 (by omega) hb;exact this)
 | box ks =>
  have hf:=hs ks rfl;simp only[LV]at hok hO hm ⊢;obtain⟨hok0,hok1⟩:=hok.cons;cases r with
  | agg cs =>
   have hl:cs.length=ks.length:=by simpa [A.isAgg,Qi]using hok0
   obtain⟨bk,base,h1,h2⟩:=(show IR Oc w cid v (.box cs)from hir)
   have hcell: ∀ j,LQ w v (j+1)=(w.cell? (at' bk (base+j))).getD undef:=by intro j;rw[h1];rfl
   obtain⟨k1,k2,k3⟩:=OC (objs':=objs') (m':=m') (cid:=cid+1) (id:=rb+1) (f:=fun j=>(w.cell? (at' bk (base+j))).getD undef) hp hn ks cs 0 (fun j hj=>by
    obtain⟨_,_,u,h5,h6⟩:=h2 j (by omega);rw[DD,h5];exact h6) (fun b k i hi hb=>by
    have:=hr b k (1+i) (by omega) (by rw[<- Ed];exact hb);rw[Du,<- Ed]at this;exact this) hok1 hO (fun p hp i hi=>by
    have:=hm p hp;rw[this,hi,show rb+1+i - rb=i+1 from by omega,hcell])
   refine⟨⟨bk,base,by rw[hmq];exact h1,fun j hj=> ?_⟩,fun p hp=>(k3 p hp).1⟩;have hj:j<(J6 (rb+1) ks cs 0).2.1.length:=hj;rw[k1]at hj;obtain⟨a1,a2,u,a3,_⟩:=h2 j (by omega);have:=k2 j hj;rw[DD,a3]at this;exact⟨by have:=hr bk (base+j) 0 (by omega) a1;exact this,a2,u,a3,this⟩
  | _=>cases hok0
theorem rQ {rb:Nat->Nat} {Oc O':Own} {objs':List (Nat×Obj)} {m':Nat->Value} {val:Nat->Value} {cid:Nat->Nat} {rs:List A} (hp:Lr Oc w O' w) (hn: ∀ b k,Oc b k=none->O' b k=none): ∀(bs:List (Nat×Sh)) (j0:Nat),
 (∀(j:Nat) (p:Nat×Sh),bs[j]? =some p->(∀ ks,p.2= .box ks->ks.length<=200)/\m' p.1=val (j0+j)/\IR Oc w (cid (j0+j)) (val (j0+j)) (qM (rs.getD (j0+j) .undef))/\ ∀ b k i,i<255->Oc b k=some (cid (j0+j)+i)->O' b k=some (if i=0 then p.1 else rb p.1+i)) ->
 Jv (Ko rb rs bs j0).1->(∀ p∈(Ko rb rs bs j0).2.2,Jr objs' p.1=some p.2)->(∀ p∈PU rb w val rs bs j0,m' p.1=p.2) ->
 (∀ p∈(Ko rb rs bs j0).2.1,Kv O' objs' m' w p.1 p.2)/\ ∀ p∈(Ko rb rs bs j0).2.2,Kv O' objs' m' w p.1 p.2:=by
 intro bs
 induction bs with
 | nil=>grind[Ko]
 | cons b bs ih =>
  intro j0 h hok hO hm;obtain⟨q,s⟩:=b;simp only[Ko]at hok hO ⊢;simp only[PU]at hm;obtain⟨hok1,hok2⟩:=hok.append;obtain⟨g1,g2⟩:=ih (j0+1) (fun j p hj=>by have:=h (j+1) p (by simpa using hj);rwa [show j0+(j+1)=j0+1+j from by omega]at this) hok2 (fun p hp=>hO p (Dy _ hp)) (fun p hp=>hm p (Dy _ hp));obtain⟨hf,hmq,hir,hr⟩:=h 0 (q,s) rfl;rw[Nat.add_zero]at hmq hir hr;obtain⟨k1,k2⟩:=Aah (objs':=objs') (m':=m') (rb:=rb q) (q:=q) hp hn hf hmq hir hr hok1 (fun p hp=>hO p (Dz _ hp)) (fun p hp=>hm (p.1,LQ w (val j0) (p.1 - rb q)) (Dz _ (D8.2 ⟨p,hp,rfl⟩)));refine⟨fun p hp=> ?_,fun p hp=> ?_⟩
  .rcases Dx.1 hp with rfl | hp
   .exact k1
   .exact g1 p hp
  .rcases DJ.1 hp with hp | hp
   .exact k2 p hp
   .exact g2 p hp
end
section
variable {P:Program} {C:Ctx} {V0:Nat->Value} {O0 O:Own} {w0 w:World} {m:Nat->Value} {st:St} {a:Act} {o:Oper}
def mV (ss:List Sh) (xs:List A) (i:Nat):Option Nat:=match ss.getD i (.agg []),xs.getD i .undef with
 | .map _ _,.own o=>some o
 | .clo _ _,.clo _ o=>some o
 | .box _,.clo _ o=>some o
 | .clo _ _,.ptr o _=>some o
 | _,.ptr o _=>some o
 | _,_=>none
def iI (rb:Nat->Nat) (d:Nat) (ss:List Sh) (xs:List A) (n:Nat):Option Nat :=
 if 256000<=n then some (b2 d+16*((n - 256000) / 256)+(n - 256000) % 256)
 else match mV ss xs (n / 256)with
  | some q=>some (if n % 256=0 then q else rb q+n % 256)
  | none=>none
def zW:Sh->Obj->Prop
 | .box _,.box _=>True
 | .map _ _,.mp _=>True
 | _,_=>False
theorem dR {s:Sh} {e:Nat} {f:Bool} {l:Sl} (h:zW s (.arr e f l)):False:=by cases s<;>exact h
theorem Afr {s:Sh} {y:Obj} {rb:Nat} {r:A} (h:zW s y):y.shp=(LV rb s r).2.1.shp:=by cases s<;>cases y<;>first | exact h.elim | rfl
theorem Aal {d:Nat} {fet:Fet} {sg:Sig} {xs:List A} (h:Jv (N8 fet d sg xs).ok):sg.ok (V9 fet sg.Jp xs).vs=true:=by unfold N8 zL at h;exact h.append.1.append.1.append.1.append.2.cons.1
theorem mY {c:Call} {f:Nat} {sg:Sig} {x0:Operand} {caps av:Array Value} (hS:Sim V0 O0 w0 O m st a w) (ho:o.op= .call c) (hcal:c.callee= .value x0) (hev:a.eval x0= .func (.func f) #[] caps) (hav:c.args.map a.eval++caps=av) (hsp:Spec P f sg) {d:Nat} {fet:Fet} (hf:MP st.Jm fet) {xs:List A}
 (hl:xs.length=av.size) (hx: ∀ j,j<xs.length->Jw O st.Jm m w (av.getD j undef) (xs.getD j .undef))
 (hok:Jv (N8 fet d sg xs).ok) (hfr: ∀ p∈(N8 fet d sg xs).new,st.fresh p.1=true) (hnd:nodup ((N8 fet d sg xs).new.map (·.1))=true):Good P V0 O0 w0 (apply st o (N8 fet d sg xs)) o a w:=by
 intro next Q hn
 unfold N8 at hok hfr hnd hn;generalize hH:V9 fet sg.Jp xs=H at *
 obtain⟨hok1,vsA,upd,del,bxs⟩:=H;have hHs:J7 fet sg.Jp xs=(hok1,vsA,upd,del,bxs):=by unfold V9 at hH;injection hH with q1 q2 q3 q4 q5;rw[<- q1,<- q2,<- q3,<- q4,<- q5]
 dsimp only at hok hfr hnd hn;unfold zL at hok;obtain⟨hokA,hokB⟩:=hok.append;obtain⟨hokA,hokC⟩:=hokA.append;obtain⟨hokA,hokD⟩:=hokA.append;obtain⟨hokA,hokE⟩:=hokA.append;obtain⟨hN,hokB⟩:=hokB.cons;obtain⟨h100,hokB⟩:=hokB.cons;have h100:=D6 h100;have hF:sg.F vsA=some (sg.val vsA):=by have:=hokE.cons.1;unfold Sig.F;rw[this];rfl
 have hokA':Jv (J7 fet sg.Jp xs).1:=by rw[hHs];exact hokA
 generalize sg.val vsA=rs at hF hfr hnd hn hokB hokC hokD;simp only[zL]at hfr hnd hn hokB hokC hokD;have hcnt:=Dk hokB.cons.1;obtain⟨g1,g2,g3,g4,g5⟩:=Ul (W:=upd=[]) hf hS.Jm 256 sg.Jp xs 0 (fun j=>av.getD j undef) (fun e=>by have:=hokB.cons.2.cons.1;rw[e]at this;simpa using this) hx hokA';obtain⟨b1,b2'⟩:=AfP (fet:=fet) (stride:=256) sg.Jp xs 0 0 hokA';have halive:=Un (fet:=fet) (stride:=256) sg.Jp xs 0 hokA';rw[hHs]at g1 g3 g4 g5 b1 b2';dsimp only at g1 g3 g4 g5 b1 b2';generalize hNs:LH fet 0 256 sg.Jp xs=N at *
 obtain⟨O1,hS1,hp1,hle1,hv1,hE1,hk1⟩:=hS.freezes _ g3;let ρ :=look N;have hρ : ∀ p∈N,ρ p.1=some p.2:=AaU hN;have hupdO: ∀ p∈upd,Kv O1 (J3 st.Jm upd) m w p.1 p.2:=by intro p hp;obtain⟨x,hx1,hx2⟩:=MC upd st.Jm p.1 ⟨p,hp,rfl⟩;obtain⟨e,fz,l,k1,k2⟩:=g3 p hp;obtain⟨e',fz',l',k3,k4⟩:=g3 _ hx1;dsimp only at k3 k4;rw[k1]at k3;injection k3 with k3;injection k3 with q1 q2 q3;subst q1;subst q3;rw[k2,<- k4];exact hS1.Jm p.1 x hx2
 have hIR:=g5 hp1 hv1 hupdO hk1 hρ;have hargs:av.size=vsA.length:=by rw[<- hl,g2,g1]
 have hexec:(execOp a.eval o).run P w= .ok (.enter f av) w:=by simp only[execOp,ho,resolve,hcal,hev,Deferred.ofValue,Dv,Sem.run_pure,Result.andThen_ok,invoke];have:=hsp.1 av w;simpa [hav]using this
 unfold Oper.wp;rw[hexec,Oper.upon_enter];refine(hsp.2 (LZ O1 ρ) w av vsA rs ⟨fun g j p ht=>⟨RY.2 (hS1.oZ.1 g j p ht).1,(hS1.oZ.1 g j p ht).2⟩,hS1.oZ.2⟩ hargs g1 (by rw[g1,<- g2];exact h100) (fun j hj=> ?_) hF).mono ?_
 .have:=hIR j (by rw[<- g1];exact hj);rw[DD]at this;exact this
 rintro e w' ⟨v,Of,rfl,hcame⟩;dsimp only;obtain⟨us,hus1,hus2,hus3⟩:=hcame.res;let T:Nat->Prop:=fun q=> ∃ i,ρ q=some i;let O2:Own:=fun b k=>if b<w.heap.size then(match O1 b k with | none=>none | some q=>if T q then(Of b k).bind (iI (Le fet) d sg.Jp xs)else some q)else(Of b k).bind (iI (Le fet) d sg.Jp xs);have hM:Moves O1 T w w':=hcame.moves.Ahf;have hO2lt: ∀ {b k},b<w.heap.size->O2 b k=(match O1 b k with | none=>none | some q=>if T q then(Of b k).bind (iI (Le fet) d sg.Jp xs)else some q):=fun hb=>Dw hb;have hP2:Passes O1 O2 T w.heap.size:=by refine⟨fun b k hb h=>by rw[hO2lt hb,h],fun b k q hb h ht=> ?_⟩;rw[hO2lt hb,h];exact Du ht
 have hless2: ∀ b k,b<w.heap.size->O2 b k≠none->O1 b k≠none:=by intro b k hb h h';rw[hO2lt hb,h']at h;exact h rfl
 have hnone: ∀ b k,Of b k=none->O2 b k=none:=by
  intro b k h;by_cases hb:b<w.heap.size
  .rw[hO2lt hb];cases hO:O1 b k with
   | none=>rfl
   | some q =>
    by_cases ht:T q
    .show(if T q then _ else _)=_;rw[Dw ht,h];rfl
    .exfalso
     have hr:LZ O1 ρ b k=some 255:=by
      unfold LZ;rw[hO]
      have: ρ q=none:=by
       cases hh: ρ q with
       | none=>rfl
       | some i=>exact absurd ⟨i,hh⟩ ht
      simp [this]
     have:=hcame.VF b k hb hr;rw[h]at this;cases this
  .show(if _ then _ else _)=_;rw[Du hb,h];rfl
 have hsome: ∀ b k n,Of b k=some n->n≠255->O2 b k=iI (Le fet) d sg.Jp xs n:=by
  intro b k n h hne;by_cases hb:b<w.heap.size
  .rw[hO2lt hb];have h1:=hcame.less b k hb (by rw[h];simp);rw[Ne,RY]at h1;cases hO:O1 b k with
   | none=>exact absurd hO h1
   | some q =>
    by_cases ht:T q
    .show(if T q then _ else _)=_;rw[Dw ht,h];rfl
    .exfalso
     have hr:LZ O1 ρ b k=some 255:=by
      unfold LZ;rw[hO]
      have: ρ q=none:=by
       cases hh: ρ q with
       | none=>rfl
       | some i=>exact absurd ⟨i,hh⟩ ht
      simp [this]
     have:=hcame.VF b k hb hr;rw[h]at this;injection this with this;exact hne this
  .show(if _ then _ else _)=_;rw[Du hb,h];rfl
 have hpf:Lr Of w' O2 w':=fun b k u h hc=>⟨hnone b k h,hc⟩
 have hbcnt:bxs.length=(KC sg.Jp 0).length:=b1;let bi:Nat->Nat:=fun j=>(KC sg.Jp 0).getD j 0;let bval:Nat->Value:=fun j=>innerS w (sg.Jp.getD (bi j) (.agg [])) (av.getD (bi j) undef);let HV:=QZ w' (fun k=>innerS w' (sg.Jz.getD k (.agg [])) (us.getD k undef)) (b2 d) 16 sg.Jz rs 0++PU (Le fet) w' bval (rs.drop sg.Jz.length) bxs 0;have hHVf:HV.map (·.1)=((JX (b2 d) 16 sg.Jz rs 0).2.2++(Ko (Le fet) (rs.drop sg.Jz.length) bxs 0).2.2).map (·.1):=by simp only[HV,Fq,AcV,rP]
 have hHVn:nodup (HV.map (·.1))=true:=by rw[hHVf];exact hnd
 let m2:Nat->Value:=fun i=>(WS HV i).getD (m i);have hm2: ∀ p∈HV,m2 p.1=p.2:=by intro p hp;show(WS HV p.1).getD _=_;rw[Afe hHVn p hp];rfl
 let Nw:Nat->Prop:=fun i=> ∃ p∈(JX (b2 d) 16 sg.Jz rs 0).2.2++(Ko (Le fet) (rs.drop sg.Jz.length) bxs 0).2.2,p.1=i;have hNw: ∀ i,Nw i->Nl {st with Jm:=J3 st.Jm upd} i:=by rintro i ⟨p,hp,rfl⟩;exact(Ls (hfr p hp)).frz g3
 have hm2not: ∀ i,¬ Nw i->m2 i=m i:=by
  intro i hi;show(WS HV i).getD _=_;rw[AdG (fun h=> ?_)]
  .rfl
  .rw[hHVf]at h;obtain⟨p,hp,hpe⟩:=D8.1 h;exact hi ⟨p,hp,hpe⟩
 have hrres: ∀ j,j<sg.Jz.length-> ∀ b k i,i<255->Of b k=some (256000+256*(0+j)+i)->O2 b k=some (b2 d+16*(0+j)+i):=by
  intro j hj b k i hi h;rw[hsome b k _ h (by omega)];unfold iI;rw[AiD,DD];have e1:(256000+256*j+i - 256000) / 256=j:=by omega
  have e2:(256000+256*j+i - 256000) % 256=i:=by omega
  rw[e1,e2]
 have hbx: ∀(j:Nat) (p:Nat×Sh),bxs[j]? =some p->(∃ y,Jr st.Jm p.1=some y/\zW p.2 y)/\(∀ ks,p.2= .box ks->ks.length<=200)/\m p.1=bval j/\IR Of w' (256*bi j) (bval j) (qM (rs.getD (sg.Jz.length+j) .undef)) /\
  ∀ b k i,i<255->Of b k=some (256*bi j+i)->O2 b k=some (if i=0 then p.1 else Le fet p.1+i):=by
  intro j p hp;obtain⟨i',a1,a2,a3,s',a7,a4⟩:=b2' j p hp;rw[DD]at a1;have hbi:bi j=i':=by show(KC sg.Jp 0).getD j 0=_;rw[Di,a1];rfl
  have c2:=hcame.boxes j i' a1;have hi'x:i'<xs.length:=by rw[g2];exact a2
  have hxv:=hx i' hi'x;have hF':FOk O st.Jm m w fet:=fun q x h=>⟨hf q x h,hS.Jm q x (hf q x h)⟩
  have hkey:(∃ y,Jr st.Jm p.1=some y/\zW p.2 y)/\(∀ ks,p.2= .box ks->ks.length<=200)/\m p.1=innerS w (sg.Jp.getD i' (.agg [])) (av.getD i' undef)/\mV sg.Jp xs i'=some p.1:=by
   obtain⟨q,s⟩:=p;have hs':sg.Jp.getD i' (.agg [])=s':=by rw[Di,a7];rfl
   cases s' with
   | cell _ _=>exact a4.elim
   | agg _=>exact a4.elim
   | box ks =>
    obtain⟨⟨cs0,a4⟩,a5,a6,a8⟩:=a4;dsimp only at a8;subst a8;have e5:xs.getD i' .undef= .ptr q 0:=by rw[Di,a5];rfl
    rw[e5]at hxv;obtain⟨bk,base,k1,k2,_⟩:=hxv.ptr hF' a4;refine⟨⟨_,hf _ _ a4,trivial⟩,(fun ks' h=>by injection h with h;rw[<- h];exact a6),by rw[hs'];dsimp only at k1 ⊢;rw[k1,k2,Nat.add_zero];rfl,?_⟩;unfold mV;rw[hs',e5]
   | clo f' ks =>
    obtain⟨⟨cs0,a4⟩,a5,a6,a8⟩:=a4;dsimp only at a8;subst a8;have e5:xs.getD i' .undef= .clo f' q:=by rw[Di,a5];rfl
    rw[e5]at hxv;have hc:J4 O st.Jm m w (av.getD i' undef) (.clo f' q):=hxv;obtain⟨_,p',_,hc2,hc⟩:=hc;rw[hf _ _ a4]at hc;obtain⟨b',base',e1,e2⟩:=hc;have hc:UM O w f' (av.getD i' undef) (m q):=by rw[e1,<- e2];exact hc2
    refine⟨⟨_,hf _ _ a4,trivial⟩,(fun ks' h=>by injection h with h;rw[<- h];exact a6),by rw[hs'];exact hc.inner.symm,?_⟩;unfold mV;rw[hs',e5]
   | map kt vt =>
    obtain⟨⟨l,a4⟩,a5,a8⟩:=a4;dsimp only at a8;subst a8;have e5:xs.getD i' .undef= .own q:=by rw[Di,a5];rfl
    rw[e5]at hxv;have hc:J4 O st.Jm m w (av.getD i' undef) (.own q):=hxv;have hc:=hc.2;rw[hf _ _ a4]at hc;refine⟨⟨_,hf _ _ a4,trivial⟩,(fun ks' h=>by cases h),by rw[hs'];exact hc.symm,?_⟩;unfold mV;rw[hs',e5]
  obtain⟨hky,hk200,hkm,e7⟩:=hkey;refine⟨hky,hk200,?_,?_,fun b k i hi h=> ?_⟩
  .show _=innerS w (sg.Jp.getD (bi j) (.agg [])) (av.getD (bi j) undef);rw[hbi];exact hkm
  .show IR Of w' (256*bi j) (innerS w (sg.Jp.getD (bi j) (.agg [])) (av.getD (bi j) undef)) _;rw[hbi];exact c2
  .rw[hbi]at h;rw[hsome b k _ h (by omega)];unfold iI;rw[Du];have e1:(256*i'+i) / 256=i':=by omega
   have e2:(256*i'+i) % 256=i:=by omega
   rw[e1,e2,e7]
 let NEW:=(JX (b2 d) 16 sg.Jz rs 0).2.2++(Ko (Le fet) (rs.drop sg.Jz.length) bxs 0).2.2;let BX:=(Ko (Le fet) (rs.drop sg.Jz.length) bxs 0).2.1;let objsF:=J3 (JK (J3 st.Jm (upd++BX)) del) NEW;have hnewO: ∀ p∈NEW,Jr objsF p.1=some p.2:=fun p hp=>Yn hnd hp
 have hBXk: ∀ i z,(i,z)∈BX-> ∃(j:Nat) (p:Nat×Sh),bxs[j]? =some p/\p.1=i/\ ∃ r,z=(LV (Le fet p.1) p.2 r).2.1:=by
  intro i z hz
  have: ∀(bs:List (Nat×Sh)) (j0:Nat),(i,z)∈(Ko (Le fet) (rs.drop sg.Jz.length) bs j0).2.1-> ∃(j:Nat) (p:Nat×Sh),bs[j]? =some p/\p.1=i/\ ∃ r,z=(LV (Le fet p.1) p.2 r).2.1:=by
   intro bs
   induction bs with
   | nil=>intro j0 h;simp [Ko]at h
   | cons b bs ih =>
    intro j0 h;obtain⟨q,ks⟩:=b;simp only[Ko]at h;rcases Dx.1 h with h | h
    .injection h with h1 h2;exact⟨0,(q,ks),rfl,h1.symm,_,h2⟩
    .obtain⟨j,p,h1,h2⟩:=ih (j0+1) h;exact⟨j+1,p,by simpa using h1,h2⟩
  exact this bxs 0 hz
 have hupdk: ∀ i z,(i,z)∈upd->(∃ e l f,z= .arr e true l/\Jr st.Jm i=some (.arr e f l))/\Jr (J3 st.Jm upd) i=some z:=by intro i z hz;obtain⟨e,fz,l,k1,k2⟩:=g3 _ hz;dsimp only at k1 k2;refine⟨⟨e,l,fz,k2,k1⟩,?_⟩;obtain⟨x,hx1,hx2⟩:=MC upd st.Jm i ⟨(i,z),hz,rfl⟩;obtain⟨e',fz',l',k3,k4⟩:=g3 _ hx1;dsimp only at k3 k4;rw[k1]at k3;injection k3 with k3;injection k3 with q1 q2 q3;subst q1;subst q3;rw[hx2,k4,k2]
 have hnoBX: ∀ i,(∃ e f l,Jr st.Jm i=some (.arr e f l))-> ∀ y,(i,y)∉BX:=by rintro i ⟨e,f',l,h⟩ y hy;obtain⟨j,p,h1,h2,_⟩:=hBXk i y hy;obtain⟨⟨y',h3,h4⟩,_⟩:=hbx j p h1;rw[h2,h]at h3;injection h3 with h3;subst h3;exact dR h4
 have hTiff: ∀ i,T i->i∈del\/ ∃ y,(i,y)∈BX:=by
  rintro i ⟨n,hn'⟩;have h1:(i,n)∈N:=dM hn';have h2:=(g4 i).2 (D8.2 ⟨_,h1,rfl⟩);rcases DJ.1 h2 with h2 | h2
  .exact .inl h2
  .right;rw[<- xA (Le fet) (rs.drop sg.Jz.length) bxs 0]at h2;obtain⟨q,hq1,hq2⟩:=D8.1 h2;exact⟨q.2,by rw[<- hq2];exact hq1⟩
 have hget: ∀ i z,Jr objsF i=some z->(i,z)∈NEW\/(¬ Nw i/\i∉del/\((i,z)∈BX\/((∀ y,(i,y)∉BX)/\Jr (J3 st.Jm upd) i=some z))):=by
  intro i z hz;rcases QY hz with h | ⟨hno,hnd',h⟩
  .exact .inl h
  .have hni: ¬ Nw i:=by rintro ⟨p,hp,rfl⟩;exact hno p.2 hp
   refine .inr ⟨hni,hnd',?_⟩;rcases h with h | ⟨h1,h2⟩
   .rcases DJ.1 h with h | h
    .obtain⟨⟨e,l,f',h3,h4⟩,h5⟩:=hupdk i z h;exact .inr ⟨hnoBX i ⟨e,f',l,h4⟩,h5⟩
    .exact .inl h
   .right;refine⟨fun y hy=>h1 y (Dy _ hy),?_⟩;rw[KW _ _ _ (fun p hp e=>h1 p.2 (Dz _ (by rw[<- e];exact hp)))];exact h2
 have hbxst: ∀ i z,(i,z)∈BX-> ∃ y,Jr st.Jm i=some y/\Jr (J3 st.Jm upd) i=some y/\y.shp=z.shp:=by
  intro i z hz;obtain⟨j,p,h1,h2,r,h4⟩:=hBXk i z hz;obtain⟨⟨y,h3,h5⟩,_⟩:=hbx j p h1;rw[h2]at h3;refine⟨y,h3,?_,by rw[h4];exact Afr h5⟩;rw[KW _ _ _ (fun p hp e=> ?_)]
  .exact h3
  .obtain⟨⟨e1,e2,e3,_,h6⟩,_⟩:=hupdk p.1 p.2 hp;rw[e,h3]at h6;injection h6 with h6;rw[h6]at h5;exact dR h5
 have hE:NY (J3 st.Jm upd) m objsF m2 Nw:=by
  intro i z hz;rcases hget i z hz with h | ⟨h1,h2,h | ⟨h3,h4⟩⟩
  .exact .inl ⟨_,h,rfl⟩
  .obtain⟨y,h5,h6,h7⟩:=hbxst i z h;exact .inr ⟨y,h6,h7,hm2not i h1⟩
  .exact .inr ⟨z,h4,rfl,hm2not i h1⟩
 obtain⟨r1,r2,r3⟩:=mP (objs':=objsF) (m':=m2) (cid:=256000) (cst:=256) (id:=b2 d) (stride:=16) (f:=fun k=>us.getD k undef) (g:=fun k=>innerS w' (sg.Jz.getD k (.agg [])) (us.getD k undef)) (rs:=rs) hpf hnone sg.Jz 0 (fun j _=>by rw[DD]) (fun j hj=>by have:=hus3 j (by rw[hus1];exact hj);rw[DD];exact this) hrres hokD (fun p hp=>hnewO p (Dz _ hp)) (fun p hp=>hm2 p (Dz _ hp))
 obtain⟨s1,s2⟩:=rQ (rb:=Le fet) (objs':=objsF) (m':=m2) (val:=bval) (cid:=fun j=>256*bi j) (rs:=rs.drop sg.Jz.length) hpf hnone bxs 0 (fun j p hp=>by
  obtain⟨⟨y0,h0,h0'⟩,h1,h2,h4,h5⟩:=hbx j p hp
  have hni: ¬ Nw p.1:=fun h=>by
   have:=(hNw p.1 h).Jm;dsimp only at this;rw[KW _ _ _ (fun p' hp' e=> ?_)]at this
   .rw[h0]at this;cases this
   .obtain⟨⟨e1,e2,e3,_,h6⟩,_⟩:=hupdk p'.1 p'.2 hp';rw[e,h0]at h6;injection h6 with h6;rw[h6]at h0';exact dR h0'
  rw[DD];refine⟨h1,by rw[hm2not _ hni];exact h2,?_,h5⟩;rw[Di,EJ,<- Di];exact h4) hokC (fun p hp=>hnewO p (Dy _ hp)) (fun p hp=>hm2 p (Dy _ hp))
 let vsR:=(JX (b2 d) 16 sg.Jz rs 0).2.1
 have hval:Jw O2 objsF m2 w' v (zZ vsR):=by
  have hlen:vsR.length=us.size:=by rw[r1,hus1]
  rw[hus2];by_cases h1:us.size=1
  .rw[dif_pos h1];obtain⟨x,hx'⟩: ∃ x,vsR=[x]:=Ey.1 (by rw[hlen];exact h1);rw[hx'];have:=(r2 0 (by rw[<- hus1];omega)).1;have e1:(JX (b2 d) 16 sg.Jz rs 0).2.1.getD 0 .undef=x:=by show vsR.getD 0 .undef=x;rw[hx'];rfl
   rw[e1]at this;have e2:us.getD (0+0) undef=us[0]:=by simp [Dj,show 0<us.size from by omega]
   rw[<- e2];exact this
  .rw[dif_neg h1]
   have e1:zZ vsR= .tup vsR:=by
    cases hv':vsR with
    | nil=>rfl
    | cons x l =>
     cases l with
     | nil=>rw[hv']at hlen;simp at hlen;omega
     | cons _ _=>rfl
   rw[e1];refine⟨us,rfl,hlen.symm,fun j hj=> ?_⟩;have hj':j<sg.Jz.length:=by rw[<- r1];exact hj
   have:=r2 j hj';rw[DD]at this;exact this.1.AhO this.2
 refine hn O2 m2 _ _ ?_;refine hS1.next (T:=T) (Nw:=Nw) (x:=zZ vsR) hM hP2 hless2 hE (fun n hn'=>(hNw n hn').both) (fun q hq=> ?_) (fun i z hz=> ?_) rfl (fun _=>hval)
 .obtain⟨n,hn'⟩:=hq;have h1:(q,n)∈N:=dM hn';have h2:=halive _ h1;obtain⟨y,hy⟩:=Eg.1 h2;have h3:=hf _ _ hy;by_cases hu: ∃ p∈upd,p.1=q
  .obtain⟨x,_,hx2⟩:=MC upd st.Jm q hu;exact Eg.2 ⟨x,hx2⟩
  .dsimp only;rw[KW _ _ _ (fun p hp e=>hu ⟨p,hp,e⟩)];exact Eg.2 ⟨y,h3⟩
 .rcases hget i z hz with h | ⟨h1,h2,h | ⟨h3,h4⟩⟩
  .right;refine⟨?_,(hNw i ⟨_,h,rfl⟩).ne⟩;rcases DJ.1 h with h | h
   .exact r3 _ h
   .exact s2 _ h
  .right;obtain⟨y,h5,h6,_⟩:=hbxst i z h;exact⟨s1 _ h,hS.ids i _ h5⟩
  .left;refine⟨fun ht=> ?_,h4,hm2not i h1⟩;rcases hTiff i ht with h | ⟨y,hy⟩
   .exact h2 h
   .exact h3 y hy
theorem wE {c:Call} {f:Nat} {sg:Sig} {x0:Operand} (hS:Sim V0 O0 w0 O m st a w) (ho:o.op= .call c) (hcal:c.callee= .value x0) (hev:a.eval x0= .func (.func f) #[] #[]) (hsp:Spec P f sg) {d:Nat} {fet:Fet} (hf:MP st.Jm fet) {xs:List A}
 (hl:xs.length=c.args.size) (hx: ∀ j,j<xs.length->Jw O st.Jm m w (a.eval (c.args.getD j (.tmp 0))) (xs.getD j .undef))
 (hok:Jv (N8 fet d sg xs).ok) (hfr: ∀ p∈(N8 fet d sg xs).new,st.fresh p.1=true) (hnd:nodup ((N8 fet d sg xs).new.map (·.1))=true):Good P V0 O0 w0 (apply st o (N8 fet d sg xs)) o a w:=by
 refine mY (av:=c.args.map a.eval) hS ho hcal hev (by simp) hsp hf (by simpa using hl) (fun j hj=> ?_) hok hfr hnd;have hjs:j<c.args.size:=by rw[<- hl];exact hj
 have e:(c.args.map a.eval).getD j undef=a.eval (c.args.getD j (.tmp 0)):=by simp [Dj,hjs]
 rw[e];exact hx j hj
end
section
variable {P:Program} {C:Ctx} {V0:Nat->Value} {O0 O:Own} {w0 w:World} {m:Nat->Value} {st:St} {a:Act} {o:Oper}
theorem AdY {cs:List A} {r:Nat} (h:AdX cs=some r):cs=[.ptr r 0]:=by unfold AdX at h;all_goals grind[split]
theorem AfT {f:Nat} {x:Operand} (hS:Sim V0 O0 w0 O m st a w) (ho:o.op= .makeFunc (.func f) #[] #[x]) {fet:Fet} (hf:MP st.Jm fet) {x':A} (hx:Jw O st.Jm m w (a.eval x) x') (hok:Jv (rW fet f x').ok) :
 Good P V0 O0 w0 (apply st o (rW fet f x')) o a w:=by
 intro next Q hn
 have hF:FOk O st.Jm m w fet:=fun q x h=>⟨hf q x h,hS.Jm q x (hf q x h)⟩
 cases x' with
 | ptr q off =>
  unfold rW at hok hn;dsimp only at hok hn;obtain⟨cs,hb,he⟩:=J8 hok;rw[he]at hok hn;clear he;obtain⟨r,hr,he⟩:=J8 hok;rw[he]at hok hn;clear he;have h0:=Dk hok.cons.1;subst h0;obtain rfl:=AdY hr;obtain⟨b,base,g1,g2,g3⟩:=hx.ptr hF (KJ hb);obtain⟨k1,k2,u,k3,k4⟩:=g3 0 (by simp);rw[Nat.add_zero]at k1 k3 g2;let O':Own:=fun b' k'=>if b'=b/\k'=base then none else O b' k';have hO': ∀ b' k',O' b' k'=if b'=b/\k'=base then none else O b' k':=fun _ _=>rfl;have hrun:(execOp a.eval o).run P w= .ok (.value (.func (.func f) #[] #[a.eval x])) w:=by simp [execOp,ho,Instr.makeFunc]
  unfold Oper.wp;rw[hrun,Oper.upon_value];refine hn O' m _ _ ?_;have hP:Passes O O' (· =q) w.heap.size:=by refine⟨fun b' k' _ h=> ?_,fun b' k' o' _ h ht=> ?_⟩;all_goals grind[split]
  have hget: ∀ i y,Jr (apply st o {ok:=[Nat.beq 0 0],val:=.clo (f+1) r,del:=[q]}).Jm i=some y->i≠q/\Jr st.Jm i=some y:=by
   intro i y hy;rcases QY hy with h | ⟨_,h2,h | ⟨_,h⟩⟩
   .cases h
   .cases h
   .exact⟨fun e=>h2 (by rw[e];exact Dp),h⟩
  refine hS.next (T:=(· =q)) (Nw:=fun _=>False) (Moves.refl O _ w) hP (fun b' k' _ h h'=>h (by rw[hO',h'];split<;>rfl)) (fun i y hy=>.inr ⟨y,(hget i y hy).2,rfl,rfl⟩) (fun _ h=>h.elim)
   (fun o' h=>by rw[h,hf _ _ (KJ hb)];rfl) (fun i y hy=>.inl ⟨(hget i y hy).1,(hget i y hy).2,rfl⟩) rfl (fun _=> ?_)
  show J4 O' _ m w _ (.clo (f+1) r);have k4:J4 O st.Jm m w u (.ptr r 0):=k4;refine⟨rfl,u,k4.1,⟨b,base,by rw[g2];rfl,by rw[hO',Dw ⟨rfl,rfl⟩],k3⟩,?_⟩;cases hr':Jr (apply st o {ok:=[Nat.beq 0 0],val:=.clo (f+1) r,del:=[q]}).Jm r with
  | none=>trivial
  | some y =>
   have hy:=(hget r y hr').2;cases y with
   | box cs' =>have k4:=k4.2;rw[hy]at k4;exact k4
   | _=>trivial
 | _=>exact(J5 hok).elim
theorem Agc {C:Ctx} {d:TypeDesc}: ∀(xs:List (Nat×A)) (cs cs':List A),fill C d xs cs=some cs'-> ∀ i∈cs'.flatMap A.Lp,i∈cs.flatMap A.Lp\/ ∃ x∈xs,i∈x.2.ids:=by
 intro xs
 induction xs with
 | nil=>intro cs cs' h i hi;simp only[fill]at h;injection h with h;rw[h];exact .inl hi
 | cons x xs ih =>
  intro cs cs' h i hi;obtain⟨k,x⟩:=x;simp only[fill]at h;cases hp:iE C d k with
  | none=>rw[hp]at h;cases h
  | some q =>
   obtain⟨off,ti⟩:=q;rw[hp]at h;dsimp only at h;cases hb:(x.isVal&&Nat.beq x.cells.length ti.cs.length&&Nat.ble (off+ti.cs.length) cs.length)with
   | false=>rw[hb]at h;cases h
   | true =>
    rw[hb]at h;simp only[cond_true]at h;simp only[Dn]at hb;rcases ih _ _ h i hi with h1 | ⟨y,h1,h2⟩
    .unfold splice at h1;simp only[List.flatMap_append,DJ]at h1;rcases h1 with (h1 | h1) | h1
     .left;obtain⟨c,hc,hci⟩:=DW.1 h1;exact DW.2 ⟨c,FT hc,hci⟩
     .right;refine⟨(k,x),Dp,?_⟩;obtain⟨c,hc,hci⟩:=DW.1 h1;obtain⟨j,hj,rfl⟩:=ET.1 hc;all_goals grind[aP]
     .left;obtain⟨c,hc,hci⟩:=DW.1 h1;exact DW.2 ⟨c,List.mem_of_mem_drop hc,hci⟩
    .exact .inr ⟨y,Dq _ h1,h2⟩
theorem AfQ {t n:Nat} {ps:Array (Nat×Operand)} (hC:TOk P C) (hS:Sim V0 O0 w0 O m st a w) {d:Tmp} (hd:o.dst=some d) (ho:o.op= .buildSlice t n ps) {xs:List (Nat×A)}
 (hl:xs.length=ps.size) (hx: ∀(j:Nat) (x:Nat×A) (p:Nat×Operand),xs[j]? =some x->ps[j]? =some p->p.1=x.1/\Jw O st.Jm m w (a.eval p.2) x.2)
 (hids: ∀ x∈xs,∀ i∈x.2.ids,i∈st.ids\/(Jr st.Jm i).isSome)
 (hok:Jv (aJ C d t n xs).ok) (hfr: ∀ p∈(aJ C d t n xs).new,st.fresh p.1=true) (hnd:nodup ((aJ C d t n xs).new.map (·.1))=true):Good P V0 O0 w0 (apply st o (aJ C d t n xs)) o a w:=by
 unfold aJ at *
 obtain⟨ti,e,te,ht,hte,hd',he⟩:=QP hok;rw[he]at hok hfr hnd ⊢;clear he;obtain⟨cs,hcs,he⟩:=J8 hok;rw[he]at hok hfr hnd ⊢;clear he;obtain⟨h0,h1⟩:=hok.cons;have hn:=D6 h1.cons.1;have hk:=wL h0;have hk1:te.cs.length=1:=by rw[hk];rfl
 have hT:=hC.is hd';obtain⟨i,z,g1,g2,g3,g4,g5,g6⟩:=hT.i;have hu:=(hC.is ht).d;rw[hte]at hu;obtain⟨hz1,hz2⟩:=YC (O:=O) (w:=w) hT (by rw[g1];exact g4) (by rw[hk];rfl) (by rw[hk1];decide) n;rw[hk1,Eo]at hz1
 have hz:Oe O st.Jm m w (zeros z (n*te.cs.length)) (List.replicate n .KO):=by
  rw[hk1,Eo];refine⟨by rw[hz1,Eb],fun j hj=> ?_⟩;rw[Eb]at hj;obtain⟨u,k1,k2⟩:=hz2.2 j 0 (by simpa using hj) (by rw[hk1];decide);rw[hk1,Eo,Eo,Nat.add_zero]at k1;have e1:(zeros z n).getD j undef=u:=by rw[Dj,k1];rfl
  have e2:(List.replicate n A.KO).getD j .undef= .KO:=by simp [Di,hj]
  rw[e1,e2];have e3:((List.replicate n (te.cs.map CK.MG)).getD j []).getD 0 .undef= .KO:=by simp [Di,hj,hk,CK.MG,CK.zero]
  rw[e3]at k2;exact k2
 obtain⟨vs',f1,f2⟩:=Aa6 (O:=O) (Jm:=st.Jm) (m:=m) (w:=w) hC (d:=.array n e) (place:=fun i=>some (i*te.cs.length,te.cs.length)) (fun i p hp=>by
  simp only[VP,g1,Option.map_some]at hp;rw[<- hp];have:te.cs.length=_:=rfl;simp [g2]) xs (ps.map (fun(i,x)=>(i,a.eval x))).toList _ _ cs (by simp [hl]) (fun j x p hxj hpj=>by
  simp only[FB,DV]at hpj;cases hq:ps.toList[j]? with
  | none=>rw[hq]at hpj;cases hpj
  | some q =>rw[hq]at hpj;injection hpj with hpj;subst hpj;exact hx j x q hxj (by simpa using hq)) hz hcs
 refine wB (ks:=[]) (t:=e) (r:=.slice (some (at' w.heap.size 0)) n n) hS f2 (fun j hj i hi=> ?_) hd ?_ (fun O' objs' m' w' c hc hm=> ?_) hfr hnd
 .rcases Agc _ _ _ hcs i (OW (f:=A.Lp) hj hi)with h | ⟨x,h2,h3⟩
  .obtain⟨c,hc,hci⟩:=DW.1 h;rw[EH hc]at hci;cases hci
  .exact hids x h2 i h3
 .have hbig: ¬(16777216<n*te.cs.length):=by rw[hk1];omega
  simp only[execOp,ho,Dv,Instr.buildSlice,DC hu,Result.andThen_ok,hT.MM];rw[Du (by simpa using hbig)];by_cases h0:n*te.cs.length=0
  .have hz0:(Array.range (n*te.cs.length)).map ((#[]:Array Value)[· % (#[]:Array Value).size]!)=zeros z (n*te.cs.length):=by simp [zeros,h0]
   simp only[Dw h0,Dv,Sem.run_pure,Result.andThen_ok,hz0,f1];rfl
  .simp only[Du h0,Dv,Sem.run_pure,Result.andThen_ok,zeroValue,typeInfo,run_program,g1,g4];have hz0:(Array.range (n*te.cs.length)).map (z.cells[· % z.cells.size]!)=zeros z (n*te.cs.length):=rfl;rw[hz0,f1];rfl
 .show J4 O' objs' m' w' _ (.bsl (b2 d) n);refine⟨rfl,?_⟩;rw[hc];exact⟨w.heap.size,0,hm,rfl⟩
end
end Go.Proofs.YtpaimpmokhihmaaGreatDoor.Vm
