import Derived.Test.YtpaimpmokhihmaaGreatDoorA9
set_option linter.all false
namespace Go.Proofs.YtpaimpmokhihmaaGreatDoor.Vm
open Classical
section
variable {P:Program} {C:Ctx} {V0:Nat->Value} {O0 O:Own} {w0 w:World} {m:Nat->Value} {st:St} {a:Act} {o:Oper}
def nD (ss:List Sh) (xs:List A) (i:Nat):Option Nat:=match ss.getD i (.agg []),xs.getD i .undef with
 | .map _ _,.own o=>some o
 | .clo _ _,.clo _ o=>some o
 | .box _,.clo _ o=>some o
 | .clo _ _,.ptr o _=>some o
 | _,.ptr o _=>some o
 | _,_=>none
def iQ (rb:Nat->Nat) (d:Nat) (ss:List Sh) (xs:List A) (n:Nat):Option Nat :=
 if 256000<=n then some (b2 d+16*((n - 256000) / 256)+(n - 256000) % 256)
 else match nD ss xs (n / 256)with
  | some q=>some (if n % 256=0 then q else rb q+n % 256)
  | none=>none
def Aad:Sh->Obj->Prop
 | .box _,.box _=>True
 | .map _ _,.mp _=>True
 | _,_=>False
theorem dZ {s:Sh} {e:Nat} {f:Bool} {l:Sl} (h:Aad s (.arr e f l)):False:=by cases s<;>exact h
theorem Af3 {s:Sh} {y:Obj} {rb:Nat} {r:A} (h:Aad s y):y.shp=(LY rb s r).2.1.shp:=by cases s<;>cases y<;>first | exact h.elim | rfl
theorem Aas {d:Nat} {fet:Fet} {sg:Sig} {xs:List A} (h:Jv (N9 fet d sg xs).ok):sg.ok (VG fet sg.Jp xs).vs=true:=by unfold N9 zU at h;exact h.append.1.append.1.append.1.append.2.cons.1
theorem nI {c:Call} {f:Nat} {sg:Sig} {x0:Operand} {caps av:Array Value} (hS:Sim V0 O0 w0 O m st a w) (ho:o.op= .call c) (hcal:c.callee= .value x0) (hev:a.eval x0= .func (.func f) #[] caps) (hav:c.args.map a.eval++caps=av) (hsp:Spec P f sg) {d:Nat} {fet:Fet} (hf:MV st.Jm fet) {xs:List A}
 (hl:xs.length=av.size) (hx: ∀ j,j<xs.length->Jy O st.Jm m w (av.getD j undef) (xs.getD j .undef))
 (hok:Jv (N9 fet d sg xs).ok) (hfr: ∀ p∈(N9 fet d sg xs).new,st.fresh p.1=true) (hnd:nodup ((N9 fet d sg xs).new.map (·.1))=true):Good P V0 O0 w0 (apply st o (N9 fet d sg xs)) o a w:=by
 intro next Q hn
 unfold N9 at hok hfr hnd hn;generalize hH:VG fet sg.Jp xs=H at *
 obtain⟨hok1,vsA,upd,del,bxs⟩:=H;have hHs:J8 fet sg.Jp xs=(hok1,vsA,upd,del,bxs):=by unfold VG at hH;injection hH with q1 q2 q3 q4 q5;rw[<- q1,<- q2,<- q3,<- q4,<- q5]
 dsimp only at hok hfr hnd hn;unfold zU at hok;obtain⟨hokA,hokB⟩:=hok.append;obtain⟨hokA,hokC⟩:=hokA.append;obtain⟨hokA,hokD⟩:=hokA.append;obtain⟨hokA,hokE⟩:=hokA.append;obtain⟨hN,hokB⟩:=hokB.cons;obtain⟨h100,hokB⟩:=hokB.cons;have h100:=D7 h100;have hF:sg.F vsA=some (sg.val vsA):=by have:=hokE.cons.1;unfold Sig.F;rw[this];rfl
 have hokA':Jv (J8 fet sg.Jp xs).1:=by rw[hHs];exact hokA
 generalize sg.val vsA=rs at hF hfr hnd hn hokB hokC hokD;simp only[zU]at hfr hnd hn hokB hokC hokD;have hcnt:=Dk hokB.cons.1;obtain⟨g1,g2,g3,g4,g5⟩:=Ut (W:=upd=[]) hf hS.Jm 256 sg.Jp xs 0 (fun j=>av.getD j undef) (fun e=>by have:=hokB.cons.2.cons.1;rw[e]at this;simpa using this) hx hokA';obtain⟨b1,b2'⟩:=Agd (fet:=fet) (stride:=256) sg.Jp xs 0 0 hokA';have halive:=Ux (fet:=fet) (stride:=256) sg.Jp xs 0 hokA';rw[hHs]at g1 g3 g4 g5 b1 b2';dsimp only at g1 g3 g4 g5 b1 b2';generalize hNs:LK fet 0 256 sg.Jp xs=N at *
 obtain⟨O1,hS1,hp1,hle1,hv1,hE1,hk1⟩:=hS.freezes _ g3;let ρ :=look N;have hρ : ∀ p∈N,ρ p.1=some p.2:=Abb hN;have hupdO: ∀ p∈upd,Kz O1 (J3 st.Jm upd) m w p.1 p.2:=by intro p hp;obtain⟨x,hx1,hx2⟩:=MG upd st.Jm p.1 ⟨p,hp,rfl⟩;obtain⟨e,fz,l,k1,k2⟩:=g3 p hp;obtain⟨e',fz',l',k3,k4⟩:=g3 _ hx1;dsimp only at k3 k4;rw[k1]at k3;injection k3 with k3;injection k3 with q1 q2 q3;subst q1;subst q3;rw[k2,<- k4];exact hS1.Jm p.1 x hx2
 have hIR:=g5 hp1 hv1 hupdO hk1 hρ;have hargs:av.size=vsA.length:=by rw[<- hl,g2,g1]
 have hexec:(execOp a.eval o).run P w= .ok (.enter f av) w:=by simp only[execOp,ho,resolve,hcal,hev,Deferred.ofValue,Dv,Sem.run_pure,Result.andThen_ok,invoke];have:=hsp.1 av w;simpa [hav]using this
 unfold Oper.wp;rw[hexec,Oper.upon_enter];refine(hsp.2 (Me O1 ρ) w av vsA rs ⟨fun g j p ht=>⟨Sm.2 (hS1.pK.1 g j p ht).1,(hS1.pK.1 g j p ht).2⟩,hS1.pK.2⟩ hargs g1 (by rw[g1,<- g2];exact h100) (fun j hj=> ?_) hF).mono ?_
 .have:=hIR j (by rw[<- g1];exact hj);rw[DF]at this;exact this
 rintro e w' ⟨v,Of,rfl,hcame⟩;dsimp only;obtain⟨us,hus1,hus2,hus3⟩:=hcame.res;let T:Nat->Prop:=fun q=> ∃ i,ρ q=some i;let O2:Own:=fun b k=>if b<w.heap.size then(match O1 b k with | none=>none | some q=>if T q then(Of b k).bind (iQ (Lh fet) d sg.Jp xs)else some q)else(Of b k).bind (iQ (Lh fet) d sg.Jp xs);have hM:Moves O1 T w w':=hcame.moves.Ahz;have hO2lt: ∀ {b k},b<w.heap.size->O2 b k=(match O1 b k with | none=>none | some q=>if T q then(Of b k).bind (iQ (Lh fet) d sg.Jp xs)else some q):=fun hb=>Dw hb;have hP2:Passes O1 O2 T w.heap.size:=by refine⟨fun b k hb h=>by rw[hO2lt hb,h],fun b k q hb h ht=> ?_⟩;rw[hO2lt hb,h];exact Du ht
 have hless2: ∀ b k,b<w.heap.size->O2 b k≠none->O1 b k≠none:=by intro b k hb h h';rw[hO2lt hb,h']at h;exact h rfl
 have hnone: ∀ b k,Of b k=none->O2 b k=none:=by
  intro b k h;by_cases hb:b<w.heap.size
  .rw[hO2lt hb];cases hO:O1 b k with
   | none=>rfl
   | some q =>
    by_cases ht:T q
    .show(if T q then _ else _)=_;rw[Dw ht,h];rfl
    .exfalso
     have hr:Me O1 ρ b k=some 255:=by
      unfold Me;rw[hO]
      have: ρ q=none:=by
       cases hh: ρ q with
       | none=>rfl
       | some i=>exact absurd ⟨i,hh⟩ ht
      simp [this]
     have:=hcame.VM b k hb hr;rw[h]at this;cases this
  .show(if _ then _ else _)=_;rw[Du hb,h];rfl
 have hsome: ∀ b k n,Of b k=some n->n≠255->O2 b k=iQ (Lh fet) d sg.Jp xs n:=by
  intro b k n h hne;by_cases hb:b<w.heap.size
  .rw[hO2lt hb];have h1:=hcame.less b k hb (by rw[h];simp);rw[Ne,Sm]at h1;cases hO:O1 b k with
   | none=>exact absurd hO h1
   | some q =>
    by_cases ht:T q
    .show(if T q then _ else _)=_;rw[Dw ht,h];rfl
    .exfalso
     have hr:Me O1 ρ b k=some 255:=by
      unfold Me;rw[hO]
      have: ρ q=none:=by
       cases hh: ρ q with
       | none=>rfl
       | some i=>exact absurd ⟨i,hh⟩ ht
      simp [this]
     have:=hcame.VM b k hb hr;rw[h]at this;injection this with this;exact hne this
  .show(if _ then _ else _)=_;rw[Du hb,h];rfl
 have hpf:Lt Of w' O2 w':=fun b k u h hc=>⟨hnone b k h,hc⟩
 have hbcnt:bxs.length=(KF sg.Jp 0).length:=b1;let bi:Nat->Nat:=fun j=>(KF sg.Jp 0).getD j 0;let bval:Nat->Value:=fun j=>innerS w (sg.Jp.getD (bi j) (.agg [])) (av.getD (bi j) undef);let HV:=Rk w' (fun k=>innerS w' (sg.Jz.getD k (.agg [])) (us.getD k undef)) (b2 d) 16 sg.Jz rs 0++PY (Lh fet) w' bval (rs.drop sg.Jz.length) bxs 0;have hHVf:HV.map (·.1)=((Ko (b2 d) 16 sg.Jz rs 0).2.2++(Kt (Lh fet) (rs.drop sg.Jz.length) bxs 0).2.2).map (·.1):=by simp only[HV,Et,Adh,rX]
 have hHVn:nodup (HV.map (·.1))=true:=by rw[hHVf];exact hnd
 let m2:Nat->Value:=fun i=>(Xa HV i).getD (m i);have hm2: ∀ p∈HV,m2 p.1=p.2:=by intro p hp;show(Xa HV p.1).getD _=_;rw[Afr hHVn p hp];rfl
 let Nw:Nat->Prop:=fun i=> ∃ p∈(Ko (b2 d) 16 sg.Jz rs 0).2.2++(Kt (Lh fet) (rs.drop sg.Jz.length) bxs 0).2.2,p.1=i;have hNw: ∀ i,Nw i->Ns {st with Jm:=J3 st.Jm upd} i:=by rintro i ⟨p,hp,rfl⟩;exact(Lu (hfr p hp)).frz g3
 have hm2not: ∀ i,¬ Nw i->m2 i=m i:=by
  intro i hi;show(Xa HV i).getD _=_;rw[AdS (fun h=> ?_)]
  .rfl
  .rw[hHVf]at h;obtain⟨p,hp,hpe⟩:=D6.1 h;exact hi ⟨p,hp,hpe⟩
 have hrres: ∀ j,j<sg.Jz.length-> ∀ b k i,i<255->Of b k=some (256000+256*(0+j)+i)->O2 b k=some (b2 d+16*(0+j)+i):=by
  intro j hj b k i hi h;rw[hsome b k _ h (by omega)];unfold iQ;rw[Ajk,DF];have e1:(256000+256*j+i - 256000) / 256=j:=by omega
  have e2:(256000+256*j+i - 256000) % 256=i:=by omega
  rw[e1,e2]
 have hbx: ∀(j:Nat) (p:Nat×Sh),bxs[j]? =some p->(∃ y,Jr st.Jm p.1=some y/\Aad p.2 y)/\(∀ ks,p.2= .box ks->ks.length<=200)/\m p.1=bval j/\IR Of w' (256*bi j) (bval j) (qR (rs.getD (sg.Jz.length+j) .undef)) /\
  ∀ b k i,i<255->Of b k=some (256*bi j+i)->O2 b k=some (if i=0 then p.1 else Lh fet p.1+i):=by
  intro j p hp;obtain⟨i',a1,a2,a3,s',a7,a4⟩:=b2' j p hp;rw[DF]at a1;have hbi:bi j=i':=by show(KF sg.Jp 0).getD j 0=_;rw[Di,a1];rfl
  have c2:=hcame.boxes j i' a1;have hi'x:i'<xs.length:=by rw[g2];exact a2
  have hxv:=hx i' hi'x;have hF':FOk O st.Jm m w fet:=fun q x h=>⟨hf q x h,hS.Jm q x (hf q x h)⟩
  have hkey:(∃ y,Jr st.Jm p.1=some y/\Aad p.2 y)/\(∀ ks,p.2= .box ks->ks.length<=200)/\m p.1=innerS w (sg.Jp.getD i' (.agg [])) (av.getD i' undef)/\nD sg.Jp xs i'=some p.1:=by
   obtain⟨q,s⟩:=p;have hs':sg.Jp.getD i' (.agg [])=s':=by rw[Di,a7];rfl
   cases s' with
   | cell _ _=>exact a4.elim
   | agg _=>exact a4.elim
   | box ks =>
    obtain⟨⟨cs0,a4⟩,a5,a6,a8⟩:=a4;dsimp only at a8;subst a8;have e5:xs.getD i' .undef= .ptr q 0:=by rw[Di,a5];rfl
    rw[e5]at hxv;obtain⟨bk,base,k1,k2,_⟩:=hxv.ptr hF' a4;refine⟨⟨_,hf _ _ a4,trivial⟩,(fun ks' h=>by injection h with h;rw[<- h];exact a6),by rw[hs'];dsimp only at k1 ⊢;rw[k1,k2,Nat.add_zero];rfl,?_⟩;unfold nD;rw[hs',e5]
   | clo f' ks =>
    obtain⟨⟨cs0,a4⟩,a5,a6,a8⟩:=a4;dsimp only at a8;subst a8;have e5:xs.getD i' .undef= .clo f' q:=by rw[Di,a5];rfl
    rw[e5]at hxv;have hc:J4 O st.Jm m w (av.getD i' undef) (.clo f' q):=hxv;obtain⟨_,p',_,hc2,hc⟩:=hc;rw[hf _ _ a4]at hc;obtain⟨b',base',e1,e2⟩:=hc;have hc:UU O w f' (av.getD i' undef) (m q):=by rw[e1,<- e2];exact hc2
    refine⟨⟨_,hf _ _ a4,trivial⟩,(fun ks' h=>by injection h with h;rw[<- h];exact a6),by rw[hs'];exact hc.inner.symm,?_⟩;unfold nD;rw[hs',e5]
   | map kt vt =>
    obtain⟨⟨l,a4⟩,a5,a8⟩:=a4;dsimp only at a8;subst a8;have e5:xs.getD i' .undef= .own q:=by rw[Di,a5];rfl
    rw[e5]at hxv;have hc:J4 O st.Jm m w (av.getD i' undef) (.own q):=hxv;have hc:=hc.2;rw[hf _ _ a4]at hc;refine⟨⟨_,hf _ _ a4,trivial⟩,(fun ks' h=>by cases h),by rw[hs'];exact hc.symm,?_⟩;unfold nD;rw[hs',e5]
  obtain⟨hky,hk200,hkm,e7⟩:=hkey;refine⟨hky,hk200,?_,?_,fun b k i hi h=> ?_⟩
  .show _=innerS w (sg.Jp.getD (bi j) (.agg [])) (av.getD (bi j) undef);rw[hbi];exact hkm
  .show IR Of w' (256*bi j) (innerS w (sg.Jp.getD (bi j) (.agg [])) (av.getD (bi j) undef)) _;rw[hbi];exact c2
  .rw[hbi]at h;rw[hsome b k _ h (by omega)];unfold iQ;rw[Du];have e1:(256*i'+i) / 256=i':=by omega
   have e2:(256*i'+i) % 256=i:=by omega
   rw[e1,e2,e7]
 let NEW:=(Ko (b2 d) 16 sg.Jz rs 0).2.2++(Kt (Lh fet) (rs.drop sg.Jz.length) bxs 0).2.2;let BX:=(Kt (Lh fet) (rs.drop sg.Jz.length) bxs 0).2.1;let objsF:=J3 (JM (J3 st.Jm (upd++BX)) del) NEW;have hnewO: ∀ p∈NEW,Jr objsF p.1=some p.2:=fun p hp=>Yu hnd hp
 have hBXk: ∀ i z,(i,z)∈BX-> ∃(j:Nat) (p:Nat×Sh),bxs[j]? =some p/\p.1=i/\ ∃ r,z=(LY (Lh fet p.1) p.2 r).2.1:=by
  intro i z hz
  have: ∀(bs:List (Nat×Sh)) (j0:Nat),(i,z)∈(Kt (Lh fet) (rs.drop sg.Jz.length) bs j0).2.1-> ∃(j:Nat) (p:Nat×Sh),bs[j]? =some p/\p.1=i/\ ∃ r,z=(LY (Lh fet p.1) p.2 r).2.1:=by
   intro bs
   induction bs with
   | nil=>intro j0 h;simp [Kt]at h
   | cons b bs ih =>
    intro j0 h;obtain⟨q,ks⟩:=b;simp only[Kt]at h;rcases Dz.1 h with h | h
    .injection h with h1 h2;exact⟨0,(q,ks),rfl,h1.symm,_,h2⟩
    .obtain⟨j,p,h1,h2⟩:=ih (j0+1) h;exact⟨j+1,p,by simpa using h1,h2⟩
  exact this bxs 0 hz
 have hupdk: ∀ i z,(i,z)∈upd->(∃ e l f,z= .arr e true l/\Jr st.Jm i=some (.arr e f l))/\Jr (J3 st.Jm upd) i=some z:=by intro i z hz;obtain⟨e,fz,l,k1,k2⟩:=g3 _ hz;dsimp only at k1 k2;refine⟨⟨e,l,fz,k2,k1⟩,?_⟩;obtain⟨x,hx1,hx2⟩:=MG upd st.Jm i ⟨(i,z),hz,rfl⟩;obtain⟨e',fz',l',k3,k4⟩:=g3 _ hx1;dsimp only at k3 k4;rw[k1]at k3;injection k3 with k3;injection k3 with q1 q2 q3;subst q1;subst q3;rw[hx2,k4,k2]
 have hnoBX: ∀ i,(∃ e f l,Jr st.Jm i=some (.arr e f l))-> ∀ y,(i,y)∉BX:=by rintro i ⟨e,f',l,h⟩ y hy;obtain⟨j,p,h1,h2,_⟩:=hBXk i y hy;obtain⟨⟨y',h3,h4⟩,_⟩:=hbx j p h1;rw[h2,h]at h3;injection h3 with h3;subst h3;exact dZ h4
 have hTiff: ∀ i,T i->i∈del\/ ∃ y,(i,y)∈BX:=by
  rintro i ⟨n,hn'⟩;have h1:(i,n)∈N:=dU hn';have h2:=(g4 i).2 (D6.2 ⟨_,h1,rfl⟩);rcases DI.1 h2 with h2 | h2
  .exact .inl h2
  .right;rw[<- xI (Lh fet) (rs.drop sg.Jz.length) bxs 0]at h2;obtain⟨q,hq1,hq2⟩:=D6.1 h2;exact⟨q.2,by rw[<- hq2];exact hq1⟩
 have hget: ∀ i z,Jr objsF i=some z->(i,z)∈NEW\/(¬ Nw i/\i∉del/\((i,z)∈BX\/((∀ y,(i,y)∉BX)/\Jr (J3 st.Jm upd) i=some z))):=by
  intro i z hz;rcases Rj hz with h | ⟨hno,hnd',h⟩
  .exact .inl h
  .have hni: ¬ Nw i:=by rintro ⟨p,hp,rfl⟩;exact hno p.2 hp
   refine .inr ⟨hni,hnd',?_⟩;rcases h with h | ⟨h1,h2⟩
   .rcases DI.1 h with h | h
    .obtain⟨⟨e,l,f',h3,h4⟩,h5⟩:=hupdk i z h;exact .inr ⟨hnoBX i ⟨e,f',l,h4⟩,h5⟩
    .exact .inl h
   .right;refine⟨fun y hy=>h1 y (Dy _ hy),?_⟩;rw[KY _ _ _ (fun p hp e=>h1 p.2 (Dx _ (by rw[<- e];exact hp)))];exact h2
 have hbxst: ∀ i z,(i,z)∈BX-> ∃ y,Jr st.Jm i=some y/\Jr (J3 st.Jm upd) i=some y/\y.shp=z.shp:=by
  intro i z hz;obtain⟨j,p,h1,h2,r,h4⟩:=hBXk i z hz;obtain⟨⟨y,h3,h5⟩,_⟩:=hbx j p h1;rw[h2]at h3;refine⟨y,h3,?_,by rw[h4];exact Af3 h5⟩;rw[KY _ _ _ (fun p hp e=> ?_)]
  .exact h3
  .obtain⟨⟨e1,e2,e3,_,h6⟩,_⟩:=hupdk p.1 p.2 hp;rw[e,h3]at h6;injection h6 with h6;rw[h6]at h5;exact dZ h5
 have hE:NW (J3 st.Jm upd) m objsF m2 Nw:=by
  intro i z hz;rcases hget i z hz with h | ⟨h1,h2,h | ⟨h3,h4⟩⟩
  .exact .inl ⟨_,h,rfl⟩
  .obtain⟨y,h5,h6,h7⟩:=hbxst i z h;exact .inr ⟨y,h6,h7,hm2not i h1⟩
  .exact .inr ⟨z,h4,rfl,hm2not i h1⟩
 obtain⟨r1,r2,r3⟩:=mZ (objs':=objsF) (m':=m2) (cid:=256000) (cst:=256) (id:=b2 d) (stride:=16) (f:=fun k=>us.getD k undef) (g:=fun k=>innerS w' (sg.Jz.getD k (.agg [])) (us.getD k undef)) (rs:=rs) hpf hnone sg.Jz 0 (fun j _=>by rw[DF]) (fun j hj=>by have:=hus3 j (by rw[hus1];exact hj);rw[DF];exact this) hrres hokD (fun p hp=>hnewO p (Dx _ hp)) (fun p hp=>hm2 p (Dx _ hp))
 obtain⟨s1,s2⟩:=rY (rb:=Lh fet) (objs':=objsF) (m':=m2) (val:=bval) (cid:=fun j=>256*bi j) (rs:=rs.drop sg.Jz.length) hpf hnone bxs 0 (fun j p hp=>by
  obtain⟨⟨y0,h0,h0'⟩,h1,h2,h4,h5⟩:=hbx j p hp
  have hni: ¬ Nw p.1:=fun h=>by
   have:=(hNw p.1 h).Jm;dsimp only at this;rw[KY _ _ _ (fun p' hp' e=> ?_)]at this
   .rw[h0]at this;cases this
   .obtain⟨⟨e1,e2,e3,_,h6⟩,_⟩:=hupdk p'.1 p'.2 hp';rw[e,h0]at h6;injection h6 with h6;rw[h6]at h0';exact dZ h0'
  rw[DF];refine⟨h1,by rw[hm2not _ hni];exact h2,?_,h5⟩;rw[Di,EP,<- Di];exact h4) hokC (fun p hp=>hnewO p (Dy _ hp)) (fun p hp=>hm2 p (Dy _ hp))
 let vsR:=(Ko (b2 d) 16 sg.Jz rs 0).2.1
 have hval:Jy O2 objsF m2 w' v (Aag vsR):=by
  have hlen:vsR.length=us.size:=by rw[r1,hus1]
  rw[hus2];by_cases h1:us.size=1
  .rw[dif_pos h1];obtain⟨x,hx'⟩: ∃ x,vsR=[x]:=E8.1 (by rw[hlen];exact h1);rw[hx'];have:=(r2 0 (by rw[<- hus1];omega)).1;have e1:(Ko (b2 d) 16 sg.Jz rs 0).2.1.getD 0 .undef=x:=by show vsR.getD 0 .undef=x;rw[hx'];rfl
   rw[e1]at this;have e2:us.getD (0+0) undef=us[0]:=by simp [Dj,show 0<us.size from by omega]
   rw[<- e2];exact this
  .rw[dif_neg h1]
   have e1:Aag vsR= .tup vsR:=by
    cases hv':vsR with
    | nil=>rfl
    | cons x l =>
     cases l with
     | nil=>rw[hv']at hlen;simp at hlen;omega
     | cons _ _=>rfl
   rw[e1];refine⟨us,rfl,hlen.symm,fun j hj=> ?_⟩;have hj':j<sg.Jz.length:=by rw[<- r1];exact hj
   have:=r2 j hj';rw[DF]at this;exact this.1.Ail this.2
 refine hn O2 m2 _ _ ?_;refine hS1.next (T:=T) (Nw:=Nw) (x:=Aag vsR) hM hP2 hless2 hE (fun n hn'=>(hNw n hn').both) (fun q hq=> ?_) (fun i z hz=> ?_) rfl (fun _=>hval)
 .obtain⟨n,hn'⟩:=hq;have h1:(q,n)∈N:=dU hn';have h2:=halive _ h1;obtain⟨y,hy⟩:=Ei.1 h2;have h3:=hf _ _ hy;by_cases hu: ∃ p∈upd,p.1=q
  .obtain⟨x,_,hx2⟩:=MG upd st.Jm q hu;exact Ei.2 ⟨x,hx2⟩
  .dsimp only;rw[KY _ _ _ (fun p hp e=>hu ⟨p,hp,e⟩)];exact Ei.2 ⟨y,h3⟩
 .rcases hget i z hz with h | ⟨h1,h2,h | ⟨h3,h4⟩⟩
  .right;refine⟨?_,(hNw i ⟨_,h,rfl⟩).ne⟩;rcases DI.1 h with h | h
   .exact r3 _ h
   .exact s2 _ h
  .right;obtain⟨y,h5,h6,_⟩:=hbxst i z h;exact⟨s1 _ h,hS.ids i _ h5⟩
  .left;refine⟨fun ht=> ?_,h4,hm2not i h1⟩;rcases hTiff i ht with h | ⟨y,hy⟩
   .exact h2 h
   .exact h3 y hy
theorem wK {c:Call} {f:Nat} {sg:Sig} {x0:Operand} (hS:Sim V0 O0 w0 O m st a w) (ho:o.op= .call c) (hcal:c.callee= .value x0) (hev:a.eval x0= .func (.func f) #[] #[]) (hsp:Spec P f sg) {d:Nat} {fet:Fet} (hf:MV st.Jm fet) {xs:List A}
 (hl:xs.length=c.args.size) (hx: ∀ j,j<xs.length->Jy O st.Jm m w (a.eval (c.args.getD j (.tmp 0))) (xs.getD j .undef))
 (hok:Jv (N9 fet d sg xs).ok) (hfr: ∀ p∈(N9 fet d sg xs).new,st.fresh p.1=true) (hnd:nodup ((N9 fet d sg xs).new.map (·.1))=true):Good P V0 O0 w0 (apply st o (N9 fet d sg xs)) o a w:=by
 refine nI (av:=c.args.map a.eval) hS ho hcal hev (by simp) hsp hf (by simpa using hl) (fun j hj=> ?_) hok hfr hnd;have hjs:j<c.args.size:=by rw[<- hl];exact hj
 have e:(c.args.map a.eval).getD j undef=a.eval (c.args.getD j (.tmp 0)):=by simp [Dj,hjs]
 rw[e];exact hx j hj
end
section
variable {P:Program} {C:Ctx} {V0:Nat->Value} {O0 O:Own} {w0 w:World} {m:Nat->Value} {st:St} {a:Act} {o:Oper}
theorem Aek {cs:List A} {r:Nat} (h:Aej cs=some r):cs=[.ptr r 0]:=by unfold Aej at h;all_goals grind[split]
theorem Agi {f:Nat} {x:Operand} (hS:Sim V0 O0 w0 O m st a w) (ho:o.op= .makeFunc (.func f) #[] #[x]) {fet:Fet} (hf:MV st.Jm fet) {x':A} (hx:Jy O st.Jm m w (a.eval x) x') (hok:Jv (sF fet f x').ok) :
 Good P V0 O0 w0 (apply st o (sF fet f x')) o a w:=by
 intro next Q hn
 have hF:FOk O st.Jm m w fet:=fun q x h=>⟨hf q x h,hS.Jm q x (hf q x h)⟩
 cases x' with
 | ptr q off =>
  unfold sF at hok hn;dsimp only at hok hn;obtain⟨cs,hb,he⟩:=J9 hok;rw[he]at hok hn;clear he;obtain⟨r,hr,he⟩:=J9 hok;rw[he]at hok hn;clear he;have h0:=Dk hok.cons.1;subst h0;obtain rfl:=Aek hr;obtain⟨b,base,g1,g2,g3⟩:=hx.ptr hF (KN hb);obtain⟨k1,k2,u,k3,k4⟩:=g3 0 (by simp);rw[Nat.add_zero]at k1 k3 g2;let O':Own:=fun b' k'=>if b'=b/\k'=base then none else O b' k';have hO': ∀ b' k',O' b' k'=if b'=b/\k'=base then none else O b' k':=fun _ _=>rfl;have hrun:(execOp a.eval o).run P w= .ok (.value (.func (.func f) #[] #[a.eval x])) w:=by simp [execOp,ho,Instr.makeFunc]
  unfold Oper.wp;rw[hrun,Oper.upon_value];refine hn O' m _ _ ?_;have hP:Passes O O' (· =q) w.heap.size:=by refine⟨fun b' k' _ h=> ?_,fun b' k' o' _ h ht=> ?_⟩;all_goals grind[split]
  have hget: ∀ i y,Jr (apply st o {ok:=[Nat.beq 0 0],val:=.clo (f+1) r,del:=[q]}).Jm i=some y->i≠q/\Jr st.Jm i=some y:=by
   intro i y hy;rcases Rj hy with h | ⟨_,h2,h | ⟨_,h⟩⟩
   .cases h
   .cases h
   .exact⟨fun e=>h2 (by rw[e];exact Dp),h⟩
  refine hS.next (T:=(· =q)) (Nw:=fun _=>False) (Moves.refl O _ w) hP (fun b' k' _ h h'=>h (by rw[hO',h'];split<;>rfl)) (fun i y hy=>.inr ⟨y,(hget i y hy).2,rfl,rfl⟩) (fun _ h=>h.elim)
   (fun o' h=>by rw[h,hf _ _ (KN hb)];rfl) (fun i y hy=>.inl ⟨(hget i y hy).1,(hget i y hy).2,rfl⟩) rfl (fun _=> ?_)
  show J4 O' _ m w _ (.clo (f+1) r);have k4:J4 O st.Jm m w u (.ptr r 0):=k4;refine⟨rfl,u,k4.1,⟨b,base,by rw[g2];rfl,by rw[hO',Dw ⟨rfl,rfl⟩],k3⟩,?_⟩;cases hr':Jr (apply st o {ok:=[Nat.beq 0 0],val:=.clo (f+1) r,del:=[q]}).Jm r with
  | none=>trivial
  | some y =>
   have hy:=(hget r y hr').2;cases y with
   | box cs' =>have k4:=k4.2;rw[hy]at k4;exact k4
   | _=>trivial
 | _=>exact(J5 hok).elim
theorem Agr {C:Ctx} {d:TypeDesc}: ∀(xs:List (Nat×A)) (cs cs':List A),fill C d xs cs=some cs'-> ∀ i∈cs'.flatMap A.Ls,i∈cs.flatMap A.Ls\/ ∃ x∈xs,i∈x.2.ids:=by
 intro xs
 induction xs with
 | nil=>intro cs cs' h i hi;simp only[fill]at h;injection h with h;rw[h];exact .inl hi
 | cons x xs ih =>
  intro cs cs' h i hi;obtain⟨k,x⟩:=x;simp only[fill]at h;cases hp:iL C d k with
  | none=>rw[hp]at h;cases h
  | some q =>
   obtain⟨off,ti⟩:=q;rw[hp]at h;dsimp only at h;cases hb:(x.isVal&&Nat.beq x.cells.length ti.cs.length&&Nat.ble (off+ti.cs.length) cs.length)with
   | false=>rw[hb]at h;cases h
   | true =>
    rw[hb]at h;simp only[cond_true]at h;simp only[Dn]at hb;rcases ih _ _ h i hi with h1 | ⟨y,h1,h2⟩
    .unfold splice at h1;simp only[List.flatMap_append,DI]at h1;rcases h1 with (h1 | h1) | h1
     .left;obtain⟨c,hc,hci⟩:=DX.1 h1;exact DX.2 ⟨c,FY hc,hci⟩
     .right;refine⟨(k,x),Dp,?_⟩;obtain⟨c,hc,hci⟩:=DX.1 h1;obtain⟨j,hj,rfl⟩:=EY.1 hc;all_goals grind[aV]
     .left;obtain⟨c,hc,hci⟩:=DX.1 h1;exact DX.2 ⟨c,List.mem_of_mem_drop hc,hci⟩
    .exact .inr ⟨y,Dq _ h1,h2⟩
theorem Agf {t n:Nat} {ps:Array (Nat×Operand)} (hC:TOk P C) (hS:Sim V0 O0 w0 O m st a w) {d:Tmp} (hd:o.dst=some d) (ho:o.op= .buildSlice t n ps) {xs:List (Nat×A)}
 (hl:xs.length=ps.size) (hx: ∀(j:Nat) (x:Nat×A) (p:Nat×Operand),xs[j]? =some x->ps[j]? =some p->p.1=x.1/\Jy O st.Jm m w (a.eval p.2) x.2)
 (hids: ∀ x∈xs,∀ i∈x.2.ids,i∈st.ids\/(Jr st.Jm i).isSome)
 (hok:Jv (aQ C d t n xs).ok) (hfr: ∀ p∈(aQ C d t n xs).new,st.fresh p.1=true) (hnd:nodup ((aQ C d t n xs).new.map (·.1))=true):Good P V0 O0 w0 (apply st o (aQ C d t n xs)) o a w:=by
 unfold aQ at *
 obtain⟨ti,e,te,ht,hte,hd',he⟩:=QT hok;rw[he]at hok hfr hnd ⊢;clear he;obtain⟨cs,hcs,he⟩:=J9 hok;rw[he]at hok hfr hnd ⊢;clear he;obtain⟨h0,h1⟩:=hok.cons;have hn:=D7 h1.cons.1;have hk:=wU h0;have hk1:te.cs.length=1:=by rw[hk];rfl
 have hT:=hC.is hd';obtain⟨i,z,g1,g2,g3,g4,g5,g6⟩:=hT.i;have hu:=(hC.is ht).d;rw[hte]at hu;obtain⟨hz1,hz2⟩:=YI (O:=O) (w:=w) hT (by rw[g1];exact g4) (by rw[hk];rfl) (by rw[hk1];decide) n;rw[hk1,Es]at hz1
 have hz:Ob O st.Jm m w (zeros z (n*te.cs.length)) (List.replicate n .KQ):=by
  rw[hk1,Es];refine⟨by rw[hz1,Ec],fun j hj=> ?_⟩;rw[Ec]at hj;obtain⟨u,k1,k2⟩:=hz2.2 j 0 (by simpa using hj) (by rw[hk1];decide);rw[hk1,Es,Es,Nat.add_zero]at k1;have e1:(zeros z n).getD j undef=u:=by rw[Dj,k1];rfl
  have e2:(List.replicate n A.KQ).getD j .undef= .KQ:=by simp [Di,hj]
  rw[e1,e2];have e3:((List.replicate n (te.cs.map CK.MI)).getD j []).getD 0 .undef= .KQ:=by simp [Di,hj,hk,CK.MI,CK.zero]
  rw[e3]at k2;exact k2
 obtain⟨vs',f1,f2⟩:=AaD (O:=O) (Jm:=st.Jm) (m:=m) (w:=w) hC (d:=.array n e) (place:=fun i=>some (i*te.cs.length,te.cs.length)) (fun i p hp=>by
  simp only[VX,g1,Option.map_some]at hp;rw[<- hp];have:te.cs.length=_:=rfl;simp [g2]) xs (ps.map (fun(i,x)=>(i,a.eval x))).toList _ _ cs (by simp [hl]) (fun j x p hxj hpj=>by
  simp only[FI,DW]at hpj;cases hq:ps.toList[j]? with
  | none=>rw[hq]at hpj;cases hpj
  | some q =>rw[hq]at hpj;injection hpj with hpj;subst hpj;exact hx j x q hxj (by simpa using hq)) hz hcs
 refine wJ (ks:=[]) (t:=e) (r:=.slice (some (at' w.heap.size 0)) n n) hS f2 (fun j hj i hi=> ?_) hd ?_ (fun O' objs' m' w' c hc hm=> ?_) hfr hnd
 .rcases Agr _ _ _ hcs i (OX (f:=A.Ls) hj hi)with h | ⟨x,h2,h3⟩
  .obtain⟨c,hc,hci⟩:=DX.1 h;rw[EM hc]at hci;cases hci
  .exact hids x h2 i h3
 .have hbig: ¬(16777216<n*te.cs.length):=by rw[hk1];omega
  simp only[execOp,ho,Dv,Instr.buildSlice,DD hu,Result.andThen_ok,hT.MQ];rw[Du (by simpa using hbig)];by_cases h0:n*te.cs.length=0
  .have hz0:(Array.range (n*te.cs.length)).map ((#[]:Array Value)[· % (#[]:Array Value).size]!)=zeros z (n*te.cs.length):=by simp [zeros,h0]
   simp only[Dw h0,Dv,Sem.run_pure,Result.andThen_ok,hz0,f1];rfl
  .simp only[Du h0,Dv,Sem.run_pure,Result.andThen_ok,zeroValue,typeInfo,run_program,g1,g4];have hz0:(Array.range (n*te.cs.length)).map (z.cells[· % z.cells.size]!)=zeros z (n*te.cs.length):=rfl;rw[hz0,f1];rfl
 .show J4 O' objs' m' w' _ (.bsl (b2 d) n);refine⟨rfl,?_⟩;rw[hc];exact⟨w.heap.size,0,hm,rfl⟩
end
structure Md (P:Program) (C:Ctx):Prop where
 T:TOk P C
 G: ∀ f sg,C.G f=some sg->Spec P f sg
 alt: ∀ f q,C.alt f=some q->Spec P f q.1/\Spec P f q.2.1
 dyn: ∀ t F,C.dyn t=some F->(∀ xs,(F 0).ok xs=false)/\ ∀ f xs,(F (f+1)).ok xs=true->Spec P f (F (f+1))
theorem Md.put {P:Program} {C:Ctx} (h:Md P C) {f:Nat} {s:Sig} (hs:Spec P f s):Md P (C.put f s):=⟨h.T,fun k sg hk=>by
 have hk':(bif Nat.beq f k then some s else C.G k)=some sg:=hk;cases hb:Nat.beq f k with
 | true=>simp_all
 | false=>rw[hb]at hk';exact h.G k sg hk',h.alt,h.dyn⟩
def AhF {a b:A} (h:eqC a b=true):a=b:=by
 unfold eqC at h;split at h
 .rw[ER h]
 .rw[Dn]at h;rw[A.NL h.1,ER h.2]
 .rw[ER h]
 .cases h
def AdI {fet:Fet} {x:A} {j:Nat} {δ :Dl} (h:Jv (OW fet x j δ).ok):Jv δ.ok/\(OW fet x j δ).val= δ.val/\(OW fet x j δ).new= δ.new/\(OW fet x j δ).upd= δ.upd/\(OW fet x j δ).del= δ.del:=by
 unfold OW at *
 cases x with
 | ptr q off =>
  dsimp only at h ⊢;cases hb:KT fet q with
  | none=>rw[hb]at h;exact⟨h,rfl,rfl,rfl,rfl⟩
  | some cs =>
   rw[hb]at h;dsimp only at h ⊢;cases hc:Nat.blt j cs.length&& δ.upd.all (fun p=> !(Nat.beq p.1 q)||pY cs.length p.2)with
   | false=>rw[hc]at h;exact⟨h,rfl,rfl,rfl,rfl⟩
   | true =>
    rw[hc]at h;obtain⟨h1,h2⟩:=(show Jv (δ.ok++_)from h).append;refine⟨h1,rfl,rfl,?_,rfl⟩;show δ.upd.map _= δ.upd
    conv=>rhs;rw[<- F7 δ.upd]
    refine Ew fun p hp=> ?_;have h3:=h2 _ (D6.2 ⟨p,hp,rfl⟩);cases hq:Nat.beq p.1 q with
    | false=>rfl
    | true =>
     rw[hq]at h3;have h3:eqU j (cs.getD j .undef) p.2=true:=h3;obtain⟨n,y⟩:=p;cases y with
     | box ds =>
      have h4:=AhF (show eqC (ds.getD j .undef) (cs.getD j .undef)=true from h3);show(n,Obj.box (ds.set j (cs.getD j .undef)))=(n,Obj.box ds);rw[<- h4];congr 2;apply Gz;intro i;rw[ED];by_cases hij:j=i
      .subst hij;rw[Dw rfl];by_cases hl:j<ds.length
       .simp [hl,Di]
       .simp [hl]
      .rw[Du hij]
     | _=>cases h3
 | _=>exact⟨h,rfl,rfl,rfl,rfl⟩
def AdK {fet:Fet} {xs:List A}: ∀(ks:List (Nat×Nat)) {δ :Dl},Jv (keepD fet xs ks δ).ok->Jv δ.ok/\(keepD fet xs ks δ).val= δ.val/\(keepD fet xs ks δ).new= δ.new/\(keepD fet xs ks δ).upd= δ.upd/\(keepD fet xs ks δ).del= δ.del:=by
 intro ks
 induction ks with
 | nil=>intro δ h;exact⟨h,rfl,rfl,rfl,rfl⟩
 | cons k ks ih =>intro δ h;obtain⟨i,j⟩:=k;obtain⟨h1,h2,h3,h4,h5⟩:=ih (δ :=OW fet (xs.getD i .undef) j δ) h;obtain⟨g1,g2,g3,g4,g5⟩:=AdI h1;exact⟨g1,h2.trans g2,h3.trans g3,h4.trans g4,h5.trans g5⟩
def Md.decide {P:Program} {C:Ctx} (h:Md P C) (ds:List Nat) (b:Bool):Md P (C.decide ds b):=⟨h.T,h.G,h.alt,h.dyn⟩
section
variable {P:Program} {C:Ctx} {V0:Nat->Value} {O0 O:Own} {w0 w:World} {m:Nat->Value} {st:St} {a:Act} {o:Oper}
theorem len1 {xs:List A} (h:xs.length=1): ∃ x,xs=[x]:=E8.1 h
theorem dR {xs:List A} (h:xs.length=2): ∃ x y,xs=[x,y]:=by
 match xs,h with
 | [x,y],_=>exact⟨x,y,rfl⟩
theorem AdQ {xs:List A} (h:xs.length=3): ∃ x y z,xs=[x,y,z]:=by
 match xs,h with
 | [x,y,z],_=>exact⟨x,y,z,rfl⟩
theorem qF {δ :Dl} (h:Jv δ.ok) (e: δ = .no):False:=by rw[e]at h;exact J5 h
theorem Vo {t:Nat} {x:Operand} {lo hi:Option Operand} (hC:TOk P C) (hS:Sim V0 O0 w0 O m st a w) (ho:o.op= .slice t x lo hi none) {fet:Fet} (hf:MV st.Jm fet) {x':A} {lo' hi':Option A} (hx:Jy O st.Jm m w (a.eval x) x')
 (hlo:ORl O st.Jm m w (lo.map a.eval) lo') (hhi:ORl O st.Jm m w (hi.map a.eval) hi') (hok:Jv (KR C fet t x' lo' hi').ok):Good P V0 O0 w0 (apply st o (KR C fet t x' lo' hi')) o a w:=by
 cases x' with
 | str s=>exact(AfI hC ho rfl hx hlo hhi hok).good hS
 | sl l=>exact(AgI hC ho rfl hx hlo hhi hok).good hS
 | sln l=>exact(AfH hC ho rfl hx hlo hhi hok).good hS
 | own q=>exact zI hC hS ho rfl hf hx hlo hhi hok
 | _ =>exfalso;unfold KR at hok;obtain⟨ti,ht,he⟩:=JI hok;rw[he]at hok;exact J5 hok
theorem AgT {k:A->Dl} {v:List A} (h:Jv (a1 k v).ok): ∃ x,v=[x]:=by
 match v,h with
 | [x],_=>exact⟨x,rfl⟩
 | [],h=>exact(J5 h).elim
 | _::_::_,h=>exact(J5 h).elim
theorem mV {k:A->A->Dl} {v:List A} (h:Jv (a2 k v).ok): ∃ x y,v=[x,y]:=by
 match v,h with
 | [x,y],_=>exact⟨x,y,rfl⟩
 | [],h=>exact(J5 h).elim
 | [_],h=>exact(J5 h).elim
 | _::_::_::_,h=>exact(J5 h).elim
set_option maxHeartbeats 1000000 in
theorem Abn (hCx:Md P C) (hS:Sim V0 O0 w0 O m st a w) {fet:Fet} (hf:MV st.Jm fet) {xs:List A} (hl:xs.length=o.op.operands.size) (hx: ∀ j,j<xs.length->Jy O st.Jm m w (a.eval (o.op.operands.getD j (.tmp 0))) (xs.getD j .undef))
 (hids: ∀ x∈xs,∀ i∈x.ids,i∈st.ids\/(Jr st.Jm i).isSome)
 (hok:Jv (opX C o xs fet).ok) (hfr: ∀ p∈(opX C o xs fet).new,st.fresh p.1=true) (hnd:nodup ((opX C o xs fet).new.map (·.1))=true):Good P V0 O0 w0 (apply st o (opX C o xs fet)) o a w:=by
 have hC:=hCx.T;have hF:FOk O st.Jm m w fet:=fun q x h=>⟨hf q x h,hS.Jm q x (hf q x h)⟩
 obtain⟨dst,op,ty,pos,after,guard⟩:=o;cases op with
 | move x =>obtain⟨x',rfl⟩:=len1 hl;exact(wX (o:=⟨dst,.move x,ty,pos,after,guard⟩) (.inl rfl) (hx 0 (by simp))).good hS
 | assign x =>obtain⟨x',rfl⟩:=len1 hl;exact(wX (o:=⟨dst,.assign x,ty,pos,after,guard⟩) (.inr rfl) (hx 0 (by simp))).good hS
 | pick c x y =>obtain⟨c',x',y',rfl⟩:=AdQ hl;exact(Af9 rfl (hx 0 (by simp)) (hx 1 (by simp)) (hx 2 (by simp)) hok).good hS
 | alloc t =>obtain rfl:xs=[]:=F6 hl;obtain⟨d,hd,he⟩:=J9 (show Jv (JH dst fun d=>TJ C d t).ok from hok);have e1:opX C ⟨dst,.alloc t,ty,pos,after,guard⟩ [] fet=TJ C d t:=he;rw[e1]at hok hfr hnd ⊢;exact AbX hC hS hd rfl hok hfr hnd
 | box t x =>obtain⟨x',rfl⟩:=len1 hl;obtain⟨d,hd,he⟩:=J9 (show Jv (JH dst fun d=>aP C d t x').ok from hok);have e1:opX C ⟨dst,.box t x,ty,pos,after,guard⟩ [x'] fet=aP C d t x':=he;rw[e1]at hok hfr hnd ⊢;exact AeC hC hS hd rfl (hx 0 (by simp)) (hids x' (by simp)) hok hfr hnd
 | build t ps =>
  have hps:xs.length=ps.size:=by rw[hl];simp [Op.operands]
  have e1:opX C ⟨dst,.build t ps,ty,pos,after,guard⟩ xs fet=aS C t ((ps.toList.map (fun(p:Nat×Operand)=>p.1)).zip xs):=rfl;rw[e1]at hok ⊢;refine(Adn (o:=⟨dst,.build t ps,ty,pos,after,guard⟩) (ps:=ps) (xs:=(ps.toList.map (fun(p:Nat×Operand)=>p.1)).zip xs) hC rfl (by simp [hps]) (fun j x p hxj hpj=> ?_) hok).good hS;have hj:j<ps.size:=(DL.1 hpj).1;have hjx:j<xs.length:=by omega
  rw[EI]at hxj;obtain⟨h1,h2⟩:=hxj;have:=hx j hjx;have e1:(Op.build t ps).operands.getD j (.tmp 0)=p.2:=by simp only[Op.operands];rw[Dj];simp [hpj]
  have e2:xs.getD j .undef=x.2:=by rw[Di,h2];rfl
  refine⟨?_,?_⟩
  .simp [hpj]at h1;exact h1
  .rw[<- e1,<- e2];exact this
 | buildSlice t n ps =>
  obtain⟨d,hd,he⟩:=J9 (show Jv (JH dst fun d=>bif pO ((ps.toList.map (·.1)).zip xs)then aQ C d t n ((ps.toList.map (·.1)).zip xs)else Oy C fet d t n ((ps.toList.map (·.1)).zip xs)).ok from hok);have e1:opX C ⟨dst,.buildSlice t n ps,ty,pos,after,guard⟩ xs fet=bif pO ((ps.toList.map (·.1)).zip xs)then aQ C d t n ((ps.toList.map (·.1)).zip xs)else Oy C fet d t n ((ps.toList.map (·.1)).zip xs):=he;rw[e1]at hok hfr hnd ⊢;have hps:xs.length=ps.size:=by rw[hl];simp [Op.operands]
  have hz:((ps.toList.map (·.1)).zip xs).length=ps.size:=by simp [hps]
  have hxz: ∀(j:Nat) (x:Nat×A) (p:Nat×Operand),((ps.toList.map (·.1)).zip xs)[j]? =some x->ps[j]? =some p->p.1=x.1/\Jy O st.Jm m w (a.eval p.2) x.2:=by
   intro j x p hxj hpj;have hj:j<ps.size:=(DL.1 hpj).1;have hjx:j<xs.length:=by omega
   rw[EI]at hxj;obtain⟨h1,h2⟩:=hxj;have:=hx j hjx;have e1:(Op.buildSlice t n ps).operands.getD j (.tmp 0)=p.2:=by simp only[Op.operands];rw[Dj];simp [hpj]
   have e2:xs.getD j .undef=x.2:=by rw[Di,h2];rfl
   refine⟨?_,?_⟩
   .simp [hpj]at h1;exact h1
   .rw[<- e1,<- e2];exact this
  cases hp:pO ((ps.toList.map (·.1)).zip xs)with
  | false =>rw[hp]at hok hfr;exact nH (o:=⟨dst,.buildSlice t n ps,ty,pos,after,guard⟩) (ps:=ps) hC hS hd rfl hf hz hxz hok hfr
  | true =>rw[hp]at hok hfr hnd;exact Agf (o:=⟨dst,.buildSlice t n ps,ty,pos,after,guard⟩) (ps:=ps) hC hS hd rfl hz hxz (fun x hx'=>hids x.2 (List.of_mem_zip hx').2) hok hfr hnd
 | load t x =>obtain⟨x',rfl⟩:=len1 hl;exact(wW hC hF rfl (hx 0 (by simp)) hok).good hS
 | store t x y =>
  obtain⟨x',y',rfl⟩:=dR hl;cases dst with
  | some d=>exact(J5 hok).elim
  | none =>
   have e1:opX C ⟨none,.store t x y,ty,pos,after,guard⟩ [x',y'] fet=PV C fet t x' y':=rfl;rw[e1]at hok hfr hnd ⊢;cases x' with
   | ptr q off=>exact zJ hC hS rfl rfl hf (hx 0 (by simp)) (hx 1 (by simp)) (hids y' (by simp)) hok hfr hnd
   | KG q i off=>exact zK hC hS rfl rfl hf (hx 0 (by simp)) (hx 1 (by simp)) hok
   | _ =>exfalso;unfold PV at hok;obtain⟨ti,ht,he⟩:=JI hok;rw[he]at hok;exact J5 hok
 | nilCheck x =>obtain⟨x',rfl⟩:=len1 hl;exact(yB hF rfl (hx 0 (by simp)) hok).good hS
 | binOp op t x y t' =>
  obtain⟨x',y',rfl⟩:=dR hl;have e0:opX C ⟨dst,.binOp op t x y t',ty,pos,after,guard⟩ [x',y'] fet=bif dO y then Yd C fet op t x' else Aaq C fet op t x' y':=by show(bif _ then _ else _)=_;cases dO y<;>rfl
  rw[e0]at hok ⊢;cases hy:dO y with
  | true=>rw[hy]at hok;exact(Ac7 (o:=⟨dst,.binOp op t x y t',ty,pos,after,guard⟩) hC hF rfl hy (hx 0 (by simp)) hok).good hS
  | false=>rw[hy]at hok;exact(Agb (o:=⟨dst,.binOp op t x y t',ty,pos,after,guard⟩) hC hF rfl (hx 0 (by simp)) (hx 1 (by simp)) hok).good hS
 | unOp op t x =>obtain⟨x',rfl⟩:=len1 hl;exact(Ahy rfl (hx 0 (by simp)) hok).good hS
 | convert s t x =>obtain⟨x',rfl⟩:=len1 hl;exact AeI (o:=⟨dst,.convert s t x,ty,pos,after,guard⟩) hC hS rfl hf (hx 0 (by simp)) hok hfr
 | makeSlice t l c =>obtain⟨l',c',rfl⟩:=dR hl;obtain⟨d,hd,he⟩:=J9 (show Jv (JH dst fun d=>YP C d t l' c').ok from hok);have e1:opX C ⟨dst,.makeSlice t l c,ty,pos,after,guard⟩ [l',c'] fet=YP C d t l' c':=he;rw[e1]at hok hfr ⊢;exact Afs hC hS hd rfl (hx 0 (by simp)) (hx 1 (by simp)) hok hfr
 | slice t x lo hi mx =>
  have hok':Jv (slX C dst fet t lo hi mx xs).ok:=hok;show Good P V0 O0 w0 (apply st _ (slX C dst fet t lo hi mx xs)) _ a w;cases mx with
  | some _=>exfalso;cases lo<;>cases hi<;>exact J5 hok'
  | none =>
   cases lo with
   | none =>
    cases hi with
    | none =>obtain⟨x',rfl⟩:=len1 (by simpa [Op.operands]using hl);exact Vo (o:=⟨dst,.slice t x none none none,ty,pos,after,guard⟩) (lo:=none) (hi:=none) (lo':=none) (hi':=none) hC hS rfl hf (hx 0 (by simp)) trivial trivial hok'
    | some h =>
     obtain⟨x',h',rfl⟩:=dR (by simpa [Op.operands]using hl)
     have plain:Jv (KR C fet t x' none (some h')).ok->Good P V0 O0 w0 (apply st ⟨dst,.slice t x none (some h) none,ty,pos,after,guard⟩ (KR C fet t x' none (some h'))) ⟨dst,.slice t x none (some h) none,ty,pos,after,guard⟩ a w:=fun hok'' =>
      Vo (o:=⟨dst,.slice t x none (some h) none,ty,pos,after,guard⟩) (lo:=none) (hi:=some h) (lo':=none) (hi':=some h') hC hS rfl hf (hx 0 (by simp)) trivial (hx 1 (by simp)) hok''
     cases dst with
     | none=>exact plain hok'
     | some d =>
      have hfr': ∀ p∈(slX C (some d) fet t none (some h) none [x',h']).new,st.fresh p.1=true:=hfr;have e1:slX C (some d) fet t none (some h) none [x',h']=bif has C.cuts d then bP C fet d t x' h' else KR C fet t x' none (some h'):=rfl;rw[e1]at hok' hfr' ⊢;cases hc:has C.cuts d with
      | false=>rw[hc]at hok';exact plain hok'
      | true =>rw[hc]at hok' hfr';exact Agj (o:=⟨some d,.slice t x none (some h) none,ty,pos,after,guard⟩) hC hS rfl rfl hf (hx 0 (by simp)) (hx 1 (by simp)) hok' hfr'
   | some l =>
    cases hi with
    | none =>
     obtain⟨x',l',rfl⟩:=dR (by simpa [Op.operands]using hl)
     have plain:Jv (KR C fet t x' (some l') none).ok->Good P V0 O0 w0 (apply st ⟨dst,.slice t x (some l) none none,ty,pos,after,guard⟩ (KR C fet t x' (some l') none)) ⟨dst,.slice t x (some l) none none,ty,pos,after,guard⟩ a w:=fun hok'' =>
      Vo (o:=⟨dst,.slice t x (some l) none none,ty,pos,after,guard⟩) (lo:=some l) (hi:=none) (lo':=some l') (hi':=none) hC hS rfl hf (hx 0 (by simp)) (hx 1 (by simp)) trivial hok''
     cases dst with
     | none=>exact plain hok'
     | some d =>
      have e1:slX C (some d) fet t (some l) none none [x',l']=bif has C.cuts d then Zq C fet t x' l' else KR C fet t x' (some l') none:=rfl;rw[e1]at hok' ⊢;cases hc:has C.cuts d with
      | false=>rw[hc]at hok';exact plain hok'
      | true =>rw[hc]at hok';exact(AfL (o:=⟨some d,.slice t x (some l) none none,ty,pos,after,guard⟩) hC hF rfl (hx 0 (by simp)) (hx 1 (by simp)) hok').good hS
    | some h =>obtain⟨x',l',h',rfl⟩:=AdQ (by simpa [Op.operands]using hl);exact Vo (o:=⟨dst,.slice t x (some l) (some h) none,ty,pos,after,guard⟩) (lo:=some l) (hi:=some h) (lo':=some l') (hi':=some h') hC hS rfl hf (hx 0 (by simp)) (hx 1 (by simp)) (hx 2 (by simp)) hok'
 | fieldAddr t x f =>obtain⟨x',rfl⟩:=len1 hl;exact(uK hC hF rfl (hx 0 (by simp)) hok).good hS
 | field t x f =>obtain⟨x',rfl⟩:=len1 hl;exact(Ad6 hC rfl (hx 0 (by simp)) hok).good hS
 | indexAddr t x i =>obtain⟨x',i',rfl⟩:=dR hl;exact(uV hC hF rfl (hx 0 (by simp)) (hx 1 (by simp)) hok).good hS
 | index t x i =>obtain⟨x',i',rfl⟩:=dR hl;exact(AdF hC rfl (hx 0 (by simp)) (hx 1 (by simp)) hok).good hS
 | extract x i =>obtain⟨x',rfl⟩:=len1 hl;exact(AaC rfl (hx 0 (by simp)) hok).good hS
 | makeFunc fn fi cap =>
  cases fn with
  | func f =>
   have e1:opX C ⟨dst,.makeFunc (.func f) fi cap,ty,pos,after,guard⟩ xs fet=bif fi.isEmpty then a1 (sF fet f) xs else .no:=rfl;rw[e1]at hok ⊢;cases hfi:fi.isEmpty with
   | false=>rw[hfi]at hok;exact(J5 hok).elim
   | true =>
    rw[hfi]at hok;obtain⟨x',rfl⟩:=AgT (show Jv (a1 (sF fet f) xs).ok from hok);have hfi':fi= #[]:=by simpa using hfi
    subst hfi'
    have hcap: ∃ x,cap= #[x]:=by
     have:cap.size=1:=by simpa [Op.operands]using hl.symm
     exact⟨cap[0],by apply EC (by simp [this]);intro i h1 h2;have:i=0:=by omega
                     subst this;rfl⟩
    obtain⟨x,rfl⟩:=hcap;exact Agi (o:=⟨dst,.makeFunc (.func f) #[] #[x],ty,pos,after,guard⟩) hS rfl hf (hx 0 (by simp)) hok
  | _=>exfalso;exact qF hok rfl
 | makeMap t r =>obtain⟨d,hd,he⟩:=J9 (show Jv (JH dst fun d=>QH C d t xs).ok from hok);have e1:opX C ⟨dst,.makeMap t r,ty,pos,after,guard⟩ xs fet=QH C d t xs:=he;rw[e1]at hok hfr ⊢;exact Abc hC hS hd rfl (by rw[hl];rfl) hok hfr
 | lookup t x i c =>obtain⟨x',i',rfl⟩:=dR hl;exact(Ac4 hC hF rfl (hx 0 (by simp)) (hx 1 (by simp)) hok).good hS
 | mapUpdate t x i y =>
  obtain⟨x',i',y',rfl⟩:=AdQ hl;cases dst with
  | some d=>exact(J5 hok).elim
  | none=>exact kU (o:=⟨none,.mapUpdate t x i y,ty,pos,after,guard⟩) hC hS rfl (.inl rfl) hf (hx 0 (by simp)) (hx 1 (by simp)) (hx 2 (by simp)) hok
 | insert t x i y =>
  obtain⟨x',i',y',rfl⟩:=AdQ hl;cases dst with
  | some d=>exact(J5 hok).elim
  | none=>exact kU (o:=⟨none,.insert t x i y,ty,pos,after,guard⟩) hC hS rfl (.inr rfl) hf (hx 0 (by simp)) (hx 1 (by simp)) (hx 2 (by simp)) hok
 | call c =>
  obtain⟨callee,args,ts⟩:=c;cases callee with
  | value fo =>
   cases fo with
   | func f =>
    have hl':xs.length=1+args.size:=by rw[hl];simp [Op.operands,Call.operands]
    obtain⟨x0,xs',rfl⟩: ∃ x0 xs',xs=x0::xs':=by
     cases xs with
     | nil=>simp at hl';omega
     | cons x0 xs'=>exact⟨x0,xs',rfl⟩
    have e1:opX C ⟨dst,.call ⟨.value (.func f),args,ts⟩,ty,pos,after,guard⟩ (x0::xs') fet=UZ C fet (dst.getD 0) f xs':=rfl;rw[e1]at hok hfr hnd ⊢;cases hsg:C.G f with
    | none=>exfalso;unfold UZ at hok;rw[hsg]at hok;exact J5 hok
    | some sg =>
     have e3:UZ C fet (dst.getD 0) f xs'=keepD fet xs' (C.kept f) (N9 fet (dst.getD 0) sg xs'):=by unfold UZ;rw[hsg]
     rw[e3]at hok hfr hnd ⊢;obtain⟨hok,k1,k2,k3,k4⟩:=AdK _ hok;rw[k2]at hfr hnd;have e4: ∀ o',apply st o' (keepD fet xs' (C.kept f) (N9 fet (dst.getD 0) sg xs'))=apply st o' (N9 fet (dst.getD 0) sg xs'):=fun o'=>by unfold apply;rw[k1,k2,k3,k4]
     rw[e4];refine wK (x0:=.func f) hS rfl rfl rfl (hCx.G f sg hsg) hf (by simp at hl';show xs'.length=args.size;omega) (fun j hj=> ?_) hok hfr hnd;have:=hx (j+1) (by simpa using hj);have e2:(Op.call ⟨.value (.func f),args,ts⟩).operands.getD (j+1) (.tmp 0)=args.getD j (.tmp 0):=by simp only[Op.operands,Call.operands];rw[Dj,Dj,E5 (by simp)];simp
     rw[e2]at this;simpa using this
   | tmp t =>
    have hl':xs.length=1+args.size:=by rw[hl];simp [Op.operands,Call.operands]
    obtain⟨x0,xs',rfl⟩: ∃ x0 xs',xs=x0::xs':=by
     cases xs with
     | nil=>simp at hl';omega
     | cons x0 xs'=>exact⟨x0,xs',rfl⟩
    have e1:opX C ⟨dst,.call ⟨.value (.tmp t),args,ts⟩,ty,pos,after,guard⟩ (x0::xs') fet=Aa5 C fet (dst.getD 0) t x0 xs':=rfl;rw[e1]at hok hfr hnd ⊢;have h0:=hx 0 (by simp);have e0:(Op.call ⟨.value (.tmp t),args,ts⟩).operands.getD 0 (.tmp 0)= .tmp t:=by show(#[Operand.tmp t]++args).getD 0 (.tmp 0)= .tmp t;rw[Dj,Em (by simp)];rfl
    rw[e0]at h0;have h0:Jy O st.Jm m w (a.eval (.tmp t)) x0:=h0;unfold Aa5 at hok hfr hnd ⊢;cases x0 with
    | fn n =>
     cases hsg:C.dyn t with
     | none=>rw[hsg]at hok;exact(J5 hok).elim
     | some F =>
      rw[hsg]at hok hfr hnd;dsimp only at hok hfr hnd ⊢;obtain⟨hd1,hd2⟩:=hCx.dyn t F hsg;have hok2:=Aas hok;cases n with
      | zero=>rw[hd1]at hok2;cases hok2
      | succ f =>
       have hev:a.eval (.tmp t)= .func (.func f) #[] #[]:=by have h1:Jt O w (a.eval (.tmp t)) (.fn (f+1)):=h0;generalize a.eval (.tmp t)=v at h1 ⊢;cases h1;rfl
       refine wK (x0:=.tmp t) hS rfl rfl hev (hd2 f _ hok2) hf (by simp at hl';show xs'.length=args.size;omega) (fun j hj=> ?_) hok hfr hnd;have:=hx (j+1) (by simpa using hj);have e2:(Op.call ⟨.value (.tmp t),args,ts⟩).operands.getD (j+1) (.tmp 0)=args.getD j (.tmp 0):=by simp only[Op.operands,Call.operands];rw[Dj,Dj,E5 (by simp)];simp
       rw[e2]at this;simpa using this
    | clo f q =>
     obtain⟨cs,hb,he⟩:=J9 hok;dsimp only at he hok hfr hnd ⊢;rw[he]at hok hfr hnd ⊢;clear he;have hc:J4 O st.Jm m w (a.eval (.tmp t)) (.clo f q):=h0;obtain⟨_,p,k5,⟨b,j0,k2,k3,k4⟩,hc⟩:=hc;cases hsg:C.dyn t with
     | none=>rw[hsg]at hok;exact(J5 hok).elim
     | some F =>
      rw[hsg]at hok hfr hnd;dsimp only at hok hfr hnd ⊢;obtain⟨hd1,hd2⟩:=hCx.dyn t F hsg;have hok2:=Aas hok;cases f with
      | zero=>rw[hd1]at hok2;cases hok2
      | succ f =>
       have hlx:xs'.length=args.size:=by simp at hl';omega
       refine nI (x0:=.tmp t) (caps:= #[.pointer (some (at' b j0))]) (av:=args.map a.eval++ #[.pointer (some (at' b j0))]) hS rfl rfl k2 rfl (hd2 f _ hok2) hf (by simp [hlx]) (fun j hj=> ?_) hok hfr hnd;rcases DT j xs'.length with hjl | hjl
       .have:=hx (j+1) (by simpa using hjl);have e2:(Op.call ⟨.value (.tmp t),args,ts⟩).operands.getD (j+1) (.tmp 0)=args.getD j (.tmp 0):=by simp only[Op.operands,Call.operands];rw[Dj,Dj,E5 (by simp)];simp
        rw[e2]at this;have hjs:j<args.size:=by omega
        have e3:(args.map a.eval++ #[Value.pointer (some (at' b j0))]).getD j undef=a.eval (args.getD j (.tmp 0)):=by rw[Dj,Em (by simpa using hjs),Dj];simp [hjs]
        have e4:(xs'++[A.clo 0 q]).getD j .undef=xs'.getD j .undef:=by simp [Di,DV,hjl]
        rw[e3,e4];simpa using this
       .have hj':j=xs'.length:=by simp at hj;omega
        subst hj';have e3:(args.map a.eval++ #[Value.pointer (some (at' b j0))]).getD xs'.length undef= .pointer (some (at' b j0)):=by rw[hlx,Dj,E5 (by simp)];simp
        have e4:(xs'++[A.clo 0 q]).getD xs'.length .undef= .clo 0 q:=by simp [Di]
        rw[e3,e4];show J4 O st.Jm m w _ (.clo 0 q);exact⟨rfl,p,k5,⟨b,j0,rfl,k3,k4⟩,hc⟩
    | _=>exact(J5 hok).elim
   | _=>exfalso;exact qF hok rfl
  | builtin b =>
   have hok':Jv (blX C ⟨dst,.call ⟨.builtin b,args,ts⟩,ty,pos,after,guard⟩ fet ts.toList b xs).ok:=hok;cases b with
   | len =>
    obtain⟨x',rfl⟩:=AgT (show Jv (a1 _ xs).ok from hok')
    have hargs: ∃ x,args= #[x]:=by
     have:args.size=1:=by simpa [Op.operands,Call.operands]using hl.symm
     exact⟨args[0],by apply EC (by simp [this]);intro i h1 h2;have:i=0:=by omega
                      subst this;rfl⟩
    obtain⟨x,rfl⟩:=hargs;obtain⟨t,ht,he⟩:=J9 (show Jv (JH (one? ts.toList) fun t=>uY C fet t x').ok from hok');have e1:opX C ⟨dst,.call ⟨.builtin .len,#[x],ts⟩,ty,pos,after,guard⟩ [x'] fet=uY C fet t x':=he;rw[e1]at hok ⊢;exact(Agx hC hF rfl rfl rfl (wZ ht) (hx 0 (by simp)) hok).good hS
   | copy =>
    obtain⟨x',y',rfl⟩:=mV (show Jv (a2 _ xs).ok from hok')
    have hargs: ∃ x y,args= #[x,y]:=by
     have:args.size=2:=by simpa [Op.operands,Call.operands]using hl.symm
     refine⟨args[0],args[1],?_⟩;apply EC (by simp [this]);intro i h1 h2;have:i=0\/i=1:=by omega
     rcases this with rfl | rfl<;>rfl
    obtain⟨x,y,rfl⟩:=hargs;exact AeJ (o:=⟨dst,.call ⟨.builtin .copy,#[x,y],ts⟩,ty,pos,after,guard⟩) (ts':=ts.toList) hC hS rfl rfl rfl rfl hf (hx 0 (by simp)) (hx 1 (by simp)) hok'
   | append =>
    obtain⟨x',y',rfl⟩:=mV (show Jv (a2 _ xs).ok from hok')
    have hargs: ∃ x y,args= #[x,y]:=by
     have:args.size=2:=by simpa [Op.operands,Call.operands]using hl.symm
     refine⟨args[0],args[1],?_⟩;apply EC (by simp [this]);intro i h1 h2;have:i=0\/i=1:=by omega
     rcases this with rfl | rfl<;>rfl
    obtain⟨x,y,rfl⟩:=hargs;have e0:opX C ⟨dst,.call ⟨.builtin .append,#[x,y],ts⟩,ty,pos,after,guard⟩ [x',y'] fet=AfY C ⟨dst,.call ⟨.builtin .append,#[x,y],ts⟩,ty,pos,after,guard⟩ fet ts.toList x' y':=rfl;rw[e0]at hok hfr ⊢;clear hok' e0;generalize hts:ts.toList=tl at hok hfr ⊢;unfold AfY at hok hfr ⊢;split at hok
    .rename_i t u;dsimp only at hfr ⊢;obtain⟨tu,htu,he⟩:=JI hok;rw[he]at hok hfr ⊢;obtain⟨d,hd,he⟩:=J9 hok;rw[he]at hok hfr ⊢;obtain⟨h1,h2⟩:=hok.cons;exact AbY hC hS hd rfl rfl rfl hts htu h1 hf (hx 0 (by simp)) (hx 1 (by simp)) h2 hfr
    .exact(J5 hok).elim
   | delete =>
    obtain⟨x',y',rfl⟩:=mV (show Jv (a2 _ xs).ok from hok')
    have hargs: ∃ x y,args= #[x,y]:=by
     have:args.size=2:=by simpa [Op.operands,Call.operands]using hl.symm
     refine⟨args[0],args[1],?_⟩;apply EC (by simp [this]);intro i h1 h2;have:i=0\/i=1:=by omega
     rcases this with rfl | rfl<;>rfl
    obtain⟨x,y,rfl⟩:=hargs;have e0:opX C ⟨dst,.call ⟨.builtin .delete,#[x,y],ts⟩,ty,pos,after,guard⟩ [x',y'] fet=(match ts.toList with | t::_=>XR C fet t x' y' | []=>.no):=rfl;rw[e0]at hok ⊢;clear hok' e0;generalize hts:ts.toList=tl at hok ⊢;cases tl with
    | nil=>exact(J5 hok).elim
    | cons t r=>exact Acj (o:=⟨dst,.call ⟨.builtin .delete,#[x,y],ts⟩,ty,pos,after,guard⟩) hC hS rfl rfl rfl hts hf (hx 0 (by simp)) (hx 1 (by simp)) hok
   | min =>
    obtain⟨x',y',rfl⟩:=mV (show Jv (a2 _ xs).ok from hok')
    have hargs: ∃ x y,args= #[x,y]:=by
     have:args.size=2:=by simpa [Op.operands,Call.operands]using hl.symm
     refine⟨args[0],args[1],?_⟩;apply EC (by simp [this]);intro i h1 h2;have:i=0\/i=1:=by omega
     rcases this with rfl | rfl<;>rfl
    obtain⟨x,y,rfl⟩:=hargs;exact(Ag2 (o:=⟨dst,.call ⟨.builtin .min,#[x,y],ts⟩,ty,pos,after,guard⟩) rfl rfl rfl (hx 0 (by simp)) (hx 1 (by simp)) hok).good hS
   | max =>
    obtain⟨x',y',rfl⟩:=mV (show Jv (a2 _ xs).ok from hok')
    have hargs: ∃ x y,args= #[x,y]:=by
     have:args.size=2:=by simpa [Op.operands,Call.operands]using hl.symm
     refine⟨args[0],args[1],?_⟩;apply EC (by simp [this]);intro i h1 h2;have:i=0\/i=1:=by omega
     rcases this with rfl | rfl<;>rfl
    obtain⟨x,y,rfl⟩:=hargs;exact(Ag0 (o:=⟨dst,.call ⟨.builtin .max,#[x,y],ts⟩,ty,pos,after,guard⟩) rfl rfl rfl (hx 0 (by simp)) (hx 1 (by simp)) hok).good hS
   | _=>exfalso;exact J5 hok'
  | invoke r mth=>exfalso;exact qF hok rfl
 | _=>exfalso;exact qF hok rfl
end
end Go.Proofs.YtpaimpmokhihmaaGreatDoor.Vm
