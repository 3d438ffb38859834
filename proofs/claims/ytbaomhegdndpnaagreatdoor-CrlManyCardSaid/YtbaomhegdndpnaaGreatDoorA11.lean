import Derived.Test.YtbaomhegdndpnaaGreatDoorA10
set_option linter.all false
namespace Go.Proofs.YtbaomhegdndpnaaGreatDoor.Vm
open Classical
section
variable {P:Program} {C:Ctx} {V0:Nat->Value} {O0 O:Own} {w0 w:World} {m:Nat->Value} {st:St} {a:Act} {o:Oper}
def dY (ss:List Sh) (xs:List A) (i:Nat):Option Nat:=match ss.getD i (.agg []),xs.getD i .undef with
  | .map _ _,.own o=>some o
  | .clo _ _,.clo _ o=>some o
  | .box _,.clo _ o=>some o
  | .clo _ _,.ptr o _=>some o
  | _,.ptr o _=>some o
  | _,_=>none
def Zd (rb:Nat->Nat) (d:Nat) (ss:List Sh) (xs:List A) (n:Nat):Option Nat :=
  if 256000<=n then some (b2 d+16*((n - 256000) / 256)+(n - 256000) % 256)
  else match dY ss xs (n / 256)with
    | some q=>some (if n % 256=0 then q else rb q+n % 256)
    | none=>none
def uI:Sh->Obj->Prop
  | .box _,.box _=>True
  | .map _ _,.mp _=>True
  | _,_=>False
theorem Yt {s:Sh} {e:Nat} {f:Bool} {l:Sl} (h:uI s (.arr e f l)):False:=by cases s<;>exact h
theorem AcZ {s:Sh} {y:Obj} {rb:Nat} {r:A} (h:uI s y):y.shp=(Dv rb s r).2.1.shp:=by
  cases s<;>cases y<;>first | exact h.elim | rfl
theorem vG {d:Nat} {fet:Fet} {sg:Sig} {xs:List A} (h:Am (EC fet d sg xs).ok):sg.ok (Qd fet sg.pars xs).vs=true:=by
  unfold EC tY at h
  exact h.append.1.append.1.append.1.append.2.cons.1
theorem eG {c:Call} {f:Nat} {sg:Sig} {x0:Operand} {caps av:Array Value} (hS:Sim V0 O0 w0 O m st a w) (ho:o.op= .call c) (hcal:c.callee= .value x0) (hev:a.eval x0= .func (.func f) #[] caps) (hav:c.args.map a.eval++caps=av) (hsp:Spec P f sg) {d:Nat} {fet:Fet} (hf:DL st.Aa fet) {xs:List A}
    (hl:xs.length=av.size) (hx: ∀ j,j<xs.length->Au O st.Aa m w (av.getD j undef) (xs.getD j .undef))
    (hok:Am (EC fet d sg xs).ok) (hfr: ∀ p∈(EC fet d sg xs).new,st.fresh p.1=true) (hnd:nodup ((EC fet d sg xs).new.map (·.1))=true):Good P V0 O0 w0 (apply st o (EC fet d sg xs)) o a w:=by
  intro next Q hn
  unfold EC at hok hfr hnd hn
  generalize hH:Qd fet sg.pars xs=H at *
  obtain⟨hok1,vsA,upd,del,bxs⟩:=H
  have hHs:A8 fet sg.pars xs=(hok1,vsA,upd,del,bxs):=by
    unfold Qd at hH
    injection hH with q1 q2 q3 q4 q5
    rw[<- q1,<- q2,<- q3,<- q4,<- q5]
  dsimp only at hok hfr hnd hn
  unfold tY at hok
  obtain⟨hokA,hokB⟩:=hok.append
  obtain⟨hokA,hokC⟩:=hokA.append
  obtain⟨hokA,hokD⟩:=hokA.append
  obtain⟨hokA,hokE⟩:=hokA.append
  obtain⟨hN,hokB⟩:=hokB.cons
  obtain⟨h100,hokB⟩:=hokB.cons
  have h100:=Nat.le_of_ble_eq_true h100
  have hF:sg.F vsA=some (sg.val vsA):=by
    have:=hokE.cons.1
    unfold Sig.F
    rw[this];rfl
  have hokA':Am (A8 fet sg.pars xs).1:=by rw[hHs];exact hokA
  generalize sg.val vsA=rs at hF hfr hnd hn hokB hokC hokD
  simp only[tY]at hfr hnd hn hokB hokC hokD
  have hcnt:=Nat.eq_of_beq_eq_true hokB.cons.1
  obtain⟨g1,g2,g3,g4,g5⟩:=NK (W:=upd=[]) hf hS.Aa 256 sg.pars xs 0 (fun j=>av.getD j undef) (fun e=>by
    have:=hokB.cons.2.cons.1
    rw[e]at this
    simpa using this) hx hokA'
  obtain⟨b1,b2'⟩:=AdE (fet:=fet) (stride:=256) sg.pars xs 0 0 hokA'
  have halive:=NP (fet:=fet) (stride:=256) sg.pars xs 0 hokA'
  rw[hHs]at g1 g3 g4 g5 b1 b2'
  dsimp only at g1 g3 g4 g5 b1 b2'
  generalize hNs:Dh fet 0 256 sg.pars xs=N at *
  obtain⟨O1,hS1,hp1,hle1,hv1,hE1,hk1⟩:=hS.freezes _ g3
  let ρ :=look N
  have hρ : ∀ p∈N,ρ p.1=some p.2:=wV hN
  have hupdO: ∀ p∈upd,BC O1 (Ar st.Aa upd) m w p.1 p.2:=by
    intro p hp
    obtain⟨x,hx1,hx2⟩:=D6 upd st.Aa p.1 ⟨p,hp,rfl⟩
    obtain⟨e,fz,l,k1,k2⟩:=g3 p hp
    obtain⟨e',fz',l',k3,k4⟩:=g3 _ hx1
    dsimp only at k3 k4
    rw[k1]at k3
    injection k3 with k3;injection k3 with q1 q2 q3
    subst q1;subst q3
    rw[k2,<- k4]
    exact hS1.Aa p.1 x hx2
  have hIR:=g5 hp1 hv1 hupdO hk1 hρ
  have hargs:av.size=vsA.length:=by rw[<- hl,g2,g1]
  have hexec:(execOp a.eval o).run P w= .ok (.enter f av) w:=by
    simp only[execOp,ho,resolve,hcal,hev,Deferred.ofValue,Sem.run_bind,Sem.run_pure,Result.andThen_ok,invoke]
    have:=hsp.1 av w
    simpa [hav]using this
  unfold Oper.wp
  rw[hexec,Oper.upon_enter]
  refine(hsp.2 (DR O1 ρ) w av vsA rs ⟨fun g j p ht=>⟨KR.2 (hS1.iP.1 g j p ht).1,(hS1.iP.1 g j p ht).2⟩,hS1.iP.2⟩ hargs g1 (by rw[g1,<- g2];exact h100) (fun j hj=> ?_) hF).mono ?_
  ·have:=hIR j (by rw[<- g1];exact hj)
   rw[Nat.zero_add]at this
   exact this
  rintro e w' ⟨v,Of,rfl,hcame⟩
  dsimp only
  obtain⟨us,hus1,hus2,hus3⟩:=hcame.res
  let T:Nat->Prop:=fun q=> ∃ i,ρ q=some i
  let O2:Own:=fun b k=>if b<w.heap.size then(match O1 b k with | none=>none | some q=>if T q then(Of b k).bind (Zd (Cf fet) d sg.pars xs)else some q)else(Of b k).bind (Zd (Cf fet) d sg.pars xs)
  have hM:Moves O1 T w w':=hcame.moves.Afh
  have hO2lt: ∀ {b k},b<w.heap.size->O2 b k=(match O1 b k with | none=>none | some q=>if T q then(Of b k).bind (Zd (Cf fet) d sg.pars xs)else some q):=fun hb=>if_pos hb
  have hP2:Passes O1 O2 T w.heap.size:=by
    refine⟨fun b k hb h=>by rw[hO2lt hb,h],fun b k q hb h ht=> ?_⟩
    rw[hO2lt hb,h]
    exact if_neg ht
  have hless2: ∀ b k,b<w.heap.size->O2 b k≠none->O1 b k≠none:=by
    intro b k hb h h'
    rw[hO2lt hb,h']at h;exact h rfl
  have hnone: ∀ b k,Of b k=none->O2 b k=none:=by
    intro b k h
    by_cases hb:b<w.heap.size
    ·rw[hO2lt hb]
     cases hO:O1 b k with
     | none=>rfl
     | some q =>
       by_cases ht:T q
       ·show(if T q then _ else _)=_
        rw[if_pos ht,h];rfl
       ·exfalso
        have hr:DR O1 ρ b k=some 255:=by
          unfold DR;rw[hO]
          have: ρ q=none:=by
            cases hh: ρ q with
            | none=>rfl
            | some i=>exact absurd ⟨i,hh⟩ ht
          simp [this]
        have:=hcame.SG b k hb hr
        rw[h]at this;cases this
    ·show(if _ then _ else _)=_
     rw[if_neg hb,h];rfl
  have hsome: ∀ b k n,Of b k=some n->n≠255->O2 b k=Zd (Cf fet) d sg.pars xs n:=by
    intro b k n h hne
    by_cases hb:b<w.heap.size
    ·rw[hO2lt hb]
     have h1:=hcame.less b k hb (by rw[h];simp)
     rw[Ne,KR]at h1
     cases hO:O1 b k with
     | none=>exact absurd hO h1
     | some q =>
       by_cases ht:T q
       ·show(if T q then _ else _)=_
        rw[if_pos ht,h];rfl
       ·exfalso
        have hr:DR O1 ρ b k=some 255:=by
          unfold DR;rw[hO]
          have: ρ q=none:=by
            cases hh: ρ q with
            | none=>rfl
            | some i=>exact absurd ⟨i,hh⟩ ht
          simp [this]
        have:=hcame.SG b k hb hr
        rw[h]at this;injection this with this;exact hne this
    ·show(if _ then _ else _)=_
     rw[if_neg hb,h];rfl
  have hpf:CS Of w' O2 w':=fun b k u h hc=>⟨hnone b k h,hc⟩
  have hbcnt:bxs.length=(BA sg.pars 0).length:=b1
  let bi:Nat->Nat:=fun j=>(BA sg.pars 0).getD j 0
  let bval:Nat->Value:=fun j=>innerS w (sg.pars.getD (bi j) (.agg [])) (av.getD (bi j) undef)
  let HV:=JC w' (fun k=>innerS w' (sg.ress.getD k (.agg [])) (us.getD k undef)) (b2 d) 16 sg.ress rs 0++Hz (Cf fet) w' bval (rs.drop sg.ress.length) bxs 0
  have hHVf:HV.map (·.1)=((backs (b2 d) 16 sg.ress rs 0).2.2++(Bq (Cf fet) (rs.drop sg.ress.length) bxs 0).2.2).map (·.1):=by
    simp only[HV,List.map_append,AaG,kT]
  have hHVn:nodup (HV.map (·.1))=true:=by rw[hHVf];exact hnd
  let m2:Nat->Value:=fun i=>(Vq HV i).getD (m i)
  have hm2: ∀ p∈HV,m2 p.1=p.2:=by
    intro p hp
    show(Vq HV p.1).getD _=_
    rw[AcS hHVn p hp];rfl
  let Nw:Nat->Prop:=fun i=> ∃ p∈(backs (b2 d) 16 sg.ress rs 0).2.2++(Bq (Cf fet) (rs.drop sg.ress.length) bxs 0).2.2,p.1=i
  have hNw: ∀ i,Nw i->Ei {st with Aa:=Ar st.Aa upd} i:=by
    rintro i ⟨p,hp,rfl⟩
    exact(CJ (hfr p hp)).frz g3
  have hm2not: ∀ i,¬ Nw i->m2 i=m i:=by
    intro i hi
    show(Vq HV i).getD _=_
    rw[Ab4 (fun h=> ?_)]
    ·rfl
    ·rw[hHVf]at h
     obtain⟨p,hp,hpe⟩:=List.mem_map.1 h
     exact hi ⟨p,hp,hpe⟩
  have hrres: ∀ j,j<sg.ress.length-> ∀ b k i,i<255->Of b k=some (256000+256*(0+j)+i)->O2 b k=some (b2 d+16*(0+j)+i):=by
    intro j hj b k i hi h
    rw[hsome b k _ h (by omega)]
    unfold Zd
    rw[if_pos (by omega),Nat.zero_add]
    have e1:(256000+256*j+i - 256000) / 256=j:=by omega
    have e2:(256000+256*j+i - 256000) % 256=i:=by omega
    rw[e1,e2]
  have hbx: ∀(j:Nat) (p:Nat×Sh),bxs[j]? =some p->(∃ y,Ai st.Aa p.1=some y/\uI p.2 y)/\(∀ ks,p.2= .box ks->ks.length<=200)/\m p.1=bval j/\IR Of w' (256*bi j) (bval j) (Zb (rs.getD (sg.ress.length+j) .undef)) /\
      ∀ b k i,i<255->Of b k=some (256*bi j+i)->O2 b k=some (if i=0 then p.1 else Cf fet p.1+i):=by
    intro j p hp
    obtain⟨i',a1,a2,a3,s',a7,a4⟩:=b2' j p hp
    rw[Nat.zero_add]at a1
    have hbi:bi j=i':=by show(BA sg.pars 0).getD j 0=_;rw[List.getD_eq_getElem?_getD,a1];rfl
    have c2:=hcame.boxes j i' a1
    have hi'x:i'<xs.length:=by rw[g2];exact a2
    have hxv:=hx i' hi'x
    have hF':FOk O st.Aa m w fet:=fun q x h=>⟨hf q x h,hS.Aa q x (hf q x h)⟩
    have hkey:(∃ y,Ai st.Aa p.1=some y/\uI p.2 y)/\(∀ ks,p.2= .box ks->ks.length<=200)/\m p.1=innerS w (sg.pars.getD i' (.agg [])) (av.getD i' undef)/\dY sg.pars xs i'=some p.1:=by
      obtain⟨q,s⟩:=p
      have hs':sg.pars.getD i' (.agg [])=s':=by rw[List.getD_eq_getElem?_getD,a7];rfl
      cases s' with
      | cell _ _=>exact a4.elim
      | agg _=>exact a4.elim
      | box ks =>
        obtain⟨⟨cs0,a4⟩,a5,a6,a8⟩:=a4
        dsimp only at a8
        subst a8
        have e5:xs.getD i' .undef= .ptr q 0:=by rw[List.getD_eq_getElem?_getD,a5];rfl
        rw[e5]at hxv
        obtain⟨bk,base,k1,k2,_⟩:=hxv.ptr hF' a4
        refine⟨⟨_,hf _ _ a4,trivial⟩,(fun ks' h=>by injection h with h;rw[<- h];exact a6),by rw[hs'];dsimp only at k1 ⊢;rw[k1,k2,Nat.add_zero];rfl,?_⟩
        unfold dY;rw[hs',e5]
      | clo f' ks =>
        obtain⟨⟨cs0,a4⟩,a5,a6,a8⟩:=a4
        dsimp only at a8
        subst a8
        have e5:xs.getD i' .undef= .clo f' q:=by rw[List.getD_eq_getElem?_getD,a5];rfl
        rw[e5]at hxv
        have hc:Aw O st.Aa m w (av.getD i' undef) (.clo f' q):=hxv
        obtain⟨_,p',_,hc2,hc⟩:=hc
        rw[hf _ _ a4]at hc
        obtain⟨b',base',e1,e2⟩:=hc
        have hc:OB O w f' (av.getD i' undef) (m q):=by rw[e1,<- e2];exact hc2
        refine⟨⟨_,hf _ _ a4,trivial⟩,(fun ks' h=>by injection h with h;rw[<- h];exact a6),by rw[hs'];exact hc.inner.symm,?_⟩
        unfold dY;rw[hs',e5]
      | map kt vt =>
        obtain⟨⟨l,a4⟩,a5,a8⟩:=a4
        dsimp only at a8
        subst a8
        have e5:xs.getD i' .undef= .own q:=by rw[List.getD_eq_getElem?_getD,a5];rfl
        rw[e5]at hxv
        have hc:Aw O st.Aa m w (av.getD i' undef) (.own q):=hxv
        have hc:=hc.2
        rw[hf _ _ a4]at hc
        refine⟨⟨_,hf _ _ a4,trivial⟩,(fun ks' h=>by cases h),by rw[hs'];exact hc.symm,?_⟩
        unfold dY;rw[hs',e5]
    obtain⟨hky,hk200,hkm,e7⟩:=hkey
    refine⟨hky,hk200,?_,?_,fun b k i hi h=> ?_⟩
    ·show _=innerS w (sg.pars.getD (bi j) (.agg [])) (av.getD (bi j) undef)
     rw[hbi];exact hkm
    ·show IR Of w' (256*bi j) (innerS w (sg.pars.getD (bi j) (.agg [])) (av.getD (bi j) undef)) _
     rw[hbi];exact c2
    ·rw[hbi]at h
     rw[hsome b k _ h (by omega)]
     unfold Zd
     rw[if_neg (by omega)]
     have e1:(256*i'+i) / 256=i':=by omega
     have e2:(256*i'+i) % 256=i:=by omega
     rw[e1,e2,e7]
  let NEW:=(backs (b2 d) 16 sg.ress rs 0).2.2++(Bq (Cf fet) (rs.drop sg.ress.length) bxs 0).2.2
  let BX:=(Bq (Cf fet) (rs.drop sg.ress.length) bxs 0).2.1
  let objsF:=Ar (AZ (Ar st.Aa (upd++BX)) del) NEW
  have hnewO: ∀ p∈NEW,Ai objsF p.1=some p.2:=fun p hp=>UB hnd hp
  have hBXk: ∀ i z,(i,z)∈BX-> ∃(j:Nat) (p:Nat×Sh),bxs[j]? =some p/\p.1=i/\ ∃ r,z=(Dv (Cf fet p.1) p.2 r).2.1:=by
    intro i z hz
    have: ∀(bs:List (Nat×Sh)) (j0:Nat),(i,z)∈(Bq (Cf fet) (rs.drop sg.ress.length) bs j0).2.1-> ∃(j:Nat) (p:Nat×Sh),bs[j]? =some p/\p.1=i/\ ∃ r,z=(Dv (Cf fet p.1) p.2 r).2.1:=by
      intro bs
      induction bs with
      | nil=>intro j0 h;simp [Bq]at h
      | cons b bs ih =>
        intro j0 h
        obtain⟨q,ks⟩:=b
        simp only[Bq]at h
        rcases List.mem_cons.1 h with h | h
        ·injection h with h1 h2
         exact⟨0,(q,ks),rfl,h1.symm,_,h2⟩
        ·obtain⟨j,p,h1,h2⟩:=ih (j0+1) h
         exact⟨j+1,p,by simpa using h1,h2⟩
    exact this bxs 0 hz
  have hupdk: ∀ i z,(i,z)∈upd->(∃ e l f,z= .arr e true l/\Ai st.Aa i=some (.arr e f l))/\Ai (Ar st.Aa upd) i=some z:=by
    intro i z hz
    obtain⟨e,fz,l,k1,k2⟩:=g3 _ hz
    dsimp only at k1 k2
    refine⟨⟨e,l,fz,k2,k1⟩,?_⟩
    obtain⟨x,hx1,hx2⟩:=D6 upd st.Aa i ⟨(i,z),hz,rfl⟩
    obtain⟨e',fz',l',k3,k4⟩:=g3 _ hx1
    dsimp only at k3 k4
    rw[k1]at k3
    injection k3 with k3;injection k3 with q1 q2 q3
    subst q1;subst q3
    rw[hx2,k4,k2]
  have hnoBX: ∀ i,(∃ e f l,Ai st.Aa i=some (.arr e f l))-> ∀ y,(i,y)∉BX:=by
    rintro i ⟨e,f',l,h⟩ y hy
    obtain⟨j,p,h1,h2,_⟩:=hBXk i y hy
    obtain⟨⟨y',h3,h4⟩,_⟩:=hbx j p h1
    rw[h2,h]at h3;injection h3 with h3;subst h3
    exact Yt h4
  have hTiff: ∀ i,T i->i∈del\/ ∃ y,(i,y)∈BX:=by
    rintro i ⟨n,hn'⟩
    have h1:(i,n)∈N:=Yk hn'
    have h2:=(g4 i).2 (List.mem_map.2 ⟨_,h1,rfl⟩)
    rcases List.mem_append.1 h2 with h2 | h2
    ·exact .inl h2
    ·right
     rw[<- qI (Cf fet) (rs.drop sg.ress.length) bxs 0]at h2
     obtain⟨q,hq1,hq2⟩:=List.mem_map.1 h2
     exact⟨q.2,by rw[<- hq2];exact hq1⟩
  have hget: ∀ i z,Ai objsF i=some z->(i,z)∈NEW\/(¬ Nw i/\i∉del/\((i,z)∈BX\/((∀ y,(i,y)∉BX)/\Ai (Ar st.Aa upd) i=some z))):=by
    intro i z hz
    rcases JB hz with h | ⟨hno,hnd',h⟩
    ·exact .inl h
    ·have hni: ¬ Nw i:=by rintro ⟨p,hp,rfl⟩;exact hno p.2 hp
     refine .inr ⟨hni,hnd',?_⟩
     rcases h with h | ⟨h1,h2⟩
     ·rcases List.mem_append.1 h with h | h
      ·obtain⟨⟨e,l,f',h3,h4⟩,h5⟩:=hupdk i z h
       exact .inr ⟨hnoBX i ⟨e,f',l,h4⟩,h5⟩
      ·exact .inl h
     ·right
      refine⟨fun y hy=>h1 y (List.mem_append_right _ hy),?_⟩
      rw[BV _ _ _ (fun p hp e=>h1 p.2 (List.mem_append_left _ (by rw[<- e];exact hp)))]
      exact h2
  have hbxst: ∀ i z,(i,z)∈BX-> ∃ y,Ai st.Aa i=some y/\Ai (Ar st.Aa upd) i=some y/\y.shp=z.shp:=by
    intro i z hz
    obtain⟨j,p,h1,h2,r,h4⟩:=hBXk i z hz
    obtain⟨⟨y,h3,h5⟩,_⟩:=hbx j p h1
    rw[h2]at h3
    refine⟨y,h3,?_,by rw[h4];exact AcZ h5⟩
    rw[BV _ _ _ (fun p hp e=> ?_)]
    ·exact h3
    ·obtain⟨⟨e1,e2,e3,_,h6⟩,_⟩:=hupdk p.1 p.2 hp
     rw[e,h3]at h6;injection h6 with h6;rw[h6]at h5;exact Yt h5
  have hE:EX (Ar st.Aa upd) m objsF m2 Nw:=by
    intro i z hz
    rcases hget i z hz with h | ⟨h1,h2,h | ⟨h3,h4⟩⟩
    ·exact .inl ⟨_,h,rfl⟩
    ·obtain⟨y,h5,h6,h7⟩:=hbxst i z h
     exact .inr ⟨y,h6,h7,hm2not i h1⟩
    ·exact .inr ⟨z,h4,rfl,hm2not i h1⟩
  obtain⟨r1,r2,r3⟩:=dW (objs':=objsF) (m':=m2) (cid:=256000) (cst:=256) (id:=b2 d) (stride:=16) (f:=fun k=>us.getD k undef) (g:=fun k=>innerS w' (sg.ress.getD k (.agg [])) (us.getD k undef)) (rs:=rs) hpf hnone sg.ress 0 (fun j _=>by rw[Nat.zero_add]) (fun j hj=>by
    have:=hus3 j (by rw[hus1];exact hj)
    rw[Nat.zero_add];exact this) hrres hokD (fun p hp=>hnewO p (List.mem_append_left _ hp)) (fun p hp=>hm2 p (List.mem_append_left _ hp))
  obtain⟨s1,s2⟩:=kU (rb:=Cf fet) (objs':=objsF) (m':=m2) (val:=bval) (cid:=fun j=>256*bi j) (rs:=rs.drop sg.ress.length) hpf hnone bxs 0 (fun j p hp=>by
    obtain⟨⟨y0,h0,h0'⟩,h1,h2,h4,h5⟩:=hbx j p hp
    have hni: ¬ Nw p.1:=fun h=>by
      have:=(hNw p.1 h).Aa
      dsimp only at this
      rw[BV _ _ _ (fun p' hp' e=> ?_)]at this
      ·rw[h0]at this;cases this
      ·obtain⟨⟨e1,e2,e3,_,h6⟩,_⟩:=hupdk p'.1 p'.2 hp'
       rw[e,h0]at h6;injection h6 with h6;rw[h6]at h0';exact Yt h0'
    rw[Nat.zero_add]
    refine⟨h1,by rw[hm2not _ hni];exact h2,?_,h5⟩
    rw[List.getD_eq_getElem?_getD,List.getElem?_drop,<- List.getD_eq_getElem?_getD];exact h4) hokC (fun p hp=>hnewO p (List.mem_append_right _ hp)) (fun p hp=>hm2 p (List.mem_append_right _ hp))
  let vsR:=(backs (b2 d) 16 sg.ress rs 0).2.1
  have hval:Au O2 objsF m2 w' v (uN vsR):=by
    have hlen:vsR.length=us.size:=by rw[r1,hus1]
    rw[hus2]
    by_cases h1:us.size=1
    ·rw[dif_pos h1]
     obtain⟨x,hx'⟩: ∃ x,vsR=[x]:=List.length_eq_one_iff.1 (by rw[hlen];exact h1)
     rw[hx']
     have:=(r2 0 (by rw[<- hus1];omega)).1
     have e1:(backs (b2 d) 16 sg.ress rs 0).2.1.getD 0 .undef=x:=by
       show vsR.getD 0 .undef=x
       rw[hx'];rfl
     rw[e1]at this
     have e2:us.getD (0+0) undef=us[0]:=by simp [Array.getD_eq_getD_getElem?,show 0<us.size from by omega]
     rw[<- e2];exact this
    ·rw[dif_neg h1]
     have e1:uN vsR= .tup vsR:=by
       cases hv':vsR with
       | nil=>rfl
       | cons x l =>
         cases l with
         | nil=>rw[hv']at hlen;simp at hlen;omega
         | cons _ _=>rfl
     rw[e1]
     refine⟨us,rfl,hlen.symm,fun j hj=> ?_⟩
     have hj':j<sg.ress.length:=by rw[<- r1];exact hj
     have:=r2 j hj'
     rw[Nat.zero_add]at this
     exact this.1.AfV this.2
  refine hn O2 m2 _ _ ?_
  refine hS1.next (T:=T) (Nw:=Nw) (x:=uN vsR) hM hP2 hless2 hE (fun n hn'=>(hNw n hn').both) (fun q hq=> ?_) (fun i z hz=> ?_) rfl (fun _=>hval)
  ·obtain⟨n,hn'⟩:=hq
   have h1:(q,n)∈N:=Yk hn'
   have h2:=halive _ h1
   obtain⟨y,hy⟩:=Option.isSome_iff_exists.1 h2
   have h3:=hf _ _ hy
   by_cases hu: ∃ p∈upd,p.1=q
   ·obtain⟨x,_,hx2⟩:=D6 upd st.Aa q hu
    exact Option.isSome_iff_exists.2 ⟨x,hx2⟩
   ·dsimp only
    rw[BV _ _ _ (fun p hp e=>hu ⟨p,hp,e⟩)]
    exact Option.isSome_iff_exists.2 ⟨y,h3⟩
  ·rcases hget i z hz with h | ⟨h1,h2,h | ⟨h3,h4⟩⟩
   ·right
    refine⟨?_,(hNw i ⟨_,h,rfl⟩).ne⟩
    rcases List.mem_append.1 h with h | h
    ·exact r3 _ h
    ·exact s2 _ h
   ·right
    obtain⟨y,h5,h6,_⟩:=hbxst i z h
    exact⟨s1 _ h,hS.ids i _ h5⟩
   ·left
    refine⟨fun ht=> ?_,h4,hm2not i h1⟩
    rcases hTiff i ht with h | ⟨y,hy⟩
    ·exact h2 h
    ·exact h3 y hy
theorem oO {c:Call} {f:Nat} {sg:Sig} {x0:Operand} (hS:Sim V0 O0 w0 O m st a w) (ho:o.op= .call c) (hcal:c.callee= .value x0) (hev:a.eval x0= .func (.func f) #[] #[]) (hsp:Spec P f sg) {d:Nat} {fet:Fet} (hf:DL st.Aa fet) {xs:List A}
    (hl:xs.length=c.args.size) (hx: ∀ j,j<xs.length->Au O st.Aa m w (a.eval (c.args.getD j (.tmp 0))) (xs.getD j .undef))
    (hok:Am (EC fet d sg xs).ok) (hfr: ∀ p∈(EC fet d sg xs).new,st.fresh p.1=true) (hnd:nodup ((EC fet d sg xs).new.map (·.1))=true):Good P V0 O0 w0 (apply st o (EC fet d sg xs)) o a w:=by
  refine eG (av:=c.args.map a.eval) hS ho hcal hev (by simp) hsp hf (by simpa using hl) (fun j hj=> ?_) hok hfr hnd
  have hjs:j<c.args.size:=by rw[<- hl];exact hj
  have e:(c.args.map a.eval).getD j undef=a.eval (c.args.getD j (.tmp 0)):=by simp [Array.getD_eq_getD_getElem?,hjs]
  rw[e];exact hx j hj
end
end Go.Proofs.YtbaomhegdndpnaaGreatDoor.Vm
namespace Go.Proofs.YtbaomhegdndpnaaGreatDoor.Vm
open Classical
section
variable {P:Program} {C:Ctx} {V0:Nat->Value} {O0 O:Own} {w0 w:World} {m:Nat->Value} {st:St} {a:Act} {o:Oper}
theorem AbM {cs:List A} {r:Nat} (h:AbL cs=some r):cs=[.ptr r 0]:=by
  unfold AbL at h
  split at h
  ·injection h with h;rw[h]
  ·cases h
theorem AdI {f:Nat} {x:Operand} (hS:Sim V0 O0 w0 O m st a w) (ho:o.op= .makeFunc (.func f) #[] #[x]) {fet:Fet} (hf:DL st.Aa fet) {x':A} (hx:Au O st.Aa m w (a.eval x) x') (hok:Am (kZ fet f x').ok) :
    Good P V0 O0 w0 (apply st o (kZ fet f x')) o a w:=by
  intro next Q hn
  have hF:FOk O st.Aa m w fet:=fun q x h=>⟨hf q x h,hS.Aa q x (hf q x h)⟩
  cases x' with
  | ptr q off =>
    unfold kZ at hok hn
    dsimp only at hok hn
    obtain⟨cs,hb,he⟩:=AA hok
    rw[he]at hok hn;clear he
    obtain⟨r,hr,he⟩:=AA hok
    rw[he]at hok hn;clear he
    have h0:=Nat.eq_of_beq_eq_true hok.cons.1
    subst h0
    obtain rfl:=AbM hr
    obtain⟨b,base,g1,g2,g3⟩:=hx.ptr hF (BK hb)
    obtain⟨k1,k2,u,k3,k4⟩:=g3 0 (by simp)
    rw[Nat.add_zero]at k1 k3 g2
    let O':Own:=fun b' k'=>if b'=b/\k'=base then none else O b' k'
    have hO': ∀ b' k',O' b' k'=if b'=b/\k'=base then none else O b' k':=fun _ _=>rfl
    have hrun:(execOp a.eval o).run P w= .ok (.value (.func (.func f) #[] #[a.eval x])) w:=by simp [execOp,ho,Instr.makeFunc]
    unfold Oper.wp
    rw[hrun,Oper.upon_value]
    refine hn O' m _ _ ?_
    have hP:Passes O O' (· =q) w.heap.size:=by
      refine⟨fun b' k' _ h=> ?_,fun b' k' o' _ h ht=> ?_⟩
      ·rw[hO'];split
       ·rfl
       ·exact h
      ·rw[hO',if_neg]
       ·exact h
       ·rintro ⟨rfl,rfl⟩
        rw[k1]at h;injection h with h;exact ht h.symm
    have hget: ∀ i y,Ai (apply st o {ok:=[Nat.beq 0 0],val:=.clo (f+1) r,del:=[q]}).Aa i=some y->i≠q/\Ai st.Aa i=some y:=by
      intro i y hy
      rcases JB hy with h | ⟨_,h2,h | ⟨_,h⟩⟩
      ·cases h
      ·cases h
      ·exact⟨fun e=>h2 (by rw[e];exact List.mem_cons_self),h⟩
    refine hS.next (T:=(· =q)) (Nw:=fun _=>False) (Moves.refl O _ w) hP (fun b' k' _ h h'=>h (by rw[hO',h'];split<;>rfl)) (fun i y hy=>.inr ⟨y,(hget i y hy).2,rfl,rfl⟩) (fun _ h=>h.elim)
      (fun o' h=>by rw[h,hf _ _ (BK hb)];rfl) (fun i y hy=>.inl ⟨(hget i y hy).1,(hget i y hy).2,rfl⟩) rfl (fun _=> ?_)
    show Aw O' _ m w _ (.clo (f+1) r)
    have k4:Aw O st.Aa m w u (.ptr r 0):=k4
    refine⟨rfl,u,k4.1,⟨b,base,by rw[g2];rfl,by rw[hO',if_pos ⟨rfl,rfl⟩],k3⟩,?_⟩
    cases hr':Ai (apply st o {ok:=[Nat.beq 0 0],val:=.clo (f+1) r,del:=[q]}).Aa r with
    | none=>trivial
    | some y =>
      have hy:=(hget r y hr').2
      cases y with
      | box cs' =>
        have k4:=k4.2
        rw[hy]at k4
        exact k4
      | _=>trivial
  | _=>exact(Az hok).elim
theorem AdU {C:Ctx} {d:TypeDesc}: ∀(xs:List (Nat×A)) (cs cs':List A),fill C d xs cs=some cs'-> ∀ i∈cs'.flatMap A.CG,i∈cs.flatMap A.CG\/ ∃ x∈xs,i∈x.2.ids:=by
  intro xs
  induction xs with
  | nil=>intro cs cs' h i hi;simp only[fill]at h;injection h with h;rw[h];exact .inl hi
  | cons x xs ih =>
    intro cs cs' h i hi
    obtain⟨k,x⟩:=x
    simp only[fill]at h
    cases hp:Za C d k with
    | none=>rw[hp]at h;cases h
    | some q =>
      obtain⟨off,ti⟩:=q
      rw[hp]at h
      dsimp only at h
      cases hb:(x.isVal&&Nat.beq x.cells.length ti.cs.length&&Nat.ble (off+ti.cs.length) cs.length)with
      | false=>rw[hb]at h;cases h
      | true =>
        rw[hb]at h
        simp only[cond_true]at h
        simp only[Bool.and_eq_true]at hb
        rcases ih _ _ h i hi with h1 | ⟨y,h1,h2⟩
        ·unfold splice at h1
         simp only[List.flatMap_append,List.mem_append]at h1
         rcases h1 with (h1 | h1) | h1
         ·left
          obtain⟨c,hc,hci⟩:=List.mem_flatMap.1 h1
          exact List.mem_flatMap.2 ⟨c,List.mem_of_mem_take hc,hci⟩
         ·right
          refine⟨(k,x),List.mem_cons_self,?_⟩
          obtain⟨c,hc,hci⟩:=List.mem_flatMap.1 h1
          obtain⟨j,hj,rfl⟩:=List.mem_iff_getElem.1 hc
          refine Xm hb.1.1 hj ?_
          rw[List.getD_eq_getElem?_getD,List.getElem?_eq_getElem hj];exact hci
         ·left
          obtain⟨c,hc,hci⟩:=List.mem_flatMap.1 h1
          exact List.mem_flatMap.2 ⟨c,List.mem_of_mem_drop hc,hci⟩
        ·exact .inr ⟨y,List.mem_cons_of_mem _ h1,h2⟩
theorem AdF {t n:Nat} {ps:Array (Nat×Operand)} (hC:TOk P C) (hS:Sim V0 O0 w0 O m st a w) {d:Tmp} (hd:o.dst=some d) (ho:o.op= .buildSlice t n ps) {xs:List (Nat×A)}
    (hl:xs.length=ps.size) (hx: ∀(j:Nat) (x:Nat×A) (p:Nat×Operand),xs[j]? =some x->ps[j]? =some p->p.1=x.1/\Au O st.Aa m w (a.eval p.2) x.2)
    (hids: ∀ x∈xs,∀ i∈x.2.ids,i∈st.ids\/(Ai st.Aa i).isSome)
    (hok:Am (Xi C d t n xs).ok) (hfr: ∀ p∈(Xi C d t n xs).new,st.fresh p.1=true) (hnd:nodup ((Xi C d t n xs).new.map (·.1))=true):Good P V0 O0 w0 (apply st o (Xi C d t n xs)) o a w:=by
  unfold Xi at *
  obtain⟨ti,e,te,ht,hte,hd',he⟩:=Jy hok
  rw[he]at hok hfr hnd ⊢;clear he
  obtain⟨cs,hcs,he⟩:=AA hok
  rw[he]at hok hfr hnd ⊢;clear he
  obtain⟨h0,h1⟩:=hok.cons
  have hn:=Nat.le_of_ble_eq_true h1.cons.1
  have hk:=pF h0
  have hk1:te.cs.length=1:=by rw[hk];rfl
  have hT:=hC.is hd'
  obtain⟨i,z,g1,g2,g3,g4,g5,g6⟩:=hT.i
  have hu:=(hC.is ht).d
  rw[hte]at hu
  obtain⟨hz1,hz2⟩:=Vh (O:=O) (w:=w) hT (by rw[g1];exact g4) (by rw[hk];rfl) (by rw[hk1];decide) n
  rw[hk1,Nat.mul_one]at hz1
  have hz:Fg O st.Aa m w (zeros z (n*te.cs.length)) (List.replicate n .BN):=by
    rw[hk1,Nat.mul_one]
    refine⟨by rw[hz1,List.length_replicate],fun j hj=> ?_⟩
    rw[List.length_replicate]at hj
    obtain⟨u,k1,k2⟩:=hz2.2 j 0 (by simpa using hj) (by rw[hk1];decide)
    rw[hk1,Nat.mul_one,Nat.mul_one,Nat.add_zero]at k1
    have e1:(zeros z n).getD j undef=u:=by rw[Array.getD_eq_getD_getElem?,k1];rfl
    have e2:(List.replicate n A.BN).getD j .undef= .BN:=by simp [List.getD_eq_getElem?_getD,hj]
    rw[e1,e2]
    have e3:((List.replicate n (te.cs.map CK.D8)).getD j []).getD 0 .undef= .BN:=by simp [List.getD_eq_getElem?_getD,hj,hk,CK.D8,CK.zero]
    rw[e3]at k2
    exact k2
  obtain⟨vs',f1,f2⟩:=wB (O:=O) (Aa:=st.Aa) (m:=m) (w:=w) hC (d:=.array n e) (place:=fun i=>some (i*te.cs.length,te.cs.length)) (fun i p hp=>by
    simp only[Qv,g1,Option.map_some]at hp
    rw[<- hp]
    have:te.cs.length=_:=rfl
    simp [g2]) xs (ps.map (fun(i,x)=>(i,a.eval x))).toList _ _ cs (by simp [hl]) (fun j x p hxj hpj=>by
    simp only[Array.toList_map,List.getElem?_map]at hpj
    cases hq:ps.toList[j]? with
    | none=>rw[hq]at hpj;cases hpj
    | some q =>
      rw[hq]at hpj
      injection hpj with hpj
      subst hpj
      exact hx j x q hxj (by simpa using hq)) hz hcs
  refine oL (ks:=[]) (t:=e) (r:=.slice (some (at' w.heap.size 0)) n n) hS f2 (fun j hj i hi=> ?_) hd ?_ (fun O' objs' m' w' c hc hm=> ?_) hfr hnd
  ·rcases AdU _ _ _ hcs i (Gh (f:=A.CG) hj hi)with h | ⟨x,h2,h3⟩
   ·obtain⟨c,hc,hci⟩:=List.mem_flatMap.1 h
    rw[List.eq_of_mem_replicate hc]at hci
    cases hci
   ·exact hids x h2 i h3
  ·have hbig: ¬(16777216<n*te.cs.length):=by rw[hk1];omega
   simp only[execOp,ho,Sem.run_bind,Instr.buildSlice,run_underlying hu,Result.andThen_ok,hT.Eb]
   rw[if_neg (by simpa using hbig)]
   by_cases h0:n*te.cs.length=0
   ·have hz0:(Array.range (n*te.cs.length)).map ((#[]:Array Value)[· % (#[]:Array Value).size]!)=zeros z (n*te.cs.length):=by simp [zeros,h0]
    simp only[if_pos h0,Sem.run_bind,Sem.run_pure,Result.andThen_ok,hz0,f1]
    rfl
   ·simp only[if_neg h0,Sem.run_bind,Sem.run_pure,Result.andThen_ok,zeroValue,typeInfo,run_program,g1,g4]
    have hz0:(Array.range (n*te.cs.length)).map (z.cells[· % z.cells.size]!)=zeros z (n*te.cs.length):=rfl
    rw[hz0,f1]
    rfl
  ·show Aw O' objs' m' w' _ (.bsl (b2 d) n)
   refine⟨rfl,?_⟩
   rw[hc]
   exact⟨w.heap.size,0,hm,rfl⟩
end
