import Derived.Test.YtadefjgbcapakaaGreatDoorA7
set_option linter.all false
namespace Go.Proofs.YtadefjgbcapakaaGreatDoor.Vm
open Classical
section
variable {P:Program} {C:Ctx} {V0:Nat->Value} {O0 O:Own} {w0 w:World} {m:Nat->Value} {st:St} {a:Act} {o:Oper}
def uX (ss:List Sh) (xs:List A) (i:Nat):Option Nat:=match ss.getD i (.agg []),xs.getD i .undef with
  | .map _ _,.own o=>some o
  | .clo _ _,.clo _ o=>some o
  | .box _,.clo _ o=>some o
  | .clo _ _,.ptr o _=>some o
  | _,.ptr o _=>some o
  | _,_=>none
def lH (rb:Nat->Nat) (d:Nat) (ss:List Sh) (xs:List A) (n:Nat):Option Nat :=
  if 256000<=n then some (b2 d+16*((n - 256000) / 256)+(n - 256000) % 256)
  else match uX ss xs (n / 256)with
    | some q=>some (if n % 256=0 then q else rb q+n % 256)
    | none=>none
def Adq:Sh->Obj->Prop
  | .box _,.box _=>True
  | .map _ _,.mp _=>True
  | _,_=>False
theorem jH {s:Sh} {e:Nat} {f:Bool} {l:Sl} (h:Adq s (.arr e f l)):False:=by cases s<;>exact h
theorem AkI {s:Sh} {y:Obj} {rb:Nat} {r:A} (h:Adq s y):y.shp=(EU rb s r).2.1.shp:=by
  cases s<;>cases y<;>first | exact h.elim | rfl
theorem AdE {d:Nat} {fet:Fet} {sg:Sig} {xs:List A} (h:Ar (II fet d sg xs).ok):sg.ok (UA fet sg.Af xs).vs=true:=by
  unfold II Adc at h
  exact h.append.1.append.1.append.1.append.2.cons.1
theorem vC {c:Call} {f:Nat} {sg:Sig} {x0:Operand} {caps av:Array Value} (hS:Sim V0 O0 w0 O m st a w) (ho:o.op= .call c) (hcal:c.callee= .value x0) (hev:a.eval x0= .func (.func f) #[] caps) (hav:c.args.map a.eval++caps=av) (hsp:Spec P f sg) {d:Nat} {fet:Fet} (hf:H8 st.Aa fet) {xs:List A}
    (hl:xs.length=av.size) (hx: ∀ j,j<xs.length->Au O st.Aa m w (av.getD j undef) (xs.getD j .undef))
    (hok:Ar (II fet d sg xs).ok) (hfr: ∀ p∈(II fet d sg xs).new,st.fresh p.1=true) (hnd:nodup ((II fet d sg xs).new.map (·.1))=true):Good P V0 O0 w0 (apply st o (II fet d sg xs)) o a w:=by
  intro next Q hn
  unfold II at hok hfr hnd hn
  generalize hH:UA fet sg.Af xs=H at *
  obtain⟨hok1,vsA,upd,del,bxs⟩:=H
  have hHs:AY fet sg.Af xs=(hok1,vsA,upd,del,bxs):=by
    unfold UA at hH
    injection hH with q1 q2 q3 q4 q5
    rw[<- q1,<- q2,<- q3,<- q4,<- q5]
  dsimp only at hok hfr hnd hn
  unfold Adc at hok
  obtain⟨hokA,hokB⟩:=hok.append
  obtain⟨hokA,hokC⟩:=hokA.append
  obtain⟨hokA,hokD⟩:=hokA.append
  obtain⟨hokA,hokE⟩:=hokA.append
  obtain⟨hN,hokB⟩:=hokB.cons
  obtain⟨h100,hokB⟩:=hokB.cons
  have h100:=Nat.le_of_ble_eq_true h100
  have hF:sg.F vsA=some (sg.val vsA):=by
    have:=hokE.cons.1
    unfold Sig.F
    rw[this];rfl
  have hokA':Ar (AY fet sg.Af xs).1:=by rw[hHs];exact hokA
  generalize sg.val vsA=rs at hF hfr hnd hn hokB hokC hokD
  simp only[Adc]at hfr hnd hn hokB hokC hokD
  have hcnt:=Nat.eq_of_beq_eq_true hokB.cons.1
  obtain⟨g1,g2,g3,g4,g5⟩:=RX hf hS.Aa 256 sg.Af xs 0 (fun j=>av.getD j undef) hx hokA'
  obtain⟨b1,b2'⟩:=AlO (fet:=fet) (stride:=256) sg.Af xs 0 0 hokA'
  have halive:=Si (fet:=fet) (stride:=256) sg.Af xs 0 hokA'
  rw[hHs]at g1 g3 g4 g5 b1 b2'
  dsimp only at g1 g3 g4 g5 b1 b2'
  generalize hNs:EF fet 0 256 sg.Af xs=N at *
  obtain⟨O1,hS1,hp1,hle1,hv1,hE1,hk1⟩:=hS.freezes _ g3
  let ρ :=look N
  have hρ : ∀ p∈N,ρ p.1=some p.2:=Aew hN
  have hupdO: ∀ p∈upd,Dx O1 (Ap st.Aa upd) m w p.1 p.2:=by
    intro p hp
    obtain⟨x,hx1,hx2⟩:=Fh upd st.Aa p.1 ⟨p,hp,rfl⟩
    obtain⟨e,fz,l,k1,k2⟩:=g3 p hp
    obtain⟨e',fz',l',k3,k4⟩:=g3 _ hx1
    dsimp only at k3 k4
    rw[k1]at k3
    injection k3 with k3;injection k3 with q1 q2 q3
    subst q1;subst q3
    rw[k2,<- k4]
    exact hS1.Aa p.1 x hx2
  have hIR:=g5 hp1 hv1 hupdO hk1 hρ
  have hargs:av.size=vsA.length:=by rw[<- hl,g2,g1]
  have hexec:(execOp a.eval o).run P w= .ok (.enter f av) w:=by
    simp only[execOp,ho,resolve,hcal,hev,Deferred.ofValue,Sem.run_bind,Sem.run_pure,Result.andThen_ok,invoke]
    have:=hsp.1 av w
    simpa [hav]using this
  unfold Oper.wp
  rw[hexec,Oper.upon_enter]
  refine(hsp.2 (Gw O1 ρ) w av vsA rs ⟨fun g j p ht=>⟨PI.2 (hS1.Aen.1 g j p ht).1,(hS1.Aen.1 g j p ht).2⟩,hS1.Aen.2⟩ hargs g1 (by rw[g1,<- g2];exact h100) (fun j hj=> ?_) hF).mono ?_
  ·have:=hIR j (by rw[<- g1];exact hj)
   rw[Nat.zero_add]at this
   exact this
  rintro e w' ⟨v,Of,rfl,hcame⟩
  dsimp only
  obtain⟨us,hus1,hus2,hus3⟩:=hcame.res
  let T:Nat->Prop:=fun q=> ∃ i,ρ q=some i
  let O2:Own:=fun b k=>if b<w.heap.size then(match O1 b k with | none=>none | some q=>if T q then(Of b k).bind (lH (DD fet) d sg.Af xs)else some q)else(Of b k).bind (lH (DD fet) d sg.Af xs)
  have hM:Moves O1 T w w':=hcame.moves.AoI
  have hO2lt: ∀ {b k},b<w.heap.size->O2 b k=(match O1 b k with | none=>none | some q=>if T q then(Of b k).bind (lH (DD fet) d sg.Af xs)else some q):=fun hb=>if_pos hb
  have hP2:Passes O1 O2 T w.heap.size:=by
    refine⟨fun b k hb h=>by rw[hO2lt hb,h],fun b k q hb h ht=> ?_⟩
    rw[hO2lt hb,h]
    exact if_neg ht
  have hless2: ∀ b k,b<w.heap.size->O2 b k≠none->O1 b k≠none:=by
    intro b k hb h h'
    rw[hO2lt hb,h']at h;exact h rfl
  have hnone: ∀ b k,Of b k=none->O2 b k=none:=by
    intro b k h
    by_cases hb:b<w.heap.size
    ·rw[hO2lt hb]
     cases hO:O1 b k with
     | none=>rfl
     | some q =>
       by_cases ht:T q
       ·show(if T q then _ else _)=_
        rw[if_pos ht,h];rfl
       ·exfalso
        have hr:Gw O1 ρ b k=some 255:=by
          unfold Gw;rw[hO]
          have: ρ q=none:=by
            cases hh: ρ q with
            | none=>rfl
            | some i=>exact absurd ⟨i,hh⟩ ht
          simp [this]
        have:=hcame.Xf b k hb hr
        rw[h]at this;cases this
    ·show(if _ then _ else _)=_
     rw[if_neg hb,h];rfl
  have hsome: ∀ b k n,Of b k=some n->n≠255->O2 b k=lH (DD fet) d sg.Af xs n:=by
    intro b k n h hne
    by_cases hb:b<w.heap.size
    ·rw[hO2lt hb]
     have h1:=hcame.less b k hb (by rw[h];simp)
     rw[Ne,PI]at h1
     cases hO:O1 b k with
     | none=>exact absurd hO h1
     | some q =>
       by_cases ht:T q
       ·show(if T q then _ else _)=_
        rw[if_pos ht,h];rfl
       ·exfalso
        have hr:Gw O1 ρ b k=some 255:=by
          unfold Gw;rw[hO]
          have: ρ q=none:=by
            cases hh: ρ q with
            | none=>rfl
            | some i=>exact absurd ⟨i,hh⟩ ht
          simp [this]
        have:=hcame.Xf b k hb hr
        rw[h]at this;injection this with this;exact hne this
    ·show(if _ then _ else _)=_
     rw[if_neg hb,h];rfl
  have hpf:Fe Of w' O2 w':=fun b k u h hc=>⟨hnone b k h,hc⟩
  have hbcnt:bxs.length=(CU sg.Af 0).length:=b1
  let bi:Nat->Nat:=fun j=>(CU sg.Af 0).getD j 0
  let bval:Nat->Value:=fun j=>innerS w (sg.Af.getD (bi j) (.agg [])) (av.getD (bi j) undef)
  let HV:=OA w' (fun k=>innerS w' (sg.A7.getD k (.agg [])) (us.getD k undef)) (b2 d) 16 sg.A7 rs 0++LQ (DD fet) w' bval (rs.drop sg.A7.length) bxs 0
  have hHVf:HV.map (·.1)=((BN (b2 d) 16 sg.A7 rs 0).2.2++(BO (DD fet) (rs.drop sg.A7.length) bxs 0).2.2).map (·.1):=by
    simp only[HV,List.map_append,AgX,zX]
  have hHVn:nodup (HV.map (·.1))=true:=by rw[hHVf];exact hnd
  let m2:Nat->Value:=fun i=>(Zx HV i).getD (m i)
  have hm2: ∀ p∈HV,m2 p.1=p.2:=by
    intro p hp
    show(Zx HV p.1).getD _=_
    rw[Ak0 hHVn p hp];rfl
  let Nw:Nat->Prop:=fun i=> ∃ p∈(BN (b2 d) 16 sg.A7 rs 0).2.2++(BO (DD fet) (rs.drop sg.A7.length) bxs 0).2.2,p.1=i
  have hNw: ∀ i,Nw i->He {st with Aa:=Ap st.Aa upd} i:=by
    rintro i ⟨p,hp,rfl⟩
    exact(Ey (hfr p hp)).frz g3
  have hm2not: ∀ i,¬ Nw i->m2 i=m i:=by
    intro i hi
    show(Zx HV i).getD _=_
    rw[Aib (fun h=> ?_)]
    ·rfl
    ·rw[hHVf]at h
     obtain⟨p,hp,hpe⟩:=List.mem_map.1 h
     exact hi ⟨p,hp,hpe⟩
  have hrres: ∀ j,j<sg.A7.length-> ∀ b k i,i<255->Of b k=some (256000+256*(0+j)+i)->O2 b k=some (b2 d+16*(0+j)+i):=by
    intro j hj b k i hi h
    rw[hsome b k _ h (by omega)]
    unfold lH
    rw[if_pos (by omega),Nat.zero_add]
    have e1:(256000+256*j+i - 256000) / 256=j:=by omega
    have e2:(256000+256*j+i - 256000) % 256=i:=by omega
    rw[e1,e2]
  have hbx: ∀(j:Nat) (p:Nat×Sh),bxs[j]? =some p->(∃ y,Ah st.Aa p.1=some y/\Adq p.2 y)/\(∀ ks,p.2= .box ks->ks.length<=200)/\m p.1=bval j/\IR Of w' (256*bi j) (bval j) (yR (rs.getD (sg.A7.length+j) .undef)) /\
      ∀ b k i,i<255->Of b k=some (256*bi j+i)->O2 b k=some (if i=0 then p.1 else DD fet p.1+i):=by
    intro j p hp
    obtain⟨i',a1,a2,a3,s',a7,a4⟩:=b2' j p hp
    rw[Nat.zero_add]at a1
    have hbi:bi j=i':=by show(CU sg.Af 0).getD j 0=_;rw[List.getD_eq_getElem?_getD,a1];rfl
    have c2:=hcame.boxes j i' a1
    have hi'x:i'<xs.length:=by rw[g2];exact a2
    have hxv:=hx i' hi'x
    have hF':FOk O st.Aa m w fet:=fun q x h=>⟨hf q x h,hS.Aa q x (hf q x h)⟩
    have hkey:(∃ y,Ah st.Aa p.1=some y/\Adq p.2 y)/\(∀ ks,p.2= .box ks->ks.length<=200)/\m p.1=innerS w (sg.Af.getD i' (.agg [])) (av.getD i' undef)/\uX sg.Af xs i'=some p.1:=by
      obtain⟨q,s⟩:=p
      have hs':sg.Af.getD i' (.agg [])=s':=by rw[List.getD_eq_getElem?_getD,a7];rfl
      cases s' with
      | cell _ _=>exact a4.elim
      | agg _=>exact a4.elim
      | box ks =>
        obtain⟨⟨cs0,a4⟩,a5,a6,a8⟩:=a4
        dsimp only at a8
        subst a8
        have e5:xs.getD i' .undef= .ptr q 0:=by rw[List.getD_eq_getElem?_getD,a5];rfl
        rw[e5]at hxv
        obtain⟨bk,base,k1,k2,_⟩:=hxv.ptr hF' a4
        refine⟨⟨_,hf _ _ a4,trivial⟩,(fun ks' h=>by injection h with h;rw[<- h];exact a6),by rw[hs'];dsimp only at k1 ⊢;rw[k1,k2,Nat.add_zero];rfl,?_⟩
        unfold uX;rw[hs',e5]
      | clo f' ks =>
        obtain⟨⟨cs0,a4⟩,a5,a6,a8⟩:=a4
        dsimp only at a8
        subst a8
        have e5:xs.getD i' .undef= .clo f' q:=by rw[List.getD_eq_getElem?_getD,a5];rfl
        rw[e5]at hxv
        have hc:AL O st.Aa m w (av.getD i' undef) (.clo f' q):=hxv
        obtain⟨_,p',_,hc2,hc⟩:=hc
        rw[hf _ _ a4]at hc
        obtain⟨b',base',e1,e2⟩:=hc
        have hc:SN O w f' (av.getD i' undef) (m q):=by rw[e1,<- e2];exact hc2
        refine⟨⟨_,hf _ _ a4,trivial⟩,(fun ks' h=>by injection h with h;rw[<- h];exact a6),by rw[hs'];exact hc.inner.symm,?_⟩
        unfold uX;rw[hs',e5]
      | map kt vt =>
        obtain⟨⟨l,a4⟩,a5,a8⟩:=a4
        dsimp only at a8
        subst a8
        have e5:xs.getD i' .undef= .own q:=by rw[List.getD_eq_getElem?_getD,a5];rfl
        rw[e5]at hxv
        have hc:AL O st.Aa m w (av.getD i' undef) (.own q):=hxv
        have hc:=hc.2
        rw[hf _ _ a4]at hc
        refine⟨⟨_,hf _ _ a4,trivial⟩,(fun ks' h=>by cases h),by rw[hs'];exact hc.symm,?_⟩
        unfold uX;rw[hs',e5]
    obtain⟨hky,hk200,hkm,e7⟩:=hkey
    refine⟨hky,hk200,?_,?_,fun b k i hi h=> ?_⟩
    ·show _=innerS w (sg.Af.getD (bi j) (.agg [])) (av.getD (bi j) undef)
     rw[hbi];exact hkm
    ·show IR Of w' (256*bi j) (innerS w (sg.Af.getD (bi j) (.agg [])) (av.getD (bi j) undef)) _
     rw[hbi];exact c2
    ·rw[hbi]at h
     rw[hsome b k _ h (by omega)]
     unfold lH
     rw[if_neg (by omega)]
     have e1:(256*i'+i) / 256=i':=by omega
     have e2:(256*i'+i) % 256=i:=by omega
     rw[e1,e2,e7]
  let NEW:=(BN (b2 d) 16 sg.A7 rs 0).2.2++(BO (DD fet) (rs.drop sg.A7.length) bxs 0).2.2
  let BX:=(BO (DD fet) (rs.drop sg.A7.length) bxs 0).2.1
  let objsF:=Ap (Bj (Ap st.Aa (upd++BX)) del) NEW
  have hnewO: ∀ p∈NEW,Ah objsF p.1=some p.2:=fun p hp=>YH hnd hp
  have hBXk: ∀ i z,(i,z)∈BX-> ∃(j:Nat) (p:Nat×Sh),bxs[j]? =some p/\p.1=i/\ ∃ r,z=(EU (DD fet p.1) p.2 r).2.1:=by
    intro i z hz
    have: ∀(bs:List (Nat×Sh)) (j0:Nat),(i,z)∈(BO (DD fet) (rs.drop sg.A7.length) bs j0).2.1-> ∃(j:Nat) (p:Nat×Sh),bs[j]? =some p/\p.1=i/\ ∃ r,z=(EU (DD fet p.1) p.2 r).2.1:=by
      intro bs
      induction bs with
      | nil=>intro j0 h;simp [BO]at h
      | cons b bs ih =>
        intro j0 h
        obtain⟨q,ks⟩:=b
        simp only[BO]at h
        rcases List.mem_cons.1 h with h | h
        ·injection h with h1 h2
         exact⟨0,(q,ks),rfl,h1.symm,_,h2⟩
        ·obtain⟨j,p,h1,h2⟩:=ih (j0+1) h
         exact⟨j+1,p,by simpa using h1,h2⟩
    exact this bxs 0 hz
  have hupdk: ∀ i z,(i,z)∈upd->(∃ e l f,z= .arr e true l/\Ah st.Aa i=some (.arr e f l))/\Ah (Ap st.Aa upd) i=some z:=by
    intro i z hz
    obtain⟨e,fz,l,k1,k2⟩:=g3 _ hz
    dsimp only at k1 k2
    refine⟨⟨e,l,fz,k2,k1⟩,?_⟩
    obtain⟨x,hx1,hx2⟩:=Fh upd st.Aa i ⟨(i,z),hz,rfl⟩
    obtain⟨e',fz',l',k3,k4⟩:=g3 _ hx1
    dsimp only at k3 k4
    rw[k1]at k3
    injection k3 with k3;injection k3 with q1 q2 q3
    subst q1;subst q3
    rw[hx2,k4,k2]
  have hnoBX: ∀ i,(∃ e f l,Ah st.Aa i=some (.arr e f l))-> ∀ y,(i,y)∉BX:=by
    rintro i ⟨e,f',l,h⟩ y hy
    obtain⟨j,p,h1,h2,_⟩:=hBXk i y hy
    obtain⟨⟨y',h3,h4⟩,_⟩:=hbx j p h1
    rw[h2,h]at h3;injection h3 with h3;subst h3
    exact jH h4
  have hTiff: ∀ i,T i->i∈del\/ ∃ y,(i,y)∈BX:=by
    rintro i ⟨n,hn'⟩
    have h1:(i,n)∈N:=jA hn'
    have h2:=(g4 i).2 (List.mem_map.2 ⟨_,h1,rfl⟩)
    rcases List.mem_append.1 h2 with h2 | h2
    ·exact .inl h2
    ·right
     rw[<- Aci (DD fet) (rs.drop sg.A7.length) bxs 0]at h2
     obtain⟨q,hq1,hq2⟩:=List.mem_map.1 h2
     exact⟨q.2,by rw[<- hq2];exact hq1⟩
  have hget: ∀ i z,Ah objsF i=some z->(i,z)∈NEW\/(¬ Nw i/\i∉del/\((i,z)∈BX\/((∀ y,(i,y)∉BX)/\Ah (Ap st.Aa upd) i=some z))):=by
    intro i z hz
    rcases O8 hz with h | ⟨hno,hnd',h⟩
    ·exact .inl h
    ·have hni: ¬ Nw i:=by rintro ⟨p,hp,rfl⟩;exact hno p.2 hp
     refine .inr ⟨hni,hnd',?_⟩
     rcases h with h | ⟨h1,h2⟩
     ·rcases List.mem_append.1 h with h | h
      ·obtain⟨⟨e,l,f',h3,h4⟩,h5⟩:=hupdk i z h
       exact .inr ⟨hnoBX i ⟨e,f',l,h4⟩,h5⟩
      ·exact .inl h
     ·right
      refine⟨fun y hy=>h1 y (List.mem_append_right _ hy),?_⟩
      rw[Dy _ _ _ (fun p hp e=>h1 p.2 (List.mem_append_left _ (by rw[<- e];exact hp)))]
      exact h2
  have hbxst: ∀ i z,(i,z)∈BX-> ∃ y,Ah st.Aa i=some y/\Ah (Ap st.Aa upd) i=some y/\y.shp=z.shp:=by
    intro i z hz
    obtain⟨j,p,h1,h2,r,h4⟩:=hBXk i z hz
    obtain⟨⟨y,h3,h5⟩,_⟩:=hbx j p h1
    rw[h2]at h3
    refine⟨y,h3,?_,by rw[h4];exact AkI h5⟩
    rw[Dy _ _ _ (fun p hp e=> ?_)]
    ·exact h3
    ·obtain⟨⟨e1,e2,e3,_,h6⟩,_⟩:=hupdk p.1 p.2 hp
     rw[e,h3]at h6;injection h6 with h6;rw[h6]at h5;exact jH h5
  have hE:Ip (Ap st.Aa upd) m objsF m2 Nw:=by
    intro i z hz
    rcases hget i z hz with h | ⟨h1,h2,h | ⟨h3,h4⟩⟩
    ·exact .inl ⟨_,h,rfl⟩
    ·obtain⟨y,h5,h6,h7⟩:=hbxst i z h
     exact .inr ⟨y,h6,h7,hm2not i h1⟩
    ·exact .inr ⟨z,h4,rfl,hm2not i h1⟩
  obtain⟨r1,r2,r3⟩:=uT (objs':=objsF) (m':=m2) (cid:=256000) (cst:=256) (id:=b2 d) (stride:=16) (f:=fun k=>us.getD k undef) (g:=fun k=>innerS w' (sg.A7.getD k (.agg [])) (us.getD k undef)) (rs:=rs) hpf hnone sg.A7 0 (fun j _=>by rw[Nat.zero_add]) (fun j hj=>by
    have:=hus3 j (by rw[hus1];exact hj)
    rw[Nat.zero_add];exact this) hrres hokD (fun p hp=>hnewO p (List.mem_append_left _ hp)) (fun p hp=>hm2 p (List.mem_append_left _ hp))
  obtain⟨s1,s2⟩:=zY (rb:=DD fet) (objs':=objsF) (m':=m2) (val:=bval) (cid:=fun j=>256*bi j) (rs:=rs.drop sg.A7.length) hpf hnone bxs 0 (fun j p hp=>by
    obtain⟨⟨y0,h0,h0'⟩,h1,h2,h4,h5⟩:=hbx j p hp
    have hni: ¬ Nw p.1:=fun h=>by
      have:=(hNw p.1 h).Aa
      dsimp only at this
      rw[Dy _ _ _ (fun p' hp' e=> ?_)]at this
      ·rw[h0]at this;cases this
      ·obtain⟨⟨e1,e2,e3,_,h6⟩,_⟩:=hupdk p'.1 p'.2 hp'
       rw[e,h0]at h6;injection h6 with h6;rw[h6]at h0';exact jH h0'
    rw[Nat.zero_add]
    refine⟨h1,by rw[hm2not _ hni];exact h2,?_,h5⟩
    rw[List.getD_eq_getElem?_getD,List.getElem?_drop,<- List.getD_eq_getElem?_getD];exact h4) hokC (fun p hp=>hnewO p (List.mem_append_right _ hp)) (fun p hp=>hm2 p (List.mem_append_right _ hp))
  let vsR:=(BN (b2 d) 16 sg.A7 rs 0).2.1
  have hval:Au O2 objsF m2 w' v (Adz vsR):=by
    have hlen:vsR.length=us.size:=by rw[r1,hus1]
    rw[hus2]
    by_cases h1:us.size=1
    ·rw[dif_pos h1]
     obtain⟨x,hx'⟩: ∃ x,vsR=[x]:=List.length_eq_one_iff.1 (by rw[hlen];exact h1)
     rw[hx']
     have:=(r2 0 (by rw[<- hus1];omega)).1
     have e1:(BN (b2 d) 16 sg.A7 rs 0).2.1.getD 0 .undef=x:=by
       show vsR.getD 0 .undef=x
       rw[hx'];rfl
     rw[e1]at this
     have e2:us.getD (0+0) undef=us[0]:=by simp [Array.getD_eq_getD_getElem?,show 0<us.size from by omega]
     rw[<- e2];exact this
    ·rw[dif_neg h1]
     have e1:Adz vsR= .tup vsR:=by
       cases hv':vsR with
       | nil=>rfl
       | cons x l =>
         cases l with
         | nil=>rw[hv']at hlen;simp at hlen;omega
         | cons _ _=>rfl
     rw[e1]
     refine⟨us,rfl,hlen.symm,fun j hj=> ?_⟩
     have hj':j<sg.A7.length:=by rw[<- r1];exact hj
     have:=r2 j hj'
     rw[Nat.zero_add]at this
     exact this.1.ApX this.2
  refine hn O2 m2 _ _ ?_
  refine hS1.next (T:=T) (Nw:=Nw) (x:=Adz vsR) hM hP2 hless2 hE (fun n hn'=>(hNw n hn').both) (fun q hq=> ?_) (fun i z hz=> ?_) rfl (fun _=>hval)
  ·obtain⟨n,hn'⟩:=hq
   have h1:(q,n)∈N:=jA hn'
   have h2:=halive _ h1
   obtain⟨y,hy⟩:=Option.isSome_iff_exists.1 h2
   have h3:=hf _ _ hy
   by_cases hu: ∃ p∈upd,p.1=q
   ·obtain⟨x,_,hx2⟩:=Fh upd st.Aa q hu
    exact Option.isSome_iff_exists.2 ⟨x,hx2⟩
   ·dsimp only
    rw[Dy _ _ _ (fun p hp e=>hu ⟨p,hp,e⟩)]
    exact Option.isSome_iff_exists.2 ⟨y,h3⟩
  ·rcases hget i z hz with h | ⟨h1,h2,h | ⟨h3,h4⟩⟩
   ·right
    refine⟨?_,(hNw i ⟨_,h,rfl⟩).ne⟩
    rcases List.mem_append.1 h with h | h
    ·exact r3 _ h
    ·exact s2 _ h
   ·right
    obtain⟨y,h5,h6,_⟩:=hbxst i z h
    exact⟨s1 _ h,hS.ids i _ h5⟩
   ·left
    refine⟨fun ht=> ?_,h4,hm2not i h1⟩
    rcases hTiff i ht with h | ⟨y,hy⟩
    ·exact h2 h
    ·exact h3 y hy
theorem Aby {c:Call} {f:Nat} {sg:Sig} {x0:Operand} (hS:Sim V0 O0 w0 O m st a w) (ho:o.op= .call c) (hcal:c.callee= .value x0) (hev:a.eval x0= .func (.func f) #[] #[]) (hsp:Spec P f sg) {d:Nat} {fet:Fet} (hf:H8 st.Aa fet) {xs:List A}
    (hl:xs.length=c.args.size) (hx: ∀ j,j<xs.length->Au O st.Aa m w (a.eval (c.args.getD j (.tmp 0))) (xs.getD j .undef))
    (hok:Ar (II fet d sg xs).ok) (hfr: ∀ p∈(II fet d sg xs).new,st.fresh p.1=true) (hnd:nodup ((II fet d sg xs).new.map (·.1))=true):Good P V0 O0 w0 (apply st o (II fet d sg xs)) o a w:=by
  refine vC (av:=c.args.map a.eval) hS ho hcal hev (by simp) hsp hf (by simpa using hl) (fun j hj=> ?_) hok hfr hnd
  have hjs:j<c.args.size:=by rw[<- hl];exact hj
  have e:(c.args.map a.eval).getD j undef=a.eval (c.args.getD j (.tmp 0)):=by simp [Array.getD_eq_getD_getElem?,hjs]
  rw[e];exact hx j hj
end
end Go.Proofs.YtadefjgbcapakaaGreatDoor.Vm
namespace Go.Proofs.YtadefjgbcapakaaGreatDoor.Vm
open Classical
section
variable {P:Program} {C:Ctx} {V0:Nat->Value} {O0 O:Own} {w0 w:World} {m:Nat->Value} {st:St} {a:Act} {o:Oper}
theorem Ai5 {cs:List A} {r:Nat} (h:Ai4 cs=some r):cs=[.ptr r 0]:=by
  unfold Ai4 at h
  split at h
  ·injection h with h;rw[h]
  ·cases h
theorem AlS {f:Nat} {x:Operand} (hS:Sim V0 O0 w0 O m st a w) (ho:o.op= .makeFunc (.func f) #[] #[x]) {fet:Fet} (hf:H8 st.Aa fet) {x':A} (hx:Au O st.Aa m w (a.eval x) x') (hok:Ar (Aan fet f x').ok) :
    Good P V0 O0 w0 (apply st o (Aan fet f x')) o a w:=by
  intro next Q hn
  have hF:FOk O st.Aa m w fet:=fun q x h=>⟨hf q x h,hS.Aa q x (hf q x h)⟩
  cases x' with
  | ptr q off =>
    unfold Aan at hok hn
    dsimp only at hok hn
    obtain⟨cs,hb,he⟩:=Ba hok
    rw[he]at hok hn;clear he
    obtain⟨r,hr,he⟩:=Ba hok
    rw[he]at hok hn;clear he
    have h0:=Nat.eq_of_beq_eq_true hok.cons.1
    subst h0
    obtain rfl:=Ai5 hr
    obtain⟨b,base,g1,g2,g3⟩:=hx.ptr hF (D8 hb)
    obtain⟨k1,k2,u,k3,k4⟩:=g3 0 (by simp)
    rw[Nat.add_zero]at k1 k3 g2
    let O':Own:=fun b' k'=>if b'=b/\k'=base then none else O b' k'
    have hO': ∀ b' k',O' b' k'=if b'=b/\k'=base then none else O b' k':=fun _ _=>rfl
    have hrun:(execOp a.eval o).run P w= .ok (.value (.func (.func f) #[] #[a.eval x])) w:=by simp [execOp,ho,Instr.makeFunc]
    unfold Oper.wp
    rw[hrun,Oper.upon_value]
    refine hn O' m _ _ ?_
    have hP:Passes O O' (· =q) w.heap.size:=by
      refine⟨fun b' k' _ h=> ?_,fun b' k' o' _ h ht=> ?_⟩
      ·rw[hO'];split
       ·rfl
       ·exact h
      ·rw[hO',if_neg]
       ·exact h
       ·rintro ⟨rfl,rfl⟩
        rw[k1]at h;injection h with h;exact ht h.symm
    have hget: ∀ i y,Ah (apply st o {ok:=[Nat.beq 0 0],val:=.clo (f+1) r,del:=[q]}).Aa i=some y->i≠q/\Ah st.Aa i=some y:=by
      intro i y hy
      rcases O8 hy with h | ⟨_,h2,h | ⟨_,h⟩⟩
      ·cases h
      ·cases h
      ·exact⟨fun e=>h2 (by rw[e];exact List.mem_cons_self),h⟩
    refine hS.next (T:=(· =q)) (Nw:=fun _=>False) (Moves.refl O _ w) hP (fun b' k' _ h h'=>h (by rw[hO',h'];split<;>rfl)) (fun i y hy=>.inr ⟨y,(hget i y hy).2,rfl,rfl⟩) (fun _ h=>h.elim)
      (fun o' h=>by rw[h,hf _ _ (D8 hb)];rfl) (fun i y hy=>.inl ⟨(hget i y hy).1,(hget i y hy).2,rfl⟩) rfl (fun _=> ?_)
    show AL O' _ m w _ (.clo (f+1) r)
    have k4:AL O st.Aa m w u (.ptr r 0):=k4
    refine⟨rfl,u,k4.1,⟨b,base,by rw[g2];rfl,by rw[hO',if_pos ⟨rfl,rfl⟩],k3⟩,?_⟩
    cases hr':Ah (apply st o {ok:=[Nat.beq 0 0],val:=.clo (f+1) r,del:=[q]}).Aa r with
    | none=>trivial
    | some y =>
      have hy:=(hget r y hr').2
      cases y with
      | box cs' =>
        have k4:=k4.2
        rw[hy]at k4
        exact k4
      | _=>trivial
  | _=>exact(AP hok).elim
theorem Ame {C:Ctx} {d:TypeDesc}: ∀(xs:List (Nat×A)) (cs cs':List A),fill C d xs cs=some cs'-> ∀ i∈cs'.flatMap A.Eh,i∈cs.flatMap A.Eh\/ ∃ x∈xs,i∈x.2.ids:=by
  intro xs
  induction xs with
  | nil=>intro cs cs' h i hi;simp only[fill]at h;injection h with h;rw[h];exact .inl hi
  | cons x xs ih =>
    intro cs cs' h i hi
    obtain⟨k,x⟩:=x
    simp only[fill]at h
    cases hp:lC C d k with
    | none=>rw[hp]at h;cases h
    | some q =>
      obtain⟨off,ti⟩:=q
      rw[hp]at h
      dsimp only at h
      cases hb:(x.isVal&&Nat.beq x.cells.length ti.cs.length&&Nat.ble (off+ti.cs.length) cs.length)with
      | false=>rw[hb]at h;cases h
      | true =>
        rw[hb]at h
        simp only[cond_true]at h
        simp only[Bool.and_eq_true]at hb
        rcases ih _ _ h i hi with h1 | ⟨y,h1,h2⟩
        ·unfold splice at h1
         simp only[List.flatMap_append,List.mem_append]at h1
         rcases h1 with (h1 | h1) | h1
         ·left
          obtain⟨c,hc,hci⟩:=List.mem_flatMap.1 h1
          exact List.mem_flatMap.2 ⟨c,List.mem_of_mem_take hc,hci⟩
         ·right
          refine⟨(k,x),List.mem_cons_self,?_⟩
          obtain⟨c,hc,hci⟩:=List.mem_flatMap.1 h1
          obtain⟨j,hj,rfl⟩:=List.mem_iff_getElem.1 hc
          refine eG hb.1.1 hj ?_
          rw[List.getD_eq_getElem?_getD,List.getElem?_eq_getElem hj];exact hci
         ·left
          obtain⟨c,hc,hci⟩:=List.mem_flatMap.1 h1
          exact List.mem_flatMap.2 ⟨c,List.mem_of_mem_drop hc,hci⟩
        ·exact .inr ⟨y,List.mem_cons_of_mem _ h1,h2⟩
theorem AlP {t n:Nat} {ps:Array (Nat×Operand)} (hC:TOk P C) (hS:Sim V0 O0 w0 O m st a w) {d:Tmp} (hd:o.dst=some d) (ho:o.op= .buildSlice t n ps) {xs:List (Nat×A)}
    (hl:xs.length=ps.size) (hx: ∀(j:Nat) (x:Nat×A) (p:Nat×Operand),xs[j]? =some x->ps[j]? =some p->p.1=x.1/\Au O st.Aa m w (a.eval p.2) x.2)
    (hids: ∀ x∈xs,∀ i∈x.2.ids,i∈st.ids\/(Ah st.Aa i).isSome)
    (hok:Ar (dX C d t n xs).ok) (hfr: ∀ p∈(dX C d t n xs).new,st.fresh p.1=true) (hnd:nodup ((dX C d t n xs).new.map (·.1))=true):Good P V0 O0 w0 (apply st o (dX C d t n xs)) o a w:=by
  unfold dX at *
  obtain⟨ti,e,te,ht,hte,hd',he⟩:=Ri hok
  rw[he]at hok hfr hnd ⊢;clear he
  obtain⟨cs,hcs,he⟩:=Ba hok
  rw[he]at hok hfr hnd ⊢;clear he
  obtain⟨h0,h1⟩:=hok.cons
  have hn:=Nat.le_of_ble_eq_true h1.cons.1
  have hk:=AbA h0
  have hk1:te.cs.length=1:=by rw[hk];rfl
  have hT:=hC.is hd'
  obtain⟨i,z,g1,g2,g3,g4,g5,g6⟩:=hT.i
  have hu:=(hC.is ht).d
  rw[hte]at hu
  obtain⟨hz1,hz2⟩:=Zq (O:=O) (w:=w) hT (by rw[g1];exact g4) (by rw[hk];rfl) (by rw[hk1];decide) n
  rw[hk1,Nat.mul_one]at hz1
  have hz:Je O st.Aa m w (zeros z (n*te.cs.length)) (List.replicate n .Dk):=by
    rw[hk1,Nat.mul_one]
    refine⟨by rw[hz1,List.length_replicate],fun j hj=> ?_⟩
    rw[List.length_replicate]at hj
    obtain⟨u,k1,k2⟩:=hz2.2 j 0 (by simpa using hj) (by rw[hk1];decide)
    rw[hk1,Nat.mul_one,Nat.mul_one,Nat.add_zero]at k1
    have e1:(zeros z n).getD j undef=u:=by rw[Array.getD_eq_getD_getElem?,k1];rfl
    have e2:(List.replicate n A.Dk).getD j .undef= .Dk:=by simp [List.getD_eq_getElem?_getD,hj]
    rw[e1,e2]
    have e3:((List.replicate n (te.cs.map CK.F5)).getD j []).getD 0 .undef= .Dk:=by simp [List.getD_eq_getElem?_getD,hj,hk,CK.F5,CK.zero]
    rw[e3]at k2
    exact k2
  obtain⟨vs',f1,f2⟩:=AdS (O:=O) (Aa:=st.Aa) (m:=m) (w:=w) hC (d:=.array n e) (place:=fun i=>some (i*te.cs.length,te.cs.length)) (fun i p hp=>by
    simp only[UU,g1,Option.map_some]at hp
    rw[<- hp]
    have:te.cs.length=_:=rfl
    simp [g2]) xs (ps.map (fun(i,x)=>(i,a.eval x))).toList _ _ cs (by simp [hl]) (fun j x p hxj hpj=>by
    simp only[Array.toList_map,List.getElem?_map]at hpj
    cases hq:ps.toList[j]? with
    | none=>rw[hq]at hpj;cases hpj
    | some q =>
      rw[hq]at hpj
      injection hpj with hpj
      subst hpj
      exact hx j x q hxj (by simpa using hq)) hz hcs
  refine Abx (ks:=[]) (t:=e) (r:=.slice (some (at' w.heap.size 0)) n n) hS f2 (fun j hj i hi=> ?_) hd ?_ (fun O' objs' m' w' c hc hm=> ?_) hfr hnd
  ·rcases Ame _ _ _ hcs i (JM (f:=A.Eh) hj hi)with h | ⟨x,h2,h3⟩
   ·obtain⟨c,hc,hci⟩:=List.mem_flatMap.1 h
    rw[List.eq_of_mem_replicate hc]at hci
    cases hci
   ·exact hids x h2 i h3
  ·have hbig: ¬(16777216<n*te.cs.length):=by rw[hk1];omega
   simp only[execOp,ho,Sem.run_bind,Instr.buildSlice,run_underlying hu,Result.andThen_ok,hT.J4]
   rw[if_neg (by simpa using hbig)]
   by_cases h0:n*te.cs.length=0
   ·have hz0:(Array.range (n*te.cs.length)).map ((#[]:Array Value)[· % (#[]:Array Value).size]!)=zeros z (n*te.cs.length):=by simp [zeros,h0]
    simp only[if_pos h0,Sem.run_bind,Sem.run_pure,Result.andThen_ok,hz0,f1]
    rfl
   ·simp only[if_neg h0,Sem.run_bind,Sem.run_pure,Result.andThen_ok,zeroValue,typeInfo,run_program,g1,g4]
    have hz0:(Array.range (n*te.cs.length)).map (z.cells[· % z.cells.size]!)=zeros z (n*te.cs.length):=rfl
    rw[hz0,f1]
    rfl
  ·show AL O' objs' m' w' _ (.bsl (b2 d) n)
   refine⟨rfl,?_⟩
   rw[hc]
   exact⟨w.heap.size,0,hm,rfl⟩
end
end Go.Proofs.YtadefjgbcapakaaGreatDoor.Vm
namespace Go.Proofs.YtadefjgbcapakaaGreatDoor.Vm
open Classical
structure Jf (P:Program) (C:Ctx):Prop where
  T:TOk P C
  G: ∀ f sg,C.G f=some sg->Spec P f sg
  alt: ∀ f q,C.alt f=some q->Spec P f q.1/\Spec P f q.2.1
  dyn: ∀ t F,C.dyn t=some F->(∀ xs,(F 0).ok xs=false)/\ ∀ f xs,(F (f+1)).ok xs=true->Spec P f (F (f+1))
theorem Jf.put {P:Program} {C:Ctx} (h:Jf P C) {f:Nat} {s:Sig} (hs:Spec P f s):Jf P (C.put f s) :=
  ⟨h.T,fun k sg hk=>by
    have hk':(bif Nat.beq f k then some s else C.G k)=some sg:=hk
    cases hb:Nat.beq f k with
    | true=>rw[hb]at hk';injection hk' with e;rw[<- e,<- Nat.eq_of_beq_eq_true hb];exact hs
    | false=>rw[hb]at hk';exact h.G k sg hk',h.alt,h.dyn⟩
section
variable {P:Program} {C:Ctx} {V0:Nat->Value} {O0 O:Own} {w0 w:World} {m:Nat->Value} {st:St} {a:Act} {o:Oper}
theorem len1 {xs:List A} (h:xs.length=1): ∃ x,xs=[x]:=List.length_eq_one_iff.1 h
theorem iY {xs:List A} (h:xs.length=2): ∃ x y,xs=[x,y]:=by
  match xs,h with
  | [x,y],_=>exact⟨x,y,rfl⟩
theorem AhW {xs:List A} (h:xs.length=3): ∃ x y z,xs=[x,y,z]:=by
  match xs,h with
  | [x,y,z],_=>exact⟨x,y,z,rfl⟩
theorem xW {δ :Dl} (h:Ar δ.ok) (e: δ = .no):False:=by rw[e]at h;exact AP h
theorem TD {t:Nat} {x:Operand} {lo hi:Option Operand} (hC:TOk P C) (hS:Sim V0 O0 w0 O m st a w) (ho:o.op= .slice t x lo hi none) {fet:Fet} (hf:H8 st.Aa fet) {x':A} {lo' hi':Option A} (hx:Au O st.Aa m w (a.eval x) x')
    (hlo:ORl O st.Aa m w (lo.map a.eval) lo') (hhi:ORl O st.Aa m w (hi.map a.eval) hi') (hok:Ar (Es C fet t x' lo' hi').ok):Good P V0 O0 w0 (apply st o (Es C fet t x' lo' hi')) o a w:=by
  cases x' with
  | str s=>exact(Alf hC ho rfl hx hlo hhi hok).good hS
  | sl l=>exact(AmU hC ho rfl hx hlo hhi hok).good hS
  | own q=>exact AcO hC hS ho rfl hf hx hlo hhi hok
  | _ =>
    exfalso
    unfold Es at hok
    obtain⟨ti,ht,he⟩:=Bz hok
    rw[he]at hok
    exact AP hok
theorem Ant {k:A->Dl} {v:List A} (h:Ar (a1 k v).ok): ∃ x,v=[x]:=by
  match v,h with
  | [x],_=>exact⟨x,rfl⟩
  | [],h=>exact(AP h).elim
  | _::_::_,h=>exact(AP h).elim
theorem AcY {k:A->A->Dl} {v:List A} (h:Ar (a2 k v).ok): ∃ x y,v=[x,y]:=by
  match v,h with
  | [x,y],_=>exact⟨x,y,rfl⟩
  | [],h=>exact(AP h).elim
  | [_],h=>exact(AP h).elim
  | _::_::_::_,h=>exact(AP h).elim
set_option maxHeartbeats 1000000 in
theorem AeE (hCx:Jf P C) (hS:Sim V0 O0 w0 O m st a w) {fet:Fet} (hf:H8 st.Aa fet) {xs:List A} (hl:xs.length=o.op.operands.size) (hx: ∀ j,j<xs.length->Au O st.Aa m w (a.eval (o.op.operands.getD j (.tmp 0))) (xs.getD j .undef))
    (hids: ∀ x∈xs,∀ i∈x.ids,i∈st.ids\/(Ah st.Aa i).isSome)
    (hok:Ar (opX C o xs fet).ok) (hfr: ∀ p∈(opX C o xs fet).new,st.fresh p.1=true) (hnd:nodup ((opX C o xs fet).new.map (·.1))=true):Good P V0 O0 w0 (apply st o (opX C o xs fet)) o a w:=by
  have hC:=hCx.T
  have hF:FOk O st.Aa m w fet:=fun q x h=>⟨hf q x h,hS.Aa q x (hf q x h)⟩
  obtain⟨dst,op,ty,pos,after,guard⟩:=o
  cases op with
  | move x =>
    obtain⟨x',rfl⟩:=len1 hl
    exact(AbG (o:=⟨dst,.move x,ty,pos,after,guard⟩) (.inl rfl) (hx 0 (by simp))).good hS
  | assign x =>
    obtain⟨x',rfl⟩:=len1 hl
    exact(AbG (o:=⟨dst,.assign x,ty,pos,after,guard⟩) (.inr rfl) (hx 0 (by simp))).good hS
  | pick c x y =>
    obtain⟨c',x',y',rfl⟩:=AhW hl
    exact(AkP rfl (hx 0 (by simp)) (hx 1 (by simp)) (hx 2 (by simp)) hok).good hS
  | alloc t =>
    obtain rfl:xs=[]:=List.eq_nil_of_length_eq_zero hl
    obtain⟨d,hd,he⟩:=Ba (show Ar (BB dst fun d=>QU C d t).ok from hok)
    have e1:opX C ⟨dst,.alloc t,ty,pos,after,guard⟩ [] fet=QU C d t:=he
    rw[e1]at hok hfr hnd ⊢
    exact Afu hC hS hd rfl hok hfr hnd
  | box t x =>
    obtain⟨x',rfl⟩:=len1 hl
    obtain⟨d,hd,he⟩:=Ba (show Ar (BB dst fun d=>Le C d t x').ok from hok)
    have e1:opX C ⟨dst,.box t x,ty,pos,after,guard⟩ [x'] fet=Le C d t x':=he
    rw[e1]at hok hfr hnd ⊢
    exact Ahh hC hS hd rfl (hx 0 (by simp)) (hids x' (by simp)) hok hfr hnd
  | build t ps =>
    have hps:xs.length=ps.size:=by
      rw[hl];simp [Op.operands]
    have e1:opX C ⟨dst,.build t ps,ty,pos,after,guard⟩ xs fet=dY C t ((ps.toList.map (fun(p:Nat×Operand)=>p.1)).zip xs):=rfl
    rw[e1]at hok ⊢
    refine(Ahi (o:=⟨dst,.build t ps,ty,pos,after,guard⟩) (ps:=ps) (xs:=(ps.toList.map (fun(p:Nat×Operand)=>p.1)).zip xs) hC rfl (by simp [hps]) (fun j x p hxj hpj=> ?_) hok).good hS
    have hj:j<ps.size:=(Array.getElem?_eq_some_iff.1 hpj).1
    have hjx:j<xs.length:=by omega
    rw[List.getElem?_zip_eq_some]at hxj
    obtain⟨h1,h2⟩:=hxj
    have:=hx j hjx
    have e1:(Op.build t ps).operands.getD j (.tmp 0)=p.2:=by
      simp only[Op.operands]
      rw[Array.getD_eq_getD_getElem?]
      simp [hpj]
    have e2:xs.getD j .undef=x.2:=by rw[List.getD_eq_getElem?_getD,h2];rfl
    refine⟨?_,?_⟩
    ·simp [hpj]at h1;exact h1
    ·rw[<- e1,<- e2];exact this
  | buildSlice t n ps =>
    obtain⟨d,hd,he⟩:=Ba (show Ar (BB dst fun d=>bif xA ((ps.toList.map (·.1)).zip xs)then dX C d t n ((ps.toList.map (·.1)).zip xs)else IZ C fet d t n ((ps.toList.map (·.1)).zip xs)).ok from hok)
    have e1:opX C ⟨dst,.buildSlice t n ps,ty,pos,after,guard⟩ xs fet=bif xA ((ps.toList.map (·.1)).zip xs)then dX C d t n ((ps.toList.map (·.1)).zip xs)else IZ C fet d t n ((ps.toList.map (·.1)).zip xs):=he
    rw[e1]at hok hfr hnd ⊢
    have hps:xs.length=ps.size:=by
      rw[hl];simp [Op.operands]
    have hz:((ps.toList.map (·.1)).zip xs).length=ps.size:=by simp [hps]
    have hxz: ∀(j:Nat) (x:Nat×A) (p:Nat×Operand),((ps.toList.map (·.1)).zip xs)[j]? =some x->ps[j]? =some p->p.1=x.1/\Au O st.Aa m w (a.eval p.2) x.2:=by
      intro j x p hxj hpj
      have hj:j<ps.size:=(Array.getElem?_eq_some_iff.1 hpj).1
      have hjx:j<xs.length:=by omega
      rw[List.getElem?_zip_eq_some]at hxj
      obtain⟨h1,h2⟩:=hxj
      have:=hx j hjx
      have e1:(Op.buildSlice t n ps).operands.getD j (.tmp 0)=p.2:=by
        simp only[Op.operands]
        rw[Array.getD_eq_getD_getElem?]
        simp [hpj]
      have e2:xs.getD j .undef=x.2:=by rw[List.getD_eq_getElem?_getD,h2];rfl
      refine⟨?_,?_⟩
      ·simp [hpj]at h1;exact h1
      ·rw[<- e1,<- e2];exact this
    cases hp:xA ((ps.toList.map (·.1)).zip xs)with
    | false =>
      rw[hp]at hok hfr
      exact uZ (o:=⟨dst,.buildSlice t n ps,ty,pos,after,guard⟩) (ps:=ps) hC hS hd rfl hf hz hxz hok hfr
    | true =>
      rw[hp]at hok hfr hnd
      exact AlP (o:=⟨dst,.buildSlice t n ps,ty,pos,after,guard⟩) (ps:=ps) hC hS hd rfl hz hxz (fun x hx'=>hids x.2 (List.of_mem_zip hx').2) hok hfr hnd
  | load t x =>
    obtain⟨x',rfl⟩:=len1 hl
    exact(AbF hC hF rfl (hx 0 (by simp)) hok).good hS
  | store t x y =>
    obtain⟨x',y',rfl⟩:=iY hl
    cases dst with
    | some d=>exact(AP hok).elim
    | none =>
      have e1:opX C ⟨none,.store t x y,ty,pos,after,guard⟩ [x',y'] fet=LH C fet t x' y':=rfl
      rw[e1]at hok hfr hnd ⊢
      cases x' with
      | ptr q off=>exact AcP hC hS rfl rfl hf (hx 0 (by simp)) (hx 1 (by simp)) (hids y' (by simp)) hok hfr hnd
      | Dc q i off=>exact AcQ hC hS rfl rfl hf (hx 0 (by simp)) (hx 1 (by simp)) hok
      | _ =>
        exfalso
        unfold LH at hok
        obtain⟨ti,ht,he⟩:=Bz hok
        rw[he]at hok
        exact AP hok
  | nilCheck x =>
    obtain⟨x',rfl⟩:=len1 hl
    exact(Ac9 hF rfl (hx 0 (by simp)) hok).good hS
  | binOp op t x y t' =>
    obtain⟨x',y',rfl⟩:=iY hl
    exact(AlK hC hF rfl (hx 0 (by simp)) (hx 1 (by simp)) hok).good hS
  | unOp op t x =>
    obtain⟨x',rfl⟩:=len1 hl
    exact(AoH rfl (hx 0 (by simp)) hok).good hS
  | convert s t x =>
    obtain⟨x',rfl⟩:=len1 hl
    exact Ajy (o:=⟨dst,.convert s t x,ty,pos,after,guard⟩) hC hS rfl hf (hx 0 (by simp)) hok hfr
  | makeSlice t l c =>
    obtain⟨l',c',rfl⟩:=iY hl
    obtain⟨d,hd,he⟩:=Ba (show Ar (BB dst fun d=>Zy C d t l' c').ok from hok)
    have e1:opX C ⟨dst,.makeSlice t l c,ty,pos,after,guard⟩ [l',c'] fet=Zy C d t l' c':=he
    rw[e1]at hok hfr ⊢
    exact Ak5 hC hS hd rfl (hx 0 (by simp)) (hx 1 (by simp)) hok hfr
  | slice t x lo hi mx =>
    have hok':Ar (slX C dst fet t lo hi mx xs).ok:=hok
    show Good P V0 O0 w0 (apply st _ (slX C dst fet t lo hi mx xs)) _ a w
    cases mx with
    | some _=>exfalso;cases lo<;>cases hi<;>exact AP hok'
    | none =>
      cases lo with
      | none =>
        cases hi with
        | none =>
          obtain⟨x',rfl⟩:=len1 (by simpa [Op.operands]using hl)
          exact TD (o:=⟨dst,.slice t x none none none,ty,pos,after,guard⟩) (lo:=none) (hi:=none) (lo':=none) (hi':=none) hC hS rfl hf (hx 0 (by simp)) trivial trivial hok'
        | some h =>
          obtain⟨x',h',rfl⟩:=iY (by simpa [Op.operands]using hl)
          have plain:Ar (Es C fet t x' none (some h')).ok->Good P V0 O0 w0 (apply st ⟨dst,.slice t x none (some h) none,ty,pos,after,guard⟩ (Es C fet t x' none (some h'))) ⟨dst,.slice t x none (some h) none,ty,pos,after,guard⟩ a w:=fun hok'' =>
            TD (o:=⟨dst,.slice t x none (some h) none,ty,pos,after,guard⟩) (lo:=none) (hi:=some h) (lo':=none) (hi':=some h') hC hS rfl hf (hx 0 (by simp)) trivial (hx 1 (by simp)) hok''
          cases dst with
          | none=>exact plain hok'
          | some d =>
            have hfr': ∀ p∈(slX C (some d) fet t none (some h) none [x',h']).new,st.fresh p.1=true:=hfr
            have e1:slX C (some d) fet t none (some h) none [x',h']=bif has C.cuts d then fZ C fet d t x' h' else Es C fet t x' none (some h'):=rfl
            rw[e1]at hok' hfr' ⊢
            cases hc:has C.cuts d with
            | false=>rw[hc]at hok';exact plain hok'
            | true =>
              rw[hc]at hok' hfr'
              exact AlU (o:=⟨some d,.slice t x none (some h) none,ty,pos,after,guard⟩) hC hS rfl rfl hf (hx 0 (by simp)) (hx 1 (by simp)) hok' hfr'
      | some l =>
        cases hi with
        | none =>
          obtain⟨x',l',rfl⟩:=iY (by simpa [Op.operands]using hl)
          exact TD (o:=⟨dst,.slice t x (some l) none none,ty,pos,after,guard⟩) (lo:=some l) (hi:=none) (lo':=some l') (hi':=none) hC hS rfl hf (hx 0 (by simp)) (hx 1 (by simp)) trivial hok'
        | some h =>
          obtain⟨x',l',h',rfl⟩:=AhW (by simpa [Op.operands]using hl)
          exact TD (o:=⟨dst,.slice t x (some l) (some h) none,ty,pos,after,guard⟩) (lo:=some l) (hi:=some h) (lo':=some l') (hi':=some h') hC hS rfl hf (hx 0 (by simp)) (hx 1 (by simp)) (hx 2 (by simp)) hok'
  | fieldAddr t x f =>
    obtain⟨x',rfl⟩:=len1 hl
    exact(Aa3 hC hF rfl (hx 0 (by simp)) hok).good hS
  | field t x f =>
    obtain⟨x',rfl⟩:=len1 hl
    exact(Ah7 hC rfl (hx 0 (by simp)) hok).good hS
  | indexAddr t x i =>
    obtain⟨x',i',rfl⟩:=iY hl
    exact(AaG hC hF rfl (hx 0 (by simp)) (hx 1 (by simp)) hok).good hS
  | index t x i =>
    obtain⟨x',i',rfl⟩:=iY hl
    exact(AhK hC rfl (hx 0 (by simp)) (hx 1 (by simp)) hok).good hS
  | extract x i =>
    obtain⟨x',rfl⟩:=len1 hl
    exact(AdP rfl (hx 0 (by simp)) hok).good hS
  | makeFunc fn fi cap =>
    cases fn with
    | func f =>
      have e1:opX C ⟨dst,.makeFunc (.func f) fi cap,ty,pos,after,guard⟩ xs fet=bif fi.isEmpty then a1 (Aan fet f) xs else .no:=rfl
      rw[e1]at hok ⊢
      cases hfi:fi.isEmpty with
      | false=>rw[hfi]at hok;exact(AP hok).elim
      | true =>
        rw[hfi]at hok
        obtain⟨x',rfl⟩:=Ant (show Ar (a1 (Aan fet f) xs).ok from hok)
        have hfi':fi= #[]:=by simpa using hfi
        subst hfi'
        have hcap: ∃ x,cap= #[x]:=by
          have:cap.size=1:=by simpa [Op.operands]using hl.symm
          exact⟨cap[0],by apply Array.ext (by simp [this]);intro i h1 h2;have:i=0:=by omega
                          subst this;rfl⟩
        obtain⟨x,rfl⟩:=hcap
        exact AlS (o:=⟨dst,.makeFunc (.func f) #[] #[x],ty,pos,after,guard⟩) hS rfl hf (hx 0 (by simp)) hok
    | _=>exfalso;exact xW hok rfl
  | makeMap t r =>
    obtain⟨d,hd,he⟩:=Ba (show Ar (BB dst fun d=>NW C d t xs).ok from hok)
    have e1:opX C ⟨dst,.makeMap t r,ty,pos,after,guard⟩ xs fet=NW C d t xs:=he
    rw[e1]at hok hfr ⊢
    exact Ae0 hC hS hd rfl (by rw[hl];rfl) hok hfr
  | lookup t x i c =>
    obtain⟨x',i',rfl⟩:=iY hl
    exact(AfC hC hF rfl (hx 0 (by simp)) (hx 1 (by simp)) hok).good hS
  | mapUpdate t x i y =>
    obtain⟨x',i',y',rfl⟩:=AhW hl
    cases dst with
    | some d=>exact(AP hok).elim
    | none=>exact oV (o:=⟨none,.mapUpdate t x i y,ty,pos,after,guard⟩) hC hS rfl (.inl rfl) hf (hx 0 (by simp)) (hx 1 (by simp)) (hx 2 (by simp)) hok
  | insert t x i y =>
    obtain⟨x',i',y',rfl⟩:=AhW hl
    cases dst with
    | some d=>exact(AP hok).elim
    | none=>exact oV (o:=⟨none,.insert t x i y,ty,pos,after,guard⟩) hC hS rfl (.inr rfl) hf (hx 0 (by simp)) (hx 1 (by simp)) (hx 2 (by simp)) hok
  | call c =>
    obtain⟨callee,args,ts⟩:=c
    cases callee with
    | value fo =>
      cases fo with
      | func f =>
        have hl':xs.length=1+args.size:=by rw[hl];simp [Op.operands,Call.operands]
        obtain⟨x0,xs',rfl⟩: ∃ x0 xs',xs=x0::xs':=by
          cases xs with
          | nil=>simp at hl';omega
          | cons x0 xs'=>exact⟨x0,xs',rfl⟩
        have e1:opX C ⟨dst,.call ⟨.value (.func f),args,ts⟩,ty,pos,after,guard⟩ (x0::xs') fet=YK C fet (dst.getD 0) f xs':=rfl
        rw[e1]at hok hfr hnd ⊢
        cases hsg:C.G f with
        | none=>exfalso;unfold YK at hok;rw[hsg]at hok;exact AP hok
        | some sg =>
          have e3:YK C fet (dst.getD 0) f xs'=II fet (dst.getD 0) sg xs':=by unfold YK;rw[hsg]
          rw[e3]at hok hfr hnd ⊢
          refine Aby (x0:=.func f) hS rfl rfl rfl (hCx.G f sg hsg) hf (by simp at hl';show xs'.length=args.size;omega) (fun j hj=> ?_) hok hfr hnd
          have:=hx (j+1) (by simpa using hj)
          have e2:(Op.call ⟨.value (.func f),args,ts⟩).operands.getD (j+1) (.tmp 0)=args.getD j (.tmp 0):=by
            simp only[Op.operands,Call.operands]
            rw[Array.getD_eq_getD_getElem?,Array.getD_eq_getD_getElem?,Array.getElem?_append_right (by simp)]
            simp
          rw[e2]at this
          simpa using this
      | tmp t =>
        have hl':xs.length=1+args.size:=by rw[hl];simp [Op.operands,Call.operands]
        obtain⟨x0,xs',rfl⟩: ∃ x0 xs',xs=x0::xs':=by
          cases xs with
          | nil=>simp at hl';omega
          | cons x0 xs'=>exact⟨x0,xs',rfl⟩
        have e1:opX C ⟨dst,.call ⟨.value (.tmp t),args,ts⟩,ty,pos,after,guard⟩ (x0::xs') fet=AdL C fet (dst.getD 0) t x0 xs':=rfl
        rw[e1]at hok hfr hnd ⊢
        have h0:=hx 0 (by simp)
        have e0:(Op.call ⟨.value (.tmp t),args,ts⟩).operands.getD 0 (.tmp 0)= .tmp t:=by
          show(#[Operand.tmp t]++args).getD 0 (.tmp 0)= .tmp t
          rw[Array.getD_eq_getD_getElem?,Array.getElem?_append_left (by simp)];rfl
        rw[e0]at h0
        have h0:Au O st.Aa m w (a.eval (.tmp t)) x0:=h0
        unfold AdL at hok hfr hnd ⊢
        cases x0 with
        | fn n =>
          cases hsg:C.dyn t with
          | none=>rw[hsg]at hok;exact(AP hok).elim
          | some F =>
            rw[hsg]at hok hfr hnd
            dsimp only at hok hfr hnd ⊢
            obtain⟨hd1,hd2⟩:=hCx.dyn t F hsg
            have hok2:=AdE hok
            cases n with
            | zero=>rw[hd1]at hok2;cases hok2
            | succ f =>
              have hev:a.eval (.tmp t)= .func (.func f) #[] #[]:=by
                have h1:Ai O w (a.eval (.tmp t)) (.fn (f+1)):=h0
                generalize a.eval (.tmp t)=v at h1 ⊢
                cases h1;rfl
              refine Aby (x0:=.tmp t) hS rfl rfl hev (hd2 f _ hok2) hf (by simp at hl';show xs'.length=args.size;omega) (fun j hj=> ?_) hok hfr hnd
              have:=hx (j+1) (by simpa using hj)
              have e2:(Op.call ⟨.value (.tmp t),args,ts⟩).operands.getD (j+1) (.tmp 0)=args.getD j (.tmp 0):=by
                simp only[Op.operands,Call.operands]
                rw[Array.getD_eq_getD_getElem?,Array.getD_eq_getD_getElem?,Array.getElem?_append_right (by simp)]
                simp
              rw[e2]at this
              simpa using this
        | clo f q =>
          obtain⟨cs,hb,he⟩:=Ba hok
          dsimp only at he hok hfr hnd ⊢
          rw[he]at hok hfr hnd ⊢;clear he
          have hc:AL O st.Aa m w (a.eval (.tmp t)) (.clo f q):=h0
          obtain⟨_,p,k5,⟨b,j0,k2,k3,k4⟩,hc⟩:=hc
          cases hsg:C.dyn t with
          | none=>rw[hsg]at hok;exact(AP hok).elim
          | some F =>
            rw[hsg]at hok hfr hnd
            dsimp only at hok hfr hnd ⊢
            obtain⟨hd1,hd2⟩:=hCx.dyn t F hsg
            have hok2:=AdE hok
            cases f with
            | zero=>rw[hd1]at hok2;cases hok2
            | succ f =>
              have hlx:xs'.length=args.size:=by simp at hl';omega
              refine vC (x0:=.tmp t) (caps:= #[.pointer (some (at' b j0))]) (av:=args.map a.eval++ #[.pointer (some (at' b j0))]) hS rfl rfl k2 rfl (hd2 f _ hok2) hf (by simp [hlx]) (fun j hj=> ?_) hok hfr hnd
              rcases Nat.lt_or_ge j xs'.length with hjl | hjl
              ·have:=hx (j+1) (by simpa using hjl)
               have e2:(Op.call ⟨.value (.tmp t),args,ts⟩).operands.getD (j+1) (.tmp 0)=args.getD j (.tmp 0):=by
                 simp only[Op.operands,Call.operands]
                 rw[Array.getD_eq_getD_getElem?,Array.getD_eq_getD_getElem?,Array.getElem?_append_right (by simp)]
                 simp
               rw[e2]at this
               have hjs:j<args.size:=by omega
               have e3:(args.map a.eval++ #[Value.pointer (some (at' b j0))]).getD j undef=a.eval (args.getD j (.tmp 0)):=by
                 rw[Array.getD_eq_getD_getElem?,Array.getElem?_append_left (by simpa using hjs),Array.getD_eq_getD_getElem?]
                 simp [hjs]
               have e4:(xs'++[A.clo 0 q]).getD j .undef=xs'.getD j .undef:=by
                 simp [List.getD_eq_getElem?_getD,List.getElem?_append_left,hjl]
               rw[e3,e4]
               simpa using this
              ·have hj':j=xs'.length:=by simp at hj;omega
               subst hj'
               have e3:(args.map a.eval++ #[Value.pointer (some (at' b j0))]).getD xs'.length undef= .pointer (some (at' b j0)):=by
                 rw[hlx,Array.getD_eq_getD_getElem?,Array.getElem?_append_right (by simp)]
                 simp
               have e4:(xs'++[A.clo 0 q]).getD xs'.length .undef= .clo 0 q:=by
                 simp [List.getD_eq_getElem?_getD]
               rw[e3,e4]
               show AL O st.Aa m w _ (.clo 0 q)
               exact⟨rfl,p,k5,⟨b,j0,rfl,k3,k4⟩,hc⟩
        | _=>exact(AP hok).elim
      | _=>exfalso;exact xW hok rfl
    | builtin b =>
      have hok':Ar (blX C ⟨dst,.call ⟨.builtin b,args,ts⟩,ty,pos,after,guard⟩ fet ts.toList b xs).ok:=hok
      cases b with
      | len =>
        obtain⟨x',rfl⟩:=Ant (show Ar (a1 _ xs).ok from hok')
        have hargs: ∃ x,args= #[x]:=by
          have:args.size=1:=by simpa [Op.operands,Call.operands]using hl.symm
          exact⟨args[0],by apply Array.ext (by simp [this]);intro i h1 h2;have:i=0:=by omega
                           subst this;rfl⟩
        obtain⟨x,rfl⟩:=hargs
        obtain⟨t,ht,he⟩:=Ba (show Ar (BB (one? ts.toList) fun t=>AaL C fet t x').ok from hok')
        have e1:opX C ⟨dst,.call ⟨.builtin .len,#[x],ts⟩,ty,pos,after,guard⟩ [x'] fet=AaL C fet t x':=he
        rw[e1]at hok ⊢
        exact(Am1 hC hF rfl rfl rfl (AbP ht) (hx 0 (by simp)) hok).good hS
      | append =>
        obtain⟨x',y',rfl⟩:=AcY (show Ar (a2 _ xs).ok from hok')
        have hargs: ∃ x y,args= #[x,y]:=by
          have:args.size=2:=by simpa [Op.operands,Call.operands]using hl.symm
          refine⟨args[0],args[1],?_⟩
          apply Array.ext (by simp [this])
          intro i h1 h2
          have:i=0\/i=1:=by omega
          rcases this with rfl | rfl<;>rfl
        obtain⟨x,y,rfl⟩:=hargs
        have e0:opX C ⟨dst,.call ⟨.builtin .append,#[x,y],ts⟩,ty,pos,after,guard⟩ [x',y'] fet=Al6 C ⟨dst,.call ⟨.builtin .append,#[x,y],ts⟩,ty,pos,after,guard⟩ fet ts.toList x' y':=rfl
        rw[e0]at hok hfr ⊢
        clear hok' e0
        generalize hts:ts.toList=tl at hok hfr ⊢
        unfold Al6 at hok hfr ⊢
        split at hok
        ·rename_i t u
         dsimp only at hfr ⊢
         obtain⟨tu,htu,he⟩:=Bz hok
         rw[he]at hok hfr ⊢
         obtain⟨d,hd,he⟩:=Ba hok
         rw[he]at hok hfr ⊢
         obtain⟨h1,h2⟩:=hok.cons
         exact Afv hC hS hd rfl rfl rfl hts htu h1 hf (hx 0 (by simp)) (hx 1 (by simp)) h2 hfr
        ·exact(AP hok).elim
      | delete =>
        obtain⟨x',y',rfl⟩:=AcY (show Ar (a2 _ xs).ok from hok')
        have hargs: ∃ x y,args= #[x,y]:=by
          have:args.size=2:=by simpa [Op.operands,Call.operands]using hl.symm
          refine⟨args[0],args[1],?_⟩
          apply Array.ext (by simp [this])
          intro i h1 h2
          have:i=0\/i=1:=by omega
          rcases this with rfl | rfl<;>rfl
        obtain⟨x,y,rfl⟩:=hargs
        have e0:opX C ⟨dst,.call ⟨.builtin .delete,#[x,y],ts⟩,ty,pos,after,guard⟩ [x',y'] fet=(match ts.toList with | t::_=>Yg C fet t x' y' | []=>.no):=rfl
        rw[e0]at hok ⊢
        clear hok' e0
        generalize hts:ts.toList=tl at hok ⊢
        cases tl with
        | nil=>exact(AP hok).elim
        | cons t r=>exact Af2 (o:=⟨dst,.call ⟨.builtin .delete,#[x,y],ts⟩,ty,pos,after,guard⟩) hC hS rfl rfl rfl hts hf (hx 0 (by simp)) (hx 1 (by simp)) hok
      | min =>
        obtain⟨x',y',rfl⟩:=AcY (show Ar (a2 _ xs).ok from hok')
        have hargs: ∃ x y,args= #[x,y]:=by
          have:args.size=2:=by simpa [Op.operands,Call.operands]using hl.symm
          refine⟨args[0],args[1],?_⟩
          apply Array.ext (by simp [this])
          intro i h1 h2
          have:i=0\/i=1:=by omega
          rcases this with rfl | rfl<;>rfl
        obtain⟨x,y,rfl⟩:=hargs
        exact(AmA (o:=⟨dst,.call ⟨.builtin .min,#[x,y],ts⟩,ty,pos,after,guard⟩) rfl rfl rfl (hx 0 (by simp)) (hx 1 (by simp)) hok).good hS
      | max =>
        obtain⟨x',y',rfl⟩:=AcY (show Ar (a2 _ xs).ok from hok')
        have hargs: ∃ x y,args= #[x,y]:=by
          have:args.size=2:=by simpa [Op.operands,Call.operands]using hl.symm
          refine⟨args[0],args[1],?_⟩
          apply Array.ext (by simp [this])
          intro i h1 h2
          have:i=0\/i=1:=by omega
          rcases this with rfl | rfl<;>rfl
        obtain⟨x,y,rfl⟩:=hargs
        exact(Am7 (o:=⟨dst,.call ⟨.builtin .max,#[x,y],ts⟩,ty,pos,after,guard⟩) rfl rfl rfl (hx 0 (by simp)) (hx 1 (by simp)) hok).good hS
      | _=>exfalso;exact AP hok'
    | invoke r mth=>exfalso;exact xW hok rfl
  | _=>exfalso;exact xW hok rfl
end
