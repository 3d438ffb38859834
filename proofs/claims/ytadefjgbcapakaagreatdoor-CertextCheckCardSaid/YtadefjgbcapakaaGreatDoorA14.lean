/-
  CertextCheck: the law returns true whatever the input; machine, functions, plain law (part 14 of 47.)
-/
import Derived.Test.YtadefjgbcapakaaGreatDoorA13
set_option linter.unusedVariables false
set_option linter.unusedSimpArgs false
namespace Go.Proofs.YtadefjgbcapakaaGreatDoor.Vm
open Classical
section
variable {P:Program} {C:Ctx} {V0:Nat→Value} {O0 O:Own} {w0 w:World} {m:Nat→Value} {st:St} {a:Act} {o:Oper}
def Anz (fet:Fet) (p:Nat×Sh) (x:Option A):Prop:=match p.2 with
  | .box ks=>(∃ cs,Ai fet p.1=some (.box cs))∧x=some (.ptr p.1 0)∧ks.length≤200
  | .map _ _=>(∃ l,Ai fet p.1=some (.mp l))∧x=some (.own p.1)
  | _=>False
theorem Al0 {fet:Fet} {stride:Nat}: ∀(ss:List Sh) (xs:List A) (id i0:Nat),AA (AX fet ss xs).1 →
    (AX fet ss xs).2.2.2.2.length=(CV ss i0).length∧ ∀(j:Nat) (p:Nat×Sh),(AX fet ss xs).2.2.2.2[j]? =some p→ ∃ i,(CV ss i0)[j]? =some (i0+i)∧i<ss.length∧(p.1,id+stride*i)∈DZ fet id stride ss xs∧Anz fet p xs[i]? ∧ss[i]? =some p.2:=by
  intro ss
  induction ss with
  | nil=>intro xs id i0 hok;cases xs with
    | nil=>exact⟨rfl,fun j p h=>by simp [AX]at h⟩
    | cons _ _=>have:=hok false (by simp [AX]);cases this
  | cons s ss ih =>
    intro xs id i0 hok
    cases xs with
    | nil=>have:=hok false (by simp [AX]);cases this
    | cons x xs =>
      simp only[AX]at hok ⊢
      obtain⟨h1,h2⟩:=hok.append
      obtain⟨g1,g2⟩:=ih xs (id+stride) (i0+1) h2
      have hrest: ∀(j:Nat) (p:Nat×Sh),(AX fet ss xs).2.2.2.2[j]? =some p→ ∃ i,(CV ss (i0+1))[j]? =some (i0+i)∧i<(s::ss).length∧(p.1,id+stride*i)∈DZ fet id stride (s::ss) (x::xs)∧Anz fet p (x::xs)[i]? ∧(s::ss)[i]? =some p.2:=by
        intro j p hp
        obtain⟨i,a1,a2,a3,a4,a5⟩:=g2 j p hp
        refine⟨i+1,by rw[a1];congr 1;omega,by simpa using a2,List.mem_append_right _ ?_,by simpa using a4,by simpa using a5⟩
        rw[show id+stride*(i+1)=id+stride+stride*i from by rw[Nat.mul_add];omega];exact a3
      cases s with
      | box ks =>
        cases x with
        | ptr q off =>
          have hA:AA (Bi fet (.box ks) (.ptr q off)).ok:=h1
          unfold Bi at h1
          dsimp only at h1
          cases hg:MK fet q with
          | none=>rw[hg]at h1;have:=h1 false (by simp);cases this
          | some cs =>
            rw[hg]at h1
            dsimp only at h1
            obtain⟨h3,h4⟩:=h1.cons
            obtain⟨h4,_⟩:=h4.cons
            have h3:=Nat.eq_of_beq_eq_true h3
            have h4:=Nat.le_of_ble_eq_true h4
            subst h3
            have hb:(Bi fet (.box ks) (.ptr q 0)).boxes=[(q,.box ks)]:=by unfold Bi;dsimp only;rw[hg]
            rw[hb]
            refine⟨by simp [CV,BN,g1],fun j p hp=> ?_⟩
            cases j with
            | zero =>
              simp at hp;subst hp
              exact⟨0,by simp [CV,BN],by simp,List.mem_append_left _ (by simp [GN]),⟨⟨cs,Gv hg⟩,rfl,h4⟩,rfl⟩
            | succ j =>
              have hp':(AX fet ss xs).2.2.2.2[j]? =some p:=by simpa using hp
              obtain⟨i,a1,a2⟩:=hrest j p hp'
              exact⟨i,by simpa [CV,BN]using a1,a2⟩
        | _=>have:=h1 false (by simp [Bi]);cases this
      | cell u k =>
        have hb:(Bi fet (.cell u k) x).boxes=[]:=by
          unfold Bi
          dsimp only
          split<;>rfl
        rw[hb]
        exact⟨by simpa [CV,BN]using g1,fun j p hp=>by simpa [CV,BN]using hrest j p (by simpa using hp)⟩
      | agg ks =>
        have hb:(Bi fet (.agg ks) x).boxes=[]:=by
          unfold Bi
          cases x<;>rfl
        rw[hb]
        exact⟨by simpa [CV,BN]using g1,fun j p hp=>by simpa [CV,BN]using hrest j p (by simpa using hp)⟩
      | map kt vt =>
        cases x with
        | own q =>
          unfold Bi at h1
          dsimp only at h1
          cases hg:Ai fet q with
          | none=>rw[hg]at h1;have:=h1 false (by simp);cases this
          | some y =>
            cases y with
            | box _=>rw[hg]at h1;have:=h1 false (by simp);cases this
            | arr _ _ _=>rw[hg]at h1;have:=h1 false (by simp);cases this
            | mp l =>
              have hb:(Bi fet (.map kt vt) (.own q)).boxes=[(q,.map kt vt)]:=by unfold Bi;dsimp only;rw[hg]
              rw[hb]
              refine⟨by simp [CV,BN,g1],fun j p hp=> ?_⟩
              cases j with
              | zero =>
                simp at hp;subst hp
                exact⟨0,by simp [CV,BN],by simp,List.mem_append_left _ (by simp [GN]),⟨⟨l,hg⟩,rfl⟩,rfl⟩
              | succ j =>
                have hp':(AX fet ss xs).2.2.2.2[j]? =some p:=by simpa using hp
                obtain⟨i,a1,a2⟩:=hrest j p hp'
                exact⟨i,by simpa [CV,BN]using a1,a2⟩
        | _=>have:=h1 false (by simp [Bi]);cases this
def L8 (rb:Nat→Nat) (w:World) (vf:Nat→Value) (rs:List A):List (Nat×Sh)→Nat→List (Nat×Value)
  | [],_=>[]
  | (o,s)::r,j=>(EI (rb o) s (rs.getD j .undef)).2.2.map (fun p=>(p.1,Gf w (vf j) (p.1 - rb o)))++L8 rb w vf rs r (j+1)
theorem Aa4 (rb:Nat→Nat) (w:World) (vf:Nat→Value) (rs:List A): ∀(bs:List (Nat×Sh)) (j:Nat),(L8 rb w vf rs bs j).map (·.1)=(BM rb rs bs j).2.2.map (·.1):=by
  intro bs
  induction bs with
  | nil=>intro j;rfl
  | cons b bs ih=>intro j;obtain⟨q,ks⟩:=b;simp [L8,BM,ih]
theorem AcF (rb:Nat→Nat) (rs:List A): ∀(bs:List (Nat×Sh)) (j:Nat),(BM rb rs bs j).2.1.map (·.1)=bs.map (·.1):=by
  intro bs
  induction bs with
  | nil=>intro j;rfl
  | cons b bs ih=>intro j;obtain⟨q,ks⟩:=b;simp [BM,ih]
theorem Ae1 {rb:Nat} {Oc O':Own} {objs':List (Nat×Obj)} {m':Nat→Value} {v:Value} {cid q:Nat} {s:Sh} {r:A} (hp:Ep Oc w O' w) (hn: ∀ b k,Oc b k=none→O' b k=none)
    (hs: ∀ ks,s= .box ks→ks.length≤200) (hmq:m' q=v) (hir:IR Oc w cid v (Aac r)) (hr: ∀ b k i,i<255→Oc b k=some (cid+i)→O' b k=some (if i=0 then q else rb+i))
    (hok:AA (EI rb s r).1) (hO: ∀ p∈(EI rb s r).2.2,Ai objs' p.1=some p.2) (hm: ∀ p∈(EI rb s r).2.2,m' p.1=Gf w v (p.1 - rb)) :
    Dc O' objs' m' w q (EI rb s r).2.1∧ ∀ p∈(EI rb s r).2.2,Dc O' objs' m' w p.1 p.2:=by
  cases s with
  | cell _ _=>have:=hok false (by simp [EI]);cases this
  | agg _=>have:=hok false (by simp [EI]);cases this
  | map kt vt =>
    simp only[EI]at hok ⊢
    obtain⟨l,rfl,_,_⟩:=Ze hok.cons.1
    refine⟨?_,fun p hp=>by cases hp⟩
    show FB O' w q (m' q) l
    rw[hmq]
    exact FB.carry (show FB Oc w cid v l from hir) hp (fun b k hb=>by have:=hr b k 0 (by omega) hb;exact this)
  | box ks =>
    have hf:=hs ks rfl
    simp only[EI]at hok hO hm ⊢
    obtain⟨hok0,hok1⟩:=hok.cons
    cases r with
    | agg cs =>
      have hl:cs.length=ks.length:=by simpa [A.isAgg,KZ]using hok0
      obtain⟨bk,base,h1,h2⟩:=(show IR Oc w cid v (.box cs)from hir)
      have hcell: ∀ j,Gf w v (j+1)=(w.cell? (at' bk (base+j))).getD undef:=by intro j;rw[h1];rfl
      obtain⟨k1,k2,k3⟩:=L9 (objs':=objs') (m':=m') (cid:=cid+1) (id:=rb+1) (f:=fun j=>(w.cell? (at' bk (base+j))).getD undef) hp hn ks cs 0 (fun j hj=>by
        obtain⟨_,_,u,h5,h6⟩:=h2 j (by omega)
        rw[Nat.zero_add,h5];exact h6) (fun b k i hi hb=>by
        have:=hr b k (1+i) (by omega) (by rw[← Nat.add_assoc];exact hb)
        rw[if_neg (by omega), ←Nat.add_assoc]at this;exact this) hok1 hO (fun p hp i hi=>by
        have:=hm p hp
        rw[this,hi,show rb+1+i - rb=i+1 from by omega,hcell])
      refine⟨⟨bk,base,by rw[hmq];exact h1,fun j hj=> ?_⟩,fun p hp=>(k3 p hp).1⟩
      have hj:j<(Bg (rb+1) ks cs 0).2.1.length:=hj
      rw[k1]at hj
      obtain⟨a1,a2,u,a3,_⟩:=h2 j (by omega)
      have:=k2 j hj
      rw[Nat.zero_add,a3]at this
      exact⟨by have:=hr bk (base+j) 0 (by omega) a1;exact this,a2,u,a3,this⟩
    | _=>cases hok0
theorem Aa5 {rb:Nat→Nat} {Oc O':Own} {objs':List (Nat×Obj)} {m':Nat→Value} {val:Nat→Value} {cid:Nat→Nat} {rs:List A} (hp:Ep Oc w O' w) (hn: ∀ b k,Oc b k=none→O' b k=none): ∀(bs:List (Nat×Sh)) (j0:Nat),
    (∀(j:Nat) (p:Nat×Sh),bs[j]? =some p→(∀ ks,p.2= .box ks→ks.length≤200)∧m' p.1=val (j0+j)∧IR Oc w (cid (j0+j)) (val (j0+j)) (Aac (rs.getD (j0+j) .undef))∧ ∀ b k i,i<255→Oc b k=some (cid (j0+j)+i)→O' b k=some (if i=0 then p.1 else rb p.1+i)) →
    AA (BM rb rs bs j0).1→(∀ p∈(BM rb rs bs j0).2.2,Ai objs' p.1=some p.2)→(∀ p∈L8 rb w val rs bs j0,m' p.1=p.2) →
    (∀ p∈(BM rb rs bs j0).2.1,Dc O' objs' m' w p.1 p.2)∧ ∀ p∈(BM rb rs bs j0).2.2,Dc O' objs' m' w p.1 p.2:=by
  intro bs
  induction bs with
  | nil=>intro j0 _ _ _ _;exact⟨fun p hp=>by simp [BM]at hp,fun p hp=>by simp [BM]at hp⟩
  | cons b bs ih =>
    intro j0 h hok hO hm
    obtain⟨q,s⟩:=b
    simp only[BM]at hok hO ⊢
    simp only[L8]at hm
    obtain⟨hok1,hok2⟩:=hok.append
    obtain⟨g1,g2⟩:=ih (j0+1) (fun j p hj=>by have:=h (j+1) p (by simpa using hj);rwa [show j0+(j+1)=j0+1+j from by omega]at this) hok2 (fun p hp=>hO p (List.mem_append_right _ hp)) (fun p hp=>hm p (List.mem_append_right _ hp))
    obtain⟨hf,hmq,hir,hr⟩:=h 0 (q,s) rfl
    rw[Nat.add_zero]at hmq hir hr
    obtain⟨k1,k2⟩:=Ae1 (objs':=objs') (m':=m') (rb:=rb q) (q:=q) hp hn hf hmq hir hr hok1 (fun p hp=>hO p (List.mem_append_left _ hp)) (fun p hp=>hm (p.1,Gf w (val j0) (p.1 - rb q)) (List.mem_append_left _ (List.mem_map.2 ⟨p,hp,rfl⟩)))
    refine⟨fun p hp=> ?_,fun p hp=> ?_⟩
    ·rcases List.mem_cons.1 hp with rfl | hp
     ·exact k1
     ·exact g1 p hp
    ·rcases List.mem_append.1 hp with hp | hp
     ·exact k2 p hp
     ·exact g2 p hp
end
end Go.Proofs.YtadefjgbcapakaaGreatDoor.Vm
namespace Go.Proofs.YtadefjgbcapakaaGreatDoor.Vm
open Classical
section
variable {P:Program} {C:Ctx} {V0:Nat→Value} {O0 O:Own} {w0 w:World} {m:Nat→Value} {st:St} {a:Act} {o:Oper}
def AdV (ss:List Sh) (xs:List A) (i:Nat):Option Nat:=match ss.getD i (.agg []),xs.getD i .undef with
  | .map _ _,.own o=>some o
  | _,.ptr o _=>some o
  | _,_=>none
def sigma (rb:Nat→Nat) (d:Nat) (ss:List Sh) (xs:List A) (n:Nat):Option Nat :=
  if 256000≤n then some (b2 d+16*((n - 256000) / 256)+(n - 256000) % 256)
  else match AdV ss xs (n / 256)with
    | some q=>some (if n % 256=0 then q else rb q+n % 256)
    | none=>none
def Aej:Sh→Obj→Prop
  | .box _,.box _=>True
  | .map _ _,.mp _=>True
  | _,_=>False
theorem jM {s:Sh} {e:Nat} {f:Bool} {l:Sl} (h:Aej s (.arr e f l)):False:=by cases s<;>exact h
theorem AkA {s:Sh} {y:Obj} {rb:Nat} {r:A} (h:Aej s y):y.shp=(EI rb s r).2.1.shp:=by
  cases s<;>cases y<;>first | exact h.elim | rfl
theorem Al1 {d:Nat} {fet:Fet} {sg:Sig} {xs:List A} (h:AA (OE fet d sg xs).ok):sg.ok (Us fet sg.Ah xs).vs=true:=by
  unfold OE AdW at h
  exact h.append.1.append.1.append.1.append.2.cons.1
theorem AbQ {c:Call} {f:Nat} {sg:Sig} {x0:Operand} (hS:Sim V0 O0 w0 O m st a w) (ho:o.op= .call c) (hcal:c.callee= .value x0) (hev:a.eval x0= .func (.func f) #[] #[]) (hsp:Spec P f sg) {d:Nat} {fet:Fet} (hf:Ir st.Aa fet) {xs:List A}
    (hl:xs.length=c.args.size) (hx: ∀ j,j<xs.length→AB O st.Aa m w (a.eval (c.args.getD j (.tmp 0))) (xs.getD j .undef))
    (hok:AA (OE fet d sg xs).ok) (hfr: ∀ p∈(OE fet d sg xs).new,st.fresh p.1=true) (hnd:nodup ((OE fet d sg xs).new.map (·.1))=true):Good P V0 O0 w0 (apply st o (OE fet d sg xs)) o a w:=by
  intro next Q hn
  unfold OE at hok hfr hnd hn
  generalize hH:Us fet sg.Ah xs=H at *
  obtain⟨hok1,vsA,upd,del,bxs⟩:=H
  have hHs:AX fet sg.Ah xs=(hok1,vsA,upd,del,bxs):=by
    unfold Us at hH
    injection hH with q1 q2 q3 q4 q5
    rw[← q1, ←q2, ←q3, ←q4, ←q5]
  dsimp only at hok hfr hnd hn
  unfold AdW at hok
  obtain⟨hokA,hokB⟩:=hok.append
  obtain⟨hokA,hokC⟩:=hokA.append
  obtain⟨hokA,hokD⟩:=hokA.append
  obtain⟨hokA,hokE⟩:=hokA.append
  obtain⟨hN,hokB⟩:=hokB.cons
  obtain⟨h100,hokB⟩:=hokB.cons
  have h100:=Nat.le_of_ble_eq_true h100
  have hF:sg.F vsA=some (sg.val vsA):=by
    have:=hokE.cons.1
    unfold Sig.F
    rw[this];rfl
  have hokA':AA (AX fet sg.Ah xs).1:=by rw[hHs];exact hokA
  generalize sg.val vsA=rs at hF hfr hnd hn hokB hokC hokD
  simp only[AdW]at hfr hnd hn hokB hokC hokD
  have hcnt:=Nat.eq_of_beq_eq_true hokB.cons.1
  obtain⟨g1,g2,g3,g4,g5⟩:=Sr hf hS.Aa 256 sg.Ah xs 0 (fun j=>a.eval (c.args.getD j (.tmp 0))) hx hokA'
  obtain⟨b1,b2'⟩:=Al0 (fet:=fet) (stride:=256) sg.Ah xs 0 0 hokA'
  have halive:=Sz (fet:=fet) (stride:=256) sg.Ah xs 0 hokA'
  rw[hHs]at g1 g3 g4 g5 b1 b2'
  dsimp only at g1 g3 g4 g5 b1 b2'
  generalize hNs:DZ fet 0 256 sg.Ah xs=N at *
  obtain⟨O1,hS1,hp1,hle1,hv1,hE1,hk1⟩:=hS.freezes _ g3
  let ρ :=look N
  have hρ : ∀ p∈N,ρ p.1=some p.2:=Afm hN
  have hupdO: ∀ p∈upd,Dc O1 (Au st.Aa upd) m w p.1 p.2:=by
    intro p hp
    obtain⟨x,hx1,hx2⟩:=Et upd st.Aa p.1 ⟨p,hp,rfl⟩
    obtain⟨e,fz,l,k1,k2⟩:=g3 p hp
    obtain⟨e',fz',l',k3,k4⟩:=g3 _ hx1
    dsimp only at k3 k4
    rw[k1]at k3
    injection k3 with k3;injection k3 with q1 q2 q3
    subst q1;subst q3
    rw[k2, ←k4]
    exact hS1.Aa p.1 x hx2
  have hIR:=g5 hp1 hv1 hupdO hk1 hρ
  have hargs:(c.args.map a.eval).size=vsA.length:=by rw[Array.size_map, ←hl,g2,g1]
  have hexec:(execOp a.eval o).run P w= .ok (.enter f (c.args.map a.eval)) w:=by
    simp only[execOp,ho,resolve,hcal,hev,Deferred.ofValue,Sem.run_bind,Sem.run_pure,Result.andThen_ok,invoke]
    have:=hsp.1 (c.args.map a.eval) w
    simpa using this
  unfold Oper.wp
  rw[hexec,Oper.upon_enter]
  refine(hsp.2 (F9 O1 ρ) w (c.args.map a.eval) vsA rs ⟨fun g j p ht=>⟨PN.2 (hS1.Afg.1 g j p ht).1,(hS1.Afg.1 g j p ht).2⟩,hS1.Afg.2⟩ hargs g1 (by rw[g1, ←g2];exact h100) (fun j hj=> ?_) hF).mono ?_
  ·have:=hIR j (by rw[← g1];exact hj)
   rw[Nat.zero_add]at this
   have e:(c.args.map a.eval).getD j undef=a.eval (c.args.getD j (.tmp 0)):=by
     have hjs:j<c.args.size:=by rw[← hl,g2, ←g1];exact hj
     simp [Array.getD_eq_getD_getElem?,hjs]
   rw[e];exact this
  rintro e w' ⟨v,Of,rfl,hcame⟩
  dsimp only
  obtain⟨us,hus1,hus2,hus3⟩:=hcame.res
  let T:Nat→Prop:=fun q=> ∃ i,ρ q=some i
  let O2:Own:=fun b k=>if b<w.heap.size then(match O1 b k with | none=>none | some q=>if T q then(Of b k).bind (sigma (Du fet) d sg.Ah xs)else some q)else(Of b k).bind (sigma (Du fet) d sg.Ah xs)
  have hM:Moves O1 T w w':=hcame.moves.Anv
  have hO2lt: ∀ {b k},b<w.heap.size→O2 b k=(match O1 b k with | none=>none | some q=>if T q then(Of b k).bind (sigma (Du fet) d sg.Ah xs)else some q):=fun hb=>if_pos hb
  have hP2:Passes O1 O2 T w.heap.size:=by
    refine⟨fun b k hb h=>by rw[hO2lt hb,h],fun b k q hb h ht=> ?_⟩
    rw[hO2lt hb,h]
    exact if_neg ht
  have hless2: ∀ b k,b<w.heap.size→O2 b k≠none→O1 b k≠none:=by
    intro b k hb h h'
    rw[hO2lt hb,h']at h;exact h rfl
  have hnone: ∀ b k,Of b k=none→O2 b k=none:=by
    intro b k h
    by_cases hb:b<w.heap.size
    ·rw[hO2lt hb]
     cases hO:O1 b k with
     | none=>rfl
     | some q =>
       by_cases ht:T q
       ·show(if T q then _ else _)=_
        rw[if_pos ht,h];rfl
       ·exfalso
        have hr:F9 O1 ρ b k=some 255:=by
          unfold F9;rw[hO]
          have: ρ q=none:=by
            cases hh: ρ q with
            | none=>rfl
            | some i=>exact absurd ⟨i,hh⟩ ht
          simp [this]
        have:=hcame.WN b k hb hr
        rw[h]at this;cases this
    ·show(if _ then _ else _)=_
     rw[if_neg hb,h];rfl
  have hsome: ∀ b k n,Of b k=some n→n≠255→O2 b k=sigma (Du fet) d sg.Ah xs n:=by
    intro b k n h hne
    by_cases hb:b<w.heap.size
    ·rw[hO2lt hb]
     have h1:=hcame.less b k hb (by rw[h];simp)
     rw[Ne,PN]at h1
     cases hO:O1 b k with
     | none=>exact absurd hO h1
     | some q =>
       by_cases ht:T q
       ·show(if T q then _ else _)=_
        rw[if_pos ht,h];rfl
       ·exfalso
        have hr:F9 O1 ρ b k=some 255:=by
          unfold F9;rw[hO]
          have: ρ q=none:=by
            cases hh: ρ q with
            | none=>rfl
            | some i=>exact absurd ⟨i,hh⟩ ht
          simp [this]
        have:=hcame.WN b k hb hr
        rw[h]at this;injection this with this;exact hne this
    ·show(if _ then _ else _)=_
     rw[if_neg hb,h];rfl
  have hpf:Ep Of w' O2 w':=fun b k u h hc=>⟨hnone b k h,hc⟩
  have hbcnt:bxs.length=(CV sg.Ah 0).length:=b1
  let bi:Nat→Nat:=fun j=>(CV sg.Ah 0).getD j 0
  let bval:Nat→Value:=fun j=>a.eval (c.args.getD (bi j) (.tmp 0))
  let HV:=OD w' (fun k=>us.getD k undef) (b2 d) 16 sg.AL rs 0++L8 (Du fet) w' bval (rs.drop sg.AL.length) bxs 0
  have hHVf:HV.map (·.1)=((BL (b2 d) 16 sg.AL rs 0).2.2++(BM (Du fet) (rs.drop sg.AL.length) bxs 0).2.2).map (·.1):=by
    simp only[HV,List.map_append,AhO,Aa4]
  have hHVn:nodup (HV.map (·.1))=true:=by rw[hHVf];exact hnd
  let m2:Nat→Value:=fun i=>(Zk HV i).getD (m i)
  have hm2: ∀ p∈HV,m2 p.1=p.2:=by
    intro p hp
    show(Zk HV p.1).getD _=_
    rw[Aky hHVn p hp];rfl
  let Nw:Nat→Prop:=fun i=> ∃ p∈(BL (b2 d) 16 sg.AL rs 0).2.2++(BM (Du fet) (rs.drop sg.AL.length) bxs 0).2.2,p.1=i
  have hNw: ∀ i,Nw i→Gp {st with Aa:=Au st.Aa upd} i:=by
    rintro i ⟨p,hp,rfl⟩
    exact(DU (hfr p hp)).frz g3
  have hm2not: ∀ i,¬ Nw i→m2 i=m i:=by
    intro i hi
    show(Zk HV i).getD _=_
    rw[AiH (fun h=> ?_)]
    ·rfl
    ·rw[hHVf]at h
     obtain⟨p,hp,hpe⟩:=List.mem_map.1 h
     exact hi ⟨p,hp,hpe⟩
  have hrres: ∀ j,j<sg.AL.length→ ∀ b k i,i<255→Of b k=some (256000+256*(0+j)+i)→O2 b k=some (b2 d+16*(0+j)+i):=by
    intro j hj b k i hi h
    rw[hsome b k _ h (by omega)]
    unfold sigma
    rw[if_pos (by omega),Nat.zero_add]
    have e1:(256000+256*j+i - 256000) / 256=j:=by omega
    have e2:(256000+256*j+i - 256000) % 256=i:=by omega
    rw[e1,e2]
  have hbx: ∀(j:Nat) (p:Nat×Sh),bxs[j]? =some p→(∃ y,Ai st.Aa p.1=some y∧Aej p.2 y)∧(∀ ks,p.2= .box ks→ks.length≤200)∧m p.1=bval j∧IR Of w' (256*bi j) (bval j) (Aac (rs.getD (sg.AL.length+j) .undef)) ∧
      ∀ b k i,i<255→Of b k=some (256*bi j+i)→O2 b k=some (if i=0 then p.1 else Du fet p.1+i):=by
    intro j p hp
    obtain⟨i',a1,a2,a3,a4,a7⟩:=b2' j p hp
    rw[Nat.zero_add]at a1
    have hbi:bi j=i':=by show(CV sg.Ah 0).getD j 0=_;rw[List.getD_eq_getElem?_getD,a1];rfl
    have c2:=hcame.boxes j i' a1
    have hi'x:i'<xs.length:=by rw[g2];exact a2
    have hxv:=hx i' hi'x
    have hF':FOk O st.Aa m w fet:=fun q x h=>⟨hf q x h,hS.Aa q x (hf q x h)⟩
    have hkey:(∃ y,Ai st.Aa p.1=some y∧Aej p.2 y)∧(∀ ks,p.2= .box ks→ks.length≤200)∧m p.1=a.eval (c.args.getD i' (.tmp 0))∧AdV sg.Ah xs i'=some p.1:=by
      obtain⟨q,s⟩:=p
      have hsh:sg.Ah.getD i' (.agg [])=s:=by rw[List.getD_eq_getElem?_getD,a7];rfl
      cases s with
      | cell _ _=>exact a4.elim
      | agg _=>exact a4.elim
      | box ks =>
        obtain⟨⟨cs0,a4⟩,a5,a6⟩:=a4
        have e5:xs.getD i' .undef= .ptr q 0:=by rw[List.getD_eq_getElem?_getD,a5];rfl
        rw[e5]at hxv
        obtain⟨bk,base,k1,k2,_⟩:=hxv.ptr hF' a4
        refine⟨⟨_,hf _ _ a4,trivial⟩,(fun ks' h=>by injection h with h;rw[← h];exact a6),by dsimp only at k1 ⊢;rw[k1,k2,Nat.add_zero],?_⟩
        unfold AdV;rw[hsh,e5]
      | map kt vt =>
        obtain⟨⟨l,a4⟩,a5⟩:=a4
        have e5:xs.getD i' .undef= .own q:=by rw[List.getD_eq_getElem?_getD,a5];rfl
        rw[e5]at hxv
        have hc:AV O st.Aa m w (a.eval (c.args.getD i' (.tmp 0))) (.own q):=hxv
        have hc:=hc.2
        rw[hf _ _ a4]at hc
        refine⟨⟨_,hf _ _ a4,trivial⟩,(fun ks' h=>by cases h),hc.symm,?_⟩
        unfold AdV;rw[hsh,e5]
    obtain⟨hky,hk200,hkm,e7⟩:=hkey
    have e6:(c.args.map a.eval).getD i' undef=a.eval (c.args.getD i' (.tmp 0)):=by
      have hjs:i'<c.args.size:=by rw[← hl];exact hi'x
      simp [Array.getD_eq_getD_getElem?,hjs]
    refine⟨hky,hk200,?_,?_,fun b k i hi h=> ?_⟩
    ·show _=a.eval (c.args.getD (bi j) (.tmp 0))
     rw[hbi];exact hkm
    ·show IR Of w' (256*bi j) (a.eval (c.args.getD (bi j) (.tmp 0))) _
     rw[hbi, ←e6];exact c2
    ·rw[hbi]at h
     rw[hsome b k _ h (by omega)]
     unfold sigma
     rw[if_neg (by omega)]
     have e1:(256*i'+i) / 256=i':=by omega
     have e2:(256*i'+i) % 256=i:=by omega
     rw[e1,e2,e7]
  let NEW:=(BL (b2 d) 16 sg.AL rs 0).2.2++(BM (Du fet) (rs.drop sg.AL.length) bxs 0).2.2
  let BX:=(BM (Du fet) (rs.drop sg.AL.length) bxs 0).2.1
  let objsF:=Au (Bl (Au st.Aa (upd++BX)) del) NEW
  have hnewO: ∀ p∈NEW,Ai objsF p.1=some p.2:=fun p hp=>Y7 hnd hp
  have hBXk: ∀ i z,(i,z)∈BX→ ∃(j:Nat) (p:Nat×Sh),bxs[j]? =some p∧p.1=i∧ ∃ r,z=(EI (Du fet p.1) p.2 r).2.1:=by
    intro i z hz
    have: ∀(bs:List (Nat×Sh)) (j0:Nat),(i,z)∈(BM (Du fet) (rs.drop sg.AL.length) bs j0).2.1→ ∃(j:Nat) (p:Nat×Sh),bs[j]? =some p∧p.1=i∧ ∃ r,z=(EI (Du fet p.1) p.2 r).2.1:=by
      intro bs
      induction bs with
      | nil=>intro j0 h;simp [BM]at h
      | cons b bs ih =>
        intro j0 h
        obtain⟨q,ks⟩:=b
        simp only[BM]at h
        rcases List.mem_cons.1 h with h | h
        ·injection h with h1 h2
         exact⟨0,(q,ks),rfl,h1.symm,_,h2⟩
        ·obtain⟨j,p,h1,h2⟩:=ih (j0+1) h
         exact⟨j+1,p,by simpa using h1,h2⟩
    exact this bxs 0 hz
  have hupdk: ∀ i z,(i,z)∈upd→(∃ e l f,z= .arr e true l∧Ai st.Aa i=some (.arr e f l))∧Ai (Au st.Aa upd) i=some z:=by
    intro i z hz
    obtain⟨e,fz,l,k1,k2⟩:=g3 _ hz
    dsimp only at k1 k2
    refine⟨⟨e,l,fz,k2,k1⟩,?_⟩
    obtain⟨x,hx1,hx2⟩:=Et upd st.Aa i ⟨(i,z),hz,rfl⟩
    obtain⟨e',fz',l',k3,k4⟩:=g3 _ hx1
    dsimp only at k3 k4
    rw[k1]at k3
    injection k3 with k3;injection k3 with q1 q2 q3
    subst q1;subst q3
    rw[hx2,k4,k2]
  have hnoBX: ∀ i,(∃ e f l,Ai st.Aa i=some (.arr e f l))→ ∀ y,(i,y)∉BX:=by
    rintro i ⟨e,f',l,h⟩ y hy
    obtain⟨j,p,h1,h2,_⟩:=hBXk i y hy
    obtain⟨⟨y',h3,h4⟩,_⟩:=hbx j p h1
    rw[h2,h]at h3;injection h3 with h3;subst h3
    exact jM h4
  have hTiff: ∀ i,T i→i∈del∨ ∃ y,(i,y)∈BX:=by
    rintro i ⟨n,hn'⟩
    have h1:(i,n)∈N:=jB hn'
    have h2:=(g4 i).2 (List.mem_map.2 ⟨_,h1,rfl⟩)
    rcases List.mem_append.1 h2 with h2 | h2
    ·exact .inl h2
    ·right
     rw[← AcF (Du fet) (rs.drop sg.AL.length) bxs 0]at h2
     obtain⟨q,hq1,hq2⟩:=List.mem_map.1 h2
     exact⟨q.2,by rw[← hq2];exact hq1⟩
  have hget: ∀ i z,Ai objsF i=some z→(i,z)∈NEW∨(¬ Nw i∧i∉del∧((i,z)∈BX∨((∀ y,(i,y)∉BX)∧Ai (Au st.Aa upd) i=some z))):=by
    intro i z hz
    rcases Tm hz with h | ⟨hno,hnd',h⟩
    ·exact .inl h
    ·have hni: ¬ Nw i:=by rintro ⟨p,hp,rfl⟩;exact hno p.2 hp
     refine .inr ⟨hni,hnd',?_⟩
     rcases h with h | ⟨h1,h2⟩
     ·rcases List.mem_append.1 h with h | h
      ·obtain⟨⟨e,l,f',h3,h4⟩,h5⟩:=hupdk i z h
       exact .inr ⟨hnoBX i ⟨e,f',l,h4⟩,h5⟩
      ·exact .inl h
     ·right
      refine⟨fun y hy=>h1 y (List.mem_append_right _ hy),?_⟩
      rw[Di _ _ _ (fun p hp e=>h1 p.2 (List.mem_append_left _ (by rw[← e];exact hp)))]
      exact h2
  have hbxst: ∀ i z,(i,z)∈BX→ ∃ y,Ai st.Aa i=some y∧Ai (Au st.Aa upd) i=some y∧y.shp=z.shp:=by
    intro i z hz
    obtain⟨j,p,h1,h2,r,h4⟩:=hBXk i z hz
    obtain⟨⟨y,h3,h5⟩,_⟩:=hbx j p h1
    rw[h2]at h3
    refine⟨y,h3,?_,by rw[h4];exact AkA h5⟩
    rw[Di _ _ _ (fun p hp e=> ?_)]
    ·exact h3
    ·obtain⟨⟨e1,e2,e3,_,h6⟩,_⟩:=hupdk p.1 p.2 hp
     rw[e,h3]at h6;injection h6 with h6;rw[h6]at h5;exact jM h5
  have hE:Hr (Au st.Aa upd) m objsF m2 Nw:=by
    intro i z hz
    rcases hget i z hz with h | ⟨h1,h2,h | ⟨h3,h4⟩⟩
    ·exact .inl ⟨_,h,rfl⟩
    ·obtain⟨y,h5,h6,h7⟩:=hbxst i z h
     exact .inr ⟨y,h6,h7,hm2not i h1⟩
    ·exact .inr ⟨z,h4,rfl,hm2not i h1⟩
  obtain⟨r1,r2,r3⟩:=wY (objs':=objsF) (m':=m2) (cid:=256000) (cst:=256) (id:=b2 d) (stride:=16) (f:=fun k=>us.getD k undef) (rs:=rs) hpf hnone sg.AL 0 (fun j hj=>by
    have:=hus3 j (by rw[hus1];exact hj)
    rw[Nat.zero_add];exact this) hrres hokD (fun p hp=>hnewO p (List.mem_append_left _ hp)) (fun p hp=>hm2 p (List.mem_append_left _ hp))
  obtain⟨s1,s2⟩:=Aa5 (rb:=Du fet) (objs':=objsF) (m':=m2) (val:=bval) (cid:=fun j=>256*bi j) (rs:=rs.drop sg.AL.length) hpf hnone bxs 0 (fun j p hp=>by
    obtain⟨⟨y0,h0,h0'⟩,h1,h2,h4,h5⟩:=hbx j p hp
    have hni: ¬ Nw p.1:=fun h=>by
      have:=(hNw p.1 h).Aa
      dsimp only at this
      rw[Di _ _ _ (fun p' hp' e=> ?_)]at this
      ·rw[h0]at this;cases this
      ·obtain⟨⟨e1,e2,e3,_,h6⟩,_⟩:=hupdk p'.1 p'.2 hp'
       rw[e,h0]at h6;injection h6 with h6;rw[h6]at h0';exact jM h0'
    rw[Nat.zero_add]
    refine⟨h1,by rw[hm2not _ hni];exact h2,?_,h5⟩
    rw[List.getD_eq_getElem?_getD,List.getElem?_drop, ←List.getD_eq_getElem?_getD];exact h4) hokC (fun p hp=>hnewO p (List.mem_append_right _ hp)) (fun p hp=>hm2 p (List.mem_append_right _ hp))
  let vsR:=(BL (b2 d) 16 sg.AL rs 0).2.1
  have hval:AB O2 objsF m2 w' v (Aeo vsR):=by
    have hlen:vsR.length=us.size:=by rw[r1,hus1]
    rw[hus2]
    by_cases h1:us.size=1
    ·rw[dif_pos h1]
     obtain⟨x,hx'⟩: ∃ x,vsR=[x]:=List.length_eq_one_iff.1 (by rw[hlen];exact h1)
     rw[hx']
     have:=(r2 0 (by rw[← hus1];omega)).1
     have e1:(BL (b2 d) 16 sg.AL rs 0).2.1.getD 0 .undef=x:=by
       show vsR.getD 0 .undef=x
       rw[hx'];rfl
     rw[e1]at this
     have e2:us.getD (0+0) undef=us[0]:=by simp [Array.getD_eq_getD_getElem?,show 0<us.size from by omega]
     rw[← e2];exact this
    ·rw[dif_neg h1]
     have e1:Aeo vsR= .tup vsR:=by
       cases hv':vsR with
       | nil=>rfl
       | cons x l =>
         cases l with
         | nil=>rw[hv']at hlen;simp at hlen;omega
         | cons _ _=>rfl
     rw[e1]
     refine⟨us,rfl,hlen.symm,fun j hj=> ?_⟩
     have hj':j<sg.AL.length:=by rw[← r1];exact hj
     have:=r2 j hj'
     rw[Nat.zero_add]at this
     exact this.1.Aoi this.2
  refine hn O2 m2 _ _ ?_
  refine hS1.next (T:=T) (Nw:=Nw) (x:=Aeo vsR) hM hP2 hless2 hE (fun n hn'=>(hNw n hn').both) (fun q hq=> ?_) (fun i z hz=> ?_) rfl (fun _=>hval)
  ·obtain⟨n,hn'⟩:=hq
   have h1:(q,n)∈N:=jB hn'
   have h2:=halive _ h1
   obtain⟨y,hy⟩:=Option.isSome_iff_exists.1 h2
   have h3:=hf _ _ hy
   by_cases hu: ∃ p∈upd,p.1=q
   ·obtain⟨x,_,hx2⟩:=Et upd st.Aa q hu
    exact Option.isSome_iff_exists.2 ⟨x,hx2⟩
   ·dsimp only
    rw[Di _ _ _ (fun p hp e=>hu ⟨p,hp,e⟩)]
    exact Option.isSome_iff_exists.2 ⟨y,h3⟩
  ·rcases hget i z hz with h | ⟨h1,h2,h | ⟨h3,h4⟩⟩
   ·right
    refine⟨?_,(hNw i ⟨_,h,rfl⟩).ne⟩
    rcases List.mem_append.1 h with h | h
    ·exact r3 _ h
    ·exact s2 _ h
   ·right
    obtain⟨y,h5,h6,_⟩:=hbxst i z h
    exact⟨s1 _ h,hS.ids i _ h5⟩
   ·left
    refine⟨fun ht=> ?_,h4,hm2not i h1⟩
    rcases hTiff i ht with h | ⟨y,hy⟩
    ·exact h2 h
    ·exact h3 y hy
end
