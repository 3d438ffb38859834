/-
  CertextCheck: the law returns true whatever the input; machine, functions, plain law (part 18 of 47.)
-/
import Derived.Test.YtadefjgbcapakaaGreatDoorA17
import Derived.Orders
set_option linter.unusedVariables false
set_option linter.unusedSimpArgs false
namespace Go.Proofs.YtadefjgbcapakaaGreatDoor.Vm
open Classical
def NF:Sh→Sh
  | .box ks=>.box ks
  | .map kt vt=>.map kt vt
  | _=>.cell false .bool
def Am9:Sh→Nat→A
  | .box _,i=>.ptr (256*i) 0
  | .map _ _,i=>.own (256*i)
  | _,_=>.bool true
def IK:List Sh→Nat→List A
  | [],_=>[]
  | s::ss,i=>Am9 s i::IK ss (i+1)
def unbox:A→A
  | .box cs=>.agg cs
  | a=>a
def mQ (Ah:List Sh) (xs:List A) (n:Nat):St:= {tmps:=(BL 0 256 Ah xs 0).2.1++List.replicate (n - Ah.length) .undef,Aa:=Au [] (BL 0 256 Ah xs 0).2.2}
def vN (C:Ctx) (st:St) (q:Nat×Option Nat):List Bool×A :=
  match q.2 with
  | none=>([Nat.blt q.1 st.tmps.length],st.tmps.getD q.1 .undef)
  | some ty=>match mZ C st.Aa ty (st.tmps.getD q.1 .undef)with
    | δ =>(Nat.blt q.1 st.tmps.length:: δ.ok,δ.val)
def Ig (C:Ctx) (outs:List (Nat×Option Nat)) (st:St):List A:=outs.map (fun q=>(vN C st q).2)
def finish (C:Ctx) (Ah AL:List Sh) (outs:List (Nat×Option Nat)) (st:St):Option (List A) :=
  allT ((AX st.Aa AL (Ig C outs st)).1++(AX st.Aa (Ah.map NF) (IK Ah 0)).1 ++
      [nodup ((DZ st.Aa 256000 256 AL (Ig C outs st)++DZ st.Aa 0 256 (Ah.map NF) (IK Ah 0)).map (·.1))]++outs.flatMap (fun q=>(vN C st q).1))
    (some ((AX st.Aa AL (Ig C outs st)).2.1++(CV Ah 0).map (fun i=>unbox ((AX st.Aa (Ah.map NF) (IK Ah 0)).2.1.getD i .undef))))
def runK {ρ :Type} (C:Ctx) (N:Nat) (Ah:List Sh) (n:Nat) (code:Code) (fin:St→Option ρ) (xs:List A):Option ρ :=
  allT ((BL 0 256 Ah xs 0).1++[nodup ((BL 0 256 Ah xs 0).2.2.map (·.1)),!(has ((BL 0 256 Ah xs 0).2.2.map (·.1)) 255)])
    (exec C N fin code (mQ Ah xs n) fun
      | .normal,st=>fin st
      | .exit _,_=>none)
section
variable {P:Program} {C:Ctx} {V0:Nat→Value} {O0 O:Own} {w0 w:World} {m:Nat→Value} {st:St} {a:Act}
theorem Qi {id:Nat}: ∀(ks:List (Bool×CK)) (cs:List A) (j0:Nat),∀ p∈(Bg id ks cs j0).2.2,∃ x,p.1=id+x∧x<j0+ks.length:=by
  intro ks
  induction ks with
  | nil=>intro cs j0 p hp;simp [Bg]at hp
  | cons k ks ih =>
    intro cs j0 p hp
    have step:p∈(Bg id ks cs (j0+1)).2.2→ ∃ x,p.1=id+x∧x<j0+(k::ks).length:=by
      intro h
      obtain⟨x,h1,h2⟩:=ih cs (j0+1) p h
      exact⟨x,h1,by simp only[List.length_cons];omega⟩
    obtain⟨u,k⟩:=k
    cases u with
    | false=>exact step hp
    | true =>
      cases k with
      | sl e sz =>
        simp only[Bg]at hp
        rcases List.mem_cons.1 hp with rfl | hp
        ·exact⟨j0,rfl,by simp⟩
        ·exact step hp
      | _=>simp [Bg]at hp
theorem AjC {id:Nat} {s:Sh} {x:A} (hok:AA (back id s x).1): ∀ p∈(back id s x).2.2,∃ i,p.1=id+i∧i<255:=by
  intro p hp
  cases s with
  | cell u k =>
    obtain⟨i,h1,h2⟩:=Qi _ _ _ p hp
    exact⟨i,h1,by simp at h2;omega⟩
  | agg ks =>
    simp only[back]at hok hp
    have:=Nat.le_of_ble_eq_true hok.cons.1
    obtain⟨i,h1,h2⟩:=Qi _ _ _ p hp
    exact⟨1+i,by omega,by omega⟩
  | box ks =>
    simp only[back]at hok hp
    have:=Nat.le_of_ble_eq_true hok.cons.1
    rcases List.mem_cons.1 hp with rfl | hp
    ·exact⟨0,rfl,by omega⟩
    ·obtain⟨i,h1,h2⟩:=Qi _ _ _ p hp
     exact⟨1+i,by omega,by omega⟩
  | map kt vt =>
    obtain rfl:p=(id,.mp x.toM):=by simpa [back]using hp
    exact⟨0,rfl,by omega⟩
theorem AhP {f:Nat→Value}: ∀(ss:List Sh) (rs:List A) (j0:Nat),AA (BL 0 256 ss rs j0).1→ ∀ p∈OD w f 0 256 ss rs j0,p.2=Gf w (f (p.1 / 256)) (p.1 % 256):=by
  intro ss
  induction ss with
  | nil=>intro rs j0 _ p hp;simp [OD]at hp
  | cons s ss ih =>
    intro rs j0 hok p hp
    simp only[BL]at hok
    obtain⟨h1,h2⟩:=hok.append
    simp only[OD]at hp
    rcases List.mem_append.1 hp with hp | hp
    ·obtain⟨q,hq,rfl⟩:=List.mem_map.1 hp
     obtain⟨i,h3,h4⟩:=AjC h1 q hq
     dsimp only
     rw[h3]
     have e1:(0+256*j0+i) / 256=j0:=by omega
     have e2:(0+256*j0+i) % 256=i:=by omega
     rw[e1,e2,Nat.add_sub_cancel_left]
    ·exact ih rs (j0+1) h2 p hp
theorem AjY {Ah:List Sh} {xs:List A} {n:Nat} {vs:Array Value} (hI:Inv O w) (hv:vs.size=xs.length) (hl:xs.length=Ah.length) (h: ∀ j,j<xs.length→IR O w (256*j) (vs.getD j undef) (xs.getD j .undef))
    (hok:AA (BL 0 256 Ah xs 0).1) (hnd:nodup ((BL 0 256 Ah xs 0).2.2.map (·.1))=true) (h255:has ((BL 0 256 Ah xs 0).2.2.map (·.1)) 255=false) :
    Sim (fun o=>vs.getD (o / 256) undef) O w O (fun o=>Gf w (vs.getD (o / 256) undef) (o % 256)) (mQ Ah xs n) {tmps:=vs++Array.replicate (n - vs.size) undef,defers:=[]} w:=by
  have hmem: ∀ o x,Ai (Au [] (BL 0 256 Ah xs 0).2.2) o=some x→(o,x)∈(BL 0 256 Ah xs 0).2.2:=by
    intro o x hx
    rcases TE _ (rM hx)with h | h
    ·exact h
    ·cases h
  have hget: ∀ p∈(BL 0 256 Ah xs 0).2.2,Ai (Au [] (BL 0 256 Ah xs 0).2.2) p.1=some p.2:=fun p hp=>Y7 (Aa:=[]) (upd:=[]) (del:=[]) hnd (o:=p.1) (x:=p.2) hp
  obtain⟨r1,r2,r3⟩:=wY (Oc:=O) (O':=O) (w:=w) (objs':=Au [] (BL 0 256 Ah xs 0).2.2) (m':=fun o=>Gf w (vs.getD (o / 256) undef) (o % 256)) (cid:=0) (cst:=256) (id:=0) (stride:=256) (f:=fun j=>vs.getD j undef) (rs:=xs)
    (fun _ _ _ h hc=>⟨h,hc⟩) (fun _ _ h=>h) Ah 0 (fun j hj=>by rw[Nat.zero_add,Nat.zero_add];exact h j (by rw[hl];exact hj)) (fun j _ b k i _ hb=>hb) hok hget
    (fun p hp=>(AhP Ah xs 0 hok p hp).symm)
  refine⟨rfl,?_,fun t ht=> ?_,fun o x hx=>r3 _ (hmem o x hx),Moves.refl O _ w,fun b k o _ ho hne=>⟨o,ho,hne⟩,fun o x hx e=> ?_,fun b k _ h=>h,fun o hr _=> ?_,fun b k _ h=>h,hI⟩
  ·simp [mQ,r1,hv,hl]
  ·show AB O _ _ w (((vs++Array.replicate (n - vs.size) undef).getD t undef)) (((BL 0 256 Ah xs 0).2.1++List.replicate (n - Ah.length) A.undef).getD t .undef)
   rcases Nat.lt_or_ge t Ah.length with htl | htl
   ·have e1:((BL 0 256 Ah xs 0).2.1++List.replicate (n - Ah.length) A.undef).getD t .undef=(BL 0 256 Ah xs 0).2.1.getD t .undef:=by
      simp [List.getD_eq_getElem?_getD,List.getElem?_append_left,r1,htl]
    have e2:(vs++Array.replicate (n - vs.size) undef).getD t undef=vs.getD t undef:=by
      have:t<vs.size:=by rw[hv,hl];exact htl
      simp [Array.getD_eq_getD_getElem?,Array.getElem?_append_left,this]
    rw[e1,e2]
    have:=(r2 t htl).1
    rw[Nat.zero_add]at this;exact this
   ·have e1:((BL 0 256 Ah xs 0).2.1++List.replicate (n - Ah.length) A.undef).getD t .undef= .undef:=by
      rw[List.getD_eq_getElem?_getD,List.getElem?_append_right (by rw[r1];exact htl),List.getElem?_replicate]
      split<;>rfl
    rw[e1];trivial
  ·subst e
   have:=hmem _ x hx
   have h':has ((BL 0 256 Ah xs 0).2.2.map (·.1)) 255=true:=H7.2 (List.mem_map.2 ⟨_,this,rfl⟩)
   rw[h']at h255;cases h255
  ·unfold PO at hr
   rw[Bool.and_eq_true]at hr
   have:=Nat.eq_of_beq_eq_true hr.2
   rw[this];rfl
theorem AeV {fet:Fet}: ∀(ss:List Sh) (xs:List A),AA (AX fet ss xs).1→ ∀ i s,ss[i]? =some s→BN s=true→Aac (unbox ((AX fet ss xs).2.1.getD i .undef))=(AX fet ss xs).2.1.getD i .undef:=by
  intro ss
  induction ss with
  | nil=>intro xs _ i s h;simp at h
  | cons s ss ih =>
    intro xs hok i s' h hb
    cases xs with
    | nil=>have:=hok false (by simp [AX]);cases this
    | cons x xs =>
      simp only[AX]at hok ⊢
      obtain⟨h1,h2⟩:=hok.append
      cases i with
      | zero =>
        simp at h;subst h
        cases s with
        | cell _ _=>cases hb
        | agg _=>cases hb
        | map kt vt =>
          cases x with
          | own q =>
            unfold Bi at h1 ⊢
            dsimp only at h1 ⊢
            cases hg:Ai fet q with
            | none=>rw[hg]at h1;have:=h1 false (by simp);cases this
            | some y =>
              cases y with
              | mp l=>rfl
              | _=>rw[hg]at h1;have:=h1 false (by simp);cases this
          | _=>have:=h1 false (by simp [Bi]);cases this
        | box ks =>
        cases x with
        | ptr q off =>
          unfold Bi at h1 ⊢
          dsimp only at h1 ⊢
          cases hb:MK fet q with
          | none=>rw[hb]at h1;have:=h1 false (by simp);cases this
          | some cs=>rfl
        | _=>have:=h1 false (by simp [Bi]);cases this
      | succ i=>simpa using ih xs h2 i s' (by simpa using h) hb
theorem AhW: ∀(ss:List Sh) (i0 j i:Nat),(CV ss i0)[j]? =some i→ ∃ r s,i=i0+r∧ss[r]? =some s∧BN s=true:=by
  intro ss
  induction ss with
  | nil=>intro i0 j i h;simp [CV]at h
  | cons s ss ih =>
    intro i0 j i h
    have step: ∀ j':Nat,(CV ss (i0+1))[j']? =some i→ ∃ r s',i=i0+r∧(s::ss)[r]? =some s'∧BN s'=true:=by
      intro j' h'
      obtain⟨r,s',h1,h2,h3⟩:=ih (i0+1) j' i h'
      exact⟨r+1,s',by omega,by simpa using h2,h3⟩
    simp only[CV]at h
    cases s with
    | box ks =>
      simp only[BN,cond_true]at h
      cases j with
      | zero=>simp at h;exact⟨0,_,by omega,rfl,rfl⟩
      | succ j=>exact step j (by simpa using h)
    | map kt vt =>
      simp only[BN,cond_true]at h
      cases j with
      | zero=>simp at h;exact⟨0,_,by omega,rfl,rfl⟩
      | succ j=>exact step j (by simpa using h)
    | cell u k=>simp only[BN,cond_false]at h;exact step j h
    | agg ks=>simp only[BN,cond_false]at h;exact step j h
theorem Afr: ∀(ss:List Sh) (i0:Nat),(IK ss i0).length=ss.length:=by
  intro ss
  induction ss with
  | nil=>intro i0;rfl
  | cons s ss ih=>intro i0;simp [IK,ih]
theorem AiN: ∀(ss:List Sh) (i0 j:Nat),j<ss.length→(IK ss i0).getD j .undef=Am9 (ss.getD j (.agg [])) (i0+j):=by
  intro ss
  induction ss with
  | nil=>intro i0 j h;simp at h
  | cons s ss ih =>
    intro i0 j h
    cases j with
    | zero =>
      simp only[IK,List.getD_cons_zero,Nat.add_zero]
    | succ j =>
      have:=ih (i0+1) j (by simpa using h)
      rw[show i0+1+j=i0+(j+1)from by omega]at this
      simpa [IK]using this
end
end Go.Proofs.YtadefjgbcapakaaGreatDoor.Vm
namespace Go.Proofs.YtadefjgbcapakaaGreatDoor.Vm
open Classical
def rv:Nat×Option Nat→ResultVar
  | (t,none)=>.tmp t
  | (a,some ty)=>.cell a ty
def Aab (tmps:Array Value):ResultVar→Sem Value
  | .tmp t=>pure (tmps.getD t undef)
  | .cell a t=>do loadVar t (← asAddr (tmps.getD a undef))
theorem AlU {P:Program} {w:World} {α :Type} {g: α →Sem Value}: ∀(l:List α) (f:Nat→Value),(∀(j:Nat) (x: α),l[j]? =some x→(g x).run P w= .ok (f j) w)→(l.mapM g).run P w= .ok ((List.range l.length).map f) w:=by
  intro l
  induction l with
  | nil=>intro f _;simp
  | cons x r ih =>
    intro f h
    have h1:=ih (fun j=>f (j+1)) (fun j y hy=>h (j+1) y (by simpa using hy))
    have h2:=h 0 x rfl
    rw[List.mapM_cons]
    simp only[Sem.run_bind,h2,Result.andThen_ok,h1,Sem.run_pure,List.length_cons,List.range_succ_eq_map,List.map_cons,List.map_map]
    rfl
def Agm (us:Array Value):Value:=if h:us.size=1 then us[0]else .tuple us
theorem AgX {P:Program} {w:World} {fn:Func} {outs:List (Nat×Option Nat)} {tmps:Array Value} (h:fn.results=(outs.map rv).toArray) (f:Nat→Value) (hf: ∀(j:Nat) (q:Nat×Option Nat),outs[j]? =some q→(Aab tmps (rv q)).run P w= .ok (f j) w) :
    (results fn tmps).run P w= .ok (Agm ((List.range outs.length).map f).toArray) w:=by
  have e:results fn tmps=(do let vs←fn.results.mapM (Aab tmps);pure (Agm vs)):=by
    have e0:Aab tmps=(fun | .tmp t=>pure (tmps.getD t undef) | .cell a t=>do loadVar t (← asAddr (tmps.getD a undef))):=by
      funext x;cases x<;>rfl
    unfold results Agm
    rw[e0]
    rfl
  rw[e,h,List.mapM_toArray]
  have:=AlU (P:=P) (w:=w) (g:=Aab tmps) (outs.map rv) f (fun j x hx=>by
    rw[List.getElem?_map]at hx
    cases hq:outs[j]? with
    | none=>rw[hq]at hx;cases hx
    | some q=>rw[hq]at hx;injection hx with hx;rw[← hx];exact hf j q hq)
  rw[List.length_map]at this
  simp only[map_eq_pure_bind,bind_assoc,pure_bind,Sem.run_bind,Sem.run_pure,this,Result.andThen_ok]
section
variable {P:Program} {C:Ctx} {V0:Nat→Value} {O0 O:Own} {w0 w:World} {m:Nat→Value} {st:St} {a:Act}
theorem Ajn {Ah:List Sh} {i:Nat} {s:Sh} (h:Ah[i]? =some s) (hb:BN s=true):(Ah.map NF)[i]? =some s∧BN (Ah.getD i (.agg []))=true∧i<Ah.length:=by
  have hi:i<Ah.length:=by
    rcases Nat.lt_or_ge i Ah.length with h' | h'
    ·exact h'
    ·rw[List.getElem?_eq_none h']at h;cases h
  refine⟨(by rw[List.getElem?_map,h];cases s<;>first | rfl | (cases hb;done)),?_,hi⟩
  rw[List.getD_eq_getElem?_getD,h];exact hb
theorem AjX {Ah AL:List Sh} {outs:List (Nat×Option Nat)} {rs:List A} {vs:Array Value} {sg:Sig} {fn:Func} (hC:TOk P C) (hfn:fn.results=(outs.map rv).toArray) (hp:sg.Ah=Ah) (hr:sg.AL=AL) (h100:Ah.length≤100)
    (hptr: ∀ i,i<Ah.length→BN (Ah.getD i (.agg []))=true→(vs.getD i undef).oneCell'=true)
    (hS:Sim (fun o=>vs.getD (o / 256) undef) O0 w0 O m st a w) (h:finish C Ah AL outs st=some rs) :
    ∃ v O',(results fn a.tmps).run P w= .ok v w∧Came O0 w0 vs sg rs v O' w:=by
  obtain⟨hok,hrs⟩:=Jl h
  injection hrs with hrs
  obtain⟨hokA,hokO⟩:=hok.append
  obtain⟨hokA,hokB⟩:=hokA.append
  obtain⟨hok1,hok2⟩:=hokA.append
  have hnd:=hokB.cons.1
  have hf:Ir st.Aa st.Aa:=fun _ _ h=>h
  generalize hN:DZ st.Aa 256000 256 AL (Ig C outs st)++DZ st.Aa 0 256 (Ah.map NF) (IK Ah 0)=N at *
  have hout: ∀ j:Nat,∃ u:Value,∀ q,outs[j]? =some q→(Aab a.tmps (rv q)).run P w= .ok u w∧AB O st.Aa m w u (vN C st q).2:=by
    intro j
    cases hj:outs[j]? with
    | none=>exact⟨undef,fun q hq=>by cases hq⟩
    | some q =>
      have hqok:AA (vN C st q).1:=fun b hb=>hokO b (List.mem_flatMap.2 ⟨q,List.mem_of_getElem? hj,hb⟩)
      obtain⟨t,ty⟩:=q
      cases ty with
      | none =>
        have hlt:=hqok.cons.1
        rw[Nat.blt_eq]at hlt
        exact⟨a.tmps.getD t undef,fun q hq=>by injection hq with hq;subst hq;exact⟨rfl,hS.tmps t hlt⟩⟩
      | some ty =>
        have hq2:AA (Nat.blt t st.tmps.length::(mZ C st.Aa ty (st.tmps.getD t .undef)).ok):=hqok
        obtain⟨hlt,hld⟩:=hq2.cons
        rw[Nat.blt_eq]at hlt
        obtain⟨u,hu1,hu2⟩:=(Ack (o:= {(default:Oper)with op:=.load ty (.tmp t)}) hC (fun q x hq=>⟨hq,hS.Aa q x hq⟩) rfl (tX hS (.tmp t)) hld).run
        refine⟨u,fun q hq=> ?_⟩
        injection hq with hq;subst hq
        refine⟨?_,hu2⟩
        have hev:a.eval (.tmp t)=a.tmps.getD t undef:=by simp [Act.eval]
        simp only[execOp,Instr.loadAt,hev]at hu1
        show(do loadVar ty (← asAddr (a.tmps.getD t undef)):Sem Value).run P w=_
        generalize a.tmps.getD t undef=z at hu1 ⊢
        cases z with
        | pointer p =>
          cases p with
          | none=>simp [Instr.sureAddr]at hu1
          | some ad =>
            simp only[asAddr,Sem.run_bind,Sem.run_pure,Result.andThen_ok]
            simp only[Instr.sureAddr,pure_bind,Sem.run_bind,Sem.run_pure]at hu1
            cases hl:(loadVar ty ad).run P w with
            | ok x w2 =>
              rw[hl]at hu1
              simp only[Result.andThen_ok,Sem.run_pure,Result.ok.injEq,Next.value.injEq]at hu1
              rw[hu1.1,hu1.2]
            | halt x w2=>rw[hl]at hu1;simp [Result.andThen]at hu1
        | _=>simp [Instr.sureAddr]at hu1
  obtain⟨fv,hfv⟩:=Classical.axiomOfChoice hout
  obtain⟨g1,g2,g3,_,g5⟩:=Sr hf hS.Aa 256 AL (Ig C outs st) 256000 fv (fun j hj=>by
    have hj':j<outs.length:=by simpa [Ig]using hj
    have e:(Ig C outs st).getD j .undef=(vN C st outs[j]).2:=by
      simp [Ig,List.getD_eq_getElem?_getD,hj']
    rw[e];exact(hfv j _ (List.getElem?_eq_getElem hj')).2) hok1
  have hmaskl:(Ah.map NF).length=Ah.length:=by simp
  obtain⟨k1,k2,k3,_,k5⟩:=Sr hf hS.Aa 256 (Ah.map NF) (IK Ah 0) 0 (fun j=>if BN (Ah.getD j (.agg []))then vs.getD j undef else .bool true) (fun j hj=>by
    have hj':j<Ah.length:=by rw[Afr]at hj;exact hj
    rw[AiN Ah 0 j hj',Nat.zero_add]
    have hroot:PO (256*j)=true:=by
      unfold PO
      rw[Bool.and_eq_true,Nat.blt_eq]
      refine⟨by omega,?_⟩
      rw[Nat.mul_mod_right];rfl
    have hrt: ∀ x,Ai st.Aa (256*j)=some x→m (256*j)=vs.getD j undef:=fun x hx=>by
      have:=hS.root (256*j) hroot (by rw[hx];rfl)
      rw[Nat.mul_div_cancel_left j (by decide)]at this
      exact this
    have hp:=hptr j hj'
    generalize Ah.getD j (.agg [])=s at hp ⊢
    cases s with
    | box ks =>
      rw[if_pos (show BN (Sh.box ks)=true from rfl)]
      refine⟨hp rfl,?_⟩
      cases hx:Ai st.Aa (256*j)with
      | none=>trivial
      | some x =>
        cases x with
        | arr _ _ _=>trivial
        | mp _=>trivial
        | box cs =>
          obtain⟨b,base,h1,_⟩:=hS.Aa _ _ hx
          exact⟨b,base,h1,by rw[← hrt _ hx,h1];rfl⟩
    | map kt vt =>
      rw[if_pos (show BN (Sh.map kt vt)=true from rfl)]
      refine⟨hp rfl,?_⟩
      cases hx:Ai st.Aa (256*j)with
      | none=>trivial
      | some x =>
        cases x with
        | box _=>trivial
        | arr _ _ _=>exact(hrt _ hx).symm
        | mp _=>exact(hrt _ hx).symm
    | cell u k=>rw[if_neg (show ¬ BN (Sh.cell u k)=true from fun h=>by cases h)];exact Am.bool true
    | agg ks=>rw[if_neg (show ¬ BN (Sh.agg ks)=true from fun h=>by cases h)];exact Am.bool true) hok2
  obtain⟨O1,hS1,hp1,_,hv1,_,hk1⟩:=hS.freezes _ (g3.append k3)
  have hρ : ∀ p∈N,look N p.1=some p.2:=Afm hnd
  have halive: ∀ p∈N,(Ai st.Aa p.1).isSome:=by
    intro p hp'
    rw[← hN]at hp'
    rcases List.mem_append.1 hp' with hp' | hp'
    ·exact Sz _ _ _ hok1 p hp'
    ·exact Sz _ _ _ hok2 p hp'
  generalize hU:(AX st.Aa AL (Ig C outs st)).2.2.1++(AX st.Aa (Ah.map NF) (IK Ah 0)).2.2.1=U at *
  have hFU:Frz st.Aa U:=by rw[← hU];exact g3.append k3
  have hupdO: ∀ p∈U,Dc O1 (Au st.Aa U) m w p.1 p.2:=by
    intro p hp
    obtain⟨x,hx1,hx2⟩:=Et U st.Aa p.1 ⟨p,hp,rfl⟩
    obtain⟨e,fz,l,k1,k2⟩:=hFU p hp
    obtain⟨e',fz',l',k3,k4⟩:=hFU _ hx1
    dsimp only at k3 k4
    rw[k1]at k3
    injection k3 with k3;injection k3 with q1 q2 q3
    subst q1;subst q3
    rw[k2, ←k4]
    exact hS1.Aa p.1 x hx2
  have hR:=g5 (ρ :=look N) hp1 (fun p hp=>hv1 p (by rw[← hU];exact List.mem_append_left _ hp)) (fun p hp=>hupdO p (by rw[← hU];exact List.mem_append_left _ hp)) hk1 (fun p hp=>hρ p (by rw[← hN];exact List.mem_append_left _ hp))
  have hB:=k5 (ρ :=look N) hp1 (fun p hp=>hv1 p (by rw[← hU];exact List.mem_append_right _ hp)) (fun p hp=>hupdO p (by rw[← hU];exact List.mem_append_right _ hp)) hk1 (fun p hp=>hρ p (by rw[← hN];exact List.mem_append_right _ hp))
  have hol:outs.length=AL.length:=by rw[← g2];simp [Ig]
  refine⟨_,F9 O1 (look N),AgX hfn fv (fun j q hq=>(hfv j q hq).1),hS1.frame,fun b k hb hne=>hS1.less b k hb (fun e=>hne (PN.2 e)),fun b k hb hj=> ?_,?_,?_,?_⟩
  ·have:=hS1.WN b k hb hj
   unfold F9
   rw[this]
   dsimp only
   cases hl:look N 255 with
   | none=>rfl
   | some i =>
     have h1:=halive _ (jB hl)
     obtain⟨x,hx⟩:=Option.isSome_iff_exists.1 h1
     exact absurd rfl (hS.ids 255 x hx)
  ·rw[← hrs,hp,hr];simp [g1]
  ·refine⟨((List.range outs.length).map fv).toArray,by rw[hr];simp [hol],rfl,fun k hk=> ?_⟩
   have hk':k<outs.length:=by simpa using hk
   have hus:(((List.range outs.length).map fv).toArray).getD k undef=fv k:=by
     simp [Array.getD_eq_getD_getElem?,hk']
   rw[hus]
   have:=hR k (by rw[← hol];exact hk')
   have e:rs.getD k .undef=(AX st.Aa AL (Ig C outs st)).2.1.getD k .undef:=by
     rw[← hrs,List.getD_eq_getElem?_getD,List.getElem?_append_left (by rw[g1, ←hol];exact hk'), ←List.getD_eq_getElem?_getD]
   rw[e];exact this
  ·intro j i hji
   rw[hp]at hji
   obtain⟨r,s,h1,h2,h2'⟩:=AhW Ah 0 j i hji
   rw[Nat.zero_add]at h1;subst h1
   obtain⟨h3,h4,h5⟩:=Ajn h2 h2'
   have h6:=AeV _ _ hok2 i s h3 h2'
   have e:rs.getD (sg.AL.length+j) .undef=unbox ((AX st.Aa (Ah.map NF) (IK Ah 0)).2.1.getD i .undef):=by
     rw[← hrs,hr,List.getD_eq_getElem?_getD,List.getElem?_append_right (by rw[g1];omega),g1,Nat.add_sub_cancel_left,List.getElem?_map,hji]
     rfl
   rw[e,h6]
   have:=hB i (by rw[hmaskl];exact h5)
   rw[Nat.zero_add,if_pos h4]at this
   exact this
theorem AkM {ρ :Type} {o: ρ} {fin:St→Option ρ} (hC:Jq P C) (N:Nat)
    (hdraw: ∀ {ρ :Type} {V0:Nat→Value} {O0:Own} {w0:World} {fin:St→Option ρ} {v: ρ} (id:Nat) (ops:Array Oper) {O:Own} {m:Nat→Value} {st:St} {a:Act} {w:World} (K:Ex→St→Option ρ),Sim V0 O0 w0 O m st a w→JI C ops.toList st=true→Oe C ops.toList ops.toList st (fun st'=>K .normal st')=some v →
      (Code.region id ops true).wp P (Post V0 O0 w0 fin K v) a w)
    {f:FuncId} {fn:Func} {code:Code} {outs:List (Nat×Option Nat)} {sg:Sig} (hf:P.funcs[f]? =some fn) (hb:fn.body=some code) (hout:fn.results=(outs.map rv).toArray)
    {vs:Array Value} {xs rs:List A} (hI:Inv O w) (hv:vs.size=xs.length) (hl:xs.length=sg.Ah.length) (h100:xs.length≤100) (hx: ∀ j,j<xs.length→IR O w (256*j) (vs.getD j undef) (xs.getD j .undef))
    (h:runK C N sg.Ah fn.ntmps code fin xs=some o) (hrs: ∀ st,fin st=some o→finish C sg.Ah sg.AL outs st=some rs) :
    Calls P f vs w fun e w'=> ∃ v O',e= .returned v∧Came O w vs sg rs v O' w':=by
  obtain⟨hok,h⟩:=Jl h
  obtain⟨hok1,hok2⟩:=hok.append
  obtain⟨hnd,hok2⟩:=hok2.cons
  have h255:=hok2.cons.1
  rw[Bool.not_eq_true']at h255
  have hS:=AjY (n:=fn.ntmps) hI hv hl hx hok1 hnd h255
  have hptr: ∀ i,i<sg.Ah.length→BN (sg.Ah.getD i (.agg []))=true→(vs.getD i undef).oneCell'=true:=by
    intro i hi hb
    have hi':i<xs.length:=by rw[hl];exact hi
    have hbk:AA (back (256*i) (sg.Ah.getD i (.agg [])) (xs.getD i .undef)).1:=by
      have key: ∀(ss:List Sh) (j0 i:Nat),i<ss.length→AA (BL 0 256 ss xs j0).1→AA (back (0+256*(j0+i)) (ss.getD i (.agg [])) (xs.getD (j0+i) .undef)).1:=by
        intro ss
        induction ss with
        | nil=>intro j0 i h;simp at h
        | cons s ss ih =>
          intro j0 i h hok
          simp only[BL]at hok
          obtain⟨h1,h2⟩:=hok.append
          cases i with
          | zero=>simpa using h1
          | succ i =>
            have:=ih (j0+1) i (by simpa using h) h2
            rw[show j0+1+i=j0+(i+1)from by omega]at this
            simpa using this
      have:=key sg.Ah 0 i hi hok1
      rw[Nat.zero_add,Nat.zero_add]at this;exact this
    have hir:=hx i hi'
    generalize sg.Ah.getD i (.agg [])=s at hb hbk
    cases s with
    | box ks =>
      simp only[back]at hbk
      have h2:=hbk.cons.2.cons.1
      generalize xs.getD i .undef=x at h2 hir
      cases x with
      | box cs =>
        obtain⟨b,base,h3,_⟩:=hir
        rw[h3];rfl
      | _=>cases h2
    | map kt vt =>
      obtain⟨l,hl',_,_⟩:=Ze (show A.Zd kt vt _=true from hbk.cons.1)
      rw[hl']at hir
      obtain⟨r,_,_,h3,_⟩:=(show FB O w _ _ l from hir)
      rw[h3];rfl
    | _=>cases hb
  refine calls_of_wp hf hb (wp_mono (Aie hC N hdraw code hS h) fun e a' w' hq=> ?_)
  have fin':(∃ O' m' st',Sim (fun o=>vs.getD (o / 256) undef) O w O' m' st' a' w'∧fin st'=some o)→a'.defers=[]∧ ∃ v,(results fn a'.tmps).run P w'= .ok v w'∧ ∃ v' O',Ending.returned v= .returned v'∧Came O w vs sg rs v' O' w':=by
    rintro ⟨O',m',st',hS',hfin⟩
    obtain⟨v,O2,hres,hcame⟩:=AjX (sg:=sg) hC.T hout rfl rfl (by rw[← hl];exact h100) hptr hS' (hrs st' hfin)
    exact⟨hS'.defers,v,hres,v,O2,rfl,hcame⟩
  cases e with
  | normal=>exact fin' hq
  | ret=>exact fin' hq
  | exit id =>
    obtain⟨O',m',st',_,h'⟩:=hq
    cases h'
  | goto l=>exact hq.elim
  | panic ch=>exact hq.elim
  | outgrown=>exact hq.elim
end
end Go.Proofs.YtadefjgbcapakaaGreatDoor.Vm
namespace Go.Proofs.YtadefjgbcapakaaGreatDoor.Vm
open Classical
section
variable {P:Program} {C:Ctx} {V0:Nat→Value} {O0 O:Own} {w0 w:World} {m:Nat→Value} {st:St} {a:Act}
theorem Dq {a b:List Nat} (h:Kq a b=true): ∀ n∈a,n∉b:=by
  intro n hn hb
  have:=List.all_eq_true.1 h n hn
  rw[H7.2 hb]at this;cases this
def lastOf:List (Nat×Obj)→Nat→Option Obj
  | [],_=>none
  | (n,x)::r,k=>match lastOf r k with
    | some y=>some y
    | none=>if n=k then some x else none
theorem qO {u:List (Nat×Obj)} {k:Nat} (h:k∉u.map (·.1)):lastOf u k=none:=by
  induction u with
  | nil=>rfl
  | cons p r ih =>
    obtain⟨n,x⟩:=p
    simp only[List.map_cons,List.mem_cons,not_or]at h
    simp only[lastOf,ih h.2]
    exact if_neg (fun e=>h.1 e.symm)
theorem qB (u:List (Nat×Obj)): ∀(l:List (Nat×Obj)) (k:Nat),Ai (Au l u) k=match lastOf u k with | some x=>some x | none=>Ai l k:=by
  induction u with
  | nil=>intro l k;rfl
  | cons p r ih =>
    obtain⟨n,x⟩:=p
    intro l k
    rw[Au,ih,Bv]
    simp only[lastOf]
    cases lastOf r k with
    | some y=>rfl
    | none =>
      by_cases h:n=k
      ·simp [h]
      ·have:k≠n:=fun e=>h e.symm
       simp [h,this]
theorem KH (st:St) (o:Oper) (δ :Dl) (k:Nat):Ai (apply st o δ).Aa k=match lastOf δ.new k with
    | some x=>some x
    | none=>if k∈ δ.del then none else match lastOf δ.upd k with
      | some x=>some x
      | none=>Ai st.Aa k:=by
  unfold apply
  dsimp only
  rw[qB,JW,qB]
theorem NL {st:St} {o:Oper} {δ :Dl} {k:Nat} (h:k∉ δ.upd.map (·.1)++ δ.del++ δ.new.map (·.1)):Ai (apply st o δ).Aa k=Ai st.Aa k:=by
  simp only[List.mem_append,not_or]at h
  rw[KH,qO h.2,qO h.1.1]
  exact if_neg h.1.2
def Srt:List (Nat×Obj)→Prop:=List.Pairwise (fun p q=>p.1<q.1)
theorem Ajo: ∀ {l:List (Nat×Obj)},sorted l=true→Srt l:=by
  intro l
  induction l with
  | nil=>intro _;exact List.Pairwise.nil
  | cons p r ih =>
    intro h
    cases r with
    | nil=>exact List.pairwise_singleton _ _
    | cons q r =>
      obtain⟨n,x⟩:=p
      obtain⟨k,y⟩:=q
      simp only[sorted,Bool.and_eq_true,Nat.blt_eq]at h
      have hr:=ih h.2
      refine List.Pairwise.cons (fun q hq=> ?_) hr
      rcases List.mem_cons.1 hq with rfl | hq
      ·exact h.1
      ·exact Nat.lt_trans h.1 ((List.pairwise_cons.1 hr).1 q hq)
theorem Srt.IM {l:List (Nat×Obj)} (h:Srt l) (n:Nat):Srt (Vm.IM l n):=by
  induction l with
  | nil=>exact h
  | cons p r ih =>
    obtain⟨k,x⟩:=p
    obtain⟨h1,h2⟩:=List.pairwise_cons.1 h
    rw[fC]
    split
    ·exact ih h2
    ·exact List.Pairwise.cons (fun q hq=>h1 q (vH hq)) (ih h2)
theorem Srt.RX {l:List (Nat×Obj)} (h:Srt l) {n:Nat} (y:Obj) (hn:Ai l n=none):Srt (Vm.RX l n y):=by
  induction l with
  | nil=>exact List.pairwise_singleton _ _
  | cons p r ih =>
    obtain⟨k,x⟩:=p
    obtain⟨h1,h2⟩:=List.pairwise_cons.1 h
    rw[Cm]at hn
    have hkn:k≠n:=fun e=>by rw[if_pos e]at hn;cases hn
    rw[if_neg hkn]at hn
    simp only[Vm.RX]
    cases hle:Nat.ble n k with
    | true =>
      have:=Nat.le_of_ble_eq_true hle
      refine List.Pairwise.cons (fun q hq=> ?_) h
      rcases List.mem_cons.1 hq with rfl | hq
      ·show n<k;omega
      ·have:=h1 q hq
       show n<q.1
       dsimp only at this;omega
    | false =>
      have hlt:k<n:=by
        rcases Nat.lt_or_ge k n with h | h
        ·exact h
        ·rw[Nat.ble_eq_true_of_le h]at hle;cases hle
      refine List.Pairwise.cons (fun q hq=> ?_) (ih h2 hn)
      rcases Aft hq with rfl | hq
      ·exact hlt
      ·exact h1 q hq
theorem Srt.C9 {l:List (Nat×Obj)} (h:Srt l) (n:Nat) (y:Obj):Srt (Vm.C9 l n y):=(h.IM n).RX y (by rw[QX,if_pos rfl])
theorem Srt.Au: ∀(u:List (Nat×Obj)) {l:List (Nat×Obj)},Srt l→Srt (Vm.Au l u):=by
  intro u
  induction u with
  | nil=>intro l h;exact h
  | cons p r ih=>intro l h;obtain⟨n,x⟩:=p;exact ih (h.C9 n x)
theorem Srt.Bl: ∀(u:List Nat) {l:List (Nat×Obj)},Srt l→Srt (Vm.Bl l u):=by
  intro u
  induction u with
  | nil=>intro l h;exact h
  | cons n r ih=>intro l h;exact ih (h.IM n)
theorem Srt.apply {st:St} (h:Srt st.Aa) (o:Oper) (δ :Dl):Srt (Vm.apply st o δ).Aa:=((h.Au δ.upd).Bl δ.del).Au δ.new
theorem Om {n:Nat} {x:Obj} {r:List (Nat×Obj)}:Ai ((n,x)::r) n=some x:=by rw[Cm,if_pos rfl]
theorem lZ {l:List (Nat×Obj)} {k:Nat} (h: ∀ p∈l,k<p.1):Ai l k=none:=by
  cases hx:Ai l k with
  | none=>rfl
  | some x=>exact absurd (h _ (rM hx)) (Nat.lt_irrefl _)
theorem Srt.ext: ∀ {l l':List (Nat×Obj)},Srt l→Srt l'→(∀ k,Ai l k=Ai l' k)→l=l':=by
  intro l
  induction l with
  | nil =>
    intro l' _ _ h
    cases l' with
    | nil=>rfl
    | cons p r=>obtain⟨n,x⟩:=p;have:=h n;rw[Om]at this;cases this
  | cons p r ih =>
    intro l' h1 h2 h
    obtain⟨n,x⟩:=p
    cases l' with
    | nil=>have:=h n;rw[Om]at this;cases this
    | cons q r' =>
      obtain⟨k,y⟩:=q
      obtain⟨a1,a2⟩:=List.pairwise_cons.1 h1
      obtain⟨b1,b2'⟩:=List.pairwise_cons.1 h2
      have hnk:n=k:=by
        rcases Nat.lt_trichotomy n k with hlt | he | hgt
        ·have:=h n
         rw[Om,lZ]at this
         ·cases this
         ·intro p hp
          rcases List.mem_cons.1 hp with rfl | hp
          ·exact hlt
          ·exact Nat.lt_trans hlt (b1 p hp)
        ·exact he
        ·have:=h k
         rw[Om,lZ]at this
         ·cases this
         ·intro p hp
          rcases List.mem_cons.1 hp with rfl | hp
          ·exact hgt
          ·exact Nat.lt_trans hgt (a1 p hp)
      subst hnk
      have hx:=h n
      rw[Om,Om]at hx
      injection hx with hx;subst hx
      rw[ih a2 b2' (fun j=> ?_)]
      by_cases hj:n=j
      ·subst hj;rw[lZ a1,lZ b1]
      ·have:=h j
       rw[Cm,Cm,if_neg hj,if_neg hj]at this;exact this
theorem put_comm (tmps:List A) {d e:Option Tmp} (x y:A) (h: ∀ t,d=some t→e≠some t):put (put tmps d x) e y=put (put tmps e y) d x:=by
  cases d with
  | none=>rfl
  | some d =>
    cases e with
    | none=>rfl
    | some e =>
      have:d≠e:=fun he=>h d rfl (by rw[he])
      exact List.set_comm _ _ this
theorem Ah7 (tmps:List A) {d:Option Tmp} (x:A) {t:Nat} (h:d≠some t):(put tmps d x).getD t .undef=tmps.getD t .undef:=by
  cases d with
  | none=>rfl
  | some d =>
    have:d≠t:=fun e=>h (by rw[e])
    simp [put,List.getD_eq_getElem?_getD,List.getElem?_set,this]
theorem TU {o:Oper} {t:Nat}:t∈QE o↔o.dst=some t:=by
  unfold QE
  cases o.dst with
  | none=>simp
  | some d=>simp [eq_comm]
theorem AeH {ops:List Oper} {o:Oper} {tmps:List A} {d:Option Tmp} {v:A} (h: ∀ t,d=some t→t∉slotsOf ops o) {x:Operand} (hx:x∈o.op.operands):BV (put tmps d v) x=BV tmps x:=by
  cases x with
  | tmp t =>
    refine Ah7 tmps v fun hd=>h t hd ?_
    exact List.mem_append_left _ (List.mem_filterMap.2 ⟨.tmp t,by simpa using hx,rfl⟩)
  | _=>rfl
theorem Acf {ops:List Oper} {o:Oper} {tmps:List A} {d:Option Tmp} {v:A} (h: ∀ t,d=some t→t∉slotsOf ops o):guardOf ops (put tmps d v) o.guard=guardOf ops tmps o.guard:=by
  cases hg:o.guard with
  | none=>rfl
  | some p =>
    obtain⟨j,want⟩:=p
    unfold guardOf
    dsimp only
    cases hj:ops[j]? with
    | none=>rfl
    | some oj =>
      dsimp only
      cases hd:oj.dst with
      | none=>rfl
      | some t =>
        dsimp only
        rw[Ah7 tmps v (t:=t) (fun hd'=>h t hd' (by
          unfold slotsOf
          refine List.mem_append_right _ ?_
          rw[hg];dsimp only;rw[hj];dsimp only;rw[hd];simp))]
theorem qJ {Aa objs':List (Nat×Obj)}: ∀(l:List Nat),(∀ n∈l,Ai Aa n=Ai objs' n)→fetch Aa l=fetch objs' l:=by
  intro l
  induction l with
  | nil=>intro _;rfl
  | cons n r ih =>
    intro h
    simp only[fetch]
    rw[h n List.mem_cons_self,ih (fun k hk=>h k (List.mem_cons_of_mem _ hk))]
theorem Aez {op:Op} (h:mD op=true):(∃ x,op= .move x)∨ ∃ x,op= .assign x:=by
  cases op<;>first | exact .inl ⟨_,rfl⟩ | exact .inr ⟨_,rfl⟩ | exact absurd h (by decide) | (unfold mD at h;cases h)
theorem Aao {ops:List Oper} {o:Oper} {s1 s2:St} (hE: ∀ x∈o.op.operands,BV s2.tmps x=BV s1.tmps x) (hG:guardOf ops s2.tmps o.guard=guardOf ops s1.tmps o.guard)
    (hF: ∀ n∈Hz o s1 (FQ o s1),Ai s2.Aa n=Ai s1.Aa n) (h1: ∀ n∈(BK C ops o s1).new.map (·.1),s1.fresh n=true) (h2: ∀ n∈(BK C ops o s1).new.map (·.1),s2.fresh n=true) :
    BK C ops o s2=BK C ops o s1∧Hz o s2 (FQ o s2)=Hz o s1 (FQ o s1):=by
  have hmap:o.op.operands.toList.map (BV s2.tmps)=o.op.operands.toList.map (BV s1.tmps):=List.map_congr_left fun x hx=>hE x (by simpa using hx)
  have hvs:FQ o s2=FQ o s1:=by unfold FQ;rw[hmap]
  have key:((∀ w,opX C o (FQ o s1) (Ci s2 w)=opX C o (FQ o s1) (Ci s1 w))∧(∀ f,(opX C o (FQ o s1) f).upd=[])∧Hz o s2 (FQ o s1)=Hz o s1 (FQ o s1))∨(Ci s2 (FQ o s1)=Ci s1 (FQ o s1)∧Hz o s2 (FQ o s1)=Hz o s1 (FQ o s1)):=by
    unfold Hz at hF ⊢
    cases hm:mD o.op with
    | true =>
      have hu: ∀(v:List A),(a1 (fun a=>.v a) v).upd=[]:=fun v=>by
        cases v with
        | nil=>rfl
        | cons x r=>cases r<;>rfl
      rcases Aez hm with ⟨x,e⟩ | ⟨x,e⟩
      ·exact .inl ⟨fun w=>by unfold opX;rw[e],fun f=>by unfold opX;rw[e];exact hu _,rfl⟩
      ·exact .inl ⟨fun w=>by unfold opX;rw[e],fun f=>by unfold opX;rw[e];exact hu _,rfl⟩
    | false =>
      rw[hm]at hF
      have e1:fetch s2.Aa ((FQ o s1).flatMap A.ids)=fetch s1.Aa ((FQ o s1).flatMap A.ids):=qJ _ (fun n hn=>hF n (List.mem_append_left _ hn))
      refine .inr ⟨?_,by show(_++_:List Nat)=_;rw[e1];rfl⟩
      unfold Ci
      dsimp only
      rw[e1,qJ _ (fun n hn=>hF n (List.mem_append_right _ hn))]
  have hop:opX C o (FQ o s1) (Ci s2 (FQ o s1))=opX C o (FQ o s1) (Ci s1 (FQ o s1)):=by
    rcases key with h | h
    ·exact h.1 _
    ·rw[h.1]
  refine⟨?_,by rw[hvs];rcases key with h | h;exact h.2.2;exact h.2⟩
  unfold BK at h1 h2 ⊢
  rw[hG,hmap]
  have hfa':opX C o (Ce o.op (o.op.operands.toList.map (BV s1.tmps))).2 (Ci s2 (Ce o.op (o.op.operands.toList.map (BV s1.tmps))).2)=opX C o (Ce o.op (o.op.operands.toList.map (BV s1.tmps))).2 (Ci s1 (Ce o.op (o.op.operands.toList.map (BV s1.tmps))).2):=hop
  cases hg:guardOf ops s1.tmps o.guard with
  | none=>rfl
  | some r =>
    cases r with
    | some g =>
      dsimp only
      rcases key with h | h
      ·have hu:=h.2.1 (Ci s1 (FQ o s1))
       rw[hfa']
       have hu':(opX C o (Ce o.op (o.op.operands.toList.map (BV s1.tmps))).2 (Ci s1 (Ce o.op (o.op.operands.toList.map (BV s1.tmps))).2)).upd=[]:=hu
       simp only[hu',List.map_nil]
      ·have h1':Ci s2 (Ce o.op (o.op.operands.toList.map (BV s1.tmps))).2=Ci s1 (Ce o.op (o.op.operands.toList.map (BV s1.tmps))).2:=h.1
       rw[h1']
    | none =>
      rw[hg]at h1 h2
      dsimp only at h1 h2 ⊢
      rw[hfa']
      generalize opX C o (Ce o.op (o.op.operands.toList.map (BV s1.tmps))).2 (Ci s1 (Ce o.op (o.op.operands.toList.map (BV s1.tmps))).2)= δ at *
      have a1: δ.new.all (fun p=>s1.fresh p.1)=true:=List.all_eq_true.2 fun p hp=>h1 p.1 (List.mem_map.2 ⟨p,hp,rfl⟩)
      have a2: δ.new.all (fun p=>s2.fresh p.1)=true:=List.all_eq_true.2 fun p hp=>h2 p.1 (List.mem_map.2 ⟨p,hp,rfl⟩)
      rw[a1,a2]
end
