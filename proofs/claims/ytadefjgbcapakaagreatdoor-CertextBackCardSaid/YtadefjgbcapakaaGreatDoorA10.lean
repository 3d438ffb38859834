import Derived.Test.YtadefjgbcapakaaGreatDoorA9
import Derived.Orders
set_option linter.all false
namespace Go.Proofs.YtadefjgbcapakaaGreatDoor.Vm
open Classical
def KT:Sh->Sh
  | .box ks=>.box ks
  | .map kt vt=>.map kt vt
  | .clo _ ks=>.box ks
  | _=>.cell false .bool
def An4:Sh->Nat->A
  | .box _,i=>.ptr (256*i) 0
  | .map _ _,i=>.own (256*i)
  | .clo _ _,i=>.ptr (256*i) 0
  | _,_=>.bool true
def Ji:List Sh->Nat->List A
  | [],_=>[]
  | s::ss,i=>An4 s i::Ji ss (i+1)
def unbox:A->A
  | .box cs=>.agg cs
  | a=>a
def kU (Af:List Sh) (xs:List A) (n:Nat):St:= {tmps:=(BN 0 256 Af xs 0).2.1++List.replicate (n - Af.length) .undef,Aa:=Ap [] (BN 0 256 Af xs 0).2.2}
def sZ (C:Ctx) (st:St) (q:Nat×Option Nat):List Bool×A :=
  match q.2 with
  | none=>([Nat.blt q.1 st.tmps.length],st.tmps.getD q.1 .undef)
  | some ty=>match VR C st.Aa ty (st.tmps.getD q.1 .undef)with
    | δ =>(Nat.blt q.1 st.tmps.length:: δ.ok,δ.val)
def IQ (C:Ctx) (outs:List (Nat×Option Nat)) (st:St):List A:=outs.map (fun q=>(sZ C st q).2)
def finish (C:Ctx) (Af A7:List Sh) (outs:List (Nat×Option Nat)) (st:St):Option (List A) :=
  allT ((AY st.Aa A7 (IQ C outs st)).1++(AY st.Aa (Af.map KT) (Ji Af 0)).1 ++
      [nodup ((EF st.Aa 256000 256 A7 (IQ C outs st)++EF st.Aa 0 256 (Af.map KT) (Ji Af 0)).map (·.1))]++outs.flatMap (fun q=>(sZ C st q).1))
    (some ((AY st.Aa A7 (IQ C outs st)).2.1++(CU Af 0).map (fun i=>unbox ((AY st.Aa (Af.map KT) (Ji Af 0)).2.1.getD i .undef))))
def runK {ρ :Type} (C:Ctx) (N:Nat) (Af:List Sh) (n:Nat) (code:Code) (fin:St->Option ρ) (xs:List A):Option ρ :=
  allT ((BN 0 256 Af xs 0).1++[nodup ((BN 0 256 Af xs 0).2.2.map (·.1)),!(has ((BN 0 256 Af xs 0).2.2.map (·.1)) 255)])
    (exec C N fin code (kU Af xs n) fun
      | .normal,st=>fin st
      | .exit _,_=>none)
section
variable {P:Program} {C:Ctx} {V0:Nat->Value} {O0 O:Own} {w0 w:World} {m:Nat->Value} {st:St} {a:Act}
theorem LU {id:Nat}: ∀(ks:List (Bool×CK)) (cs:List A) (j0:Nat),∀ p∈(Bd id ks cs j0).2.2,∃ x,p.1=id+x/\x<j0+ks.length:=by
  intro ks
  induction ks with
  | nil=>intro cs j0 p hp;simp [Bd]at hp
  | cons k ks ih =>
    intro cs j0 p hp
    have step:p∈(Bd id ks cs (j0+1)).2.2-> ∃ x,p.1=id+x/\x<j0+(k::ks).length:=by
      intro h
      obtain⟨x,h1,h2⟩:=ih cs (j0+1) p h
      exact⟨x,h1,by simp only[List.length_cons];omega⟩
    obtain⟨u,k⟩:=k
    cases u with
    | false=>exact step hp
    | true =>
      cases k with
      | sl e sz =>
        simp only[Bd]at hp
        rcases List.mem_cons.1 hp with rfl | hp
        ·exact⟨j0,rfl,by simp⟩
        ·exact step hp
      | _=>simp [Bd]at hp
theorem Ajk {id:Nat} {s:Sh} {x:A} (hok:Ar (back id s x).1): ∀ p∈(back id s x).2.2,∃ i,p.1=id+i/\i<255:=by
  intro p hp
  cases s with
  | cell u k =>
    obtain⟨i,h1,h2⟩:=LU _ _ _ p hp
    exact⟨i,h1,by simp at h2;omega⟩
  | agg ks =>
    simp only[back]at hok hp
    have:=Nat.le_of_ble_eq_true hok.cons.1
    obtain⟨i,h1,h2⟩:=LU _ _ _ p hp
    exact⟨1+i,by omega,by omega⟩
  | box ks =>
    simp only[back]at hok hp
    have:=Nat.le_of_ble_eq_true hok.cons.1
    rcases List.mem_cons.1 hp with rfl | hp
    ·exact⟨0,rfl,by omega⟩
    ·obtain⟨i,h1,h2⟩:=LU _ _ _ p hp
     exact⟨1+i,by omega,by omega⟩
  | clo f' ks =>
    simp only[back]at hok hp
    have:=Nat.le_of_ble_eq_true hok.cons.1
    rcases List.mem_cons.1 hp with rfl | hp
    ·exact⟨0,rfl,by omega⟩
    ·obtain⟨i,h1,h2⟩:=LU _ _ _ p hp
     exact⟨1+i,by omega,by omega⟩
  | map kt vt =>
    obtain rfl:p=(id,.mp x.toM):=by simpa [back]using hp
    exact⟨0,rfl,by omega⟩
theorem AgY {f:Nat->Value}: ∀(ss:List Sh) (rs:List A) (j0:Nat),Ar (BN 0 256 ss rs j0).1-> ∀ p∈OA w f 0 256 ss rs j0,p.2=ER w (f (p.1 / 256)) (p.1 % 256):=by
  intro ss
  induction ss with
  | nil=>intro rs j0 _ p hp;simp [OA]at hp
  | cons s ss ih =>
    intro rs j0 hok p hp
    simp only[BN]at hok
    obtain⟨h1,h2⟩:=hok.append
    simp only[OA]at hp
    rcases List.mem_append.1 hp with hp | hp
    ·obtain⟨q,hq,rfl⟩:=List.mem_map.1 hp
     obtain⟨i,h3,h4⟩:=Ajk h1 q hq
     dsimp only
     rw[h3]
     have e1:(0+256*j0+i) / 256=j0:=by omega
     have e2:(0+256*j0+i) % 256=i:=by omega
     rw[e1,e2,Nat.add_sub_cancel_left]
    ·exact ih rs (j0+1) h2 p hp
theorem AjC {Af:List Sh} {xs:List A} {n:Nat} {vs:Array Value} (hI:Inv O w) (hv:vs.size=xs.length) (hl:xs.length=Af.length) (h: ∀ j,j<xs.length->IR O w (256*j) (vs.getD j undef) (xs.getD j .undef))
    (hok:Ar (BN 0 256 Af xs 0).1) (hnd:nodup ((BN 0 256 Af xs 0).2.2.map (·.1))=true) (h255:has ((BN 0 256 Af xs 0).2.2.map (·.1)) 255=false) :
    Sim (fun o=>innerS w (Af.getD (o / 256) (.agg [])) (vs.getD (o / 256) undef)) O w O (fun o=>ER w (innerS w (Af.getD (o / 256) (.agg [])) (vs.getD (o / 256) undef)) (o % 256)) (kU Af xs n) {tmps:=vs++Array.replicate (n - vs.size) undef,defers:=[]} w:=by
  have hmem: ∀ o x,Ah (Ap [] (BN 0 256 Af xs 0).2.2) o=some x->(o,x)∈(BN 0 256 Af xs 0).2.2:=by
    intro o x hx
    rcases Tq _ (oZ hx)with h | h
    ·exact h
    ·cases h
  have hget: ∀ p∈(BN 0 256 Af xs 0).2.2,Ah (Ap [] (BN 0 256 Af xs 0).2.2) p.1=some p.2:=fun p hp=>YH (Aa:=[]) (upd:=[]) (del:=[]) hnd (o:=p.1) (x:=p.2) hp
  obtain⟨r1,r2,r3⟩:=uT (Oc:=O) (O':=O) (w:=w) (objs':=Ap [] (BN 0 256 Af xs 0).2.2) (m':=fun o=>ER w (innerS w (Af.getD (o / 256) (.agg [])) (vs.getD (o / 256) undef)) (o % 256)) (cid:=0) (cst:=256) (id:=0) (stride:=256) (f:=fun j=>vs.getD j undef) (g:=fun j=>innerS w (Af.getD j (.agg [])) (vs.getD j undef)) (rs:=xs)
    (fun _ _ _ h hc=>⟨h,hc⟩) (fun _ _ h=>h) Af 0 (fun j _=>by rw[Nat.zero_add]) (fun j hj=>by rw[Nat.zero_add,Nat.zero_add];exact h j (by rw[hl];exact hj)) (fun j _ b k i _ hb=>hb) hok hget
    (fun p hp=>(AgY Af xs 0 hok p hp).symm)
  refine⟨rfl,?_,fun t ht=> ?_,fun o x hx=>r3 _ (hmem o x hx),Moves.refl O _ w,fun b k o _ ho hne=>⟨o,ho,hne⟩,fun o x hx e=> ?_,fun b k _ h=>h,fun o hr _=> ?_,fun b k _ h=>h,hI⟩
  ·simp [kU,r1,hv,hl]
  ·show Au O _ _ w (((vs++Array.replicate (n - vs.size) undef).getD t undef)) (((BN 0 256 Af xs 0).2.1++List.replicate (n - Af.length) A.undef).getD t .undef)
   rcases Nat.lt_or_ge t Af.length with htl | htl
   ·have e1:((BN 0 256 Af xs 0).2.1++List.replicate (n - Af.length) A.undef).getD t .undef=(BN 0 256 Af xs 0).2.1.getD t .undef:=by
      simp [List.getD_eq_getElem?_getD,List.getElem?_append_left,r1,htl]
    have e2:(vs++Array.replicate (n - vs.size) undef).getD t undef=vs.getD t undef:=by
      have:t<vs.size:=by rw[hv,hl];exact htl
      simp [Array.getD_eq_getD_getElem?,Array.getElem?_append_left,this]
    rw[e1,e2]
    have:=(r2 t htl).1
    rw[Nat.zero_add]at this;exact this
   ·have e1:((BN 0 256 Af xs 0).2.1++List.replicate (n - Af.length) A.undef).getD t .undef= .undef:=by
      rw[List.getD_eq_getElem?_getD,List.getElem?_append_right (by rw[r1];exact htl),List.getElem?_replicate]
      split<;>rfl
    rw[e1];trivial
  ·subst e
   have:=hmem _ x hx
   have h':has ((BN 0 256 Af xs 0).2.2.map (·.1)) 255=true:=I8.2 (List.mem_map.2 ⟨_,this,rfl⟩)
   rw[h']at h255;cases h255
  ·unfold PL at hr
   rw[Bool.and_eq_true]at hr
   have:=Nat.eq_of_beq_eq_true hr.2
   rw[this];rfl
theorem Aeb {fet:Fet}: ∀(ss:List Sh) (xs:List A),Ar (AY fet ss xs).1-> ∀ i s,ss[i]? =some s->BH s=true->yR (unbox ((AY fet ss xs).2.1.getD i .undef))=(AY fet ss xs).2.1.getD i .undef:=by
  intro ss
  induction ss with
  | nil=>intro xs _ i s h;simp at h
  | cons s ss ih =>
    intro xs hok i s' h hb
    cases xs with
    | nil=>have:=hok false (by simp [AY]);cases this
    | cons x xs =>
      simp only[AY]at hok ⊢
      obtain⟨h1,h2⟩:=hok.append
      cases i with
      | zero =>
        simp at h;subst h
        cases s with
        | cell _ _=>cases hb
        | agg _=>cases hb
        | map kt vt =>
          cases x with
          | own q =>
            unfold Bc at h1 ⊢
            dsimp only at h1 ⊢
            cases hg:Ah fet q with
            | none=>rw[hg]at h1;have:=h1 false (by simp);cases this
            | some y =>
              cases y with
              | mp l=>rfl
              | _=>rw[hg]at h1;have:=h1 false (by simp);cases this
          | _=>have:=h1 false (by simp [Bc]);cases this
        | box ks =>
          cases x with
          | ptr q off =>
            unfold Bc at h1 ⊢
            dsimp only at h1 ⊢
            cases hb:FH fet q with
            | none=>rw[hb]at h1;have:=h1 false (by simp);cases this
            | some cs=>rfl
          | _=>have:=h1 false (by simp [Bc]);cases this
        | clo f' ks =>
          cases x with
          | clo g q =>
            unfold Bc at h1 ⊢
            dsimp only at h1 ⊢
            cases hb:FH fet q with
            | none=>rw[hb]at h1;have:=h1 false (by simp);cases this
            | some cs=>rfl
          | _=>have:=h1 false (by simp [Bc]);cases this
      | succ i=>simpa using ih xs h2 i s' (by simpa using h) hb
theorem Ahg: ∀(ss:List Sh) (i0 j i:Nat),(CU ss i0)[j]? =some i-> ∃ r s,i=i0+r/\ss[r]? =some s/\BH s=true:=by
  intro ss
  induction ss with
  | nil=>intro i0 j i h;simp [CU]at h
  | cons s ss ih =>
    intro i0 j i h
    have step: ∀ j':Nat,(CU ss (i0+1))[j']? =some i-> ∃ r s',i=i0+r/\(s::ss)[r]? =some s'/\BH s'=true:=by
      intro j' h'
      obtain⟨r,s',h1,h2,h3⟩:=ih (i0+1) j' i h'
      exact⟨r+1,s',by omega,by simpa using h2,h3⟩
    simp only[CU]at h
    cases s with
    | box ks =>
      simp only[BH,cond_true]at h
      cases j with
      | zero=>simp at h;exact⟨0,_,by omega,rfl,rfl⟩
      | succ j=>exact step j (by simpa using h)
    | clo f' ks =>
      simp only[BH,cond_true]at h
      cases j with
      | zero=>simp at h;exact⟨0,_,by omega,rfl,rfl⟩
      | succ j=>exact step j (by simpa using h)
    | map kt vt =>
      simp only[BH,cond_true]at h
      cases j with
      | zero=>simp at h;exact⟨0,_,by omega,rfl,rfl⟩
      | succ j=>exact step j (by simpa using h)
    | cell u k=>simp only[BH,cond_false]at h;exact step j h
    | agg ks=>simp only[BH,cond_false]at h;exact step j h
theorem Ae1: ∀(ss:List Sh) (i0:Nat),(Ji ss i0).length=ss.length:=by
  intro ss
  induction ss with
  | nil=>intro i0;rfl
  | cons s ss ih=>intro i0;simp [Ji,ih]
theorem Aif: ∀(ss:List Sh) (i0 j:Nat),j<ss.length->(Ji ss i0).getD j .undef=An4 (ss.getD j (.agg [])) (i0+j):=by
  intro ss
  induction ss with
  | nil=>intro i0 j h;simp at h
  | cons s ss ih =>
    intro i0 j h
    cases j with
    | zero =>
      simp only[Ji,List.getD_cons_zero,Nat.add_zero]
    | succ j =>
      have:=ih (i0+1) j (by simpa using h)
      rw[show i0+1+j=i0+(j+1)from by omega]at this
      simpa [Ji]using this
end
end Go.Proofs.YtadefjgbcapakaaGreatDoor.Vm
namespace Go.Proofs.YtadefjgbcapakaaGreatDoor.Vm
open Classical
def rv:Nat×Option Nat->ResultVar
  | (t,none)=>.tmp t
  | (a,some ty)=>.cell a ty
def yQ (tmps:Array Value):ResultVar->Sem Value
  | .tmp t=>pure (tmps.getD t undef)
  | .cell a t=>do loadVar t (<- asAddr (tmps.getD a undef))
theorem Am4 {P:Program} {w:World} {α :Type} {g: α ->Sem Value}: ∀(l:List α) (f:Nat->Value),(∀(j:Nat) (x: α),l[j]? =some x->(g x).run P w= .ok (f j) w)->(l.mapM g).run P w= .ok ((List.range l.length).map f) w:=by
  intro l
  induction l with
  | nil=>intro f _;simp
  | cons x r ih =>
    intro f h
    have h1:=ih (fun j=>f (j+1)) (fun j y hy=>h (j+1) y (by simpa using hy))
    have h2:=h 0 x rfl
    rw[List.mapM_cons]
    simp only[Sem.run_bind,h2,Result.andThen_ok,h1,Sem.run_pure,List.length_cons,List.range_succ_eq_map,List.map_cons,List.map_map]
    rfl
def Afl (us:Array Value):Value:=if h:us.size=1 then us[0]else .tuple us
theorem Aga {P:Program} {w:World} {fn:Func} {outs:List (Nat×Option Nat)} {tmps:Array Value} (h:fn.results=(outs.map rv).toArray) (f:Nat->Value) (hf: ∀(j:Nat) (q:Nat×Option Nat),outs[j]? =some q->(yQ tmps (rv q)).run P w= .ok (f j) w) :
    (results fn tmps).run P w= .ok (Afl ((List.range outs.length).map f).toArray) w:=by
  have e:results fn tmps=(do let vs <- fn.results.mapM (yQ tmps);pure (Afl vs)):=by
    have e0:yQ tmps=(fun | .tmp t=>pure (tmps.getD t undef) | .cell a t=>do loadVar t (<- asAddr (tmps.getD a undef))):=by
      funext x;cases x<;>rfl
    unfold results Afl
    rw[e0]
    rfl
  rw[e,h,List.mapM_toArray]
  have:=Am4 (P:=P) (w:=w) (g:=yQ tmps) (outs.map rv) f (fun j x hx=>by
    rw[List.getElem?_map]at hx
    cases hq:outs[j]? with
    | none=>rw[hq]at hx;cases hx
    | some q=>rw[hq]at hx;injection hx with hx;rw[<- hx];exact hf j q hq)
  rw[List.length_map]at this
  simp only[map_eq_pure_bind,bind_assoc,pure_bind,Sem.run_bind,Sem.run_pure,this,Result.andThen_ok]
section
variable {P:Program} {C:Ctx} {V0:Nat->Value} {O0 O:Own} {w0 w:World} {m:Nat->Value} {st:St} {a:Act}
theorem AiF {Af:List Sh} {i:Nat} {s:Sh} (h:Af[i]? =some s) (hb:BH s=true):(Af.map KT)[i]? =some (KT s)/\BH (KT s)=true/\BH (Af.getD i (.agg []))=true/\i<Af.length:=by
  have hi:i<Af.length:=by
    rcases Nat.lt_or_ge i Af.length with h' | h'
    ·exact h'
    ·rw[List.getElem?_eq_none h']at h;cases h
  refine⟨(by rw[List.getElem?_map,h];rfl),(by cases s<;>first | rfl | (cases hb;done)),?_,hi⟩
  rw[List.getD_eq_getElem?_getD,h];exact hb
theorem AjB {Af A7:List Sh} {outs:List (Nat×Option Nat)} {rs:List A} {vs:Array Value} {sg:Sig} {fn:Func} (hC:TOk P C) (hfn:fn.results=(outs.map rv).toArray) (hp:sg.Af=Af) (hr:sg.A7=A7) (h100:Af.length<=100)
    (hptr: ∀ i,i<Af.length->BH (Af.getD i (.agg []))=true->(innerS w0 (Af.getD i (.agg [])) (vs.getD i undef)).oneCell'=true)
    (hS:Sim (fun o=>innerS w0 (Af.getD (o / 256) (.agg [])) (vs.getD (o / 256) undef)) O0 w0 O m st a w) (h:finish C Af A7 outs st=some rs) :
    ∃ v O',(results fn a.tmps).run P w= .ok v w/\Came O0 w0 vs sg rs v O' w:=by
  obtain⟨hok,hrs⟩:=La h
  injection hrs with hrs
  obtain⟨hokA,hokO⟩:=hok.append
  obtain⟨hokA,hokB⟩:=hokA.append
  obtain⟨hok1,hok2⟩:=hokA.append
  have hnd:=hokB.cons.1
  have hf:H8 st.Aa st.Aa:=fun _ _ h=>h
  generalize hN:EF st.Aa 256000 256 A7 (IQ C outs st)++EF st.Aa 0 256 (Af.map KT) (Ji Af 0)=N at *
  have hout: ∀ j:Nat,∃ u:Value,∀ q,outs[j]? =some q->(yQ a.tmps (rv q)).run P w= .ok u w/\Au O st.Aa m w u (sZ C st q).2:=by
    intro j
    cases hj:outs[j]? with
    | none=>exact⟨undef,fun q hq=>by cases hq⟩
    | some q =>
      have hqok:Ar (sZ C st q).1:=fun b hb=>hokO b (List.mem_flatMap.2 ⟨q,List.mem_of_getElem? hj,hb⟩)
      obtain⟨t,ty⟩:=q
      cases ty with
      | none =>
        have hlt:=hqok.cons.1
        rw[Nat.blt_eq]at hlt
        exact⟨a.tmps.getD t undef,fun q hq=>by injection hq with hq;subst hq;exact⟨rfl,hS.tmps t hlt⟩⟩
      | some ty =>
        have hq2:Ar (Nat.blt t st.tmps.length::(VR C st.Aa ty (st.tmps.getD t .undef)).ok):=hqok
        obtain⟨hlt,hld⟩:=hq2.cons
        rw[Nat.blt_eq]at hlt
        obtain⟨u,hu1,hu2⟩:=(AbF (o:= {(default:Oper)with op:=.load ty (.tmp t)}) hC (fun q x hq=>⟨hq,hS.Aa q x hq⟩) rfl (rC hS (.tmp t)) hld).run
        refine⟨u,fun q hq=> ?_⟩
        injection hq with hq;subst hq
        refine⟨?_,hu2⟩
        have hev:a.eval (.tmp t)=a.tmps.getD t undef:=by simp [Act.eval]
        simp only[execOp,Instr.loadAt,hev]at hu1
        show(do loadVar ty (<- asAddr (a.tmps.getD t undef)):Sem Value).run P w=_
        generalize a.tmps.getD t undef=z at hu1 ⊢
        cases z with
        | pointer p =>
          cases p with
          | none=>simp [Instr.sureAddr]at hu1
          | some ad =>
            simp only[asAddr,Sem.run_bind,Sem.run_pure,Result.andThen_ok]
            simp only[Instr.sureAddr,pure_bind,Sem.run_bind,Sem.run_pure]at hu1
            cases hl:(loadVar ty ad).run P w with
            | ok x w2 =>
              rw[hl]at hu1
              simp only[Result.andThen_ok,Sem.run_pure,Result.ok.injEq,Next.value.injEq]at hu1
              rw[hu1.1,hu1.2]
            | halt x w2=>rw[hl]at hu1;simp [Result.andThen]at hu1
        | _=>simp [Instr.sureAddr]at hu1
  obtain⟨fv,hfv⟩:=Classical.axiomOfChoice hout
  obtain⟨g1,g2,g3,_,g5⟩:=RX hf hS.Aa 256 A7 (IQ C outs st) 256000 fv (fun j hj=>by
    have hj':j<outs.length:=by simpa [IQ]using hj
    have e:(IQ C outs st).getD j .undef=(sZ C st outs[j]).2:=by
      simp [IQ,List.getD_eq_getElem?_getD,hj']
    rw[e];exact(hfv j _ (List.getElem?_eq_getElem hj')).2) hok1
  have hmaskl:(Af.map KT).length=Af.length:=by simp
  obtain⟨k1,k2,k3,_,k5⟩:=RX hf hS.Aa 256 (Af.map KT) (Ji Af 0) 0 (fun j=>if BH (Af.getD j (.agg []))then innerS w0 (Af.getD j (.agg [])) (vs.getD j undef)else .bool true) (fun j hj=>by
    have hj':j<Af.length:=by rw[Ae1]at hj;exact hj
    rw[Aif Af 0 j hj',Nat.zero_add]
    have hroot:PL (256*j)=true:=by
      unfold PL
      rw[Bool.and_eq_true,Nat.blt_eq]
      refine⟨by omega,?_⟩
      rw[Nat.mul_mod_right];rfl
    have hrt: ∀ x,Ah st.Aa (256*j)=some x->m (256*j)=innerS w0 (Af.getD j (.agg [])) (vs.getD j undef):=fun x hx=>by
      have:=hS.root (256*j) hroot (by rw[hx];rfl)
      rw[Nat.mul_div_cancel_left j (by decide)]at this
      exact this
    have hp:=hptr j hj'
    generalize Af.getD j (.agg [])=s at hp hrt ⊢
    cases s with
    | box ks =>
      rw[if_pos (show BH (Sh.box ks)=true from rfl)]
      refine⟨hp rfl,?_⟩
      cases hx:Ah st.Aa (256*j)with
      | none=>trivial
      | some x =>
        cases x with
        | arr _ _ _=>trivial
        | mp _=>trivial
        | box cs =>
          obtain⟨b,base,h1,_⟩:=hS.Aa _ _ hx
          exact⟨b,base,h1,by rw[<- hrt _ hx,h1];rfl⟩
    | clo f' ks =>
      rw[if_pos (show BH (Sh.clo f' ks)=true from rfl)]
      refine⟨hp rfl,?_⟩
      cases hx:Ah st.Aa (256*j)with
      | none=>trivial
      | some x =>
        cases x with
        | arr _ _ _=>trivial
        | mp _=>trivial
        | box cs =>
          obtain⟨b,base,h1,_⟩:=hS.Aa _ _ hx
          exact⟨b,base,h1,by rw[<- hrt _ hx,h1];rfl⟩
    | map kt vt =>
      rw[if_pos (show BH (Sh.map kt vt)=true from rfl)]
      refine⟨hp rfl,?_⟩
      cases hx:Ah st.Aa (256*j)with
      | none=>trivial
      | some x =>
        cases x with
        | box _=>trivial
        | arr _ _ _=>exact(hrt _ hx).symm
        | mp _=>exact(hrt _ hx).symm
    | cell u k=>rw[if_neg (show ¬ BH (Sh.cell u k)=true from fun h=>by cases h)];exact Ai.bool true
    | agg ks=>rw[if_neg (show ¬ BH (Sh.agg ks)=true from fun h=>by cases h)];exact Ai.bool true) hok2
  obtain⟨O1,hS1,hp1,_,hv1,_,hk1⟩:=hS.freezes _ (g3.append k3)
  have hρ : ∀ p∈N,look N p.1=some p.2:=Aew hnd
  have halive: ∀ p∈N,(Ah st.Aa p.1).isSome:=by
    intro p hp'
    rw[<- hN]at hp'
    rcases List.mem_append.1 hp' with hp' | hp'
    ·exact Si _ _ _ hok1 p hp'
    ·exact Si _ _ _ hok2 p hp'
  generalize hU:(AY st.Aa A7 (IQ C outs st)).2.2.1++(AY st.Aa (Af.map KT) (Ji Af 0)).2.2.1=U at *
  have hFU:Frz st.Aa U:=by rw[<- hU];exact g3.append k3
  have hupdO: ∀ p∈U,Dx O1 (Ap st.Aa U) m w p.1 p.2:=by
    intro p hp
    obtain⟨x,hx1,hx2⟩:=Fh U st.Aa p.1 ⟨p,hp,rfl⟩
    obtain⟨e,fz,l,k1,k2⟩:=hFU p hp
    obtain⟨e',fz',l',k3,k4⟩:=hFU _ hx1
    dsimp only at k3 k4
    rw[k1]at k3
    injection k3 with k3;injection k3 with q1 q2 q3
    subst q1;subst q3
    rw[k2,<- k4]
    exact hS1.Aa p.1 x hx2
  have hR:=g5 (ρ :=look N) hp1 (fun p hp=>hv1 p (by rw[<- hU];exact List.mem_append_left _ hp)) (fun p hp=>hupdO p (by rw[<- hU];exact List.mem_append_left _ hp)) hk1 (fun p hp=>hρ p (by rw[<- hN];exact List.mem_append_left _ hp))
  have hB:=k5 (ρ :=look N) hp1 (fun p hp=>hv1 p (by rw[<- hU];exact List.mem_append_right _ hp)) (fun p hp=>hupdO p (by rw[<- hU];exact List.mem_append_right _ hp)) hk1 (fun p hp=>hρ p (by rw[<- hN];exact List.mem_append_right _ hp))
  have hol:outs.length=A7.length:=by rw[<- g2];simp [IQ]
  refine⟨_,Gw O1 (look N),Aga hfn fv (fun j q hq=>(hfv j q hq).1),hS1.frame,fun b k hb hne=>hS1.less b k hb (fun e=>hne (PI.2 e)),fun b k hb hj=> ?_,?_,?_,?_⟩
  ·have:=hS1.Xf b k hb hj
   unfold Gw
   rw[this]
   dsimp only
   cases hl:look N 255 with
   | none=>rfl
   | some i =>
     have h1:=halive _ (jA hl)
     obtain⟨x,hx⟩:=Option.isSome_iff_exists.1 h1
     exact absurd rfl (hS.ids 255 x hx)
  ·rw[<- hrs,hp,hr];simp [g1]
  ·refine⟨((List.range outs.length).map fv).toArray,by rw[hr];simp [hol],rfl,fun k hk=> ?_⟩
   have hk':k<outs.length:=by simpa using hk
   have hus:(((List.range outs.length).map fv).toArray).getD k undef=fv k:=by
     simp [Array.getD_eq_getD_getElem?,hk']
   rw[hus]
   have:=hR k (by rw[<- hol];exact hk')
   have e:rs.getD k .undef=(AY st.Aa A7 (IQ C outs st)).2.1.getD k .undef:=by
     rw[<- hrs,List.getD_eq_getElem?_getD,List.getElem?_append_left (by rw[g1,<- hol];exact hk'),<- List.getD_eq_getElem?_getD]
   rw[e];exact this
  ·intro j i hji
   rw[hp]at hji
   obtain⟨r,s,h1,h2,h2'⟩:=Ahg Af 0 j i hji
   rw[Nat.zero_add]at h1;subst h1
   obtain⟨h3,h3',h4,h5⟩:=AiF h2 h2'
   have h6:=Aeb _ _ hok2 i _ h3 h3'
   have e:rs.getD (sg.A7.length+j) .undef=unbox ((AY st.Aa (Af.map KT) (Ji Af 0)).2.1.getD i .undef):=by
     rw[<- hrs,hr,List.getD_eq_getElem?_getD,List.getElem?_append_right (by rw[g1];omega),g1,Nat.add_sub_cancel_left,List.getElem?_map,hji]
     rfl
   rw[e,h6,hp]
   have:=hB i (by rw[hmaskl];exact h5)
   rw[Nat.zero_add,if_pos h4]at this
   exact this
theorem Alb {ρ :Type} {o: ρ} {fin:St->Option ρ} (hC:Jf P C) (N:Nat)
    (hdraw: ∀ {ρ :Type} {V0:Nat->Value} {O0:Own} {w0:World} {fin:St->Option ρ} {v: ρ} (id:Nat) (ops:Array Oper) {O:Own} {m:Nat->Value} {st:St} {a:Act} {w:World} (K:Ex->St->Option ρ),Sim V0 O0 w0 O m st a w->Ko C ops.toList st=true->NZ C ops.toList ops.toList st (fun st'=>K .normal st')=some v ->
      (Code.region id ops true).wp P (Post V0 O0 w0 fin K v) a w)
    {f:FuncId} {fn:Func} {code:Code} {outs:List (Nat×Option Nat)} {sg:Sig} (hf:P.funcs[f]? =some fn) (hb:fn.body=some code) (hout:fn.results=(outs.map rv).toArray)
    {vs:Array Value} {xs rs:List A} (hI:Inv O w) (hv:vs.size=xs.length) (hl:xs.length=sg.Af.length) (h100:xs.length<=100) (hx: ∀ j,j<xs.length->IR O w (256*j) (vs.getD j undef) (xs.getD j .undef))
    (h:runK C N sg.Af fn.ntmps code fin xs=some o) (hrs: ∀ st,fin st=some o->finish C sg.Af sg.A7 outs st=some rs) :
    Calls P f vs w fun e w'=> ∃ v O',e= .returned v/\Came O w vs sg rs v O' w':=by
  obtain⟨hok,h⟩:=La h
  obtain⟨hok1,hok2⟩:=hok.append
  obtain⟨hnd,hok2⟩:=hok2.cons
  have h255:=hok2.cons.1
  rw[Bool.not_eq_true']at h255
  have hS:=AjC (n:=fn.ntmps) hI hv hl hx hok1 hnd h255
  have hptr: ∀ i,i<sg.Af.length->BH (sg.Af.getD i (.agg []))=true->(innerS w (sg.Af.getD i (.agg [])) (vs.getD i undef)).oneCell'=true:=by
    intro i hi hb
    have hi':i<xs.length:=by rw[hl];exact hi
    have hbk:Ar (back (256*i) (sg.Af.getD i (.agg [])) (xs.getD i .undef)).1:=by
      have key: ∀(ss:List Sh) (j0 i:Nat),i<ss.length->Ar (BN 0 256 ss xs j0).1->Ar (back (0+256*(j0+i)) (ss.getD i (.agg [])) (xs.getD (j0+i) .undef)).1:=by
        intro ss
        induction ss with
        | nil=>intro j0 i h;simp at h
        | cons s ss ih =>
          intro j0 i h hok
          simp only[BN]at hok
          obtain⟨h1,h2⟩:=hok.append
          cases i with
          | zero=>simpa using h1
          | succ i =>
            have:=ih (j0+1) i (by simpa using h) h2
            rw[show j0+1+i=j0+(i+1)from by omega]at this
            simpa using this
      have:=key sg.Af 0 i hi hok1
      rw[Nat.zero_add,Nat.zero_add]at this;exact this
    have hir:=hx i hi'
    generalize sg.Af.getD i (.agg [])=s at hb hbk
    cases s with
    | box ks =>
      simp only[back]at hbk
      have h2:=hbk.cons.2.cons.1
      generalize xs.getD i .undef=x at h2 hir
      cases x with
      | box cs =>
        obtain⟨b,base,h3,_⟩:=hir
        rw[h3];rfl
      | _=>cases h2
    | clo f' ks =>
      simp only[back]at hbk
      have h2:=hbk.cons.2.cons.1
      generalize xs.getD i .undef=x at h2 hir
      cases x with
      | cbx g cs =>
        obtain⟨b,base,h3,_⟩:=hir
        rw[show innerS w (.clo f' ks) (vs.getD i undef)=_ from h3.inner (ks:=ks)];rfl
      | _=>cases h2
    | map kt vt =>
      obtain⟨l,hl',_,_⟩:=Zu (show A.Zt kt vt _=true from hbk.cons.1)
      rw[hl']at hir
      obtain⟨r,_,_,h3,_⟩:=(show Gx O w _ _ l from hir)
      rw[h3];rfl
    | _=>cases hb
  refine calls_of_wp hf hb (wp_mono (Ahp hC N hdraw code hS h) fun e a' w' hq=> ?_)
  have fin':(∃ O' m' st',Sim (fun o=>innerS w (sg.Af.getD (o / 256) (.agg [])) (vs.getD (o / 256) undef)) O w O' m' st' a' w'/\fin st'=some o)->a'.defers=[]/\ ∃ v,(results fn a'.tmps).run P w'= .ok v w'/\ ∃ v' O',Ending.returned v= .returned v'/\Came O w vs sg rs v' O' w':=by
    rintro ⟨O',m',st',hS',hfin⟩
    obtain⟨v,O2,hres,hcame⟩:=AjB (sg:=sg) hC.T hout rfl rfl (by rw[<- hl];exact h100) hptr hS' (hrs st' hfin)
    exact⟨hS'.defers,v,hres,v,O2,rfl,hcame⟩
  cases e with
  | normal=>exact fin' hq
  | ret=>exact fin' hq
  | exit id =>
    obtain⟨O',m',st',_,h'⟩:=hq
    cases h'
  | goto l=>exact hq.elim
  | panic ch=>exact hq.elim
  | outgrown=>exact hq.elim
end
end Go.Proofs.YtadefjgbcapakaaGreatDoor.Vm
namespace Go.Proofs.YtadefjgbcapakaaGreatDoor.Vm
open Classical
section
variable {P:Program} {C:Ctx} {V0:Nat->Value} {O0 O:Own} {w0 w:World} {m:Nat->Value} {st:St} {a:Act}
theorem D9 {a b:List Nat} (h:KH a b=true): ∀ n∈a,n∉b:=by
  intro n hn hb
  have:=List.all_eq_true.1 h n hn
  rw[I8.2 hb]at this;cases this
def lastOf:List (Nat×Obj)->Nat->Option Obj
  | [],_=>none
  | (n,x)::r,k=>match lastOf r k with
    | some y=>some y
    | none=>if n=k then some x else none
theorem oC {u:List (Nat×Obj)} {k:Nat} (h:k∉u.map (·.1)):lastOf u k=none:=by
  induction u with
  | nil=>rfl
  | cons p r ih =>
    obtain⟨n,x⟩:=p
    simp only[List.map_cons,List.mem_cons,not_or]at h
    simp only[lastOf,ih h.2]
    exact if_neg (fun e=>h.1 e.symm)
theorem nU (u:List (Nat×Obj)): ∀(l:List (Nat×Obj)) (k:Nat),Ah (Ap l u) k=match lastOf u k with | some x=>some x | none=>Ah l k:=by
  induction u with
  | nil=>intro l k;rfl
  | cons p r ih =>
    obtain⟨n,x⟩:=p
    intro l k
    rw[Ap,ih,Bl]
    simp only[lastOf]
    cases lastOf r k with
    | some y=>rfl
    | none =>
      by_cases h:n=k
      ·simp [h]
      ·have:k≠n:=fun e=>h e.symm
       simp [h,this]
theorem KZ (st:St) (o:Oper) (δ :Dl) (k:Nat):Ah (apply st o δ).Aa k=match lastOf δ.new k with
    | some x=>some x
    | none=>if k∈ δ.del then none else match lastOf δ.upd k with
      | some x=>some x
      | none=>Ah st.Aa k:=by
  unfold apply
  dsimp only
  rw[nU,KA,nU]
theorem NM {st:St} {o:Oper} {δ :Dl} {k:Nat} (h:k∉ δ.upd.map (·.1)++ δ.del++ δ.new.map (·.1)):Ah (apply st o δ).Aa k=Ah st.Aa k:=by
  simp only[List.mem_append,not_or]at h
  rw[KZ,oC h.2,oC h.1.1]
  exact if_neg h.1.2
def Srt:List (Nat×Obj)->Prop:=List.Pairwise (fun p q=>p.1<q.1)
theorem AiG: ∀ {l:List (Nat×Obj)},sorted l=true->Srt l:=by
  intro l
  induction l with
  | nil=>intro _;exact List.Pairwise.nil
  | cons p r ih =>
    intro h
    cases r with
    | nil=>exact List.pairwise_singleton _ _
    | cons q r =>
      obtain⟨n,x⟩:=p
      obtain⟨k,y⟩:=q
      simp only[sorted,Bool.and_eq_true,Nat.blt_eq]at h
      have hr:=ih h.2
      refine List.Pairwise.cons (fun q hq=> ?_) hr
      rcases List.mem_cons.1 hq with rfl | hq
      ·exact h.1
      ·exact Nat.lt_trans h.1 ((List.pairwise_cons.1 hr).1 q hq)
theorem Srt.Jj {l:List (Nat×Obj)} (h:Srt l) (n:Nat):Srt (Vm.Jj l n):=by
  induction l with
  | nil=>exact h
  | cons p r ih =>
    obtain⟨k,x⟩:=p
    obtain⟨h1,h2⟩:=List.pairwise_cons.1 h
    rw[dR]
    split
    ·exact ih h2
    ·exact List.Pairwise.cons (fun q hq=>h1 q (sO hq)) (ih h2)
theorem Srt.RG {l:List (Nat×Obj)} (h:Srt l) {n:Nat} (y:Obj) (hn:Ah l n=none):Srt (Vm.RG l n y):=by
  induction l with
  | nil=>exact List.pairwise_singleton _ _
  | cons p r ih =>
    obtain⟨k,x⟩:=p
    obtain⟨h1,h2⟩:=List.pairwise_cons.1 h
    rw[CX]at hn
    have hkn:k≠n:=fun e=>by rw[if_pos e]at hn;cases hn
    rw[if_neg hkn]at hn
    simp only[Vm.RG]
    cases hle:Nat.ble n k with
    | true =>
      have:=Nat.le_of_ble_eq_true hle
      refine List.Pairwise.cons (fun q hq=> ?_) h
      rcases List.mem_cons.1 hq with rfl | hq
      ·show n<k;omega
      ·have:=h1 q hq
       show n<q.1
       dsimp only at this;omega
    | false =>
      have hlt:k<n:=by
        rcases Nat.lt_or_ge k n with h | h
        ·exact h
        ·rw[Nat.ble_eq_true_of_le h]at hle;cases hle
      refine List.Pairwise.cons (fun q hq=> ?_) (ih h2 hn)
      rcases Ae3 hq with rfl | hq
      ·exact hlt
      ·exact h1 q hq
theorem Srt.CY {l:List (Nat×Obj)} (h:Srt l) (n:Nat) (y:Obj):Srt (Vm.CY l n y):=(h.Jj n).RG y (by rw[QT,if_pos rfl])
theorem Srt.Ap: ∀(u:List (Nat×Obj)) {l:List (Nat×Obj)},Srt l->Srt (Vm.Ap l u):=by
  intro u
  induction u with
  | nil=>intro l h;exact h
  | cons p r ih=>intro l h;obtain⟨n,x⟩:=p;exact ih (h.CY n x)
theorem Srt.Bj: ∀(u:List Nat) {l:List (Nat×Obj)},Srt l->Srt (Vm.Bj l u):=by
  intro u
  induction u with
  | nil=>intro l h;exact h
  | cons n r ih=>intro l h;exact ih (h.Jj n)
theorem Srt.apply {st:St} (h:Srt st.Aa) (o:Oper) (δ :Dl):Srt (Vm.apply st o δ).Aa:=((h.Ap δ.upd).Bj δ.del).Ap δ.new
theorem Oi {n:Nat} {x:Obj} {r:List (Nat×Obj)}:Ah ((n,x)::r) n=some x:=by rw[CX,if_pos rfl]
theorem kJ {l:List (Nat×Obj)} {k:Nat} (h: ∀ p∈l,k<p.1):Ah l k=none:=by
  cases hx:Ah l k with
  | none=>rfl
  | some x=>exact absurd (h _ (oZ hx)) (Nat.lt_irrefl _)
theorem Srt.ext: ∀ {l l':List (Nat×Obj)},Srt l->Srt l'->(∀ k,Ah l k=Ah l' k)->l=l':=by
  intro l
  induction l with
  | nil =>
    intro l' _ _ h
    cases l' with
    | nil=>rfl
    | cons p r=>obtain⟨n,x⟩:=p;have:=h n;rw[Oi]at this;cases this
  | cons p r ih =>
    intro l' h1 h2 h
    obtain⟨n,x⟩:=p
    cases l' with
    | nil=>have:=h n;rw[Oi]at this;cases this
    | cons q r' =>
      obtain⟨k,y⟩:=q
      obtain⟨a1,a2⟩:=List.pairwise_cons.1 h1
      obtain⟨b1,b2'⟩:=List.pairwise_cons.1 h2
      have hnk:n=k:=by
        rcases Nat.lt_trichotomy n k with hlt | he | hgt
        ·have:=h n
         rw[Oi,kJ]at this
         ·cases this
         ·intro p hp
          rcases List.mem_cons.1 hp with rfl | hp
          ·exact hlt
          ·exact Nat.lt_trans hlt (b1 p hp)
        ·exact he
        ·have:=h k
         rw[Oi,kJ]at this
         ·cases this
         ·intro p hp
          rcases List.mem_cons.1 hp with rfl | hp
          ·exact hgt
          ·exact Nat.lt_trans hgt (a1 p hp)
      subst hnk
      have hx:=h n
      rw[Oi,Oi]at hx
      injection hx with hx;subst hx
      rw[ih a2 b2' (fun j=> ?_)]
      by_cases hj:n=j
      ·subst hj;rw[kJ a1,kJ b1]
      ·have:=h j
       rw[CX,CX,if_neg hj,if_neg hj]at this;exact this
theorem put_comm (tmps:List A) {d e:Option Tmp} (x y:A) (h: ∀ t,d=some t->e≠some t):put (put tmps d x) e y=put (put tmps e y) d x:=by
  cases d with
  | none=>rfl
  | some d =>
    cases e with
    | none=>rfl
    | some e =>
      have:d≠e:=fun he=>h d rfl (by rw[he])
      exact List.set_comm _ _ this
theorem AgH (tmps:List A) {d:Option Tmp} (x:A) {t:Nat} (h:d≠some t):(put tmps d x).getD t .undef=tmps.getD t .undef:=by
  cases d with
  | none=>rfl
  | some d =>
    have:d≠t:=fun e=>h (by rw[e])
    simp [put,List.getD_eq_getElem?_getD,List.getElem?_set,this]
theorem TN {o:Oper} {t:Nat}:t∈QG o↔o.dst=some t:=by
  unfold QG
  cases o.dst with
  | none=>simp
  | some d=>simp [eq_comm]
theorem AdO {ops:List Oper} {o:Oper} {tmps:List A} {d:Option Tmp} {v:A} (h: ∀ t,d=some t->t∉slotsOf ops o) {x:Operand} (hx:x∈o.op.operands):Ci (put tmps d v) x=Ci tmps x:=by
  cases x with
  | tmp t =>
    refine AgH tmps v fun hd=>h t hd ?_
    exact List.mem_append_left _ (List.mem_filterMap.2 ⟨.tmp t,by simpa using hx,rfl⟩)
  | _=>rfl
theorem Ab8 {ops:List Oper} {o:Oper} {tmps:List A} {d:Option Tmp} {v:A} (h: ∀ t,d=some t->t∉slotsOf ops o):guardOf ops (put tmps d v) o.guard=guardOf ops tmps o.guard:=by
  cases hg:o.guard with
  | none=>rfl
  | some p =>
    obtain⟨j,want⟩:=p
    unfold guardOf
    dsimp only
    cases hj:ops[j]? with
    | none=>rfl
    | some oj =>
      dsimp only
      cases hd:oj.dst with
      | none=>rfl
      | some t =>
        dsimp only
        rw[AgH tmps v (t:=t) (fun hd'=>h t hd' (by
          unfold slotsOf
          refine List.mem_append_right _ ?_
          rw[hg];dsimp only;rw[hj];dsimp only;rw[hd];simp))]
theorem o5 {Aa objs':List (Nat×Obj)}: ∀(l:List Nat),(∀ n∈l,Ah Aa n=Ah objs' n)->fetch Aa l=fetch objs' l:=by
  intro l
  induction l with
  | nil=>intro _;rfl
  | cons n r ih =>
    intro h
    simp only[fetch]
    rw[h n List.mem_cons_self,ih (fun k hk=>h k (List.mem_cons_of_mem _ hk))]
theorem Ad4 {op:Op} {vs:List A} (h:kK op vs=true):(∃ x,op= .move x)\/(∃ x,op= .assign x)\/ ∃ t x k q,op= .load t x/\vs=[.clo k q]:=by
  unfold kK at h
  split at h
  ·exact .inl ⟨_,rfl⟩
  ·exact .inr (.inl ⟨_,rfl⟩)
  ·exact .inr (.inr ⟨_,_,_,_,rfl,rfl⟩)
  ·cases h
theorem yV {ops:List Oper} {o:Oper} {s1 s2:St} (hE: ∀ x∈o.op.operands,Ci s2.tmps x=Ci s1.tmps x) (hG:guardOf ops s2.tmps o.guard=guardOf ops s1.tmps o.guard)
    (hF: ∀ n∈I4 o s1 (Gq o s1),Ah s2.Aa n=Ah s1.Aa n) (h1: ∀ n∈(BM C ops o s1).new.map (·.1),s1.fresh n=true) (h2: ∀ n∈(BM C ops o s1).new.map (·.1),s2.fresh n=true) :
    BM C ops o s2=BM C ops o s1/\I4 o s2 (Gq o s2)=I4 o s1 (Gq o s1):=by
  have hmap:o.op.operands.toList.map (Ci s2.tmps)=o.op.operands.toList.map (Ci s1.tmps):=List.map_congr_left fun x hx=>hE x (by simpa using hx)
  have hvs:Gq o s2=Gq o s1:=by unfold Gq;rw[hmap]
  have key:((∀ w,opX C o (Gq o s1) (CQ s2 w)=opX C o (Gq o s1) (CQ s1 w))/\(∀ f,(opX C o (Gq o s1) f).upd=[])/\I4 o s2 (Gq o s1)=I4 o s1 (Gq o s1))\/(CQ s2 (Gq o s1)=CQ s1 (Gq o s1)/\I4 o s2 (Gq o s1)=I4 o s1 (Gq o s1)):=by
    unfold I4 at hF ⊢
    cases hm:kK o.op (Gq o s1)with
    | true =>
      have hu: ∀(v:List A),(a1 (fun a=>.v a) v).upd=[]:=fun v=>by
        cases v with
        | nil=>rfl
        | cons x r=>cases r<;>rfl
      rcases Ad4 hm with ⟨x,e⟩ | ⟨x,e⟩ | ⟨t,x,k,q,e,ev⟩
      ·exact .inl ⟨fun w=>by unfold opX;rw[e],fun f=>by unfold opX;rw[e];exact hu _,rfl⟩
      ·exact .inl ⟨fun w=>by unfold opX;rw[e],fun f=>by unfold opX;rw[e];exact hu _,rfl⟩
      ·have hl: ∀ f,(VR C f t (.clo k q)).upd=[]:=fun f=>by
         unfold VR DV BB
         cases C.T t<;>rfl
       exact .inl ⟨fun w=>by unfold opX;rw[e,ev];rfl,fun f=>by unfold opX;rw[e,ev];exact hl f,rfl⟩
    | false =>
      rw[hm]at hF
      have e1:fetch s2.Aa ((Gq o s1).flatMap A.ids)=fetch s1.Aa ((Gq o s1).flatMap A.ids):=o5 _ (fun n hn=>hF n (List.mem_append_left _ hn))
      refine .inr ⟨?_,by show(_++_:List Nat)=_;rw[e1];rfl⟩
      unfold CQ
      dsimp only
      rw[e1,o5 _ (fun n hn=>hF n (List.mem_append_right _ hn))]
  have hop:opX C o (Gq o s1) (CQ s2 (Gq o s1))=opX C o (Gq o s1) (CQ s1 (Gq o s1)):=by
    rcases key with h | h
    ·exact h.1 _
    ·rw[h.1]
  refine⟨?_,by rw[hvs];rcases key with h | h;exact h.2.2;exact h.2⟩
  unfold BM at h1 h2 ⊢
  rw[hG,hmap]
  have hfa':opX C o (CJ o.op (o.op.operands.toList.map (Ci s1.tmps))).2 (CQ s2 (CJ o.op (o.op.operands.toList.map (Ci s1.tmps))).2)=opX C o (CJ o.op (o.op.operands.toList.map (Ci s1.tmps))).2 (CQ s1 (CJ o.op (o.op.operands.toList.map (Ci s1.tmps))).2):=hop
  cases hg:guardOf ops s1.tmps o.guard with
  | none=>rfl
  | some r =>
    cases r with
    | some g =>
      dsimp only
      rcases key with h | h
      ·have hu:=h.2.1 (CQ s1 (Gq o s1))
       rw[hfa']
       have hu':(opX C o (CJ o.op (o.op.operands.toList.map (Ci s1.tmps))).2 (CQ s1 (CJ o.op (o.op.operands.toList.map (Ci s1.tmps))).2)).upd=[]:=hu
       simp only[hu',List.map_nil]
      ·have h1':CQ s2 (CJ o.op (o.op.operands.toList.map (Ci s1.tmps))).2=CQ s1 (CJ o.op (o.op.operands.toList.map (Ci s1.tmps))).2:=h.1
       rw[h1']
    | none =>
      rw[hg]at h1 h2
      dsimp only at h1 h2 ⊢
      rw[hfa']
      generalize opX C o (CJ o.op (o.op.operands.toList.map (Ci s1.tmps))).2 (CQ s1 (CJ o.op (o.op.operands.toList.map (Ci s1.tmps))).2)= δ at *
      have a1: δ.new.all (fun p=>s1.fresh p.1)=true:=List.all_eq_true.2 fun p hp=>h1 p.1 (List.mem_map.2 ⟨p,hp,rfl⟩)
      have a2: δ.new.all (fun p=>s2.fresh p.1)=true:=List.all_eq_true.2 fun p hp=>h2 p.1 (List.mem_map.2 ⟨p,hp,rfl⟩)
      rw[a1,a2]
end
end Go.Proofs.YtadefjgbcapakaaGreatDoor.Vm
namespace Go.Proofs.YtadefjgbcapakaaGreatDoor.Vm
open Classical
section
variable {P:Program} {C:Ctx} {V0:Nat->Value} {O0 O:Own} {w0 w:World} {m:Nat->Value} {st st':St} {a:Act}
structure AoS (C:Ctx) (ops:List Oper) (x:CP) (st:St):Prop where
  step:BM C ops x.o st=x.δ
  rd:I4 x.o st (Gq x.o st)=x.rd
def dQ (C:Ctx) (ops:List Oper):List CP->St->St->Prop
  | [],s,s'=>s=s'
  | x::r,s,s'=>AoS C ops x s/\dQ C ops r (apply s x.o x.δ) s'
theorem Aih: ∀(u:List Nat) {l:List (Nat×Obj)} {p:Nat×Obj},p∈Bj l u->p∈l:=by
  intro u
  induction u with
  | nil=>intro l p h;exact h
  | cons n r ih=>intro l p h;exact sO (ih h)
theorem Rk {x:CP} {n:Nat} (h:st.fresh n=true) (h1:n∉x.says) (h2:n∉x.keys):(apply st x.o x.δ).fresh n=true:=by
  obtain⟨f1,f2,f3,f4⟩:=Ey h
  unfold CP.says at h1
  simp only[List.mem_append,not_or]at h1
  have g1:has (apply st x.o x.δ).ids n=false:=by
    rw[<- Bool.not_eq_true]
    intro hh
    rcases List.mem_append.1 (I8.1 hh)with hm | hm
    ·obtain⟨c,hc,hi⟩:=List.mem_flatMap.1 hm
     have hc:c∈put st.tmps x.o.dst x.δ.val:=hc
     have:c∈st.tmps\/c=x.δ.val:=by
       cases hd:x.o.dst with
       | none=>rw[hd]at hc;exact .inl hc
       | some d=>rw[hd]at hc;exact List.mem_or_eq_of_mem_set hc
     rcases this with hc | hc
     ·exact f1 (List.mem_append_left _ (List.mem_flatMap.2 ⟨c,hc,hi⟩))
     ·rw[hc]at hi;exact h1.1.1 hi
    ·obtain⟨p,hp,hi⟩:=List.mem_flatMap.1 hm
     rcases Tq x.δ.new (show p∈Ap (Bj (Ap st.Aa x.δ.upd) x.δ.del) x.δ.new from hp)with hp | hp
     ·exact h1.2 (List.mem_flatMap.2 ⟨p,hp,hi⟩)
     ·rcases Tq x.δ.upd (Aih _ hp)with hp | hp
      ·exact h1.1.2 (List.mem_flatMap.2 ⟨p,hp,hi⟩)
      ·exact f1 (List.mem_append_right _ (List.mem_flatMap.2 ⟨p,hp,hi⟩))
  have g2:Ah (apply st x.o x.δ).Aa n=none:=by rw[NM h2];exact f2
  unfold St.fresh
  rw[g1,g2,f4,L9]
  simp [f3]
theorem swap {ops:List Oper} {x y:CP} {r:List CP} (hi:indep ops x y=true) (hxF: ∀ n∈x.news,st.fresh n=true) (hyF: ∀ n∈y.news,st.fresh n=true) (h1:KH y.news x.says=true) (h2:KH y.news x.keys=true)
    (hs:Srt st.Aa) (h:dQ C ops (x::y::r) st st'):dQ C ops (y::x::r) st st':=by
  unfold indep at hi
  simp only[Bool.and_eq_true]at hi
  obtain⟨⟨⟨⟨⟨⟨i1,i2⟩,i3⟩,i4⟩,i5⟩,i6⟩,i7⟩:=hi
  obtain⟨hx,hy,hr⟩:=h
  have hkx: ∀ n,n∈x.keys->n∉y.keys:=D9 i6
  have hnx: ∀ n∈x.news,n∈x.keys:=fun n hn=>List.mem_append_right _ hn
  have cy:=yV (C:=C) (ops:=ops) (o:=y.o) (s1:=apply st x.o x.δ) (s2:=st)
    (fun z hz=>(AdO (fun t ht=>D9 i2 t (TN.2 ht)) hz).symm) (Ab8 (fun t ht=>D9 i2 t (TN.2 ht))).symm
    (fun n hn=>(NM (fun hk=>D9 i4 n hk (by rw[<- hy.rd];exact hn))).symm)
    (fun n hn=>by rw[hy.step]at hn;exact Rk (hyF n hn) (D9 h1 n hn) (D9 h2 n hn))
    (fun n hn=>by rw[hy.step]at hn;exact hyF n hn)
  have cx:=yV (C:=C) (ops:=ops) (o:=x.o) (s1:=st) (s2:=apply st y.o y.δ)
    (fun z hz=>AdO (fun t ht=>D9 i3 t (TN.2 ht)) hz) (Ab8 (fun t ht=>D9 i3 t (TN.2 ht)))
    (fun n hn=>NM (fun hk=>D9 i5 n hk (by rw[<- hx.rd];exact hn)))
    (fun n hn=>by rw[hx.step]at hn;exact hxF n hn)
    (fun n hn=>by rw[hx.step]at hn;exact Rk (hxF n hn) (D9 i7 n hn) (hkx n (hnx n hn)))
  have hst:apply (apply st y.o y.δ) x.o x.δ =apply (apply st x.o x.δ) y.o y.δ :=by
    have e1:(apply (apply st y.o y.δ) x.o x.δ).tmps=(apply (apply st x.o x.δ) y.o y.δ).tmps:=(put_comm st.tmps x.δ.val y.δ.val (fun t ht he=>D9 i1 t (TN.2 ht) (TN.2 he))).symm
    have e2:(apply (apply st y.o y.δ) x.o x.δ).Aa=(apply (apply st x.o x.δ) y.o y.δ).Aa:=by
      refine Srt.ext ((hs.apply _ _).apply _ _) ((hs.apply _ _).apply _ _) fun k=> ?_
      by_cases hk:k∈x.keys
      ·have hky:=hkx k hk
       rw[NM (o:=y.o) (δ :=y.δ) hky,KZ (apply st y.o y.δ),NM (o:=y.o) (δ :=y.δ) hky,<- KZ st]
      ·rw[NM (o:=x.o) (δ :=x.δ) hk,KZ (apply st x.o x.δ),NM (o:=x.o) (δ :=x.δ) hk,<- KZ st]
    generalize apply (apply st y.o y.δ) x.o x.δ =s at *
    generalize apply (apply st x.o x.δ) y.o y.δ =s' at *
    cases s;cases s'
    dsimp only at e1 e2
    rw[e1,e2]
  refine⟨⟨by rw[cy.1,hy.step],by rw[cy.2,hy.rd]⟩,⟨by rw[cx.1,hx.step],by rw[cx.2,hx.rd]⟩,?_⟩
  rw[hst];exact hr
structure Pre (R:List CP) (st:St):Prop where
  srt:Srt st.Aa
  fresh: ∀ z∈R,∀ n∈z.news,st.fresh n=true
  pairs:R.Pairwise (fun y z=>KH z.news y.says=true/\KH z.news y.keys=true)
theorem Pre.step {y:CP} {R:List CP} (h:Pre (y::R) st):Pre R (apply st y.o y.δ):=by
  obtain⟨h1,h2⟩:=List.pairwise_cons.1 h.pairs
  exact⟨h.srt.apply _ _,fun z hz n hn=>Rk (h.fresh z (List.mem_cons_of_mem _ hz) n hn) (D9 (h1 z hz).1 n hn) (D9 (h1 z hz).2 n hn),h2⟩
theorem front {ops:List Oper} {x:CP} {L2:List CP}: ∀(L1:List CP) {st:St},Pre (L1++x::L2) st->(∀ y∈L1,indep ops y x=true)->dQ C ops (L1++x::L2) st st'->dQ C ops (x::(L1++L2)) st st':=by
  intro L1
  induction L1 with
  | nil=>intro st _ _ h;exact h
  | cons y L1 ih =>
    intro st hP hi h
    have h1:=ih (st:=apply st y.o y.δ) (hP.step) (fun z hz=>hi z (List.mem_cons_of_mem _ hz)) h.2
    have hx:x∈L1++x::L2:=List.mem_append_right _ List.mem_cons_self
    obtain⟨p1,_⟩:=List.pairwise_cons.1 hP.pairs
    exact swap (hi y List.mem_cons_self) (hP.fresh y List.mem_cons_self) (hP.fresh x (List.mem_cons_of_mem _ hx)) (p1 x hx).1 (p1 x hx).2 hP.srt ⟨h.1,h1⟩
theorem Ajn {md:Region.Mode} {e:Edge} (h:Region.binds .any e=true):Region.binds md e=true:=by
  unfold Region.binds at h ⊢
  cases hg:e.ground with
  | textOnly r=>rw[hg]at h;cases h
  | gcOnly r=>rw[hg]at h;cases h
  | _=>rfl
theorem QM {ops:List Oper} {i:Nat} {x y:CP} (h:UT ops i x y=true):KH y.news x.says=true/\KH y.news x.keys=true/\(i∈y.anc\/indep ops x y=true):=by
  unfold UT at h
  simp only[Bool.and_eq_true,Bool.or_eq_true]at h
  exact⟨h.1.1,h.1.2,h.2.imp I8.1 id⟩
theorem AdX {l:Array Bool} {i:Nat} (h:i<l.size) (b c:Bool):l.getD i b=l.getD i c:=by
  simp [Array.getD_eq_getD_getElem?,h]
theorem Ah5 {α :Type} (f: α ->Nat): ∀(l:List α),l≠ []-> ∃ x∈l,∀ y∈l,f x<=f y:=by
  intro l
  induction l with
  | nil=>intro h;exact absurd rfl h
  | cons a r ih =>
    intro _
    by_cases hr:r=[]
    ·exact⟨a,List.mem_cons_self,fun y hy=>by rw[hr]at hy;simp at hy;rw[hy];exact Nat.le_refl _⟩
    ·obtain⟨x,hx,hm⟩:=ih hr
     by_cases h:f a<=f x
     ·exact⟨a,List.mem_cons_self,fun y hy=>by
        rcases List.mem_cons.1 hy with rfl | hy
        ·exact Nat.le_refl _
        ·exact Nat.le_trans h (hm y hy)⟩
     ·exact⟨x,List.mem_cons_of_mem _ hx,fun y hy=>by
        rcases List.mem_cons.1 hy with rfl | hy
        ·omega
        ·exact hm y hy⟩
theorem AlY {ρ :Type} (hC:Jf P C) {ops:Array Oper} {md:Region.Mode} {Q:Exit->Act->World->Prop} {v: ρ} {K:St->Option ρ} (hQ: ∀ O' m' st' a' w',Sim V0 O0 w0 O' m' st' a' w'->K st'=some v->Q .normal a' w')
    {ANC:List (List Nat)} (hanc: ∀(j:Nat) (o:Oper),ops[j]? =some o-> ∀ i∈ANC.getD j [],∃ e∈OT o,i=e\/i∈ANC.getD e []) {rk:Nat->Nat} (hback: ∀(j:Nat) (o:Oper),ops[j]? =some o-> ∀ e∈o.after,Region.binds md e=true->e.on<ops.size/\rk e.on<rk j) :
    ∀(fuel:Nat) (R:List (Nat×CP)) (listed:Array Bool) {O:Own} {m:Nat->Value} {st:St} {a:Act} {w:World},R.length=fuel->R.Pairwise (fun p q=>p.1<q.1) ->
     (∀ p∈R,ops[p.1]? =some p.2.o/\Ar p.2.δ.ok/\p.2.anc=ANC.getD p.1 [])->listed.size=ops.size->(∀ i,i<ops.size->(listed.getD i true=false↔i∈R.map (·.1))) ->
     (∀ e,listed.getD e false=true-> ∀ i∈ANC.getD e [],listed.getD i false=true)->R.Pairwise (fun p q=>UT ops.toList p.1 p.2 q.2=true)->(∀ p∈R,∀ n∈p.2.news,st.fresh n=true)->Srt st.Aa ->
     dQ C ops.toList (R.map (·.2)) st st'->K st'=some v->Sim V0 O0 w0 O m st a w->wpAny P md ops Q fuel listed a w:=by
  intro fuel
  induction fuel with
  | zero =>
    intro R listed O m st a w hlen _ _ hsz hl _ _ _ _ hruns hK hS
    have hR:R=[]:=List.length_eq_zero_iff.1 hlen
    subst hR
    refine⟨?_,?_⟩
    ·rw[List.eq_nil_iff_forall_not_mem]
     intro i hi
     obtain⟨h1,o,h2,_⟩:=mem_ready.1 hi
     have hlt:=(Array.getElem?_eq_some_iff.1 h2).1
     have:=(hl i hlt).1 h1
     simp at this
    ·have:st=st':=hruns
     subst this
     exact hQ _ _ _ _ _ hS hK
  | succ fuel ih =>
    intro R listed O m st a w hlen hord hops hsz hl hcl hpr hfr hsrt hruns hK hS
    have hin: ∀ p∈R,p.1<ops.size:=fun p hp=>(Array.getElem?_eq_some_iff.1 (hops p hp).1).1
    refine⟨fun hnil=> ?_,fun i hi=> ?_⟩
    ·exfalso
     obtain⟨p,hpR,hmin⟩:=Ah5 (fun q:Nat×CP=>rk q.1) R (by intro h;rw[h]at hlen;simp at hlen)
     have hp:=hin p hpR
     have:p.1∈Region.ready md ops listed:=by
       refine mem_ready.2 ⟨(hl p.1 hp).2 (List.mem_map.2 ⟨p,hpR,rfl⟩),p.2.o,(hops p hpR).1,fun e he hb=> ?_⟩
       obtain⟨hsize,hlt⟩:=hback _ _ (hops p hpR).1 e he hb
       have hno:e.on∉R.map (·.1):=by
         intro hm
         obtain⟨q,hq,hqe⟩:=List.mem_map.1 hm
         have:=hmin q hq
         rw[hqe]at this
         omega
       have:listed.getD e.on true≠false:=fun h=>hno ((hl e.on hsize).1 h)
       rw[AdX (by rw[hsz];exact hsize) false true]
       simpa using this
     rw[hnil]at this;cases this
    ·obtain⟨hi1,oi,hi2,hi3⟩:=mem_ready.1 hi
     have hilt:=(Array.getElem?_eq_some_iff.1 hi2).1
     obtain⟨p,hp,rfl⟩:=List.mem_map.1 ((hl i hilt).1 hi1)
     obtain⟨L1,L2,rfl⟩:=List.append_of_mem hp
     obtain⟨i,x⟩:=p
     dsimp only at hi hi1 hi2 hi3 hilt ⊢
     obtain⟨hx1,hx2,hx3⟩:=hops (i,x) hp
     dsimp only at hx1 hx2 hx3
     have hancl: ∀ j∈ANC.getD i [],listed.getD j false=true:=by
       intro j hj
       obtain⟨e,he,hje⟩:=hanc i _ hx1 j hj
       have hel:listed.getD e false=true:=by
         unfold OT at he
         obtain⟨ed,hed,hb⟩:=List.mem_filterMap.1 he
         rw[hi2]at hx1;injection hx1 with hx1;subst hx1
         cases hbb:Region.binds .any ed with
         | false=>rw[hbb]at hb;cases hb
         | true =>
           rw[hbb]at hb
           injection hb with hb
           rw[<- hb];exact hi3 ed (by simpa using hed) (Ajn hbb)
       rcases hje with rfl | hje
       ·exact hel
       ·exact hcl e hel j hje
     have hord':=List.pairwise_append.1 hord
     have hpr':=List.pairwise_append.1 hpr
     have hind: ∀ q∈L1,UT ops.toList q.1 q.2 x=true/\indep ops.toList q.2 x=true:=by
       intro q hq
       have hpq:=hpr'.2.2 q hq (i,x) List.mem_cons_self
       dsimp only at hpq
       refine⟨hpq,(QM hpq).2.2.resolve_left fun hm=> ?_⟩
       rw[hx3]at hm
       have h1:=hancl _ hm
       have hqR:q∈L1++(i,x)::L2:=List.mem_append_left _ hq
       have hqlt:=hin q hqR
       have h2:=(hl q.1 hqlt).2 (List.mem_map.2 ⟨q,hqR,rfl⟩)
       rw[AdX (by rw[hsz];exact hqlt) true false,h1]at h2
       cases h2
     have hPre:Pre ((L1++(i,x)::L2).map (·.2)) st:=by
       refine⟨hsrt,fun z hz n hn=> ?_,?_⟩
       ·obtain⟨q,hq,rfl⟩:=List.mem_map.1 hz
        exact hfr q hq n hn
       ·rw[List.pairwise_map]
        exact hpr.imp fun h=>⟨(QM h).1,(QM h).2.1⟩
     have hfront:dQ C ops.toList (x::(L1.map (·.2)++L2.map (·.2))) st st':=by
       refine front (L1.map (·.2)) (by simpa using hPre) (fun y hy=> ?_) (by simpa using hruns)
       obtain⟨q,hq,rfl⟩:=List.mem_map.1 hy
       exact(hind q hq).2
     obtain⟨hstep,hrest⟩:=hfront
     have hsub:List.Sublist (L1++L2) (L1++(i,x)::L2):=List.Sublist.append_left (List.sublist_cons_self _ _) _
     have hnext: ∀ O' m' a' w',Sim V0 O0 w0 O' m' (apply st x.o (BM C ops.toList x.o st)) a' w'->wpAny P md ops Q fuel (listed.setIfInBounds i true) a' w':=by
       intro O' m' a' w' hS'
       rw[hstep.step]at hS'
       refine ih (L1++L2) _ (by simp at hlen ⊢;omega) (hord.sublist hsub) (fun q hq=>hops q (hsub.subset hq)) (by simpa using hsz) (fun j hj=> ?_) (fun e he j hj=> ?_) (hpr.sublist hsub) (fun q hq n hn=> ?_) (hsrt.apply _ _) (by simpa using hrest) hK hS'
       ·by_cases hji:i=j
        ·subst hji
         have h1:(listed.setIfInBounds i true).getD i true=true:=by simp [Array.getD_eq_getD_getElem?,hsz,hj]
         rw[h1]
         refine⟨fun h=>(by cases h),fun h=> ?_⟩
         obtain⟨q,hq,hqi⟩:=List.mem_map.1 h
         rcases List.mem_append.1 hq with hq | hq
         ·have:=hord'.2.2 q hq (i,x) List.mem_cons_self
          dsimp only at this;omega
         ·have:=(List.pairwise_cons.1 hord'.2.1).1 q hq
          dsimp only at this;omega
        ·rw[getD_set_ne true hji,hl j hj]
         simp only[List.map_append,List.map_cons,List.mem_append,List.mem_cons]
         constructor
         ·rintro (h | h | h)
          ·exact .inl h
          ·exact absurd h.symm hji
          ·exact .inr h
         ·rintro (h | h)
          ·exact .inl h
          ·exact .inr (.inr h)
       ·by_cases hei:i=e
        ·subst hei;exact getD_set_true (hancl j hj)
        ·rw[getD_set_ne false hei]at he
         exact getD_set_true (hcl e he j hj)
       ·have hq':=hsub.subset hq
        have hf:=hfr q hq' n hn
        rcases List.mem_append.1 hq with hq | hq
        ·have hi':=(hind q hq).2
         unfold indep at hi'
         simp only[Bool.and_eq_true]at hi'
         exact Rk hf (D9 hi'.2 n hn) (D9 hi'.1.2 n (List.mem_append_right _ hn))
        ·have hpq:=QM ((List.pairwise_cons.1 hpr'.2.1).1 q hq)
         exact Rk hf (D9 hpq.1 n hn) (D9 hpq.2.1 n hn)
     have hw:=yX hC hS (ops:=ops) (o:=x.o) (by rw[hstep.step];exact hx2) (wpAny P md ops Q fuel (listed.setIfInBounds i true)) Q hnext
     unfold wpOp
     rw[hx1]
     dsimp only
     split
     ·rename_i hwt;rw[if_pos hwt]at hw;exact .inl hw
     ·rename_i hwt;rw[if_neg hwt]at hw;exact hw
end
