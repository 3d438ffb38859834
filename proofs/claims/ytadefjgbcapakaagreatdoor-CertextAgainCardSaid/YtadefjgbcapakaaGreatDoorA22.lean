import Derived.Test.YtadefjgbcapakaaGreatDoorA21
import Derived.Sort.Walk0
set_option linter.all false
namespace Go.Proofs.YtadefjgbcapakaaGreatDoor.Pl
open IntKind (i64)
open Go Vm
def leB (a b:Bs):Bool:=Vm.bytesLess a b||a==b
theorem Ajy (a b:Bs):leB a b=decide (a<=b):=by
  unfold leB Vm.bytesLess
  rw[bytesLess_eq]
  by_cases h:a=b
  ·subst h
   rw[beq_self_eq_true,Bool.or_true]
   exact(decide_eq_true (List.le_refl a)).symm
  ·rw[beq_false_of_ne h,Bool.or_false]
   by_cases h2:a<b
   ·rw[decide_eq_true h2,decide_eq_true (List.le_of_lt h2)]
   ·rw[decide_eq_false h2,decide_eq_false]
    intro h3
    exact h (List.le_antisymm h3 (by simpa using h2))
def Wx (x:Bs):List Bs->List Bs
  | []=>[x]
  | y::r=>bif leB y x then y::Wx x r else x::y::r
theorem Ado (x:Bs): ∀ s:List Bs,(Wx x s).Perm (x::s):=by
  intro s
  induction s with
  | nil=>exact List.Perm.refl _
  | cons y r ih =>
    show(bif leB y x then y::Wx x r else x::y::r).Perm _
    cases leB y x with
    | true=>exact(List.Perm.cons y ih).trans (List.Perm.swap x y r)
    | false=>exact List.Perm.refl _
theorem Alm (x:Bs): ∀ s:List Bs,s.Pairwise (fun a b=>a<=b)->(Wx x s).Pairwise (fun a b=>a<=b):=by
  intro s
  induction s with
  | nil=>intro _;exact List.pairwise_singleton _ _
  | cons y r ih =>
    intro h
    rw[List.pairwise_cons]at h
    show(bif leB y x then y::Wx x r else x::y::r).Pairwise _
    cases hl:leB y x with
    | true =>
      rw[Ajy,decide_eq_true_eq]at hl
      rw[cond_true,List.pairwise_cons]
      refine⟨fun z hz=> ?_,ih h.2⟩
      rcases List.mem_cons.1 ((Ado x r).mem_iff.1 hz)with rfl | hz
      ·exact hl
      ·exact h.1 z hz
    | false =>
      rw[Ajy,decide_eq_false_iff_not]at hl
      have hxy:x<=y:=by
        rcases List.le_total x y with h | h
        ·exact h
        ·exact absurd h hl
      rw[cond_false,List.pairwise_cons,List.pairwise_cons]
      refine⟨fun z hz=> ?_,h⟩
      rcases List.mem_cons.1 hz with rfl | hz
      ·exact hxy
      ·exact List.le_trans hxy (h.1 z hz)
theorem Ale: ∀(l s:List Bs),s.Pairwise (fun a b=>a<=b)->(l.foldl (fun s x=>Wx x s) s).Pairwise (fun a b=>a<=b)/\(l.foldl (fun s x=>Wx x s) s).Perm (l++s):=by
  intro l
  induction l with
  | nil=>intro s h;exact⟨h,List.Perm.refl _⟩
  | cons x r ih =>
    intro s h
    obtain⟨h1,h2⟩:=ih (Wx x s) (Alm x s h)
    refine⟨h1,h2.trans ?_⟩
    exact((Ado x s).append_left r).trans List.perm_middle
theorem AlE (l:List Bs):(l.foldl (fun s x=>Wx x s) []).flatten=EO l:=by
  unfold EO
  congr 1
  obtain⟨h1,h2⟩:=Ale l [] List.Pairwise.nil
  rw[List.append_nil]at h2
  refine List.Perm.eq_of_pairwise (le:=fun a b=>a<=b) (fun a b _ _ h3 h4=>List.le_antisymm h3 h4) h1 ?_ (h2.trans (List.mergeSort_perm l _).symm)
  have:=List.pairwise_mergeSort (le:=fun x y:Bs=>decide (x<=y)) (fun a b c h3 h4=>by
    rw[decide_eq_true_eq]at *
    exact List.le_trans h3 h4) (fun a b=>by
    rw[Bool.or_eq_true,decide_eq_true_eq,decide_eq_true_eq]
    exact List.le_total a b) l
  exact this.imp (fun h=>by simpa using h)
theorem len0 {α :Type} (l:List α):(((l.length:Nat):Int)==0)=l.isEmpty:=by
  cases l with
  | nil=>rfl
  | cons a r=>exact beq_false_of_ne (by rw[List.length_cons];omega)
theorem Wj (n k:Nat):decide ((n:Int)>(k:Int))=decide (k<n):=by congr 1;apply propext;omega
def FZ (l:List Gn):Prop:= ∀ g∈l,JQ g
def Hr (l:List Gn) (c:Bool):Int:=AU (fun g=>CY g c) l
theorem NK (N:Nat) (l:List Gn) (hN:1048578<N) (hl:l.length<=1048576) (hs:FZ l):Gl N l=some (Hr l false):=by
  unfold Gl
  refine(QC (mk:=fun i=>(i:Int)) l (0,[],[]) (fun g=>CY g false) some (some 0) ?_ ?_ N (by omega)).trans (first_some _)
  ·intro i hi k
   have h:=Jd N (l.getD i (0,[],[])) false hN (hs _ (getD_mem _ hi))
   simp (disch:=first | assumption | omega) only[A7,h,BU]
  ·intro k
   simp (disch:=first | assumption | omega) only[A7]
abbrev Pt:Type:=List Gn×Int×Bool×List (List Att)
def GZ (p:Pt):Prop:=FZ p.1/\G9 p.2.2.2/\ -9223372036854775808<=p.2.1/\p.2.1<=9223372036854775807
def ptI (p:Pt):Int :=
  bif (p.1.isEmpty&& !p.2.2.1)||(!p.2.2.2.isEmpty&& !p.2.2.1)then 7
  else bif Bi .andNot .i64 p.2.1 510 != 0 then 1
  else bif decide (16<p.1.length)then 2
  else bif Hr p.1 false != 0 then Hr p.1 false
  else bif !p.2.2.1 then 0
  else bif p.2.2.2.isEmpty then 14 else ER p.2.2.2
theorem WZ (N:Nat) (p:Pt) (hN:1048578<N) (hs:GZ p):Io N p=some (ptI p):=by
  obtain⟨g,r,b,n⟩:=p
  have hg:FZ g:=hs.1
  have hn:G9 n:=hs.2.1
  unfold Io ptI
  try simp only[clR]
  simp only[GL,U5,len0,fE]
  have e: ∀ x y:Bool,(bif x then(bif x then some (7:Int)else none)else none)=(bif x then some 7 else none):=fun x y=>by cases x<;>rfl
  rw[show decide (((g.length:Nat):Int)>16)=decide (16<g.length)from Wj _ 16]
  cases g.isEmpty&& !b with
  | true=>rfl
  | false =>
    rw[cond_false,Bool.false_or]
    cases (!n.isEmpty&& !b)with
    | true=>rfl
    | false =>
      rw[cond_false,cond_false]
      cases Bi .andNot .i64 r 510 != 0 with
      | true=>rfl
      | false =>
        rw[cond_false,cond_false]
        by_cases h16:16<g.length
        ·rw[decide_eq_true h16];rfl
        ·rw[decide_eq_false h16,cond_false,cond_false,NK N g hN (by omega) hg,Ae,Na N n hN hn,Ae,Bh,Bh,Bh]
theorem Gg (N:Nat) (l:List Pt) (hN:1048578<N) (hs: ∀ p∈l,GZ p):BO N l=some (bif decide (4<l.length)then 2 else AU ptI l):=by
  unfold BO
  rw[show decide (((l.length:Nat):Int)>4)=decide (4<l.length)from Wj _ 4]
  by_cases h4:4<l.length
  ·rw[decide_eq_true h4];rfl
  ·rw[decide_eq_false h4,cond_false,cond_false]
   refine(QC (mk:=fun i=>(i:Int)) l ([],0,false,[]) ptI some (some 0) ?_ ?_ N (by omega)).trans (first_some _)
   ·intro i hi k
    have h:=WZ N (l.getD i ([],0,false,[])) hN (hs _ (getD_mem _ hi))
    simp (disch:=first | assumption | omega) only[A7,h,BU]
   ·intro k
    simp (disch:=first | assumption | omega) only[A7]
abbrev St2:Type:=List Gn×List Gn
def Qh (s:St2):Int:=bif s.1.isEmpty&&s.2.isEmpty then 7 else bif decide (16<s.1.length)||decide (16<s.2.length)then 2 else AU (fun g=>CY g true) (s.1++s.2)
theorem NF (N:Nat) (s:St2) (hN:1048578<N) (h1:FZ s.1) (h2:FZ s.2):Du N s=some (Qh s):=by
  obtain⟨a,b⟩:=s
  unfold Du Qh
  try simp only[clR]
  rw[len0,len0,show decide (((a.length:Nat):Int)>16)=decide (16<a.length)from Wj _ 16,show decide (((b.length:Nat):Int)>16)=decide (16<b.length)from Wj _ 16]
  cases a.isEmpty&&b.isEmpty with
  | true=>rfl
  | false =>
    rw[cond_false,cond_false]
    by_cases h:16<a.length\/16<b.length
    ·have hb:(decide (16<a.length)||decide (16<b.length))=true:=by simpa using h
     rw[hb];rfl
    ·have hb:(decide (16<a.length)||decide (16<b.length))=false:=by simpa using h
     rw[hb,cond_false,cond_false]
     refine(QC (mk:=fun i=>((i:Int),[a,b])) [a,b] [] (fun l=>AU (fun g=>CY g true) l) some (some 0) ?_ ?_ N (by show 2<N;omega)).trans ?_
     ·intro i hi k
      have hi:i<2:=hi
      have hm:FZ ([a,b].getD i []):=by
        have:i=0\/i=1:=by omega
        rcases this with rfl | rfl
        ·exact h1
        ·exact h2
      have hml:([a,b].getD i []).length<=16:=by
        have:i=0\/i=1:=by omega
        rcases this with rfl | rfl
        ·show a.length<=16;omega
        ·show b.length<=16;omega
      have h22: [a,b].length=2:=rfl
      simp (disch:=first | assumption | omega) only[A7,h22]
      refine(QC (mk:=fun j=>((j:Int),[a,b])) ([a,b].getD i []) (0,[],[]) (fun g=>CY g true) some (k ((i+1:Nat),[a,b])) ?_ ?_ N (by omega)).trans rfl
      ·intro j hj k
       have h:=Jd N (([a,b].getD i []).getD j (0,[],[])) true hN (hm _ (getD_mem _ hj))
       simp (disch:=first | assumption | omega) only[A7,h,BU]
      ·intro k
       simp (disch:=first | assumption | omega) only[A7]
       rfl
     ·intro k
      rfl
     ·rw[first_some,Abr]
      rw[JU,JU]
      have e: ∀ x:Int,(bif x != 0 then x else AU (fun l=>AU (fun g=>CY g true) l) ([]:List (List Gn)))=x:=fun x=>by
        by_cases hx:x=0
        ·subst hx;rfl
        ·rw[show(x != 0)=true from bne_iff_ne.2 hx];rfl
      rw[e]
def EI (s:Bs):Bool:=(FB s).isSome
def FK (s:Bs):Prop:=s.length<=1048576
theorem OJ (N:Nat) (s:Bs) (hN:1048578<N) (hs:FK s):BF N s=some (EI s):=(xG N s (by omega) hs (by unfold FK at hs;omega)).1
theorem xX (a b:Bs):(a==b)=(b==a):=Bool.beq_comm
def idI (l:List Bs) (i:Nat):Int:=bif !EI (l.getD i [])then 11 else bif (l.take i).any (fun x=>x==l.getD i [])then 10 else 0
def Wv (l:List Bs) (m:Int):Int:=bif decide ((l.length:Int)>m)then 2 else AU (idI l) (List.range l.length)
theorem kZ (N:Nat) (l:List Bs) (m:Int) (hN:1048578<N) (hl:l.length<=1048576) (hs: ∀ s∈l,FK s):Hf N l m=some (Wv l m):=by
  unfold Hf Wv
  cases decide ((l.length:Int)>m)with
  | true=>rfl
  | false =>
    rw[cond_false,cond_false]
    refine(YD (mk:=fun i=>(i:Int)) l.length (idI l) some (some 0) ?_ ?_ N (by omega)).trans (first_some _)
    ·intro i hi k
     have hv:=OJ N _ hN (hs _ (getD_mem [] hi))
     unfold idI
     simp (disch:=first | assumption | omega) only[A7,hv,dE]
     cases EI (l.getD i [])with
     | false=>rfl
     | true =>
       rw[Bool.not_true,cond_false,cond_false]
       refine(SN (mk:=fun j=>(j:Int)) (l.take i) [] (fun x=>x==l.getD i []) (some 10) (k ((i+1:Nat):Int)) ?_ ?_ N (by rw[List.length_take];omega)).trans ?_
       ·intro j hj k
        have hlt:(l.take i).length=i:=by rw[List.length_take];omega
        have hj2:j<i:=by omega
        simp (disch:=first | assumption | omega) only[A7,hlt,BU]
        rw[xX]
       ·intro k
        have hlt:(l.take i).length=i:=by rw[List.length_take];omega
        simp (disch:=first | assumption | omega) only[A7,hlt,BU]
       ·cases (l.take i).any (fun x=>x==l.getD i [])<;>rfl
    ·intro k
     simp (disch:=first | assumption | omega) only[A7]
def mpI (l:List (Bs×Bs)) (i:Nat):Int:=bif !EI (l.getD i ([],[])).1|| !EI (l.getD i ([],[])).2 then 11 else bif (l.take i).any (fun x=>x.1==(l.getD i ([],[])).1&&x.2==(l.getD i ([],[])).2)then 10 else 0
def fM (l:List (Bs×Bs)):Int:=bif decide (8<l.length)then 2 else AU (mpI l) (List.range l.length)
def Aeb (m:Bs×Bs):Prop:=FK m.1/\FK m.2
theorem nY (N:Nat) (l:List (Bs×Bs)) (hN:1048578<N) (hs: ∀ s∈l,Aeb s):Gu N l=some (fM l):=by
  unfold Gu fM
  try simp only[clR]
  rw[show decide (((l.length:Nat):Int)>8)=decide (8<l.length)from Wj _ 8]
  by_cases h8:8<l.length
  ·rw[decide_eq_true h8];rfl
  ·rw[decide_eq_false h8,cond_false,cond_false]
   refine(YD (mk:=fun i=>(i:Int)) l.length (mpI l) some (some 0) ?_ ?_ N (by omega)).trans (first_some _)
   ·intro i hi k
    have hm:=hs _ (getD_mem ([],[]) hi)
    have hv1:=OJ N _ hN hm.1
    have hv2:=OJ N _ hN hm.2
    unfold mpI
    simp (disch:=first | assumption | omega) only[A7,hv1,hv2,dE,Option.isSome_some,Option.getD_some]
    cases (!EI (l.getD i ([],[])).1|| !EI (l.getD i ([],[])).2)with
    | true=>rfl
    | false =>
      rw[cond_false,cond_false]
      refine(SN (mk:=fun j=>((j:Int),(l.getD i ([],[])).1,(l.getD i ([],[])).2)) (l.take i) ([],[]) (fun x=>x.1==(l.getD i ([],[])).1&&x.2==(l.getD i ([],[])).2) (some 10) (k ((i+1:Nat):Int)) ?_ ?_ N (by rw[List.length_take];omega)).trans ?_
      ·intro j hj k
       have hlt:(l.take i).length=i:=by rw[List.length_take];omega
       have hj2:j<i:=by omega
       simp (disch:=first | assumption | omega) only[A7,hlt,BU]
       rw[xX,xX (l.getD i ([],[])).2]
      ·intro k
       have hlt:(l.take i).length=i:=by rw[List.length_take];omega
       simp (disch:=first | assumption | omega) only[A7,hlt,BU]
      ·cases (l.take i).any (fun x=>x.1==(l.getD i ([],[])).1&&x.2==(l.getD i ([],[])).2)<;>rfl
   ·intro k
    simp (disch:=first | assumption | omega) only[A7]
abbrev Ex:Type:=Bs×Bool×Bs
abbrev Rw:Type:=Bs×Int×Nat×Nat×Nat
def Cm:List Rw:=(Gm 0).getD []
def Aog:List Bs:=(AeY 0).getD []
def fC (s:Bs):Bool:=Aog.any (fun x=>x==s)
theorem AlO:Cm.map (·.1)=Aog:=by decide +kernel
theorem qJ:Cm.length=13:=by decide +kernel
theorem find_eq (N:Nat) (s:Bs) (hN:1048578<N): ∃ r,Bq N s=some (r,fC s):=by
  unfold Bq
  rw[show Gm N=some Cm from rfl,Ae]
  have hl:=qJ
  refine⟨_,(NV (S:=Unit) (R:=Rw) (mk:=fun i _=>(i:Int)) Cm ([],0,0,0,0) (fun r _=>bif r.1==s then .inl r else .inr ()) (fun r=>some (r,true)) (fun _=>some (([],0,0,0,0),false)) ?_ ?_ N () (by omega)).trans (?_:_=some ((FC (fun(r:Rw) (_:Unit)=>bif r.1==s then Sum.inl r else Sum.inr ()) Cm ()).elim id (fun _=>([],0,0,0,0)),fC s))⟩
  ·intro i _ hi k
   simp (disch:=first | assumption | omega) only[A7,BU]
  ·intro _ k
   simp (disch:=first | assumption | omega) only[A7]
  ·unfold fC
   rw[<- AlO]
   generalize Cm=l
   induction l with
   | nil=>rfl
   | cons r t ih =>
     rw[Fh,List.map_cons,List.any_cons]
     cases r.1==s with
     | true=>rfl
     | false=>exact ih
def unI (l:List Ex) (i:Nat):Int:=bif !EI (l.getD i ([],false,[])).1 then 11 else bif fC (l.getD i ([],false,[])).1 then 20 else bif (l.take i).any (fun x=>x.1==(l.getD i ([],false,[])).1)then 10 else Sp.chk (l.getD i ([],false,[])).2.2
def Aay (l:List Ex):Int:=AU (unI l) (List.range l.length)
def Aec (x:Ex):Prop:=FK x.1/\FK x.2.2
theorem rV (N:Nat) (l:List Ex) (hN:1048578<N) (hl:l.length<=1048576) (hs: ∀ x∈l,Aec x):Fa N l=some (Aay l):=by
  unfold Fa Aay
  try simp only[clR]
  refine(YD (mk:=fun i=>(i:Int)) l.length (unI l) some (some 0) ?_ ?_ N (by omega)).trans (first_some _)
  ·intro i hi k
   have hm:=hs _ (getD_mem ([],false,[]) hi)
   have hv:=OJ N _ hN hm.1
   obtain⟨r,hf⟩:=find_eq N (l.getD i ([],false,[])).1 hN
   have hc:=Ael N (l.getD i ([],false,[])).2.2 (by omega) (by have:=hm.2;unfold FK at this;omega) (by have:=hm.2;unfold FK at this;omega)
   unfold unI
   simp (disch:=first | assumption | omega) only[A7,hv,hf,dE]
   cases EI (l.getD i ([],false,[])).1 with
   | false=>rfl
   | true =>
     rw[Bool.not_true,cond_false,cond_false]
     cases fC (l.getD i ([],false,[])).1 with
     | true=>rfl
     | false =>
       rw[cond_false,cond_false]
       refine(SN (mk:=fun j=>((j:Int),(l.getD i ([],false,[])).1,(l.getD i ([],false,[])).2.1,(l.getD i ([],false,[])).2.2)) (l.take i) ([],false,[]) (fun x=>x.1==(l.getD i ([],false,[])).1) (some 10) (bif Sp.chk (l.getD i ([],false,[])).2.2 != 0 then some (Sp.chk (l.getD i ([],false,[])).2.2)else k ((i+1:Nat):Int)) ?_ ?_ N (by rw[List.length_take];omega)).trans ?_
       ·intro j hj k
        have hlt:(l.take i).length=i:=by rw[List.length_take];omega
        have hj2:j<i:=by omega
        simp (disch:=first | assumption | omega) only[A7,hlt,BU]
       ·intro k
        have hlt:(l.take i).length=i:=by rw[List.length_take];omega
        simp (disch:=first | assumption | omega) only[A7,hlt,hc,BU]
       ·cases (l.take i).any (fun x=>x.1==(l.getD i ([],false,[])).1)<;>rfl
  ·intro k
   simp (disch:=first | assumption | omega) only[A7]
theorem Ai0 {X Y ρ :Type} {B:X->(X->Option ρ)->(Y->Option ρ)->Option ρ} {kx:Y->Option ρ} (mk:Nat->Int->X) (l:List Bool) (fin:Int->Option ρ) (s0:Nat) (hs0:s0+l.length<=1099511627776)
    (h: ∀(i:Nat) (s:Int),i<l.length->0<=s->s<=1099511627776-> ∀ k,B (mk i s) k kx=bif l.getD i false then k (mk (i+1) (s+1))else k (mk (i+1) s))
    (hend: ∀(s:Int) (k:X->Option ρ),B (mk l.length s) k kx=fin s) (N:Nat) (hN:l.length<N):Ap B N (mk 0 (s0:Int)) kx=fin ((s0+l.count true:Nat):Int):=by
  refine(NW (S:=Nat) (R:=Unit) (mk:=fun i s=>mk i (s:Int)) l false (fun i s=>s<=s0+i) (fun b s=>.inr (bif b then s+1 else s)) (fun _=>none) (fun s=>fin (s:Int)) ?_ ?_ (fun s k _=>hend s k) N s0 (Nat.le_refl _) hN).trans ?_
  ·intro i s hi hI k
   rw[h i s hi (by omega) (by omega)]
   cases l.getD i false<;>rfl
  ·intro i s s' hi hI he
   injection he with he
   subst he
   cases l.getD i false
   ·show s<=_;omega
   ·show s+1<=_;omega
  ·have: ∀(l:List Bool) (s:Nat),FC (R:=Unit) (fun b (s:Nat)=>.inr (bif b then s+1 else s)) l s= .inr (s+l.count true):=by
     intro l
     induction l with
     | nil=>intro s;rfl
     | cons b r ih =>
       intro s
       rw[Fh]
       show FC (R:=Unit) _ r _=_
       rw[ih]
       cases b with
       | true=>rw[List.count_cons_self];congr 1;show s+1+_=_;omega
       | false=>rw[List.count_cons_of_ne (by decide)];rfl
   rw[this];rfl
abbrev Info:Type:=Bool×Bool×Int×Int×List Bs×List Bs×List (Bs×Bs)×Int×Int×Int×List Gn×Bool×List Gn×List Gn×Bs×Bs×List Pt×List Pt×List Ex
def spI (n:Int):Bool:=decide (n>= -1)&&decide (n<=64)
def oN:Info->List Bool
  | (hb,_,_,us,pu,po,ma,re,im,ia,na,hc,_,_,sk,ak,pt,fr,_)=>[hb,us != 0,decide (((pu.length:Nat):Int)>0),decide (((po.length:Nat):Int)>0),decide (((ma.length:Nat):Int)>0),re != -1||im != -1,ia != -1,decide (((na.length:Nat):Int)>0),hc,!(sk==[]),!(ak==[]),decide (((pt.length:Nat):Int)>0),decide (((fr.length:Nat):Int)>0)]
def Y7 (hc:Bool) (s:St2):Int:=bif hc then Qh s else bif !s.1.isEmpty|| !s.2.isEmpty then 7 else 0
def FY (l:List Pt):Int:=bif decide (4<l.length)then 2 else AU ptI l
def J3:Info->Int
  | (hb,ca,pl,us,pu,po,ma,re,im,ia,na,hc,pe,ex,sk,ak,pt,fr,un) =>
    bif (ca&& !hb)||(pl != -1&& !ca)then 7
    else bif !spI pl|| !spI re|| !spI im|| !spI ia||decide (us<0)||decide (us>511)then 1
    else bif Wv pu 8 != 0 then Wv pu 8
    else bif Wv po 8 != 0 then Wv po 8
    else bif fM ma != 0 then fM ma
    else bif decide (16<na.length)then 2
    else bif Hr na false != 0 then Hr na false
    else bif Y7 hc (pe,ex) != 0 then Y7 hc (pe,ex)
    else bif decide (32<sk.length)||decide (32<ak.length)then 2
    else bif FY pt != 0 then FY pt
    else bif FY fr != 0 then FY fr
    else bif decide (24<un.length+(oN (hb,ca,pl,us,pu,po,ma,re,im,ia,na,hc,pe,ex,sk,ak,pt,fr,un)).count true)then 2
    else Aay un
structure KG (x:Info):Prop where
  pu:x.2.2.2.2.1.length<=1048576/\ ∀ s∈x.2.2.2.2.1,FK s
  po:x.2.2.2.2.2.1.length<=1048576/\ ∀ s∈x.2.2.2.2.2.1,FK s
  ma: ∀ s∈x.2.2.2.2.2.2.1,Aeb s
  na:FZ x.2.2.2.2.2.2.2.2.2.2.1
  pe:FZ x.2.2.2.2.2.2.2.2.2.2.2.2.1
  ex:FZ x.2.2.2.2.2.2.2.2.2.2.2.2.2.1
  pt: ∀ p∈x.2.2.2.2.2.2.2.2.2.2.2.2.2.2.2.2.1,GZ p
  fr: ∀ p∈x.2.2.2.2.2.2.2.2.2.2.2.2.2.2.2.2.2.1,GZ p
  un:x.2.2.2.2.2.2.2.2.2.2.2.2.2.2.2.2.2.2.length<=1048576/\ ∀ p∈x.2.2.2.2.2.2.2.2.2.2.2.2.2.2.2.2.2.2,Aec p
theorem aC (N:Nat) (x:Info) (hN:1048578<N) (hx:KG x):EZ N x=some (Y7 x.2.2.2.2.2.2.2.2.2.2.2.1 (x.2.2.2.2.2.2.2.2.2.2.2.2.1,x.2.2.2.2.2.2.2.2.2.2.2.2.2.1)):=by
  unfold EZ
  try simp only[clR]
  unfold Y7
  rw[NF N (x.2.2.2.2.2.2.2.2.2.2.2.2.1,x.2.2.2.2.2.2.2.2.2.2.2.2.2.1) hN hx.pe hx.ex,Ae,fE,fE,Bh,Bh]
theorem AcL (N:Nat) (x:Info) (i:Nat) (hi:i<13):iM N (Cm.getD i ([],0,0,0,0)).2.2.1 x=some ((oN x).getD i false):=by
  obtain⟨hb,ca,pl,us,pu,po,ma,re,im,ia,na,hc,pe,ex,sk,ak,pt,fr,un⟩:=x
  have:i=0\/i=1\/i=2\/i=3\/i=4\/i=5\/i=6\/i=7\/i=8\/i=9\/i=10\/i=11\/i=12:=by omega
  rcases this with rfl | rfl | rfl | rfl | rfl | rfl | rfl | rfl | rfl | rfl | rfl | rfl | rfl
  all_goals first | rfl | skip
  show IX N _=_
  unfold IX
  try simp only[clR]
  rfl
theorem An1 (N:Nat) (n:Int):Ez N n=some (spI n):=by
  unfold Ez
  try simp only[clR]
  rfl
theorem Tq (N:Nat) (x:Info) (hN:1048578<N) (hx:KG x):Ia N x=some (J3 x):=by
  have hcon:=aC N x hN hx
  have hdisp:=AcL N x
  have hlen13:(oN x).length=13:=rfl
  have hrl:=qJ
  obtain⟨hb,ca,pl,us,pu,po,ma,re,im,ia,na,hc,pe,ex,sk,ak,pt,fr,un⟩:=x
  have e1:=kZ N pu 8 hN hx.pu.1 hx.pu.2
  have e2:=kZ N po 8 hN hx.po.1 hx.po.2
  have e3:=nY N ma hN hx.ma
  have e4:BO N pt=some (FY pt):=Gg N pt hN hx.pt
  have e5:BO N fr=some (FY fr):=Gg N fr hN hx.fr
  have hun:un.length<=1048576:=hx.un.1
  unfold Ia J3
  try simp only[clR]
  simp only[An1,e1,e2,e3,e4,e5,hcon,Option.isSome_some,Option.getD_some,Bool.true_or,AP,Ae,Ap2]
  rw[<- Bh];refine BR fun h1=> ?_
  rw[<- Bh];refine BR fun h2=> ?_
  rw[<- Bh];refine BR fun h3=> ?_
  rw[<- Bh];refine BR fun h4=> ?_
  rw[<- Bh];refine BR fun h5=> ?_
  rw[show decide (((na.length:Nat):Int)>16)=decide (16<na.length)from Wj _ 16]
  rw[<- Bh];refine BR fun h6=> ?_
  rw[NK N na hN (by have:=of_decide_eq_false h6;omega) hx.na,Ae]
  rw[<- Bh];refine BR fun h7=> ?_
  rw[<- Bh];refine BR fun h8=> ?_
  rw[show decide (((sk.length:Nat):Int)>32)=decide (32<sk.length)from Wj _ 32,show decide (((ak.length:Nat):Int)>32)=decide (32<ak.length)from Wj _ 32]
  rw[<- Bh];refine BR fun h9=> ?_
  rw[<- Bh];refine BR fun h10=> ?_
  rw[<- Bh];refine BR fun h11=> ?_
  rw[show Gm N=some Cm from rfl,Ae]
  refine(Ai0 (mk:=fun i s=>(s,(i:Int),hb,ca,pl,us,pu,po,ma,re,im,ia,na,hc,pe,ex,sk,ak,pt,fr,un)) (oN (hb,ca,pl,us,pu,po,ma,re,im,ia,na,hc,pe,ex,sk,ak,pt,fr,un)) (fun s=>bif decide (s>24)then some 2 else Ac (Fa N un) fun r=>some r) un.length (by omega) ?_ ?_ N (by omega)).trans ?_
  ·intro i s hi h0 h1 k
   have hd:=hdisp i (by omega)
   dsimp only[U21]
   simp (disch:=first | assumption | omega) only[A7,hd,BU]
  ·intro s k
   dsimp only[U21]
   simp (disch:=first | assumption | omega) only[A7,hlen13,hrl]
   rfl
  ·rw[rV N un hN hun hx.un.2,Ae,show ∀ n:Nat,decide ((n:Int)>24)=decide (24<n)from fun n=>Wj n 24,Bh]
theorem Ao7 {n:Int} (h:spI n=true): -1<=n/\n<=64:=by
  unfold spI at h
  rw[Bool.and_eq_true,decide_eq_true_eq,decide_eq_true_eq]at h
  exact⟨h.1,h.2⟩
theorem Aeo {t:Nat} {c:Bs} (h:c.length<=131072):JD t c=some (Sp.elem t c):=by unfold JD;rw[if_pos h]
theorem Zt (N t:Nat) (l:List Bs) (ht:t<256) (h31:t % 32≠31) (hN:1048578<N) (hl:l.length<=1000) (hs:l.flatten.length<=131072):Cb N (t:Int) l=some (Sp.elem t l.flatten,0):=by
  rw[WO N t l ht h31 (by omega) (by omega),Aeo hs];rfl
theorem NI (N t:Nat) (b:Bool) (l:List Bs) (ht:t<256) (h31:t % 32≠31) (hN:1048578<N) (hl:l.length<=1000) (hs:l.flatten.length<=131072):Aj N b (t:Int) l=some (Sp.elem t l.flatten,b):=by
  rw[Afp N t b l ht h31 (by omega) (by omega),Aeo hs];simp
theorem CU (a:Bs): [a].flatten=a:=by simp
theorem Sj (a b:Bs): [a,b].flatten=a++b:=by simp
theorem flat3 (a b c:Bs): [a,b,c].flatten=a++(b++c):=by simp
def FX (s:Bs):Bs:=(encR (FB s)).1
theorem iW {s:Bs} (h:EI s=true):encR (FB s)=(FX s,0)/\(FX s).length<=60:=by
  unfold EI at h
  unfold FX
  cases ha:FB s with
  | none=>rw[ha]at h;cases h
  | some l =>
    refine⟨rfl,?_⟩
    obtain⟨h1,h2,h3,h4⟩:=Yk ha
    show((dK l).map UInt8.ofNat).length<=60
    have hf:=(oG h1 h3 h4).1
    have hs:(Uz (40*l.getD 0 0+l.getD 1 0)).length<=5:=Zh _ hf
    have hr:=Ald Uz 5 (l.drop 2) (fun x hx=>Zh x (by have:=h3 x (List.mem_of_mem_drop hx);omega))
    unfold dK
    rw[List.length_map,List.length_append]
    rw[List.length_drop]at hr
    omega
def qX (e:Att):Prop:=EI e.1=true/\(e.2.1=12\/e.2.1=19\/e.2.1=22)/\e.2.2.length<=64
theorem Ame {k:Int} {v:Bs} (h:Ro k v=true):k=12\/k=19\/k=22:=by
  unfold Ro at h
  by_cases h1:k=12
  ·exact .inl h1
  ·rw[if_neg h1]at h
   by_cases h2:k=19
   ·exact .inr (.inl h2)
   ·rw[if_neg h2]at h
    by_cases h3:k=22
    ·exact .inr (.inr h3)
    ·rw[if_neg h3]at h;cases h
theorem AmD {e:Att} {s:List Att} (h:Ob e s=0):qX e/\Ro e.2.1 e.2.2=true/\e.2.2≠ []/\s.any (fun x=>x.1==e.1)=false:=by
  unfold Ob at h
  by_cases h1:FB e.1=none
  ·rw[if_pos h1]at h;cases h
  ·rw[if_neg h1]at h
   by_cases h2:e.2.2=[]\/Ro e.2.1 e.2.2=false
   ·rw[if_pos h2]at h;cases h
   ·rw[if_neg h2]at h
    by_cases h3:64<e.2.2.length
    ·rw[if_pos h3]at h;cases h
    ·rw[if_neg h3]at h
     have ht:Ro e.2.1 e.2.2=true:=by
       cases hq:Ro e.2.1 e.2.2 with
       | true=>rfl
       | false=>exact absurd (Or.inr hq) h2
     refine⟨⟨?_,Ame ht,by omega⟩,ht,fun hn=>h2 (Or.inl hn),?_⟩
     ·unfold EI
      cases hq:FB e.1 with
      | none=>exact absurd hq h1
      | some l=>rfl
     ·cases hq:s.any (fun x=>x.1==e.1)with
      | false=>rfl
      | true=>rw[hq,if_pos rfl]at h;cases h
theorem AjY {r:List Att} (h:Kr r=0):r≠ []/\r.length<=4/\ ∀ e∈r,qX e:=by
  unfold Kr at h
  by_cases h1:r=[]
  ·rw[if_pos h1]at h;cases h
  ·rw[if_neg h1]at h
   by_cases h2:4<r.length
   ·rw[if_pos h2]at h;cases h
   ·rw[if_neg h2]at h
    refine⟨h1,by omega,?_⟩
    unfold Ah8 at h
    have: ∀(l s:List Att),(IG PE (fun _=>some (0:Int)) l s).getD 0=0-> ∀ e∈l,qX e:=by
      intro l
      induction l with
      | nil=>intro s _ e he;cases he
      | cons x t ih =>
        intro s hs e he
        unfold IG PE at hs
        by_cases hx:Ob x s=0
        ·rw[if_pos hx]at hs
         rcases List.mem_cons.1 he with rfl | he
         ·exact(AmD hx).1
         ·exact ih _ hs e he
        ·rw[if_neg hx]at hs
         exact absurd hs hx
    exact this r [] h
theorem Ad7 {n:List (List Att)} (h:ER n=0):n.length<=8/\ ∀ r∈n,Kr r=0:=by
  unfold ER Sv at h
  by_cases h8:8<n.length
  ·rw[if_pos h8]at h;cases h
  ·rw[if_neg h8]at h
   refine⟨by omega,?_⟩
   have: ∀(l:List (List Att)) (s:Unit),(IG QL (fun _=>some (0:Int)) l s).getD 0=0-> ∀ e∈l,Kr e=0:=by
     intro l
     induction l with
     | nil=>intro s _ e he;cases he
     | cons x t ih =>
       intro s hs e he
       unfold IG QL at hs
       by_cases hx:Kr x=0
       ·rw[if_pos hx]at hs
        rcases List.mem_cons.1 he with rfl | he
        ·exact hx
        ·exact ih _ hs e he
       ·rw[if_neg hx]at hs
        exact absurd hs hx
   exact this n () h
def GI (e:Att):Bs:=Sp.elem 48 (Sp.elem 6 (FX e.1)++Sp.elem e.2.1.toNat e.2.2)
theorem Ak6 {e:Att} (h:qX e):(GI e).length<=139:=by
  have h1:=(iW h.1).2
  have h2:=h.2.2
  unfold GI
  have:=Sp.Ar 48 (Sp.elem 6 (FX e.1)++Sp.elem e.2.1.toNat e.2.2)
  have:=Sp.Ar 6 (FX e.1)
  have:=Sp.Ar e.2.1.toNat e.2.2
  rw[List.length_append]at *
  omega
def J8 (r:List Att):Bs:=Sp.elem 49 (EO (r.map GI))
theorem AaT (l:List Bs):(EO l).length=l.flatten.length:=by
  unfold EO
  rw[List.length_flatten,List.length_flatten]
  exact((List.mergeSort_perm l _).map _).sum_nat
theorem AdT {r:List Att} (h:Kr r=0):(J8 r).length<=561/\(r.map GI).flatten.length<=556:=by
  obtain⟨_,h4,ha⟩:=AjY h
  have h1:=Dy (g:=GI) (M:=139) (l:=r) (fun e he=>Ak6 (ha e he))
  have h2:=Sp.Ar 49 (EO (r.map GI))
  have h3:=AaT (r.map GI)
  unfold J8
  omega
def nmB (n:List (List Att)):Bs:=Sp.elem 48 (n.map J8).flatten
theorem Aaa {n:List (List Att)} (h:ER n=0):(nmB n).length<=4493/\(n.map J8).flatten.length<=4488:=by
  obtain⟨h8,hr⟩:=Ad7 h
  have h1:=Dy (g:=J8) (M:=561) (l:=n) (fun e he=>(AdT (hr e he)).1)
  have h2:=Sp.Ar 48 (n.map J8).flatten
  unfold nmB
  omega
theorem Alu {k:Int} (h:k=12\/k=19\/k=22):k=(k.toNat:Int)/\k.toNat<256/\k.toNat % 32≠31:=by omega
theorem dL (N:Nat) (e:Att) (hN:1048578<N) (hs:MV e) (h:qX e):Gw N e=some (GI e,0):=by
  obtain⟨o1,o2⟩:=iW h.1
  obtain⟨k1,k2,k3⟩:=Alu h.2.1
  have h64:=h.2.2
  have l1:=Sp.Ar 6 (FX e.1)
  have l2:=Sp.Ar e.2.1.toNat e.2.2
  have w1:Cb N 6 [FX e.1]=_:=Zt N 6 [FX e.1] (by omega) (by omega) hN (by simp) (by rw[CU];omega)
  have w2:=Zt N e.2.1.toNat [e.2.2] k2 k3 hN (by simp) (by rw[CU];omega)
  have w3:Cb N 48 [Sp.elem 6 (FX e.1),Sp.elem e.2.1.toNat e.2.2]=_:=Zt N 48 [Sp.elem 6 (FX e.1),Sp.elem e.2.1.toNat e.2.2] (by omega) (by omega) hN (by simp) (by rw[Sj,List.length_append];omega)
  rw[CU]at w1 w2
  rw[Sj]at w3
  rw[<- k1]at w2
  unfold Gw
  rw[Zz N e.1 (by omega) hs.1,o1]
  simp only[Ae]
  rw[w1,Ae,w2,Ae,w3,Ae]
  rfl
theorem Akh {n:List (List Att)} (h:G9 n) {i:Nat} (hi:i<n.length): ∀ e∈n.getD i [],MV e:=fun e he=>h _ (getD_mem [] hi) e he
theorem sJ (N:Nat) (n:List (List Att)) (hN:1048578<N) (hs:G9 n):Ox N n=some (bif ER n != 0 then([],ER n)else(nmB n,0)):=by
  unfold Ox
  try simp only[clR]
  rw[Na N n hN hs,Ae,<- Bh]
  refine BR fun h0=> ?_
  have h0:ER n=0:=by simpa using h0
  obtain⟨h8,hr⟩:=Ad7 h0
  have hnl:=Aaa h0
  refine(Lc (mk:=fun i acc=>((i:Int),acc)) n [] J8 (fun l=>Ac (Cb N 48 l) fun r62=>some (r62.fst,r62.snd)) ?_ ?_ N (by omega)).trans ?_
  ·intro i acc hi hacc k
   have hri:=hr _ (getD_mem [] hi)
   have hsi:=Akh hs hi
   obtain⟨r0,r4,ra⟩:=AjY hri
   have hrl:=AdT hri
   have hpos:=List.length_pos_iff.2 r0
   dsimp only[U2]
   rw[Int.toNat_natCast]
   generalize n.getD i []=r at *
   simp (disch:=first | assumption | omega) only[A7]
   refine(Lc (mk:=fun j a=>((j:Int),a,acc)) r ([],0,[]) GI (fun l=>Ac (Lp N l) fun r48=>Ac (Cb N 49 [r48]) fun r50=>bif r50.snd != 0 then some ([],r50.snd)else chk (decide ((acc.length+1)*17<=140737488355328)) (k ((i:Int)+1,acc++[r50.fst]))) ?_ ?_ N (by omega)).trans ?_
   ·intro j a hj ha k
    have he:=dL N _ hN (hsi _ (getD_mem ([],0,[]) hj)) (ra _ (getD_mem ([],0,[]) hj))
    simp (disch:=first | assumption | omega) only[A7,he,BU]
   ·intro a k ha
    simp (disch:=first | assumption | omega) only[A7]
   ·have w:Cb N 49 [EO (r.map GI)]=_:=Zt N 49 [EO (r.map GI)] (by omega) (by omega) hN (by simp) (by rw[CU,AaT];omega)
    rw[CU]at w
    unfold Lp
    rw[Aho (by rw[List.length_map];omega),vF (by rw[List.length_map];omega),vF (by omega)]
    simp only[Bool.and_self,cond_true,Ae]
    rw[w,Ae]
    simp (disch:=first | assumption | omega) only[A7,BU]
    rfl
  ·intro acc k ha
   simp (disch:=first | assumption | omega) only[A7]
  ·have w:Cb N 48 (n.map J8)=_:=Zt N 48 (n.map J8) (by omega) (by omega) hN (by rw[List.length_map];omega) (by omega)
   rw[w,Ae];rfl
def Cc (g:Gn):Bs:=bif g.1==4 then Sp.elem 164 (nmB g.2.2)else Sp.elem (128+g.1).toNat g.2.1
theorem Al1 {s:Bs} (h:Qq s=true):s.length<=128:=by
  rcases Nat.lt_or_ge 128 s.length with hl | hl
  ·rw[Ahf hl]at h;cases h
  ·exact hl
theorem Afy {s:Bs} (h:Wq s=true):s.length<=128:=by
  rcases Nat.lt_or_ge 128 s.length with hl | hl
  ·rw[Ai6 hl]at h;cases h
  ·exact hl
theorem AmW {k:Int} {s:Bs} {c:Bool} (h:yZ k s c=true):s.length<=128/\(k=1\/k=2\/k=7):=by
  unfold yZ at h
  by_cases h1:k=1
  ·subst h1
   refine⟨?_,.inl rfl⟩
   rw[MJ rfl,cond_true]at h
   cases c with
   | true =>
     unfold mbP at h
     rw[cond_true,Bool.and_eq_true,decide_eq_true_eq]at h
     exact h.1
   | false=>exact Al1 h
  ·rw[Og h1,cond_false]at h
   by_cases h2:k=2
   ·subst h2
    refine⟨?_,.inr (.inl rfl)⟩
    rw[MJ rfl,cond_true]at h
    cases c with
    | true =>
      unfold xU at h
      rw[cond_true,Bool.or_eq_true]at h
      rcases h with h | h
      ·have:s=[]:=by simpa using h
       subst this;exact Nat.zero_le _
      ·exact Afy h
    | false =>
      rw[cond_false]at h
      unfold Aad at h
      cases hq:Lib.hasPrefix s [42,46]with
      | true =>
        rw[hq,cond_true,Bool.and_eq_true,Bool.and_eq_true,decide_eq_true_eq]at h
        exact h.1.1
      | false=>rw[hq]at h;exact Afy h
   ·rw[Og h2,cond_false]at h
    by_cases h7:k=7
    ·subst h7
     refine⟨?_,.inr (.inr rfl)⟩
     rw[MJ rfl,cond_true]at h
     cases c with
     | true =>
       rw[cond_true]at h
       unfold Aap at h
       cases hq:(decide (s.length=8)||decide (s.length=32))with
       | false=>rw[hq]at h;cases h
       | true=>rw[Bool.or_eq_true,decide_eq_true_eq,decide_eq_true_eq]at hq;omega
     | false =>
       rw[cond_false]at h
       unfold xM at h
       rw[Bool.or_eq_true,decide_eq_true_eq,decide_eq_true_eq]at h;omega
    ·rw[Og h7]at h;cases h
theorem Af4 {g:Gn} {c:Bool} (h:CY g c=0):(g.1=4/\g.2.1=[]/\ER g.2.2=0)\/((g.1=1\/g.1=2\/g.1=7)/\g.2.1.length<=128/\g.2.2=[]/\yZ g.1 g.2.1 c=true):=by
  unfold CY at h
  by_cases h4:g.1=4
  ·rw[MJ h4,cond_true]at h
   cases hq:g.2.1==[]with
   | true=>rw[hq]at h;exact .inl ⟨h4,by simpa using hq,h⟩
   | false=>rw[hq]at h;cases h
  ·rw[Og h4,cond_false]at h
   cases hq:yZ g.1 g.2.1 c&&g.2.2.isEmpty with
   | false=>rw[hq]at h;cases h
   | true =>
     rw[Bool.and_eq_true]at hq
     obtain⟨h1,h2⟩:=AmW hq.1
     exact .inr ⟨h2,h1,by simpa using hq.2,hq.1⟩
theorem TV {g:Gn} {c:Bool} (h:CY g c=0):(Cc g).length<=4498:=by
  unfold Cc
  rcases Af4 h with ⟨h1,_,h3⟩ | ⟨h1,h2,_,_⟩
  ·rw[MJ h1,cond_true]
   have:=Sp.Ar 164 (nmB g.2.2)
   have:=(Aaa h3).1
   omega
  ·rw[Og (by omega),cond_false]
   have:=Sp.Ar (128+g.1).toNat g.2.1
   omega
def oJ (g:Gn) (c:Bool):Bs×Int:=bif CY g c != 0 then([],CY g c)else(Cc g,0)
theorem O5 (N:Nat) (g:Gn) (c:Bool) (hN:1048578<N) (hs:JQ g):Gq N g c=some (oJ g c):=by
  unfold Gq oJ
  try simp only[clR]
  rw[Jd N g c hN hs,Ae,<- Bh]
  refine BR fun h0=> ?_
  have h0:CY g c=0:=by simpa using h0
  unfold Cc
  rcases Af4 h0 with ⟨h1,_,h3⟩ | ⟨h1,h2,_,_⟩
  ·have hl:=(Aaa h3).1
   have w:Cb N 164 [nmB g.2.2]=_:=Zt N 164 [nmB g.2.2] (by omega) (by omega) hN (by simp) (by rw[CU];omega)
   rw[CU]at w
   rw[rD h1,cond_false,MJ h1,cond_true,sJ N g.2.2 hN hs.2,Ae,h3,h1]
   show Ac (Cb N 164 [nmB g.2.2]) _=_
   rw[w,Ae]
  ·have hk:(128+g.1)=((128+g.1).toNat:Int):=by omega
   have w:=Zt N (128+g.1).toNat [g.2.1] (by omega) (by omega) hN (by simp) (by rw[CU];omega)
   rw[CU,<- hk]at w
   rw[AcC (by omega),cond_true,Og (by omega),cond_false,w64 (by omega) (by omega),w,Ae]
def Vl (c:Bool) (g:Gn):Bs:=bif CY g c != 0 then []else Cc g
theorem AiY (c:Bool) (g:Gn):(Vl c g).length<=4498:=by
  unfold Vl
  cases h:CY g c != 0 with
  | true=>exact Nat.zero_le _
  | false=>exact TV (c:=c) (by simpa using h)
theorem Aob (g:Gn) (c:Bool):oJ g c=(Vl c g,CY g c):=by
  unfold oJ Vl
  cases h:CY g c != 0 with
  | true=>rfl
  | false=>rw[show CY g c=0 by simpa using h];rfl
theorem AiZ {c:Bool} {l:List Gn} (h:AU (fun g=>CY g c) l=0):l.map (Vl c)=l.map Cc:=by
  refine List.map_congr_left fun g hg=> ?_
  have:=NU h g hg
  unfold Vl
  rw[show CY g c=0 from this];rfl
def BD (l:List Gn):Bs:=(l.map Cc).flatten
def Acm (l:List Gn):Bs×Int:=bif l.isEmpty then([],7)else bif decide (16<l.length)then([],2)else bif Hr l false != 0 then([],Hr l false)else(BD l,0)
theorem AaG {l:List Gn} {c:Bool} (h:AU (fun g=>CY g c) l=0) (h16:l.length<=16):(BD l).length<=71968:=by
  have:=Dy (g:=Cc) (M:=4498) (l:=l) (fun g hg=>TV (c:=c) (NU h g hg))
  unfold BD
  omega
theorem P7 (N:Nat) (l:List Gn) (hN:1048578<N) (hs:FZ l):FT N l=some (Acm l):=by
  unfold FT Acm MM
  try simp only[clR]
  rw[len0,show decide (((l.length:Nat):Int)>16)=decide (16<l.length)from Wj _ 16]
  cases he:l.isEmpty with
  | true=>rfl
  | false =>
    rw[cond_false,cond_false]
    by_cases h16:16<l.length
    ·rw[decide_eq_true h16];rfl
    ·rw[decide_eq_false h16,cond_false,cond_false,Ae]
     show Ap _ N _ _=_
     refine(AkM (mk:=fun i t=>(t,(i:Int))) l (0,[],[]) (fun g=>CY g false) (Vl false) (fun e=>some ([],e)) (fun t=>some (t,0)) ?_ ?_ N (by omega)).trans ?_
     ·intro i t hi ht k
      have hg:=O5 N _ false hN (hs _ (getD_mem (0,[],[]) hi))
      have hl:=Dy (g:=Vl false) (M:=4498) (l:=l) (fun g _=>AiY false g)
      rw[Aob]at hg
      simp (disch:=first | assumption | omega) only[A7,hg,BU]
     ·intro t k
      simp (disch:=first | assumption | omega) only[A7]
     ·unfold Hr
      rw[<- Bh]
      refine BR fun h=> ?_
      rw[AiZ (by simpa using h)];rfl
def Qj:List Att:=[([50,46,53,46,52,46,51],12,[65,110,110]),([50,46,53,46,52,46,51],19,[32,97,110,110]),([50,46,53,46,52,46,51],12,[103,114,195,182,195,159,101]),([50,46,53,46,52,46,54],19,[85,83]),([50,46,53,46,52,46,49,48],19,[69,120,97,109,112,108,101,32,32,67,111,114,112]),([50,46,53,46,52,46,49,48],12,[101,120,97,109,112,108,101,32,99,111,114,112]),([50,46,53,46,52,46,49,49],22,[97,44,98,43,99,61,100,92,101]),([48,46,57,46,50,51,52,50,46,49,57,50,48,48,51,48,48,46,49,48,48,46,49,46,50,53],22,[111,114,103]),([49,46,50,46,56,52,48,46,49,49,51,53,52,57,46,49,46,57,46,49],22,[97,110,110,64,101,120,97,109,112,108,101,46,111,114,103]),([49,46,50,46,56,52,48,46,49,49,51,53,52,57,46,49,46,57,46,49],22,[110,111,32,97,100,100,114,101,115,115]),([50,46,53,46,52,46,57,57],19,[120]),([50,46,53,46,52,46,55],12,[76])]
def ApJ:List Att:=[[48],[49],[50],[51]].flatMap fun k=>[([50,46,53,46,52,46,49,48],19,[67,65,32]++k),([50,46,53,46,52,46,49,48],19,[32,99,97,32,32]++k)]
def Ap6:Att:=([50,46,53,46,52,46,49,49],12,[85,110,105,116])
def S9:List (List Att):=Qj.map (fun a=>[a])++(Qj.flatMap fun a=>(Qj.filter fun b=>a.1 != b.1).map fun b=>[a,b])++(Ap6::ApJ).map fun a=>[a]
def XV (l:List Bs):Bs:=(l.foldl (fun s x=>Wx x s) []).flatten
theorem V8 (l:List Bs):XV l=EO l:=AlE l
def Ux (r:List Att):List Att:=(IE (A8 49 (XV (r.map GI)))).1
def Am4 (r s:List Att):Bool:=(r.length==s.length)&&r.all (fun a=>s.any fun b=>a.1==b.1&&(a.2.1==b.2.1&&(a.2.2==b.2.2&&true)))
def Am3 (r:List Att):Bool :=
  (IE (A8 49 (XV (r.map GI)))).2==0&&Kr r==0&&Kr (Ux r)==0&&(XV ((Ux r).map GI)==XV (r.map GI))&&Am4 r (Ux r)&&decide ((XV (r.map GI)).length<=200) &&
  r.all (fun a=>decide (a.1.length<=40)&&decide (a.2.2.length<=40))&&(Ux r).all (fun a=>decide (a.1.length<=40)&&decide (a.2.2.length<=40))
theorem Anq:S9.all Am3=true:=by kernel_rfl
def spP (r:Bs) (k:Nat):Bool:=k==0||(!r.isEmpty&&(r.getD (r.length - 1) 0).toNat % 2 ^ k==0)
theorem Ao8:((List.range 256).all fun b=>(List.range 8).all fun k=>(Bi BinOp.and .u8 (b:Int) (IntKind.u8.wrap (IntKind.u8.wrap (1*2 ^ min k 8) - 1))==0)==(b % 2 ^ k==0))=true:=by kernel_rfl
theorem An0 {b k:Nat} (hb:b<256) (hk:k<8):(Bi BinOp.and .u8 (b:Int) (IntKind.u8.wrap (IntKind.u8.wrap (1*2 ^ min k 8) - 1))==0)=(b % 2 ^ k==0):=by
  have h:=List.all_eq_true.1 (List.all_eq_true.1 Ao8 b (List.mem_range.2 hb)) k (List.mem_range.2 hk)
  exact beq_iff_eq.1 h
theorem AlU (N:Nat) (r:Bs) (k:Nat) (hk:k<8) (hr:r.length<=1048576):OU N r (k:Int)=some (spP r k):=by
  unfold OU spP
  try simp only[clR]
  have hu:IntKind.u64.wrap (k:Int)=(k:Int):=by
    show((k:Int) % 18446744073709551616)=k
    omega
  cases hr0:r with
  | nil =>
    by_cases h0:k=0
    ·subst h0;rfl
    ·rw[show((k:Int)==0)=false by simp;omega,show(k==0)=false by simp [h0]]
     rfl
  | cons x y =>
    rw[<- hr0]
    have hp:0<r.length:=by rw[hr0];exact Nat.succ_pos _
    have hn:(r==[])=false:=by rw[hr0];rfl
    have he:r.isEmpty=false:=by rw[hr0];rfl
    have hb:=(r.getD (r.length - 1) 0).toNat_lt
    rw[hu,hn,he]
    by_cases h0:k=0
    ·subst h0;rfl
    ·simp (disch:=first | assumption | omega) only[A7,An0 hb hk]
     rw[show(k==0)=false by simp [h0]]
     rfl
def MZ (s:Bs):Bs×Int×Int:=match s with
  | []=>([],0,7)
  | u::r=>bif decide (7<u.toNat)|| !spP r u.toNat then([],0,7)else(r,(u.toNat:Int),0)
theorem AkP (u:UInt8) (r:Bs):AA (u::r) 1 (u::r).length=r:=by
  show((u::r).take (u::r).length).drop 1=r
  rw[List.take_length];rfl
theorem AdJ (N:Nat) (s:Bs) (hs:s.length<=1048576):V9 N s=some (MZ s):=by
  cases s with
  | nil=>rfl
  | cons u r =>
    have hr:r.length<=1048576:=by rw[List.length_cons]at hs;omega
    have hu:=u.toNat_lt
    unfold V9 MZ
    try simp only[clR]
    rw[AkP]
    have hl:(u::r).length=r.length+1:=rfl
    have hn:((u::r)==([]:Bs))=false:=rfl
    by_cases h7:7<u.toNat
    ·simp (disch:=first | assumption | omega) only[A7,hl,hn,List.getD_cons_zero]
    ·have hS:=AlU N r u.toNat (by omega) hr
     simp (disch:=first | assumption | omega) only[A7,hl,hn,List.getD_cons_zero,hS,Option.isSome_some,Option.getD_some]
     rw[Bh]
theorem Ahd {E R S:Type} (f:E->S->S): ∀(l:List E) (s:S),FC (R:=R) (fun e s=>.inr (f e s)) l s= .inr (l.foldl (fun s e=>f e s) s):=by
  intro l
  induction l with
  | nil=>intro s;rfl
  | cons e r ih=>intro s;rw[Fh];exact ih _
theorem YE {X Y S ρ :Type} {B:X->(X->Option ρ)->(Y->Option ρ)->Option ρ} {kx:Y->Option ρ} (mk:Nat->S->X) (n:Nat) (f:Nat->S->S) (fin:S->Option ρ)
    (h: ∀(i:Nat) (s:S),i<n-> ∀ k,B (mk i s) k kx=k (mk (i+1) (f i s)))
    (hend: ∀(s:S) (k:X->Option ρ),B (mk n s) k kx=fin s) (N:Nat) (s:S) (hN:n<N):Ap B N (mk 0 s) kx=fin ((List.range n).foldl (fun s i=>f i s) s):=by
  refine(NV (R:=Unit) mk (List.range n) 0 (fun i s=>.inr (f i s)) (fun _=>none) fin ?_ ?_ N s (by rw[List.length_range];exact hN)).trans ?_
  ·intro i s hi k
   rw[List.length_range]at hi
   rw[Zd hi];exact h i s hi k
  ·intro s k;rw[List.length_range];exact hend s k
  ·rw[Ahd];rfl
def gG (r:Bs) (i:Nat):Bool:=(r.getD (i / 8) 0).toNat / 2 ^ (7 - i % 8) % 2==1
theorem AnR:((List.range 256).all fun b=>(List.range 8).all fun k=>((Bi BinOp.and .u8 ((b:Int).fdiv (2 ^ min k 8)) 1==1)==(b / 2 ^ k % 2==1))&&(((((b:Int).fdiv (2 ^ min k 8)).tmod 2==1)==(b / 2 ^ k % 2==1))&&((((b:Int).fdiv (2 ^ min k 8)).tmod 2==0)== !(b / 2 ^ k % 2==1))))=true:=by kernel_rfl
theorem AmG {b k:Nat} (hb:b<256) (hk:k<8):(Bi BinOp.and .u8 ((b:Int).fdiv (2 ^ min k 8)) 1==1)=(b / 2 ^ k % 2==1)/\(((b:Int).fdiv (2 ^ min k 8)).tmod 2==1)=(b / 2 ^ k % 2==1)/\(((b:Int).fdiv (2 ^ min k 8)).tmod 2==0)= !(b / 2 ^ k % 2==1):=by
  have h:=List.all_eq_true.1 (List.all_eq_true.1 AnR b (List.mem_range.2 hb)) k (List.mem_range.2 hk)
  simp only[Bool.and_eq_true]at h
  exact⟨beq_iff_eq.1 h.1,beq_iff_eq.1 h.2.1,beq_iff_eq.1 h.2.2⟩
theorem Aax {x:Int} (h0:0<=x) (h1:x<18446744073709551616):IntKind.u64.wrap x=x:=by
  show x % 18446744073709551616=x
  omega
theorem lU (N:Nat) (r:Bs) (i:Nat) (hr:r.length<=1048576) (hi:i<8*r.length):Qe N r (i:Int)=some (gG r i):=by
  unfold Qe
  try simp only[clR]
  have e1:(i:Int).tdiv 8=((i / 8:Nat):Int):=rfl
  have e2:(i:Int).tmod 8=((i % 8:Nat):Int):=rfl
  have e3:IntKind.u64.wrap ((i % 8:Nat):Int)=((i % 8:Nat):Int):=Aax (by omega) (by omega)
  have e4:IntKind.u64.wrap (7 - ((i % 8:Nat):Int))=((7 - i % 8:Nat):Int):=by rw[Aax (by omega) (by omega)];omega
  rw[e1,e2,e3,e4]
  have hb:=(AmG (r.getD (i / 8) 0).toNat_lt (show 7 - i % 8<8 by omega)).1
  simp (disch:=first | assumption | omega) only[A7,hb]
  rfl
theorem AkJ (s:Bs) (h:((MZ s).2.2 != 0)=false): ∃ r k,MZ s=(r,((k:Nat):Int),0)/\k<8/\(r=[]->k=0)/\r.length<=s.length:=by
  cases s with
  | nil=>cases h
  | cons u r =>
    unfold MZ at h ⊢
    dsimp only at h ⊢
    cases hb:decide (7<u.toNat)|| !spP r u.toNat with
    | true=>rw[hb]at h;cases h
    | false =>
      rw[Bool.or_eq_false_iff]at hb
      have h7:=of_decide_eq_false hb.1
      refine⟨r,u.toNat,rfl,by omega,fun hr=> ?_,by rw[List.length_cons];omega⟩
      subst hr
      have:=hb.2
      unfold spP at this
      by_cases h0:u.toNat=0
      ·exact h0
      ·rw[show(u.toNat==0)=false by simp [h0]]at this
       cases this
def flV (r:Bs) (n:Nat):Int×Int :=
  bif decide (0<n)&& !gG r (n - 1)then(0,7)else bif decide (16<n)then(0,1)else
  ((List.range n).foldl (fun acc i=>bif gG r i then Bi .or .i64 acc (i64.wrap (1*2 ^ min i 64))else acc) 0,0)
def flP (s:Bs):Int×Int:=bif (MZ s).2.2 != 0 then(0,(MZ s).2.2)else flV (MZ s).1 (8*(MZ s).1.length - (MZ s).2.1.toNat)
theorem Z7 (N:Nat) (s:Bs) (hN:1048578<N) (hs:s.length<=1048576):LQ N s=some (flP s):=by
  unfold LQ flP
  try simp only[clR]
  rw[AdJ N s hs,Ae]
  cases h:(MZ s).2.2 != 0 with
  | true=>rfl
  | false =>
    obtain⟨r,k,he,hk,h0,hr⟩:=AkJ s h
    rw[he]
    dsimp only[cond_false]
    unfold flV
    have hz:r.length=0->k=0:=fun e=>h0 (List.length_eq_zero_iff.1 e)
    have e1:i64.wrap (8*(r.length:Int))=((8*r.length:Nat):Int):=by rw[w64 (by omega) (by omega)];omega
    have e2:i64.wrap (((8*r.length:Nat):Int) - (k:Int))=((8*r.length - k:Nat):Int):=by rw[w64 (by omega) (by omega)];omega
    rw[e1,e2,Int.toNat_natCast]
    have hn:8*r.length - k<=8*r.length:=Nat.sub_le _ _
    generalize 8*r.length - k=n at hn
    by_cases hn0:n=0
    ·subst hn0
     simp (disch:=first | assumption | omega) only[A7]
     refine(YE (fun i acc=>(acc,(i:Int))) 0 (fun i acc=>acc) (fun acc=>some (acc,0)) ?_ ?_ N 0 (by omega)).trans rfl
     ·intro i acc hi k2;omega
     ·intro acc k2
      simp (disch:=first | assumption | omega) only[A7]
    ·have e3:i64.wrap ((n:Int) - 1)=((n - 1:Nat):Int):=by rw[w64 (by omega) (by omega)];omega
     have hB:=lU N r (n - 1) (by omega) (by omega)
     rw[e3,hB]
     by_cases h16:16<n
     ·simp (disch:=first | assumption | omega) only[A7,Option.isSome_some,Option.getD_some]
      rw[Bh]
     ·simp (disch:=first | assumption | omega) only[A7,Option.isSome_some,Option.getD_some]
      rw[<- Bh]
      refine BR fun _=> ?_
      refine(YE (fun i acc=>(acc,(i:Int))) n (fun i acc=>bif gG r i then Bi .or .i64 acc (i64.wrap (1*2 ^ min i 64))else acc) (fun acc=>some (acc,0)) ?_ ?_ N 0 (by omega)).trans rfl
      ·intro i acc hi k2
       have hB:=lU N r i (by omega) (by omega)
       have hu:=Aax (x:=(i:Int)) (by omega) (by omega)
       simp (disch:=first | assumption | omega) only[A7,hB,hu]
       cases gG r i<;>rfl
      ·intro acc k2
       simp (disch:=first | assumption | omega) only[A7]
theorem AaM (s:Bs) (hs:s.length<=1048576):G9 (nmD s).1:=by
  have hc:=MQ s
  have hg:Good 1048576 (AV (Cf s).1.2.1).1:=(Dt _).mono (by omega)
  unfold nmD
  intro p hp
  cases h1:(Cf s).2 != 0 with
  | true=>rw[h1]at hp;cases hp
  | false =>
    cases h2:(Cf s).1.1 != 48 with
    | true=>rw[h1,h2]at hp;cases hp
    | false =>
      cases h3:(AV (Cf s).1.2.1).2 != 0 with
      | true=>rw[h1,h2,h3]at hp;cases hp
      | false =>
        cases h4:AU (fun a=>(IE a).2) (AV (Cf s).1.2.1).1 != 0 with
        | true=>rw[h1,h2,h3,h4]at hp;cases hp
        | false =>
          rw[h1,h2,h3,h4]at hp
          simp only[cond_false]at hp
          have hp:p∈(AV (Cf s).1.2.1).1.map fun a=>(IE a).1:=by
            revert hp
            cases ER ((AV (Cf s).1.2.1).1.map fun a=>(IE a).1) != 0 with
            | true=>intro hp;cases hp
            | false=>intro hp;exact hp
          obtain⟨x,hx,rfl⟩:=List.mem_map.1 hp
          exact wL x (by have:=(hg.all x hx).content;omega)
def zG:Gn:=(0,[],[])
def gnC (g:Gn) (c:Bool):Gn×Int:=bif CY g c != 0 then(zG,CY g c)else(g,0)
def gnD (e:El) (c:Bool):Gn×Int :=
  bif e.1==129||e.1==130||e.1==135 then gnC (e.1 - 128,e.2.1,[]) c else
  bif e.1==164 then(bif (nmD e.2.1).2 != 0 then(zG,(nmD e.2.1).2)else gnC (4,[],(nmD e.2.1).1) c)else(zG,5)
theorem Vo (N:Nat) (e:El) (c:Bool) (hN:1048578<N) (he:e.2.1.length<=1048576):Je N e c=some (gnD e c):=by
  obtain⟨t,s,w⟩:=e
  have he:s.length<=1048576:=he
  have hC: ∀ k,GR N (k,s,[]) c=some (CY (k,s,[]) c):=fun k=>Jd N _ c hN ⟨he,fun p hp=>by cases hp⟩
  have hD:=sG N s hN he
  have hC4:=Jd N (4,[],(nmD s).1) c hN ⟨by show 0<=_;omega,AaM s he⟩
  unfold Je
  try simp only[clR]
  unfold gnD gnC
  by_cases h1:t=129
  ·subst h1;simp (disch:=first | assumption | omega) only[A7,hC,Bh];rfl
  ·by_cases h2:t=130
   ·subst h2;simp (disch:=first | assumption | omega) only[A7,hC,Bh];rfl
   ·by_cases h3:t=135
    ·subst h3;simp (disch:=first | assumption | omega) only[A7,hC,Bh];rfl
    ·by_cases h4:t=164
     ·subst h4;simp (disch:=first | assumption | omega) only[A7,hC4,hD,Bh];rfl
     ·simp (disch:=first | assumption | omega) only[A7];rfl
theorem Ajb (e:El) (c:Bool) (he:e.2.1.length<=1048576):JQ (gnD e c).1:=by
  have hz:JQ zG:=⟨by show 0<=_;omega,fun p hp=>by cases hp⟩
  have hC: ∀ g:Gn,JQ g->JQ (gnC g c).1:=fun g hg=>by
    unfold gnC
    cases CY g c != 0
    ·exact hg
    ·exact hz
  unfold gnD
  cases e.1==129||e.1==130||e.1==135 with
  | true=>exact hC _ ⟨he,fun p hp=>by cases hp⟩
  | false =>
    cases e.1==164 with
    | false=>exact hz
    | true =>
      cases h:(nmD e.2.1).2 != 0 with
      | true=>exact hz
      | false=>exact hC _ ⟨by show 0<=_;omega,AaM _ he⟩
def H6 (s:Bs):List Gn×Int :=
  bif (AV s).2 != 0 then([],(AV s).2)else bif (AV s).1.isEmpty then([],7)else bif decide (16<(AV s).1.length)then([],2)else
  bif AU (fun a=>(gnD a false).2) (AV s).1 != 0 then([],AU (fun a=>(gnD a false).2) (AV s).1)else((AV s).1.map fun a=>(gnD a false).1,0)
theorem Ko (N:Nat) (s:Bs) (hN:1048578<N) (hs:s.length<=1048576):DF N s=some (H6 s):=by
  unfold DF MM
  try simp only[clR]
  rw[DZ N s (by omega) (by omega) (by omega)]
  unfold H6
  have hg:Good 1048576 (AV s).1:=(Dt s).mono hs
  generalize AV s=r at hg ⊢
  obtain⟨l,er⟩:=r
  have hlen:l.length<=1048576:=hg.len
  rw[Ae]
  dsimp only
  rw[<- Bh]
  refine BR fun _=> ?_
  cases hl:l with
  | nil=>rfl
  | cons a0 l0 =>
    rw[<- hl]
    have hp:0<l.length:=by rw[hl];exact Nat.succ_pos _
    have he:l.isEmpty=false:=by rw[hl];rfl
    rw[he,cond_false]
    by_cases h16:16<l.length
    ·simp (disch:=first | assumption | omega) only[A7]
    ·simp (disch:=first | assumption | omega) only[A7]
     rw[<- Bh]
     refine(YF (fun i acc=>((i:Int),acc)) l (0,[],[]) (fun a=>(gnD a false).2) (fun a=>(gnD a false).1) (fun e=>some ([],e)) (fun acc=>some (acc,0)) ?_ ?_ N (by omega)).trans ?_
     ·intro i acc hi ha k
      have hc:=(hg.all _ (getD_mem (0,[],[]) hi)).content
      dsimp only at hc
      have hE:=Vo N (l.getD i (0,[],[])) false hN (by omega)
      simp (disch:=first | assumption | omega) only[A7,hE]
      generalize gnD (l.getD i (0,[],[])) false=y
      cases y.2 != 0<;>rfl
     ·intro acc k ha
      simp (disch:=first | assumption | omega) only[A7]
     ·rfl
theorem iJ {α :Type} {P: α ->Prop} {b:Bool} {x y: α} (hx:P x) (hy:b=false->P y):P (bif b then x else y):=by
  cases b
  ·exact hy rfl
  ·exact hx
def iT (r:List Gn×Int):Prop:=(∀ g∈r.1,JQ g)/\r.1.length<=16
theorem tK (s:Bs) (hs:s.length<=1048576):iT (H6 s):=by
  have hg:Good 1048576 (AV s).1:=(Dt s).mono hs
  have hz: ∀ e:Int,iT ([],e):=fun e=>⟨fun g hg=>(by cases hg),by show 0<=16;omega⟩
  refine iJ (P:=iT) (hz _) fun _=>iJ (P:=iT) (hz _) fun _=>iJ (P:=iT) (hz _) fun h16=>iJ (P:=iT) (hz _) fun _=>⟨fun g hgm=> ?_,?_⟩
  ·obtain⟨x,hx,rfl⟩:=List.mem_map.1 hgm
   exact Ajb x false (by have:=(hg.all x hx).content;omega)
  ·show((AV s).1.map _).length<=16
   rw[List.length_map];have:=of_decide_eq_false h16;omega
def En (g:Gn):Bs:=Sp.elem 48 (Cc g)
theorem Akr {g:Gn} (h:CY g true=0):(En g).length<=4503:=by
  have:=TV h
  have:=Sp.Ar 48 (Cc g)
  unfold En;omega
def BQ (t:Nat) (l:List Gn):Bs:=bif l.isEmpty then []else Sp.elem t (l.map En).flatten
theorem Aks {l:List Gn} (h: ∀ g∈l,CY g true=0) (h16:l.length<=16):(l.map En).flatten.length<=72048:=by
  have:=Dy (g:=En) (M:=4503) (l:=l) (fun g hg=>Akr (h g hg))
  omega
theorem Zv (N t:Nat) (l:List Gn) (ht:t<256) (h31:t % 32≠31) (hN:1048578<N) (hs:FZ l) (h: ∀ g∈l,CY g true=0) (h16:l.length<=16):DY N (t:Int) l=some (BQ t l,0):=by
  unfold DY BQ
  try simp only[clR]
  rw[len0]
  cases he:l.isEmpty with
  | true=>rfl
  | false =>
    rw[cond_false,cond_false]
    have hl:=Aks h h16
    refine(Lc (mk:=fun i a=>((i:Int),a)) l (0,[],[]) En (fun l=>Ac (Cb N (t:Int) l) fun r45=>some (r45.fst,r45.snd)) ?_ ?_ N (by omega)).trans ?_
    ·intro i a hi ha k
     have hg0:=h _ (getD_mem (0,[],[]) hi)
     have hg:=O5 N _ true hN (hs _ (getD_mem (0,[],[]) hi))
     have hb:=TV hg0
     have w:Cb N 48 [Cc (l.getD i (0,[],[]))]=_:=Zt N 48 [Cc (l.getD i (0,[],[]))] (by omega) (by omega) hN (by simp) (by rw[CU];omega)
     rw[CU]at w
     unfold oJ at hg
     rw[hg0]at hg
     have w':Sp.elem 48 (Cc (l.getD i (0,[],[])))=En (l.getD i (0,[],[])):=rfl
     simp (disch:=first | assumption | omega) only[A7,hg,w,w',BU]
    ·intro a k ha
     simp (disch:=first | assumption | omega) only[A7]
    ·rw[Zt N t (l.map En) ht h31 hN (by rw[List.length_map];omega) (by omega),Ae]
def yV (t:Nat) (c:Bs):Bs×Int:=((JD t c).getD [],if(JD t c).isNone then 2 else 0)
def Pj (s:St2):Bs×Int:=bif Qh s != 0 then([],Qh s)else yV 48 (BQ 160 s.1++BQ 161 s.2)
theorem An2 {s:St2} (h:Qh s=0):s.1.length<=16/\s.2.length<=16/\(∀ g∈s.1,CY g true=0)/\ ∀ g∈s.2,CY g true=0:=by
  unfold Qh at h
  cases h1:s.1.isEmpty&&s.2.isEmpty with
  | true=>rw[h1]at h;cases h
  | false =>
    rw[h1,cond_false]at h
    cases h2:(decide (16<s.1.length)||decide (16<s.2.length))with
    | true=>rw[h2]at h;cases h
    | false =>
      rw[h2,cond_false]at h
      rw[Bool.or_eq_false_iff,decide_eq_false_iff_not,decide_eq_false_iff_not]at h2
      have:=NU h
      exact⟨by omega,by omega,fun g hg=>this g (List.mem_append_left _ hg),fun g hg=>this g (List.mem_append_right _ hg)⟩
theorem kT (N:Nat) (s:St2) (hN:1048578<N) (h1:FZ s.1) (h2:FZ s.2):LV N s=some (Pj s):=by
  unfold LV Pj
  try simp only[clR]
  rw[NF N s hN h1 h2,Ae,<- Bh]
  refine BR fun h0=> ?_
  obtain⟨a1,a2,a3,a4⟩:=An2 (show Qh s=0 by simpa using h0)
  have e1:DY N 160 s.1=_:=Zv N 160 s.1 (by omega) (by omega) hN h1 a3 a1
  have e2:DY N 161 s.2=_:=Zv N 161 s.2 (by omega) (by omega) hN h2 a4 a2
  have e3:Cb N 48 [BQ 160 s.1,BQ 161 s.2]=_:=WO N 48 [BQ 160 s.1,BQ 161 s.2] (by omega) (by omega) (by show 2<N;omega) (by show 2<=_;omega)
  rw[Sj]at e3
  rw[e1,Ae,e2]
  simp only[Ae]
  rw[e3]
  simp only[Ae]
  unfold yV
  cases JD 48 (BQ 160 s.1++BQ 161 s.2)<;>rfl
def flB (n:Int):Bs:=((Ih 70 n).getD ([],0)).1
def inB (n:Int):Bs:=(Gx 70 n).getD []
theorem flags_all (M:Nat): ∀ n:Fin 512,Ih (M+70) (n.val:Int)=some (flB (n.val:Int),0)/\XY (M+70) (n.val:Int)=some (flB (n.val:Int),0)/\(flB (n.val:Int)).length<=3 :=
  of_decide_eq_true (by kernel_rfl)
theorem Aln (M:Nat): ∀ n:Fin 66,Gx (M+70) ((n.val:Int) - 1)=some (inB ((n.val:Int) - 1))/\Uw (M+70) ((n.val:Int) - 1)=some (inB ((n.val:Int) - 1))/\(inB ((n.val:Int) - 1)).length<=2 :=
  of_decide_eq_true (by kernel_rfl)
theorem VH (N:Nat) (n:Int) (hN:1048578<N) (h0:0<=n) (h1:n<512):Ih N n=some (flB n,0)/\XY N n=some (flB n,0)/\(flB n).length<=3:=by
  obtain⟨M,rfl⟩: ∃ M,N=M+70:=⟨N - 70,by omega⟩
  have:=flags_all M ⟨n.toNat,by omega⟩
  rw[show((⟨n.toNat,by omega⟩:Fin 512).val:Int)=n from Int.toNat_of_nonneg h0]at this
  exact this
theorem MX (N:Nat) (n:Int) (hN:1048578<N) (h:spI n=true):Gx N n=some (inB n)/\Uw N n=some (inB n)/\(inB n).length<=2:=by
  obtain⟨M,rfl⟩: ∃ M,N=M+70:=⟨N - 70,by omega⟩
  obtain⟨h0,h1⟩:=Ao7 h
  have:=Aln M ⟨(n+1).toNat,by omega⟩
  rw[show((⟨(n+1).toNat,by omega⟩:Fin 66).val:Int) - 1=n from by show((n+1).toNat:Int) - 1=n;omega]at this
  exact this
