/-
  CertextCheck: the law returns true whatever the input; machine, functions, plain law (part 38 of 47.)
-/
import Derived.Test.YtadefjgbcapakaaGreatDoorA37
set_option linter.unusedVariables false
set_option linter.unusedSimpArgs false
namespace Go.Proofs.YtadefjgbcapakaaGreatDoor.Pl
open IntKind (i64)
open Go Vm
def FH (g:Gn):Bs:=bif g.1==4 then Sp.elem 164 (nmB g.2.2)else Sp.elem (128+g.1).toNat g.2.1
theorem AlT {s:Bs} (h:EO s=true):s.length≤128:=by
  rcases Nat.lt_or_ge 128 s.length with hl | hl
  ·rw[zH hl]at h;cases h
  ·exact hl
theorem Ahr {s:Bs} (h:GI s=true):s.length≤128:=by
  rcases Nat.lt_or_ge 128 s.length with hl | hl
  ·rw[AbX hl]at h;cases h
  ·exact hl
theorem AmW {k:Int} {s:Bs} {c:Bool} (h:uA k s c=true):s.length≤128∧(k=1∨k=2∨k=7):=by
  unfold uA at h
  by_cases h1:k=1
  ·subst h1
   refine⟨?_,.inl rfl⟩
   rw[JF rfl,cond_true]at h
   cases c with
   | true =>
     unfold mbP at h
     rw[cond_true,Bool.and_eq_true,decide_eq_true_eq]at h
     exact h.1
   | false=>exact AlT h
  ·rw[IP h1,cond_false]at h
   by_cases h2:k=2
   ·subst h2
    refine⟨?_,.inr (.inl rfl)⟩
    rw[JF rfl,cond_true]at h
    cases c with
    | true =>
      unfold Y8 at h
      rw[cond_true,Bool.or_eq_true]at h
      rcases h with h | h
      ·have:s=[]:=by simpa using h
       subst this;exact Nat.zero_le _
      ·exact Ahr h
    | false =>
      rw[cond_false]at h
      unfold Zv at h
      cases hq:Lib.hasPrefix s [42,46]with
      | true =>
        rw[hq,cond_true,Bool.and_eq_true,Bool.and_eq_true,decide_eq_true_eq]at h
        exact h.1.1
      | false=>rw[hq]at h;exact Ahr h
   ·rw[IP h2,cond_false]at h
    by_cases h7:k=7
    ·subst h7
     refine⟨?_,.inr (.inr rfl)⟩
     rw[JF rfl,cond_true]at h
     cases c with
     | true =>
       rw[cond_true]at h
       unfold ZP at h
       cases hq:(decide (s.length=8)||decide (s.length=32))with
       | false=>rw[hq]at h;cases h
       | true=>rw[Bool.or_eq_true,decide_eq_true_eq,decide_eq_true_eq]at hq;omega
     | false =>
       rw[cond_false]at h
       unfold Y6 at h
       rw[Bool.or_eq_true,decide_eq_true_eq,decide_eq_true_eq]at h;omega
    ·rw[IP h7]at h;cases h
theorem AaU {g:Gn} {c:Bool} (h:CP g c=0):(g.1=4∧g.2.1=[]∧FW g.2.2=0)∨((g.1=1∨g.1=2∨g.1=7)∧g.2.1.length≤128∧g.2.2=[]∧uA g.1 g.2.1 c=true):=by
  unfold CP at h
  by_cases h4:g.1=4
  ·rw[JF h4,cond_true]at h
   cases hq:g.2.1==[]with
   | true=>rw[hq]at h;exact .inl ⟨h4,by simpa using hq,h⟩
   | false=>rw[hq]at h;cases h
  ·rw[IP h4,cond_false]at h
   cases hq:uA g.1 g.2.1 c&&g.2.2.isEmpty with
   | false=>rw[hq]at h;cases h
   | true =>
     rw[Bool.and_eq_true]at hq
     obtain⟨h1,h2⟩:=AmW hq.1
     exact .inr ⟨h2,h1,by simpa using hq.2,hq.1⟩
theorem Qy {g:Gn} {c:Bool} (h:CP g c=0):(FH g).length≤4498:=by
  unfold FH
  rcases AaU h with ⟨h1,_,h3⟩ | ⟨h1,h2,_,_⟩
  ·rw[JF h1,cond_true]
   have:=Sp.Bf 164 (nmB g.2.2)
   have:=(XW h3).1
   omega
  ·rw[IP (by omega),cond_false]
   have:=Sp.Bf (128+g.1).toNat g.2.1
   omega
def WI (g:Gn) (c:Bool):Bs×Int:=bif CP g c != 0 then([],CP g c)else(FH g,0)
theorem OW (N:Nat) (g:Gn) (c:Bool) (hN:1048578<N) (hs:Vb g):FI N g c=some (WI g c):=by
  unfold FI WI
  try simp only[clR]
  rw[Q3 N g c hN hs,Ae, ←Bd]
  refine BC fun h0=> ?_
  have h0:CP g c=0:=by simpa using h0
  unfold FH
  rcases AaU h0 with ⟨h1,_,h3⟩ | ⟨h1,h2,_,_⟩
  ·have hl:=(XW h3).1
   have w:BR N 164 [nmB g.2.2]=_:=aA N 164 [nmB g.2.2] (by omega) (by omega) hN (by simp) (by rw[Bc];omega)
   rw[Bc]at w
   rw[Uc h1,cond_false,JF h1,cond_true,xY N g.2.2 hN hs.2,Ae,h3,h1]
   show Ad (BR N 164 [nmB g.2.2]) _=_
   rw[w,Ae]
  ·have hk:(128+g.1)=((128+g.1).toNat:Int):=by omega
   have w:=aA N (128+g.1).toNat [g.2.1] (by omega) (by omega) hN (by simp) (by rw[Bc];omega)
   rw[Bc, ←hk]at w
   rw[xC (by omega),cond_true,IP (by omega),cond_false,w64 (by omega) (by omega),w,Ae]
theorem Ua (N:Nat) (g:Gn) (c:Bool) (hN:1048578<N) (hs:Vb g):ET N g c=some (WI g c):=by
  unfold ET WI
  try simp only[clR]
  rw[OC N g c hN hs,Ae, ←Bd]
  refine BC fun h0=> ?_
  have h0:CP g c=0:=by simpa using h0
  unfold FH
  rcases AaU h0 with ⟨h1,_,h3⟩ | ⟨h1,h2,_,_⟩
  ·have hl:=(XW h3).1
   have w:AP N 164 [nmB g.2.2]=_:=Kt N 164 [nmB g.2.2] (by omega) (by omega) hN (by simp) (by rw[Bc];omega)
   rw[Bc]at w
   rw[JF h1,cond_true,cond_true,AcA N g.2.2 hN hs.2,Ae,h3,h1]
   show Ad (AP N 164 [nmB g.2.2]) _=_
   rw[w,Ae]
  ·have hk:(128+g.1)=((128+g.1).toNat:Int):=by omega
   have w:=Kt N (128+g.1).toNat [g.2.1] (by omega) (by omega) hN (by simp) (by rw[Bc];omega)
   rw[Bc, ←hk]at w
   rw[IP (by omega),cond_false,cond_false,w64 (by omega) (by omega),w,Ae]
def QF (c:Bool) (g:Gn):Bs:=bif CP g c != 0 then []else FH g
theorem Acb (c:Bool) (g:Gn):(QF c g).length≤4498:=by
  unfold QF
  cases h:CP g c != 0 with
  | true=>exact Nat.zero_le _
  | false=>exact Qy (c:=c) (by simpa using h)
theorem Akh (g:Gn) (c:Bool):WI g c=(QF c g,CP g c):=by
  unfold WI QF
  cases h:CP g c != 0 with
  | true=>rfl
  | false=>rw[show CP g c=0 by simpa using h];rfl
theorem Acd {c:Bool} {l:List Gn} (h:Bz (fun g=>CP g c) l=0):l.map (QF c)=l.map FH:=by
  refine List.map_congr_left fun g hg=> ?_
  have:=O5 h g hg
  unfold QF
  rw[show CP g c=0 from this];rfl
def D8 (l:List Gn):Bs:=(l.map FH).flatten
def mY (l:List Gn):Bs×Int:=bif l.isEmpty then([],7)else bif decide (16<l.length)then([],2)else bif ES l false != 0 then([],ES l false)else(D8 l,0)
theorem VH {l:List Gn} {c:Bool} (h:Bz (fun g=>CP g c) l=0) (h16:l.length≤16):(D8 l).length≤71968:=by
  have:=Dk (g:=FH) (M:=4498) (l:=l) (fun g hg=>Qy (c:=c) (O5 h g hg))
  unfold D8
  omega
theorem PZ (N:Nat) (l:List Gn) (hN:1048578<N) (hs:BO l):Fa N l=some (mY l):=by
  unfold Fa mY WJ
  try simp only[clR]
  rw[len0,show decide (((l.length:Nat):Int)>16)=decide (16<l.length)from DC _ 16]
  cases he:l.isEmpty with
  | true=>rfl
  | false =>
    rw[cond_false,cond_false]
    by_cases h16:16<l.length
    ·rw[decide_eq_true h16];rfl
    ·rw[decide_eq_false h16,cond_false,cond_false,Ae]
     show Ak _ N _ _=_
     refine(rQ (mk:=fun i t=>(t,(i:Int))) l (0,[],[]) (fun g=>CP g false) (QF false) (fun e=>some ([],e)) (fun t=>some (t,0)) ?_ ?_ N (by omega)).trans ?_
     ·intro i t hi ht k
      have hg:=OW N _ false hN (hs _ (getD_mem (0,[],[]) hi))
      have hl:=Dk (g:=QF false) (M:=4498) (l:=l) (fun g _=>Acb false g)
      rw[Akh]at hg
      simp (disch:=first | assumption | omega) only[Aw,hg,AY]
     ·intro t k
      simp (disch:=first | assumption | omega) only[Aw]
     ·unfold ES
      rw[← Bd]
      refine BC fun h=> ?_
      rw[Acd (by simpa using h)];rfl
theorem RU (N:Nat) (l:List Gn) (hN:1048578<N) (hs:BO l):Fq N l=some (mY l):=by
  unfold Fq mY
  try simp only[clR]
  rw[len0,show decide (((l.length:Nat):Int)>16)=decide (16<l.length)from DC _ 16]
  cases he:l.isEmpty with
  | true=>rfl
  | false =>
    rw[cond_false,cond_false]
    by_cases h16:16<l.length
    ·rw[decide_eq_true h16];rfl
    ·rw[decide_eq_false h16,cond_false,cond_false]
     refine(rQ (mk:=fun i t=>(t,(i:Int))) l (0,[],[]) (fun g=>CP g false) (QF false) (fun e=>some ([],e)) (fun t=>some (t,0)) ?_ ?_ N (by omega)).trans ?_
     ·intro i t hi ht k
      have hg:=Ua N _ false hN (hs _ (getD_mem (0,[],[]) hi))
      have hl:=Dk (g:=QF false) (M:=4498) (l:=l) (fun g _=>Acb false g)
      rw[Akh]at hg
      simp (disch:=first | assumption | omega) only[Aw,hg,AY]
     ·intro t k
      simp (disch:=first | assumption | omega) only[Aw]
     ·unfold ES
      rw[← Bd]
      refine BC fun h=> ?_
      rw[Acd (by simpa using h)];rfl
def NJ (g:Gn):Bs:=Sp.elem 48 (FH g)
theorem AkY {g:Gn} (h:CP g true=0):(NJ g).length≤4503:=by
  have:=Qy h
  have:=Sp.Bf 48 (FH g)
  unfold NJ;omega
def Hl (t:Nat) (l:List Gn):Bs:=bif l.isEmpty then []else Sp.elem t (l.map NJ).flatten
theorem lX {l:List Gn} (h: ∀ g∈l,CP g true=0) (h16:l.length≤16):(l.map NJ).flatten.length≤72048:=by
  have:=Dk (g:=NJ) (M:=4503) (l:=l) (fun g hg=>AkY (h g hg))
  omega
theorem Acw {t:Nat} {l:List Gn} (h: ∀ g∈l,CP g true=0) (h16:l.length≤16):(Hl t l).length≤72053:=by
  have h1:=lX h h16
  have:=Sp.Bf t (l.map NJ).flatten
  unfold Hl
  cases l.isEmpty with
  | true=>exact Nat.zero_le _
  | false=>rw[cond_false];omega
theorem aH (N t:Nat) (l:List Gn) (ht:t<256) (h31:t % 32≠31) (hN:1048578<N) (hs:BO l) (h: ∀ g∈l,CP g true=0) (h16:l.length≤16):DI N (t:Int) l=some (Hl t l,0):=by
  unfold DI Hl
  try simp only[clR]
  rw[len0]
  cases he:l.isEmpty with
  | true=>rfl
  | false =>
    rw[cond_false,cond_false]
    have hl:=lX h h16
    refine(KW (mk:=fun i a=>((i:Int),a)) l (0,[],[]) NJ (fun l=>Ad (BR N (t:Int) l) fun r45=>some (r45.fst,r45.snd)) ?_ ?_ N (by omega)).trans ?_
    ·intro i a hi ha k
     have hg0:=h _ (getD_mem (0,[],[]) hi)
     have hg:=OW N _ true hN (hs _ (getD_mem (0,[],[]) hi))
     have hb:=Qy hg0
     have w:BR N 48 [FH (l.getD i (0,[],[]))]=_:=aA N 48 [FH (l.getD i (0,[],[]))] (by omega) (by omega) hN (by simp) (by rw[Bc];omega)
     rw[Bc]at w
     unfold WI at hg
     rw[hg0]at hg
     have w':Sp.elem 48 (FH (l.getD i (0,[],[])))=NJ (l.getD i (0,[],[])):=rfl
     simp (disch:=first | assumption | omega) only[Aw,hg,w,w',AY]
    ·intro a k ha
     simp (disch:=first | assumption | omega) only[Aw]
    ·rw[aA N t (l.map NJ) ht h31 hN (by rw[List.length_map];omega) (by omega),Ae]
theorem Ah2 (N t:Nat) (l:List Gn) (ht:t<256) (h31:t % 32≠31) (hN:1048578<N) (hs:BO l) (h: ∀ g∈l,CP g true=0) (h16:l.length≤16):J6 N (t:Int) l=some (Hl t l,0):=by
  unfold J6 Hl
  try simp only[clR]
  rw[len0]
  cases he:l.isEmpty with
  | true=>rfl
  | false =>
    rw[cond_false,cond_false]
    have hl:=lX h h16
    refine(Qj (mk:=fun i a=>(a,(i:Int))) l (0,[],[]) NJ (fun s=>Ad (Gy N (t:Int) [s]) fun r34=>some (r34.fst,r34.snd)) ?_ ?_ N (by omega)).trans ?_
    ·intro i a hi ha k
     have hg0:=h _ (getD_mem (0,[],[]) hi)
     have hg:=Ua N _ true hN (hs _ (getD_mem (0,[],[]) hi))
     have hb:=Qy hg0
     have w:AP N 48 [FH (l.getD i (0,[],[]))]=_:=Kt N 48 [FH (l.getD i (0,[],[]))] (by omega) (by omega) hN (by simp) (by rw[Bc];omega)
     rw[Bc]at w
     unfold WI at hg
     rw[hg0]at hg
     have w':Sp.elem 48 (FH (l.getD i (0,[],[])))=NJ (l.getD i (0,[],[])):=rfl
     simp (disch:=first | assumption | omega) only[Aw,hg,w,w',AY]
    ·intro a k
     simp (disch:=first | assumption | omega) only[Aw]
    ·rw[Aes N t [(l.map NJ).flatten] ht h31 (by show 1<N;omega) (by show 1≤_;omega) (by rw[Bc];omega),Bc,aF (by omega),Ae];rfl
def tY (t:Nat) (c:Bs):Bs×Int:=((EH t c).getD [],if(EH t c).isNone then 2 else 0)
def FP (s:St2):Bs×Int:=bif SI s != 0 then([],SI s)else tY 48 (Hl 160 s.1++Hl 161 s.2)
theorem AhB {s:St2} (h:SI s=0):s.1.length≤16∧s.2.length≤16∧(∀ g∈s.1,CP g true=0)∧ ∀ g∈s.2,CP g true=0:=by
  unfold SI at h
  cases h1:s.1.isEmpty&&s.2.isEmpty with
  | true=>rw[h1]at h;cases h
  | false =>
    rw[h1,cond_false]at h
    cases h2:(decide (16<s.1.length)||decide (16<s.2.length))with
    | true=>rw[h2]at h;cases h
    | false =>
      rw[h2,cond_false]at h
      rw[Bool.or_eq_false_iff,decide_eq_false_iff_not,decide_eq_false_iff_not]at h2
      have:=O5 h
      exact⟨by omega,by omega,fun g hg=>this g (List.mem_append_left _ hg),fun g hg=>this g (List.mem_append_right _ hg)⟩
theorem pX (N:Nat) (s:St2) (hN:1048578<N) (h1:BO s.1) (h2:BO s.2):Md N s=some (FP s):=by
  unfold Md FP
  try simp only[clR]
  rw[Ve N s hN h1 h2,Ae, ←Bd]
  refine BC fun h0=> ?_
  obtain⟨a1,a2,a3,a4⟩:=AhB (show SI s=0 by simpa using h0)
  have e1:DI N 160 s.1=_:=aH N 160 s.1 (by omega) (by omega) hN h1 a3 a1
  have e2:DI N 161 s.2=_:=aH N 161 s.2 (by omega) (by omega) hN h2 a4 a2
  have e3:BR N 48 [Hl 160 s.1,Hl 161 s.2]=_:=Xi N 48 [Hl 160 s.1,Hl 161 s.2] (by omega) (by omega) (by show 2<N;omega) (by show 2≤_;omega)
  rw[Jv]at e3
  rw[e1,Ae,e2]
  simp only[Ae]
  rw[e3]
  simp only[Ae]
  unfold tY
  cases EH 48 (Hl 160 s.1++Hl 161 s.2)<;>rfl
theorem nJ (N:Nat) (s:St2) (hN:1048578<N) (h1:BO s.1) (h2:BO s.2):EE N s=some (FP s):=by
  unfold EE FP
  try simp only[clR]
  rw[TZ N s hN h1 h2,Ae, ←Bd]
  refine BC fun h0=> ?_
  obtain⟨a1,a2,a3,a4⟩:=AhB (show SI s=0 by simpa using h0)
  have l1:=Acw (t:=160) a3 a1
  have l2:=Acw (t:=161) a4 a2
  have e1:J6 N 160 s.1=_:=Ah2 N 160 s.1 (by omega) (by omega) hN h1 a3 a1
  have e2:J6 N 161 s.2=_:=Ah2 N 161 s.2 (by omega) (by omega) hN h2 a4 a2
  have e3:Gy N 48 [Hl 160 s.1,Hl 161 s.2]=_:=Aes N 48 [Hl 160 s.1,Hl 161 s.2] (by omega) (by omega) (by show 2<N;omega) (by show 2≤_;omega) (by rw[Jv,List.length_append];omega)
  rw[Jv]at e3
  rw[e1,Ae,e2]
  simp only[Ae]
  rw[e3]
  simp only[Ae]
  rfl
def flB (n:Int):Bs:=((H8 70 n).getD ([],0)).1
def inB (n:Int):Bs:=(FX 70 n).getD []
theorem flags_all (M:Nat): ∀ n:Fin 512,H8 (M+70) (n.val:Int)=some (flB (n.val:Int),0)∧LW (M+70) (n.val:Int)=some (flB (n.val:Int),0)∧(flB (n.val:Int)).length≤3 :=
  of_decide_eq_true (by kernel_rfl)
theorem AlM (M:Nat): ∀ n:Fin 66,FX (M+70) ((n.val:Int) - 1)=some (inB ((n.val:Int) - 1))∧Jz (M+70) ((n.val:Int) - 1)=some (inB ((n.val:Int) - 1))∧(inB ((n.val:Int) - 1)).length≤2 :=
  of_decide_eq_true (by kernel_rfl)
theorem QB (N:Nat) (n:Int) (hN:1048578<N) (h0:0≤n) (h1:n<512):H8 N n=some (flB n,0)∧LW N n=some (flB n,0)∧(flB n).length≤3:=by
  obtain⟨M,rfl⟩: ∃ M,N=M+70:=⟨N - 70,by omega⟩
  have:=flags_all M ⟨n.toNat,by omega⟩
  rw[show((⟨n.toNat,by omega⟩:Fin 512).val:Int)=n from Int.toNat_of_nonneg h0]at this
  exact this
theorem JB (N:Nat) (n:Int) (hN:1048578<N) (h:spI n=true):FX N n=some (inB n)∧Jz N n=some (inB n)∧(inB n).length≤2:=by
  obtain⟨M,rfl⟩: ∃ M,N=M+70:=⟨N - 70,by omega⟩
  obtain⟨h0,h1⟩:=AkR h
  have:=AlM M ⟨(n+1).toNat,by omega⟩
  rw[show((⟨(n+1).toNat,by omega⟩:Fin 66).val:Int) - 1=n from by show((n+1).toNat:Int) - 1=n;omega]at this
  exact this
theorem Anc {r:Int} (h0: -9223372036854775808≤r) (h1:r≤9223372036854775807) (h:BP .andNot .i64 r 510=0):0≤r∧r<512:=by
  have e:BP .andNot .i64 r 510=i64.wrap ((BitVec.ofInt 64 r &&& ~~~(510#64)).toNat:Int):=rfl
  rw[e]at h
  generalize hb:BitVec.ofInt 64 r=b at h
  have hz:(b &&& ~~~(510#64)).toNat=0:=by
    have hlt:=(b &&& ~~~(510#64)).isLt
    generalize (b &&& ~~~(510#64)).toNat=n at h hlt
    have e2:i64.wrap (n:Int)=if 9223372036854775808≤(n:Int) % 18446744073709551616 then(n:Int) % 18446744073709551616 - 18446744073709551616 else(n:Int) % 18446744073709551616:=by
      show(if(true&&decide ((n:Int) % 18446744073709551616≥9223372036854775808))=true then _ else _)=_
      simp only[Bool.true_and,decide_eq_true_eq,ge_iff_le]
      rfl
    rw[e2]at h
    split at h<;>omega
  have hz2:b &&& ~~~(510#64)=0#64:=BitVec.eq_of_toNat_eq (by rw[hz];rfl)
  have hle:b.toNat≤510:=by
    have:b=b &&& 510#64:=by
      apply BitVec.eq_of_getLsbD_eq
      intro i hi
      have hq:(b &&& ~~~(510#64)).getLsbD i=false:=by rw[hz2];simp
      rw[BitVec.getLsbD_and,BitVec.getLsbD_not]at hq
      rw[BitVec.getLsbD_and]
      have hd:decide (i<64)=true:=decide_eq_true hi
      rw[hd,Bool.true_and]at hq
      revert hq
      cases b.getLsbD i<;>cases (510#64).getLsbD i<;>simp
    rw[this,BitVec.toNat_and]
    exact Nat.and_le_right
  have hn:(b.toNat:Int)=r % 18446744073709551616:=by
    rw[← hb,BitVec.toNat_ofInt]
    have:(0:Int)≤r % 18446744073709551616:=by omega
    rw[show((2 ^ 64:Nat):Int)=18446744073709551616 from rfl]
    exact Int.toNat_of_nonneg this
  omega
def pnB (l:List Gn):Bs:=bif l.isEmpty then []else Sp.elem 160 (Sp.elem 160 (D8 l))
def pfB (t:Nat) (r:Int):Bs:=bif r==0 then []else Sp.elem t (flB r)
def piB (b:Bool) (n:List (List Att)):Bs:=bif b then Sp.elem 162 (FH (4,[],n))else []
def GV (p:Pt):Bs:=Sp.elem 48 (pnB p.1++(pfB 129 p.2.1++piB p.2.2.1 p.2.2.2))
structure AhF (p:Pt):Prop where
  n16:p.1.length≤16
  ns:Bz (fun g=>CP g false) p.1=0
  r:0≤p.2.1∧p.2.1<512
  i:p.2.2.1=true→FW p.2.2.2=0∧p.2.2.2≠ []
  ne:p.1=[]→p.2.2.1=true
  nb:p.2.2.1=false→p.2.2.2=[]
theorem AnS {p:Pt} (hs:F5 p) (h:ptI p=0):AhF p:=by
  obtain⟨g,r,b,n⟩:=p
  obtain⟨_,_,hr0,hr1⟩:=hs
  unfold ptI at h
  dsimp only at h hr0 hr1
  cases h1:(g.isEmpty&& !b)||(!n.isEmpty&& !b)with
  | true=>rw[h1]at h;cases h
  | false =>
    rw[h1,cond_false]at h
    cases h2:BP .andNot .i64 r 510 != 0 with
    | true=>rw[h2]at h;cases h
    | false =>
      rw[h2,cond_false]at h
      cases h3:decide (16<g.length)with
      | true=>rw[h3]at h;cases h
      | false =>
        rw[h3,cond_false]at h
        cases h4:ES g false != 0 with
        | true=>rw[h4,cond_true]at h;rw[h]at h4;cases h4
        | false =>
          rw[h4,cond_false]at h
          have:=of_decide_eq_false h3
          refine⟨by dsimp only;omega,by simpa [ES]using h4,Anc hr0 hr1 (by simpa using h2),?_,?_,?_⟩
          ·intro hb
           dsimp only at hb ⊢
           subst hb
           rw[Bool.not_true,cond_false]at h
           cases h5:n.isEmpty with
           | true=>rw[h5]at h;cases h
           | false =>
             rw[h5,cond_false]at h
             exact⟨h,by intro hn;subst hn;cases h5⟩
          ·intro hg
           dsimp only at hg ⊢
           subst hg
           cases b with
           | true=>rfl
           | false=>cases h1
          ·intro hb
           dsimp only at hb ⊢
           subst hb
           cases n with
           | nil=>rfl
           | cons x y=>simp at h1
theorem Abt {p:Pt} (h:AhF p):(pnB p.1).length≤71978∧(D8 p.1).length≤71968:=by
  have h1:=VH h.ns h.n16
  have h2:=Sp.Bf 160 (D8 p.1)
  have h3:=Sp.Bf 160 (Sp.elem 160 (D8 p.1))
  refine⟨?_,h1⟩
  unfold pnB
  cases p.1.isEmpty with
  | true=>exact Nat.zero_le _
  | false=>rw[cond_false];omega
theorem XG {r:Int} (h:0≤r∧r<512):(flB r).length≤3:=(QB 1048579 r (by omega) h.1 h.2).2.2
theorem Ani {t:Nat} {r:Int} (h:0≤r∧r<512):(pfB t r).length≤8:=by
  have h1:=XG h
  have h2:=Sp.Bf t (flB r)
  unfold pfB
  cases r==0 with
  | true=>exact Nat.zero_le _
  | false=>rw[cond_false];omega
theorem AeB {n:List (List Att)} (h:FW n=0):CP (4,[],n) false=0:=by
  unfold CP
  rw[JF rfl,cond_true]
  exact h
theorem Abr {b:Bool} {n:List (List Att)} (h:b=true→FW n=0∧n≠ []):(piB b n).length≤4503∧(b=true→(FH (4,[],n)).length≤4498):=by
  unfold piB
  cases b with
  | false=>exact⟨Nat.zero_le _,fun h=>by cases h⟩
  | true =>
    have h1:=Qy (AeB (h rfl).1)
    have h2:=Sp.Bf 162 (FH (4,[],n))
    rw[cond_true]
    exact⟨by omega,fun _=>h1⟩
theorem TG {p:Pt} (h:AhF p):(GV p).length≤76494∧(pnB p.1++(pfB 129 p.2.1++piB p.2.2.1 p.2.2.2)).length≤76489:=by
  have h1:=(Abt h).1
  have h2:=Ani (t:=129) h.r
  have h3:=(Abr h.i).1
  have h4:=Sp.Bf 48 (pnB p.1++(pfB 129 p.2.1++piB p.2.2.1 p.2.2.2))
  unfold GV
  rw[List.length_append,List.length_append]at *
  omega
theorem Ah3 {l:List Pt} (hs: ∀ p∈l,F5 p) (h:I9 l=0):l.length≤4∧ ∀ p∈l,AhF p:=by
  unfold I9 at h
  cases h1:decide (4<l.length)with
  | true=>rw[h1]at h;cases h
  | false =>
    rw[h1,cond_false]at h
    have:=of_decide_eq_false h1
    exact⟨by omega,fun p hp=>AnS (hs p hp) (O5 h p hp)⟩
def BF (l:List Pt):Bs×Int:=bif l.isEmpty then([],7)else bif I9 l != 0 then([],I9 l)else tY 48 (l.map GV).flatten
theorem Uz {l:List Gn} (h0:l≠ []) (h16:l.length≤16) (h:Bz (fun g=>CP g false) l=0):mY l=(D8 l,0):=by
  unfold mY ES
  rw[show l.isEmpty=false by cases l with | nil=>exact absurd rfl h0 | cons _ _=>rfl,cond_false,decide_eq_false (by omega),cond_false,h];rfl
theorem xW {n:List (List Att)} (h:EG n):Vb (4,[],n):=⟨Nat.zero_le _,h⟩
theorem MB (N:Nat) (l:List Pt) (hN:1048578<N) (hs: ∀ p∈l,F5 p):Eu N l=some (BF l):=by
  unfold Eu BF
  try simp only[clR]
  rw[len0,Iw N l hN hs]
  cases he:l.isEmpty with
  | true=>rfl
  | false =>
    rw[cond_false,cond_false,Ae, ←Bd]
    show(bif I9 l != 0 then some ([],I9 l)else _)=bif I9 l != 0 then _ else _
    refine BC fun h0=> ?_
    obtain⟨h4,hok⟩:=Ah3 hs (by simpa using h0)
    refine(KW (mk:=fun i a=>((i:Int),false,a)) l ([],0,false,[]) GV (fun a=>Ad (AZ N false a) fun r88=>Ad (IV N r88.snd) fun r90=>bif r90.fst then some ([],2)else some (r88.fst,0)) ?_ ?_ N (by omega)).trans ?_
    ·intro i a hi ha k
     have hsm:=hs _ (getD_mem ([],0,false,[]) hi)
     have hp:=hok _ (getD_mem ([],0,false,[]) hi)
     dsimp only[U3]
     rw[Int.toNat_natCast]
     generalize l.getD i ([],0,false,[])=p at *
     obtain⟨g,r,b,n⟩:=p
     have l1:=Abt hp
     have l2:=XG hp.r
     have l3:=Abr hp.i
     have l4:=TG hp
     dsimp only at l1 l2 l3 l4
     have hl160:=Sp.Bf 160 (D8 g)
     have e1: ∀ K:Bool×Bs→Option (Bs×Int),True:=fun _=>trivial
     have hseq:AZ N false [pnB g,pfB 129 r,piB b n]=some (GV (g,r,b,n),false):=by
       unfold AZ
       have w:Aq N false 48 [pnB g,pfB 129 r,piB b n]=_:=Ol N 48 false [pnB g,pfB 129 r,piB b n] (by omega) (by omega) hN (by simp) (by rw[flat3];omega)
       rw[w,Ae,flat3];rfl
     have fin: ∀(x:Bool×List Bs×List Bs),x=(false,[pnB g,pfB 129 r,piB b n],a)→U3 (fun b38144_0d l39936d l1012288d=>Ad (AZ N b38144_0d l39936d) fun r82=>Vm.chk (decide ((l1012288d.length+1)*17≤140737488355328)) (k (i64.wrap ((i:Int)+1),r82.snd,l1012288d++[r82.fst]))) x=k (((i+1:Nat):Int),false,a++[GV (g,r,b,n)]):=by
       intro x hx
       subst hx
       dsimp only[U3]
       rw[hseq,Ae]
       simp (disch:=first | assumption | omega) only[Aw,AY]
     have gen:FI N (4,[],n) false=some (WI (4,[],n) false):=OW N (4,[],n) false hN (xW hsm.2.1)
     rw[Ju (show(i:Int)<(l.length:Int) by omega),cond_true,Hg (by omega),Aj,Aj]
     simp only[CS]
     have step1: ∀(J:List Gn×Int×Bool×List (List Att)×Bool×List Bs×List Bs→Option (Bs×Int)),(bif decide (((g.length:Nat):Int)>0)then Ad (Fa N g) fun r39=>Ad (BI N false r39.fst r39.snd) fun r42=>Ad (Aq N r42.snd 160 [r42.fst]) fun r44=>Ad (Aq N r44.snd 160 [r44.fst]) fun r46=>J (g,r,b,n,r46.snd,[r46.fst,[],[]],a)else J (g,r,b,n,false,[[],[],[]],a))=J (g,r,b,n,false,[pnB g,[],[]],a):=by
       intro J
       rw[Pg]
       unfold pnB
       cases hg:g.isEmpty with
       | true=>rfl
       | false =>
         have hg0:g≠ []:=by intro h;subst h;cases hg
         have w1:Aq N false 160 [D8 g]=_:=Ol N 160 false [D8 g] (by omega) (by omega) hN (by simp) (by rw[Bc];omega)
         have w2:Aq N false 160 [Sp.elem 160 (D8 g)]=_:=Ol N 160 false [Sp.elem 160 (D8 g)] (by omega) (by omega) hN (by simp) (by rw[Bc];omega)
         rw[Bc]at w1 w2
         rw[Bool.not_false,cond_true,cond_false,PZ N g hN hsm.1,Uz hg0 hp.n16 hp.ns,Ae,JV,Ae]
         show Ad (Aq N false 160 [D8 g]) _=_
         rw[w1,Ae]
         show Ad (Aq N false 160 [Sp.elem 160 (D8 g)]) _=_
         rw[w2,Ae]
     refine(step1 _).trans ?_
     dsimp only[U7]
     have last: ∀ x:Bs,x=pfB 129 r→(bif b then Ad (FI N (4,[],n) false) fun r72=>Ad (BI N false r72.fst r72.snd) fun r75=>Ad (Aq N r75.snd 162 [r75.fst]) fun r77=>Vm.chk (decide (2<(([pnB g,x,[]]:List Bs).length:Int))) (Vm.chk (decide (2<([pnB g,x,[]]:List Bs).length)) (U3 (fun b38144_0d l39936d l1012288d=>Ad (AZ N b38144_0d l39936d) fun r82=>Vm.chk (decide ((l1012288d.length+1)*17≤140737488355328)) (k (i64.wrap ((i:Int)+1),r82.snd,l1012288d++[r82.fst]))) (r77.snd,([pnB g,x,[]]:List Bs).set 2 r77.fst,a)))else U3 (fun b38144_0d l39936d l1012288d=>Ad (AZ N b38144_0d l39936d) fun r82=>Vm.chk (decide ((l1012288d.length+1)*17≤140737488355328)) (k (i64.wrap ((i:Int)+1),r82.snd,l1012288d++[r82.fst]))) (false,[pnB g,x,[]],a))=k (((i+1:Nat):Int),false,a++[GV (g,r,b,n)]):=by
       intro x hx
       subst hx
       cases hb:b with
       | false =>
         subst hb
         rw[cond_false]
         exact fin _ rfl
       | true =>
         subst hb
         have hn:=hp.i rfl
         have l5:=l3.2 rfl
         have w1:Aq N false 162 [FH (4,[],n)]=_:=Ol N 162 false [FH (4,[],n)] (by omega) (by omega) hN (by simp) (by rw[Bc];omega)
         rw[Bc]at w1
         unfold WI at gen
         rw[AeB hn.1]at gen
         rw[cond_true,gen,Ae,JV,Ae]
         show Ad (Aq N false 162 [FH (4,[],n)]) _=_
         rw[w1,Ae]
         exact fin _ rfl
     by_cases hr:r=0
     ·rw[Uc hr,cond_false]
      refine last [] ?_
      unfold pfB
      rw[JF hr];rfl
     ·have w1:Aq N false 129 [flB r]=_:=Ol N 129 false [flB r] (by omega) (by omega) hN (by simp) (by rw[Bc];omega)
      rw[Bc]at w1
      rw[xC hr,cond_true,(QB N r hN hp.r.1 hp.r.2).1,Ae,JV,Ae]
      show Ad (Aq N false 129 [flB r]) _=_
      rw[w1,Ae]
      refine last (Sp.elem 129 (flB r)) ?_
      unfold pfB
      rw[IP hr];rfl
    ·intro a k ha
     simp (disch:=first | assumption | omega) only[Aw]
    ·have hl:=Dk (g:=GV) (M:=76494) (l:=l) (fun p hp=>(TG (hok p hp)).1)
     rw[An3 N false _ (by rw[List.length_map];omega) (by rw[List.length_map];omega),Ae]
     unfold tY IV
     cases EH 48 (l.map GV).flatten<;>rfl
theorem AeR (N:Nat) (g:List Gn) (hN:1048578<N) (hs:BO g) (h16:g.length≤16) (h:Bz (fun g=>CP g false) g=0):Ik N g=some (pnB g):=by
  have hl:=VH h h16
  have hl160:=Sp.Bf 160 (D8 g)
  unfold Ik pnB
  try simp only[clR]
  rw[len0]
  cases hg:g.isEmpty with
  | true=>rfl
  | false =>
    have hg0:g≠ []:=by intro h;subst h;cases hg
    have w1:AP N 160 [D8 g]=_:=Kt N 160 [D8 g] (by omega) (by omega) hN (by simp) (by rw[Bc];omega)
    have w2:AP N 160 [Sp.elem 160 (D8 g)]=_:=Kt N 160 [Sp.elem 160 (D8 g)] (by omega) (by omega) hN (by simp) (by rw[Bc];omega)
    rw[Bc]at w1 w2
    rw[cond_false,cond_false,RU N g hN hs,Uz hg0 h16 h,Ae]
    dsimp only
    rw[w1,Ae,w2,Ae]
theorem AeN (N t:Nat) (r:Int) (ht:t<256) (h31:t % 32≠31) (hN:1048578<N) (hr:0≤r∧r<512):G5 N (t:Int) r=some (pfB t r):=by
  have hl:=XG hr
  unfold G5 pfB
  try simp only[clR]
  by_cases h0:r=0
  ·rw[JF h0];rfl
  ·have w1:=Kt N t [flB r] ht h31 hN (by simp) (by rw[Bc];omega)
   rw[Bc]at w1
   rw[IP h0,cond_false,cond_false,(QB N r hN hr.1 hr.2).2.1,Ae]
   dsimp only
   rw[w1,Ae]
theorem AeC (N:Nat) (n:List (List Att)) (hN:1048578<N) (hs:EG n) (h:FW n=0):KD N n=some (FH (4,[],n)):=by
  unfold KD
  have hf:Bz (fun g=>CP g false) [((4,[],n):Gn)]=0:=by rw[I4,AeB h];rfl
  rw[RU N [(4,[],n)] hN (fun g hg=>by rw[List.mem_singleton.1 hg];exact xW hs),Uz (by simp) (by simp) hf,Ae]
  unfold D8
  simp
theorem O6 (N:Nat) (l:List Pt) (hN:1048578<N) (hs: ∀ p∈l,F5 p):Dt N l=some (BF l):=by
  unfold Dt BF
  try simp only[clR]
  rw[len0,J7 N l hN hs]
  cases he:l.isEmpty with
  | true=>rfl
  | false =>
    rw[cond_false,cond_false,Ae, ←Bd]
    show(bif I9 l != 0 then some ([],I9 l)else _)=bif I9 l != 0 then _ else _
    refine BC fun h0=> ?_
    obtain⟨h4,hok⟩:=Ah3 hs (by simpa using h0)
    have hl:=Dk (g:=GV) (M:=76494) (l:=l) (fun p hp=>(TG (hok p hp)).1)
    refine(Qj (mk:=fun i a=>(a,(i:Int))) l ([],0,false,[]) GV (fun a=>Ad (Gy N 48 [a]) fun r44=>some (r44.fst,r44.snd)) ?_ ?_ N (by omega)).trans ?_
    ·intro i a hi ha k
     have hsm:=hs _ (getD_mem ([],0,false,[]) hi)
     have hp:=hok _ (getD_mem ([],0,false,[]) hi)
     dsimp only[U2]
     rw[Int.toNat_natCast]
     generalize l.getD i ([],0,false,[])=p at *
     obtain⟨g,r,b,n⟩:=p
     have l1:=Abt hp
     have l2:=XG hp.r
     have l3:=Abr hp.i
     have l4:=TG hp
     dsimp only at l1 l2 l3 l4
     have f1:=AeR N g hN hsm.1 hp.n16 hp.ns
     have f2:G5 N 129 r=_:=AeN N 129 r (by omega) (by omega) hN hp.r
     have w:AP N 48 [pnB g,pfB 129 r,piB b n]=_:=Kt N 48 [pnB g,pfB 129 r,piB b n] (by omega) (by omega) hN (by simp) (by rw[flat3];omega)
     rw[flat3]at w
     have fin: ∀ x:Bs,x=piB b n→U5 (fun t8b b34560_0b b34560_1b b34560_2b b34560_3b=>Ad (Ik N b34560_0b) fun r33=>Ad (G5 N 129 b34560_1b) fun r36=>Ad (AP N 48 [r33,r36,t8b]) fun r39=>Vm.chk (decide (List.length a+List.length r39≤140737488355328)) (k (a++r39,i64.wrap ((i:Int)+1)))) (x,g,r,b,n)=k (a++GV (g,r,b,n),((i+1:Nat):Int)):=by
       intro x hx
       subst hx
       dsimp only[U5]
       rw[f1,Ae,f2,Ae,w,Ae]
       have hw:Sp.elem 48 (pnB g++(pfB 129 r++piB b n))=GV (g,r,b,n):=rfl
       simp (disch:=first | assumption | omega) only[Aw,hw,AY]
     rw[Ju (show(i:Int)<(l.length:Int) by omega),cond_true,Hg (by omega),Aj,Aj]
     simp only[CS]
     cases hb:b with
     | false =>
       subst hb
       rw[cond_false]
       exact fin [] rfl
     | true =>
       subst hb
       have hn:=hp.i rfl
       have l5:=l3.2 rfl
       have w1:AP N 162 [FH (4,[],n)]=_:=Kt N 162 [FH (4,[],n)] (by omega) (by omega) hN (by simp) (by rw[Bc];omega)
       rw[Bc]at w1
       rw[cond_true,AeC N n hN hsm.2.1 hn.1,Ae,w1,Ae]
       exact fin _ rfl
    ·intro a k
     simp (disch:=first | assumption | omega) only[Aw]
    ·have f:Gy N 48 [(l.map GV).flatten]=_:=Aes N 48 [(l.map GV).flatten] (by omega) (by omega) (by show 1<N;omega) (by show 1≤_;omega) (by rw[Bc];omega)
     rw[f,Ae,Bc]
     rfl
