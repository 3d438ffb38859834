import Derived.Test.YtadefjgbcapakaaGreatDoorA21
set_option linter.all false
namespace Go.Proofs.YtadefjgbcapakaaGreatDoor.Pl
open IntKind (i64)
open Go Vm
theorem Amb {r:Int} (h0: -9223372036854775808<=r) (h1:r<=9223372036854775807) (h:Ba .andNot .i64 r 510=0):0<=r/\r<512:=by
  have e:Ba .andNot .i64 r 510=i64.wrap ((BitVec.ofInt 64 r &&& ~~~(510#64)).toNat:Int):=rfl
  rw[e]at h
  generalize hb:BitVec.ofInt 64 r=b at h
  have hz:(b &&& ~~~(510#64)).toNat=0:=by
    have hlt:=(b &&& ~~~(510#64)).isLt
    generalize (b &&& ~~~(510#64)).toNat=n at h hlt
    have e2:i64.wrap (n:Int)=if 9223372036854775808<=(n:Int) % 18446744073709551616 then(n:Int) % 18446744073709551616 - 18446744073709551616 else(n:Int) % 18446744073709551616:=by
      show(if(true&&decide ((n:Int) % 18446744073709551616>=9223372036854775808))=true then _ else _)=_
      simp only[Bool.true_and,decide_eq_true_eq,ge_iff_le]
      rfl
    rw[e2]at h
    split at h<;>omega
  have hz2:b &&& ~~~(510#64)=0#64:=BitVec.eq_of_toNat_eq (by rw[hz];rfl)
  have hle:b.toNat<=510:=by
    have:b=b &&& 510#64:=by
      apply BitVec.eq_of_getLsbD_eq
      intro i hi
      have hq:(b &&& ~~~(510#64)).getLsbD i=false:=by rw[hz2];simp
      rw[BitVec.getLsbD_and,BitVec.getLsbD_not]at hq
      rw[BitVec.getLsbD_and]
      have hd:decide (i<64)=true:=decide_eq_true hi
      rw[hd,Bool.true_and]at hq
      revert hq
      cases b.getLsbD i<;>cases (510#64).getLsbD i<;>simp
    rw[this,BitVec.toNat_and]
    exact Nat.and_le_right
  have hn:(b.toNat:Int)=r % 18446744073709551616:=by
    rw[<- hb,BitVec.toNat_ofInt]
    have:(0:Int)<=r % 18446744073709551616:=by omega
    rw[show((2 ^ 64:Nat):Int)=18446744073709551616 from rfl]
    exact Int.toNat_of_nonneg this
  omega
def pnB (l:List Gn):Bs:=bif l.isEmpty then []else Sp.elem 160 (Sp.elem 160 (ER l))
def pfB (t:Nat) (r:Int):Bs:=bif r==0 then []else Sp.elem t (flB r)
def piB (b:Bool) (n:List (List Att)):Bs:=bif b then Sp.elem 162 (JA (4,[],n))else []
def Gl (p:Pt):Bs:=Sp.elem 48 (pnB p.1++(pfB 129 p.2.1++piB p.2.2.1 p.2.2.2))
structure Ag0 (p:Pt):Prop where
  n16:p.1.length<=16
  ns:Bq (fun g=>Dp g false) p.1=0
  r:0<=p.2.1/\p.2.1<512
  i:p.2.2.1=true->Et p.2.2.2=0/\p.2.2.2≠ []
  ne:p.1=[]->p.2.2.1=true
  nb:p.2.2.1=false->p.2.2.2=[]
theorem Anf {p:Pt} (hs:Di p) (h:ptI p=0):Ag0 p:=by
  obtain⟨g,r,b,n⟩:=p
  obtain⟨_,_,hr0,hr1⟩:=hs
  unfold ptI at h
  dsimp only at h hr0 hr1
  cases h1:(g.isEmpty&& !b)||(!n.isEmpty&& !b)with
  | true=>rw[h1]at h;cases h
  | false =>
    rw[h1,cond_false]at h
    cases h2:Ba .andNot .i64 r 510 != 0 with
    | true=>rw[h2]at h;cases h
    | false =>
      rw[h2,cond_false]at h
      cases h3:decide (16<g.length)with
      | true=>rw[h3]at h;cases h
      | false =>
        rw[h3,cond_false]at h
        cases h4:Jl g false != 0 with
        | true=>rw[h4,cond_true]at h;rw[h]at h4;cases h4
        | false =>
          rw[h4,cond_false]at h
          have:=of_decide_eq_false h3
          refine⟨by dsimp only;omega,by simpa [Jl]using h4,Amb hr0 hr1 (by simpa using h2),?_,?_,?_⟩
          ·intro hb
           dsimp only at hb ⊢
           subst hb
           rw[Bool.not_true,cond_false]at h
           cases h5:n.isEmpty with
           | true=>rw[h5]at h;cases h
           | false =>
             rw[h5,cond_false]at h
             exact⟨h,by intro hn;subst hn;cases h5⟩
          ·intro hg
           dsimp only at hg ⊢
           subst hg
           cases b with
           | true=>rfl
           | false=>cases h1
          ·intro hb
           dsimp only at hb ⊢
           subst hb
           cases n with
           | nil=>rfl
           | cons x y=>simp at h1
theorem AaO {p:Pt} (h:Ag0 p):(pnB p.1).length<=71978/\(ER p.1).length<=71968:=by
  have h1:=Ab7 h.ns h.n16
  have h2:=Sp.BM 160 (ER p.1)
  have h3:=Sp.BM 160 (Sp.elem 160 (ER p.1))
  refine⟨?_,h1⟩
  unfold pnB
  cases p.1.isEmpty with
  | true=>exact Nat.zero_le _
  | false=>rw[cond_false];omega
theorem nD {r:Int} (h:0<=r/\r<512):(flB r).length<=3:=(WW 1048579 r (by omega) h.1 h.2).2.2
theorem Amf {t:Nat} {r:Int} (h:0<=r/\r<512):(pfB t r).length<=8:=by
  have h1:=nD h
  have h2:=Sp.BM t (flB r)
  unfold pfB
  cases r==0 with
  | true=>exact Nat.zero_le _
  | false=>rw[cond_false];omega
theorem AdR {n:List (List Att)} (h:Et n=0):Dp (4,[],n) false=0:=by
  unfold Dp
  rw[Jb rfl,cond_true]
  exact h
theorem AaM {b:Bool} {n:List (List Att)} (h:b=true->Et n=0/\n≠ []):(piB b n).length<=4503/\(b=true->(JA (4,[],n)).length<=4498):=by
  unfold piB
  cases b with
  | false=>exact⟨Nat.zero_le _,fun h=>by cases h⟩
  | true =>
    have h1:=sG (AdR (h rfl).1)
    have h2:=Sp.BM 162 (JA (4,[],n))
    rw[cond_true]
    exact⟨by omega,fun _=>h1⟩
theorem Uc {p:Pt} (h:Ag0 p):(Gl p).length<=76494/\(pnB p.1++(pfB 129 p.2.1++piB p.2.2.1 p.2.2.2)).length<=76489:=by
  have h1:=(AaO h).1
  have h2:=Amf (t:=129) h.r
  have h3:=(AaM h.i).1
  have h4:=Sp.BM 48 (pnB p.1++(pfB 129 p.2.1++piB p.2.2.1 p.2.2.2))
  unfold Gl
  rw[List.length_append,List.length_append]at *
  omega
theorem Agq {l:List Pt} (hs: ∀ p∈l,Di p) (h:IK l=0):l.length<=4/\ ∀ p∈l,Ag0 p:=by
  unfold IK at h
  cases h1:decide (4<l.length)with
  | true=>rw[h1]at h;cases h
  | false =>
    rw[h1,cond_false]at h
    have:=of_decide_eq_false h1
    exact⟨by omega,fun p hp=>Anf (hs p hp) (jX h p hp)⟩
def ZM (l:List Pt):Bs×Int:=bif l.isEmpty then([],7)else bif IK l != 0 then([],IK l)else AmM 48 (l.map Gl).flatten
theorem sZ {l:List Gn} (h0:l≠ []) (h16:l.length<=16) (h:Bq (fun g=>Dp g false) l=0):nJ l=(ER l,0):=by
  unfold nJ Jl
  rw[show l.isEmpty=false by cases l with | nil=>exact absurd rfl h0 | cons _ _=>rfl,cond_false,decide_eq_false (by omega),cond_false,h];rfl
theorem wF {n:List (List Att)} (h:DF n):Jr (4,[],n):=⟨Nat.zero_le _,h⟩
theorem VD (N:Nat) (l:List Pt) (hN:1048578<N) (hs: ∀ p∈l,Di p):Dj N l=some (ZM l):=by
  unfold Dj ZM
  try simp only[clR]
  rw[len0,MI N l hN hs]
  cases he:l.isEmpty with
  | true=>rfl
  | false =>
    rw[cond_false,cond_false,Ae,<- Bc]
    show(bif IK l != 0 then some ([],IK l)else _)=bif IK l != 0 then _ else _
    refine CW fun h0=> ?_
    obtain⟨h4,hok⟩:=Agq hs (by simpa using h0)
    refine(Z5 (mk:=fun i a=>((i:Int),false,a)) l ([],0,false,[]) Gl (fun a=>Ac (Bo N false a) fun r88=>Ac (Ik N r88.snd) fun r90=>bif r90.fst then some ([],2)else some (r88.fst,0)) ?_ ?_ N (by omega)).trans ?_
    ·intro i a hi ha k
     have hsm:=hs _ (getD_mem ([],0,false,[]) hi)
     have hp:=hok _ (getD_mem ([],0,false,[]) hi)
     dsimp only[U3]
     rw[Int.toNat_natCast]
     generalize l.getD i ([],0,false,[])=p at *
     obtain⟨g,r,b,n⟩:=p
     have l1:=AaO hp
     have l2:=nD hp.r
     have l3:=AaM hp.i
     have l4:=Uc hp
     dsimp only at l1 l2 l3 l4
     have hl160:=Sp.BM 160 (ER g)
     have e1: ∀ K:Bool×Bs->Option (Bs×Int),True:=fun _=>trivial
     have hseq:Bo N false [pnB g,pfB 129 r,piB b n]=some (Gl (g,r,b,n),false):=by
       unfold Bo
       have w:AV N false 48 [pnB g,pfB 129 r,piB b n]=_:=Afm N 48 false [pnB g,pfB 129 r,piB b n] (by omega) (by omega) hN (by simp) (by rw[flat3];omega)
       rw[w,Ae,flat3];rfl
     have fin: ∀(x:Bool×List Bs×List Bs),x=(false,[pnB g,pfB 129 r,piB b n],a)->U3 (fun b38144_0d l39936d l1012288d=>Ac (Bo N b38144_0d l39936d) fun r82=>Vm.chk (decide ((l1012288d.length+1)*17<=140737488355328)) (k (i64.wrap ((i:Int)+1),r82.snd,l1012288d++[r82.fst]))) x=k (((i+1:Nat):Int),false,a++[Gl (g,r,b,n)]):=by
       intro x hx
       subst hx
       dsimp only[U3]
       rw[hseq,Ae]
       simp (disch:=first | assumption | omega) only[Am,BZ]
     have gen:EY N (4,[],n) false=some (iT (4,[],n) false):=Wl N (4,[],n) false hN (wF hsm.2.1)
     rw[QS (show(i:Int)<(l.length:Int) by omega),cond_true,Ld (by omega),Ai,Ai]
     simp only[Dz]
     have step1: ∀(J:List Gn×Int×Bool×List (List Att)×Bool×List Bs×List Bs->Option (Bs×Int)),(bif decide (((g.length:Nat):Int)>0)then Ac (EG N g) fun r39=>Ac (BF N false r39.fst r39.snd) fun r42=>Ac (AV N r42.snd 160 [r42.fst]) fun r44=>Ac (AV N r44.snd 160 [r44.fst]) fun r46=>J (g,r,b,n,r46.snd,[r46.fst,[],[]],a)else J (g,r,b,n,false,[[],[],[]],a))=J (g,r,b,n,false,[pnB g,[],[]],a):=by
       intro J
       rw[jK]
       unfold pnB
       cases hg:g.isEmpty with
       | true=>rfl
       | false =>
         have hg0:g≠ []:=by intro h;subst h;cases hg
         have w1:AV N false 160 [ER g]=_:=Afm N 160 false [ER g] (by omega) (by omega) hN (by simp) (by rw[Cj];omega)
         have w2:AV N false 160 [Sp.elem 160 (ER g)]=_:=Afm N 160 false [Sp.elem 160 (ER g)] (by omega) (by omega) hN (by simp) (by rw[Cj];omega)
         rw[Cj]at w1 w2
         rw[Bool.not_false,cond_true,cond_false,dV N g hN hsm.1,sZ hg0 hp.n16 hp.ns,Ae,mD,Ae]
         show Ac (AV N false 160 [ER g]) _=_
         rw[w1,Ae]
         show Ac (AV N false 160 [Sp.elem 160 (ER g)]) _=_
         rw[w2,Ae]
     refine(step1 _).trans ?_
     dsimp only[U7]
     have last: ∀ x:Bs,x=pfB 129 r->(bif b then Ac (EY N (4,[],n) false) fun r72=>Ac (BF N false r72.fst r72.snd) fun r75=>Ac (AV N r75.snd 162 [r75.fst]) fun r77=>Vm.chk (decide (2<(([pnB g,x,[]]:List Bs).length:Int))) (Vm.chk (decide (2<([pnB g,x,[]]:List Bs).length)) (U3 (fun b38144_0d l39936d l1012288d=>Ac (Bo N b38144_0d l39936d) fun r82=>Vm.chk (decide ((l1012288d.length+1)*17<=140737488355328)) (k (i64.wrap ((i:Int)+1),r82.snd,l1012288d++[r82.fst]))) (r77.snd,([pnB g,x,[]]:List Bs).set 2 r77.fst,a)))else U3 (fun b38144_0d l39936d l1012288d=>Ac (Bo N b38144_0d l39936d) fun r82=>Vm.chk (decide ((l1012288d.length+1)*17<=140737488355328)) (k (i64.wrap ((i:Int)+1),r82.snd,l1012288d++[r82.fst]))) (false,[pnB g,x,[]],a))=k (((i+1:Nat):Int),false,a++[Gl (g,r,b,n)]):=by
       intro x hx
       subst hx
       cases hb:b with
       | false =>
         subst hb
         rw[cond_false]
         exact fin _ rfl
       | true =>
         subst hb
         have hn:=hp.i rfl
         have l5:=l3.2 rfl
         have w1:AV N false 162 [JA (4,[],n)]=_:=Afm N 162 false [JA (4,[],n)] (by omega) (by omega) hN (by simp) (by rw[Cj];omega)
         rw[Cj]at w1
         unfold iT at gen
         rw[AdR hn.1]at gen
         rw[cond_true,gen,Ae,mD,Ae]
         show Ac (AV N false 162 [JA (4,[],n)]) _=_
         rw[w1,Ae]
         exact fin _ rfl
     by_cases hr:r=0
     ·rw[AdF hr,cond_false]
      refine last [] ?_
      unfold pfB
      rw[Jb hr];rfl
     ·have w1:AV N false 129 [flB r]=_:=Afm N 129 false [flB r] (by omega) (by omega) hN (by simp) (by rw[Cj];omega)
      rw[Cj]at w1
      rw[AdG hr,cond_true,(WW N r hN hp.r.1 hp.r.2).1,Ae,mD,Ae]
      show Ac (AV N false 129 [flB r]) _=_
      rw[w1,Ae]
      refine last (Sp.elem 129 (flB r)) ?_
      unfold pfB
      rw[Ja hr];rfl
    ·intro a k ha
     simp (disch:=first | assumption | omega) only[Am]
    ·have hl:=Hr (g:=Gl) (M:=76494) (l:=l) (fun p hp=>(Uc (hok p hp)).1)
     rw[Am5 N false _ (by rw[List.length_map];omega) (by rw[List.length_map];omega),Ae]
     unfold AmM Ik
     cases DZ 48 (l.map Gl).flatten<;>rfl
theorem Aeg (N:Nat) (g:List Gn) (hN:1048578<N) (hs:DC g) (h16:g.length<=16) (h:Bq (fun g=>Dp g false) g=0):GZ N g=some (pnB g):=by
  have hl:=Ab7 h h16
  have hl160:=Sp.BM 160 (ER g)
  unfold GZ pnB
  try simp only[clR]
  rw[len0]
  cases hg:g.isEmpty with
  | true=>rfl
  | false =>
    have hg0:g≠ []:=by intro h;subst h;cases hg
    have w1:Bd N 160 [ER g]=_:=SX N 160 [ER g] (by omega) (by omega) hN (by simp) (by rw[Cj];omega)
    have w2:Bd N 160 [Sp.elem 160 (ER g)]=_:=SX N 160 [Sp.elem 160 (ER g)] (by omega) (by omega) hN (by simp) (by rw[Cj];omega)
    rw[Cj]at w1 w2
    rw[cond_false,cond_false,aZ N g hN hs,sZ hg0 h16 h,Ae]
    dsimp only
    rw[w1,Ae,w2,Ae]
theorem Aks (N t:Nat) (r:Int) (ht:t<256) (h31:t % 32≠31) (hN:1048578<N) (hr:0<=r/\r<512):Jz N (t:Int) r=some (pfB t r):=by
  have hl:=nD hr
  unfold Jz pfB
  try simp only[clR]
  by_cases h0:r=0
  ·rw[Jb h0];rfl
  ·have w1:=SX N t [flB r] ht h31 hN (by simp) (by rw[Cj];omega)
   rw[Cj]at w1
   rw[Ja h0,cond_false,cond_false,(WW N r hN hr.1 hr.2).2.1,Ae]
   dsimp only
   rw[w1,Ae]
theorem AdS (N:Nat) (n:List (List Att)) (hN:1048578<N) (hs:DF n) (h:Et n=0):JP N n=some (JA (4,[],n)):=by
  unfold JP
  have hf:Bq (fun g=>Dp g false) [((4,[],n):Gn)]=0:=by rw[MM,AdR h];rfl
  rw[aZ N [(4,[],n)] hN (fun g hg=>by rw[List.mem_singleton.1 hg];exact wF hs),sZ (by simp) (by simp) hf,Ae]
  unfold ER
  simp
theorem O8 (N:Nat) (l:List Pt) (hN:1048578<N) (hs: ∀ p∈l,Di p):Eg N l=some (ZM l):=by
  unfold Eg ZM
  try simp only[clR]
  rw[len0,PN N l hN hs]
  cases he:l.isEmpty with
  | true=>rfl
  | false =>
    rw[cond_false,cond_false,Ae,<- Bc]
    show(bif IK l != 0 then some ([],IK l)else _)=bif IK l != 0 then _ else _
    refine CW fun h0=> ?_
    obtain⟨h4,hok⟩:=Agq hs (by simpa using h0)
    have hl:=Hr (g:=Gl) (M:=76494) (l:=l) (fun p hp=>(Uc (hok p hp)).1)
    refine(Aaj (mk:=fun i a=>(a,(i:Int))) l ([],0,false,[]) Gl (fun a=>Ac (O7 N 48 [a]) fun r44=>some (r44.fst,r44.snd)) ?_ ?_ N (by omega)).trans ?_
    ·intro i a hi ha k
     have hsm:=hs _ (getD_mem ([],0,false,[]) hi)
     have hp:=hok _ (getD_mem ([],0,false,[]) hi)
     dsimp only[U2]
     rw[Int.toNat_natCast]
     generalize l.getD i ([],0,false,[])=p at *
     obtain⟨g,r,b,n⟩:=p
     have l1:=AaO hp
     have l2:=nD hp.r
     have l3:=AaM hp.i
     have l4:=Uc hp
     dsimp only at l1 l2 l3 l4
     have f1:=Aeg N g hN hsm.1 hp.n16 hp.ns
     have f2:Jz N 129 r=_:=Aks N 129 r (by omega) (by omega) hN hp.r
     have w:Bd N 48 [pnB g,pfB 129 r,piB b n]=_:=SX N 48 [pnB g,pfB 129 r,piB b n] (by omega) (by omega) hN (by simp) (by rw[flat3];omega)
     rw[flat3]at w
     have fin: ∀ x:Bs,x=piB b n->U5 (fun t8b b34560_0b b34560_1b b34560_2b b34560_3b=>Ac (GZ N b34560_0b) fun r33=>Ac (Jz N 129 b34560_1b) fun r36=>Ac (Bd N 48 [r33,r36,t8b]) fun r39=>Vm.chk (decide (List.length a+List.length r39<=140737488355328)) (k (a++r39,i64.wrap ((i:Int)+1)))) (x,g,r,b,n)=k (a++Gl (g,r,b,n),((i+1:Nat):Int)):=by
       intro x hx
       subst hx
       dsimp only[U5]
       rw[f1,Ae,f2,Ae,w,Ae]
       have hw:Sp.elem 48 (pnB g++(pfB 129 r++piB b n))=Gl (g,r,b,n):=rfl
       simp (disch:=first | assumption | omega) only[Am,hw,BZ]
     rw[QS (show(i:Int)<(l.length:Int) by omega),cond_true,Ld (by omega),Ai,Ai]
     simp only[Dz]
     cases hb:b with
     | false =>
       subst hb
       rw[cond_false]
       exact fin [] rfl
     | true =>
       subst hb
       have hn:=hp.i rfl
       have l5:=l3.2 rfl
       have w1:Bd N 162 [JA (4,[],n)]=_:=SX N 162 [JA (4,[],n)] (by omega) (by omega) hN (by simp) (by rw[Cj];omega)
       rw[Cj]at w1
       rw[cond_true,AdS N n hN hsm.2.1 hn.1,Ae,w1,Ae]
       exact fin _ rfl
    ·intro a k
     simp (disch:=first | assumption | omega) only[Am]
    ·have f:O7 N 48 [(l.map Gl).flatten]=_:=Am3 N 48 [(l.map Gl).flatten] (by omega) (by omega) (by show 1<N;omega) (by show 1<=_;omega) (by rw[Cj];omega)
     rw[f,Ae,Cj]
     rfl
structure Aoa (pl us re im ia:Int) (pu po:List Bs) (ma:List (Bs×Bs)) (na:List Gn) (hc:Bool) (s:St2) (sk ak:Bs) (pt fr:List Pt):Prop where
  sp:spI pl=true/\spI re=true/\spI im=true/\spI ia=true
  us:0<=us/\us<512
  pu:pu.length<=8/\ ∀ s∈pu,aX s=true
  po:po.length<=8/\ ∀ s∈po,aX s=true
  ma:ma.length<=8/\ ∀ m∈ma,aX m.1=true/\aX m.2=true
  na:na.length<=16/\Bq (fun g=>Dp g false) na=0
  con:AnP hc s=0
  sk:sk.length<=32
  ak:ak.length<=32
  pt:IK pt=0
  fr:IK fr=0
section
variable (N:Nat) (hN:1048578<N)
include hN
omit hN in
end
end Go.Proofs.YtadefjgbcapakaaGreatDoor.Pl
namespace Go.Proofs.YtadefjgbcapakaaGreatDoor.Pl
open IntKind (i64)
open Go Vm
section
variable (N:Nat) (hN:1048578<N)
include hN
omit hN in
omit hN in
end
end Go.Proofs.YtadefjgbcapakaaGreatDoor.Pl
namespace Go.Proofs.YtadefjgbcapakaaGreatDoor.Pl
open IntKind (i64)
open Go Vm
def fM (a:Att):Bool:=decide (200<a.1.length)||decide (200<a.2.2.length)
def Yz (r:List Att):Bool:=decide (8<r.length)||r.any fM
def He (n:List (List Att)):Bool:=bif decide (12<n.length)then false else bif n.any Yz then false else true
theorem fJ (N:Nat) (n:List (List Att)) (hN:1048578<N):EI N n=some (He n):=by
  unfold EI
  try simp only[clR]
  unfold He
  rw[show decide (((n.length:Nat):Int)>12)=decide (12<n.length)from Q8 _ 12]
  by_cases h12:12<n.length
  ·rw[decide_eq_true h12];rfl
  rw[decide_eq_false h12,cond_false,cond_false,<- Bc]
  refine X7 (mk:=fun i=>(i:Int)) n [] Yz (some false) (some true) ?_ ?_ N (by omega)
  ·intro i hi k
   dsimp only
   rw[Int.toNat_natCast]
   generalize n.getD i []=r
   rw[QS (by omega),cond_true,Ld (by omega),Ai,Ai,show decide (((r.length:Nat):Int)>8)=decide (8<r.length)from Q8 _ 8]
   unfold Yz
   by_cases h8:8<r.length
   ·rw[decide_eq_true h8];rfl
   rw[decide_eq_false h8,cond_false,Bool.false_or]
   refine(X7 (mk:=fun i=>(i:Int)) r ([],0,[]) fM (some false) (k ((i+1:Nat):Int)) ?_ ?_ N (by omega))
   ·intro j hj k
    dsimp only
    rw[Int.toNat_natCast]
    generalize r.getD j ([],0,[])=a
    rw[show decide (((a.1.length:Nat):Int)>200)=decide (200<a.1.length)from Q8 _ 200,show decide (((a.2.2.length:Nat):Int)>200)=decide (200<a.2.2.length)from Q8 _ 200]
    have ha:(decide (200<a.1.length)||decide (200<a.2.2.length))=fM a:=rfl
    rw[ha,QS (by omega),cond_true,Ld (by omega),Ai,Ai,w64 (by omega) (by omega)];rfl
   ·intro k
    rw[mY (by omega),cond_false,w64 (by omega) (by omega)];rfl
  ·intro k
   rw[mY (by omega),cond_false]
theorem AbQ {n:List (List Att)} (h:He n=true):n.length<=12/\(∀ r∈n,r.length<=8)/\DF n:=by
  unfold He at h
  cases h1:decide (12<n.length)with
  | true=>rw[h1]at h;cases h
  | false =>
    cases h2:n.any Yz with
    | true=>rw[h1,h2]at h;cases h
    | false =>
      have h1:=of_decide_eq_false h1
      have h2:=List.any_eq_false.1 h2
      refine⟨by omega,fun r hr=> ?_,fun r hr e he=> ?_⟩
      ·have:=h2 r hr
       unfold Yz at this
       rw[Bool.or_eq_true,decide_eq_true_eq]at this
       omega
      ·have h3:=h2 r hr
       unfold Yz at h3
       rw[Bool.or_eq_true]at h3
       have h4: ¬ fM e=true:=fun hb=>h3 (Or.inr (List.any_eq_true.2 ⟨e,he,hb⟩))
       unfold fM at h4
       rw[Bool.or_eq_true,decide_eq_true_eq,decide_eq_true_eq]at h4
       exact⟨by omega,by omega⟩
def wW (g:Gn):Bool:=decide (300<g.2.1.length)|| !He g.2.2
def LG (l:List Gn):Bool:=bif decide (20<l.length)then false else bif l.any wW then false else true
theorem AbY (N:Nat) (l:List Gn) (hN:1048578<N):JI N l=some (LG l):=by
  unfold JI
  try simp only[clR]
  unfold LG
  rw[show decide (((l.length:Nat):Int)>20)=decide (20<l.length)from Q8 _ 20]
  by_cases h12:20<l.length
  ·rw[decide_eq_true h12];rfl
  rw[decide_eq_false h12,cond_false,cond_false,<- Bc]
  refine X7 (mk:=fun i=>(i:Int)) l (0,[],[]) wW (some false) (some true) ?_ ?_ N (by omega)
  ·intro i hi k
   dsimp only
   rw[Int.toNat_natCast]
   generalize l.getD i (0,[],[])=g
   rw[fJ N _ hN,QS (by omega),cond_true,Ld (by omega),Ai,Ai,show decide (((g.2.1.length:Nat):Int)>300)=decide (300<g.2.1.length)from Q8 _ 300]
   simp only[Option.isSome_some,Bool.true_or,Ai,Option.getD_some]
   have ha:(decide (300<g.2.1.length)|| !He g.2.2)=wW g:=rfl
   rw[ha,w64 (by omega) (by omega)];rfl
  ·intro k
   rw[mY (by omega),cond_false]
theorem AhU {l:List Gn} (h:LG l=true):l.length<=20/\(∀ g∈l,g.2.1.length<=300/\He g.2.2=true)/\DC l:=by
  unfold LG at h
  cases h1:decide (20<l.length)with
  | true=>rw[h1]at h;cases h
  | false =>
    cases h2:l.any wW with
    | true=>rw[h1,h2]at h;cases h
    | false =>
      have h1:=of_decide_eq_false h1
      have h2:=List.any_eq_false.1 h2
      have key: ∀ g∈l,g.2.1.length<=300/\He g.2.2=true:=by
        intro g hg
        have:=h2 g hg
        unfold wW at this
        rw[Bool.or_eq_true,decide_eq_true_eq]at this
        refine⟨by omega,?_⟩
        cases hq:He g.2.2 with
        | true=>rfl
        | false=>exact absurd (Or.inr (by rw[hq];rfl)) this
      exact⟨by omega,key,fun g hg=>⟨by have:=(key g hg).1;omega,(AbQ (key g hg).2).2.2⟩⟩
def nU (l:List Pt):Bool:=bif decide (6<l.length)then false else bif l.any (fun p=> !LG p.1|| !He p.2.2.2)then false else true
theorem Aab (N:Nat) (l:List Pt) (hN:1048578<N):II N l=some (nU l):=by
  unfold II
  try simp only[clR]
  unfold nU
  rw[show decide (((l.length:Nat):Int)>6)=decide (6<l.length)from Q8 _ 6]
  by_cases h12:6<l.length
  ·rw[decide_eq_true h12];rfl
  rw[decide_eq_false h12,cond_false,cond_false,<- Bc]
  refine X7 (mk:=fun i=>(i:Int)) l ([],0,false,[]) (fun p=> !LG p.1|| !He p.2.2.2) (some false) (some true) ?_ ?_ N (by omega)
  ·intro i hi k
   dsimp only
   rw[Int.toNat_natCast]
   generalize l.getD i ([],0,false,[])=g
   rw[AbY N _ hN,Ae,fJ N _ hN,QS (by omega),cond_true,Ld (by omega),Ai,Ai]
   simp only[Option.isSome_some,Bool.true_or,Ai,Option.getD_some]
   rw[w64 (by omega) (by omega)];rfl
  ·intro k
   rw[mY (by omega),cond_false]
theorem AkY {l:List Pt} (h:nU l=true):l.length<=6/\ ∀ p∈l,LG p.1=true/\He p.2.2.2=true:=by
  unfold nU at h
  cases h1:decide (6<l.length)with
  | true=>rw[h1]at h;cases h
  | false =>
    cases h2:l.any (fun p=> !LG p.1|| !He p.2.2.2)with
    | true=>rw[h1,h2]at h;cases h
    | false =>
      have h1:=of_decide_eq_false h1
      have h2:=List.any_eq_false.1 h2
      refine⟨by omega,fun p hp=> ?_⟩
      have:=h2 p hp
      cases hq:LG p.1<;>cases hq2:He p.2.2.2<;>rw[hq,hq2]at this<;>first | exact⟨rfl,rfl⟩ | exact absurd rfl this
def Ends {α :Type} (Q: α ->Prop) (o:Option α):Prop:= ∃ v,o=some v/\Q v
theorem Bi {α :Type} {Q: α ->Prop} {v: α} (h:Q v):Ends Q (some v):=⟨v,rfl,h⟩
theorem Au {α ρ :Type} [Inhabited α] {P: α ->Prop} {Q: ρ ->Prop} {o:Option α} {k: α ->Option ρ} (h:Ends P o) (hk: ∀ v,P v->Ends Q (k v)):Ends Q (Ac o k):=by
  obtain⟨v,rfl,hv⟩:=h
  exact hk v hv
theorem Az {ρ :Type} {Q: ρ ->Prop} {c:Bool} {k:Option ρ} (h:c=true) (hk:Ends Q k):Ends Q (Vm.chk c k):=by rw[h];exact hk
theorem AX {ρ :Type} {Q: ρ ->Prop} {c:Bool} {x y:Option ρ} (h1:c=true->Ends Q x) (h2:c=false->Ends Q y):Ends Q (bif c then x else y):=by
  cases c with
  | true=>exact h1 rfl
  | false=>exact h2 rfl
theorem iW {α ρ :Type} {P: α ->Prop} {Q: ρ ->Prop} {A:(α ->Option ρ)->Option ρ} {f: α ->Option ρ} (hA: ∀ j: α ->Option ρ,(∀ x,P x->Ends Q (j x))->Ends Q (A j)) (hf: ∀ x,P x->Ends Q (f x)):Ends Q (Dz A f):=hA f hf
theorem Ez {X Y ρ :Type} {B:X->(X->Option ρ)->(Y->Option ρ)->Option ρ} {kx:Y->Option ρ} {Q: ρ ->Prop} (I:X->Prop) (μ :X->Nat)
    (h: ∀ x,I x-> ∀ k:X->Option ρ,(∀ x',I x'-> μ x'< μ x->Ends Q (k x'))->Ends Q (B x k kx)) (N:Nat) (x:X) (hI:I x) (hm: μ x<N):Ends Q (Ap B N x kx):=xR I μ (Ends Q) h N x hI hm
def Bl (L:List Int) (d:List Int×Int):Prop:= ∃ k:Nat,d=(L,(k:Int))/\k<=L.length
theorem AbE (N:Nat) {L:List Int} (hL:L.length<=9223372036854775807) {d:List Int×Int} (hd:Bl L d) (n:Nat) (hn:0<n) (hn':n<2147483648) :
    Ends (fun r=>0<=r.1/\r.1<(n:Int)/\Bl L r.2) (Ak N d (n:Int)):=by
  obtain⟨k,rfl,hk⟩:=hd
  unfold Ak
  dsimp only
  by_cases h:k<L.length
  ·rw[DU,if_neg (by omega),w64 (x:=(k:Int)+1) (by omega) (by omega),w64 (x:=(k:Int)+1 - 1) (by omega) (by omega),Ii,if_pos (by omega),Ii,if_pos (by omega)]
   generalize L.getD _ _=x
   have hne:((n:Int) != 0)=true:=by simp;omega
   rw[hne,Ai,Ai]
   have h1:=Int.tmod_lt_of_pos x (show(0:Int)<(n:Int) by omega)
   have h2: -(n:Int)<x.tmod (n:Int):=Int.lt_tmod_of_pos x (by omega)
   rw[w64 (x:=x.tmod (n:Int)+(n:Int)) (by omega) (by omega)]
   have h3:0<=(x.tmod (n:Int)+(n:Int)).tmod (n:Int):=Int.tmod_nonneg _ (by omega)
   have h4:=Int.tmod_lt_of_pos (x.tmod (n:Int)+(n:Int)) (show(0:Int)<(n:Int) by omega)
   refine⟨_,rfl,h3,h4,k+1,by rw[show((k+1:Nat):Int)=(k:Int)+1 by omega],h⟩
  ·rw[DU,if_pos (by omega)]
   exact⟨_,rfl,Int.le_refl _,by show(0:Int)<n;omega,k,rfl,hk⟩
theorem Fq {α :Type} {P: α ->Prop} {l:List α} {d: α} {i:Int} (h: ∀ x∈l,P x) (h0:0<=i) (hi:i<(l.length:Int)):P (l.getD i.toNat d):=h _ (getD_mem d (by omega))
section
variable (N:Nat) (hN:1048578<N) {L:List Int} (hL:L.length<=9223372036854775807)
include hL
theorem nx {d:List Int×Int} (hd:Bl L d) (n:Int) (h0:0<n) (h1:n<2147483648):Ends (fun r=>0<=r.1/\r.1<n/\Bl L r.2) (Ak N d n):=by
  have:=AbE N hL hd n.toNat (by omega) (by omega)
  rw[show((n.toNat:Nat):Int)=n by omega]at this
  exact this
def AjT (a:Att):Prop:=a.1.length<=40/\a.2.2.length<=40
instance (a:Att):Decidable (AjT a):=by unfold AjT;infer_instance
theorem Aad {d:List Int×Int} (hd:Bl L d):Ends (fun r=>AjT r.1/\Bl L r.2) (Ls N d):=by
  unfold Ls
  refine Au (nx N hL hd 12 (by omega) (by omega)) ?_
  rintro ⟨r,d'⟩ ⟨h0,h1,h2⟩
  dsimp only at h0 h1 h2 ⊢
  refine Az (by simp;omega) (Az (by simp;omega) (Az (by simp;omega) (Bi ⟨?_,h2⟩)))
  exact Fq (by decide) h0 h1
def nmS (n:List (List Att)):Prop:=n.length<=3/\DF n
include hN in
theorem AbD {d:List Int×Int} (hd:Bl L d):Ends (fun r=>nmS r.1/\Bl L r.2) (RG N d):=by
  unfold RG
  try simp only[clR]
  refine Au (nx N hL hd 4 (by omega) (by omega)) ?_
  rintro ⟨r,d1,d2⟩ ⟨h0,h1,h2⟩
  dsimp only at h0 h1 h2 ⊢
  refine Ez (fun x=>0<=x.1/\x.1<4/\Bl L (x.2.1,x.2.2.1)/\((x.2.2.2.length:Int)+x.1<=3)/\DF x.2.2.2) (fun x=>x.1.toNat) ?_ N _ ⟨h0,h1,h2,by simp;omega,fun r hr=>by cases hr⟩ (by dsimp only;omega)
  rintro ⟨t,a,b,acc⟩ ⟨g0,g1,g2,g3,g4⟩ k hk
  dsimp only[U4]at g0 g1 g2 g3 g4 ⊢
  refine AX (fun ht=> ?_) (fun _=> ?_)
  ·have ht:=of_decide_eq_true ht
   refine Au (nx N hL g2 5 (by omega) (by omega)) ?_
   rintro ⟨r,e1,e2⟩ ⟨f0,f1,f2⟩
   dsimp only at f0 f1 f2 ⊢
   have hw:i64.wrap (1+i64.wrap (r.tdiv 4))<=2/\0<=i64.wrap (1+i64.wrap (r.tdiv 4)):=by
     have:r=0\/r=1\/r=2\/r=3\/r=4:=by omega
     rcases this with rfl | rfl | rfl | rfl | rfl<;>decide
   refine Ez (fun x=>0<=x.1/\x.1<=2/\Bl L (x.2.1,x.2.2.1)/\((x.2.2.2.1.length:Int)+x.1<=2)/\(∀ e∈x.2.2.2.1,KO e)/\x.2.2.2.2=acc) (fun x=>x.1.toNat) ?_ N _ ⟨hw.2,hw.1,f2,by simp;omega,(fun r hr=>by cases hr),rfl⟩ (by dsimp only;omega)
   rintro ⟨t',a',b',acc',out⟩ ⟨p0,p1,p2,p3,p4,p5⟩ k' hk'
   dsimp only[U5]at p0 p1 p2 p3 p4 p5 ⊢
   subst p5
   refine AX (fun ht'=> ?_) (fun _=> ?_)
   ·have ht':=of_decide_eq_true ht'
    refine Au (Aad N hL p2) ?_
    rintro ⟨r,q1,q2⟩ ⟨z0,z1⟩
    dsimp only at z0 z1 ⊢
    have taut:(decide ((0:Int)<(acc'.length:Int))||((acc'.length:Nat):Int)==0)=true:=by
      cases acc' with
      | nil=>rfl
      | cons x y=>rw[decide_eq_true (by rw[List.length_cons];omega)];rfl
    have Adu:(decide (0<acc'.length)||((acc'.length:Nat):Int)==0)=true:=by
      cases acc' with
      | nil=>rfl
      | cons x y=>rw[decide_eq_true (by rw[List.length_cons];omega)];rfl
    have hsm:KO r:=⟨by have:=z0.1;omega,by have:=z0.2;omega⟩
    refine Az (by first | exact taut | exact Adu) (Az (by first | exact taut | exact Adu) (Az (by first | exact taut | exact Adu) ?_))
    refine AX (fun _=> ?_) (fun _=> ?_)
    ·refine Az (decide_eq_true (by omega)) (hk' _ ⟨?_,?_,z1,?_,?_,rfl⟩ ?_)
     ·dsimp only;rw[w64 (by omega) (by omega)];omega
     ·dsimp only;rw[w64 (by omega) (by omega)];omega
     ·dsimp only;rw[w64 (by omega) (by omega),List.length_append];simp;omega
     ·intro e he
      rcases List.mem_append.1 he with he | he
      ·exact p4 e he
      ·rw[List.mem_singleton.1 he];exact hsm
     ·dsimp only;rw[w64 (by omega) (by omega)];omega
    ·refine hk' _ ⟨?_,?_,z1,?_,p4,rfl⟩ ?_
     ·dsimp only;rw[w64 (by omega) (by omega)];omega
     ·dsimp only;rw[w64 (by omega) (by omega)];omega
     ·dsimp only;rw[w64 (by omega) (by omega)];omega
     ·dsimp only;rw[w64 (by omega) (by omega)];omega
   ·dsimp only[U4]
    refine Az (decide_eq_true (by omega)) (hk _ ⟨?_,?_,p2,?_,?_⟩ ?_)
    ·dsimp only;rw[w64 (by omega) (by omega)];omega
    ·dsimp only;rw[w64 (by omega) (by omega)];omega
    ·dsimp only;rw[w64 (by omega) (by omega),List.length_append];simp;omega
    ·intro e he
     rcases List.mem_append.1 he with he | he
     ·exact g4 e he
     ·rw[List.mem_singleton.1 he];exact p4
    ·dsimp only;rw[w64 (by omega) (by omega)];omega
  ·dsimp only[U3]
   exact Bi ⟨⟨by dsimp only;omega,g4⟩,g2⟩
end
end Go.Proofs.YtadefjgbcapakaaGreatDoor.Pl
namespace Go.Proofs.YtadefjgbcapakaaGreatDoor.Pl
open IntKind (i64)
open Go Vm
theorem Ot (N:Nat) {L:List Int} (hL:L.length<=9223372036854775807) {d:List Int×Int} (hd:Bl L d) (n:Nat) (hn:0<n) (hn':n<2147483648): ∃(i:Nat) (d1:List Int×Int),Ak N d (n:Int)=some ((i:Int),d1)/\i<n/\Bl L d1:=by
  obtain⟨⟨x,d1⟩,h1,h2,h3,h4⟩:=AbE N hL hd n hn hn'
  have h2:0<=x:=h2
  have h3:x<(n:Int):=h3
  refine⟨x.toNat,d1,?_,by omega,h4⟩
  rw[h1,show((x.toNat:Nat):Int)=x by omega]
theorem Zf {α :Type} (l:List α) (a b:Nat):(Ar l a b).length=min b l.length - a:=by
  show((l.take b).drop a).length=_
  rw[List.length_drop,List.length_take]
theorem AfW (x:Int):List.all ([IntKind.u8.wrap x]:List Int) isByte=true:=by simp [Oq]
theorem AjQ (a:Nat) (h:a<256):Ba .andNot .i64 (a:Int) 31=((a / 32*32:Nat):Int):=by
  have: ∀ a:Fin 256,Ba .andNot .i64 ((a.val:Nat):Int) 31=((a.val / 32*32:Nat):Int):=by decide +kernel
  exact this ⟨a,h⟩
theorem AmC (a:Nat) (h:a<256):Ba .and .i64 (a:Int) 224=((a / 32*32:Nat):Int):=by
  have: ∀ a:Fin 256,Ba .and .i64 ((a.val:Nat):Int) 224=((a.val / 32*32:Nat):Int):=by decide +kernel
  exact this ⟨a,h⟩
theorem GG (r k:Nat):(((r:Nat):Int)==((k:Nat):Int))=decide (r=k):=by
  by_cases h:r=k
  ·simp [h]
  ·simp [h];omega
def Dam (L:List Int) (n:Nat) (o:Option (Bs×List Int×Int)):Prop:= ∃(r:Bs) (d:List Int×Int),o=some (r,d)/\Bl L d/\r.length<=n
theorem Dam.mono {L:List Int} {n m:Nat} {o:Option (Bs×List Int×Int)} (h:Dam L n o) (hm:n<=m):Dam L m o:=by
  obtain⟨r,d,h1,h2,h3⟩:=h;exact⟨r,d,h1,h2,by omega⟩
theorem Abl (N:Nat) {L:List Int} (hL:L.length<=9223372036854775807) {d:List Int×Int} (hd:Bl L d) (s:Bs) (hs:s.length<=1073741824):Dam L (s.length+1) (MQ N d s):=by
  unfold MQ
  by_cases h:s=[]
  ·subst h
   exact⟨[],d,rfl,hd,by simp⟩
  ·have hp:=WC h
   rw[wL,decide_eq_false h,cond_false]
   obtain⟨i,d1,h1,hi,hd1⟩:=Ot N hL hd s.length hp (by omega)
   rw[h1,Ae]
   dsimp only
   obtain⟨x,d2,h2,hx,hd2⟩:=Ot N hL hd1 256 (by omega) (by omega)
   rw[show(256:Int)=((256:Nat):Int)from rfl,h2,Ae]
   dsimp only
   rw[AfW,Ai]
   obtain⟨k,d3,h3,hk,hd3⟩:=Ot N hL hd2 5 (by omega) (by omega)
   rw[show(5:Int)=((5:Nat):Int)from rfl,h3,Ae]
   dsimp only
   rw[w64 (x:=(i:Int)+1) (by omega) (by omega),show((i:Int)+1).toNat=i+1 by omega,show(i:Int).toNat=i from rfl]
   have hone:(List.map Vm.byteOf ([IntKind.u8.wrap (x:Int)]:List Int)).length=1:=rfl
   have c1:=Zf s 0 i
   have c2:=Zf s (i+1) s.length
   have c3:=Zf s i s.length
   generalize List.map Vm.byteOf ([IntKind.u8.wrap (x:Int)]:List Int)=one at hone ⊢
   rw[show decide ((0:Int)<=(i:Int))=true from decide_eq_true (by omega),show decide ((i:Int)<=(s.length:Int))=true from decide_eq_true (by omega),show decide ((0:Int)<=(i:Int)+1)=true from decide_eq_true (by omega),show decide ((i:Int)+1<=(s.length:Int))=true from decide_eq_true (by omega)]
   simp only[Ai]
   rw[show((k:Int)==0)=decide (k=0)from GG k 0,show((k:Int)==1)=decide (k=1)from GG k 1,show((k:Int)==2)=decide (k=2)from GG k 2,show((k:Int)==3)=decide (k=3)from GG k 3]
   simp only[DU,Ii]
   by_cases k0:k=0
   ·rw[if_pos k0,if_pos (by omega),if_pos (by simp;omega)]
    exact⟨_,d3,rfl,hd3,by simp;omega⟩
   rw[if_neg k0]
   by_cases k1:k=1
   ·rw[if_pos k1,if_pos (by omega),if_pos (by simp;omega)]
    exact⟨_,d3,rfl,hd3,by simp;omega⟩
   rw[if_neg k1]
   by_cases k2:k=2
   ·rw[if_pos k2,if_pos (by omega)]
    exact⟨_,d3,rfl,hd3,by simp;omega⟩
   rw[if_neg k2]
   by_cases k3:k=3
   ·rw[if_pos k3]
    exact⟨_,d3,rfl,hd3,by omega⟩
   rw[if_neg k3]
   exact⟨_,d3,rfl,hd3,by omega⟩
theorem VU (N t:Nat) (c:Bs) (ht:t<256) (h31:t % 32≠31) (hN:1<N) (hs:c.length<=140737488355328): ∃ r,Bd N (t:Int) ([c]:List Bs)=some r/\r.length<=c.length+5:=by
  unfold Bd
  have hf:([c]:List Bs).flatten=c:=by simp
  rw[SN N t [c] ht h31 (by simpa using hN) (by simp) (by rw[hf];exact hs),Ae,hf]
  refine⟨_,rfl,?_⟩
  show((DZ t c).getD []).length<=_
  unfold DZ
  split
  ·exact Sp.BM t c
  ·simp
theorem qP (N:Nat) {L:List Int} (hL:L.length<=9223372036854775807) {d:List Int×Int} (hd:Bl L d) (s:Bs) (hs:s.length<=1073741824) (hN:1<N):Dam L (s.length+5) (Fp N d s):=by
  unfold Fp
  rw[DU]
  by_cases h:s.length<2
  ·rw[if_pos (by omega)];exact⟨s,d,rfl,hd,by omega⟩
  ·rw[if_neg (by omega),show decide ((2:Int)<=(s.length:Int))=true from decide_eq_true (by omega),show decide ((0:Int)<(s.length:Int))=true from decide_eq_true (by omega)]
   simp only[Ai]
   obtain⟨k,d1,h1,hk,hd1⟩:=Ot N hL hd 6 (by omega) (by omega)
   rw[show(6:Int)=((6:Nat):Int)from rfl,h1,Ae]
   dsimp only
   rw[show((k:Int)==0)=decide (k=0)from GG k 0,show((k:Int)==1)=decide (k=1)from GG k 1,show((k:Int)==2)=decide (k=2)from GG k 2,show((k:Int)==3)=decide (k=3)from GG k 3,show((k:Int)==4)=decide (k=4)from GG k 4]
   simp only[DU]
   have c2:=Zf s 2 s.length
   have hb:(s.getD 0 0).toNat<256:=UInt8.toNat_lt _
   by_cases k0:k=0
   ·rw[if_pos k0]
    obtain⟨j,d2,h2,hj,hd2⟩:=Ot N hL hd1 31 (by omega) (by omega)
    rw[show(31:Int)=((31:Nat):Int)from rfl,h2,Ae]
    dsimp only
    obtain⟨r,hr,hrl⟩:=VU N j (Ar s 2 s.length) (by omega) (by omega) hN (by omega)
    rw[hr,Ae]
    exact⟨r,d2,rfl,hd2,by omega⟩
   rw[if_neg k0]
   by_cases k1:k=1
   ·rw[if_pos k1,w64 (by omega) (by omega),AjQ _ hb]
    obtain⟨r,hr,hrl⟩:=VU N ((s.getD 0 0).toNat / 32*32) (Ar s 2 s.length) (by omega) (by omega) hN (by omega)
    rw[hr,Ae]
    exact⟨r,d1,rfl,hd1,by omega⟩
   rw[if_neg k1]
   by_cases k2:k=2
   ·rw[if_pos k2,w64 (by omega) (by omega),AmC _ hb]
    obtain⟨r,hr,hrl⟩:=VU N ((s.getD 0 0).toNat / 32*32) [] (by omega) (by omega) hN (by simp)
    rw[hr,Ae]
    exact⟨r,d1,rfl,hd1,by simp at hrl;omega⟩
   rw[if_neg k2]
   by_cases k3:k=3
   ·rw[if_pos k3]
    obtain⟨x,d2,h2,hx,hd2⟩:=Ot N hL hd1 256 (by omega) (by omega)
    rw[show(256:Int)=((256:Nat):Int)from rfl,h2,Ae]
    dsimp only
    rw[AfW,Ai]
    exact⟨_,d2,rfl,hd2,by show 3<=_;omega⟩
   rw[if_neg k3]
   by_cases k4:k=4
   ·rw[if_pos k4]
    exact⟨_,d1,rfl,hd1,by show 2<=_;omega⟩
   rw[if_neg k4]
   obtain⟨r,d2,h2,hd2,hl⟩:=Abl N hL hd1 s hs
   rw[h2,Ae]
   exact⟨r,d2,rfl,hd2,by omega⟩
theorem AnL {s:Bs} (h:Sp.err s=0):Sp.tag s % 32≠31:=by
  intro h31
  cases s with
  | nil=>unfold Sp.err Sp.rd Sp.head at h;simp at h
  | cons t r =>
    have h31':t.toNat % 32=31:=h31
    unfold Sp.err Sp.rd Sp.head at h
    simp [h31']at h
theorem AiE {l:List El} {i:Nat} (hi:i<l.length):((l.take i).map (·.2.2)).flatten.length+(l.getD i (0,[],[])).2.2.length=((l.take (i+1)).map (·.2.2)).flatten.length:=by
  rw[take_snoc hi,List.map_append,List.flatten_append,List.length_append]
  congr 1
  rw[show l.getD i (0,[],[])=l[i] by simp [List.getD_eq_getElem?_getD,hi]]
  simp
theorem wR (l:List Bs) (i:Nat):(l.take i).flatten.length<=l.flatten.length:=by
  conv=>rhs;rw[<- List.take_append_drop i l,List.flatten_append,List.length_append]
  omega
theorem Agt (l:List El) (i:Nat):((l.take i).map (·.2.2)).flatten.length<=(l.map (·.2.2)).flatten.length:=by
  rw[List.map_take];exact wR _ i
set_option maxRecDepth 4000 in
theorem Abm (N:Nat) {L:List Int} (hL:L.length<=9223372036854775807) (hN:4<N): ∀(n:Nat) (s:Bs),s.length<n->s.length<N->s.length<=1048576-> ∀ d:List Int×Int,Bl L d->Dam L (4*s.length+10) (Jw N n d s):=by
  intro n
  induction n with
  | zero=>intro s h;omega
  | succ n ih =>
    intro s hn hsN hs d hd
    show Dam L _ (NM N (Jw N n) d s)
    unfold NM
    have hrep:=(qP N hL hd s (by omega) (by omega)).mono (show s.length+5<=4*s.length+10 by omega)
    have hrep':Dam L (4*s.length+10) (Ac (Fp N d s) fun r29=>some (r29.1,r29.2)):=by
      obtain⟨r,d',h1,h2,h3⟩:=hrep
      rw[h1,Ae];exact⟨r,d',rfl,h2,h3⟩
    rw[Vl N s hN (by omega),Ae]
    simp only[gX,Aan,rX]
    by_cases h1:Sp.MV s=0
    ·have he:=(AbL h1).1
     have ho:BI s=(EO s,0):=by unfold BI;rw[if_pos h1]
     rw[ho]
     dsimp only
     rw[show((0:Int) != 0)=false from rfl,cond_false,Oe]
     split
     ·exact hrep'
     ·have hrd:=Sp.ZP s he
      have hcl:=Sp.XU s he
      have hgl:=BG (Sp.content s)
      have hec:(EO s).2.1=Sp.content s:=rfl
      rw[hec,SL N _ hN (by omega) (by omega),Ae]
      have hcs:(Sp.content s).length+2<=s.length:=by omega
      generalize AB (Sp.content s)=q at hgl ⊢
      by_cases h3:q.2=0
      ·rw[fU,decide_eq_false (show ¬(q.2≠0)from fun h=>h h3),cond_false,Afv,DU]
       by_cases h4:q.1=[]
       ·rw[if_pos h4];exact hrep'
       ·rw[if_neg h4]
        have hql:=hgl.len
        have hraws:=hgl.AkR
        obtain⟨j,d1,e1,hj,hd1⟩:=Ot N hL hd q.1.length (WC h4) (by omega)
        rw[e1,Ae]
        dsimp only
        obtain⟨m,d2,e2,hm,hd2⟩:=Ot N hL hd1 8 (by omega) (by omega)
        rw[show(8:Int)=((8:Nat):Int)from rfl,e2,Ae]
        dsimp only
        refine xR (fun x=> ∃ i:Nat,x.2.1=(i:Int)/\i<=q.1.length/\Bl L (x.2.2.1,x.2.2.2.1)/\x.2.2.2.2=(EO s)/\x.1.length<=((q.1.take i).map (·.2.2)).flatten.length+(if j<i then 3*(Sp.content s).length+10 else 0)) (fun x=>q.1.length - x.2.1.toNat) (Dam L (4*s.length+10)) ?_ N _ ⟨0,rfl,by omega,hd2,rfl,by simp⟩ (by show q.1.length - 0<N;omega)
        rintro ⟨acc,t,L1,k1,ee⟩ ⟨i,ht,hi,hdk,hee,hacc⟩ K hK
        dsimp only at ht hdk hee hacc hK
        subst ht
        subst hee
        have htake:=Agt q.1 i
        dsimp only[U7,EO]
        rw[DU]
        by_cases hlt:i<q.1.length
        ·rw[if_pos (by omega),show decide ((0:Int)<=(i:Int))=true from decide_eq_true (by omega),show decide ((i:Int)<(q.1.length:Int))=true from decide_eq_true (by omega),Ai,Ai,w64 (by omega) (by omega),show(i:Int).toNat=i from rfl]
         have hgood:=hgl.all _ (getD_mem ((0,[],[]):El) hlt)
         have hcon:=hgood.content
         have hstep:=AiE hlt
         have hnext:=Agt q.1 (i+1)
         generalize q.1.getD i (0,[],[])=e at hgood hcon hstep ⊢
         have add:i=j-> ∀(u:Bs) (L2:List Int) (k2:Int),Bl L (L2,k2)->u.length<=4*e.2.2.length+10 ->
             Dam L (4*s.length+10) (Vm.chk (decide (acc.length+u.length<=140737488355328)) (K (acc++u,(i:Int)+1,L2,k2,(Sp.tag s:Int),Sp.content s,Sp.raw s))):=by
           intro hij u L2 k2 hdu hu
           rw[if_neg (by omega)]at hacc
           rw[Ii,if_pos (by omega)]
           refine hK _ ⟨i+1,by show(i:Int)+1=((i+1:Nat):Int);omega,by omega,hdu,rfl,?_⟩ (by show q.1.length - ((i:Int)+1).toNat<q.1.length - (i:Int).toNat;omega)
           show(acc++u).length<=_
           rw[if_pos (by omega),List.length_append]
           omega
         by_cases hij:i=j
         ·rw[show((i:Int) != (j:Int))=false by rw[hij];simp,cond_false]
          rw[show((m:Int)==0)=decide (m=0)from GG m 0,show((m:Int)==1)=decide (m=1)from GG m 1,show((m:Int)==2)=decide (m=2)from GG m 2,DU,DU,DU]
          by_cases m0:m=0
          ·rw[if_pos m0,Ii,if_pos (by omega)]
           exact add hij _ _ _ hdk (by rw[List.length_append];omega)
          rw[if_neg m0]
          by_cases m1:m=1
          ·rw[if_pos m1]
           have:=add hij [] _ _ hdk (by simp)
           rw[Ii,if_pos (by rw[if_neg (by omega)]at hacc;simp;omega),List.append_nil]at this
           exact this
          rw[if_neg m1]
          by_cases m2:m=2
          ·rw[if_pos m2]
           obtain⟨r,d3,g1,g2,g3⟩:=qP N hL hdk e.2.2 (by omega) (by omega)
           rw[g1,Ae]
           exact add hij r d3.1 d3.2 g2 (by omega)
          rw[if_neg m2]
          obtain⟨r,d3,g1,g2,g3⟩:=ih e.2.2 (by omega) (by omega) (by omega) _ hdk
          rw[g1,Ae]
          exact add hij r d3.1 d3.2 g2 g3
         ·rw[show((i:Int) != (j:Int))=true by simp;omega,cond_true,Ii,if_pos (by split at hacc<;>omega)]
          refine hK _ ⟨i+1,by show(i:Int)+1=((i+1:Nat):Int);omega,by omega,hdk,rfl,?_⟩ (by show q.1.length - ((i:Int)+1).toNat<q.1.length - (i:Int).toNat;omega)
          show(acc++e.2.2).length<=_
          rw[List.length_append]
          by_cases hji:j<i
          ·rw[if_pos hji]at hacc;rw[if_pos (by omega)];omega
          ·rw[if_neg hji]at hacc;rw[if_neg (by omega)];omega
        ·rw[if_neg (by omega)]
         dsimp only[U6]
         obtain⟨r,g1,g2⟩:=VU N (Sp.tag s) acc (AjG s) (AnL he) (by omega) (by split at hacc<;>omega)
         rw[g1,Ae]
         exact⟨r,_,rfl,hdk,by split at hacc<;>omega⟩
      ·rw[fU,decide_eq_true h3];exact hrep'
    ·have ho:BI s=((0,[],[]),Sp.MV s):=by unfold BI;rw[if_neg h1]
     rw[ho]
     dsimp only
     rw[fU,decide_eq_true h1];exact hrep'
theorem Hz {X Y ρ :Type} {B:X->(X->Option ρ)->(Y->Option ρ)->Option ρ} {kx:Y->Option ρ} (mk:Nat->X) (n:Nat) (fin:Option ρ)
    (h: ∀ i,i<n-> ∀ k,B (mk i) k kx=k (mk (i+1))) (hend: ∀ k,B (mk n) k kx=fin) (N:Nat) (hN:n<N):Ap B N (mk 0) kx=fin :=
  QB (S:=Unit) (fun i _=>mk i) n (fun _ s=>s) (fun _=>fin) (fun i _ hi k=>h i hi k) (fun _ k=>hend k) N () hN
def SA (n:List (List Att)):Prop:=n.length<=1048576/\ ∀ r∈n,r.length<=1048576
theorem X6 (N:Nat) (n:List (List Att)) (hN:1048578<N) (hn:SA n):Eu N n n=some true:=by
  have h0:=hn.1
  unfold Eu
  try simp only[clR]
  simp (disch:=first | assumption | omega) only[Am]
  refine Hz (fun i=>((i:Int),n,n)) n.length (some true) ?_ ?_ N (by omega)
  ·intro i hi k
   have h1:=hn.2 _ (getD_mem [] hi)
   dsimp only[U3]
   simp (disch:=first | assumption | omega) only[Am]
   refine Hz (fun j=>((j:Int),n,n)) (n.getD i []).length (k (((i+1:Nat):Int),n,n)) ?_ ?_ N (by omega)
   ·intro j hj k2
    simp (disch:=first | assumption | omega) only[Am,beq_self_eq_true]
    rfl
   ·intro k2
    simp (disch:=first | assumption | omega) only[Am]
    rfl
  ·intro k
   simp (disch:=first | assumption | omega) only[Am]
theorem Aku {α :Type} (p: α ->Bool): ∀(l:List α) (b:Bool),l.foldl (fun s x=>s||p x) b=(b||l.any p):=by
  intro l
  induction l with
  | nil=>intro b;simp
  | cons x r ih=>intro b;rw[List.foldl_cons,ih,List.any_cons,Bool.or_assoc]
theorem bC (N:Nat) (n:List (List Att)) (hN:1048578<N) (hn:SA n):EL N n n=some true:=by
  have h0:=hn.1
  unfold EL
  try simp only[clR]
  simp (disch:=first | assumption | omega) only[Am]
  refine Hz (fun i=>((i:Int),n,n)) n.length (some true) ?_ ?_ N (by omega)
  ·intro i hi k
   have h1:=hn.2 _ (getD_mem [] hi)
   dsimp only[U3]
   simp (disch:=first | assumption | omega) only[Am]
   refine Hz (fun j=>((j:Int),n,n)) (n.getD i []).length (k (((i+1:Nat):Int),n,n)) ?_ ?_ N (by omega)
   ·intro j hj k2
    simp (disch:=first | assumption | omega) only[Am]
    generalize ha:(n.getD i []).getD j ([],0,[])=a
    refine(QB (S:=Bool) (fun m s=>(s,(m:Int),n,n,a.1,a.2.1,a.2.2)) (n.getD i []).length (fun m s=>s||(a.1==((n.getD i []).getD m ([],0,[])).1&&(a.2.1==((n.getD i []).getD m ([],0,[])).2.1&&(a.2.2==((n.getD i []).getD m ([],0,[])).2.2&&true)))) (fun s=>bif !s then some false else k2 (((j+1:Nat):Int),n,n)) ?_ ?_ N false (by omega)).trans ?_
    ·intro m s hm k3
     simp (disch:=first | assumption | omega) only[Am]
     rfl
    ·intro s k3
     simp (disch:=first | assumption | omega) only[Am]
     rfl
    ·rw[Aku,Bool.false_or,List.any_eq_true.2 ⟨j,List.mem_range.2 hj,by rw[ha];simp⟩]
     rfl
   ·intro k2
    simp (disch:=first | assumption | omega) only[Am]
    rfl
  ·intro k
   simp (disch:=first | assumption | omega) only[Am]
def Z4 (l:List Gn):Prop:=l.length<=1048576/\ ∀ g∈l,SA g.2.2
theorem fG (N:Nat) (l:List Gn) (hN:1048578<N) (hl:Z4 l):Gw N l l=some true:=by
  have h0:=hl.1
  unfold Gw
  try simp only[clR]
  simp (disch:=first | assumption | omega) only[Am]
  refine Hz (fun i=>(i:Int)) l.length (some true) ?_ ?_ N (by omega)
  ·intro i hi k
   have h1:=X6 N _ hN (hl.2 _ (getD_mem (0,[],[]) hi))
   simp (disch:=first | assumption | omega) only[Am,h1,beq_self_eq_true,bne_self_eq_false,Option.isSome_some,Option.getD_some]
   rfl
  ·intro k
   simp (disch:=first | assumption | omega) only[Am]
theorem nX (N:Nat) (l:List Gn) (hN:1048578<N) (hl:Z4 l):GY N l l=some true:=by
  have h0:=hl.1
  unfold GY
  try simp only[clR]
  simp (disch:=first | assumption | omega) only[Am]
  refine Hz (fun i=>(i:Int)) l.length (some true) ?_ ?_ N (by omega)
  ·intro i hi k
   have h1:=bC N _ hN (hl.2 _ (getD_mem (0,[],[]) hi))
   simp (disch:=first | assumption | omega) only[Am,h1,beq_self_eq_true,bne_self_eq_false,Option.isSome_some,Option.getD_some]
   rfl
  ·intro k
   simp (disch:=first | assumption | omega) only[Am]
def AaB (p:Pt):Prop:=Z4 p.1/\SA p.2.2.2
theorem vK (N:Nat) (l:List Pt) (hN:1048578<N) (hl:l.length<=1048576) (hp: ∀ p∈l,AaB p):IQ N l l=some true:=by
  unfold IQ
  try simp only[clR]
  simp (disch:=first | assumption | omega) only[Am]
  refine Hz (fun i=>(i:Int)) l.length (some true) ?_ ?_ N (by omega)
  ·intro i hi k
   have hh:=hp _ (getD_mem ([],0,false,[]) hi)
   have h1:=nX N _ hN hh.1
   have h2:=bC N _ hN hh.2
   simp (disch:=first | assumption | omega) only[Am,h1,h2,beq_self_eq_true,bne_self_eq_false,Option.isSome_some,Option.getD_some]
   rfl
  ·intro k
   simp (disch:=first | assumption | omega) only[Am]
theorem sD (N:Nat) (l:List Pt) (hN:1048578<N) (hl:l.length<=1048576) (hp: ∀ p∈l,AaB p):Fv N l l=some true:=by
  unfold Fv
  try simp only[clR]
  rw[vK N l hN hl hp]
  simp (disch:=first | assumption | omega) only[Am]
  refine Hz (fun i=>(i:Int)) l.length (some true) ?_ ?_ N (by omega)
  ·intro i hi k
   have hh:=hp _ (getD_mem ([],0,false,[]) hi)
   have h1:=fG N _ hN hh.1
   have h2:=X6 N _ hN hh.2
   simp (disch:=first | assumption | omega) only[Am,h1,h2,beq_self_eq_true,bne_self_eq_false,Option.isSome_some,Option.getD_some]
   rfl
  ·intro k
   simp (disch:=first | assumption | omega) only[Am]
theorem AkS (e:El) (he:e.2.1.length<=1048576):(IV e).1.length<=1048576:=by
  have hg:Good 1048576 (AB e.2.1).1:=(BG e.2.1).mono he
  have hz: ∀ x:Int,(([],x):List Att×Int).1.length<=1048576:=fun x=>by show 0<=_;omega
  refine Df (P:=fun r:List Att×Int=>r.1.length<=1048576) (hz _) fun _=> ?_
  refine Df (P:=fun r:List Att×Int=>r.1.length<=1048576) (hz _) fun _=> ?_
  refine Df (P:=fun r:List Att×Int=>r.1.length<=1048576) (hz _) fun _=> ?_
  refine Df (P:=fun r:List Att×Int=>r.1.length<=1048576) (hz _) fun _=> ?_
  show((AB e.2.1).1.map _).length<=_
  rw[List.length_map];exact hg.len
def AaL (r:List (List Att)×Int):Prop:=SA r.1
theorem Hw:SA []:=⟨Nat.zero_le _,fun r h=>(by cases h)⟩
theorem AkE (s:Bs) (hs:s.length<=1048576):SA (nmD s).1:=by
  have hc:=Hy s
  have hg:Good 1048576 (AB (BI s).1.2.1).1:=(BG _).mono (by omega)
  have hz: ∀ x:Int,AaL ([],x):=fun x=>Hw
  refine Df (P:=AaL) (hz _) fun _=>Df (P:=AaL) (hz _) fun _=>Df (P:=AaL) (hz _) fun _=>Df (P:=AaL) (hz _) fun _=>Df (P:=AaL) (hz _) fun _=>⟨?_,fun r hr=> ?_⟩
  ·show((AB (BI s).1.2.1).1.map _).length<=_
   rw[List.length_map];exact hg.len
  ·obtain⟨x,hx,rfl⟩:=List.mem_map.1 hr
   exact AkS x (by have:=(hg.all x hx).content;omega)
theorem Aei (g:Gn) (c:Bool) (h:SA g.2.2):SA (gnC g c).1.2.2:=by
  unfold gnC
  cases Dp g c != 0 with
  | true=>exact Hw
  | false=>exact h
theorem Akv (e:El) (c:Bool) (he:e.2.1.length<=1048576):SA (gnD e c).1.2.2:=by
  unfold gnD
  cases e.1==129||e.1==130||e.1==135 with
  | true=>exact Aei _ _ Hw
  | false =>
    cases e.1==164 with
    | false=>exact Hw
    | true =>
      cases (nmD e.2.1).2 != 0 with
      | true=>exact Hw
      | false=>exact Aei _ _ (AkE _ he)
def AeD (r:List Gn×Int):Prop:=Z4 r.1
theorem W9:Z4 []:=⟨Nat.zero_le _,fun r h=>(by cases h)⟩
theorem xA (s:Bs) (hs:s.length<=1048576):Z4 (E5 s).1:=by
  have hg:Good 1048576 (AB s).1:=(BG s).mono hs
  have hz: ∀ x:Int,AeD ([],x):=fun x=>W9
  refine Df (P:=AeD) (hz _) fun _=>Df (P:=AeD) (hz _) fun _=>Df (P:=AeD) (hz _) fun _=>Df (P:=AeD) (hz _) fun _=>⟨?_,fun r hr=> ?_⟩
  ·show((AB s).1.map _).length<=_
   rw[List.length_map];exact hg.len
  ·obtain⟨x,hx,rfl⟩:=List.mem_map.1 hr
   exact Akv x false (by have:=(hg.all x hx).content;omega)
theorem Ai6 (s:Bs) (hs:s.length<=1048576):SA (Q9 s).1:=by
  have h:=(xA s hs).2
  unfold Q9
  cases (E5 s).2 != 0 with
  | true=>exact Hw
  | false =>
    cases hb:((E5 s).1.length:Int) != 1||((E5 s).1.getD 0 (0,[],[])).1 != 4 with
    | true=>exact Hw
    | false =>
      rw[Bool.or_eq_false_iff]at hb
      have h1:(E5 s).1.length=1:=by
        have:=hb.1
        simp at this;omega
      exact h _ (getD_mem (0,[],[]) (by omega))
theorem AjA {l:List El} (hg:Good 1048576 l):Z4 (st1 l).1:=by
  unfold st1
  cases h1:(BC l 160).2.1 with
  | false=>exact W9
  | true =>
    have hl1:=Jv hg 160 h1
    have ho:=NS (BC l 160).1.2.1 160
    cases (DJ (BC l 160).1.2.1 160).2 != 0 with
    | true=>exact W9
    | false=>exact xA _ (by omega)
theorem Alb {l:List El} (hg:Good 1048576 l):SA (st3 l).1.2:=by
  unfold st3
  cases h1:(BC l 162).2.1 with
  | false=>exact Hw
  | true =>
    have hl1:=Jv hg 162 h1
    cases (Q9 (BC l 162).1.2.1).2 != 0 with
    | true=>exact Hw
    | false=>exact Ai6 _ hl1
theorem Uu:AaB zP:=⟨W9,Hw⟩
theorem AkN {l:List El} (hg:Good 1048576 l):AaB (ptD l).1:=by
  unfold ptD
  cases (st1 l).2 != 0 with
  | true=>exact Uu
  | false =>
    cases (st2 (r1 l)).2 != 0 with
    | true=>exact Uu
    | false =>
      cases (st3 (r2 l)).2 != 0 with
      | true=>exact Uu
      | false =>
        cases decide (r3 l≠ [])with
        | true=>exact Uu
        | false=>exact⟨AjA hg,Alb (nH hg)⟩
theorem Akl {e:El} (he:e.2.1.length<=1048576):AaB (elD e).1:=by
  unfold elD
  cases e.1 != 48 with
  | true=>exact Uu
  | false =>
    cases (AB e.2.1).2 != 0 with
    | true=>exact Uu
    | false=>exact AkN ((BG e.2.1).mono he)
def uG (r:List Pt×Int):Prop:=r.1.length<=1048576/\ ∀ p∈r.1,AaB p
theorem Ajz (s:Bs) (hs:s.length<=1048576):uG (uJ s):=by
  have hlo:=NS s 48
  have hg:Good 1048576 (AB (DJ s 48).1.2.1).1:=(BG _).mono (by omega)
  have hz: ∀ x:Int,uG ([],x):=fun x=>⟨Nat.zero_le _,fun r h=>(by cases h)⟩
  refine Df (P:=uG) (hz _) fun _=>Df (P:=uG) (hz _) fun _=> ?_
  refine Df (P:=uG) (hz _) fun _=>Df (P:=uG) (hz _) fun _=>Df (P:=uG) (hz _) fun _=>⟨?_,fun r hr=> ?_⟩
  ·show((AB (DJ s 48).1.2.1).1.map _).length<=_
   rw[List.length_map];exact hg.len
  ·obtain⟨x,hx,rfl⟩:=List.mem_map.1 hr
   exact Akl (by have:=(hg.all x hx).content;omega)
section
variable (N:Nat) (hN:1048578<N) {L:List Int} (hL:L.length<=9223372036854775807)
def nmC (n:List (List Att)):Bool:=decide (n.length<=3)&&n.all fun r=>r.all fun e=>decide (e.1.length<=40)&&decide (e.2.2.length<=40)
def nmO (o:Option (List (List Att))):Bool:=match o with
  | some n=>nmC n
  | none=>false
theorem AmX {n:List (List Att)} (h:nmC n=true):nmS n:=by
  unfold nmC at h
  rw[Bool.and_eq_true,decide_eq_true_eq]at h
  refine⟨h.1,fun r hr e he=> ?_⟩
  have:=List.all_eq_true.1 (List.all_eq_true.1 h.2 r hr) e he
  rw[Bool.and_eq_true,decide_eq_true_eq,decide_eq_true_eq]at this
  exact⟨by omega,by omega⟩
theorem Acd (M:Nat): ∀ k:Fin 16,nmO (Il (M+70) (k.val:Int))=true:=of_decide_eq_true (by kernel_rfl)
include hN in
theorem Aae {k:Int} (h0:0<=k) (h1:k<16):Ends nmS (Il N k):=by
  obtain⟨M,rfl⟩: ∃ M,N=M+70:=⟨N - 70,by omega⟩
  have h:=Acd M ⟨k.toNat,by omega⟩
  rw[show(((⟨k.toNat,by omega⟩:Fin 16).val:Nat):Int)=k from Int.toNat_of_nonneg h0]at h
  cases ho:Il (M+70) k with
  | none=>rw[ho]at h;cases h
  | some n=>rw[ho]at h;exact⟨n,rfl,AmX h⟩
def shortS (s:Bs):Prop:=s.length<=40
instance (s:Bs):Decidable (shortS s):=by unfold shortS;infer_instance
def gnS (g:Gn):Prop:=g.2.1.length<=40/\DF g.2.2/\g.2.2.length<=3
theorem Adk {g:Gn} (h:gnS g):Jr g:=⟨by have:=h.1;omega,h.2.1⟩
theorem QC {k:Int} {s:Bs} (h:shortS s):gnS (k,s,[]):=⟨h,(fun r hr=>by cases hr),by simp⟩
include hN hL in
theorem OX {d:List Int×Int} (hd:Bl L d):Ends (fun r=>gnS r.1/\Bl L r.2) (FZ N d):=by
  unfold FZ
  try simp only[clR]
  refine Au (nx N hL hd 4 (by omega) (by omega)) ?_
  rintro ⟨r,d'⟩ ⟨h0,h1,h2⟩
  dsimp only at h0 h1 h2 ⊢
  refine AX (fun _=> ?_) (fun _=>AX (fun _=> ?_) (fun _=>AX (fun _=> ?_) (fun _=> ?_)))
  ·refine Au (nx N hL h2 6 (by omega) (by omega)) ?_
   rintro ⟨r,d'⟩ ⟨h0,h1,h2⟩
   dsimp only at h0 h1 h2 ⊢
   refine Az (decide_eq_true (by omega)) (Az (decide_eq_true (by omega)) (Az (decide_eq_true (by omega)) (Bi ⟨QC (Fq (P:=shortS) (by decide) h0 h1),h2⟩)))
  ·refine Au (nx N hL h2 7 (by omega) (by omega)) ?_
   rintro ⟨r,d'⟩ ⟨h0,h1,h2⟩
   dsimp only at h0 h1 h2 ⊢
   refine Az (decide_eq_true (by omega)) (Az (decide_eq_true (by omega)) (Az (decide_eq_true (by omega)) (Bi ⟨QC (Fq (P:=shortS) (by decide) h0 h1),h2⟩)))
  ·refine Au (nx N hL h2 4 (by omega) (by omega)) ?_
   rintro ⟨r,d'⟩ ⟨h0,h1,h2⟩
   dsimp only at h0 h1 h2 ⊢
   refine Az (decide_eq_true (by omega)) (Az (decide_eq_true (by omega)) (Az (decide_eq_true (by omega)) (Bi ⟨QC (Fq (P:=shortS) (by decide) h0 h1),h2⟩)))
  ·refine Au (AbD N hN hL h2) ?_
   rintro ⟨n,d'⟩ ⟨g0,g1⟩
   exact Bi ⟨⟨by simp,g0.2,g0.1⟩,g1⟩
include hN hL in
theorem VW {d:List Int×Int} (hd:Bl L d):Ends (fun r=>gnS r.1/\Bl L r.2) (KA N d):=by
  unfold KA
  try simp only[clR]
  refine Au (nx N hL hd 4 (by omega) (by omega)) ?_
  rintro ⟨r,d'⟩ ⟨h0,h1,h2⟩
  dsimp only at h0 h1 h2 ⊢
  refine AX (fun _=> ?_) (fun _=>AX (fun _=> ?_) (fun _=>AX (fun _=> ?_) (fun _=> ?_)))
  ·refine Au (nx N hL h2 7 (by omega) (by omega)) ?_
   rintro ⟨r,d'⟩ ⟨h0,h1,h2⟩
   dsimp only at h0 h1 h2 ⊢
   refine Az (decide_eq_true (by omega)) (Az (decide_eq_true (by omega)) (Az (decide_eq_true (by omega)) (Bi ⟨QC (Fq (P:=shortS) (by decide) h0 h1),h2⟩)))
  ·refine Au (nx N hL h2 7 (by omega) (by omega)) ?_
   rintro ⟨r,d'⟩ ⟨h0,h1,h2⟩
   dsimp only at h0 h1 h2 ⊢
   refine Az (decide_eq_true (by omega)) (Az (decide_eq_true (by omega)) (Az (decide_eq_true (by omega)) (Bi ⟨QC (Fq (P:=shortS) (by decide) h0 h1),h2⟩)))
  ·refine Au (nx N hL h2 5 (by omega) (by omega)) ?_
   rintro ⟨r,d'⟩ ⟨h0,h1,h2⟩
   dsimp only at h0 h1 h2 ⊢
   refine Az (decide_eq_true (by omega)) (Az (decide_eq_true (by omega)) (Az (decide_eq_true (by omega)) (Bi ⟨QC (Fq (P:=shortS) (by decide) h0 h1),h2⟩)))
  ·refine Au (AbD N hN hL h2) ?_
   rintro ⟨n,d'⟩ ⟨g0,g1⟩
   exact Bi ⟨⟨by simp,g0.2,g0.1⟩,g1⟩
def Aa5 (m:Nat) (l:List Gn):Prop:=l.length<=m/\ ∀ g∈l,gnS g
theorem Aej {m:Nat} {l:List Gn} (h:Aa5 m l):DC l:=fun g hg=>Adk (h.2 g hg)
theorem EJ {α :Type} {P: α ->Prop} {l:List α} {x: α} (h: ∀ y∈l,P y) (hx:P x): ∀ y∈l++[x],P y:=by
  intro y hy
  rcases List.mem_append.1 hy with hy | hy
  ·exact h y hy
  ·rw[List.mem_singleton.1 hy];exact hx
include hN hL in
theorem AcQ {d:List Int×Int} (hd:Bl L d):Ends (fun r=>(Aa5 3 r.1.1/\Aa5 3 r.1.2)/\Bl L r.2) (Nq N d):=by
  unfold Nq
  try simp only[clR]
  refine Au (nx N hL hd 4 (by omega) (by omega)) ?_
  rintro ⟨r,d1,d2⟩ ⟨h0,h1,h2⟩
  dsimp only at h0 h1 h2 ⊢
  refine Ez (fun x=>0<=x.1/\x.1<4/\Bl L (x.2.1,x.2.2.1)/\((x.2.2.2.length:Int)+x.1<=3)/\ ∀ g∈x.2.2.2,gnS g) (fun x=>x.1.toNat) ?_ N _ ⟨h0,h1,h2,by simp;omega,(fun r hr=>by cases hr)⟩ (by dsimp only;omega)
  rintro ⟨t,a,b,acc⟩ ⟨g0,g1,g2,g3,g4⟩ k hk
  dsimp only[U4]at g0 g1 g2 g3 g4 ⊢
  refine AX (fun ht=> ?_) (fun _=> ?_)
  ·have ht:=of_decide_eq_true ht
   refine Au (VW N hN hL g2) ?_
   rintro ⟨g,e1,e2⟩ ⟨f0,f1⟩
   dsimp only at f0 f1 ⊢
   refine Az (decide_eq_true (by omega)) (hk _ ⟨?_,?_,f1,?_,EJ g4 f0⟩ ?_)
   ·dsimp only;rw[w64 (by omega) (by omega)];omega
   ·dsimp only;rw[w64 (by omega) (by omega)];omega
   ·dsimp only;rw[w64 (by omega) (by omega),List.length_append];simp;omega
   ·dsimp only;rw[w64 (by omega) (by omega)];omega
  ·dsimp only[U3]
   refine Au (nx N hL g2 3 (by omega) (by omega)) ?_
   rintro ⟨r,e1,e2⟩ ⟨f0,f1,f2⟩
   dsimp only at f0 f1 f2 ⊢
   refine Ez (fun x=>0<=x.1/\x.1<3/\Bl L (x.2.1,x.2.2.1)/\x.2.2.2.1=acc/\((x.2.2.2.2.length:Int)+x.1<=2)/\ ∀ g∈x.2.2.2.2,gnS g) (fun x=>x.1.toNat) ?_ N _ ⟨f0,f1,f2,rfl,by simp;omega,(fun r hr=>by cases hr)⟩ (by dsimp only;omega)
   rintro ⟨t',a',b',acc',out⟩ ⟨p0,p1,p2,p3,p4,p5⟩ k' hk'
   dsimp only[U5]at p0 p1 p2 p3 p4 p5 ⊢
   subst p3
   refine AX (fun ht'=> ?_) (fun _=> ?_)
   ·have ht':=of_decide_eq_true ht'
    refine Au (VW N hN hL p2) ?_
    rintro ⟨g,q1,q2⟩ ⟨z0,z1⟩
    dsimp only at z0 z1 ⊢
    refine Az (decide_eq_true (by omega)) (hk' _ ⟨?_,?_,z1,rfl,?_,EJ p5 z0⟩ ?_)
    ·dsimp only;rw[w64 (by omega) (by omega)];omega
    ·dsimp only;rw[w64 (by omega) (by omega)];omega
    ·dsimp only;rw[w64 (by omega) (by omega),List.length_append];simp;omega
    ·dsimp only;rw[w64 (by omega) (by omega)];omega
   ·dsimp only[U4]
    refine AX (fun _=> ?_) (fun _=>Bi ⟨⟨⟨by dsimp only;omega,g4⟩,by dsimp only;omega,p5⟩,p2⟩)
    refine Au (VW N hN hL p2) ?_
    rintro ⟨g,q1,q2⟩ ⟨z0,z1⟩
    dsimp only at z0 z1 ⊢
    refine Az (decide_eq_true (by omega)) (Bi ⟨⟨⟨by dsimp only;omega,g4⟩,?_,EJ p5 z0⟩,z1⟩)
    dsimp only
    rw[List.length_append];simp;omega
def AhM (l:List Pt):Prop:=l.length<=3/\ ∀ p∈l,Di p
include hN hL in
theorem qK {d:List Int×Int} (hd:Bl L d):Ends (fun r=>AhM r.1/\Bl L r.2) (MR N d):=by
  unfold MR
  try simp only[clR]
  refine Au (nx N hL hd 3 (by omega) (by omega)) ?_
  rintro ⟨r,d1,d2⟩ ⟨h0,h1,h2⟩
  dsimp only at h0 h1 h2 ⊢
  rw[w64 (by omega) (by omega)]
  refine Ez (fun x=>0<=x.1/\x.1<4/\Bl L (x.2.1,x.2.2.1)/\((x.2.2.2.length:Int)+x.1<=3)/\ ∀ p∈x.2.2.2,Di p) (fun x=>x.1.toNat) ?_ N _ ⟨by dsimp only;omega,by dsimp only;omega,h2,by simp;omega,(fun r hr=>by cases hr)⟩ (by dsimp only;omega)
  rintro ⟨t,a,b,acc⟩ ⟨g0,g1,g2,g3,g4⟩ k hk
  dsimp only[U4]at g0 g1 g2 g3 g4 ⊢
  refine AX (fun ht=> ?_) (fun _=>by dsimp only[U3];exact Bi ⟨⟨by dsimp only;omega,g4⟩,g2⟩)
  have ht:=of_decide_eq_true ht
  refine Au (OX N hN hL g2) ?_
  rintro ⟨g,e⟩ ⟨f0,f1⟩
  refine Au (nx N hL f1 6 (by omega) (by omega)) ?_
  rintro ⟨r6,e1,e2⟩ ⟨c0,c1,c2⟩
  dsimp only at c0 c1 c2 f0 ⊢
  refine Az (decide_eq_true (by omega)) (Az (decide_eq_true (by omega)) (Az (decide_eq_true (by omega)) ?_))
  have hr:0<= [(0:Int),0,510,2,64,384].getD r6.toNat 0/\ [(0:Int),0,510,2,64,384].getD r6.toNat 0<=510:=Fq (P:=fun x:Int=>0<=x/\x<=510) (by decide) c0 c1
  have hg:DC [g]:=fun x hx=>by rw[List.mem_singleton.1 hx];exact Adk f0
  refine iW (P:=fun x=>Bl L (x.1,x.2.1)/\x.2.2.1=[(0:Int),0,510,2,64,384].getD r6.toNat 0/\DF x.2.2.2.2.1/\x.2.2.2.2.2.1=[g]/\x.2.2.2.2.2.2=acc) (fun j hj=> ?_) ?_
  ·refine Au (nx N hL c2 3 (by omega) (by omega)) ?_
   rintro ⟨r3,q1,q2⟩ ⟨z0,z1,z2⟩
   dsimp only at z0 z1 z2 ⊢
   refine AX (fun _=> ?_) (fun _=>hj _ ⟨z2,rfl,(fun r hr=>by cases hr),rfl,rfl⟩)
   refine Au (nx N hL z2 16 (by omega) (by omega)) ?_
   rintro ⟨r3,q1,q2⟩ ⟨z0,z1,z2⟩
   dsimp only at z0 z1 z2 ⊢
   refine Au (Aae N hN z0 z1) ?_
   intro n hn
   exact hj _ ⟨z2,rfl,hn.2,rfl,rfl⟩
  ·rintro ⟨q1,q2,x1,x2,x3,x4,x5⟩ ⟨y1,y2,y3,y4,y5⟩
   dsimp only[U7]at y1 y2 y3 y4 y5 ⊢
   subst y2 y4 y5
   refine Az (decide_eq_true (by omega)) (hk _ ⟨?_,?_,y1,?_,EJ g4 ⟨hg,y3,by dsimp only;omega,by dsimp only;omega⟩⟩ ?_)
   ·dsimp only;rw[w64 (by omega) (by omega)];omega
   ·dsimp only;rw[w64 (by omega) (by omega)];omega
   ·dsimp only;rw[w64 (by omega) (by omega),List.length_append];simp;omega
   ·dsimp only;rw[w64 (by omega) (by omega)];omega
end
