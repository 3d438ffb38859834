/-
  CertextCheck: the law returns true whatever the input; machine, functions, plain law (part 42 of 47.)
-/
import Derived.Test.YtadefjgbcapakaaGreatDoorA41
import Derived.Below
set_option linter.unusedVariables false
set_option linter.unusedSimpArgs false
namespace Go.Proofs.YtadefjgbcapakaaGreatDoor.Pl
open IntKind (i64)
open Go Vm
def AiJ (l:List Bs):Prop:=l.length≤1048576∧ ∀ s∈l,CG s
def AnH (l:List Ex):Prop:=l.length≤1000000∧ ∀ x∈l,RP x
def AlS (l:List Pt):Prop:=l.length≤1048576∧ ∀ p∈l,F5 p
theorem JR {s:Bs} (h:shortS s):CG s:=by unfold shortS at h;unfold CG;omega
theorem Ahw {m:Nat} {l:List Bs} (h:Ai5 m l) (hm:m≤1000):AiJ l:=⟨by have:=h.1;omega,fun s hs=>JR (h.2 s hs)⟩
theorem AmS {m:Nat} {l:List Ex} (h:AnD m l) (hm:m≤1000):AnH l:=⟨by have:=h.1;omega,fun s hs=>⟨JR (h.2 s hs).1,JR (h.2 s hs).2⟩⟩
theorem Ah4 {l:List Pt} (h:Ajf l):AlS l:=⟨by have:=h.1;omega,h.2⟩
def Ald:Info→Prop
  | (_,_,_,_,pu,po,ma,_,_,_,na,_,pe,ex,_,_,pt,fr,un)=>AiJ pu∧AiJ po∧(∀ s∈ma,Vd s)∧BO na∧BO pe∧BO ex∧AlS pt∧AlS fr∧AnH un
theorem Ald.small {x:Info} (h:Ald x):JC x:=by
  obtain⟨hb,ca,pl,us,pu,po,ma,re,im,ia,na,hc,pe,ex,sk,ak,pt,fr,un⟩:=x
  obtain⟨h1,h2,h3,h4,h5,h6,h7,h8,h9⟩:=h
  exact⟨h1,h2,h3,h4,h5,h6,h7.2,h8.2,by have:=h9.1;dsimp only;omega,h9.2⟩
section
variable (N:Nat) (hN:1048578<N) {L:List Int} (hL:L.length≤9223372036854775807)
include hN hL in
theorem Ae4 {d:List Int×Int} (hd:BG L d) (raw:Info) (hpt:raw.2.2.2.2.2.2.2.2.2.2.2.2.2.2.2.2.1.length≤6∧ ∀ p∈raw.2.2.2.2.2.2.2.2.2.2.2.2.2.2.2.2.1,F5 p) (hun:raw.2.2.2.2.2.2.2.2.2.2.2.2.2.2.2.2.2.2.length≤30∧ ∀ x∈raw.2.2.2.2.2.2.2.2.2.2.2.2.2.2.2.2.2.2,RP x) :
    Ends (fun r=>Ald r.1∧r.1.2.2.2.2.2.2.2.2.2.2.2.2.2.2.2.2.1.length≤9∧BG L r.2) (N8 N d raw):=by
  unfold N8
  try simp only[clR]
  refine Ar (Akm N hN hL hd) ?_
  rintro ⟨⟨hb,ca,pl,us,pu,po,ma,re,im,ia,na,hc,pe,ex,sk,ak,pt,fr,un⟩,e1,e2⟩ ⟨P,h2⟩
  have P:AhE pl us re im ia pe ex sk ak fr pu po ma na pt un:=P
  have qpu:=Ahw P.pu (by omega)
  have qpo:=Ahw P.po (by omega)
  have qma: ∀ s∈ma,Vd s:=fun s hs=>⟨JR (P.ma.2 s hs).1,JR (P.ma.2 s hs).2⟩
  have qna:=AeT P.na
  have qpe:=AeT P.pe
  have qex:=AeT P.ex
  have qpt:=Ah4 P.pt
  have qfr:=Ah4 P.fr
  have qun:=AmS P.un (by omega)
  have qpl:pt.length≤9:=by have:=P.pt.1;omega
  generalize raw.2.2.2.2.2.2.2.2.2.2.2.2.2.2.2.2.1=rp at hpt ⊢
  generalize raw.2.2.2.2.2.2.2.2.2.2.2.2.2.2.2.2.2.2=ru at hun ⊢
  refine Ar (nx N hL h2 18 (by omega) (by omega)) ?_
  rintro ⟨r,d1,d2⟩ ⟨h0,h1,h2⟩
  dsimp only at h0 h1 h2 ⊢
  refine Ba (fun _=> ?_) (fun _=>Ba (fun _=> ?_) (fun _=>Ba (fun _=> ?_) (fun _=>Ba (fun _=> ?_) (fun _=>Ba (fun _=> ?_) (fun _=>Ba (fun _=> ?_) (fun _=>Ba (fun _=> ?_) (fun _=>Ba (fun _=> ?_) (fun _=>Ba (fun _=> ?_) (fun _=>Ba (fun _=> ?_) (fun _=>Ba (fun _=> ?_) (fun _=>Ba (fun _=> ?_) (fun _=>Ba (fun _=> ?_) (fun _=>Ba (fun _=> ?_) (fun _=>Ba (fun _=> ?_) (fun _=>Ba (fun _=> ?_) (fun _=> ?_))))))))))))))))
  ·exact Bq ⟨⟨qpu,qpo,qma,qna,qpe,qex,qpt,qfr,qun⟩,qpl,h2⟩
  ·refine Ar (nx N hL h2 70 (by omega) (by omega)) ?_
   rintro ⟨r,f1,f2⟩ ⟨f0,_,f3⟩
   exact Bq ⟨⟨qpu,qpo,qma,qna,qpe,qex,qpt,qfr,qun⟩,qpl,f3⟩
  ·refine Ar (nx N hL h2 600 (by omega) (by omega)) ?_
   rintro ⟨r,f1,f2⟩ ⟨f0,_,f3⟩
   exact Bq ⟨⟨qpu,qpo,qma,qna,qpe,qex,qpt,qfr,qun⟩,qpl,f3⟩
  ·have hl:=P.pu.1
   refine Az (decide_eq_true (by omega)) (Bq ⟨⟨⟨?_,Fh qpu.2 ?_⟩,qpo,qma,qna,qpe,qex,qpt,qfr,qun⟩,qpl,h2⟩)
   ·rw[List.length_append];simp;omega
   ·exact JR (by decide)
  ·refine Ar (nx N hL h2 9 (by omega) (by omega)) ?_
   rintro ⟨r,f1,f2⟩ ⟨c0,c1,f3⟩
   dsimp only at c0 c1
   refine Ar (JY N c0 c1) ?_
   intro s hs
   have hl:=P.po.1
   refine Az (decide_eq_true (by omega)) (Bq ⟨⟨qpu,⟨?_,Fh qpo.2 (JR hs)⟩,qma,qna,qpe,qex,qpt,qfr,qun⟩,qpl,f3⟩)
   rw[List.length_append];simp;omega
  ·refine Ar (JY N (by omega) (by omega)) ?_
   intro s0 hs0
   refine Ar (nx N hL h2 9 (by omega) (by omega)) ?_
   rintro ⟨r,f1,f2⟩ ⟨c0,c1,f3⟩
   dsimp only at c0 c1
   refine Ar (JY N c0 c1) ?_
   intro s hs
   have hl:=P.ma.1
   refine Az (decide_eq_true (by omega)) (Bq ⟨⟨qpu,qpo,Fh qma ⟨JR hs0,JR hs⟩,qna,qpe,qex,qpt,qfr,qun⟩,qpl,f3⟩)
  ·refine Ar (nx N hL h2 70 (by omega) (by omega)) ?_
   rintro ⟨r,f1,f2⟩ ⟨f0,_,f3⟩
   exact Bq ⟨⟨qpu,qpo,qma,qna,qpe,qex,qpt,qfr,qun⟩,qpl,f3⟩
  ·refine Ar (nx N hL h2 70 (by omega) (by omega)) ?_
   rintro ⟨r,f⟩ ⟨f0,_,f3⟩
   refine Ar (nx N hL f3 70 (by omega) (by omega)) ?_
   rintro ⟨r,f1,f2⟩ ⟨f0,_,f3⟩
   exact Bq ⟨⟨qpu,qpo,qma,qna,qpe,qex,qpt,qfr,qun⟩,qpl,f3⟩
  ·exact Bq ⟨⟨qpu,qpo,qma,qna,qpe,qex,qpt,qfr,qun⟩,qpl,h2⟩
  ·refine Ar (VA N hN hL h2) ?_
   rintro ⟨g,f1,f2⟩ ⟨hg,f3⟩
   have hl:=P.na.1
   exact Az (decide_eq_true (by omega)) (Bq ⟨⟨qpu,qpo,qma,Fh qna (Aed hg),qpe,qex,qpt,qfr,qun⟩,qpl,f3⟩)
  ·have hl:=P.pt.1
   refine Az (decide_eq_true (by omega)) (Bq ⟨⟨qpu,qpo,qma,qna,qpe,qex,⟨?_,fun p hp=> ?_⟩,qfr,qun⟩,?_,h2⟩)
   ·rw[List.length_append];omega
   ·rcases List.mem_append.1 hp with hp | hp
    ·exact qpt.2 p hp
    ·exact hpt.2 p hp
   ·dsimp only;rw[List.length_append];omega
  ·have hl:=P.un.1
   refine Az (decide_eq_true (by omega)) (Bq ⟨⟨qpu,qpo,qma,qna,qpe,qex,qpt,qfr,⟨?_,fun p hp=> ?_⟩⟩,qpl,h2⟩)
   ·rw[List.length_append];omega
   ·rcases List.mem_append.1 hp with hp | hp
    ·exact qun.2 p hp
    ·exact hun.2 p hp
  ·have hl:=P.un.1
   refine Az (decide_eq_true (by omega)) (Bq ⟨⟨qpu,qpo,qma,qna,qpe,qex,qpt,qfr,⟨?_,Fh qun.2 ⟨?_,?_⟩⟩⟩,qpl,h2⟩)
   ·rw[List.length_append];simp;omega
   ·exact JR (by decide)
   ·exact JR (by decide)
  ·refine EL (fun x=> ∃ t a b us',x=(t,a,b,hb,ca,pl,us,re,im,ia,hc,pe,ex,sk,ak,fr,pu,po,ma,na,pt,us')∧0≤t∧t≤30∧BG L (a,b)∧(us'.length:Int)≤2+t∧ ∀ x∈us',RP x) (fun x=>(30 - x.1).toNat) ?_ N _ ⟨0,d1,d2,un,rfl,by omega,by omega,h2,by have:=P.un.1;omega,qun.2⟩ (by dsimp only;omega)
   rintro _ ⟨t,a,b,us',rfl,g0,g1,g2,g3,g4⟩ k hk
   dsimp only[U22]
   refine Ar (nx N hL g2 10 (by omega) (by omega)) ?_
   rintro ⟨r,f1,f2⟩ ⟨c0,c1,f3⟩
   dsimp only at c0 c1 f3 ⊢
   refine Ba (fun ht=> ?_) (fun _=> ?_)
   ·have ht:=of_decide_eq_true ht
    rw[w64 (by omega) (by omega)]at ht
    have hall: ∀ z:Int,List.all [IntKind.u8.wrap z] Vm.isByte=true:=fun z=>by rw[List.all_cons,Rq];rfl
    refine Az (hall _) (Az (decide_eq_true (by simp)) (Az (decide_eq_true (by simp)) (Az (hall _) (Az (decide_eq_true (by simp)) (Az (decide_eq_true (by omega)) ?_)))))
    refine hk _ ⟨t+1,f1,f2,_,by rw[w64 (by omega) (by omega)],by omega,by omega,f3,?_,Fh g4 ⟨?_,?_⟩⟩ ?_
    ·rw[List.length_append];simp;omega
    ·unfold CG;simp
    ·exact JR (by decide:shortS [5,0])
    ·dsimp only;rw[w64 (by omega) (by omega)];omega
   ·dsimp only[U21]
    exact Bq ⟨⟨qpu,qpo,qma,qna,qpe,qex,qpt,qfr,⟨by omega,g4⟩⟩,qpl,f3⟩
  ·refine Ar (nx N hL h2 8 (by omega) (by omega)) ?_
   rintro ⟨r,f1,f2⟩ ⟨c0,c1,f3⟩
   dsimp only at c0 c1 f3 ⊢
   rw[w64 (by omega) (by omega)]
   refine Az (decide_eq_true (by omega)) (Az (decide_eq_true (by omega)) (Az (decide_eq_true (by omega)) (Az ?_ (Bq ⟨⟨qpu,qpo,qma,qna,qpe,qex,qpt,qfr,qun⟩,qpl,f3⟩))))
   rw[List.all_replicate]
   split<;>rfl
  ·refine EL (fun x=> ∃ a b na',x=(a,b,hb,ca,pl,us,re,im,ia,hc,pe,ex,sk,ak,fr,pu,po,ma,pt,un,na')∧BG L (a,b)∧(na'.length:Int)≤20∧BO na') (fun x=>30 - x.2.2.2.2.2.2.2.2.2.2.2.2.2.2.2.2.2.2.2.2.length) ?_ N _ ⟨d1,d2,na,rfl,h2,by have:=P.na.1;omega,qna⟩ (by dsimp only;omega)
   rintro _ ⟨a,b,na',rfl,g2,g3,g4⟩ k hk
   dsimp only[U21]
   refine Ar (nx N hL g2 6 (by omega) (by omega)) ?_
   rintro ⟨r,f⟩ ⟨c0,c1,f3⟩
   dsimp only at c0 c1 f3 ⊢
   refine Ba (fun ht=> ?_) (fun _=> ?_)
   ·have ht:=of_decide_eq_true ht
    rw[w64 (by omega) (by omega)]at ht
    refine Ar (OV N hN hL f3) ?_
    rintro ⟨g,f1,f2⟩ ⟨hg,f4⟩
    refine Az (decide_eq_true (by omega)) (hk _ ⟨f1,f2,_,rfl,f4,?_,Fh g4 (Aed hg)⟩ ?_)
    ·rw[List.length_append];simp;omega
    ·dsimp only;rw[List.length_append];simp;omega
   ·exact Bq ⟨⟨qpu,qpo,qma,g4,qpe,qex,qpt,qfr,qun⟩,qpl,f3⟩
  ·exact Bq ⟨⟨qpu,qpo,qma,qna,qpe,qex,qpt,qfr,qun⟩,qpl,h2⟩
end
end Go.Proofs.YtadefjgbcapakaaGreatDoor.Pl
namespace Go.Proofs.YtadefjgbcapakaaGreatDoor.Pl
open IntKind (i64)
open Go Vm
def jI (m:Bs×Bs):Bool:=decide (200<m.1.length)||decide (200<m.2.length)
def lJ:Info→Bool
  | (_,_,_,_,pu,po,ma,_,_,_,na,_,pe,ex,sk,ak,pt,fr,un) =>
    bif !QT pu 12 200|| !QT po 12 200||decide (12<ma.length)|| !Fz na|| !Fz pe|| !Fz ex||decide (100<sk.length)||decide (100<ak.length)then false
    else bif ma.any jI then false else ZT pt&&ZT fr&&nH un
theorem Aeu (N:Nat) (x:Info) (hN:1048578<N):LQ N x=some (lJ x):=by
  obtain⟨hb,ca,pl,us,pu,po,ma,re,im,ia,na,hc,pe,ex,sk,ak,pt,fr,un⟩:=x
  unfold LQ
  try simp only[clR]
  unfold lJ
  have f1: ∀ l:List Bs,NW N l 12 200=some (QT l 12 200):=fun l=>An0 N l 12 200 hN (by omega)
  simp only[f1,Ae,aG N _ hN,Option.isSome_some,Option.getD_some,Bool.true_or,Aj]
  rw[show decide (((ma.length:Nat):Int)>12)=decide (12<ma.length)from DC _ 12,show decide (((sk.length:Nat):Int)>100)=decide (100<sk.length)from DC _ 100,show decide (((ak.length:Nat):Int)>100)=decide (100<ak.length)from DC _ 100]
  rw[← Bd]
  refine BC fun h=> ?_
  simp only[Bool.or_eq_false_iff,decide_eq_false_iff_not]at h
  have hma:=h.1.1.1.1.1.2
  rw[← Bd]
  refine FT (mk:=fun i=>((i:Int),hb,ca,pl,us,pu,po,ma,re,im,ia,na,hc,pe,ex,sk,ak,pt,fr,un)) ma ([],[]) jI (some false) _ ?_ ?_ N (by omega)
  ·intro i hi k
   dsimp only[U20]
   rw[Int.toNat_natCast]
   generalize ma.getD i ([],[])=m
   rw[show decide (((m.1.length:Nat):Int)>200)=decide (200<m.1.length)from DC _ 200,show decide (((m.2.length:Nat):Int)>200)=decide (200<m.2.length)from DC _ 200]
   have hm:(decide (200<m.1.length)||decide (200<m.2.length))=jI m:=rfl
   rw[hm,Ju (by omega),cond_true,Hg (by omega),Aj,Aj,w64 (by omega) (by omega)];rfl
  ·intro k
   dsimp only[U20]
   rw[Jt (by omega),cond_false]
   dsimp only[U19]
   rw[Xk N _ hN,Ae,Xk N _ hN,fA N _ hN]
   rfl
def Abc (x:Int):Prop:= -9223372036854775808≤x∧x≤9223372036854775807
theorem rD {l:List Pt} (h:ZT l=true) (hr: ∀ p∈l,Abc p.2.1):l.length≤6∧ ∀ p∈l,F5 p:=by
  obtain⟨h1,h2⟩:=Amo h
  exact⟨h1,fun p hp=>⟨(TN (h2 p hp).1).2.2,(Ac2 (h2 p hp).2).2.2,hr p hp⟩⟩
theorem AgZ {l:List Ex} (h:nH l=true):l.length≤30∧ ∀ x∈l,RP x:=by
  obtain⟨h1,h2⟩:=Amm h
  exact⟨h1,fun x hx=>⟨by have:=(h2 x hx).1;unfold CG;omega,by have:=(h2 x hx).2;unfold CG;omega⟩⟩
theorem rC {l:List Bs} (h:QT l 12 200=true):AiJ l:=by
  obtain⟨h1,h2⟩:=Amn h
  exact⟨by omega,fun s hs=>by have:=h2 s hs;unfold CG;omega⟩
theorem AkP {x:Info} (h:lJ x=true) (h1: ∀ p∈x.2.2.2.2.2.2.2.2.2.2.2.2.2.2.2.2.1,Abc p.2.1) (h2: ∀ p∈x.2.2.2.2.2.2.2.2.2.2.2.2.2.2.2.2.2.1,Abc p.2.1) :
    JC x∧(x.2.2.2.2.2.2.2.2.2.2.2.2.2.2.2.2.1.length≤6∧ ∀ p∈x.2.2.2.2.2.2.2.2.2.2.2.2.2.2.2.2.1,F5 p)∧(x.2.2.2.2.2.2.2.2.2.2.2.2.2.2.2.2.2.2.length≤30∧ ∀ p∈x.2.2.2.2.2.2.2.2.2.2.2.2.2.2.2.2.2.2,RP p):=by
  obtain⟨hb,ca,pl,us,pu,po,ma,re,im,ia,na,hc,pe,ex,sk,ak,pt,fr,un⟩:=x
  unfold lJ at h
  dsimp only at h
  cases g1:(!QT pu 12 200|| !QT po 12 200||decide (12<ma.length)|| !Fz na|| !Fz pe|| !Fz ex||decide (100<sk.length)||decide (100<ak.length))with
  | true=>rw[g1]at h;cases h
  | false =>
    rw[g1,cond_false]at h
    simp only[Bool.or_eq_false_iff,Bool.not_eq_false']at g1
    obtain⟨⟨⟨⟨⟨⟨⟨q1,q2⟩,q3⟩,q4⟩,q5⟩,q6⟩,_⟩,_⟩:=g1
    cases g2:ma.any jI with
    | true=>rw[g2]at h;cases h
    | false =>
      rw[g2,cond_false,Bool.and_eq_true,Bool.and_eq_true]at h
      obtain⟨⟨p1,p2⟩,p3⟩:=h
      have z1:=rD p1 h1
      have z2:=rD p2 h2
      have z3:=AgZ p3
      refine⟨⟨rC q1,rC q2,?_,(TN q4).2.2,(TN q5).2.2,(TN q6).2.2,z1.2,z2.2,by have:=z3.1;exact⟨by dsimp only;omega,z3.2⟩⟩,z1,z3⟩
      intro m hm
      have:=List.any_eq_false.1 g2 m hm
      unfold jI at this
      rw[Bool.or_eq_true,decide_eq_true_eq,decide_eq_true_eq]at this
      exact⟨by unfold CG;omega,by unfold CG;omega⟩
theorem bK (N:Nat) (l:List Ex) (hN:1048578<N) (hl:l.length≤1048576):Cc N l l=some true:=by
  unfold Cc
  try simp only[clR]
  rw[Uc rfl,cond_false]
  refine(FT (mk:=fun i=>(i:Int)) l ([],false,[]) (fun _=>false) (some false) (some true) ?_ ?_ N (by omega)).trans ?_
  ·intro i hi k
   simp (disch:=first | assumption | omega) only[Aw,AY]
   generalize l.getD i ([],false,[])=x
   rw[beq_self_eq_true,beq_self_eq_true,beq_self_eq_true];rfl
  ·intro k
   simp (disch:=first | assumption | omega) only[Aw]
  ·rw[List.any_eq_false.2 (fun _ _=>by decide)];rfl
theorem Alp (M:Nat):Na (M+400)=some true:=by kernel_rfl
theorem Anf (M:Nat):Nb (M+400) ((GG (M+400)).getD default) ((JQ (M+400)).getD default)=some true:=by kernel_rfl
theorem AlB (x:Info) (h:x.2.2.2.2.2.2.2.2.2.2.2.2.2.2.2.2.2.2.length≤1000000):(encI x).1.length≤1048576:=by
  have hl:((EF x).flatMap BJ).length≤13:=by
    have: ∀ l:List (Bool×Bool×Ex),(l.flatMap BJ).length≤l.length:=by
      intro l
      induction l with
      | nil=>simp
      | cons r t ih =>
        have:=Eh r
        rw[List.flatMap_cons,List.length_append,List.length_cons];omega
    have:=this (EF x)
    rw[Acy]at this
    exact this
  unfold encI
  cases Jw x != 0 with
  | true=>exact Nat.zero_le _
  | false =>
    cases (EF x).any G9 with
    | true=>exact Nat.zero_le _
    | false =>
      show(((EF x).flatMap BJ)++_).length≤_
      rw[List.length_append];omega
theorem qG (N:Nat) (x:Info) (hN:1048578<N) (hx:JC x) (hun:x.2.2.2.2.2.2.2.2.2.2.2.2.2.2.2.2.2.2.length≤1000000) (K:Option Bool) :
    (Ad (EU N x) fun r28=>Ad (GZ N x) fun r33=>Ad (H6 N x) fun r37=>Ad (FY N x) fun r39=>Vm.chk ((Cc N r28.1 r33.1).isSome||r37 != r39) (bif r37 != r39|| !(Cc N r28.1 r33.1).getD default||r28.2 != r33.2 then some false else K))=K:=by
  rw[nK N x hN hx,Ae,Ac9 N x hN hx,Ae,Uf N x hN hx,Ae,eX N x hN hx,Ae,bK N _ hN (AlB x hun)]
  have h1:(Jw x != Jw x)=false:=Uc rfl
  have h2:((encI x).2 != (encI x).2)=false:=Uc rfl
  rw[h1,h2];rfl
theorem AjK (N:Nat) (hN:1048578<N) (raw:Info) (l:List Int) (hl:l.length≤9223372036854775807) (h1: ∀ p∈raw.2.2.2.2.2.2.2.2.2.2.2.2.2.2.2.2.1,Abc p.2.1) (h2: ∀ p∈raw.2.2.2.2.2.2.2.2.2.2.2.2.2.2.2.2.2.1,Abc p.2.1):FM N raw l=some true:=by
  have haw:Na N=some true:=by
    obtain⟨M,rfl⟩: ∃ M,N=M+400:=⟨N - 400,by omega⟩
    exact Alp M
  have hno:Nb N ((GG N).getD default) ((JQ N).getD default)=some true:=by
    obtain⟨M,rfl⟩: ∃ M,N=M+400:=⟨N - 400,by omega⟩
    exact Anf M
  unfold FM
  try simp only[clR]
  rw[Aeu N raw hN,Ae,haw]
  cases hsh:lJ raw with
  | false=>rfl
  | true =>
    obtain⟨hs,hpt,hun⟩:=AkP hsh h1 h2
    rw[Bool.not_true,cond_false,show uS N l=some (l,0)from rfl,Ae]
    obtain⟨⟨y,d⟩,hy,hy1,_,_⟩:=Ae4 N hN hl (d:=(l,0)) ⟨0,rfl,Nat.zero_le _⟩ raw hpt hun
    rw[hy,Ae]
    have hyun:y.2.2.2.2.2.2.2.2.2.2.2.2.2.2.2.2.2.2.length≤1000000:=by
      obtain⟨a1,a2,a3,a4,a5,a6,a7,a8,a9,a10,a11,a12,a13,a14,a15,a16,a17,a18,a19⟩:=y
      exact hy1.2.2.2.2.2.2.2.2.1
    refine(FO (S:=Unit) (R:=Unit) (mk:=fun i _=>((i:Int),[raw,y])) [raw,y] (false,false,0,0,[],[],[],0,0,0,[],false,[],[],[],[],[],[],[]) (fun _ _=>.inr ()) (fun _=>none) (fun _=>some true) ?_ ?_ N () (by show 2<N;omega)).trans ?_
    ·intro i _ hi k
     have hi:i<2:=hi
     dsimp only[U2]
     rw[Ju (by omega),cond_true,Hg (by omega),Aj,w64 (by omega) (by omega)]
     rcases(by omega:i=0∨i=1)with rfl | rfl
     ·exact qG N raw hN hs (by have:=hun.1;omega) _
     ·exact qG N y hN hy1.small hyun _
    ·intro _ k
     dsimp only[U2]
     rw[Jt (by show(2:Int)≤((2:Nat):Int);omega),cond_false,Ae,hno]
     rfl
    ·rfl
end Go.Proofs.YtadefjgbcapakaaGreatDoor.Pl
namespace Go.Proofs.YtadefjgbcapakaaGreatDoor.Vm
open Go.RowKit
theorem Moves.below {T:Nat→Prop} {w w':World} (h:Moves (fun _ _=>none) T w w'):Below w.heap.size w w' :=
  ⟨h.os,h.tape,h.output,h.size,fun b hb=>by
    rcases h.blk b hb with e | ⟨c,c',e,fr,_,_,_,_,k,o,_,ho,_⟩ | ⟨_,_,_,_,o,_,_,ho,_⟩
    ·exact e
    ·cases ho
    ·cases ho⟩
theorem Sig.Ao8 {Ah AL:List Sh} {f:ShT Ah→Option (ShT (Fp Ah AL))} {xs:List A} {a:ShT Ah} {o:ShT (Fp Ah AL)} (hd:Qv Ah xs=some a) (hf:f a=some o):(Sig.of Ah AL f).F xs=some (encs (Fp Ah AL) o):=by
  unfold Sig.F Sig.of
  dsimp only
  rw[hd]
  dsimp only
  rw[hf]
  rfl
theorem Akv {P:Program} {f:FuncId} {sg:Sig} (h:Spec P f sg) {xs:List A} {vs:Array Value} {W:World} (hF:sg.F xs=some [.bool true]) (hress:sg.AL=[.cell false .bool]) (hv:vs.size=xs.length) (hl:xs.length=sg.Ah.length) (h100:xs.length≤100)
    (hx: ∀ j,j<xs.length→IR (fun _ _=>none) W (256*j) (vs.getD j undef) (xs.getD j .undef)) (hI:Inv (fun _ _=>none) W):Calls P f vs W fun e w'=>e= .returned (.bool true)∧Below W.heap.size W w':=by
  refine(h.2 (fun _ _=>none) W vs xs _ hI hv hl h100 hx hF).mono fun e w' hq=> ?_
  obtain⟨v,O',he,hc⟩:=hq
  obtain⟨us,h1,h2,h3⟩:=hc.res
  rw[hress]at h1
  have h1':us.size=1:=h1
  have h4:Am O' w' (us.getD 0 undef) (.bool true):=h3 0 (by omega)
  have h5:us.getD 0 undef= .bool true:=by
    generalize us.getD 0 undef=z at h4
    cases h4;rfl
  have h6:v= .bool true:=by
    rw[h2,dif_pos h1', ←h5]
    simp [Array.getD_eq_getD_getElem?,h1']
  exact⟨by rw[he,h6],hc.moves.below⟩
