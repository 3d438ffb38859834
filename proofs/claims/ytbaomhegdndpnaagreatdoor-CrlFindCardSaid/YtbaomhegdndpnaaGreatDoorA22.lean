import Derived.Test.YtbaomhegdndpnaaGreatDoorA21
set_option linter.all false
namespace Go.Proofs.YtbaomhegdndpnaaGreatDoor.Pl
open IntKind (i64)
open Go Vm
abbrev dA:Bs×Int×Bs:=(([]:Bs),0,([]:Bs))
def SmA (N:Nat) (a:Bs×Int×Bs):Prop:=a.2.2.length<N/\a.2.2.length<=1000000
def SmR (N:Nat) (l:Yq0):Prop:=l.length<N/\l.length<=1000000/\ ∀ a∈l,SmA N a
def SmN (N:Nat) (l:List Yq0):Prop:=l.length<N/\l.length<=1000000/\ ∀ r∈l,SmR N r
theorem AaL {E:Type} (f:E->Bool): ∀(l:List E),QP (fun e (_:Unit)=>if f e then(.inl (some true):Option Bool ⊕ Unit)else .inr ()) (fun _=>some false) l ()=some (l.any f):=by
  intro l
  induction l with
  | nil=>rfl
  | cons e r ih =>
    rw[List.any_cons]
    unfold QP
    cases h:f e with
    | true=>rfl
    | false=>exact ih
theorem YU {E:Type} (f:E->Bool): ∀(l:List E),QP (fun e (_:Unit)=>if f e then(.inr ():Option Bool ⊕ Unit)else .inl (some false)) (fun _=>some true) l ()=some (l.all f):=by
  intro l
  induction l with
  | nil=>rfl
  | cons e r ih =>
    rw[List.all_cons]
    unfold QP
    cases h:f e with
    | true=>exact ih
    | false=>rfl
theorem uG {N:Nat} {p q:Bs} (h1:p.length<N/\p.length<=1000000) (h2:q.length<N/\q.length<=1000000):LD N p q=some (Hr p==Hr q):=by
  unfold LD
  rw[YN h1.1 h1.2,AQ,YN h2.1 h2.2];rfl
theorem AdN {N:Nat} {p q:Bs} (h1:p.length<N/\p.length<=1000000) (h2:q.length<N/\q.length<=1000000):FU N p q=some (Hr p==Hr q):=by
  unfold FU
  rw[yR h1.1 h1.2,AQ,yR h2.1 h2.2];rfl
def atP (a e:Bs×Int×Bs):Bool:=(a.1==e.1)&&(Hr a.2.2==Hr e.2.2)
def Oi (l:Yq0) (a:Bs×Int×Bs):Bool:=l.any (atP a)
theorem kV {X:Type} {b:(X->Option Bool)->Option Bool} {nx:Unit->X} {I:Unit->Prop} {c:Bool} (hI:I ()) (h: ∀ k,b k=if c then some true else k (nx ())):kU b nx I (if c then(.inl (some true):Option Bool ⊕ Unit)else .inr ()):=by
  cases c with
  | true=>exact h
  | false=>exact⟨h,hI⟩
theorem PD {X:Type} {b:(X->Option Bool)->Option Bool} {nx:Unit->X} {I:Unit->Prop} {c:Bool} (hI:I ()) (h: ∀ k,b k=if c then k (nx ())else some false):kU b nx I (if c then(.inr ():Option Bool ⊕ Unit)else .inl (some false)):=by
  cases c with
  | true=>exact⟨h,hI⟩
  | false=>exact h
theorem has_eq {N:Nat} {l:Yq0} {a:Bs×Int×Bs} (hl:SmR N l) (ha:SmA N a):JH N l a=some (Oi l a):=by
  unfold JH
  refine(ER (X:=Int×Bs×Int×Bs) (fun i (_:Unit)=>(i,a.1,a.2.1,a.2.2)) l dA (fun _ _=>True) (fun e (_:Unit)=>if atP a e then(.inl (some true):Option Bool ⊕ Unit)else .inr ()) (fun _=>some false) (fun i s hi _=>kV trivial fun k=> ?_) (fun s k _=> ?_) N () trivial hl.1).trans (AaL _ l)
  ·have he:SmA N (l.getD i dA):=by rw[getD_lt _ _ _ hi];exact hl.2.2 _ (List.getElem_mem hi)
   have hn:=hl.2.1
   dsimp only[U4]
   simp only[Int.toNat_natCast,uG ha he,decide_eq_true (by omega:(i:Int)<(l.length:Int)),decide_eq_true (by omega:(0:Int)<=(i:Int)),cond_true,BU,EU,DF,Ci,Option.isSome_some,Bool.true_or,Option.getD_some,w64 (x:=(i:Int)+1) (by omega) (by omega)]
   unfold atP
   cases (a.1==(l.getD i dA).1)<;>cases (Hr a.2.2==Hr (l.getD i dA).2.2)<;>rfl
  ·dsimp only[U4]
   rw[decide_eq_false (by omega)];rfl
theorem AaW {N:Nat} {l:Yq0} {a:Bs×Int×Bs} (hl:SmR N l) (ha:SmA N a):JM N l a=some (Oi l a):=by
  unfold JM
  refine(ER (X:=Int×Bs×Int×Bs) (fun i (_:Unit)=>(i,a.1,a.2.1,a.2.2)) l dA (fun _ _=>True) (fun e (_:Unit)=>if atP a e then(.inl (some true):Option Bool ⊕ Unit)else .inr ()) (fun _=>some false) (fun i s hi _=>kV trivial fun k=> ?_) (fun s k _=> ?_) N () trivial hl.1).trans (AaL _ l)
  ·have he:SmA N (l.getD i dA):=by rw[getD_lt _ _ _ hi];exact hl.2.2 _ (List.getElem_mem hi)
   have hn:=hl.2.1
   dsimp only[U4]
   simp only[Int.toNat_natCast,AdN he ha,decide_eq_true (by omega:(i:Int)<(l.length:Int)),decide_eq_true (by omega:(0:Int)<=(i:Int)),cond_true,BU,EU,DF,Ci,Option.isSome_some,Bool.true_or,Option.getD_some,w64 (x:=(i:Int)+1) (by omega) (by omega)]
   unfold atP
   rw[BEq.comm (a:=(l.getD i dA).1),BEq.comm (a:=Hr (l.getD i dA).2.2)]
   cases (a.1==(l.getD i dA).1)<;>cases (Hr a.2.2==Hr (l.getD i dA).2.2)<;>rfl
  ·dsimp only[U4]
   rw[decide_eq_false (by omega)];rfl
def P7 (a b:Yq0):Bool:=(a.length==b.length)&&(List.range a.length).all fun i=>Oi b (a.getD i dA)&&Oi a (b.getD i dA)
theorem Agu (a b:Nat):((a:Int) != (b:Int))= !(a==b):=by
  by_cases h:a=b
  ·subst h;simp
  ·rw[bne_iff_ne.2 (by omega),beq_eq_false_iff_ne.2 h];rfl
theorem kR {N:Nat} {l:Yq0} (hl:SmR N l) {i:Nat} (hi:i<l.length):SmA N (l.getD i dA):=by rw[getD_lt _ _ _ hi];exact hl.2.2 _ (List.getElem_mem hi)
theorem same_eq {N:Nat} {a b:Yq0} (ha:SmR N a) (hb:SmR N b):Pj N a b=some (P7 a b):=by
  unfold Pj P7
  rw[Agu]
  by_cases hl:a.length=b.length
  ·rw[show(a.length==b.length)=true from beq_iff_eq.2 hl,Bool.not_true,cond_false,Bool.true_and]
   have hn:=ha.2.1
   refine(ER (X:=Int) (fun i (_:Unit)=>i) (List.range a.length) 0 (fun _ _=>True) (fun i (_:Unit)=>if Oi b (a.getD i dA)&&Oi a (b.getD i dA)then(.inr ():Option Bool ⊕ Unit)else .inl (some false)) (fun _=>some true) (fun i s hi _=>PD trivial fun k=> ?_) (fun s k _=> ?_) N () trivial (by rw[List.length_range];exact ha.1)).trans (YU _ _)
   ·rw[List.length_range]at hi
    have hr:(List.range a.length).getD i 0=i:=by simp [List.getD_eq_getElem?_getD,hi]
    rw[hr]
    simp only[Int.toNat_natCast,has_eq hb (kR ha hi),has_eq ha (kR hb (by omega:i<b.length)),AQ,decide_eq_true (by omega:(i:Int)<(a.length:Int)),decide_eq_true (by omega:(i:Int)<(b.length:Int)),decide_eq_true (by omega:(0:Int)<=(i:Int)),cond_true,BU,PS,LU,Ci,Option.isSome_some,Bool.true_or,Option.getD_some,w64 (x:=(i:Int)+1) (by omega) (by omega)]
    cases Oi b (a.getD i dA)<;>cases Oi a (b.getD i dA)<;>rfl
   ·rw[List.length_range,decide_eq_false (by omega)];rfl
  ·rw[show(a.length==b.length)=false from beq_eq_false_iff_ne.2 hl];rfl
theorem AeY {N:Nat} {a b:Yq0} (ha:SmR N a) (hb:SmR N b):IJ N a b=some (P7 a b):=by
  unfold IJ P7
  rw[Agu]
  by_cases hl:a.length=b.length
  ·rw[show(a.length==b.length)=true from beq_iff_eq.2 hl,Bool.not_true,cond_false,Bool.true_and]
   have hn:=ha.2.1
   refine(ER (X:=Int) (fun i (_:Unit)=>i) (List.range a.length) 0 (fun _ _=>True) (fun i (_:Unit)=>if Oi b (a.getD i dA)&&Oi a (b.getD i dA)then(.inr ():Option Bool ⊕ Unit)else .inl (some false)) (fun _=>some true) (fun i s hi _=>PD trivial fun k=> ?_) (fun s k _=> ?_) N () trivial (by rw[List.length_range];exact ha.1)).trans (YU _ _)
   ·rw[List.length_range]at hi
    have hr:(List.range a.length).getD i 0=i:=by simp [List.getD_eq_getElem?_getD,hi]
    rw[hr]
    simp only[Int.toNat_natCast,AaW hb (kR ha hi),AaW ha (kR hb (by omega:i<b.length)),AQ,decide_eq_true (by omega:(i:Int)<(a.length:Int)),decide_eq_true (by omega:(i:Int)<(b.length:Int)),decide_eq_true (by omega:(0:Int)<=(i:Int)),cond_true,BU,PS,LU,Ci,Option.isSome_some,Bool.true_or,Option.getD_some,w64 (x:=(i:Int)+1) (by omega) (by omega)]
    cases Oi b (a.getD i dA)<;>cases Oi a (b.getD i dA)<;>rfl
   ·rw[List.length_range,decide_eq_false (by omega)];rfl
  ·rw[show(a.length==b.length)=false from beq_eq_false_iff_ne.2 hl];rfl
def UL (a b:List Yq0):Bool:=(decide (b.length<=a.length))&&(List.range b.length).all fun i=>P7 (a.getD i []) (b.getD i [])
def Q4 (a b:List Yq0):Bool:=(a.length==b.length)&&UL a b
theorem UF {N:Nat} {l:List Yq0} (hl:SmN N l) {i:Nat} (hi:i<l.length):SmR N (l.getD i []):=by rw[getD_lt _ _ _ hi];exact hl.2.2 _ (List.getElem_mem hi)
theorem AdY {N:Nat} {a b:List Yq0} (ha:SmN N a) (hb:SmN N b):Ib N a b=some (UL a b):=by
  unfold Ib UL
  by_cases hl:b.length<=a.length
  ·rw[decide_eq_false (by omega),decide_eq_true hl,cond_false,Bool.true_and]
   have hn:=hb.2.1
   refine(ER (X:=Int×List Yq0×List Yq0) (fun i (_:Unit)=>(i,a,b)) (List.range b.length) 0 (fun _ _=>True) (fun i (_:Unit)=>if P7 (a.getD i []) (b.getD i [])then(.inr ():Option Bool ⊕ Unit)else .inl (some false)) (fun _=>some true) (fun i s hi _=>PD trivial fun k=> ?_) (fun s k _=> ?_) N () trivial (by rw[List.length_range];exact hb.1)).trans (YU _ _)
   ·rw[List.length_range]at hi
    have hr:(List.range b.length).getD i 0=i:=by simp [List.getD_eq_getElem?_getD,hi]
    rw[hr]
    dsimp only[U3]
    simp only[Int.toNat_natCast,same_eq (UF ha (by omega:i<a.length)) (UF hb hi),AQ,decide_eq_true (by omega:(i:Int)<(a.length:Int)),decide_eq_true (by omega:(i:Int)<(b.length:Int)),decide_eq_true (by omega:(0:Int)<=(i:Int)),cond_true,BU,w64 (x:=(i:Int)+1) (by omega) (by omega)]
    cases P7 (a.getD i []) (b.getD i [])<;>rfl
   ·dsimp only[U3]
    rw[List.length_range,decide_eq_false (by omega)];rfl
  ·rw[decide_eq_true (by omega),decide_eq_false hl];rfl
theorem Acy {N:Nat} {a b:List Yq0} (ha:SmN N a) (hb:SmN N b):Fq N a b=some (UL a b):=by
  unfold Fq UL
  by_cases hl:b.length<=a.length
  ·rw[decide_eq_false (by omega),decide_eq_true hl,cond_false,Bool.true_and]
   have hn:=hb.2.1
   refine(ER (X:=Int×List Yq0×List Yq0) (fun i (_:Unit)=>(i,a,b)) (List.range b.length) 0 (fun _ _=>True) (fun i (_:Unit)=>if P7 (a.getD i []) (b.getD i [])then(.inr ():Option Bool ⊕ Unit)else .inl (some false)) (fun _=>some true) (fun i s hi _=>PD trivial fun k=> ?_) (fun s k _=> ?_) N () trivial (by rw[List.length_range];exact hb.1)).trans (YU _ _)
   ·rw[List.length_range]at hi
    have hr:(List.range b.length).getD i 0=i:=by simp [List.getD_eq_getElem?_getD,hi]
    rw[hr]
    dsimp only[U3]
    simp only[Int.toNat_natCast,AeY (UF ha (by omega:i<a.length)) (UF hb hi),AQ,decide_eq_true (by omega:(i:Int)<(a.length:Int)),decide_eq_true (by omega:(i:Int)<(b.length:Int)),decide_eq_true (by omega:(0:Int)<=(i:Int)),cond_true,BU,w64 (x:=(i:Int)+1) (by omega) (by omega)]
    cases P7 (a.getD i []) (b.getD i [])<;>rfl
   ·dsimp only[U3]
    rw[List.length_range,decide_eq_false (by omega)];rfl
  ·rw[decide_eq_true (by omega),decide_eq_false hl];rfl
theorem Agt (a b:Nat):((a:Int)==(b:Int))=(a==b):=by
  by_cases h:a=b
  ·subst h;simp
  ·rw[beq_eq_false_iff_ne.2 (by omega: ¬(a:Int)=(b:Int)),beq_eq_false_iff_ne.2 h]
theorem AeL {N:Nat} {a b:List Yq0} (ha:SmN N a) (hb:SmN N b):EP N a b=some (Q4 a b):=by
  unfold EP Q4
  rw[AdY ha hb,Agt]
  simp only[EU,DF,Ci,Option.isSome_some,Bool.true_or,BU,Option.getD_some,AaM]
theorem AdP {N:Nat} {a b:List Yq0} (ha:SmN N a) (hb:SmN N b):FW N a b=some (Q4 a b):=by
  unfold FW Q4
  rw[Acy ha hb,Agt]
  simp only[EU,DF,Ci,Option.isSome_some,Bool.true_or,BU,Option.getD_some,AaM]
abbrev dE:Yq1:=(0,0,0,0,([]:List Yq0))
def xI (n:List Yq0) (s:Int) (e:Yq1):Bool:=(e.1==s)&&Q4 e.2.2.2.2 n
theorem copy_eq {N:Nat} {l:List Yq0} (hl:SmN N l):HY N l=some l:=by
  unfold HY
  have hn:=hl.2.1
  refine Qy (X:=Int×List Yq0) (fun x=>0<=x.1/\x.1<=(l.length:Int)/\x.2=l.take x.1.toNat) (fun x=>((l.length:Int) - x.1).toNat) (fun _=>some l) ?_ N _ ⟨by show(0:Int)<=0;omega,by show(0:Int)<=l.length;omega,rfl⟩ (by show((l.length:Int) - 0).toNat<N;have:=hl.1;omega)
  rintro ⟨t,acc⟩ ⟨h1,h2,h3⟩ k hk
  have h1:0<=t:=h1
  have h2:t<=(l.length:Int):=h2
  have h3:acc=l.take t.toNat:=h3
  dsimp only[U2]
  by_cases hlt:t<(l.length:Int)
  ·have hi:t.toNat<l.length:=by omega
   have hs:=UF hl hi
   have ha:acc.length=t.toNat:=by rw[h3,List.length_take];omega
   have:=hs.2.1
   rw[decide_eq_true hlt,cond_true,BF _ (decide_eq_true h1),BF _ rfl,BF _ (decide_eq_true (by omega)),BF _ (decide_eq_true (by omega)),w64 (by omega) (by omega)]
   refine hk _ ⟨by show 0<=t+1;omega,by show t+1<=_;omega,?_⟩ (by show((l.length:Int) - (t+1)).toNat<((l.length:Int) - t).toNat;omega)
   show acc++[l.getD t.toNat []]=l.take (t+1).toNat
   rw[show(t+1).toNat=t.toNat+1 by omega,List.take_succ_eq_append_getElem hi,h3,getD_lt _ _ _ hi]
  ·rw[decide_eq_false hlt,cond_false]
   show some acc=some l
   rw[h3,List.take_of_length_le (by omega)]
theorem wZ {β :Type} (f:Nat->Bool) (g:Nat-> β) (d: β): ∀(l:List Nat),QP (fun i (_:Unit)=>if f i then(.inl (some (g i)):Option β ⊕ Unit)else .inr ()) (fun _=>some d) l ()=some (match l.find? f with | some i=>g i | none=>d):=by
  intro l
  induction l with
  | nil=>rfl
  | cons e r ih =>
    unfold QP
    rw[List.find?_cons]
    cases h:f e with
    | true=>rfl
    | false=>exact ih
theorem aP {X β :Type} {b:(X->Option β)->Option β} {nx:Unit->X} {I:Unit->Prop} {c:Bool} {v: β} (hI:I ()) (h: ∀ k,b k=if c then some v else k (nx ())):kU b nx I (if c then(.inl (some v):Option β ⊕ Unit)else .inr ()):=by
  cases c with
  | true=>exact h
  | false=>exact⟨h,hI⟩
def SmE (N:Nat) (es:List Yq1):Prop:=es.length<N/\es.length<=1000000/\ ∀ e∈es,SmN N e.2.2.2.2
def Uj (es:List Yq1) (n:List Yq0) (s:Int):Option Nat:=(List.range es.length).find? fun i=>xI n s (es.getD i dE)
theorem kS {N:Nat} {es:List Yq1} (h:SmE N es) {i:Nat} (hi:i<es.length):SmN N (es.getD i dE).2.2.2.2:=by rw[getD_lt _ _ _ hi];exact h.2.2 _ (List.getElem_mem hi)
theorem AeS {N:Nat} {es:List Yq1} {n:List Yq0} (he:SmE N es) (hn:SmN N n) (s:Int):Nq N es n s=some (match Uj es n s with | some i=>(i:Int) | none=> -1):=by
  unfold Nq Uj
  refine(ER (X:=Int×List Yq0) (fun i (_:Unit)=>(i,n)) (List.range es.length) 0 (fun _ _=>True) (fun i (_:Unit)=>if xI n s (es.getD i dE)then(.inl (some (i:Int)):Option Int ⊕ Unit)else .inr ()) (fun _=>some (-1)) (fun i u hi _=> ?_) (fun u k _=> ?_) N () trivial (by rw[List.length_range];exact he.1)).trans (wZ _ (fun i=>(i:Int)) (-1) _)
  ·rw[List.length_range]at hi
   have hr:(List.range es.length).getD i 0=i:=by simp [List.getD_eq_getElem?_getD,hi]
   have hn2:=he.2.1
   rw[hr]
   refine aP trivial fun k=> ?_
   dsimp only[U2]
   simp only[Int.toNat_natCast,AeL (kS he hi) hn,decide_eq_true (by omega:(i:Int)<(es.length:Int)),decide_eq_true (by omega:(0:Int)<=(i:Int)),cond_true,BU,EU,DF,Ci,Option.isSome_some,Bool.true_or,Option.getD_some,w64 (x:=(i:Int)+1) (by omega) (by omega)]
   unfold xI
   cases ((es.getD i dE).1==s)<;>cases (Q4 (es.getD i dE).2.2.2.2 n)<;>rfl
  ·dsimp only[U2]
   rw[List.length_range,decide_eq_false (by omega)];rfl
def Qo (es:List Yq1) (n:List Yq0) (s:Int):Yq1×Bool:=match Uj es n s with | some i=>(es.getD i dE,true) | none=>(dE,false)
theorem Xd {N:Nat} {y:Yq4} {n:List Yq0} (he:SmE N y.2.2.2.2.2.2.2.2.2.2.2.2.2.2.2.1) (hn:SmN N n) (s:Int):FY N y n s=some (Qo y.2.2.2.2.2.2.2.2.2.2.2.2.2.2.2.1 n s):=by
  unfold FY Qo Uj
  generalize y.2.2.2.2.2.2.2.2.2.2.2.2.2.2.2.1=es at he ⊢
  refine(ER (X:=Int×List Yq0) (fun i (_:Unit)=>(i,n)) (List.range es.length) 0 (fun _ _=>True) (fun i (_:Unit)=>if xI n s (es.getD i dE)then(.inl (some (es.getD i dE,true)):Option (Yq1×Bool) ⊕ Unit)else .inr ()) (fun _=>some (dE,false)) (fun i u hi _=> ?_) (fun u k _=> ?_) N () trivial (by rw[List.length_range];exact he.1)).trans (wZ _ (fun i=>(es.getD i dE,true)) (dE,false) _)
  ·rw[List.length_range]at hi
   have hr:(List.range es.length).getD i 0=i:=by simp [List.getD_eq_getElem?_getD,hi]
   have hn2:=he.2.1
   rw[hr]
   refine aP trivial fun k=> ?_
   dsimp only[U2]
   simp only[Int.toNat_natCast,AdP (kS he hi) hn,decide_eq_true (by omega:(i:Int)<(es.length:Int)),decide_eq_true (by omega:(0:Int)<=(i:Int)),cond_true,BU,EU,DF,Ci,Option.isSome_some,Bool.true_or,Option.getD_some,w64 (x:=(i:Int)+1) (by omega) (by omega)]
   unfold xI
   cases ((es.getD i dE).1==s)<;>cases (Q4 (es.getD i dE).2.2.2.2 n)<;>rfl
  ·dsimp only[U2]
   rw[List.length_range,decide_eq_false (by omega)];rfl
theorem Af3 {N:Nat} {y:Yq4} {n:List Yq0} (he:SmE N y.2.2.2.2.2.2.2.2.2.2.2.2.2.2.2.1) (hn:SmN N n) (s:Int):H9 N y n s=some (Qo y.2.2.2.2.2.2.2.2.2.2.2.2.2.2.2.1 n s):=by
  unfold H9
  rw[AeS he hn,AQ]
  unfold Qo
  cases h:Uj y.2.2.2.2.2.2.2.2.2.2.2.2.2.2.2.1 n s with
  | none=>rfl
  | some i =>
    have hi:i<y.2.2.2.2.2.2.2.2.2.2.2.2.2.2.2.1.length:=List.mem_range.1 (List.mem_of_find?_eq_some h)
    dsimp only
    rw[decide_eq_false (by omega: ¬(i:Int)<0),cond_false,decide_eq_true (by omega:(0:Int)<=(i:Int)),decide_eq_true (by omega:(i:Int)<(y.2.2.2.2.2.2.2.2.2.2.2.2.2.2.2.1.length:Int)),BU,BU,Int.toNat_natCast,copy_eq (kS he hi),AQ]
theorem AcR (N:Nat) (x:Int):Ef N x=FX N x:=by
  unfold Ef FX
  simp only[EU,DF,Ci]
  by_cases h1:x>=1
  ·by_cases h2:x<=6
   ·simp only[decide_eq_true h1,decide_eq_true h2,cond_true,wu64 (x:=x) (by omega) (by omega),decide_eq_true (by omega:0<=x),BU]
   ·simp only[decide_eq_true h1,decide_eq_false h2,cond_true,cond_false]
  ·simp only[decide_eq_false h1,cond_false]
abbrev Att:Type:=Bs×Int×Bs
abbrev Gn:Type:=Yq2
abbrev Pt:Type:=Yq3
def zH (e:Att):Prop:=e.1.length<=1048576/\e.2.2.length<=1048576
def UG (n:List (List Att)):Prop:= ∀ p∈n,∀ e∈p,zH e
def AdT (g:Gn):Prop:=g.2.1.length<=1048576/\UG g.2.2
def AaX (l:List Gn):Prop:= ∀ g∈l,AdT g
def AaY (p:Pt):Prop:=AaX p.1/\UG p.2.2.2/\ -9223372036854775808<=p.2.1/\p.2.1<=9223372036854775807
theorem getD_mem {α :Type} {l:List α} {i:Nat} (d: α) (h:i<l.length):l.getD i d∈l:=by rw[getD_lt l i d h];exact List.getElem_mem h
theorem y9 {α :Type} {P: α ->Prop} {l:List α} {x: α} (h: ∀ y∈l,P y) (hx:P x): ∀ y∈l++[x],P y:=by
  intro y hy
  rcases List.mem_append.1 hy with hy | hy
  ·exact h y hy
  ·rw[List.mem_singleton.1 hy];exact hx
def Ends {α :Type} (Q: α ->Prop) (o:Option α):Prop:= ∃ v,o=some v/\Q v
theorem Bj {α :Type} {Q: α ->Prop} {v: α} (h:Q v):Ends Q (some v):=⟨v,rfl,h⟩
theorem AP {α ρ :Type} [Inhabited α] {P: α ->Prop} {Q: ρ ->Prop} {o:Option α} {k: α ->Option ρ} (h:Ends P o) (hk: ∀ v,P v->Ends Q (k v)):Ends Q (callO o k):=by
  obtain⟨v,rfl,hv⟩:=h
  exact hk v hv
theorem A7 {ρ :Type} {Q: ρ ->Prop} {c:Bool} {k:Option ρ} (h:c=true) (hk:Ends Q k):Ends Q (Vm.chk c k):=by rw[h];exact hk
theorem Ba {ρ :Type} {Q: ρ ->Prop} {c:Bool} {x y:Option ρ} (h1:c=true->Ends Q x) (h2:c=false->Ends Q y):Ends Q (bif c then x else y):=by
  cases c with
  | true=>exact h1 rfl
  | false=>exact h2 rfl
theorem FQ {α ρ :Type} {P: α ->Prop} {Q: ρ ->Prop} {A:(α ->Option ρ)->Option ρ} {f: α ->Option ρ} (hA: ∀ j: α ->Option ρ,(∀ x,P x->Ends Q (j x))->Ends Q (A j)) (hf: ∀ x,P x->Ends Q (f x)):Ends Q (BH A f):=hA f hf
theorem Dv {X Y ρ :Type} {B:X->(X->Option ρ)->(Y->Option ρ)->Option ρ} {kx:Y->Option ρ} {Q: ρ ->Prop} (I:X->Prop) (μ :X->Nat)
    (h: ∀ x,I x-> ∀ k:X->Option ρ,(∀ x',I x'-> μ x'< μ x->Ends Q (k x'))->Ends Q (B x k kx)) (N:Nat) (x:X) (hI:I x) (hm: μ x<N):Ends Q (Au B N x kx):=FT I μ (Ends Q) h N x hI hm
def BM (L:List Int) (d:List Int×Int):Prop:= ∃ k:Nat,d=(L,(k:Int))/\k<=L.length
theorem Ad9 (N:Nat) {L:List Int} (hL:L.length<=9223372036854775807) {d:List Int×Int} (hd:BM L d) (n:Nat) (hn:0<n) (hn':n<2147483648) :
    Ends (fun r=>0<=r.1/\r.1<(n:Int)/\BM L r.2) (A8 N d (n:Int)):=by
  obtain⟨k,rfl,hk⟩:=hd
  unfold A8
  dsimp only
  by_cases h:k<L.length
  ·rw[AcP,if_neg (by omega),w64 (x:=(k:Int)+1) (by omega) (by omega),w64 (x:=(k:Int)+1 - 1) (by omega) (by omega),AcW,if_pos (by omega),AcW,if_pos (by omega)]
   generalize L.getD _ _=x
   have hne:((n:Int) != 0)=true:=by simp;omega
   rw[hne,BU,BU]
   have h1:=Int.tmod_lt_of_pos x (show(0:Int)<(n:Int) by omega)
   have h2: -(n:Int)<x.tmod (n:Int):=Int.lt_tmod_of_pos x (by omega)
   rw[w64 (x:=x.tmod (n:Int)+(n:Int)) (by omega) (by omega)]
   have h3:0<=(x.tmod (n:Int)+(n:Int)).tmod (n:Int):=Int.tmod_nonneg _ (by omega)
   have h4:=Int.tmod_lt_of_pos (x.tmod (n:Int)+(n:Int)) (show(0:Int)<(n:Int) by omega)
   refine⟨_,rfl,h3,h4,k+1,by rw[show((k+1:Nat):Int)=(k:Int)+1 by omega],h⟩
  ·rw[AcP,if_pos (by omega)]
   exact⟨_,rfl,Int.le_refl _,by show(0:Int)<n;omega,k,rfl,hk⟩
theorem QH {α :Type} {P: α ->Prop} {l:List α} {d: α} {i:Int} (h: ∀ x∈l,P x) (h0:0<=i) (hi:i<(l.length:Int)):P (l.getD i.toNat d):=h _ (getD_mem d (by omega))
section
variable (N:Nat) (hN:1048578<N) {L:List Int} (hL:L.length<=9223372036854775807)
include hL
theorem nx {d:List Int×Int} (hd:BM L d) (n:Int) (h0:0<n) (h1:n<2147483648):Ends (fun r=>0<=r.1/\r.1<n/\BM L r.2) (A8 N d n):=by
  have:=Ad9 N hL hd n.toNat (by omega) (by omega)
  rw[show((n.toNat:Nat):Int)=n by omega]at this
  exact this
def Aem (a:Att):Prop:=a.1.length<=40/\a.2.2.length<=40
instance (a:Att):Decidable (Aem a):=by unfold Aem;infer_instance
theorem lJ {d:List Int×Int} (hd:BM L d):Ends (fun r=>Aem r.1/\BM L r.2) (II N d):=by
  unfold II
  refine AP (nx N hL hd 12 (by omega) (by omega)) ?_
  rintro ⟨r,d'⟩ ⟨h0,h1,h2⟩
  dsimp only at h0 h1 h2 ⊢
  refine A7 (by simp;omega) (A7 (by simp;omega) (A7 (by simp;omega) (Bj ⟨?_,h2⟩)))
  exact QH (by decide) h0 h1
def nmS (n:List (List Att)):Prop:=n.length<=3/\UG n
include hN in
theorem Ad8 {d:List Int×Int} (hd:BM L d):Ends (fun r=>nmS r.1/\BM L r.2) (RQ N d):=by
  unfold RQ
  try simp only[clR]
  refine AP (nx N hL hd 4 (by omega) (by omega)) ?_
  rintro ⟨r,d1,d2⟩ ⟨h0,h1,h2⟩
  dsimp only at h0 h1 h2 ⊢
  refine Dv (fun x=>0<=x.1/\x.1<4/\BM L (x.2.1,x.2.2.1)/\((x.2.2.2.length:Int)+x.1<=3)/\UG x.2.2.2) (fun x=>x.1.toNat) ?_ N _ ⟨h0,h1,h2,by simp;omega,fun r hr=>by cases hr⟩ (by dsimp only;omega)
  rintro ⟨t,a,b,acc⟩ ⟨g0,g1,g2,g3,g4⟩ k hk
  dsimp only[U4]at g0 g1 g2 g3 g4 ⊢
  refine Ba (fun ht=> ?_) (fun _=> ?_)
  ·have ht:=of_decide_eq_true ht
   refine AP (nx N hL g2 5 (by omega) (by omega)) ?_
   rintro ⟨r,e1,e2⟩ ⟨f0,f1,f2⟩
   dsimp only at f0 f1 f2 ⊢
   have hw:i64.wrap (1+i64.wrap (r.tdiv 4))<=2/\0<=i64.wrap (1+i64.wrap (r.tdiv 4)):=by
     have:r=0\/r=1\/r=2\/r=3\/r=4:=by omega
     rcases this with rfl | rfl | rfl | rfl | rfl<;>decide
   refine Dv (fun x=>0<=x.1/\x.1<=2/\BM L (x.2.1,x.2.2.1)/\((x.2.2.2.1.length:Int)+x.1<=2)/\(∀ e∈x.2.2.2.1,zH e)/\x.2.2.2.2=acc) (fun x=>x.1.toNat) ?_ N _ ⟨hw.2,hw.1,f2,by simp;omega,(fun r hr=>by cases hr),rfl⟩ (by dsimp only;omega)
   rintro ⟨t',a',b',acc',out⟩ ⟨p0,p1,p2,p3,p4,p5⟩ k' hk'
   dsimp only[U5]at p0 p1 p2 p3 p4 p5 ⊢
   subst p5
   refine Ba (fun ht'=> ?_) (fun _=> ?_)
   ·have ht':=of_decide_eq_true ht'
    refine AP (lJ N hL p2) ?_
    rintro ⟨r,q1,q2⟩ ⟨z0,z1⟩
    dsimp only at z0 z1 ⊢
    have taut:(decide ((0:Int)<(acc'.length:Int))||((acc'.length:Nat):Int)==0)=true:=by
      cases acc' with
      | nil=>rfl
      | cons x y=>rw[decide_eq_true (by rw[List.length_cons];omega)];rfl
    have taut2:(decide (0<acc'.length)||((acc'.length:Nat):Int)==0)=true:=by
      cases acc' with
      | nil=>rfl
      | cons x y=>rw[decide_eq_true (by rw[List.length_cons];omega)];rfl
    have hsm:zH r:=⟨by have:=z0.1;omega,by have:=z0.2;omega⟩
    refine A7 (by first | exact taut | exact taut2) (A7 (by first | exact taut | exact taut2) (A7 (by first | exact taut | exact taut2) ?_))
    refine Ba (fun _=> ?_) (fun _=> ?_)
    ·refine A7 (decide_eq_true (by omega)) (hk' _ ⟨?_,?_,z1,?_,?_,rfl⟩ ?_)
     ·dsimp only;rw[w64 (by omega) (by omega)];omega
     ·dsimp only;rw[w64 (by omega) (by omega)];omega
     ·dsimp only;rw[w64 (by omega) (by omega),List.length_append];simp;omega
     ·intro e he
      rcases List.mem_append.1 he with he | he
      ·exact p4 e he
      ·rw[List.mem_singleton.1 he];exact hsm
     ·dsimp only;rw[w64 (by omega) (by omega)];omega
    ·refine hk' _ ⟨?_,?_,z1,?_,p4,rfl⟩ ?_
     ·dsimp only;rw[w64 (by omega) (by omega)];omega
     ·dsimp only;rw[w64 (by omega) (by omega)];omega
     ·dsimp only;rw[w64 (by omega) (by omega)];omega
     ·dsimp only;rw[w64 (by omega) (by omega)];omega
   ·dsimp only[U4]
    refine A7 (decide_eq_true (by omega)) (hk _ ⟨?_,?_,p2,?_,?_⟩ ?_)
    ·dsimp only;rw[w64 (by omega) (by omega)];omega
    ·dsimp only;rw[w64 (by omega) (by omega)];omega
    ·dsimp only;rw[w64 (by omega) (by omega),List.length_append];simp;omega
    ·intro e he
     rcases List.mem_append.1 he with he | he
     ·exact g4 e he
     ·rw[List.mem_singleton.1 he];exact p4
    ·dsimp only;rw[w64 (by omega) (by omega)];omega
  ·dsimp only[U3]
   exact Bj ⟨⟨by dsimp only;omega,g4⟩,g2⟩
end
section
variable (N:Nat) (hN:1048578<N) {L:List Int} (hL:L.length<=9223372036854775807)
def nmC (n:List (List Att)):Bool:=decide (n.length<=3)&&n.all fun r=>r.all fun e=>decide (e.1.length<=40)&&decide (e.2.2.length<=40)
def nmO (o:Option (List (List Att))):Bool:=match o with
  | some n=>nmC n
  | none=>false
theorem Agy {n:List (List Att)} (h:nmC n=true):nmS n:=by
  unfold nmC at h
  rw[Bool.and_eq_true,decide_eq_true_eq]at h
  refine⟨h.1,fun r hr e he=> ?_⟩
  have:=List.all_eq_true.1 (List.all_eq_true.1 h.2 r hr) e he
  rw[Bool.and_eq_true,decide_eq_true_eq,decide_eq_true_eq]at this
  exact⟨by omega,by omega⟩
theorem rF (M:Nat): ∀ k:Fin 16,nmO (Bg (M+70) (k.val:Int))=true:=of_decide_eq_true (by kernel_rfl)
include hN in
theorem lL {k:Int} (h0:0<=k) (h1:k<16):Ends nmS (Bg N k):=by
  obtain⟨M,rfl⟩: ∃ M,N=M+70:=⟨N - 70,by omega⟩
  have h:=rF M ⟨k.toNat,by omega⟩
  rw[show(((⟨k.toNat,by omega⟩:Fin 16).val:Nat):Int)=k from Int.toNat_of_nonneg h0]at h
  cases ho:Bg (M+70) k with
  | none=>rw[ho]at h;cases h
  | some n=>rw[ho]at h;exact⟨n,rfl,Agy h⟩
def shortS (s:Bs):Prop:=s.length<=40
instance (s:Bs):Decidable (shortS s):=by unfold shortS;infer_instance
def gnS (g:Gn):Prop:=g.2.1.length<=40/\UG g.2.2/\g.2.2.length<=3
theorem AgR {g:Gn} (h:gnS g):AdT g:=⟨by have:=h.1;omega,h.2.1⟩
theorem bV {k:Int} {s:Bs} (h:shortS s):gnS (k,s,[]):=⟨h,(fun r hr=>by cases hr),by simp⟩
include hN hL in
theorem Qp {d:List Int×Int} (hd:BM L d):Ends (fun r=>gnS r.1/\BM L r.2) (Gx N d):=by
  unfold Gx
  try simp only[clR]
  refine AP (nx N hL hd 4 (by omega) (by omega)) ?_
  rintro ⟨r,d'⟩ ⟨h0,h1,h2⟩
  dsimp only at h0 h1 h2 ⊢
  refine Ba (fun _=> ?_) (fun _=>Ba (fun _=> ?_) (fun _=>Ba (fun _=> ?_) (fun _=> ?_)))
  ·refine AP (nx N hL h2 6 (by omega) (by omega)) ?_
   rintro ⟨r,d'⟩ ⟨h0,h1,h2⟩
   dsimp only at h0 h1 h2 ⊢
   refine A7 (decide_eq_true (by omega)) (A7 (decide_eq_true (by omega)) (A7 (decide_eq_true (by omega)) (Bj ⟨bV (QH (P:=shortS) (by decide) h0 h1),h2⟩)))
  ·refine AP (nx N hL h2 7 (by omega) (by omega)) ?_
   rintro ⟨r,d'⟩ ⟨h0,h1,h2⟩
   dsimp only at h0 h1 h2 ⊢
   refine A7 (decide_eq_true (by omega)) (A7 (decide_eq_true (by omega)) (A7 (decide_eq_true (by omega)) (Bj ⟨bV (QH (P:=shortS) (by decide) h0 h1),h2⟩)))
  ·refine AP (nx N hL h2 4 (by omega) (by omega)) ?_
   rintro ⟨r,d'⟩ ⟨h0,h1,h2⟩
   dsimp only at h0 h1 h2 ⊢
   refine A7 (decide_eq_true (by omega)) (A7 (decide_eq_true (by omega)) (A7 (decide_eq_true (by omega)) (Bj ⟨bV (QH (P:=shortS) (by decide) h0 h1),h2⟩)))
  ·refine AP (Ad8 N hN hL h2) ?_
   rintro ⟨n,d'⟩ ⟨g0,g1⟩
   exact Bj ⟨⟨by simp,g0.2,g0.1⟩,g1⟩
def Ahi (l:List Pt):Prop:=l.length<=3/\ ∀ p∈l,AaY p
include hN hL in
theorem Aa4 {d:List Int×Int} (hd:BM L d):Ends (fun r=>Ahi r.1/\BM L r.2) (MR N d):=by
  unfold MR
  try simp only[clR]
  refine AP (nx N hL hd 3 (by omega) (by omega)) ?_
  rintro ⟨r,d1,d2⟩ ⟨h0,h1,h2⟩
  dsimp only at h0 h1 h2 ⊢
  rw[w64 (by omega) (by omega)]
  refine Dv (fun x=>0<=x.1/\x.1<4/\BM L (x.2.1,x.2.2.1)/\((x.2.2.2.length:Int)+x.1<=3)/\ ∀ p∈x.2.2.2,AaY p) (fun x=>x.1.toNat) ?_ N _ ⟨by dsimp only;omega,by dsimp only;omega,h2,by simp;omega,(fun r hr=>by cases hr)⟩ (by dsimp only;omega)
  rintro ⟨t,a,b,acc⟩ ⟨g0,g1,g2,g3,g4⟩ k hk
  dsimp only[U4]at g0 g1 g2 g3 g4 ⊢
  refine Ba (fun ht=> ?_) (fun _=>by dsimp only[U3];exact Bj ⟨⟨by dsimp only;omega,g4⟩,g2⟩)
  have ht:=of_decide_eq_true ht
  refine AP (Qp N hN hL g2) ?_
  rintro ⟨g,e⟩ ⟨f0,f1⟩
  refine AP (nx N hL f1 6 (by omega) (by omega)) ?_
  rintro ⟨r6,e1,e2⟩ ⟨c0,c1,c2⟩
  dsimp only at c0 c1 c2 f0 ⊢
  refine A7 (decide_eq_true (by omega)) (A7 (decide_eq_true (by omega)) (A7 (decide_eq_true (by omega)) ?_))
  have hr:0<= [(0:Int),0,510,2,64,384].getD r6.toNat 0/\ [(0:Int),0,510,2,64,384].getD r6.toNat 0<=510:=QH (P:=fun x:Int=>0<=x/\x<=510) (by decide) c0 c1
  have hg:AaX [g]:=fun x hx=>by rw[List.mem_singleton.1 hx];exact AgR f0
  refine FQ (P:=fun x=>BM L (x.1,x.2.1)/\x.2.2.1=[(0:Int),0,510,2,64,384].getD r6.toNat 0/\UG x.2.2.2.2.1/\x.2.2.2.2.2.1=[g]/\x.2.2.2.2.2.2=acc) (fun j hj=> ?_) ?_
  ·refine AP (nx N hL c2 3 (by omega) (by omega)) ?_
   rintro ⟨r3,q1,q2⟩ ⟨z0,z1,z2⟩
   dsimp only at z0 z1 z2 ⊢
   refine Ba (fun _=> ?_) (fun _=>hj _ ⟨z2,rfl,(fun r hr=>by cases hr),rfl,rfl⟩)
   refine AP (nx N hL z2 16 (by omega) (by omega)) ?_
   rintro ⟨r3,q1,q2⟩ ⟨z0,z1,z2⟩
   dsimp only at z0 z1 z2 ⊢
   refine AP (lL N hN z0 z1) ?_
   intro n hn
   exact hj _ ⟨z2,rfl,hn.2,rfl,rfl⟩
  ·rintro ⟨q1,q2,x1,x2,x3,x4,x5⟩ ⟨y1,y2,y3,y4,y5⟩
   dsimp only[U7]at y1 y2 y3 y4 y5 ⊢
   subst y2 y4 y5
   refine A7 (decide_eq_true (by omega)) (hk _ ⟨?_,?_,y1,?_,y9 g4 ⟨hg,y3,by dsimp only;omega,by dsimp only;omega⟩⟩ ?_)
   ·dsimp only;rw[w64 (by omega) (by omega)];omega
   ·dsimp only;rw[w64 (by omega) (by omega)];omega
   ·dsimp only;rw[w64 (by omega) (by omega),List.length_append];simp;omega
   ·dsimp only;rw[w64 (by omega) (by omega)];omega
end
end Go.Proofs.YtbaomhegdndpnaaGreatDoor.Pl
namespace Go.Proofs.YtbaomhegdndpnaaGreatDoor.Pl
open IntKind (i64)
open Go Vm
section
variable (N:Nat) (hN:1048578<N) {L:List Int} (hL:L.length<=9223372036854775807)
def auC (n:List Yq0):Bool:=decide (n.length<=3)&&n.all fun r=>decide (r.length<=8)&&r.all fun e=>decide (e.2.2.length<=40)
def auO (o:Option (List Yq0)):Bool:=match o with
  | some n=>auC n
  | none=>false
include hN in
theorem Agh {n:List Yq0} (h:auC n=true):SmN N n:=by
  unfold auC at h
  rw[Bool.and_eq_true,decide_eq_true_eq]at h
  refine⟨by omega,by omega,fun r hr=> ?_⟩
  have h2:=List.all_eq_true.1 h.2 r hr
  rw[Bool.and_eq_true,decide_eq_true_eq]at h2
  refine⟨by omega,by omega,fun e he=> ?_⟩
  have:=of_decide_eq_true (List.all_eq_true.1 h2.2 e he)
  exact⟨by omega,by omega⟩
theorem lK (M:Nat): ∀ k:Fin 16,auO (Bg (M+70) (k.val:Int))=true:=of_decide_eq_true (by kernel_rfl)
include hN in
theorem PN {k:Int} (h0:0<=k) (h1:k<16):Ends (SmN N) (Bg N k):=by
  obtain⟨M,rfl⟩: ∃ M,N=M+70:=⟨N - 70,by omega⟩
  have h:=lK M ⟨k.toNat,by omega⟩
  rw[show(((⟨k.toNat,by omega⟩:Fin 16).val:Nat):Int)=k from Int.toNat_of_nonneg h0]at h
  cases ho:Bg (M+70) k with
  | none=>rw[ho]at h;cases h
  | some n=>rw[ho]at h;exact⟨n,rfl,Agh _ hN h⟩
include hL in
theorem Sr {d:List Int×Int} (hd:BM L d):Ends (fun r=>BM L r.2) (Ik N d):=by
  unfold Ik
  refine AP (nx N hL hd 7 (by omega) (by omega)) ?_
  rintro ⟨r,d'⟩ ⟨h0,h1,h2⟩
  dsimp only at h0 h1 h2 ⊢
  exact A7 (decide_eq_true (by omega)) (A7 (decide_eq_true (by omega)) (A7 (decide_eq_true (by omega)) (Bj h2)))
def LiS (N:Nat) (x:Yq4):Prop:=SmN N x.2.2.1/\SmE N x.2.2.2.2.2.2.2.2.2.2.2.2.2.2.2.1
include hN hL in
theorem list_good {d:List Int×Int} (hd:BM L d):Ends (fun r=>LiS N r.1/\BM L r.2) (RP N d):=by
  unfold RP
  refine AP (nx N hL hd 16 (by omega) (by omega)) ?_
  rintro ⟨r,d1⟩ ⟨h0,h1,h2⟩
  dsimp only at h0 h1 h2 ⊢
  refine AP (PN N hN h0 h1) ?_
  intro au hau
  refine AP (Sr N hL h2) ?_
  rintro ⟨t1,d2⟩ h3
  refine AP (Sr N hL h3) ?_
  rintro ⟨t2,d3⟩ h4
  refine AP (nx N hL h4 200 (by omega) (by omega)) ?_
  rintro ⟨r5,d5a,d5b⟩ ⟨h5,h6,h7⟩
  dsimp only at h3 h4 h5 h6 h7 ⊢
  refine FQ (P:=fun x=> ∃ u v,x=(d5a,d5b,au,u,v,1+r5)) (fun j hj=> ?_) ?_
  ·rw[w64 (by omega) (by omega)]
   exact Ba (fun _=>hj _ ⟨_,_,rfl⟩) (fun _=>hj _ ⟨_,_,rfl⟩)
  rintro _ ⟨u,v,rfl⟩
  dsimp only[U6]
  refine FQ (P:=fun x=> ∃ a b w,x=(a,b,au,u,v,1+r5,w)/\BM L (a,b)) (fun j hj=> ?_) ?_
  ·refine AP (nx N hL h7 3 (by omega) (by omega)) ?_
   rintro ⟨r,d1⟩ ⟨h0,h1,h2⟩
   dsimp only at h0 h1 h2 ⊢
   refine Ba (fun _=> ?_) (fun _=>hj _ ⟨_,_,_,rfl,h2⟩)
   refine AP (nx N hL h2 (1+r5) (by omega) (by omega)) ?_
   rintro ⟨r,d1⟩ ⟨h0,h1,h2⟩
   exact hj _ ⟨_,_,_,rfl,h2⟩
  rintro _ ⟨a,b,w,rfl,hab⟩
  dsimp only[U7]
  refine FQ (P:=fun x=> ∃ a b s,x=(a,b,au,u,v,1+r5,w,s)/\BM L (a,b)) (fun j hj=> ?_) ?_
  ·refine AP (nx N hL hab 3 (by omega) (by omega)) ?_
   rintro ⟨r,d1⟩ ⟨h0,h1,h2⟩
   dsimp only at h0 h1 h2 ⊢
   exact Ba (fun _=>hj _ ⟨_,_,_,rfl,h2⟩) (fun _=>hj _ ⟨_,_,_,rfl,h2⟩)
  clear hab a b
  rintro _ ⟨a,b,s,rfl,hab⟩
  dsimp only[U8]
  refine FQ (P:=fun x=> ∃ a b p q r t y z,x=(a,b,au,u,v,1+r5,w,s,p,q,r,t,y,z)/\BM L (a,b)) (fun j hj=> ?_) ?_
  ·refine AP (nx N hL hab 2 (by omega) (by omega)) ?_
   rintro ⟨r,d1⟩ ⟨h0,h1,h2⟩
   dsimp only at h0 h1 h2 ⊢
   refine Ba (fun _=> ?_) (fun _=>hj _ ⟨_,_,_,_,_,_,_,_,rfl,h2⟩)
   refine AP (nx N hL h2 4 (by omega) (by omega)) ?_
   rintro ⟨r,d1⟩ ⟨h0,h1,h2⟩
   dsimp only at h0 h1 h2 ⊢
   refine A7 (decide_eq_true (by omega)) (A7 (decide_eq_true (by omega)) (A7 (decide_eq_true (by omega)) ?_))
   refine AP (nx N hL h2 2 (by omega) (by omega)) ?_
   rintro ⟨r,d1⟩ ⟨h0,h1,h2⟩
   dsimp only at h0 h1 h2 ⊢
   refine AP (nx N hL h2 4 (by omega) (by omega)) ?_
   rintro ⟨r,d1⟩ ⟨h0,h1,h2⟩
   dsimp only at h0 h1 h2 ⊢
   refine Ba (fun _=>hj _ ⟨_,_,_,_,_,_,_,_,rfl,h2⟩) (fun _=>Ba (fun _=>hj _ ⟨_,_,_,_,_,_,_,_,rfl,h2⟩) (fun _=> ?_))
   refine AP (Qp N hN hL h2) ?_
   rintro ⟨r,d1⟩ ⟨h0,h2⟩
   refine AP (Qp N hN hL h2) ?_
   rintro ⟨r,d1⟩ ⟨h0,h2⟩
   refine AP (nx N hL h2 2 (by omega) (by omega)) ?_
   rintro ⟨r,d1⟩ ⟨h0,h1,h2⟩
   dsimp only at h0 h1 h2 ⊢
   rw[w64 (x:=1+r) (by omega) (by omega)]
   exact A7 (decide_eq_true (by omega)) (A7 (decide_eq_true (by omega)) (hj _ ⟨_,_,_,_,_,_,_,_,rfl,h2⟩))
  clear hab a b
  rintro _ ⟨a,b,p,q,r,t,y,z,rfl,hab⟩
  dsimp only[U14]
  refine FQ (P:=fun x=> ∃ a b o,x=(a,b,au,u,v,1+r5,w,s,p,q,r,t,y,z,o)/\BM L (a,b)) (fun j hj=> ?_) ?_
  ·obtain⟨⟨g,d1⟩,e1,h0,h1,h2⟩:=nx N hL hab 4 (by omega) (by omega)
   rw[e1]
   simp only[EU,DF,Ci,Option.isSome_some,Bool.true_or,BU,Option.getD_some]
   have hd:BM L ((bif (w==(-1:Int))then d1.1 else a),(bif (w==(-1:Int))then d1.2 else b)):=by
     cases (w==(-1:Int))
     ·exact hab
     ·exact h2
   refine Ba (fun _=> ?_) (fun _=>hj _ ⟨_,_,_,rfl,hd⟩)
   refine AP (Aa4 N hN hL hd) ?_
   rintro ⟨g,d1⟩ ⟨h0,h2⟩
   exact hj _ ⟨_,_,_,rfl,h2⟩
  clear hab a b
  rintro _ ⟨a,b,o,rfl,hab⟩
  dsimp only[U15]
  refine AP (nx N hL hab 6 (by omega) (by omega)) ?_
  clear hab a b
  rintro ⟨g,a,b⟩ ⟨h0,h1,hab⟩
  dsimp only at h0 h1 hab ⊢
  refine Dv (fun x=> ∃(t':Int) (a:List Int) (b:Int) (es:List Yq1),x=(t',a,b,au,u,v,1+r5,w,s,p,q,r,t,y,z,o,es)/\0<=t'/\t'<6/\BM L (a,b)/\(es.length:Int)+t'<=6/\ ∀ e∈es,SmN N e.2.2.2.2) (fun x=>x.1.toNat) ?_ N _ ⟨_,_,_,_,rfl,h0,h1,hab,by simp;omega,fun e he=>by cases he⟩ (by dsimp only;omega)
  clear hab a b h0 h1
  rintro _ ⟨t',a,b,es,rfl,g0,g1,hab,g3,g4⟩ k hk
  dsimp only[U17]
  refine Ba (fun ht=> ?_) (fun _=> ?_)
  ·have ht:=of_decide_eq_true ht
   refine AP (nx N hL hab 9 (by omega) (by omega)) ?_
   rintro ⟨c1,d1⟩ ⟨h0,h1,h2⟩
   dsimp only at h0 h1 h2 ⊢
   rw[w64 (x:=1+c1) (by omega) (by omega)]
   refine AP (Sr N hL h2) ?_
   rintro ⟨c2,d2⟩ h3
   dsimp only at h3 ⊢
   refine AP (nx N hL h3 9 (by omega) (by omega)) ?_
   rintro ⟨c3,d3⟩ ⟨f0,f1,f2⟩
   dsimp only at f0 f1 f2 ⊢
   refine A7 (decide_eq_true (by omega)) (A7 (decide_eq_true (by omega)) (A7 (decide_eq_true (by omega)) ?_))
   refine FQ (P:=fun x=> ∃ a b c4,x=(a,b,au,u,v,1+r5,w,s,p,q,r,t,y,z,o,1+c1,c2,([0,1,2,3,4,5,6,9,10]:List Int).getD c3.toNat 0,c4,au,es)/\BM L (a,b)) (fun j hj=> ?_) ?_
   ·refine AP (nx N hL f2 3 (by omega) (by omega)) ?_
    rintro ⟨g,d1⟩ ⟨h0,h1,h2⟩
    dsimp only at h0 h1 h2 ⊢
    refine Ba (fun _=> ?_) (fun _=>hj _ ⟨_,_,_,rfl,h2⟩)
    refine AP (Sr N hL h2) ?_
    rintro ⟨g,d1⟩ h3
    exact hj _ ⟨_,_,_,rfl,h3⟩
   clear hab
   rintro _ ⟨a,b,c4,rfl,hab⟩
   dsimp only[U21]
   refine FQ (P:=fun x=> ∃ a b c3,x=(a,b,au,u,v,1+r5,w,s,p,q,r,t,y,z,o,1+c1,c2,c3,c4,au,es)/\BM L (a,b)) (fun j hj=> ?_) ?_
   ·obtain⟨⟨g,d1⟩,e1,h0,h1,h2⟩:=nx N hL hab 3 (by omega) (by omega)
    rw[e1]
    simp only[EU,DF,Ci,Option.isSome_some,Bool.true_or,BU,Option.getD_some]
    have hd:BM L ((bif (w != (-1:Int))then d1.1 else a),(bif (w != (-1:Int))then d1.2 else b)):=by
      cases (w != (-1:Int))
      ·exact hab
      ·exact h2
    exact Ba (fun _=>hj _ ⟨_,_,_,rfl,hd⟩) (fun _=>hj _ ⟨_,_,_,rfl,hd⟩)
   clear hab
   rintro _ ⟨a,b,c5,rfl,hab⟩
   dsimp only[U21]
   refine FQ (P:=fun x=> ∃ a b n,x=(a,b,au,u,v,1+r5,w,s,p,q,r,t,y,z,o,1+c1,c2,c5,c4,n,es)/\SmN N n/\BM L (a,b)) (fun j hj=> ?_) ?_
   ·refine Ba (fun _=> ?_) (fun _=>hj _ ⟨_,_,_,rfl,hau,hab⟩)
    refine AP (nx N hL hab 16 (by omega) (by omega)) ?_
    rintro ⟨g,d1⟩ ⟨h0,h1,h2⟩
    dsimp only at h0 h1 h2 ⊢
    refine AP (PN N hN h0 h1) ?_
    intro n hn
    exact hj _ ⟨_,_,_,rfl,hn,h2⟩
   clear hab
   rintro _ ⟨a,b,n,rfl,hn,hab⟩
   dsimp only[U21]
   rw[w64 (x:=t' - 1) (by omega) (by omega),Xd (y:=(([]:Bs),([]:Bs),au,u,v,1+r5,w,s,p,q,r,t,y,z,o,es,([]:Bs))) ⟨by dsimp only;omega,by dsimp only;omega,g4⟩ hn,AQ]
   refine Ba (fun _=> ?_) (fun _=>hk _ ⟨_,_,_,_,rfl,by omega,by omega,hab,by omega,g4⟩ (by dsimp only;omega))
   refine A7 (decide_eq_true (by omega)) (hk _ ⟨_,_,_,_,rfl,by omega,by omega,hab,by rw[List.length_append];simp;omega,y9 g4 hn⟩ (by dsimp only;omega))
  ·dsimp only[U16]
   exact Bj ⟨⟨hau,by dsimp only;omega,by dsimp only;omega,g4⟩,hab⟩
end
end Go.Proofs.YtbaomhegdndpnaaGreatDoor.Pl
namespace Go.Proofs.YtbaomhegdndpnaaGreatDoor.Pl
open IntKind (i64)
open Go Vm
section
variable (N:Nat) (hN:1048578<N)
include hN
theorem Hz (l:List Yq0):Ends (fun v=>v=true->SmN N l) (Cj N l):=by
  unfold Cj
  refine Ba (fun _=>Bj fun h=>by cases h) fun h12=> ?_
  have h12:=of_decide_eq_false h12
  refine Dv (X:=Int) (fun t=>0<=t/\t<=(l.length:Int)/\ ∀ i,i<t.toNat->SmR N (l.getD i [])) (fun t=>((l.length:Int) - t).toNat) ?_ N _ ⟨Int.le_refl _,by omega,fun i hi=>by simp at hi⟩ (by omega)
  rintro t ⟨h1,h2,h3⟩ k hk
  refine Ba (fun ht=> ?_) fun ht=> ?_
  ·have ht:=of_decide_eq_true ht
   refine A7 (decide_eq_true h1) (A7 (decide_eq_true ht) ?_)
   dsimp only
   refine Ba (fun _=>Bj fun h=>by cases h) fun h8=> ?_
   have h8:=of_decide_eq_false h8
   generalize hre:l.getD t.toNat []=r at h8
   refine Dv (X:=Int) (fun u=>0<=u/\u<=(r.length:Int)/\ ∀ i,i<u.toNat->SmA N (r.getD i dA)) (fun u=>((r.length:Int) - u).toNat) ?_ N _ ⟨Int.le_refl _,by omega,fun i hi=>by simp at hi⟩ (by omega)
   rintro u ⟨g1,g2,g3⟩ k' hk'
   dsimp only
   refine Ba (fun hu=> ?_) fun hu=> ?_
   ·have hu:=of_decide_eq_true hu
    simp only[PS,LU,Ci]
    refine A7 (decide_eq_true g1) (A7 (decide_eq_true hu) ?_)
    refine Ba (fun _=>Bj fun h=>by cases h) fun hb=> ?_
    rw[w64 (by omega) (by omega)]
    refine hk' _ ⟨by omega,by omega,fun i hi=> ?_⟩ (by omega)
    by_cases hi2:i<u.toNat
    ·exact g3 i hi2
    ·have:i=u.toNat:=by omega
     subst this
     have hb2: ¬(((r.getD u.toNat dA).2.2.length:Int)>200):=by
       cases hq:decide (((r.getD u.toNat dA).1.length:Int)>200)with
       | true=>rw[hq]at hb;cases hb
       | false=>rw[hq]at hb;exact of_decide_eq_false hb
     exact⟨by omega,by omega⟩
   ·have hu:=of_decide_eq_false hu
    rw[w64 (by omega) (by omega)]
    refine hk _ ⟨by omega,by omega,fun i hi=> ?_⟩ (by omega)
    by_cases hi2:i<t.toNat
    ·exact h3 i hi2
    ·have:i=t.toNat:=by omega
     subst this
     rw[hre]
     refine⟨by omega,by omega,fun e he=> ?_⟩
     obtain⟨j,hj,rfl⟩:=List.getElem_of_mem he
     have:=g3 j (by omega)
     rwa [getD_lt _ _ _ hj]at this
  ·have ht:=of_decide_eq_false ht
   refine Bj fun _=>⟨by omega,by omega,fun r hr'=> ?_⟩
   obtain⟨j,hj,rfl⟩:=List.getElem_of_mem hr'
   have:=h3 j (by omega)
   rwa [getD_lt _ _ _ hj]at this
theorem AbC {l:List Yq0} (hl:SmN N l):Ends (fun v=>v=true) (FV N l l):=by
  unfold FV
  rw[bne_self_eq_false,cond_false]
  have hn:=hl.1
  have hn2:=hl.2.1
  refine Dv (X:=Int×List Yq0×List Yq0) (fun x=>0<=x.1/\x.1<=(l.length:Int)/\x.2=(l,l)) (fun x=>((l.length:Int) - x.1).toNat) ?_ N _ ⟨Int.le_refl _,by dsimp only;omega,rfl⟩ (by dsimp only;omega)
  rintro ⟨t,x⟩ ⟨h1,h2,h3⟩ k hk
  have h3:x=(l,l):=h3
  subst h3
  dsimp only[U3]at h1 h2 ⊢
  refine Ba (fun ht=> ?_) fun _=>Bj rfl
  have ht:=of_decide_eq_true ht
  have hr:=UF hl (by omega:t.toNat<l.length)
  have hr1:=hr.1
  have hr2:=hr.2.1
  rw[bne_self_eq_false,cond_false]
  refine A7 (decide_eq_true h1) (A7 (decide_eq_true ht) (A7 (decide_eq_true h1) (A7 (decide_eq_true ht) (A7 (decide_eq_true h1) (A7 (decide_eq_true ht) ?_)))))
  refine Dv (X:=Int×List Yq0×List Yq0) (fun x=>0<=x.1/\x.1<=((l.getD t.toNat []).length:Int)/\x.2=(l,l)) (fun x=>(((l.getD t.toNat []).length:Int) - x.1).toNat) ?_ N _ ⟨Int.le_refl _,by dsimp only;omega,rfl⟩ (by dsimp only;omega)
  rintro ⟨u,x⟩ ⟨g1,g2,g3⟩ k' hk'
  have g3:x=(l,l):=g3
  subst g3
  dsimp only[U3]at g1 g2 ⊢
  refine Ba (fun hu=> ?_) fun _=> ?_
  ·have hu:=of_decide_eq_true hu
   refine A7 (decide_eq_true h1) (A7 (decide_eq_true ht) (A7 (decide_eq_true g1) (A7 (decide_eq_true hu) (A7 (decide_eq_true h1) (A7 (decide_eq_true ht) (A7 (decide_eq_true g1) (A7 (decide_eq_true hu) ?_)))))))
   simp only[beq_self_eq_true,Bool.and_true,Bool.not_true,cond_false]
   rw[w64 (by omega) (by omega)]
   exact hk' _ ⟨by dsimp only;omega,by dsimp only;omega,rfl⟩ (by dsimp only;omega)
  ·dsimp only[U2]
   rw[w64 (by omega) (by omega)]
   exact hk _ ⟨by dsimp only;omega,by dsimp only;omega,rfl⟩ (by dsimp only;omega)
theorem TF (l:List Yq2):Ends (fun _=>True) (E5 N l):=by
  unfold E5
  refine Ba (fun _=>Bj trivial) fun h12=> ?_
  have h12:=of_decide_eq_false h12
  refine Dv (X:=Int) (fun t=>0<=t/\t<=(l.length:Int)) (fun t=>((l.length:Int) - t).toNat) ?_ N _ ⟨Int.le_refl _,by omega⟩ (by omega)
  rintro t ⟨h1,h2⟩ k hk
  refine Ba (fun ht=> ?_) fun ht=>Bj trivial
  have ht:=of_decide_eq_true ht
  refine A7 (decide_eq_true h1) (A7 (decide_eq_true ht) ?_)
  obtain⟨v,e,_⟩:=Hz N hN (l.getD t.toNat (0,([]:Bs),([]:List Yq0))).2.2
  simp only[e,PS,LU,Ci,Option.isSome_some,Bool.true_or,BU,Option.getD_some]
  refine Ba (fun _=>Bj trivial) fun _=> ?_
  rw[w64 (by omega) (by omega)]
  exact hk _ ⟨by omega,by omega⟩ (by omega)
theorem eX (l:List Yq3):Ends (fun _=>True) (Fj N l):=by
  unfold Fj
  refine Ba (fun _=>Bj trivial) fun h12=> ?_
  have h12:=of_decide_eq_false h12
  refine Dv (X:=Int) (fun t=>0<=t/\t<=(l.length:Int)) (fun t=>((l.length:Int) - t).toNat) ?_ N _ ⟨Int.le_refl _,by omega⟩ (by omega)
  rintro t ⟨h1,h2⟩ k hk
  refine Ba (fun ht=> ?_) fun ht=>Bj trivial
  have ht:=of_decide_eq_true ht
  refine A7 (decide_eq_true h1) (A7 (decide_eq_true ht) ?_)
  refine AP (TF N hN _) ?_
  intro r16 _
  obtain⟨v,e,_⟩:=Hz N hN (l.getD t.toNat (([]:List Yq2),0,false,([]:List Yq0))).2.2.2
  simp only[e,PS,LU,Ci,Option.isSome_some,Bool.true_or,BU,Option.getD_some]
  refine Ba (fun _=>Bj trivial) fun _=> ?_
  rw[w64 (by omega) (by omega)]
  exact hk _ ⟨by omega,by omega⟩ (by omega)
theorem vO (x:Yq4):Ends (fun v=>v=true->LiS N x) (IG N x):=by
  unfold IG
  refine AP (Hz N hN _) ?_
  intro v1 hv1
  obtain⟨v2,e2,_⟩:=TF N hN x.2.2.2.2.2.2.2.2.2.1
  obtain⟨v3,e3,_⟩:=eX N hN x.2.2.2.2.2.2.2.2.2.2.2.2.2.2.1
  simp only[YY,e2,e3,PS,LU,Ci,Option.isSome_some,Bool.true_or,BU,Option.getD_some]
  refine Ba (fun _=>Bj fun h=>by cases h) fun hb=> ?_
  have h1:v1=true:=by
    cases v1 with
    | true=>rfl
    | false=>cases hb
  have h20: ¬((x.2.2.2.2.2.2.2.2.2.2.2.2.2.2.2.1.length:Int)>20):=by
    intro h
    rw[decide_eq_true h]at hb
    simp only[Bool.cond_true_right,Bool.or_true]at hb
    cases hb
  unfold LiS
  generalize x.2.2.2.2.2.2.2.2.2.2.2.2.2.2.2.1=es at h20 ⊢
  refine Dv (X:=Int) (fun t=>0<=t/\t<=(es.length:Int)/\ ∀ i,i<t.toNat->SmN N (es.getD i dE).2.2.2.2) (fun t=>((es.length:Int) - t).toNat) ?_ N _ ⟨Int.le_refl _,by omega,fun i hi=>by simp at hi⟩ (by omega)
  rintro t ⟨g1,g2,g3⟩ k hk
  refine Ba (fun ht=> ?_) fun ht=> ?_
  ·have ht:=of_decide_eq_true ht
   refine A7 (decide_eq_true g1) (A7 (decide_eq_true ht) ?_)
   refine AP (Hz N hN _) ?_
   intro v hv
   refine Ba (fun _=>Bj fun h=>by cases h) fun hb=> ?_
   have hv1:v=true:=by cases v with | true=>rfl | false=>cases hb
   rw[w64 (by omega) (by omega)]
   refine hk _ ⟨by omega,by omega,fun i hi=> ?_⟩ (by omega)
   by_cases hi2:i<t.toNat
   ·exact g3 i hi2
   ·have:i=t.toNat:=by omega
    subst this
    exact hv hv1
  ·have ht:=of_decide_eq_false ht
   refine Bj fun _=>⟨hv1 h1,by omega,by omega,fun e he=> ?_⟩
   obtain⟨j,hj,rfl⟩:=List.getElem_of_mem he
   have:=g3 j (by omega)
   rwa [getD_lt _ _ _ hj]at this
end
end Go.Proofs.YtbaomhegdndpnaaGreatDoor.Pl
namespace Go.Proofs.YtbaomhegdndpnaaGreatDoor.Pl
open IntKind (i64)
open Go Vm
set_option linter.unusedSectionVars false
theorem ne_nil {s:Bs} (h:0<s.length):(s==([]:Bs))=false:=by cases s with | nil=>simp at h | cons a r=>rfl
def idP (N:Nat) (sd:Bs):Bs:=hS N [[73],sd]
def VX (N:Nat) (sd:Bs):Yq8:=([],sd,idP N sd,0)
def Td (N:Nat) (sd:Bs):Bs:=pkP N (idP N sd) sd 0
def MZ (N:Nat) (sd:Bs):Yq8:=([[Td N sd]],sd,idP N sd,0)
def zF (N:Nat) (sd:Bs):Yq9:=(sd,0,0,[VX N sd])
def zG (N:Nat) (sd:Bs):Yq9:=(sd,0,1,[MZ N sd])
def Y7 (N:Nat) (sd:Bs):Int×Bs×Bs:=(0,idP N sd,Td N sd)
def bK (N:Nat) (sd m:Bs):Bs:=hS N [[77],idP N sd,Td N sd,b4P 0,m]
def Lt (N:Nat) (sd m:Bs):Bs:=b4P 0++Tu N (idP N sd) sd 0 (bK N sd m)
section
variable {N:Nat} (h:Big N) {sd:Bs} (hs:sd.length=32)
include h hs
theorem id_eq:CW N [[73],sd]=some (idP N sd)/\(idP N sd).length=16:=iT (hok h (by simp) (by simp [hs]))
theorem AaS:(Td N sd).length=16:=pk_len h (id_eq h hs).2 hs 0
theorem zU:Hw N sd 0=some (.inl (VX N sd,0)):=by
  unfold Hw
  rw[show((sd.length:Int) != 32)=false by rw[hs];rfl,cond_false,(id_eq h hs).1]
  rfl
theorem Xe (l:List (List Bs)) (k:Bs):merkle_Tree_Leaves N (l,sd,k,0)=some (1,(l,sd,k,0)):=by
  unfold merkle_Tree_Leaves merkle_Tree_valid
  rw[AQ,ne_nil (by rw[hs];decide)]
  rfl
theorem AfW:Lu N sd 0=some (.inl (zF N sd,0)):=by
  have e:=Xe h hs [] (idP N sd)
  unfold Lu YH
  rw[zU h hs,pW]
  unfold VX
  dsimp only
  rw[e]
  rfl
theorem AgS:DC N (VX N sd)=some (MZ N sd):=by
  obtain⟨M,rfl⟩: ∃ M,N=M+10:=⟨N - 10,by have:=h.n;omega⟩
  unfold DC
  have e:=AcE h (id_eq h hs).2 hs (Int.le_refl 0) (by omega:(0:Int)<256)
  unfold VX
  rw[nU]
  dsimp only[U6]
  rw[e]
  rfl
theorem AgT:DC N (MZ N sd)=some (MZ N sd):=rfl
theorem AcD (t:Yq8) (ht:DC N t=some (MZ N sd)) (hv:t.2.1=sd):merkle_Tree_Key N t=some (Y7 N sd,MZ N sd):=by
  unfold merkle_Tree_Key merkle_Tree_valid
  rw[AQ,hv,ne_nil (by rw[hs];decide)]
  dsimp only
  rw[Bool.not_false,Bool.not_true,cond_false,ht]
  rfl
theorem Adc {m:Bs} (hm:m.length+64<N):merkle_digest N (Y7 N sd) 0 m=some (bK N sd m)/\(bK N sd m).length=16:=by
  have hn:=h.n
  obtain⟨e1,e2⟩:=iT (N:=N) (l:=[[77],idP N sd,Td N sd,b4P 0,m]) ⟨by omega,h.m,by simp;omega,fun s hs'=>by
    have i1:=(id_eq h hs).2
    have i2:=AaS h hs
    simp only[List.mem_cons,List.not_mem_nil,or_false]at hs'
    rcases hs' with rfl | rfl | rfl | rfl | rfl
    ·simp;omega
    ·omega
    ·omega
    ·simp [b4P];omega
    ·exact hm⟩
  refine⟨?_,e2⟩
  unfold merkle_digest
  rw[Ad6,AQ]
  show callO (CW N [[77],idP N sd,Td N sd,b4P 0,m]) _=_
  rw[e1]
  rfl
theorem Aeh {m:Bs} (hm:m.length+64<N) (l:List (List Bs)) (ht:DC N (l,sd,idP N sd,0)=some (MZ N sd)):merkle_Tree_Sign N (l,sd,idP N sd,0) 0 m=some (Lt N sd m,0,MZ N sd):=by
  have hn:=h.n
  have e1:=Xe h hs l (idP N sd)
  have e2:=AcD h hs (l,sd,idP N sd,0) ht rfl
  obtain⟨e3,e4⟩:=Adc h hs hm
  have e5:=Af5 h (id_eq h hs).2 hs (Int.le_refl 0) (by omega) e4
  have hl:=VP h (id_eq h hs).2 hs 0 (bK N sd m)
  unfold merkle_Tree_Sign merkle_Tree_valid
  rw[AQ,ne_nil (by rw[hs];decide)]
  dsimp only
  rw[e1]
  simp (decide:=true) only[Bool.not_false,Bool.not_true,cond_false,cond_true,Option.isSome_some,Bool.true_or,Bool.or_true,BU,Option.getD_some,Int.lt_irrefl,decide_false]
  rw[e2,AQ]
  dsimp only[MZ]
  rw[beq_self_eq_true,beq_self_eq_true,BU,BU]
  refine(BF _ rfl).trans ?_
  rw[e3,AQ,e5,AQ]
  dsimp only
  rw[show((0:Int) != 0)=false from rfl,cond_false,Ad6,AQ,BF _ (decide_eq_true (by rw[hl];simp [b4P]))]
  obtain⟨M,rfl⟩: ∃ M,N=M+10:=⟨N - 10,by omega⟩
  rfl
theorem Aee {m:Bs} (hm:m.length+64<N):Es N (zF N sd) m=some (Lt N sd m,0,zG N sd):=by
  have e1:=Xe h hs [] (idP N sd)
  have e2:=Aeh h hs hm [] (AgS h hs)
  unfold Es Io DJ
  dsimp only[zF,VX,AQ,List.headD_cons]
  rw[ne_nil (by rw[hs];decide),Bool.false_and,cond_false,cond_false,e1,AQ]
  dsimp only
  rw[show(i64.wrap (1 - 0))=1 from rfl,AQ]
  dsimp only
  rw[show((1:Int)==0)=false from rfl,cond_false,List.headD_cons,e2,AQ]
  rfl
theorem Af4:EI N (zG N sd)=some (Y7 N sd,zG N sd):=by
  have e:=AcD h hs (MZ N sd) (AgT h hs) rfl
  unfold EI DJ
  dsimp only[zG,List.headD_cons]
  rw[ne_nil (by rw[hs];decide),Bool.false_and,AQ]
  dsimp only
  rw[cond_false,List.headD_cons,e,AQ]
  dsimp only
  rw[beq_self_eq_true,beq_self_eq_true,BU,BU]
  rfl
theorem Abc {m:Bs} (hm:m.length+64<N):Jv N (Y7 N sd) m (Lt N sd m)=some 0:=by
  have hn:=h.n
  obtain⟨e3,e4⟩:=Adc h hs hm
  have e5:=Abd h (id_eq h hs).2 hs (Int.le_refl 0) (by omega) e4
  have hl:=VP h (id_eq h hs).2 hs 0 (bK N sd m)
  have hk:=AaS h hs
  have hi:=(id_eq h hs).2
  have h4:(b4P 0).length=4:=rfl
  have hc:KH N (Y7 N sd)=some 0:=by
    unfold KH Y7
    dsimp only
    rw[show((List.length (idP N sd):Int) != 16)=false by rw[hi];rfl,show((List.length (Td N sd):Int) != 16)=false by rw[hk];rfl]
    rfl
  have hsl:(Lt N sd m).length=564:=by unfold Lt;rw[List.length_append,hl,h4]
  have c1:AO (Lt N sd m) 0 4=b4P 0:=by
    unfold AO Lt
    rw[List.take_append_of_le_length (by omega)];rfl
  have c2:AO (Lt N sd m) 4 564=Tu N (idP N sd) sd 0 (bK N sd m):=by
    unfold AO
    rw[List.take_of_length_le (by omega)]
    unfold Lt
    exact List.drop_left' h4
  have hf:MS N (Lt N sd m)=some (0,true):=by
    unfold MS
    rw[c1,hsl]
    obtain⟨M,rfl⟩: ∃ M,N=M+10:=⟨N - 10,by omega⟩
    rfl
  unfold Jv
  rw[hc,AQ,show((0:Int) != 0)=false from rfl,cond_false,hsl,hf,AQ]
  dsimp only[Y7]
  rw[show((((564:Nat):Int)) != i64.wrap (564+i64.wrap (0*16)))=false from rfl,cond_false]
  refine(BF _ rfl).trans ?_
  rw[decide_eq_false (by decide: ¬(0:Int)>=i64.wrap (1*2 ^ min (IntKind.u64.wrap 0).toNat 64)),cond_false]
  have e3':merkle_digest N (0,idP N sd,Td N sd) 0 m=_:=e3
  rw[e3',AQ]
  refine(BF _ rfl).trans ?_
  rw[c2,e5,AQ]
  dsimp only
  rw[show((0:Int) != 0)=false from rfl,cond_false]
  refine(BF _ rfl).trans ?_
  obtain⟨M,rfl⟩: ∃ M,N=M+10:=⟨N - 10,by omega⟩
  rw[nU]
  dsimp only[U6,U4]
  rw[decide_eq_false (by decide: ¬(0:Int)<0),cond_false]
  show(bif !(Td (M+10) sd==Td (M+10) sd)then _ else _)=_
  rw[beq_self_eq_true]
  rfl
end
end Go.Proofs.YtbaomhegdndpnaaGreatDoor.Pl
namespace Go.Proofs.YtbaomhegdndpnaaGreatDoor.Pl
open IntKind (i64)
open Go Vm
def N0:Nat:=2097152
theorem vY:Big N0:=⟨by decide,by decide⟩
def au0:List Yq0:=(Bg N0 0).getD []
theorem Agf:Bg N0 0=some au0:=by kernel_rfl
def liA:Yq4:=(([]:Bs),([]:Bs),au0,0,0,1,(-1),([]:Bs),false,([]:List Yq2),false,false,0,false,([]:List Yq3),([(7,0,6,(-1),au0)]:List Yq1),([]:Bs))
def QR:Bs:=((TS N0 liA).getD default).1
theorem AfP:TS N0 liA=some (QR,0):=by kernel_rfl
theorem Afk:(decide (QR.length<=1000))=true:=by kernel_rfl
def sgF (f:Nat->UInt8):Bs:=(List.range 564).map f
def outA (f:Nat->UInt8):Bs:=((UW N0 QR (sgF f)).getD default).1
theorem AfL (f:Nat->UInt8):UW N0 QR (sgF f)=some (outA f,0):=by kernel_rfl
def bJ (f:Nat->UInt8):Yq4:=((JZ N0 (outA f)).getD default).1
theorem Af9 (f:Nat->UInt8):JZ N0 (outA f)=some (bJ f,0):=by kernel_rfl
theorem Aez (f:Nat->UInt8):(bJ f).2.1=QR:=by kernel_rfl
theorem Ae0 (f:Nat->UInt8):(bJ f).2.2.2.2.2.2.2.2.2.2.2.2.2.2.2.2=sgF f:=by kernel_rfl
def au8:List Yq0:=(Bg N0 8).getD []
theorem Agg:Bg N0 8=some au8:=by kernel_rfl
def Vr (f:Nat->UInt8):Yq1:=((H9 N0 (bJ f) au8 7).getD default).1
theorem AfD (f:Nat->UInt8):H9 N0 (bJ f) au8 7=some (Vr f,true):=by kernel_rfl
theorem Agm (f:Nat->UInt8):(Vr f).2.2.1=6:=by kernel_rfl
theorem Ahf:Ef N0 9=some 128:=by kernel_rfl
def sd1:Bs:=(Ny N0 1).getD []
theorem AgB:Ny N0 1=some sd1:=by kernel_rfl
theorem UE:sd1.length=32:=by kernel_rfl
theorem AgC {l:Bs} (h:l.length=564):sgF (fun i=>l.getD i 0)=l:=by
  unfold sgF
  rw[<- h]
  apply List.ext_getElem
  ·simp
  ·intro i h1 h2
   simp [List.getD_eq_getElem?_getD,h2]
theorem Afe {N:Nat} (h:Big N) {sd:Bs} (hs:sd.length=32) (m:Bs):(Lt N sd m).length=564:=by
  unfold Lt
  rw[List.length_append,VP h (id_eq h hs).2 hs 0 (bK N sd m)];rfl
def fA:Nat->UInt8:=fun i=>(Lt N0 sd1 QR).getD i 0
theorem Afu:sgF fA=Lt N0 sd1 QR:=AgC (Afe vY UE QR)
theorem AaZ:QR.length+64<N0:=by have:=of_decide_eq_true Afk;show _<2097152;omega
attribute [irreducible] N0 au0 QR outA bJ au8 Vr sd1
theorem Aec:Nj N0 liA (zF N0 sd1)=some (outA fA,0,zG N0 sd1):=by
  have e1:=Aee vY UE AaZ
  have e2:=AfL fA
  rw[Afu]at e2
  unfold Nj
  rw[AfP,AQ]
  dsimp only
  rw[show((0:Int) != 0)=false from rfl,cond_false]
  have e1':Es N0 (sd1,0,0,[VX N0 sd1]) QR=_:=e1
  dsimp only[zF,List.headD_cons]
  rw[e1',AQ]
  dsimp only
  rw[show((0:Int) != 0)=false from rfl,cond_false,e2,AQ]
  rfl
theorem AcG:Ko N0 (bJ fA) (Y7 N0 sd1)=some 0:=by
  unfold Ko
  rw[Aez,Ae0,Afu,Abc vY UE AaZ]
  rfl
theorem AcL {N:Nat} {sd out:Bs} {au au':List Yq0} {t0 t1:Yq8} {dec:Yq4} {fin:Yq1} {k:Int×Bs×Bs} (h1:Ny N 1=some sd) (h2:Lu N sd 0=some (.inl ((sd,0,0,[t0]),0))) (h3:Bg N 0=some au)
    (h4:Nj N (([]:Bs),([]:Bs),au,0,0,1,(-1),([]:Bs),false,([]:List Yq2),false,false,0,false,([]:List Yq3),([(7,0,6,(-1),au)]:List Yq1),([]:Bs)) (sd,0,0,[t0])=some (out,0,(sd,0,1,[t1])))
    (h5:JZ N out=some (dec,0)) (h6:Bg N 8=some au') (h7:H9 N dec au' 7=some (fin,true)) (h8:EI N (sd,0,1,[t1])=some (k,(sd,0,1,[t1]))) (h9:Ko N dec k=some 0) (h10:fin.2.2.1=6) (h11:Ef N 9=some 128):ES N=some true:=by
  unfold ES
  rw[h1,AQ,h2,pW]
  dsimp only
  simp (decide:=true) only[cond_true,cond_false,BU,Bool.not_true,Bool.not_false,Bool.or_true,Bool.true_or,bne_self_eq_false]
  rw[h3,AQ,AQ]
  dsimp only[List.headD_cons]
  rw[h4,AQ]
  dsimp only
  rw[h5,AQ,h6,AQ]
  dsimp only
  rw[h7,AQ]
  dsimp only[List.headD_cons]
  simp (decide:=true) only[cond_true,cond_false,BU,YY,beq_self_eq_true]
  rw[h8,AQ]
  dsimp only
  rw[h9,AQ,h10,h11]
  rfl
theorem Aen:ES N0=some true:=AcL AgB (AfW vY UE) Agf Aec (Af9 fA) Agg (AfD fA) (Af4 vY UE) AcG (Agm fA) Ahf
