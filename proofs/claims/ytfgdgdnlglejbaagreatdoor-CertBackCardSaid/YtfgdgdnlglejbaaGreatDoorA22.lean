import Derived.Test.YtfgdgdnlglejbaaGreatDoorA21
set_option linter.all false
namespace Go.Proofs.YtfgdgdnlglejbaaGreatDoor.Pl
open IntKind (i64)
open Go Vm
abbrev Rw:Type:=Bs×Int×Nat×Nat×Nat
def zRw:Rw:=([],0,0,0,0)
theorem Aqf (M:Nat):((List.range 13).map fun k=>IZ (M+300) (rwL.getD k zRw).1)=(List.range 13).map fun k=>some (rwL.getD k zRw,true):=by kernel_rfl
theorem Asg (M:Nat):([(unX true).1,unY.1].map fun k=>IZ (M+300) k)=[(unX true).1,unY.1].map fun _=>some (zRw,false):=by kernel_rfl
theorem ApP:((List.range 13).all fun k=>(bif (rwL.getD k zRw).2.1==1 then !((rwL.getD k zRw).2.1==1||(rwL.getD k zRw).1==[50,46,53,46,50,57,46,51,51])else false)==false&&(bif (rwL.getD k zRw).2.1==0 then((rwL.getD k zRw).2.1==1||(rwL.getD k zRw).1==[50,46,53,46,50,57,46,51,51])else false)==false&&Ub.contains (rwL.getD k zRw).1)=true:=by kernel_rfl
theorem Ann {N:Nat} (hN:1048578<N) (j:Info) (l:List Ex) (x:Ex) (row:Rw) (hv:IG N x.1=some true) (hl:l.length<=1048576) (hb:l.any (fun y=>y.1==x.1)=false) (hf:IZ N x.1=some (row,true))
 (h1:(bif row.2.1==1 then !x.2.1 else false)=false) (h2:(bif row.2.1==0 then x.2.1 else false)=false):Ie N j l x=Dj (jH N row.2.2.2.2 (x.2.2,j)) fun r=>some (r.1,r.2):=by
 obtain⟨hb',ca,pl,us,pu,po,ma,re,im,ia,na,hc,pe,ex,sk,ak,pt,fr,un⟩:=j;obtain⟨id,c,v⟩:=x;dsimp only at hv hb hf h1 h2 ⊢;unfold Ie;try simp -zeta only[Ap]
 rw[hv,Dn];simp only[Bool.not_true,cond_false]
 refine(AkE (mk:=fun i=>((i:Int),hb',ca,pl,us,re,im,ia,na,hc,pe,ex,sk,ak,pt,fr,pu,po,ma,un,id,c,v)) l ([],false,[]) (fun y=>y.1==id) (some (10,(hb',ca,pl,us,pu,po,ma,re,im,ia,na,hc,pe,ex,sk,ak,pt,fr,un)))
  (Dj (jH N row.2.2.2.2 (v,(hb',ca,pl,us,pu,po,ma,re,im,ia,na,hc,pe,ex,sk,ak,pt,fr,un))) fun r=>some (r.1,r.2)) ?_ ?_ N (by omega)).trans ?_
 ·intro i hi k;dsimp only[U23];simp (disch:=first | assumption | omega) only[DT,ES]
 ·intro k;dsimp only[U23];rw[AlV (by omega),cond_false];dsimp only[U22];rw[hf,Dn];simp only[Bool.not_true,cond_false,Yx];rw[h1];simp only[cond_false,Bool.not_false,Bool.true_and,Bool.or_not_self,Gh,Bool.not_true,Bool.true_or,Bool.or_false,Bool.cond_self,cond_true,Bool.or_self];rw[h2];cases row.2.1==1<;>cases row.2.1==0<;>rfl
 ·rw[hb];rfl
theorem AqZ {N:Nat} (hN:1048578<N) (hb' ca:Bool) (pl us:Int) (pu po:List Bs) (ma:List (Bs×Bs)) (re im ia:Int) (na:List Gn) (hc:Bool) (pe ex:List Gn) (sk ak:Bs) (pt fr:List Pt) (un:List Ex) (l:List Ex) (x:Ex) (row:Rw) (hv:IG N x.1=some true) (hl:l.length<=1048576) (hb:l.any (fun y=>y.1==x.1)=false) (hf:IZ N x.1=some (row,false)) (hu:un.length<=100)
 (ht:MZ N x.2.2=some 0):Ie N (hb',ca,pl,us,pu,po,ma,re,im,ia,na,hc,pe,ex,sk,ak,pt,fr,un) l x=some (0,(hb',ca,pl,us,pu,po,ma,re,im,ia,na,hc,pe,ex,sk,ak,pt,fr,un++[x])):=by
 obtain⟨id,c,v⟩:=x;dsimp only at hv hb hf ht ⊢;unfold Ie;try simp -zeta only[Ap]
 rw[hv,Dn];simp only[Bool.not_true,cond_false]
 refine(AkE (mk:=fun i=>((i:Int),hb',ca,pl,us,re,im,ia,na,hc,pe,ex,sk,ak,pt,fr,pu,po,ma,un,id,c,v)) l ([],false,[]) (fun y=>y.1==id) (some (10,(hb',ca,pl,us,pu,po,ma,re,im,ia,na,hc,pe,ex,sk,ak,pt,fr,un)))
  (some (0,(hb',ca,pl,us,pu,po,ma,re,im,ia,na,hc,pe,ex,sk,ak,pt,fr,un++[(id,c,v)]))) ?_ ?_ N (by omega)).trans ?_
 ·intro i hi k;dsimp only[U23];simp (disch:=first | assumption | omega) only[DT,ES]
 ·intro k;dsimp only[U23];rw[AlV (by omega),cond_false];dsimp only[U22];rw[hf,Dn];simp only[Bool.not_false,cond_true];rw[decide_eq_true (by omega),Gh,ht,Dn]
 ·rw[hb];rfl
def tk (N:Nat):List Ex->Info->List Ex->Option Info
 | _,j,[]=>some j
 | p,j,x::r=>match Ie N j p x with
  | some (e,j')=>if e=0 then tk N (p++[x]) j' r else none
  | none=>none
theorem Alh {N:Nat} {p:List Ex} {j jf:Info} {x:Ex} {r:List Ex} (h:tk N p j (x::r)=some jf): ∃ j',Ie N j p x=some (0,j')/\tk N (p++[x]) j' r=some jf:=by
 unfold tk at h;cases hc:Ie N j p x with
 | none=>rw[hc]at h;cases h
 | some v =>
  obtain⟨e,j'⟩:=v;rw[hc]at h;dsimp only at h;by_cases he:e=0
  ·subst he;rw[if_pos rfl]at h;exact⟨j',rfl,h⟩
  ·rw[if_neg he]at h;cases h
theorem Ajv {N:Nat} {p:List Ex} {j j':Info} {x:Ex} (h:Ie N j p x=some (0,j')) (r:List Ex):tk N p j (x::r)=tk N (p++[x]) j' r:=by rw[tk,h];rfl
theorem Apo {N:Nat} {b:List Ex}: ∀ {a p:List Ex} {j j':Info},tk N p j a=some j'->tk N p j (a++b)=tk N (p++a) j' b:=by
 intro a
 induction a with
 | nil=>intro p j j' h;rw[tk]at h;injection h with h;subst h;rw[List.append_nil];rfl
 | cons x a ih =>intro p j j' h;obtain⟨j2,h1,h2⟩:=Alh h;rw[List.cons_append,Ajv h1,ih h2,List.append_assoc];rfl
abbrev StT:Type:=Bool×Bool×Int×Int×Int×Int×Int×List Gn×Bool×List Gn×List Gn×Bs×Bs×List Pt×List Pt×List Ex×List (Bs×Bs)×List Bs×List Bs
def stI:StT->Info
 | (hb,ca,pl,us,re,im,ia,na,hc,pe,ex,sk,ak,pt,fr,un,ma,po,pu)=>(hb,ca,pl,us,pu,po,ma,re,im,ia,na,hc,pe,ex,sk,ak,pt,fr,un)
def none0:Info:=(false,false,-1,0,[],[],[],-1,-1,-1,[],false,[],[],[],[],[],[],[])
theorem AfQ {N:Nat} (hN:1048578<N) {l:List Ex} {j:Info} (hl:l.length<=24) (h:tk N [] none0 l=some j) (hc:Jj N j=some 0):Lj N l=some (j,0):=by
 refine of1 ?_;unfold Lj;try simp -zeta only[Ap]
 rw[Ary (by omega),cond_false,show PR N=some none0 from rfl,Dn];refine FW (fun(x:Int×StT)=>0<=x.1/\x.1<=(l.length:Int)/\tk N (l.take x.1.toNat) (stI x.2) (l.drop x.1.toNat)=some j) (fun x=>((l.length:Int) - x.1).toNat) ?_ N _ ⟨by dsimp only;omega,by dsimp only;omega,h⟩ (by dsimp only;omega);rintro ⟨i,hb,ca,pl,us,re,im,ia,na,hc',pe,ex,sk,ak,pt,fr,un,ma,po,pu⟩ ⟨i0,i1,ht⟩ k hk;dsimp only at i0 i1 ht hk;dsimp only[U20];unfold stI at ht;refine DX (fun hi=> ?_) (fun hi=> ?_)
 ·have hi:=of_decide_eq_true hi;have e1:(i+1).toNat=i.toNat+1:=by omega
  refine DC (decide_eq_true i0) (DC (decide_eq_true hi) (DC (decide_eq_true i0) (DC (decide_eq_true i1) ?_)));rw[AnZ];rw[List.drop_eq_getElem_cons (show i.toNat<l.length by omega),<- getD_lt l i.toNat ([],false,[]) (by omega)]at ht;obtain⟨j',h1,h2⟩:=Alh ht;rw[h1,Dn];dsimp only;rw[show((0:Int) != 0)=false from rfl,cond_false];rw[show l.take i.toNat++[l.getD i.toNat ([],false,[])]=l.take (i.toNat+1) by rw[List.take_add_one,List.getElem?_eq_getElem (by omega),getD_lt l i.toNat _ (by omega)];rfl]at h2;refine hk _ ⟨?_,?_,?_⟩ ?_
  ·dsimp only;rw[w64 (by omega) (by omega)];omega
  ·dsimp only;rw[w64 (by omega) (by omega)];omega
  ·dsimp only;rw[w64 (by omega) (by omega),e1];exact h2
  ·dsimp only;rw[w64 (by omega) (by omega)];omega
 ·have hi:=of_decide_eq_false hi;dsimp only[U19];rw[show i.toNat=l.length by omega,List.drop_length,tk]at ht;injection ht with ht;subst ht;rw[hc,Dn];exact EK rfl
def pI (x:Info) (k:Nat):Info :=
 match x with
 | (hb,ca,pl,us,pu,po,ma,re,im,ia,na,hc,pe,ex,sk,ak,pt,fr,_) =>
  (bif Nat.blt 0 k then hb else false,bif Nat.blt 0 k then ca else false,bif Nat.blt 0 k then pl else -1,bif Nat.blt 1 k then us else 0,bif Nat.blt 2 k then pu else [],bif Nat.blt 3 k then po else [],bif Nat.blt 4 k then ma else [],bif Nat.blt 5 k then re else -1,bif Nat.blt 5 k then im else -1,bif Nat.blt 6 k then ia else -1,
   bif Nat.blt 7 k then na.map gnK else [],bif Nat.blt 8 k then hc else false,bif Nat.blt 8 k then pe.map gnK else [],bif Nat.blt 8 k then ex.map gnK else [],bif Nat.blt 9 k then sk else [],bif Nat.blt 10 k then ak else [],bif Nat.blt 11 k then pt.map ptK else [],bif Nat.blt 12 k then fr.map ptK else [],[])
theorem kC {α :Type} {l:List α} (h:decide (((l.length:Nat):Int)>0)=false):l=[]:=by
 cases l with
 | nil=>rfl
 | cons a r=>rw[List.length_cons]at h;have:=of_decide_eq_false h;omega
theorem AqJ {x:Info} (h:OkI x) (i:Nat) (hi:i<13) (hh:((Ff x).getD i zR).1=false):pI x (i+1)=pI x i:=by
 have hb2:=h.bas;have hc2:=h.con;obtain⟨hb,ca,pl,us,pu,po,ma,re,im,ia,na,hc,pe,ex,sk,ak,pt,fr,un⟩:=x;dsimp only at hb2 hc2;clear h;have:i=0\/i=1\/i=2\/i=3\/i=4\/i=5\/i=6\/i=7\/i=8\/i=9\/i=10\/i=11\/i=12:=by omega
 rcases this with rfl | rfl | rfl | rfl | rfl | rfl | rfl | rfl | rfl | rfl | rfl | rfl | rfl
 ·have hh:hb=false:=hh;rcases hb2 with ⟨a,_⟩ | ⟨_,b,c⟩
  ·rw[hh]at a;cases a
  ·rw[hh,b,c];rfl
 ·have hh:(us != 0)=false:=hh;rw[show us=0 by simpa using hh];rfl
 ·have hh:=kC hh;rw[hh];rfl
 ·have hh:=kC hh;rw[hh];rfl
 ·have hh:=kC hh;rw[hh];rfl
 ·have hh:(re != -1||im != -1)=false:=hh;rw[Bool.or_eq_false_iff]at hh;rw[show re= -1 by simpa using hh.1,show im= -1 by simpa using hh.2];rfl
 ·have hh:(ia != -1)=false:=hh;rw[show ia= -1 by simpa using hh];rfl
 ·have hh:=kC hh;rw[hh];rfl
 ·have hh:hc=false:=hh;rcases hc2 with ⟨_,b,c⟩ | ⟨a,_⟩
  ·rw[hh,b,c];rfl
  ·rw[hh]at a;cases a
 ·have hh:(!(sk==[]))=false:=hh;rw[show sk=[] by simpa using hh];rfl
 ·have hh:(!(ak==[]))=false:=hh;rw[show ak=[] by simpa using hh];rfl
 ·have hh:=kC hh;rw[hh];rfl
 ·have hh:=kC hh;rw[hh];rfl
theorem via {α :Type} {a b c d: α} (h1:a=b) (h:b=c) (h2:c=d):a=d:=h1.trans (h.trans h2)
theorem AnA {p r:List Ex} {e:Ex} (h:(p++e::r).Pairwise fun a b=>a.1≠b.1):p.any (fun y=>y.1==e.1)=false:=by rw[List.any_eq_false];intro y hy he;exact(List.pairwise_append.1 h).2.2 y hy e List.mem_cons_self (beq_iff_eq.1 he)
section
variable {N:Nat} (hN:1048578<N)
include hN
theorem AsE {x:Info} (h:OkI x) (i:Nat) (hi:i<13) (hh:((Ff x).getD i zR).1=true):jH N (rwL.getD i zRw).2.2.2.2 (((Ff x).getD i zR).2.2.2,pI x i)=some (0,pI x (i+1)):=by
 obtain⟨hb,ca,pl,us,pu,po,ma,re,im,ia,na,hc,pe,ex,sk,ak,pt,fr,un⟩:=x;have:i=0\/i=1\/i=2\/i=3\/i=4\/i=5\/i=6\/i=7\/i=8\/i=9\/i=10\/i=11\/i=12:=by omega
 rcases this with rfl | rfl | rfl | rfl | rfl | rfl | rfl | rfl | rfl | rfl | rfl | rfl | rfl
 ·have hh:hb=true:=hh;rcases h.bas with ⟨_,a⟩ | ⟨a,_⟩
  ·subst hh;exact via (by kernel_rfl) (ArR hN a (pI (true,ca,pl,us,pu,po,ma,re,im,ia,na,hc,pe,ex,sk,ak,pt,fr,un) 0)) (by kernel_rfl)
  ·dsimp only at a;rw[hh]at a;cases a
 ·exact via (by kernel_rfl) (AsR hN h.us.1 h.us.2 (by have hh:(us != 0)=true:=hh;simpa using hh) (pI (hb,ca,pl,us,pu,po,ma,re,im,ia,na,hc,pe,ex,sk,ak,pt,fr,un) 1)) (by kernel_rfl)
 ·exact via (by kernel_rfl) (Aun hN h.pu (ne_of hh) (pI (hb,ca,pl,us,pu,po,ma,re,im,ia,na,hc,pe,ex,sk,ak,pt,fr,un) 2) rfl) (by kernel_rfl)
 ·exact via (by kernel_rfl) (Auj hN h.po (ne_of hh) (pI (hb,ca,pl,us,pu,po,ma,re,im,ia,na,hc,pe,ex,sk,ak,pt,fr,un) 3) rfl) (by kernel_rfl)
 ·exact via (by kernel_rfl) (AtV hN h.ma (ne_of hh) (pI (hb,ca,pl,us,pu,po,ma,re,im,ia,na,hc,pe,ex,sk,ak,pt,fr,un) 4) rfl) (by kernel_rfl)
 ·have hh:(re != -1||im != -1)=true:=hh;exact via (by kernel_rfl) (AtO hN (List.mem_filter.2 ⟨List.mem_flatMap.2 ⟨re,h.re,List.mem_map.2 ⟨im,h.im,rfl⟩⟩,hh⟩) (pI (hb,ca,pl,us,pu,po,ma,re,im,ia,na,hc,pe,ex,sk,ak,pt,fr,un) 5)) (by kernel_rfl)
 ·have hh:=ne1 hh;have l1:=h.ia;dsimp only at l1 hh;exact via (by kernel_rfl) (AuY hN (by omega) l1.2 (pI (hb,ca,pl,us,pu,po,ma,re,im,ia,na,hc,pe,ex,sk,ak,pt,fr,un) 6)) (by kernel_rfl)
 ·exact via (by kernel_rfl) (As4 hN h.na (ne_of hh) (pI (hb,ca,pl,us,pu,po,ma,re,im,ia,na,hc,pe,ex,sk,ak,pt,fr,un) 7)) (by kernel_rfl)
 ·have hh:hc=true:=hh;subst hh;exact via (by kernel_rfl) (Atu hN (AcN h rfl) (pI (hb,ca,pl,us,pu,po,ma,re,im,ia,na,true,pe,ex,sk,ak,pt,fr,un) 8)) (by kernel_rfl)
 ·exact via (by kernel_rfl) (Au5 hN (s:=sk) (by have:=Aek h.sk;dsimp only at this ⊢;omega) (by have hh:(!(sk==[]))=true:=hh;simpa using hh) (pI (hb,ca,pl,us,pu,po,ma,re,im,ia,na,hc,pe,ex,sk,ak,pt,fr,un) 9)) (by kernel_rfl)
 ·exact via (by kernel_rfl) (Ato hN (s:=ak) (by have:=uD h.ak;dsimp only at this ⊢;omega) (by have hh:(!(ak==[]))=true:=hh;simpa using hh) (pI (hb,ca,pl,us,pu,po,ma,re,im,ia,na,hc,pe,ex,sk,ak,pt,fr,un) 10)) (by kernel_rfl)
 ·exact via (by kernel_rfl) (Aq8 hN (WS h.pt hh) (pI (hb,ca,pl,us,pu,po,ma,re,im,ia,na,hc,pe,ex,sk,ak,pt,fr,un) 11)) (by kernel_rfl)
 ·exact via (by kernel_rfl) (Asm hN (WS h.fr hh) (pI (hb,ca,pl,us,pu,po,ma,re,im,ia,na,hc,pe,ex,sk,ak,pt,fr,un) 12)) (by kernel_rfl)
theorem AsN {x:Info} (h:OkI x): ∀ k,k<=13->tk N [] none0 (((Ff x).take k).flatMap JS)=some (pI x k):=by
 have hx:=dE x;have hnd:=Aig h;have hll:=zL h;intro k
 induction k with
 | zero =>intro _;obtain⟨hb,ca,pl,us,pu,po,ma,re,im,ia,na,hc,pe,ex,sk,ak,pt,fr,un⟩:=x;rfl
 | succ k ih =>
  intro hk;have htk:(Ff x).take (k+1)=(Ff x).take k++[(Ff x).getD k zR]:=by rw[List.take_add_one,List.getElem?_eq_getElem (by omega),getD_lt _ _ zR (by omega)];rfl
  have hsp:Ff x=(Ff x).take k++((Ff x).getD k zR::(Ff x).drop (k+1)):=by rw[getD_lt _ _ zR (by omega),<- List.drop_eq_getElem_cons,List.take_append_drop]
  rw[htk,List.flatMap_append,List.flatMap_singleton,Apo (ih (by omega)),List.nil_append]
  have hex:exI x=((Ff x).take k).flatMap JS++(JS ((Ff x).getD k zR)++(((Ff x).drop (k+1)).flatMap JS++x.2.2.2.2.2.2.2.2.2.2.2.2.2.2.2.2.2.2)):=by
   unfold exI
   conv=>lhs;rw[hsp]
   rw[List.flatMap_append,List.flatMap_cons,List.append_assoc,List.append_assoc]
  cases hh:((Ff x).getD k zR).1 with
  | false =>rw[show JS ((Ff x).getD k zR)=[] by unfold JS;rw[hh];rfl,tk,AqJ h k (by omega) hh]
  | true =>
   have hg:=AsE hN h k (by omega) hh;have hcr:=Aji x k (by omega);rw[show JS ((Ff x).getD k zR)=[((Ff x).getD k zR).2] by unfold JS;rw[hh];rfl]at hex ⊢;rw[hex]at hnd hll;obtain⟨c1,c2⟩:=Prod.mk.inj hcr;have hq:=List.all_eq_true.1 ApP k (List.mem_range.2 (by omega));simp only[Bool.and_eq_true,beq_iff_eq,List.contains_iff_mem]at hq;obtain⟨⟨q1,q2⟩,q3⟩:=hq;have hfi:IZ N (rwL.getD k zRw).1=some (rwL.getD k zRw,true):=by obtain⟨M,rfl⟩:=ofM hN;have e:=jV (Aqf M) (a:=k) (List.mem_range.2 (by omega));exact e
   unfold zRw at *
   rw[c2]at q1 q2;have hv:=(P5 hN q3).val;rw[c1]at hfi hv;have ht:=Ann hN (pI x k) (((Ff x).take k).flatMap JS) ((Ff x).getD k zR).2 (rwL.getD k ([],0,0,0,0)) hv (by rw[List.length_append]at hll;omega) (AnA (r:=(((Ff x).drop (k+1)).flatMap JS++x.2.2.2.2.2.2.2.2.2.2.2.2.2.2.2.2.2.2)) hnd) hfi q1 q2;rw[hg,Dn]at ht;rw[Ajv ht];rfl
theorem Avi (hb ca:Bool) (pl us:Int) (pu po:List Bs) (ma:List (Bs×Bs)) (re im ia:Int) (na:List Gn) (hc:Bool) (pe ex:List Gn) (sk ak:Bs) (pt fr:List Pt): ∀(l p u:List Ex),(∀ e∈l,e.1∈Ub/\IZ N e.1=some (zRw,false)/\MZ N e.2.2=some 0)->(p++l).Pairwise (fun a b=>a.1≠b.1)->(p++l).length<=1000->(u++l).length<=100 ->
 tk N p (hb,ca,pl,us,pu,po,ma,re,im,ia,na,hc,pe,ex,sk,ak,pt,fr,u) l=some (hb,ca,pl,us,pu,po,ma,re,im,ia,na,hc,pe,ex,sk,ak,pt,fr,u++l):=by
 intro l
 induction l with
 | nil=>intro p u _ _ _ _;rw[List.append_nil];rfl
 | cons e l ih =>intro p u h1 h2 h3 h4;obtain⟨a,b,c⟩:=h1 e List.mem_cons_self;rw[List.length_append,List.length_cons]at h3 h4;rw[Ajv (AqZ hN hb ca pl us pu po ma re im ia na hc pe ex sk ak pt fr u p e zRw (P5 hN a).val (by omega) (AnA h2) b (by omega) c),ih _ _ (fun e he=>h1 e (List.mem_cons_of_mem _ he)) (by rw[List.append_assoc];exact h2) (by rw[List.length_append,List.length_append,List.length_singleton];omega) (by rw[List.length_append,List.length_append,List.length_singleton];omega),List.append_assoc];rfl
theorem AaP {x:Info} (h:OkI x):Lj N (exI x)=some (inK x,0):=by
 have hck:=Afo hN (Arn hN h);have hll:=zL h;have hr:=AsN hN h 13 (by omega);have hnd:=Aig h;have hck2:=Arw hN h;have hal:=jJ hN h;have hxl:=dE x;have hun:=h.un;rw[<- hxl,List.take_length]at hr;refine AfQ hN (by omega) ?_ hck;unfold exI at hll hnd hck2 hal ⊢;rw[Apo hr];obtain⟨hb,ca,pl,us,pu,po,ma,re,im,ia,na,hc,pe,ex,sk,ak,pt,fr,un⟩:=x;refine Avi hN hb ca pl us pu po ma re im ia (na.map gnK) hc (pe.map gnK) (ex.map gnK) sk ak (pt.map ptK) (fr.map ptK) un _ [] (fun e he=> ?_) hnd (Nat.le_trans hll (by decide)) (by have:=zD hun;dsimp only at this;rw[List.nil_append];omega);have ha:=hal e (List.mem_append_right _ he);have hc:=hck2 e (List.mem_append_right _ he);refine⟨ha.1,?_,?_⟩
 ·have hm:e.1∈ [(unX true).1,unY.1]:=(show ∀ l∈unL,∀ e∈l,e.1∈ [(unX true).1,unY.1] by decide) _ hun e he;obtain⟨M,rfl⟩:=ofM hN;have e:=jV (Asg M) hm;exact e
 ·have:=ha.2;rw[zA N _ (by omega) (by omega) (by omega),hc]
end
end Go.Proofs.YtfgdgdnlglejbaaGreatDoor.Pl
namespace Go.Proofs.YtfgdgdnlglejbaaGreatDoor.Pl
open IntKind (i64)
open Go Vm
section
variable (N:Nat) (hN:1048700<N)
include hN
end
end Go.Proofs.YtfgdgdnlglejbaaGreatDoor.Pl
namespace Go.Proofs.YtfgdgdnlglejbaaGreatDoor.Pl
open IntKind (i64)
open Go Vm
abbrev RnT:Type:=List (Bs×Int×Bs)
abbrev GnT:Type:=Int×Bs×List RnT
abbrev PtT:Type:=List GnT×Int×Bool×List RnT
abbrev Y8T:Type:=Int×Int×Int×Int×Int×Int×Int×Int
abbrev HsT:Type:=Int×Int×Int×Int×Int×Int×Int×Int×List Int×Int
abbrev TrT:Type:=List (List Bs)×Bs×Bs×Int
abbrev SgT:Type:=Bs×Int×Int×List TrT
def Tot {α :Type} (Q: α ->Prop) (o:Option α):Prop:= ∃ v,o=some v/\Q v
theorem Tot.chk {α :Type} {Q: α ->Prop} {c:Bool} {k:Option α} (hc:c=true) (h:Tot Q k):Tot Q (Vm.chk c k):=by rw[hc];exact h
theorem Tot.call {α β :Type} [Inhabited α] {P: α ->Prop} {Q: β ->Prop} {x:Option α} {f: α ->Option β} (h:Tot P x) (hf: ∀ v,P v->Tot Q (f v)):Tot Q (Dj x f):=by obtain⟨v,rfl,hv⟩:=h;exact hf v hv
theorem Tot.bif {α :Type} {Q: α ->Prop} {b:Bool} {x y:Option α} (h1:b=true->Tot Q x) (h2:b=false->Tot Q y):Tot Q (bif b then x else y):=by
 cases b with
 | true=>exact h1 rfl
 | false=>exact h2 rfl
theorem Tot.some {α :Type} {Q: α ->Prop} {v: α} (h:Q v):Tot Q (some v):=⟨v,rfl,h⟩
theorem Tot.Agt {α :Type} {o:Option α} (h:o.isSome=true):Tot (fun _=>True) o:=by
 cases o with
 | none=>cases h
 | some v=>exact⟨v,rfl,trivial⟩
theorem Tot.mono {α :Type} {P Q: α ->Prop} {o:Option α} (h:Tot P o) (hq: ∀ v,P v->Q v):Tot Q o:=let ⟨v,e,p⟩:=h;⟨v,e,hq v p⟩
theorem Aka (l:List Int):l=(List.range l.length).map fun i=>l.getD i 0:=by
 apply List.ext_getElem
 ·simp
 ·intro i h1 h2;simp [List.getD_eq_getElem?_getD,h1]
theorem AlA (M:Nat) (p0:Y8T) (f:Nat->Int):(LJ (M+70) p0 ((List.range 64).map f)).isSome=true:=by kernel_rfl
theorem AfT {N:Nat} (hN:70<=N) (p0:Y8T) {l:List Int} (hl:l.length=64):Tot (fun _=>True) (LJ N p0 l):=by obtain⟨M,rfl⟩:=Nat.exists_eq_add_of_le' hN;have h:=AlA M p0 fun i=>l.getD i 0;rw[<- hl,<- Aka]at h;exact Tot.Agt h
theorem Vt {α :Type} (l:List α) (a b:Nat) (h:b<=l.length):(D7 l a b).length=b - a:=by simp [D7];omega
abbrev Ae8 (r:HsT):List Int:=r.2.2.2.2.2.2.2.2.1
theorem AaQ (N:Nat):Tot (fun _=>True) (TZ N):=Tot.Agt (by kernel_rfl)
theorem Apu {N:Nat} (hN:70<=N) (hM:N<=1000000000) (p0:HsT) (h8:(Ae8 p0).length<64) (p1:Bs) (hl:p1.length+64<N):Tot (fun r=>(Ae8 r).length<64) (Ny N p0 p1):=by
 unfold Ny;try simp -zeta only[Ap]
 refine Tot.bif (fun _=>Tot.some h8) fun _=> ?_;refine Agn (fun x=>x.2.2.2.2.2.2.2.2.1.length<64) (Tot _) (fun j hj=>Tot.bif (fun _=>(AaQ N).call fun v _=>hj _ h8) fun _=>hj _ h8) ?_;rintro ⟨b0,b1,b2,b3,b4,b5,b6,b7,b8,b9⟩ hb;have hb:b8.length<64:=hb;dsimp only[U10];refine Tot.chk (decide_eq_true (by omega)) (Tot.chk (decide_eq_true (by rw[List.length_map];omega)) ?_);refine MR (fun x=>x.1.length<N) (fun x=>x.1.length) (Tot _) ?_ N _ (by show(b8++p1.map _).length<N;rw[List.length_append,List.length_map];omega) (by show(b8++p1.map _).length<N;rw[List.length_append,List.length_map];omega);rintro ⟨t,c0,c1,c2,c3,c4,c5,c6,c7,c8,c9⟩ hI k hk;have hI:t.length<N:=hI;dsimp only[U11];refine Tot.bif (fun h=> ?_) fun h=> ?_
 ·have h:=of_decide_eq_true h;refine Tot.chk (decide_eq_true (by omega)) ((AfT hN _ (by rw[Vt _ _ _ (by omega)])).call fun v _=>Tot.chk (decide_eq_true (by omega)) (hk _ ?_ ?_))
  ·show(D7 t 64 t.length).length<N;rw[Vt _ _ _ (Nat.le_refl _)];omega
  ·show(D7 t 64 t.length).length<t.length;rw[Vt _ _ _ (Nat.le_refl _)];omega
 ·have h:=of_decide_eq_false h;refine Tot.chk (decide_eq_true (by omega)) (Tot.some ?_);show t.length<64;omega
theorem AuB (n:Nat):(n:Int).tmod 64=((n % 64:Nat):Int):=by rw[Int.tmod_eq_emod_of_nonneg (by omega)];omega
theorem ArK {N:Nat} (hN:150<=N) (p0:HsT) (h8:(Ae8 p0).length<64):Tot (fun r=>r.1.length=32) (Pz N p0):=by
 unfold Pz;try simp -zeta only[Ap]
 refine(AaQ N).call fun v _=>Tot.chk rfl ?_;refine Agn (fun x=>x.2.2.2.2.2.2.2.2.2.2.2.1.length=8/\x.2.2.2.2.2.2.2.2.2.2.2.2.length<64) (Tot _) (fun j hj=>Tot.bif (fun _=>Tot.chk (decide_eq_true (by have:p0.2.2.2.2.2.2.2.2.1.length<64:=h8;omega)) (hj _ ⟨rfl,h8⟩)) fun _=>hj _ ⟨rfl,by show 0<64;omega⟩) ?_;rintro ⟨t,b0,b1,b2,b3,b4,b5,b6,b7,b8,b9,l1,l2⟩ ⟨h1,h2⟩;have h1:l1.length=8:=h1;have h2:l2.length<64:=h2;dsimp only[U13];refine Tot.chk (decide_eq_true (by omega)) ?_;refine MR (fun x=>x.2.2.2.2.2.2.2.2.2.2.1.length=8/\x.2.2.2.2.2.2.2.2.2.2.2.length<=120) (fun x=>120 - x.2.2.2.2.2.2.2.2.2.2.2.length) (Tot _) ?_ N _ ⟨h1,by show(l2++_).length<=120;simp;omega⟩ (by show 120 - _<N;omega);rintro ⟨b0,b1,b2,b3,b4,b5,b6,b7,b8,b9,l1,l2⟩ ⟨h1,h2⟩ k hk;have h1:l1.length=8:=h1;have h2:l2.length<=120:=h2;dsimp only[U12];rw[AuB];refine Tot.bif (fun h=> ?_) fun h=> ?_
 ·have h: ¬((l2.length % 64:Nat):Int)=56:=bne_iff_ne.1 h;refine Tot.chk (decide_eq_true (by omega)) (hk _ ⟨h1,?_⟩ ?_)
  ·show(l2++[0]).length<=120;simp;omega
  ·show 120 - (l2++[0]).length<120 - l2.length;simp;omega
 ·have h:((l2.length % 64:Nat):Int)=56:=by simpa using h
  clear k hk;refine MR (fun x=>x.2.2.2.2.2.2.2.2.2.2.2.1.length=8/\ -1<=x.1/\x.1<=7/\((x.2.2.2.2.2.2.2.2.2.2.2.2.length:Int)+x.1+1) % 64=0/\(x.2.2.2.2.2.2.2.2.2.2.2.2.length:Int)+x.1+1<=128) (fun x=>(x.1+1).toNat) (Tot _) ?_ N _ ⟨h1,by show(-1:Int)<=7;omega,by show(7:Int)<=7;omega,by show((l2.length:Int)+7+1) % 64=0;omega,by show(l2.length:Int)+7+1<=128;omega⟩ (by show((7:Int)+1).toNat<N;omega);rintro ⟨t,b0,b1,b2,b3,b4,b5,b6,b7,b8,b9,l1,l2⟩ ⟨h1,h3,h4,h5,h6⟩ k hk;have h1:l1.length=8:=h1;have h3: -1<=t:=h3;have h4:t<=7:=h4;have h5:((l2.length:Int)+t+1) % 64=0:=h5;have h6:(l2.length:Int)+t+1<=128:=h6;dsimp only[U13];refine Tot.bif (fun h=> ?_) fun h=> ?_
  ·have h:=of_decide_eq_true h;refine Tot.chk (decide_eq_true (by rw[wu64 (x:=t) (by omega) (by omega),wu64 (by omega) (by omega)];omega)) (Tot.chk (decide_eq_true (by omega)) (hk _ ⟨h1,?_⟩ ?_))
   ·show -1<=i64.wrap (t - 1)/\i64.wrap (t - 1)<=7/\(((l2++[_]).length:Int)+i64.wrap (t - 1)+1) % 64=0/\((l2++[_]).length:Int)+i64.wrap (t - 1)+1<=128;rw[w64 (by omega) (by omega)];simp;omega
   ·show(i64.wrap (t - 1)+1).toNat<(t+1).toNat
    rw[w64 (by omega) (by omega)];omega
  ·have h:=of_decide_eq_false h;have ht:t= -1:=by omega
   subst ht;clear k hk;refine MR (fun x=>x.2.2.2.2.2.2.2.2.2.2.2.length=8/\x.1.length % 64=0/\x.1.length<=128) (fun x=>x.1.length) (Tot _) ?_ N _ ⟨h1,by show l2.length % 64=0;omega,by show l2.length<=128;omega⟩ (by show l2.length<N;omega);rintro ⟨t,b0,b1,b2,b3,b4,b5,b6,b7,b8,b9,l1⟩ ⟨h1,h2,h3⟩ k hk;have h1:l1.length=8:=h1;have h2:t.length % 64=0:=h2;have h3:t.length<=128:=h3;dsimp only[U12];refine Tot.bif (fun h=> ?_) fun h=> ?_
   ·have h:=of_decide_eq_true h;refine Tot.chk (by rw[h1];rfl) (Tot.chk (decide_eq_true (by omega)) ((AfT (by omega) _ (by rw[Vt _ _ _ (by omega)])).call fun v _=>Tot.chk (by rw[h1];rfl) (Tot.chk (decide_eq_true (by omega)) (hk _ ⟨rfl,?_⟩ ?_))))
    ·show(D7 t 64 t.length).length % 64=0/\(D7 t 64 t.length).length<=128;rw[Vt _ _ _ (Nat.le_refl _)];omega
    ·show(D7 t 64 t.length).length<t.length;rw[Vt _ _ _ (Nat.le_refl _)];omega
   ·clear k hk h;dsimp only[U11];refine Tot.chk (by rw[h1];rfl) ?_;refine MR (fun x=>0<=x.1/\x.1<=8/\(x.2.2.2.2.2.2.2.2.2.2.2.length:Int)=4*x.1/\x.2.2.2.2.2.2.2.2.2.2.2.all Vm.isByte=true) (fun x=>(8 - x.1).toNat) (Tot _) ?_ N _ ⟨by show(0:Int)<=0;omega,by show(0:Int)<=8;omega,rfl,rfl⟩ (by show((8:Int) - 0).toNat<N;omega);rintro ⟨t,b0,b1,b2,b3,b4,b5,b6,b7,b8,b9,l⟩ ⟨h1,h2,h3,h4⟩ k hk;have h1:0<=t:=h1;have h2:t<=8:=h2;have h3:(l.length:Int)=4*t:=h3;have h4:l.all Vm.isByte=true:=h4;dsimp only[U12];refine Tot.bif (fun h=> ?_) fun h=> ?_
    ·have h:=of_decide_eq_true h;refine Tot.chk (decide_eq_true (by omega)) (Tot.chk (decide_eq_true (by omega)) (Tot.chk (decide_eq_true (by omega)) (hk _ ?_ ?_)))
     ·show 0<=i64.wrap (t+1)/\i64.wrap (t+1)<=8/\((l++[_,_,_,_]).length:Int)=4*i64.wrap (t+1)/\(l++[_,_,_,_]).all Vm.isByte=true;rw[w64 (by omega) (by omega)];refine⟨by omega,by omega,by simp;omega,?_⟩;rw[List.all_append,h4];simp only[List.all_cons,MQ,List.all_nil,Bool.and_self]
     ·show(8 - i64.wrap (t+1)).toNat<(8 - t).toNat
      rw[w64 (by omega) (by omega)];omega
    ·have h:=of_decide_eq_false h;dsimp only[U11];refine Tot.chk h4 (Tot.some ?_);show(l.map Vm.byteOf).length=32;rw[List.length_map];omega
theorem Aqk {N:Nat} (hN:150<=N) (hM:N<=1000000000) {l:List Bs} (hl:l.length<N) (hs: ∀ s∈l,s.length+64<N):Tot (fun r=>r.length=32) (nD N l):=by
 unfold nD;try simp -zeta only[Ap]
 refine Tot.call (P:=fun r=>(Ae8 r).length<64) ⟨_,rfl,by show 0<64;omega⟩ fun v hv=> ?_;refine MR (fun x=>0<=x.1/\x.1<=(l.length:Int)/\(Ae8 x.2).length<64) (fun x=>((l.length:Int) - x.1).toNat) (Tot _) ?_ N _ ⟨by show(0:Int)<=0;omega,by show(0:Int)<=l.length;omega,hv⟩ (by show((l.length:Int) - 0).toNat<N;omega);rintro ⟨t,b0,b1,b2,b3,b4,b5,b6,b7,b8,b9⟩ ⟨h1,h2,h3⟩ k hk;have h1:0<=t:=h1;have h2:t<=(l.length:Int):=h2;dsimp only[U11];refine Tot.bif (fun h=> ?_) fun h=> ?_
 ·have h:=of_decide_eq_true h;have hlt:t.toNat<l.length:=by omega
  refine Tot.chk (decide_eq_true h1) (Tot.chk (decide_eq_true h) ((Apu (by omega) hM _ h3 _ (by rw[getD_lt _ _ _ hlt];exact hs _ (List.getElem_mem hlt))).call fun v hv=>hk _ ?_ ?_))
  ·show 0<=i64.wrap (t+1)/\i64.wrap (t+1)<=(l.length:Int)/\(Ae8 v).length<64;rw[w64 (by omega) (by omega)];exact⟨by omega,by omega,hv⟩
  ·show((l.length:Int) - i64.wrap (t+1)).toNat<((l.length:Int) - t).toNat
   rw[w64 (by omega) (by omega)];omega
 ·dsimp only[U10];exact(ArK hN _ h3).call fun v hv=>Tot.some hv
theorem An4 {N:Nat} (hN:150<=N) (hM:N<=1000000000) {l:List Bs} (hl:l.length<N) (hs: ∀ s∈l,s.length+64<N):Tot (fun r=>r.length=16) (Gz N l):=by
 unfold Gz;try simp -zeta only[Ap]
 refine(Aqk hN hM hl hs).call fun v hv=>Tot.chk (decide_eq_true (by omega)) (Tot.some ?_);rw[Vt _ _ _ (by omega)]
def b4P (p:Int):Bs:=List.map Vm.byteOf ([IntKind.u8.wrap (p.fdiv (16777216)),IntKind.u8.wrap (p.fdiv (65536)),IntKind.u8.wrap (p.fdiv (256)),IntKind.u8.wrap p]:List Int)
def b1P (p:Int):Bs:=List.map Vm.byteOf ([IntKind.u8.wrap p]:List Int)
theorem Aht (N:Nat) (p:Int):kK N p=some (b4P p):=by
 unfold kK;try simp -zeta only[Ap]
 rw[Ed _ (by simp [MQ])];rfl
theorem Ahs (N:Nat) (p:Int):kJ N p=some (b1P p):=by
 unfold kJ;try simp -zeta only[Ap]
 rw[Ed _ (by simp [MQ])];rfl
theorem xO (N:Nat) (p:Int):WI N p=some (b4P p):=Aht N p
def hS (N:Nat) (l:List Bs):Bs:=(Gz N l).getD []
structure Hok (N:Nat) (l:List Bs):Prop where
 n:150<=N
 m:N<=1000000000
 len:l.length<N
 each: ∀ s∈l,s.length+64<N
theorem mY {N:Nat} {l:List Bs} (h:Hok N l):Gz N l=some (hS N l)/\(hS N l).length=16:=by obtain⟨v,e,hv⟩:=An4 h.n h.m h.len h.each;unfold hS;rw[e];exact⟨rfl,hv⟩
def wk (f:Int->Bs->Bs) (a:Int):Nat->Bs->Bs
 | 0,x=>x
 | n+1,x=>wk f (a+1) n (f a x)
theorem AuK (f:Int->Bs->Bs): ∀(n:Nat) (a:Int) (m:Nat) (x:Bs),wk f a (n+m) x=wk f (a+n) m (wk f a n x):=by
 intro n
 induction n with
 | zero=>intro a m x;simp [wk]
 | succ n ih =>intro a m x;rw[show n+1+m=(n+m)+1 by omega];show wk f (a+1) (n+m) (f a x)=wk f (a+((n+1:Nat):Int)) m (wk f (a+1) n (f a x));rw[ih];congr 1;omega
theorem Aps {f:Int->Bs->Bs} (hf: ∀ t x,x.length=16->(f t x).length=16): ∀(n:Nat) (a:Int) (x:Bs),x.length=16->(wk f a n x).length=16:=by
 intro n
 induction n with
 | zero=>intro a x h;exact h
 | succ n ih=>intro a x h;exact ih _ _ (hf _ _ h)
def st (N:Nat) (p0:Bs) (p1 p2 t:Int) (x:Bs):Bs:=hS N [[67],p0,b4P p1,b1P p2,b1P t,x]
structure Big (N:Nat):Prop where
 n:2000<=N
 m:N<=1000000000
theorem hok {N:Nat} (h:Big N) {l:List Bs} (hl:l.length<=100) (hs:l.all (fun s=>decide (s.length<=1000))=true):Hok N l:=by have h1:=h.n;refine⟨by omega,h.m,by omega,fun s hm=> ?_⟩;have:=of_decide_eq_true (List.all_eq_true.1 hs s hm);omega
theorem ArF {N:Nat} (h:Big N) {p0:Bs} (h0:p0.length<=1000) (p1 p2 t:Int) {x:Bs} (hx:x.length=16):Gz N [[67],p0,b4P p1,b1P p2,b1P t,x]=some (st N p0 p1 p2 t x)/\(st N p0 p1 p2 t x).length=16 :=
 mY (hok h (by simp) (by simp [h0,hx,b4P,b1P]))
theorem walk_eq {N:Nat} (h:Big N) {p0:Bs} (h0:p0.length<=1000) (p1 p2:Int) {a b:Int} (ha:0<=a) (hab:a<=b) (hb:b<=15) {x:Bs} (hx:x.length=16):V9 N p0 p1 p2 a b x=some (wk (st N p0 p1 p2) a (b - a).toNat x):=by
 unfold V9;have hn:=h.n;refine Sz (X:=Bs×Int) (fun x=>x.1.length=16/\0<=x.2/\x.2<=b) (fun x=>(b - x.2).toNat) (fun x=>some (wk (st N p0 p1 p2) x.2 (b - x.2).toNat x.1)) ?_ N _ ⟨hx,ha,hab⟩ (by show(b - a).toNat<N;omega);rintro ⟨x,t⟩ ⟨h1,h2,h3⟩ k hk;have h1:x.length=16:=h1;have h2:0<=t:=h2;have h3:t<=b:=h3;dsimp only[U2];by_cases hlt:t<b
 ·rw[decide_eq_true hlt,cond_true,Aht,Dn,Ahs,Dn,Ahs,Dn];obtain⟨e1,e2⟩:=ArF h h0 p1 p2 t h1;rw[e1,Dn,w64 (by omega) (by omega)];refine(hk _ ⟨e2,by show 0<=t+1;omega,by show t+1<=b;omega⟩ (by show(b - (t+1)).toNat<(b - t).toNat;omega)).trans ?_;show some (wk _ (t+1) (b - (t+1)).toNat _)=some (wk _ t (b - t).toNat x);rw[show(b - t).toNat=(b - (t+1)).toNat+1 by omega];rfl
 ·rw[decide_eq_false hlt,cond_false];rw[show(b - t).toNat=0 by omega];rfl
theorem Abv {ρ :Type} {B:Int×List Bs->(Int×List Bs->Option ρ)->(List Bs->Option ρ)->Option ρ} {kx:List Bs->Option ρ} (n:Nat) (g:Nat->Bs)
 (h: ∀(i:Nat) (acc:List Bs) (k:Int×List Bs->Option ρ),i<n->acc.length=i->B ((i:Int),acc) k kx=k ((i:Int)+1,acc++[g i]))
 (hend: ∀(acc:List Bs) (k:Int×List Bs->Option ρ),acc.length=n->B ((n:Int),acc) k kx=kx acc) {N:Nat} (hN:n<N):Dz B N (0,[]) kx=kx ((List.range n).map g):=by
 refine Sz (fun x=>x.1=(x.2.length:Int)/\x.2.length<=n/\x.2=(List.range x.2.length).map g) (fun x=>n - x.2.length) (fun _=>kx ((List.range n).map g)) ?_ N _ ⟨rfl,Nat.zero_le _,rfl⟩ (by show n - 0<N;omega);rintro ⟨t,acc⟩ ⟨h1,h2,h3⟩ k hk;have h1:t=(acc.length:Int):=h1;have h2:acc.length<=n:=h2;have h3:acc=(List.range acc.length).map g:=h3;subst h1;by_cases hl:acc.length<n
 ·rw[h acc.length acc k hl rfl];refine hk _ ⟨by show(acc.length:Int)+1=((acc++[g acc.length]).length:Int);simp,by show(acc++[g acc.length]).length<=n;simp;omega,?_⟩ (by show n - (acc++[g acc.length]).length<n - acc.length;simp;omega);show acc++[g acc.length]=(List.range (acc++[g acc.length]).length).map g;rw[List.length_append,List.length_singleton,List.range_succ,List.map_append,<- h3];rfl
 ·have e:acc.length=n:=by omega
  have h4:=hend acc k e;rw[<- e]at h4;rw[h4,<- e];exact congrArg kx h3
def Ang (N:Nat) (p1:Bs) (p2:Int) (i:Nat):Bs:=hS N [[83],p1,b4P p2,b1P (i:Int)]
theorem TC {N:Nat} (h:Big N) {p1:Bs} (h1:p1.length<=1000) (p2:Int) (i:Nat):Ut N p1 p2 (i:Int)=some (Ang N p1 p2 i)/\(Ang N p1 p2 i).length=16:=by obtain⟨e1,e2⟩:=mY (N:=N) (l:=[[83],p1,b4P p2,b1P (i:Int)]) (hok h (by simp) (by simp [h1,b4P,b1P]));refine⟨?_,e2⟩;unfold Ut;rw[Aht,Dn,Ahs,Dn,e1];rfl
def Ajx (N:Nat) (p0 p1:Bs) (p2:Int) (i:Nat):Bs:=wk (st N p0 p2 (i:Int)) 0 15 (Ang N p1 p2 i)
theorem st_len {N:Nat} (h:Big N) {p0:Bs} (h0:p0.length<=1000) (p1 p2:Int): ∀ t x,x.length=16->(st N p0 p1 p2 t x).length=16:=fun t _ hx=>(ArF h h0 p1 p2 t hx).2
theorem Adj: ∀(l:List Bs),(∀ s∈l,s.length=16)->l.flatten.length=16*l.length:=by
 intro l
 induction l with
 | nil=>intro _;rfl
 | cons a r ih =>intro h;rw[List.flatten_cons,List.length_append,h a List.mem_cons_self,ih fun s hs=>h s (List.mem_cons_of_mem _ hs),List.length_cons];omega
def iN (b:UInt8):Int:=(b.toNat:Int)
theorem AnL (l:Bs):(l.map iN).map Vm.byteOf=l:=by
 rw[List.map_map]
 conv=>rhs;rw[<- List.map_id l]
 refine List.map_congr_left fun b _=> ?_;show UInt8.ofNat ((b.toNat:Int)).toNat=b;simp
theorem Ao0 (l:Bs):(l.map iN).all Vm.isByte=true:=by rw[List.all_eq_true];intro x hx;obtain⟨b,_,rfl⟩:=List.mem_map.1 hx;have:=ArH b;unfold Vm.isByte iN;rw[decide_eq_true (by omega),decide_eq_true (by omega)];rfl
theorem join_eq {N:Nat} (h:Big N) {l:List Bs} (hl:l.length<=1000) (h16: ∀ s∈l,s.length=16):Zv N l=some l.flatten:=by
 have hn:=h.n;have hf:=Adj l h16;unfold Zv;try simp -zeta only[Ap]
 rw[w64 (x:=(l.length:Int)*16) (by omega) (by omega),Ed _ (decide_eq_true (by omega)),Ed _ (decide_eq_true (by omega)),Ed _ (decide_eq_true (by omega))];refine(Sz (X:=Int×List Int) (fun x=>0<=x.1/\x.1<=(l.length:Int)/\x.2.length=16*l.length/\x.2.take (16*x.1.toNat)=((l.take x.1.toNat).flatten).map iN) (fun x=>((l.length:Int) - x.1).toNat) (fun _=>some l.flatten) ?_ N _ ⟨by show(0:Int)<=0;omega,by show(0:Int)<=l.length;omega,by show(List.replicate _ _).length=_;rw[List.length_replicate];omega,by simp⟩ (by show((l.length:Int) - 0).toNat<N;omega));rintro ⟨t,y⟩ ⟨h1,h2,h3,h4⟩ k hk;have h1:0<=t:=h1;have h2:t<=(l.length:Int):=h2;have h3:y.length=16*l.length:=h3;have h4:y.take (16*t.toNat)=((l.take t.toNat).flatten).map iN:=h4;dsimp only[U2];by_cases hlt:t<(l.length:Int)
 ·have hi:t.toNat<l.length:=by omega
  have hg:l.getD t.toNat []=l[t.toNat]:=getD_lt _ _ _ hi;have h5:(l.getD t.toNat []).length=16:=by rw[hg];exact h16 _ (List.getElem_mem hi)
  have h6:l.take (t.toNat+1)=l.take t.toNat++[l.getD t.toNat []]:=by rw[hg,List.take_succ_eq_append_getElem hi]
  have h7:((l.take t.toNat).flatten).length=16*t.toNat:=by rw[Adj _ fun s hs=>h16 s (List.mem_of_mem_take hs),List.length_take];omega
  generalize l.getD t.toNat []=s at h5 h6 ⊢;rw[decide_eq_true hlt,cond_true,Ed _ (decide_eq_true h1),Ed _ rfl,w64 (x:=t*16) (by omega) (by omega),w64 (x:=t+1) (by omega) (by omega),Ed _ (decide_eq_true (by omega)),Ed _ (decide_eq_true (by omega)),Ed _ (decide_eq_true (by omega)),Ed _ (decide_eq_true (by omega))];have e16:(t*16).toNat=16*t.toNat:=by omega
  rw[e16];have h8:(y.take (16*t.toNat)).length=16*t.toNat:=by rw[List.length_take];omega
  refine hk _ ⟨by show 0<=t+1;omega,by show t+1<=_;omega,?_,?_⟩ (by show((l.length:Int) - (t+1)).toNat<((l.length:Int) - t).toNat;omega)
  ·show(fM y (16*t.toNat) s).length=_;unfold fM;simp only[List.length_append,List.length_map,List.length_drop,h8];omega
  ·show(fM y (16*t.toNat) s).take (16*(t+1).toNat)=((l.take (t+1).toNat).flatten).map iN;rw[show(t+1).toNat=t.toNat+1 by omega,h6,List.flatten_append,List.map_append,<- h4];unfold fM;rw[List.take_append_of_le_length (by simp only[List.length_append,List.length_map,h8];omega)];rw[List.take_of_length_le (by simp only[List.length_append,List.length_map,h8];omega)];simp [iN]
 ·have et:t.toNat=l.length:=by omega
  rw[decide_eq_false hlt,cond_false];rw[et,<- h3,List.take_length,List.take_length]at h4;rw[h4];show chk _ _=_;rw[Ed _ (Ao0 _),AnL]
theorem V7 {n:Nat} {g:Nat->Bs} (h: ∀ i,(g i).length=16): ∀ s∈(List.range n).map g,s.length=16:=by intro s hs;obtain⟨i,_,rfl⟩:=List.mem_map.1 hs;exact h i
def AqB (N:Nat) (p0:Bs) (p1:Int) (l:List Bs):Bs:=hS N [[76],p0,b4P p1,l.flatten]
theorem yG {N:Nat} (h:Big N) {p0:Bs} (h0:p0.length<=1000) (p1:Int) {l:List Bs} (hl:l.length<=60) (h16: ∀ s∈l,s.length=16):Us N p0 p1 l=some (AqB N p0 p1 l)/\(AqB N p0 p1 l).length=16:=by have hf:=Adj l h16;obtain⟨e1,e2⟩:=mY (N:=N) (l:=[[76],p0,b4P p1,l.flatten]) (hok h (by simp) (by simp only[List.all_cons,List.all_nil,hf,Bool.and_true,decide_eq_true h0];rw[decide_eq_true (by omega:16*l.length<=1000)];simp [b4P]));refine⟨?_,e2⟩;unfold Us;rw[Aht,Dn,join_eq h (by omega) h16,Dn,e1];rfl
theorem vI (N:Nat) {p0:Bs} (h0:p0.length=16) {p:Int} (h1:0<=p) (h2:p<256):MG N p0 p=some 0:=by
 unfold MG;try simp -zeta only[Ap]
 rw[show((p0.length:Int) != 16)=false by rw[h0];rfl,decide_eq_false (by omega: ¬ p<0),decide_eq_false (by omega: ¬ p>=256)];rfl
theorem vJ (N:Nat) {p0 p1:Bs} (h0:p0.length=16) (hs:p1.length=32) {p:Int} (h1:0<=p) (h2:p<256):OH N p0 p1 p=some 0:=by
 unfold OH;try simp -zeta only[Ap]
 rw[show((p0.length:Int) != 16)=false by rw[h0];rfl,show((p1.length:Int) != 32)=false by rw[hs];rfl];show Dj (MG N p0 p) _=_;rw[vI N h0 h1 h2];rfl
theorem Ac0 {N:Nat} (h:Big N) {p0 p1:Bs} (h0:p0.length<=1000) (hs:p1.length<=1000) (p2:Int) (i:Nat):(Ajx N p0 p1 p2 i).length=16:=Aps (st_len h h0 p2 i) _ _ _ (TC h hs p2 i).2
def pkP (N:Nat) (p0 p1:Bs) (p2:Int):Bs:=AqB N p0 p2 ((List.range 35).map (Ajx N p0 p1 p2))
theorem tY {N:Nat} (h:Big N) {p0 p1:Bs} (h0:p0.length=16) (hs:p1.length=32) {p2:Int} (h1:0<=p2) (h2:p2<256):Yl N p0 p1 p2=some (pkP N p0 p1 p2,0):=by
 have hn:=h.n;unfold Yl;try simp -zeta only[Ap]
 rw[vJ N h0 hs h1 h2];show Dz (X:=Int×List Bs) (Y:=List Bs) _ N (0,[]) _=_;refine(Abv 35 (Ajx N p0 p1 p2) (fun i acc k hi ha=> ?_) (fun acc k ha=> ?_) (by omega)).trans ?_
 ·dsimp only[U2];rw[decide_eq_true (by omega:(i:Int)<35),cond_true,(TC h (by omega) p2 i).1,Dn,walk_eq h (by omega) p2 i (Int.le_refl 0) (by omega) (Int.le_refl 15) (TC h (by omega) p2 i).2,Dn,Ed _ (decide_eq_true (by omega)),w64 (by omega) (by omega)];rfl
 ·rfl
 ·rw[(yG h (by omega) p2 (by simp) (V7 (Ac0 h (by omega) (by omega) p2))).1];rfl
theorem pk_len {N:Nat} (h:Big N) {p0 p1:Bs} (h0:p0.length=16) (hs:p1.length=32) (p2:Int):(pkP N p0 p1 p2).length=16:=(yG h (by omega) p2 (by simp) (V7 (Ac0 h (by omega) (by omega) p2))).2
def Dig (l:List Int):Prop:=l.length=35/\ ∀ i,0<=l.getD i 0/\l.getD i 0<=15
theorem AuO (a:Nat) (h:a<256):0<=DV .and .u8 (a:Int) 15/\DV .and .u8 (a:Int) 15<=15:=by
 have: ∀ a:Fin 256,0<=DV .and .u8 ((a.val:Nat):Int) 15/\DV .and .u8 ((a.val:Nat):Int) 15<=15:=by decide +kernel
 exact this ⟨a,h⟩
theorem An9 (a:Nat) (h:a<1024):0<=DV .and .i64 (a:Int) 15/\DV .and .i64 (a:Int) 15<=15:=by
 have: ∀ a:Fin 1024,0<=DV .and .i64 ((a.val:Nat):Int) 15/\DV .and .i64 ((a.val:Nat):Int) 15<=15:=by decide +kernel
 exact this ⟨a,h⟩
theorem Aqi {l:List Int} (h: ∀ x∈l,0<=x/\x<=15) (i:Nat):0<=l.getD i 0/\l.getD i 0<=15:=by
 by_cases hi:i<l.length
 ·rw[getD_lt _ _ _ hi];exact h _ (List.getElem_mem hi)
 ·rw[List.getD_eq_getElem?_getD,List.getElem?_eq_none (by omega)];simp
theorem Ame (a b:Nat):(a:Int).fdiv (b:Int)=((a / b:Nat):Int):=by rw[Int.fdiv_eq_ediv_of_nonneg _ (Int.natCast_nonneg b)];rfl
theorem Alo {N:Nat} (h:Big N) {p:Bs} (hp:p.length=16):Tot (fun r=>r.2=0/\Dig r.1) (Oz N p):=by
 have hn:=h.n;unfold Oz;try simp -zeta only[Ap]
 rw[show((p.length:Int) != 16)=false by rw[hp];rfl];refine Tot.chk (decide_eq_true (by omega)) ?_;show Tot _ (Dz (X:=Int×Int×List Int×List Int) _ N (0,0,p.map iN,[]) _);refine MR (fun x=>0<=x.2.1/\x.2.1<=16/\x.2.2.1=p.map iN/\(x.2.2.2.length:Int)=2*x.2.1/\(∀ d∈x.2.2.2,0<=d/\d<=15)/\0<=x.1/\x.1<=30*x.2.1) (fun x=>(16 - x.2.1).toNat) (Tot _) ?_ N _ ⟨by show(0:Int)<=0;omega,by show(0:Int)<=16;omega,rfl,rfl,(fun _ h=>by cases h),by show(0:Int)<=0;omega,by show(0:Int)<=30*0;omega⟩ (by show((16:Int) - 0).toNat<N;omega);rintro ⟨c,t,l,acc⟩ ⟨h1,h2,h3,h4,h5,h6,h7⟩ k hk;have h1:0<=t:=h1;have h2:t<=16:=h2;have h3:l=p.map iN:=h3;have h4:(acc.length:Int)=2*t:=h4;have h5: ∀ d∈acc,0<=d/\d<=15:=h5;have h6:0<=c:=h6;have h7:c<=30*t:=h7;dsimp only[U4];refine Tot.bif (fun hb=> ?_) fun hb=> ?_
 ·have hb:=of_decide_eq_true hb;rw[List.length_map,hp]at hb;have hl:t.toNat<l.length:=by rw[h3,List.length_map];omega
  obtain⟨a,ha,hlt⟩: ∃ a:Nat,l.getD t.toNat 0=(a:Int)/\a<256:=by rw[getD_lt _ _ _ hl];have hm:l[t.toNat]∈p.map iN:=h3▸List.getElem_mem hl;obtain⟨b,_,hb⟩:=List.mem_map.1 hm;exact⟨b.toNat,hb.symm,ArH b⟩
  obtain⟨q1,q2⟩:=AuO a hlt;have hd:(a:Int).fdiv 16=((a / 16:Nat):Int):=Ame a 16;rw[ha,hd];generalize DV .and .u8 (a:Int) 15=y at q1 q2 ⊢;rw[w64 (x:=((a / 16:Nat):Int)) (by omega) (by omega),w64 (x:=y) (by omega) (by omega),w64 (x:=15 - ((a / 16:Nat):Int)) (by omega) (by omega),w64 (x:=15 - ((a / 16:Nat):Int)+15) (by omega) (by omega),w64 (x:=15 - ((a / 16:Nat):Int)+15 - y) (by omega) (by omega),w64 (x:=t+1) (by omega) (by omega),w64 (by omega) (by omega)];refine Tot.chk (decide_eq_true h1) (Tot.chk (decide_eq_true (by omega)) (Tot.chk (decide_eq_true (by omega)) (Tot.chk (decide_eq_true (by omega)) (hk _ ⟨by show 0<=t+1;omega,by show t+1<=16;omega,h3,?_,?_,?_,?_⟩ ?_))))
  ·show((acc++[_,_]).length:Int)=2*(t+1);simp;omega
  ·intro d hd;have hd:d∈acc++[((a / 16:Nat):Int),y]:=hd;rcases List.mem_append.1 hd with hd | hd
   ·exact h5 d hd
   ·simp only[List.mem_cons,List.not_mem_nil,or_false]at hd;rcases hd with rfl | rfl<;>omega
  ·show 0<=c+(15 - ((a / 16:Nat):Int)+15 - y);omega
  ·show c+(15 - ((a / 16:Nat):Int)+15 - y)<=30*(t+1);omega
  ·show(16 - (t+1)).toNat<(16 - t).toNat
   omega
 ·have hb:=of_decide_eq_false hb;rw[List.length_map,hp]at hb;dsimp only[U2];refine Tot.chk (decide_eq_true (by omega)) (Tot.some ⟨rfl,?_,?_⟩)
  ·show(acc++[_,_,_]).length=35;simp;omega
  ·obtain⟨n,hn,hn2⟩: ∃ n:Nat,c=(n:Int)/\n<=480:=⟨c.toNat,by omega,by omega⟩
   refine Aqi fun x hx=> ?_;have hx:x∈acc++[c.fdiv 256,DV .and .i64 (c.fdiv 16) 15,DV .and .i64 c 15]:=hx;rcases List.mem_append.1 hx with hx | hx
   ·exact h5 x hx
   ·simp only[List.mem_cons,List.not_mem_nil,or_false]at hx;subst hn;have e1:(n:Int).fdiv 256=((n / 256:Nat):Int):=Ame n 256;have e2:(n:Int).fdiv 16=((n / 16:Nat):Int):=Ame n 16;rcases hx with rfl | rfl | rfl
    ·rw[e1];omega
    ·rw[e2];exact An9 _ (by omega)
    ·exact An9 _ (by omega)
theorem ApR: ∀(l:List Bs) (i:Nat),(∀ s∈l,s.length=16)->i<l.length->D7 l.flatten (16*i) (16*(i+1))=l.getD i []:=by
 intro l
 induction l with
 | nil=>intro i _ h;simp at h
 | cons a r ih =>
  intro i h hi;have ha:a.length=16:=h a List.mem_cons_self;cases i with
  | zero =>show((a++r.flatten).take (16*(0+1))).drop (16*0)=a;rw[List.take_append_of_le_length (by omega),List.take_of_length_le (by omega)];rfl
  | succ i =>have:=ih i (fun s hs=>h s (List.mem_cons_of_mem _ hs)) (by simpa using hi);show((a++r.flatten).take (16*(i+1+1))).drop (16*(i+1))=r.getD i [];rw[<- this];rw[show 16*(i+1+1)=a.length+16*(i+1) by omega,List.take_length_add_append,show 16*(i+1)=a.length+16*i by omega,List.drop_length_add_append];rw[ha,show 16+16*i=16*(i+1) by omega];rfl
def AeS (N:Nat) (d:Bs):List Int:=((Oz N d).getD ([],0)).1
theorem AfY {N:Nat} (h:Big N) {d:Bs} (hd:d.length=16):Oz N d=some (AeS N d,0)/\Dig (AeS N d):=by obtain⟨⟨l,e⟩,h1,h2,h3⟩:=Alo h hd;have h2:e=0:=h2;subst h2;unfold AeS;rw[h1];exact⟨rfl,h3⟩
def sgP (N:Nat) (p0 p1:Bs) (p2:Int) (d:Bs) (i:Nat):Bs:=wk (st N p0 p2 (i:Int)) 0 ((AeS N d).getD i 0).toNat (Ang N p1 p2 i)
def X5 (N:Nat) (p0 p1:Bs) (p2:Int) (d:Bs):Bs:=((List.range 35).map (sgP N p0 p1 p2 d)).flatten
section
variable {N:Nat} (h:Big N) {p0 p1:Bs} (h0:p0.length=16) (hs:p1.length=32) {p2:Int} (h1:0<=p2) (h2:p2<256) {d:Bs} (hd:d.length=16)
include h h0 hs
theorem Aag (p2:Int) (d:Bs) (i:Nat):(sgP N p0 p1 p2 d i).length=16:=Aps (st_len h (by omega) p2 i) _ _ _ (TC h (by omega) p2 i).2
theorem SL (p2:Int) (d:Bs):(X5 N p0 p1 p2 d).length=560:=by unfold X5;rw[Adj _ (V7 (Aag h h0 hs p2 d)),List.length_map,List.length_range]
include h1 h2 hd
theorem Ak9:o9 N p0 p1 p2 d=some (X5 N p0 p1 p2 d,0):=by
 have hn:=h.n;obtain⟨e1,e2,e3⟩:=AfY h hd;unfold o9;try simp -zeta only[Ap]
 rw[vJ N h0 hs h1 h2,Dn];rw[show((0:Int) != 0)=false from rfl,cond_false];rw[e1,Dn];show Dz (X:=Int×List Bs) (Y:=List Bs) _ N (0,[]) _=_;refine(Abv 35 (sgP N p0 p1 p2 d) (fun i acc k hi ha=> ?_) (fun acc k ha=> ?_) (by omega)).trans ?_
 ·have e4:=e3 i;dsimp only[U2];rw[decide_eq_true (by omega:(i:Int)<35),cond_true,Ed _ (decide_eq_true (by omega)),Ed _ (decide_eq_true (by omega)),(TC h (by omega) p2 i).1,Dn,Int.toNat_natCast,walk_eq h (by omega) p2 i (Int.le_refl 0) e4.1 e4.2 (TC h (by omega) p2 i).2,Dn,Ed _ (decide_eq_true (by omega)),w64 (by omega) (by omega),Int.sub_zero];rfl
 ·rfl
 ·rw[join_eq h (by simp) (V7 (Aag h h0 hs p2 d))];rfl
theorem Ac3:VU N p0 p2 d (X5 N p0 p1 p2 d)=some (pkP N p0 p1 p2,0):=by
 have hn:=h.n;obtain⟨e1,e2,e3⟩:=AfY h hd;have hsl:=SL h h0 hs p2 d;unfold VU;try simp -zeta only[Ap]
 rw[vI N h0 h1 h2,Dn];rw[show((0:Int) != 0)=false from rfl,cond_false];rw[e1,Dn];show(bif (((X5 N p0 p1 p2 d).length:Int) != 560)then _ else _)=_;rw[show(((X5 N p0 p1 p2 d).length:Int) != 560)=false by rw[hsl];rfl,cond_false];refine(Abv 35 (Ajx N p0 p1 p2) (fun i acc k hi ha=> ?_) (fun acc k ha=> ?_) (by omega)).trans ?_
 ·have e4:=e3 i;have hc:D7 (X5 N p0 p1 p2 d) (16*i) (16*(i+1))=sgP N p0 p1 p2 d i:=by unfold X5;rw[ApR _ _ (V7 (Aag h h0 hs p2 d)) (by simpa using hi),getD_lt _ _ _ (by simpa using hi)];simp
  dsimp only[U2];rw[decide_eq_true (by omega:(i:Int)<35),cond_true,w64 (x:=(i:Int)*16) (by omega) (by omega),w64 (x:=(i:Int)+1) (by omega) (by omega),w64 (by omega) (by omega)];rw[Ed _ (decide_eq_true (by omega)),Ed _ (decide_eq_true (by omega)),Ed _ (decide_eq_true (by omega)),Ed _ (decide_eq_true (by omega)),Ed _ (decide_eq_true (by omega)),show((i:Int)*16).toNat=16*i by omega,show(((i:Int)+1)*16).toNat=16*(i+1) by omega,hc,Int.toNat_natCast,walk_eq h (by omega) p2 i e4.1 e4.2 (Int.le_refl 15) (Aag h h0 hs p2 d i),Dn,Ed _ (decide_eq_true (by omega))];congr 3;congr 1;unfold sgP Ajx;rw[show(15:Nat)=((AeS N d).getD i 0).toNat+(15 - (AeS N d).getD i 0).toNat by omega,AuK];congr 1;omega
 ·rfl
 ·rw[(yG h (by omega) p2 (by simp) (V7 (Ac0 h (by omega) (by omega) p2))).1];rfl
end
end Go.Proofs.YtfgdgdnlglejbaaGreatDoor.Pl
namespace Go.Proofs.YtfgdgdnlglejbaaGreatDoor.Pl
open IntKind (i64)
open Go Vm
set_option linter.unusedSectionVars false
theorem ne_nil {s:Bs} (h:0<s.length):(s==([]:Bs))=false:=by cases s with | nil=>simp at h | cons a r=>rfl
def idP (N:Nat) (sd:Bs):Bs:=hS N [[73],sd]
def pR (N:Nat) (sd:Bs):TrT:=([],sd,idP N sd,0)
def fB (N:Nat) (sd:Bs):Bs:=pkP N (idP N sd) sd 0
def Wh (N:Nat) (sd:Bs):TrT:=([[fB N sd]],sd,idP N sd,0)
def Ajm (N:Nat) (sd:Bs):SgT:=(sd,0,0,[pR N sd])
def Ajn (N:Nat) (sd:Bs):SgT:=(sd,0,1,[Wh N sd])
def yF (N:Nat) (sd:Bs):Int×Bs×Bs:=(0,idP N sd,fB N sd)
def AbF (N:Nat) (sd m:Bs):Bs:=hS N [[77],idP N sd,fB N sd,b4P 0,m]
def UE (N:Nat) (sd m:Bs):Bs:=b4P 0++X5 N (idP N sd) sd 0 (AbF N sd m)
section
variable {N:Nat} (h:Big N) {sd:Bs} (hs:sd.length=32)
include h hs
theorem id_eq:Gz N [[73],sd]=some (idP N sd)/\(idP N sd).length=16:=mY (hok h (by simp) (by simp [hs]))
theorem AkR:(fB N sd).length=16:=pk_len h (id_eq h hs).2 hs 0
theorem Aj3:KA N sd 0=some (.inl (pR N sd,0)):=by
 unfold KA;try simp -zeta only[Ap]
 rw[show((sd.length:Int) != 32)=false by rw[hs];rfl,cond_false,(id_eq h hs).1];rfl
theorem tV (l:List (List Bs)) (k:Bs):F6 N (l,sd,k,0)=some (1,(l,sd,k,0)):=by
 unfold F6 FP;try simp -zeta only[Ap]
 rw[Dn,ne_nil (by rw[hs];decide)];rfl
theorem Atc:KZ N sd 0=some (.inl (Ajm N sd,0)):=by
 have e:=tV h hs [] (idP N sd);unfold KZ dF;try simp -zeta only[Ap]
 rw[Aj3 h hs,GI];unfold pR;dsimp only;rw[e];rfl
theorem AuW:Fh N (pR N sd)=some (Wh N sd):=by
 obtain⟨M,rfl⟩: ∃ M,N=M+10:=⟨N - 10,by have:=h.n;omega⟩
 unfold Fh;try simp -zeta only[Ap]
 have e:=tY h (id_eq h hs).2 hs (Int.le_refl 0) (by omega:(0:Int)<256);unfold pR;rw[Fa];dsimp only[U6];rw[e];rfl
theorem AuX:Fh N (Wh N sd)=some (Wh N sd):=rfl
theorem An1 (t:TrT) (ht:Fh N t=some (Wh N sd)) (hv:t.2.1=sd):Je N t=some (yF N sd,Wh N sd):=by unfold Je FP;rw[Dn,hv,ne_nil (by rw[hs];decide)];dsimp only;rw[Bool.not_false,Bool.not_true,cond_false,ht];rfl
theorem Aob {m:Bs} (hm:m.length+64<N):Ij N (yF N sd) 0 m=some (AbF N sd m)/\(AbF N sd m).length=16:=by
 have hn:=h.n
 obtain⟨e1,e2⟩:=mY (N:=N) (l:=[[77],idP N sd,fB N sd,b4P 0,m]) ⟨by omega,h.m,by simp;omega,fun s hs'=>by
  have i1:=(id_eq h hs).2;have i2:=AkR h hs;simp only[List.mem_cons,List.not_mem_nil,or_false]at hs';rcases hs' with rfl | rfl | rfl | rfl | rfl
  ·simp;omega
  ·omega
  ·omega
  ·simp [b4P];omega
  ·exact hm⟩
 refine⟨?_,e2⟩;unfold Ij;rw[xO,Dn];show Dj (Gz N [[77],idP N sd,fB N sd,b4P 0,m]) _=_;rw[e1];rfl
theorem Ap5 {m:Bs} (hm:m.length+64<N) (l:List (List Bs)) (ht:Fh N (l,sd,idP N sd,0)=some (Wh N sd)):JD N (l,sd,idP N sd,0) 0 m=some (UE N sd m,0,Wh N sd):=by
 have hn:=h.n;have e1:=tV h hs l (idP N sd);have e2:=An1 h hs (l,sd,idP N sd,0) ht rfl;obtain⟨e3,e4⟩:=Aob h hs hm;have e5:=Ak9 h (id_eq h hs).2 hs (Int.le_refl 0) (by omega) e4;have hl:=SL h (id_eq h hs).2 hs 0 (AbF N sd m);unfold JD FP;try simp -zeta only[Ap]
 rw[Dn,ne_nil (by rw[hs];decide)];dsimp only;rw[e1];simp (decide:=true) only[Bool.not_false,Bool.not_true,cond_false,cond_true,Option.isSome_some,Bool.true_or,Bool.or_true,Gh,Option.getD_some,Int.lt_irrefl,decide_false];rw[e2,Dn];dsimp only[Wh];rw[beq_self_eq_true,beq_self_eq_true,Gh,Gh];refine(Ed _ rfl).trans ?_;rw[e3,Dn,e5,Dn];dsimp only;rw[show((0:Int) != 0)=false from rfl,cond_false,xO,Dn,Ed _ (decide_eq_true (by rw[hl];simp [b4P]))];obtain⟨M,rfl⟩: ∃ M,N=M+10:=⟨N - 10,by omega⟩
 rfl
theorem Ap1 {m:Bs} (hm:m.length+64<N):Gu N (Ajm N sd) m=some (UE N sd m,0,Ajn N sd):=by
 have e1:=tV h hs [] (idP N sd);have e2:=Ap5 h hs hm [] (AuW h hs);unfold Gu MW Gv;try simp -zeta only[Ap]
 dsimp only[Ajm,pR,Dn,List.headD_cons];rw[ne_nil (by rw[hs];decide),Bool.false_and,cond_false,cond_false,e1,Dn];dsimp only;rw[show(i64.wrap (1 - 0))=1 from rfl,Dn];dsimp only;rw[show((1:Int)==0)=false from rfl,cond_false,List.headD_cons,e2,Dn];rfl
theorem ArJ:Gj N (Ajn N sd)=some (yF N sd,Ajn N sd):=by
 have e:=An1 h hs (Wh N sd) (AuX h hs) rfl;unfold Gj Gv;try simp -zeta only[Ap]
 dsimp only[Ajn,List.headD_cons];rw[ne_nil (by rw[hs];decide),Bool.false_and,Dn];dsimp only;rw[cond_false,List.headD_cons,e,Dn];dsimp only;rw[beq_self_eq_true,beq_self_eq_true,Gh,Gh];rfl
theorem Alp {m:Bs} (hm:m.length+64<N):MF N (yF N sd) m (UE N sd m)=some 0:=by
 have hn:=h.n;obtain⟨e3,e4⟩:=Aob h hs hm;have e5:=Ac3 h (id_eq h hs).2 hs (Int.le_refl 0) (by omega) e4;have hl:=SL h (id_eq h hs).2 hs 0 (AbF N sd m);have hk:=AkR h hs;have hi:=(id_eq h hs).2;have h4:(b4P 0).length=4:=rfl
 have hc:G7 N (yF N sd)=some 0:=by
  unfold G7 yF;try simp -zeta only[Ap]
  try dsimp only
  rw[show((List.length (idP N sd):Int) != 16)=false by rw[hi];rfl,show((List.length (fB N sd):Int) != 16)=false by rw[hk];rfl];rfl
 have hsl:(UE N sd m).length=564:=by unfold UE;rw[List.length_append,hl,h4]
 have c1:D7 (UE N sd m) 0 4=b4P 0:=by unfold D7 UE;rw[List.take_append_of_le_length (by omega)];rfl
 have c2:D7 (UE N sd m) 4 564=X5 N (idP N sd) sd 0 (AbF N sd m):=by unfold D7;rw[List.take_of_length_le (by omega)];unfold UE;exact List.drop_left' h4
 have hf:OQ N (UE N sd m)=some (0,true):=by
  unfold OQ;try simp -zeta only[Ap]
  rw[c1,hsl];obtain⟨M,rfl⟩: ∃ M,N=M+10:=⟨N - 10,by omega⟩
  rfl
 unfold MF;try simp -zeta only[Ap]
 rw[hc,Dn,show((0:Int) != 0)=false from rfl,cond_false,hsl,hf,Dn];dsimp only[yF];rw[show((((564:Nat):Int)) != i64.wrap (564+i64.wrap (0*16)))=false from rfl,cond_false];refine(Ed _ rfl).trans ?_;rw[decide_eq_false (by decide: ¬(0:Int)>=i64.wrap (1*2 ^ min (IntKind.u64.wrap 0).toNat 64)),cond_false];have e3':Ij N (0,idP N sd,fB N sd) 0 m=_:=e3;rw[e3',Dn];refine(Ed _ rfl).trans ?_;rw[c2,e5,Dn];dsimp only;rw[show((0:Int) != 0)=false from rfl,cond_false];refine(Ed _ rfl).trans ?_;obtain⟨M,rfl⟩: ∃ M,N=M+10:=⟨N - 10,by omega⟩
 rw[Fa];dsimp only[U6,U4];rw[decide_eq_false (by decide: ¬(0:Int)<0),cond_false];show(bif !(fB (M+10) sd==fB (M+10) sd)then _ else _)=_;rw[beq_self_eq_true];rfl
end
end Go.Proofs.YtfgdgdnlglejbaaGreatDoor.Pl
namespace Go.Proofs.YtfgdgdnlglejbaaGreatDoor.Pl
open IntKind (i64)
open Go Vm
set_option linter.unusedSectionVars false
def kyP (N:Nat) (sd:Bs) (i:Int):Bs:=pkP N (idP N sd) sd i
def X3 (N:Nat) (sd:Bs):Bs:=hS N [[78],idP N sd,b1P 0,b4P 0,kyP N sd 0,kyP N sd 1]
def tr0 (N:Nat) (sd:Bs):TrT:=([],sd,idP N sd,1)
def tr1 (N:Nat) (sd:Bs):TrT:=([[kyP N sd 0,kyP N sd 1],[X3 N sd]],sd,idP N sd,1)
def sg0 (N:Nat) (sd:Bs):SgT:=(sd,1,0,[tr0 N sd])
def sg1 (N:Nat) (sd:Bs):SgT:=(sd,1,1,[tr1 N sd])
def pb1 (N:Nat) (sd:Bs):Int×Bs×Bs:=(1,idP N sd,X3 N sd)
def dg1 (N:Nat) (sd m:Bs):Bs:=hS N [[77],idP N sd,X3 N sd,b4P 0,m]
def si1 (N:Nat) (sd m:Bs):Bs:=b4P 0++X5 N (idP N sd) sd 0 (dg1 N sd m)++kyP N sd 1
section
variable {N:Nat} (h:Big N) {sd:Bs} (hs:sd.length=32)
include h hs
theorem Ad8 (i:Int):(kyP N sd i).length=16:=pk_len h (id_eq h hs).2 hs i
theorem AiY:Jl N (idP N sd) 0 0 (kyP N sd 0) (kyP N sd 1)=some (X3 N sd)/\(X3 N sd).length=16:=by obtain⟨e1,e2⟩:=mY (N:=N) (l:=[[78],idP N sd,b1P 0,b4P 0,kyP N sd 0,kyP N sd 1]) (hok h (by simp) (by simp [(id_eq h hs).2,Ad8 h hs,b1P,b4P]));refine⟨?_,e2⟩;unfold Jl;rw[show xX N 0=some (b1P 0)from Ahs N 0,Dn,xO,Dn];exact(congrArg (Dj · _) e1).trans rfl
theorem AhC:KA N sd 1=some (.inl (tr0 N sd,0)):=by
 unfold KA;try simp -zeta only[Ap]
 rw[show((sd.length:Int) != 32)=false by rw[hs];rfl,cond_false,(id_eq h hs).1];rfl
theorem kZ (l:List (List Bs)) (k:Bs):F6 N (l,sd,k,1)=some (2,(l,sd,k,1)):=by
 unfold F6 FP;try simp -zeta only[Ap]
 rw[Dn,ne_nil (by rw[hs];decide)];rfl
theorem ArI:KZ N sd 1=some (.inl (sg0 N sd,0)):=by
 have e:=kZ h hs [] (idP N sd);unfold KZ dF;try simp -zeta only[Ap]
 rw[AhC h hs,GI];unfold tr0;dsimp only;rw[e];rfl
theorem At8:Fh N (tr0 N sd)=some (tr1 N sd):=by
 obtain⟨M,rfl⟩: ∃ M,N=M+10:=⟨N - 10,by have:=h.n;omega⟩
 have e0:=tY h (id_eq h hs).2 hs (Int.le_refl 0) (by omega:(0:Int)<256);have e1:=tY h (id_eq h hs).2 hs (by omega:(0:Int)<=1) (by omega:(1:Int)<256);have e2:=(AiY h hs).1;unfold Fh;try simp -zeta only[Ap]
 unfold tr0;dsimp only[List.isEmpty_nil,Bool.not_true,cond_false];rw[Fa];dsimp only[U6];refine(Ed _ rfl).trans ?_;rw[decide_eq_true (by decide:(0:Int)<i64.wrap (1*2 ^ min (IntKind.u64.wrap 1).toNat 64)),cond_true,e0,Dn];refine(Ed _ rfl).trans ?_;rw[show i64.wrap (0+1)=1 from rfl,Fa];dsimp only[U6];refine(Ed _ rfl).trans ?_;rw[decide_eq_true (by decide:(1:Int)<i64.wrap (1*2 ^ min (IntKind.u64.wrap 1).toNat 64)),cond_true,e1,Dn];refine(Ed _ rfl).trans ?_;rw[show i64.wrap (1+1)=2 from rfl,Fa];dsimp only[U6];refine(Ed _ rfl).trans ?_;rw[decide_eq_false (by decide: ¬(2:Int)<i64.wrap (1*2 ^ min (IntKind.u64.wrap 1).toNat 64)),cond_false];dsimp only[U5];rw[Fa];dsimp only[U6];rw[decide_eq_true (by decide:(0:Int)<1),cond_true,Fa];dsimp only[U7];rw[show([]++[pkP (M+10) (idP (M+10) sd) sd 0]++[pkP (M+10) (idP (M+10) sd) sd 1]:List Bs)=[kyP (M+10) sd 0,kyP (M+10) sd 1]from rfl,show((([kyP (M+10) sd 0,kyP (M+10) sd 1]:List Bs).length:Int))=2 from rfl,decide_eq_true (by decide:(0:Int)<i64.wrap ((2:Int).tdiv 2)),cond_true,show i64.wrap (2*0)=0 from rfl,show i64.wrap (0+1)=1 from rfl]
 iterate 7 refine(Ed _ rfl).trans ?_
 show Dj (Jl (M+10) (idP (M+10) sd) 0 0 (kyP (M+10) sd 0) (kyP (M+10) sd 1)) _=_;rw[e2,Dn];kernel_rfl
theorem At9:Fh N (tr1 N sd)=some (tr1 N sd):=rfl
theorem Ak8 (t:TrT) (ht:Fh N t=some (tr1 N sd)) (hv:t.2.1=sd):Je N t=some (pb1 N sd,tr1 N sd):=by unfold Je FP;rw[Dn,hv,ne_nil (by rw[hs];decide)];dsimp only;rw[Bool.not_false,Bool.not_true,cond_false,ht];rfl
theorem AkN {m:Bs} (hm:m.length+64<N):Ij N (pb1 N sd) 0 m=some (dg1 N sd m)/\(dg1 N sd m).length=16:=by
 have hn:=h.n
 obtain⟨e1,e2⟩:=mY (N:=N) (l:=[[77],idP N sd,X3 N sd,b4P 0,m]) ⟨by omega,h.m,by simp;omega,fun s hs'=>by
  have i1:=(id_eq h hs).2;have i2:=(AiY h hs).2;simp only[List.mem_cons,List.not_mem_nil,or_false]at hs';rcases hs' with rfl | rfl | rfl | rfl | rfl
  ·simp;omega
  ·omega
  ·omega
  ·simp [b4P];omega
  ·exact hm⟩
 refine⟨?_,e2⟩;unfold Ij;rw[xO,Dn];show Dj (Gz N [[77],idP N sd,X3 N sd,b4P 0,m]) _=_;rw[e1];rfl
theorem An5 {m:Bs} (hm:m.length+64<N) (l:List (List Bs)) (ht:Fh N (l,sd,idP N sd,1)=some (tr1 N sd)):JD N (l,sd,idP N sd,1) 0 m=some (si1 N sd m,0,tr1 N sd):=by
 have hn:=h.n;have e1:=kZ h hs l (idP N sd);have e2:=Ak8 h hs (l,sd,idP N sd,1) ht rfl;obtain⟨e3,e4⟩:=AkN h hs hm;have e5:=Ak9 h (id_eq h hs).2 hs (Int.le_refl 0) (by omega) e4;have hl:=SL h (id_eq h hs).2 hs 0 (dg1 N sd m);have hk:=Ad8 h hs 1;unfold JD FP;try simp -zeta only[Ap]
 rw[Dn,ne_nil (by rw[hs];decide)];dsimp only;rw[e1];simp (decide:=true) only[Bool.not_false,Bool.not_true,cond_false,cond_true,Option.isSome_some,Bool.true_or,Bool.or_true,Gh,Option.getD_some,Int.lt_irrefl,decide_false];rw[e2,Dn];dsimp only[tr1];rw[beq_self_eq_true,beq_self_eq_true,Gh,Gh];refine(Ed _ rfl).trans ?_;rw[e3,Dn,e5,Dn];dsimp only;rw[show((0:Int) != 0)=false from rfl,cond_false,xO,Dn,Ed _ (decide_eq_true (by rw[hl];simp [b4P]))];obtain⟨M,rfl⟩: ∃ M,N=M+10:=⟨N - 10,by omega⟩
 rw[Fa];dsimp only[U7];rw[decide_eq_true (by decide:(0:Int)<1),cond_true,show DV .xor .i64 0 1=1 by decide +kernel]
 iterate 4 refine(Ed _ rfl).trans ?_
 rw[show(([[kyP (M+10) sd 0,kyP (M+10) sd 1],[X3 (M+10) sd]]:List (List Bs)).getD (0:Int).toNat []).getD (1:Int).toNat []=kyP (M+10) sd 1 from rfl];rw[Ed _ (decide_eq_true (by rw[List.length_append,hl,hk];simp [b4P]))];rw[show i64.wrap (0+1)=1 from rfl,Fa];dsimp only[U7,U5];rw[decide_eq_false (by decide: ¬(1:Int)<1),cond_false];rfl
theorem An3 {m:Bs} (hm:m.length+64<N):Gu N (sg0 N sd) m=some (si1 N sd m,0,sg1 N sd):=by
 have e1:=kZ h hs [] (idP N sd);have e2:=An5 h hs hm [] (At8 h hs);unfold Gu MW Gv;try simp -zeta only[Ap]
 dsimp only[sg0,tr0,Dn,List.headD_cons];rw[ne_nil (by rw[hs];decide),Bool.false_and,cond_false,cond_false,e1,Dn];dsimp only;rw[show(i64.wrap (2 - 0))=2 from rfl,Dn];dsimp only;rw[show((2:Int)==0)=false from rfl,cond_false,List.headD_cons,e2,Dn];rfl
theorem Ap0:Gj N (sg1 N sd)=some (pb1 N sd,sg1 N sd):=by
 have e:=Ak8 h hs (tr1 N sd) (At9 h hs) rfl;unfold Gj Gv;try simp -zeta only[Ap]
 dsimp only[sg1,List.headD_cons];rw[ne_nil (by rw[hs];decide),Bool.false_and,Dn];dsimp only;rw[cond_false,List.headD_cons,e,Dn];dsimp only;rw[beq_self_eq_true,beq_self_eq_true,Gh,Gh];rfl
theorem AfI (m:Bs):(si1 N sd m).length=580:=by have hl:=SL h (id_eq h hs).2 hs 0 (dg1 N sd m);unfold si1;rw[List.length_append,List.length_append,hl,Ad8 h hs];rfl
theorem Aj4 {m:Bs} (hm:m.length+64<N):MF N (pb1 N sd) m (si1 N sd m)=some 0:=by
 have hn:=h.n;obtain⟨e3,e4⟩:=AkN h hs hm;have e5:=Ac3 h (id_eq h hs).2 hs (Int.le_refl 0) (by omega) e4;have hl:=SL h (id_eq h hs).2 hs 0 (dg1 N sd m);have hp:=AiY h hs;have hi:=(id_eq h hs).2;have h4:(b4P 0).length=4:=rfl;have hk:=Ad8 h hs 1
 have hc:G7 N (pb1 N sd)=some 0:=by
  unfold G7 pb1;try simp -zeta only[Ap]
  try dsimp only
  rw[show((List.length (idP N sd):Int) != 16)=false by rw[hi];rfl,show((List.length (X3 N sd):Int) != 16)=false by rw[hp.2];rfl];rfl
 have hsl:=AfI h hs m;have c1:D7 (si1 N sd m) 0 4=b4P 0:=by unfold D7 si1;rw[List.append_assoc,List.take_append_of_le_length (by omega)];rfl
 have c2:D7 (si1 N sd m) 4 564=X5 N (idP N sd) sd 0 (dg1 N sd m):=by unfold D7 si1;rw[List.take_left' (by rw[List.length_append,hl,h4])];exact List.drop_left' h4
 have c3:D7 (si1 N sd m) 564 580=kyP N sd 1:=by unfold D7;rw[List.take_of_length_le (by omega)];unfold si1;exact List.drop_left' (by rw[List.length_append,hl,h4])
 have c4:D7 (kyP N sd 1) 0 16=kyP N sd 1:=by unfold D7;rw[List.take_of_length_le (by omega)];rfl
 have hf:OQ N (si1 N sd m)=some (0,true):=by
  unfold OQ;try simp -zeta only[Ap]
  rw[c1,hsl];obtain⟨M,rfl⟩: ∃ M,N=M+10:=⟨N - 10,by omega⟩
  rfl
 unfold MF;try simp -zeta only[Ap]
 rw[hc,Dn,show((0:Int) != 0)=false from rfl,cond_false,hsl,hf,Dn];dsimp only[pb1];rw[show((((580:Nat):Int)) != i64.wrap (564+i64.wrap (1*16)))=false from rfl,cond_false];refine(Ed _ rfl).trans ?_;rw[decide_eq_false (by decide: ¬(0:Int)>=i64.wrap (1*2 ^ min (IntKind.u64.wrap 1).toNat 64)),cond_false];have e3':Ij N (1,idP N sd,X3 N sd) 0 m=_:=e3;rw[e3',Dn];refine(Ed _ rfl).trans ?_;rw[c2,e5,Dn];dsimp only;rw[show((0:Int) != 0)=false from rfl,cond_false];refine(Ed _ rfl).trans ?_;rw[c3];obtain⟨M,rfl⟩: ∃ M,N=M+10:=⟨N - 10,by omega⟩
 rw[Fa];dsimp only[U6,U4];rw[decide_eq_true (by decide:(0:Int)<1),cond_true,Tt,hk];refine(Ed _ rfl).trans ?_;refine(Ed _ rfl).trans ?_;refine(Ed _ rfl).trans ?_;rw[show(i64.wrap (0*16)).toNat=0 from rfl,show(i64.wrap (i64.wrap (0+1)*16)).toNat=16 from rfl,c4,show(((0:Int).tmod 2)==0)=true from rfl,cond_true];show Dj (Jl (M+10) (idP (M+10) sd) 0 0 (kyP (M+10) sd 0) (kyP (M+10) sd 1)) _=_;rw[hp.1,Dn];dsimp only[U4];rw[Fa];show(bif !(X3 (M+10) sd==X3 (M+10) sd)then _ else _)=_;rw[beq_self_eq_true];rfl
end
end Go.Proofs.YtfgdgdnlglejbaaGreatDoor.Pl
namespace Go.Proofs.YtfgdgdnlglejbaaGreatDoor.Pl
open IntKind (i64)
open Go Vm
def W32 (w:List Int):List Int:=(List.range 8).flatMap fun i=>[IntKind.u8.wrap ((w.getD i 0).fdiv 16777216),IntKind.u8.wrap ((w.getD i 0).fdiv 65536),IntKind.u8.wrap ((w.getD i 0).fdiv 256),IntKind.u8.wrap (w.getD i 0)]
def kF (N:Nat) (t6g:List Int):Option Bs :=
 Dz (X:=Int×List Int) (Y:=(List Int)) (U2 fun t76h l1028672h k8 x9 =>
 bif decide (t76h<(t6g.length:Int))then(chk (decide ((0:Int)<=t76h)) <|
 chk (decide (t76h<(t6g.length:Int))) <|
 chk (decide ((l1028672h.length+4)*2<=140737488355328)) <|
 let y56576:List Int:=l1028672h++([IntKind.u8.wrap ((t6g.getD t76h.toNat 0).fdiv (16777216)),IntKind.u8.wrap ((t6g.getD t76h.toNat 0).fdiv (65536)),IntKind.u8.wrap ((t6g.getD t76h.toNat 0).fdiv (256)),IntKind.u8.wrap (t6g.getD t76h.toNat 0)]:List Int)
 k8 (i64.wrap (t76h+(1:Int)),y56576))
 else(x9 l1028672h))
 N (0,([]:List Int)) (fun l1032768i =>
 chk (List.all l1032768i isByte) <|
 some (List.map Vm.byteOf l1032768i))
def xC:List Int:=[1779033703,3144134277,1013904242,2773480762,1359893119,2600822924,528734635,1541459225]
def blk4 (a b c d:UInt8):Bs:=[115,101,101,100,a,b,c,d,128]++List.replicate 54 0++[64]
theorem AcB {α :Type} {b:Bool} {x y: α} (h:b=true):(bif b then x else y)=x:=by rw[h];rfl
theorem AcA {α :Type} {b:Bool} {x y: α} (h:b=false):(bif b then x else y)=y:=by rw[h];rfl
theorem Ati {α β ρ :Type} (f: α -> β -> ρ) (a: α) (b: β):U2 f (a,b)=f a b:=rfl
theorem ArT {α ρ :Type} [Inhabited α] {x y:Option α} {f g: α ->Option ρ} (h:x=y) (hf: ∀ r,f r=g r):Dj x f=Dj y g:=by rw[h,funext hf]
theorem Alv {α β γ δ ρ :Type} (f: α -> β -> γ -> δ -> ρ) (a: α) (b: β) (k: γ) (x: δ):U2 f (a,b) k x=f a b k x:=rfl
theorem Atj {α β ε γ δ ρ :Type} (f: α -> β -> ε -> γ -> δ -> ρ) (a: α) (b: β) (c: ε) (k: γ) (x: δ):U3 f (a,b,c) k x=f a b c k x:=rfl
def pd4:List Int:=[128]++List.replicate 54 0++[64]
theorem Av4 (M:Nat) (a b c d:UInt8):cZ (M+300) [[115,101,101,100],[a,b,c,d]]=Dj (Rz (M+300) xC (blk4 a b c d)) (kF (M+300)):=by
 unfold cZ;try simp -zeta only[Ap]
 generalize Rz (M+300)=R;refine((?h1: ∀ K:Bs->Option Bs,Dz _ (M+300) (([]:Bs),(0:Int)) K=K [115,101,101,100,a,b,c,d]) _).trans ?_
 case h1 =>
  intro K
  iterate 2
   refine(Fa _ _ _ _).trans ?_;refine(Alv _ _ _ _ _).trans ?_;refine(AcB (by kernel_rfl)).trans ?_
   iterate 3 refine(Ed _ (by kernel_rfl)).trans ?_
  refine(Fa _ _ _ _).trans ?_;refine(Alv _ _ _ _ _).trans ?_;exact(AcA (by kernel_rfl)).trans rfl
 rw[Tt];rw[show(i64.wrap (64 - (i64.wrap ((([115,101,101,100,a,b,c,d]:Bs).length:Int)+9)).tmod 64)==64)=false by kernel_rfl,cond_false];rw[show i64.wrap (64 - (i64.wrap ((([115,101,101,100,a,b,c,d]:Bs).length:Int)+9)).tmod 64)=47 by kernel_rfl];refine(Ati _ _ _).trans ?_
 iterate 5 refine(Ed _ (by kernel_rfl)).trans ?_
 refine((?h2: ∀ K:List Int×List Int->Option Bs,Dz _ (M+300) ((0:Int),xC,_) K=K (xC,pd4)) _).trans ?_
 case h2 =>
  intro K
  iterate 8
   refine(Fa _ _ _ _).trans ?_;refine(Atj _ _ _ _ _ _).trans ?_;refine(AcB (by kernel_rfl)).trans ?_
   iterate 4 refine(Ed _ (by kernel_rfl)).trans ?_
  refine(Fa _ _ _ _).trans ?_;refine(Atj _ _ _ _ _ _).trans ?_;refine(AcA (by kernel_rfl)).trans ?_;exact congrArg (fun l=>K (xC,l)) (of_decide_eq_true (by kernel_rfl))
 refine(Ati _ _ _).trans ?_
 iterate 2 refine(Ed _ (by kernel_rfl)).trans ?_
 refine((?h3: ∀ K:List Int->Option Bs,Dz _ (M+300) (xC,(0:Int)) K=Dj (R xC (blk4 a b c d)) K) _).trans ?_
 case h3 =>
  intro K;refine(Fa _ _ _ _).trans ?_;refine(Alv _ _ _ _ _).trans ?_;refine(AcB (by kernel_rfl)).trans ?_
  iterate 3 refine(Ed _ (by kernel_rfl)).trans ?_
  refine ArT (congrArg (R xC) ?_) fun r=> ?_
  ·rfl
  ·refine(Fa _ _ _ _).trans ?_;refine(Alv _ _ _ _ _).trans ?_;exact AcA (by kernel_rfl)
 rfl
theorem Auv (M:Nat) (a b c d:UInt8):((Rz (M+300) xC (blk4 a b c d)).map List.length)=some 8:=by kernel_rfl
theorem kF8 (M:Nat) (a b c d e f g h:Int):kF (M+300) [a,b,c,d,e,f,g,h]=chk (List.all (W32 [a,b,c,d,e,f,g,h]) isByte) (some (List.map Vm.byteOf (W32 [a,b,c,d,e,f,g,h]))):=by kernel_rfl
theorem Ajk (M:Nat) (p:Int): ∃ s,Jk (M+300) p=some s/\s.length=32:=by
 have e:oN (M+300) p=some (b4P p):=by
  unfold oN;try simp -zeta only[Ap]
  rw[Ed _ (by simp [MQ])];rfl
 unfold Jk;rw[e,Dn];obtain⟨a,b,c,d,hb⟩: ∃ a b c d,b4P p=[a,b,c,d]:=⟨_,_,_,_,rfl⟩
 rw[hb,Av4];obtain⟨w,hw,hl⟩:=Option.map_eq_some_iff.1 (Auv M a b c d);rw[hw,Dn]
 match w,hl with
 | [a,b,c,d,e,f,g,h],_ =>rw[kF8,Ed _ (by simp [W32,MQ,List.range_succ]),Dn];exact⟨_,rfl,by simp [W32,List.range_succ]⟩
abbrev Crt:Type:=Bs×Bs×Int×List (List Att)×List (List Att)×Int×Int×Int×Bs×Bs×Bool×Bool×Int×Int×List Bs×List Bs×List (Bs×Bs)×Int×Int×Int×List Gn×Bool×List Gn×List Gn×Bs×Bs×List Pt×List Pt×List Ex×Bs
structure AsX (se:Int) (is su:List (List Att)) (nb nf kh:Int) (ki kr:Bs) (x:Info):Prop where
 ne:is≠ []
 tt:nb<=nf
 se:1<=se/\se<=300
 is:okN is
 su:okN su
 nb:nb∈Qr
 nf:nf∈Qr
 kh:0<=kh/\kh<9
 ki:ki.length=16
 kr:kr.length=16
 x:OkI x
structure Aln (se:Int) (is z:List (List Att)) (nb nf kh:Int) (ki kr:Bs) (y:Info):Prop extends AsX se is z nb nf kh ki kr y where
 cs:y.2.1=true->z≠ []
def AsY:Crt->Prop
 | (_,_,se,is,su,nb,nf,kh,ki,kr,hb,ca,pl,us,pu,po,ma,re,im,ia,na,hc,pe,ex,sk,ak,pt,fr,un,_)=>Aln se is su nb nf kh ki kr (hb,ca,pl,us,pu,po,ma,re,im,ia,na,hc,pe,ex,sk,ak,pt,fr,un)
section
variable (N:Nat) (hN:1048700<N) {L:List Int} (hL:L.length<=9223372036854775807)
include hN hL
theorem Aqp {d:List Int×Int} (hd:EF L d):Ends (fun r=>((0<=r.1.1/\r.1.1<9)/\r.1.2.1.length=16/\r.1.2.2.length=16)/\EF L r.2) (nV N d):=by
 unfold nV;try simp only[clR]
 refine DN (nx N hL hd 50 (by omega) (by omega)) ?_;rintro ⟨r,e⟩ ⟨h0,h1,h2⟩;dsimp only at h0 h1 h2 ⊢;obtain⟨s,e2,hs⟩: ∃ s,Jk N r=some s/\s.length=32:=by have:=Ajk (N - 300) r;rwa [show N - 300+300=N by omega]at this
 rw[e2,Dn];refine DN (nx N hL h2 9 (by omega) (by omega)) ?_;rintro ⟨r,e⟩ ⟨h0,h1,h2⟩;dsimp only at h0 h1 h2 ⊢;refine DC (decide_eq_true (by omega)) (DC (decide_eq_true (by omega)) (EK ⟨⟨⟨h0,h1⟩,?_,?_⟩,h2⟩))
 ·dsimp only;unfold D7;rw[List.length_drop,List.length_take];omega
 ·dsimp only;unfold D7;rw[List.length_drop,List.length_take];omega
theorem AnO {d:List Int×Int} (hd:EF L d):Ends (fun r=>AsY r.1/\EF L r.2) (Ld N d):=by
 unfold Ld;try simp only[clR]
 refine DN (nx N hL hd 300 (by omega) (by omega)) ?_;rintro ⟨se,d1⟩ ⟨s0,s1,hd⟩;dsimp only at s0 s1 hd ⊢;refine DN (nx N hL hd 16 (by omega) (by omega)) ?_;rintro ⟨q,d1⟩ ⟨q0,q1,hd⟩;dsimp only at q0 q1 hd ⊢;have aut1: ∀ v,(∃ j:Nat,j<16/\v=aut j)->okN v/\v≠ []:=fun v h=>by obtain⟨j,hj,rfl⟩:=h;have A:=AhN (N:=N) (by omega) hj;exact⟨A.ok,A.ne⟩
 refine DN (Agh (Y3 N (by omega) q0 q1) aut1) fun is ⟨his,hne⟩=> ?_;refine DN (Af2 N (by omega) hL hd) ?_;rintro ⟨su,d1⟩ ⟨hsu,hd⟩;dsimp only at hsu hd ⊢;refine DN (Alg N hL hd) ?_;rintro ⟨nb,d1⟩ ⟨hnb,hd⟩;dsimp only at hnb hd ⊢;refine DN (Alg N hL hd) ?_;rintro ⟨nf,d1⟩ ⟨hnf,hd⟩;dsimp only at hnf hd ⊢;refine DN (Aqp N hN hL hd) ?_;rintro ⟨⟨kh,ki,kr⟩,d1⟩ ⟨⟨hkh,hki,hkr⟩,hd⟩;dsimp only at hkh hki hkr hd ⊢;refine DN (Ass N (by omega) hL hd) ?_;rintro ⟨⟨hb,ca,pl,us,pu,po,ma,re,im,ia,na,hc,pe,ex,sk,ak,pt,fr,un⟩,a,b⟩ ⟨hx,hd⟩;dsimp only at hd ⊢;rw[w64 (by omega) (by omega)];refine bC (P:=fun y=>EF L (y.1,y.2.1)/\AsX y.2.2.1 y.2.2.2.1 y.2.2.2.2.1 y.2.2.2.2.2.1 y.2.2.2.2.2.2.1 y.2.2.2.2.2.2.2.1 y.2.2.2.2.2.2.2.2.1 y.2.2.2.2.2.2.2.2.2.1 y.2.2.2.2.2.2.2.2.2.2) (fun j hj=>DX (fun ht=>hj _ ⟨hd,⟨hne,by have:=of_decide_eq_true ht;dsimp only;omega,by dsimp only;omega,his,hsu,hnf,hnb,hkh,hki,hkr,hx⟩⟩) (fun ht=>hj _ ⟨hd,⟨hne,by have:=of_decide_eq_false ht;dsimp only;omega,by dsimp only;omega,his,hsu,hnb,hnf,hkh,hki,hkr,hx⟩⟩)) ?_;clear hx his hsu hnb hnf hkh hki hkr hd hne;rintro ⟨a,b,se,is,su,nb,nf,kh,ki,kr,hb,ca,pl,us,pu,po,ma,re,im,ia,na,hc,pe,ex,sk,ak,pt,fr,un⟩ ⟨hd,hP⟩;dsimp only at hd hP;dsimp only[U29];try simp only[clR]
 refine DX (fun _=>DN (Agh (Y3 N (by omega) (k:=1) (by omega) (by omega)) aut1) fun q ⟨hq,hne⟩=>EK ⟨(show Aln _ _ _ _ _ _ _ _ _ from⟨{hP with su:=hq},fun _=>hne⟩),hd⟩) (fun hs=>EK ⟨(show Aln _ _ _ _ _ _ _ _ _ from⟨hP,fun hc he=> ?_⟩),hd⟩);dsimp only at hc;rw[hc,he]at hs;cases hs
end
end Go.Proofs.YtfgdgdnlglejbaaGreatDoor.Pl
namespace Go.Proofs.YtfgdgdnlglejbaaGreatDoor.Pl
open IntKind (i64)
open Go Vm
def PL:Bs:=(Hq 300).getD []
def PM:Bs:=PL.drop 2
def Atm (M:Nat):Bool:=Hq (M+300)==some PL&&(dD (M+300)==some PL&&(Ih (M+300) (Ea 48 PM)==some 0&&(PL==Sp.elem 48 PM&&(decide (PM.length<=30)&&Sp.within (PM.length+1) 3 PM==0))))
theorem ArL (M:Nat):Atm M=true:=by kernel_rfl
structure Alk (N:Nat):Prop where
 enc:Hq N=some PL
 Ana:dD N=some PL
 chk:Ih N (Ea 48 PM)=some 0
 eq:PL=Sp.elem 48 PM
 len:PM.length<=30
 nest:QW 3 PM
theorem O9 {N:Nat} (hN:1048578<N):Alk N:=by obtain⟨M,rfl⟩:=ofM hN;have h:=ArL M;unfold Atm at h;simp only[Bool.and_eq_true,beq_iff_eq,decide_eq_true_eq]at h;obtain⟨h1,h2,h3,h4,h5,h6⟩:=h;exact⟨h1,h2,h3,h4,h5,h6⟩
theorem Abs {N:Nat} (h:Alk N):PL.length<=35:=by have:=h.len;have:=Sp.DF 48 PM;rw[h.eq];omega
theorem Ae2 {N:Nat} (h:Alk N) {d:Nat} (hd:d<=2):Par d PL [Ea 48 PM]:=by rw[h.eq];exact GM (FV (by decide) (by decide) (by have:=h.len;omega)) (by omega) (AkV (by omega) h.nest)
section
variable {N:Nat} (hN:1048578<N) {x:Li} (h:OkL x)
include hN h
end
