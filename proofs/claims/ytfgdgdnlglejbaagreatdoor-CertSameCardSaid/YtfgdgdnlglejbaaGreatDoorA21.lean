import Derived.Test.YtfgdgdnlglejbaaGreatDoorA20
set_option linter.all false
namespace Go.Proofs.YtfgdgdnlglejbaaGreatDoor.Pl
open IntKind (i64 u8 u32 u64)
open Go Vm
abbrev Rw:Type:=Bs×Int×Nat×Nat×Nat
def zRw:Rw:=([],0,0,0,0)
def Ayp (M:Nat):((List.range 13).map fun k=>Pj (M+300) (rwL.getD k zRw).1)=(List.range 13).map fun k=>some (rwL.getD k zRw,true):=by kernel_rfl
def A0p (M:Nat):([(unX true).1,unY.1].map fun k=>Pj (M+300) k)=[(unX true).1,unY.1].map fun _=>some (zRw,false):=by kernel_rfl
def AxZ:((List.range 13).all fun k=>(bif (rwL.getD k zRw).2.1==1 then !((rwL.getD k zRw).2.1==1||(rwL.getD k zRw).1==[50,46,53,46,50,57,46,51,51])else false)==false&&(bif (rwL.getD k zRw).2.1==0 then((rwL.getD k zRw).2.1==1||(rwL.getD k zRw).1==[50,46,53,46,50,57,46,51,51])else false)==false&&ZI.contains (rwL.getD k zRw).1)=true:=by kernel_rfl
def Avy {N:Nat} (hN:1048578<N) (j:Info) (l:List Ex) (x:Ex) (row:Rw) (hv:OM N x.1=some true) (hl:l.length<=1048576) (B:l.any (fun y=>y.1==x.1)=false) (hf:Pj N x.1=some (row,true))
 (h1:(bif row.2.1==1 then !x.2.1 else false)=false) (h2:(bif row.2.1==0 then x.2.1 else false)=false):Ol N j l x=Jt (AaI N row.2.2.2.2 (x.2.2,j)) fun r=>some (r.1,r.2):=by
 obtain⟨hb',C,D,F,G,H,I,J,K,L,O,hc,P,Q,R,S,T,U,V⟩:=j;obtain⟨id,c,v⟩:=x;dsimp only at hv B hf h1 h2 ⊢;unfold Ol;try simp -zeta only[Ap]
 rw[hv,Jy];simp only[EK,cond_false]
 refine(AsM (mk:=fun i=>((i:Int),hb',C,D,F,J,K,L,O,hc,P,Q,R,S,T,U,G,H,I,V,id,c,v)) l ([],false,[]) (fun y=>y.1==id) (some (10,(hb',C,D,F,G,H,I,J,K,L,O,hc,P,Q,R,S,T,U,V)))
  (Jt (AaI N row.2.2.2.2 (v,(hb',C,D,F,G,H,I,J,K,L,O,hc,P,Q,R,S,T,U,V))) fun r=>some (r.1,r.2)) ?_ ?_ N (by omega)).trans ?_
 .intro i hi k;dsimp only[U23];simp (disch:=first | assumption | omega) only[JO,KI]
 .intro k;dsimp only[U23];rw[AgT (by omega),cond_false];dsimp only[U22];rw[hf,Jy];simp only[EK,cond_false,oU];rw[h1];simp only[cond_false,EY,GK,Hw,L8,EK,EO,FM,Ie,cond_true,IK];rw[h2];cases row.2.1==1<;>cases row.2.1==0<;>rfl
 .rw[B];rfl
def Azj {N:Nat} (hN:1048578<N) (hb' C:Bool) (D F:Int) (G H:List Bs) (I:List (Bs×Bs)) (J K L:Int) (O:List Gn) (hc:Bool) (P Q:List Gn) (R S:Bs) (T U:List Pt) (V:List Ex) (l:List Ex) (x:Ex) (row:Rw) (hv:OM N x.1=some true) (hl:l.length<=1048576) (B:l.any (fun y=>y.1==x.1)=false) (hf:Pj N x.1=some (row,false)) (hu:V.length<=100)
 (ht:TB N x.2.2=some 0):Ol N (hb',C,D,F,G,H,I,J,K,L,O,hc,P,Q,R,S,T,U,V) l x=some (0,(hb',C,D,F,G,H,I,J,K,L,O,hc,P,Q,R,S,T,U,V++[x])):=by
 obtain⟨id,c,v⟩:=x;dsimp only at hv B hf ht ⊢;unfold Ol;try simp -zeta only[Ap]
 rw[hv,Jy];simp only[EK,cond_false]
 refine(AsM (mk:=fun i=>((i:Int),hb',C,D,F,J,K,L,O,hc,P,Q,R,S,T,U,G,H,I,V,id,c,v)) l ([],false,[]) (fun y=>y.1==id) (some (10,(hb',C,D,F,G,H,I,J,K,L,O,hc,P,Q,R,S,T,U,V)))
  (some (0,(hb',C,D,F,G,H,I,J,K,L,O,hc,P,Q,R,S,T,U,V++[(id,c,v)]))) ?_ ?_ N (by omega)).trans ?_
 .intro i hi k;dsimp only[U23];simp (disch:=first | assumption | omega) only[JO,KI]
 .intro k;dsimp only[U23];rw[AgT (by omega),cond_false];dsimp only[U22];rw[hf,Jy];simp only[EY,cond_true];rw[Dp (by omega),L8,ht,Jy]
 .rw[B];rfl
def tk (N:Nat):List Ex->Info->List Ex->Option Info
 | _,j,[]=>some j
 | p,j,x::r=>match Ol N j p x with
  | some (e,j')=>if e=0 then tk N (p++[x]) j' r else none
  | none=>none
def Ats {N:Nat} {p:List Ex} {j jf:Info} {x:Ex} {r:List Ex} (h:tk N p j (x::r)=some jf): ∃ j',Ol N j p x=some (0,j')/\tk N (p++[x]) j' r=some jf:=by
 unfold tk at h;cases hc:Ol N j p x with
 | none=>rw[hc]at h;cases h
 | some v =>
  obtain⟨e,j'⟩:=v;rw[hc]at h;dsimp only at h;by_cases he:e=0
  .subst he;rw[Dt rfl]at h;exact⟨j',rfl,h⟩
  .rw[Du he]at h;cases h
def Ar4 {N:Nat} {p:List Ex} {j j':Info} {x:Ex} (h:Ol N j p x=some (0,j')) (r:List Ex):tk N p j (x::r)=tk N (p++[x]) j' r:=by rw[tk,h];rfl
def Ax0 {N:Nat} {b:List Ex}: ∀ {a p:List Ex} {j j':Info},tk N p j a=some j'->tk N p j (a++b)=tk N (p++a) j' b:=by
 intro a
 induction a with
 | nil=>intro p j j' h;rw[tk]at h;injection h with h;subst h;rw[DL];rfl
 | cons x a ih =>intro p j j' h;obtain⟨j2,h1,h2⟩:=Ats h;rw[List.cons_append,Ar4 h1,ih h2,Ed];rfl
abbrev StT:Type:=Bool×Bool×Int×Int×Int×Int×Int×List Gn×Bool×List Gn×List Gn×Bs×Bs×List Pt×List Pt×List Ex×List (Bs×Bs)×List Bs×List Bs
def stI:StT->Info
 | (B,C,D,F,J,K,L,O,hc,P,Q,R,S,T,U,V,I,H,G)=>(B,C,D,F,G,H,I,J,K,L,O,hc,P,Q,R,S,T,U,V)
def none0:Info:=(false,false,-1,0,[],[],[],-1,-1,-1,[],false,[],[],[],[],[],[],[])
def An6 {N:Nat} (hN:1048578<N) {l:List Ex} {j:Info} (hl:l.length<=24) (h:tk N [] none0 l=some j) (hc:P9 N j=some 0):Rt N l=some (j,0):=by
 refine of1 ?_;unfold Rt;try simp -zeta only[Ap]
 rw[Auh (by omega),cond_false,show Wu N=some none0 from rfl,Jy];refine Lj (fun(x:Int×StT)=>0<=x.1/\x.1<=(l.length:Int)/\tk N (l.take x.1.toNat) (stI x.2) (l.drop x.1.toNat)=some j) (fun x=>((l.length:Int) - x.1).toNat) ?_ N _ ⟨by dsimp only;omega,by dsimp only;omega,h⟩ (by dsimp only;omega);rintro ⟨i,B,C,D,F,J,K,L,O,hc',P,Q,R,S,T,U,V,I,H,G⟩ ⟨i0,i1,ht⟩ k hk;dsimp only at i0 i1 ht hk;dsimp only[U20];unfold stI at ht;refine JF (fun hi=> ?_) (fun hi=> ?_)
 .have hi:=D6 hi;have e1:(i+1).toNat=i.toNat+1:=by omega
  refine JC (Dp i0) (JC (Dp hi) (JC (Dp i0) (JC (Dp i1) ?_)));rw[AnE];rw[EI (show i.toNat<l.length by omega),<- getD_lt l i.toNat ([],false,[]) (by omega)]at ht;obtain⟨j',h1,h2⟩:=Ats ht;rw[h1,Jy];dsimp only;rw[show((0:Int) != 0)=false from rfl,cond_false];rw[show l.take i.toNat++[l.getD i.toNat ([],false,[])]=l.take (i.toNat+1) by rw[F5,D9 (by omega),getD_lt l i.toNat _ (by omega)];rfl]at h2;refine hk _ ⟨?_,?_,?_⟩ ?_
  .dsimp only;rw[w64 (by omega) (by omega)];omega
  .dsimp only;rw[w64 (by omega) (by omega)];omega
  .dsimp only;rw[w64 (by omega) (by omega),e1];exact h2
  .dsimp only;rw[w64 (by omega) (by omega)];omega
 .have hi:=EL hi;dsimp only[U19];rw[show i.toNat=l.length by omega,FC,tk]at ht;injection ht with ht;subst ht;rw[hc,Jy];exact KG rfl
def pI (x:Info) (k:Nat):Info :=
 match x with
 | (B,C,D,F,G,H,I,J,K,L,O,hc,P,Q,R,S,T,U,_) =>
  (bif Nat.blt 0 k then B else false,bif Nat.blt 0 k then C else false,bif Nat.blt 0 k then D else -1,bif Nat.blt 1 k then F else 0,bif Nat.blt 2 k then G else [],bif Nat.blt 3 k then H else [],bif Nat.blt 4 k then I else [],bif Nat.blt 5 k then J else -1,bif Nat.blt 5 k then K else -1,bif Nat.blt 6 k then L else -1,
   bif Nat.blt 7 k then O.map gnK else [],bif Nat.blt 8 k then hc else false,bif Nat.blt 8 k then P.map gnK else [],bif Nat.blt 8 k then Q.map gnK else [],bif Nat.blt 9 k then R else [],bif Nat.blt 10 k then S else [],bif Nat.blt 11 k then T.map ptK else [],bif Nat.blt 12 k then U.map ptK else [],[])
def Abc {α :Type} {l:List α} (h:decide (((l.length:Nat):Int)>0)=false):l=[]:=by
 cases l with
 | nil=>rfl
 | cons a r=>rw[List.length_cons]at h;have:=EL h;omega
def AyR {x:Info} (h:OkI x) (i:Nat) (hi:i<13) (hh:((Nh x).getD i zR).1=false):pI x (i+1)=pI x i:=by
 have hb2:=h.bas;have hc2:=h.con;obtain⟨B,C,D,F,G,H,I,J,K,L,O,hc,P,Q,R,S,T,U,V⟩:=x;dsimp only at hb2 hc2;clear h;have:i=0\/i=1\/i=2\/i=3\/i=4\/i=5\/i=6\/i=7\/i=8\/i=9\/i=10\/i=11\/i=12:=by omega
 rcases this with rfl | rfl | rfl | rfl | rfl | rfl | rfl | rfl | rfl | rfl | rfl | rfl | rfl
 .have hh:B=false:=hh;rcases hb2 with ⟨a,_⟩ | ⟨_,b,c⟩
  .rw[hh]at a;cases a
  .rw[hh,b,c];rfl
 .have hh:(F != 0)=false:=hh;rw[show F=0 by simpa using hh];rfl
 .have hh:=Abc hh;rw[hh];rfl
 .have hh:=Abc hh;rw[hh];rfl
 .have hh:=Abc hh;rw[hh];rfl
 .have hh:(J != -1||K != -1)=false:=hh;rw[Bool.or_eq_false_iff]at hh;rw[show J= -1 by simpa using hh.1,show K= -1 by simpa using hh.2];rfl
 .have hh:(L != -1)=false:=hh;rw[show L= -1 by simpa using hh];rfl
 .have hh:=Abc hh;rw[hh];rfl
 .have hh:hc=false:=hh;rcases hc2 with ⟨_,b,c⟩ | ⟨a,_⟩
  .rw[hh,b,c];rfl
  .rw[hh]at a;cases a
 .have hh:(!(R==[]))=false:=hh;rw[show R=[] by simpa using hh];rfl
 .have hh:(!(S==[]))=false:=hh;rw[show S=[] by simpa using hh];rfl
 .have hh:=Abc hh;rw[hh];rfl
 .have hh:=Abc hh;rw[hh];rfl
def via {α :Type} {a b c d: α} (h1:a=b) (h:b=c) (h2:c=d):a=d:=h1.trans (h.trans h2)
def AvK {p r:List Ex} {e:Ex} (h:(p++e::r).Pairwise fun a b=>a.1≠b.1):p.any (fun y=>y.1==e.1)=false:=by rw[GH];intro y hy he;exact(GV.1 h).2.2 y hy e Dy (EG.1 he)
section
variable {N:Nat} (hN:1048578<N)
include hN
theorem A0L {x:Info} (h:OkI x) (i:Nat) (hi:i<13) (hh:((Nh x).getD i zR).1=true):AaI N (rwL.getD i zRw).2.2.2.2 (((Nh x).getD i zR).2.2.2,pI x i)=some (0,pI x (i+1)):=by
 obtain⟨B,C,D,F,G,H,I,J,K,L,O,hc,P,Q,R,S,T,U,V⟩:=x;have:i=0\/i=1\/i=2\/i=3\/i=4\/i=5\/i=6\/i=7\/i=8\/i=9\/i=10\/i=11\/i=12:=by omega
 rcases this with rfl | rfl | rfl | rfl | rfl | rfl | rfl | rfl | rfl | rfl | rfl | rfl | rfl
 .have hh:B=true:=hh;rcases h.bas with ⟨_,a⟩ | ⟨a,_⟩
  .subst hh;exact via (by kernel_rfl) (A0c hN a (pI (true,C,D,F,G,H,I,J,K,L,O,hc,P,Q,R,S,T,U,V) 0)) (by kernel_rfl)
  .dsimp only at a;rw[hh]at a;cases a
 .exact via (by kernel_rfl) (A0W hN h.us.1 h.us.2 (by have hh:(F != 0)=true:=hh;simpa using hh) (pI (B,C,D,F,G,H,I,J,K,L,O,hc,P,Q,R,S,T,U,V) 1)) (by kernel_rfl)
 .exact via (by kernel_rfl) (A1W hN h.pu (ne_of hh) (pI (B,C,D,F,G,H,I,J,K,L,O,hc,P,Q,R,S,T,U,V) 2) rfl) (by kernel_rfl)
 .exact via (by kernel_rfl) (A1T hN h.po (ne_of hh) (pI (B,C,D,F,G,H,I,J,K,L,O,hc,P,Q,R,S,T,U,V) 3) rfl) (by kernel_rfl)
 .exact via (by kernel_rfl) (A1I hN h.ma (ne_of hh) (pI (B,C,D,F,G,H,I,J,K,L,O,hc,P,Q,R,S,T,U,V) 4) rfl) (by kernel_rfl)
 .have hh:(J != -1||K != -1)=true:=hh;exact via (by kernel_rfl) (A1F hN (Ji.2 ⟨Eg.2 ⟨J,h.re,DJ.2 ⟨K,h.im,rfl⟩⟩,hh⟩) (pI (B,C,D,F,G,H,I,J,K,L,O,hc,P,Q,R,S,T,U,V) 5)) (by kernel_rfl)
 .have hh:=ne1 hh;have l1:=h.ia;dsimp only at l1 hh;exact via (by kernel_rfl) (A2H hN (by omega) l1.2 (pI (B,C,D,F,G,H,I,J,K,L,O,hc,P,Q,R,S,T,U,V) 6)) (by kernel_rfl)
 .exact via (by kernel_rfl) (A0A hN h.na (ne_of hh) (pI (B,C,D,F,G,H,I,J,K,L,O,hc,P,Q,R,S,T,U,V) 7)) (by kernel_rfl)
 .have hh:hc=true:=hh;subst hh;exact via (by kernel_rfl) (A1x hN (Akn h rfl) (pI (B,C,D,F,G,H,I,J,K,L,O,true,P,Q,R,S,T,U,V) 8)) (by kernel_rfl)
 .exact via (by kernel_rfl) (A2m hN (s:=R) (by have:=Ag8 h.sk;dsimp only at this ⊢;omega) (by have hh:(!(R==[]))=true:=hh;simpa using hh) (pI (B,C,D,F,G,H,I,J,K,L,O,hc,P,Q,R,S,T,U,V) 9)) (by kernel_rfl)
 .exact via (by kernel_rfl) (A1s hN (s:=S) (by have:=Aaf h.ak;dsimp only at this ⊢;omega) (by have hh:(!(S==[]))=true:=hh;simpa using hh) (pI (B,C,D,F,G,H,I,J,K,L,O,hc,P,Q,R,S,T,U,V) 10)) (by kernel_rfl)
 .exact via (by kernel_rfl) (AyG hN (Abj h.pt hh) (pI (B,C,D,F,G,H,I,J,K,L,O,hc,P,Q,R,S,T,U,V) 11)) (by kernel_rfl)
 .exact via (by kernel_rfl) (A0u hN (Abj h.fr hh) (pI (B,C,D,F,G,H,I,J,K,L,O,hc,P,Q,R,S,T,U,V) 12)) (by kernel_rfl)
theorem A0S {x:Info} (h:OkI x): ∀ k,k<=13->tk N [] none0 (((Nh x).take k).flatMap KN)=some (pI x k):=by
 have hx:=Ag4 x;have hnd:=Aqg h;have hll:=AgW h;intro k
 induction k with
 | zero =>intro _;obtain⟨B,C,D,F,G,H,I,J,K,L,O,hc,P,Q,R,S,T,U,V⟩:=x;rfl
 | succ k ih =>
  intro hk;have htk:(Nh x).take (k+1)=(Nh x).take k++[(Nh x).getD k zR]:=by rw[F5,D9 (by omega),getD_lt _ _ zR (by omega)];rfl
  have hsp:Nh x=(Nh x).take k++((Nh x).getD k zR::(Nh x).drop (k+1)):=by rw[getD_lt _ _ zR (by omega),<- EI,GN]
  rw[htk,GX,List.flatMap_singleton,Ax0 (ih (by omega)),List.nil_append]
  have hex:exI x=((Nh x).take k).flatMap KN++(KN ((Nh x).getD k zR)++(((Nh x).drop (k+1)).flatMap KN++x.2.2.2.2.2.2.2.2.2.2.2.2.2.2.2.2.2.2)):=by
   unfold exI
   conv=>lhs;rw[hsp]
   rw[GX,FW,Ed,Ed]
  cases hh:((Nh x).getD k zR).1 with
  | false =>rw[show KN ((Nh x).getD k zR)=[] by unfold KN;rw[hh];rfl,tk,AyR h k (by omega) hh]
  | true =>
   have hg:=A0L hN h k (by omega) hh;have hcr:=AyQ x k (by omega);rw[show KN ((Nh x).getD k zR)=[((Nh x).getD k zR).2] by unfold KN;rw[hh];rfl]at hex ⊢;rw[hex]at hnd hll;obtain⟨c1,c2⟩:=Prod.mk.inj hcr;have hq:=D7.1 AxZ k (ES.2 (by omega));simp only[Dw,EG,FT]at hq;obtain⟨⟨q1,q2⟩,q3⟩:=hq;have hfi:Pj N (rwL.getD k zRw).1=some (rwL.getD k zRw,true):=by obtain⟨M,rfl⟩:=ofM hN;have e:=AaX (Ayp M) (a:=k) (ES.2 (by omega));exact e
   unfold zRw at *
   rw[c2]at q1 q2;have hv:=(Qm hN q3).val;rw[c1]at hfi hv;have ht:=Avy hN (pI x k) (((Nh x).take k).flatMap KN) ((Nh x).getD k zR).2 (rwL.getD k ([],0,0,0,0)) hv (by rw[Dv]at hll;omega) (AvK (r:=(((Nh x).drop (k+1)).flatMap KN++x.2.2.2.2.2.2.2.2.2.2.2.2.2.2.2.2.2.2)) hnd) hfi q1 q2;rw[hg,Jy]at ht;rw[Ar4 ht];rfl
theorem A2Q (B C:Bool) (D F:Int) (G H:List Bs) (I:List (Bs×Bs)) (J K L:Int) (O:List Gn) (hc:Bool) (P Q:List Gn) (R S:Bs) (T U:List Pt): ∀(l p u:List Ex),(∀ e∈l,e.1∈ZI/\Pj N e.1=some (zRw,false)/\TB N e.2.2=some 0)->(p++l).Pairwise (fun a b=>a.1≠b.1)->(p++l).length<=1000->(u++l).length<=100 ->
 tk N p (B,C,D,F,G,H,I,J,K,L,O,hc,P,Q,R,S,T,U,u) l=some (B,C,D,F,G,H,I,J,K,L,O,hc,P,Q,R,S,T,U,u++l):=by
 intro l
 induction l with
 | nil=>intro p u _ _ _ _;rw[DL];rfl
 | cons e l ih =>intro p u h1 h2 h3 h4;obtain⟨a,b,c⟩:=h1 e Dy;rw[Dv,List.length_cons]at h3 h4;rw[Ar4 (Azj hN B C D F G H I J K L O hc P Q R S T U u p e zRw (Qm hN a).val (by omega) (AvK h2) b (by omega) c),ih _ _ (fun e he=>h1 e (D5 _ he)) (by rw[Ed];exact h2) (by rw[Dv,Dv,List.length_singleton];omega) (by rw[Dv,Dv,List.length_singleton];omega),Ed];rfl
theorem Aig {x:Info} (h:OkI x):Rt N (exI x)=some (inK x,0):=by
 have hck:=Atc hN (Azv hN h);have hll:=AgW h;have hr:=A0S hN h 13 (by omega);have hnd:=Aqg h;have hck2:=Az3 hN h;have hal:=AaK hN h;have hxl:=Ag4 x;have hun:=h.un;rw[<- hxl,Ez]at hr;refine An6 hN (by omega) ?_ hck;unfold exI at hll hnd hck2 hal ⊢;rw[Ax0 hr];obtain⟨B,C,D,F,G,H,I,J,K,L,O,hc,P,Q,R,S,T,U,V⟩:=x;refine A2Q hN B C D F G H I J K L (O.map gnK) hc (P.map gnK) (Q.map gnK) R S (T.map ptK) (U.map ptK) V _ [] (fun e he=> ?_) hnd (FQ hll (by decide)) (by have:=Ab7 hun;dsimp only at this;rw[List.nil_append];omega);have ha:=hal e (DD _ he);have hc:=hck2 e (DD _ he);refine⟨ha.1,?_,?_⟩
 .have hm:e.1∈ [(unX true).1,unY.1]:=(show ∀ l∈unL,∀ e∈l,e.1∈ [(unX true).1,unY.1] by decide) _ hun e he;obtain⟨M,rfl⟩:=ofM hN;have e:=AaX (A0p M) hm;exact e
 .have:=ha.2;rw[AgJ N _ (by omega) (by omega) (by omega),hc]
end
section
variable (N:Nat) (hN:1048700<N)
include hN
end
abbrev RnT:Type:=List (Bs×Int×Bs)
abbrev GnT:Type:=Int×Bs×List RnT
abbrev PtT:Type:=List GnT×Int×Bool×List RnT
abbrev Y8T:Type:=Int×Int×Int×Int×Int×Int×Int×Int
abbrev HsT:Type:=Int×Int×Int×Int×Int×Int×Int×Int×List Int×Int
abbrev TrT:Type:=List (List Bs)×Bs×Bs×Int
abbrev SgT:Type:=Bs×Int×Int×List TrT
def Tot {α :Type} (Q: α ->Prop) (o:Option α):Prop:= ∃ v,o=some v/\Q v
def Tot.chk {α :Type} {Q: α ->Prop} {c:Bool} {k:Option α} (hc:c=true) (h:Tot Q k):Tot Q (Vm.chk c k):=by rw[hc];exact h
def Tot.call {α β :Type} [Inhabited α] {P: α ->Prop} {Q: β ->Prop} {x:Option α} {f: α ->Option β} (h:Tot P x) (hf: ∀ v,P v->Tot Q (f v)):Tot Q (Jt x f):=by obtain⟨v,rfl,hv⟩:=h;exact hf v hv
def Tot.bif {α :Type} {Q: α ->Prop} {b:Bool} {x y:Option α} (h1:b=true->Tot Q x) (h2:b=false->Tot Q y):Tot Q (bif b then x else y):=by
 cases b with
 | true=>exact h1 rfl
 | false=>exact h2 rfl
def Tot.some {α :Type} {Q: α ->Prop} {v: α} (h:Q v):Tot Q (some v):=⟨v,rfl,h⟩
def Tot.Aoc {α :Type} {o:Option α} (h:o.isSome=true):Tot (fun _=>True) o:=by
 cases o with
 | none=>cases h
 | some v=>exact⟨v,rfl,trivial⟩
def Tot.mono {α :Type} {P Q: α ->Prop} {o:Option α} (h:Tot P o) (hq: ∀ v,P v->Q v):Tot Q o:=let ⟨v,e,p⟩:=h;⟨v,e,hq v p⟩
def Asi (l:List Int):l=(List.range l.length).map fun i=>l.getD i 0:=by
 apply Je
 .simp
 .intro i h1 h2;simp [Dn,h1]
def AtO (M:Nat) (p0:Y8T) (f:Nat->Int):(RV (M+70) p0 ((List.range 64).map f)).isSome=true:=by kernel_rfl
def An9 {N:Nat} (hN:70<=N) (p0:Y8T) {l:List Int} (hl:l.length=64):Tot (fun _=>True) (RV N p0 l):=by obtain⟨M,rfl⟩:=Nat.exists_eq_add_of_le' hN;have h:=AtO M p0 fun i=>l.getD i 0;rw[<- hl,<- Asi]at h;exact Tot.Aoc h
def dL {α :Type} (l:List α) (a b:Nat) (h:b<=l.length):(JB l a b).length=b - a:=by simp [JB];omega
abbrev Amf (r:HsT):List Int:=r.2.2.2.2.2.2.2.2.1
def Aih (N:Nat):Tot (fun _=>True) (ZG N):=Tot.Aoc (by kernel_rfl)
def Ax5 {N:Nat} (hN:70<=N) (hM:N<=1000000000) (p0:HsT) (h8:(Amf p0).length<64) (p1:Bs) (hl:p1.length+64<N):Tot (fun r=>(Amf r).length<64) (TV N p0 p1):=by
 unfold TV;try simp -zeta only[Ap]
 refine Tot.bif (fun _=>Tot.some h8) fun _=> ?_;refine AnT (fun x=>x.2.2.2.2.2.2.2.2.1.length<64) (Tot _) (fun j hj=>Tot.bif (fun _=>(Aih N).call fun v _=>hj _ h8) fun _=>hj _ h8) ?_;rintro ⟨b0,b1,b2,b3,b4,b5,b6,b7,b8,b9⟩ hb;have hb:b8.length<64:=hb;dsimp only[U10];refine Tot.chk (Dp (by omega)) (Tot.chk (Dp (by rw[Dz];omega)) ?_);refine Tm (fun x=>x.1.length<N) (fun x=>x.1.length) (Tot _) ?_ N _ (by show(b8++p1.map _).length<N;rw[Dv,Dz];omega) (by show(b8++p1.map _).length<N;rw[Dv,Dz];omega);rintro ⟨t,c0,c1,c2,c3,c4,c5,c6,c7,c8,c9⟩ hI k hk;have hI:t.length<N:=hI;dsimp only[U11];refine Tot.bif (fun h=> ?_) fun h=> ?_
 .have h:=D6 h;refine Tot.chk (Dp (by omega)) ((An9 hN _ (by rw[dL _ _ _ (by omega)])).call fun v _=>Tot.chk (Dp (by omega)) (hk _ ?_ ?_))
  .show(JB t 64 t.length).length<N;rw[dL _ _ _ (DW _)];omega
  .show(JB t 64 t.length).length<t.length;rw[dL _ _ _ (DW _)];omega
 .have h:=EL h;refine Tot.chk (Dp (by omega)) (Tot.some ?_);show t.length<64;omega
def A2r (n:Nat):(n:Int).tmod 64=((n % 64:Nat):Int):=by rw[F9 (by omega)];omega
def AzV {N:Nat} (hN:150<=N) (p0:HsT) (h8:(Amf p0).length<64):Tot (fun r=>r.1.length=32) (VS N p0):=by
 unfold VS;try simp -zeta only[Ap]
 refine(Aih N).call fun v _=>Tot.chk rfl ?_;refine AnT (fun x=>x.2.2.2.2.2.2.2.2.2.2.2.1.length=8/\x.2.2.2.2.2.2.2.2.2.2.2.2.length<64) (Tot _) (fun j hj=>Tot.bif (fun _=>Tot.chk (Dp (by have:p0.2.2.2.2.2.2.2.2.1.length<64:=h8;omega)) (hj _ ⟨rfl,h8⟩)) fun _=>hj _ ⟨rfl,by show 0<64;omega⟩) ?_;rintro ⟨t,b0,b1,b2,b3,b4,b5,b6,b7,b8,b9,l1,l2⟩ ⟨h1,h2⟩;have h1:l1.length=8:=h1;have h2:l2.length<64:=h2;dsimp only[U13];refine Tot.chk (Dp (by omega)) ?_;refine Tm (fun x=>x.2.2.2.2.2.2.2.2.2.2.1.length=8/\x.2.2.2.2.2.2.2.2.2.2.2.length<=120) (fun x=>120 - x.2.2.2.2.2.2.2.2.2.2.2.length) (Tot _) ?_ N _ ⟨h1,by show(l2++_).length<=120;simp;omega⟩ (by show 120 - _<N;omega);rintro ⟨b0,b1,b2,b3,b4,b5,b6,b7,b8,b9,l1,l2⟩ ⟨h1,h2⟩ k hk;have h1:l1.length=8:=h1;have h2:l2.length<=120:=h2;dsimp only[U12];rw[A2r];refine Tot.bif (fun h=> ?_) fun h=> ?_
 .have h: ¬((l2.length % 64:Nat):Int)=56:=Gl.1 h;refine Tot.chk (Dp (by omega)) (hk _ ⟨h1,?_⟩ ?_)
  .show(l2++[0]).length<=120;simp;omega
  .show 120 - (l2++[0]).length<120 - l2.length;simp;omega
 .have h:((l2.length % 64:Nat):Int)=56:=by simpa using h
  clear k hk;refine Tm (fun x=>x.2.2.2.2.2.2.2.2.2.2.2.1.length=8/\ -1<=x.1/\x.1<=7/\((x.2.2.2.2.2.2.2.2.2.2.2.2.length:Int)+x.1+1) % 64=0/\(x.2.2.2.2.2.2.2.2.2.2.2.2.length:Int)+x.1+1<=128) (fun x=>(x.1+1).toNat) (Tot _) ?_ N _ ⟨h1,by show(-1:Int)<=7;omega,by show(7:Int)<=7;omega,by show((l2.length:Int)+7+1) % 64=0;omega,by show(l2.length:Int)+7+1<=128;omega⟩ (by show((7:Int)+1).toNat<N;omega);rintro ⟨t,b0,b1,b2,b3,b4,b5,b6,b7,b8,b9,l1,l2⟩ ⟨h1,h3,h4,h5,h6⟩ k hk;have h1:l1.length=8:=h1;have h3: -1<=t:=h3;have h4:t<=7:=h4;have h5:((l2.length:Int)+t+1) % 64=0:=h5;have h6:(l2.length:Int)+t+1<=128:=h6;dsimp only[U13];refine Tot.bif (fun h=> ?_) fun h=> ?_
  .have h:=D6 h;refine Tot.chk (Dp (by rw[wu64 (x:=t) (by omega) (by omega),wu64 (by omega) (by omega)];omega)) (Tot.chk (Dp (by omega)) (hk _ ⟨h1,?_⟩ ?_))
   .show -1<=i64.wrap (t - 1)/\i64.wrap (t - 1)<=7/\(((l2++[_]).length:Int)+i64.wrap (t - 1)+1) % 64=0/\((l2++[_]).length:Int)+i64.wrap (t - 1)+1<=128;rw[w64 (by omega) (by omega)];simp;omega
   .show(i64.wrap (t - 1)+1).toNat<(t+1).toNat
    rw[w64 (by omega) (by omega)];omega
  .have h:=EL h;have ht:t= -1:=by omega
   subst ht;clear k hk;refine Tm (fun x=>x.2.2.2.2.2.2.2.2.2.2.2.length=8/\x.1.length % 64=0/\x.1.length<=128) (fun x=>x.1.length) (Tot _) ?_ N _ ⟨h1,by show l2.length % 64=0;omega,by show l2.length<=128;omega⟩ (by show l2.length<N;omega);rintro ⟨t,b0,b1,b2,b3,b4,b5,b6,b7,b8,b9,l1⟩ ⟨h1,h2,h3⟩ k hk;have h1:l1.length=8:=h1;have h2:t.length % 64=0:=h2;have h3:t.length<=128:=h3;dsimp only[U12];refine Tot.bif (fun h=> ?_) fun h=> ?_
   .have h:=D6 h;refine Tot.chk (by rw[h1];rfl) (Tot.chk (Dp (by omega)) ((An9 (by omega) _ (by rw[dL _ _ _ (by omega)])).call fun v _=>Tot.chk (by rw[h1];rfl) (Tot.chk (Dp (by omega)) (hk _ ⟨rfl,?_⟩ ?_))))
    .show(JB t 64 t.length).length % 64=0/\(JB t 64 t.length).length<=128;rw[dL _ _ _ (DW _)];omega
    .show(JB t 64 t.length).length<t.length;rw[dL _ _ _ (DW _)];omega
   .clear k hk h;dsimp only[U11];refine Tot.chk (by rw[h1];rfl) ?_;refine Tm (fun x=>0<=x.1/\x.1<=8/\(x.2.2.2.2.2.2.2.2.2.2.2.length:Int)=4*x.1/\x.2.2.2.2.2.2.2.2.2.2.2.all Vm.isByte=true) (fun x=>(8 - x.1).toNat) (Tot _) ?_ N _ ⟨by show(0:Int)<=0;omega,by show(0:Int)<=8;omega,rfl,rfl⟩ (by show((8:Int) - 0).toNat<N;omega);rintro ⟨t,b0,b1,b2,b3,b4,b5,b6,b7,b8,b9,l⟩ ⟨h1,h2,h3,h4⟩ k hk;have h1:0<=t:=h1;have h2:t<=8:=h2;have h3:(l.length:Int)=4*t:=h3;have h4:l.all Vm.isByte=true:=h4;dsimp only[U12];refine Tot.bif (fun h=> ?_) fun h=> ?_
    .have h:=D6 h;refine Tot.chk (Dp (by omega)) (Tot.chk (Dp (by omega)) (Tot.chk (Dp (by omega)) (hk _ ?_ ?_)))
     .show 0<=i64.wrap (t+1)/\i64.wrap (t+1)<=8/\((l++[_,_,_,_]).length:Int)=4*i64.wrap (t+1)/\(l++[_,_,_,_]).all Vm.isByte=true;rw[w64 (by omega) (by omega)];refine⟨by omega,by omega,by simp;omega,?_⟩;rw[List.all_append,h4];simp only[List.all_cons,Tj,List.all_nil,Ip]
     .show(8 - i64.wrap (t+1)).toNat<(8 - t).toNat
      rw[w64 (by omega) (by omega)];omega
    .have h:=EL h;dsimp only[U11];refine Tot.chk h4 (Tot.some ?_);show(l.map Vm.byteOf).length=32;rw[Dz];omega
def Ayt {N:Nat} (hN:150<=N) (hM:N<=1000000000) {l:List Bs} (hl:l.length<N) (hs: ∀ s∈l,s.length+64<N):Tot (fun r=>r.length=32) (Acj N l):=by
 unfold Acj;try simp -zeta only[Ap]
 refine Tot.call (P:=fun r=>(Amf r).length<64) ⟨_,rfl,by show 0<64;omega⟩ fun v hv=> ?_;refine Tm (fun x=>0<=x.1/\x.1<=(l.length:Int)/\(Amf x.2).length<64) (fun x=>((l.length:Int) - x.1).toNat) (Tot _) ?_ N _ ⟨by show(0:Int)<=0;omega,by show(0:Int)<=l.length;omega,hv⟩ (by show((l.length:Int) - 0).toNat<N;omega);rintro ⟨t,b0,b1,b2,b3,b4,b5,b6,b7,b8,b9⟩ ⟨h1,h2,h3⟩ k hk;have h1:0<=t:=h1;have h2:t<=(l.length:Int):=h2;dsimp only[U11];refine Tot.bif (fun h=> ?_) fun h=> ?_
 .have h:=D6 h;have hlt:t.toNat<l.length:=by omega
  refine Tot.chk (Dp h1) (Tot.chk (Dp h) ((Ax5 (by omega) hM _ h3 _ (by rw[getD_lt _ _ _ hlt];exact hs _ (EU hlt))).call fun v hv=>hk _ ?_ ?_))
  .show 0<=i64.wrap (t+1)/\i64.wrap (t+1)<=(l.length:Int)/\(Amf v).length<64;rw[w64 (by omega) (by omega)];exact⟨by omega,by omega,hv⟩
  .show((l.length:Int) - i64.wrap (t+1)).toNat<((l.length:Int) - t).toNat
   rw[w64 (by omega) (by omega)];omega
 .dsimp only[U10];exact(AzV hN _ h3).call fun v hv=>Tot.some hv
def AvF {N:Nat} (hN:150<=N) (hM:N<=1000000000) {l:List Bs} (hl:l.length<N) (hs: ∀ s∈l,s.length+64<N):Tot (fun r=>r.length=16) (Ny N l):=by
 unfold Ny;try simp -zeta only[Ap]
 refine(Ayt hN hM hl hs).call fun v hv=>Tot.chk (Dp (by omega)) (Tot.some ?_);rw[dL _ _ _ (by omega)]
def b4P (p:Int):Bs:=List.map Vm.byteOf ([u8.wrap (p.fdiv (16777216)),u8.wrap (p.fdiv (65536)),u8.wrap (p.fdiv (256)),u8.wrap p]:List Int)
def b1P (p:Int):Bs:=List.map Vm.byteOf ([u8.wrap p]:List Int)
def Apr (N:Nat) (p:Int):Abi N p=some (b4P p):=by
 unfold Abi;try simp -zeta only[Ap]
 rw[KD _ (by simp [Tj])];rfl
def AtG (N:Nat) (p:Int):Abh N p=some (b1P p):=by
 unfold Abh;try simp -zeta only[Ap]
 rw[KD _ (by simp [Tj])];rfl
def AwM (N:Nat) (p:Int):iV N p=some (b4P p):=Apr N p
def hS (N:Nat) (l:List Bs):Bs:=(Ny N l).getD []
structure Hok (N:Nat) (l:List Bs):Prop where
 n:150<=N
 m:N<=1000000000
 len:l.length<N
 each: ∀ s∈l,s.length+64<N
def AkE {N:Nat} {l:List Bs} (h:Hok N l):Ny N l=some (hS N l)/\(hS N l).length=16:=by obtain⟨v,e,hv⟩:=AvF h.n h.m h.len h.each;unfold hS;rw[e];exact⟨rfl,hv⟩
def wk (f:Int->Bs->Bs) (a:Int):Nat->Bs->Bs
 | 0,x=>x
 | n+1,x=>wk f (a+1) n (f a x)
def A2z (f:Int->Bs->Bs): ∀(n:Nat) (a:Int) (m:Nat) (x:Bs),wk f a (n+m) x=wk f (a+n) m (wk f a n x):=by
 intro n
 induction n with
 | zero=>intro a m x;simp [wk]
 | succ n ih =>intro a m x;rw[show n+1+m=(n+m)+1 by omega];show wk f (a+1) (n+m) (f a x)=wk f (a+((n+1:Nat):Int)) m (wk f (a+1) n (f a x));rw[ih];congr 1;omega
def Ax3 {f:Int->Bs->Bs} (hf: ∀ t x,x.length=16->(f t x).length=16): ∀(n:Nat) (a:Int) (x:Bs),x.length=16->(wk f a n x).length=16:=by
 intro n
 induction n with
 | zero=>intro a x h;exact h
 | succ n ih=>intro a x h;exact ih _ _ (hf _ _ h)
def st (N:Nat) (p0:Bs) (p1 p2 t:Int) (x:Bs):Bs:=hS N [[67],p0,b4P p1,b1P p2,b1P t,x]
structure Big (N:Nat):Prop where
 n:2000<=N
 m:N<=1000000000
def hok {N:Nat} (h:Big N) {l:List Bs} (hl:l.length<=100) (hs:l.all (fun s=>decide (s.length<=1000))=true):Hok N l:=by have h1:=h.n;refine⟨by omega,h.m,by omega,fun s hm=> ?_⟩;have:=D6 (D7.1 hs s hm);omega
def AzP {N:Nat} (h:Big N) {p0:Bs} (h0:p0.length<=1000) (p1 p2 t:Int) {x:Bs} (hx:x.length=16):Ny N [[67],p0,b4P p1,b1P p2,b1P t,x]=some (st N p0 p1 p2 t x)/\(st N p0 p1 p2 t x).length=16 :=
 AkE (hok h (by simp) (by simp [h0,hx,b4P,b1P]))
def walk_eq {N:Nat} (h:Big N) {p0:Bs} (h0:p0.length<=1000) (p1 p2:Int) {a b:Int} (ha:0<=a) (hab:a<=b) (hb:b<=15) {x:Bs} (hx:x.length=16):dZ N p0 p1 p2 a b x=some (wk (st N p0 p1 p2) a (b - a).toNat x):=by
 unfold dZ;have hn:=h.n;refine WM (X:=Bs×Int) (fun x=>x.1.length=16/\0<=x.2/\x.2<=b) (fun x=>(b - x.2).toNat) (fun x=>some (wk (st N p0 p1 p2) x.2 (b - x.2).toNat x.1)) ?_ N _ ⟨hx,ha,hab⟩ (by show(b - a).toNat<N;omega);rintro ⟨x,t⟩ ⟨h1,h2,h3⟩ k hk;have h1:x.length=16:=h1;have h2:0<=t:=h2;have h3:t<=b:=h3;dsimp only[U2];by_cases hlt:t<b
 .rw[Dp hlt,cond_true,Apr,Jy,AtG,Jy,AtG,Jy];obtain⟨e1,e2⟩:=AzP h h0 p1 p2 t h1;rw[e1,Jy,w64 (by omega) (by omega)];refine(hk _ ⟨e2,by show 0<=t+1;omega,by show t+1<=b;omega⟩ (by show(b - (t+1)).toNat<(b - t).toNat;omega)).trans ?_;show some (wk _ (t+1) (b - (t+1)).toNat _)=some (wk _ t (b - t).toNat x);rw[show(b - t).toNat=(b - (t+1)).toNat+1 by omega];rfl
 .rw[DN hlt,cond_false];rw[show(b - t).toNat=0 by omega];rfl
def AiF {ρ :Type} {B:Int×List Bs->(Int×List Bs->Option ρ)->(List Bs->Option ρ)->Option ρ} {kx:List Bs->Option ρ} (n:Nat) (g:Nat->Bs)
 (h: ∀(i:Nat) (acc:List Bs) (k:Int×List Bs->Option ρ),i<n->acc.length=i->B ((i:Int),acc) k kx=k ((i:Int)+1,acc++[g i]))
 (hend: ∀(acc:List Bs) (k:Int×List Bs->Option ρ),acc.length=n->B ((n:Int),acc) k kx=kx acc) {N:Nat} (hN:n<N):J8 B N (0,[]) kx=kx ((List.range n).map g):=by
 refine WM (fun x=>x.1=(x.2.length:Int)/\x.2.length<=n/\x.2=(List.range x.2.length).map g) (fun x=>n - x.2.length) (fun _=>kx ((List.range n).map g)) ?_ N _ ⟨rfl,Es _,rfl⟩ (by show n - 0<N;omega);rintro ⟨t,acc⟩ ⟨h1,h2,h3⟩ k hk;have h1:t=(acc.length:Int):=h1;have h2:acc.length<=n:=h2;have h3:acc=(List.range acc.length).map g:=h3;subst h1;by_cases hl:acc.length<n
 .rw[h acc.length acc k hl rfl];refine hk _ ⟨by show(acc.length:Int)+1=((acc++[g acc.length]).length:Int);simp,by show(acc++[g acc.length]).length<=n;simp;omega,?_⟩ (by show n - (acc++[g acc.length]).length<n - acc.length;simp;omega);show acc++[g acc.length]=(List.range (acc++[g acc.length]).length).map g;rw[Dv,List.length_singleton,Gx,ET,<- h3];rfl
 .have e:acc.length=n:=by omega
  have h4:=hend acc k e;rw[<- e]at h4;rw[h4,<- e];exact congrArg kx h3
def Avr (N:Nat) (p1:Bs) (p2:Int) (i:Nat):Bs:=hS N [[83],p1,b4P p2,b1P (i:Int)]
def Zr {N:Nat} (h:Big N) {p1:Bs} (h1:p1.length<=1000) (p2:Int) (i:Nat):ZY N p1 p2 (i:Int)=some (Avr N p1 p2 i)/\(Avr N p1 p2 i).length=16:=by obtain⟨e1,e2⟩:=AkE (N:=N) (l:=[[83],p1,b4P p2,b1P (i:Int)]) (hok h (by simp) (by simp [h1,b4P,b1P]));refine⟨?_,e2⟩;unfold ZY;rw[Apr,Jy,AtG,Jy,e1];rfl
def Ar6 (N:Nat) (p0 p1:Bs) (p2:Int) (i:Nat):Bs:=wk (st N p0 p2 (i:Int)) 0 15 (Avr N p1 p2 i)
def st_len {N:Nat} (h:Big N) {p0:Bs} (h0:p0.length<=1000) (p1 p2:Int): ∀ t x,x.length=16->(st N p0 p1 p2 t x).length=16:=fun t _ hx=>(AzP h h0 p1 p2 t hx).2
def Ak9: ∀(l:List Bs),(∀ s∈l,s.length=16)->l.flatten.length=16*l.length:=by
 intro l
 induction l with
 | nil=>intro _;rfl
 | cons a r ih =>intro h;rw[List.flatten_cons,Dv,h a Dy,ih fun s hs=>h s (D5 _ hs),List.length_cons];omega
def iN (b:UInt8):Int:=(b.toNat:Int)
def AvU (l:Bs):(l.map iN).map Vm.byteOf=l:=by
 rw[EC]
 conv=>rhs;rw[<- FY l]
 refine Ea fun b _=> ?_;show UInt8.ofNat ((b.toNat:Int)).toNat=b;simp
def Aw7 (l:Bs):(l.map iN).all Vm.isByte=true:=by rw[D7];intro x hx;obtain⟨b,_,rfl⟩:=DJ.1 hx;have:=AzR b;unfold Vm.isByte iN;rw[Dp (by omega),Dp (by omega)];rfl
def join_eq {N:Nat} (h:Big N) {l:List Bs} (hl:l.length<=1000) (h16: ∀ s∈l,s.length=16):sD N l=some l.flatten:=by
 have hn:=h.n;have hf:=Ak9 l h16;unfold sD;try simp -zeta only[Ap]
 rw[w64 (x:=(l.length:Int)*16) (by omega) (by omega),KD _ (Dp (by omega)),KD _ (Dp (by omega)),KD _ (Dp (by omega))];refine(WM (X:=Int×List Int) (fun x=>0<=x.1/\x.1<=(l.length:Int)/\x.2.length=16*l.length/\x.2.take (16*x.1.toNat)=((l.take x.1.toNat).flatten).map iN) (fun x=>((l.length:Int) - x.1).toNat) (fun _=>some l.flatten) ?_ N _ ⟨by show(0:Int)<=0;omega,by show(0:Int)<=l.length;omega,by show(List.replicate _ _).length=_;rw[E8];omega,by simp⟩ (by show((l.length:Int) - 0).toNat<N;omega));rintro ⟨t,y⟩ ⟨h1,h2,h3,h4⟩ k hk;have h1:0<=t:=h1;have h2:t<=(l.length:Int):=h2;have h3:y.length=16*l.length:=h3;have h4:y.take (16*t.toNat)=((l.take t.toNat).flatten).map iN:=h4;dsimp only[U2];by_cases hlt:t<(l.length:Int)
 .have hi:t.toNat<l.length:=by omega
  have hg:l.getD t.toNat []=l[t.toNat]:=getD_lt _ _ _ hi;have h5:(l.getD t.toNat []).length=16:=by rw[hg];exact h16 _ (EU hi)
  have h6:l.take (t.toNat+1)=l.take t.toNat++[l.getD t.toNat []]:=by rw[hg,List.take_succ_eq_append_getElem hi]
  have h7:((l.take t.toNat).flatten).length=16*t.toNat:=by rw[Ak9 _ fun s hs=>h16 s (Gt hs),DZ];omega
  generalize l.getD t.toNat []=s at h5 h6 ⊢;rw[Dp hlt,cond_true,KD _ (Dp h1),KD _ rfl,w64 (x:=t*16) (by omega) (by omega),w64 (x:=t+1) (by omega) (by omega),KD _ (Dp (by omega)),KD _ (Dp (by omega)),KD _ (Dp (by omega)),KD _ (Dp (by omega))];have e16:(t*16).toNat=16*t.toNat:=by omega
  rw[e16];have h8:(y.take (16*t.toNat)).length=16*t.toNat:=by rw[DZ];omega
  refine hk _ ⟨by show 0<=t+1;omega,by show t+1<=_;omega,?_,?_⟩ (by show((l.length:Int) - (t+1)).toNat<((l.length:Int) - t).toNat;omega)
  .show(zN y (16*t.toNat) s).length=_;unfold zN;simp only[Dv,Dz,Et,h8];omega
  .show(zN y (16*t.toNat) s).take (16*(t+1).toNat)=((l.take (t+1).toNat).flatten).map iN;rw[show(t+1).toNat=t.toNat+1 by omega,h6,Gg,ET,<- h4];unfold zN;rw[Gp (by simp only[Dv,Dz,h8];omega)];rw[EW (by simp only[Dv,Dz,h8];omega)];simp [iN]
 .have et:t.toNat=l.length:=by omega
  rw[DN hlt,cond_false];rw[et,<- h3,Ez,Ez]at h4;rw[h4];show chk _ _=_;rw[KD _ (Aw7 _),AvU]
def dW {n:Nat} {g:Nat->Bs} (h: ∀ i,(g i).length=16): ∀ s∈(List.range n).map g,s.length=16:=by intro s hs;obtain⟨i,_,rfl⟩:=DJ.1 hs;exact h i
def AyJ (N:Nat) (p0:Bs) (p1:Int) (l:List Bs):Bs:=hS N [[76],p0,b4P p1,l.flatten]
def Aga {N:Nat} (h:Big N) {p0:Bs} (h0:p0.length<=1000) (p1:Int) {l:List Bs} (hl:l.length<=60) (h16: ∀ s∈l,s.length=16):ZX N p0 p1 l=some (AyJ N p0 p1 l)/\(AyJ N p0 p1 l).length=16:=by have hf:=Ak9 l h16;obtain⟨e1,e2⟩:=AkE (N:=N) (l:=[[76],p0,b4P p1,l.flatten]) (hok h (by simp) (by simp only[List.all_cons,List.all_nil,hf,Gh,Dp h0];rw[Dp (by omega:16*l.length<=1000)];simp [b4P]));refine⟨?_,e2⟩;unfold ZX;rw[Apr,Jy,join_eq h (by omega) h16,Jy,e1];rfl
def AeY (N:Nat) {p0:Bs} (h0:p0.length=16) {p:Int} (h1:0<=p) (h2:p<256):SQ N p0 p=some 0:=by
 unfold SQ;try simp -zeta only[Ap]
 rw[show((p0.length:Int) != 16)=false by rw[h0];rfl,DN (by omega: ¬ p<0),DN (by omega: ¬ p>=256)];rfl
def AeZ (N:Nat) {p0 p1:Bs} (h0:p0.length=16) (hs:p1.length=32) {p:Int} (h1:0<=p) (h2:p<256):Vu N p0 p1 p=some 0:=by
 unfold Vu;try simp -zeta only[Ap]
 rw[show((p0.length:Int) != 16)=false by rw[h0];rfl,show((p1.length:Int) != 32)=false by rw[hs];rfl];show Jt (SQ N p0 p) _=_;rw[AeY N h0 h1 h2];rfl
def AjN {N:Nat} (h:Big N) {p0 p1:Bs} (h0:p0.length<=1000) (hs:p1.length<=1000) (p2:Int) (i:Nat):(Ar6 N p0 p1 p2 i).length=16:=Ax3 (st_len h h0 p2 i) _ _ _ (Zr h hs p2 i).2
def pkP (N:Nat) (p0 p1:Bs) (p2:Int):Bs:=AyJ N p0 p2 ((List.range 35).map (Ar6 N p0 p1 p2))
def AvE {N:Nat} (h:Big N) {p0 p1:Bs} (h0:p0.length=16) (hs:p1.length=32) {p2:Int} (h1:0<=p2) (h2:p2<256):o9 N p0 p1 p2=some (pkP N p0 p1 p2,0):=by
 have hn:=h.n;unfold o9;try simp -zeta only[Ap]
 rw[AeZ N h0 hs h1 h2];show J8 (X:=Int×List Bs) (Y:=List Bs) _ N (0,[]) _=_;refine(AiF 35 (Ar6 N p0 p1 p2) (fun i acc k hi ha=> ?_) (fun acc k ha=> ?_) (by omega)).trans ?_
 .dsimp only[U2];rw[Dp (by omega:(i:Int)<35),cond_true,(Zr h (by omega) p2 i).1,Jy,walk_eq h (by omega) p2 i (FP 0) (by omega) (FP 15) (Zr h (by omega) p2 i).2,Jy,KD _ (Dp (by omega)),w64 (by omega) (by omega)];rfl
 .rfl
 .rw[(Aga h (by omega) p2 (by simp) (dW (AjN h (by omega) (by omega) p2))).1];rfl
def pk_len {N:Nat} (h:Big N) {p0 p1:Bs} (h0:p0.length=16) (hs:p1.length=32) (p2:Int):(pkP N p0 p1 p2).length=16:=(Aga h (by omega) p2 (by simp) (dW (AjN h (by omega) (by omega) p2))).2
def Dig (l:List Int):Prop:=l.length=35/\ ∀ i,0<=l.getD i 0/\l.getD i 0<=15
def A25 (a:Nat) (h:a<256):0<=JR .and .u8 (a:Int) 15/\JR .and .u8 (a:Int) 15<=15:=by
 have: ∀ a:Fin 256,0<=JR .and .u8 ((a.val:Nat):Int) 15/\JR .and .u8 ((a.val:Nat):Int) 15<=15:=by decide +kernel
 exact this ⟨a,h⟩
def AvJ (a:Nat) (h:a<1024):0<=JR .and .i64 (a:Int) 15/\JR .and .i64 (a:Int) 15<=15:=by
 have: ∀ a:Fin 1024,0<=JR .and .i64 ((a.val:Nat):Int) 15/\JR .and .i64 ((a.val:Nat):Int) 15<=15:=by decide +kernel
 exact this ⟨a,h⟩
def Ays {l:List Int} (h: ∀ x∈l,0<=x/\x<=15) (i:Nat):0<=l.getD i 0/\l.getD i 0<=15:=by
 by_cases hi:i<l.length
 .rw[getD_lt _ _ _ hi];exact h _ (EU hi)
 .rw[Dn,Ec (by omega)];simp
def Auu (a b:Nat):(a:Int).fdiv (b:Int)=((a / b:Nat):Int):=by rw[Hg _ (Int.natCast_nonneg b)];rfl
def Atz {N:Nat} (h:Big N) {p:Bs} (hp:p.length=16):Tot (fun r=>r.2=0/\Dig r.1) (UX N p):=by
 have hn:=h.n;unfold UX;try simp -zeta only[Ap]
 rw[show((p.length:Int) != 16)=false by rw[hp];rfl];refine Tot.chk (Dp (by omega)) ?_;show Tot _ (J8 (X:=Int×Int×List Int×List Int) _ N (0,0,p.map iN,[]) _);refine Tm (fun x=>0<=x.2.1/\x.2.1<=16/\x.2.2.1=p.map iN/\(x.2.2.2.length:Int)=2*x.2.1/\(∀ d∈x.2.2.2,0<=d/\d<=15)/\0<=x.1/\x.1<=30*x.2.1) (fun x=>(16 - x.2.1).toNat) (Tot _) ?_ N _ ⟨by show(0:Int)<=0;omega,by show(0:Int)<=16;omega,rfl,rfl,(fun _ h=>by cases h),by show(0:Int)<=0;omega,by show(0:Int)<=30*0;omega⟩ (by show((16:Int) - 0).toNat<N;omega);rintro ⟨c,t,l,acc⟩ ⟨h1,h2,h3,h4,h5,h6,h7⟩ k hk;have h1:0<=t:=h1;have h2:t<=16:=h2;have h3:l=p.map iN:=h3;have h4:(acc.length:Int)=2*t:=h4;have h5: ∀ d∈acc,0<=d/\d<=15:=h5;have h6:0<=c:=h6;have h7:c<=30*t:=h7;dsimp only[U4];refine Tot.bif (fun hb=> ?_) fun hb=> ?_
 .have hb:=D6 hb;rw[Dz,hp]at hb;have hl:t.toNat<l.length:=by rw[h3,Dz];omega
  obtain⟨a,ha,hlt⟩: ∃ a:Nat,l.getD t.toNat 0=(a:Int)/\a<256:=by rw[getD_lt _ _ _ hl];have hm:l[t.toNat]∈p.map iN:=h3▸EU hl;obtain⟨b,_,hb⟩:=DJ.1 hm;exact⟨b.toNat,hb.symm,AzR b⟩
  obtain⟨q1,q2⟩:=A25 a hlt;have hd:(a:Int).fdiv 16=((a / 16:Nat):Int):=Auu a 16;rw[ha,hd];generalize JR .and .u8 (a:Int) 15=y at q1 q2 ⊢;rw[w64 (x:=((a / 16:Nat):Int)) (by omega) (by omega),w64 (x:=y) (by omega) (by omega),w64 (x:=15 - ((a / 16:Nat):Int)) (by omega) (by omega),w64 (x:=15 - ((a / 16:Nat):Int)+15) (by omega) (by omega),w64 (x:=15 - ((a / 16:Nat):Int)+15 - y) (by omega) (by omega),w64 (x:=t+1) (by omega) (by omega),w64 (by omega) (by omega)];refine Tot.chk (Dp h1) (Tot.chk (Dp (by omega)) (Tot.chk (Dp (by omega)) (Tot.chk (Dp (by omega)) (hk _ ⟨by show 0<=t+1;omega,by show t+1<=16;omega,h3,?_,?_,?_,?_⟩ ?_))))
  .show((acc++[_,_]).length:Int)=2*(t+1);simp;omega
  .intro d hd;have hd:d∈acc++[((a / 16:Nat):Int),y]:=hd;rcases DV.1 hd with hd | hd
   .exact h5 d hd
   .simp only[D8,Ew,Fz]at hd;rcases hd with rfl | rfl<;>omega
  .show 0<=c+(15 - ((a / 16:Nat):Int)+15 - y);omega
  .show c+(15 - ((a / 16:Nat):Int)+15 - y)<=30*(t+1);omega
  .show(16 - (t+1)).toNat<(16 - t).toNat
   omega
 .have hb:=EL hb;rw[Dz,hp]at hb;dsimp only[U2];refine Tot.chk (Dp (by omega)) (Tot.some ⟨rfl,?_,?_⟩)
  .show(acc++[_,_,_]).length=35;simp;omega
  .obtain⟨n,hn,hn2⟩: ∃ n:Nat,c=(n:Int)/\n<=480:=⟨c.toNat,by omega,by omega⟩
   refine Ays fun x hx=> ?_;have hx:x∈acc++[c.fdiv 256,JR .and .i64 (c.fdiv 16) 15,JR .and .i64 c 15]:=hx;rcases DV.1 hx with hx | hx
   .exact h5 x hx
   .simp only[D8,Ew,Fz]at hx;subst hn;have e1:(n:Int).fdiv 256=((n / 256:Nat):Int):=Auu n 256;have e2:(n:Int).fdiv 16=((n / 16:Nat):Int):=Auu n 16;rcases hx with rfl | rfl | rfl
    .rw[e1];omega
    .rw[e2];exact AvJ _ (by omega)
    .exact AvJ _ (by omega)
def Ayb: ∀(l:List Bs) (i:Nat),(∀ s∈l,s.length=16)->i<l.length->JB l.flatten (16*i) (16*(i+1))=l.getD i []:=by
 intro l
 induction l with
 | nil=>intro i _ h;simp at h
 | cons a r ih =>
  intro i h hi;have ha:a.length=16:=h a Dy;cases i with
  | zero =>show((a++r.flatten).take (16*(0+1))).drop (16*0)=a;rw[Gp (by omega),EW (by omega)];rfl
  | succ i =>have:=ih i (fun s hs=>h s (D5 _ hs)) (by simpa using hi);show((a++r.flatten).take (16*(i+1+1))).drop (16*(i+1))=r.getD i [];rw[<- this];rw[show 16*(i+1+1)=a.length+16*(i+1) by omega,List.take_length_add_append,show 16*(i+1)=a.length+16*i by omega,List.drop_length_add_append];rw[ha,show 16+16*i=16*(i+1) by omega];rfl
def Amw (N:Nat) (d:Bs):List Int:=((UX N d).getD ([],0)).1
def AnF {N:Nat} (h:Big N) {d:Bs} (hd:d.length=16):UX N d=some (Amw N d,0)/\Dig (Amw N d):=by obtain⟨⟨l,e⟩,h1,h2,h3⟩:=Atz h hd;have h2:e=0:=h2;subst h2;unfold Amw;rw[h1];exact⟨rfl,h3⟩
def sgP (N:Nat) (p0 p1:Bs) (p2:Int) (d:Bs) (i:Nat):Bs:=wk (st N p0 p2 (i:Int)) 0 ((Amw N d).getD i 0).toNat (Avr N p1 p2 i)
def zY (N:Nat) (p0 p1:Bs) (p2:Int) (d:Bs):Bs:=((List.range 35).map (sgP N p0 p1 p2 d)).flatten
section
variable {N:Nat} (h:Big N) {p0 p1:Bs} (h0:p0.length=16) (hs:p1.length=32) {p2:Int} (h1:0<=p2) (h2:p2<256) {d:Bs} (hd:d.length=16)
include h h0 hs
theorem Ahq (p2:Int) (d:Bs) (i:Nat):(sgP N p0 p1 p2 d i).length=16:=Ax3 (st_len h (by omega) p2 i) _ _ _ (Zr h (by omega) p2 i).2
theorem Ada (p2:Int) (d:Bs):(zY N p0 p1 p2 d).length=560:=by unfold zY;rw[Ak9 _ (dW (Ahq h h0 hs p2 d)),Dz,FK]
include h1 h2 hd
theorem AzU:Ac6 N p0 p1 p2 d=some (zY N p0 p1 p2 d,0):=by
 have hn:=h.n;obtain⟨e1,e2,e3⟩:=AnF h hd;unfold Ac6;try simp -zeta only[Ap]
 rw[AeZ N h0 hs h1 h2,Jy];rw[show((0:Int) != 0)=false from rfl,cond_false];rw[e1,Jy];show J8 (X:=Int×List Bs) (Y:=List Bs) _ N (0,[]) _=_;refine(AiF 35 (sgP N p0 p1 p2 d) (fun i acc k hi ha=> ?_) (fun acc k ha=> ?_) (by omega)).trans ?_
 .have e4:=e3 i;dsimp only[U2];rw[Dp (by omega:(i:Int)<35),cond_true,KD _ (Dp (by omega)),KD _ (Dp (by omega)),(Zr h (by omega) p2 i).1,Jy,Int.toNat_natCast,walk_eq h (by omega) p2 i (FP 0) e4.1 e4.2 (Zr h (by omega) p2 i).2,Jy,KD _ (Dp (by omega)),w64 (by omega) (by omega),Int.sub_zero];rfl
 .rfl
 .rw[join_eq h (by simp) (dW (Ahq h h0 hs p2 d))];rfl
theorem At3:fV N p0 p2 d (zY N p0 p1 p2 d)=some (pkP N p0 p1 p2,0):=by
 have hn:=h.n;obtain⟨e1,e2,e3⟩:=AnF h hd;have hsl:=Ada h h0 hs p2 d;unfold fV;try simp -zeta only[Ap]
 rw[AeY N h0 h1 h2,Jy];rw[show((0:Int) != 0)=false from rfl,cond_false];rw[e1,Jy];show(bif (((zY N p0 p1 p2 d).length:Int) != 560)then _ else _)=_;rw[show(((zY N p0 p1 p2 d).length:Int) != 560)=false by rw[hsl];rfl,cond_false];refine(AiF 35 (Ar6 N p0 p1 p2) (fun i acc k hi ha=> ?_) (fun acc k ha=> ?_) (by omega)).trans ?_
 .have e4:=e3 i;have hc:JB (zY N p0 p1 p2 d) (16*i) (16*(i+1))=sgP N p0 p1 p2 d i:=by unfold zY;rw[Ayb _ _ (dW (Ahq h h0 hs p2 d)) (by simpa using hi),getD_lt _ _ _ (by simpa using hi)];simp
  dsimp only[U2];rw[Dp (by omega:(i:Int)<35),cond_true,w64 (x:=(i:Int)*16) (by omega) (by omega),w64 (x:=(i:Int)+1) (by omega) (by omega),w64 (by omega) (by omega)];rw[KD _ (Dp (by omega)),KD _ (Dp (by omega)),KD _ (Dp (by omega)),KD _ (Dp (by omega)),KD _ (Dp (by omega)),show((i:Int)*16).toNat=16*i by omega,show(((i:Int)+1)*16).toNat=16*(i+1) by omega,hc,Int.toNat_natCast,walk_eq h (by omega) p2 i e4.1 e4.2 (FP 15) (Ahq h h0 hs p2 d i),Jy,KD _ (Dp (by omega))];congr 3;congr 1;unfold sgP Ar6;rw[show(15:Nat)=((Amw N d).getD i 0).toNat+(15 - (Amw N d).getD i 0).toNat by omega,A2z];congr 1;omega
 .rfl
 .rw[(Aga h (by omega) p2 (by simp) (dW (AjN h (by omega) (by omega) p2))).1];rfl
end
set_option linter.unusedSectionVars false
def ne_nil {s:Bs} (h:0<s.length):(s==([]:Bs))=false:=by cases s with | nil=>simp at h | cons a r=>rfl
def idP (N:Nat) (sd:Bs):Bs:=hS N [[73],sd]
def Adj (N:Nat) (sd:Bs):TrT:=([],sd,idP N sd,0)
def zF (N:Nat) (sd:Bs):Bs:=pkP N (idP N sd) sd 0
def gV (N:Nat) (sd:Bs):TrT:=([[zF N sd]],sd,idP N sd,0)
def Arw (N:Nat) (sd:Bs):SgT:=(sd,0,0,[Adj N sd])
def Arx (N:Nat) (sd:Bs):SgT:=(sd,0,1,[gV N sd])
def AfZ (N:Nat) (sd:Bs):Int×Bs×Bs:=(0,idP N sd,zF N sd)
def AiZ (N:Nat) (sd m:Bs):Bs:=hS N [[77],idP N sd,zF N sd,b4P 0,m]
def aX (N:Nat) (sd m:Bs):Bs:=b4P 0++zY N (idP N sd) sd 0 (AiZ N sd m)
section
variable {N:Nat} (h:Big N) {sd:Bs} (hs:sd.length=32)
include h hs
theorem id_eq:Ny N [[73],sd]=some (idP N sd)/\(idP N sd).length=16:=AkE (hok h (by simp) (by simp [hs]))
theorem Ate:(zF N sd).length=16:=pk_len h (id_eq h hs).2 hs 0
theorem ArB:VU N sd 0=some (.inl (Adj N sd,0)):=by
 unfold VU;try simp -zeta only[Ap]
 rw[show((sd.length:Int) != 32)=false by rw[hs];rfl,cond_false,(id_eq h hs).1];rfl
theorem Ae4 (l:List (List Bs)) (k:Bs):Nk N (l,sd,k,0)=some (1,(l,sd,k,0)):=by
 unfold Nk NQ;try simp -zeta only[Ap]
 rw[Jy,ne_nil (by rw[hs];decide)];rfl
theorem A1f:aY N sd 0=some (.inl (Arw N sd,0)):=by
 have e:=Ae4 h hs [] (idP N sd);unfold aY Ag7;try simp -zeta only[Ap]
 rw[ArB h hs,NW];unfold Adj;dsimp only;rw[e];rfl
theorem A2E:O8 N (Adj N sd)=some (gV N sd):=by
 obtain⟨M,rfl⟩: ∃ M,N=M+10:=⟨N - 10,by have:=h.n;omega⟩
 unfold O8;try simp -zeta only[Ap]
 have e:=AvE h (id_eq h hs).2 hs (FP 0) (by omega:(0:Int)<256);unfold Adj;rw[Nu];dsimp only[U6];rw[e];rfl
theorem A2F:O8 N (gV N sd)=some (gV N sd):=rfl
theorem AvC (t:TrT) (ht:O8 N t=some (gV N sd)) (hv:t.2.1=sd):Tq N t=some (AfZ N sd,gV N sd):=by unfold Tq NQ;rw[Jy,hv,ne_nil (by rw[hs];decide)];dsimp only;rw[EY,EK,cond_false,ht];rfl
theorem Awi {m:Bs} (hm:m.length+64<N):SN N (AfZ N sd) 0 m=some (AiZ N sd m)/\(AiZ N sd m).length=16:=by
 have hn:=h.n
 obtain⟨e1,e2⟩:=AkE (N:=N) (l:=[[77],idP N sd,zF N sd,b4P 0,m]) ⟨by omega,h.m,by simp;omega,fun s hs'=>by
  have i1:=(id_eq h hs).2;have i2:=Ate h hs;simp only[D8,Ew,Fz]at hs';rcases hs' with rfl | rfl | rfl | rfl | rfl
  .simp;omega
  .omega
  .omega
  .simp [b4P];omega
  .exact hm⟩
 refine⟨?_,e2⟩;unfold SN;rw[AwM,Jy];show Jt (Ny N [[77],idP N sd,zF N sd,b4P 0,m]) _=_;rw[e1];rfl
theorem AxD {m:Bs} (hm:m.length+64<N) (l:List (List Bs)) (ht:O8 N (l,sd,idP N sd,0)=some (gV N sd)):UQ N (l,sd,idP N sd,0) 0 m=some (aX N sd m,0,gV N sd):=by
 have hn:=h.n;have e1:=Ae4 h hs l (idP N sd);have e2:=AvC h hs (l,sd,idP N sd,0) ht rfl;obtain⟨e3,e4⟩:=Awi h hs hm;have e5:=AzU h (id_eq h hs).2 hs (FP 0) (by omega) e4;have hl:=Ada h (id_eq h hs).2 hs 0 (AiZ N sd m);unfold UQ NQ;try simp -zeta only[Ap]
 rw[Jy,ne_nil (by rw[hs];decide)];dsimp only;rw[e1];simp (decide:=true) only[EY,EK,cond_false,cond_true,Option.isSome_some,EO,F8,L8,Option.getD_some,Int.lt_irrefl,I4];rw[e2,Jy];dsimp only[gV];rw[Em,Em,L8,L8];refine(KD _ rfl).trans ?_;rw[e3,Jy,e5,Jy];dsimp only;rw[show((0:Int) != 0)=false from rfl,cond_false,AwM,Jy,KD _ (Dp (by rw[hl];simp [b4P]))];obtain⟨M,rfl⟩: ∃ M,N=M+10:=⟨N - 10,by omega⟩
 rfl
theorem AxA {m:Bs} (hm:m.length+64<N):Q4 N (Arw N sd) m=some (aX N sd m,0,Arx N sd):=by
 have e1:=Ae4 h hs [] (idP N sd);have e2:=AxD h hs hm [] (A2E h hs);unfold Q4 Xa OO;try simp -zeta only[Ap]
 dsimp only[Arw,Adj,Jy,List.headD_cons];rw[ne_nil (by rw[hs];decide),G5,cond_false,cond_false,e1,Jy];dsimp only;rw[show(i64.wrap (1 - 0))=1 from rfl,Jy];dsimp only;rw[show((1:Int)==0)=false from rfl,cond_false,List.headD_cons,e2,Jy];rfl
theorem AzT:QU N (Arx N sd)=some (AfZ N sd,Arx N sd):=by
 have e:=AvC h hs (gV N sd) (A2F h hs) rfl;unfold QU OO;try simp -zeta only[Ap]
 dsimp only[Arx,List.headD_cons];rw[ne_nil (by rw[hs];decide),G5,Jy];dsimp only;rw[cond_false,List.headD_cons,e,Jy];dsimp only;rw[Em,Em,L8,L8];rfl
theorem At1 {m:Bs} (hm:m.length+64<N):Yz N (AfZ N sd) m (aX N sd m)=some 0:=by
 have hn:=h.n;obtain⟨e3,e4⟩:=Awi h hs hm;have e5:=At3 h (id_eq h hs).2 hs (FP 0) (by omega) e4;have hl:=Ada h (id_eq h hs).2 hs 0 (AiZ N sd m);have hk:=Ate h hs;have hi:=(id_eq h hs).2;have h4:(b4P 0).length=4:=rfl
 have hc:Ot N (AfZ N sd)=some 0:=by
  unfold Ot AfZ;try simp -zeta only[Ap]
  try dsimp only
  rw[show((List.length (idP N sd):Int) != 16)=false by rw[hi];rfl,show((List.length (zF N sd):Int) != 16)=false by rw[hk];rfl];rfl
 have hsl:(aX N sd m).length=564:=by unfold aX;rw[Dv,hl,h4]
 have c1:JB (aX N sd m) 0 4=b4P 0:=by unfold JB aX;rw[Gp (by omega)];rfl
 have c2:JB (aX N sd m) 4 564=zY N (idP N sd) sd 0 (AiZ N sd m):=by unfold JB;rw[EW (by omega)];unfold aX;exact H6 h4
 have hf:fQ N (aX N sd m)=some (0,true):=by
  unfold fQ;try simp -zeta only[Ap]
  rw[c1,hsl];obtain⟨M,rfl⟩: ∃ M,N=M+10:=⟨N - 10,by omega⟩
  rfl
 unfold Yz;try simp -zeta only[Ap]
 rw[hc,Jy,show((0:Int) != 0)=false from rfl,cond_false,hsl,hf,Jy];dsimp only[AfZ];rw[show((((564:Nat):Int)) != i64.wrap (564+i64.wrap (0*16)))=false from rfl,cond_false];refine(KD _ rfl).trans ?_;rw[DN (by decide: ¬(0:Int)>=i64.wrap (1*2 ^ min (u64.wrap 0).toNat 64)),cond_false];have e3':SN N (0,idP N sd,zF N sd) 0 m=_:=e3;rw[e3',Jy];refine(KD _ rfl).trans ?_;rw[c2,e5,Jy];dsimp only;rw[show((0:Int) != 0)=false from rfl,cond_false];refine(KD _ rfl).trans ?_;obtain⟨M,rfl⟩: ∃ M,N=M+10:=⟨N - 10,by omega⟩
 rw[Nu];dsimp only[U6,U4];rw[DN (by decide: ¬(0:Int)<0),cond_false];show(bif !(zF (M+10) sd==zF (M+10) sd)then _ else _)=_;rw[Em];rfl
end
set_option linter.unusedSectionVars false
section
variable {N:Nat} (h:Big N) {sd:Bs} (hs:sd.length=32)
include h hs
end
def W32 (w:List Int):List Int:=(List.range 8).flatMap fun i=>[u8.wrap ((w.getD i 0).fdiv 16777216),u8.wrap ((w.getD i 0).fdiv 65536),u8.wrap ((w.getD i 0).fdiv 256),u8.wrap (w.getD i 0)]
def kF (N:Nat) (t6g:List Int):Option Bs :=
 J8 (X:=Int×List Int) (Y:=(List Int)) (U2 fun t76h l1028672h k8 x9 =>
 bif decide (t76h<(t6g.length:Int))then(chk (decide ((0:Int)<=t76h)) <|
 chk (decide (t76h<(t6g.length:Int))) <|
 chk (decide ((l1028672h.length+4)*2<=140737488355328)) <|
 let y56576:List Int:=l1028672h++([u8.wrap ((t6g.getD t76h.toNat 0).fdiv (16777216)),u8.wrap ((t6g.getD t76h.toNat 0).fdiv (65536)),u8.wrap ((t6g.getD t76h.toNat 0).fdiv (256)),u8.wrap (t6g.getD t76h.toNat 0)]:List Int)
 k8 (i64.wrap (t76h+(1:Int)),y56576))
 else(x9 l1028672h))
 N (0,([]:List Int)) (fun l1032768i =>
 chk (List.all l1032768i isByte) <|
 some (List.map Vm.byteOf l1032768i))
def Af9:List Int:=[1779033703,3144134277,1013904242,2773480762,1359893119,2600822924,528734635,1541459225]
def blk4 (a b c d:UInt8):Bs:=[115,101,101,100,a,b,c,d,128]++List.replicate 54 0++[64]
def AjZ {α :Type} {b:Bool} {x y: α} (h:b=true):(bif b then x else y)=x:=by rw[h];rfl
def AjX {α :Type} {b:Bool} {x y: α} (h:b=false):(bif b then x else y)=y:=by rw[h];rfl
def A1m {α β ρ :Type} (f: α -> β -> ρ) (a: α) (b: β):U2 f (a,b)=f a b:=rfl
def A0d {α ρ :Type} [Inhabited α] {x y:Option α} {f g: α ->Option ρ} (h:x=y) (hf: ∀ r,f r=g r):Jt x f=Jt y g:=by rw[h,funext hf]
def At7 {α β γ δ ρ :Type} (f: α -> β -> γ -> δ -> ρ) (a: α) (b: β) (k: γ) (x: δ):U2 f (a,b) k x=f a b k x:=rfl
def A1n {α β ε γ δ ρ :Type} (f: α -> β -> ε -> γ -> δ -> ρ) (a: α) (b: β) (c: ε) (k: γ) (x: δ):U3 f (a,b,c) k x=f a b c k x:=rfl
def pd4:List Int:=[128]++List.replicate 54 0++[64]
def A3l (M:Nat) (a b c d:UInt8):xP (M+300) [[115,101,101,100],[a,b,c,d]]=Jt (Yj (M+300) Af9 (blk4 a b c d)) (kF (M+300)):=by
 unfold xP;try simp -zeta only[Ap]
 generalize Yj (M+300)=R;refine((?h1: ∀ K:Bs->Option Bs,J8 _ (M+300) (([]:Bs),(0:Int)) K=K [115,101,101,100,a,b,c,d]) _).trans ?_
 case h1 =>
  intro K
  iterate 2
   refine(Nu _ _ _ _).trans ?_;refine(At7 _ _ _ _ _).trans ?_;refine(AjZ (by kernel_rfl)).trans ?_
   iterate 3 refine(KD _ (by kernel_rfl)).trans ?_
  refine(Nu _ _ _ _).trans ?_;refine(At7 _ _ _ _ _).trans ?_;exact(AjX (by kernel_rfl)).trans rfl
 rw[oV];rw[show(i64.wrap (64 - (i64.wrap ((([115,101,101,100,a,b,c,d]:Bs).length:Int)+9)).tmod 64)==64)=false by kernel_rfl,cond_false];rw[show i64.wrap (64 - (i64.wrap ((([115,101,101,100,a,b,c,d]:Bs).length:Int)+9)).tmod 64)=47 by kernel_rfl];refine(A1m _ _ _).trans ?_
 iterate 5 refine(KD _ (by kernel_rfl)).trans ?_
 refine((?h2: ∀ K:List Int×List Int->Option Bs,J8 _ (M+300) ((0:Int),Af9,_) K=K (Af9,pd4)) _).trans ?_
 case h2 =>
  intro K
  iterate 8
   refine(Nu _ _ _ _).trans ?_;refine(A1n _ _ _ _ _ _).trans ?_;refine(AjZ (by kernel_rfl)).trans ?_
   iterate 4 refine(KD _ (by kernel_rfl)).trans ?_
  refine(Nu _ _ _ _).trans ?_;refine(A1n _ _ _ _ _ _).trans ?_;refine(AjX (by kernel_rfl)).trans ?_;exact congrArg (fun l=>K (Af9,l)) (D6 (by kernel_rfl))
 refine(A1m _ _ _).trans ?_
 iterate 2 refine(KD _ (by kernel_rfl)).trans ?_
 refine((?h3: ∀ K:List Int->Option Bs,J8 _ (M+300) (Af9,(0:Int)) K=Jt (R Af9 (blk4 a b c d)) K) _).trans ?_
 case h3 =>
  intro K;refine(Nu _ _ _ _).trans ?_;refine(At7 _ _ _ _ _).trans ?_;refine(AjZ (by kernel_rfl)).trans ?_
  iterate 3 refine(KD _ (by kernel_rfl)).trans ?_
  refine A0d (congrArg (R Af9) ?_) fun r=> ?_
  .rfl
  .refine(Nu _ _ _ _).trans ?_;refine(At7 _ _ _ _ _).trans ?_;exact AjX (by kernel_rfl)
 rfl
def A2e (M:Nat) (a b c d:UInt8):((Yj (M+300) Af9 (blk4 a b c d)).map List.length)=some 8:=by kernel_rfl
def kF8 (M:Nat) (a b c d e f g h:Int):kF (M+300) [a,b,c,d,e,f,g,h]=chk (List.all (W32 [a,b,c,d,e,f,g,h]) isByte) (some (List.map Vm.byteOf (W32 [a,b,c,d,e,f,g,h]))):=by kernel_rfl
def Aza (M:Nat) (p:Int): ∃ s,Tn (M+300) p=some s/\s.length=32:=by
 have e:AcL (M+300) p=some (b4P p):=by
  unfold AcL;try simp -zeta only[Ap]
  rw[KD _ (by simp [Tj])];rfl
 unfold Tn;rw[e,Jy];obtain⟨a,b,c,d,hb⟩: ∃ a b c d,b4P p=[a,b,c,d]:=⟨_,_,_,_,rfl⟩
 rw[hb,A3l];obtain⟨w,hw,hl⟩:=H9.1 (A2e M a b c d);rw[hw,Jy]
 match w,hl with
 | [a,b,c,d,e,f,g,h],_ =>rw[kF8,KD _ (by simp [W32,Tj,Gx]),Jy];exact⟨_,rfl,by simp [W32,Gx]⟩
abbrev Crt:Type:=Bs×Bs×Int×List (List Att)×List (List Att)×Int×Int×Int×Bs×Bs×Bool×Bool×Int×Int×List Bs×List Bs×List (Bs×Bs)×Int×Int×Int×List Gn×Bool×List Gn×List Gn×Bs×Bs×List Pt×List Pt×List Ex×Bs
structure A1a (se:Int) (is su:List (List Att)) (nb nf kh:Int) (ki kr:Bs) (x:Info):Prop where
 ne:is≠ []
 tt:nb<=nf
 se:1<=se/\se<=300
 is:okN is
 su:okN su
 nb:nb∈Xf
 nf:nf∈Xf
 kh:0<=kh/\kh<9
 ki:ki.length=16
 kr:kr.length=16
 x:OkI x
structure Aty (se:Int) (is z:List (List Att)) (nb nf kh:Int) (ki kr:Bs) (y:Info):Prop extends A1a se is z nb nf kh ki kr y where
 cs:y.2.1=true->z≠ []
def A1b:Crt->Prop
 | (_,_,se,is,su,nb,nf,kh,ki,kr,B,C,D,F,G,H,I,J,K,M,O,Q,R,S,T,U,V,W,X,_)=>Aty se is su nb nf kh ki kr (B,C,D,F,G,H,I,J,K,M,O,Q,R,S,T,U,V,W,X)
section
variable (N:Nat) (hN:1048700<N) {L:List Int} (hL:L.length<=9223372036854775807)
include hN hL
theorem Ayy {d:List Int×Int} (hd:KT L d):Ends (fun r=>((0<=r.1.1/\r.1.1<9)/\r.1.2.1.length=16/\r.1.2.2.length=16)/\KT L r.2) (Acy N d):=by
 unfold Acy;try simp only[clR]
 refine JM (nx N hL hd 50 (by omega) (by omega)) ?_;rintro ⟨r,e⟩ ⟨h0,h1,h2⟩;dsimp only at h0 h1 h2 ⊢;obtain⟨s,e2,hs⟩: ∃ s,Tn N r=some s/\s.length=32:=by have:=Aza (N - 300) r;rwa [show N - 300+300=N by omega]at this
 rw[e2,Jy];refine JM (nx N hL h2 9 (by omega) (by omega)) ?_;rintro ⟨r,e⟩ ⟨h0,h1,h2⟩;dsimp only at h0 h1 h2 ⊢;refine JC (Dp (by omega)) (JC (Dp (by omega)) (KG ⟨⟨⟨h0,h1⟩,?_,?_⟩,h2⟩))
 .dsimp only;unfold JB;rw[Et,DZ];omega
 .dsimp only;unfold JB;rw[Et,DZ];omega
theorem AvX {d:List Int×Int} (hd:KT L d):Ends (fun r=>A1b r.1/\KT L r.2) (Rl N d):=by
 unfold Rl;try simp only[clR]
 refine JM (nx N hL hd 300 (by omega) (by omega)) ?_;rintro ⟨se,d1⟩ ⟨s0,s1,hd⟩;dsimp only at s0 s1 hd ⊢;refine JM (nx N hL hd 16 (by omega) (by omega)) ?_;rintro ⟨q,d1⟩ ⟨q0,q1,hd⟩;dsimp only at q0 q1 hd ⊢;have aut1: ∀ v,(∃ j:Nat,j<16/\v=aut j)->okN v/\v≠ []:=fun v h=>by obtain⟨j,hj,rfl⟩:=h;have A:=ApN (N:=N) (by omega) hj;exact⟨A.ok,A.ne⟩
 refine JM (AnN (pJ N (by omega) q0 q1) aut1) fun is ⟨his,hne⟩=> ?_;refine JM (AmT N (by omega) hL hd) ?_;rintro ⟨su,d1⟩ ⟨hsu,hd⟩;dsimp only at hsu hd ⊢;refine JM (Atr N hL hd) ?_;rintro ⟨nb,d1⟩ ⟨hnb,hd⟩;dsimp only at hnb hd ⊢;refine JM (Atr N hL hd) ?_;rintro ⟨nf,d1⟩ ⟨hnf,hd⟩;dsimp only at hnf hd ⊢;refine JM (Ayy N hN hL hd) ?_;rintro ⟨⟨kh,ki,kr⟩,d1⟩ ⟨⟨hkh,hki,hkr⟩,hd⟩;dsimp only at hkh hki hkr hd ⊢;refine JM (A00 N (by omega) hL hd) ?_;rintro ⟨⟨B,C,D,F,G,H,I,J,K,M,O,Q,R,S,T,U,V,W,X⟩,a,b⟩ ⟨hx,hd⟩;dsimp only at hd ⊢;rw[w64 (by omega) (by omega)];refine iM (P:=fun y=>KT L (y.1,y.2.1)/\A1a y.2.2.1 y.2.2.2.1 y.2.2.2.2.1 y.2.2.2.2.2.1 y.2.2.2.2.2.2.1 y.2.2.2.2.2.2.2.1 y.2.2.2.2.2.2.2.2.1 y.2.2.2.2.2.2.2.2.2.1 y.2.2.2.2.2.2.2.2.2.2) (fun j hj=>JF (fun ht=>hj _ ⟨hd,⟨hne,by have:=D6 ht;dsimp only;omega,by dsimp only;omega,his,hsu,hnf,hnb,hkh,hki,hkr,hx⟩⟩) (fun ht=>hj _ ⟨hd,⟨hne,by have:=EL ht;dsimp only;omega,by dsimp only;omega,his,hsu,hnb,hnf,hkh,hki,hkr,hx⟩⟩)) ?_;clear hx his hsu hnb hnf hkh hki hkr hd hne;rintro ⟨a,b,se,is,su,nb,nf,kh,ki,kr,B,C,D,F,G,H,I,J,K,M,O,Q,R,S,T,U,V,W,X⟩ ⟨hd,hP⟩;dsimp only at hd hP;dsimp only[U29];try simp only[clR]
 refine JF (fun _=>JM (AnN (pJ N (by omega) (k:=1) (by omega) (by omega)) aut1) fun q ⟨hq,hne⟩=>KG ⟨(show Aty _ _ _ _ _ _ _ _ _ from⟨{hP with su:=hq},fun _=>hne⟩),hd⟩) (fun hs=>KG ⟨(show Aty _ _ _ _ _ _ _ _ _ from⟨hP,fun Q he=> ?_⟩),hd⟩);dsimp only at Q;rw[Q,he]at hs;cases hs
end
def Wl:Bs:=(NP 300).getD []
def Wn:Bs:=Wl.drop 2
def A1q (M:Nat):Bool:=NP (M+300)==some Wl&&(Tv (M+300)==some Wl&&(Oq (M+300) (JX 48 Wn)==some 0&&(Wl==Sp.elem 48 Wn&&(decide (Wn.length<=30)&&Sp.within (Wn.length+1) 3 Wn==0))))
def AzW (M:Nat):A1q M=true:=by kernel_rfl
structure Atw (N:Nat):Prop where
 enc:NP N=some Wl
 YR:Tv N=some Wl
 chk:Oq N (JX 48 Wn)=some 0
 eq:Wl=Sp.elem 48 Wn
 len:Wn.length<=30
 nest:XK 3 Wn
def Vk {N:Nat} (hN:1048578<N):Atw N:=by obtain⟨M,rfl⟩:=ofM hN;have h:=AzW M;unfold A1q at h;simp only[Dw,EG,DK]at h;obtain⟨h1,h2,h3,h4,h5,h6⟩:=h;exact⟨h1,h2,h3,h4,h5,h6⟩
def AiC {N:Nat} (h:Atw N):Wl.length<=35:=by have:=h.len;have:=Sp.JL 48 Wn;rw[h.eq];omega
def AlZ {N:Nat} (h:Atw N) {d:Nat} (hd:d<=2):Par d Wl [JX 48 Wn]:=by rw[h.eq];exact N8 (MN (by decide) (by decide) (by have:=h.len;omega)) (by omega) (Ath (by omega) h.nest)
section
variable {N:Nat} (hN:1048578<N) {x:Li} (h:OkL x)
include hN h
end
def A0P (M:Nat):(List.range 301).all (Au8 M)=true:=by kernel_rfl
def jP {N:Nat} (hN:1048578<N) {n:Int} (h0:0<=n) (h1:n<=300):AgN N n:=by
 obtain⟨M,rfl⟩:=ofM hN;obtain⟨k,rfl⟩: ∃ k:Nat,n=k:=⟨n.toNat,by omega⟩
 have h:=D7.1 (A0P M) k (ES.2 (by omega));unfold Au8 at h;simp only[Dw,EG,DK]at h;obtain⟨h1,h2,h3,h4⟩:=h;exact⟨h1,h2,h3,h4⟩
def A2j (N:Nat) (s:Bs):X6 N s 0=some true:=rfl
def AyL (N:Nat) {s:Bs} (hs:s.length<=60000):WS N s 0=some (0::s,0):=by
 unfold WS;try simp -zeta only[Ap]
 rw[A2j];try simp only[clR]
 refine(KD _ rfl).trans ?_;refine(KD _ (Dp (by simp;omega))).trans rfl
def Az1 (N:Nat) (s:Bs):Zk N (0::s)=some (s,0,0):=by
 have hlen:(0::s:Bs).length=s.length+1:=rfl;unfold Zk X6;try simp only[clR]
 have hcut:JB (0::s:Bs) 1 (0::s:Bs).length=s:=by rw[AaF];rfl
 rw[show((0::s:Bs)==[])=false from rfl,hcut];simp (disch:=first | assumption | omega) only[JO,hlen,EH,UInt8.toNat_zero,Option.isSome_some,Option.getD_some];try rfl
def keyS (k:Int) (i r:Bs):Bs:=Vm.byteOf (u8.wrap k)::(i++r)
def rF (k:Int) (i r:Bs):Bs:=Wl++Sp.elem 3 (0::keyS k i r)
def Ajj (k:Int) (i r:Bs):Bs:=Sp.elem 48 (rF k i r)
structure OkK (k:Int) (i r:Bs):Prop where
 k:0<=k/\k<9
 i:i.length=16
 r:r.length=16
section
variable {N:Nat} (hN:1048578<N) {k:Int} {i r:Bs} (h:OkK k i r)
include h
theorem Acv:(keyS k i r).length=33:=by unfold keyS;rw[List.length_cons,Dv,h.i,h.r]
theorem AnS:List.all [u8.wrap k] isByte=true/\i64.wrap (((Vm.byteOf (u8.wrap k)).toNat:Nat):Int)=k:=by
 have:=h.k;have:k=0\/k=1\/k=2\/k=3\/k=4\/k=5\/k=6\/k=7\/k=8:=by omega
 rcases this with rfl | rfl | rfl | rfl | rfl | rfl | rfl | rfl | rfl<;>exact⟨rfl,rfl⟩
theorem AnY:Ot N (k,i,r)=some 0:=by
 obtain⟨⟨a,b⟩,c,d⟩:=h;unfold Ot;try simp -zeta only[Ap]
 simp (disch:=first | assumption | omega) only[JO,c,d,Ej];try rfl
include hN
theorem Acu:(rF k i r).length<=80:=by have h1:=AiC (Vk hN);have h2:=Acv h;have h3:=Sp.JL 3 (0::keyS k i r);rw[List.length_cons]at h3;unfold rF;rw[Dv];omega
theorem Atf {d:Nat} (hd:d<=2):Par d (rF k i r) [JX 48 Wn,JX 3 (0::keyS k i r)] :=
 N7 (es:=[_]) (AlZ (Vk hN) hd) (Qd (MN (by decide) (by decide) (by rw[List.length_cons,Acv h];decide)) (by omega) (by decide))
end
structure Ce where
 se:Int
 is:List (List Att)
 su:List (List Att)
 nb:Int
 nf:Int
 kh:Int
 ki:Bs
 kr:Bs
 x:Info
abbrev Ce.c (C:Ce) (raw tbs sig:Bs):Crt:=(raw,tbs,C.se,C.is,C.su,C.nb,C.nf,C.kh,C.ki,C.kr,C.x.1,C.x.2.1,C.x.2.2.1,C.x.2.2.2.1,C.x.2.2.2.2.1,C.x.2.2.2.2.2.1,C.x.2.2.2.2.2.2.1,C.x.2.2.2.2.2.2.2.1,C.x.2.2.2.2.2.2.2.2.1,C.x.2.2.2.2.2.2.2.2.2.1,C.x.2.2.2.2.2.2.2.2.2.2.1,C.x.2.2.2.2.2.2.2.2.2.2.2.1,C.x.2.2.2.2.2.2.2.2.2.2.2.2.1,C.x.2.2.2.2.2.2.2.2.2.2.2.2.2.1,C.x.2.2.2.2.2.2.2.2.2.2.2.2.2.2.1,C.x.2.2.2.2.2.2.2.2.2.2.2.2.2.2.2.1,C.x.2.2.2.2.2.2.2.2.2.2.2.2.2.2.2.2.1,C.x.2.2.2.2.2.2.2.2.2.2.2.2.2.2.2.2.2.1,C.x.2.2.2.2.2.2.2.2.2.2.2.2.2.2.2.2.2.2,sig)
abbrev Ab9 (C:Ce):Prop:=Aty C.se C.is C.su C.nb C.nf C.kh C.ki C.kr C.x
def exO (x:Info):Bs:=bif (exI x).isEmpty then []else Sp.elem 163 (xsB (exI x))
def uN (C:Ce):Bs:=VL C.nb++VL C.nf
def Amg (C:Ce):List Bs:=[Sp.elem 160 (LX 2 2),LX 2 C.se,Wl,nmT C.is,Sp.elem 48 (uN C),nmT C.su,Ajj C.kh C.ki C.kr,exO C.x]
def yD (C:Ce):Bs:=Sp.elem 160 (LX 2 2)++(LX 2 C.se++(Wl++(nmT C.is++(Sp.elem 48 (uN C)++(nmT C.su++(Ajj C.kh C.ki C.kr++exO C.x))))))
def XN (C:Ce):Bs:=Sp.elem 48 (yD C)
def ApT (C:Ce):(Amg C).flatten=yD C:=by simp [Amg,yD]
def AkS {α :Type} {l:List α} (h:l.isEmpty=false):l≠ []:=by rintro rfl;cases h
section
variable {N:Nat} (hN:1048578<N)
include hN
theorem Am5 {x:Info} (h:OkI x) (h0:exI x≠ []):(xsC (exI x)).length<=91000:=by have h1:=Atv (Akz hN h h0) hN (m:=6020) fun e he=>(AaK hN h e he).2;have:=AgW h;omega
theorem A0n {x:Info} (h:OkI x):(exO x).length<=91010:=by
 unfold exO;cases hb:(exI x).isEmpty with
 | true=>exact Es _
 | false =>have:=Am5 hN h (AkS hb);have:=Sp.JL 48 (xsC (exI x));have:=Sp.JL 163 (xsB (exI x));unfold xsB at this ⊢;rw[cond_false];omega
theorem AgY {n:Int} (I:AgN N n) (t:Nat):(LX t n).length<=7:=by have:=I.len;have:=Sp.JL t (inB n);unfold LX;omega
variable {C:Ce} (h:Ab9 C)
include h
theorem Aht:(uN C).length<=50:=by have h1:=Ar2 (Sm hN h.nb);have h2:=Ar2 (Sm hN h.nf);unfold uN;rw[Dv];omega
theorem Aak:(yD C).length<=93000:=by have h1:=AgY hN (jP hN (n:=2) (by omega) (by omega)) 2;have h2:=Sp.JL 160 (LX 2 2);have h3:=AgY hN (jP hN (n:=C.se) (by have:=h.se;omega) h.se.2) 2;have h4:=AiC (Vk hN);have h5:=Abe hN h.is;have h6:=Abe hN h.su;have h7:=Aht hN h;have h8:=Sp.JL 48 (uN C);have h9:=Acu hN (⟨h.kh,h.ki,h.kr⟩:OkK C.kh C.ki C.kr);have h10:=Sp.JL 48 (rF C.kh C.ki C.kr);have h11:=A0n hN h.x;unfold yD Ajj;simp only[Dv];omega
theorem Aot (raw tbs sig:Bs):U0 N (C.c raw tbs sig)=some 0:=by
 have h1:=QX hN h.is;have h2:=QX hN h.su;have h3:Ot N (C.kh,C.ki,C.kr)=some 0:=AnY ⟨h.kh,h.ki,h.kr⟩;have h4:P9 N C.x=some 0:=Atc hN h.x;obtain⟨s1,s2⟩:=h.se;have p1:=Eo.2 h.ne;have T1:=Sm hN h.nb;have T2:=Sm hN h.nf
 have sp: ∀ {t:Int},Apo N t->YV N t=some true:=fun {t} T=>by
  have:=T.p0;have:=T.p1;unfold YV;try simp -zeta only[Ap]
  simp (disch:=first | assumption | omega) only[JO]
 have tt:=h.tt;have hc:=h.cs;obtain⟨se,is,su,nb,nf,kh,ki,kr,hb,ca,x⟩:=C;dsimp only at *
 unfold U0;try simp only[clR]
 have e:(ca&&((su.length:Int)==(0:Int)))=false:=by
  cases ca with
  | false=>rfl
  | true=>have:=Eo.2 (hc rfl);rw[GK];exact Uc (by omega)
 simp (disch:=first | assumption | omega) only[JO,h1,h2,h3,sp T1,sp T2,Option.isSome_some,Option.getD_some,e,Ej];exact(congrArg (fun o=>Jt o _) h4).trans rfl
end
def Ce.K (C:Ce):Ce:=⟨C.se,nmC C.is,nmC C.su,C.nb,C.nf,C.kh,C.ki,C.kr,inK C.x⟩
def AwT {n:List (List Att)} (h:n≠ []):nmC n≠ []:=fun e=>h (Fg.1 e)
section
variable {N:Nat} (hN:1048578<N) {C:Ce} (h:Ab9 C)
include hN h
theorem AvD:Ab9 C.K :=
 ⟨⟨AwT h.ne,h.tt,h.se,Ahe hN h.is,Ahe hN h.su,h.nb,h.nf,h.kh,h.ki,h.kr,Azv hN h.x⟩,fun hc=>AwT (h.cs hc)⟩
end
section
variable {N:Nat} (hN:1048578<N) {k:Int} {i r:Bs} (h:OkK k i r)
include hN h
theorem AuH:Xz N (Ajj k i r)=some ((k,i,r),0):=by
 have h1:=Acu hN h;have hB:=Sp.JL 48 (rF k i r);have o:SV N (Ajj k i r)=some (JX 48 (rF k i r),0):=by rw[XC N _ (by omega) (by unfold Ajj;omega)];exact congrArg some (rY 48 _ (by decide) (by decide) (by omega))
 have L:=Ou N (rF k i r) (by omega) (by omega) (by omega);rw[(Atf hN h (d:=0) (by decide)).list]at L;have hS:=Acv h;have b:=AnS h;have c1:JB (keyS k i r) 1 17=i:=by unfold keyS JB;show(i++r).take 16=i;rw[<- h.i,List.take_left'];rfl
 have c2:JB (keyS k i r) 17 (keyS k i r).length=r:=by unfold JB;rw[Ez];show(i++r).drop 16=r;rw[<- h.i,H6];rfl
 have c3:(keyS k i r).getD 0 0=Vm.byteOf (u8.wrap k):=rfl
 have e2:oO N 307 ((0,[],[]),JX 3 (0::keyS k i r))=some (0,k,i,r):=by
  rw[show ∀ a,oO N 307 a=PR N a.1 a.2 from fun _=>by kernel_rfl];unfold PR;try simp -zeta only[Ap]
  dsimp only[JX];rw[show(((3:Nat):Int) != 3)=false from rfl,cond_false,Az1,Jy];dsimp only;rw[c1,c2,c3,b.2,AnY h,hS];rfl
 have e1:oO N 306 ((0,[],[]),JX 48 Wn)=some (0,0,[],[]):=by rw[show ∀ a,oO N 306 a=NF N a.1 a.2 from fun _=>by kernel_rfl];unfold NF;rw[(Vk hN).chk,Jy]
 obtain⟨K,rfl⟩: ∃ K,N=K+3:=⟨N - 3,by omega⟩
 unfold Xz;try simp only[clR]
 rw[o,Jy];dsimp only;rw[show((0:Int) != 0)=false from rfl,cond_false,el1,el2,show(((48:Nat):Int) != 48)=false from rfl,cond_false,L,Jy];dsimp only;rw[show((0:Int) != 0)=false from rfl,cond_false,Nu];dsimp only[U6];refine(AjZ rfl).trans ?_;refine(KD _ rfl).trans ?_;refine(KD _ rfl).trans ?_;refine(KD _ rfl).trans ?_;refine(AjX rfl).trans ?_;refine(KD _ rfl).trans ?_;refine(congrArg (fun o=>Jt o _) e1).trans ?_;rw[Jy];dsimp only;rw[show((0:Int) != 0)=false from rfl,cond_false];refine(KD _ rfl).trans ?_;rw[Aya,Nu];dsimp only[U6];refine(AjZ rfl).trans ?_;refine(KD _ rfl).trans ?_;refine(KD _ rfl).trans ?_;refine(KD _ rfl).trans ?_;refine(AjX rfl).trans ?_;refine(KD _ rfl).trans ?_;refine(congrArg (fun o=>Jt o _) e2).trans ?_;rw[Jy];dsimp only;rw[show((0:Int) != 0)=false from rfl,cond_false];refine(KD _ rfl).trans ?_;rw[Aya,Nu];rfl
end
section
variable {N:Nat} (hN:1048578<N) {C:Ce} (h:Ab9 C)
include hN h
theorem AsO:Par 1 (yD C) (JX 160 (LX 2 2)::Au7 2 C.se::JX 48 Wn::JX 48 (nmB C.is)::JX 48 (uN C)::JX 48 (nmB C.su)::JX 48 (rF C.kh C.ki C.kr)::(bif !(exI C.x).isEmpty then [JX 163 (xsB (exI C.x))]else [])):=by
 have I2:=jP hN (n:=2) (by omega) (by omega);have Is:=jP hN (n:=C.se) (by have:=h.se;omega) h.se.2;have hv:=Aht hN h;have K:OkK C.kh C.ki C.kr:=⟨h.kh,h.ki,h.kr⟩
 have pI: ∀ {n:Int},AgN N n-> ∀ d,d<16->Par d (LX 2 n) [Au7 2 n]:=fun {n} I d hd=>Qd (Aq1 I (by decide) (by decide)) hd (by decide)
 refine N7 (es:=[_]) (N8 (MN (by decide) (by decide) (by have:=AgY hN I2 2;omega)) (by decide) (pI I2 2 (by decide)).nest) (N7 (es:=[_]) (pI Is 1 (by decide)) (N7 (es:=[_]) (AlZ (Vk hN) (by decide))
  (N7 (es:=[_]) (Ahc hN h.is (by decide)) (N7 (es:=[_]) (N8 (MN (by decide) (by decide) (by omega)) (by decide) (N7 (Ahs (Sm hN h.nb) (by decide)) (Ahs (Sm hN h.nf) (by decide))).nest)
  (N7 (es:=[_]) (Ahc hN h.su (by decide)) (N7 (es:=[_]) (N8 (MN (by decide) (by decide) (by have:=Acu hN K;omega)) (by decide) (Atf hN K (by decide)).nest) ?_))))))
 unfold exO;cases hb:(exI C.x).isEmpty with
 | true=>exact Ahj 1
 | false =>have h0:=AkS hb;have hl:=Am5 hN h.x h0;have:=Sp.JL 48 (xsC (exI C.x));have X:=Akz hN h.x h0;exact N8 (MN (by decide) (by decide) (by unfold xsB;omega)) (by decide) (N8 (A0Y X hN) (d:=2) (by decide) (Ax7 X hN (by decide)).nest).nest
theorem Ahu (raw tbs:Bs):Xo N (raw,tbs,0,[],[],0,0,0,[],[],false,false,0,0,[],[],[],0,0,0,[],false,[],[],[],[],[],[],[],[]) (yD C)=some (0,C.K.c raw tbs []):=by
 have hl:=Aak hN h;have h1:=Ou N (yD C) (by omega) (by omega) (by omega);rw[(AsO hN h).list]at h1;have I2:=jP hN (n:=2) (by omega) (by omega);have Is:=jP hN (n:=C.se) (by have:=h.se;omega) h.se.2;have hse:=h.se;have K:OkK C.kh C.ki C.kr:=⟨h.kh,h.ki,h.kr⟩
 have hv:=Aht hN h;have e1: ∀ r,Yt N (JX 160 (LX 2 2)::r)=some (0,r):=fun r=>by unfold Yt;rw[Xj 160 _ r (k:=160) rfl,Jy];dsimp only;rw[show((0:Int) != 0)=false from rfl,cond_false,el2];unfold LX;rw[AqR hN (Aq1 I2 (by decide) (by decide)) (k:=2) rfl,Jy];dsimp only;rw[show((0:Int) != 0)=false from rfl,cond_false,el2,I2.int];rfl
 have e2: ∀ r,fF N (Au7 2 C.se::r)=some (C.se,0,r):=fun r=>by
  unfold fF Au7;try simp -zeta only[Ap]
  rw[Xj 2 _ r (k:=2) rfl,Jy];dsimp only;rw[show((0:Int) != 0)=false from rfl,cond_false,el2,Is.int,Jy];simp (disch:=first | assumption | omega) only[JO]
 have e3: ∀ r,PY N (JX 48 Wn::r)=some (0,r):=fun r=>by unfold PY;rw[AjO,Jy];dsimp only;rw[show((0:Int) != 0)=false from rfl,cond_false,(Vk hN).chk];rfl
 have e4: ∀ {n:List (List Att)},okN n-> ∀ r,iD N (JX 48 (nmB n)::r)=some (nmC n,0,r):=fun {n} hn r=>by unfold iD;rw[Xj 48 _ r (k:=48) rfl,Jy];dsimp only;rw[show((0:Int) != 0)=false from rfl,cond_false,el3];refine(congrArg (fun o=>Jt o _) (zL hN hn)).trans rfl
 have tim: ∀ t,t∈Xf-> ∀ r,iE N (Ar3 t::r)=some (t,0,r):=fun t ht r=>by unfold iE Ar3;rw[AjO,Jy];dsimp only[JX];rw[show((0:Int) != 0)=false from rfl,cond_false,(Sm hN ht).dec];rfl
 have e5: ∀ r,Yr N (JX 48 (uN C)::r)=some (C.nb,C.nf,0,r):=fun r=>by unfold Yr;have hv2:X0 (uN C)=([Ar3 C.nb,Ar3 C.nf],0):=(N7 (Ahs (Sm hN h.nb) (d:=0) (by decide)) (Ahs (Sm hN h.nf) (by decide))).list;rw[wR hN (c:=uN C) (by omega) hv2,NW];dsimp only;rw[show((0:Int) != 0)=false from rfl,cond_false];refine(congrArg (fun o=>Jt o _) (tim _ h.nb _)).trans ?_;rw[Jy];dsimp only;rw[show((0:Int) != 0)=false from rfl,cond_false,tim _ h.nf,Jy];dsimp only;rw[show((0:Int) != 0)=false from rfl,cond_false,TY];rfl
 have e6: ∀ r,AbF N (JX 48 (rF C.kh C.ki C.kr)::r)=some ((C.kh,C.ki,C.kr),0,r):=fun r=>by unfold AbF;rw[Xj 48 _ r (k:=48) rfl,Jy];dsimp only;rw[show((0:Int) != 0)=false from rfl,cond_false,el3];refine(congrArg (fun o=>Jt o _) (AuH hN K)).trans rfl
 unfold Xo Qu;try simp only[clR]
 rw[h1,Jy];dsimp only;rw[show((0:Int) != 0)=false from rfl,cond_false,NW];dsimp only;rw[show((0:Int) != 0)=false from rfl,cond_false,e1,Jy];dsimp only;rw[show((0:Int) != 0)=false from rfl,cond_false,e2,Jy];dsimp only;rw[show((0:Int) != 0)=false from rfl,cond_false,e3,Jy];dsimp only;rw[show((0:Int) != 0)=false from rfl,cond_false,e4 h.is,Jy];dsimp only;rw[show((0:Int) != 0)=false from rfl,cond_false,e5,Jy];dsimp only;rw[show((0:Int) != 0)=false from rfl,cond_false,e4 h.su,Jy];dsimp only;rw[show((0:Int) != 0)=false from rfl,cond_false,e6,Jy];dsimp only;rw[show((0:Int) != 0)=false from rfl,cond_false,show Wu N=some none0 from rfl,Jy,Ae3,Jy];cases hb:(exI C.x).isEmpty with
 | true =>have hi:=Aig hN h.x;rw[Fe.1 hb]at hi;have hn:Rt N []=some (none0,0):=An6 hN (Es _) rfl (by obtain⟨M,rfl⟩:=ofM hN;kernel_rfl);rw[hn]at hi;have hi:none0=inK C.x:=(Prod.mk.inj (FU hi)).1;unfold Ce.K Ce.c;dsimp only;rw[<- hi,EK,cond_false,Aqz];dsimp only;rw[cond_false,TY];rfl
 | false =>have h0:=AkS hb;have hd:=Ax6 (Akz hN h.x h0) hN;rw[EY,cond_true,Aq0 (show((163:Nat):Int)=163 from rfl)];dsimp only;rw[cond_true,el2,hd,Jy];dsimp only;rw[show((0:Int) != 0)=false from rfl,cond_false,Aig hN h.x,Jy];dsimp only;rw[show((0:Int) != 0)=false from rfl,cond_false,TY];rfl
omit h in
theorem sgl {sig:Bs} (hs:sig.length<=600):(Wl++Sp.elem 3 (0::sig)).length<=700:=by have h2:=AiC (Vk hN);have h3:=Sp.JL 3 (0::sig);rw[List.length_cons]at h3;rw[Dv];omega
end
def sgC (C:Ce) (sig:Bs):Bs:=XN C++(Wl++Sp.elem 3 (0::sig))
def sgB (C:Ce) (sig:Bs):Bs:=Sp.elem 48 (sgC C sig)
section
variable {N:Nat} (hN:1048578<N) {C:Ce} (h:Ab9 C) {sig:Bs} (hs:sig.length<=600)
include hN h
theorem AxU:(XN C).length<=93005:=by have:=Aak hN h;have:=Sp.JL 48 (yD C);unfold XN;omega
include hs
theorem Axu:(sgC C sig).length<=94000:=by have:=AxU hN h;have:=sgl hN hs;unfold sgC;rw[Dv];omega
theorem AeL:P8 N (XN C) sig=some (sgB C sig,0):=by
 have hl:=Aak hN h;have hL:=Axu hN h hs;have h3:=Sp.JL 3 (0::sig);rw[List.length_cons]at h3;have f3:KA N false 3 [0::sig]=_:=A3m N 3 false [0::sig] (by omega) (by omega) hN (by simp) (by rw[Kw,List.length_cons];omega);rw[Kw]at f3;have f48:KR N false [XN C,Wl,Sp.elem 3 (0::sig)]=some (sgB C sig,false):=by unfold sgC at hL;rw[A1i N false _ (by show 3<N;omega) (by show 3<=_;omega),flat3,uO (by omega)];rfl
 have e:OW N false (XN C) sig=some (sgB C sig,false,XN C,sig):=by unfold OW;rw[(Vk hN).enc,Jy,AyL N (by omega),Jy];dsimp only;rw[A24,Jy];dsimp only;rw[f3,Jy];dsimp only;rw[f48,Jy]
 unfold P8 XN;rw[AqR hN (t:=48) (k:=48) (MN (by decide) (by decide) (by omega)) rfl,Jy];dsimp only;rw[show((0:Int) != 0)=false from rfl,cond_false];refine(congrArg (fun o=>Jt o _) e).trans ?_;rw[Jy];rfl
theorem Aal:Oh N (sgB C sig)=some (C.K.c (sgB C sig) (XN C) sig,0):=by
 have hl:=Aak hN h;have hL:=Axu hN h hs
 have hp:Par 0 (sgC C sig) [JX 48 (yD C),JX 48 Wn,JX 3 (0::sig)] :=
  N7 (es:=[_]) (N8 (MN (by decide) (by decide) (by omega)) (by decide) (AsO hN h).nest) (N7 (es:=[_]) (AlZ (Vk hN) (by decide)) (Qd (MN (by decide) (by decide) (by rw[List.length_cons];omega)) (by decide) (by decide)))
 have ho:QL N (sgB C sig) 48=some (.inl (_,0)):=Ahg hN (t:=48) (by omega) (by omega) (by omega) hp.list;have ht:=Ahu hN h (sgB C sig) (XN C);have hc:=Aot hN (AvD hN h) (sgB C sig) (XN C) sig;have e3: ∀ r,PY N (JX 48 Wn::r)=some (0,r):=fun r=>by unfold PY;rw[AjO,Jy];dsimp only;rw[show((0:Int) != 0)=false from rfl,cond_false,(Vk hN).chk];rfl
 have e7: ∀ r,Xp N (JX 3 (0::sig)::r)=some (sig,0,r):=fun r=>by unfold Xp;rw[Xj 3 _ r (k:=3) rfl,Jy];dsimp only;rw[show((0:Int) != 0)=false from rfl,cond_false,el2,Az1];rfl
 unfold Ce.c at ht hc ⊢;unfold Oh;try simp only[clR]
 rw[ho,NW];dsimp only;rw[show((0:Int) != 0)=false from rfl,cond_false,Xj 48 _ _ (k:=48) rfl,Jy];dsimp only;rw[show((0:Int) != 0)=false from rfl,cond_false,el2,el3];refine(congrArg (fun o=>Jt o _) ht).trans ?_;rw[Jy];dsimp only;rw[show((0:Int) != 0)=false from rfl,cond_false,e3,Jy];dsimp only;rw[show((0:Int) != 0)=false from rfl,cond_false,e7,Jy];dsimp only;rw[show((0:Int) != 0)=false from rfl,cond_false,TY,Jy];dsimp only;rw[Dt rfl,show((0:Int) != 0)=false from rfl,cond_false];refine(congrArg (fun o=>Jt o _) hc).trans ?_;rw[Jy];rfl
end
end Go.Proofs.YtfgdgdnlglejbaaGreatDoor.Pl
