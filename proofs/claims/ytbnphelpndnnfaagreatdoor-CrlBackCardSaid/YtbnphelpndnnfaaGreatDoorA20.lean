import Derived.Test.YtbnphelpndnnfaaGreatDoorA19
set_option linter.all false
namespace Go.Proofs.YtbnphelpndnnfaaGreatDoor.Pl
open IntKind (i64)
open Go Vm
theorem Aam (e:En):(enY e).1=e.1:=rfl
theorem Aan (e:En):(enY e).2.1=e.2.1:=rfl
theorem Aao (e:En):(enY e).2.2.1=e.re:=rfl
theorem Aap (e:En):(enY e).2.2.2.1=e.iv:=rfl
theorem Aaq (e:En):(enY e).2.2.2.2=aut e.k:=rfl
structure Li:Type where
  k:Nat
  this:Int
  next:Int
  num:Int
  base:Int
  ak:Bs
  hs:Bool
  s:Sc
  fr:List Pt
  es:List En
def akV:Bs:=[102,101,100,99,98,97,57,56,55,54,53,52,51,50,49,48]
def zE:En:=(0,0,0,0,0)
def zY:Ey:=(0,0,0,0,[])
abbrev Ly:Type:=Bs×Bs×List (List Att)×Int×Int×Int×Int×Bs×Bool×List Gn×Bool×Bool×Int×Bool×List Pt×List Ey×Bs
def Li.y (x:Li) (raw tbs sig:Bs):Ly:=(raw,tbs,aut x.k,x.this,x.next,x.num,x.base,x.ak,x.hs,x.s.1,x.s.2.1,x.s.2.2.1,x.s.2.2.2.1,x.s.2.2.2.2,x.fr,x.es.map enY,sig)
structure OkL (x:Li):Prop where
  k:x.k<16
  th:x.this∈Iz
  nx:x.next∈Iz
  le:x.this<=x.next
  n0:1<=x.num
  n1:x.num<=200
  b:x.base= -1\/(0<=x.base/\x.base<x.num)
  ak:x.ak=[]\/x.ak=akV
  sc:(x.hs=false/\x.s=zSc)\/(x.hs=true/\dS x.s)
  fr:x.fr=[]\/(x.base= -1/\X4 x.fr)
  len:x.es.length<=5
  all: ∀ e∈x.es,OkE x.base x.s.2.2.2.2 x.k e
  nd:x.es.Pairwise fun a b=> ¬(a.1=b.1/\a.k % 8=b.k % 8)
theorem Ut {α β :Type} (f: α -> β) (l:List α) (d: α) (c: β) {i:Nat} (h:i<l.length):(l.map f).getD i c=f (l.getD i d):=by
  rw[getD_lt _ _ _ (by rw[List.length_map];exact h),List.getElem_map,getD_lt l i d h]
theorem Oj (N:Nat) {a b c:Int} (h1:b<=a) (h2:a<=c):FB N a b c=some true:=by
  unfold FB
  try simp only[clR]
  rw[Abh h1,aG h2];rfl
def Tt (j:Nat) (s:Int) (e:En):Bool:=e.1==s&&e.k % 8==j % 8
section
variable {N:Nat} (hN:1048578<N)
include hN
theorem Aa9 {es:List En} (hk: ∀ e∈es,e.k<16) (hl:es.length<=100) {j:Nat} (hj:j<16) (s:Int):L8 N (es.map enY) (aut j) s=some (match (List.range es.length).find? fun i=>Tt j s (es.getD i zE)with | some i=>(i:Int) | none=> -1):=by
  have hlm:(es.map enY).length=es.length:=List.length_map _
  unfold L8;try simp -zeta only[Ap]
  refine(jP (X:=Int×List (List Att)) (fun i (_:Unit)=>(i,aut j)) (List.range es.length) 0 (fun _ _=>True) (fun i (_:Unit)=>if Tt j s (es.getD i zE)then(.inl (some (i:Int)):Option Int ⊕ Unit)else .inr ()) (fun _=>some (-1)) (fun i u hi _=> ?_) (fun u k _=> ?_) N () trivial (by rw[List.length_range];omega)).trans (nX _ (fun i=>(i:Int)) (-1) _)
  ·rw[List.length_range]at hi
   rw[Z7 hi]
   have hm:=(G9 hN (hk _ (getD_mem zE hi))).mt j hj
   have e1:=Ut enY es zE zY hi
   unfold zY at e1
   refine YL trivial fun k=> ?_
   dsimp only[U2]
   rw[hlm,Int.toNat_natCast,e1]
   unfold enY Tt
   simp (disch:=first | assumption | omega) only[Dj,hm,Option.isSome_some,Option.getD_some,NK,J3,I7,D7]
   cases (es.getD i zE).1==s<;>cases ((es.getD i zE).k % 8==j % 8)<;>rfl
  ·dsimp only[U2]
   rw[List.length_range,hlm,decide_eq_false (by omega)];rfl
theorem AaJ {es:List En} (hk: ∀ e∈es,e.k<16) (hl:es.length<=100) {j:Nat} (hj:j<16) (s:Int) {y:Ly} (hy:y.2.2.2.2.2.2.2.2.2.2.2.2.2.2.2.1=es.map enY):Ju N y (aut j) s=some (match (List.range es.length).find? fun i=>Tt j s (es.getD i zE)with | some i=>(enY (es.getD i zE),true) | none=>(zY,false)):=by
  have hlm:(es.map enY).length=es.length:=List.length_map _
  unfold Ju;try simp -zeta only[Ap]
  rw[hy]
  refine(jP (X:=Int×List (List Att)) (fun i (_:Unit)=>(i,aut j)) (List.range es.length) 0 (fun _ _=>True) (fun i (_:Unit)=>if Tt j s (es.getD i zE)then(.inl (some (enY (es.getD i zE),true)):Option (Ey×Bool) ⊕ Unit)else .inr ()) (fun _=>some (zY,false)) (fun i u hi _=> ?_) (fun u k _=> ?_) N () trivial (by rw[List.length_range];omega)).trans (nX _ (fun i=>(enY (es.getD i zE),true)) (zY,false) _)
  ·rw[List.length_range]at hi
   rw[Z7 hi]
   have hm:=(G9 hN (hk _ (getD_mem zE hi))).rmt j hj
   have e1:=Ut enY es zE zY hi
   unfold zY at e1
   refine YL trivial fun k=> ?_
   dsimp only[U2]
   rw[hlm,Int.toNat_natCast,e1]
   unfold enY Tt
   simp (disch:=first | assumption | omega) only[Dj,hm,Option.isSome_some,Option.getD_some,NK,J3,I7,D7]
   cases (es.getD i zE).1==s<;>cases ((es.getD i zE).k % 8==j % 8)<;>rfl
  ·dsimp only[U2]
   rw[List.length_range,hlm,decide_eq_false (by omega)];rfl
variable {x:Li} (h:OkL x)
include h
omit hN in
omit hN in
theorem Adk {i j:Nat} (hi:i<j) (hj:j<x.es.length):Tt (x.es.getD j zE).k (x.es.getD j zE).1 (x.es.getD i zE)=false:=by
  have:=List.pairwise_iff_getElem.1 h.nd i j (by omega) hj hi
  rw[getD_lt _ i zE (by omega),getD_lt _ j zE hj]
  unfold Tt
  rw[Bool.and_eq_false_iff]
  by_cases h1:(x.es[i]).1=(x.es[j]).1
  ·right;exact beq_false_of_ne fun e=>this ⟨h1,e⟩
  ·left;exact beq_false_of_ne h1
variable (raw tbs sig:Bs)
theorem rJ:Ik N (x.y raw tbs sig)=some 0:=by
  unfold Ik Li.y;try simp -zeta only[Ap]
  try dsimp only
  try simp only[clR]
  rcases h.sc with ⟨h1,h2⟩ | ⟨h1,S⟩
  ·rw[h1,h2]
   obtain⟨M,rfl⟩:=ofM hN
   kernel_rfl
  ·rw[h1]
   have hm:=oL S.re
   have hl:=S.ns.1
   have fin:iterG (X:=Int) (Y:=Unit) (fun t68b k16 x17=>bif decide (t68b<(x.s.1.length:Int))then(Vm.chk (decide ((0:Int)<=t68b))<|Vm.chk (decide (t68b<(x.s.1.length:Int)))<|callO (ER N (x.s.1.getD t68b.toNat (0,([]:Bs),([]:List (List Att)))) false) fun r73=>bif (r73 != (0:Int))then(some r73)else(k16 (i64.wrap (t68b+(1:Int)))))else(x17 ())) N 0 (fun _=>some 0)=some (0:Int):=YD hN S.ns
   have hn:decide ((x.s.1.length:Int)>16)=false:=Abi (by omega)
   have fin2:(bif (bitsI .andNot .i64 x.s.2.2.2.1 510 != (0:Int))then some 1 else bif decide ((x.s.1.length:Int)>16)then some 2 else iterG (X:=Int) (Y:=Unit) (fun t68b k16 x17=>bif decide (t68b<(x.s.1.length:Int))then(Vm.chk (decide ((0:Int)<=t68b))<|Vm.chk (decide (t68b<(x.s.1.length:Int)))<|callO (ER N (x.s.1.getD t68b.toNat (0,([]:Bs),([]:List (List Att)))) false) fun r73=>bif (r73 != (0:Int))then(some r73)else(k16 (i64.wrap (t68b+(1:Int)))))else(x17 ())) N 0 (fun _=>some 0))=some (0:Int):=by rw[hm,hn];exact fin
   clear fin
   rcases S.sh with ⟨g1,g2,g3⟩ | ⟨g1,g2,g3⟩ | ⟨g1,g2,g3⟩
   ·rw[g1,g2]
    cases hA:((x.s.1.length:Int)==0)<;>cases hB:x.s.2.2.2.1==0<;>cases hC:x.s.2.2.2.2<;>exact fin2
   ·rw[g1,g2]
    cases hA:((x.s.1.length:Int)==0)<;>cases hB:x.s.2.2.2.1==0<;>cases hC:x.s.2.2.2.2<;>exact fin2
   ·have hp:=List.length_pos_iff.2 g3
    rw[g1,g2]
    have hA:((x.s.1.length:Int)==0)=false:=Qm (by omega)
    rw[hA]
    cases hB:x.s.2.2.2.1==0<;>cases hC:x.s.2.2.2.2<;>exact fin2
theorem qM {i:Nat} (hi:i<x.es.length):JQ N (x.y raw tbs sig) (i:Int)=some 0:=by
  have hE:=h.all _ (getD_mem zE hi)
  have A:=G9 hN hE.k
  have e1:=Ut enY x.es zE zY hi
  have hlm:(x.es.map enY).length=x.es.length:=List.length_map _
  have hp:L8 N ((x.es.take i).map enY) (aut (x.es.getD i zE).k) (x.es.getD i zE).1=some (-1):=by
    rw[Aa9 hN (fun e he=>(h.all e (List.mem_of_mem_take he)).k) (by rw[List.length_take];have:=h.len;omega) hE.k]
    rw[List.find?_eq_none.2 fun j hj=> ?_]
    rw[List.length_take,List.mem_range]at hj
    rw[zM _ _ (by omega),Adk h (by omega) hi]
    decide
  have T:=F9 hN hE.ti
  have t0:=T.p0
  have t1:=T.p1
  have hiv: -1<=(x.es.getD i zE).iv/\(x.es.getD i zE).iv<=254033452799:=by
    rcases hE.iv with h | h
    ·rw[h];decide
    ·have T:=F9 hN h
     have:=T.p0
     have:=T.p1
     omega
  have s0:=hE.s0
  have s1:=hE.s1
  have hre:=hE.re
  have hr8:=hE.r8
  have hne:=sK A
  have hc:=IJ hN A.ok
  have hm:=A.mt x.k h.k
  have his:=hE.is
  have hind:MB N (x.y raw tbs sig)=some x.s.2.2.2.2:=by
    unfold MB Li.y;try simp -zeta only[Ap]
    try dsimp only
    simp (disch:=first | assumption | omega) only[Dj,J3,I7]
    rcases h.sc with ⟨h1,h2⟩ | ⟨h1,h2⟩
    ·rw[h1,h2];rfl
    ·rw[h1];rfl
  have hreason:MG N (x.es.getD i zE).re=some true:=by
    have: ∀ r∈reL,MG N r=some true:=by
      intro r hr
      obtain⟨M,rfl⟩:=ofM hN
      have:=List.all_eq_true.1 (show reL.all (fun r=>MG (M+300) r==some true)=true by kernel_rfl) r hr
      exact eq_of_beq this
    exact this _ hre
  have h8:((x.es.getD i zE).re==8&&x.base== -1)=false:=by
    cases h8:(x.es.getD i zE).re==8 with
    | false=>rfl
    | true=>exact beq_false_of_ne (hr8 (eq_of_beq h8))
  have h31:(!x.s.2.2.2.2&& !((x.es.getD i zE).k % 8==x.k % 8))=false:=by
    rcases his with h | h
    ·rw[h];rfl
    ·rw[h,beq_self_eq_true,Bool.not_true,Bool.and_false]
  have p1:=Oj N (a:=(x.es.getD i zE).1) (b:=1) (c:=4611686018427387904) s0 (by omega)
  have p2:=Oj N t0 t1
  have p3:=Oj N hiv.1 hiv.2
  unfold JQ;try simp -zeta only[Ap]
  rw[hind]
  unfold Li.y
  dsimp only
  rw[hlm,Int.toNat_natCast]
  unfold zY at e1
  rw[e1,xW,<- List.map_take]
  try simp only[clR]
  generalize x.es.getD i zE=e at *
  simp (disch:=first | assumption | omega) only[Dj,Aam,Aan,Aao,Aap,Aaq,p1,p2,p3,hreason,hc,hm,hp,h8,h31,sN,J3,I7,Option.isSome_some,Option.getD_some,bne_self_eq_false]
  try rfl
theorem bP:I4 N (x.y raw tbs sig)=some 0:=by
  have A:=G9 hN h.k
  have hp:=sK A
  have hc:=IJ hN A.ok
  have T1:=F9 hN h.th
  have T2:=F9 hN h.nx
  have a0:=T1.p0
  have a1:=T1.p1
  have a2:=T2.p0
  have a3:=T2.p1
  have a4:=h.le
  have a5:=h.n0
  have a6:=h.n1
  have hb: -1<=x.base/\x.base<=200:=by rcases h.b with h | h<;>omega
  have hb2:(x.base != -1&&decide (x.base>=x.num))=false:=by
    rcases h.b with h | h
    ·rw[h];rfl
    ·rw[Abg (by omega),Bool.and_false]
  have hak:x.ak.length<=32:=by rcases h.ak with h | h<;>rw[h]<;>decide
  have hfr:DU N x.fr=some 0:=by
    rcases h.fr with h | h
    ·rw[h]
     obtain⟨M,rfl⟩:=ofM hN
     kernel_rfl
    ·exact Z5 hN h.2
  have hfr2:(x.base != -1&&decide ((x.fr.length:Int)>0))=false:=by
    rcases h.fr with h | h
    ·rw[h];exact Bool.and_false _
    ·rw[h.1];rfl
  have hsc:Ik N (x.y raw tbs sig)=some 0:=rJ hN h raw tbs sig
  have hlm:(x.es.map enY).length=x.es.length:=List.length_map _
  have h5:=h.len
  have s1:=Oj N a0 a1
  have s2:=Oj N a2 a3
  have s3:=Oj N (a:=x.num) (b:=0) (c:=4611686018427387904) (by omega) (by omega)
  have s4:=Oj N (a:=x.base) (b:= -1) (c:=4611686018427387904) (by omega) (by omega)
  unfold I4
  try simp only[clR]
  rw[hsc]
  unfold Li.y
  dsimp only
  rw[hlm,hfr]
  rw[Qm (by omega),cond_false,hc,CW,show((0:Int) != 0)=false from rfl,cond_false,s1,CW]
  simp (disch:=first | assumption | omega) only[Dj,s2,s3,s4,hb2,hfr2,sN,J3,I7,Option.isSome_some,Option.getD_some,bne_self_eq_false]
  refine(Ew (fun i=>((i:Int),raw,tbs,aut x.k,x.this,x.next,x.num,x.base,x.ak,x.hs,x.s.1,x.s.2.1,x.s.2.2.1,x.s.2.2.2.1,x.s.2.2.2.2,x.fr,x.es.map enY,sig)) x.es.length (some 0) ?_ ?_ N (by omega))
  ·intro i hi k
   have he:=qM hN h raw tbs sig hi
   unfold Li.y at he
   dsimp only[U18]
   rw[aH (by omega),cond_true]
   refine(congrArg (fun o=>callO o _) he).trans ?_
   simp (disch:=first | assumption | omega) only[Dj,D7,bne_self_eq_false]
  ·intro k
   dsimp only[U18]
   rw[XM (by omega),cond_false]
end
end Go.Proofs.YtbnphelpndnnfaaGreatDoor.Pl
namespace Go.Proofs.YtbnphelpndnnfaaGreatDoor.Pl
open IntKind (i64)
open Go Vm
def LX:Bs:=(EE 300).getD []
def Lc:Bs:=LX.drop 2
def Acm (M:Nat):Bool:=EE (M+300)==some LX&&(SH (M+300)==some LX&&(FM (M+300) (Dp 48 Lc)==some 0&&(LX==Sp.elem 48 Lc&&(decide (Lc.length<=30)&&Sp.within (Lc.length+1) 3 Lc==0))))
theorem Abt (M:Nat):Acm M=true:=by kernel_rfl
structure uB (N:Nat):Prop where
  enc:EE N=some LX
  AaI:SH N=some LX
  chk:FM N (Dp 48 Lc)=some 0
  eq:LX=Sp.elem 48 Lc
  len:Lc.length<=30
  nest:Jw 3 Lc
theorem LY {N:Nat} (hN:1048578<N):uB N:=by
  obtain⟨M,rfl⟩:=ofM hN
  have h:=Abt M
  unfold Acm at h
  simp only[Bool.and_eq_true,beq_iff_eq,decide_eq_true_eq]at h
  obtain⟨h1,h2,h3,h4,h5,h6⟩:=h
  exact⟨h1,h2,h3,h4,h5,h6⟩
theorem YV {N:Nat} (h:uB N):LX.length<=35:=by
  have:=h.len
  have:=Sp.Dk 48 Lc
  rw[h.eq];omega
theorem sJ {N:Nat} (h:uB N) {d:Nat} (hd:d<=2):Par d LX [Dp 48 Lc]:=by
  rw[h.eq];exact EK (Fb (by decide) (by decide) (by have:=h.len;omega)) (by omega) (gZ (by omega) h.nest)
def Zk:Bs:=[50,46,53,46,50,57,46,51,53]
def Xr:Bs:=[50,46,53,46,50,57,46,50,48]
def Zj:Bs:=[50,46,53,46,50,57,46,50,55]
def Vr:Bs:=[50,46,53,46,50,57,46,50,56]
def Xu:Bs:=[50,46,53,46,50,57,46,52,54]
theorem AbE:Zk∈QH:=by decide
theorem Ab8:Xr∈QH:=by decide
theorem AbB:Zj∈QH:=by decide
theorem AbC:Vr∈QH:=by decide
theorem AbF:Xu∈QH:=by decide
def lx (x:Li):List Ex:=(bif !(x.ak==[])then [(Zk,false,Sp.elem 48 (Sp.elem 128 x.ak))]else [])++([(Xr,false,EX 2 x.num)]++((bif x.base != -1 then [(Zj,true,EX 2 x.base)]else [])++((bif x.hs then [(Vr,true,scB x.s)]else [])++(bif decide ((x.fr.length:Int)>0)then [(Xu,false,psB x.fr)]else []))))
def Em (x:Li) (i:Nat):Nat:=if i=0 then x.k else(x.es.getD (i - 1) zE).k
def esF (x:Li) (i:Nat):Bs:=enB (x.es.getD i zE) (Em x i)
def esB (x:Li):List Bs:=(List.range x.es.length).map (esF x)
def KY (x:Li):Bs:=bif decide ((x.es.length:Int)>0)then Sp.elem 48 (esB x).flatten else []
def wM (x:Li):List Bs:=[EX 2 1,LX,nmT (aut x.k),Gl x.this,Gl x.next,KY x,Sp.elem 160 (xsB (lx x))]
def Om (x:Li):Bs:=EX 2 1++(LX++(nmT (aut x.k)++(Gl x.this++(Gl x.next++(KY x++Sp.elem 160 (xsB (lx x)))))))
def DR (x:Li):Bs:=Sp.elem 48 (Om x)
theorem AaV (x:Li):(wM x).flatten=Om x:=by simp [wM,Om]
theorem oU {l:List Pt} {b:Int} (h:l=[]\/(b= -1/\X4 l)) (hb:decide ((l.length:Int)>0)=true):X4 l:=by
  rcases h with rfl | h
  ·cases hb
  ·exact h.2
section
variable {N:Nat} (hN:1048578<N) {x:Li} (h:OkL x)
include hN h
theorem Abd:Sp.chk (Sp.elem 48 (Sp.elem 128 x.ak))=0/\(Sp.elem 48 (Sp.elem 128 x.ak)).length<=40/\(x.ak==[]||I8 N (Sp.elem 48 (Sp.elem 128 x.ak))==some (x.ak,0))=true:=by
  rcases h.ak with h | h
  ·rw[h];exact⟨by kernel_rfl,of_decide_eq_true (by kernel_rfl),rfl⟩
  ·rw[h]
   obtain⟨M,rfl⟩:=ofM hN
   exact⟨by kernel_rfl,of_decide_eq_true (by kernel_rfl),by kernel_rfl⟩
theorem Ac3: ∀ e∈lx x,OkX e:=by
  intro e he
  have b0:=h.b
  have n0:=h.n0
  have n1:=h.n1
  have int: ∀ n:Int,0<=n->n<256->Sp.chk (EX 2 n)=0/\(EX 2 n).length<=8000:=fun n g0 g1=>by
    have I:=H5 hN g0 g1
    have:=I.len
    have:=Sp.Dk 2 (inB n)
    exact⟨NJ (NW I (by decide) (by decide)) fun h=>absurd h (by decide),by unfold EX;omega⟩
  unfold lx at he
  rcases List.mem_append.1 he with he | he
  ·cases hb: !(x.ak==[])with
   | false=>rw[hb]at he;cases he
   | true =>
     rw[hb]at he
     obtain⟨a1,a2,_⟩:=Abd hN h
     rw[List.mem_singleton.1 he]
     exact⟨AbE,a1,by show(Sp.elem 48 (Sp.elem 128 x.ak)).length<=_;omega⟩
  rcases List.mem_append.1 he with he | he
  ·obtain⟨a1,a2⟩:=int x.num (by omega) (by omega)
   rw[List.mem_singleton.1 he]
   exact⟨Ab8,a1,a2⟩
  rcases List.mem_append.1 he with he | he
  ·cases hb:x.base != -1 with
   | false=>rw[hb]at he;cases he
   | true =>
     rw[hb]at he
     have hb':x.base≠ -1:=by simpa using hb
     obtain⟨a1,a2⟩:=int x.base (by omega) (by omega)
     rw[List.mem_singleton.1 he]
     exact⟨AbB,a1,a2⟩
  rcases List.mem_append.1 he with he | he
  ·cases hb:x.hs with
   | false=>rw[hb]at he;cases he
   | true =>
     rw[hb]at he
     have S:dS x.s:=by
       rcases h.sc with ⟨h1,_⟩ | ⟨_,h1⟩
       ·rw[hb]at h1;cases h1
       ·exact h1
     have:=dI hN S
     have:=Sp.Dk 48 (scC x.s)
     rw[List.mem_singleton.1 he]
     exact⟨AbC,AcI hN S,by show(scB x.s).length<=_;unfold scB;omega⟩
  ·cases hb:decide ((x.fr.length:Int)>0)with
   | false=>rw[hb]at he;cases he
   | true =>
     rw[hb]at he
     have P:=oU h.fr hb
     have:=dA hN P
     have:=Sp.Dk 48 (psC x.fr)
     rw[List.mem_singleton.1 he]
     exact⟨AbF,AcD hN P,by show(psB x.fr).length<=_;unfold psB;omega⟩
theorem XR:zT (lx x):=by
  refine⟨?_,?_,Ac3 hN h,?_⟩
  all_goals
    unfold lx
    cases !(x.ak==[])<;>cases x.base != -1<;>cases x.hs<;>cases decide ((x.fr.length:Int)>0)<;>simp [Zk,Xr,Zj,Vr,Xu]
theorem Aau (raw tbs sig:Bs):FO N false (x.y raw tbs sig)=some (lx x,false):=by
  have b0:=h.b
  have n0:=h.n0
  have n1:=h.n1
  have wi: ∀ n:Int,0<=n->n<256->D6 N false n=some (EX 2 n,false):=fun n g0 g1=>by
    have I:=H5 hN g0 g1
    have w2:Dh N false 2 [inB n]=_:=Lt N 2 false [inB n] (by omega) (by omega) hN (by simp) (by rw[DC];have:=I.len;omega)
    rw[DC]at w2
    unfold D6
    rw[I.put,CW,w2];rfl
  have wn:=wi x.num (by omega) (by omega)
  have wb:(x.base != -1)=true->D6 N false x.base=some (EX 2 x.base,false):=fun hb=>by
    have hb':x.base≠ -1:=by simpa using hb
    exact wi _ (by omega) (by omega)
  have wa:Dh N false 128 [x.ak]=some (Sp.elem 128 x.ak,false)/\Dq N false [Sp.elem 128 x.ak]=some (Sp.elem 48 (Sp.elem 128 x.ak),false):=by
    have hl:x.ak.length<=16:=by
      rcases h.ak with h | h<;>rw[h]
      ·exact Nat.zero_le _
      ·decide
    have:=Sp.Dk 128 x.ak
    have w:=Lt N 128 false [x.ak] (by omega) (by omega) hN (by simp) (by rw[DC];omega)
    rw[DC]at w
    refine⟨w,?_⟩
    rw[LW N false _ (by show 1<N;omega) (by show 1<=_;omega),DC,Gp (by omega)];rfl
  have ws:x.hs=true->J7 N false x.s=some (scB x.s,false):=fun hb=>by
    rcases h.sc with ⟨h1,_⟩ | ⟨_,h1⟩
    ·rw[hb]at h1;cases h1
    ·exact zI hN h1
  have wp:decide ((x.fr.length:Int)>0)=true->Fg N x.fr=some (psB x.fr,0):=fun hb=>zF hN (oU h.fr hb)
  obtain⟨wa1,wa2⟩:=wa
  obtain⟨k,this,next,num,base,ak,hs,s,fr,es⟩:=x
  obtain⟨s1,s2,s3,s4,s5⟩:=s
  unfold FO lx Li.y
  try simp only[clR]
  dsimp only at *
  simp only[Hg]
  cases h1: !(ak==[])<;>cases h2:base != -1<;>cases h3:hs<;>cases h4:decide ((fr.length:Int)>0)
  all_goals
    try subst h3
    simp only[h2,h4,forall_const,true_implies]at wb ws wp
    try dsimp only at wb ws wp
    simp (disch:=first | assumption | omega) only[Dj,h1,h2,h4,wa1,wa2,wn,wb,ws,wp,Ho,bne_self_eq_false,U19,List.cons_append,List.nil_append,List.length_cons,List.length_nil]
    try rfl
end
end Go.Proofs.YtbnphelpndnnfaaGreatDoor.Pl
namespace Go.Proofs.YtbnphelpndnnfaaGreatDoor.Pl
open IntKind (i64)
open Go Vm
section
variable {N:Nat} (hN:1048578<N) {x:Li} (h:OkL x)
include h
theorem Aa2 {i:Nat} (hi:i<=x.es.length):Em x i<16:=by
  unfold Em
  by_cases h0:i=0
  ·rw[if_pos h0];exact h.k
  ·rw[if_neg h0];exact(h.all _ (getD_mem zE (by omega))).k
include hN
theorem es_len:(esB x).flatten.length<=17275:=by
  have:=KJ (g:=esF x) (M:=3455) (l:=List.range x.es.length) fun i hi=>Ab0 hN (h.all _ (getD_mem zE (List.mem_range.1 hi)))
  rw[List.length_range]at this
  have:=h.len
  unfold esB;omega
theorem Aat:(KY x).length<=17280:=by
  have:=es_len hN h
  have:=Sp.Dk 48 (esB x).flatten
  unfold KY
  cases decide ((x.es.length:Int)>0)with
  | true=>rw[cond_true];omega
  | false=>exact Nat.zero_le _
theorem Qk:(Om x).length<=59000:=by
  have h1:=(H5 hN (n:=1) (by omega) (by omega)).len
  have h2:=Sp.Dk 2 (inB 1)
  have h3:=YV (LY hN)
  have h4:=iC hN (G9 hN h.k).ok
  have h5:=QY (F9 hN h.th)
  have h6:=QY (F9 hN h.nx)
  have h7:=Aat hN h
  have h8:=xs_len (XR hN h) hN
  have h9:=Sp.Dk 48 (xsC (lx x))
  have h10:=Sp.Dk 160 (xsB (lx x))
  unfold xsB at h10
  unfold Om EX xsB
  rw[List.length_append,List.length_append,List.length_append,List.length_append,List.length_append,List.length_append]
  omega
theorem VC:(DR x).length<=59005:=by
  have:=Qk hN h
  have:=Sp.Dk 48 (Om x)
  unfold DR;omega
theorem tY:(xsB (lx x)).length<=40145:=by
  have:=xs_len (XR hN h) hN
  have:=Sp.Dk 48 (xsC (lx x))
  unfold xsB;omega
variable (raw tbs sig:Bs)
theorem xE (hc:I4 N (x.y raw tbs sig)=some 0):NM N (x.y raw tbs sig)=some (DR x,0):=by
  have hl:=h.len
  have hxs:=jY (XR hN h) hN
  have hxl:=tY hN h
  have htl:=Qk hN h
  have hep:=Aau hN h raw tbs sig
  have ha:=(LY hN).enc
  have hn:=YB hN (G9 hN h.k).ok
  have t1:=(F9 hN h.th).enc
  have t2:=(F9 hN h.nx).enc
  have I:=H5 hN (n:=1) (by omega) (by omega)
  have w2:Dh N false 2 [inB 1]=_:=Lt N 2 false [inB 1] (by omega) (by omega) hN (by simp) (by rw[DC];have:=I.len;omega)
  rw[DC]at w2
  have wi:D6 N false 1=some (EX 2 1,false):=by
    unfold D6
    rw[I.put,CW,w2];rfl
  have wx:Dh N false 160 [xsB (lx x)]=_:=Lt N 160 false [xsB (lx x)] (by omega) (by omega) hN (by simp) (by rw[DC];omega)
  rw[DC]at wx
  have wS:Dq N false (wM x)=some (DR x,false):=by
    rw[LW N false _ (by show 7<N;omega) (by show 7<=_;omega),AaV,Gp (by omega)];rfl
  have hes:=es_len hN h
  have we:Dq N false (esB x)=some (Sp.elem 48 (esB x).flatten,false):=by
    have:(esB x).length=x.es.length:=by unfold esB;rw[List.length_map,List.length_range]
    rw[LW N false _ (by omega) (by omega),Gp (by omega)];rfl
  have hlm:(x.es.map enY).length=x.es.length:=List.length_map _
  unfold NM
  try simp only[clR]
  rw[hc,CW,show((0:Int) != 0)=false from rfl,cond_false,Hg]
  have fin: ∀ e:Bs,e=KY x->U19 (fun t6a b33024_0a b33024_1a b33024_2a b33024_3a b33024_4a b33024_5a b33024_6a b33024_7a b33024_8a b33024_9a b33024_10a b33024_11a b33024_12a b33024_13a b33024_14a b33024_15a b33024_16a b37376_0a =>
      callO (D6 N b37376_0a 1) fun r47=>callO (EE N) fun r48=>callO (Ip N b33024_2a) fun r52=>callO (Dn N r47.2 r52.1 r52.2) fun r55=>callO (Eo N b33024_3a) fun r59=>callO (Dn N r55.2 r59.1 r59.2) fun r62=>callO (Eo N b33024_4a) fun r66=>callO (Dn N r62.2 r66.1 r66.2) fun r69 =>
      callO (FO N r69.2 (b33024_0a,b33024_1a,b33024_2a,b33024_3a,b33024_4a,b33024_5a,b33024_6a,b33024_7a,b33024_8a,b33024_9a,b33024_10a,b33024_11a,b33024_12a,b33024_13a,b33024_14a,b33024_15a,b33024_16a)) fun r75=>callO (Hu N r75.1) fun r76=>callO (Dn N r75.2 r76.1 r76.2) fun r79=>callO (Dh N r79.2 160 ([r79.1]:List Bs)) fun r81=>callO (Dq N r81.2 ([r47.1,r48,r55.1,r62.1,r69.1,t6a,r81.1]:List Bs)) fun r83=>callO (EZ N r83.2) fun r85=>bif r85.1 then(some (([]:Bs),(2:Int)))else(some (r83.1,0)))
      (e,raw,tbs,aut x.k,x.this,x.next,x.num,x.base,x.ak,x.hs,x.s.1,x.s.2.1,x.s.2.2.1,x.s.2.2.2.1,x.s.2.2.2.2,x.fr,x.es.map enY,sig,false)=some (DR x,0):=by
    intro e he
    subst he
    unfold wM at wS
    unfold Li.y at hep
    dsimp only[U19]
    rw[wi,CW,ha,CW,hn,CW]
    dsimp only
    rw[Ho,CW,t1,CW]
    dsimp only
    rw[Ho,CW,t2,CW]
    dsimp only
    rw[Ho,CW]
    dsimp only
    rw[hep,CW]
    dsimp only
    rw[hxs,CW]
    dsimp only
    rw[Ho,CW]
    dsimp only
    rw[wx,CW]
    dsimp only
    rw[wS,CW]
    rfl
  cases hb:decide ((x.es.length:Int)>0)with
  | false =>
    have hE:KY x=[]:=by unfold KY;rw[hb];rfl
    have hb2:decide (((x.y raw tbs sig).2.2.2.2.2.2.2.2.2.2.2.2.2.2.2.1.length:Int)>0)=false:=by
      show decide ((((x.es.map enY).length:Nat):Int)>0)=false
      rw[hlm];exact hb
    rw[hb2,cond_false]
    exact fin [] hE.symm
  | true =>
    have hE:KY x=Sp.elem 48 (esB x).flatten:=by unfold KY;rw[hb];rfl
    have hb2:decide (((x.y raw tbs sig).2.2.2.2.2.2.2.2.2.2.2.2.2.2.2.1.length:Int)>0)=true:=by
      show decide ((((x.es.map enY).length:Nat):Int)>0)=true
      rw[hlm];exact hb
    rw[hb2,cond_true]
    unfold Li.y at *
    dsimp only at *
    refine(Ew (fun i=>((i:Int),raw,tbs,aut x.k,x.this,x.next,x.num,x.base,x.ak,x.hs,x.s.1,x.s.2.1,x.s.2.2.1,x.s.2.2.2.1,x.s.2.2.2.2,x.fr,x.es.map enY,sig,aut (Em x i),false,(List.range i).map (esF x))) x.es.length (some (DR x,0)) ?_ ?_ N (by omega))
    ·intro i hi k
     have hE:=h.all _ (getD_mem zE hi)
     have e1:=Ut enY x.es zE zY hi
     have e2:=zH hN hE (p:=Em x i) (Aa2 h (by omega))
     have e3:(List.range i).map (esF x)++[enB (x.es.getD i zE) (Em x i)]=(List.range (i+1)).map (esF x):=by rw[List.range_succ,List.map_append];rfl
     have e4:((List.range i).map (esF x)).length=i:=by rw[List.length_map,List.length_range]
     unfold zY at e1
     dsimp only[U21]
     rw[hlm,Int.toNat_natCast,e1]
     simp (disch:=first | assumption | omega) only[Dj,e2,e4,e3,D7]
     try rfl
    ·intro k
     dsimp only[U21]
     rw[hlm,XM (by omega),cond_false]
     dsimp only[U19]
     rw[show(List.range x.es.length).map (esF x)=esB x from rfl,we,CW]
     exact fin _ hE.symm
end
end Go.Proofs.YtbnphelpndnnfaaGreatDoor.Pl
namespace Go.Proofs.YtbnphelpndnnfaaGreatDoor.Pl
open IntKind (i64)
open Go Vm
section
variable {N:Nat} (hN:1048578<N)
include hN
variable {x:Li} (h:OkL x)
include h
end
end Go.Proofs.YtbnphelpndnnfaaGreatDoor.Pl
namespace Go.Proofs.YtbnphelpndnnfaaGreatDoor.Pl
open IntKind (i64)
open Go Vm
def dK (x:Li):Nat->Nat
  | 0=>x.k
  | i+1=>bif (x.es.getD i zE).k % 8==Em x i % 8 then dK x i else(x.es.getD i zE).k
def GY (x:Li) (i:Nat):En:=((x.es.getD i zE).1,(x.es.getD i zE).2.1,(x.es.getD i zE).re,(x.es.getD i zE).iv,dK x (i+1))
def esK (x:Li):List En:=(List.range x.es.length).map (GY x)
def liK (x:Li):Li:=⟨x.k,x.this,x.next,x.num,x.base,x.ak,x.hs,scK x.s,x.fr.map ptK,esK x⟩
theorem y7 {e e':En} {p p':Nat} (a1:e.1=e'.1) (a2:e.2.1=e'.2.1) (h1:e.re=e'.re) (h2:e.iv=e'.iv) (h3:(e.k % 8==p % 8)=(e'.k % 8==p' % 8)) (h4:(e.k % 8==p % 8)=false->e.k=e'.k):enB e p=enB e' p':=by
  have hX:enX e p=enX e' p':=by
    unfold enX
    rw[h1,h2,h3]
    cases hb:(e'.k % 8==p' % 8)with
    | true=>rw[Bool.not_true,cond_false,cond_false]
    | false=>rw[h4 (h3.trans hb)]
  unfold enB enC enO
  rw[a1,a2,hX]
theorem sW (x:Li) (i:Nat):Em x (i+1)=(x.es.getD i zE).k:=rfl
section
variable {x:Li} (h:OkL x)
include h
theorem lY: ∀ i,i<=x.es.length->dK x i % 8=Em x i % 8/\dK x i<16:=by
  intro i
  induction i with
  | zero=>intro _;exact⟨rfl,h.k⟩
  | succ i ih =>
    intro hi
    obtain⟨h1,h2⟩:=ih (by omega)
    have hk:=(h.all _ (getD_mem zE (show i<x.es.length by omega))).k
    rw[sW]
    show(bif _ then _ else _) % 8=_/\(bif _ then _ else _)<16
    cases hb:(x.es.getD i zE).k % 8==Em x i % 8 with
    | true=>exact⟨h1.trans (eq_of_beq hb).symm,h2⟩
    | false=>exact⟨rfl,hk⟩
omit h in
theorem Qi:(esK x).length=x.es.length:=by unfold esK;rw[List.length_map,List.length_range]
omit h in
theorem Xe {i:Nat} (hi:i<x.es.length):(esK x).getD i zE=GY x i:=by
  unfold esK
  rw[getD_lt _ _ _ (by rw[List.length_map,List.length_range];exact hi),List.getElem_map,List.getElem_range]
theorem XP {i:Nat} (hi:i<x.es.length):(GY x i).k % 8=(x.es.getD i zE).k % 8:=by
  have:=(lY h (i+1) (by omega)).1
  rw[sW]at this
  exact this
theorem Abl {N:Nat} (hN:1048578<N):OkL (liK x):=by
  refine⟨h.k,h.th,h.nx,h.le,h.n0,h.n1,h.b,h.ak,?_,?_,?_,?_,?_⟩
  ·rcases h.sc with ⟨h1,h2⟩ | ⟨h1,h2⟩
   ·exact Or.inl ⟨h1,by show scK x.s=_;rw[h2];rfl⟩
   ·exact Or.inr ⟨h1,Acb hN h2⟩
  ·rcases h.fr with h1 | ⟨h1,h2⟩
   ·exact Or.inl (by show x.fr.map ptK=[];rw[h1];rfl)
   ·exact Or.inr ⟨h1,yV hN h2⟩
  ·show(esK x).length<=5
   rw[Qi];exact h.len
  ·intro e he
   obtain⟨i,hi,rfl⟩:=List.mem_map.1 he
   have hi:=List.mem_range.1 hi
   have E:=h.all _ (getD_mem zE hi)
   refine⟨E.s0,E.s1,E.ti,E.re,E.r8,E.iv,(lY h (i+1) (by omega)).2,?_⟩
   rcases E.is with h1 | h1
   ·exact Or.inl h1
   ·exact Or.inr ((XP h hi).trans h1)
  ·show(esK x).Pairwise _
   rw[List.pairwise_iff_getElem]
   intro i j hi hj hij hq
   rw[Qi]at hi hj
   rw[<- getD_lt _ i zE,<- getD_lt _ j zE,Xe hi,Xe hj]at hq
   have:=List.pairwise_iff_getElem.1 h.nd i j hi hj hij
   rw[<- getD_lt _ i zE,<- getD_lt _ j zE]at this
   exact this ⟨hq.1,(XP h hi).symm.trans (hq.2.trans (XP h hj))⟩
theorem Adg {i:Nat} (hi:i<x.es.length):enB (GY x i) (Em (liK x) i)=enB (x.es.getD i zE) (Em x i):=by
  have hl:Em (liK x) i % 8=Em x i % 8:=by
    unfold Em
    by_cases h0:i=0
    ·rw[if_pos h0,if_pos h0];rfl
    ·rw[if_neg h0,if_neg h0]
     show((esK x).getD (i - 1) zE).k % 8=_
     rw[Xe (by omega)];exact XP h (by omega)
  have e1:=XP h hi
  refine y7 (e:=GY x i) (e':=x.es.getD i zE) rfl rfl rfl rfl (by rw[e1,hl]) fun hb=> ?_
  rw[e1,hl]at hb
  show(bif (x.es.getD i zE).k % 8==Em x i % 8 then dK x i else(x.es.getD i zE).k)=_
  rw[hb];rfl
theorem Adr {N:Nat} (hN:1048578<N):DR (liK x)=DR x:=by
  have h1:esB (liK x)=esB x:=by
    unfold esB
    show(List.range (esK x).length).map _=_
    rw[Qi]
    refine List.map_congr_left fun i hi=> ?_
    have hi:=List.mem_range.1 hi
    unfold esF
    show enB ((esK x).getD i zE) _=_
    rw[Xe hi];exact Adg h hi
  have h2:lx (liK x)=lx x:=by
    have e1:(bif x.hs then [(Vr,true,scB (scK x.s))]else [])=(bif x.hs then [(Vr,true,scB x.s)]else []):=by
      rcases h.sc with ⟨h1,_⟩ | ⟨_,h1⟩
      ·rw[h1];rfl
      ·rw[Adq hN h1]
    have e2:(bif decide ((x.fr.length:Int)>0)then [(Xu,false,psB (x.fr.map ptK))]else [])=(bif decide ((x.fr.length:Int)>0)then [(Xu,false,psB x.fr)]else []):=by
      rcases h.fr with h1 | ⟨_,h1⟩
      ·rw[h1];rfl
      ·rw[Adp hN h1]
    unfold lx liK
    dsimp only
    rw[List.length_map,e1,e2]
  have h3:KY (liK x)=KY x:=by
    unfold KY
    rw[h1]
    unfold liK
    dsimp only
    rw[Qi]
  unfold DR Om
  rw[h2,h3]
  unfold liK
  rfl
end
end Go.Proofs.YtbnphelpndnnfaaGreatDoor.Pl
namespace Go.Proofs.YtbnphelpndnnfaaGreatDoor.Pl
open IntKind (i64)
open Go Vm
theorem yD {X Y S ρ :Type} {B:X->(X->Option ρ)->(Y->Option ρ)->Option ρ} {kx:Y->Option ρ} (mk:Nat->S->X) (n:Nat) (f:Nat->S->S) (fin:S->Option ρ)
    (h: ∀(i:Nat) (s:S),i<n-> ∀ k,B (mk i s) k kx=k (mk (i+1) (f i s)))
    (hend: ∀(s:S) (k:X->Option ρ),B (mk n s) k kx=fin s) (N:Nat) (s:S) (hN:n<N):iterG B N (mk 0 s) kx=fin ((List.range n).foldl (fun s i=>f i s) s):=by
  have key: ∀ m i s,i+m=n-> ∀ N,m<N->iterG B N (mk i s) kx=fin ((List.range' i m).foldl (fun s i=>f i s) s):=by
    intro m
    induction m with
    | zero =>
      intro i s hi N hN
      obtain⟨N,rfl⟩: ∃ K,N=K+1:=⟨N - 1,by omega⟩
      have hi:i=n:=hi
      subst hi
      rw[DW,hend];rfl
    | succ m ih =>
      intro i s hi N hN
      obtain⟨N,rfl⟩: ∃ K,N=K+1:=⟨N - 1,by omega⟩
      rw[DW,h i s (by omega),ih (i+1) _ (by omega) N (by omega)];rfl
  rw[List.range_eq_range']
  exact key n 0 s (by omega) N hN
theorem Aaw {α :Type} (p: α ->Bool): ∀(l:List α) (b:Bool),l.foldl (fun s x=>s||p x) b=(b||l.any p):=by
  intro l
  induction l with
  | nil=>intro b;simp
  | cons x r ih=>intro b;rw[List.foldl_cons,ih,List.any_cons,Bool.or_assoc]
def wK (r s:List Att):Bool:=(r.length==s.length)&&r.all (fun a=>s.any fun b=>a.1==b.1&&(a.2.1==b.2.1&&(a.2.2==b.2.2&&true)))
theorem AaK:(EG.all fun r=>wK r (VA r)&&decide (r.length<=2))=true:=by kernel_rfl
section
variable {N:Nat} (hN:1048578<N)
include hN
theorem qE (n m:List (List Att)) (hl:m.length=n.length) (hn:n.length<=1048576) (h: ∀ i,i<n.length->wK (n.getD i []) (m.getD i [])=true/\(n.getD i []).length<=1048576):DX N n m=some true:=by
  unfold DX
  try simp only[clR]
  rw[TR (by rw[hl]),cond_false]
  refine Ew (fun i=>((i:Int),n,m)) n.length (some true) ?_ ?_ N (by omega)
  ·intro i hi k
   obtain⟨h1,h2⟩:=h i hi
   unfold wK at h1
   rw[Bool.and_eq_true,beq_iff_eq,List.all_eq_true]at h1
   obtain⟨h3,h4⟩:=h1
   have him:i<m.length:=by omega
   dsimp only[U3]
   simp (disch:=first | assumption | omega) only[Dj,TR (show(((n.getD i []).length:Nat):Int)=(((m.getD i []).length:Nat):Int) by rw[h3])]
   refine Ew (fun j=>((j:Int),n,m)) (n.getD i []).length (k (((i+1:Nat):Int),n,m)) ?_ ?_ N (by omega)
   ·intro j hj k2
    have ha:=h4 _ (getD_mem ([],0,[]) hj)
    simp (disch:=first | assumption | omega) only[Dj]
    generalize (n.getD i []).getD j ([],0,[])=a at *
    refine(yD (S:=Bool) (fun q b=>(b,(q:Int),n,m,a.1,a.2.1,a.2.2)) (m.getD i []).length (fun q b=>b||(a.1==((m.getD i []).getD q ([],0,[])).1&&(a.2.1==((m.getD i []).getD q ([],0,[])).2.1&&(a.2.2==((m.getD i []).getD q ([],0,[])).2.2&&true)))) (fun b=>bif !b then some false else k2 (((j+1:Nat):Int),n,m)) ?_ ?_ N false (by omega)).trans ?_
    ·intro q b hq k3
     simp (disch:=first | assumption | omega) only[Dj]
     rfl
    ·intro b k3
     simp (disch:=first | assumption | omega) only[Dj]
     rfl
    ·rw[Aaw,Bool.false_or]
     obtain⟨b,hb,hb2⟩:=List.any_eq_true.1 ha
     obtain⟨q,hq,rfl⟩:=List.mem_iff_getElem.1 hb
     rw[List.any_eq_true.2 ⟨q,List.mem_range.2 hq,by rw[getD_lt (m.getD i []) q _ hq];exact hb2⟩]
     rfl
   ·intro k2
    simp (disch:=first | assumption | omega) only[Dj]
    rfl
  ·intro k
   simp (disch:=first | assumption | omega) only[Dj]
theorem UO {n:List (List Att)} (hn:okN n):DX N n (nmC n)=some true:=by
  have h3:=hn.1
  refine qE hN n (nmC n) (List.length_map _) (by omega) fun i hi=> ?_
  have hm:(nmC n).getD i []=VA (n.getD i []):=by
    unfold nmC
    rw[getD_lt _ _ _ (by rw[List.length_map];exact hi),List.getElem_map,getD_lt n i [] hi]
  have:=List.all_eq_true.1 AaK _ (hn.2 _ (getD_mem [] hi))
  rw[Bool.and_eq_true,decide_eq_true_eq]at this
  rw[hm]
  exact⟨this.1,by omega⟩
theorem mM {k:Nat} (hk:k<16):DX N (aut k) (aut k)=some true:=by
  have A:=G9 hN hk
  have:=UO hN A.ok
  rw[A.C]at this
  exact this
theorem TQ {l:List Gn} (hl:l.length<=1048576) (h: ∀ g∈l,okG g):Eb N l (l.map gnK)=some true:=by
  have hL:(l.map gnK).length=l.length:=List.length_map _
  unfold Eb
  try simp only[clR]
  rw[TR (by rw[hL]),cond_false]
  refine Ew (fun i=>(i:Int)) l.length (some true) ?_ ?_ N (by omega)
  ·intro i hi k
   have hn:okN (l.getD i (0,[],[])).2.2:=by
     rcases h _ (getD_mem (0,[],[]) hi)with h1 | ⟨n,hn,e⟩
     ·have:=List.all_eq_true.1 (show dP.all (fun g=>g.2.2.isEmpty)=true by decide) _ h1
      rw[List.isEmpty_iff]at this
      rw[this];exact⟨Nat.zero_le _,fun r hr=>by cases hr⟩
     ·rw[e];exact hn
   have h1:=UO hN hn
   have hm:(l.map gnK).getD i (0,[],[])=gnK (l.getD i (0,[],[])):=by
     rw[getD_lt _ _ _ (by rw[List.length_map];exact hi),List.getElem_map,getD_lt l i (0,[],[]) hi]
   have him:i<(l.map gnK).length:=by omega
   generalize l.map gnK=m at *
   simp (disch:=first | assumption | omega) only[Dj,hm]
   generalize l.getD i (0,[],[])=g at *
   unfold gnK
   simp only[h1,beq_self_eq_true,bne_self_eq_false,Option.isSome_some,Option.getD_some,Bool.true_or,Bool.or_true,DY,Bool.not_true,Bool.not_false,cond_false,cond_true,Bool.or_false]
   rfl
  ·intro k
   simp (disch:=first | assumption | omega) only[Dj]
theorem mO {l:List Pt} (hl:l.length<=1048576) (h: ∀ p∈l,okP p):FK N l (l.map ptK)=some true:=by
  have hL:(l.map ptK).length=l.length:=List.length_map _
  unfold FK
  try simp only[clR]
  rw[TR (by rw[hL]),cond_false]
  refine Ew (fun i=>(i:Int)) l.length (some true) ?_ ?_ N (by omega)
  ·intro i hi k
   have hp:=h _ (getD_mem ([],0,false,[]) hi)
   have hm:(l.map ptK).getD i ([],0,false,[])=ptK (l.getD i ([],0,false,[])):=by
     rw[getD_lt _ _ _ (by rw[List.length_map];exact hi),List.getElem_map,getD_lt l i ([],0,false,[]) hi]
   have him:i<(l.map ptK).length:=by omega
   generalize l.map ptK=m at *
   have h1:Eb N (l.getD i ([],0,false,[])).1 ((l.getD i ([],0,false,[])).1.map gnK)=some true:=by
     obtain⟨g,hg,e⟩:=hp.nm
     rw[e]
     exact TQ hN (l:=[g]) (by show 1<=_;omega) fun x hx=>by rw[List.mem_singleton.1 hx];exact hg
   have h2:DX N (l.getD i ([],0,false,[])).2.2.2 (nmC (l.getD i ([],0,false,[])).2.2.2)=some true:=by
     refine UO hN ?_
     rcases hp.is with ⟨_,e⟩ | ⟨_,e,_⟩
     ·rw[e];exact⟨Nat.zero_le _,fun r hr=>by cases hr⟩
     ·exact e
   simp (disch:=first | assumption | omega) only[Dj,hm]
   generalize l.getD i ([],0,false,[])=p at *
   unfold ptK
   simp only[h1,h2,CW,beq_self_eq_true,bne_self_eq_false,Option.isSome_some,Option.getD_some,Bool.true_or,Bool.or_true,DY,Bool.not_true,Bool.not_false,cond_false,cond_true,Bool.or_false,letB_eq]
   rfl
  ·intro k
   simp (disch:=first | assumption | omega) only[Dj]
end
end Go.Proofs.YtbnphelpndnnfaaGreatDoor.Pl
namespace Go.Proofs.YtbnphelpndnnfaaGreatDoor.Pl
open IntKind (i64)
open Go Vm
theorem yY {N:Nat} (hN:1048578<N) {t:Nat} {c:Bs} {k:Int} (h:Fine (t,c)) (hk:(t:Int)=k):Ep N (Sp.elem t c) k=some (Dp t c,0):=by
  have:=h.len
  have hB:=Sp.Dk t c
  rw[<- hk,JR N _ t hN (by dsimp only at this;omega)]
  exact congrArg some (LK t c h.lt h.low h.len)
def JM (e:En) (z:Ey) (y:Ex):Ey:=bif y.1==Vp then(z.1,z.2.1,e.re,z.2.2.2.1,z.2.2.2.2)else bif y.1==Vq then(z.1,z.2.1,z.2.2.1,e.iv,z.2.2.2.2)else(z.1,z.2.1,z.2.2.1,z.2.2.2.1,aut e.k)
def enZ (e:En) (p d:Nat):En:=(e.1,e.2.1,e.re,e.iv,bif e.k % 8==p % 8 then d else e.k)
theorem AdD (N:Nat) (z:Ey) (v:Bs):Hf N z (Vp,false,v)=callO (EM N v 10) fun r=>some (r.2,(z.1,z.2.1,r.1,z.2.2.2.1,z.2.2.2.2)):=by kernel_rfl
theorem AdE (N:Nat) (z:Ey) (v:Bs):Hf N z (Vq,false,v)=callO (KH N v) fun r=>some (r.2,(z.1,z.2.1,z.2.2.1,r.1,z.2.2.2.2)):=by kernel_rfl
theorem AdH (N:Nat) (z:Ey) (v:Bs):Hf N z (Xt,true,v)=callO (IW N v) fun r=>some (r.2,(z.1,z.2.1,z.2.2.1,z.2.2.2.1,r.1)):=by kernel_rfl
theorem AcS (e:En) (z:Ey) (v:Bs):JM e z (Vp,false,v)=(z.1,z.2.1,e.re,z.2.2.2.1,z.2.2.2.2):=by kernel_rfl
theorem AcT (e:En) (z:Ey) (v:Bs):JM e z (Vq,false,v)=(z.1,z.2.1,z.2.2.1,e.iv,z.2.2.2.2):=by kernel_rfl
theorem AcW (e:En) (z:Ey) (v:Bs):JM e z (Xt,true,v)=(z.1,z.2.1,z.2.2.1,z.2.2.2.1,aut e.k):=by kernel_rfl
theorem Acx (e:En) (p d:Nat):(enX e p).foldl (JM e) (e.1,e.2.1,0,-1,aut d)=enY (enZ e p d):=by
  have h1:(e.re != 0)=false->e.re=0:=fun h=>by simpa using h
  have h2:(e.iv != -1)=false->e.iv= -1:=fun h=>by simpa using h
  have a1: ∀ z:Ey,(bif e.re != 0 then [(Vp,false,EX 10 e.re)]else []).foldl (JM e) z=(z.1,z.2.1,(bif e.re != 0 then e.re else z.2.2.1),z.2.2.2.1,z.2.2.2.2):=fun z=>by
    cases e.re != 0 with
    | true=>exact AcS e z (EX 10 e.re)
    | false=>rfl
  have a2: ∀ z:Ey,(bif e.iv != -1 then [(Vq,false,Gl e.iv)]else []).foldl (JM e) z=(z.1,z.2.1,z.2.2.1,(bif e.iv != -1 then e.iv else z.2.2.2.1),z.2.2.2.2):=fun z=>by
    cases e.iv != -1 with
    | true=>exact AcT e z (Gl e.iv)
    | false=>rfl
  have a3: ∀ z:Ey,(bif !(e.k % 8==p % 8)then [(Xt,true,isB e.k)]else []).foldl (JM e) z=(z.1,z.2.1,z.2.2.1,z.2.2.2.1,(bif e.k % 8==p % 8 then z.2.2.2.2 else aut e.k)):=fun z=>by
    cases e.k % 8==p % 8 with
    | true=>rfl
    | false=>exact AcW e z (isB e.k)
  have b1:(bif e.re != 0 then e.re else 0)=e.re:=by
    cases hb:e.re != 0 with
    | true=>rfl
    | false=>exact(h1 hb).symm
  have b2:(bif e.iv != -1 then e.iv else -1)=e.iv:=by
    cases hb:e.iv != -1 with
    | true=>rfl
    | false=>exact(h2 hb).symm
  have b3:(bif e.k % 8==p % 8 then aut d else aut e.k)=aut (bif e.k % 8==p % 8 then d else e.k):=by cases e.k % 8==p % 8<;>rfl
  unfold enX
  rw[List.foldl_append,List.foldl_append,a1,a2,a3]
  dsimp only
  rw[b1,b2,b3]
  rfl
section
variable {N:Nat} (hN:1048578<N) {base:Int} {ind:Bool} {p q d:Nat} {e:En} (h:OkE base ind q e)
include hN h
theorem AcN {y:Ex} (hy:y∈enX e p) (z:Ey):Hf N z y=some (0,JM e z y):=by
  unfold enX at hy
  rcases List.mem_append.1 hy with hy | hy
  ·cases hb:e.re != 0 with
   | false=>rw[hb]at hy;cases hy
   | true =>
     rw[hb]at hy
     have hr:=Z8 h.re
     have I:=H5 hN (n:=e.re) (by omega) (by omega)
     have o:=yY hN (NW I (t:=10) (by decide) (by decide)) rfl
     have hi:EM N (EX 10 e.re) 10=some (e.re,0):=by
       unfold EM EX
       rw[show Ep N (Sp.elem 10 (inB e.re)) 10=_ from o,CW]
       show callO (GL N (inB e.re)) _=_
       rw[I.int];rfl
     rw[List.mem_singleton.1 hy,AdD,AcS,hi,CW]
  ·rcases List.mem_append.1 hy with hy | hy
   ·cases hb:e.iv != -1 with
    | false=>rw[hb]at hy;cases hy
    | true =>
      rw[hb]at hy
      have T:=F9 hN (h.iv.resolve_left (by simpa using hb))
      have:=T.len
      have hl:=QY T
      have hi:KH N (Gl e.iv)=some (e.iv,0):=by
        unfold KH
        rw[N9 N _ (by omega) (by omega),T.eq,Vu _ _ T.fine.lt T.fine.low T.fine.len,CW]
        show callO (Jc N ((GM e.iv).1:Int) (GM e.iv).2) _=_
        rw[T.dec];rfl
      rw[List.mem_singleton.1 hy,AdE,AcT,hi,CW]
   ·cases hb: !(e.k % 8==p % 8)with
    | false=>rw[hb]at hy;cases hy
    | true =>
      rw[hb]at hy
      obtain⟨_,_,hi⟩:=yG hN h.k
      rw[List.mem_singleton.1 hy,AdH,AcW,hi,CW]
theorem Aaj (hd:d<16):Jp N (Aal e p) (aut d)=some (enY (enZ e p d),0,[]):=by
  have cp:=Aby hN (G9 hN hd).ok
  have I:=H5 hN (n:=e.1) (by have:=h.s0;omega) (by have:=h.s1;omega)
  have T:=F9 hN h.ti
  have num: ∀ r,I9 N (gJ 2 e.1::r)=some (e.1,0,r):=fun r=>by
    unfold I9 gJ
    rw[Lu 2 _ r (k:=2) rfl,CW]
    dsimp only[Dp]
    rw[show((0:Int) != 0)=false from rfl,cond_false,I.int];rfl
  have tim: ∀ r,J8 N (XI e.2.1::r)=some (e.2.1,0,r):=fun r=>by
    unfold J8 XI
    rw[WA,CW]
    dsimp only[Dp]
    rw[show((0:Int) != 0)=false from rfl,cond_false,T.dec];rfl
  have hf:=Acx e p d
  unfold Jp Aal
  try simp only[clR]
  rw[cp,CW,num,CW]
  dsimp only
  rw[show((0:Int) != 0)=false from rfl,cond_false,tim,CW]
  dsimp only
  rw[show((0:Int) != 0)=false from rfl,cond_false,Hg,LV,CW]
  cases hb:decide (((enX e p).length:Int)>0)with
  | false =>
    have h0:enX e p=[]:=List.eq_nil_iff_length_eq_zero.2 (by have:=of_decide_eq_false hb;omega)
    rw[h0]at hf
    have hf:(e.1,e.2.1,(0:Int),(-1:Int),aut d)=enY (enZ e p d):=hf
    rw[<- hf]
    dsimp only[Vf,cond_false,U6]
    rw[Jb];rfl
  | true =>
    have X:=XO hN h (p:=p) (by have:=of_decide_eq_true hb;omega)
    have hl:=X.len
    have hx:=jX X hN
    rw[cond_true,o8 (t:=48) (k:=48) rfl]
    dsimp only[Dp]
    rw[cond_true,show Sp.elem 48 (xsC (enX e p))=xsB (enX e p)from rfl,hx,CW]
    dsimp only
    rw[show((0:Int) != 0)=false from rfl,cond_false]
    refine(Ew (fun i=>((i:Int),([]:List El),(((enX e p).take i).foldl (JM e) (e.1,e.2.1,0,-1,aut d)).1,(((enX e p).take i).foldl (JM e) (e.1,e.2.1,0,-1,aut d)).2.1,(((enX e p).take i).foldl (JM e) (e.1,e.2.1,0,-1,aut d)).2.2.1,(((enX e p).take i).foldl (JM e) (e.1,e.2.1,0,-1,aut d)).2.2.2.1,(((enX e p).take i).foldl (JM e) (e.1,e.2.1,0,-1,aut d)).2.2.2.2)) (enX e p).length (some (enY (enZ e p d),0,[])) ?_ ?_ N (by omega))
    ·intro i hi k
     have ht:=AcN hN h (getD_mem zX hi) (((enX e p).take i).foldl (JM e) (e.1,e.2.1,0,-1,aut d))
     have e1:((enX e p).take (i+1)).foldl (JM e) (e.1,e.2.1,0,-1,aut d)=JM e (((enX e p).take i).foldl (JM e) (e.1,e.2.1,0,-1,aut d)) ((enX e p).getD i zX):=by
       rw[List.take_add_one,List.getElem?_eq_getElem hi,List.foldl_append,getD_lt _ i zX hi];rfl
     rw[<- e1]at ht
     unfold zX at ht
     dsimp only[U7]
     rw[aH (by omega),cond_true,aG (by omega),DY,DY,Int.toNat_natCast]
     refine(congrArg (fun o=>callO o _) ht).trans ?_
     rw[CW]
     simp (disch:=first | assumption | omega) only[Dj,D7,bne_self_eq_false]
    ·intro k
     dsimp only[U7]
     rw[XM (by omega),cond_false,List.take_length,hf]
     dsimp only[U6]
     rw[Jb];rfl
end
section
variable {N:Nat} (hN:1048578<N) {x:Li} (h:OkL x)
include hN h
theorem Ab3:Par 1 (esB x).flatten ((List.range x.es.length).map fun i=>Dp 48 (enC (x.es.getD i zE) (Em x i))):=Qj fun i hi=>by
  have E:=h.all _ (getD_mem zE (List.mem_range.1 hi))
  exact EK (fO hN E) (by decide) (gZ (by decide) (nO hN E).nest)
theorem xX (h0:0<x.es.length):Ii N (esB x).flatten (aut x.k)=some ((esK x).map enY,0):=by
  have hl:=h.len
  have hb:=es_len hN h
  have h1:=G6 N (esB x).flatten (by omega) (by omega) (by omega)
  rw[(Ab3 hN h).list]at h1
  have hlm:((List.range x.es.length).map fun i=>Dp 48 (enC (x.es.getD i zE) (Em x i))).length=x.es.length:=by rw[List.length_map,List.length_range]
  unfold Ii EN Fh
  try simp only[clR]
  rw[h1,CW]
  dsimp only
  rw[show((0:Int) != 0)=false from rfl,cond_false,callE_inl,show((0:Int) != 0)=false from rfl,cond_false,CW]
  dsimp only
  rw[hlm,Qm (by omega),cond_false]
  refine(Ew (fun i=>(aut (dK x i),((List.range x.es.length).map fun i=>Dp 48 (enC (x.es.getD i zE) (Em x i))).drop i,((List.range i).map (GY x)).map enY)) x.es.length (some ((esK x).map enY,0)) ?_ ?_ N (by omega))
  ·intro i hi k
   have E:=h.all _ (getD_mem zE hi)
   have e1:((List.range x.es.length).map fun i=>Dp 48 (enC (x.es.getD i zE) (Em x i))).drop i=Dp 48 (enC (x.es.getD i zE) (Em x i))::((List.range x.es.length).map fun i=>Dp 48 (enC (x.es.getD i zE) (Em x i))).drop (i+1):=by
     rw[List.drop_eq_getElem_cons (by rw[hlm];exact hi),List.getElem_map,List.getElem_range]
   have e2:=jM hN (r:=((List.range x.es.length).map fun i=>Dp 48 (enC (x.es.getD i zE) (Em x i))).drop (i+1)) (fO hN E (p:=Em x i)).len (nO hN E).list
   have e3:=Aaj hN E (p:=Em x i) (lY h i (by omega)).2
   have e4:(((List.range i).map (GY x)).map enY).length=i:=by rw[List.length_map,List.length_map,List.length_range]
   have e5:enY (enZ (x.es.getD i zE) (Em x i) (dK x i))=enY (GY x i):=rfl
   have e6:((List.range i).map (GY x)).map enY++[enY (GY x i)]=((List.range (i+1)).map (GY x)).map enY:=by rw[List.range_succ,List.map_append,List.map_append];rfl
   have e7:((Dp 48 (enC (x.es.getD i zE) (Em x i))::((List.range x.es.length).map fun i=>Dp 48 (enC (x.es.getD i zE) (Em x i))).drop (i+1)).length:Int)=((x.es.length - i:Nat):Int):=by
     rw[List.length_cons,List.length_drop,hlm];omega
   rw[e5]at e3
   dsimp only[U3]
   rw[e1]
   show callO (some _) _=_
   rw[CW]
   dsimp only
   rw[e7,uY (by omega),cond_true,e2,callE_inl]
   dsimp only
   rw[show((0:Int) != 0)=false from rfl,cond_false,e3,CW]
   dsimp only
   rw[show((0:Int) != 0)=false from rfl,cond_false,lZ (by omega),DY,e6]
   rfl
  ·intro k
   have e1:((List.range x.es.length).map fun i=>Dp 48 (enC (x.es.getD i zE) (Em x i))).drop x.es.length=[]:=List.drop_eq_nil_of_le (by rw[hlm];exact Nat.le_refl _)
   dsimp only[U3]
   rw[e1]
   rfl
end
end Go.Proofs.YtbnphelpndnnfaaGreatDoor.Pl
namespace Go.Proofs.YtbnphelpndnnfaaGreatDoor.Pl
open IntKind (i64)
open Go Vm
def EF (x:Li) (z:Ly) (y:Ex):Ly:=bif y.1==Zk then(z.1,z.2.1,z.2.2.1,z.2.2.2.1,z.2.2.2.2.1,z.2.2.2.2.2.1,z.2.2.2.2.2.2.1,x.ak,z.2.2.2.2.2.2.2.2.1,z.2.2.2.2.2.2.2.2.2.1,z.2.2.2.2.2.2.2.2.2.2.1,z.2.2.2.2.2.2.2.2.2.2.2.1,z.2.2.2.2.2.2.2.2.2.2.2.2.1,z.2.2.2.2.2.2.2.2.2.2.2.2.2.1,z.2.2.2.2.2.2.2.2.2.2.2.2.2.2.1,z.2.2.2.2.2.2.2.2.2.2.2.2.2.2.2.1,z.2.2.2.2.2.2.2.2.2.2.2.2.2.2.2.2)else bif y.1==Xr then(z.1,z.2.1,z.2.2.1,z.2.2.2.1,z.2.2.2.2.1,x.num,z.2.2.2.2.2.2.1,z.2.2.2.2.2.2.2.1,z.2.2.2.2.2.2.2.2.1,z.2.2.2.2.2.2.2.2.2.1,z.2.2.2.2.2.2.2.2.2.2.1,z.2.2.2.2.2.2.2.2.2.2.2.1,z.2.2.2.2.2.2.2.2.2.2.2.2.1,z.2.2.2.2.2.2.2.2.2.2.2.2.2.1,z.2.2.2.2.2.2.2.2.2.2.2.2.2.2.1,z.2.2.2.2.2.2.2.2.2.2.2.2.2.2.2.1,z.2.2.2.2.2.2.2.2.2.2.2.2.2.2.2.2)else bif y.1==Zj then(z.1,z.2.1,z.2.2.1,z.2.2.2.1,z.2.2.2.2.1,z.2.2.2.2.2.1,x.base,z.2.2.2.2.2.2.2.1,z.2.2.2.2.2.2.2.2.1,z.2.2.2.2.2.2.2.2.2.1,z.2.2.2.2.2.2.2.2.2.2.1,z.2.2.2.2.2.2.2.2.2.2.2.1,z.2.2.2.2.2.2.2.2.2.2.2.2.1,z.2.2.2.2.2.2.2.2.2.2.2.2.2.1,z.2.2.2.2.2.2.2.2.2.2.2.2.2.2.1,z.2.2.2.2.2.2.2.2.2.2.2.2.2.2.2.1,z.2.2.2.2.2.2.2.2.2.2.2.2.2.2.2.2)else bif y.1==Vr then(z.1,z.2.1,z.2.2.1,z.2.2.2.1,z.2.2.2.2.1,z.2.2.2.2.2.1,z.2.2.2.2.2.2.1,z.2.2.2.2.2.2.2.1,true,(scK x.s).1,(scK x.s).2.1,(scK x.s).2.2.1,(scK x.s).2.2.2.1,(scK x.s).2.2.2.2,z.2.2.2.2.2.2.2.2.2.2.2.2.2.2.1,z.2.2.2.2.2.2.2.2.2.2.2.2.2.2.2.1,z.2.2.2.2.2.2.2.2.2.2.2.2.2.2.2.2)else(z.1,z.2.1,z.2.2.1,z.2.2.2.1,z.2.2.2.2.1,z.2.2.2.2.2.1,z.2.2.2.2.2.2.1,z.2.2.2.2.2.2.2.1,z.2.2.2.2.2.2.2.2.1,z.2.2.2.2.2.2.2.2.2.1,z.2.2.2.2.2.2.2.2.2.2.1,z.2.2.2.2.2.2.2.2.2.2.2.1,z.2.2.2.2.2.2.2.2.2.2.2.2.1,z.2.2.2.2.2.2.2.2.2.2.2.2.2.1,x.fr.map ptK,z.2.2.2.2.2.2.2.2.2.2.2.2.2.2.2.1,z.2.2.2.2.2.2.2.2.2.2.2.2.2.2.2.2)
def vU:List (Bs×Bool):=[(Xr,true)]
def gY (m:List (Bs×Bool)) (y:Ex):List (Bs×Bool):=mdel (.str .nil) y.1 m
theorem AbM (x:Li):(lx x).foldl gY vU=[]:=by
  unfold lx
  cases !(x.ak==[])<;>cases x.base != -1<;>cases x.hs<;>cases decide ((x.fr.length:Int)>0)<;>rfl
def liZ (x:Li) (raw tbs:Bs):Ly:=(raw,tbs,aut x.k,x.this,x.next,0,-1,[],false,[],false,false,0,false,[],(esK x).map enY,[])
theorem AdI (N:Nat) (z:Ly) (v:Bs):FP N z (Zk,false,v)=callO (I8 N v) fun r=>some (r.2,(z.1,z.2.1,z.2.2.1,z.2.2.2.1,z.2.2.2.2.1,z.2.2.2.2.2.1,z.2.2.2.2.2.2.1,r.1,z.2.2.2.2.2.2.2.2.1,z.2.2.2.2.2.2.2.2.2.1,z.2.2.2.2.2.2.2.2.2.2.1,z.2.2.2.2.2.2.2.2.2.2.2.1,z.2.2.2.2.2.2.2.2.2.2.2.2.1,z.2.2.2.2.2.2.2.2.2.2.2.2.2.1,z.2.2.2.2.2.2.2.2.2.2.2.2.2.2.1,z.2.2.2.2.2.2.2.2.2.2.2.2.2.2.2.1,z.2.2.2.2.2.2.2.2.2.2.2.2.2.2.2.2)):=by kernel_rfl
theorem AdC (N:Nat) (z:Ly) (v:Bs):FP N z (Xr,false,v)=callO (EM N v 2) fun r=>some (r.2,(z.1,z.2.1,z.2.2.1,z.2.2.2.1,z.2.2.2.2.1,r.1,z.2.2.2.2.2.2.1,z.2.2.2.2.2.2.2.1,z.2.2.2.2.2.2.2.2.1,z.2.2.2.2.2.2.2.2.2.1,z.2.2.2.2.2.2.2.2.2.2.1,z.2.2.2.2.2.2.2.2.2.2.2.1,z.2.2.2.2.2.2.2.2.2.2.2.2.1,z.2.2.2.2.2.2.2.2.2.2.2.2.2.1,z.2.2.2.2.2.2.2.2.2.2.2.2.2.2.1,z.2.2.2.2.2.2.2.2.2.2.2.2.2.2.2.1,z.2.2.2.2.2.2.2.2.2.2.2.2.2.2.2.2)):=by kernel_rfl
theorem AdF (N:Nat) (z:Ly) (v:Bs):FP N z (Zj,true,v)=callO (EM N v 2) fun r=>some (r.2,(z.1,z.2.1,z.2.2.1,z.2.2.2.1,z.2.2.2.2.1,z.2.2.2.2.2.1,r.1,z.2.2.2.2.2.2.2.1,z.2.2.2.2.2.2.2.2.1,z.2.2.2.2.2.2.2.2.2.1,z.2.2.2.2.2.2.2.2.2.2.1,z.2.2.2.2.2.2.2.2.2.2.2.1,z.2.2.2.2.2.2.2.2.2.2.2.2.1,z.2.2.2.2.2.2.2.2.2.2.2.2.2.1,z.2.2.2.2.2.2.2.2.2.2.2.2.2.2.1,z.2.2.2.2.2.2.2.2.2.2.2.2.2.2.2.1,z.2.2.2.2.2.2.2.2.2.2.2.2.2.2.2.2)):=by kernel_rfl
theorem AdG (N:Nat) (z:Ly) (v:Bs):FP N z (Vr,true,v)=callO (J6 N v) fun r=>some (r.2,(z.1,z.2.1,z.2.2.1,z.2.2.2.1,z.2.2.2.2.1,z.2.2.2.2.2.1,z.2.2.2.2.2.2.1,z.2.2.2.2.2.2.2.1,true,r.1.1,r.1.2.1,r.1.2.2.1,r.1.2.2.2.1,r.1.2.2.2.2,z.2.2.2.2.2.2.2.2.2.2.2.2.2.2.1,z.2.2.2.2.2.2.2.2.2.2.2.2.2.2.2.1,z.2.2.2.2.2.2.2.2.2.2.2.2.2.2.2.2)):=by kernel_rfl
theorem AdJ (N:Nat) (z:Ly) (v:Bs):FP N z (Xu,false,v)=callO (Ff N v) fun r=>some (r.2,(z.1,z.2.1,z.2.2.1,z.2.2.2.1,z.2.2.2.2.1,z.2.2.2.2.2.1,z.2.2.2.2.2.2.1,z.2.2.2.2.2.2.2.1,z.2.2.2.2.2.2.2.2.1,z.2.2.2.2.2.2.2.2.2.1,z.2.2.2.2.2.2.2.2.2.2.1,z.2.2.2.2.2.2.2.2.2.2.2.1,z.2.2.2.2.2.2.2.2.2.2.2.2.1,z.2.2.2.2.2.2.2.2.2.2.2.2.2.1,r.1,z.2.2.2.2.2.2.2.2.2.2.2.2.2.2.2.1,z.2.2.2.2.2.2.2.2.2.2.2.2.2.2.2.2)):=by kernel_rfl
theorem AcX (x:Li) (z:Ly) (v:Bs):EF x z (Zk,false,v)=(z.1,z.2.1,z.2.2.1,z.2.2.2.1,z.2.2.2.2.1,z.2.2.2.2.2.1,z.2.2.2.2.2.2.1,x.ak,z.2.2.2.2.2.2.2.2.1,z.2.2.2.2.2.2.2.2.2.1,z.2.2.2.2.2.2.2.2.2.2.1,z.2.2.2.2.2.2.2.2.2.2.2.1,z.2.2.2.2.2.2.2.2.2.2.2.2.1,z.2.2.2.2.2.2.2.2.2.2.2.2.2.1,z.2.2.2.2.2.2.2.2.2.2.2.2.2.2.1,z.2.2.2.2.2.2.2.2.2.2.2.2.2.2.2.1,z.2.2.2.2.2.2.2.2.2.2.2.2.2.2.2.2):=by kernel_rfl
theorem AcR (x:Li) (z:Ly) (v:Bs):EF x z (Xr,false,v)=(z.1,z.2.1,z.2.2.1,z.2.2.2.1,z.2.2.2.2.1,x.num,z.2.2.2.2.2.2.1,z.2.2.2.2.2.2.2.1,z.2.2.2.2.2.2.2.2.1,z.2.2.2.2.2.2.2.2.2.1,z.2.2.2.2.2.2.2.2.2.2.1,z.2.2.2.2.2.2.2.2.2.2.2.1,z.2.2.2.2.2.2.2.2.2.2.2.2.1,z.2.2.2.2.2.2.2.2.2.2.2.2.2.1,z.2.2.2.2.2.2.2.2.2.2.2.2.2.2.1,z.2.2.2.2.2.2.2.2.2.2.2.2.2.2.2.1,z.2.2.2.2.2.2.2.2.2.2.2.2.2.2.2.2):=by kernel_rfl
theorem AcU (x:Li) (z:Ly) (v:Bs):EF x z (Zj,true,v)=(z.1,z.2.1,z.2.2.1,z.2.2.2.1,z.2.2.2.2.1,z.2.2.2.2.2.1,x.base,z.2.2.2.2.2.2.2.1,z.2.2.2.2.2.2.2.2.1,z.2.2.2.2.2.2.2.2.2.1,z.2.2.2.2.2.2.2.2.2.2.1,z.2.2.2.2.2.2.2.2.2.2.2.1,z.2.2.2.2.2.2.2.2.2.2.2.2.1,z.2.2.2.2.2.2.2.2.2.2.2.2.2.1,z.2.2.2.2.2.2.2.2.2.2.2.2.2.2.1,z.2.2.2.2.2.2.2.2.2.2.2.2.2.2.2.1,z.2.2.2.2.2.2.2.2.2.2.2.2.2.2.2.2):=by kernel_rfl
theorem AcV (x:Li) (z:Ly) (v:Bs):EF x z (Vr,true,v)=(z.1,z.2.1,z.2.2.1,z.2.2.2.1,z.2.2.2.2.1,z.2.2.2.2.2.1,z.2.2.2.2.2.2.1,z.2.2.2.2.2.2.2.1,true,(scK x.s).1,(scK x.s).2.1,(scK x.s).2.2.1,(scK x.s).2.2.2.1,(scK x.s).2.2.2.2,z.2.2.2.2.2.2.2.2.2.2.2.2.2.2.1,z.2.2.2.2.2.2.2.2.2.2.2.2.2.2.2.1,z.2.2.2.2.2.2.2.2.2.2.2.2.2.2.2.2):=by kernel_rfl
theorem AcY (x:Li) (z:Ly) (v:Bs):EF x z (Xu,false,v)=(z.1,z.2.1,z.2.2.1,z.2.2.2.1,z.2.2.2.2.1,z.2.2.2.2.2.1,z.2.2.2.2.2.2.1,z.2.2.2.2.2.2.2.1,z.2.2.2.2.2.2.2.2.1,z.2.2.2.2.2.2.2.2.2.1,z.2.2.2.2.2.2.2.2.2.2.1,z.2.2.2.2.2.2.2.2.2.2.2.1,z.2.2.2.2.2.2.2.2.2.2.2.2.1,z.2.2.2.2.2.2.2.2.2.2.2.2.2.1,x.fr.map ptK,z.2.2.2.2.2.2.2.2.2.2.2.2.2.2.2.1,z.2.2.2.2.2.2.2.2.2.2.2.2.2.2.2.2):=by kernel_rfl
section
variable {N:Nat} (hN:1048578<N) {x:Li} (h:OkL x)
include h
theorem Acy (raw tbs:Bs):(lx x).foldl (EF x) (liZ x raw tbs)=(liK x).y raw tbs []:=by
  have h1:(!(x.ak==[]))=false->x.ak=[]:=fun h=>by simpa using h
  have h2:(x.base != -1)=false->x.base= -1:=fun h=>by simpa using h
  have h3:x.hs=false->x.s=zSc:=fun hb=>by
    rcases h.sc with ⟨_,h1⟩ | ⟨h1,_⟩
    ·exact h1
    ·rw[hb]at h1;cases h1
  have h4:decide ((x.fr.length:Int)>0)=false->x.fr=[]:=fun hb=>by
    cases hq:x.fr with
    | nil=>rfl
    | cons a r=>rw[hq,decide_eq_true (by rw[List.length_cons];omega)]at hb;cases hb
  clear h
  have a1: ∀ z:Ly,(bif !(x.ak==[])then [(Zk,false,Sp.elem 48 (Sp.elem 128 x.ak))]else []).foldl (EF x) z=(z.1,z.2.1,z.2.2.1,z.2.2.2.1,z.2.2.2.2.1,z.2.2.2.2.2.1,z.2.2.2.2.2.2.1,(bif !(x.ak==[])then x.ak else z.2.2.2.2.2.2.2.1),z.2.2.2.2.2.2.2.2.1,z.2.2.2.2.2.2.2.2.2.1,z.2.2.2.2.2.2.2.2.2.2.1,z.2.2.2.2.2.2.2.2.2.2.2.1,z.2.2.2.2.2.2.2.2.2.2.2.2.1,z.2.2.2.2.2.2.2.2.2.2.2.2.2.1,z.2.2.2.2.2.2.2.2.2.2.2.2.2.2.1,z.2.2.2.2.2.2.2.2.2.2.2.2.2.2.2.1,z.2.2.2.2.2.2.2.2.2.2.2.2.2.2.2.2):=fun z=>by
    cases !(x.ak==[])with
    | true=>exact AcX x z (Sp.elem 48 (Sp.elem 128 x.ak))
    | false=>rfl
  have a2: ∀ z:Ly,([(Xr,false,EX 2 x.num)]:List Ex).foldl (EF x) z=(z.1,z.2.1,z.2.2.1,z.2.2.2.1,z.2.2.2.2.1,x.num,z.2.2.2.2.2.2.1,z.2.2.2.2.2.2.2.1,z.2.2.2.2.2.2.2.2.1,z.2.2.2.2.2.2.2.2.2.1,z.2.2.2.2.2.2.2.2.2.2.1,z.2.2.2.2.2.2.2.2.2.2.2.1,z.2.2.2.2.2.2.2.2.2.2.2.2.1,z.2.2.2.2.2.2.2.2.2.2.2.2.2.1,z.2.2.2.2.2.2.2.2.2.2.2.2.2.2.1,z.2.2.2.2.2.2.2.2.2.2.2.2.2.2.2.1,z.2.2.2.2.2.2.2.2.2.2.2.2.2.2.2.2):=fun z=>AcR x z (EX 2 x.num)
  have a3: ∀ z:Ly,(bif x.base != -1 then [(Zj,true,EX 2 x.base)]else []).foldl (EF x) z=(z.1,z.2.1,z.2.2.1,z.2.2.2.1,z.2.2.2.2.1,z.2.2.2.2.2.1,(bif x.base != -1 then x.base else z.2.2.2.2.2.2.1),z.2.2.2.2.2.2.2.1,z.2.2.2.2.2.2.2.2.1,z.2.2.2.2.2.2.2.2.2.1,z.2.2.2.2.2.2.2.2.2.2.1,z.2.2.2.2.2.2.2.2.2.2.2.1,z.2.2.2.2.2.2.2.2.2.2.2.2.1,z.2.2.2.2.2.2.2.2.2.2.2.2.2.1,z.2.2.2.2.2.2.2.2.2.2.2.2.2.2.1,z.2.2.2.2.2.2.2.2.2.2.2.2.2.2.2.1,z.2.2.2.2.2.2.2.2.2.2.2.2.2.2.2.2):=fun z=>by
    cases x.base != -1 with
    | true=>exact AcU x z (EX 2 x.base)
    | false=>rfl
  have a4: ∀ z:Ly,(bif x.hs then [(Vr,true,scB x.s)]else []).foldl (EF x) z=(bif x.hs then(z.1,z.2.1,z.2.2.1,z.2.2.2.1,z.2.2.2.2.1,z.2.2.2.2.2.1,z.2.2.2.2.2.2.1,z.2.2.2.2.2.2.2.1,true,(scK x.s).1,(scK x.s).2.1,(scK x.s).2.2.1,(scK x.s).2.2.2.1,(scK x.s).2.2.2.2,z.2.2.2.2.2.2.2.2.2.2.2.2.2.2.1,z.2.2.2.2.2.2.2.2.2.2.2.2.2.2.2.1,z.2.2.2.2.2.2.2.2.2.2.2.2.2.2.2.2)else z):=fun z=>by
    cases x.hs with
    | true=>exact AcV x z (scB x.s)
    | false=>rfl
  have a5: ∀ z:Ly,(bif decide ((x.fr.length:Int)>0)then [(Xu,false,psB x.fr)]else []).foldl (EF x) z=(z.1,z.2.1,z.2.2.1,z.2.2.2.1,z.2.2.2.2.1,z.2.2.2.2.2.1,z.2.2.2.2.2.2.1,z.2.2.2.2.2.2.2.1,z.2.2.2.2.2.2.2.2.1,z.2.2.2.2.2.2.2.2.2.1,z.2.2.2.2.2.2.2.2.2.2.1,z.2.2.2.2.2.2.2.2.2.2.2.1,z.2.2.2.2.2.2.2.2.2.2.2.2.1,z.2.2.2.2.2.2.2.2.2.2.2.2.2.1,(bif decide ((x.fr.length:Int)>0)then x.fr.map ptK else z.2.2.2.2.2.2.2.2.2.2.2.2.2.2.1),z.2.2.2.2.2.2.2.2.2.2.2.2.2.2.2.1,z.2.2.2.2.2.2.2.2.2.2.2.2.2.2.2.2):=fun z=>by
    cases decide ((x.fr.length:Int)>0)with
    | true=>exact AcY x z (psB x.fr)
    | false=>rfl
  have b1:(bif !(x.ak==[])then x.ak else [])=x.ak:=by
    cases hb: !(x.ak==[])with
    | true=>rfl
    | false=>exact(h1 hb).symm
  have b2:(bif x.base != -1 then x.base else -1)=x.base:=by
    cases hb:x.base != -1 with
    | true=>rfl
    | false=>exact(h2 hb).symm
  have b3:(bif decide ((x.fr.length:Int)>0)then x.fr.map ptK else [])=x.fr.map ptK:=by
    cases hb:decide ((x.fr.length:Int)>0)with
    | true=>rfl
    | false=>rw[h4 hb];rfl
  unfold lx
  rw[List.foldl_append,List.foldl_append,List.foldl_append,List.foldl_append,a1,a2,a3,a4,a5]
  unfold liZ liK Li.y
  dsimp only
  rw[b1,b2]
  cases hb:x.hs with
  | true =>
    dsimp only[cond_true]
    rw[b3]
  | false =>
    dsimp only[cond_false]
    rw[b3,h3 hb]
    rfl
include hN
theorem AcO {y:Ex} (hy:y∈lx x) (z:Ly):FP N z y=some (0,EF x z y):=by
  have b0:=h.b
  have n0:=h.n0
  have n1:=h.n1
  have int: ∀ n:Int,0<=n->n<256->EM N (EX 2 n) 2=some (n,0):=fun n g0 g1=>by
    have I:=H5 hN g0 g1
    have o:=yY hN (NW I (t:=2) (by decide) (by decide)) rfl
    unfold EM EX
    rw[show Ep N (Sp.elem 2 (inB n)) 2=_ from o,CW]
    show callO (GL N (inB n)) _=_
    rw[I.int];rfl
  unfold lx at hy
  rcases List.mem_append.1 hy with hy | hy
  ·cases hb: !(x.ak==[])with
   | false=>rw[hb]at hy;cases hy
   | true =>
     rw[hb]at hy
     obtain⟨_,_,a1⟩:=Abd hN h
     have hb':(x.ak==[])=false:=by simpa using hb
     rw[hb',Bool.false_or]at a1
     rw[List.mem_singleton.1 hy,AdI,AcX,eq_of_beq a1,CW]
  rcases List.mem_append.1 hy with hy | hy
  ·rw[List.mem_singleton.1 hy,AdC,AcR,int x.num (by omega) (by omega),CW]
  rcases List.mem_append.1 hy with hy | hy
  ·cases hb:x.base != -1 with
   | false=>rw[hb]at hy;cases hy
   | true =>
     rw[hb]at hy
     have hb':x.base≠ -1:=by simpa using hb
     rw[List.mem_singleton.1 hy,AdF,AcU,int x.base (by omega) (by omega),CW]
  rcases List.mem_append.1 hy with hy | hy
  ·cases hb:x.hs with
   | false=>rw[hb]at hy;cases hy
   | true =>
     rw[hb]at hy
     have S:dS x.s:=by
       rcases h.sc with ⟨h1,_⟩ | ⟨_,h1⟩
       ·rw[hb]at h1;cases h1
       ·exact h1
     rw[List.mem_singleton.1 hy,AdG,AcV,yE hN S,CW]
  ·cases hb:decide ((x.fr.length:Int)>0)with
   | false=>rw[hb]at hy;cases hy
   | true =>
     rw[hb]at hy
     rw[List.mem_singleton.1 hy,AdJ,AcY,zD hN (oU h.fr hb),CW]
theorem Aak (raw tbs:Bs):Gt N (liZ x raw tbs) (xsB (lx x))=some (0,(liK x).y raw tbs []):=by
  have X:=XR hN h
  have hl:=X.len
  have hf:=Acy h raw tbs
  unfold Gt;try simp -zeta only[Ap]
  rw[jX X hN,CW]
  dsimp only
  rw[show((0:Int) != 0)=false from rfl,cond_false]
  generalize liZ x raw tbs=z0 at hf ⊢
  refine(Ew (fun i=>((i:Int),(((lx x).take i).foldl (EF x) z0).1,(((lx x).take i).foldl (EF x) z0).2.1,(((lx x).take i).foldl (EF x) z0).2.2.1,(((lx x).take i).foldl (EF x) z0).2.2.2.1,(((lx x).take i).foldl (EF x) z0).2.2.2.2.1,(((lx x).take i).foldl (EF x) z0).2.2.2.2.2.1,(((lx x).take i).foldl (EF x) z0).2.2.2.2.2.2.1,(((lx x).take i).foldl (EF x) z0).2.2.2.2.2.2.2.1,(((lx x).take i).foldl (EF x) z0).2.2.2.2.2.2.2.2.1,(((lx x).take i).foldl (EF x) z0).2.2.2.2.2.2.2.2.2.1,(((lx x).take i).foldl (EF x) z0).2.2.2.2.2.2.2.2.2.2.1,(((lx x).take i).foldl (EF x) z0).2.2.2.2.2.2.2.2.2.2.2.1,(((lx x).take i).foldl (EF x) z0).2.2.2.2.2.2.2.2.2.2.2.2.1,(((lx x).take i).foldl (EF x) z0).2.2.2.2.2.2.2.2.2.2.2.2.2.1,(((lx x).take i).foldl (EF x) z0).2.2.2.2.2.2.2.2.2.2.2.2.2.2.1,(((lx x).take i).foldl (EF x) z0).2.2.2.2.2.2.2.2.2.2.2.2.2.2.2.1,(((lx x).take i).foldl (EF x) z0).2.2.2.2.2.2.2.2.2.2.2.2.2.2.2.2,((lx x).take i).foldl gY vU)) (lx x).length (some (0,(liK x).y raw tbs [])) ?_ ?_ N (by omega))
  ·intro i hi k
   have ht:=AcO hN h (getD_mem zX hi) (((lx x).take i).foldl (EF x) z0)
   have e1:((lx x).take (i+1)).foldl (EF x) z0=EF x (((lx x).take i).foldl (EF x) z0) ((lx x).getD i zX):=by
     rw[List.take_add_one,List.getElem?_eq_getElem hi,List.foldl_append,getD_lt _ i zX hi];rfl
   have e2:((lx x).take (i+1)).foldl gY vU=gY (((lx x).take i).foldl gY vU) ((lx x).getD i zX):=by
     rw[List.take_add_one,List.getElem?_eq_getElem hi,List.foldl_append,getD_lt _ i zX hi];rfl
   rw[<- e1]at ht
   unfold zX gY at *
   dsimp only[U19]
   rw[aH (by omega),cond_true,aG (by omega),DY,DY,Int.toNat_natCast]
   refine(congrArg (fun o=>callO o _) ht).trans ?_
   rw[CW]
   dsimp only
   rw[<- e2,show((0:Int) != 0)=false from rfl,cond_false,w64 (by omega) (by omega)]
   rfl
  ·intro k
   dsimp only[U19]
   rw[XM (by omega),cond_false,List.take_length,hf,AbM]
   rfl
end
def mD (t sig:Bs):Bs:=t++(LX++Sp.elem 3 (0::sig))
def La (t sig:Bs):Bs:=Sp.elem 48 (mD t sig)
section
variable {N:Nat} (hN:1048578<N) {x:Li} (h:OkL x)
include hN h
theorem Adl:Jw 2 (esB x).flatten:=(Qj (d:=2) (g:=fun i=>Dp 48 (enC (x.es.getD i zE) (Em x i))) fun i hi=>by
  have E:=h.all _ (getD_mem zE (List.mem_range.1 hi))
  exact EK (fO hN E) (by decide) (nO hN E).nest).nest
theorem tX:Par 1 (Om x) (gJ 2 1::Dp 48 Lc::Dp 48 (nmB (aut x.k))::XI x.this::XI x.next::((bif decide ((x.es.length:Int)>0)then [Dp 48 (esB x).flatten]else [])++[Dp 160 (xsB (lx x))])):=by
  have I:=H5 hN (n:=1) (by omega) (by omega)
  have hl:=es_len hN h
  have hx:=tY hN h
  refine E8 (es:=[_]) (Ih (NW I (by decide) (by decide)) (by decide) (by decide)) (E8 (es:=[_]) (sJ (LY hN) (by decide)) (E8 (es:=[_]) (tC hN (G9 hN h.k).ok (by decide)) (E8 (es:=[_]) (iZ (F9 hN h.th) (by decide)) (E8 (es:=[_]) (iZ (F9 hN h.nx) (by decide)) (E8 (Oe _ fun _=> ?_) ?_)))))
  ·exact EK (Fb (by decide) (by decide) (by omega)) (by decide) (Adl hN h)
  ·exact EK (Fb (by decide) (by decide) (by omega)) (by decide) (EK (t:=48) (tZ (XR hN h) hN) (by decide) (pY (XR hN h) hN (by decide)).nest).nest
theorem uV (raw tbs:Bs):KU N (raw,tbs,[],0,0,0,-1,[],false,[],false,false,0,false,[],[],[]) (Om x)=some (0,(liK x).y raw tbs []):=by
  have hl:=Qk hN h
  have h1:=G6 N (Om x) (by omega) (by omega) (by omega)
  rw[(tX hN h).list]at h1
  have I:=H5 hN (n:=1) (by omega) (by omega)
  have num: ∀ r,I9 N (gJ 2 1::r)=some (1,0,r):=fun r=>by
    unfold I9 gJ
    rw[Lu 2 _ r (k:=2) rfl,CW]
    dsimp only[Dp]
    rw[show((0:Int) != 0)=false from rfl,cond_false,I.int];rfl
  have tim: ∀ t,t∈Iz-> ∀ r,J8 N (XI t::r)=some (t,0,r):=fun t ht r=>by
    unfold J8 XI
    rw[WA,CW]
    dsimp only[Dp]
    rw[show((0:Int) != 0)=false from rfl,cond_false,(F9 hN ht).dec];rfl
  have alg: ∀ r,Gf N (Dp 48 Lc::r)=some (0,r):=fun r=>by
    unfold Gf
    rw[WA,CW]
    dsimp only
    rw[show((0:Int) != 0)=false from rfl,cond_false,(LY hN).chk];rfl
  have A:=G9 hN h.k
  have nm:Io N (Sp.elem 48 (nmB (aut x.k)))=some (aut x.k,0):=by
    have:=YA hN A.ok
    rw[A.C]at this;exact this
  have hz:=Aak hN h raw tbs
  unfold liZ at hz
  unfold KU EN
  try simp only[clR]
  rw[h1,CW]
  dsimp only
  rw[show((0:Int) != 0)=false from rfl,cond_false,callE_inl,show((0:Int) != 0)=false from rfl,cond_false,num,CW]
  dsimp only
  rw[show((0:Int) != 0)=false from rfl,cond_false,show((1:Int) != 1)=false from rfl,cond_false,alg,CW]
  dsimp only
  rw[show((0:Int) != 0)=false from rfl,cond_false,Lu 48 _ _ (k:=48) rfl,CW]
  dsimp only[Dp]
  rw[show((0:Int) != 0)=false from rfl,cond_false,nm,CW]
  dsimp only
  rw[show((0:Int) != 0)=false from rfl,cond_false,tim _ h.th,CW]
  dsimp only
  rw[show((0:Int) != 0)=false from rfl,cond_false,tim _ h.nx,CW]
  dsimp only
  rw[show((0:Int) != 0)=false from rfl,cond_false,Hg,LV,CW]
  cases hb:decide ((x.es.length:Int)>0)with
  | false =>
    have h0:x.es.length=0:=by have:=of_decide_eq_false hb;omega
    have he:esK x=[]:=by unfold esK;rw[h0];rfl
    rw[he]at hz
    rw[cond_false,List.nil_append,fV (show ¬((160:Nat):Int)=48 from by decide)]
    dsimp only[cond_false,U21]
    refine(congrArg (fun o=>callO o _) (Lu (N:=N) 160 (xsB (lx x)) [] (k:=160) rfl)).trans ?_
    rw[CW]
    dsimp only[Dp]
    rw[show((0:Int) != 0)=false from rfl,cond_false]
    refine(congrArg (fun o=>callO o _) hz).trans ?_
    rw[CW]
    dsimp only
    rw[show((0:Int) != 0)=false from rfl,cond_false,Jb];rfl
  | true =>
    have h0:0<x.es.length:=by have:=of_decide_eq_true hb;omega
    rw[cond_true,List.cons_append,List.nil_append,fZ (show((48:Nat):Int)=48 from rfl)]
    dsimp only[cond_true]
    rw[xX hN h h0,CW]
    dsimp only[cond_true,U21]
    rw[show((0:Int) != 0)=false from rfl,cond_false]
    refine(congrArg (fun o=>callO o _) (Lu (N:=N) 160 (xsB (lx x)) [] (k:=160) rfl)).trans ?_
    rw[CW]
    dsimp only[Dp]
    rw[show((0:Int) != 0)=false from rfl,cond_false]
    refine(congrArg (fun o=>callO o _) hz).trans ?_
    rw[CW]
    dsimp only
    rw[show((0:Int) != 0)=false from rfl,cond_false,Jb];rfl
theorem AaN {sig:Bs} (hs:sig.length<=60000):(mD (DR x) sig).length<=120000:=by
  have h1:=VC hN h
  have h2:=YV (LY hN)
  have h3:=Sp.Dk 3 (0::sig)
  rw[List.length_cons]at h3
  unfold mD
  rw[List.length_append,List.length_append];omega
theorem AaO {sig:Bs} (hs:sig.length<=60000):Par 0 (mD (DR x) sig) [Dp 48 (Om x),Dp 48 Lc,Dp 3 (0::sig)]:=by
  have hl:=Qk hN h
  exact E8 (es:=[_]) (EK (Fb (by decide) (by decide) (by omega)) (by decide) (tX hN h).nest) (E8 (es:=[_]) (sJ (LY hN) (by decide)) (Ih (Fb (by decide) (by decide) (by rw[List.length_cons];omega)) (by decide) (by decide)))
theorem decode_ok {sig:Bs} (hs:sig.length<=60000) (hc:I4 N ((liK x).y (La (DR x) sig) (DR x) sig)=some 0):Gq N (La (DR x) sig)=some ((liK x).y (La (DR x) sig) (DR x) sig,0):=by
  have hl:=AaN hN h hs
  have ho:Ic N (La (DR x) sig) 48=some (.inl (_,0)):=iF hN (t:=48) (by omega) (by omega) (by omega) (AaO hN h hs).list
  have ht:=uV hN h (La (DR x) sig) (DR x)
  have hT:=xE hN (Abl h hN) (La (DR x) sig) (DR x) sig hc
  rw[Adr h hN]at hT
  have alg: ∀ r,Gf N (Dp 48 Lc::r)=some (0,r):=fun r=>by
    unfold Gf
    rw[WA,CW]
    dsimp only
    rw[show((0:Int) != 0)=false from rfl,cond_false,(LY hN).chk];rfl
  have bits:OT N (0::sig)=some (sig,0,0):=by
    have hlen:(0::sig:Bs).length=sig.length+1:=rfl
    unfold OT JZ
    try simp only[clR]
    have hcut:cutL (0::sig:Bs) 1 (0::sig:Bs).length=sig:=by rw[nI];rfl
    rw[show((0::sig:Bs)==[])=false from rfl,hcut]
    simp (disch:=first | assumption | omega) only[Dj,hlen,List.getD_cons_zero,UInt8.toNat_zero,Option.isSome_some,Option.getD_some]
    try rfl
  have sg: ∀ r,KW N (Dp 3 (0::sig)::r)=some (sig,0,r):=fun r=>by
    unfold KW
    rw[Lu 3 _ r (k:=3) rfl,CW]
    dsimp only[Dp]
    rw[show((0:Int) != 0)=false from rfl,cond_false,bits];rfl
  unfold Li.y at hc hT ht ⊢
  unfold Gq
  try simp only[clR]
  rw[ho,callE_inl]
  dsimp only
  rw[show((0:Int) != 0)=false from rfl,cond_false,Lu 48 _ _ (k:=48) rfl,CW]
  dsimp only[Dp]
  rw[show((0:Int) != 0)=false from rfl,cond_false]
  refine(congrArg (fun o=>callO o _) ht).trans ?_
  rw[CW]
  dsimp only
  rw[show((0:Int) != 0)=false from rfl,cond_false]
  refine(congrArg (fun o=>callO o _) (alg _)).trans ?_
  rw[CW]
  dsimp only
  rw[show((0:Int) != 0)=false from rfl,cond_false]
  refine(congrArg (fun o=>callO o _) (sg _)).trans ?_
  rw[CW]
  dsimp only
  rw[show((0:Int) != 0)=false from rfl,cond_false,Jb,CW]
  show(bif ((0:Int) != 0)then _ else _)=_
  rw[show((0:Int) != 0)=false from rfl,cond_false,hc,CW,show((0:Int) != 0)=false from rfl,cond_false,hT,CW]
  dsimp only
  rw[beq_self_eq_true]
  rfl
end
