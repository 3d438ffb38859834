import Derived.Test.YtbaomhegdndpnaaGreatDoorA19
set_option linter.all false
namespace Go.Proofs.YtbaomhegdndpnaaGreatDoor.Pl
open IntKind (i64)
open Go Vm
theorem AeD {N:Nat} (hN:1048578<N) {t:Nat} {c:Bs} {es:List El} (ht:t<256) (h31:t % 32≠31) (hc:c.length<=131072) (he:SX c=(es,0)):Ls N (Sp.elem t c) (t:Int)=some (.inl (es,0)):=by
  have hB:=Sp.DD t c
  have h1:=JE N c (by omega) (by omega) (by omega)
  rw[he]at h1
  unfold Ls GR
  rw[SC N _ t hN (by omega),RD t c ht h31 hc,CY]
  show LD (CW (Jw N c) _) _ _=_
  rw[h1];rfl
theorem Atw (e:El) (r:List El):Dx (e::r) 1 (e::r).length=r:=by
  show((e::r).take (e::r).length).drop 1=r
  rw[List.take_length];rfl
theorem oZ (N:Nat) (e:El) (r:List El):JI N (e::r)=some (e,0,r):=by
  have h2:decide ((0:Int)<((e::r).length:Int))=true:=decide_eq_true (by simp only[List.length_cons];omega)
  have h3:decide ((1:Int)<=((e::r).length:Int))=true:=decide_eq_true (by simp only[List.length_cons];omega)
  have h4:(((e::r).length:Int)==(0:Int))=false:=by simp;omega
  unfold JI;try simp -zeta only[Ap]
  rw[h2,h3,h4,Atw];rfl
theorem Ri {N:Nat} (t:Nat) (c:Bs) (r:List El) {k:Int} (h:(t:Int)=k):FB N (DT t c::r) k=some (DT t c,0,r):=by
  have h1:decide (((DT t c::r).length:Int)>(0:Int))=true:=decide_eq_true (by simp only[List.length_cons];omega)
  have h5:(((DT t c::r).getD 0 (0,[],[])).1 != k)=false:=by show((t:Int) != k)=false;rw[h];simp
  unfold FB;try simp -zeta only[Ap]
  rw[h1,h5,oZ];rfl
theorem Afz {N:Nat} (hN:1048578<N) {c:Bs} {es r:List El} (hc:c.length<=131072) (he:SX c=(es,0)):Ij N (DT 48 c::r)=some (.inl (es,0,r)):=by
  have h1:=JE N c (by omega) (by omega) (by omega)
  rw[he]at h1
  unfold Ij
  rw[Ri 48 c r (k:=48) rfl,CY]
  show LD (GR N c) _ _=_
  unfold GR
  rw[h1];rfl
theorem Aoa {N:Nat} (hN:1048578<N) {l:List Pt} (h:kL l):H9 N (psB l)=some (l.map ptK,0):=by
  have h3:=h.len
  have hpos:=List.length_pos_iff.2 h.ne
  have hl:=uI hN h
  have ho:Ls N (psB l) 48=some (.inl (l.map ptE,0)):=AeD hN (by omega) (by omega) (by omega) (Aoc hN h (d:=0) (by decide)).list
  have hlm:(l.map ptE).length=l.length:=List.length_map _
  unfold H9
  try simp only[clR]
  rw[ho,KR]
  unfold Ia
  dsimp only
  simp (disch:=first | assumption | omega) only[D8,hlm,bne_self_eq_false]
  refine(Fp (fun i=>((l.map ptE).drop i,(l.take i).map ptK)) l.length (CW (F5 N (l.map ptK)) fun r=>bif r != 0 then some ([],r)else some (l.map ptK,0)) ?_ ?_ N (by omega)).trans ?_
  ·intro i hi k
   have hp:=h.all _ (getD_mem zPt hi)
   have P:=ZR hN hp
   have e1:(l.map ptE).drop i=ptE (l.getD i zPt)::(l.map ptE).drop (i+1):=by
     rw[List.drop_eq_getElem_cons (by rw[hlm];exact hi),List.getElem_map,getD_lt l i zPt hi]
   have e2:(l.take i).map ptK++[ptK (l.getD i zPt)]=(l.take (i+1)).map ptK:=by
     rw[List.take_add_one,List.getElem?_eq_getElem hi,List.map_append,getD_lt l i zPt hi];rfl
   have e3:Ij N (ptE (l.getD i zPt)::(l.map ptE).drop (i+1))=_:=Afz hN (c:=ptC (l.getD i zPt)) (r:=(l.map ptE).drop (i+1)) (by have:=P.len;omega) P.els
   have e4:((l.take i).map ptK).length=i:=by rw[List.length_map,List.length_take];omega
   dsimp only[U2]
   rw[e1]
   have e5:((ptE (l.getD i zPt)::(l.map ptE).drop (i+1)).length:Int)=((l.length - i:Nat):Int):=by
     rw[List.length_cons,List.length_drop,hlm];omega
   have e6:=P.dec
   rw[e5,AgQ (by omega),cond_true]
   rw[e3,KR]
   simp (disch:=first | assumption | omega) only[D8,e6,e4,e2,bne_self_eq_false]
   try rfl
  ·intro k
   have e1:(l.map ptE).drop l.length=[]:=by rw[<- hlm,List.drop_length]
   have e2:(l.take l.length).map ptK=l.map ptK:=by rw[List.take_length]
   dsimp only[U2]
   rw[e1,e2]
   rfl
  ·rw[Abi hN (AnO hN h)];rfl
theorem ArZ {l:List El} {k:Int} (h:l.all (fun e=>e.1 != k)=true):jJ l k=((0,[],[]),false,l):=by
  cases l with
  | nil=>rfl
  | cons e r =>
    rw[List.all_cons,Bool.and_eq_true]at h
    exact Aem (by simpa using h.1)
theorem AeE {t:Nat} {c:Bs} {rest:List El} (b:Bool) {k:Int} (hk:(t:Int)=k) (h:rest.all (fun e=>e.1 != k)=true):jJ ((bif b then [DT t c]else [])++rest) k=bif b then(DT t c,true,rest)else((0,[],[]),false,rest):=by
  cases b with
  | true=>exact Aen hk
  | false=>exact ArZ h
abbrev Sc:Type:=List Gn×Bool×Bool×Int×Bool
def zSc:Sc:=([],false,false,0,false)
structure Aa1 (s:Sc):Prop where
  ns:uB s.1
  re:okR s.2.2.2.1
  sh:(s.2.1=true/\s.2.2.1=false/\s.1=[])\/(s.2.1=false/\s.2.2.1=true/\s.1=[])\/(s.2.1=false/\s.2.2.1=false/\s.1≠ [])
def scK (s:Sc):Sc:=(s.1.map gnK,s.2)
def nsB (l:List Gn):Bs:=bif decide ((l.length:Int)>0)then Sp.elem 160 (Sp.elem 160 (DZ l))else []
def nsE (l:List Gn):List El:=bif decide ((l.length:Int)>0)then [DT 160 (Sp.elem 160 (DZ l))]else []
def boB (t:Nat) (b:Bool):Bs:=bif b then Sp.elem t [255]else []
def boE (t:Nat) (b:Bool):List El:=bif b then [DT t [255]]else []
def scC (s:Sc):Bs:=nsB s.1++(boB 129 s.2.1++(boB 130 s.2.2.1++(flT 131 s.2.2.2.1++boB 132 s.2.2.2.2)))
def scB (s:Sc):Bs:=Sp.elem 48 (scC s)
def scE (s:Sc):List El:=nsE s.1++(boE 129 s.2.1++(boE 130 s.2.2.1++(flE 131 s.2.2.2.1++boE 132 s.2.2.2.2)))
theorem Ahu {t d:Nat} (b:Bool) (ht:t<256) (h31:t % 32≠31) (hc:Sp.cons t=false) (hd:d<16):Par d (boB t b) (boE t b):=UK b fun _=>L6 (Hy ht h31 (by show 1<=_;omega)) hd hc
theorem Aht (t:Nat) (b:Bool):(boB t b).length<=6:=by
  have:=Sp.DD t [255]
  cases b with
  | true=>show(Sp.elem t [255]).length<=_;simp at this;omega
  | false=>exact Nat.zero_le _
theorem Aeh {N t:Nat} (b:Bool) {rest:List El} (h:rest.all (fun e=>e.1 != (t:Int))=true):EO N (boE t b++rest) (t:Int)=some (b,0,rest):=by
  unfold EO boE;try simp -zeta only[Ap]
  rw[RY,AeE b rfl h,CY]
  cases b<;>rfl
section
variable {N:Nat} (hN:1048578<N)
include hN
theorem Asb {l:List Gn} (h:uB l):(nsB l).length<=1260:=by
  have:=IZ hN h
  have:=Sp.DD 160 (DZ l)
  have:=Sp.DD 160 (Sp.elem 160 (DZ l))
  unfold nsB
  cases decide ((l.length:Int)>0)with
  | true=>rw[cond_true];omega
  | false=>exact Nat.zero_le _
theorem Asd {l:List Gn} (h:uB l) {d:Nat} (hd:d<=4):Par d (nsB l) (nsE l):=UK _ fun _=>by
  have:=IZ hN h
  have:=Sp.DD 160 (DZ l)
  exact GH (Hy (by decide) (by decide) (by omega)) (by omega) (GH (t:=160) (Hy (by decide) (by decide) (by omega)) (by omega) (AaR hN h (by omega)).nest).nest
variable {s:Sc} (h:Aa1 s)
include h
theorem vX:(scC s).length<=1300:=by
  have h1:=Asb hN h.ns
  have h2:=Aht 129 s.2.1
  have h3:=Aht 130 s.2.2.1
  have h4:=Aht 132 s.2.2.2.2
  have h5:=Akv h.re 131
  unfold scC
  rw[List.length_append,List.length_append,List.length_append,List.length_append];omega
theorem Aol {d:Nat} (hd:d<=4):Par d (scC s) (scE s):=Gs (Asd hN h.ns hd) (Gs (Ahu _ (by decide) (by decide) (by decide) (by omega)) (Gs (Ahu _ (by decide) (by decide) (by decide) (by omega)) (Gs (Ann h.re (by decide) (by decide) (by omega) (by decide)) (Ahu _ (by decide) (by decide) (by decide) (by omega)))))
theorem Arl:Fine (48,scC s):=(Hy (by decide) (by decide) (by have:=vX hN h;omega))
theorem Asy:Sp.chk (scB s)=0:=Uu (Arl hN h) fun _=>(Aol hN h (by decide)).nest
theorem Arz:Aa1 (scK s):=⟨Ase hN h.ns,h.re,by
  rcases h.sh with ⟨h1,h2,h3⟩ | ⟨h1,h2,h3⟩ | ⟨h1,h2,h3⟩
  ·exact Or.inl ⟨h1,h2,by show s.1.map gnK=[];rw[h3];rfl⟩
  ·exact Or.inr (Or.inl ⟨h1,h2,by show s.1.map gnK=[];rw[h3];rfl⟩)
  ·exact Or.inr (Or.inr ⟨h1,h2,fun e=>h3 (List.map_eq_nil_iff.1 e)⟩)⟩
theorem Ath:scB (scK s)=scB s:=by
  unfold scB scC scK nsB
  dsimp only
  rw[Akr hN h.ns,List.length_map]
theorem Aof:O8 N false s=some (scB s,false):=by
  have hlen:=vX hN h
  have hle:=IZ hN h.ns
  have hR:=h.re
  have hns:decide ((s.1.length:Int)>0)=true->Hg N s.1=some (DZ s.1,0):=fun hb=>zW hN h.ns (fun e=>by rw[e]at hb;cases hb)
  have e1:=Sp.DD 160 (DZ s.1)
  have w1:Dw N false 160 [DZ s.1]=_:=Uk N 160 false [DZ s.1] (by omega) (by omega) hN (by simp) (by rw[Eb];omega)
  have w2:Dw N false 160 [Sp.elem 160 (DZ s.1)]=_:=Uk N 160 false [Sp.elem 160 (DZ s.1)] (by omega) (by omega) hN (by simp) (by rw[Eb];omega)
  rw[Eb]at w1 w2
  have fl: ∀(t:Nat) (b:Bool),t<256->t % 32≠31->FY N false (t:Int) b=some (boB t b,false):=by
    intro t b ht h31
    unfold FY
    cases b with
    | false=>rfl
    | true =>
      have w3:=Uk N t false [[255]] ht h31 hN (by simp) (by simp)
      rw[Bool.not_true,cond_false]
      show CW (some [255]) _=_
      rw[CY,w3];rfl
  have f1:FY N false 129 s.2.1=_:=fl 129 _ (by omega) (by omega)
  have f2:FY N false 130 s.2.2.1=_:=fl 130 _ (by omega) (by omega)
  have f3:FY N false 132 s.2.2.2.2=_:=fl 132 _ (by omega) (by omega)
  have wS:DX N false [nsB s.1,boB 129 s.2.1,boB 130 s.2.2.1,flT 131 s.2.2.2.1,boB 132 s.2.2.2.2]=some (scB s,false):=by
    have hf: [nsB s.1,boB 129 s.2.1,boB 130 s.2.2.1,flT 131 s.2.2.2.1,boB 132 s.2.2.2.2].flatten=scC s:=by simp [scC]
    rw[Vw N false _ (by show 5<N;omega) (by show 5<=_;omega),hf,Jy (by omega)];rfl
  obtain⟨ns,ou,oc,re,ind⟩:=s
  dsimp only at *
  have hre:(re=0/\flT 131 re=[])\/(re≠0/\flT 131 re=Sp.elem 131 (flB re)/\Iq N re=some (flB re,0)/\Dw N false 131 [flB re]=some (Sp.elem 131 (flB re),false)):=by
    rcases hR with rfl | hr
    ·exact Or.inl ⟨rfl,rfl⟩
    ·have R:=MG hN hr
     refine Or.inr ⟨R.ne,by unfold flT;rw[Sj R.ne];rfl,R.put,?_⟩
     have w3:Dw N false 131 [flB re]=_:=Uk N 131 false [flB re] (by omega) (by omega) hN (by simp) (by rw[Eb];have:=R.len;omega)
     rw[Eb]at w3;exact w3
  unfold O8
  try simp only[clR]
  cases hb:decide ((ns.length:Int)>0)with
  | true =>
    have g:=hns hb
    have hn:nsB ns=Sp.elem 160 (Sp.elem 160 (DZ ns)):=by unfold nsB;rw[hb];rfl
    rw[hn]at wS
    rcases hre with ⟨rfl,hf⟩ | ⟨hne,hf,hf1,hf2⟩<;>rw[hf]at wS
    ·simp (disch:=first | assumption | omega) only[D8,hb,g,L9,w1,w2,f1,f2,f3,wS,bne_self_eq_false]
     try rfl
    ·simp (disch:=first | assumption | omega) only[D8,hb,g,L9,w1,w2,f1,f2,f3,wS,bne_self_eq_false,hf1,hf2]
     try rfl
  | false =>
    have hn:nsB ns=[]:=by unfold nsB;rw[hb];rfl
    rw[hn]at wS
    rcases hre with ⟨rfl,hf⟩ | ⟨hne,hf,hf1,hf2⟩<;>rw[hf]at wS
    ·simp (disch:=first | assumption | omega) only[D8,hb,L9,f1,f2,f3,wS,bne_self_eq_false]
     try rfl
    ·simp (disch:=first | assumption | omega) only[D8,hb,L9,f1,f2,f3,wS,bne_self_eq_false,hf1,hf2]
     try rfl
theorem Anq:O7 N (scB s)=some (scK s,0):=by
  have hlen:=vX hN h
  have ho:Ls N (scB s) 48=some (.inl (scE s,0)):=AeD hN (by omega) (by omega) (by omega) (Aol hN h (d:=0) (by decide)).list
  have hle:=IZ hN h.ns
  have e1:=Sp.DD 160 (DZ s.1)
  have hR:=h.re
  have o160:Gj N (Sp.elem 160 (DZ s.1)) 160=some (DT 160 (DZ s.1),0):=by
    rw[SC N _ 160 hN (by omega)]
    exact congrArg some (RD 160 (DZ s.1) (by decide) (by decide) (by omega))
  have hns:decide ((s.1.length:Int)>0)=true->Fj N (DZ s.1)=some (s.1.map gnK,0):=fun hb=>Vd hN h.ns (fun e=>by rw[e]at hb;cases hb)
  clear h
  obtain⟨ns,ou,oc,re,ind⟩:=s
  dsimp only at *
  have hn0:decide ((ns.length:Int)>0)=false->ns.map gnK=[]:=fun hb=>by
    cases ns with
    | nil=>rfl
    | cons a r=>rw[decide_eq_true (by rw[List.length_cons];omega)]at hb;cases hb
  have n4:(boE 132 ind).all (fun e=>e.1 != (131:Int))=true:=by cases ind<;>rfl
  have n3:(flE 131 re++boE 132 ind).all (fun e=>e.1 != (130:Int))=true:=by unfold flE;cases re != 0<;>cases ind<;>rfl
  have n2:(boE 130 oc++(flE 131 re++boE 132 ind)).all (fun e=>e.1 != (129:Int))=true:=by unfold flE;cases oc<;>cases re != 0<;>cases ind<;>rfl
  have n1:(boE 129 ou++(boE 130 oc++(flE 131 re++boE 132 ind))).all (fun e=>e.1 != (160:Int))=true:=by unfold flE;cases ou<;>cases oc<;>cases re != 0<;>cases ind<;>rfl
  have f1:EO N (boE 129 ou++(boE 130 oc++(flE 131 re++boE 132 ind))) 129=some (ou,0,boE 130 oc++(flE 131 re++boE 132 ind)):=Aeh ou n2
  have f2:EO N (boE 130 oc++(flE 131 re++boE 132 ind)) 130=some (oc,0,flE 131 re++boE 132 ind):=Aeh oc n3
  have f4:EO N (boE 132 ind) 132=some (ind,0,[]):=by
    have:=Aeh (N:=N) (t:=132) ind (rest:=[]) rfl
    rwa [List.append_nil]at this
  have st1: ∀ J:List Gn×List El->Option (Sc×Int),(CW (EH N (nsE ns++(boE 129 ou++(boE 130 oc++(flE 131 re++boE 132 ind)))) 160) fun r25=>bif r25.2.1 then CW (Gj N r25.1.2.1 160) fun r32=>bif (r32.2 != (0:Int))then some ((([]:List Gn),false,false,(0:Int),false),r32.2)else CW (Fj N r32.1.2.1) fun r42=>bif (r42.2 != (0:Int))then some ((([]:List Gn),false,false,(0:Int),false),r42.2)else J (r42.1,r25.2.2)else J ([],r25.2.2))=J (ns.map gnK,boE 129 ou++(boE 130 oc++(flE 131 re++boE 132 ind))):=by
    intro J
    unfold nsE
    rw[RY,AeE (k:=160) _ rfl n1,CY]
    cases hb:decide ((ns.length:Int)>0)with
    | true =>
      rw[cond_true]
      dsimp only[DT]
      rw[cond_true,o160,CY]
      dsimp only[DT]
      rw[show((0:Int) != 0)=false from rfl,cond_false,hns hb,CY]
      dsimp only
      rw[show((0:Int) != 0)=false from rfl,cond_false]
    | false =>
      rw[cond_false,hn0 hb];rfl
  have st2: ∀ J:Int×List El->Option (Sc×Int),(CW (EH N (flE 131 re++boE 132 ind) 131) fun r72=>bif r72.2.1 then CW (Nh N r72.1.2.1) fun r79=>bif (r79.2 != (0:Int))then some ((([]:List Gn),false,false,(0:Int),false),r79.2)else bif (r79.1==(0:Int))then some ((([]:List Gn),false,false,(0:Int),false),7)else J (r79.1,r72.2.2)else J (0,r72.2.2))=J (re,boE 132 ind):=by
    intro J
    unfold flE
    rw[RY,AeE (k:=131) _ rfl n4,CY]
    rcases hR with rfl | hr
    ·rfl
    ·have R:=MG hN hr
     rw[Sj R.ne,cond_true]
     dsimp only[DT]
     rw[cond_true,R.get,CY]
     dsimp only
     rw[show((0:Int) != 0)=false from rfl,cond_false,JJ R.ne,cond_false]
  unfold O7
  rw[ho,KR]
  dsimp only
  rw[show((0:Int) != 0)=false from rfl,cond_false,Jh]
  unfold scE scK
  dsimp only
  refine(st1 (fun x=>U2 _ (x.1,x.2))).trans ?_
  dsimp only[U2]
  rw[f1,CY]
  dsimp only
  rw[show((0:Int) != 0)=false from rfl,cond_false,f2,CY]
  dsimp only
  rw[show((0:Int) != 0)=false from rfl,cond_false,Jh]
  refine(st2 (fun x=>U5 _ (ns.map gnK,ou,oc,x.1,x.2))).trans ?_
  dsimp only[U5]
  rw[f4,CY]
  dsimp only
  rw[show((0:Int) != 0)=false from rfl,cond_false,NH];rfl
end
end Go.Proofs.YtbaomhegdndpnaaGreatDoor.Pl
namespace Go.Proofs.YtbaomhegdndpnaaGreatDoor.Pl
open IntKind (i64)
open Go Vm
theorem AoS (e:En):(enY e).1=e.1:=rfl
theorem Ah8 (e:En):(enY e).2.1=e.2.1:=rfl
theorem AoT (e:En):(enY e).2.2.1=e.re:=rfl
theorem AoU (e:En):(enY e).2.2.2.1=e.iv:=rfl
theorem ArD (e:En):(enY e).2.2.2.2=aut e.k:=rfl
structure Li:Type where
  k:Nat
  this:Int
  next:Int
  num:Int
  base:Int
  ak:Bs
  hs:Bool
  s:Sc
  fr:List Pt
  es:List En
def akV:Bs:=[102,101,100,99,98,97,57,56,55,54,53,52,51,50,49,48]
def zE:En:=(0,0,0,0,0)
def zY:Ey:=(0,0,0,0,[])
abbrev Ly:Type:=Bs×Bs×List (List Att)×Int×Int×Int×Int×Bs×Bool×List Gn×Bool×Bool×Int×Bool×List Pt×List Ey×Bs
def Li.y (x:Li) (raw tbs sig:Bs):Ly:=(raw,tbs,aut x.k,x.this,x.next,x.num,x.base,x.ak,x.hs,x.s.1,x.s.2.1,x.s.2.2.1,x.s.2.2.2.1,x.s.2.2.2.2,x.fr,x.es.map enY,sig)
structure OkL (x:Li):Prop where
  k:x.k<16
  th:x.this∈MH
  nx:x.next∈MH
  le:x.this<=x.next
  n0:1<=x.num
  n1:x.num<=200
  b:x.base= -1\/(0<=x.base/\x.base<x.num)
  ak:x.ak=[]\/x.ak=akV
  sc:(x.hs=false/\x.s=zSc)\/(x.hs=true/\Aa1 x.s)
  fr:x.fr=[]\/(x.base= -1/\kL x.fr)
  len:x.es.length<=5
  all: ∀ e∈x.es,OkE x.base x.s.2.2.2.2 x.k e
  nd:x.es.Pairwise fun a b=> ¬(a.1=b.1/\a.k % 8=b.k % 8)
theorem VA {α β :Type} (f: α -> β) (l:List α) (d: α) (c: β) {i:Nat} (h:i<l.length):(l.map f).getD i c=f (l.getD i d):=by
  rw[getD_lt _ _ _ (by rw[List.length_map];exact h),List.getElem_map,getD_lt l i d h]
theorem UR (N:Nat) {a b c:Int} (h1:b<=a) (h2:a<=c):IB N a b c=some true:=by
  unfold IB
  try simp only[clR]
  rw[Aqg h1,Va h2];rfl
def Mc (j:Nat) (s:Int) (e:En):Bool:=e.1==s&&e.k % 8==j % 8
section
variable {N:Nat} (hN:1048578<N)
include hN
theorem Aiy {es:List En} (hk: ∀ e∈es,e.k<16) (hl:es.length<=100) {j:Nat} (hj:j<16) (s:Int):Rl N (es.map enY) (aut j) s=some (match (List.range es.length).find? fun i=>Mc j s (es.getD i zE)with | some i=>(i:Int) | none=> -1):=by
  have hlm:(es.map enY).length=es.length:=List.length_map _
  unfold Rl;try simp -zeta only[Ap]
  refine(Af2 (X:=Int×List (List Att)) (fun i (_:Unit)=>(i,aut j)) (List.range es.length) 0 (fun _ _=>True) (fun i (_:Unit)=>if Mc j s (es.getD i zE)then(.inl (some (i:Int)):Option Int ⊕ Unit)else .inr ()) (fun _=>some (-1)) (fun i u hi _=> ?_) (fun u k _=> ?_) N () trivial (by rw[List.length_range];omega)).trans (AhM _ (fun i=>(i:Int)) (-1) _)
  ·rw[List.length_range]at hi
   rw[Abk hi]
   have hm:=(GL hN (hk _ (getD_mem zE hi))).mt j hj
   have e1:=VA enY es zE zY hi
   unfold zY at e1
   refine Aat trivial fun k=> ?_
   dsimp only[U2]
   rw[hlm,Int.toNat_natCast,e1]
   unfold enY Mc
   simp (disch:=first | assumption | omega) only[D8,hm,Option.isSome_some,Option.getD_some,KH,IU,IA,Em]
   cases (es.getD i zE).1==s<;>cases ((es.getD i zE).k % 8==j % 8)<;>rfl
  ·dsimp only[U2]
   rw[List.length_range,hlm,decide_eq_false (by omega)];rfl
theorem AiH {es:List En} (hk: ∀ e∈es,e.k<16) (hl:es.length<=100) {j:Nat} (hj:j<16) (s:Int) {y:Ly} (hy:y.2.2.2.2.2.2.2.2.2.2.2.2.2.2.2.1=es.map enY):Lj N y (aut j) s=some (match (List.range es.length).find? fun i=>Mc j s (es.getD i zE)with | some i=>(enY (es.getD i zE),true) | none=>(zY,false)):=by
  have hlm:(es.map enY).length=es.length:=List.length_map _
  unfold Lj;try simp -zeta only[Ap]
  rw[hy]
  refine(Af2 (X:=Int×List (List Att)) (fun i (_:Unit)=>(i,aut j)) (List.range es.length) 0 (fun _ _=>True) (fun i (_:Unit)=>if Mc j s (es.getD i zE)then(.inl (some (enY (es.getD i zE),true)):Option (Ey×Bool) ⊕ Unit)else .inr ()) (fun _=>some (zY,false)) (fun i u hi _=> ?_) (fun u k _=> ?_) N () trivial (by rw[List.length_range];omega)).trans (AhM _ (fun i=>(enY (es.getD i zE),true)) (zY,false) _)
  ·rw[List.length_range]at hi
   rw[Abk hi]
   have hm:=(GL hN (hk _ (getD_mem zE hi))).rmt j hj
   have e1:=VA enY es zE zY hi
   unfold zY at e1
   refine Aat trivial fun k=> ?_
   dsimp only[U2]
   rw[hlm,Int.toNat_natCast,e1]
   unfold enY Mc
   simp (disch:=first | assumption | omega) only[D8,hm,Option.isSome_some,Option.getD_some,KH,IU,IA,Em]
   cases (es.getD i zE).1==s<;>cases ((es.getD i zE).k % 8==j % 8)<;>rfl
  ·dsimp only[U2]
   rw[List.length_range,hlm,decide_eq_false (by omega)];rfl
theorem find_ok {es:List En} (hk: ∀ e∈es,e.k<16) (hl:es.length<=100) {j:Nat} (hj:j<16) (s:Int) {y:Ly} (hy:y.2.2.2.2.2.2.2.2.2.2.2.2.2.2.2.1=es.map enY):O6 N y (aut j) s=some (match (List.range es.length).find? fun i=>Mc j s (es.getD i zE)with | some i=>(enY (es.getD i zE),true) | none=>(zY,false)):=by
  have hlm:(es.map enY).length=es.length:=List.length_map _
  unfold O6;try simp -zeta only[Ap]
  rw[hy,Aiy hN hk hl hj,CY]
  cases h:(List.range es.length).find? fun i=>Mc j s (es.getD i zE)with
  | none=>rfl
  | some i =>
    have hi:i<es.length:=List.mem_range.1 (List.mem_of_find?_eq_some h)
    have e1:=VA enY es zE zY hi
    have hc:LV N (enY (es.getD i zE)).2.2.2.2=some (enY (es.getD i zE)).2.2.2.2:=Akl hN (GL hN (hk _ (getD_mem zE hi))).ok
    unfold zY at e1
    dsimp only
    rw[Int.toNat_natCast,e1,hlm,SH (by omega),cond_false,Va (by omega),Ob (by omega),EW,EW,hc]
    rfl
variable {x:Li} (h:OkL x)
include h
omit hN in
omit hN in
theorem Aqn {i j:Nat} (hi:i<j) (hj:j<x.es.length):Mc (x.es.getD j zE).k (x.es.getD j zE).1 (x.es.getD i zE)=false:=by
  have:=List.pairwise_iff_getElem.1 h.nd i j (by omega) hj hi
  rw[getD_lt _ i zE (by omega),getD_lt _ j zE hj]
  unfold Mc
  rw[Bool.and_eq_false_iff]
  by_cases h1:(x.es[i]).1=(x.es[j]).1
  ·right;exact beq_false_of_ne fun e=>this ⟨h1,e⟩
  ·left;exact beq_false_of_ne h1
variable (raw tbs sig:Bs)
theorem AjO:LU N (x.y raw tbs sig)=some 0:=by
  unfold LU Li.y;try simp -zeta only[Ap]
  try dsimp only
  try simp only[clR]
  rcases h.sc with ⟨h1,h2⟩ | ⟨h1,S⟩
  ·rw[h1,h2]
   obtain⟨M,rfl⟩:=ofM hN
   kernel_rfl
  ·rw[h1]
   have hm:=kM S.re
   have hl:=S.ns.1
   have fin:Dq (X:=Int) (Y:=Unit) (fun t68b k16 x17=>bif decide (t68b<(x.s.1.length:Int))then(Vm.chk (decide ((0:Int)<=t68b))<|Vm.chk (decide (t68b<(x.s.1.length:Int)))<|CW (GX N (x.s.1.getD t68b.toNat (0,([]:Bs),([]:List (List Att)))) false) fun r73=>bif (r73 != (0:Int))then(some r73)else(k16 (i64.wrap (t68b+(1:Int)))))else(x17 ())) N 0 (fun _=>some 0)=some (0:Int):=Aah hN S.ns
   have hn:decide ((x.s.1.length:Int)>16)=false:=Ace (by omega)
   have fin2:(bif (D9 .andNot .i64 x.s.2.2.2.1 510 != (0:Int))then some 1 else bif decide ((x.s.1.length:Int)>16)then some 2 else Dq (X:=Int) (Y:=Unit) (fun t68b k16 x17=>bif decide (t68b<(x.s.1.length:Int))then(Vm.chk (decide ((0:Int)<=t68b))<|Vm.chk (decide (t68b<(x.s.1.length:Int)))<|CW (GX N (x.s.1.getD t68b.toNat (0,([]:Bs),([]:List (List Att)))) false) fun r73=>bif (r73 != (0:Int))then(some r73)else(k16 (i64.wrap (t68b+(1:Int)))))else(x17 ())) N 0 (fun _=>some 0))=some (0:Int):=by rw[hm,hn];exact fin
   clear fin
   rcases S.sh with ⟨g1,g2,g3⟩ | ⟨g1,g2,g3⟩ | ⟨g1,g2,g3⟩
   ·rw[g1,g2]
    cases hA:((x.s.1.length:Int)==0)<;>cases hB:x.s.2.2.2.1==0<;>cases hC:x.s.2.2.2.2<;>exact fin2
   ·rw[g1,g2]
    cases hA:((x.s.1.length:Int)==0)<;>cases hB:x.s.2.2.2.1==0<;>cases hC:x.s.2.2.2.2<;>exact fin2
   ·have hp:=List.length_pos_iff.2 g3
    rw[g1,g2]
    have hA:((x.s.1.length:Int)==0)=false:=JJ (by omega)
    rw[hA]
    cases hB:x.s.2.2.2.1==0<;>cases hC:x.s.2.2.2.2<;>exact fin2
theorem Ajv {i:Nat} (hi:i<x.es.length):P6 N (x.y raw tbs sig) (i:Int)=some 0:=by
  have hE:=h.all _ (getD_mem zE hi)
  have A:=GL hN hE.k
  have e1:=VA enY x.es zE zY hi
  have hlm:(x.es.map enY).length=x.es.length:=List.length_map _
  have hp:Rl N ((x.es.take i).map enY) (aut (x.es.getD i zE).k) (x.es.getD i zE).1=some (-1):=by
    rw[Aiy hN (fun e he=>(h.all e (List.mem_of_mem_take he)).k) (by rw[List.length_take];have:=h.len;omega) hE.k]
    rw[List.find?_eq_none.2 fun j hj=> ?_]
    rw[List.length_take,List.mem_range]at hj
    rw[AfH _ _ (by omega),Aqn h (by omega) hi]
    decide
  have T:=FM hN hE.ti
  have t0:=T.p0
  have t1:=T.p1
  have hiv: -1<=(x.es.getD i zE).iv/\(x.es.getD i zE).iv<=254033452799:=by
    rcases hE.iv with h | h
    ·rw[h];decide
    ·have T:=FM hN h
     have:=T.p0
     have:=T.p1
     omega
  have s0:=hE.s0
  have s1:=hE.s1
  have hre:=hE.re
  have hr8:=hE.r8
  have hne:=wY A
  have hc:=Na hN A.ok
  have hm:=A.mt x.k h.k
  have his:=hE.is
  have hind:Sz N (x.y raw tbs sig)=some x.s.2.2.2.2:=by
    unfold Sz Li.y;try simp -zeta only[Ap]
    try dsimp only
    simp (disch:=first | assumption | omega) only[D8,IU,IA]
    rcases h.sc with ⟨h1,h2⟩ | ⟨h1,h2⟩
    ·rw[h1,h2];rfl
    ·rw[h1];rfl
  have hreason:SB N (x.es.getD i zE).re=some true:=by
    have: ∀ r∈reL,SB N r=some true:=by
      intro r hr
      obtain⟨M,rfl⟩:=ofM hN
      have:=List.all_eq_true.1 (show reL.all (fun r=>SB (M+300) r==some true)=true by kernel_rfl) r hr
      exact eq_of_beq this
    exact this _ hre
  have h8:((x.es.getD i zE).re==8&&x.base== -1)=false:=by
    cases h8:(x.es.getD i zE).re==8 with
    | false=>rfl
    | true=>exact beq_false_of_ne (hr8 (eq_of_beq h8))
  have h31:(!x.s.2.2.2.2&& !((x.es.getD i zE).k % 8==x.k % 8))=false:=by
    rcases his with h | h
    ·rw[h];rfl
    ·rw[h,beq_self_eq_true,Bool.not_true,Bool.and_false]
  have p1:=UR N (a:=(x.es.getD i zE).1) (b:=1) (c:=4611686018427387904) s0 (by omega)
  have p2:=UR N t0 t1
  have p3:=UR N hiv.1 hiv.2
  unfold P6;try simp -zeta only[Ap]
  rw[hind]
  unfold Li.y
  dsimp only
  rw[hlm,Int.toNat_natCast]
  unfold zY at e1
  rw[e1,Afs,<- List.map_take]
  try simp only[clR]
  generalize x.es.getD i zE=e at *
  simp (disch:=first | assumption | omega) only[D8,AoS,Ah8,AoT,AoU,ArD,p1,p2,p3,hreason,hc,hm,hp,h8,h31,wZ,IU,IA,Option.isSome_some,Option.getD_some,bne_self_eq_false]
  try rfl
theorem AlG:O5 N (x.y raw tbs sig)=some 0:=by
  have A:=GL hN h.k
  have hp:=wY A
  have hc:=Na hN A.ok
  have T1:=FM hN h.th
  have T2:=FM hN h.nx
  have a0:=T1.p0
  have a1:=T1.p1
  have a2:=T2.p0
  have a3:=T2.p1
  have a4:=h.le
  have a5:=h.n0
  have a6:=h.n1
  have hb: -1<=x.base/\x.base<=200:=by rcases h.b with h | h<;>omega
  have hb2:(x.base != -1&&decide (x.base>=x.num))=false:=by
    rcases h.b with h | h
    ·rw[h];rfl
    ·rw[Ald (by omega),Bool.and_false]
  have hak:x.ak.length<=32:=by rcases h.ak with h | h<;>rw[h]<;>decide
  have hfr:F5 N x.fr=some 0:=by
    rcases h.fr with h | h
    ·rw[h]
     obtain⟨M,rfl⟩:=ofM hN
     kernel_rfl
    ·exact Abi hN h.2
  have hfr2:(x.base != -1&&decide ((x.fr.length:Int)>0))=false:=by
    rcases h.fr with h | h
    ·rw[h];exact Bool.and_false _
    ·rw[h.1];rfl
  have hsc:LU N (x.y raw tbs sig)=some 0:=AjO hN h raw tbs sig
  have hlm:(x.es.map enY).length=x.es.length:=List.length_map _
  have h5:=h.len
  have s1:=UR N a0 a1
  have s2:=UR N a2 a3
  have s3:=UR N (a:=x.num) (b:=0) (c:=4611686018427387904) (by omega) (by omega)
  have s4:=UR N (a:=x.base) (b:= -1) (c:=4611686018427387904) (by omega) (by omega)
  unfold O5
  try simp only[clR]
  rw[hsc]
  unfold Li.y
  dsimp only
  rw[hlm,hfr]
  rw[JJ (by omega),cond_false,hc,CY,show((0:Int) != 0)=false from rfl,cond_false,s1,CY]
  simp (disch:=first | assumption | omega) only[D8,s2,s3,s4,hb2,hfr2,wZ,IU,IA,Option.isSome_some,Option.getD_some,bne_self_eq_false]
  refine(Fp (fun i=>((i:Int),raw,tbs,aut x.k,x.this,x.next,x.num,x.base,x.ak,x.hs,x.s.1,x.s.2.1,x.s.2.2.1,x.s.2.2.2.1,x.s.2.2.2.2,x.fr,x.es.map enY,sig)) x.es.length (some 0) ?_ ?_ N (by omega))
  ·intro i hi k
   have he:=Ajv hN h raw tbs sig hi
   unfold Li.y at he
   dsimp only[U18]
   rw[Ob (by omega),cond_true]
   refine(congrArg (fun o=>CW o _) he).trans ?_
   simp (disch:=first | assumption | omega) only[D8,Em,bne_self_eq_false]
  ·intro k
   dsimp only[U18]
   rw[SH (by omega),cond_false]
end
end Go.Proofs.YtbaomhegdndpnaaGreatDoor.Pl
namespace Go.Proofs.YtbaomhegdndpnaaGreatDoor.Pl
open IntKind (i64)
open Go Vm
def Qd:Bs:=(Gy 300).getD []
def QP:Bs:=Qd.drop 2
def Ar7 (M:Nat):Bool:=Gy (M+300)==some Qd&&(Jm (M+300)==some Qd&&(IM (M+300) (DT 48 QP)==some 0&&(Qd==Sp.elem 48 QP&&(decide (QP.length<=30)&&Sp.within (QP.length+1) 3 QP==0))))
theorem Aqz (M:Nat):Ar7 M=true:=by kernel_rfl
structure Ak3 (N:Nat):Prop where
  enc:Gy N=some Qd
  YX:Jm N=some Qd
  chk:IM N (DT 48 QP)=some 0
  eq:Qd=Sp.elem 48 QP
  len:QP.length<=30
  nest:Oq 3 QP
theorem Qr {N:Nat} (hN:1048578<N):Ak3 N:=by
  obtain⟨M,rfl⟩:=ofM hN
  have h:=Aqz M
  unfold Ar7 at h
  simp only[Bool.and_eq_true,beq_iff_eq,decide_eq_true_eq]at h
  obtain⟨h1,h2,h3,h4,h5,h6⟩:=h
  exact⟨h1,h2,h3,h4,h5,h6⟩
theorem Aa4 {N:Nat} (h:Ak3 N):Qd.length<=35:=by
  have:=h.len
  have:=Sp.DD 48 QP
  rw[h.eq];omega
theorem Akf {N:Nat} (h:Ak3 N) {d:Nat} (hd:d<=2):Par d Qd [DT 48 QP]:=by
  rw[h.eq];exact GH (Hy (by decide) (by decide) (by have:=h.len;omega)) (by omega) (Ae6 (by omega) h.nest)
def AaP:Bs:=[50,46,53,46,50,57,46,51,53]
def sN:Bs:=[50,46,53,46,50,57,46,50,48]
def AaO:Bs:=[50,46,53,46,50,57,46,50,55]
def jT:Bs:=[50,46,53,46,50,57,46,50,56]
def sO:Bs:=[50,46,53,46,50,57,46,52,54]
theorem AqP:AaP∈Y1:=by decide
theorem AqJ:sN∈Y1:=by decide
theorem AqM:AaO∈Y1:=by decide
theorem AqN:jT∈Y1:=by decide
theorem AqQ:sO∈Y1:=by decide
def lx (x:Li):List Ex:=(bif !(x.ak==[])then [(AaP,false,Sp.elem 48 (Sp.elem 128 x.ak))]else [])++([(sN,false,FT 2 x.num)]++((bif x.base != -1 then [(AaO,true,FT 2 x.base)]else [])++((bif x.hs then [(jT,true,scB x.s)]else [])++(bif decide ((x.fr.length:Int)>0)then [(sO,false,psB x.fr)]else []))))
def Fe (x:Li) (i:Nat):Nat:=if i=0 then x.k else(x.es.getD (i - 1) zE).k
def esF (x:Li) (i:Nat):Bs:=enB (x.es.getD i zE) (Fe x i)
def esB (x:Li):List Bs:=(List.range x.es.length).map (esF x)
def KY (x:Li):Bs:=bif decide ((x.es.length:Int)>0)then Sp.elem 48 (esB x).flatten else []
def Ab3 (x:Li):List Bs:=[FT 2 1,Qd,nmT (aut x.k),H6 x.this,H6 x.next,KY x,Sp.elem 160 (xsB (lx x))]
def UU (x:Li):Bs:=FT 2 1++(Qd++(nmT (aut x.k)++(H6 x.this++(H6 x.next++(KY x++Sp.elem 160 (xsB (lx x)))))))
def Gi (x:Li):Bs:=Sp.elem 48 (UU x)
theorem Ab4 (x:Li):(Ab3 x).flatten=UU x:=by simp [Ab3,UU]
theorem Adh {l:List Pt} {b:Int} (h:l=[]\/(b= -1/\kL l)) (hb:decide ((l.length:Int)>0)=true):kL l:=by
  rcases h with rfl | h
  ·cases hb
  ·exact h.2
section
variable {N:Nat} (hN:1048578<N) {x:Li} (h:OkL x)
include hN h
theorem Aqb:Sp.chk (Sp.elem 48 (Sp.elem 128 x.ak))=0/\(Sp.elem 48 (Sp.elem 128 x.ak)).length<=40/\(x.ak==[]||MM N (Sp.elem 48 (Sp.elem 128 x.ak))==some (x.ak,0))=true:=by
  rcases h.ak with h | h
  ·rw[h];exact⟨by kernel_rfl,of_decide_eq_true (by kernel_rfl),rfl⟩
  ·rw[h]
   obtain⟨M,rfl⟩:=ofM hN
   exact⟨by kernel_rfl,of_decide_eq_true (by kernel_rfl),by kernel_rfl⟩
theorem ArW: ∀ e∈lx x,OkX e:=by
  intro e he
  have b0:=h.b
  have n0:=h.n0
  have n1:=h.n1
  have int: ∀ n:Int,0<=n->n<256->Sp.chk (FT 2 n)=0/\(FT 2 n).length<=8000:=fun n g0 g1=>by
    have I:=JP hN g0 g1
    have:=I.len
    have:=Sp.DD 2 (inB n)
    exact⟨Uu (UC I (by decide) (by decide)) fun h=>absurd h (by decide),by unfold FT;omega⟩
  unfold lx at he
  rcases List.mem_append.1 he with he | he
  ·cases hb: !(x.ak==[])with
   | false=>rw[hb]at he;cases he
   | true =>
     rw[hb]at he
     obtain⟨a1,a2,_⟩:=Aqb hN h
     rw[List.mem_singleton.1 he]
     exact⟨AqP,a1,by show(Sp.elem 48 (Sp.elem 128 x.ak)).length<=_;omega⟩
  rcases List.mem_append.1 he with he | he
  ·obtain⟨a1,a2⟩:=int x.num (by omega) (by omega)
   rw[List.mem_singleton.1 he]
   exact⟨AqJ,a1,a2⟩
  rcases List.mem_append.1 he with he | he
  ·cases hb:x.base != -1 with
   | false=>rw[hb]at he;cases he
   | true =>
     rw[hb]at he
     have hb':x.base≠ -1:=by simpa using hb
     obtain⟨a1,a2⟩:=int x.base (by omega) (by omega)
     rw[List.mem_singleton.1 he]
     exact⟨AqM,a1,a2⟩
  rcases List.mem_append.1 he with he | he
  ·cases hb:x.hs with
   | false=>rw[hb]at he;cases he
   | true =>
     rw[hb]at he
     have S:Aa1 x.s:=by
       rcases h.sc with ⟨h1,_⟩ | ⟨_,h1⟩
       ·rw[hb]at h1;cases h1
       ·exact h1
     have:=vX hN S
     have:=Sp.DD 48 (scC x.s)
     rw[List.mem_singleton.1 he]
     exact⟨AqN,Asy hN S,by show(scB x.s).length<=_;unfold scB;omega⟩
  ·cases hb:decide ((x.fr.length:Int)>0)with
   | false=>rw[hb]at he;cases he
   | true =>
     rw[hb]at he
     have P:=Adh h.fr hb
     have:=uI hN P
     have:=Sp.DD 48 (psC x.fr)
     rw[List.mem_singleton.1 he]
     exact⟨AqQ,Asn hN P,by show(psB x.fr).length<=_;unfold psB;omega⟩
theorem jZ:Aoy (lx x):=by
  refine⟨?_,?_,ArW hN h,?_⟩
  all_goals
    unfold lx
    cases !(x.ak==[])<;>cases x.base != -1<;>cases x.hs<;>cases decide ((x.fr.length:Int)>0)<;>simp [AaP,sN,AaO,jT,sO]
theorem Apc (raw tbs sig:Bs):IV N false (x.y raw tbs sig)=some (lx x,false):=by
  have b0:=h.b
  have n0:=h.n0
  have n1:=h.n1
  have wi: ∀ n:Int,0<=n->n<256->EI N false n=some (FT 2 n,false):=fun n g0 g1=>by
    have I:=JP hN g0 g1
    have w2:Dw N false 2 [inB n]=_:=Uk N 2 false [inB n] (by omega) (by omega) hN (by simp) (by rw[Eb];have:=I.len;omega)
    rw[Eb]at w2
    unfold EI
    rw[I.put,CY,w2];rfl
  have wn:=wi x.num (by omega) (by omega)
  have wb:(x.base != -1)=true->EI N false x.base=some (FT 2 x.base,false):=fun hb=>by
    have hb':x.base≠ -1:=by simpa using hb
    exact wi _ (by omega) (by omega)
  have wa:Dw N false 128 [x.ak]=some (Sp.elem 128 x.ak,false)/\DX N false [Sp.elem 128 x.ak]=some (Sp.elem 48 (Sp.elem 128 x.ak),false):=by
    have hl:x.ak.length<=16:=by
      rcases h.ak with h | h<;>rw[h]
      ·exact Nat.zero_le _
      ·decide
    have:=Sp.DD 128 x.ak
    have w:=Uk N 128 false [x.ak] (by omega) (by omega) hN (by simp) (by rw[Eb];omega)
    rw[Eb]at w
    refine⟨w,?_⟩
    rw[Vw N false _ (by show 1<N;omega) (by show 1<=_;omega),Eb,Jy (by omega)];rfl
  have ws:x.hs=true->O8 N false x.s=some (scB x.s,false):=fun hb=>by
    rcases h.sc with ⟨h1,_⟩ | ⟨_,h1⟩
    ·rw[hb]at h1;cases h1
    ·exact Aof hN h1
  have wp:decide ((x.fr.length:Int)>0)=true->HY N x.fr=some (psB x.fr,0):=fun hb=>Aob hN (Adh h.fr hb)
  obtain⟨wa1,wa2⟩:=wa
  obtain⟨k,this,next,num,base,ak,hs,s,fr,es⟩:=x
  obtain⟨s1,s2,s3,s4,s5⟩:=s
  unfold IV lx Li.y
  try simp only[clR]
  dsimp only at *
  simp only[Jh]
  cases h1: !(ak==[])<;>cases h2:base != -1<;>cases h3:hs<;>cases h4:decide ((fr.length:Int)>0)
  all_goals
    try subst h3
    simp only[h2,h4,forall_const,true_implies]at wb ws wp
    try dsimp only at wb ws wp
    simp (disch:=first | assumption | omega) only[D8,h1,h2,h4,wa1,wa2,wn,wb,ws,wp,L9,bne_self_eq_false,U19,List.cons_append,List.nil_append,List.length_cons,List.length_nil]
    try rfl
end
end Go.Proofs.YtbaomhegdndpnaaGreatDoor.Pl
namespace Go.Proofs.YtbaomhegdndpnaaGreatDoor.Pl
open IntKind (i64)
open Go Vm
section
variable {N:Nat} (hN:1048578<N) {x:Li} (h:OkL x)
include h
theorem Aic {i:Nat} (hi:i<=x.es.length):Fe x i<16:=by
  unfold Fe
  by_cases h0:i=0
  ·rw[if_pos h0];exact h.k
  ·rw[if_neg h0];exact(h.all _ (getD_mem zE (by omega))).k
include hN
theorem es_len:(esB x).flatten.length<=17275:=by
  have:=NL (g:=esF x) (M:=3455) (l:=List.range x.es.length) fun i hi=>Aec hN (h.all _ (getD_mem zE (List.mem_range.1 hi)))
  rw[List.length_range]at this
  have:=h.len
  unfold esB;omega
theorem AoY:(KY x).length<=17280:=by
  have:=es_len hN h
  have:=Sp.DD 48 (esB x).flatten
  unfold KY
  cases decide ((x.es.length:Int)>0)with
  | true=>rw[cond_true];omega
  | false=>exact Nat.zero_le _
theorem XQ:(UU x).length<=59000:=by
  have h1:=(JP hN (n:=1) (by omega) (by omega)).len
  have h2:=Sp.DD 2 (inB 1)
  have h3:=Aa4 (Qr hN)
  have h4:=Ae8 hN (GL hN h.k).ok
  have h5:=Zc (FM hN h.th)
  have h6:=Zc (FM hN h.nx)
  have h7:=AoY hN h
  have h8:=xs_len (jZ hN h) hN
  have h9:=Sp.DD 48 (xsC (lx x))
  have h10:=Sp.DD 160 (xsB (lx x))
  unfold xsB at h10
  unfold UU FT xsB
  rw[List.length_append,List.length_append,List.length_append,List.length_append,List.length_append,List.length_append]
  omega
theorem AiP:(Gi x).length<=59005:=by
  have:=XQ hN h
  have:=Sp.DD 48 (UU x)
  unfold Gi;omega
theorem Afi:(xsB (lx x)).length<=40145:=by
  have:=xs_len (jZ hN h) hN
  have:=Sp.DD 48 (xsC (lx x))
  unfold xsB;omega
variable (raw tbs sig:Bs)
theorem Ar4 (hc:O5 N (x.y raw tbs sig)=some 0):Ux N (x.y raw tbs sig)=some (Gi x,0):=by
  have hl:=h.len
  have hxs:=AfJ (jZ hN h) hN
  have hxl:=Afi hN h
  have htl:=XQ hN h
  have hep:=Apc hN h raw tbs sig
  have ha:=(Qr hN).enc
  have hn:=Aag hN (GL hN h.k).ok
  have t1:=(FM hN h.th).enc
  have t2:=(FM hN h.nx).enc
  have I:=JP hN (n:=1) (by omega) (by omega)
  have w2:Dw N false 2 [inB 1]=_:=Uk N 2 false [inB 1] (by omega) (by omega) hN (by simp) (by rw[Eb];have:=I.len;omega)
  rw[Eb]at w2
  have wi:EI N false 1=some (FT 2 1,false):=by
    unfold EI
    rw[I.put,CY,w2];rfl
  have wx:Dw N false 160 [xsB (lx x)]=_:=Uk N 160 false [xsB (lx x)] (by omega) (by omega) hN (by simp) (by rw[Eb];omega)
  rw[Eb]at wx
  have wS:DX N false (Ab3 x)=some (Gi x,false):=by
    rw[Vw N false _ (by show 7<N;omega) (by show 7<=_;omega),Ab4,Jy (by omega)];rfl
  have hes:=es_len hN h
  have we:DX N false (esB x)=some (Sp.elem 48 (esB x).flatten,false):=by
    have:(esB x).length=x.es.length:=by unfold esB;rw[List.length_map,List.length_range]
    rw[Vw N false _ (by omega) (by omega),Jy (by omega)];rfl
  have hlm:(x.es.map enY).length=x.es.length:=List.length_map _
  unfold Ux
  try simp only[clR]
  rw[hc,CY,show((0:Int) != 0)=false from rfl,cond_false,Jh]
  have fin: ∀ e:Bs,e=KY x->U19 (fun t6a b33024_0a b33024_1a b33024_2a b33024_3a b33024_4a b33024_5a b33024_6a b33024_7a b33024_8a b33024_9a b33024_10a b33024_11a b33024_12a b33024_13a b33024_14a b33024_15a b33024_16a b37376_0a =>
      CW (EI N b37376_0a 1) fun r47=>CW (Gy N) fun r48=>CW (LY N b33024_2a) fun r52=>CW (DN N r47.2 r52.1 r52.2) fun r55=>CW (FW N b33024_3a) fun r59=>CW (DN N r55.2 r59.1 r59.2) fun r62=>CW (FW N b33024_4a) fun r66=>CW (DN N r62.2 r66.1 r66.2) fun r69 =>
      CW (IV N r69.2 (b33024_0a,b33024_1a,b33024_2a,b33024_3a,b33024_4a,b33024_5a,b33024_6a,b33024_7a,b33024_8a,b33024_9a,b33024_10a,b33024_11a,b33024_12a,b33024_13a,b33024_14a,b33024_15a,b33024_16a)) fun r75=>CW (KZ N r75.1) fun r76=>CW (DN N r75.2 r76.1 r76.2) fun r79=>CW (Dw N r79.2 160 ([r79.1]:List Bs)) fun r81=>CW (DX N r81.2 ([r47.1,r48,r55.1,r62.1,r69.1,t6a,r81.1]:List Bs)) fun r83=>CW (Hr N r83.2) fun r85=>bif r85.1 then(some (([]:Bs),(2:Int)))else(some (r83.1,0)))
      (e,raw,tbs,aut x.k,x.this,x.next,x.num,x.base,x.ak,x.hs,x.s.1,x.s.2.1,x.s.2.2.1,x.s.2.2.2.1,x.s.2.2.2.2,x.fr,x.es.map enY,sig,false)=some (Gi x,0):=by
    intro e he
    subst he
    unfold Ab3 at wS
    unfold Li.y at hep
    dsimp only[U19]
    rw[wi,CY,ha,CY,hn,CY]
    dsimp only
    rw[L9,CY,t1,CY]
    dsimp only
    rw[L9,CY,t2,CY]
    dsimp only
    rw[L9,CY]
    dsimp only
    rw[hep,CY]
    dsimp only
    rw[hxs,CY]
    dsimp only
    rw[L9,CY]
    dsimp only
    rw[wx,CY]
    dsimp only
    rw[wS,CY]
    rfl
  cases hb:decide ((x.es.length:Int)>0)with
  | false =>
    have hE:KY x=[]:=by unfold KY;rw[hb];rfl
    have hb2:decide (((x.y raw tbs sig).2.2.2.2.2.2.2.2.2.2.2.2.2.2.2.1.length:Int)>0)=false:=by
      show decide ((((x.es.map enY).length:Nat):Int)>0)=false
      rw[hlm];exact hb
    rw[hb2,cond_false]
    exact fin [] hE.symm
  | true =>
    have hE:KY x=Sp.elem 48 (esB x).flatten:=by unfold KY;rw[hb];rfl
    have hb2:decide (((x.y raw tbs sig).2.2.2.2.2.2.2.2.2.2.2.2.2.2.2.1.length:Int)>0)=true:=by
      show decide ((((x.es.map enY).length:Nat):Int)>0)=true
      rw[hlm];exact hb
    rw[hb2,cond_true]
    unfold Li.y at *
    dsimp only at *
    refine(Fp (fun i=>((i:Int),raw,tbs,aut x.k,x.this,x.next,x.num,x.base,x.ak,x.hs,x.s.1,x.s.2.1,x.s.2.2.1,x.s.2.2.2.1,x.s.2.2.2.2,x.fr,x.es.map enY,sig,aut (Fe x i),false,(List.range i).map (esF x))) x.es.length (some (Gi x,0)) ?_ ?_ N (by omega))
    ·intro i hi k
     have hE:=h.all _ (getD_mem zE hi)
     have e1:=VA enY x.es zE zY hi
     have e2:=Aoe hN hE (p:=Fe x i) (Aic h (by omega))
     have e3:(List.range i).map (esF x)++[enB (x.es.getD i zE) (Fe x i)]=(List.range (i+1)).map (esF x):=by rw[List.range_succ,List.map_append];rfl
     have e4:((List.range i).map (esF x)).length=i:=by rw[List.length_map,List.length_range]
     unfold zY at e1
     dsimp only[U21]
     rw[hlm,Int.toNat_natCast,e1]
     simp (disch:=first | assumption | omega) only[D8,e2,e4,e3,Em]
     try rfl
    ·intro k
     dsimp only[U21]
     rw[hlm,SH (by omega),cond_false]
     dsimp only[U19]
     rw[show(List.range x.es.length).map (esF x)=esB x from rfl,we,CY]
     exact fin _ hE.symm
end
end Go.Proofs.YtbaomhegdndpnaaGreatDoor.Pl
namespace Go.Proofs.YtbaomhegdndpnaaGreatDoor.Pl
open IntKind (i64)
open Go Vm
section
variable {N:Nat} (hN:1048578<N)
include hN
theorem AcT {n:Int} (h0:0<=n) (h1:n<256) {t:Nat} (ht:t<256) (h31:t % 32≠31):EU N (t:Int) n=some (FT t n):=by
  have I:=JP hN h0 h1
  have w:=Nu N t [inB n] ht h31 hN (by simp) (by rw[Eb];have:=I.len;omega)
  rw[Eb]at w
  unfold EU
  rw[I.Amj,CY,w];rfl
theorem Ahv {t:Nat} (b:Bool) (ht:t<256) (h31:t % 32≠31):GZ N (t:Int) b=some (boB t b):=by
  unfold GZ
  cases b with
  | false=>rfl
  | true =>
    have w3:=Nu N t [[255]] ht h31 hN (by simp) (by simp)
    rw[Bool.not_true,cond_false]
    show CW (some [255]) _=_
    rw[CY,w3];rfl
theorem AqE {r:Int} (h:okR r) {t:Nat} (ht:t<256) (h31:t % 32≠31):IP N (t:Int) r=some (flT t r):=by
  unfold IP
  rcases h with rfl | hr
  ·rfl
  ·have R:=MG hN hr
   have w3:=Nu N t [flB r] ht h31 hN (by simp) (by rw[Eb];have:=R.len;omega)
   rw[Eb]at w3
   rw[JJ R.ne,cond_false,R.Amj,CY]
   dsimp only
   rw[w3,CY]
   unfold flT
   rw[Sj R.ne,cond_true]
theorem ArM {l:List Gn} (h:uB l):Gg N l=some (nsB l):=by
  unfold Gg nsB
  cases l with
  | nil=>rfl
  | cons a r =>
    have ge:=SY hN h (by simp)
    have hle:=IZ hN h
    have e1:=Sp.DD 160 (DZ (a::r))
    have w1:DL N 160 [DZ (a::r)]=_:=Nu N 160 [DZ (a::r)] (by omega) (by omega) hN (by simp) (by rw[Eb];omega)
    have w2:DL N 160 [Sp.elem 160 (DZ (a::r))]=_:=Nu N 160 [Sp.elem 160 (DZ (a::r))] (by omega) (by omega) hN (by simp) (by rw[Eb];omega)
    rw[Eb]at w1 w2
    rw[JJ (by rw[List.length_cons];omega),cond_false,AgQ (by rw[List.length_cons];omega),cond_true,ge,CY]
    dsimp only
    rw[w1,CY,w2,CY]
theorem AqA {base:Int} {ind:Bool} {p q:Nat} {e:En} (h:OkE base ind q e) (hp:p<16):Vq N (enY e) (aut p)=some (enB e p):=by
  have A:=GL hN h.k
  have hm:=A.rmt p hp
  have T:=(FM hN h.ti).YX
  have hr:=kW h.re
  have nI:EU N 2 e.1=_:=AcT hN (n:=e.1) (by have:=h.s0;omega) (by have:=h.s1;omega) (t:=2) (by omega) (by omega)
  have nR:EU N 10 e.re=_:=AcT hN (n:=e.re) (by omega) (by omega) (t:=10) (by omega) (by omega)
  have hl:=xE hN h (p:=p)
  have hgl:=OC hN (PN A.ok)
  have hd:Ih N (aut e.k)=some (Fz (4,[],aut e.k)):=by
    have h1:=SY hN (gs1 (PN A.ok)) (by simp)
    rw[AeC]at h1
    unfold Ih
    rw[h1];rfl
  have wI:DL N 48 [Fz (4,[],aut e.k)]=some (isB e.k):=by
    have:=Nu N 48 [Fz (4,[],aut e.k)] (by omega) (by omega) hN (by simp) (by rw[Eb];omega)
    rw[Eb]at this
    exact this
  have wS:DL N 48 [FT 2 e.1,H6 e.2.1,enO e p]=some (enB e p):=by
    have:=Nu N 48 [FT 2 e.1,H6 e.2.1,enO e p] (by omega) (by omega) hN (by simp) (by rw[flat3];unfold enC at hl;omega)
    rw[flat3]at this
    exact this
  have wX:decide (((enX e p).length:Int)>0)=true->Fq N (enX e p)=some (xsB (enX e p),0):=fun hb=>Ad4 (eP hN h (by have:=of_decide_eq_true hb;omega)) hN
  have hiv2:(e.iv != -1)=true->FU N e.iv=some (H6 e.iv,0):=fun hn=>(FM hN (h.iv.resolve_left (by simpa using hn))).YX
  have fin:(Ei (fun j4=>bif decide (((enX e p).length:Int)>(0:Int))then(CW (Fq N (enX e p)) fun r54=>j4 (r54.1,e.1,e.2.1,e.re,e.iv,aut e.k))else(j4 (([]:Bs),e.1,e.2.1,e.re,e.iv,aut e.k)))
      (U6 fun t8d b33280_0d b33280_1d b33280_2d b33280_3d (b33280_4d:List (List Att))=>CW (FU N b33280_1d) fun r60=>CW (EU N 2 b33280_0d) fun r65=>CW (DL N 48 ([r65,r60.1,t8d]:List Bs)) fun r69=>some r69):Option Bs)=some (enB e p):=by
    rw[Jh]
    cases hb:decide (((enX e p).length:Int)>0)with
    | true =>
      have hO:enO e p=xsB (enX e p):=by unfold enO;rw[hb];rfl
      rw[hO]at wS
      rw[cond_true,wX hb,CY]
      dsimp only[U6]
      rw[T,CY,nI,CY]
      dsimp only
      rw[wS,CY]
    | false =>
      have hO:enO e p=[]:=by unfold enO;rw[hb];rfl
      rw[hO]at wS
      rw[cond_false]
      dsimp only[U6]
      rw[T,CY,nI,CY]
      dsimp only
      rw[wS,CY]
  unfold Vq
  try simp only[clR]
  refine Eq.trans ?_ fin
  unfold enX enY
  dsimp only
  cases h1:e.re != 0<;>cases h2:e.iv != -1<;>cases h3:(e.k % 8==p % 8)
  all_goals
    rw[h3]at hm
    first
      | (have hv:=hiv2 h2
         simp (disch:=first | assumption | omega) only[D8,h1,h2,h3,nR,hv,hm,hd,wI,List.length_cons,List.length_nil,List.nil_append,List.cons_append,Yz,Y0,bF,FT]
         done)
      | (simp (disch:=first | assumption | omega) only[D8,h1,h2,h3,nR,hm,hd,wI,List.length_cons,List.length_nil,List.nil_append,List.cons_append,Yz,Y0,bF,FT]
         done)
theorem Apz {l:List Pt} {b:Int} (h:l=[]\/(b= -1/\kL l)):Il N l=some 0:=by
  rcases h with rfl | h
  ·obtain⟨M,rfl⟩:=ofM hN
   kernel_rfl
  ·exact AfD hN h.2
variable {x:Li} (h:OkL x)
include h
theorem ArI (raw tbs sig:Bs):Ii N (x.y raw tbs sig)=some (lx x,0):=by
  have b0:=h.b
  have n0:=h.n0
  have n1:=h.n1
  have wn:EU N 2 x.num=some (FT 2 x.num):=AcT hN (t:=2) (by omega) (by omega) (by omega) (by omega)
  have wb:(x.base != -1)=true->EU N 2 x.base=some (FT 2 x.base):=fun hb=>by
    have hb':x.base≠ -1:=by simpa using hb
    exact AcT hN (t:=2) (by omega) (by omega) (by omega) (by omega)
  have wa:DL N 128 [x.ak]=some (Sp.elem 128 x.ak)/\DL N 48 [Sp.elem 128 x.ak]=some (Sp.elem 48 (Sp.elem 128 x.ak)):=by
    have hl:x.ak.length<=16:=by
      rcases h.ak with h | h<;>rw[h]
      ·exact Nat.zero_le _
      ·decide
    have:=Sp.DD 128 x.ak
    have w:=Nu N 128 [x.ak] (by omega) (by omega) hN (by simp) (by rw[Eb];omega)
    have v:=Nu N 48 [Sp.elem 128 x.ak] (by omega) (by omega) hN (by simp) (by rw[Eb];omega)
    rw[Eb]at w v
    exact⟨w,v⟩
  have hsc:x.hs=true->Gg N x.s.1=some (nsB x.s.1)/\GZ N 129 x.s.2.1=some (boB 129 x.s.2.1)/\GZ N 130 x.s.2.2.1=some (boB 130 x.s.2.2.1)/\IP N 131 x.s.2.2.2.1=some (flT 131 x.s.2.2.2.1)/\GZ N 132 x.s.2.2.2.2=some (boB 132 x.s.2.2.2.2) /\
      DL N 48 [nsB x.s.1,boB 129 x.s.2.1,boB 130 x.s.2.2.1,flT 131 x.s.2.2.2.1,boB 132 x.s.2.2.2.2]=some (scB x.s):=fun hb=>by
    have S:Aa1 x.s:=by
      rcases h.sc with ⟨h1,_⟩ | ⟨_,h1⟩
      ·rw[hb]at h1;cases h1
      ·exact h1
    have hlen:=vX hN S
    have hf: [nsB x.s.1,boB 129 x.s.2.1,boB 130 x.s.2.2.1,flT 131 x.s.2.2.2.1,boB 132 x.s.2.2.2.2].flatten=scC x.s:=by simp [scC]
    have wS:=Nu N 48 [nsB x.s.1,boB 129 x.s.2.1,boB 130 x.s.2.2.1,flT 131 x.s.2.2.2.1,boB 132 x.s.2.2.2.2] (by omega) (by omega) hN (by simp) (by rw[hf];omega)
    rw[hf]at wS
    exact⟨ArM hN S.ns,Ahv hN (t:=129) _ (by omega) (by omega),Ahv hN (t:=130) _ (by omega) (by omega),AqE hN S.re (t:=131) (by omega) (by omega),Ahv hN (t:=132) _ (by omega) (by omega),wS⟩
  have wp:decide ((x.fr.length:Int)>0)=true->Ja N x.fr=some (psB x.fr,0):=fun hb=>Amd hN (Adh h.fr hb)
  obtain⟨wa1,wa2⟩:=wa
  obtain⟨k,this,next,num,base,ak,hs,s,fr,es⟩:=x
  obtain⟨s1,s2,s3,s4,s5⟩:=s
  unfold Ii lx Li.y
  try simp only[clR]
  dsimp only at *
  simp only[Jh]
  cases h1: !(ak==[])<;>cases h2:base != -1<;>cases h3:hs<;>cases h4:decide ((fr.length:Int)>0)
  all_goals
    try subst h3
    simp only[h2,h4,forall_const,true_implies]at wb hsc wp
    try dsimp only at wb hsc wp
    try obtain⟨c1,c2,c3,c4,c5,c6⟩:=hsc
    first
      | (simp (disch:=first | assumption | omega) only[D8,h1,h2,h4,wa1,wa2,wn,wb,c1,c2,c3,c4,c5,c6,wp,bne_self_eq_false,U18,List.cons_append,List.nil_append,List.length_cons,List.length_nil]
         try rfl)
      | (simp (disch:=first | assumption | omega) only[D8,h1,h2,h4,wa1,wa2,wn,wb,wp,bne_self_eq_false,U18,List.cons_append,List.nil_append,List.length_cons,List.length_nil]
         try rfl)
end
end Go.Proofs.YtbaomhegdndpnaaGreatDoor.Pl
namespace Go.Proofs.YtbaomhegdndpnaaGreatDoor.Pl
open IntKind (i64)
open Go Vm
def dK (x:Li):Nat->Nat
  | 0=>x.k
  | i+1=>bif (x.es.getD i zE).k % 8==Fe x i % 8 then dK x i else(x.es.getD i zE).k
def Yo (x:Li) (i:Nat):En:=((x.es.getD i zE).1,(x.es.getD i zE).2.1,(x.es.getD i zE).re,(x.es.getD i zE).iv,dK x (i+1))
def esK (x:Li):List En:=(List.range x.es.length).map (Yo x)
def liK (x:Li):Li:=⟨x.k,x.this,x.next,x.num,x.base,x.ak,x.hs,scK x.s,x.fr.map ptK,esK x⟩
theorem Ana {e e':En} {p p':Nat} (a1:e.1=e'.1) (a2:e.2.1=e'.2.1) (h1:e.re=e'.re) (h2:e.iv=e'.iv) (h3:(e.k % 8==p % 8)=(e'.k % 8==p' % 8)) (h4:(e.k % 8==p % 8)=false->e.k=e'.k):enB e p=enB e' p':=by
  have hX:enX e p=enX e' p':=by
    unfold enX
    rw[h1,h2,h3]
    cases hb:(e'.k % 8==p' % 8)with
    | true=>rw[Bool.not_true,cond_false,cond_false]
    | false=>rw[h4 (h3.trans hb)]
  unfold enB enC enO
  rw[a1,a2,hX]
theorem Akq (x:Li) (i:Nat):Fe x (i+1)=(x.es.getD i zE).k:=rfl
section
variable {x:Li} (h:OkL x)
include h
theorem AkY: ∀ i,i<=x.es.length->dK x i % 8=Fe x i % 8/\dK x i<16:=by
  intro i
  induction i with
  | zero=>intro _;exact⟨rfl,h.k⟩
  | succ i ih =>
    intro hi
    obtain⟨h1,h2⟩:=ih (by omega)
    have hk:=(h.all _ (getD_mem zE (show i<x.es.length by omega))).k
    rw[Akq]
    show(bif _ then _ else _) % 8=_/\(bif _ then _ else _)<16
    cases hb:(x.es.getD i zE).k % 8==Fe x i % 8 with
    | true=>exact⟨h1.trans (eq_of_beq hb).symm,h2⟩
    | false=>exact⟨rfl,hk⟩
omit h in
theorem XJ:(esK x).length=x.es.length:=by unfold esK;rw[List.length_map,List.length_range]
omit h in
theorem Yn {i:Nat} (hi:i<x.es.length):(esK x).getD i zE=Yo x i:=by
  unfold esK
  rw[getD_lt _ _ _ (by rw[List.length_map,List.length_range];exact hi),List.getElem_map,List.getElem_range]
theorem xH {i:Nat} (hi:i<x.es.length):(Yo x i).k % 8=(x.es.getD i zE).k % 8:=by
  have:=(AkY h (i+1) (by omega)).1
  rw[Akq]at this
  exact this
theorem AgY {N:Nat} (hN:1048578<N):OkL (liK x):=by
  refine⟨h.k,h.th,h.nx,h.le,h.n0,h.n1,h.b,h.ak,?_,?_,?_,?_,?_⟩
  ·rcases h.sc with ⟨h1,h2⟩ | ⟨h1,h2⟩
   ·exact Or.inl ⟨h1,by show scK x.s=_;rw[h2];rfl⟩
   ·exact Or.inr ⟨h1,Arz hN h2⟩
  ·rcases h.fr with h1 | ⟨h1,h2⟩
   ·exact Or.inl (by show x.fr.map ptK=[];rw[h1];rfl)
   ·exact Or.inr ⟨h1,AnO hN h2⟩
  ·show(esK x).length<=5
   rw[XJ];exact h.len
  ·intro e he
   obtain⟨i,hi,rfl⟩:=List.mem_map.1 he
   have hi:=List.mem_range.1 hi
   have E:=h.all _ (getD_mem zE hi)
   refine⟨E.s0,E.s1,E.ti,E.re,E.r8,E.iv,(AkY h (i+1) (by omega)).2,?_⟩
   rcases E.is with h1 | h1
   ·exact Or.inl h1
   ·exact Or.inr ((xH h hi).trans h1)
  ·show(esK x).Pairwise _
   rw[List.pairwise_iff_getElem]
   intro i j hi hj hij hq
   rw[XJ]at hi hj
   rw[<- getD_lt _ i zE,<- getD_lt _ j zE,Yn hi,Yn hj]at hq
   have:=List.pairwise_iff_getElem.1 h.nd i j hi hj hij
   rw[<- getD_lt _ i zE,<- getD_lt _ j zE]at this
   exact this ⟨hq.1,(xH h hi).symm.trans (hq.2.trans (xH h hj))⟩
theorem AsV {i:Nat} (hi:i<x.es.length):enB (Yo x i) (Fe (liK x) i)=enB (x.es.getD i zE) (Fe x i):=by
  have hl:Fe (liK x) i % 8=Fe x i % 8:=by
    unfold Fe
    by_cases h0:i=0
    ·rw[if_pos h0,if_pos h0];rfl
    ·rw[if_neg h0,if_neg h0]
     show((esK x).getD (i - 1) zE).k % 8=_
     rw[Yn (by omega)];exact xH h (by omega)
  have e1:=xH h hi
  refine Ana (e:=Yo x i) (e':=x.es.getD i zE) rfl rfl rfl rfl (by rw[e1,hl]) fun hb=> ?_
  rw[e1,hl]at hb
  show(bif (x.es.getD i zE).k % 8==Fe x i % 8 then dK x i else(x.es.getD i zE).k)=_
  rw[hb];rfl
theorem Ati {N:Nat} (hN:1048578<N):Gi (liK x)=Gi x:=by
  have h1:esB (liK x)=esB x:=by
    unfold esB
    show(List.range (esK x).length).map _=_
    rw[XJ]
    refine List.map_congr_left fun i hi=> ?_
    have hi:=List.mem_range.1 hi
    unfold esF
    show enB ((esK x).getD i zE) _=_
    rw[Yn hi];exact AsV h hi
  have h2:lx (liK x)=lx x:=by
    have e1:(bif x.hs then [(jT,true,scB (scK x.s))]else [])=(bif x.hs then [(jT,true,scB x.s)]else []):=by
      rcases h.sc with ⟨h1,_⟩ | ⟨_,h1⟩
      ·rw[h1];rfl
      ·rw[Ath hN h1]
    have e2:(bif decide ((x.fr.length:Int)>0)then [(sO,false,psB (x.fr.map ptK))]else [])=(bif decide ((x.fr.length:Int)>0)then [(sO,false,psB x.fr)]else []):=by
      rcases h.fr with h1 | ⟨_,h1⟩
      ·rw[h1];rfl
      ·rw[Ate hN h1]
    unfold lx liK
    dsimp only
    rw[List.length_map,e1,e2]
  have h3:KY (liK x)=KY x:=by
    unfold KY
    rw[h1]
    unfold liK
    dsimp only
    rw[XJ]
  unfold Gi UU
  rw[h2,h3]
  unfold liK
  rfl
end
end Go.Proofs.YtbaomhegdndpnaaGreatDoor.Pl
namespace Go.Proofs.YtbaomhegdndpnaaGreatDoor.Pl
open IntKind (i64)
open Go Vm
theorem AnR {N:Nat} (hN:1048578<N) {t:Nat} {c:Bs} {k:Int} (h:Fine (t,c)) (hk:(t:Int)=k):Gj N (Sp.elem t c) k=some (DT t c,0):=by
  have:=h.len
  have hB:=Sp.DD t c
  rw[<- hk,SC N _ t hN (by dsimp only at this;omega)]
  exact congrArg some (RD t c h.lt h.low h.len)
def Pq (e:En) (z:Ey) (y:Ex):Ey:=bif y.1==Yz then(z.1,z.2.1,e.re,z.2.2.2.1,z.2.2.2.2)else bif y.1==Y0 then(z.1,z.2.1,z.2.2.1,e.iv,z.2.2.2.2)else(z.1,z.2.1,z.2.2.1,z.2.2.2.1,aut e.k)
def enZ (e:En) (p d:Nat):En:=(e.1,e.2.1,e.re,e.iv,bif e.k % 8==p % 8 then d else e.k)
theorem At6 (N:Nat) (z:Ey) (v:Bs):KI N z (Yz,false,v)=CW (GN N v 10) fun r=>some (r.2,(z.1,z.2.1,r.1,z.2.2.2.1,z.2.2.2.2)):=by kernel_rfl
theorem At7 (N:Nat) (z:Ey) (v:Bs):KI N z (Y0,false,v)=CW (Qw N v) fun r=>some (r.2,(z.1,z.2.1,z.2.2.1,r.1,z.2.2.2.2)):=by kernel_rfl
theorem AtA (N:Nat) (z:Ey) (v:Bs):KI N z (bF,true,v)=CW (Ny N v) fun r=>some (r.2,(z.1,z.2.1,z.2.2.1,z.2.2.2.1,r.1)):=by kernel_rfl
theorem AsF (e:En) (z:Ey) (v:Bs):Pq e z (Yz,false,v)=(z.1,z.2.1,e.re,z.2.2.2.1,z.2.2.2.2):=by kernel_rfl
theorem AsG (e:En) (z:Ey) (v:Bs):Pq e z (Y0,false,v)=(z.1,z.2.1,z.2.2.1,e.iv,z.2.2.2.2):=by kernel_rfl
theorem AsJ (e:En) (z:Ey) (v:Bs):Pq e z (bF,true,v)=(z.1,z.2.1,z.2.2.1,z.2.2.2.1,aut e.k):=by kernel_rfl
theorem ArK (e:En) (p d:Nat):(enX e p).foldl (Pq e) (e.1,e.2.1,0,-1,aut d)=enY (enZ e p d):=by
  have h1:(e.re != 0)=false->e.re=0:=fun h=>by simpa using h
  have h2:(e.iv != -1)=false->e.iv= -1:=fun h=>by simpa using h
  have a1: ∀ z:Ey,(bif e.re != 0 then [(Yz,false,FT 10 e.re)]else []).foldl (Pq e) z=(z.1,z.2.1,(bif e.re != 0 then e.re else z.2.2.1),z.2.2.2.1,z.2.2.2.2):=fun z=>by
    cases e.re != 0 with
    | true=>exact AsF e z (FT 10 e.re)
    | false=>rfl
  have a2: ∀ z:Ey,(bif e.iv != -1 then [(Y0,false,H6 e.iv)]else []).foldl (Pq e) z=(z.1,z.2.1,z.2.2.1,(bif e.iv != -1 then e.iv else z.2.2.2.1),z.2.2.2.2):=fun z=>by
    cases e.iv != -1 with
    | true=>exact AsG e z (H6 e.iv)
    | false=>rfl
  have a3: ∀ z:Ey,(bif !(e.k % 8==p % 8)then [(bF,true,isB e.k)]else []).foldl (Pq e) z=(z.1,z.2.1,z.2.2.1,z.2.2.2.1,(bif e.k % 8==p % 8 then z.2.2.2.2 else aut e.k)):=fun z=>by
    cases e.k % 8==p % 8 with
    | true=>rfl
    | false=>exact AsJ e z (isB e.k)
  have b1:(bif e.re != 0 then e.re else 0)=e.re:=by
    cases hb:e.re != 0 with
    | true=>rfl
    | false=>exact(h1 hb).symm
  have b2:(bif e.iv != -1 then e.iv else -1)=e.iv:=by
    cases hb:e.iv != -1 with
    | true=>rfl
    | false=>exact(h2 hb).symm
  have b3:(bif e.k % 8==p % 8 then aut d else aut e.k)=aut (bif e.k % 8==p % 8 then d else e.k):=by cases e.k % 8==p % 8<;>rfl
  unfold enX
  rw[List.foldl_append,List.foldl_append,a1,a2,a3]
  dsimp only
  rw[b1,b2,b3]
  rfl
section
variable {N:Nat} (hN:1048578<N) {base:Int} {ind:Bool} {p q d:Nat} {e:En} (h:OkE base ind q e)
include hN h
theorem As5 {y:Ex} (hy:y∈enX e p) (z:Ey):KI N z y=some (0,Pq e z y):=by
  unfold enX at hy
  rcases List.mem_append.1 hy with hy | hy
  ·cases hb:e.re != 0 with
   | false=>rw[hb]at hy;cases hy
   | true =>
     rw[hb]at hy
     have hr:=kW h.re
     have I:=JP hN (n:=e.re) (by omega) (by omega)
     have o:=AnR hN (UC I (t:=10) (by decide) (by decide)) rfl
     have hi:GN N (FT 10 e.re) 10=some (e.re,0):=by
       unfold GN FT
       rw[show Gj N (Sp.elem 10 (inB e.re)) 10=_ from o,CY]
       show CW (JU N (inB e.re)) _=_
       rw[I.int];rfl
     rw[List.mem_singleton.1 hy,At6,AsF,hi,CY]
  ·rcases List.mem_append.1 hy with hy | hy
   ·cases hb:e.iv != -1 with
    | false=>rw[hb]at hy;cases hy
    | true =>
      rw[hb]at hy
      have T:=FM hN (h.iv.resolve_left (by simpa using hb))
      have:=T.len
      have hl:=Zc T
      have hi:Qw N (H6 e.iv)=some (e.iv,0):=by
        unfold Qw
        rw[Uj N _ (by omega) (by omega),T.eq,kN _ _ T.fine.lt T.fine.low T.fine.len,CY]
        show CW (NJ N ((Kq e.iv).1:Int) (Kq e.iv).2) _=_
        rw[T.dec];rfl
      rw[List.mem_singleton.1 hy,At7,AsG,hi,CY]
   ·cases hb: !(e.k % 8==p % 8)with
    | false=>rw[hb]at hy;cases hy
    | true =>
      rw[hb]at hy
      obtain⟨_,_,hi⟩:=Anx hN h.k
      rw[List.mem_singleton.1 hy,AtA,AsJ,hi,CY]
theorem AoO (hd:d<16):Oa N (AoR e p) (aut d)=some (enY (enZ e p d),0,[]):=by
  have cp:=Akl hN (GL hN hd).ok
  have I:=JP hN (n:=e.1) (by have:=h.s0;omega) (by have:=h.s1;omega)
  have T:=FM hN h.ti
  have num: ∀ r,MN N (Aes 2 e.1::r)=some (e.1,0,r):=fun r=>by
    unfold MN Aes
    rw[Ri 2 _ r (k:=2) rfl,CY]
    dsimp only[DT]
    rw[show((0:Int) != 0)=false from rfl,cond_false,I.int];rfl
  have tim: ∀ r,O9 N (wQ e.2.1::r)=some (e.2.1,0,r):=fun r=>by
    unfold O9 wQ
    rw[oZ,CY]
    dsimp only[DT]
    rw[show((0:Int) != 0)=false from rfl,cond_false,T.dec];rfl
  have hf:=ArK e p d
  unfold Oa AoR
  try simp only[clR]
  rw[cp,CY,num,CY]
  dsimp only
  rw[show((0:Int) != 0)=false from rfl,cond_false,tim,CY]
  dsimp only
  rw[show((0:Int) != 0)=false from rfl,cond_false,Jh,RY,CY]
  cases hb:decide (((enX e p).length:Int)>0)with
  | false =>
    have h0:enX e p=[]:=List.eq_nil_iff_length_eq_zero.2 (by have:=of_decide_eq_false hb;omega)
    rw[h0]at hf
    have hf:(e.1,e.2.1,(0:Int),(-1:Int),aut d)=enY (enZ e p d):=hf
    rw[<- hf]
    dsimp only[jJ,cond_false,U6]
    rw[NH];rfl
  | true =>
    have X:=eP hN h (p:=p) (by have:=of_decide_eq_true hb;omega)
    have hl:=X.len
    have hx:=AfI X hN
    rw[cond_true,AhW (t:=48) (k:=48) rfl]
    dsimp only[DT]
    rw[cond_true,show Sp.elem 48 (xsC (enX e p))=xsB (enX e p)from rfl,hx,CY]
    dsimp only
    rw[show((0:Int) != 0)=false from rfl,cond_false]
    refine(Fp (fun i=>((i:Int),([]:List El),(((enX e p).take i).foldl (Pq e) (e.1,e.2.1,0,-1,aut d)).1,(((enX e p).take i).foldl (Pq e) (e.1,e.2.1,0,-1,aut d)).2.1,(((enX e p).take i).foldl (Pq e) (e.1,e.2.1,0,-1,aut d)).2.2.1,(((enX e p).take i).foldl (Pq e) (e.1,e.2.1,0,-1,aut d)).2.2.2.1,(((enX e p).take i).foldl (Pq e) (e.1,e.2.1,0,-1,aut d)).2.2.2.2)) (enX e p).length (some (enY (enZ e p d),0,[])) ?_ ?_ N (by omega))
    ·intro i hi k
     have ht:=As5 hN h (getD_mem zX hi) (((enX e p).take i).foldl (Pq e) (e.1,e.2.1,0,-1,aut d))
     have e1:((enX e p).take (i+1)).foldl (Pq e) (e.1,e.2.1,0,-1,aut d)=Pq e (((enX e p).take i).foldl (Pq e) (e.1,e.2.1,0,-1,aut d)) ((enX e p).getD i zX):=by
       rw[List.take_add_one,List.getElem?_eq_getElem hi,List.foldl_append,getD_lt _ i zX hi];rfl
     rw[<- e1]at ht
     unfold zX at ht
     dsimp only[U7]
     rw[Ob (by omega),cond_true,Va (by omega),EW,EW,Int.toNat_natCast]
     refine(congrArg (fun o=>CW o _) ht).trans ?_
     rw[CY]
     simp (disch:=first | assumption | omega) only[D8,Em,bne_self_eq_false]
    ·intro k
     dsimp only[U7]
     rw[SH (by omega),cond_false,List.take_length,hf]
     dsimp only[U6]
     rw[NH];rfl
end
section
variable {N:Nat} (hN:1048578<N) {x:Li} (h:OkL x)
include hN h
theorem AqB:Par 1 (esB x).flatten ((List.range x.es.length).map fun i=>DT 48 (enC (x.es.getD i zE) (Fe x i))):=XP fun i hi=>by
  have E:=h.all _ (getD_mem zE (List.mem_range.1 hi))
  exact GH (Aed hN E) (by decide) (Ae6 (by decide) (Ah9 hN E).nest)
theorem AmS (h0:0<x.es.length):LG N (esB x).flatten (aut x.k)=some ((esK x).map enY,0):=by
  have hl:=h.len
  have hb:=es_len hN h
  have h1:=JE N (esB x).flatten (by omega) (by omega) (by omega)
  rw[(AqB hN h).list]at h1
  have hlm:((List.range x.es.length).map fun i=>DT 48 (enC (x.es.getD i zE) (Fe x i))).length=x.es.length:=by rw[List.length_map,List.length_range]
  unfold LG GR Ia
  try simp only[clR]
  rw[h1,CY]
  dsimp only
  rw[show((0:Int) != 0)=false from rfl,cond_false,KR,show((0:Int) != 0)=false from rfl,cond_false,CY]
  dsimp only
  rw[hlm,JJ (by omega),cond_false]
  refine(Fp (fun i=>(aut (dK x i),((List.range x.es.length).map fun i=>DT 48 (enC (x.es.getD i zE) (Fe x i))).drop i,((List.range i).map (Yo x)).map enY)) x.es.length (some ((esK x).map enY,0)) ?_ ?_ N (by omega))
  ·intro i hi k
   have E:=h.all _ (getD_mem zE hi)
   have e1:((List.range x.es.length).map fun i=>DT 48 (enC (x.es.getD i zE) (Fe x i))).drop i=DT 48 (enC (x.es.getD i zE) (Fe x i))::((List.range x.es.length).map fun i=>DT 48 (enC (x.es.getD i zE) (Fe x i))).drop (i+1):=by
     rw[List.drop_eq_getElem_cons (by rw[hlm];exact hi),List.getElem_map,List.getElem_range]
   have e2:=Afz hN (r:=((List.range x.es.length).map fun i=>DT 48 (enC (x.es.getD i zE) (Fe x i))).drop (i+1)) (Aed hN E (p:=Fe x i)).len (Ah9 hN E).list
   have e3:=AoO hN E (p:=Fe x i) (AkY h i (by omega)).2
   have e4:(((List.range i).map (Yo x)).map enY).length=i:=by rw[List.length_map,List.length_map,List.length_range]
   have e5:enY (enZ (x.es.getD i zE) (Fe x i) (dK x i))=enY (Yo x i):=rfl
   have e6:((List.range i).map (Yo x)).map enY++[enY (Yo x i)]=((List.range (i+1)).map (Yo x)).map enY:=by rw[List.range_succ,List.map_append,List.map_append];rfl
   have e7:((DT 48 (enC (x.es.getD i zE) (Fe x i))::((List.range x.es.length).map fun i=>DT 48 (enC (x.es.getD i zE) (Fe x i))).drop (i+1)).length:Int)=((x.es.length - i:Nat):Int):=by
     rw[List.length_cons,List.length_drop,hlm];omega
   rw[e5]at e3
   dsimp only[U3]
   rw[e1]
   show CW (some _) _=_
   rw[CY]
   dsimp only
   rw[e7,AgQ (by omega),cond_true,e2,KR]
   dsimp only
   rw[show((0:Int) != 0)=false from rfl,cond_false,e3,CY]
   dsimp only
   rw[show((0:Int) != 0)=false from rfl,cond_false,AcR (by omega),EW,e6]
   rfl
  ·intro k
   have e1:((List.range x.es.length).map fun i=>DT 48 (enC (x.es.getD i zE) (Fe x i))).drop x.es.length=[]:=List.drop_eq_nil_of_le (by rw[hlm];exact Nat.le_refl _)
   dsimp only[U3]
   rw[e1]
   rfl
end
