import Derived.Test.YtbnphelpndnnfaaGreatDoorA18
set_option linter.all false
namespace Go.Proofs.YtbnphelpndnnfaaGreatDoor.Pl
open IntKind (i64)
open Go Vm
abbrev Att:Type:=Bs×Int×Bs
theorem Gp {t:Nat} {c:Bs} (h:c.length<=131072):IV t c=some (Sp.elem t c):=by unfold IV;rw[if_pos h]
theorem VF (N t:Nat) (l:List Bs) (ht:t<256) (h31:t % 32≠31) (hN:1048578<N) (hl:l.length<=1000) (hs:l.flatten.length<=131072):Dz N (t:Int) l=some (Sp.elem t l.flatten,0):=by
  rw[YP N t l ht h31 (by omega) (by omega),Gp hs];rfl
theorem AaH (N t:Nat) (l:List Bs) (ht:t<256) (h31:t % 32≠31) (hN:1048578<N) (hl:l.length<=1000) (hs:l.flatten.length<=131072):Ei N (t:Int) l=some (Sp.elem t l.flatten):=by
  unfold Ei
  rw[lL N t l ht h31 (by omega) (by omega) (by omega),CW,Gp hs];rfl
theorem Lt (N t:Nat) (b:Bool) (l:List Bs) (ht:t<256) (h31:t % 32≠31) (hN:1048578<N) (hl:l.length<=1000) (hs:l.flatten.length<=131072):Dh N b (t:Int) l=some (Sp.elem t l.flatten,b):=by
  rw[sH N t b l ht h31 (by omega) (by omega),Gp hs];simp
theorem DC (a:Bs): [a].flatten=a:=by simp
theorem flat3 (a b c:Bs): [a,b,c].flatten=a++(b++c):=by simp
theorem ofM {N:Nat} (hN:1048578<N): ∃ M,N=M+300:=⟨N - 300,by omega⟩
def Oo:List Att:=[([50,46,53,46,52,46,51],12,[65,110,110]),([50,46,53,46,52,46,51],19,[32,97,110,110]),([50,46,53,46,52,46,51],12,[103,114,195,182,195,159,101]),([50,46,53,46,52,46,54],19,[85,83]),([50,46,53,46,52,46,49,48],19,[69,120,97,109,112,108,101,32,32,67,111,114,112]),([50,46,53,46,52,46,49,48],12,[101,120,97,109,112,108,101,32,99,111,114,112]),([50,46,53,46,52,46,49,49],22,[97,44,98,43,99,61,100,92,101]),([48,46,57,46,50,51,52,50,46,49,57,50,48,48,51,48,48,46,49,48,48,46,49,46,50,53],22,[111,114,103]),([49,46,50,46,56,52,48,46,49,49,51,53,52,57,46,49,46,57,46,49],22,[97,110,110,64,101,120,97,109,112,108,101,46,111,114,103]),([49,46,50,46,56,52,48,46,49,49,51,53,52,57,46,49,46,57,46,49],22,[110,111,32,97,100,100,114,101,115,115]),([50,46,53,46,52,46,57,57],19,[120]),([50,46,53,46,52,46,55],12,[76])]
def Ad1:List Att:=[[48],[49],[50],[51]].flatMap fun k=>[([50,46,53,46,52,46,49,48],19,[67,65,32]++k),([50,46,53,46,52,46,49,48],19,[32,99,97,32,32]++k)]
def Ads:Att:=([50,46,53,46,52,46,49,49],12,[85,110,105,116])
def EG:List (List Att):=Oo.map (fun a=>[a])++(Oo.flatMap fun a=>(Oo.filter fun b=>a.1 != b.1).map fun b=>[a,b])++(Ads::Ad1).map fun a=>[a]
def AcA (l:List Bs):Bs:=(l.foldl (fun s x=>JC x s) []).flatten
def NH (a:Att):Bs:=((Fa 300 a).getD default).1
def Gj (r:List Att):Bs:=AcA (r.map NH)
def QQ (r:List Att):Bs:=Sp.elem 49 (Gj r)
def VA (r:List Att):List Att:=((DN 300 (Dp 49 (Gj r))).getD default).1
structure Adb (N:Nat) (r:List Att):Prop where
  chk:GU N r=some 0
  AcF:Iy N r=some 0
  Ad8:Lp N r=some (r.map NH)
  att: ∀ a∈r,Fa N a=some (NH a,0)
  dec:DN N (Dp 49 (Gj r))=some (VA r,0)
  inC:VA r∈EG
  enc:Gj (VA r)=Gj r
  len:(Gj r).length<=200
  lens:(r.map NH).flatten.length<=200
  p0:0<r.length
  p2:r.length<=2
  nest:Jw 9 (Gj r)
def Nu (M:Nat) (r:List Att):Bool :=
  GU (M+300) r==some 0&&(Iy (M+300) r==some 0&&(Lp (M+300) r==some (r.map NH)&&(r.all (fun a=>Fa (M+300) a==some (NH a,0)) &&
  (DN (M+300) (Dp 49 (Gj r))==some (VA r,0)&&(EG.contains (VA r)&&(Gj (VA r)==Gj r&&(decide ((Gj r).length<=200)&&(decide ((r.map NH).flatten.length<=200)&&(decide (0<r.length)&&(decide (r.length<=2)&&(Sp.within ((Gj r).length+1) 9 (Gj r)==0)))))))))))
theorem uJ {α :Type} (p: α ->Bool) (l:List α) (n:Nat) (h: ∀ i,i<n->((l.drop (12*i)).take 12).all p=true) (hl:l.length<=12*n):l.all p=true:=by
  rw[List.all_eq_true]
  intro x hx
  obtain⟨j,hj,rfl⟩:=List.getElem_of_mem hx
  refine List.all_eq_true.1 (h (j / 12) (by omega)) _ ?_
  rw[List.mem_iff_getElem]
  refine⟨j % 12,by rw[List.length_take,List.length_drop];omega,?_⟩
  rw[List.getElem_take,List.getElem_drop]
  congr 1;omega
theorem ck0 (M:Nat):((EG.drop (12*0)).take 12).all (Nu M)=true:=by kernel_rfl
theorem ck1 (M:Nat):((EG.drop (12*1)).take 12).all (Nu M)=true:=by kernel_rfl
theorem ck2 (M:Nat):((EG.drop (12*2)).take 12).all (Nu M)=true:=by kernel_rfl
theorem ck3 (M:Nat):((EG.drop (12*3)).take 12).all (Nu M)=true:=by kernel_rfl
theorem ck4 (M:Nat):((EG.drop (12*4)).take 12).all (Nu M)=true:=by kernel_rfl
theorem ck5 (M:Nat):((EG.drop (12*5)).take 12).all (Nu M)=true:=by kernel_rfl
theorem ck6 (M:Nat):((EG.drop (12*6)).take 12).all (Nu M)=true:=by kernel_rfl
theorem ck7 (M:Nat):((EG.drop (12*7)).take 12).all (Nu M)=true:=by kernel_rfl
theorem ck8 (M:Nat):((EG.drop (12*8)).take 12).all (Nu M)=true:=by kernel_rfl
theorem ck9 (M:Nat):((EG.drop (12*9)).take 12).all (Nu M)=true:=by kernel_rfl
theorem Ad3 (M:Nat):((EG.drop (12*10)).take 12).all (Nu M)=true:=by kernel_rfl
theorem Ad4 (M:Nat):((EG.drop (12*11)).take 12).all (Nu M)=true:=by kernel_rfl
theorem AaF:EG.length<=144:=of_decide_eq_true (by kernel_rfl)
theorem AbT (M:Nat):EG.all (Nu M)=true:=by
  refine uJ _ _ 12 (fun i hi=> ?_) AaF
  match i,hi with
  | 0,_=>exact ck0 M
  | 1,_=>exact ck1 M
  | 2,_=>exact ck2 M
  | 3,_=>exact ck3 M
  | 4,_=>exact ck4 M
  | 5,_=>exact ck5 M
  | 6,_=>exact ck6 M
  | 7,_=>exact ck7 M
  | 8,_=>exact ck8 M
  | 9,_=>exact ck9 M
  | 10,_=>exact Ad3 M
  | 11,_=>exact Ad4 M
theorem Ja {N:Nat} (hN:1048578<N) {r:List Att} (h:r∈EG):Adb N r:=by
  obtain⟨M,rfl⟩:=ofM hN
  have h:=List.all_eq_true.1 (AbT M) r h
  unfold Nu at h
  simp only[Bool.and_eq_true,beq_iff_eq,List.all_eq_true,decide_eq_true_eq,List.contains_iff_mem]at h
  obtain⟨h1,h2,h3,h4,h5,h6,h7,h8,h9,h10,h11,h12⟩:=h
  exact⟨h1,h2,h3,h4,h5,h6,h7,h8,h9,h10,h11,h12⟩
theorem AaE {N:Nat} (hN:1048578<N) {r:List Att} (h:r∈EG):(QQ r).length<=205:=by
  have:=(Ja hN h).len
  have:=Sp.Dk 49 (Gj r)
  unfold QQ;omega
def okN (n:List (List Att)):Prop:=n.length<=3/\ ∀ r∈n,r∈EG
def nmC (n:List (List Att)):List (List Att):=n.map VA
def nmB (n:List (List Att)):Bs:=(n.map QQ).flatten
def nmT (n:List (List Att)):Bs:=Sp.elem 48 (nmB n)
section
variable {N:Nat} (hN:1048578<N) {n:List (List Att)} (hn:okN n)
include hN hn
theorem vY:okN (nmC n):=⟨by unfold nmC;rw[List.length_map];exact hn.1,fun r hr=>by
  obtain⟨x,hx,rfl⟩:=List.mem_map.1 hr
  exact(Ja hN (hn.2 x hx)).inC⟩
theorem Ado:nmB (nmC n)=nmB n:=by
  unfold nmB nmC
  rw[List.map_map]
  congr 1
  exact List.map_congr_left fun r hr=>by show Sp.elem 49 _=Sp.elem 49 _;rw[(Ja hN (hn.2 r hr)).enc]
theorem Uy:(nmB n).length<=615:=by
  have:=KJ (g:=QQ) (M:=205) (l:=n) fun r hr=>AaE hN (hn.2 r hr)
  have:=hn.1
  unfold nmB;omega
theorem iC:(nmT n).length<=620:=by
  have:=Uy hN hn
  have:=Sp.Dk 48 (nmB n)
  unfold nmT;omega
theorem yR:Par 8 (nmB n) (n.map fun r=>Dp 49 (Gj r)):=Qj fun r hr=>EK (Fb (by decide) (by decide) (by have:=(Ja hN (hn.2 r hr)).len;omega)) (by decide) (Ja hN (hn.2 r hr)).nest
theorem tH:Fine (48,nmB n):=(Fb (by decide) (by decide) (by have:=Uy hN hn;omega))
theorem IJ:EO N n=some 0:=by
  have h3:=hn.1
  unfold EO
  try simp only[clR]
  simp (disch:=first | assumption | omega) only[Dj]
  refine Ew (fun i=>(i:Int)) n.length _ ?_ ?_ N (by omega)
  ·intro i hi k
   have h:=(Ja hN (hn.2 _ (getD_mem [] hi))).chk
   simp (disch:=first | assumption | omega) only[Dj,h,D7]
   try rfl
  ·intro k
   simp (disch:=first | assumption | omega) only[Dj]
theorem YC:Jt N n=some 0:=by
  have h3:=hn.1
  unfold Jt
  try simp only[clR]
  simp (disch:=first | assumption | omega) only[Dj]
  refine Ew (fun i=>(i:Int)) n.length _ ?_ ?_ N (by omega)
  ·intro i hi k
   have h:=Ja hN (hn.2 _ (getD_mem [] hi))
   have h1:=h.AcF
   have h2:=h.p0
   have h3:=h.p2
   simp (disch:=first | assumption | omega) only[Dj,h1,D7]
   try rfl
  ·intro k
   simp (disch:=first | assumption | omega) only[Dj]
theorem YB:Ip N n=some (nmT n,0):=by
  have h3:=hn.1
  have hl:=Uy hN hn
  unfold Ip
  try simp only[clR]
  rw[IJ hN hn,CW,show((0:Int) != 0)=false from rfl,cond_false]
  refine(JE (mk:=fun i acc=>((i:Int),acc)) n [] QQ (fun l=>callO (Dz N 48 l) fun r62=>some (r62.fst,r62.snd)) ?_ ?_ N (by omega)).trans ?_
  ·intro i acc hi hacc k
   have h:=Ja hN (hn.2 _ (getD_mem [] hi))
   dsimp only[U2]
   rw[Int.toNat_natCast]
   generalize n.getD i []=r at *
   have p0:=h.p0
   have p2:=h.p2
   simp (disch:=first | assumption | omega) only[Dj]
   refine(JE (mk:=fun j a=>((j:Int),a,acc)) r ([],0,[]) NH (fun l=>callO (JL N l) fun r48=>callO (Dz N 49 [r48]) fun r50=>bif r50.snd != 0 then some ([],r50.snd)else chk (decide ((acc.length+1)*17<=140737488355328)) (k ((i:Int)+1,acc++[r50.fst]))) ?_ ?_ N (by omega)).trans ?_
   ·intro j a hj ha k
    have he:=h.att _ (getD_mem ([],0,[]) hj)
    simp (disch:=first | assumption | omega) only[Dj,he,D7]
   ·intro a k ha
    simp (disch:=first | assumption | omega) only[Dj]
   ·have hlen:=h.len
    have hlens:=h.lens
    have e:KO (r.map NH)=Gj r:=(Zx _).symm
    have w:Dz N 49 [KO (r.map NH)]=_:=VF N 49 [KO (r.map NH)] (by omega) (by omega) hN (by simp) (by rw[DC,e];omega)
    rw[DC,e]at w
    unfold JL
    rw[Abk (by rw[List.length_map];omega),lZ (by rw[List.length_map];omega),lZ (by omega)]
    simp only[Bool.and_self,cond_true,CW]
    rw[e,w,CW]
    simp (disch:=first | assumption | omega) only[Dj,D7]
    try rfl
  ·intro acc k ha
   simp (disch:=first | assumption | omega) only[Dj]
  ·have w:Dz N 48 (n.map QQ)=_:=VF N 48 (n.map QQ) (by omega) (by omega) hN (by rw[List.length_map];omega) (by unfold nmB at hl;omega)
   rw[w,CW];rfl
theorem oD:Ll N n=some (nmT n,0):=by
  have h3:=hn.1
  have hl:=Uy hN hn
  unfold Ll
  try simp only[clR]
  rw[YC hN hn,CW,show((0:Int) != 0)=false from rfl,cond_false]
  refine(dW (mk:=fun i t=>(t,(i:Int))) n [] QQ (fun t=>callO (Ei N 48 [t]) fun r30=>some (r30,0)) ?_ ?_ N (by omega)).trans ?_
  ·intro i t hi ht k
   have h:=Ja hN (hn.2 _ (getD_mem [] hi))
   have hlen:=h.len
   have hlens:=h.lens
   have p2:=h.p2
   have hat:=h.Ad8
   have e:KO ((n.getD i []).map NH)=Gj (n.getD i []):=(Zx _).symm
   have hor:=iM N ((n.getD i []).map NH) hN (by rw[List.length_map];omega) (by omega)
   rw[e]at hor
   have w:Ei N 49 [Gj (n.getD i [])]=_:=AaH N 49 [Gj (n.getD i [])] (by omega) (by omega) hN (by simp) (by rw[DC];omega)
   rw[DC]at w
   have hw:Sp.elem 49 (Gj (n.getD i []))=QQ (n.getD i []):=rfl
   unfold nmB at hl
   simp (disch:=first | assumption | omega) only[Dj,hat,hor,w,hw,D7]
  ·intro t k
   simp (disch:=first | assumption | omega) only[Dj]
  ·have w:Ei N 48 [(n.map QQ).flatten]=_:=AaH N 48 [(n.map QQ).flatten] (by omega) (by omega) hN (by simp) (by rw[DC];unfold nmB at hl;omega)
   rw[w,CW,DC];rfl
theorem YA:Io N (nmT n)=some (nmC n,0):=by
  have h3:=hn.1
  have hl:=Uy hN hn
  have hT:=iC hN hn
  have hF:=tH hN hn
  have h1:=Vu 48 (nmB n) (by decide) (by decide) hF.len
  have h2:=(yR hN hn).list
  have hC:=vY hN hn
  unfold Io
  try simp only[clR]
  rw[N9 N _ (by omega) (by omega),show TD (nmT n)=_ from h1,CW]
  have h4:=G6 N (nmB n) (by omega) (by omega) (by omega)
  rw[h2]at h4
  dsimp only[Dp]
  simp (disch:=first | assumption | omega) only[Dj,h4]
  refine(JE (mk:=fun i acc=>((i:Int),acc)) (n.map fun r=>Dp 49 (Gj r)) (0,[],[]) (fun e=>((DN N e).getD default).1) (fun acc=>callO (EO N acc) fun r60=>bif r60 != 0 then some ([],r60)else some (acc,0)) ?_ ?_ N (by rw[List.length_map];omega)).trans ?_
  ·intro i acc hi ha k
   rw[List.length_map]at hi
   have hr:=(Ja hN (hn.2 _ (getD_mem [] hi))).dec
   have hg:(n.map fun r=>Dp 49 (Gj r)).getD i (0,[],[])=Dp 49 (Gj (n.getD i [])):=by
     rw[getD_lt _ _ _ (by rw[List.length_map];exact hi),List.getElem_map,getD_lt n i [] hi]
   have hlm:(n.map fun r=>Dp 49 (Gj r)).length=n.length:=List.length_map _
   simp (disch:=first | assumption | omega) only[Dj,hg,hlm,hr,D7,Option.getD_some]
   try rfl
  ·intro acc k ha
   simp (disch:=first | assumption | omega) only[Dj]
  ·have e:(n.map fun r=>Dp 49 (Gj r)).map (fun e=>((DN N e).getD default).1)=nmC n:=by
     rw[List.map_map]
     exact List.map_congr_left fun r hr=>by show((DN N _).getD default).1=_;rw[(Ja hN (hn.2 r hr)).dec];rfl
   rw[e,IJ hN hC];rfl
end
end Go.Proofs.YtbnphelpndnnfaaGreatDoor.Pl
namespace Go.Proofs.YtbnphelpndnnfaaGreatDoor.Pl
open IntKind (i64)
open Go Vm
abbrev Gn:Type:=Int×Bs×List (List Att)
def dP:List Gn:=[[97,110,110,64,101,120,97,109,112,108,101,46,111,114,103],[65,78,78,64,101,120,97,109,112,108,101,46,111,114,103],[97,110,110,64,69,120,97,109,112,108,101,46,79,82,71],[98,46,99,64,109,97,105,108,46,101,120,97,109,112,108,101,46,111,114,103],[120,64,111,114,103],[97,39,98,64,97,46,98]].map (fun s=>(1,s,[])) ++
  [[101,120,97,109,112,108,101,46,111,114,103],[119,119,119,46,101,120,97,109,112,108,101,46,111,114,103],[87,87,87,46,69,120,97,109,112,108,101,46,111,114,103],[42,46,101,120,97,109,112,108,101,46,111,114,103],[97,46,98],[111,114,103],[109,121,101,120,97,109,112,108,101,46,111,114,103]].map (fun s=>(2,s,[])) ++
  [[10,0,0,1],[10,1,2,3],[192,168,1,7],[32,1,13,184,0,0,0,0,0,0,0,0,0,0,0,1]].map (fun s=>(7,s,[]))
def okG (g:Gn):Prop:=g∈dP\/ ∃ n,okN n/\g=(4,[],n)
def gnK (g:Gn):Gn:=(g.1,g.2.1,nmC g.2.2)
def gnT (g:Gn):Nat×Bs:=bif g.1==4 then(164,nmT g.2.2)else((128+g.1).toNat,g.2.1)
def Eu (g:Gn):Bs:=Sp.elem (gnT g).1 (gnT g).2
def Tn (g:Gn):El:=Dp (gnT g).1 (gnT g).2
def Abn (M:Nat) (g:Gn):Bool:=ER (M+300) g false==some 0&&(FT (M+300) g false==some 0&&(Fj (M+300) g false==some (Eu g,0)&&(Jl (M+300) g false==some (Eu g,0) &&
  (GH (M+300) (Tn g) false==some (g,0)&&(g.2.2.isEmpty&&(decide ((gnT g).2.length<=40)&&(decide ((gnT g).1<256)&&(decide ((gnT g).1 % 32≠31)&& !Sp.cons (gnT g).1))))))))
theorem AaW (M:Nat):dP.all (Abn M)=true:=by kernel_rfl
structure AbZ (N:Nat) (g:Gn):Prop where
  chk:ER N g false=some 0
  AcF:FT N g false=some 0
  enc:Fj N g false=some (Eu g,0)
  AaI:Jl N g false=some (Eu g,0)
  dec:GH N (Tn g) false=some (gnK g,0)
  fine:Fine (gnT g)
  len:(gnT g).2.length<=620
  vC:gnT (gnK g)=gnT g
  okK:okG (gnK g)
  par: ∀ d,d<=6->Par d (Eu g) [Tn g]
section
variable {N:Nat} (hN:1048578<N)
include hN
theorem AbO {n:List (List Att)} (hn:okN n) {d:Nat} (hd:d<=8):Jw d (nmB n):=gZ hd (yR hN hn).nest
theorem tC {n:List (List Att)} (hn:okN n) {d:Nat} (hd:d<=7):Par d (nmT n) [Dp 48 (nmB n)]:=EK (tH hN hn) (by omega) (AbO hN hn (by omega))
theorem Acs {n:List (List Att)} (hn:okN n):AbZ N (4,[],n):=by
  have h1:=IJ hN hn
  have h2:=YC hN hn
  have h3:=YB hN hn
  have h4:=oD hN hn
  have h5:=YA hN hn
  have hC:=vY hN hn
  have h6:=IJ hN hC
  have hl:=iC hN hn
  have w:Dz N 164 [nmT n]=_:=VF N 164 [nmT n] (by omega) (by omega) hN (by simp) (by rw[DC];omega)
  have v:Ei N 164 [nmT n]=_:=AaH N 164 [nmT n] (by omega) (by omega) hN (by simp) (by rw[DC];omega)
  rw[DC]at w v
  have c1: ∀ m:List (List Att),EO N m=some 0->ER N (4,[],m) false=some 0:=by
    intro m hm
    unfold ER Zg
    try simp only[clR]
    simp (disch:=first | assumption | omega) only[Dj,hm,Option.isSome_some,Option.getD_some]
    try rfl
  have c2:FT N (4,[],n) false=some 0:=by
    unfold FT
    try simp only[clR]
    dsimp only[U4,letJ]
    simp (disch:=first | assumption | omega) only[Dj,h2,Option.isSome_some,Option.getD_some]
    try rfl
  have hf:Fine (164,nmT n):=(Fb (by decide) (by decide) (by omega))
  refine⟨c1 n h1,c2,?_,?_,?_,hf,hl,?_,Or.inr ⟨_,hC,rfl⟩,fun d hd=>EK hf (by omega) (tC hN hn (by omega)).nest⟩
  ·unfold Fj
   try simp only[clR]
   simp (disch:=first | assumption | omega) only[Dj,c1 n h1,h3]
   show callO (Dz N 164 [nmT n]) _=_
   rw[w];rfl
  ·unfold Jl
   try simp only[clR]
   simp (disch:=first | assumption | omega) only[Dj,c2,h4]
   show callO (Ei N 164 [nmT n]) _=_
   rw[v];rfl
  ·have c3:=c1 _ h6
   unfold GH
   try simp only[clR]
   show _=some ((4,[],nmC n),0)
   dsimp only[Tn,gnT,Dp]
   simp (disch:=first | assumption | omega) only[Dj,h5,c3,mX]
   try rfl
  ·show(164,nmT (nmC n))=(164,nmT n)
   unfold nmT
   rw[Ado hN hn]
theorem Jq {g:Gn} (h:okG g):AbZ N g:=by
  rcases h with h | ⟨n,hn,rfl⟩
  ·have hh:=h
   obtain⟨M,rfl⟩:=ofM hN
   have h:=List.all_eq_true.1 (AaW M) g h
   unfold Abn at h
   simp only[Bool.and_eq_true,beq_iff_eq,decide_eq_true_eq,Bool.not_eq_true',List.isEmpty_iff]at h
   obtain⟨h1,h2,h3,h4,h5,h6,h7,h8,h9,h10⟩:=h
   have hk:gnK g=g:=by obtain⟨k,s,n⟩:=g;dsimp only at h6;subst h6;rfl
   have hf:Fine (gnT g):=⟨h8,h9,by omega⟩
   exact⟨h1,h2,h3,h4,by rw[hk];exact h5,hf,by omega,by rw[hk],by rw[hk];exact Or.inl hh,fun d hd=>Ih hf (by omega) h10⟩
  ·exact Acs hN hn
theorem NU {g:Gn} (h:okG g):(Eu g).length<=625:=by
  have:=(Jq hN h).len
  have:=Sp.Dk (gnT g).1 (gnT g).2
  unfold Eu;omega
end
def Zw (l:List Gn):Prop:=l.length<=2/\ ∀ g∈l,okG g
def Dw (l:List Gn):Bs:=(l.map Eu).flatten
section
variable {N:Nat} (hN:1048578<N) {l:List Gn} (hl:Zw l)
include hN hl
theorem I5:(Dw l).length<=1250:=by
  have:=KJ (g:=Eu) (M:=625) (l:=l) fun g hg=>NU hN (hl.2 g hg)
  have:=hl.1
  unfold Dw;omega
theorem Zm {d:Nat} (hd:d<=6):Par d (Dw l) (l.map Tn):=Qj fun g hg=>(Jq hN (hl.2 g hg)).par d hd
theorem Ac8:Zw (l.map gnK):=⟨by rw[List.length_map];exact hl.1,fun g hg=>by
  obtain⟨x,hx,rfl⟩:=List.mem_map.1 hg
  exact(Jq hN (hl.2 x hx)).okK⟩
theorem sZ:Dw (l.map gnK)=Dw l:=by
  unfold Dw
  rw[List.map_map]
  congr 1
  exact List.map_congr_left fun g hg=>by show Sp.elem _ _=Sp.elem _ _;rw[(Jq hN (hl.2 g hg)).vC]
theorem YD:Hq N l=some 0:=by
  have h2:=hl.1
  unfold Hq
  try simp only[clR]
  refine Ew (fun i=>(i:Int)) l.length _ ?_ ?_ N (by omega)
  ·intro i hi k
   have h:=(Jq hN (hl.2 _ (getD_mem (0,[],[]) hi))).chk
   simp (disch:=first | assumption | omega) only[Dj,h,D7]
   try rfl
  ·intro k
   simp (disch:=first | assumption | omega) only[Dj]
theorem Y5 (h0:l≠ []):EW N l=some (Dw l,0):=by
  have h2:=hl.1
  have hp:=List.length_pos_iff.2 h0
  have hb:=I5 hN hl
  unfold Dw at hb
  unfold EW KL
  try simp only[clR]
  simp (disch:=first | assumption | omega) only[Dj]
  refine(dW (mk:=fun i t=>(t,(i:Int))) l (0,[],[]) Eu (fun t=>some (t,0)) ?_ ?_ N (by omega)).trans rfl
  ·intro i t hi ht k
   have h:=(Jq hN (hl.2 _ (getD_mem (0,[],[]) hi))).enc
   simp (disch:=first | assumption | omega) only[Dj,h,D7]
   try rfl
  ·intro t k
   simp (disch:=first | assumption | omega) only[Dj]
theorem Ou (h0:l≠ []):DT N (Dw l)=some (l.map gnK,0):=by
  have h2:=hl.1
  have hp:=List.length_pos_iff.2 h0
  have hb:=I5 hN hl
  have h3:=(Zm hN hl (d:=0) (by omega)).list
  have h4:=G6 N (Dw l) (by omega) (by omega) (by omega)
  rw[h3]at h4
  have hlm:(l.map Tn).length=l.length:=List.length_map _
  unfold DT KL
  try simp only[clR]
  simp (disch:=first | assumption | omega) only[Dj,h4,hlm]
  refine(JE (mk:=fun i acc=>((i:Int),acc)) (l.map Tn) (0,[],[]) (fun e=>((GH N e false).getD default).1) (fun acc=>some (acc,0)) ?_ ?_ N (by omega)).trans ?_
  ·intro i acc hi ha k
   rw[hlm]at hi
   have hr:=(Jq hN (hl.2 _ (getD_mem (0,[],[]) hi))).dec
   have hg:(l.map Tn).getD i (0,[],[])=Tn (l.getD i (0,[],[])):=by
     rw[getD_lt _ _ _ (by rw[hlm];exact hi),List.getElem_map,getD_lt l i _ hi]
   simp (disch:=first | assumption | omega) only[Dj,hg,hlm,hr,D7,Option.getD_some]
   try rfl
  ·intro acc k ha
   simp (disch:=first | assumption | omega) only[Dj,hlm]
  ·rw[List.map_map]
   congr 2
   exact List.map_congr_left fun g hg=>by show((GH N (Tn g) false).getD default).1=_;rw[(Jq hN (hl.2 g hg)).dec];rfl
end
end Go.Proofs.YtbnphelpndnnfaaGreatDoor.Pl
namespace Go.Proofs.YtbnphelpndnnfaaGreatDoor.Pl
open IntKind (i64)
open Go Vm
def inB (n:Int):Bs:=(FY 300 n).getD []
def Ac2 (M:Nat) (n:Nat):Bool:=FY (M+300) (n:Int)==some (inB n)&&(QT (M+300) (n:Int)==some (inB n)&&(GL (M+300) (inB n)==some ((n:Int),0)&&decide ((inB n).length<=2)))
theorem AbI (M:Nat):(List.range 256).all (Ac2 M)=true:=by kernel_rfl
structure Abc (N:Nat) (n:Int):Prop where
  put:FY N n=some (inB n)
  AdA:QT N n=some (inB n)
  int:GL N (inB n)=some (n,0)
  len:(inB n).length<=2
theorem H5 {N:Nat} (hN:1048578<N) {n:Int} (h0:0<=n) (h1:n<256):Abc N n:=by
  obtain⟨M,rfl⟩:=ofM hN
  obtain⟨k,rfl⟩: ∃ k:Nat,n=k:=⟨n.toNat,by omega⟩
  have h:=List.all_eq_true.1 (AbI M) k (List.mem_range.2 (by omega))
  unfold Ac2 at h
  simp only[Bool.and_eq_true,beq_iff_eq,decide_eq_true_eq]at h
  obtain⟨h1,h2,h3,h4⟩:=h
  exact⟨h1,h2,h3,h4⟩
def EX (t:Nat) (n:Int):Bs:=Sp.elem t (inB n)
def gJ (t:Nat) (n:Int):El:=Dp t (inB n)
theorem NW {N:Nat} {n:Int} (h:Abc N n) {t:Nat} (ht:t<256) (h31:t % 32≠31):Fine (t,inB n):=⟨ht,h31,by have:=h.len;show(inB n).length<=_;omega⟩
def Iz:List Int:=[0,1000,2000000000,3155759999,3155760000,254033452799,2400000000]
def Gl (t:Int):Bs:=((Eo 300 t).getD default).1
def GM (t:Int):Nat×Bs:=(((Gl t).headD 0).toNat,(Gl t).drop 2)
def XI (t:Int):El:=Dp (GM t).1 (GM t).2
def AcP (M:Nat) (t:Int):Bool:=Eo (M+300) t==some (Gl t,0)&&(QS (M+300) t==some (Gl t,0)&&(Jc (M+300) ((GM t).1:Int) (GM t).2==some (t,0)&&(Gl t==Sp.elem (GM t).1 (GM t).2 &&
  (decide ((GM t).1<256)&&(decide ((GM t).1 % 32≠31)&&(decide ((GM t).2.length<=20)&&(!Sp.cons (GM t).1&&(decide (0<=t)&&(decide (t<=254033452799)&& !((GM t).1==48))))))))))
theorem AaX (M:Nat):Iz.all (AcP M)=true:=by kernel_rfl
structure uG (N:Nat) (t:Int):Prop where
  enc:Eo N t=some (Gl t,0)
  AaI:QS N t=some (Gl t,0)
  dec:Jc N ((GM t).1:Int) (GM t).2=some (t,0)
  eq:Gl t=Sp.elem (GM t).1 (GM t).2
  fine:Fine (GM t)
  len:(GM t).2.length<=20
  AcC:Sp.cons (GM t).1=false
  p0:0<=t
  p1:t<=254033452799
  n48:(GM t).1≠48
theorem F9 {N:Nat} (hN:1048578<N) {t:Int} (h:t∈Iz):uG N t:=by
  obtain⟨M,rfl⟩:=ofM hN
  have h:=List.all_eq_true.1 (AaX M) t h
  unfold AcP at h
  simp only[Bool.and_eq_true,beq_iff_eq,decide_eq_true_eq,Bool.not_eq_true',beq_eq_false_iff_ne]at h
  obtain⟨h1,h2,h3,h4,h5,h6,h7,h8,h9,h10,h11⟩:=h
  exact⟨h1,h2,h3,h4,⟨h5,h6,by omega⟩,h7,h8,h9,h10,h11⟩
theorem QY {N:Nat} {t:Int} (h:uG N t):(Gl t).length<=25:=by
  have:=h.len
  have:=Sp.Dk (GM t).1 (GM t).2
  rw[h.eq];omega
theorem iZ {N:Nat} {t:Int} (h:uG N t) {d:Nat} (hd:d<16):Par d (Gl t) [XI t]:=by
  rw[h.eq];exact Ih h.fine hd h.AcC
def QH:List Bs:=[[50,46,53,46,50,57,46,50,49],[50,46,53,46,50,57,46,50,52],[50,46,53,46,50,57,46,50,57],[50,46,53,46,50,57,46,51,53],[50,46,53,46,50,57,46,50,48],[50,46,53,46,50,57,46,50,55],[50,46,53,46,50,57,46,50,56],[50,46,53,46,50,57,46,52,54]]
def idT (s:Bs):Bs:=((IK 300 s).getD default).1
def idQ (M:Nat) (s:Bs):Bool:=OM (M+300) s==some true&&(Oi (M+300) s==some true&&(IK (M+300) s==some (idT s,0)&&(SE (M+300) s==some (Sp.elem 6 (idT s))&&(JY (M+300) (idT s)==some (s,0)&&decide ((idT s).length<=10)))))
theorem Ac1 (M:Nat):QH.all (idQ M)=true:=by kernel_rfl
structure Adu (N:Nat) (s:Bs):Prop where
  val:OM N s=some true
  AdK:Oi N s=some true
  enc:IK N s=some (idT s,0)
  AaI:SE N s=some (Sp.elem 6 (idT s))
  dec:JY N (idT s)=some (s,0)
  len:(idT s).length<=10
theorem bH {N:Nat} (hN:1048578<N) {s:Bs} (h:s∈QH):Adu N s:=by
  obtain⟨M,rfl⟩:=ofM hN
  have h:=List.all_eq_true.1 (Ac1 M) s h
  unfold idQ at h
  simp only[Bool.and_eq_true,beq_iff_eq,decide_eq_true_eq]at h
  obtain⟨h1,h2,h3,h4,h5,h6⟩:=h
  exact⟨h1,h2,h3,h4,h5,h6⟩
def ZE:List Int:=[2,64,384,510]
def flB (n:Int):Bs:=((F5 300 n).getD default).1
def AcH (M:Nat) (r:Int):Bool:=F5 (M+300) r==some (flB r,0)&&(UE (M+300) r==some (flB r,0)&&(IM (M+300) (flB r)==some (r,0)&&(decide ((flB r).length<=5)&&(bitsI .andNot .i64 r 510==0&& !(r==0)))))
theorem AbU (M:Nat):ZE.all (AcH M)=true:=by kernel_rfl
structure Adc (N:Nat) (r:Int):Prop where
  put:F5 N r=some (flB r,0)
  AdA:UE N r=some (flB r,0)
  get:IM N (flB r)=some (r,0)
  len:(flB r).length<=5
  mask:bitsI .andNot .i64 r 510=0
  ne:r≠0
theorem JI {N:Nat} (hN:1048578<N) {r:Int} (h:r∈ZE):Adc N r:=by
  obtain⟨M,rfl⟩:=ofM hN
  have h:=List.all_eq_true.1 (AbU M) r h
  unfold AcH at h
  simp only[Bool.and_eq_true,beq_iff_eq,decide_eq_true_eq,Bool.not_eq_true',beq_eq_false_iff_ne]at h
  obtain⟨h1,h2,h3,h4,h5,h6⟩:=h
  exact⟨h1,h2,h3,h4,h5,h6⟩
theorem Adj:bitsI .andNot .i64 0 510=0:=by kernel_rfl
def okR (r:Int):Prop:=r=0\/r∈ZE
def flT (t:Nat) (r:Int):Bs:=bif r != 0 then Sp.elem t (flB r)else []
def flE (t:Nat) (r:Int):List El:=bif r != 0 then [Dp t (flB r)]else []
theorem oL {r:Int} (h:okR r):bitsI .andNot .i64 r 510=0:=by
  rcases h with rfl | h
  ·exact Adj
  ·exact(JI (N:=1048579) (by omega) h).mask
theorem tK {r:Int} (h:okR r) (t:Nat):(flT t r).length<=10:=by
  rcases h with rfl | h
  ·exact Nat.zero_le _
  ·have R:=JI (N:=1048579) (by omega) h
   have:=R.len
   have:=Sp.Dk t (flB r)
   unfold flT
   rw[Qn R.ne,cond_true];omega
theorem yC {r:Int} (h:okR r) {t d:Nat} (ht:t<256) (h31:t % 32≠31) (hd:d<16) (hc:Sp.cons t=false):Par d (flT t r) (flE t r):=Oe _ fun hr=>by
  rcases h with rfl | h
  ·cases hr
  ·exact Ih ⟨ht,h31,by have:=(JI (N:=1048579) (by omega) h).len;show(flB r).length<=_;omega⟩ hd hc
abbrev Pt:Type:=List Gn×Int×Bool×List (List Att)
structure okP (p:Pt):Prop where
  nm: ∃ g,okG g/\p.1=[g]
  re:okR p.2.1
  is:(p.2.2.1=false/\p.2.2.2=[])\/(p.2.2.1=true/\okN p.2.2.2/\p.2.2.2≠ [])
def ptK (p:Pt):Pt:=(p.1.map gnK,p.2.1,p.2.2.1,nmC p.2.2.2)
def piT (p:Pt):Bs:=bif p.2.2.1 then Sp.elem 162 (Eu (4,[],p.2.2.2))else []
def ptC (p:Pt):Bs:=Sp.elem 160 (Sp.elem 160 (Dw p.1))++(flT 129 p.2.1++piT p)
def ptB (p:Pt):Bs:=Sp.elem 48 (ptC p)
def ptE (p:Pt):El:=Dp 48 (ptC p)
theorem gs1 {g:Gn} (h:okG g):Zw [g]:=⟨by simp,fun x hx=>by rw[List.mem_singleton.1 hx];exact h⟩
structure PtM (N:Nat) (p:Pt):Prop where
  chk:Hr N p=some 0
  len:(ptC p).length<=2000
  els:MO (ptC p)=(Dp 160 (Sp.elem 160 (Dw p.1))::(flE 129 p.2.1++(bif p.2.2.1 then [Dp 162 (Eu (4,[],p.2.2.2))]else [])),0)
  par: ∀ d,d<=2->Par d (ptB p) [ptE p]
  okK:okP (ptK p)
  vC:ptB (ptK p)=ptB p
  dec:GN N (Dp 160 (Sp.elem 160 (Dw p.1))::(flE 129 p.2.1++(bif p.2.2.1 then [Dp 162 (Eu (4,[],p.2.2.2))]else [])))=some (ptK p,0,[])
section
variable {N:Nat} (hN:1048578<N)
include hN
theorem V3 {p:Pt} (h:okP p):PtM N p:=by
  obtain⟨gs,r,b,n⟩:=p
  obtain⟨⟨g,hg,hgs⟩,hr,hi⟩:=h
  dsimp only at hgs hr hi
  subst hgs
  have h1:=gs1 hg
  have hl:=I5 hN h1
  have hm:=oL hr
  have ck:=YD hN h1
  have l1: [g].length=1:=rfl
  have hfl:=tK hr 129
  have e1:=Sp.Dk 160 (Dw [g])
  have e2:=Sp.Dk 160 (Sp.elem 160 (Dw [g]))
  have hpi:(piT ([g],r,b,n)).length<=640:=by
    unfold piT
    rcases hi with ⟨rfl,_⟩ | ⟨rfl,hn,_⟩
    ·exact Nat.zero_le _
    ·have:=NU hN (Or.inr ⟨n,hn,rfl⟩:okG (4,[],n))
     have:=Sp.Dk 162 (Eu (4,[],n))
     show(Sp.elem 162 (Eu (4,[],n))).length<=_
     omega
  have hlen:(ptC ([g],r,b,n)).length<=2000:=by
    unfold ptC
    rw[List.length_append,List.length_append];dsimp only;omega
  have hpar: ∀ d,d<=3->Par d (ptC ([g],r,b,n)) (Dp 160 (Sp.elem 160 (Dw [g]))::(flE 129 r++(bif b then [Dp 162 (Eu (4,[],n))]else []))):=by
    intro d hd
    show Par d (Sp.elem 160 (Sp.elem 160 (Dw [g]))++(flT 129 r++piT ([g],r,b,n))) _
    refine E8 (es:=[_]) (EK (Fb (by decide) (by decide) (by omega)) (by omega) (EK (t:=160) (Fb (by decide) (by decide) (by omega)) (by omega) (Zm hN h1 (by omega)).nest).nest) (E8 (yC hr (by decide) (by decide) (by omega) (by decide)) ?_)
    show Par d (bif b then Sp.elem 162 (Eu (4,[],n))else []) _
    refine Oe b fun hb=> ?_
    rcases hi with ⟨rfl,_⟩ | ⟨rfl,hn,_⟩
    ·cases hb
    ·have hd4:okG (4,[],n):=Or.inr ⟨n,hn,rfl⟩
     exact EK (Fb (by decide) (by decide) (by have:=NU hN hd4;omega)) (by omega) ((Jq hN hd4).par _ (by omega)).nest
  have hf:Fine (48,ptC ([g],r,b,n)):=(Fb (by decide) (by decide) (by omega))
  have hK:Dw ([g].map gnK)=Dw [g]:=sZ hN h1
  have hls:=(Ou hN h1 (by simp))
  have o160:Ep N (Sp.elem 160 (Dw [g])) 160=some (Dp 160 (Dw [g]),0):=by
    rw[JR N _ 160 hN (by omega)]
    exact congrArg some (LK 160 (Dw [g]) (by decide) (by decide) (by omega))
  refine⟨?_,hlen,(hpar 0 (by omega)).list,fun d hd=>EK hf (by omega) (hpar _ (by omega)).nest,?_,?_,?_⟩
  ·unfold Hr
   try simp only[clR]
   rcases hi with ⟨rfl,rfl⟩ | ⟨rfl,hn,hne⟩
   ·simp (disch:=first | assumption | omega) only[Dj,hm,ck,l1,List.length_nil]
    try rfl
   ·have hpos:=List.length_pos_iff.2 hne
    have hc:=IJ hN hn
    simp (disch:=first | assumption | omega) only[Dj,hm,ck,l1,hc]
    try rfl
  ·refine⟨⟨gnK g,(Jq hN hg).okK,rfl⟩,hr,?_⟩
   rcases hi with ⟨rfl,rfl⟩ | ⟨rfl,hn,hne⟩
   ·exact Or.inl ⟨rfl,rfl⟩
   ·exact Or.inr ⟨rfl,vY hN hn,fun h=>hne (List.map_eq_nil_iff.1 h)⟩
  ·unfold ptB ptC ptK piT
   dsimp only
   rw[hK]
   rcases hi with ⟨rfl,rfl⟩ | ⟨rfl,hn,hne⟩
   ·rfl
   ·rw[show Eu (4,[],nmC n)=Eu (4,[],n)from congrArg (fun p:Nat×Bs=>Sp.elem p.1 p.2) (Jq hN (Or.inr ⟨n,hn,rfl⟩:okG (4,[],n))).vC]
  ·have hflE:flE 129 r=[]/\r=0\/flE 129 r=[Dp 129 (flB r)]/\r∈ZE:=by
     rcases hr with rfl | hr
     ·exact Or.inl ⟨rfl,rfl⟩
     ·refine Or.inr ⟨?_,hr⟩
      unfold flE
      rw[Qn (JI hN hr).ne];rfl
   have hI:b=false/\n=[]\/b=true/\DT N (Eu (4,[],n))=some ([(4,[],nmC n)],0):=by
     rcases hi with h | ⟨h,hn,_⟩
     ·exact Or.inl h
     ·refine Or.inr ⟨h,?_⟩
      have:=Ou hN (gs1 (Or.inr ⟨n,hn,rfl⟩:okG (4,[],n))) (by simp)
      rwa [show Dw [((4:Int),([]:Bs),n)]=Eu (4,[],n)from List.append_nil _]at this
   unfold GN
   try simp only[clR]
   rcases hflE with ⟨h1,h2⟩ | ⟨h1,h2⟩<;>rcases hI with ⟨rfl,rfl⟩ | ⟨rfl,h3⟩
   ·rw[h1]
    subst h2
    simp (disch:=first | assumption | omega) only[Dj,LV,o8,vK,vM,el1,el2,el3,List.cons_append,List.nil_append,o160,hls,Jb]
    try rfl
   ·rw[h1]
    subst h2
    simp (disch:=first | assumption | omega) only[Dj,LV,o8,vK,vM,el1,el2,el3,List.cons_append,List.nil_append,o160,hls,Jb,h3]
    try rfl
   ·have hg:=(JI hN h2).get
    have hne:=(JI hN h2).ne
    rw[h1]
    simp (disch:=first | assumption | omega) only[Dj,LV,o8,vK,vM,el1,el2,el3,List.cons_append,List.nil_append,o160,hls,Jb,hg]
    try rfl
   ·have hg:=(JI hN h2).get
    have hne:=(JI hN h2).ne
    rw[h1]
    simp (disch:=first | assumption | omega) only[Dj,LV,o8,vK,vM,el1,el2,el3,List.cons_append,List.nil_append,o160,hls,Jb,hg,h3]
    try rfl
end
end Go.Proofs.YtbnphelpndnnfaaGreatDoor.Pl
namespace Go.Proofs.YtbnphelpndnnfaaGreatDoor.Pl
open IntKind (i64)
open Go Vm
abbrev Ex:Type:=Bs×Bool×Bs
structure OkX (x:Ex):Prop where
  id:x.1∈QH
  chk:Sp.chk x.2.2=0
  len:x.2.2.length<=8000
structure zT (l:List Ex):Prop where
  ne:0<l.length
  len:l.length<=5
  all: ∀ x∈l,OkX x
  nd:l.Pairwise fun a b=>a.1≠b.1
def exC (x:Ex):Bs:=Sp.elem 6 (idT x.1)++((bif x.2.1 then Sp.elem 1 [255]else [])++Sp.elem 4 x.2.2)
def exB (x:Ex):Bs:=Sp.elem 48 (exC x)
def exE (x:Ex):El:=Dp 48 (exC x)
def xsC (l:List Ex):Bs:=(l.map exB).flatten
def xsB (l:List Ex):Bs:=Sp.elem 48 (xsC l)
def zX:Ex:=([],false,[])
theorem nI {α :Type} (l:List α):cutL l 1 l.length=l.drop 1:=by
  show(l.take l.length).drop 1=_
  rw[List.take_length]
section
variable {N:Nat} (hN:1048578<N) {x:Ex} (h:OkX x)
include hN h
theorem aP:(exC x).length<=x.2.2.length+23:=by
  have h1:=(bH hN h.id).len
  have h2:=Sp.Dk 6 (idT x.1)
  have h3:=Sp.Dk 4 x.2.2
  have h4:=h.len
  have h5:(bif x.2.1 then Sp.elem 1 [255]else []:Bs).length<=3:=by cases x.2.1<;>decide
  unfold exC
  rw[List.length_append,List.length_append];omega
theorem yA {d:Nat} (hd:d<16):Par d (exC x) (Dp 6 (idT x.1)::((bif x.2.1 then [Dp 1 [255]]else [])++[Dp 4 x.2.2])):=by
  have h1:=(bH hN h.id).len
  have h4:=h.len
  exact E8 (es:=[_]) (Ih (Fb (by decide) (by decide) (by omega)) hd (by decide)) (E8 (Oe x.2.1 fun _=>Ih (Fb (by decide) (by decide) (by decide)) hd (by decide)) (Ih (Fb (by decide) (by decide) (by omega)) hd (by decide)))
theorem Acu:MO (exC x)=(Dp 6 (idT x.1)::((bif x.2.1 then [Dp 1 [255]]else [])++[Dp 4 x.2.2]),0):=(yA hN h (d:=0) (by decide)).list
theorem y9:IX N x=some (exB x,0):=by
  have I:=bH hN h.id
  have h1:=I.len
  have h3:=h.len
  have h4:=aP hN h
  have h5:=Sp.Dk 6 (idT x.1)
  have h6:=Sp.Dk 4 x.2.2
  have e1:=I.enc
  have w1:Dz N 6 [idT x.1]=_:=VF N 6 [idT x.1] (by omega) (by omega) hN (by simp) (by rw[DC];omega)
  have w2:Dz N 4 [x.2.2]=_:=VF N 4 [x.2.2] (by omega) (by omega) hN (by simp) (by rw[DC];omega)
  rw[DC]at w1 w2
  unfold exB exC at *
  obtain⟨id,c,v⟩:=x
  dsimp only at *
  cases c with
  | true =>
    have w3:Dz N 1 [[255]]=some (Sp.elem 1 [255],0):=VF N 1 [[255]] (by omega) (by omega) hN (by simp) (by simp)
    have w4:Dz N 48 [Sp.elem 6 (idT id),Sp.elem 1 [255],Sp.elem 4 v]=_:=VF N 48 [Sp.elem 6 (idT id),Sp.elem 1 [255],Sp.elem 4 v] (by omega) (by omega) hN (by simp) (by rw[flat3];exact Nat.le_trans h4 (by omega))
    rw[flat3]at w4
    have p:Js N true=some [255]:=rfl
    unfold IX
    try simp only[clR]
    simp (disch:=first | assumption | omega) only[Dj,e1,w1,w2,w3,p,bne_self_eq_false,List.length_cons,List.length_nil]
    exact congrArg (fun o=>callO o _) w4
  | false =>
    have w4:Dz N 48 [Sp.elem 6 (idT id),[],Sp.elem 4 v]=_:=VF N 48 [Sp.elem 6 (idT id),[],Sp.elem 4 v] (by omega) (by omega) hN (by simp) (by rw[flat3];exact Nat.le_trans h4 (by omega))
    rw[flat3]at w4
    unfold IX
    try simp only[clR]
    simp (disch:=first | assumption | omega) only[Dj,e1,w1,w2,bne_self_eq_false,List.length_cons,List.length_nil]
    exact congrArg (fun o=>callO o _) w4
theorem jJ:Gh N (exE x)=some (x,0):=by
  have h4:=aP hN h
  have h3:=h.len
  have hl:=G6 N (exC x) (by omega) (by omega) (by omega)
  rw[Acu hN h]at hl
  have I:=(bH hN h.id).dec
  obtain⟨id,c,v⟩:=x
  dsimp only at *
  unfold Gh exE
  try simp only[clR]
  rw[show(Dp 48 (exC (id,c,v))).1=48 from rfl,show(Dp 48 (exC (id,c,v))).2.1=exC (id,c,v)from rfl]
  cases c with
  | true =>
    simp (disch:=first | assumption | omega) only[Dj,hl,el1,el2,el3,bne_self_eq_false,List.length_cons,List.length_nil,List.getD_cons_zero,nI,List.drop_succ_cons,List.drop_zero,List.cons_append,List.nil_append,I]
    try rfl
  | false =>
    simp (disch:=first | assumption | omega) only[Dj,hl,el1,el2,el3,bne_self_eq_false,List.length_cons,List.length_nil,List.getD_cons_zero,nI,List.drop_succ_cons,List.drop_zero,List.cons_append,List.nil_append,I]
    try rfl
theorem Acv:OZ N x.2.2=some 0:=by
  have:=h.len
  rw[pR N _ (by omega) (by omega) (by omega),h.chk]
end
theorem yM {β :Type} (k:Bs): ∀(m:List (Bs× β)),(∀ p∈m,k≠p.1)->mget (.str .nil) k m=none:=by
  intro m
  induction m with
  | nil=>intro _;rfl
  | cons p m ih =>
    intro h
    have h1:(Ty.str .nil).same k p.1=false:=by
      show((k==p.1)&&true)=false
      rw[beq_false_of_ne (h p List.mem_cons_self)];rfl
    show(bif (Ty.str .nil).same k p.1 then some p.2 else mget (.str .nil) k m)=none
    rw[h1,cond_false]
    exact ih fun q hq=>h q (List.mem_cons_of_mem _ hq)
theorem yO {β :Type} (k:Bs) (v: β): ∀(m:List (Bs× β)),(∀ p∈m,k≠p.1)->mput (.str .nil) k v m=m++[(k,v)]:=by
  intro m
  induction m with
  | nil=>intro _;rfl
  | cons p m ih =>
    intro h
    have h1:(Ty.str .nil).same k p.1=false:=by
      show((k==p.1)&&true)=false
      rw[beq_false_of_ne (h p List.mem_cons_self)];rfl
    show(bif (Ty.str .nil).same k p.1 then(p.1,v)::m else p::mput (.str .nil) k v m)=_
    rw[h1,cond_false,ih fun q hq=>h q (List.mem_cons_of_mem _ hq)];rfl
theorem AbL {β :Type} (k:Bs) (v: β) (t:List (Bs× β)): ∀(m:List (Bs× β)),(∀ p∈m,k≠p.1)->mget (.str .nil) k (m++(k,v)::t)=some v:=by
  intro m
  induction m with
  | nil =>
    intro _
    show(bif ((k==k)&&true)then some v else _)=_
    rw[beq_self_eq_true];rfl
  | cons p m ih =>
    intro h
    have h1:(Ty.str .nil).same k p.1=false:=by
      show((k==p.1)&&true)=false
      rw[beq_false_of_ne (h p List.mem_cons_self)];rfl
    show(bif (Ty.str .nil).same k p.1 then some p.2 else mget (.str .nil) k (m++(k,v)::t))=_
    rw[h1,cond_false]
    exact ih fun q hq=>h q (List.mem_cons_of_mem _ hq)
def MM (l:List Ex) (n:Nat):List (Bs×Int):=(List.range n).map fun i=>((l.getD i zX).1,(i:Int))
section
variable {l:List Ex} (h:zT l)
include h
theorem Adt {i j:Nat} (hi:i<j) (hj:j<l.length):(l.getD i zX).1≠(l.getD j zX).1:=by
  rw[getD_lt l i zX (by omega),getD_lt l j zX hj]
  exact List.pairwise_iff_getElem.1 h.nd i j (by omega) hj hi
theorem gI {n:Nat} (hn:n<l.length): ∀ p∈MM l n,(l.getD n zX).1≠p.1:=by
  intro p hp
  obtain⟨i,hi,rfl⟩:=List.mem_map.1 hp
  exact(Adt h (List.mem_range.1 hi) hn).symm
theorem AbG {n:Nat} (hn:n<l.length):mget (.str .nil) (l.getD n zX).1 (MM l l.length)=some (n:Int):=by
  have e:MM l l.length=MM l n++((l.getD n zX).1,(n:Int))::(List.range (l.length - (n+1))).map fun i=>((l.getD (n+1+i) zX).1,((n+1+i:Nat):Int)):=by
    unfold MM
    obtain⟨k,hk⟩: ∃ k,l.length=n+1+k:=⟨l.length - (n+1),by omega⟩
    rw[hk,show n+1+k - (n+1)=k by omega,List.range_add,List.map_append,List.range_succ,List.map_append,List.map_map,List.append_assoc]
    rfl
  rw[e]
  exact AbL _ _ _ _ (gI h hn)
variable {N:Nat} (hN:1048578<N)
include hN
theorem nU:RV N l=some (MM l l.length):=by
  have hl:=h.len
  unfold RV
  try simp only[clR]
  refine(Ew (fun i=>((i:Int),MM l i)) l.length (some (MM l l.length)) ?_ ?_ N (by omega)).trans rfl
  ·intro i hlt k
   have e1:=yM (β :=Int) (l.getD i zX).1 (MM l i) (gI h hlt)
   have e2:=yO (l.getD i zX).1 (i:Int) (MM l i) (gI h hlt)
   have e3:MM l i++[((l.getD i zX).1,(i:Int))]=MM l (i+1):=by unfold MM;rw[List.range_succ,List.map_append];rfl
   unfold zX at e1 e2 e3
   simp (disch:=first | assumption | omega) only[Dj,e1,e2,e3,D7,Option.isSome_none]
  ·intro k
   simp (disch:=first | assumption | omega) only[Dj]
theorem pX:LG N l=some 0:=by
  have hl:=h.len
  have h0:=h.ne
  have hi:=nU h hN
  unfold LG
  try simp only[clR]
  simp (disch:=first | assumption | omega) only[Dj,hi]
  refine Ew (fun i=>((i:Int),MM l l.length)) l.length _ ?_ ?_ N (by omega)
  ·intro i hlt k
   have hx:=h.all _ (getD_mem zX hlt)
   have e1:=AbG h hlt
   have e2:=Acv hN hx
   have e3:=(bH hN hx.id).val
   unfold zX at *
   simp (disch:=first | assumption | omega) only[Dj,e1,e2,e3,D7,Option.getD_some]
   try rfl
  ·intro k
   simp (disch:=first | assumption | omega) only[Dj]
theorem uA {m:Nat} (hm: ∀ x∈l,x.2.2.length<=m):(xsC l).length<=(m+28)*l.length :=
  KJ (g:=exB) (M:=m+28) (l:=l) fun x hx=>by
   have:=aP hN (h.all x hx)
   have:=Sp.Dk 48 (exC x)
   have:=hm x hx
   unfold exB;omega
theorem xs_len:(xsC l).length<=40140:=by
  have:=uA h hN (m:=8000) fun x hx=>(h.all x hx).len
  have:=h.len
  omega
theorem pY {d:Nat} (hd:d<15):Par d (xsC l) (l.map exE):=Qj fun x hx=>by
  have hx:=h.all x hx
  have h4:=aP hN hx
  have h5:=hx.len
  exact EK (Fb (by decide) (by decide) (by omega)) (by omega) (yA hN hx (by omega)).nest
theorem tZ:Fine (48,xsC l):=(Fb (by decide) (by decide) (by have:=xs_len h hN;omega))
theorem jY:Hu N l=some (xsB l,0):=by
  have hl:=h.len
  have hb:=xs_len h hN
  unfold Hu
  try simp only[clR]
  rw[pX h hN,CW,show((0:Int) != 0)=false from rfl,cond_false]
  refine(JE (mk:=fun i a=>((i:Int),a)) l zX exB (fun a=>callO (Dz N 48 a) fun r=>bif r.2 != 0 then some ([],2)else some (r.1,0)) ?_ ?_ N (by omega)).trans ?_
  ·intro i a hlt ha k
   have e1:=y9 hN (h.all _ (getD_mem zX hlt))
   unfold zX at *
   simp (disch:=first | assumption | omega) only[Dj,e1,D7]
   try rfl
  ·intro a k ha
   simp (disch:=first | assumption | omega) only[Dj]
  ·have w:Dz N 48 (l.map exB)=_:=VF N 48 (l.map exB) (by omega) (by omega) hN (by rw[List.length_map];omega) (by unfold xsC at hb;omega)
   rw[w,CW];rfl
theorem jX:MJ N (xsB l)=some (l,0):=by
  have hl:=h.len
  have hb:=xs_len h hN
  have hB:=Sp.Dk 48 (xsC l)
  have h1:=Vu 48 (xsC l) (by decide) (by decide) (by omega)
  have h2:=(pY h hN (d:=0) (by decide)).list
  have h4:=G6 N (xsC l) (by omega) (by omega) (by omega)
  rw[h2]at h4
  have hlm:(l.map exE).length=l.length:=List.length_map _
  have h5:Ko N (xsB l)=some (Dp 48 (xsC l),0):=by
    rw[N9 N _ (by omega) (by unfold xsB;omega)]
    exact congrArg some h1
  unfold MJ
  try simp only[clR]
  rw[h5,CW]
  dsimp only[Dp]
  simp (disch:=first | assumption | omega) only[Dj,h4]
  refine(JE (mk:=fun i acc=>((i:Int),acc)) (l.map exE) (0,[],[]) (fun e=>((Gh N e).getD default).1) (fun acc=>callO (LG N acc) fun r=>bif r != 0 then some ([],r)else some (acc,0)) ?_ ?_ N (by omega)).trans ?_
  ·intro i acc hi ha k
   rw[hlm]at hi
   have hr:=jJ hN (h.all _ (getD_mem zX hi))
   have hg:(l.map exE).getD i (0,[],[])=exE (l.getD i zX):=by
     rw[getD_lt _ _ _ (by rw[hlm];exact hi),List.getElem_map,getD_lt l i zX hi]
   simp (disch:=first | assumption | omega) only[Dj,hg,hlm,hr,D7,Option.getD_some]
   try rfl
  ·intro acc k ha
   simp (disch:=first | assumption | omega) only[Dj,hlm]
  ·have e:(l.map exE).map (fun e=>((Gh N e).getD default).1)=l:=by
     rw[List.map_map]
     refine(List.map_congr_left fun x hx=> ?_).trans (List.map_id l)
     show((Gh N (exE x)).getD default).1=_
     rw[jJ hN (h.all x hx)];rfl
   rw[e,pX h hN];rfl
end
end Go.Proofs.YtbnphelpndnnfaaGreatDoor.Pl
namespace Go.Proofs.YtbnphelpndnnfaaGreatDoor.Pl
open IntKind (i64)
open Go Vm
def aut (k:Nat):List (List Att):=(Dx 300 (k:Int)).getD []
def Acp (M k:Nat):Bool:=Dx (M+300) (k:Int)==some (aut k)&&(decide ((aut k).length<=3)&&((aut k).all (fun r=>EG.contains r)&&(!(aut k).isEmpty&&(nmC (aut k)==aut k&&(List.range 16).all fun j=>Gz (M+300) (aut k) (aut j)==some (k % 8==j % 8)&&EH (M+300) (aut k) (aut j)==some (k % 8==j % 8)))))
theorem Abu (M:Nat):(List.range 16).all (Acp M)=true:=by kernel_rfl
structure Abb (N k:Nat):Prop where
  made:Dx N (k:Int)=some (aut k)
  ok:okN (aut k)
  ne:aut k≠ []
  C:nmC (aut k)=aut k
  mt: ∀ j,j<16->Gz N (aut k) (aut j)=some (k % 8==j % 8)
  rmt: ∀ j,j<16->EH N (aut k) (aut j)=some (k % 8==j % 8)
theorem G9 {N:Nat} (hN:1048578<N) {k:Nat} (h:k<16):Abb N k:=by
  obtain⟨M,rfl⟩:=ofM hN
  have h:=List.all_eq_true.1 (Abu M) k (List.mem_range.2 h)
  unfold Acp at h
  simp only[Bool.and_eq_true,beq_iff_eq,List.all_eq_true,decide_eq_true_eq,List.contains_iff_mem,Bool.not_eq_true',List.isEmpty_eq_false_iff,List.mem_range]at h
  obtain⟨h1,h2,h3,h4,h5,h6⟩:=h
  exact⟨h1,⟨h2,h3⟩,h4,h5,fun j hj=>(h6 j hj).1,fun j hj=>(h6 j hj).2⟩
theorem sK {N:Nat} {k:Nat} (h:Abb N k):0<(aut k).length:=List.length_pos_iff.2 h.ne
theorem Aby {N:Nat} (hN:1048578<N) {n:List (List Att)} (hn:okN n):J5 N n=some n:=by
  have h3:=hn.1
  unfold J5
  try simp only[clR]
  refine(JE (mk:=fun i acc=>((i:Int),acc)) n [] id (fun l=>some l) ?_ ?_ N (by omega)).trans (by rw[List.map_id])
  ·intro i acc hi ha k
   have h:=(Ja hN (hn.2 _ (getD_mem [] hi))).p2
   simp (disch:=first | assumption | omega) only[Dj,D7]
   try rfl
  ·intro acc k ha
   simp (disch:=first | assumption | omega) only[Dj]
abbrev En:Type:=Int×Int×Int×Int×Nat
abbrev En.k (e:En):Nat:=e.2.2.2.2
abbrev En.re (e:En):Int:=e.2.2.1
abbrev En.iv (e:En):Int:=e.2.2.2.1
abbrev Ey:Type:=Int×Int×Int×Int×List (List Att)
def enY (e:En):Ey:=(e.1,e.2.1,e.re,e.iv,aut e.k)
def reL:List Int:=[0,1,2,3,4,5,6,8,9,10]
structure OkE (base:Int) (ind:Bool) (p:Nat) (e:En):Prop where
  s0:1<=e.1
  s1:e.1<=9
  ti:e.2.1∈Iz
  re:e.re∈reL
  r8:e.re=8->base≠ -1
  iv:e.iv= -1\/e.iv∈Iz
  k:e.k<16
  is:ind=true\/e.k % 8=p % 8
def Vp:Bs:=[50,46,53,46,50,57,46,50,49]
def Vq:Bs:=[50,46,53,46,50,57,46,50,52]
def Xt:Bs:=[50,46,53,46,50,57,46,50,57]
theorem Ab9:Vp∈QH:=by decide
theorem AbA:Vq∈QH:=by decide
theorem AbD:Xt∈QH:=by decide
theorem Ho (N:Nat) (b:Bool) (s:Bs):Dn N b s 0=some (s,b):=by rw[sG];simp
def isB (k:Nat):Bs:=Sp.elem 48 (Eu (4,[],aut k))
def enX (e:En) (p:Nat):List Ex:=(bif e.re != 0 then [(Vp,false,EX 10 e.re)]else [])++((bif e.iv != -1 then [(Vq,false,Gl e.iv)]else [])++(bif !(e.k % 8==p % 8)then [(Xt,true,isB e.k)]else []))
def enO (e:En) (p:Nat):Bs:=bif decide (((enX e p).length:Int)>0)then xsB (enX e p)else []
def enC (e:En) (p:Nat):Bs:=EX 2 e.1++(Gl e.2.1++enO e p)
def enB (e:En) (p:Nat):Bs:=Sp.elem 48 (enC e p)
def Aal (e:En) (p:Nat):List El:=gJ 2 e.1::XI e.2.1::(bif decide (((enX e p).length:Int)>0)then [Dp 48 (xsC (enX e p))]else [])
theorem Z8 {r:Int} (h:r∈reL):0<=r/\r<11:=by
  unfold reL at h
  simp only[List.mem_cons,List.not_mem_nil,or_false]at h
  omega
theorem U0 {n:List (List Att)} (h:okN n):okG (4,[],n):=Or.inr ⟨n,h,rfl⟩
theorem AbP (n:List (List Att)):Dw [((4:Int),([]:Bs),n)]=Eu (4,[],n):=List.append_nil _
section
variable {N:Nat} (hN:1048578<N) {base:Int} {ind:Bool} {p q:Nat} {e:En} (h:OkE base ind q e)
include hN
theorem yG {k:Nat} (hk:k<16):Sp.chk (isB k)=0/\(isB k).length<=630/\IW N (isB k)=some (aut k,0):=by
  have A:=G9 hN hk
  have hg:=U0 A.ok
  have hl:=NU hN hg
  have hB:=Sp.Dk 48 (Eu (4,[],aut k))
  have hf:Fine (48,Eu (4,[],aut k)):=(Fb (by decide) (by decide) (by omega))
  refine⟨NJ hf fun _=>((Jq hN hg).par 1 (by omega)).nest,by unfold isB;omega,?_⟩
  have h1:Ep N (isB k) 48=some (Dp 48 (Eu (4,[],aut k)),0):=by
    rw[JR N _ 48 hN (by unfold isB;omega)]
    exact congrArg some (LK 48 (Eu (4,[],aut k)) (by decide) (by decide) hf.len)
  have h2:=Ou hN (gs1 hg) (by simp)
  rw[AbP]at h2
  unfold IW
  try simp only[clR]
  rw[h1,CW]
  dsimp only[Dp]
  simp (disch:=first | assumption | omega) only[Dj,h2,List.map_cons,List.map_nil,List.length_cons,List.length_nil,List.getD_cons_zero]
  unfold gnK
  rw[A.C]
  rfl
include h
theorem y8: ∀ x∈enX e p,OkX x/\x.2.2.length<=635:=by
  intro x hx
  unfold enX at hx
  rcases List.mem_append.1 hx with hx | hx
  ·cases hb:e.re != 0 with
   | false=>rw[hb]at hx;cases hx
   | true =>
     rw[hb]at hx
     have hr:=Z8 h.re
     have I:=H5 hN (n:=e.re) (by omega) (by omega)
     have:=I.len
     have:=Sp.Dk 10 (inB e.re)
     have hl:(EX 10 e.re).length<=635:=by unfold EX;omega
     rw[List.mem_singleton.1 hx]
     exact⟨⟨Ab9,NJ (NW I (by decide) (by decide)) fun h=>absurd h (by decide),by show(EX 10 e.re).length<=_;omega⟩,hl⟩
  ·rcases List.mem_append.1 hx with hx | hx
   ·cases hb:e.iv != -1 with
    | false=>rw[hb]at hx;cases hx
    | true =>
      rw[hb]at hx
      have hi:e.iv∈Iz:=by
        rcases h.iv with h | h
        ·rw[h]at hb;cases hb
        ·exact h
      have T:=F9 hN hi
      have:=QY T
      have hl:(Gl e.iv).length<=635:=by omega
      rw[List.mem_singleton.1 hx]
      exact⟨⟨AbA,(by show Sp.chk (Gl e.iv)=0;rw[T.eq];exact NJ T.fine fun h=>(by rw[T.AcC]at h;cases h)),by show(Gl e.iv).length<=_;omega⟩,hl⟩
   ·cases hb: !(e.k % 8==p % 8)with
    | false=>rw[hb]at hx;cases hx
    | true =>
      rw[hb]at hx
      obtain⟨h1,h2,_⟩:=yG hN h.k
      rw[List.mem_singleton.1 hx]
      exact⟨⟨AbD,h1,by show(isB e.k).length<=_;omega⟩,by show(isB e.k).length<=_;omega⟩
theorem XO (h0:0<(enX e p).length):zT (enX e p):=by
  refine⟨h0,?_,fun x hx=>(y8 hN h x hx).1,?_⟩
  ·unfold enX
   cases e.re != 0<;>cases e.iv != -1<;>cases !(e.k % 8==p % 8)<;>simp
  ·unfold enX
   cases e.re != 0<;>cases e.iv != -1<;>cases !(e.k % 8==p % 8)<;>simp [Vp,Vq,Xt]
theorem Ab1:(enO e p).length<=3400:=by
  unfold enO
  cases hb:decide (((enX e p).length:Int)>0)with
  | false=>exact Nat.zero_le _
  | true =>
    have h0:0<(enX e p).length:=by have:=of_decide_eq_true hb;omega
    have X:=XO hN h h0
    have:=uA X hN (m:=635) fun x hx=>(y8 hN h x hx).2
    have:=X.len
    have:=Sp.Dk 48 (xsC (enX e p))
    rw[cond_true]
    unfold xsB
    omega
theorem fM:(enC e p).length<=3450:=by
  have h1:=(H5 hN (n:=e.1) (by have:=h.s0;omega) (by have:=h.s1;omega)).len
  have h2:=Sp.Dk 2 (inB e.1)
  have h3:=QY (F9 hN h.ti)
  have h4:=Ab1 hN h (p:=p)
  unfold enC EX
  rw[List.length_append,List.length_append];omega
theorem Ab0:(enB e p).length<=3455:=by
  have:=fM hN h (p:=p)
  have:=Sp.Dk 48 (enC e p)
  unfold enB;omega
theorem fO:Fine (48,enC e p):=(Fb (by decide) (by decide) (by have:=fM hN h (p:=p);omega))
theorem Ab2:Par 3 (enO e p) (bif decide (((enX e p).length:Int)>0)then [Dp 48 (xsC (enX e p))]else []):=Oe (decide (((enX e p).length:Int)>0)) fun hb=>by
  have X:=XO hN h (p:=p) (by have:=of_decide_eq_true hb;omega)
  exact EK (tZ X hN) (by decide) (pY X hN (d:=4) (by decide)).nest
theorem nO:Par 3 (enC e p) (Aal e p) :=
  have I:=H5 hN (n:=e.1) (by have:=h.s0;omega) (by have:=h.s1;omega)
  E8 (es:=[_]) (Ih (NW I (by decide) (by decide)) (by decide) (by decide)) (E8 (es:=[_]) (iZ (F9 hN h.ti) (by decide)) (Ab2 hN h))
theorem zH (hp:p<16):MF N false (enY e) (aut p)=some (enB e p,false):=by
  have A:=G9 hN h.k
  have hm:=A.mt p hp
  have T:=(F9 hN h.ti).enc
  have I:=H5 hN (n:=e.1) (by have:=h.s0;omega) (by have:=h.s1;omega)
  have hr:=Z8 h.re
  have R:=H5 hN (n:=e.re) (by omega) (by omega)
  have hR:=R.put
  have hI:=I.put
  have hl:=fM hN h (p:=p)
  have hg:=(Jq hN (U0 A.ok)).enc
  have hgl:=NU hN (U0 A.ok)
  have w10:Dh N false 10 [inB e.re]=_:=Lt N 10 false [inB e.re] (by omega) (by omega) hN (by simp) (by rw[DC];have:=R.len;omega)
  have w2:Dh N false 2 [inB e.1]=_:=Lt N 2 false [inB e.1] (by omega) (by omega) hN (by simp) (by rw[DC];have:=I.len;omega)
  have wI:Dq N false [Eu (4,[],aut e.k)]=some (isB e.k,false):=by
    rw[LW N false _ (by simp;omega) (by simp),DC,Gp (by omega)];rfl
  rw[DC]at w10 w2
  have wS:Dq N false [EX 2 e.1,Gl e.2.1,enO e p]=some (enB e p,false):=by
    rw[LW N false _ (by show 3<N;omega) (by show 3<=_;omega),flat3,Gp (by unfold enC at hl;omega)];rfl
  have wX: ∀ hb:decide (((enX e p).length:Int)>0)=true,Hu N (enX e p)=some (xsB (enX e p),0):=fun hb=>jY (XO hN h (by have:=of_decide_eq_true hb;omega)) hN
  have fin:(letJ (fun j4=>bif decide (((enX e p).length:Int)>(0:Int))then(callO (Hu N (enX e p)) fun r63=>callO (Dn N false r63.1 r63.2) fun r66=>j4 (r66.1,r66.2,e.1,e.2.1,e.re,e.iv,aut e.k))else(j4 (([]:Bs),false,e.1,e.2.1,e.re,e.iv,aut e.k)))
      (U7 fun t9d b0_0d b33792_0d b33792_1d b33792_2d b33792_3d (b33792_4d:List (List Att))=>callO (D6 N b0_0d b33792_0d) fun r71=>callO (Eo N b33792_1d) fun r75=>callO (Dn N r71.2 r75.1 r75.2) fun r78=>callO (Dq N r78.2 ([r71.1,r78.1,t9d]:List Bs)) fun r81=>some (r81.1,r81.2)):Option (Bs×Bool))=some (enB e p,false):=by
    have wi:D6 N false e.1=some (EX 2 e.1,false):=by
      unfold D6
      rw[hI,CW,w2];rfl
    cases hb:decide (((enX e p).length:Int)>0)with
    | true =>
      have hO:enO e p=xsB (enX e p):=by unfold enO;rw[hb];rfl
      rw[hO]at wS
      simp (disch:=first | assumption | omega) only[Dj,wX hb,Ho,wi,T,wS,bne_self_eq_false]
      try rfl
    | false =>
      have hO:enO e p=[]:=by unfold enO;rw[hb];rfl
      rw[hO]at wS
      simp (disch:=first | assumption | omega) only[Dj,Ho,wi,T,wS,bne_self_eq_false]
      try rfl
  unfold MF
  try simp only[clR]
  refine Eq.trans ?_ fin
  unfold enX enY
  have hiv:e.iv≠ -1->Eo N e.iv=some (Gl e.iv,0):=fun hn=>(F9 hN (h.iv.resolve_left hn)).enc
  have hiv2:(e.iv != -1)=true->Eo N e.iv=some (Gl e.iv,0):=fun hn=>hiv (by simpa using hn)
  dsimp only
  cases h1:e.re != 0<;>cases h2:e.iv != -1<;>cases h3:(e.k % 8==p % 8)
  all_goals
    rw[h3]at hm
    first
      | (have hv:=hiv2 h2
         simp (disch:=first | assumption | omega) only[Dj,h1,h2,h3,hR,w10,Ho,hv,hm,hg,wI,List.length_cons,List.length_nil,List.nil_append,List.cons_append,U8,Vp,Vq,Xt,EX]
         done)
      | (simp (disch:=first | assumption | omega) only[Dj,h1,h2,h3,hR,w10,Ho,hm,hg,wI,List.length_cons,List.length_nil,List.nil_append,List.cons_append,U8,Vp,Vq,Xt,EX]
         done)
end
end Go.Proofs.YtbnphelpndnnfaaGreatDoor.Pl
namespace Go.Proofs.YtbnphelpndnnfaaGreatDoor.Pl
open IntKind (i64)
open Go Vm
structure X4 (l:List Pt):Prop where
  ne:l≠ []
  len:l.length<=3
  all: ∀ p∈l,okP p
def psC (l:List Pt):Bs:=(l.map ptB).flatten
def psB (l:List Pt):Bs:=Sp.elem 48 (psC l)
def zPt:Pt:=([],0,false,[])
section
variable {N:Nat} (hN:1048578<N) {l:List Pt} (h:X4 l)
include hN h
theorem dA:(psC l).length<=6015:=by
  have:=KJ (g:=ptB) (M:=2005) (l:=l) fun p hp=>by
    have h1:=(V3 hN (h.all p hp)).len
    have:=Sp.Dk 48 (ptC p)
    show(Sp.elem 48 (ptC p)).length<=_;omega
  have:=h.len
  unfold psC;omega
theorem zG {d:Nat} (hd:d<=2):Par d (psC l) (l.map ptE):=Qj fun p hp=>(V3 hN (h.all p hp)).par d hd
theorem AbR:Fine (48,psC l):=(Fb (by decide) (by decide) (by have:=dA hN h;omega))
theorem AcD:Sp.chk (psB l)=0:=NJ (AbR hN h) fun _=>(zG hN h (by decide)).nest
theorem yV:X4 (l.map ptK):=⟨fun e=>h.ne (List.map_eq_nil_iff.1 e),by rw[List.length_map];exact h.len,fun q hq=>by
  obtain⟨p,hp,rfl⟩:=List.mem_map.1 hq
  exact(V3 hN (h.all p hp)).okK⟩
theorem Adp:psB (l.map ptK)=psB l:=by
  unfold psB psC
  rw[List.map_map]
  congr 2
  exact List.map_congr_left fun p hp=>(V3 hN (h.all p hp)).vC
theorem Z5:DU N l=some 0:=by
  have h3:=h.len
  unfold DU
  try simp only[clR]
  simp (disch:=first | assumption | omega) only[Dj]
  refine Ew (fun i=>(i:Int)) l.length _ ?_ ?_ N (by omega)
  ·intro i hi k
   have e:=(V3 hN (h.all _ (getD_mem zPt hi))).chk
   unfold zPt at *
   simp (disch:=first | assumption | omega) only[Dj,e,D7]
   try rfl
  ·intro k
   simp (disch:=first | assumption | omega) only[Dj]
theorem zF:Fg N l=some (psB l,0):=by
  have h3:=h.len
  have hpos:=List.length_pos_iff.2 h.ne
  have hl:=dA hN h
  unfold Fg
  try simp only[clR]
  rw[Z5 hN h,Qm (by omega),cond_false,CW,show((0:Int) != 0)=false from rfl,cond_false]
  refine(JE (mk:=fun i a=>((i:Int),false,a)) l zPt ptB (fun a=>callO (Dq N false a) fun r88=>callO (EZ N r88.snd) fun r90=>bif r90.fst then some ([],2)else some (r88.fst,0)) ?_ ?_ N (by omega)).trans ?_
  ·intro i a hi ha k
   have hp:=h.all _ (getD_mem zPt hi)
   have hP:=V3 hN hp
   unfold zPt at *
   dsimp only[U3]
   rw[Int.toNat_natCast]
   generalize l.getD i ([],0,false,[])=p at *
   have hlen:=hP.len
   unfold ptB
   obtain⟨gs,r,b,n⟩:=p
   obtain⟨⟨g,hg,hgs⟩,hr,hi'⟩:=hp
   dsimp only at hgs hr hi'
   subst hgs
   have l1: [g].length=1:=rfl
   have hle:=I5 hN (gs1 hg)
   have e1:=Sp.Dk 160 (Dw [g])
   have ge:=Y5 hN (gs1 hg) (by simp)
   have w1:Dh N false 160 [Dw [g]]=_:=Lt N 160 false [Dw [g]] (by omega) (by omega) hN (by simp) (by rw[DC];omega)
   have w2:Dh N false 160 [Sp.elem 160 (Dw [g])]=_:=Lt N 160 false [Sp.elem 160 (Dw [g])] (by omega) (by omega) hN (by simp) (by rw[DC];omega)
   rw[DC]at w1 w2
   have hf:(r=0/\flT 129 r=[])\/(r≠0/\flT 129 r=Sp.elem 129 (flB r)/\F5 N r=some (flB r,0)/\Dh N false 129 [flB r]=some (Sp.elem 129 (flB r),false)):=by
     rcases hr with rfl | hr
     ·exact Or.inl ⟨rfl,rfl⟩
     ·have R:=JI hN hr
      refine Or.inr ⟨R.ne,by unfold flT;rw[Qn R.ne];rfl,R.put,?_⟩
      have w3:Dh N false 129 [flB r]=_:=Lt N 129 false [flB r] (by omega) (by omega) hN (by simp) (by rw[DC];have:=R.len;omega)
      rw[DC]at w3;exact w3
   have hw:(b=false/\n=[]/\piT ([g],r,b,n)=[])\/(b=true/\piT ([g],r,b,n)=Sp.elem 162 (Eu (4,[],n))/\Fj N (4,[],n) false=some (Eu (4,[],n),0)/\Dh N false 162 [Eu (4,[],n)]=some (Sp.elem 162 (Eu (4,[],n)),false)):=by
     rcases hi' with ⟨rfl,rfl⟩ | ⟨rfl,hn,_⟩
     ·exact Or.inl ⟨rfl,rfl,rfl⟩
     ·have G:=Jq hN (U0 hn)
      have:=NU hN (U0 hn)
      have w4:Dh N false 162 [Eu (4,[],n)]=_:=Lt N 162 false [Eu (4,[],n)] (by omega) (by omega) hN (by simp) (by rw[DC];omega)
      rw[DC]at w4
      exact Or.inr ⟨rfl,rfl,G.enc,w4⟩
   have wS:Dq N false [Sp.elem 160 (Sp.elem 160 (Dw [g])),flT 129 r,piT ([g],r,b,n)]=some (Sp.elem 48 (ptC ([g],r,b,n)),false):=by
     rw[LW N false _ (by show 3<N;omega) (by show 3<=_;omega),flat3,Gp (by unfold ptC at hlen;dsimp only at hlen;omega)];rfl
   clear hP hlen
   have fin: ∀(x:Bool×List Bs×List Bs),x=(false,[Sp.elem 160 (Sp.elem 160 (Dw [g])),flT 129 r,piT ([g],r,b,n)],a)->U3 (fun b38144_0d l39936d l1012288d=>callO (Dq N b38144_0d l39936d) fun r82=>Vm.chk (decide ((l1012288d.length+1)*17<=140737488355328)) (k (i64.wrap ((i:Int)+1),r82.snd,l1012288d++[r82.fst]))) x=k (((i+1:Nat):Int),false,a++[Sp.elem 48 (ptC ([g],r,b,n))]):=by
     intro x hx
     subst hx
     dsimp only[U3]
     rw[wS,CW]
     simp (disch:=first | assumption | omega) only[Dj,D7]
   rw[aH (show(i:Int)<(l.length:Int) by omega),cond_true,aG (by omega),DY,DY]
   simp only[letJ]
   have step1: ∀(J:List Gn×Int×Bool×List (List Att)×Bool×List Bs×List Bs->Option (Bs×Int)),(bif decide ((([g]:List Gn).length:Int)>0)then callO (EW N [g]) fun r39=>callO (Dn N false r39.fst r39.snd) fun r42=>callO (Dh N r42.snd 160 [r42.fst]) fun r44=>callO (Dh N r44.snd 160 [r44.fst]) fun r46=>J ([g],r,b,n,r46.snd,[r46.fst,[],[]],a)else J ([g],r,b,n,false,[[],[],[]],a))=J ([g],r,b,n,false,[Sp.elem 160 (Sp.elem 160 (Dw [g])),[],[]],a):=by
     intro J
     rw[show decide ((([g]:List Gn).length:Int)>0)=true from rfl,cond_true,ge,CW,Ho,CW]
     show callO (Dh N false 160 [Dw [g]]) _=_
     rw[w1,CW]
     show callO (Dh N false 160 [Sp.elem 160 (Dw [g])]) _=_
     rw[w2,CW]
   refine(step1 _).trans ?_
   dsimp only[U7]
   have last: ∀ x:Bs,x=flT 129 r->(bif b then callO (Fj N (4,[],n) false) fun r72=>callO (Dn N false r72.fst r72.snd) fun r75=>callO (Dh N r75.snd 162 [r75.fst]) fun r77=>Vm.chk (decide (2<(([Sp.elem 160 (Sp.elem 160 (Dw [g])),x,[]]:List Bs).length:Int))) (Vm.chk (decide (2<([Sp.elem 160 (Sp.elem 160 (Dw [g])),x,[]]:List Bs).length)) (U3 (fun b38144_0d l39936d l1012288d=>callO (Dq N b38144_0d l39936d) fun r82=>Vm.chk (decide ((l1012288d.length+1)*17<=140737488355328)) (k (i64.wrap ((i:Int)+1),r82.snd,l1012288d++[r82.fst]))) (r77.snd,([Sp.elem 160 (Sp.elem 160 (Dw [g])),x,[]]:List Bs).set 2 r77.fst,a)))else U3 (fun b38144_0d l39936d l1012288d=>callO (Dq N b38144_0d l39936d) fun r82=>Vm.chk (decide ((l1012288d.length+1)*17<=140737488355328)) (k (i64.wrap ((i:Int)+1),r82.snd,l1012288d++[r82.fst]))) (false,[Sp.elem 160 (Sp.elem 160 (Dw [g])),x,[]],a))=k (((i+1:Nat):Int),false,a++[Sp.elem 48 (ptC ([g],r,b,n))]):=by
     intro x hx
     subst hx
     rcases hw with ⟨rfl,_,hw⟩ | ⟨rfl,hw,hw1,hw2⟩
     ·rw[cond_false]
      exact fin _ (by rw[hw])
     ·rw[cond_true,hw1,CW,Ho,CW]
      show callO (Dh N false 162 [Eu (4,[],n)]) _=_
      rw[hw2,CW]
      exact fin _ (by rw[hw];rfl)
   rcases hf with ⟨hr0,hf⟩ | ⟨hne,hf,hf1,hf2⟩
   ·rw[TR hr0,cond_false]
    exact last [] hf.symm
   ·rw[Qn hne,cond_true,hf1,CW,Ho,CW]
    show callO (Dh N false 129 [flB r]) _=_
    rw[hf2,CW]
    exact last (Sp.elem 129 (flB r)) hf.symm
  ·intro a k ha
   simp (disch:=first | assumption | omega) only[Dj]
  ·rw[LW N false _ (by rw[List.length_map];omega) (by rw[List.length_map];omega),CW,Gp (by unfold psC at hl;omega)]
   rfl
end
end Go.Proofs.YtbnphelpndnnfaaGreatDoor.Pl
namespace Go.Proofs.YtbnphelpndnnfaaGreatDoor.Pl
open IntKind (i64)
open Go Vm
theorem iF {N:Nat} (hN:1048578<N) {t:Nat} {c:Bs} {es:List El} (ht:t<256) (h31:t % 32≠31) (hc:c.length<=131072) (he:MO c=(es,0)):Ic N (Sp.elem t c) (t:Int)=some (.inl (es,0)):=by
  have hB:=Sp.Dk t c
  have h1:=G6 N c (by omega) (by omega) (by omega)
  rw[he]at h1
  unfold Ic EN
  rw[JR N _ t hN (by omega),LK t c ht h31 hc,CW]
  show callE (callO (Gm N c) _) _ _=_
  rw[h1];rfl
theorem Ad5 (e:El) (r:List El):cutL (e::r) 1 (e::r).length=r:=by
  show((e::r).take (e::r).length).drop 1=r
  rw[List.take_length];rfl
theorem WA (N:Nat) (e:El) (r:List El):G8 N (e::r)=some (e,0,r):=by
  have h2:decide ((0:Int)<((e::r).length:Int))=true:=decide_eq_true (by simp only[List.length_cons];omega)
  have h3:decide ((1:Int)<=((e::r).length:Int))=true:=decide_eq_true (by simp only[List.length_cons];omega)
  have h4:(((e::r).length:Int)==(0:Int))=false:=by simp;omega
  unfold G8;try simp -zeta only[Ap]
  rw[h2,h3,h4,Ad5];rfl
theorem Lu {N:Nat} (t:Nat) (c:Bs) (r:List El) {k:Int} (h:(t:Int)=k):Ea N (Dp t c::r) k=some (Dp t c,0,r):=by
  have h1:decide (((Dp t c::r).length:Int)>(0:Int))=true:=decide_eq_true (by simp only[List.length_cons];omega)
  have h5:(((Dp t c::r).getD 0 (0,[],[])).1 != k)=false:=by show((t:Int) != k)=false;rw[h];simp
  unfold Ea;try simp -zeta only[Ap]
  rw[h1,h5,WA];rfl
theorem jM {N:Nat} (hN:1048578<N) {c:Bs} {es r:List El} (hc:c.length<=131072) (he:MO c=(es,0)):Fq N (Dp 48 c::r)=some (.inl (es,0,r)):=by
  have h1:=G6 N c (by omega) (by omega) (by omega)
  rw[he]at h1
  unfold Fq
  rw[Lu 48 c r (k:=48) rfl,CW]
  show callE (EN N c) _ _=_
  unfold EN
  rw[h1];rfl
theorem zD {N:Nat} (hN:1048578<N) {l:List Pt} (h:X4 l):Ff N (psB l)=some (l.map ptK,0):=by
  have h3:=h.len
  have hpos:=List.length_pos_iff.2 h.ne
  have hl:=dA hN h
  have ho:Ic N (psB l) 48=some (.inl (l.map ptE,0)):=iF hN (by omega) (by omega) (by omega) (zG hN h (d:=0) (by decide)).list
  have hlm:(l.map ptE).length=l.length:=List.length_map _
  unfold Ff
  try simp only[clR]
  rw[ho,callE_inl]
  unfold Fh
  dsimp only
  simp (disch:=first | assumption | omega) only[Dj,hlm,bne_self_eq_false]
  refine(Ew (fun i=>((l.map ptE).drop i,(l.take i).map ptK)) l.length (callO (DU N (l.map ptK)) fun r=>bif r != 0 then some ([],r)else some (l.map ptK,0)) ?_ ?_ N (by omega)).trans ?_
  ·intro i hi k
   have hp:=h.all _ (getD_mem zPt hi)
   have P:=V3 hN hp
   have e1:(l.map ptE).drop i=ptE (l.getD i zPt)::(l.map ptE).drop (i+1):=by
     rw[List.drop_eq_getElem_cons (by rw[hlm];exact hi),List.getElem_map,getD_lt l i zPt hi]
   have e2:(l.take i).map ptK++[ptK (l.getD i zPt)]=(l.take (i+1)).map ptK:=by
     rw[List.take_add_one,List.getElem?_eq_getElem hi,List.map_append,getD_lt l i zPt hi];rfl
   have e3:Fq N (ptE (l.getD i zPt)::(l.map ptE).drop (i+1))=_:=jM hN (c:=ptC (l.getD i zPt)) (r:=(l.map ptE).drop (i+1)) (by have:=P.len;omega) P.els
   have e4:((l.take i).map ptK).length=i:=by rw[List.length_map,List.length_take];omega
   dsimp only[U2]
   rw[e1]
   have e5:((ptE (l.getD i zPt)::(l.map ptE).drop (i+1)).length:Int)=((l.length - i:Nat):Int):=by
     rw[List.length_cons,List.length_drop,hlm];omega
   have e6:=P.dec
   rw[e5,uY (by omega),cond_true]
   rw[e3,callE_inl]
   simp (disch:=first | assumption | omega) only[Dj,e6,e4,e2,bne_self_eq_false]
   try rfl
  ·intro k
   have e1:(l.map ptE).drop l.length=[]:=by rw[<- hlm,List.drop_length]
   have e2:(l.take l.length).map ptK=l.map ptK:=by rw[List.take_length]
   dsimp only[U2]
   rw[e1,e2]
   rfl
  ·rw[Z5 hN (yV hN h)];rfl
theorem Ac5 {l:List El} {k:Int} (h:l.all (fun e=>e.1 != k)=true):Vf l k=((0,[],[]),false,l):=by
  cases l with
  | nil=>rfl
  | cons e r =>
    rw[List.all_cons,Bool.and_eq_true]at h
    exact fV (by simpa using h.1)
theorem iG {t:Nat} {c:Bs} {rest:List El} (b:Bool) {k:Int} (hk:(t:Int)=k) (h:rest.all (fun e=>e.1 != k)=true):Vf ((bif b then [Dp t c]else [])++rest) k=bif b then(Dp t c,true,rest)else((0,[],[]),false,rest):=by
  cases b with
  | true=>exact fZ hk
  | false=>exact Ac5 h
abbrev Sc:Type:=List Gn×Bool×Bool×Int×Bool
def zSc:Sc:=([],false,false,0,false)
structure dS (s:Sc):Prop where
  ns:Zw s.1
  re:okR s.2.2.2.1
  sh:(s.2.1=true/\s.2.2.1=false/\s.1=[])\/(s.2.1=false/\s.2.2.1=true/\s.1=[])\/(s.2.1=false/\s.2.2.1=false/\s.1≠ [])
def scK (s:Sc):Sc:=(s.1.map gnK,s.2)
def nsB (l:List Gn):Bs:=bif decide ((l.length:Int)>0)then Sp.elem 160 (Sp.elem 160 (Dw l))else []
def nsE (l:List Gn):List El:=bif decide ((l.length:Int)>0)then [Dp 160 (Sp.elem 160 (Dw l))]else []
def boB (t:Nat) (b:Bool):Bs:=bif b then Sp.elem t [255]else []
def boE (t:Nat) (b:Bool):List El:=bif b then [Dp t [255]]else []
def scC (s:Sc):Bs:=nsB s.1++(boB 129 s.2.1++(boB 130 s.2.2.1++(flT 131 s.2.2.2.1++boB 132 s.2.2.2.2)))
def scB (s:Sc):Bs:=Sp.elem 48 (scC s)
def scE (s:Sc):List El:=nsE s.1++(boE 129 s.2.1++(boE 130 s.2.2.1++(flE 131 s.2.2.2.1++boE 132 s.2.2.2.2)))
theorem nC {t d:Nat} (b:Bool) (ht:t<256) (h31:t % 32≠31) (hc:Sp.cons t=false) (hd:d<16):Par d (boB t b) (boE t b):=Oe b fun _=>Ih (Fb ht h31 (by show 1<=_;omega)) hd hc
theorem mZ (t:Nat) (b:Bool):(boB t b).length<=6:=by
  have:=Sp.Dk t [255]
  cases b with
  | true=>show(Sp.elem t [255]).length<=_;simp at this;omega
  | false=>exact Nat.zero_le _
theorem fQ {N t:Nat} (b:Bool) {rest:List El} (h:rest.all (fun e=>e.1 != (t:Int))=true):DI N (boE t b++rest) (t:Int)=some (b,0,rest):=by
  unfold DI boE;try simp -zeta only[Ap]
  rw[LV,iG b rfl h,CW]
  cases b<;>rfl
section
variable {N:Nat} (hN:1048578<N)
include hN
theorem Ac6 {l:List Gn} (h:Zw l):(nsB l).length<=1260:=by
  have:=I5 hN h
  have:=Sp.Dk 160 (Dw l)
  have:=Sp.Dk 160 (Sp.elem 160 (Dw l))
  unfold nsB
  cases decide ((l.length:Int)>0)with
  | true=>rw[cond_true];omega
  | false=>exact Nat.zero_le _
theorem Ac7 {l:List Gn} (h:Zw l) {d:Nat} (hd:d<=4):Par d (nsB l) (nsE l):=Oe _ fun _=>by
  have:=I5 hN h
  have:=Sp.Dk 160 (Dw l)
  exact EK (Fb (by decide) (by decide) (by omega)) (by omega) (EK (t:=160) (Fb (by decide) (by decide) (by omega)) (by omega) (Zm hN h (by omega)).nest).nest
variable {s:Sc} (h:dS s)
include h
theorem dI:(scC s).length<=1300:=by
  have h1:=Ac6 hN h.ns
  have h2:=mZ 129 s.2.1
  have h3:=mZ 130 s.2.2.1
  have h4:=mZ 132 s.2.2.2.2
  have h5:=tK h.re 131
  unfold scC
  rw[List.length_append,List.length_append,List.length_append,List.length_append];omega
theorem zK {d:Nat} (hd:d<=4):Par d (scC s) (scE s):=E8 (Ac7 hN h.ns hd) (E8 (nC _ (by decide) (by decide) (by decide) (by omega)) (E8 (nC _ (by decide) (by decide) (by decide) (by omega)) (E8 (yC h.re (by decide) (by decide) (by omega) (by decide)) (nC _ (by decide) (by decide) (by decide) (by omega)))))
theorem AbW:Fine (48,scC s):=(Fb (by decide) (by decide) (by have:=dI hN h;omega))
theorem AcI:Sp.chk (scB s)=0:=NJ (AbW hN h) fun _=>(zK hN h (by decide)).nest
theorem Acb:dS (scK s):=⟨Ac8 hN h.ns,h.re,by
  rcases h.sh with ⟨h1,h2,h3⟩ | ⟨h1,h2,h3⟩ | ⟨h1,h2,h3⟩
  ·exact Or.inl ⟨h1,h2,by show s.1.map gnK=[];rw[h3];rfl⟩
  ·exact Or.inr (Or.inl ⟨h1,h2,by show s.1.map gnK=[];rw[h3];rfl⟩)
  ·exact Or.inr (Or.inr ⟨h1,h2,fun e=>h3 (List.map_eq_nil_iff.1 e)⟩)⟩
theorem Adq:scB (scK s)=scB s:=by
  unfold scB scC scK nsB
  dsimp only
  rw[sZ hN h.ns,List.length_map]
theorem zI:J7 N false s=some (scB s,false):=by
  have hlen:=dI hN h
  have hle:=I5 hN h.ns
  have hR:=h.re
  have hns:decide ((s.1.length:Int)>0)=true->EW N s.1=some (Dw s.1,0):=fun hb=>Y5 hN h.ns (fun e=>by rw[e]at hb;cases hb)
  have e1:=Sp.Dk 160 (Dw s.1)
  have w1:Dh N false 160 [Dw s.1]=_:=Lt N 160 false [Dw s.1] (by omega) (by omega) hN (by simp) (by rw[DC];omega)
  have w2:Dh N false 160 [Sp.elem 160 (Dw s.1)]=_:=Lt N 160 false [Sp.elem 160 (Dw s.1)] (by omega) (by omega) hN (by simp) (by rw[DC];omega)
  rw[DC]at w1 w2
  have fl: ∀(t:Nat) (b:Bool),t<256->t % 32≠31->Et N false (t:Int) b=some (boB t b,false):=by
    intro t b ht h31
    unfold Et
    cases b with
    | false=>rfl
    | true =>
      have w3:=Lt N t false [[255]] ht h31 hN (by simp) (by simp)
      rw[Bool.not_true,cond_false]
      show callO (some [255]) _=_
      rw[CW,w3];rfl
  have f1:Et N false 129 s.2.1=_:=fl 129 _ (by omega) (by omega)
  have f2:Et N false 130 s.2.2.1=_:=fl 130 _ (by omega) (by omega)
  have f3:Et N false 132 s.2.2.2.2=_:=fl 132 _ (by omega) (by omega)
  have wS:Dq N false [nsB s.1,boB 129 s.2.1,boB 130 s.2.2.1,flT 131 s.2.2.2.1,boB 132 s.2.2.2.2]=some (scB s,false):=by
    have hf: [nsB s.1,boB 129 s.2.1,boB 130 s.2.2.1,flT 131 s.2.2.2.1,boB 132 s.2.2.2.2].flatten=scC s:=by simp [scC]
    rw[LW N false _ (by show 5<N;omega) (by show 5<=_;omega),hf,Gp (by omega)];rfl
  obtain⟨ns,ou,oc,re,ind⟩:=s
  dsimp only at *
  have hre:(re=0/\flT 131 re=[])\/(re≠0/\flT 131 re=Sp.elem 131 (flB re)/\F5 N re=some (flB re,0)/\Dh N false 131 [flB re]=some (Sp.elem 131 (flB re),false)):=by
    rcases hR with rfl | hr
    ·exact Or.inl ⟨rfl,rfl⟩
    ·have R:=JI hN hr
     refine Or.inr ⟨R.ne,by unfold flT;rw[Qn R.ne];rfl,R.put,?_⟩
     have w3:Dh N false 131 [flB re]=_:=Lt N 131 false [flB re] (by omega) (by omega) hN (by simp) (by rw[DC];have:=R.len;omega)
     rw[DC]at w3;exact w3
  unfold J7
  try simp only[clR]
  cases hb:decide ((ns.length:Int)>0)with
  | true =>
    have g:=hns hb
    have hn:nsB ns=Sp.elem 160 (Sp.elem 160 (Dw ns)):=by unfold nsB;rw[hb];rfl
    rw[hn]at wS
    rcases hre with ⟨rfl,hf⟩ | ⟨hne,hf,hf1,hf2⟩<;>rw[hf]at wS
    ·simp (disch:=first | assumption | omega) only[Dj,hb,g,Ho,w1,w2,f1,f2,f3,wS,bne_self_eq_false]
     try rfl
    ·simp (disch:=first | assumption | omega) only[Dj,hb,g,Ho,w1,w2,f1,f2,f3,wS,bne_self_eq_false,hf1,hf2]
     try rfl
  | false =>
    have hn:nsB ns=[]:=by unfold nsB;rw[hb];rfl
    rw[hn]at wS
    rcases hre with ⟨rfl,hf⟩ | ⟨hne,hf,hf1,hf2⟩<;>rw[hf]at wS
    ·simp (disch:=first | assumption | omega) only[Dj,hb,Ho,f1,f2,f3,wS,bne_self_eq_false]
     try rfl
    ·simp (disch:=first | assumption | omega) only[Dj,hb,Ho,f1,f2,f3,wS,bne_self_eq_false,hf1,hf2]
     try rfl
theorem yE:J6 N (scB s)=some (scK s,0):=by
  have hlen:=dI hN h
  have ho:Ic N (scB s) 48=some (.inl (scE s,0)):=iF hN (by omega) (by omega) (by omega) (zK hN h (d:=0) (by decide)).list
  have hle:=I5 hN h.ns
  have e1:=Sp.Dk 160 (Dw s.1)
  have hR:=h.re
  have o160:Ep N (Sp.elem 160 (Dw s.1)) 160=some (Dp 160 (Dw s.1),0):=by
    rw[JR N _ 160 hN (by omega)]
    exact congrArg some (LK 160 (Dw s.1) (by decide) (by decide) (by omega))
  have hns:decide ((s.1.length:Int)>0)=true->DT N (Dw s.1)=some (s.1.map gnK,0):=fun hb=>Ou hN h.ns (fun e=>by rw[e]at hb;cases hb)
  clear h
  obtain⟨ns,ou,oc,re,ind⟩:=s
  dsimp only at *
  have hn0:decide ((ns.length:Int)>0)=false->ns.map gnK=[]:=fun hb=>by
    cases ns with
    | nil=>rfl
    | cons a r=>rw[decide_eq_true (by rw[List.length_cons];omega)]at hb;cases hb
  have n4:(boE 132 ind).all (fun e=>e.1 != (131:Int))=true:=by cases ind<;>rfl
  have n3:(flE 131 re++boE 132 ind).all (fun e=>e.1 != (130:Int))=true:=by unfold flE;cases re != 0<;>cases ind<;>rfl
  have n2:(boE 130 oc++(flE 131 re++boE 132 ind)).all (fun e=>e.1 != (129:Int))=true:=by unfold flE;cases oc<;>cases re != 0<;>cases ind<;>rfl
  have n1:(boE 129 ou++(boE 130 oc++(flE 131 re++boE 132 ind))).all (fun e=>e.1 != (160:Int))=true:=by unfold flE;cases ou<;>cases oc<;>cases re != 0<;>cases ind<;>rfl
  have f1:DI N (boE 129 ou++(boE 130 oc++(flE 131 re++boE 132 ind))) 129=some (ou,0,boE 130 oc++(flE 131 re++boE 132 ind)):=fQ ou n2
  have f2:DI N (boE 130 oc++(flE 131 re++boE 132 ind)) 130=some (oc,0,flE 131 re++boE 132 ind):=fQ oc n3
  have f4:DI N (boE 132 ind) 132=some (ind,0,[]):=by
    have:=fQ (N:=N) (t:=132) ind (rest:=[]) rfl
    rwa [List.append_nil]at this
  have st1: ∀ J:List Gn×List El->Option (Sc×Int),(callO (D5 N (nsE ns++(boE 129 ou++(boE 130 oc++(flE 131 re++boE 132 ind)))) 160) fun r25=>bif r25.2.1 then callO (Ep N r25.1.2.1 160) fun r32=>bif (r32.2 != (0:Int))then some ((([]:List Gn),false,false,(0:Int),false),r32.2)else callO (DT N r32.1.2.1) fun r42=>bif (r42.2 != (0:Int))then some ((([]:List Gn),false,false,(0:Int),false),r42.2)else J (r42.1,r25.2.2)else J ([],r25.2.2))=J (ns.map gnK,boE 129 ou++(boE 130 oc++(flE 131 re++boE 132 ind))):=by
    intro J
    unfold nsE
    rw[LV,iG (k:=160) _ rfl n1,CW]
    cases hb:decide ((ns.length:Int)>0)with
    | true =>
      rw[cond_true]
      dsimp only[Dp]
      rw[cond_true,o160,CW]
      dsimp only[Dp]
      rw[show((0:Int) != 0)=false from rfl,cond_false,hns hb,CW]
      dsimp only
      rw[show((0:Int) != 0)=false from rfl,cond_false]
    | false =>
      rw[cond_false,hn0 hb];rfl
  have st2: ∀ J:Int×List El->Option (Sc×Int),(callO (D5 N (flE 131 re++boE 132 ind) 131) fun r72=>bif r72.2.1 then callO (IM N r72.1.2.1) fun r79=>bif (r79.2 != (0:Int))then some ((([]:List Gn),false,false,(0:Int),false),r79.2)else bif (r79.1==(0:Int))then some ((([]:List Gn),false,false,(0:Int),false),7)else J (r79.1,r72.2.2)else J (0,r72.2.2))=J (re,boE 132 ind):=by
    intro J
    unfold flE
    rw[LV,iG (k:=131) _ rfl n4,CW]
    rcases hR with rfl | hr
    ·rfl
    ·have R:=JI hN hr
     rw[Qn R.ne,cond_true]
     dsimp only[Dp]
     rw[cond_true,R.get,CW]
     dsimp only
     rw[show((0:Int) != 0)=false from rfl,cond_false,Qm R.ne,cond_false]
  unfold J6
  rw[ho,callE_inl]
  dsimp only
  rw[show((0:Int) != 0)=false from rfl,cond_false,Hg]
  unfold scE scK
  dsimp only
  refine(st1 (fun x=>U2 _ (x.1,x.2))).trans ?_
  dsimp only[U2]
  rw[f1,CW]
  dsimp only
  rw[show((0:Int) != 0)=false from rfl,cond_false,f2,CW]
  dsimp only
  rw[show((0:Int) != 0)=false from rfl,cond_false,Hg]
  refine(st2 (fun x=>U5 _ (ns.map gnK,ou,oc,x.1,x.2))).trans ?_
  dsimp only[U5]
  rw[f4,CW]
  dsimp only
  rw[show((0:Int) != 0)=false from rfl,cond_false,Jb];rfl
end
