import Derived.Test.YtbaomhegdndpnaaGreatDoorA18
set_option linter.all false
namespace Go.Proofs.YtbaomhegdndpnaaGreatDoor.Pl
open IntKind (i64)
open Go Vm
abbrev Att:Type:=Bs×Int×Bs
theorem Jy {t:Nat} {c:Bs} (h:c.length<=131072):KA t c=some (Sp.elem t c):=by unfold KA;rw[if_pos h]
theorem lX (N t:Nat) (l:List Bs) (ht:t<256) (h31:t % 32≠31) (hN:1048578<N) (hl:l.length<=1000) (hs:l.flatten.length<=131072):Ew N (t:Int) l=some (Sp.elem t l.flatten,0):=by
  rw[Aax N t l ht h31 (by omega) (by omega),Jy hs];rfl
theorem Nu (N t:Nat) (l:List Bs) (ht:t<256) (h31:t % 32≠31) (hN:1048578<N) (hl:l.length<=1000) (hs:l.flatten.length<=131072):DL N (t:Int) l=some (Sp.elem t l.flatten):=by
  unfold DL
  rw[nH N t l ht h31 (by omega) (by omega) (by omega),CY,Jy hs];rfl
theorem cO (N t:Nat) (l:List Bs) (ht:t<256) (h31:t % 32≠31) (hN:1048578<N) (hl:l.length<=1000) (hs:l.flatten.length<=131072):ED N (t:Int) l=some (Sp.elem t l.flatten,0):=by
  rw[Arw N t l ht h31 (by omega) (by omega) (by omega),Jy hs];rfl
theorem Uk (N t:Nat) (b:Bool) (l:List Bs) (ht:t<256) (h31:t % 32≠31) (hN:1048578<N) (hl:l.length<=1000) (hs:l.flatten.length<=131072):Dw N b (t:Int) l=some (Sp.elem t l.flatten,b):=by
  rw[Akd N t b l ht h31 (by omega) (by omega),Jy hs];simp
theorem Eb (a:Bs): [a].flatten=a:=by simp
theorem Aqi (a b:Bs): [a,b].flatten=a++b:=by simp
theorem flat3 (a b c:Bs): [a,b,c].flatten=a++(b++c):=by simp
theorem ofM {N:Nat} (hN:1048578<N): ∃ M,N=M+300:=⟨N - 300,by omega⟩
def UX:List Att:=[([50,46,53,46,52,46,51],12,[65,110,110]),([50,46,53,46,52,46,51],19,[32,97,110,110]),([50,46,53,46,52,46,51],12,[103,114,195,182,195,159,101]),([50,46,53,46,52,46,54],19,[85,83]),([50,46,53,46,52,46,49,48],19,[69,120,97,109,112,108,101,32,32,67,111,114,112]),([50,46,53,46,52,46,49,48],12,[101,120,97,109,112,108,101,32,99,111,114,112]),([50,46,53,46,52,46,49,49],22,[97,44,98,43,99,61,100,92,101]),([48,46,57,46,50,51,52,50,46,49,57,50,48,48,51,48,48,46,49,48,48,46,49,46,50,53],22,[111,114,103]),([49,46,50,46,56,52,48,46,49,49,51,53,52,57,46,49,46,57,46,49],22,[97,110,110,64,101,120,97,109,112,108,101,46,111,114,103]),([49,46,50,46,56,52,48,46,49,49,51,53,52,57,46,49,46,57,46,49],22,[110,111,32,97,100,100,114,101,115,115]),([50,46,53,46,52,46,57,57],19,[120]),([50,46,53,46,52,46,55],12,[76])]
def Atr:List Att:=[[48],[49],[50],[51]].flatMap fun k=>[([50,46,53,46,52,46,49,48],19,[67,65,32]++k),([50,46,53,46,52,46,49,48],19,[32,99,97,32,32]++k)]
def Atj:Att:=([50,46,53,46,52,46,49,49],12,[85,110,105,116])
def GY:List (List Att):=UX.map (fun a=>[a])++(UX.flatMap fun a=>(UX.filter fun b=>a.1 != b.1).map fun b=>[a,b])++(Atj::Atr).map fun a=>[a]
def Asi (l:List Bs):Bs:=(l.foldl (fun s x=>OG x s) []).flatten
def Ut (a:Att):Bs:=((Ht 300 a).getD default).1
def Ju (r:List Att):Bs:=Asi (r.map Ut)
def YG (r:List Att):Bs:=Sp.elem 49 (Ju r)
def Aby (r:List Att):List Att:=((Fb 300 (DT 49 (Ju r))).getD default).1
structure AsO (N:Nat) (r:List Att):Prop where
  chk:Ku N r=some 0
  Ap4:Jl N r=some 0
  Atz:Nr N r=some (r.map Ut)
  att: ∀ a∈r,Ht N a=some (Ut a,0)
  dec:Fb N (DT 49 (Ju r))=some (Aby r,0)
  inC:Aby r∈GY
  enc:Ju (Aby r)=Ju r
  len:(Ju r).length<=200
  lens:(r.map Ut).flatten.length<=200
  p0:0<r.length
  p2:r.length<=2
  nest:Oq 9 (Ju r)
def Ua (M:Nat) (r:List Att):Bool :=
  Ku (M+300) r==some 0&&(Jl (M+300) r==some 0&&(Nr (M+300) r==some (r.map Ut)&&(r.all (fun a=>Ht (M+300) a==some (Ut a,0)) &&
  (Fb (M+300) (DT 49 (Ju r))==some (Aby r,0)&&(GY.contains (Aby r)&&(Ju (Aby r)==Ju r&&(decide ((Ju r).length<=200)&&(decide ((r.map Ut).flatten.length<=200)&&(decide (0<r.length)&&(decide (r.length<=2)&&(Sp.within ((Ju r).length+1) 9 (Ju r)==0)))))))))))
theorem AkB {α :Type} (p: α ->Bool) (l:List α) (n:Nat) (h: ∀ i,i<n->((l.drop (12*i)).take 12).all p=true) (hl:l.length<=12*n):l.all p=true:=by
  rw[List.all_eq_true]
  intro x hx
  obtain⟨j,hj,rfl⟩:=List.getElem_of_mem hx
  refine List.all_eq_true.1 (h (j / 12) (by omega)) _ ?_
  rw[List.mem_iff_getElem]
  refine⟨j % 12,by rw[List.length_take,List.length_drop];omega,?_⟩
  rw[List.getElem_take,List.getElem_drop]
  congr 1;omega
theorem ck0 (M:Nat):((GY.drop (12*0)).take 12).all (Ua M)=true:=by kernel_rfl
theorem ck1 (M:Nat):((GY.drop (12*1)).take 12).all (Ua M)=true:=by kernel_rfl
theorem ck2 (M:Nat):((GY.drop (12*2)).take 12).all (Ua M)=true:=by kernel_rfl
theorem ck3 (M:Nat):((GY.drop (12*3)).take 12).all (Ua M)=true:=by kernel_rfl
theorem ck4 (M:Nat):((GY.drop (12*4)).take 12).all (Ua M)=true:=by kernel_rfl
theorem ck5 (M:Nat):((GY.drop (12*5)).take 12).all (Ua M)=true:=by kernel_rfl
theorem ck6 (M:Nat):((GY.drop (12*6)).take 12).all (Ua M)=true:=by kernel_rfl
theorem ck7 (M:Nat):((GY.drop (12*7)).take 12).all (Ua M)=true:=by kernel_rfl
theorem ck8 (M:Nat):((GY.drop (12*8)).take 12).all (Ua M)=true:=by kernel_rfl
theorem ck9 (M:Nat):((GY.drop (12*9)).take 12).all (Ua M)=true:=by kernel_rfl
theorem Atu (M:Nat):((GY.drop (12*10)).take 12).all (Ua M)=true:=by kernel_rfl
theorem Atv (M:Nat):((GY.drop (12*11)).take 12).all (Ua M)=true:=by kernel_rfl
theorem Ap6:GY.length<=144:=of_decide_eq_true (by kernel_rfl)
theorem Arh (M:Nat):GY.all (Ua M)=true:=by
  refine AkB _ _ 12 (fun i hi=> ?_) Ap6
  match i,hi with
  | 0,_=>exact ck0 M
  | 1,_=>exact ck1 M
  | 2,_=>exact ck2 M
  | 3,_=>exact ck3 M
  | 4,_=>exact ck4 M
  | 5,_=>exact ck5 M
  | 6,_=>exact ck6 M
  | 7,_=>exact ck7 M
  | 8,_=>exact ck8 M
  | 9,_=>exact ck9 M
  | 10,_=>exact Atu M
  | 11,_=>exact Atv M
theorem NG {N:Nat} (hN:1048578<N) {r:List Att} (h:r∈GY):AsO N r:=by
  obtain⟨M,rfl⟩:=ofM hN
  have h:=List.all_eq_true.1 (Arh M) r h
  unfold Ua at h
  simp only[Bool.and_eq_true,beq_iff_eq,List.all_eq_true,decide_eq_true_eq,List.contains_iff_mem]at h
  obtain⟨h1,h2,h3,h4,h5,h6,h7,h8,h9,h10,h11,h12⟩:=h
  exact⟨h1,h2,h3,h4,h5,h6,h7,h8,h9,h10,h11,h12⟩
theorem Ap5 {N:Nat} (hN:1048578<N) {r:List Att} (h:r∈GY):(YG r).length<=205:=by
  have:=(NG hN h).len
  have:=Sp.DD 49 (Ju r)
  unfold YG;omega
def okN (n:List (List Att)):Prop:=n.length<=3/\ ∀ r∈n,r∈GY
def nmC (n:List (List Att)):List (List Att):=n.map Aby
def nmB (n:List (List Att)):Bs:=(n.map YG).flatten
def nmT (n:List (List Att)):Bs:=Sp.elem 48 (nmB n)
section
variable {N:Nat} (hN:1048578<N) {n:List (List Att)} (hn:okN n)
include hN hn
theorem AlW:okN (nmC n):=⟨by unfold nmC;rw[List.length_map];exact hn.1,fun r hr=>by
  obtain⟨x,hx,rfl⟩:=List.mem_map.1 hr
  exact(NG hN (hn.2 x hx)).inC⟩
theorem Atc:nmB (nmC n)=nmB n:=by
  unfold nmB nmC
  rw[List.map_map]
  congr 1
  exact List.map_congr_left fun r hr=>by show Sp.elem 49 _=Sp.elem 49 _;rw[(NG hN (hn.2 r hr)).enc]
theorem fO:(nmB n).length<=615:=by
  have:=NL (g:=YG) (M:=205) (l:=n) fun r hr=>Ap5 hN (hn.2 r hr)
  have:=hn.1
  unfold nmB;omega
theorem Ae8:(nmT n).length<=620:=by
  have:=fO hN hn
  have:=Sp.DD 48 (nmB n)
  unfold nmT;omega
theorem AnK:Par 8 (nmB n) (n.map fun r=>DT 49 (Ju r)):=XP fun r hr=>GH (Hy (by decide) (by decide) (by have:=(NG hN (hn.2 r hr)).len;omega)) (by decide) (NG hN (hn.2 r hr)).nest
theorem Akt:Fine (48,nmB n):=(Hy (by decide) (by decide) (by have:=fO hN hn;omega))
theorem Na:GU N n=some 0:=by
  have h3:=hn.1
  unfold GU
  try simp only[clR]
  simp (disch:=first | assumption | omega) only[D8]
  refine Fp (fun i=>(i:Int)) n.length _ ?_ ?_ N (by omega)
  ·intro i hi k
   have h:=(NG hN (hn.2 _ (getD_mem [] hi))).chk
   simp (disch:=first | assumption | omega) only[D8,h,Em]
   try rfl
  ·intro k
   simp (disch:=first | assumption | omega) only[D8]
theorem Q3:Gf N n=some 0:=by
  have h3:=hn.1
  unfold Gf
  try simp only[clR]
  simp (disch:=first | assumption | omega) only[D8]
  refine Fp (fun i=>(i:Int)) n.length _ ?_ ?_ N (by omega)
  ·intro i hi k
   have h:=NG hN (hn.2 _ (getD_mem [] hi))
   have h1:=h.Ap4
   have h2:=h.p0
   have h3:=h.p2
   simp (disch:=first | assumption | omega) only[D8,h1,Em]
   try rfl
  ·intro k
   simp (disch:=first | assumption | omega) only[D8]
theorem Aag:LY N n=some (nmT n,0):=by
  have h3:=hn.1
  have hl:=fO hN hn
  unfold LY
  try simp only[clR]
  rw[Na hN hn,CY,show((0:Int) != 0)=false from rfl,cond_false]
  refine(OM (mk:=fun i acc=>((i:Int),acc)) n [] YG (fun l=>CW (Ew N 48 l) fun r62=>some (r62.fst,r62.snd)) ?_ ?_ N (by omega)).trans ?_
  ·intro i acc hi hacc k
   have h:=NG hN (hn.2 _ (getD_mem [] hi))
   dsimp only[U2]
   rw[Int.toNat_natCast]
   generalize n.getD i []=r at *
   have p0:=h.p0
   have p2:=h.p2
   simp (disch:=first | assumption | omega) only[D8]
   refine(OM (mk:=fun j a=>((j:Int),a,acc)) r ([],0,[]) Ut (fun l=>CW (Pn N l) fun r48=>CW (Ew N 49 [r48]) fun r50=>bif r50.snd != 0 then some ([],r50.snd)else chk (decide ((acc.length+1)*17<=140737488355328)) (k ((i:Int)+1,acc++[r50.fst]))) ?_ ?_ N (by omega)).trans ?_
   ·intro j a hj ha k
    have he:=h.att _ (getD_mem ([],0,[]) hj)
    simp (disch:=first | assumption | omega) only[D8,he,Em]
   ·intro a k ha
    simp (disch:=first | assumption | omega) only[D8]
   ·have hlen:=h.len
    have hlens:=h.lens
    have e:Q4 (r.map Ut)=Ju r:=(Abd _).symm
    have w:Ew N 49 [Q4 (r.map Ut)]=_:=lX N 49 [Q4 (r.map Ut)] (by omega) (by omega) hN (by simp) (by rw[Eb,e];omega)
    rw[Eb,e]at w
    unfold Pn
    rw[Aqp (by rw[List.length_map];omega),AcR (by rw[List.length_map];omega),AcR (by omega)]
    simp only[Bool.and_self,cond_true,CY]
    rw[e,w,CY]
    simp (disch:=first | assumption | omega) only[D8,Em]
    try rfl
  ·intro acc k ha
   simp (disch:=first | assumption | omega) only[D8]
  ·have w:Ew N 48 (n.map YG)=_:=lX N 48 (n.map YG) (by omega) (by omega) hN (by rw[List.length_map];omega) (by unfold nmB at hl;omega)
   rw[w,CY];rfl
theorem tY:JX N n=some (nmT n,0):=by
  have h3:=hn.1
  have hl:=fO hN hn
  unfold JX
  try simp only[clR]
  rw[Q3 hN hn,CY,show((0:Int) != 0)=false from rfl,cond_false]
  refine(XI (mk:=fun i t=>(t,(i:Int))) n [] YG (fun t=>CW (DL N 48 [t]) fun r30=>some (r30,0)) ?_ ?_ N (by omega)).trans ?_
  ·intro i t hi ht k
   have h:=NG hN (hn.2 _ (getD_mem [] hi))
   have hlen:=h.len
   have hlens:=h.lens
   have p2:=h.p2
   have hat:=h.Atz
   have e:Q4 ((n.getD i []).map Ut)=Ju (n.getD i []):=(Abd _).symm
   have hor:=AeN N ((n.getD i []).map Ut) hN (by rw[List.length_map];omega) (by omega)
   rw[e]at hor
   have w:DL N 49 [Ju (n.getD i [])]=_:=Nu N 49 [Ju (n.getD i [])] (by omega) (by omega) hN (by simp) (by rw[Eb];omega)
   rw[Eb]at w
   have hw:Sp.elem 49 (Ju (n.getD i []))=YG (n.getD i []):=rfl
   unfold nmB at hl
   simp (disch:=first | assumption | omega) only[D8,hat,hor,w,hw,Em]
  ·intro t k
   simp (disch:=first | assumption | omega) only[D8]
  ·have w:DL N 48 [(n.map YG).flatten]=_:=Nu N 48 [(n.map YG).flatten] (by omega) (by omega) hN (by simp) (by rw[Eb];unfold nmB at hl;omega)
   rw[w,CY,Eb];rfl
theorem Aaf:LX N (nmT n)=some (nmC n,0):=by
  have h3:=hn.1
  have hl:=fO hN hn
  have hT:=Ae8 hN hn
  have hF:=Akt hN hn
  have h1:=kN 48 (nmB n) (by decide) (by decide) hF.len
  have h2:=(AnK hN hn).list
  have hC:=AlW hN hn
  unfold LX
  try simp only[clR]
  rw[Uj N _ (by omega) (by omega),show UI (nmT n)=_ from h1,CY]
  have h4:=JE N (nmB n) (by omega) (by omega) (by omega)
  rw[h2]at h4
  dsimp only[DT]
  simp (disch:=first | assumption | omega) only[D8,h4]
  refine(OM (mk:=fun i acc=>((i:Int),acc)) (n.map fun r=>DT 49 (Ju r)) (0,[],[]) (fun e=>((Fb N e).getD default).1) (fun acc=>CW (GU N acc) fun r60=>bif r60 != 0 then some ([],r60)else some (acc,0)) ?_ ?_ N (by rw[List.length_map];omega)).trans ?_
  ·intro i acc hi ha k
   rw[List.length_map]at hi
   have hr:=(NG hN (hn.2 _ (getD_mem [] hi))).dec
   have hg:(n.map fun r=>DT 49 (Ju r)).getD i (0,[],[])=DT 49 (Ju (n.getD i [])):=by
     rw[getD_lt _ _ _ (by rw[List.length_map];exact hi),List.getElem_map,getD_lt n i [] hi]
   have hlm:(n.map fun r=>DT 49 (Ju r)).length=n.length:=List.length_map _
   simp (disch:=first | assumption | omega) only[D8,hg,hlm,hr,Em,Option.getD_some]
   try rfl
  ·intro acc k ha
   simp (disch:=first | assumption | omega) only[D8]
  ·have e:(n.map fun r=>DT 49 (Ju r)).map (fun e=>((Fb N e).getD default).1)=nmC n:=by
     rw[List.map_map]
     exact List.map_congr_left fun r hr=>by show((Fb N _).getD default).1=_;rw[(NG hN (hn.2 r hr)).dec];rfl
   rw[e,Na hN hC];rfl
end
end Go.Proofs.YtbaomhegdndpnaaGreatDoor.Pl
namespace Go.Proofs.YtbaomhegdndpnaaGreatDoor.Pl
open IntKind (i64)
open Go Vm
abbrev Gn:Type:=Int×Bs×List (List Att)
def AiS:List Gn:=[[97,110,110,64,101,120,97,109,112,108,101,46,111,114,103],[65,78,78,64,101,120,97,109,112,108,101,46,111,114,103],[97,110,110,64,69,120,97,109,112,108,101,46,79,82,71],[98,46,99,64,109,97,105,108,46,101,120,97,109,112,108,101,46,111,114,103],[120,64,111,114,103],[97,39,98,64,97,46,98]].map (fun s=>(1,s,[])) ++
  [[101,120,97,109,112,108,101,46,111,114,103],[119,119,119,46,101,120,97,109,112,108,101,46,111,114,103],[87,87,87,46,69,120,97,109,112,108,101,46,111,114,103],[42,46,101,120,97,109,112,108,101,46,111,114,103],[97,46,98],[111,114,103],[109,121,101,120,97,109,112,108,101,46,111,114,103]].map (fun s=>(2,s,[])) ++
  [[10,0,0,1],[10,1,2,3],[192,168,1,7],[32,1,13,184,0,0,0,0,0,0,0,0,0,0,0,1]].map (fun s=>(7,s,[]))
def okG (g:Gn):Prop:=g∈AiS\/ ∃ n,okN n/\g=(4,[],n)
def gnK (g:Gn):Gn:=(g.1,g.2.1,nmC g.2.2)
def gnT (g:Gn):Nat×Bs:=bif g.1==4 then(164,nmT g.2.2)else((128+g.1).toNat,g.2.1)
def Fz (g:Gn):Bs:=Sp.elem (gnT g).1 (gnT g).2
def aY (g:Gn):El:=DT (gnT g).1 (gnT g).2
def Aqt (M:Nat) (g:Gn):Bool:=GX (M+300) g false==some 0&&(Gm (M+300) g false==some 0&&(Ic (M+300) g false==some (Fz g,0)&&(I8 (M+300) g false==some (Fz g,0) &&
  (JL (M+300) (aY g) false==some (g,0)&&(g.2.2.isEmpty&&(decide ((gnT g).2.length<=40)&&(decide ((gnT g).1<256)&&(decide ((gnT g).1 % 32≠31)&& !Sp.cons (gnT g).1))))))))
theorem ApO (M:Nat):AiS.all (Aqt M)=true:=by kernel_rfl
structure Arx (N:Nat) (g:Gn):Prop where
  chk:GX N g false=some 0
  Ap4:Gm N g false=some 0
  enc:Ic N g false=some (Fz g,0)
  YX:I8 N g false=some (Fz g,0)
  dec:JL N (aY g) false=some (gnK g,0)
  fine:Fine (gnT g)
  len:(gnT g).2.length<=620
  Ali:gnT (gnK g)=gnT g
  okK:okG (gnK g)
  par: ∀ d,d<=6->Par d (Fz g) [aY g]
section
variable {N:Nat} (hN:1048578<N)
include hN
theorem AqZ {n:List (List Att)} (hn:okN n) {d:Nat} (hd:d<=8):Oq d (nmB n):=Ae6 hd (AnK hN hn).nest
theorem Aks {n:List (List Att)} (hn:okN n) {d:Nat} (hd:d<=7):Par d (nmT n) [DT 48 (nmB n)]:=GH (Akt hN hn) (by omega) (AqZ hN hn (by omega))
theorem ArC {n:List (List Att)} (hn:okN n):Arx N (4,[],n):=by
  have h1:=Na hN hn
  have h2:=Q3 hN hn
  have h3:=Aag hN hn
  have h4:=tY hN hn
  have h5:=Aaf hN hn
  have hC:=AlW hN hn
  have h6:=Na hN hC
  have hl:=Ae8 hN hn
  have w:Ew N 164 [nmT n]=_:=lX N 164 [nmT n] (by omega) (by omega) hN (by simp) (by rw[Eb];omega)
  have v:DL N 164 [nmT n]=_:=Nu N 164 [nmT n] (by omega) (by omega) hN (by simp) (by rw[Eb];omega)
  rw[Eb]at w v
  have c1: ∀ m:List (List Att),GU N m=some 0->GX N (4,[],m) false=some 0:=by
    intro m hm
    unfold GX AaL
    try simp only[clR]
    simp (disch:=first | assumption | omega) only[D8,hm,Option.isSome_some,Option.getD_some]
    try rfl
  have c2:Gm N (4,[],n) false=some 0:=by
    unfold Gm
    try simp only[clR]
    dsimp only[U4,Ei]
    simp (disch:=first | assumption | omega) only[D8,h2,Option.isSome_some,Option.getD_some]
    try rfl
  have hf:Fine (164,nmT n):=(Hy (by decide) (by decide) (by omega))
  refine⟨c1 n h1,c2,?_,?_,?_,hf,hl,?_,Or.inr ⟨_,hC,rfl⟩,fun d hd=>GH hf (by omega) (Aks hN hn (by omega)).nest⟩
  ·unfold Ic
   try simp only[clR]
   simp (disch:=first | assumption | omega) only[D8,c1 n h1,h3]
   show CW (Ew N 164 [nmT n]) _=_
   rw[w];rfl
  ·unfold I8
   try simp only[clR]
   simp (disch:=first | assumption | omega) only[D8,c2,h4]
   show CW (DL N 164 [nmT n]) _=_
   rw[v];rfl
  ·have c3:=c1 _ h6
   unfold JL
   try simp only[clR]
   show _=some ((4,[],nmC n),0)
   dsimp only[aY,gnT,DT]
   simp (disch:=first | assumption | omega) only[D8,h5,c3,Aa6]
   try rfl
  ·show(164,nmT (nmC n))=(164,nmT n)
   unfold nmT
   rw[Atc hN hn]
theorem LH {g:Gn} (h:okG g):Arx N g:=by
  rcases h with h | ⟨n,hn,rfl⟩
  ·have hh:=h
   obtain⟨M,rfl⟩:=ofM hN
   have h:=List.all_eq_true.1 (ApO M) g h
   unfold Aqt at h
   simp only[Bool.and_eq_true,beq_iff_eq,decide_eq_true_eq,Bool.not_eq_true',List.isEmpty_iff]at h
   obtain⟨h1,h2,h3,h4,h5,h6,h7,h8,h9,h10⟩:=h
   have hk:gnK g=g:=by obtain⟨k,s,n⟩:=g;dsimp only at h6;subst h6;rfl
   have hf:Fine (gnT g):=⟨h8,h9,by omega⟩
   exact⟨h1,h2,h3,h4,by rw[hk];exact h5,hf,by omega,by rw[hk],by rw[hk];exact Or.inl hh,fun d hd=>L6 hf (by omega) h10⟩
  ·exact ArC hN hn
theorem OC {g:Gn} (h:okG g):(Fz g).length<=625:=by
  have:=(LH hN h).len
  have:=Sp.DD (gnT g).1 (gnT g).2
  unfold Fz;omega
end
def uB (l:List Gn):Prop:=l.length<=2/\ ∀ g∈l,okG g
def DZ (l:List Gn):Bs:=(l.map Fz).flatten
section
variable {N:Nat} (hN:1048578<N) {l:List Gn} (hl:uB l)
include hN hl
theorem IZ:(DZ l).length<=1250:=by
  have:=NL (g:=Fz) (M:=625) (l:=l) fun g hg=>OC hN (hl.2 g hg)
  have:=hl.1
  unfold DZ;omega
theorem AaR {d:Nat} (hd:d<=6):Par d (DZ l) (l.map aY):=XP fun g hg=>(LH hN (hl.2 g hg)).par d hd
theorem Ase:uB (l.map gnK):=⟨by rw[List.length_map];exact hl.1,fun g hg=>by
  obtain⟨x,hx,rfl⟩:=List.mem_map.1 hg
  exact(LH hN (hl.2 x hx)).okK⟩
theorem Akr:DZ (l.map gnK)=DZ l:=by
  unfold DZ
  rw[List.map_map]
  congr 1
  exact List.map_congr_left fun g hg=>by show Sp.elem _ _=Sp.elem _ _;rw[(LH hN (hl.2 g hg)).Ali]
theorem Aah:KU N l=some 0:=by
  have h2:=hl.1
  unfold KU
  try simp only[clR]
  refine Fp (fun i=>(i:Int)) l.length _ ?_ ?_ N (by omega)
  ·intro i hi k
   have h:=(LH hN (hl.2 _ (getD_mem (0,[],[]) hi))).chk
   simp (disch:=first | assumption | omega) only[D8,h,Em]
   try rfl
  ·intro k
   simp (disch:=first | assumption | omega) only[D8]
theorem tZ:JZ N l=some 0:=by
  have h2:=hl.1
  unfold JZ
  try simp only[clR]
  simp (disch:=first | assumption | omega) only[D8]
  refine Fp (fun i=>(i:Int)) l.length _ ?_ ?_ N (by omega)
  ·intro i hi k
   have h:=(LH hN (hl.2 _ (getD_mem (0,[],[]) hi))).Ap4
   simp (disch:=first | assumption | omega) only[D8,h,Em]
   try rfl
  ·intro k
   simp (disch:=first | assumption | omega) only[D8]
theorem zW (h0:l≠ []):Hg N l=some (DZ l,0):=by
  have h2:=hl.1
  have hp:=List.length_pos_iff.2 h0
  have hb:=IZ hN hl
  unfold DZ at hb
  unfold Hg Qy
  try simp only[clR]
  simp (disch:=first | assumption | omega) only[D8]
  refine(XI (mk:=fun i t=>(t,(i:Int))) l (0,[],[]) Fz (fun t=>some (t,0)) ?_ ?_ N (by omega)).trans rfl
  ·intro i t hi ht k
   have h:=(LH hN (hl.2 _ (getD_mem (0,[],[]) hi))).enc
   simp (disch:=first | assumption | omega) only[D8,h,Em]
   try rfl
  ·intro t k
   simp (disch:=first | assumption | omega) only[D8]
theorem SY (h0:l≠ []):JW N l=some (DZ l,0):=by
  have h2:=hl.1
  have hp:=List.length_pos_iff.2 h0
  have hb:=IZ hN hl
  unfold DZ at hb
  unfold JW
  try simp only[clR]
  simp (disch:=first | assumption | omega) only[D8]
  refine(XI (mk:=fun i t=>(t,(i:Int))) l (0,[],[]) Fz (fun t=>some (t,0)) ?_ ?_ N (by omega)).trans rfl
  ·intro i t hi ht k
   have h:=(LH hN (hl.2 _ (getD_mem (0,[],[]) hi))).YX
   simp (disch:=first | assumption | omega) only[D8,h,Em]
   try rfl
  ·intro t k
   simp (disch:=first | assumption | omega) only[D8]
theorem Vd (h0:l≠ []):Fj N (DZ l)=some (l.map gnK,0):=by
  have h2:=hl.1
  have hp:=List.length_pos_iff.2 h0
  have hb:=IZ hN hl
  have h3:=(AaR hN hl (d:=0) (by omega)).list
  have h4:=JE N (DZ l) (by omega) (by omega) (by omega)
  rw[h3]at h4
  have hlm:(l.map aY).length=l.length:=List.length_map _
  unfold Fj Qy
  try simp only[clR]
  simp (disch:=first | assumption | omega) only[D8,h4,hlm]
  refine(OM (mk:=fun i acc=>((i:Int),acc)) (l.map aY) (0,[],[]) (fun e=>((JL N e false).getD default).1) (fun acc=>some (acc,0)) ?_ ?_ N (by omega)).trans ?_
  ·intro i acc hi ha k
   rw[hlm]at hi
   have hr:=(LH hN (hl.2 _ (getD_mem (0,[],[]) hi))).dec
   have hg:(l.map aY).getD i (0,[],[])=aY (l.getD i (0,[],[])):=by
     rw[getD_lt _ _ _ (by rw[hlm];exact hi),List.getElem_map,getD_lt l i _ hi]
   simp (disch:=first | assumption | omega) only[D8,hg,hlm,hr,Em,Option.getD_some]
   try rfl
  ·intro acc k ha
   simp (disch:=first | assumption | omega) only[D8,hlm]
  ·rw[List.map_map]
   congr 2
   exact List.map_congr_left fun g hg=>by show((JL N (aY g) false).getD default).1=_;rw[(LH hN (hl.2 g hg)).dec];rfl
end
end Go.Proofs.YtbaomhegdndpnaaGreatDoor.Pl
namespace Go.Proofs.YtbaomhegdndpnaaGreatDoor.Pl
open IntKind (i64)
open Go Vm
def inB (n:Int):Bs:=(Jk 300 n).getD []
def ArU (M:Nat) (n:Nat):Bool:=Jk (M+300) (n:Int)==some (inB n)&&(Nk (M+300) (n:Int)==some (inB n)&&(JU (M+300) (inB n)==some ((n:Int),0)&&decide ((inB n).length<=2)))
theorem AqT (M:Nat):(List.range 256).all (ArU M)=true:=by kernel_rfl
structure ApZ (N:Nat) (n:Int):Prop where
  put:Jk N n=some (inB n)
  Amj:Nk N n=some (inB n)
  int:JU N (inB n)=some (n,0)
  len:(inB n).length<=2
theorem JP {N:Nat} (hN:1048578<N) {n:Int} (h0:0<=n) (h1:n<256):ApZ N n:=by
  obtain⟨M,rfl⟩:=ofM hN
  obtain⟨k,rfl⟩: ∃ k:Nat,n=k:=⟨n.toNat,by omega⟩
  have h:=List.all_eq_true.1 (AqT M) k (List.mem_range.2 (by omega))
  unfold ArU at h
  simp only[Bool.and_eq_true,beq_iff_eq,decide_eq_true_eq]at h
  obtain⟨h1,h2,h3,h4⟩:=h
  exact⟨h1,h2,h3,h4⟩
def FT (t:Nat) (n:Int):Bs:=Sp.elem t (inB n)
def Aes (t:Nat) (n:Int):El:=DT t (inB n)
theorem UC {N:Nat} {n:Int} (h:ApZ N n) {t:Nat} (ht:t<256) (h31:t % 32≠31):Fine (t,inB n):=⟨ht,h31,by have:=h.len;show(inB n).length<=_;omega⟩
def MH:List Int:=[0,1000,2000000000,3155759999,3155760000,254033452799,2400000000]
def H6 (t:Int):Bs:=((FW 300 t).getD default).1
def Kq (t:Int):Nat×Bs:=(((H6 t).headD 0).toNat,(H6 t).drop 2)
def wQ (t:Int):El:=DT (Kq t).1 (Kq t).2
def As7 (M:Nat) (t:Int):Bool:=FW (M+300) t==some (H6 t,0)&&(FU (M+300) t==some (H6 t,0)&&(NJ (M+300) ((Kq t).1:Int) (Kq t).2==some (t,0)&&(H6 t==Sp.elem (Kq t).1 (Kq t).2 &&
  (decide ((Kq t).1<256)&&(decide ((Kq t).1 % 32≠31)&&(decide ((Kq t).2.length<=20)&&(!Sp.cons (Kq t).1&&(decide (0<=t)&&(decide (t<=254033452799)&& !((Kq t).1==48))))))))))
theorem ApP (M:Nat):MH.all (As7 M)=true:=by kernel_rfl
structure Ak9 (N:Nat) (t:Int):Prop where
  enc:FW N t=some (H6 t,0)
  YX:FU N t=some (H6 t,0)
  dec:NJ N ((Kq t).1:Int) (Kq t).2=some (t,0)
  eq:H6 t=Sp.elem (Kq t).1 (Kq t).2
  fine:Fine (Kq t)
  len:(Kq t).2.length<=20
  Asm:Sp.cons (Kq t).1=false
  p0:0<=t
  p1:t<=254033452799
  n48:(Kq t).1≠48
theorem FM {N:Nat} (hN:1048578<N) {t:Int} (h:t∈MH):Ak9 N t:=by
  obtain⟨M,rfl⟩:=ofM hN
  have h:=List.all_eq_true.1 (ApP M) t h
  unfold As7 at h
  simp only[Bool.and_eq_true,beq_iff_eq,decide_eq_true_eq,Bool.not_eq_true',beq_eq_false_iff_ne]at h
  obtain⟨h1,h2,h3,h4,h5,h6,h7,h8,h9,h10,h11⟩:=h
  exact⟨h1,h2,h3,h4,⟨h5,h6,by omega⟩,h7,h8,h9,h10,h11⟩
theorem Zc {N:Nat} {t:Int} (h:Ak9 N t):(H6 t).length<=25:=by
  have:=h.len
  have:=Sp.DD (Kq t).1 (Kq t).2
  rw[h.eq];omega
theorem Afe {N:Nat} {t:Int} (h:Ak9 N t) {d:Nat} (hd:d<16):Par d (H6 t) [wQ t]:=by
  rw[h.eq];exact L6 h.fine hd h.Asm
def Y1:List Bs:=[[50,46,53,46,50,57,46,50,49],[50,46,53,46,50,57,46,50,52],[50,46,53,46,50,57,46,50,57],[50,46,53,46,50,57,46,51,53],[50,46,53,46,50,57,46,50,48],[50,46,53,46,50,57,46,50,55],[50,46,53,46,50,57,46,50,56],[50,46,53,46,50,57,46,52,54]]
def idT (s:Bs):Bs:=((Nb 300 s).getD default).1
def idQ (M:Nat) (s:Bs):Bool:=VG (M+300) s==some true&&(MB (M+300) s==some true&&(Nb (M+300) s==some (idT s,0)&&(RN (M+300) s==some (Sp.elem 6 (idT s))&&(PM (M+300) (idT s)==some (s,0)&&decide ((idT s).length<=10)))))
theorem ArS (M:Nat):Y1.all (idQ M)=true:=by kernel_rfl
structure Atl (N:Nat) (s:Bs):Prop where
  val:VG N s=some true
  At4:MB N s=some true
  enc:Nb N s=some (idT s,0)
  YX:RN N s=some (Sp.elem 6 (idT s))
  dec:PM N (idT s)=some (s,0)
  len:(idT s).length<=10
theorem jU {N:Nat} (hN:1048578<N) {s:Bs} (h:s∈Y1):Atl N s:=by
  obtain⟨M,rfl⟩:=ofM hN
  have h:=List.all_eq_true.1 (ArS M) s h
  unfold idQ at h
  simp only[Bool.and_eq_true,beq_iff_eq,decide_eq_true_eq]at h
  obtain⟨h1,h2,h3,h4,h5,h6⟩:=h
  exact⟨h1,h2,h3,h4,h5,h6⟩
def Abz:List Int:=[2,64,384,510]
def flB (n:Int):Bs:=((Iq 300 n).getD default).1
def Asw (M:Nat) (r:Int):Bool:=Iq (M+300) r==some (flB r,0)&&(PO (M+300) r==some (flB r,0)&&(Nh (M+300) (flB r)==some (r,0)&&(decide ((flB r).length<=5)&&(D9 .andNot .i64 r 510==0&& !(r==0)))))
theorem Ari (M:Nat):Abz.all (Asw M)=true:=by kernel_rfl
structure AsP (N:Nat) (r:Int):Prop where
  put:Iq N r=some (flB r,0)
  Amj:PO N r=some (flB r,0)
  get:Nh N (flB r)=some (r,0)
  len:(flB r).length<=5
  mask:D9 .andNot .i64 r 510=0
  ne:r≠0
theorem MG {N:Nat} (hN:1048578<N) {r:Int} (h:r∈Abz):AsP N r:=by
  obtain⟨M,rfl⟩:=ofM hN
  have h:=List.all_eq_true.1 (Ari M) r h
  unfold Asw at h
  simp only[Bool.and_eq_true,beq_iff_eq,decide_eq_true_eq,Bool.not_eq_true',beq_eq_false_iff_ne]at h
  obtain⟨h1,h2,h3,h4,h5,h6⟩:=h
  exact⟨h1,h2,h3,h4,h5,h6⟩
theorem AsY:D9 .andNot .i64 0 510=0:=by kernel_rfl
def okR (r:Int):Prop:=r=0\/r∈Abz
def flT (t:Nat) (r:Int):Bs:=bif r != 0 then Sp.elem t (flB r)else []
def flE (t:Nat) (r:Int):List El:=bif r != 0 then [DT t (flB r)]else []
theorem kM {r:Int} (h:okR r):D9 .andNot .i64 r 510=0:=by
  rcases h with rfl | h
  ·exact AsY
  ·exact(MG (N:=1048579) (by omega) h).mask
theorem Akv {r:Int} (h:okR r) (t:Nat):(flT t r).length<=10:=by
  rcases h with rfl | h
  ·exact Nat.zero_le _
  ·have R:=MG (N:=1048579) (by omega) h
   have:=R.len
   have:=Sp.DD t (flB r)
   unfold flT
   rw[Sj R.ne,cond_true];omega
theorem Ann {r:Int} (h:okR r) {t d:Nat} (ht:t<256) (h31:t % 32≠31) (hd:d<16) (hc:Sp.cons t=false):Par d (flT t r) (flE t r):=UK _ fun hr=>by
  rcases h with rfl | h
  ·cases hr
  ·exact L6 ⟨ht,h31,by have:=(MG (N:=1048579) (by omega) h).len;show(flB r).length<=_;omega⟩ hd hc
abbrev Pt:Type:=List Gn×Int×Bool×List (List Att)
structure okP (p:Pt):Prop where
  nm: ∃ g,okG g/\p.1=[g]
  re:okR p.2.1
  is:(p.2.2.1=false/\p.2.2.2=[])\/(p.2.2.1=true/\okN p.2.2.2/\p.2.2.2≠ [])
def ptK (p:Pt):Pt:=(p.1.map gnK,p.2.1,p.2.2.1,nmC p.2.2.2)
def piT (p:Pt):Bs:=bif p.2.2.1 then Sp.elem 162 (Fz (4,[],p.2.2.2))else []
def ptC (p:Pt):Bs:=Sp.elem 160 (Sp.elem 160 (DZ p.1))++(flT 129 p.2.1++piT p)
def ptB (p:Pt):Bs:=Sp.elem 48 (ptC p)
def ptE (p:Pt):El:=DT 48 (ptC p)
theorem gs1 {g:Gn} (h:okG g):uB [g]:=⟨by simp,fun x hx=>by rw[List.mem_singleton.1 hx];exact h⟩
structure PtM (N:Nat) (p:Pt):Prop where
  chk:KW N p=some 0
  len:(ptC p).length<=2000
  els:SX (ptC p)=(DT 160 (Sp.elem 160 (DZ p.1))::(flE 129 p.2.1++(bif p.2.2.1 then [DT 162 (Fz (4,[],p.2.2.2))]else [])),0)
  par: ∀ d,d<=2->Par d (ptB p) [ptE p]
  okK:okP (ptK p)
  Ali:ptB (ptK p)=ptB p
  dec:Kr N (DT 160 (Sp.elem 160 (DZ p.1))::(flE 129 p.2.1++(bif p.2.2.1 then [DT 162 (Fz (4,[],p.2.2.2))]else [])))=some (ptK p,0,[])
section
variable {N:Nat} (hN:1048578<N)
include hN
theorem ZR {p:Pt} (h:okP p):PtM N p:=by
  obtain⟨gs,r,b,n⟩:=p
  obtain⟨⟨g,hg,hgs⟩,hr,hi⟩:=h
  dsimp only at hgs hr hi
  subst hgs
  have h1:=gs1 hg
  have hl:=IZ hN h1
  have hm:=kM hr
  have ck:=Aah hN h1
  have l1: [g].length=1:=rfl
  have hfl:=Akv hr 129
  have e1:=Sp.DD 160 (DZ [g])
  have e2:=Sp.DD 160 (Sp.elem 160 (DZ [g]))
  have hpi:(piT ([g],r,b,n)).length<=640:=by
    unfold piT
    rcases hi with ⟨rfl,_⟩ | ⟨rfl,hn,_⟩
    ·exact Nat.zero_le _
    ·have:=OC hN (Or.inr ⟨n,hn,rfl⟩:okG (4,[],n))
     have:=Sp.DD 162 (Fz (4,[],n))
     show(Sp.elem 162 (Fz (4,[],n))).length<=_
     omega
  have hlen:(ptC ([g],r,b,n)).length<=2000:=by
    unfold ptC
    rw[List.length_append,List.length_append];dsimp only;omega
  have hpar: ∀ d,d<=3->Par d (ptC ([g],r,b,n)) (DT 160 (Sp.elem 160 (DZ [g]))::(flE 129 r++(bif b then [DT 162 (Fz (4,[],n))]else []))):=by
    intro d hd
    show Par d (Sp.elem 160 (Sp.elem 160 (DZ [g]))++(flT 129 r++piT ([g],r,b,n))) _
    refine Gs (es:=[_]) (GH (Hy (by decide) (by decide) (by omega)) (by omega) (GH (t:=160) (Hy (by decide) (by decide) (by omega)) (by omega) (AaR hN h1 (by omega)).nest).nest) (Gs (Ann hr (by decide) (by decide) (by omega) (by decide)) ?_)
    show Par d (bif b then Sp.elem 162 (Fz (4,[],n))else []) _
    refine UK b fun hb=> ?_
    rcases hi with ⟨rfl,_⟩ | ⟨rfl,hn,_⟩
    ·cases hb
    ·have hd4:okG (4,[],n):=Or.inr ⟨n,hn,rfl⟩
     exact GH (Hy (by decide) (by decide) (by have:=OC hN hd4;omega)) (by omega) ((LH hN hd4).par _ (by omega)).nest
  have hf:Fine (48,ptC ([g],r,b,n)):=(Hy (by decide) (by decide) (by omega))
  have hK:DZ ([g].map gnK)=DZ [g]:=Akr hN h1
  have hls:=(Vd hN h1 (by simp))
  have o160:Gj N (Sp.elem 160 (DZ [g])) 160=some (DT 160 (DZ [g]),0):=by
    rw[SC N _ 160 hN (by omega)]
    exact congrArg some (RD 160 (DZ [g]) (by decide) (by decide) (by omega))
  refine⟨?_,hlen,(hpar 0 (by omega)).list,fun d hd=>GH hf (by omega) (hpar _ (by omega)).nest,?_,?_,?_⟩
  ·unfold KW
   try simp only[clR]
   rcases hi with ⟨rfl,rfl⟩ | ⟨rfl,hn,hne⟩
   ·simp (disch:=first | assumption | omega) only[D8,hm,ck,l1,List.length_nil]
    try rfl
   ·have hpos:=List.length_pos_iff.2 hne
    have hc:=Na hN hn
    simp (disch:=first | assumption | omega) only[D8,hm,ck,l1,hc]
    try rfl
  ·refine⟨⟨gnK g,(LH hN hg).okK,rfl⟩,hr,?_⟩
   rcases hi with ⟨rfl,rfl⟩ | ⟨rfl,hn,hne⟩
   ·exact Or.inl ⟨rfl,rfl⟩
   ·exact Or.inr ⟨rfl,AlW hN hn,fun h=>hne (List.map_eq_nil_iff.1 h)⟩
  ·unfold ptB ptC ptK piT
   dsimp only
   rw[hK]
   rcases hi with ⟨rfl,rfl⟩ | ⟨rfl,hn,hne⟩
   ·rfl
   ·rw[show Fz (4,[],nmC n)=Fz (4,[],n)from congrArg (fun p:Nat×Bs=>Sp.elem p.1 p.2) (LH hN (Or.inr ⟨n,hn,rfl⟩:okG (4,[],n))).Ali]
  ·have hflE:flE 129 r=[]/\r=0\/flE 129 r=[DT 129 (flB r)]/\r∈Abz:=by
     rcases hr with rfl | hr
     ·exact Or.inl ⟨rfl,rfl⟩
     ·refine Or.inr ⟨?_,hr⟩
      unfold flE
      rw[Sj (MG hN hr).ne];rfl
   have hI:b=false/\n=[]\/b=true/\Fj N (Fz (4,[],n))=some ([(4,[],nmC n)],0):=by
     rcases hi with h | ⟨h,hn,_⟩
     ·exact Or.inl h
     ·refine Or.inr ⟨h,?_⟩
      have:=Vd hN (gs1 (Or.inr ⟨n,hn,rfl⟩:okG (4,[],n))) (by simp)
      rwa [show DZ [((4:Int),([]:Bs),n)]=Fz (4,[],n)from List.append_nil _]at this
   unfold Kr
   try simp only[clR]
   rcases hflE with ⟨h1,h2⟩ | ⟨h1,h2⟩<;>rcases hI with ⟨rfl,rfl⟩ | ⟨rfl,h3⟩
   ·rw[h1]
    subst h2
    simp (disch:=first | assumption | omega) only[D8,RY,AhW,Al2,Al3,el1,el2,el3,List.cons_append,List.nil_append,o160,hls,NH]
    try rfl
   ·rw[h1]
    subst h2
    simp (disch:=first | assumption | omega) only[D8,RY,AhW,Al2,Al3,el1,el2,el3,List.cons_append,List.nil_append,o160,hls,NH,h3]
    try rfl
   ·have hg:=(MG hN h2).get
    have hne:=(MG hN h2).ne
    rw[h1]
    simp (disch:=first | assumption | omega) only[D8,RY,AhW,Al2,Al3,el1,el2,el3,List.cons_append,List.nil_append,o160,hls,NH,hg]
    try rfl
   ·have hg:=(MG hN h2).get
    have hne:=(MG hN h2).ne
    rw[h1]
    simp (disch:=first | assumption | omega) only[D8,RY,AhW,Al2,Al3,el1,el2,el3,List.cons_append,List.nil_append,o160,hls,NH,hg,h3]
    try rfl
end
end Go.Proofs.YtbaomhegdndpnaaGreatDoor.Pl
namespace Go.Proofs.YtbaomhegdndpnaaGreatDoor.Pl
open IntKind (i64)
open Go Vm
abbrev Ex:Type:=Bs×Bool×Bs
structure OkX (x:Ex):Prop where
  id:x.1∈Y1
  chk:Sp.chk x.2.2=0
  len:x.2.2.length<=8000
structure Aoy (l:List Ex):Prop where
  ne:0<l.length
  len:l.length<=5
  all: ∀ x∈l,OkX x
  nd:l.Pairwise fun a b=>a.1≠b.1
def exC (x:Ex):Bs:=Sp.elem 6 (idT x.1)++((bif x.2.1 then Sp.elem 1 [255]else [])++Sp.elem 4 x.2.2)
def exB (x:Ex):Bs:=Sp.elem 48 (exC x)
def exE (x:Ex):El:=DT 48 (exC x)
def xsC (l:List Ex):Bs:=(l.map exB).flatten
def xsB (l:List Ex):Bs:=Sp.elem 48 (xsC l)
def zX:Ex:=([],false,[])
theorem Ah0 {α :Type} (l:List α):Dx l 1 l.length=l.drop 1:=by
  show(l.take l.length).drop 1=_
  rw[List.take_length]
section
variable {N:Nat} (hN:1048578<N) {x:Ex} (h:OkX x)
include hN h
theorem rG:(exC x).length<=x.2.2.length+23:=by
  have h1:=(jU hN h.id).len
  have h2:=Sp.DD 6 (idT x.1)
  have h3:=Sp.DD 4 x.2.2
  have h4:=h.len
  have h5:(bif x.2.1 then Sp.elem 1 [255]else []:Bs).length<=3:=by cases x.2.1<;>decide
  unfold exC
  rw[List.length_append,List.length_append];omega
theorem Anj {d:Nat} (hd:d<16):Par d (exC x) (DT 6 (idT x.1)::((bif x.2.1 then [DT 1 [255]]else [])++[DT 4 x.2.2])):=by
  have h1:=(jU hN h.id).len
  have h4:=h.len
  exact Gs (es:=[_]) (L6 (Hy (by decide) (by decide) (by omega)) hd (by decide)) (Gs (UK x.2.1 fun _=>L6 (Hy (by decide) (by decide) (by decide)) hd (by decide)) (L6 (Hy (by decide) (by decide) (by omega)) hd (by decide)))
theorem ArG:SX (exC x)=(DT 6 (idT x.1)::((bif x.2.1 then [DT 1 [255]]else [])++[DT 4 x.2.2]),0):=(Anj hN h (d:=0) (by decide)).list
theorem Ani:N7 N x=some (exB x,0):=by
  have I:=jU hN h.id
  have h1:=I.len
  have h3:=h.len
  have h4:=rG hN h
  have h5:=Sp.DD 6 (idT x.1)
  have h6:=Sp.DD 4 x.2.2
  have e1:=I.enc
  have w1:Ew N 6 [idT x.1]=_:=lX N 6 [idT x.1] (by omega) (by omega) hN (by simp) (by rw[Eb];omega)
  have w2:Ew N 4 [x.2.2]=_:=lX N 4 [x.2.2] (by omega) (by omega) hN (by simp) (by rw[Eb];omega)
  rw[Eb]at w1 w2
  unfold exB exC at *
  obtain⟨id,c,v⟩:=x
  dsimp only at *
  cases c with
  | true =>
    have w3:Ew N 1 [[255]]=some (Sp.elem 1 [255],0):=lX N 1 [[255]] (by omega) (by omega) hN (by simp) (by simp)
    have w4:Ew N 48 [Sp.elem 6 (idT id),Sp.elem 1 [255],Sp.elem 4 v]=_:=lX N 48 [Sp.elem 6 (idT id),Sp.elem 1 [255],Sp.elem 4 v] (by omega) (by omega) hN (by simp) (by rw[flat3];exact Nat.le_trans h4 (by omega))
    rw[flat3]at w4
    have p:Oj N true=some [255]:=rfl
    unfold N7
    try simp only[clR]
    simp (disch:=first | assumption | omega) only[D8,e1,w1,w2,w3,p,bne_self_eq_false,List.length_cons,List.length_nil]
    exact congrArg (fun o=>CW o _) w4
  | false =>
    have w4:Ew N 48 [Sp.elem 6 (idT id),[],Sp.elem 4 v]=_:=lX N 48 [Sp.elem 6 (idT id),[],Sp.elem 4 v] (by omega) (by omega) hN (by simp) (by rw[flat3];exact Nat.le_trans h4 (by omega))
    rw[flat3]at w4
    unfold N7
    try simp only[clR]
    simp (disch:=first | assumption | omega) only[D8,e1,w1,w2,bne_self_eq_false,List.length_cons,List.length_nil]
    exact congrArg (fun o=>CW o _) w4
theorem Afv:Js N (exE x)=some (x,0):=by
  have h4:=rG hN h
  have h3:=h.len
  have hl:=JE N (exC x) (by omega) (by omega) (by omega)
  rw[ArG hN h]at hl
  have I:=(jU hN h.id).dec
  obtain⟨id,c,v⟩:=x
  dsimp only at *
  unfold Js exE
  try simp only[clR]
  rw[show(DT 48 (exC (id,c,v))).1=48 from rfl,show(DT 48 (exC (id,c,v))).2.1=exC (id,c,v)from rfl]
  cases c with
  | true =>
    simp (disch:=first | assumption | omega) only[D8,hl,el1,el2,el3,bne_self_eq_false,List.length_cons,List.length_nil,List.getD_cons_zero,Ah0,List.drop_succ_cons,List.drop_zero,List.cons_append,List.nil_append,I]
    try rfl
  | false =>
    simp (disch:=first | assumption | omega) only[D8,hl,el1,el2,el3,bne_self_eq_false,List.length_cons,List.length_nil,List.getD_cons_zero,Ah0,List.drop_succ_cons,List.drop_zero,List.cons_append,List.nil_append,I]
    try rfl
theorem ArH:VV N x.2.2=some 0:=by
  have:=h.len
  rw[AiT N _ (by omega) (by omega) (by omega),h.chk]
theorem AqC:Q8 N x.2.2=some 0:=by
  have:=h.len
  rw[AeJ N _ (by omega) (by omega) (by omega),h.chk]
end
theorem AnE {β :Type} (k:Bs): ∀(m:List (Bs× β)),(∀ p∈m,k≠p.1)->MZ (.str .nil) k m=none:=by
  intro m
  induction m with
  | nil=>intro _;rfl
  | cons p m ih =>
    intro h
    have h1:(Ty.str .nil).same k p.1=false:=by
      show((k==p.1)&&true)=false
      rw[beq_false_of_ne (h p List.mem_cons_self)];rfl
    show(bif (Ty.str .nil).same k p.1 then some p.2 else MZ (.str .nil) k m)=none
    rw[h1,cond_false]
    exact ih fun q hq=>h q (List.mem_cons_of_mem _ hq)
theorem AnG {β :Type} (k:Bs) (v: β): ∀(m:List (Bs× β)),(∀ p∈m,k≠p.1)->UH (.str .nil) k v m=m++[(k,v)]:=by
  intro m
  induction m with
  | nil=>intro _;rfl
  | cons p m ih =>
    intro h
    have h1:(Ty.str .nil).same k p.1=false:=by
      show((k==p.1)&&true)=false
      rw[beq_false_of_ne (h p List.mem_cons_self)];rfl
    show(bif (Ty.str .nil).same k p.1 then(p.1,v)::m else p::UH (.str .nil) k v m)=_
    rw[h1,cond_false,ih fun q hq=>h q (List.mem_cons_of_mem _ hq)];rfl
theorem AqW {β :Type} (k:Bs) (v: β) (t:List (Bs× β)): ∀(m:List (Bs× β)),(∀ p∈m,k≠p.1)->MZ (.str .nil) k (m++(k,v)::t)=some v:=by
  intro m
  induction m with
  | nil =>
    intro _
    show(bif ((k==k)&&true)then some v else _)=_
    rw[beq_self_eq_true];rfl
  | cons p m ih =>
    intro h
    have h1:(Ty.str .nil).same k p.1=false:=by
      show((k==p.1)&&true)=false
      rw[beq_false_of_ne (h p List.mem_cons_self)];rfl
    show(bif (Ty.str .nil).same k p.1 then some p.2 else MZ (.str .nil) k (m++(k,v)::t))=_
    rw[h1,cond_false]
    exact ih fun q hq=>h q (List.mem_cons_of_mem _ hq)
def SS (l:List Ex) (n:Nat):List (Bs×Int):=(List.range n).map fun i=>((l.getD i zX).1,(i:Int))
section
variable {l:List Ex} (h:Aoy l)
include h
theorem Aqv {i j:Nat} (hi:i<j) (hj:j<l.length):(l.getD i zX).1≠(l.getD j zX).1:=by
  rw[getD_lt l i zX (by omega),getD_lt l j zX hj]
  exact List.pairwise_iff_getElem.1 h.nd i j (by omega) hj hi
theorem Aeq {n:Nat} (hn:n<l.length): ∀ p∈SS l n,(l.getD n zX).1≠p.1:=by
  intro p hp
  obtain⟨i,hi,rfl⟩:=List.mem_map.1 hp
  exact(Aqv h (List.mem_range.1 hi) hn).symm
theorem AqR {n:Nat} (hn:n<l.length):MZ (.str .nil) (l.getD n zX).1 (SS l l.length)=some (n:Int):=by
  have e:SS l l.length=SS l n++((l.getD n zX).1,(n:Int))::(List.range (l.length - (n+1))).map fun i=>((l.getD (n+1+i) zX).1,((n+1+i:Nat):Int)):=by
    unfold SS
    obtain⟨k,hk⟩: ∃ k,l.length=n+1+k:=⟨l.length - (n+1),by omega⟩
    rw[hk,show n+1+k - (n+1)=k by omega,List.range_add,List.map_append,List.range_succ,List.map_append,List.map_map,List.append_assoc]
    rfl
  rw[e]
  exact AqW _ _ _ _ (Aeq h hn)
variable {N:Nat} (hN:1048578<N)
include hN
theorem AhH:ZE N l=some (SS l l.length):=by
  have hl:=h.len
  unfold ZE
  try simp only[clR]
  refine(Fp (fun i=>((i:Int),SS l i)) l.length (some (SS l l.length)) ?_ ?_ N (by omega)).trans rfl
  ·intro i hlt k
   have e1:=AnE (β :=Int) (l.getD i zX).1 (SS l i) (Aeq h hlt)
   have e2:=AnG (l.getD i zX).1 (i:Int) (SS l i) (Aeq h hlt)
   have e3:SS l i++[((l.getD i zX).1,(i:Int))]=SS l (i+1):=by unfold SS;rw[List.range_succ,List.map_append];rfl
   unfold zX at e1 e2 e3
   simp (disch:=first | assumption | omega) only[D8,e1,e2,e3,Em,Option.isSome_none]
  ·intro k
   simp (disch:=first | assumption | omega) only[D8]
theorem AiY:Rw N l=some 0:=by
  have hl:=h.len
  have h0:=h.ne
  have hi:=AhH h hN
  unfold Rw
  try simp only[clR]
  simp (disch:=first | assumption | omega) only[D8,hi]
  refine Fp (fun i=>((i:Int),SS l l.length)) l.length _ ?_ ?_ N (by omega)
  ·intro i hlt k
   have hx:=h.all _ (getD_mem zX hlt)
   have e1:=AqR h hlt
   have e2:=ArH hN hx
   have e3:=(jU hN hx.id).val
   unfold zX at *
   simp (disch:=first | assumption | omega) only[D8,e1,e2,e3,Em,Option.getD_some]
   try rfl
  ·intro k
   simp (disch:=first | assumption | omega) only[D8]
theorem Ak2 {m:Nat} (hm: ∀ x∈l,x.2.2.length<=m):(xsC l).length<=(m+28)*l.length :=
  NL (g:=exB) (M:=m+28) (l:=l) fun x hx=>by
   have:=rG hN (h.all x hx)
   have:=Sp.DD 48 (exC x)
   have:=hm x hx
   unfold exB;omega
theorem xs_len:(xsC l).length<=40140:=by
  have:=Ak2 h hN (m:=8000) fun x hx=>(h.all x hx).len
  have:=h.len
  omega
theorem AiZ {d:Nat} (hd:d<15):Par d (xsC l) (l.map exE):=XP fun x hx=>by
  have hx:=h.all x hx
  have h4:=rG hN hx
  have h5:=hx.len
  exact GH (Hy (by decide) (by decide) (by omega)) (by omega) (Anj hN hx (by omega)).nest
theorem Ak1:Fine (48,xsC l):=(Hy (by decide) (by decide) (by have:=xs_len h hN;omega))
theorem AfJ:KZ N l=some (xsB l,0):=by
  have hl:=h.len
  have hb:=xs_len h hN
  unfold KZ
  try simp only[clR]
  rw[AiY h hN,CY,show((0:Int) != 0)=false from rfl,cond_false]
  refine(OM (mk:=fun i a=>((i:Int),a)) l zX exB (fun a=>CW (Ew N 48 a) fun r=>bif r.2 != 0 then some ([],2)else some (r.1,0)) ?_ ?_ N (by omega)).trans ?_
  ·intro i a hlt ha k
   have e1:=Ani hN (h.all _ (getD_mem zX hlt))
   unfold zX at *
   simp (disch:=first | assumption | omega) only[D8,e1,Em]
   try rfl
  ·intro a k ha
   simp (disch:=first | assumption | omega) only[D8]
  ·have w:Ew N 48 (l.map exB)=_:=lX N 48 (l.map exB) (by omega) (by omega) hN (by rw[List.length_map];omega) (by unfold xsC at hb;omega)
   rw[w,CY];rfl
theorem Ad4:Fq N l=some (xsB l,0):=by
  have hl:=h.len
  have h0:=h.ne
  have hb:=xs_len h hN
  have hce:Om N l=some 0:=by
    unfold Om
    try simp only[clR]
    refine Fp (fun i=>(i:Int)) l.length (some 0) ?_ ?_ N (by omega)
    ·intro i hlt k
     have hx:=h.all _ (getD_mem zX hlt)
     have e2:=AqC hN hx
     have e3:=(jU hN hx.id).At4
     have e4:XA N (l.take i) (l.getD i zX).1=some (([],false,[]),false):=by
       unfold XA
       try simp only[clR]
       have hlt':(l.take i).length=i:=by rw[List.length_take];omega
       refine Fp (fun j=>(j:Int)) (l.take i).length _ ?_ ?_ N (by omega)
       ·intro j hj k
        rw[hlt']at hj
        have hne:=Aqv h hj hlt
        have e5:((l.getD j zX).1==(l.getD i zX).1)=false:=beq_false_of_ne hne
        have e6:=AfH l zX hj
        unfold zX at *
        simp (disch:=first | assumption | omega) only[D8,hlt',e6,e5,Em]
       ·intro k
        simp (disch:=first | assumption | omega) only[D8,hlt']
     unfold zX at *
     simp (disch:=first | assumption | omega) only[D8,Afs,e2,e3,e4,Em]
     try rfl
    ·intro k
     simp (disch:=first | assumption | omega) only[D8]
  have hc:Jn N l=some 0:=by
    unfold Jn
    rw[JJ (by omega),cond_false,Ace (by omega),cond_false,hce];rfl
  unfold Fq
  try simp only[clR]
  rw[hc,CY,show((0:Int) != 0)=false from rfl,cond_false]
  refine(XI (mk:=fun i t=>(t,(i:Int))) l zX exB (fun t=>CW (ED N 48 [t]) fun r=>some (r.1,r.2)) ?_ ?_ N (by omega)).trans ?_
  ·intro i t hlt ht k
   have hx:=h.all _ (getD_mem zX hlt)
   have I:=jU hN hx.id
   have h1:=I.len
   have e1:=I.YX
   have h3:=hx.len
   have h4:=rG hN hx
   dsimp only[U2]
   rw[Int.toNat_natCast]
   unfold xsC at hb
   unfold zX at *
   generalize l.getD i ([],false,[])=x at *
   have ht:=Nat.le_trans ht hb
   unfold exB exC at ht ⊢
   unfold exC at h4
   obtain⟨id,c,v⟩:=x
   dsimp only at *
   have w2:ED N 4 [v]=_:=cO N 4 [v] (by omega) (by omega) hN (by simp) (by rw[Eb];omega)
   rw[Eb]at w2
   cases c with
   | true =>
     have w3:DL N 1 [[255]]=some (Sp.elem 1 [255]):=Nu N 1 [[255]] (by omega) (by omega) hN (by simp) (by simp)
     have w4:ED N 48 [Sp.elem 6 (idT id),Sp.elem 1 [255],Sp.elem 4 v]=_:=cO N 48 [Sp.elem 6 (idT id),Sp.elem 1 [255],Sp.elem 4 v] (by omega) (by omega) hN (by simp) (by rw[flat3];exact Nat.le_trans h4 (by omega))
     rw[flat3]at w4
     have p:Nj N true=some [255]:=rfl
     dsimp only[cond_true]at ht ⊢
     simp (disch:=first | assumption | omega) only[D8,e1,w2,w3,w4,p,Em,bne_self_eq_false]
     try rfl
   | false =>
     have w4:ED N 48 [Sp.elem 6 (idT id),[],Sp.elem 4 v]=_:=cO N 48 [Sp.elem 6 (idT id),[],Sp.elem 4 v] (by omega) (by omega) hN (by simp) (by rw[flat3];exact Nat.le_trans h4 (by omega))
     rw[flat3]at w4
     dsimp only[cond_false]at ht ⊢
     simp (disch:=first | assumption | omega) only[D8,e1,w2,w4,Em,bne_self_eq_false]
     try rfl
  ·intro t k
   simp (disch:=first | assumption | omega) only[D8]
  ·have w:ED N 48 [(l.map exB).flatten]=_:=cO N 48 [(l.map exB).flatten] (by omega) (by omega) hN (by simp) (by rw[Eb];unfold xsC at hb;omega)
   rw[w,CY,Eb];rfl
theorem AfI:SK N (xsB l)=some (l,0):=by
  have hl:=h.len
  have hb:=xs_len h hN
  have hB:=Sp.DD 48 (xsC l)
  have h1:=kN 48 (xsC l) (by decide) (by decide) (by omega)
  have h2:=(AiZ h hN (d:=0) (by decide)).list
  have h4:=JE N (xsC l) (by omega) (by omega) (by omega)
  rw[h2]at h4
  have hlm:(l.map exE).length=l.length:=List.length_map _
  have h5:PU N (xsB l)=some (DT 48 (xsC l),0):=by
    rw[Uj N _ (by omega) (by unfold xsB;omega)]
    exact congrArg some h1
  unfold SK
  try simp only[clR]
  rw[h5,CY]
  dsimp only[DT]
  simp (disch:=first | assumption | omega) only[D8,h4]
  refine(OM (mk:=fun i acc=>((i:Int),acc)) (l.map exE) (0,[],[]) (fun e=>((Js N e).getD default).1) (fun acc=>CW (Rw N acc) fun r=>bif r != 0 then some ([],r)else some (acc,0)) ?_ ?_ N (by omega)).trans ?_
  ·intro i acc hi ha k
   rw[hlm]at hi
   have hr:=Afv hN (h.all _ (getD_mem zX hi))
   have hg:(l.map exE).getD i (0,[],[])=exE (l.getD i zX):=by
     rw[getD_lt _ _ _ (by rw[hlm];exact hi),List.getElem_map,getD_lt l i zX hi]
   simp (disch:=first | assumption | omega) only[D8,hg,hlm,hr,Em,Option.getD_some]
   try rfl
  ·intro acc k ha
   simp (disch:=first | assumption | omega) only[D8,hlm]
  ·have e:(l.map exE).map (fun e=>((Js N e).getD default).1)=l:=by
     rw[List.map_map]
     refine(List.map_congr_left fun x hx=> ?_).trans (List.map_id l)
     show((Js N (exE x)).getD default).1=_
     rw[Afv hN (h.all x hx)];rfl
   rw[e,AiY h hN];rfl
end
end Go.Proofs.YtbaomhegdndpnaaGreatDoor.Pl
namespace Go.Proofs.YtbaomhegdndpnaaGreatDoor.Pl
open IntKind (i64)
open Go Vm
def aut (k:Nat):List (List Att):=(Ef 300 (k:Int)).getD []
def ArA (M k:Nat):Bool:=Ef (M+300) (k:Int)==some (aut k)&&(decide ((aut k).length<=3)&&((aut k).all (fun r=>GY.contains r)&&(!(aut k).isEmpty&&(nmC (aut k)==aut k&&(List.range 16).all fun j=>JD (M+300) (aut k) (aut j)==some (k % 8==j % 8)&&EP (M+300) (aut k) (aut j)==some (k % 8==j % 8)))))
theorem Aq2 (M:Nat):(List.range 16).all (ArA M)=true:=by kernel_rfl
structure ApY (N k:Nat):Prop where
  made:Ef N (k:Int)=some (aut k)
  ok:okN (aut k)
  ne:aut k≠ []
  C:nmC (aut k)=aut k
  mt: ∀ j,j<16->JD N (aut k) (aut j)=some (k % 8==j % 8)
  rmt: ∀ j,j<16->EP N (aut k) (aut j)=some (k % 8==j % 8)
theorem GL {N:Nat} (hN:1048578<N) {k:Nat} (h:k<16):ApY N k:=by
  obtain⟨M,rfl⟩:=ofM hN
  have h:=List.all_eq_true.1 (Aq2 M) k (List.mem_range.2 h)
  unfold ArA at h
  simp only[Bool.and_eq_true,beq_iff_eq,List.all_eq_true,decide_eq_true_eq,List.contains_iff_mem,Bool.not_eq_true',List.isEmpty_eq_false_iff,List.mem_range]at h
  obtain⟨h1,h2,h3,h4,h5,h6⟩:=h
  exact⟨h1,⟨h2,h3⟩,h4,h5,fun j hj=>(h6 j hj).1,fun j hj=>(h6 j hj).2⟩
theorem wY {N:Nat} {k:Nat} (h:ApY N k):0<(aut k).length:=List.length_pos_iff.2 h.ne
theorem Akl {N:Nat} (hN:1048578<N) {n:List (List Att)} (hn:okN n):LV N n=some n:=by
  have h3:=hn.1
  unfold LV
  try simp only[clR]
  refine(OM (mk:=fun i acc=>((i:Int),acc)) n [] id (fun l=>some l) ?_ ?_ N (by omega)).trans (by rw[List.map_id])
  ·intro i acc hi ha k
   have h:=(NG hN (hn.2 _ (getD_mem [] hi))).p2
   simp (disch:=first | assumption | omega) only[D8,Em]
   try rfl
  ·intro acc k ha
   simp (disch:=first | assumption | omega) only[D8]
abbrev En:Type:=Int×Int×Int×Int×Nat
abbrev En.k (e:En):Nat:=e.2.2.2.2
abbrev En.re (e:En):Int:=e.2.2.1
abbrev En.iv (e:En):Int:=e.2.2.2.1
abbrev Ey:Type:=Int×Int×Int×Int×List (List Att)
def enY (e:En):Ey:=(e.1,e.2.1,e.re,e.iv,aut e.k)
def reL:List Int:=[0,1,2,3,4,5,6,8,9,10]
structure OkE (base:Int) (ind:Bool) (p:Nat) (e:En):Prop where
  s0:1<=e.1
  s1:e.1<=9
  ti:e.2.1∈MH
  re:e.re∈reL
  r8:e.re=8->base≠ -1
  iv:e.iv= -1\/e.iv∈MH
  k:e.k<16
  is:ind=true\/e.k % 8=p % 8
def Yz:Bs:=[50,46,53,46,50,57,46,50,49]
def Y0:Bs:=[50,46,53,46,50,57,46,50,52]
def bF:Bs:=[50,46,53,46,50,57,46,50,57]
theorem AqK:Yz∈Y1:=by decide
theorem AqL:Y0∈Y1:=by decide
theorem AqO:bF∈Y1:=by decide
theorem L9 (N:Nat) (b:Bool) (s:Bs):DN N b s 0=some (s,b):=by rw[Akc];simp
def isB (k:Nat):Bs:=Sp.elem 48 (Fz (4,[],aut k))
def enX (e:En) (p:Nat):List Ex:=(bif e.re != 0 then [(Yz,false,FT 10 e.re)]else [])++((bif e.iv != -1 then [(Y0,false,H6 e.iv)]else [])++(bif !(e.k % 8==p % 8)then [(bF,true,isB e.k)]else []))
def enO (e:En) (p:Nat):Bs:=bif decide (((enX e p).length:Int)>0)then xsB (enX e p)else []
def enC (e:En) (p:Nat):Bs:=FT 2 e.1++(H6 e.2.1++enO e p)
def enB (e:En) (p:Nat):Bs:=Sp.elem 48 (enC e p)
def AoR (e:En) (p:Nat):List El:=Aes 2 e.1::wQ e.2.1::(bif decide (((enX e p).length:Int)>0)then [DT 48 (xsC (enX e p))]else [])
theorem kW {r:Int} (h:r∈reL):0<=r/\r<11:=by
  unfold reL at h
  simp only[List.mem_cons,List.not_mem_nil,or_false]at h
  omega
theorem PN {n:List (List Att)} (h:okN n):okG (4,[],n):=Or.inr ⟨n,h,rfl⟩
theorem AeC (n:List (List Att)):DZ [((4:Int),([]:Bs),n)]=Fz (4,[],n):=List.append_nil _
section
variable {N:Nat} (hN:1048578<N) {base:Int} {ind:Bool} {p q:Nat} {e:En} (h:OkE base ind q e)
include hN
theorem Anx {k:Nat} (hk:k<16):Sp.chk (isB k)=0/\(isB k).length<=630/\Ny N (isB k)=some (aut k,0):=by
  have A:=GL hN hk
  have hg:=PN A.ok
  have hl:=OC hN hg
  have hB:=Sp.DD 48 (Fz (4,[],aut k))
  have hf:Fine (48,Fz (4,[],aut k)):=(Hy (by decide) (by decide) (by omega))
  refine⟨Uu hf fun _=>((LH hN hg).par 1 (by omega)).nest,by unfold isB;omega,?_⟩
  have h1:Gj N (isB k) 48=some (DT 48 (Fz (4,[],aut k)),0):=by
    rw[SC N _ 48 hN (by unfold isB;omega)]
    exact congrArg some (RD 48 (Fz (4,[],aut k)) (by decide) (by decide) hf.len)
  have h2:=Vd hN (gs1 hg) (by simp)
  rw[AeC]at h2
  unfold Ny
  try simp only[clR]
  rw[h1,CY]
  dsimp only[DT]
  simp (disch:=first | assumption | omega) only[D8,h2,List.map_cons,List.map_nil,List.length_cons,List.length_nil,List.getD_cons_zero]
  unfold gnK
  rw[A.C]
  rfl
include h
theorem Anb: ∀ x∈enX e p,OkX x/\x.2.2.length<=635:=by
  intro x hx
  unfold enX at hx
  rcases List.mem_append.1 hx with hx | hx
  ·cases hb:e.re != 0 with
   | false=>rw[hb]at hx;cases hx
   | true =>
     rw[hb]at hx
     have hr:=kW h.re
     have I:=JP hN (n:=e.re) (by omega) (by omega)
     have:=I.len
     have:=Sp.DD 10 (inB e.re)
     have hl:(FT 10 e.re).length<=635:=by unfold FT;omega
     rw[List.mem_singleton.1 hx]
     exact⟨⟨AqK,Uu (UC I (by decide) (by decide)) fun h=>absurd h (by decide),by show(FT 10 e.re).length<=_;omega⟩,hl⟩
  ·rcases List.mem_append.1 hx with hx | hx
   ·cases hb:e.iv != -1 with
    | false=>rw[hb]at hx;cases hx
    | true =>
      rw[hb]at hx
      have hi:e.iv∈MH:=by
        rcases h.iv with h | h
        ·rw[h]at hb;cases hb
        ·exact h
      have T:=FM hN hi
      have:=Zc T
      have hl:(H6 e.iv).length<=635:=by omega
      rw[List.mem_singleton.1 hx]
      exact⟨⟨AqL,(by show Sp.chk (H6 e.iv)=0;rw[T.eq];exact Uu T.fine fun h=>(by rw[T.Asm]at h;cases h)),by show(H6 e.iv).length<=_;omega⟩,hl⟩
   ·cases hb: !(e.k % 8==p % 8)with
    | false=>rw[hb]at hx;cases hx
    | true =>
      rw[hb]at hx
      obtain⟨h1,h2,_⟩:=Anx hN h.k
      rw[List.mem_singleton.1 hx]
      exact⟨⟨AqO,h1,by show(isB e.k).length<=_;omega⟩,by show(isB e.k).length<=_;omega⟩
theorem eP (h0:0<(enX e p).length):Aoy (enX e p):=by
  refine⟨h0,?_,fun x hx=>(Anb hN h x hx).1,?_⟩
  ·unfold enX
   cases e.re != 0<;>cases e.iv != -1<;>cases !(e.k % 8==p % 8)<;>simp
  ·unfold enX
   cases e.re != 0<;>cases e.iv != -1<;>cases !(e.k % 8==p % 8)<;>simp [Yz,Y0,bF]
theorem Aq8:(enO e p).length<=3400:=by
  unfold enO
  cases hb:decide (((enX e p).length:Int)>0)with
  | false=>exact Nat.zero_le _
  | true =>
    have h0:0<(enX e p).length:=by have:=of_decide_eq_true hb;omega
    have X:=eP hN h h0
    have:=Ak2 X hN (m:=635) fun x hx=>(Anb hN h x hx).2
    have:=X.len
    have:=Sp.DD 48 (xsC (enX e p))
    rw[cond_true]
    unfold xsB
    omega
theorem xE:(enC e p).length<=3450:=by
  have h1:=(JP hN (n:=e.1) (by have:=h.s0;omega) (by have:=h.s1;omega)).len
  have h2:=Sp.DD 2 (inB e.1)
  have h3:=Zc (FM hN h.ti)
  have h4:=Aq8 hN h (p:=p)
  unfold enC FT
  rw[List.length_append,List.length_append];omega
theorem Aec:(enB e p).length<=3455:=by
  have:=xE hN h (p:=p)
  have:=Sp.DD 48 (enC e p)
  unfold enB;omega
theorem Aed:Fine (48,enC e p):=(Hy (by decide) (by decide) (by have:=xE hN h (p:=p);omega))
theorem Aq9:Par 3 (enO e p) (bif decide (((enX e p).length:Int)>0)then [DT 48 (xsC (enX e p))]else []):=UK (decide (((enX e p).length:Int)>0)) fun hb=>by
  have X:=eP hN h (p:=p) (by have:=of_decide_eq_true hb;omega)
  exact GH (Ak1 X hN) (by decide) (AiZ X hN (d:=4) (by decide)).nest
theorem Ah9:Par 3 (enC e p) (AoR e p) :=
  have I:=JP hN (n:=e.1) (by have:=h.s0;omega) (by have:=h.s1;omega)
  Gs (es:=[_]) (L6 (UC I (by decide) (by decide)) (by decide) (by decide)) (Gs (es:=[_]) (Afe (FM hN h.ti) (by decide)) (Aq9 hN h))
theorem Aoe (hp:p<16):SA N false (enY e) (aut p)=some (enB e p,false):=by
  have A:=GL hN h.k
  have hm:=A.mt p hp
  have T:=(FM hN h.ti).enc
  have I:=JP hN (n:=e.1) (by have:=h.s0;omega) (by have:=h.s1;omega)
  have hr:=kW h.re
  have R:=JP hN (n:=e.re) (by omega) (by omega)
  have hR:=R.put
  have hI:=I.put
  have hl:=xE hN h (p:=p)
  have hg:=(LH hN (PN A.ok)).enc
  have hgl:=OC hN (PN A.ok)
  have w10:Dw N false 10 [inB e.re]=_:=Uk N 10 false [inB e.re] (by omega) (by omega) hN (by simp) (by rw[Eb];have:=R.len;omega)
  have w2:Dw N false 2 [inB e.1]=_:=Uk N 2 false [inB e.1] (by omega) (by omega) hN (by simp) (by rw[Eb];have:=I.len;omega)
  have wI:DX N false [Fz (4,[],aut e.k)]=some (isB e.k,false):=by
    rw[Vw N false _ (by simp;omega) (by simp),Eb,Jy (by omega)];rfl
  rw[Eb]at w10 w2
  have wS:DX N false [FT 2 e.1,H6 e.2.1,enO e p]=some (enB e p,false):=by
    rw[Vw N false _ (by show 3<N;omega) (by show 3<=_;omega),flat3,Jy (by unfold enC at hl;omega)];rfl
  have wX: ∀ hb:decide (((enX e p).length:Int)>0)=true,KZ N (enX e p)=some (xsB (enX e p),0):=fun hb=>AfJ (eP hN h (by have:=of_decide_eq_true hb;omega)) hN
  have fin:(Ei (fun j4=>bif decide (((enX e p).length:Int)>(0:Int))then(CW (KZ N (enX e p)) fun r63=>CW (DN N false r63.1 r63.2) fun r66=>j4 (r66.1,r66.2,e.1,e.2.1,e.re,e.iv,aut e.k))else(j4 (([]:Bs),false,e.1,e.2.1,e.re,e.iv,aut e.k)))
      (U7 fun t9d b0_0d b33792_0d b33792_1d b33792_2d b33792_3d (b33792_4d:List (List Att))=>CW (EI N b0_0d b33792_0d) fun r71=>CW (FW N b33792_1d) fun r75=>CW (DN N r71.2 r75.1 r75.2) fun r78=>CW (DX N r78.2 ([r71.1,r78.1,t9d]:List Bs)) fun r81=>some (r81.1,r81.2)):Option (Bs×Bool))=some (enB e p,false):=by
    have wi:EI N false e.1=some (FT 2 e.1,false):=by
      unfold EI
      rw[hI,CY,w2];rfl
    cases hb:decide (((enX e p).length:Int)>0)with
    | true =>
      have hO:enO e p=xsB (enX e p):=by unfold enO;rw[hb];rfl
      rw[hO]at wS
      simp (disch:=first | assumption | omega) only[D8,wX hb,L9,wi,T,wS,bne_self_eq_false]
      try rfl
    | false =>
      have hO:enO e p=[]:=by unfold enO;rw[hb];rfl
      rw[hO]at wS
      simp (disch:=first | assumption | omega) only[D8,L9,wi,T,wS,bne_self_eq_false]
      try rfl
  unfold SA
  try simp only[clR]
  refine Eq.trans ?_ fin
  unfold enX enY
  have hiv:e.iv≠ -1->FW N e.iv=some (H6 e.iv,0):=fun hn=>(FM hN (h.iv.resolve_left hn)).enc
  have hiv2:(e.iv != -1)=true->FW N e.iv=some (H6 e.iv,0):=fun hn=>hiv (by simpa using hn)
  dsimp only
  cases h1:e.re != 0<;>cases h2:e.iv != -1<;>cases h3:(e.k % 8==p % 8)
  all_goals
    rw[h3]at hm
    first
      | (have hv:=hiv2 h2
         simp (disch:=first | assumption | omega) only[D8,h1,h2,h3,hR,w10,L9,hv,hm,hg,wI,List.length_cons,List.length_nil,List.nil_append,List.cons_append,U8,Yz,Y0,bF,FT]
         done)
      | (simp (disch:=first | assumption | omega) only[D8,h1,h2,h3,hR,w10,L9,hm,hg,wI,List.length_cons,List.length_nil,List.nil_append,List.cons_append,U8,Yz,Y0,bF,FT]
         done)
end
end Go.Proofs.YtbaomhegdndpnaaGreatDoor.Pl
namespace Go.Proofs.YtbaomhegdndpnaaGreatDoor.Pl
open IntKind (i64)
open Go Vm
structure kL (l:List Pt):Prop where
  ne:l≠ []
  len:l.length<=3
  all: ∀ p∈l,okP p
def psC (l:List Pt):Bs:=(l.map ptB).flatten
def psB (l:List Pt):Bs:=Sp.elem 48 (psC l)
def zPt:Pt:=([],0,false,[])
section
variable {N:Nat} (hN:1048578<N) {l:List Pt} (h:kL l)
include hN h
theorem uI:(psC l).length<=6015:=by
  have:=NL (g:=ptB) (M:=2005) (l:=l) fun p hp=>by
    have h1:=(ZR hN (h.all p hp)).len
    have:=Sp.DD 48 (ptC p)
    show(Sp.elem 48 (ptC p)).length<=_;omega
  have:=h.len
  unfold psC;omega
theorem Aoc {d:Nat} (hd:d<=2):Par d (psC l) (l.map ptE):=XP fun p hp=>(ZR hN (h.all p hp)).par d hd
theorem Ard:Fine (48,psC l):=(Hy (by decide) (by decide) (by have:=uI hN h;omega))
theorem Asn:Sp.chk (psB l)=0:=Uu (Ard hN h) fun _=>(Aoc hN h (by decide)).nest
theorem AnO:kL (l.map ptK):=⟨fun e=>h.ne (List.map_eq_nil_iff.1 e),by rw[List.length_map];exact h.len,fun q hq=>by
  obtain⟨p,hp,rfl⟩:=List.mem_map.1 hq
  exact(ZR hN (h.all p hp)).okK⟩
theorem Ate:psB (l.map ptK)=psB l:=by
  unfold psB psC
  rw[List.map_map]
  congr 2
  exact List.map_congr_left fun p hp=>(ZR hN (h.all p hp)).Ali
theorem Abi:F5 N l=some 0:=by
  have h3:=h.len
  unfold F5
  try simp only[clR]
  simp (disch:=first | assumption | omega) only[D8]
  refine Fp (fun i=>(i:Int)) l.length _ ?_ ?_ N (by omega)
  ·intro i hi k
   have e:=(ZR hN (h.all _ (getD_mem zPt hi))).chk
   unfold zPt at *
   simp (disch:=first | assumption | omega) only[D8,e,Em]
   try rfl
  ·intro k
   simp (disch:=first | assumption | omega) only[D8]
theorem AfD:Il N l=some 0:=by
  have h3:=h.len
  unfold Il
  try simp only[clR]
  simp (disch:=first | assumption | omega) only[D8]
  refine Fp (fun i=>(i:Int)) l.length _ ?_ ?_ N (by omega)
  ·intro i hi k
   have hp:=h.all _ (getD_mem zPt hi)
   unfold zPt at *
   dsimp only
   rw[Int.toNat_natCast]
   generalize l.getD i ([],0,false,[])=p at *
   obtain⟨gs,r,b,n⟩:=p
   obtain⟨⟨g,hg,hgs⟩,hr,hi'⟩:=hp
   dsimp only at hgs hr hi'
   subst hgs
   have hm:=kM hr
   have ck:=tZ hN (gs1 hg)
   have l1: [g].length=1:=rfl
   rcases hi' with ⟨rfl,rfl⟩ | ⟨rfl,hn,hne⟩
   ·simp (disch:=first | assumption | omega) only[D8,hm,ck,l1,List.length_nil,Em]
    try rfl
   ·have hpos:=List.length_pos_iff.2 hne
    have hc:=Q3 hN hn
    simp (disch:=first | assumption | omega) only[D8,hm,ck,l1,hc,Em]
    try rfl
  ·intro k
   simp (disch:=first | assumption | omega) only[D8]
theorem Aob:HY N l=some (psB l,0):=by
  have h3:=h.len
  have hpos:=List.length_pos_iff.2 h.ne
  have hl:=uI hN h
  unfold HY
  try simp only[clR]
  rw[Abi hN h,JJ (by omega),cond_false,CY,show((0:Int) != 0)=false from rfl,cond_false]
  refine(OM (mk:=fun i a=>((i:Int),false,a)) l zPt ptB (fun a=>CW (DX N false a) fun r88=>CW (Hr N r88.snd) fun r90=>bif r90.fst then some ([],2)else some (r88.fst,0)) ?_ ?_ N (by omega)).trans ?_
  ·intro i a hi ha k
   have hp:=h.all _ (getD_mem zPt hi)
   have hP:=ZR hN hp
   unfold zPt at *
   dsimp only[U3]
   rw[Int.toNat_natCast]
   generalize l.getD i ([],0,false,[])=p at *
   have hlen:=hP.len
   unfold ptB
   obtain⟨gs,r,b,n⟩:=p
   obtain⟨⟨g,hg,hgs⟩,hr,hi'⟩:=hp
   dsimp only at hgs hr hi'
   subst hgs
   have l1: [g].length=1:=rfl
   have hle:=IZ hN (gs1 hg)
   have e1:=Sp.DD 160 (DZ [g])
   have ge:=zW hN (gs1 hg) (by simp)
   have w1:Dw N false 160 [DZ [g]]=_:=Uk N 160 false [DZ [g]] (by omega) (by omega) hN (by simp) (by rw[Eb];omega)
   have w2:Dw N false 160 [Sp.elem 160 (DZ [g])]=_:=Uk N 160 false [Sp.elem 160 (DZ [g])] (by omega) (by omega) hN (by simp) (by rw[Eb];omega)
   rw[Eb]at w1 w2
   have hf:(r=0/\flT 129 r=[])\/(r≠0/\flT 129 r=Sp.elem 129 (flB r)/\Iq N r=some (flB r,0)/\Dw N false 129 [flB r]=some (Sp.elem 129 (flB r),false)):=by
     rcases hr with rfl | hr
     ·exact Or.inl ⟨rfl,rfl⟩
     ·have R:=MG hN hr
      refine Or.inr ⟨R.ne,by unfold flT;rw[Sj R.ne];rfl,R.put,?_⟩
      have w3:Dw N false 129 [flB r]=_:=Uk N 129 false [flB r] (by omega) (by omega) hN (by simp) (by rw[Eb];have:=R.len;omega)
      rw[Eb]at w3;exact w3
   have hw:(b=false/\n=[]/\piT ([g],r,b,n)=[])\/(b=true/\piT ([g],r,b,n)=Sp.elem 162 (Fz (4,[],n))/\Ic N (4,[],n) false=some (Fz (4,[],n),0)/\Dw N false 162 [Fz (4,[],n)]=some (Sp.elem 162 (Fz (4,[],n)),false)):=by
     rcases hi' with ⟨rfl,rfl⟩ | ⟨rfl,hn,_⟩
     ·exact Or.inl ⟨rfl,rfl,rfl⟩
     ·have G:=LH hN (PN hn)
      have:=OC hN (PN hn)
      have w4:Dw N false 162 [Fz (4,[],n)]=_:=Uk N 162 false [Fz (4,[],n)] (by omega) (by omega) hN (by simp) (by rw[Eb];omega)
      rw[Eb]at w4
      exact Or.inr ⟨rfl,rfl,G.enc,w4⟩
   have wS:DX N false [Sp.elem 160 (Sp.elem 160 (DZ [g])),flT 129 r,piT ([g],r,b,n)]=some (Sp.elem 48 (ptC ([g],r,b,n)),false):=by
     rw[Vw N false _ (by show 3<N;omega) (by show 3<=_;omega),flat3,Jy (by unfold ptC at hlen;dsimp only at hlen;omega)];rfl
   clear hP hlen
   have fin: ∀(x:Bool×List Bs×List Bs),x=(false,[Sp.elem 160 (Sp.elem 160 (DZ [g])),flT 129 r,piT ([g],r,b,n)],a)->U3 (fun b38144_0d l39936d l1012288d=>CW (DX N b38144_0d l39936d) fun r82=>Vm.chk (decide ((l1012288d.length+1)*17<=140737488355328)) (k (i64.wrap ((i:Int)+1),r82.snd,l1012288d++[r82.fst]))) x=k (((i+1:Nat):Int),false,a++[Sp.elem 48 (ptC ([g],r,b,n))]):=by
     intro x hx
     subst hx
     dsimp only[U3]
     rw[wS,CY]
     simp (disch:=first | assumption | omega) only[D8,Em]
   rw[Ob (show(i:Int)<(l.length:Int) by omega),cond_true,Va (by omega),EW,EW]
   simp only[Ei]
   have step1: ∀(J:List Gn×Int×Bool×List (List Att)×Bool×List Bs×List Bs->Option (Bs×Int)),(bif decide ((([g]:List Gn).length:Int)>0)then CW (Hg N [g]) fun r39=>CW (DN N false r39.fst r39.snd) fun r42=>CW (Dw N r42.snd 160 [r42.fst]) fun r44=>CW (Dw N r44.snd 160 [r44.fst]) fun r46=>J ([g],r,b,n,r46.snd,[r46.fst,[],[]],a)else J ([g],r,b,n,false,[[],[],[]],a))=J ([g],r,b,n,false,[Sp.elem 160 (Sp.elem 160 (DZ [g])),[],[]],a):=by
     intro J
     rw[show decide ((([g]:List Gn).length:Int)>0)=true from rfl,cond_true,ge,CY,L9,CY]
     show CW (Dw N false 160 [DZ [g]]) _=_
     rw[w1,CY]
     show CW (Dw N false 160 [Sp.elem 160 (DZ [g])]) _=_
     rw[w2,CY]
   refine(step1 _).trans ?_
   dsimp only[U7]
   have last: ∀ x:Bs,x=flT 129 r->(bif b then CW (Ic N (4,[],n) false) fun r72=>CW (DN N false r72.fst r72.snd) fun r75=>CW (Dw N r75.snd 162 [r75.fst]) fun r77=>Vm.chk (decide (2<(([Sp.elem 160 (Sp.elem 160 (DZ [g])),x,[]]:List Bs).length:Int))) (Vm.chk (decide (2<([Sp.elem 160 (Sp.elem 160 (DZ [g])),x,[]]:List Bs).length)) (U3 (fun b38144_0d l39936d l1012288d=>CW (DX N b38144_0d l39936d) fun r82=>Vm.chk (decide ((l1012288d.length+1)*17<=140737488355328)) (k (i64.wrap ((i:Int)+1),r82.snd,l1012288d++[r82.fst]))) (r77.snd,([Sp.elem 160 (Sp.elem 160 (DZ [g])),x,[]]:List Bs).set 2 r77.fst,a)))else U3 (fun b38144_0d l39936d l1012288d=>CW (DX N b38144_0d l39936d) fun r82=>Vm.chk (decide ((l1012288d.length+1)*17<=140737488355328)) (k (i64.wrap ((i:Int)+1),r82.snd,l1012288d++[r82.fst]))) (false,[Sp.elem 160 (Sp.elem 160 (DZ [g])),x,[]],a))=k (((i+1:Nat):Int),false,a++[Sp.elem 48 (ptC ([g],r,b,n))]):=by
     intro x hx
     subst hx
     rcases hw with ⟨rfl,_,hw⟩ | ⟨rfl,hw,hw1,hw2⟩
     ·rw[cond_false]
      exact fin _ (by rw[hw])
     ·rw[cond_true,hw1,CY,L9,CY]
      show CW (Dw N false 162 [Fz (4,[],n)]) _=_
      rw[hw2,CY]
      exact fin _ (by rw[hw];rfl)
   rcases hf with ⟨hr0,hf⟩ | ⟨hne,hf,hf1,hf2⟩
   ·rw[AmH hr0,cond_false]
    exact last [] hf.symm
   ·rw[Sj hne,cond_true,hf1,CY,L9,CY]
    show CW (Dw N false 129 [flB r]) _=_
    rw[hf2,CY]
    exact last (Sp.elem 129 (flB r)) hf.symm
  ·intro a k ha
   simp (disch:=first | assumption | omega) only[D8]
  ·rw[Vw N false _ (by rw[List.length_map];omega) (by rw[List.length_map];omega),CY,Jy (by unfold psC at hl;omega)]
   rfl
theorem AsT {n:List (List Att)} (hn:okN n):Ih N n=some (Fz (4,[],n)):=by
  have h1:=SY hN (gs1 (PN hn)) (by simp)
  rw[AeC]at h1
  unfold Ih
  rw[h1];rfl
theorem Amd:Ja N l=some (psB l,0):=by
  have h3:=h.len
  have hpos:=List.length_pos_iff.2 h.ne
  have hl:=uI hN h
  unfold Ja
  try simp only[clR]
  rw[AfD hN h,JJ (by omega),cond_false,CY,show((0:Int) != 0)=false from rfl,cond_false]
  refine(XI (mk:=fun i t=>(t,(i:Int))) l zPt ptB (fun t=>CW (ED N 48 [t]) fun r=>some (r.1,r.2)) ?_ ?_ N (by omega)).trans ?_
  ·intro i t hi ht k
   have hp:=h.all _ (getD_mem zPt hi)
   have hP:=ZR hN hp
   unfold zPt psC at *
   dsimp only[U2]
   rw[Int.toNat_natCast]
   generalize l.getD i ([],0,false,[])=p at *
   have hlen:=hP.len
   have ht:=Nat.le_trans ht hl
   unfold ptB at ht ⊢
   obtain⟨gs,r,b,n⟩:=p
   obtain⟨⟨g,hg,hgs⟩,hr,hi'⟩:=hp
   dsimp only at hgs hr hi'
   subst hgs
   have ge:=SY hN (gs1 hg) (by simp)
   have hle:=IZ hN (gs1 hg)
   have e1:=Sp.DD 160 (DZ [g])
   have w1:DL N 160 [DZ [g]]=_:=Nu N 160 [DZ [g]] (by omega) (by omega) hN (by simp) (by rw[Eb];omega)
   have w2:DL N 160 [Sp.elem 160 (DZ [g])]=_:=Nu N 160 [Sp.elem 160 (DZ [g])] (by omega) (by omega) hN (by simp) (by rw[Eb];omega)
   rw[Eb]at w1 w2
   have f1:Gg N [g]=some (Sp.elem 160 (Sp.elem 160 (DZ [g]))):=by
     unfold Gg
     rw[show((([g]:List Gn).length:Int)==0)=false from rfl,cond_false,ge,CY]
     dsimp only
     rw[w1,CY,w2,CY]
   have f2:IP N 129 r=some (flT 129 r):=by
     unfold IP
     rcases hr with rfl | hr
     ·rfl
     ·have R:=MG hN hr
      have w3:DL N 129 [flB r]=_:=Nu N 129 [flB r] (by omega) (by omega) hN (by simp) (by rw[Eb];have:=R.len;omega)
      rw[Eb]at w3
      rw[JJ R.ne,cond_false,R.Amj,CY]
      dsimp only
      rw[w3,CY]
      unfold flT
      rw[Sj R.ne,cond_true]
   have wS:DL N 48 [Sp.elem 160 (Sp.elem 160 (DZ [g])),flT 129 r,piT ([g],r,b,n)]=some (Sp.elem 48 (ptC ([g],r,b,n))):=by
     have:=Nu N 48 [Sp.elem 160 (Sp.elem 160 (DZ [g])),flT 129 r,piT ([g],r,b,n)] (by omega) (by omega) hN (by simp) (by rw[flat3];unfold ptC at hlen;dsimp only at hlen;omega)
     rw[flat3]at this
     exact this
   rw[Ob (show(i:Int)<(l.length:Int) by omega),cond_true,Va (by omega),EW,EW]
   simp only[Ei]
   have fin: ∀ y:Bs,y=piT ([g],r,b,n)->U5 (fun t8b b34560_0b b34560_1b b34560_2b b34560_3b=>CW (Gg N b34560_0b) fun r33=>CW (IP N 129 b34560_1b) fun r36=>CW (DL N 48 [r33,r36,t8b]) fun r39=>Vm.chk (decide (t.length+r39.length<=140737488355328)) (k (t++r39,i64.wrap ((i:Int)+1)))) (y,[g],r,b,n)=k (t++Sp.elem 48 (ptC ([g],r,b,n)),((i+1:Nat):Int)):=by
     intro y hy
     subst hy
     dsimp only[U5]
     rw[f1,CY,f2,CY,wS,CY]
     simp (disch:=first | assumption | omega) only[D8,Em]
   rcases hi' with ⟨rfl,hn0⟩ | ⟨rfl,hn,_⟩
   ·exact fin [] rfl
   ·have d1:=AsT hN h hn
    have:=OC hN (PN hn)
    have w4:DL N 162 [Fz (4,[],n)]=_:=Nu N 162 [Fz (4,[],n)] (by omega) (by omega) hN (by simp) (by rw[Eb];omega)
    rw[Eb]at w4
    rw[cond_true,d1,CY,w4,CY]
    exact fin _ rfl
  ·intro t k
   simp (disch:=first | assumption | omega) only[D8]
  ·have w:ED N 48 [(l.map ptB).flatten]=_:=cO N 48 [(l.map ptB).flatten] (by omega) (by omega) hN (by simp) (by rw[Eb];unfold psC at hl;omega)
   rw[w,CY,Eb];rfl
end
