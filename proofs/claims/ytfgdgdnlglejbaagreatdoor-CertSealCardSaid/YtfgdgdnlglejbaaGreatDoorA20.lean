import Derived.Test.YtfgdgdnlglejbaaGreatDoorA19
set_option linter.all false
namespace Go.Proofs.YtfgdgdnlglejbaaGreatDoor.Pl
open IntKind (i64)
open Go Vm
abbrev Att:Type:=Bs×Int×Bs
theorem bF {t:Nat} {c:Bs} (h:c.length<=131072):I9 t c=some (Sp.elem t c):=by unfold I9;rw[if_pos h]
theorem Apo (N t:Nat) (l:List Bs) (ht:t<256) (h31:t % 32≠31) (hN:1048578<N) (hl:l.length<=1000) (hs:l.flatten.length<=131072):EE N (t:Int) l=some (Sp.elem t l.flatten,0):=by rw[AcR N t l ht h31 (by omega) (by omega),bF hs];rfl
theorem MN (N t:Nat) (l:List Bs) (ht:t<256) (h31:t % 32≠31) (hN:1048578<N) (hl:l.length<=1000) (hs:l.flatten.length<=131072):DR N (t:Int) l=some (Sp.elem t l.flatten):=by unfold DR;rw[uO N t l ht h31 (by omega) (by omega) (by omega),Dz,bF hs];rfl
theorem Asw (N t:Nat) (l:List Bs) (ht:t<256) (h31:t % 32≠31) (hN:1048578<N) (hl:l.length<=1000) (hs:l.flatten.length<=131072):Fb N (t:Int) l=some (Sp.elem t l.flatten,0):=by rw[Aem N t l ht h31 (by omega) (by omega) (by omega),bF hs];rfl
theorem Awg (N t:Nat) (b:Bool) (l:List Bs) (ht:t<256) (h31:t % 32≠31) (hN:1048578<N) (hl:l.length<=1000) (hs:l.flatten.length<=131072):Ej N b (t:Int) l=some (Sp.elem t l.flatten,b):=by rw[AmN N t b l ht h31 (by omega) (by omega),bF hs];simp
theorem Ez (a:Bs): [a].flatten=a:=by simp
theorem VW (a b:Bs): [a,b].flatten=a++b:=by simp
theorem flat3 (a b c:Bs): [a,b,c].flatten=a++(b++c):=by simp
theorem ofM {N:Nat} (hN:1048578<N): ∃ M,N=M+300:=⟨N - 300,by omega⟩
def VS:List Att:=[([50,46,53,46,52,46,51],12,[65,110,110]),([50,46,53,46,52,46,51],19,[32,97,110,110]),([50,46,53,46,52,46,51],12,[103,114,195,182,195,159,101]),([50,46,53,46,52,46,54],19,[85,83]),([50,46,53,46,52,46,49,48],19,[69,120,97,109,112,108,101,32,32,67,111,114,112]),([50,46,53,46,52,46,49,48],12,[101,120,97,109,112,108,101,32,99,111,114,112]),([50,46,53,46,52,46,49,49],22,[97,44,98,43,99,61,100,92,101]),([48,46,57,46,50,51,52,50,46,49,57,50,48,48,51,48,48,46,49,48,48,46,49,46,50,53],22,[111,114,103]),([49,46,50,46,56,52,48,46,49,49,51,53,52,57,46,49,46,57,46,49],22,[97,110,110,64,101,120,97,109,112,108,101,46,111,114,103]),([49,46,50,46,56,52,48,46,49,49,51,53,52,57,46,49,46,57,46,49],22,[110,111,32,97,100,100,114,101,115,115]),([50,46,53,46,52,46,57,57],19,[120]),([50,46,53,46,52,46,55],12,[76])]
def AvZ:List Att:=[[48],[49],[50],[51]].flatMap fun k=>[([50,46,53,46,52,46,49,48],19,[67,65,32]++k),([50,46,53,46,52,46,49,48],19,[32,99,97,32,32]++k)]
def AvM:Att:=([50,46,53,46,52,46,49,49],12,[85,110,105,116])
def Hg:List (List Att):=VS.map (fun a=>[a])++(VS.flatMap fun a=>(VS.filter fun b=>a.1 != b.1).map fun b=>[a,b])++(AvM::AvZ).map fun a=>[a]
def AuZ (l:List Bs):Bs:=(l.foldl (fun s x=>PE x s) []).flatten
def Vh (a:Att):Bs:=((H7 300 a).getD default).1
def J7 (r:List Att):Bs:=AuZ (r.map Vh)
def ZX (r:List Att):Bs:=Sp.elem 49 (J7 r)
def Aec (r:List Att):List Att:=((FO 300 (Gx 49 (J7 r))).getD default).1
structure Av4 (N:Nat) (r:List Att):Prop where
 chk:Ky N r=some 0
 Alh:J3 N r=some 0
 Awd:NH N r=some (r.map Vh)
 att: ∀ a∈r,H7 N a=some (Vh a,0)
 dec:FO N (Gx 49 (J7 r))=some (Aec r,0)
 inC:Aec r∈Hg
 enc:J7 (Aec r)=J7 r
 len:(J7 r).length<=200
 lens:(r.map Vh).flatten.length<=200
 p0:0<r.length
 p2:r.length<=2
 nest:TC 9 (J7 r)
def UG (M:Nat) (r:List Att):Bool :=
 Ky (M+300) r==some 0&&(J3 (M+300) r==some 0&&(NH (M+300) r==some (r.map Vh)&&(r.all (fun a=>H7 (M+300) a==some (Vh a,0)) &&
 (FO (M+300) (Gx 49 (J7 r))==some (Aec r,0)&&(Hg.contains (Aec r)&&(J7 (Aec r)==J7 r&&(decide ((J7 r).length<=200)&&(decide ((r.map Vh).flatten.length<=200)&&(decide (0<r.length)&&(decide (r.length<=2)&&(Sp.within ((J7 r).length+1) 9 (J7 r)==0)))))))))))
theorem An4 {α :Type} (p: α ->Bool) (l:List α) (n:Nat) (h: ∀ i,i<n->((l.drop (12*i)).take 12).all p=true) (hl:l.length<=12*n):l.all p=true:=by rw[List.all_eq_true];intro x hx;obtain⟨j,hj,rfl⟩:=List.getElem_of_mem hx;refine List.all_eq_true.1 (h (j / 12) (by omega)) _ ?_;rw[List.mem_iff_getElem];refine⟨j % 12,by rw[List.length_take,List.length_drop];omega,?_⟩;rw[List.getElem_take,List.getElem_drop];congr 1;omega
theorem ck0 (M:Nat):((Hg.drop (12*0)).take 12).all (UG M)=true:=by kernel_rfl
theorem ck1 (M:Nat):((Hg.drop (12*1)).take 12).all (UG M)=true:=by kernel_rfl
theorem ck2 (M:Nat):((Hg.drop (12*2)).take 12).all (UG M)=true:=by kernel_rfl
theorem ck3 (M:Nat):((Hg.drop (12*3)).take 12).all (UG M)=true:=by kernel_rfl
theorem ck4 (M:Nat):((Hg.drop (12*4)).take 12).all (UG M)=true:=by kernel_rfl
theorem ck5 (M:Nat):((Hg.drop (12*5)).take 12).all (UG M)=true:=by kernel_rfl
theorem ck6 (M:Nat):((Hg.drop (12*6)).take 12).all (UG M)=true:=by kernel_rfl
theorem ck7 (M:Nat):((Hg.drop (12*7)).take 12).all (UG M)=true:=by kernel_rfl
theorem ck8 (M:Nat):((Hg.drop (12*8)).take 12).all (UG M)=true:=by kernel_rfl
theorem ck9 (M:Nat):((Hg.drop (12*9)).take 12).all (UG M)=true:=by kernel_rfl
theorem Awa (M:Nat):((Hg.drop (12*10)).take 12).all (UG M)=true:=by kernel_rfl
theorem Awb (M:Nat):((Hg.drop (12*11)).take 12).all (UG M)=true:=by kernel_rfl
theorem Asu:Hg.length<=144:=of_decide_eq_true (by kernel_rfl)
theorem Aui (M:Nat):Hg.all (UG M)=true:=by
 refine An4 _ _ 12 (fun i hi=> ?_) Asu
 match i,hi with
 | 0,_=>exact ck0 M
 | 1,_=>exact ck1 M
 | 2,_=>exact ck2 M
 | 3,_=>exact ck3 M
 | 4,_=>exact ck4 M
 | 5,_=>exact ck5 M
 | 6,_=>exact ck6 M
 | 7,_=>exact ck7 M
 | 8,_=>exact ck8 M
 | 9,_=>exact ck9 M
 | 10,_=>exact Awa M
 | 11,_=>exact Awb M
theorem PU {N:Nat} (hN:1048578<N) {r:List Att} (h:r∈Hg):Av4 N r:=by obtain⟨M,rfl⟩:=ofM hN;have h:=List.all_eq_true.1 (Aui M) r h;unfold UG at h;simp only[Bool.and_eq_true,beq_iff_eq,List.all_eq_true,decide_eq_true_eq,List.contains_iff_mem]at h;obtain⟨h1,h2,h3,h4,h5,h6,h7,h8,h9,h10,h11,h12⟩:=h;exact⟨h1,h2,h3,h4,h5,h6,h7,h8,h9,h10,h11,h12⟩
theorem Ass {N:Nat} (hN:1048578<N) {r:List Att} (h:r∈Hg):(ZX r).length<=205:=by have:=(PU hN h).len;have:=Sp.Eb 49 (J7 r);unfold ZX;omega
def okN (n:List (List Att)):Prop:=n.length<=3/\ ∀ r∈n,r∈Hg
def nmC (n:List (List Att)):List (List Att):=n.map Aec
def nmB (n:List (List Att)):Bs:=(n.map ZX).flatten
def nmT (n:List (List Att)):Bs:=Sp.elem 48 (nmB n)
section
variable {N:Nat} (hN:1048578<N) {n:List (List Att)} (hn:okN n)
include hN hn
theorem AjC:okN (nmC n):=⟨by unfold nmC;rw[List.length_map];exact hn.1,fun r hr=>by obtain⟨x,hx,rfl⟩:=List.mem_map.1 hr;exact(PU hN (hn.2 x hx)).inC⟩
theorem Atd:nmB (nmC n)=nmB n:=by unfold nmB nmC;rw[List.map_map];congr 1;exact List.map_congr_left fun r hr=>by show Sp.elem 49 _=Sp.elem 49 _;rw[(PU hN (hn.2 r hr)).enc]
theorem mP:(nmB n).length<=615:=by have:=Ig (g:=ZX) (M:=205) (l:=n) fun r hr=>Ass hN (hn.2 r hr);have:=hn.1;unfold nmB;omega
theorem Ab0:(nmT n).length<=620:=by have:=mP hN hn;have:=Sp.Eb 48 (nmB n);unfold nmT;omega
theorem Aq7:Par 8 (nmB n) (n.map fun r=>Gx 49 (J7 r)):=Ann fun r hr=>Tm (dR (by decide) (by decide) (by have:=(PU hN (hn.2 r hr)).len;omega)) (by decide) (PU hN (hn.2 r hr)).nest
theorem Anh:Fine (48,nmB n):=(dR (by decide) (by decide) (by have:=mP hN hn;omega))
theorem Nz:G8 N n=some 0:=by
 have h3:=hn.1;unfold G8;try simp only[clR]
 simp (disch:=first | assumption | omega) only[Et];refine ZR (fun i=>(i:Int)) n.length _ ?_ ?_ N (by omega)
 ·intro i hi k;have h:=(PU hN (hn.2 _ (getD_mem [] hi))).chk;simp (disch:=first | assumption | omega) only[Et,h,FX];try rfl
 ·intro k;simp (disch:=first | assumption | omega) only[Et]
theorem Og:GU N n=some 0:=by
 have h3:=hn.1;unfold GU;try simp only[clR]
 simp (disch:=first | assumption | omega) only[Et];refine ZR (fun i=>(i:Int)) n.length _ ?_ ?_ N (by omega)
 ·intro i hi k;have h:=PU hN (hn.2 _ (getD_mem [] hi));have h1:=h.Alh;have h2:=h.p0;have h3:=h.p2;simp (disch:=first | assumption | omega) only[Et,h1,FX];try rfl
 ·intro k;simp (disch:=first | assumption | omega) only[Et]
theorem AcC:MB N n=some (nmT n,0):=by
 have h3:=hn.1;have hl:=mP hN hn;unfold MB;try simp only[clR]
 rw[Nz hN hn,Dz,show((0:Int) != 0)=false from rfl,cond_false];refine(qI (mk:=fun i acc=>((i:Int),acc)) n [] ZX (fun l=>Dk (EE N 48 l) fun r62=>some (r62.fst,r62.snd)) ?_ ?_ N (by omega)).trans ?_
 ·intro i acc hi hacc k;have h:=PU hN (hn.2 _ (getD_mem [] hi));dsimp only[U2];rw[Int.toNat_natCast];generalize n.getD i []=r at *
  have p0:=h.p0;have p2:=h.p2;simp (disch:=first | assumption | omega) only[Et];refine(qI (mk:=fun j a=>((j:Int),a,acc)) r ([],0,[]) Vh (fun l=>Dk (Qb N l) fun r48=>Dk (EE N 49 [r48]) fun r50=>bif r50.snd != 0 then some ([],r50.snd)else chk (decide ((acc.length+1)*17<=140737488355328)) (k ((i:Int)+1,acc++[r50.fst]))) ?_ ?_ N (by omega)).trans ?_
  ·intro j a hj ha k;have he:=h.att _ (getD_mem ([],0,[]) hj);simp (disch:=first | assumption | omega) only[Et,he,FX]
  ·intro a k ha;simp (disch:=first | assumption | omega) only[Et]
  ·have hlen:=h.len;have hlens:=h.lens;have e:QU (r.map Vh)=J7 r:=(AdJ _).symm;have w:EE N 49 [QU (r.map Vh)]=_:=Apo N 49 [QU (r.map Vh)] (by omega) (by omega) hN (by simp) (by rw[Ez,e];omega);rw[Ez,e]at w;unfold Qb;rw[Atc (by rw[List.length_map];omega),N7 (by rw[List.length_map];omega),N7 (by omega)];simp only[Bool.and_self,cond_true,Dz];rw[e,w,Dz];simp (disch:=first | assumption | omega) only[Et,FX];try rfl
 ·intro acc k ha;simp (disch:=first | assumption | omega) only[Et]
 ·have w:EE N 48 (n.map ZX)=_:=Apo N 48 (n.map ZX) (by omega) (by omega) hN (by rw[List.length_map];omega) (by unfold nmB at hl;omega);rw[w,Dz];rfl
theorem ZM:Hw N n=some (nmT n,0):=by
 have h3:=hn.1;have hl:=mP hN hn;unfold Hw;try simp only[clR]
 rw[Og hN hn,Dz,show((0:Int) != 0)=false from rfl,cond_false];refine(SG (mk:=fun i t=>(t,(i:Int))) n [] ZX (fun t=>Dk (DR N 48 [t]) fun r30=>some (r30,0)) ?_ ?_ N (by omega)).trans ?_
 ·intro i t hi ht k;have h:=PU hN (hn.2 _ (getD_mem [] hi));have hlen:=h.len;have hlens:=h.lens;have p2:=h.p2;have hat:=h.Awd;have e:QU ((n.getD i []).map Vh)=J7 (n.getD i []):=(AdJ _).symm;have hor:=Ahy N ((n.getD i []).map Vh) hN (by rw[List.length_map];omega) (by omega);rw[e]at hor;have w:DR N 49 [J7 (n.getD i [])]=_:=MN N 49 [J7 (n.getD i [])] (by omega) (by omega) hN (by simp) (by rw[Ez];omega);rw[Ez]at w;have hw:Sp.elem 49 (J7 (n.getD i []))=ZX (n.getD i []):=rfl;unfold nmB at hl;simp (disch:=first | assumption | omega) only[Et,hat,hor,w,hw,FX]
 ·intro t k;simp (disch:=first | assumption | omega) only[Et]
 ·have w:DR N 48 [(n.map ZX).flatten]=_:=MN N 48 [(n.map ZX).flatten] (by omega) (by omega) hN (by simp) (by rw[Ez];unfold nmB at hl;omega);rw[w,Dz,Ez];rfl
theorem AcB:P5 N (nmT n)=some (nmC n,0):=by
 have h3:=hn.1;have hl:=mP hN hn;have hT:=Ab0 hN hn;have hF:=Anh hN hn;have h1:=AkX 48 (nmB n) (by decide) (by decide) hF.len;have h2:=(Aq7 hN hn).list;have hC:=AjC hN hn;unfold P5;try simp only[clR]
 rw[Agi N _ (by omega) (by omega),show XA (nmT n)=_ from h1,Dz];have h4:=AcP N (nmB n) (by omega) (by omega) (by omega);rw[h2]at h4;dsimp only[Gx];simp (disch:=first | assumption | omega) only[Et,h4];refine(qI (mk:=fun i acc=>((i:Int),acc)) (n.map fun r=>Gx 49 (J7 r)) (0,[],[]) (fun e=>((FO N e).getD default).1) (fun acc=>Dk (G8 N acc) fun r60=>bif r60 != 0 then some ([],r60)else some (acc,0)) ?_ ?_ N (by rw[List.length_map];omega)).trans ?_
 ·intro i acc hi ha k;rw[List.length_map]at hi;have hr:=(PU hN (hn.2 _ (getD_mem [] hi))).dec;have hg:(n.map fun r=>Gx 49 (J7 r)).getD i (0,[],[])=Gx 49 (J7 (n.getD i [])):=by rw[getD_lt _ _ _ (by rw[List.length_map];exact hi),List.getElem_map,getD_lt n i [] hi]
  have hlm:(n.map fun r=>Gx 49 (J7 r)).length=n.length:=List.length_map _;simp (disch:=first | assumption | omega) only[Et,hg,hlm,hr,FX,Option.getD_some];try rfl
 ·intro acc k ha;simp (disch:=first | assumption | omega) only[Et]
 ·have e:(n.map fun r=>Gx 49 (J7 r)).map (fun e=>((FO N e).getD default).1)=nmC n:=by
   rw[List.map_map];exact List.map_congr_left fun r hr=>by show((FO N _).getD default).1=_;rw[(PU hN (hn.2 r hr)).dec];rfl
  rw[e,Nz hN hC];rfl
end
end Go.Proofs.YtfgdgdnlglejbaaGreatDoor.Pl
namespace Go.Proofs.YtfgdgdnlglejbaaGreatDoor.Pl
open IntKind (i64)
open Go Vm
abbrev Gn:Type:=Int×Bs×List (List Att)
def Al9:List Gn:=[[97,110,110,64,101,120,97,109,112,108,101,46,111,114,103],[65,78,78,64,101,120,97,109,112,108,101,46,111,114,103],[97,110,110,64,69,120,97,109,112,108,101,46,79,82,71],[98,46,99,64,109,97,105,108,46,101,120,97,109,112,108,101,46,111,114,103],[120,64,111,114,103],[97,39,98,64,97,46,98]].map (fun s=>(1,s,[])) ++
 [[101,120,97,109,112,108,101,46,111,114,103],[119,119,119,46,101,120,97,109,112,108,101,46,111,114,103],[87,87,87,46,69,120,97,109,112,108,101,46,111,114,103],[42,46,101,120,97,109,112,108,101,46,111,114,103],[97,46,98],[111,114,103],[109,121,101,120,97,109,112,108,101,46,111,114,103]].map (fun s=>(2,s,[])) ++
 [[10,0,0,1],[10,1,2,3],[192,168,1,7],[32,1,13,184,0,0,0,0,0,0,0,0,0,0,0,1]].map (fun s=>(7,s,[]))
def okG (g:Gn):Prop:=g∈Al9\/ ∃ n,okN n/\g=(4,[],n)
def gnK (g:Gn):Gn:=(g.1,g.2.1,nmC g.2.2)
def gnT (g:Gn):Nat×Bs:=bif g.1==4 then(164,nmT g.2.2)else((128+g.1).toNat,g.2.1)
def FZ (g:Gn):Bs:=Sp.elem (gnT g).1 (gnT g).2
def TW (g:Gn):El:=Gx (gnT g).1 (gnT g).2
def Atj (M:Nat) (g:Gn):Bool:=Gv (M+300) g false==some 0&&(ES (M+300) g false==some 0&&(Hf (M+300) g false==some (FZ g,0)&&(FD (M+300) g false==some (FZ g,0) &&
 (G7 (M+300) (TW g) false==some (g,0)&&(g.2.2.isEmpty&&(decide ((gnT g).2.length<=40)&&(decide ((gnT g).1<256)&&(decide ((gnT g).1 % 32≠31)&& !Sp.cons (gnT g).1))))))))
theorem AsD (M:Nat):Al9.all (Atj M)=true:=by kernel_rfl
structure Auz (N:Nat) (g:Gn):Prop where
 chk:Gv N g false=some 0
 Alh:ES N g false=some 0
 enc:Hf N g false=some (FZ g,0)
 jJ:FD N g false=some (FZ g,0)
 dec:G7 N (TW g) false=some (gnK g,0)
 fine:Fine (gnT g)
 len:(gnT g).2.length<=620
 Aod:gnT (gnK g)=gnT g
 okK:okG (gnK g)
 par: ∀ d,d<=6->Par d (FZ g) [TW g]
section
variable {N:Nat} (hN:1048578<N)
include hN
theorem AtY {n:List (List Att)} (hn:okN n) {d:Nat} (hd:d<=8):TC d (nmB n):=AtX hd (Aq7 hN hn).nest
theorem Ang {n:List (List Att)} (hn:okN n) {d:Nat} (hd:d<=7):Par d (nmT n) [Gx 48 (nmB n)]:=Tm (Anh hN hn) (by omega) (AtY hN hn (by omega))
theorem AuD {n:List (List Att)} (hn:okN n):Auz N (4,[],n):=by
 have h1:=Nz hN hn;have h2:=Og hN hn;have h3:=AcC hN hn;have h4:=ZM hN hn;have h5:=AcB hN hn;have hC:=AjC hN hn;have h6:=Nz hN hC;have hl:=Ab0 hN hn;have w:EE N 164 [nmT n]=_:=Apo N 164 [nmT n] (by omega) (by omega) hN (by simp) (by rw[Ez];omega);have v:DR N 164 [nmT n]=_:=MN N 164 [nmT n] (by omega) (by omega) hN (by simp) (by rw[Ez];omega);rw[Ez]at w v
 have c1: ∀ m:List (List Att),G8 N m=some 0->Gv N (4,[],m) false=some 0:=by
  intro m hm;unfold Gv pR;try simp only[clR]
  simp (disch:=first | assumption | omega) only[Et,hm,Option.isSome_some,Option.getD_some];try rfl
 have c2:ES N (4,[],n) false=some 0:=by
  unfold ES;try simp only[clR]
  dsimp only[U4,EJ];simp (disch:=first | assumption | omega) only[Et,h2,Option.isSome_some,Option.getD_some];try rfl
 have hf:Fine (164,nmT n):=(dR (by decide) (by decide) (by omega))
 refine⟨c1 n h1,c2,?_,?_,?_,hf,hl,?_,Or.inr ⟨_,hC,rfl⟩,fun d hd=>Tm hf (by omega) (Ang hN hn (by omega)).nest⟩
 ·unfold Hf;try simp only[clR]
  simp (disch:=first | assumption | omega) only[Et,c1 n h1,h3];show Dk (EE N 164 [nmT n]) _=_;rw[w];rfl
 ·unfold FD;try simp only[clR]
  simp (disch:=first | assumption | omega) only[Et,c2,h4];show Dk (DR N 164 [nmT n]) _=_;rw[v];rfl
 ·have c3:=c1 _ h6;unfold G7;try simp only[clR]
  show _=some ((4,[],nmC n),0);dsimp only[TW,gnT,Gx];simp (disch:=first | assumption | omega) only[Et,h5,c3,o8];try rfl
 ·show(164,nmT (nmC n))=(164,nmT n);unfold nmT;rw[Atd hN hn]
theorem TY {g:Gn} (h:okG g):Auz N g:=by
 rcases h with h | ⟨n,hn,rfl⟩
 ·have hh:=h;obtain⟨M,rfl⟩:=ofM hN;have h:=List.all_eq_true.1 (AsD M) g h;unfold Atj at h;simp only[Bool.and_eq_true,beq_iff_eq,decide_eq_true_eq,Bool.not_eq_true',List.isEmpty_iff]at h;obtain⟨h1,h2,h3,h4,h5,h6,h7,h8,h9,h10⟩:=h;have hk:gnK g=g:=by obtain⟨k,s,n⟩:=g;dsimp only at h6;subst h6;rfl
  have hf:Fine (gnT g):=⟨h8,h9,by omega⟩
  exact⟨h1,h2,h3,h4,by rw[hk];exact h5,hf,by omega,by rw[hk],by rw[hk];exact Or.inl hh,fun d hd=>AdN hf (by omega) h10⟩
 ·exact AuD hN hn
theorem pM {g:Gn} (h:okG g):(FZ g).length<=625:=by have:=(TY hN h).len;have:=Sp.Eb (gnT g).1 (gnT g).2;unfold FZ;omega
end
def Asj (l:List Gn):Prop:=l.length<=2/\ ∀ g∈l,okG g
def Ff (l:List Gn):Bs:=(l.map FZ).flatten
section
variable {N:Nat} (hN:1048578<N) {l:List Gn} (hl:Asj l)
include hN hl
theorem Td:(Ff l).length<=1250:=by have:=Ig (g:=FZ) (M:=625) (l:=l) fun g hg=>pM hN (hl.2 g hg);have:=hl.1;unfold Ff;omega
theorem AkE {d:Nat} (hd:d<=6):Par d (Ff l) (l.map TW):=Ann fun g hg=>(TY hN (hl.2 g hg)).par d hd
theorem AtW:Ff (l.map gnK)=Ff l:=by unfold Ff;rw[List.map_map];congr 1;exact List.map_congr_left fun g hg=>by show Sp.elem _ _=Sp.elem _ _;rw[(TY hN (hl.2 g hg)).Aod]
theorem Amy:Jg N l=some 0:=by
 have h2:=hl.1;unfold Jg;try simp only[clR]
 refine ZR (fun i=>(i:Int)) l.length _ ?_ ?_ N (by omega)
 ·intro i hi k;have h:=(TY hN (hl.2 _ (getD_mem (0,[],[]) hi))).chk;simp (disch:=first | assumption | omega) only[Et,h,FX];try rfl
 ·intro k;simp (disch:=first | assumption | omega) only[Et]
theorem Aay:IZ N l=some 0:=by
 have h2:=hl.1;unfold IZ;try simp only[clR]
 simp (disch:=first | assumption | omega) only[Et];refine ZR (fun i=>(i:Int)) l.length _ ?_ ?_ N (by omega)
 ·intro i hi k;have h:=(TY hN (hl.2 _ (getD_mem (0,[],[]) hi))).Alh;simp (disch:=first | assumption | omega) only[Et,h,FX];try rfl
 ·intro k;simp (disch:=first | assumption | omega) only[Et]
theorem ZF (h0:l≠ []):IX N l=some (Ff l,0):=by
 have h2:=hl.1;have hp:=List.length_pos_iff.2 h0;have hb:=Td hN hl;unfold Ff at hb;unfold IX;try simp only[clR]
 simp (disch:=first | assumption | omega) only[Et];refine(SG (mk:=fun i t=>(t,(i:Int))) l (0,[],[]) FZ (fun t=>some (t,0)) ?_ ?_ N (by omega)).trans rfl
 ·intro i t hi ht k;have h:=(TY hN (hl.2 _ (getD_mem (0,[],[]) hi))).jJ;simp (disch:=first | assumption | omega) only[Et,h,FX];try rfl
 ·intro t k;simp (disch:=first | assumption | omega) only[Et]
theorem Ac4 (h0:l≠ []):Hr N (Ff l)=some (l.map gnK,0):=by
 have h2:=hl.1;have hp:=List.length_pos_iff.2 h0;have hb:=Td hN hl;have h3:=(AkE hN hl (d:=0) (by omega)).list;have h4:=AcP N (Ff l) (by omega) (by omega) (by omega);rw[h3]at h4;have hlm:(l.map TW).length=l.length:=List.length_map _;unfold Hr VX;try simp only[clR]
 simp (disch:=first | assumption | omega) only[Et,h4,hlm];refine(qI (mk:=fun i acc=>((i:Int),acc)) (l.map TW) (0,[],[]) (fun e=>((G7 N e false).getD default).1) (fun acc=>some (acc,0)) ?_ ?_ N (by omega)).trans ?_
 ·intro i acc hi ha k;rw[hlm]at hi;have hr:=(TY hN (hl.2 _ (getD_mem (0,[],[]) hi))).dec;have hg:(l.map TW).getD i (0,[],[])=TW (l.getD i (0,[],[])):=by rw[getD_lt _ _ _ (by rw[hlm];exact hi),List.getElem_map,getD_lt l i _ hi]
  simp (disch:=first | assumption | omega) only[Et,hg,hlm,hr,FX,Option.getD_some];try rfl
 ·intro acc k ha;simp (disch:=first | assumption | omega) only[Et,hlm]
 ·rw[List.map_map];congr 2;exact List.map_congr_left fun g hg=>by show((G7 N (TW g) false).getD default).1=_;rw[(TY hN (hl.2 g hg)).dec];rfl
end
end Go.Proofs.YtfgdgdnlglejbaaGreatDoor.Pl
namespace Go.Proofs.YtfgdgdnlglejbaaGreatDoor.Pl
open IntKind (i64)
open Go Vm
def inB (n:Int):Bs:=(Jz 300 n).getD []
def AuP (M:Nat) (n:Nat):Bool:=Jz (M+300) (n:Int)==some (inB n)&&(NF (M+300) (n:Int)==some (inB n)&&(MI (M+300) (inB n)==some ((n:Int),0)&&decide ((inB n).length<=2)))
theorem AtQ (M:Nat):(List.range 256).all (AuP M)=true:=by kernel_rfl
structure Av3 (N:Nat) (n:Int):Prop where
 put:Jz N n=some (inB n)
 Aly:NF N n=some (inB n)
 int:MI N (inB n)=some (n,0)
 len:(inB n).length<=2
theorem Aqn {N:Nat} (hN:1048578<N) {n:Int} (h0:0<=n) (h1:n<256):Av3 N n:=by
 obtain⟨M,rfl⟩:=ofM hN;obtain⟨k,rfl⟩: ∃ k:Nat,n=k:=⟨n.toNat,by omega⟩
 have h:=List.all_eq_true.1 (AtQ M) k (List.mem_range.2 (by omega));unfold AuP at h;simp only[Bool.and_eq_true,beq_iff_eq,decide_eq_true_eq]at h;obtain⟨h1,h2,h3,h4⟩:=h;exact⟨h1,h2,h3,h4⟩
def GI (t:Nat) (n:Int):Bs:=Sp.elem t (inB n)
def Rl:List Int:=[0,1000,2000000000,3155759999,3155760000,254033452799,2400000000]
def AlA (t:Int):Bs:=((QR 300 t).getD default).1
def Abk (t:Int):Nat×Bs:=(((AlA t).headD 0).toNat,(AlA t).drop 2)
structure Awh (N:Nat) (t:Int):Prop where
 enc:QR N t=some (AlA t,0)
 jJ:IV N t=some (AlA t,0)
 dec:iH N ((Abk t).1:Int) (Abk t).2=some (t,0)
 eq:AlA t=Sp.elem (Abk t).1 (Abk t).2
 fine:Fine (Abk t)
 len:(Abk t).2.length<=20
 Awi:Sp.cons (Abk t).1=false
 p0:0<=t
 p1:t<=254033452799
 n48:(Abk t).1≠48
def iR:List Bs:=[[50,46,53,46,50,57,46,50,49],[50,46,53,46,50,57,46,50,52],[50,46,53,46,50,57,46,50,57],[50,46,53,46,50,57,46,51,53],[50,46,53,46,50,57,46,50,48],[50,46,53,46,50,57,46,50,55],[50,46,53,46,50,57,46,50,56],[50,46,53,46,50,57,46,52,54],[50,46,53,46,50,57,46,49,57],[50,46,53,46,50,57,46,49,53],[50,46,53,46,50,57,46,51,55],[50,46,53,46,50,57,46,51,50],[50,46,53,46,50,57,46,51,51],[50,46,53,46,50,57,46,51,54],[50,46,53,46,50,57,46,53,52],[50,46,53,46,50,57,46,49,55],[50,46,53,46,50,57,46,51,48],[50,46,53,46,50,57,46,49,52],[50,46,53,46,50,57,46,51,49],[49,46,50,46,51,46,49],[49,46,50,46,51,46,50],[49,46,50,46,51,46,51],[49,46,50,46,51,46,52],[49,46,50,46,51,46,53],[50,46,57,57,57,46,49],[50,46,57,57,57,46,50],[49,46,50,46,51],[50,46,53,46,50,57,46,51,50,46,48],[49,46,51,46,54,46,49,46,53,46,53,46,55,46,51,46,49],[49,46,51,46,54,46,49,46,53,46,53,46,55,46,51,46,50],[49,46,51,46,54,46,49,46,53,46,53,46,55,46,51,46,51],[49,46,51,46,54,46,49,46,53,46,53,46,55,46,51,46,52],[50,46,53,46,50,57,46,51,55,46,48],[49,46,50,46,51,46,52,46,53],[49,46,50,46,51,46,52,46,54]]
def idT (s:Bs):Bs:=((Lc 300 s).getD default).1
def idQ (M:Nat) (s:Bs):Bool:=Jl (M+300) s==some true&&(Gw (M+300) s==some true&&(Lc (M+300) s==some (idT s,0)&&(JM (M+300) s==some (Sp.elem 6 (idT s))&&(N8 (M+300) (idT s)==some (s,0)&&decide ((idT s).length<=10)))))
theorem AuM (M:Nat):iR.all (idQ M)=true:=by kernel_rfl
structure AvO (N:Nat) (s:Bs):Prop where
 val:Jl N s=some true
 Apc:Gw N s=some true
 enc:Lc N s=some (idT s,0)
 jJ:JM N s=some (Sp.elem 6 (idT s))
 dec:N8 N (idT s)=some (s,0)
 len:(idT s).length<=10
theorem VY {N:Nat} (hN:1048578<N) {s:Bs} (h:s∈iR):AvO N s:=by obtain⟨M,rfl⟩:=ofM hN;have h:=List.all_eq_true.1 (AuM M) s h;unfold idQ at h;simp only[Bool.and_eq_true,beq_iff_eq,decide_eq_true_eq]at h;obtain⟨h1,h2,h3,h4,h5,h6⟩:=h;exact⟨h1,h2,h3,h4,h5,h6⟩
def AhC:List Int:=[2,64,384,510]
def flB (n:Int):Bs:=((I4 300 n).getD default).1
def Avk (M:Nat) (r:Int):Bool:=I4 (M+300) r==some (flB r,0)&&(JV (M+300) r==some (flB r,0)&&(NC (M+300) (flB r)==some (r,0)&&(decide ((flB r).length<=5)&&(DX .andNot .i64 r 510==0&& !(r==0)))))
theorem Auj (M:Nat):AhC.all (Avk M)=true:=by kernel_rfl
structure Av5 (N:Nat) (r:Int):Prop where
 put:I4 N r=some (flB r,0)
 Aly:JV N r=some (flB r,0)
 get:NC N (flB r)=some (r,0)
 len:(flB r).length<=5
 mask:DX .andNot .i64 r 510=0
 ne:r≠0
theorem UJ {N:Nat} (hN:1048578<N) {r:Int} (h:r∈AhC):Av5 N r:=by obtain⟨M,rfl⟩:=ofM hN;have h:=List.all_eq_true.1 (Auj M) r h;unfold Avk at h;simp only[Bool.and_eq_true,beq_iff_eq,decide_eq_true_eq,Bool.not_eq_true',beq_eq_false_iff_ne]at h;obtain⟨h1,h2,h3,h4,h5,h6⟩:=h;exact⟨h1,h2,h3,h4,h5,h6⟩
theorem AvG:DX .andNot .i64 0 510=0:=by kernel_rfl
def okR (r:Int):Prop:=r=0\/r∈AhC
def flT (t:Nat) (r:Int):Bs:=bif r != 0 then Sp.elem t (flB r)else []
def flE (t:Nat) (r:Int):List El:=bif r != 0 then [Gx t (flB r)]else []
theorem AkW {r:Int} (h:okR r):DX .andNot .i64 r 510=0:=by
 rcases h with rfl | h
 ·exact AvG
 ·exact(UJ (N:=1048579) (by omega) h).mask
theorem Auc {r:Int} (h:okR r) (t:Nat):(flT t r).length<=10:=by
 rcases h with rfl | h
 ·exact Nat.zero_le _
 ·have R:=UJ (N:=1048579) (by omega) h;have:=R.len;have:=Sp.Eb t (flB r);unfold flT;rw[YS R.ne,cond_true];omega
theorem AuG {r:Int} (h:okR r) {t d:Nat} (ht:t<256) (h31:t % 32≠31) (hd:d<16) (hc:Sp.cons t=false):Par d (flT t r) (flE t r):=Anm _ fun hr=>by
 rcases h with rfl | h
 ·cases hr
 ·exact AdN ⟨ht,h31,by have:=(UJ (N:=1048579) (by omega) h).len;show(flB r).length<=_;omega⟩ hd hc
abbrev Pt:Type:=List Gn×Int×Bool×List (List Att)
structure okP (p:Pt):Prop where
 nm: ∃ g,okG g/\p.1=[g]
 re:okR p.2.1
 is:(p.2.2.1=false/\p.2.2.2=[])\/(p.2.2.1=true/\okN p.2.2.2/\p.2.2.2≠ [])
def ptK (p:Pt):Pt:=(p.1.map gnK,p.2.1,p.2.2.1,nmC p.2.2.2)
def piT (p:Pt):Bs:=bif p.2.2.1 then Sp.elem 162 (FZ (4,[],p.2.2.2))else []
def ptC (p:Pt):Bs:=Sp.elem 160 (Sp.elem 160 (Ff p.1))++(flT 129 p.2.1++piT p)
def ptB (p:Pt):Bs:=Sp.elem 48 (ptC p)
def ptE (p:Pt):El:=Gx 48 (ptC p)
theorem gs1 {g:Gn} (h:okG g):Asj [g]:=⟨by simp,fun x hx=>by rw[List.mem_singleton.1 hx];exact h⟩
structure PtM (N:Nat) (p:Pt):Prop where
 chk:KU N p=some 0
 len:(ptC p).length<=2000
 els:dW (ptC p)=(Gx 160 (Sp.elem 160 (Ff p.1))::(flE 129 p.2.1++(bif p.2.2.1 then [Gx 162 (FZ (4,[],p.2.2.2))]else [])),0)
 par: ∀ d,d<=2->Par d (ptB p) [ptE p]
 okK:okP (ptK p)
 Aod:ptB (ptK p)=ptB p
 dec:Kw N (Gx 160 (Sp.elem 160 (Ff p.1))::(flE 129 p.2.1++(bif p.2.2.1 then [Gx 162 (FZ (4,[],p.2.2.2))]else [])))=some (ptK p,0,[])
section
variable {N:Nat} (hN:1048578<N)
include hN
theorem Ate {p:Pt} (h:okP p):PtM N p:=by
 obtain⟨gs,r,b,n⟩:=p;obtain⟨⟨g,hg,hgs⟩,hr,hi⟩:=h;dsimp only at hgs hr hi;subst hgs;have h1:=gs1 hg;have hl:=Td hN h1;have hm:=AkW hr;have ck:=Amy hN h1;have l1: [g].length=1:=rfl;have hfl:=Auc hr 129;have e1:=Sp.Eb 160 (Ff [g]);have e2:=Sp.Eb 160 (Sp.elem 160 (Ff [g]))
 have hpi:(piT ([g],r,b,n)).length<=640:=by
  unfold piT;rcases hi with ⟨rfl,_⟩ | ⟨rfl,hn,_⟩
  ·exact Nat.zero_le _
  ·have:=pM hN (Or.inr ⟨n,hn,rfl⟩:okG (4,[],n));have:=Sp.Eb 162 (FZ (4,[],n));show(Sp.elem 162 (FZ (4,[],n))).length<=_;omega
 have hlen:(ptC ([g],r,b,n)).length<=2000:=by unfold ptC;rw[List.length_append,List.length_append];dsimp only;omega
 have hpar: ∀ d,d<=3->Par d (ptC ([g],r,b,n)) (Gx 160 (Sp.elem 160 (Ff [g]))::(flE 129 r++(bif b then [Gx 162 (FZ (4,[],n))]else []))):=by
  intro d hd;show Par d (Sp.elem 160 (Sp.elem 160 (Ff [g]))++(flT 129 r++piT ([g],r,b,n))) _;refine Ahq (es:=[_]) (Tm (dR (by decide) (by decide) (by omega)) (by omega) (Tm (t:=160) (dR (by decide) (by decide) (by omega)) (by omega) (AkE hN h1 (by omega)).nest).nest) (Ahq (AuG hr (by decide) (by decide) (by omega) (by decide)) ?_);show Par d (bif b then Sp.elem 162 (FZ (4,[],n))else []) _;refine Anm b fun hb=> ?_;rcases hi with ⟨rfl,_⟩ | ⟨rfl,hn,_⟩
  ·cases hb
  ·have hd4:okG (4,[],n):=Or.inr ⟨n,hn,rfl⟩;exact Tm (dR (by decide) (by decide) (by have:=pM hN hd4;omega)) (by omega) ((TY hN hd4).par _ (by omega)).nest
 have hf:Fine (48,ptC ([g],r,b,n)):=(dR (by decide) (by decide) (by omega))
 have hK:Ff ([g].map gnK)=Ff [g]:=AtW hN h1;have hls:=(Ac4 hN h1 (by simp))
 have o160:Iu N (Sp.elem 160 (Ff [g])) 160=some (Gx 160 (Ff [g]),0):=by rw[AeG N _ 160 hN (by omega)];exact congrArg some (AqC 160 (Ff [g]) (by decide) (by decide) (by omega))
 refine⟨?_,hlen,(hpar 0 (by omega)).list,fun d hd=>Tm hf (by omega) (hpar _ (by omega)).nest,?_,?_,?_⟩
 ·unfold KU;try simp only[clR]
  rcases hi with ⟨rfl,rfl⟩ | ⟨rfl,hn,hne⟩
  ·simp (disch:=first | assumption | omega) only[Et,hm,ck,l1,List.length_nil];try rfl
  ·have hpos:=List.length_pos_iff.2 hne;have hc:=Nz hN hn;simp (disch:=first | assumption | omega) only[Et,hm,ck,l1,hc];try rfl
 ·refine⟨⟨gnK g,(TY hN hg).okK,rfl⟩,hr,?_⟩;rcases hi with ⟨rfl,rfl⟩ | ⟨rfl,hn,hne⟩
  ·exact Or.inl ⟨rfl,rfl⟩
  ·exact Or.inr ⟨rfl,AjC hN hn,fun h=>hne (List.map_eq_nil_iff.1 h)⟩
 ·unfold ptB ptC ptK piT;dsimp only;rw[hK];rcases hi with ⟨rfl,rfl⟩ | ⟨rfl,hn,hne⟩
  ·rfl
  ·rw[show FZ (4,[],nmC n)=FZ (4,[],n)from congrArg (fun p:Nat×Bs=>Sp.elem p.1 p.2) (TY hN (Or.inr ⟨n,hn,rfl⟩:okG (4,[],n))).Aod]
 ·have hflE:flE 129 r=[]/\r=0\/flE 129 r=[Gx 129 (flB r)]/\r∈AhC:=by
   rcases hr with rfl | hr
   ·exact Or.inl ⟨rfl,rfl⟩
   ·refine Or.inr ⟨?_,hr⟩;unfold flE;rw[YS (UJ hN hr).ne];rfl
  have hI:b=false/\n=[]\/b=true/\Hr N (FZ (4,[],n))=some ([(4,[],nmC n)],0):=by
   rcases hi with h | ⟨h,hn,_⟩
   ·exact Or.inl h
   ·refine Or.inr ⟨h,?_⟩;have:=Ac4 hN (gs1 (Or.inr ⟨n,hn,rfl⟩:okG (4,[],n))) (by simp);rwa [show Ff [((4:Int),([]:Bs),n)]=FZ (4,[],n)from List.append_nil _]at this
  unfold Kw;try simp only[clR]
  rcases hflE with ⟨h1,h2⟩ | ⟨h1,h2⟩<;>rcases hI with ⟨rfl,rfl⟩ | ⟨rfl,h3⟩
  ·rw[h1];subst h2;simp (disch:=first | assumption | omega) only[Et,Aen,Aow,Aou,Aov,el1,el2,el3,List.cons_append,List.nil_append,o160,hls,Abq];try rfl
  ·rw[h1];subst h2;simp (disch:=first | assumption | omega) only[Et,Aen,Aow,Aou,Aov,el1,el2,el3,List.cons_append,List.nil_append,o160,hls,Abq,h3];try rfl
  ·have hg:=(UJ hN h2).get;have hne:=(UJ hN h2).ne;rw[h1];simp (disch:=first | assumption | omega) only[Et,Aen,Aow,Aou,Aov,el1,el2,el3,List.cons_append,List.nil_append,o160,hls,Abq,hg];try rfl
  ·have hg:=(UJ hN h2).get;have hne:=(UJ hN h2).ne;rw[h1];simp (disch:=first | assumption | omega) only[Et,Aen,Aow,Aou,Aov,el1,el2,el3,List.cons_append,List.nil_append,o160,hls,Abq,hg,h3];try rfl
end
end Go.Proofs.YtfgdgdnlglejbaaGreatDoor.Pl
namespace Go.Proofs.YtfgdgdnlglejbaaGreatDoor.Pl
open IntKind (i64)
open Go Vm
abbrev Ex:Type:=Bs×Bool×Bs
structure OkX (x:Ex):Prop where
 id:x.1∈iR
 chk:Sp.chk x.2.2=0
 len:x.2.2.length<=8000
structure AvP (l:List Ex):Prop where
 ne:0<l.length
 len:l.length<=16
 all: ∀ x∈l,OkX x
 nd:l.Pairwise fun a b=>a.1≠b.1
section
variable {N:Nat} (hN:1048578<N) {x:Ex} (h:OkX x)
include hN h
end
section
variable {l:List Ex} (h:AvP l)
include h
variable {N:Nat} (hN:1048578<N)
include hN
end
end Go.Proofs.YtfgdgdnlglejbaaGreatDoor.Pl
namespace Go.Proofs.YtfgdgdnlglejbaaGreatDoor.Pl
open IntKind (i64)
open Go Vm
def aut (k:Nat):List (List Att):=(H9 300 (k:Int)).getD []
def Au9 (M k:Nat):Bool:=H9 (M+300) (k:Int)==some (aut k)&&(decide ((aut k).length<=3)&&((aut k).all (fun r=>Hg.contains r)&&(!(aut k).isEmpty&&(nmC (aut k)==aut k&&(List.range 16).all fun j=>Acs (M+300) (aut k) (aut j)==some (k % 8==j % 8)&&fM (M+300) (aut k) (aut j)==some (k % 8==j % 8)))))
theorem Atu (M:Nat):(List.range 16).all (Au9 M)=true:=by kernel_rfl
structure Av2 (N k:Nat):Prop where
 made:H9 N (k:Int)=some (aut k)
 ok:okN (aut k)
 ne:aut k≠ []
 C:nmC (aut k)=aut k
 mt: ∀ j,j<16->Acs N (aut k) (aut j)=some (k % 8==j % 8)
 rmt: ∀ j,j<16->fM N (aut k) (aut j)=some (k % 8==j % 8)
theorem AjV {N:Nat} (hN:1048578<N) {k:Nat} (h:k<16):Av2 N k:=by obtain⟨M,rfl⟩:=ofM hN;have h:=List.all_eq_true.1 (Atu M) k (List.mem_range.2 h);unfold Au9 at h;simp only[Bool.and_eq_true,beq_iff_eq,List.all_eq_true,decide_eq_true_eq,List.contains_iff_mem,Bool.not_eq_true',List.isEmpty_eq_false_iff,List.mem_range]at h;obtain⟨h1,h2,h3,h4,h5,h6⟩:=h;exact⟨h1,⟨h2,h3⟩,h4,h5,fun j hj=>(h6 j hj).1,fun j hj=>(h6 j hj).2⟩
abbrev En:Type:=Int×Int×Int×Int×Nat
abbrev En.k (e:En):Nat:=e.2.2.2.2
abbrev En.re (e:En):Int:=e.2.2.1
abbrev En.iv (e:En):Int:=e.2.2.2.1
abbrev Ey:Type:=Int×Int×Int×Int×List (List Att)
def enY (e:En):Ey:=(e.1,e.2.1,e.re,e.iv,aut e.k)
def reL:List Int:=[0,1,2,3,4,5,6,8,9,10]
structure OkE (base:Int) (ind:Bool) (p:Nat) (e:En):Prop where
 s0:1<=e.1
 s1:e.1<=9
 ti:e.2.1∈Rl
 re:e.re∈reL
 r8:e.re=8->base≠ -1
 iv:e.iv= -1\/e.iv∈Rl
 k:e.k<16
 is:ind=true\/e.k % 8=p % 8
def isB (k:Nat):Bs:=Sp.elem 48 (FZ (4,[],aut k))
theorem Anl {n:List (List Att)} (h:okN n):okG (4,[],n):=Or.inr ⟨n,h,rfl⟩
theorem Aud (n:List (List Att)):Ff [((4:Int),([]:Bs),n)]=FZ (4,[],n):=List.append_nil _
section
variable {N:Nat} (hN:1048578<N) {base:Int} {ind:Bool} {p q:Nat} {e:En} (h:OkE base ind q e)
include hN
include h
end
end Go.Proofs.YtfgdgdnlglejbaaGreatDoor.Pl
namespace Go.Proofs.YtfgdgdnlglejbaaGreatDoor.Pl
open IntKind (i64)
open Go Vm
structure qU (l:List Pt):Prop where
 ne:l≠ []
 len:l.length<=3
 all: ∀ p∈l,okP p
def psC (l:List Pt):Bs:=(l.map ptB).flatten
def psB (l:List Pt):Bs:=Sp.elem 48 (psC l)
def zPt:Pt:=([],0,false,[])
section
variable {N:Nat} (hN:1048578<N) {l:List Pt} (h:qU l)
include hN h
theorem Ale:(psC l).length<=6015:=by
 have:=Ig (g:=ptB) (M:=2005) (l:=l) fun p hp=>by have h1:=(Ate hN (h.all p hp)).len;have:=Sp.Eb 48 (ptC p);show(Sp.elem 48 (ptC p)).length<=_;omega
 have:=h.len;unfold psC;omega
theorem Aiu:FV N l=some 0:=by
 have h3:=h.len;unfold FV;try simp only[clR]
 simp (disch:=first | assumption | omega) only[Et];refine ZR (fun i=>(i:Int)) l.length _ ?_ ?_ N (by omega)
 ·intro i hi k;have hp:=h.all _ (getD_mem zPt hi);unfold zPt at *
  dsimp only;rw[Int.toNat_natCast];generalize l.getD i ([],0,false,[])=p at *
  obtain⟨gs,r,b,n⟩:=p;obtain⟨⟨g,hg,hgs⟩,hr,hi'⟩:=hp;dsimp only at hgs hr hi';subst hgs;have hm:=AkW hr;have ck:=Aay hN (gs1 hg);have l1: [g].length=1:=rfl;rcases hi' with ⟨rfl,rfl⟩ | ⟨rfl,hn,hne⟩
  ·simp (disch:=first | assumption | omega) only[Et,hm,ck,l1,List.length_nil,FX];try rfl
  ·have hpos:=List.length_pos_iff.2 hne;have hc:=Og hN hn;simp (disch:=first | assumption | omega) only[Et,hm,ck,l1,hc,FX];try rfl
 ·intro k;simp (disch:=first | assumption | omega) only[Et]
theorem AvC {n:List (List Att)} (hn:okN n):OT N n=some (FZ (4,[],n)):=by have h1:=ZF hN (gs1 (Anl hn)) (by simp);rw[Aud]at h1;unfold OT;rw[h1];rfl
theorem AoV:Jm N l=some (psB l,0):=by
 have h3:=h.len;have hpos:=List.length_pos_iff.2 h.ne;have hl:=Ale hN h;unfold Jm;try simp only[clR]
 rw[Aiu hN h,YR (by omega),cond_false,Dz,show((0:Int) != 0)=false from rfl,cond_false];refine(SG (mk:=fun i t=>(t,(i:Int))) l zPt ptB (fun t=>Dk (Fb N 48 [t]) fun r=>some (r.1,r.2)) ?_ ?_ N (by omega)).trans ?_
 ·intro i t hi ht k;have hp:=h.all _ (getD_mem zPt hi);have hP:=Ate hN hp;unfold zPt psC at *
  dsimp only[U2];rw[Int.toNat_natCast];generalize l.getD i ([],0,false,[])=p at *
  have hlen:=hP.len;have ht:=Nat.le_trans ht hl;unfold ptB at ht ⊢;obtain⟨gs,r,b,n⟩:=p;obtain⟨⟨g,hg,hgs⟩,hr,hi'⟩:=hp;dsimp only at hgs hr hi';subst hgs;have ge:=ZF hN (gs1 hg) (by simp);have hle:=Td hN (gs1 hg);have e1:=Sp.Eb 160 (Ff [g]);have w1:DR N 160 [Ff [g]]=_:=MN N 160 [Ff [g]] (by omega) (by omega) hN (by simp) (by rw[Ez];omega);have w2:DR N 160 [Sp.elem 160 (Ff [g])]=_:=MN N 160 [Sp.elem 160 (Ff [g])] (by omega) (by omega) hN (by simp) (by rw[Ez];omega);rw[Ez]at w1 w2;have f1:Lj N [g]=some (Sp.elem 160 (Sp.elem 160 (Ff [g]))):=by unfold Lj;rw[show((([g]:List Gn).length:Int)==0)=false from rfl,cond_false,ge,Dz];dsimp only;rw[w1,Dz,w2,Dz]
  have f2:Jd N 129 r=some (flT 129 r):=by
   unfold Jd;rcases hr with rfl | hr
   ·rfl
   ·have R:=UJ hN hr;have w3:DR N 129 [flB r]=_:=MN N 129 [flB r] (by omega) (by omega) hN (by simp) (by rw[Ez];have:=R.len;omega);rw[Ez]at w3;rw[YR R.ne,cond_false,R.Aly,Dz];dsimp only;rw[w3,Dz];unfold flT;rw[YS R.ne,cond_true]
  have wS:DR N 48 [Sp.elem 160 (Sp.elem 160 (Ff [g])),flT 129 r,piT ([g],r,b,n)]=some (Sp.elem 48 (ptC ([g],r,b,n))):=by have:=MN N 48 [Sp.elem 160 (Sp.elem 160 (Ff [g])),flT 129 r,piT ([g],r,b,n)] (by omega) (by omega) hN (by simp) (by rw[flat3];unfold ptC at hlen;dsimp only at hlen;omega);rw[flat3]at this;exact this
  rw[AsT (show(i:Int)<(l.length:Int) by omega),cond_true,AsR (by omega),Gs,Gs];simp only[EJ];have fin: ∀ y:Bs,y=piT ([g],r,b,n)->U5 (fun t8b b34560_0b b34560_1b b34560_2b b34560_3b=>Dk (Lj N b34560_0b) fun r33=>Dk (Jd N 129 b34560_1b) fun r36=>Dk (DR N 48 [r33,r36,t8b]) fun r39=>Vm.chk (decide (t.length+r39.length<=140737488355328)) (k (t++r39,i64.wrap ((i:Int)+1)))) (y,[g],r,b,n)=k (t++Sp.elem 48 (ptC ([g],r,b,n)),((i+1:Nat):Int)):=by intro y hy;subst hy;dsimp only[U5];rw[f1,Dz,f2,Dz,wS,Dz];simp (disch:=first | assumption | omega) only[Et,FX]
  rcases hi' with ⟨rfl,hn0⟩ | ⟨rfl,hn,_⟩
  ·exact fin [] rfl
  ·have d1:=AvC hN h hn;have:=pM hN (Anl hn);have w4:DR N 162 [FZ (4,[],n)]=_:=MN N 162 [FZ (4,[],n)] (by omega) (by omega) hN (by simp) (by rw[Ez];omega);rw[Ez]at w4;rw[cond_true,d1,Dz,w4,Dz];exact fin _ rfl
 ·intro t k;simp (disch:=first | assumption | omega) only[Et]
 ·have w:Fb N 48 [(l.map ptB).flatten]=_:=Asw N 48 [(l.map ptB).flatten] (by omega) (by omega) hN (by simp) (by rw[Ez];unfold psC at hl;omega);rw[w,Dz,Ez];rfl
end
end Go.Proofs.YtfgdgdnlglejbaaGreatDoor.Pl
namespace Go.Proofs.YtfgdgdnlglejbaaGreatDoor.Pl
open IntKind (i64)
open Go Vm
abbrev Sc:Type:=List Gn×Bool×Bool×Int×Bool
def zSc:Sc:=([],false,false,0,false)
structure Au1 (s:Sc):Prop where
 ns:Asj s.1
 re:okR s.2.2.2.1
 sh:(s.2.1=true/\s.2.2.1=false/\s.1=[])\/(s.2.1=false/\s.2.2.1=true/\s.1=[])\/(s.2.1=false/\s.2.2.1=false/\s.1≠ [])
section
variable {N:Nat} (hN:1048578<N)
include hN
variable {s:Sc} (h:Au1 s)
include h
end
end Go.Proofs.YtfgdgdnlglejbaaGreatDoor.Pl
namespace Go.Proofs.YtfgdgdnlglejbaaGreatDoor.Pl
open IntKind (i64)
open Go Vm
structure Li:Type where
 k:Nat
 this:Int
 next:Int
 num:Int
 base:Int
 ak:Bs
 hs:Bool
 s:Sc
 fr:List Pt
 es:List En
def akV:Bs:=[102,101,100,99,98,97,57,56,55,54,53,52,51,50,49,48]
abbrev Ly:Type:=Bs×Bs×List (List Att)×Int×Int×Int×Int×Bs×Bool×List Gn×Bool×Bool×Int×Bool×List Pt×List Ey×Bs
def Li.y (x:Li) (raw tbs sig:Bs):Ly:=(raw,tbs,aut x.k,x.this,x.next,x.num,x.base,x.ak,x.hs,x.s.1,x.s.2.1,x.s.2.2.1,x.s.2.2.2.1,x.s.2.2.2.2,x.fr,x.es.map enY,sig)
structure OkL (x:Li):Prop where
 k:x.k<16
 th:x.this∈Rl
 nx:x.next∈Rl
 le:x.this<=x.next
 n0:1<=x.num
 n1:x.num<=200
 b:x.base= -1\/(0<=x.base/\x.base<x.num)
 ak:x.ak=[]\/x.ak=akV
 sc:(x.hs=false/\x.s=zSc)\/(x.hs=true/\Au1 x.s)
 fr:x.fr=[]\/(x.base= -1/\qU x.fr)
 len:x.es.length<=5
 all: ∀ e∈x.es,OkE x.base x.s.2.2.2.2 x.k e
 nd:x.es.Pairwise fun a b=> ¬(a.1=b.1/\a.k % 8=b.k % 8)
section
variable {N:Nat} (hN:1048578<N)
include hN
variable {x:Li} (h:OkL x)
include h
omit hN in
omit hN in
variable (raw tbs sig:Bs)
end
end Go.Proofs.YtfgdgdnlglejbaaGreatDoor.Pl
namespace Go.Proofs.YtfgdgdnlglejbaaGreatDoor.Pl
open IntKind (i64)
open Go Vm
theorem Sv {α :Type} {P: α ->Prop} {l:List α} {x: α} (h: ∀ y∈l,P y) (hx:P x): ∀ y∈l++[x],P y:=by
 intro y hy;rcases List.mem_append.1 hy with hy | hy
 ·exact h y hy
 ·rw[List.mem_singleton.1 hy];exact hx
def Ends {α :Type} (Q: α ->Prop) (o:Option α):Prop:= ∃ v,o=some v/\Q v
theorem DV {α :Type} {Q: α ->Prop} {v: α} (h:Q v):Ends Q (some v):=⟨v,rfl,h⟩
theorem D8 {α ρ :Type} [Inhabited α] {P: α ->Prop} {Q: ρ ->Prop} {o:Option α} {k: α ->Option ρ} (h:Ends P o) (hk: ∀ v,P v->Ends Q (k v)):Ends Q (Dk o k):=by obtain⟨v,rfl,hv⟩:=h;exact hk v hv
theorem DD {ρ :Type} {Q: ρ ->Prop} {c:Bool} {k:Option ρ} (h:c=true) (hk:Ends Q k):Ends Q (Vm.chk c k):=by rw[h];exact hk
theorem DI {ρ :Type} {Q: ρ ->Prop} {c:Bool} {x y:Option ρ} (h1:c=true->Ends Q x) (h2:c=false->Ends Q y):Ends Q (bif c then x else y):=by
 cases c with
 | true=>exact h1 rfl
 | false=>exact h2 rfl
theorem SY {α ρ :Type} {P: α ->Prop} {Q: ρ ->Prop} {A:(α ->Option ρ)->Option ρ} {f: α ->Option ρ} (hA: ∀ j: α ->Option ρ,(∀ x,P x->Ends Q (j x))->Ends Q (A j)) (hf: ∀ x,P x->Ends Q (f x)):Ends Q (EJ A f):=hA f hf
theorem F5 {X Y ρ :Type} {B:X->(X->Option ρ)->(Y->Option ρ)->Option ρ} {kx:Y->Option ρ} {Q: ρ ->Prop} (I:X->Prop) (μ :X->Nat)
 (h: ∀ x,I x-> ∀ k:X->Option ρ,(∀ x',I x'-> μ x'< μ x->Ends Q (k x'))->Ends Q (B x k kx)) (N:Nat) (x:X) (hI:I x) (hm: μ x<N):Ends Q (D5 B N x kx):=KX I μ (Ends Q) h N x hI hm
theorem Aib {α :Type} {P Q: α ->Prop} {o:Option α} (h:Ends P o) (hq: ∀ v,P v->Q v):Ends Q o:=by obtain⟨v,rfl,hv⟩:=h;exact⟨v,rfl,hq v hv⟩
def EF (L:List Int) (d:List Int×Int):Prop:= ∃ k:Nat,d=(L,(k:Int))/\k<=L.length
theorem Aq5 (N:Nat) {L:List Int} (hL:L.length<=9223372036854775807) {d:List Int×Int} (hd:EF L d) (n:Nat) (hn:0<n) (hn':n<2147483648) :
 Ends (fun r=>0<=r.1/\r.1<(n:Int)/\EF L r.2) (DN N d (n:Int)):=by
 obtain⟨k,rfl,hk⟩:=hd;unfold DN;try simp -zeta only[Ap]
 try dsimp only
 by_cases h:k<L.length
 ·rw[OY,if_neg (by omega),w64 (x:=(k:Int)+1) (by omega) (by omega),w64 (x:=(k:Int)+1 - 1) (by omega) (by omega),Zq,if_pos (by omega),Zq,if_pos (by omega)];generalize L.getD _ _=x;have hne:((n:Int) != 0)=true:=by simp;omega
  rw[hne,Gs,Gs];have h1:=Int.tmod_lt_of_pos x (show(0:Int)<(n:Int) by omega);have h2: -(n:Int)<x.tmod (n:Int):=Int.lt_tmod_of_pos x (by omega);rw[w64 (x:=x.tmod (n:Int)+(n:Int)) (by omega) (by omega)];have h3:0<=(x.tmod (n:Int)+(n:Int)).tmod (n:Int):=Int.tmod_nonneg _ (by omega);have h4:=Int.tmod_lt_of_pos (x.tmod (n:Int)+(n:Int)) (show(0:Int)<(n:Int) by omega);refine⟨_,rfl,h3,h4,k+1,by rw[show((k+1:Nat):Int)=(k:Int)+1 by omega],h⟩
 ·rw[OY,if_pos (by omega)];exact⟨_,rfl,Int.le_refl _,by show(0:Int)<n;omega,k,rfl,hk⟩
theorem IU {α :Type} {P: α ->Prop} {l:List α} {d: α} {i:Int} (h: ∀ x∈l,P x) (h0:0<=i) (hi:i<(l.length:Int)):P (l.getD i.toNat d):=h _ (getD_mem d (by omega))
section
variable (N:Nat) (hN:1048578<N) {L:List Int} (hL:L.length<=9223372036854775807)
include hL
theorem nx {d:List Int×Int} (hd:EF L d) (n:Int) (h0:0<n) (h1:n<2147483648):Ends (fun r=>0<=r.1/\r.1<n/\EF L r.2) (DN N d n):=by
 have:=Aq5 N hL hd n.toNat (by omega) (by omega)
 rw[show((n.toNat:Nat):Int)=n by omega]at this;exact this
omit hL in
theorem AoG {a:Att} (h:a∈VS): [a]∈Hg:=List.mem_append_left _ (List.mem_append_left _ (List.mem_map.2 ⟨a,h,rfl⟩))
omit hL in
theorem Asb {a b:Att} (h:a∈VS) (hb:b∈VS) (hn:b.1≠a.1): [a,b]∈Hg :=
 List.mem_append_left _ (List.mem_append_right _ (List.mem_flatMap.2 ⟨a,h,List.mem_map.2 ⟨b,List.mem_filter.2 ⟨hb,by simpa using Ne.symm hn⟩,rfl⟩⟩))
theorem AjU {d:List Int×Int} (hd:EF L d):Ends (fun r=>r.1∈VS/\EF L r.2) (Qq N d):=by
 unfold Qq;try simp -zeta only[Ap]
 refine D8 (nx N hL hd 12 (by omega) (by omega)) ?_;rintro ⟨r,d'⟩ ⟨h0,h1,h2⟩;dsimp only at h0 h1 h2 ⊢;refine DD (by simp;omega) (DD (by simp;omega) (DD (by simp;omega) (DV ⟨?_,h2⟩)));exact IU (P:=fun x=>x∈VS) (fun x hx=>hx) h0 h1
include hN in
theorem Ahk {d:List Int×Int} (hd:EF L d):Ends (fun r=>okN r.1/\EF L r.2) (Ti N d):=by
 unfold Ti;try simp only[clR]
 refine D8 (nx N hL hd 4 (by omega) (by omega)) ?_;rintro ⟨r,d1,d2⟩ ⟨h0,h1,h2⟩;dsimp only at h0 h1 h2 ⊢;refine F5 (fun x=>0<=x.1/\x.1<4/\EF L (x.2.1,x.2.2.1)/\((x.2.2.2.length:Int)+x.1<=3)/\ ∀ r∈x.2.2.2,r∈Hg) (fun x=>x.1.toNat) ?_ N _ ⟨h0,h1,h2,by simp;omega,fun r hr=>by cases hr⟩ (by dsimp only;omega);rintro ⟨t,a,b,acc⟩ ⟨g0,g1,g2,g3,g4⟩ k hk;dsimp only[U4]at g0 g1 g2 g3 g4 ⊢;refine DI (fun ht=> ?_) (fun _=> ?_)
 ·have ht:=of_decide_eq_true ht;refine D8 (nx N hL g2 5 (by omega) (by omega)) ?_;rintro ⟨r,e1,e2⟩ ⟨f0,f1,f2⟩;dsimp only at f0 f1 f2 ⊢
  have hw:i64.wrap (1+i64.wrap (r.tdiv 4))<=2/\1<=i64.wrap (1+i64.wrap (r.tdiv 4)):=by
   have:r=0\/r=1\/r=2\/r=3\/r=4:=by omega
   rcases this with rfl | rfl | rfl | rfl | rfl<;>decide
  refine F5 (fun x=>0<=x.1/\x.1<=2/\EF L (x.2.1,x.2.2.1)/\((x.2.2.2.1.length:Int)+x.1<=2)/\((x.2.2.2.1=[]/\1<=x.1)\/(∃ y∈VS,x.2.2.2.1=[y])\/(x.2.2.2.1.length=2/\x.2.2.2.1∈Hg))/\x.2.2.2.2=acc) (fun x=>x.1.toNat) ?_ N _ ⟨by dsimp only;omega,hw.1,f2,by simp;omega,Or.inl ⟨rfl,hw.2⟩,rfl⟩ (by dsimp only;omega);rintro ⟨t',a',b',acc',out⟩ ⟨p0,p1,p2,p3,p4,p5⟩ k' hk';dsimp only[U5]at p0 p1 p2 p3 p4 p5 ⊢;subst p5;refine DI (fun ht'=> ?_) (fun ht'=> ?_)
  ·have ht':=of_decide_eq_true ht';refine D8 (AjU N hL p2) ?_;rintro ⟨r,q1,q2⟩ ⟨z0,z1⟩;dsimp only at z0 z1 ⊢
   have taut:(decide ((0:Int)<(acc'.length:Int))||((acc'.length:Nat):Int)==0)=true:=by
    cases acc' with
    | nil=>rfl
    | cons x y=>rw[decide_eq_true (by rw[List.length_cons];omega)];rfl
   have AjG:(decide (0<acc'.length)||((acc'.length:Nat):Int)==0)=true:=by
    cases acc' with
    | nil=>rfl
    | cons x y=>rw[decide_eq_true (by rw[List.length_cons];omega)];rfl
   refine DD (by first | exact taut | exact AjG) (DD (by first | exact taut | exact AjG) (DD (by first | exact taut | exact AjG) ?_))
   have p4':acc'=[]\/ ∃ y∈VS,acc'=[y]:=by
    rcases p4 with ⟨h,_⟩ | h | ⟨h,_⟩
    ·exact Or.inl h
    ·exact Or.inr h
    ·rw[h]at p3;omega
   refine DI (fun hc=> ?_) (fun hc=> ?_)
   ·refine DD (decide_eq_true (by omega)) (hk' _ ⟨?_,?_,z1,?_,?_,rfl⟩ ?_)
    ·dsimp only;rw[w64 (by omega) (by omega)];omega
    ·dsimp only;rw[w64 (by omega) (by omega)];omega
    ·dsimp only;rw[w64 (by omega) (by omega),List.length_append];simp;omega
    ·dsimp only;rcases p4' with rfl | ⟨y,hy,rfl⟩
     ·exact Or.inr (Or.inl ⟨r,z0,rfl⟩)
     ·refine Or.inr (Or.inr ⟨rfl,Asb hy z0 fun e=> ?_⟩);rw[e]at hc;simp at hc
    ·dsimp only;rw[w64 (by omega) (by omega)];omega
   ·refine hk' _ ⟨?_,?_,z1,?_,?_,rfl⟩ ?_
    ·dsimp only;rw[w64 (by omega) (by omega)];omega
    ·dsimp only;rw[w64 (by omega) (by omega)];omega
    ·dsimp only;rw[w64 (by omega) (by omega)];omega
    ·dsimp only;rcases p4' with rfl | h
     ·simp at hc
     ·exact Or.inr (Or.inl h)
    ·dsimp only;rw[w64 (by omega) (by omega)];omega
  ·have ht':=of_decide_eq_false ht';dsimp only[U4]
   have hin:acc'∈Hg:=by
    rcases p4 with ⟨_,h⟩ | ⟨y,hy,rfl⟩ | ⟨_,h⟩
    ·omega
    ·exact AoG hy
    ·exact h
   refine DD (decide_eq_true (by omega)) (hk _ ⟨?_,?_,p2,?_,Sv g4 hin⟩ ?_)
   ·dsimp only;rw[w64 (by omega) (by omega)];omega
   ·dsimp only;rw[w64 (by omega) (by omega)];omega
   ·dsimp only;rw[w64 (by omega) (by omega),List.length_append];simp;omega
   ·dsimp only;rw[w64 (by omega) (by omega)];omega
 ·dsimp only[U3];exact DV ⟨⟨by dsimp only;omega,g4⟩,g2⟩
include hN hL
theorem pO {d:List Int×Int} (hd:EF L d):Ends (fun r=>okG r.1/\EF L r.2) (MF N d):=by
 have hT: ∀(l:List Bs) (k:Int),l.all (fun s=>Al9.contains (k,s,[]))=true-> ∀ s∈l,okG (k,s,[]):=fun l k h s hs=>Or.inl (List.contains_iff_mem.1 (List.all_eq_true.1 h s hs));unfold MF;try simp only[clR]
 refine D8 (nx N hL hd 4 (by omega) (by omega)) ?_;rintro ⟨r,d'⟩ ⟨h0,h1,h2⟩;dsimp only at h0 h1 h2 ⊢;refine DI (fun _=> ?_) (fun _=>DI (fun _=> ?_) (fun _=>DI (fun _=> ?_) (fun _=> ?_)))
 ·refine D8 (nx N hL h2 6 (by omega) (by omega)) ?_;rintro ⟨r,d'⟩ ⟨h0,h1,h2⟩;dsimp only at h0 h1 h2 ⊢;refine DD (decide_eq_true (by omega)) (DD (decide_eq_true (by omega)) (DD (decide_eq_true (by omega)) (DV ⟨IU (P:=fun s=>okG (1,s,[])) (hT _ 1 (by kernel_rfl)) h0 h1,h2⟩)))
 ·refine D8 (nx N hL h2 7 (by omega) (by omega)) ?_;rintro ⟨r,d'⟩ ⟨h0,h1,h2⟩;dsimp only at h0 h1 h2 ⊢;refine DD (decide_eq_true (by omega)) (DD (decide_eq_true (by omega)) (DD (decide_eq_true (by omega)) (DV ⟨IU (P:=fun s=>okG (2,s,[])) (hT _ 2 (by kernel_rfl)) h0 h1,h2⟩)))
 ·refine D8 (nx N hL h2 4 (by omega) (by omega)) ?_;rintro ⟨r,d'⟩ ⟨h0,h1,h2⟩;dsimp only at h0 h1 h2 ⊢;refine DD (decide_eq_true (by omega)) (DD (decide_eq_true (by omega)) (DD (decide_eq_true (by omega)) (DV ⟨IU (P:=fun s=>okG (7,s,[])) (hT _ 7 (by kernel_rfl)) h0 h1,h2⟩)))
 ·refine D8 (Ahk N hN hL h2) ?_;rintro ⟨n,d'⟩ ⟨g0,g1⟩;exact DV ⟨Or.inr ⟨n,g0,rfl⟩,g1⟩
omit hN in
theorem Anu {d:List Int×Int} (hd:EF L d):Ends (fun r=>r.1∈Rl/\EF L r.2) (WO N d):=by
 unfold WO;try simp -zeta only[Ap]
 refine D8 (nx N hL hd 7 (by omega) (by omega)) ?_;rintro ⟨r,d'⟩ ⟨h0,h1,h2⟩;dsimp only at h0 h1 h2 ⊢;exact DD (decide_eq_true (by omega)) (DD (decide_eq_true (by omega)) (DD (decide_eq_true (by omega)) (DV ⟨IU (P:=fun x=>x∈Rl) (fun x hx=>hx) h0 h1,h2⟩)))
omit hL in
theorem YQ {k:Int} (h0:0<=k) (h1:k<16):Ends (fun n=> ∃ j:Nat,j<16/\n=aut j) (H9 N k):=by
 obtain⟨j,rfl⟩: ∃ j:Nat,k=j:=⟨k.toNat,by omega⟩
 exact⟨aut j,(AjV hN (by omega)).made,j,by omega,rfl⟩
theorem Ait {d:List Int×Int} (hd:EF L d):Ends (fun r=>qU r.1/\EF L r.2) (QT N d):=by
 unfold QT;try simp only[clR]
 refine D8 (nx N hL hd 3 (by omega) (by omega)) ?_;rintro ⟨r,d1,d2⟩ ⟨h0,h1,h2⟩;dsimp only at h0 h1 h2 ⊢;rw[w64 (by omega) (by omega)];refine F5 (fun x=>0<=x.1/\x.1<4/\EF L (x.2.1,x.2.2.1)/\((x.2.2.2.length:Int)+x.1<=3)/\(x.2.2.2=[]->1<=x.1)/\ ∀ p∈x.2.2.2,okP p) (fun x=>x.1.toNat) ?_ N _ ⟨by dsimp only;omega,by dsimp only;omega,h2,by simp;omega,(fun _=>by dsimp only;omega),(fun r hr=>by cases hr)⟩ (by dsimp only;omega);rintro ⟨t,a,b,acc⟩ ⟨g0,g1,g2,g3,g5,g4⟩ k hk;dsimp only[U4]at g0 g1 g2 g3 g4 g5 ⊢;refine DI (fun ht=> ?_) (fun ht=>by dsimp only[U3];exact DV ⟨⟨fun e=>by have:=g5 e;have:=of_decide_eq_false ht;omega,by dsimp only;omega,g4⟩,g2⟩);have ht:=of_decide_eq_true ht;refine D8 (pO N hN hL g2) ?_;rintro ⟨g,e⟩ ⟨f0,f1⟩;refine D8 (nx N hL f1 6 (by omega) (by omega)) ?_;rintro ⟨r6,e1,e2⟩ ⟨c0,c1,c2⟩;dsimp only at c0 c1 c2 f0 ⊢;refine DD (decide_eq_true (by omega)) (DD (decide_eq_true (by omega)) (DD (decide_eq_true (by omega)) ?_));have hr: [(0:Int),0,510,2,64,384].getD r6.toNat 0=0\/ [(0:Int),0,510,2,64,384].getD r6.toNat 0∈AhC:=IU (P:=fun x:Int=>x=0\/x∈AhC) (by decide) c0 c1;refine SY (P:=fun x=>EF L (x.1,x.2.1)/\x.2.2.1=[(0:Int),0,510,2,64,384].getD r6.toNat 0/\((x.2.2.2.1=false/\x.2.2.2.2.1=[])\/(x.2.2.2.1=true/\okN x.2.2.2.2.1/\x.2.2.2.2.1≠ []))/\x.2.2.2.2.2.1=[g]/\x.2.2.2.2.2.2=acc) (fun j hj=> ?_) ?_
 ·refine D8 (nx N hL c2 3 (by omega) (by omega)) ?_;rintro ⟨r3,q1,q2⟩ ⟨z0,z1,z2⟩;dsimp only at z0 z1 z2 ⊢;refine DI (fun _=> ?_) (fun _=>hj _ ⟨z2,rfl,Or.inl ⟨rfl,rfl⟩,rfl,rfl⟩);refine D8 (nx N hL z2 16 (by omega) (by omega)) ?_;rintro ⟨r3,q1,q2⟩ ⟨z0,z1,z2⟩;dsimp only at z0 z1 z2 ⊢;refine D8 (YQ N hN z0 z1) ?_;rintro n ⟨i,hi,rfl⟩;have A:=AjV hN hi;exact hj _ ⟨z2,rfl,Or.inr ⟨rfl,A.ok,A.ne⟩,rfl,rfl⟩
 ·rintro ⟨q1,q2,x1,x2,x3,x4,x5⟩ ⟨y1,y2,y3,y4,y5⟩;dsimp only[U7]at y1 y2 y3 y4 y5 ⊢;subst y2 y4 y5;refine DD (decide_eq_true (by omega)) (hk _ ⟨?_,?_,y1,?_,?_,Sv g4 ⟨⟨g,f0,rfl⟩,hr,y3⟩⟩ ?_)
  ·dsimp only;rw[w64 (by omega) (by omega)];omega
  ·dsimp only;rw[w64 (by omega) (by omega)];omega
  ·dsimp only;rw[w64 (by omega) (by omega),List.length_append];simp;omega
  ·intro e;simp at e
  ·dsimp only;rw[w64 (by omega) (by omega)];omega
end
end Go.Proofs.YtfgdgdnlglejbaaGreatDoor.Pl
namespace Go.Proofs.YtfgdgdnlglejbaaGreatDoor.Pl
open IntKind (i64)
open Go Vm
abbrev Info:Type:=Bool×Bool×Int×Int×List Bs×List Bs×List (Bs×Bs)×Int×Int×Int×List Gn×Bool×List Gn×List Gn×Bs×Bs×List Pt×List Pt×List Ex
def VG:List Bs:=[[49,46,50,46,51,46,49],[49,46,50,46,51,46,50],[49,46,50,46,51,46,51],[49,46,50,46,51,46,52],[49,46,50,46,51,46,53],[50,46,57,57,57,46,49],[50,46,57,57,57,46,50],[49,46,50,46,51],[50,46,53,46,50,57,46,51,50,46,48]]
def VK:List Bs:=[[49,46,51,46,54,46,49,46,53,46,53,46,55,46,51,46,49],[49,46,51,46,54,46,49,46,53,46,53,46,55,46,51,46,50],[49,46,51,46,54,46,49,46,53,46,53,46,55,46,51,46,51],[49,46,51,46,54,46,49,46,53,46,53,46,55,46,51,46,52],[50,46,53,46,50,57,46,51,55,46,48]]
def skL:List Bs:=[[],[48,49,50,51,52,53,54,55,56,57,97,98,99,100,101,102],[120]]
def akL:List Bs:=[[],[102,101,100,99,98,97,57,56,55,54,53,52,51,50,49,48]]
def AjZ:List Gn:=[[97,110,110,64,101,120,97,109,112,108,101,46,111,114,103],[101,120,97,109,112,108,101,46,111,114,103],[46,101,120,97,109,112,108,101,46,111,114,103],[69,88,65,77,80,76,69,46,111,114,103],[46,111,114,103],[111,114,103],[109,97,105,108,46,101,120,97,109,112,108,101,46,111,114,103]].map (fun s=>(1,s,[])) ++
 [[101,120,97,109,112,108,101,46,111,114,103],[119,119,119,46,101,120,97,109,112,108,101,46,111,114,103],[],[69,120,97,109,112,108,101,46,79,82,71],[111,114,103],[98],[97,46,98]].map (fun s=>(2,s,[])) ++
 [[10,0,0,0,255,0,0,0],[10,1,0,0,255,255,0,0],[0,0,0,0,0,0,0,0],[10,1,2,3,255,255,255,255],[32,1,0,0,0,0,0,0,0,0,0,0,0,0,0,0,255,255,0,0,0,0,0,0,0,0,0,0,0,0,0,0]].map (fun s=>(7,s,[]))
def okB (g:Gn):Prop:=g∈AjZ\/ ∃ n,okN n/\g=(4,[],n)
structure okS (s:List Gn×List Gn):Prop where
 l0:s.1.length<=3
 l1:s.2.length<=3
 ne:s.1≠ []\/s.2≠ []
 a0: ∀ g∈s.1,okB g
 a1: ∀ g∈s.2,okB g
def AjY:List (Bool×Int):=[(true,-1),(true,0),(true,1),(true,2),(true,3),(false,-1)]
def AkD:List Int:=[-1,0,1,2,3]
def unX (c:Bool):Ex:=([49,46,50,46,51,46,52,46,53],c,[5,0])
def unY:Ex:=([49,46,50,46,51,46,52,46,54],false,[48,3,2,1,7])
def unL:List (List Ex):=[[],[unX true],[unX false],[unX true,unY],[unX false,unY]]
structure AjB (L l:List Bs):Prop where
 len:l.length<=3
 all: ∀ s∈l,s∈L
 nod:l.Nodup
structure AoO (l:List (Bs×Bs)):Prop where
 len:l.length<=3
 all: ∀ m∈l,m.1∈VG/\m.2∈VG
 nod:l.Nodup
structure OkI (x:Info):Prop where
 bas:(x.1=true/\(x.2.1,x.2.2.1)∈AjY)\/(x.1=false/\x.2.1=false/\x.2.2.1= -1)
 us:0<=x.2.2.2.1/\x.2.2.2.1<=511
 pu:AjB VK x.2.2.2.2.1
 po:AjB VG x.2.2.2.2.2.1
 ma:AoO x.2.2.2.2.2.2.1
 re:x.2.2.2.2.2.2.2.1∈AkD
 im:x.2.2.2.2.2.2.2.2.1∈AkD
 ia: -1<=x.2.2.2.2.2.2.2.2.2.1/\x.2.2.2.2.2.2.2.2.2.1<=64
 na:x.2.2.2.2.2.2.2.2.2.2.1.length<=2/\ ∀ g∈x.2.2.2.2.2.2.2.2.2.2.1,okG g
 con:(x.2.2.2.2.2.2.2.2.2.2.2.1=false/\x.2.2.2.2.2.2.2.2.2.2.2.2.1=[]/\x.2.2.2.2.2.2.2.2.2.2.2.2.2.1=[])\/(x.2.2.2.2.2.2.2.2.2.2.2.1=true/\okS (x.2.2.2.2.2.2.2.2.2.2.2.2.1,x.2.2.2.2.2.2.2.2.2.2.2.2.2.1))
 sk:x.2.2.2.2.2.2.2.2.2.2.2.2.2.2.1∈skL
 ak:x.2.2.2.2.2.2.2.2.2.2.2.2.2.2.2.1∈akL
 pt:x.2.2.2.2.2.2.2.2.2.2.2.2.2.2.2.2.1=[]\/qU x.2.2.2.2.2.2.2.2.2.2.2.2.2.2.2.2.1
 fr:x.2.2.2.2.2.2.2.2.2.2.2.2.2.2.2.2.2.1=[]\/qU x.2.2.2.2.2.2.2.2.2.2.2.2.2.2.2.2.2.1
 un:x.2.2.2.2.2.2.2.2.2.2.2.2.2.2.2.2.2.2∈unL
section
variable (N:Nat) (hN:1048578<N) {L:List Int} (hL:L.length<=9223372036854775807)
include hN hL
theorem Agx {d:List Int×Int} (hd:EF L d):Ends (fun r=>okB r.1/\EF L r.2) (Tf N d):=by
 have hT: ∀(l:List Bs) (k:Int),l.all (fun s=>AjZ.contains (k,s,[]))=true-> ∀ s∈l,okB (k,s,[]):=fun l k h s hs=>Or.inl (List.contains_iff_mem.1 (List.all_eq_true.1 h s hs));unfold Tf;try simp only[clR]
 refine D8 (nx N hL hd 4 (by omega) (by omega)) ?_;rintro ⟨r,d'⟩ ⟨h0,h1,h2⟩;dsimp only at h0 h1 h2 ⊢;refine DI (fun _=> ?_) (fun _=>DI (fun _=> ?_) (fun _=>DI (fun _=> ?_) (fun _=> ?_)))
 ·refine D8 (nx N hL h2 7 (by omega) (by omega)) ?_;rintro ⟨r,d'⟩ ⟨h0,h1,h2⟩;dsimp only at h0 h1 h2 ⊢;refine DD (decide_eq_true (by omega)) (DD (decide_eq_true (by omega)) (DD (decide_eq_true (by omega)) (DV ⟨IU (P:=fun s=>okB (1,s,[])) (hT _ 1 (by kernel_rfl)) h0 h1,h2⟩)))
 ·refine D8 (nx N hL h2 7 (by omega) (by omega)) ?_;rintro ⟨r,d'⟩ ⟨h0,h1,h2⟩;dsimp only at h0 h1 h2 ⊢;refine DD (decide_eq_true (by omega)) (DD (decide_eq_true (by omega)) (DD (decide_eq_true (by omega)) (DV ⟨IU (P:=fun s=>okB (2,s,[])) (hT _ 2 (by kernel_rfl)) h0 h1,h2⟩)))
 ·refine D8 (nx N hL h2 5 (by omega) (by omega)) ?_;rintro ⟨r,d'⟩ ⟨h0,h1,h2⟩;dsimp only at h0 h1 h2 ⊢;refine DD (decide_eq_true (by omega)) (DD (decide_eq_true (by omega)) (DD (decide_eq_true (by omega)) (DV ⟨IU (P:=fun s=>okB (7,s,[])) (hT _ 7 (by kernel_rfl)) h0 h1,h2⟩)))
 ·refine D8 (Ahk N hN hL h2) ?_;rintro ⟨n,d'⟩ ⟨g0,g1⟩;exact DV ⟨Or.inr ⟨n,g0,rfl⟩,g1⟩
theorem AmE {d:List Int×Int} (hd:EF L d):Ends (fun r=>okS r.1/\EF L r.2) (Rw N d):=by
 unfold Rw;try simp only[clR]
 refine D8 (nx N hL hd 4 (by omega) (by omega)) ?_;rintro ⟨r,d1,d2⟩ ⟨h0,h1,h2⟩;dsimp only at h0 h1 h2 ⊢;refine F5 (fun x=>0<=x.1/\x.1<4/\EF L (x.2.1,x.2.2.1)/\((x.2.2.2.length:Int)+x.1<=3)/\ ∀ g∈x.2.2.2,okB g) (fun x=>x.1.toNat) ?_ N _ ⟨h0,h1,h2,by simp;omega,(fun r hr=>by cases hr)⟩ (by dsimp only;omega);rintro ⟨t,a,b,acc⟩ ⟨g0,g1,g2,g3,g4⟩ k hk;dsimp only[U4]at g0 g1 g2 g3 g4 ⊢;refine DI (fun ht=> ?_) (fun _=> ?_)
 ·have ht:=of_decide_eq_true ht;refine D8 (Agx N hN hL g2) ?_;rintro ⟨g,e1,e2⟩ ⟨f0,f1⟩;dsimp only at f0 f1 ⊢;refine DD (decide_eq_true (by omega)) (hk _ ⟨?_,?_,f1,?_,Sv g4 f0⟩ ?_)
  ·dsimp only;rw[w64 (by omega) (by omega)];omega
  ·dsimp only;rw[w64 (by omega) (by omega)];omega
  ·dsimp only;rw[w64 (by omega) (by omega),List.length_append];simp;omega
  ·dsimp only;rw[w64 (by omega) (by omega)];omega
 ·dsimp only[U3];refine D8 (nx N hL g2 3 (by omega) (by omega)) ?_;rintro ⟨r,e1,e2⟩ ⟨f0,f1,f2⟩;dsimp only at f0 f1 f2 ⊢;refine F5 (fun x=>0<=x.1/\x.1<3/\EF L (x.2.1,x.2.2.1)/\x.2.2.2.1=acc/\((x.2.2.2.2.length:Int)+x.1<=2)/\ ∀ g∈x.2.2.2.2,okB g) (fun x=>x.1.toNat) ?_ N _ ⟨f0,f1,f2,rfl,by simp;omega,(fun r hr=>by cases hr)⟩ (by dsimp only;omega);rintro ⟨t',a',b',acc',out⟩ ⟨p0,p1,p2,p3,p4,p5⟩ k' hk';dsimp only[U5]at p0 p1 p2 p3 p4 p5 ⊢;subst p3;refine DI (fun ht'=> ?_) (fun _=> ?_)
  ·have ht':=of_decide_eq_true ht';refine D8 (Agx N hN hL p2) ?_;rintro ⟨g,q1,q2⟩ ⟨z0,z1⟩;dsimp only at z0 z1 ⊢;refine DD (decide_eq_true (by omega)) (hk' _ ⟨?_,?_,z1,rfl,?_,Sv p5 z0⟩ ?_)
   ·dsimp only;rw[w64 (by omega) (by omega)];omega
   ·dsimp only;rw[w64 (by omega) (by omega)];omega
   ·dsimp only;rw[w64 (by omega) (by omega),List.length_append];simp;omega
   ·dsimp only;rw[w64 (by omega) (by omega)];omega
  ·dsimp only[U4];refine DI (fun _=> ?_) (fun hc=>DV ⟨⟨by dsimp only;omega,by dsimp only;omega,?_,g4,p5⟩,p2⟩)
   ·refine D8 (Agx N hN hL p2) ?_;rintro ⟨g,q1,q2⟩ ⟨z0,z1⟩;dsimp only at z0 z1 ⊢;refine DD (decide_eq_true (by omega)) (DV ⟨⟨by dsimp only;omega,?_,Or.inr (by simp),g4,Sv p5 z0⟩,z1⟩);dsimp only;rw[List.length_append];simp;omega
   ·dsimp only;by_cases e1:acc'=[]
    ·refine Or.inr fun e2=> ?_;subst e1 e2;cases hc
    ·exact Or.inl e1
end
section
variable (N:Nat) (hN:1048578<N) {L:List Int} (hL:L.length<=9223372036854775807)
theorem Aa2 {k:Int} (h0:0<=k) (h1:k<9):Ends (fun s=>s∈VG) (Oe N k):=by
 unfold Oe;try simp -zeta only[Ap]
 have h:k.tmod 9=k:=by
  have:k=0\/k=1\/k=2\/k=3\/k=4\/k=5\/k=6\/k=7\/k=8:=by omega
  rcases this with rfl | rfl | rfl | rfl | rfl | rfl | rfl | rfl | rfl<;>rfl
 rw[h];exact DD (decide_eq_true (by omega)) (DD (decide_eq_true (by omega)) (DD (decide_eq_true (by omega)) (DV (IU (P:=fun s=>s∈VG) (fun s hs=>hs) h0 h1))))
theorem take_any {α :Type} (p: α ->Bool) {l:List α} {i:Nat} (hi:i<l.length) (d: α):(l.take (i+1)).any p=((l.take i).any p||p (l.getD i d)):=by rw[List.take_add_one,List.getElem?_eq_getElem hi,getD_lt l i d hi,List.any_append];simp
theorem Aim {α :Type} {l:List α} {x: α} (h:l.Nodup) (hx:x∉l):(l++[x]).Nodup:=by rw[List.nodup_append];refine⟨h,List.nodup_cons.2 ⟨List.not_mem_nil,List.nodup_nil⟩,fun a ha b hb=> ?_⟩;rw[List.mem_singleton.1 hb];exact fun e=>hx (e▸ha)
include hN hL in
theorem Ank {d:List Int×Int} (p:Bool) (hd:EF L d):Ends (fun r=>(AjB (bif p then VK else VG) r.1)/\EF L r.2) (WQ N d p):=by
 unfold WQ;try simp only[clR]
 refine D8 (nx N hL hd 3 (by omega) (by omega)) ?_;rintro ⟨r,d1,d2⟩ ⟨h0,h1,h2⟩;dsimp only at h0 h1 h2 ⊢;rw[w64 (by omega) (by omega)];refine F5 (fun x=>0<=x.1/\x.1<4/\EF L (x.2.1,x.2.2.1)/\((x.2.2.2.length:Int)+x.1<=3)/\(∀ s∈x.2.2.2,s∈(bif p then VK else VG))/\x.2.2.2.Nodup) (fun x=>x.1.toNat) ?_ N _ ⟨by dsimp only;omega,by dsimp only;omega,h2,by simp;omega,(fun r hr=>by cases hr),List.nodup_nil⟩ (by dsimp only;omega);rintro ⟨t,a,b,acc⟩ ⟨g0,g1,g2,g3,g4,g5⟩ k hk;dsimp only[U4]at g0 g1 g2 g3 g4 g5 ⊢;refine DI (fun ht=> ?_) (fun _=>by dsimp only[U3];exact DV ⟨⟨by dsimp only;omega,g4,g5⟩,g2⟩);have ht:=of_decide_eq_true ht;refine D8 (nx N hL g2 9 (by omega) (by omega)) ?_;rintro ⟨r9,e1,e2⟩ ⟨c0,c1,c2⟩;dsimp only at c0 c1 c2 ⊢;refine D8 (Aa2 N c0 c1) ?_;intro s hs;refine SY (P:=fun x=>x.1∈(bif p then VK else VG)/\EF L (x.2.1,x.2.2.1)/\x.2.2.2=acc) (fun j hj=> ?_) ?_
 ·cases p with
  | false=>exact hj _ ⟨hs,c2,rfl⟩
  | true =>simp only[cond_true];refine D8 (nx N hL c2 5 (by omega) (by omega)) ?_;rintro ⟨r3,q1,q2⟩ ⟨z0,z1,z2⟩;dsimp only at z0 z1 z2 ⊢;exact DD (decide_eq_true (by omega)) (DD (decide_eq_true (by omega)) (DD (decide_eq_true (by omega)) (hj _ ⟨IU (P:=fun s=>s∈VK) (fun s hs=>hs) z0 z1,z2,rfl⟩)))
 ·rintro ⟨s,q1,q2,x⟩ ⟨y1,y2,y3⟩;dsimp only at y1 y2 y3;subst y3;dsimp only[U4];refine F5 (fun z=>0<=z.2.1/\z.2.1<=(x.length:Int)/\EF L (z.2.2.1,z.2.2.2.1)/\z.2.2.2.2=x/\z.1=(x.take z.2.1.toNat).any (fun y=>s==y)) (fun z=>x.length - z.2.1.toNat) ?_ N _ ⟨Int.le_refl _,by dsimp only;omega,y2,rfl,rfl⟩ (by dsimp only;omega);rintro ⟨w1,i,a',b',x'⟩ ⟨p0,p1,p2,p3,p4⟩ k' hk';dsimp only[U5]at p0 p1 p2 p3 p4 ⊢;subst p3;refine DI (fun hi=> ?_) (fun hi=> ?_)
  ·have hi:=of_decide_eq_true hi;refine DD (decide_eq_true (by omega)) (DD (decide_eq_true (by omega)) (DD (decide_eq_true (by omega)) (hk' _ ⟨?_,?_,p2,rfl,?_⟩ ?_)))
   ·dsimp only;rw[w64 (by omega) (by omega)];omega
   ·dsimp only;rw[w64 (by omega) (by omega)];omega
   ·dsimp only;rw[w64 (by omega) (by omega),show(i+1).toNat=i.toNat+1 by omega,take_any _ (by omega) [],p4]
   ·dsimp only;rw[w64 (by omega) (by omega)];omega
  ·have hi:=of_decide_eq_false hi;rw[List.take_of_length_le (by omega)]at p4;dsimp only[U4];refine DI (fun hc=> ?_) (fun _=> ?_)
   ·have hnot:s∉x':=fun hm=>by
     rw[p4,List.any_eq_true.2 ⟨s,hm,beq_self_eq_true s⟩]at hc;cases hc
    refine DD (decide_eq_true (by omega)) (hk _ ⟨?_,?_,p2,?_,Sv g4 y1,Aim g5 hnot⟩ ?_)
    ·dsimp only;rw[w64 (by omega) (by omega)];omega
    ·dsimp only;rw[w64 (by omega) (by omega)];omega
    ·dsimp only;rw[w64 (by omega) (by omega),List.length_append];simp;omega
    ·dsimp only;rw[w64 (by omega) (by omega)];omega
   ·refine hk _ ⟨?_,?_,p2,?_,g4,g5⟩ ?_
    ·dsimp only;rw[w64 (by omega) (by omega)];omega
    ·dsimp only;rw[w64 (by omega) (by omega)];omega
    ·dsimp only;rw[w64 (by omega) (by omega)];omega
    ·dsimp only;rw[w64 (by omega) (by omega)];omega
include hN hL in
theorem Amw {d:List Int×Int} (hd:EF L d):Ends (fun r=>AoO r.1/\EF L r.2) (Rx N d):=by
 unfold Rx;try simp only[clR]
 refine D8 (nx N hL hd 3 (by omega) (by omega)) ?_;rintro ⟨r,d1,d2⟩ ⟨h0,h1,h2⟩;dsimp only at h0 h1 h2 ⊢;rw[w64 (by omega) (by omega)];refine F5 (fun x=>0<=x.1/\x.1<4/\EF L (x.2.1,x.2.2.1)/\((x.2.2.2.length:Int)+x.1<=3)/\(∀ m∈x.2.2.2,m.1∈VG/\m.2∈VG)/\x.2.2.2.Nodup) (fun x=>x.1.toNat) ?_ N _ ⟨by dsimp only;omega,by dsimp only;omega,h2,by simp;omega,(fun r hr=>by cases hr),List.nodup_nil⟩ (by dsimp only;omega);rintro ⟨t,a,b,acc⟩ ⟨g0,g1,g2,g3,g4,g5⟩ k hk;dsimp only[U4]at g0 g1 g2 g3 g4 g5 ⊢;refine DI (fun ht=> ?_) (fun _=>by dsimp only[U3];exact DV ⟨⟨by dsimp only;omega,g4,g5⟩,g2⟩);have ht:=of_decide_eq_true ht;refine D8 (nx N hL g2 9 (by omega) (by omega)) ?_;rintro ⟨r9,e1,e2⟩ ⟨c0,c1,c2⟩;dsimp only at c0 c1 c2 ⊢;refine D8 (Aa2 N c0 c1) ?_;intro s hs;refine D8 (nx N hL c2 9 (by omega) (by omega)) ?_;rintro ⟨r9,e1,e2⟩ ⟨c0,c1,c2⟩;dsimp only at c0 c1 c2 ⊢;refine D8 (Aa2 N c0 c1) ?_;intro s2 hs2;refine F5 (fun z=>0<=z.2.1/\z.2.1<=(acc.length:Int)/\EF L (z.2.2.1,z.2.2.2.1)/\z.2.2.2.2.1=s/\z.2.2.2.2.2.1=s2/\z.2.2.2.2.2.2=acc/\z.1=(acc.take z.2.1.toNat).any (fun y=>s==y.1&&(s2==y.2&&true))) (fun z=>acc.length - z.2.1.toNat) ?_ N _ ⟨Int.le_refl _,by dsimp only;omega,c2,rfl,rfl,rfl,rfl⟩ (by dsimp only;omega);rintro ⟨w1,i,a',b',s',s2',x'⟩ ⟨p0,p1,p2,p3,p4,p5,p6⟩ k' hk';dsimp only[U7]at p0 p1 p2 p3 p4 p5 p6 ⊢;subst p3 p4 p5;refine DI (fun hi=> ?_) (fun hi=> ?_)
 ·have hi:=of_decide_eq_true hi;refine DD (decide_eq_true (by omega)) (DD (decide_eq_true (by omega)) (DD (decide_eq_true (by omega)) (hk' _ ⟨?_,?_,p2,rfl,rfl,rfl,?_⟩ ?_)))
  ·dsimp only;rw[w64 (by omega) (by omega)];omega
  ·dsimp only;rw[w64 (by omega) (by omega)];omega
  ·dsimp only;rw[w64 (by omega) (by omega),show(i+1).toNat=i.toNat+1 by omega,take_any _ (by omega) ([],[]),p6]
  ·dsimp only;rw[w64 (by omega) (by omega)];omega
 ·have hi:=of_decide_eq_false hi;rw[List.take_of_length_le (by omega)]at p6;dsimp only[U6];refine DI (fun hc=> ?_) (fun _=> ?_)
  ·have hnot:(s',s2')∉x':=fun hm=>by
    rw[p6,List.any_eq_true.2 ⟨(s',s2'),hm,by simp⟩]at hc;cases hc
   refine DD (decide_eq_true (by omega)) (hk _ ⟨?_,?_,p2,?_,Sv g4 ⟨hs,hs2⟩,Aim g5 hnot⟩ ?_)
   ·dsimp only;rw[w64 (by omega) (by omega)];omega
   ·dsimp only;rw[w64 (by omega) (by omega)];omega
   ·dsimp only;rw[w64 (by omega) (by omega),List.length_append];simp;omega
   ·dsimp only;rw[w64 (by omega) (by omega)];omega
  ·refine hk _ ⟨?_,?_,p2,?_,g4,g5⟩ ?_
   ·dsimp only;rw[w64 (by omega) (by omega)];omega
   ·dsimp only;rw[w64 (by omega) (by omega)];omega
   ·dsimp only;rw[w64 (by omega) (by omega)];omega
   ·dsimp only;rw[w64 (by omega) (by omega)];omega
theorem Aua:OkI (false,false,-1,0,[],[],[],-1,-1,-1,[],false,[],[],[],[],[],[],[]) :=
 ⟨Or.inr ⟨rfl,rfl,rfl⟩,by decide,⟨Nat.zero_le _,(fun s hs=>by cases hs),List.nodup_nil⟩,⟨Nat.zero_le _,(fun s hs=>by cases hs),List.nodup_nil⟩,⟨Nat.zero_le _,(fun s hs=>by cases hs),List.nodup_nil⟩,by decide,by decide,by decide,⟨Nat.zero_le _,fun s hs=>by cases hs⟩,Or.inl ⟨rfl,rfl,rfl⟩,by decide,by decide,Or.inl rfl,Or.inl rfl,by decide⟩
theorem five {n:Int} (h0:0<=n) (h1:n<5):i64.wrap (n - 1)∈AkD/\(true,i64.wrap (n - 1))∈AjY:=by
 have:n=0\/n=1\/n=2\/n=3\/n=4:=by omega
 rcases this with rfl | rfl | rfl | rfl | rfl<;>exact⟨by decide,by decide⟩
theorem At1 {α :Type} {l:List α} {a b:Nat} {x: α} (h:x∈D9 l a b):x∈l:=List.mem_of_mem_take (List.mem_of_mem_drop h)
include hN hL in
theorem AtN {d:List Int×Int} (hd:EF L d):Ends (fun r=>OkI r.1/\EF L r.2) (dX N d):=by
 unfold dX;try simp only[clR]
 rw[show rW N=some (false,false,-1,0,[],[],[],-1,-1,-1,[],false,[],[],[],[],[],[],[])from rfl,Dz];refine D8 (nx N hL hd 6 (by omega) (by omega)) ?_;rintro ⟨r,d1,d2⟩ ⟨h0,h1,h2⟩;dsimp only at h0 h1 h2 ⊢;refine F5 (fun x=>0<=x.1/\x.1<6/\EF L (x.2.1,x.2.2.1)/\OkI x.2.2.2) (fun x=>x.1.toNat) ?_ N _ ⟨h0,h1,h2,Aua⟩ (by dsimp only;omega);rintro ⟨t,a,b,hb,ca,pl,us,pu,po,ma,re,im,ia,na,hc,pe,ex,sk,ak,pt,fr,un⟩ ⟨g0,g1,g2,P⟩ k hk;dsimp only at g0 g1 g2 P hk;dsimp only[U22];refine DI (fun ht=> ?_) (fun _=> ?_)
 ·have ht:=of_decide_eq_true ht;have go: ∀(a':List Int) (b':Int) (i:Info),EF L (a',b')->OkI i->Ends (fun r=>OkI r.1/\EF L r.2) (k (i64.wrap (t - 1),a',b',i)):=by intro a' b' i hda hP;rw[w64 (by omega) (by omega)];exact hk (t - 1,a',b',i) ⟨by dsimp only;omega,by dsimp only;omega,hda,hP⟩ (by dsimp only;omega)
  refine D8 (nx N hL g2 14 (by omega) (by omega)) ?_;rintro ⟨r,d1,d2⟩ ⟨h0,h1,h2⟩;dsimp only at h0 h1 h2 ⊢;refine SY (P:=fun x=> ∃ q,x=(q,d1,d2,hb,ca,pl,us,pu,po,ma,re,im,ia,na,hc,pe,ex,sk,ak,pt,fr,un)) (fun j hj=>DI (fun _=>hj _ ⟨_,rfl⟩) (fun _=>hj _ ⟨_,rfl⟩)) ?_;rintro _ ⟨q,rfl⟩;dsimp only[U22];refine DI (fun _=> ?_) (fun _=>DI (fun _=> ?_) (fun _=>DI (fun _=> ?_) (fun _=>DI (fun _=> ?_) (fun _=>DI (fun _=> ?_) (fun _=>DI (fun _=> ?_) (fun _=>DI (fun _=> ?_) (fun _=>DI (fun _=> ?_) (fun _=>DI (fun _=> ?_) (fun _=>DI (fun _=> ?_) (fun _=>DI (fun _=> ?_) (fun _=>DI (fun _=> ?_) (fun _=> ?_))))))))))))
  ·refine D8 (nx N hL h2 5 (by omega) (by omega)) ?_;rintro ⟨r,e1,e2⟩ ⟨f0,f1,f2⟩;dsimp only at f0 f1 f2 ⊢;exact go _ _ _ f2 {P with bas:=Or.inl ⟨rfl,(five f0 f1).2⟩}
  ·exact go _ _ _ h2 {P with bas:=Or.inl ⟨rfl,(by decide:(false,(-1:Int))∈AjY)⟩}
  ·refine D8 (nx N hL h2 511 (by omega) (by omega)) ?_;rintro ⟨r,e1,e2⟩ ⟨f0,f1,f2⟩;dsimp only at f0 f1 f2 ⊢;exact go _ _ _ f2 {P with us:=by dsimp only;rw[w64 (by omega) (by omega)];omega}
  ·refine D8 (Ank N hN hL true h2) ?_;rintro ⟨r,e1,e2⟩ ⟨f0,f2⟩;exact go _ _ _ f2 {P with pu:=f0}
  ·refine D8 (Ank N hN hL false h2) ?_;rintro ⟨r,e1,e2⟩ ⟨f0,f2⟩;exact go _ _ _ f2 {P with po:=f0}
  ·refine D8 (Amw N hN hL h2) ?_;rintro ⟨r,e1,e2⟩ ⟨f0,f2⟩;exact go _ _ _ f2 {P with ma:=f0}
  ·refine D8 (nx N hL h2 5 (by omega) (by omega)) ?_;rintro ⟨r,e⟩ ⟨f0,f1,f2⟩;refine D8 (nx N hL f2 5 (by omega) (by omega)) ?_;rintro ⟨r2,e1,e2⟩ ⟨c0,c1,c2⟩;dsimp only at f0 f1 c0 c1 c2 ⊢;exact go _ _ _ c2 {P with re:=(five f0 f1).1,im:=(five c0 c1).1}
  ·refine D8 (nx N hL h2 65 (by omega) (by omega)) ?_;rintro ⟨r,e1,e2⟩ ⟨f0,f1,f2⟩;dsimp only at f0 f1 f2 ⊢;exact go _ _ _ f2 {P with ia:=by dsimp only;omega}
  ·refine D8 (pO N hN hL h2) ?_;rintro ⟨x,e⟩ ⟨f0,f2⟩;refine D8 (pO N hN hL f2) ?_;rintro ⟨y,e⟩ ⟨f1,f2⟩;refine D8 (nx N hL f2 2 (by omega) (by omega)) ?_;rintro ⟨r2,e1,e2⟩ ⟨c0,c1,c2⟩;dsimp only at f0 f1 c0 c1 c2 ⊢;rw[w64 (by omega) (by omega)];refine DD (decide_eq_true (by omega)) (DD (decide_eq_true (by omega)) ?_);refine go _ _ _ c2 {P with na:=⟨?_,fun g hg=> ?_⟩}
   ·unfold D9;rw[List.length_drop,List.length_take];simp;omega
   ·rcases List.mem_cons.1 (At1 hg)with rfl | hg
    ·exact f0
    ·rw[List.mem_singleton.1 hg];exact f1
  ·refine D8 (AmE N hN hL h2) ?_;rintro ⟨⟨x,y⟩,e1,e2⟩ ⟨f0,f2⟩;exact go _ _ _ f2 {P with con:=Or.inr ⟨rfl,f0⟩}
  ·refine D8 (nx N hL h2 3 (by omega) (by omega)) ?_;rintro ⟨r,e⟩ ⟨f0,f1,f2⟩;dsimp only at f0 f1 f2 ⊢;refine DD (decide_eq_true (by omega)) (DD (decide_eq_true (by omega)) (DD (decide_eq_true (by omega)) ?_));refine D8 (nx N hL f2 2 (by omega) (by omega)) ?_;rintro ⟨r2,e1,e2⟩ ⟨c0,c1,c2⟩;dsimp only at c0 c1 c2 ⊢;refine DD (decide_eq_true (by omega)) (DD (decide_eq_true (by omega)) (DD (decide_eq_true (by omega)) ?_));exact go _ _ _ c2 {P with sk:=IU (P:=fun s=>s∈skL) (fun s hs=>hs) f0 f1,ak:=IU (P:=fun s=>s∈akL) (fun s hs=>hs) c0 c1}
  ·refine D8 (Ait N hN hL h2) ?_;rintro ⟨r,e1,e2⟩ ⟨f0,f2⟩;exact go _ _ _ f2 {P with pt:=Or.inr f0}
  ·refine D8 (Ait N hN hL h2) ?_;rintro ⟨r,e⟩ ⟨f0,f2⟩;refine D8 (nx N hL f2 2 (by omega) (by omega)) ?_;rintro ⟨r2,e⟩ ⟨c0,c1,c2⟩;refine D8 (nx N hL c2 3 (by omega) (by omega)) ?_;rintro ⟨r3,e1,e2⟩ ⟨z0,z1,z2⟩;dsimp only at f0 c0 c1 z0 z1 z2 ⊢;refine DD (decide_eq_true (by omega)) (DD (decide_eq_true (by omega)) ?_);refine go _ _ _ z2 {P with fr:=Or.inr f0,un:= ?_};have hz:r3=0\/r3=1\/r3=2:=by omega
   rcases hz with rfl | rfl | rfl
   ·exact List.mem_cons_self
   ·dsimp only;cases r2==1<;>decide
   ·dsimp only;cases r2==1<;>decide
 ·dsimp only[U21];exact DV ⟨P,g2⟩
end
