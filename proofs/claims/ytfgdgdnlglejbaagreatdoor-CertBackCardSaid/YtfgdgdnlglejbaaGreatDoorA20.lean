import Derived.Test.YtfgdgdnlglejbaaGreatDoorA19
set_option linter.all false
namespace Go.Proofs.YtfgdgdnlglejbaaGreatDoor.Pl
open IntKind (i64)
open Go Vm
abbrev Gn:Type:=Int×Bs×List (List Att)
def Aet:List Gn:=[[97,110,110,64,101,120,97,109,112,108,101,46,111,114,103],[65,78,78,64,101,120,97,109,112,108,101,46,111,114,103],[97,110,110,64,69,120,97,109,112,108,101,46,79,82,71],[98,46,99,64,109,97,105,108,46,101,120,97,109,112,108,101,46,111,114,103],[120,64,111,114,103],[97,39,98,64,97,46,98]].map (fun s=>(1,s,[])) ++
 [[101,120,97,109,112,108,101,46,111,114,103],[119,119,119,46,101,120,97,109,112,108,101,46,111,114,103],[87,87,87,46,69,120,97,109,112,108,101,46,111,114,103],[42,46,101,120,97,109,112,108,101,46,111,114,103],[97,46,98],[111,114,103],[109,121,101,120,97,109,112,108,101,46,111,114,103]].map (fun s=>(2,s,[])) ++
 [[10,0,0,1],[10,1,2,3],[192,168,1,7],[32,1,13,184,0,0,0,0,0,0,0,0,0,0,0,1]].map (fun s=>(7,s,[]))
def okG (g:Gn):Prop:=g∈Aet\/ ∃ n,okN n/\g=(4,[],n)
def gnK (g:Gn):Gn:=(g.1,g.2.1,nmC g.2.2)
def gnT (g:Gn):Nat×Bs:=bif g.1==4 then(164,nmT g.2.2)else((128+g.1).toNat,g.2.1)
def F5 (g:Gn):Bs:=Sp.elem (gnT g).1 (gnT g).2
def TY (g:Gn):El:=Ea (gnT g).1 (gnT g).2
def ArG (M:Nat) (g:Gn):Bool:=GH (M+300) g false==some 0&&(FY (M+300) g false==some 0&&(G6 (M+300) g false==some (F5 g,0)&&(H7 (M+300) g false==some (F5 g,0) &&
 (GV (M+300) (TY g) false==some (g,0)&&(g.2.2.isEmpty&&(decide ((gnT g).2.length<=40)&&(decide ((gnT g).1<256)&&(decide ((gnT g).1 % 32≠31)&& !Sp.cons (gnT g).1))))))))
theorem Arb (M:Nat):Aet.all (ArG M)=true:=by kernel_rfl
structure Atb (N:Nat) (g:Gn):Prop where
 chk:GH N g false=some 0
 AqE:FY N g false=some 0
 enc:G6 N g false=some (F5 g,0)
 Ana:H7 N g false=some (F5 g,0)
 dec:GV N (TY g) false=some (gnK g,0)
 fine:Fine (gnT g)
 len:(gnT g).2.length<=620
 Afb:gnT (gnK g)=gnT g
 okK:okG (gnK g)
 par: ∀ d,d<=6->Par d (F5 g) [TY g]
section
variable {N:Nat} (hN:1048578<N)
include hN
theorem As5 {n:List (List Att)} (hn:okN n) {d:Nat} (hd:d<=8):QW d (nmB n):=AkV hd (AoL hN hn).nest
theorem zT {n:List (List Att)} (hn:okN n) {d:Nat} (hd:d<=7):Par d (nmT n) [Ea 48 (nmB n)]:=GM (AkW hN hn) (by omega) (As5 hN hn (by omega))
theorem Atw {n:List (List Att)} (hn:okN n):Atb N (4,[],n):=by
 have h1:=KX hN hn;have h2:=fH hN hn;have h3:=VT hN hn;have h4:=xZ hN hn;have h5:=fG hN hn;have hC:=zU hN hn;have h6:=KX hN hC;have hl:=kE hN hn;have w:Ej N 164 [nmT n]=_:=SQ N 164 [nmT n] (by omega) (by omega) hN (by simp) (by rw[EI];omega);have v:FZ N 164 [nmT n]=_:=AmY N 164 [nmT n] (by omega) (by omega) hN (by simp) (by rw[EI];omega);rw[EI]at w v
 have c1: ∀ m:List (List Att),Hf N m=some 0->GH N (4,[],m) false=some 0:=by
  intro m hm;unfold GH mX;try simp only[clR]
  simp (disch:=first | assumption | omega) only[DT,hm,Option.isSome_some,Option.getD_some];try rfl
 have c2:FY N (4,[],n) false=some 0:=by
  unfold FY;try simp only[clR]
  dsimp only[U4,Gm];simp (disch:=first | assumption | omega) only[DT,h2,Option.isSome_some,Option.getD_some];try rfl
 have hf:Fine (164,nmT n):=(FV (by decide) (by decide) (by omega))
 refine⟨c1 n h1,c2,?_,?_,?_,hf,hl,?_,Or.inr ⟨_,hC,rfl⟩,fun d hd=>GM hf (by omega) (zT hN hn (by omega)).nest⟩
 ·unfold G6;try simp only[clR]
  simp (disch:=first | assumption | omega) only[DT,c1 n h1,h3];show Dj (Ej N 164 [nmT n]) _=_;rw[w];rfl
 ·unfold H7;try simp only[clR]
  simp (disch:=first | assumption | omega) only[DT,c2,h4];show Dj (FZ N 164 [nmT n]) _=_;rw[v];rfl
 ·have c3:=c1 _ h6;unfold GV;try simp only[clR]
  show _=some ((4,[],nmC n),0);dsimp only[TY,gnT,Ea];simp (disch:=first | assumption | omega) only[DT,h5,c3,Abu];try rfl
 ·show(164,nmT (nmC n))=(164,nmT n);unfold nmT;rw[Ah4 hN hn]
theorem RN {g:Gn} (h:okG g):Atb N g:=by
 rcases h with h | ⟨n,hn,rfl⟩
 ·have hh:=h;obtain⟨M,rfl⟩:=ofM hN;have h:=List.all_eq_true.1 (Arb M) g h;unfold ArG at h;simp only[Bool.and_eq_true,beq_iff_eq,decide_eq_true_eq,Bool.not_eq_true',List.isEmpty_iff]at h;obtain⟨h1,h2,h3,h4,h5,h6,h7,h8,h9,h10⟩:=h;have hk:gnK g=g:=by obtain⟨k,s,n⟩:=g;dsimp only at h6;subst h6;rfl
  have hf:Fine (gnT g):=⟨h8,h9,by omega⟩
  exact⟨h1,h2,h3,h4,by rw[hk];exact h5,hf,by omega,by rw[hk],by rw[hk];exact Or.inl hh,fun d hd=>JF hf (by omega) h10⟩
 ·exact Atw hN hn
theorem mQ {g:Gn} (h:okG g):(F5 g).length<=625:=by have:=(RN hN h).len;have:=Sp.DF (gnT g).1 (gnT g).2;unfold F5;omega
end
def AiR (l:List Gn):Prop:=l.length<=2/\ ∀ g∈l,okG g
def EP (l:List Gn):Bs:=(l.map F5).flatten
section
variable {N:Nat} (hN:1048578<N) {l:List Gn} (hl:AiR l)
include hN hl
theorem Qe:(EP l).length<=1250:=by have:=Gs (g:=F5) (M:=625) (l:=l) fun g hg=>mQ hN (hl.2 g hg);have:=hl.1;unfold EP;omega
theorem AbT {d:Nat} (hd:d<=6):Par d (EP l) (l.map TY):=TA fun g hg=>(RN hN (hl.2 g hg)).par d hd
theorem Auc:AiR (l.map gnK):=⟨by rw[List.length_map];exact hl.1,fun g hg=>by obtain⟨x,hx,rfl⟩:=List.mem_map.1 hg;exact(RN hN (hl.2 x hx)).okK⟩
theorem AkT:EP (l.map gnK)=EP l:=by unfold EP;rw[List.map_map];congr 1;exact List.map_congr_left fun g hg=>by show Sp.elem _ _=Sp.elem _ _;rw[(RN hN (hl.2 g hg)).Afb]
theorem AaZ:I7 N l=some 0:=by
 have h2:=hl.1;unfold I7;try simp only[clR]
 refine GY (fun i=>(i:Int)) l.length _ ?_ ?_ N (by omega)
 ·intro i hi k;have h:=(RN hN (hl.2 _ (getD_mem (0,[],[]) hi))).chk;simp (disch:=first | assumption | omega) only[DT,h,ES];try rfl
 ·intro k;simp (disch:=first | assumption | omega) only[DT]
theorem AaS (h0:l≠ []):J9 N l=some (EP l,0):=by
 have h2:=hl.1;have hp:=List.length_pos_iff.2 h0;have hb:=Qe hN hl;unfold EP at hb;unfold J9 Rt;try simp only[clR]
 simp (disch:=first | assumption | omega) only[DT];refine(Ae9 (mk:=fun i t=>(t,(i:Int))) l (0,[],[]) F5 (fun t=>some (t,0)) ?_ ?_ N (by omega)).trans rfl
 ·intro i t hi ht k;have h:=(RN hN (hl.2 _ (getD_mem (0,[],[]) hi))).enc;simp (disch:=first | assumption | omega) only[DT,h,ES];try rfl
 ·intro t k;simp (disch:=first | assumption | omega) only[DT]
theorem fC (h0:l≠ []):Iw N (EP l)=some (l.map gnK,0):=by
 have h2:=hl.1;have hp:=List.length_pos_iff.2 h0;have hb:=Qe hN hl;have h3:=(AbT hN hl (d:=0) (by omega)).list;have h4:=Ii N (EP l) (by omega) (by omega) (by omega);rw[h3]at h4;have hlm:(l.map TY).length=l.length:=List.length_map _;unfold Iw Rt;try simp only[clR]
 simp (disch:=first | assumption | omega) only[DT,h4,hlm];refine(KH (mk:=fun i acc=>((i:Int),acc)) (l.map TY) (0,[],[]) (fun e=>((GV N e false).getD default).1) (fun acc=>some (acc,0)) ?_ ?_ N (by omega)).trans ?_
 ·intro i acc hi ha k;rw[hlm]at hi;have hr:=(RN hN (hl.2 _ (getD_mem (0,[],[]) hi))).dec;have hg:(l.map TY).getD i (0,[],[])=TY (l.getD i (0,[],[])):=by rw[getD_lt _ _ _ (by rw[hlm];exact hi),List.getElem_map,getD_lt l i _ hi]
  simp (disch:=first | assumption | omega) only[DT,hg,hlm,hr,ES,Option.getD_some];try rfl
 ·intro acc k ha;simp (disch:=first | assumption | omega) only[DT,hlm]
 ·rw[List.map_map];congr 2;exact List.map_congr_left fun g hg=>by show((GV N (TY g) false).getD default).1=_;rw[(RN hN (hl.2 g hg)).dec];rfl
end
end Go.Proofs.YtfgdgdnlglejbaaGreatDoor.Pl
namespace Go.Proofs.YtfgdgdnlglejbaaGreatDoor.Pl
open IntKind (i64)
open Go Vm
def inB (n:Int):Bs:=(KC 300 n).getD []
def Amu (M:Nat) (n:Nat):Bool:=KC (M+300) (n:Int)==some (inB n)&&(ZA (M+300) (n:Int)==some (inB n)&&(NP (M+300) (inB n)==some ((n:Int),0)&&decide ((inB n).length<=2)))
theorem Asw (M:Nat):(List.range 256).all (Amu M)=true:=by kernel_rfl
structure zG (N:Nat) (n:Int):Prop where
 put:KC N n=some (inB n)
 Aux:ZA N n=some (inB n)
 int:NP N (inB n)=some (n,0)
 len:(inB n).length<=2
theorem Ai3 {N:Nat} (hN:1048578<N) {n:Int} (h0:0<=n) (h1:n<256):zG N n:=by
 obtain⟨M,rfl⟩:=ofM hN;obtain⟨k,rfl⟩: ∃ k:Nat,n=k:=⟨n.toNat,by omega⟩
 have h:=List.all_eq_true.1 (Asw M) k (List.mem_range.2 (by omega));unfold Amu at h;simp only[Bool.and_eq_true,beq_iff_eq,decide_eq_true_eq]at h;obtain⟨h1,h2,h3,h4⟩:=h;exact⟨h1,h2,h3,h4⟩
def Ho (t:Nat) (n:Int):Bs:=Sp.elem t (inB n)
def Amt (t:Nat) (n:Int):El:=Ea t (inB n)
theorem Ai2 {N:Nat} {n:Int} (h:zG N n) {t:Nat} (ht:t<256) (h31:t % 32≠31):Fine (t,inB n):=⟨ht,h31,by have:=h.len;show(inB n).length<=_;omega⟩
def Qr:List Int:=[0,1000,2000000000,3155759999,3155760000,254033452799,2400000000]
def UM (t:Int):Bs:=((OJ 300 t).getD default).1
def Ns (t:Int):Nat×Bs:=(((UM t).headD 0).toNat,(UM t).drop 2)
def Aju (t:Int):El:=Ea (Ns t).1 (Ns t).2
def Au8 (M:Nat) (t:Int):Bool:=OJ (M+300) t==some (UM t,0)&&(Z9 (M+300) t==some (UM t,0)&&(VM (M+300) ((Ns t).1:Int) (Ns t).2==some (t,0)&&(UM t==Sp.elem (Ns t).1 (Ns t).2 &&
 (decide ((Ns t).1<256)&&(decide ((Ns t).1 % 32≠31)&&(decide ((Ns t).2.length<=20)&&(!Sp.cons (Ns t).1&&(decide (0<=t)&&(decide (t<=254033452799)&& !((Ns t).1==48))))))))))
theorem Arc (M:Nat):Qr.all (Au8 M)=true:=by kernel_rfl
structure Ahq (N:Nat) (t:Int):Prop where
 enc:OJ N t=some (UM t,0)
 Ana:Z9 N t=some (UM t,0)
 dec:VM N ((Ns t).1:Int) (Ns t).2=some (t,0)
 eq:UM t=Sp.elem (Ns t).1 (Ns t).2
 fine:Fine (Ns t)
 len:(Ns t).2.length<=20
 Av1:Sp.cons (Ns t).1=false
 p0:0<=t
 p1:t<=254033452799
 n48:(Ns t).1≠48
theorem Qq {N:Nat} (hN:1048578<N) {t:Int} (h:t∈Qr):Ahq N t:=by obtain⟨M,rfl⟩:=ofM hN;have h:=List.all_eq_true.1 (Arc M) t h;unfold Au8 at h;simp only[Bool.and_eq_true,beq_iff_eq,decide_eq_true_eq,Bool.not_eq_true',beq_eq_false_iff_ne]at h;obtain⟨h1,h2,h3,h4,h5,h6,h7,h8,h9,h10,h11⟩:=h;exact⟨h1,h2,h3,h4,⟨h5,h6,by omega⟩,h7,h8,h9,h10,h11⟩
theorem Ajt {N:Nat} {t:Int} (h:Ahq N t):(UM t).length<=25:=by have:=h.len;have:=Sp.DF (Ns t).1 (Ns t).2;rw[h.eq];omega
theorem Aai {N:Nat} {t:Int} (h:Ahq N t) {d:Nat} (hd:d<16):Par d (UM t) [Aju t]:=by rw[h.eq];exact JF h.fine hd h.Av1
def Ub:List Bs:=[[50,46,53,46,50,57,46,50,49],[50,46,53,46,50,57,46,50,52],[50,46,53,46,50,57,46,50,57],[50,46,53,46,50,57,46,51,53],[50,46,53,46,50,57,46,50,48],[50,46,53,46,50,57,46,50,55],[50,46,53,46,50,57,46,50,56],[50,46,53,46,50,57,46,52,54],[50,46,53,46,50,57,46,49,57],[50,46,53,46,50,57,46,49,53],[50,46,53,46,50,57,46,51,55],[50,46,53,46,50,57,46,51,50],[50,46,53,46,50,57,46,51,51],[50,46,53,46,50,57,46,51,54],[50,46,53,46,50,57,46,53,52],[50,46,53,46,50,57,46,49,55],[50,46,53,46,50,57,46,51,48],[50,46,53,46,50,57,46,49,52],[50,46,53,46,50,57,46,51,49],[49,46,50,46,51,46,49],[49,46,50,46,51,46,50],[49,46,50,46,51,46,51],[49,46,50,46,51,46,52],[49,46,50,46,51,46,53],[50,46,57,57,57,46,49],[50,46,57,57,57,46,50],[49,46,50,46,51],[50,46,53,46,50,57,46,51,50,46,48],[49,46,51,46,54,46,49,46,53,46,53,46,55,46,51,46,49],[49,46,51,46,54,46,49,46,53,46,53,46,55,46,51,46,50],[49,46,51,46,54,46,49,46,53,46,53,46,55,46,51,46,51],[49,46,51,46,54,46,49,46,53,46,53,46,55,46,51,46,52],[50,46,53,46,50,57,46,51,55,46,48],[49,46,50,46,51,46,52,46,53],[49,46,50,46,51,46,52,46,54]]
def idT (s:Bs):Bs:=((MS 300 s).getD default).1
def idQ (M:Nat) (s:Bs):Bool:=IG (M+300) s==some true&&(VF (M+300) s==some true&&(MS (M+300) s==some (idT s,0)&&(dC (M+300) s==some (Sp.elem 6 (idT s))&&(Oy (M+300) (idT s)==some (s,0)&&decide ((idT s).length<=10)))))
theorem AtG (M:Nat):Ub.all (idQ M)=true:=by kernel_rfl
structure Avn (N:Nat) (s:Bs):Prop where
 val:IG N s=some true
 Av5:VF N s=some true
 enc:MS N s=some (idT s,0)
 Ana:dC N s=some (Sp.elem 6 (idT s))
 dec:Oy N (idT s)=some (s,0)
 len:(idT s).length<=10
theorem P5 {N:Nat} (hN:1048578<N) {s:Bs} (h:s∈Ub):Avn N s:=by obtain⟨M,rfl⟩:=ofM hN;have h:=List.all_eq_true.1 (AtG M) s h;unfold idQ at h;simp only[Bool.and_eq_true,beq_iff_eq,decide_eq_true_eq]at h;obtain⟨h1,h2,h3,h4,h5,h6⟩:=h;exact⟨h1,h2,h3,h4,h5,h6⟩
def AfH:List Int:=[2,64,384,510]
def flB (n:Int):Bs:=((Ik 300 n).getD default).1
def Auy (M:Nat) (r:Int):Bool:=Ik (M+300) r==some (flB r,0)&&(QL (M+300) r==some (flB r,0)&&(O5 (M+300) (flB r)==some (r,0)&&(decide ((flB r).length<=5)&&(DV .andNot .i64 r 510==0&& !(r==0)))))
theorem AsH (M:Nat):AfH.all (Auy M)=true:=by kernel_rfl
structure AuN (N:Nat) (r:Int):Prop where
 put:Ik N r=some (flB r,0)
 Aux:QL N r=some (flB r,0)
 get:O5 N (flB r)=some (r,0)
 len:(flB r).length<=5
 mask:DV .andNot .i64 r 510=0
 ne:r≠0
theorem UD {N:Nat} (hN:1048578<N) {r:Int} (h:r∈AfH):AuN N r:=by obtain⟨M,rfl⟩:=ofM hN;have h:=List.all_eq_true.1 (AsH M) r h;unfold Auy at h;simp only[Bool.and_eq_true,beq_iff_eq,decide_eq_true_eq,Bool.not_eq_true',beq_eq_false_iff_ne]at h;obtain⟨h1,h2,h3,h4,h5,h6⟩:=h;exact⟨h1,h2,h3,h4,h5,h6⟩
theorem Avb:DV .andNot .i64 0 510=0:=by kernel_rfl
def okR (r:Int):Prop:=r=0\/r∈AfH
def flT (t:Nat) (r:Int):Bs:=bif r != 0 then Sp.elem t (flB r)else []
def flE (t:Nat) (r:Int):List El:=bif r != 0 then [Ea t (flB r)]else []
theorem Aq6 {r:Int} (h:okR r):DV .andNot .i64 r 510=0:=by
 rcases h with rfl | h
 ·exact Avb
 ·exact(UD (N:=1048579) (by omega) h).mask
theorem As7 {r:Int} (h:okR r) (t:Nat):(flT t r).length<=10:=by
 rcases h with rfl | h
 ·exact Nat.zero_le _
 ·have R:=UD (N:=1048579) (by omega) h;have:=R.len;have:=Sp.DF t (flB r);unfold flT;rw[gV R.ne,cond_true];omega
theorem At3 {r:Int} (h:okR r) {t d:Nat} (ht:t<256) (h31:t % 32≠31) (hd:d<16) (hc:Sp.cons t=false):Par d (flT t r) (flE t r):=Af8 _ fun hr=>by
 rcases h with rfl | h
 ·cases hr
 ·exact JF ⟨ht,h31,by have:=(UD (N:=1048579) (by omega) h).len;show(flB r).length<=_;omega⟩ hd hc
abbrev Pt:Type:=List Gn×Int×Bool×List (List Att)
structure okP (p:Pt):Prop where
 nm: ∃ g,okG g/\p.1=[g]
 re:okR p.2.1
 is:(p.2.2.1=false/\p.2.2.2=[])\/(p.2.2.1=true/\okN p.2.2.2/\p.2.2.2≠ [])
def ptK (p:Pt):Pt:=(p.1.map gnK,p.2.1,p.2.2.1,nmC p.2.2.2)
def piT (p:Pt):Bs:=bif p.2.2.1 then Sp.elem 162 (F5 (4,[],p.2.2.2))else []
def ptC (p:Pt):Bs:=Sp.elem 160 (Sp.elem 160 (EP p.1))++(flT 129 p.2.1++piT p)
def ptB (p:Pt):Bs:=Sp.elem 48 (ptC p)
def ptE (p:Pt):El:=Ea 48 (ptC p)
theorem gs1 {g:Gn} (h:okG g):AiR [g]:=⟨by simp,fun x hx=>by rw[List.mem_singleton.1 hx];exact h⟩
structure PtM (N:Nat) (p:Pt):Prop where
 chk:MO N p=some 0
 len:(ptC p).length<=2000
 els:QG (ptC p)=(Ea 160 (Sp.elem 160 (EP p.1))::(flE 129 p.2.1++(bif p.2.2.1 then [Ea 162 (F5 (4,[],p.2.2.2))]else [])),0)
 par: ∀ d,d<=2->Par d (ptB p) [ptE p]
 okK:okP (ptK p)
 Afb:ptB (ptK p)=ptB p
 dec:LQ N (Ea 160 (Sp.elem 160 (EP p.1))::(flE 129 p.2.1++(bif p.2.2.1 then [Ea 162 (F5 (4,[],p.2.2.2))]else [])))=some (ptK p,0,[])
section
variable {N:Nat} (hN:1048578<N)
include hN
theorem oI {p:Pt} (h:okP p):PtM N p:=by
 obtain⟨gs,r,b,n⟩:=p;obtain⟨⟨g,hg,hgs⟩,hr,hi⟩:=h;dsimp only at hgs hr hi;subst hgs;have h1:=gs1 hg;have hl:=Qe hN h1;have hm:=Aq6 hr;have ck:=AaZ hN h1;have l1: [g].length=1:=rfl;have hfl:=As7 hr 129;have e1:=Sp.DF 160 (EP [g]);have e2:=Sp.DF 160 (Sp.elem 160 (EP [g]))
 have hpi:(piT ([g],r,b,n)).length<=640:=by
  unfold piT;rcases hi with ⟨rfl,_⟩ | ⟨rfl,hn,_⟩
  ·exact Nat.zero_le _
  ·have:=mQ hN (Or.inr ⟨n,hn,rfl⟩:okG (4,[],n));have:=Sp.DF 162 (F5 (4,[],n));show(Sp.elem 162 (F5 (4,[],n))).length<=_;omega
 have hlen:(ptC ([g],r,b,n)).length<=2000:=by unfold ptC;rw[List.length_append,List.length_append];dsimp only;omega
 have hpar: ∀ d,d<=3->Par d (ptC ([g],r,b,n)) (Ea 160 (Sp.elem 160 (EP [g]))::(flE 129 r++(bif b then [Ea 162 (F5 (4,[],n))]else []))):=by
  intro d hd;show Par d (Sp.elem 160 (Sp.elem 160 (EP [g]))++(flT 129 r++piT ([g],r,b,n))) _;refine GL (es:=[_]) (GM (FV (by decide) (by decide) (by omega)) (by omega) (GM (t:=160) (FV (by decide) (by decide) (by omega)) (by omega) (AbT hN h1 (by omega)).nest).nest) (GL (At3 hr (by decide) (by decide) (by omega) (by decide)) ?_);show Par d (bif b then Sp.elem 162 (F5 (4,[],n))else []) _;refine Af8 b fun hb=> ?_;rcases hi with ⟨rfl,_⟩ | ⟨rfl,hn,_⟩
  ·cases hb
  ·have hd4:okG (4,[],n):=Or.inr ⟨n,hn,rfl⟩;exact GM (FV (by decide) (by decide) (by have:=mQ hN hd4;omega)) (by omega) ((RN hN hd4).par _ (by omega)).nest
 have hf:Fine (48,ptC ([g],r,b,n)):=(FV (by decide) (by decide) (by omega))
 have hK:EP ([g].map gnK)=EP [g]:=AkT hN h1;have hls:=(fC hN h1 (by simp))
 have o160:I8 N (Sp.elem 160 (EP [g])) 160=some (Ea 160 (EP [g]),0):=by rw[lZ N _ 160 hN (by omega)];exact congrArg some (y9 160 (EP [g]) (by decide) (by decide) (by omega))
 refine⟨?_,hlen,(hpar 0 (by omega)).list,fun d hd=>GM hf (by omega) (hpar _ (by omega)).nest,?_,?_,?_⟩
 ·unfold MO;try simp only[clR]
  rcases hi with ⟨rfl,rfl⟩ | ⟨rfl,hn,hne⟩
  ·simp (disch:=first | assumption | omega) only[DT,hm,ck,l1,List.length_nil];try rfl
  ·have hpos:=List.length_pos_iff.2 hne;have hc:=KX hN hn;simp (disch:=first | assumption | omega) only[DT,hm,ck,l1,hc];try rfl
 ·refine⟨⟨gnK g,(RN hN hg).okK,rfl⟩,hr,?_⟩;rcases hi with ⟨rfl,rfl⟩ | ⟨rfl,hn,hne⟩
  ·exact Or.inl ⟨rfl,rfl⟩
  ·exact Or.inr ⟨rfl,zU hN hn,fun h=>hne (List.map_eq_nil_iff.1 h)⟩
 ·unfold ptB ptC ptK piT;dsimp only;rw[hK];rcases hi with ⟨rfl,rfl⟩ | ⟨rfl,hn,hne⟩
  ·rfl
  ·rw[show F5 (4,[],nmC n)=F5 (4,[],n)from congrArg (fun p:Nat×Bs=>Sp.elem p.1 p.2) (RN hN (Or.inr ⟨n,hn,rfl⟩:okG (4,[],n))).Afb]
 ·have hflE:flE 129 r=[]/\r=0\/flE 129 r=[Ea 129 (flB r)]/\r∈AfH:=by
   rcases hr with rfl | hr
   ·exact Or.inl ⟨rfl,rfl⟩
   ·refine Or.inr ⟨?_,hr⟩;unfold flE;rw[gV (UD hN hr).ne];rfl
  have hI:b=false/\n=[]\/b=true/\Iw N (F5 (4,[],n))=some ([(4,[],nmC n)],0):=by
   rcases hi with h | ⟨h,hn,_⟩
   ·exact Or.inl h
   ·refine Or.inr ⟨h,?_⟩;have:=fC hN (gs1 (Or.inr ⟨n,hn,rfl⟩:okG (4,[],n))) (by simp);rwa [show EP [((4:Int),([]:Bs),n)]=F5 (4,[],n)from List.append_nil _]at this
  unfold LQ;try simp only[clR]
  rcases hflE with ⟨h1,h2⟩ | ⟨h1,h2⟩<;>rcases hI with ⟨rfl,rfl⟩ | ⟨rfl,h3⟩
  ·rw[h1];subst h2;simp (disch:=first | assumption | omega) only[DT,tN,Ai1,Amq,Ai0,el1,el2,el3,List.cons_append,List.nil_append,o160,hls,N7];try rfl
  ·rw[h1];subst h2;simp (disch:=first | assumption | omega) only[DT,tN,Ai1,Amq,Ai0,el1,el2,el3,List.cons_append,List.nil_append,o160,hls,N7,h3];try rfl
  ·have hg:=(UD hN h2).get;have hne:=(UD hN h2).ne;rw[h1];simp (disch:=first | assumption | omega) only[DT,tN,Ai1,Amq,Ai0,el1,el2,el3,List.cons_append,List.nil_append,o160,hls,N7,hg];try rfl
  ·have hg:=(UD hN h2).get;have hne:=(UD hN h2).ne;rw[h1];simp (disch:=first | assumption | omega) only[DT,tN,Ai1,Amq,Ai0,el1,el2,el3,List.cons_append,List.nil_append,o160,hls,N7,hg,h3];try rfl
end
end Go.Proofs.YtfgdgdnlglejbaaGreatDoor.Pl
namespace Go.Proofs.YtfgdgdnlglejbaaGreatDoor.Pl
open IntKind (i64)
open Go Vm
abbrev Ex:Type:=Bs×Bool×Bs
structure OkX (x:Ex):Prop where
 id:x.1∈Ub
 chk:Sp.chk x.2.2=0
 len:x.2.2.length<=8000
structure Ate (l:List Ex):Prop where
 ne:0<l.length
 len:l.length<=16
 all: ∀ x∈l,OkX x
 nd:l.Pairwise fun a b=>a.1≠b.1
def exC (x:Ex):Bs:=Sp.elem 6 (idT x.1)++((bif x.2.1 then Sp.elem 1 [255]else [])++Sp.elem 4 x.2.2)
def exB (x:Ex):Bs:=Sp.elem 48 (exC x)
def exE (x:Ex):El:=Ea 48 (exC x)
def xsC (l:List Ex):Bs:=(l.map exB).flatten
def xsB (l:List Ex):Bs:=Sp.elem 48 (xsC l)
def zX:Ex:=([],false,[])
theorem jD {α :Type} (l:List α):D7 l 1 l.length=l.drop 1:=by show(l.take l.length).drop 1=_;rw[List.take_length]
section
variable {N:Nat} (hN:1048578<N) {x:Ex} (h:OkX x)
include hN h
theorem Ada:(exC x).length<=x.2.2.length+23:=by
 have h1:=(P5 hN h.id).len;have h2:=Sp.DF 6 (idT x.1);have h3:=Sp.DF 4 x.2.2;have h4:=h.len;have h5:(bif x.2.1 then Sp.elem 1 [255]else []:Bs).length<=3:=by cases x.2.1<;>decide
 unfold exC;rw[List.length_append,List.length_append];omega
theorem Aoo {d:Nat} (hd:d<16):Par d (exC x) (Ea 6 (idT x.1)::((bif x.2.1 then [Ea 1 [255]]else [])++[Ea 4 x.2.2])):=by have h1:=(P5 hN h.id).len;have h4:=h.len;exact GL (es:=[_]) (JF (FV (by decide) (by decide) (by omega)) hd (by decide)) (GL (Af8 x.2.1 fun _=>JF (FV (by decide) (by decide) (by decide)) hd (by decide)) (JF (FV (by decide) (by decide) (by omega)) hd (by decide)))
theorem Atz:QG (exC x)=(Ea 6 (idT x.1)::((bif x.2.1 then [Ea 1 [255]]else [])++[Ea 4 x.2.2]),0):=(Aoo hN h (d:=0) (by decide)).list
theorem Aon:OC N x=some (exB x,0):=by
 have I:=P5 hN h.id;have h1:=I.len;have h3:=h.len;have h4:=Ada hN h;have h5:=Sp.DF 6 (idT x.1);have h6:=Sp.DF 4 x.2.2;have e1:=I.enc;have w1:Ej N 6 [idT x.1]=_:=SQ N 6 [idT x.1] (by omega) (by omega) hN (by simp) (by rw[EI];omega);have w2:Ej N 4 [x.2.2]=_:=SQ N 4 [x.2.2] (by omega) (by omega) hN (by simp) (by rw[EI];omega);rw[EI]at w1 w2;unfold exB exC at *
 obtain⟨id,c,v⟩:=x;dsimp only at *
 cases c with
 | true =>
  have w3:Ej N 1 [[255]]=some (Sp.elem 1 [255],0):=SQ N 1 [[255]] (by omega) (by omega) hN (by simp) (by simp);have w4:Ej N 48 [Sp.elem 6 (idT id),Sp.elem 1 [255],Sp.elem 4 v]=_:=SQ N 48 [Sp.elem 6 (idT id),Sp.elem 1 [255],Sp.elem 4 v] (by omega) (by omega) hN (by simp) (by rw[flat3];exact Nat.le_trans h4 (by omega));rw[flat3]at w4;have p:PD N true=some [255]:=rfl;unfold OC;try simp only[clR]
  simp (disch:=first | assumption | omega) only[DT,e1,w1,w2,w3,p,bne_self_eq_false,List.length_cons,List.length_nil];exact congrArg (fun o=>Dj o _) w4
 | false =>
  have w4:Ej N 48 [Sp.elem 6 (idT id),[],Sp.elem 4 v]=_:=SQ N 48 [Sp.elem 6 (idT id),[],Sp.elem 4 v] (by omega) (by omega) hN (by simp) (by rw[flat3];exact Nat.le_trans h4 (by omega));rw[flat3]at w4;unfold OC;try simp only[clR]
  simp (disch:=first | assumption | omega) only[DT,e1,w1,w2,bne_self_eq_false,List.length_cons,List.length_nil];exact congrArg (fun o=>Dj o _) w4
theorem Agd:KG N (exE x)=some (x,0):=by
 have h4:=Ada hN h;have h3:=h.len;have hl:=Ii N (exC x) (by omega) (by omega) (by omega);rw[Atz hN h]at hl;have I:=(P5 hN h.id).dec;obtain⟨id,c,v⟩:=x;dsimp only at *
 unfold KG exE;try simp only[clR]
 rw[show(Ea 48 (exC (id,c,v))).1=48 from rfl,show(Ea 48 (exC (id,c,v))).2.1=exC (id,c,v)from rfl];cases c with
 | true =>simp (disch:=first | assumption | omega) only[DT,hl,el1,el2,el3,bne_self_eq_false,List.length_cons,List.length_nil,List.getD_cons_zero,jD,List.drop_succ_cons,List.drop_zero,List.cons_append,List.nil_append,I];try rfl
 | false =>simp (disch:=first | assumption | omega) only[DT,hl,el1,el2,el3,bne_self_eq_false,List.length_cons,List.length_nil,List.getD_cons_zero,jD,List.drop_succ_cons,List.drop_zero,List.cons_append,List.nil_append,I];try rfl
theorem At1:MZ N x.2.2=some 0:=by have:=h.len;rw[zA N _ (by omega) (by omega) (by omega),h.chk]
end
theorem AoE {β :Type} (k:Bs): ∀(m:List (Bs× β)),(∀ p∈m,k≠p.1)->Ov (.str .nil) k m=none:=by
 intro m
 induction m with
 | nil=>intro _;rfl
 | cons p m ih =>
  intro h;have h1:(Ty.str .nil).same k p.1=false:=by show((k==p.1)&&true)=false;rw[beq_false_of_ne (h p List.mem_cons_self)];rfl
  show(bif (Ty.str .nil).same k p.1 then some p.2 else Ov (.str .nil) k m)=none;rw[h1,cond_false];exact ih fun q hq=>h q (List.mem_cons_of_mem _ hq)
theorem AoG {β :Type} (k:Bs) (v: β): ∀(m:List (Bs× β)),(∀ p∈m,k≠p.1)->Xy (.str .nil) k v m=m++[(k,v)]:=by
 intro m
 induction m with
 | nil=>intro _;rfl
 | cons p m ih =>
  intro h;have h1:(Ty.str .nil).same k p.1=false:=by show((k==p.1)&&true)=false;rw[beq_false_of_ne (h p List.mem_cons_self)];rfl
  show(bif (Ty.str .nil).same k p.1 then(p.1,v)::m else p::Xy (.str .nil) k v m)=_;rw[h1,cond_false,ih fun q hq=>h q (List.mem_cons_of_mem _ hq)];rfl
theorem As3 {β :Type} (k:Bs) (v: β) (t:List (Bs× β)): ∀(m:List (Bs× β)),(∀ p∈m,k≠p.1)->Ov (.str .nil) k (m++(k,v)::t)=some v:=by
 intro m
 induction m with
 | nil =>intro _;show(bif ((k==k)&&true)then some v else _)=_;rw[beq_self_eq_true];rfl
 | cons p m ih =>
  intro h;have h1:(Ty.str .nil).same k p.1=false:=by show((k==p.1)&&true)=false;rw[beq_false_of_ne (h p List.mem_cons_self)];rfl
  show(bif (Ty.str .nil).same k p.1 then some p.2 else Ov (.str .nil) k (m++(k,v)::t))=_;rw[h1,cond_false];exact ih fun q hq=>h q (List.mem_cons_of_mem _ hq)
def Uc (l:List Ex) (n:Nat):List (Bs×Int):=(List.range n).map fun i=>((l.getD i zX).1,(i:Int))
section
variable {l:List Ex} (h:Ate l)
include h
theorem Avm {i j:Nat} (hi:i<j) (hj:j<l.length):(l.getD i zX).1≠(l.getD j zX).1:=by rw[getD_lt l i zX (by omega),getD_lt l j zX hj];exact List.pairwise_iff_getElem.1 h.nd i j (by omega) hj hi
theorem Afm {n:Nat} (hn:n<l.length): ∀ p∈Uc l n,(l.getD n zX).1≠p.1:=by intro p hp;obtain⟨i,hi,rfl⟩:=List.mem_map.1 hp;exact(Avm h (List.mem_range.1 hi) hn).symm
theorem Asr {n:Nat} (hn:n<l.length):Ov (.str .nil) (l.getD n zX).1 (Uc l l.length)=some (n:Int):=by
 have e:Uc l l.length=Uc l n++((l.getD n zX).1,(n:Int))::(List.range (l.length - (n+1))).map fun i=>((l.getD (n+1+i) zX).1,((n+1+i:Nat):Int)):=by
  unfold Uc;obtain⟨k,hk⟩: ∃ k,l.length=n+1+k:=⟨l.length - (n+1),by omega⟩
  rw[hk,show n+1+k - (n+1)=k by omega,List.range_add,List.map_append,List.range_succ,List.map_append,List.map_map,List.append_assoc];rfl
 rw[e];exact As3 _ _ _ _ (Afm h hn)
variable {N:Nat} (hN:1048578<N)
include hN
theorem Ail:aX N l=some (Uc l l.length):=by
 have hl:=h.len;unfold aX;try simp only[clR]
 refine(GY (fun i=>((i:Int),Uc l i)) l.length (some (Uc l l.length)) ?_ ?_ N (by omega)).trans rfl
 ·intro i hlt k;have e1:=AoE (β :=Int) (l.getD i zX).1 (Uc l i) (Afm h hlt);have e2:=AoG (l.getD i zX).1 (i:Int) (Uc l i) (Afm h hlt);have e3:Uc l i++[((l.getD i zX).1,(i:Int))]=Uc l (i+1):=by unfold Uc;rw[List.range_succ,List.map_append];rfl
  unfold zX at e1 e2 e3;simp (disch:=first | assumption | omega) only[DT,e1,e2,e3,ES,Option.isSome_none]
 ·intro k;simp (disch:=first | assumption | omega) only[DT]
theorem Aj1:Tj N l=some 0:=by
 have hl:=h.len;have h0:=h.ne;have hi:=Ail h hN;unfold Tj;try simp only[clR]
 simp (disch:=first | assumption | omega) only[DT,hi];refine GY (fun i=>((i:Int),Uc l l.length)) l.length _ ?_ ?_ N (by omega)
 ·intro i hlt k;have hx:=h.all _ (getD_mem zX hlt);have e1:=Asr h hlt;have e2:=At1 hN hx;have e3:=(P5 hN hx.id).val;unfold zX at *
  simp (disch:=first | assumption | omega) only[DT,e1,e2,e3,ES,Option.getD_some];try rfl
 ·intro k;simp (disch:=first | assumption | omega) only[DT]
theorem Alj {m:Nat} (hm: ∀ x∈l,x.2.2.length<=m):(xsC l).length<=(m+28)*l.length :=
 Gs (g:=exB) (M:=m+28) (l:=l) fun x hx=>by have:=Ada hN (h.all x hx);have:=Sp.DF 48 (exC x);have:=hm x hx;unfold exB;omega
theorem xs_len:(xsC l).length<=128448:=by have:=Alj h hN (m:=8000) fun x hx=>(h.all x hx).len;have:=h.len;omega
theorem Apx {d:Nat} (hd:d<15):Par d (xsC l) (l.map exE):=TA fun x hx=>by have hx:=h.all x hx;have h4:=Ada hN hx;have h5:=hx.len;exact GM (FV (by decide) (by decide) (by omega)) (by omega) (Aoo hN hx (by omega)).nest
theorem AsV:Fine (48,xsC l):=(FV (by decide) (by decide) (by have:=xs_len h hN;omega))
theorem Apw:Yg N l=some (xsB l,0):=by
 have hl:=h.len;have hb:=xs_len h hN;unfold Yg;try simp only[clR]
 rw[Aj1 h hN,Dn,show((0:Int) != 0)=false from rfl,cond_false];refine(KH (mk:=fun i a=>((i:Int),a)) l zX exB (fun a=>Dj (Ej N 48 a) fun r=>bif r.2 != 0 then some ([],2)else some (r.1,0)) ?_ ?_ N (by omega)).trans ?_
 ·intro i a hlt ha k;have e1:=Aon hN (h.all _ (getD_mem zX hlt));unfold zX at *
  simp (disch:=first | assumption | omega) only[DT,e1,ES];try rfl
 ·intro a k ha;simp (disch:=first | assumption | omega) only[DT]
 ·have w:Ej N 48 (l.map exB)=_:=SQ N 48 (l.map exB) (by omega) (by omega) hN (by rw[List.length_map];omega) (by unfold xsC at hb;omega);rw[w,Dn];rfl
theorem Apv:Yf N (xsB l)=some (l,0):=by
 have hl:=h.len;have hb:=xs_len h hN;have hB:=Sp.DF 48 (xsC l);have h1:=Zt 48 (xsC l) (by decide) (by decide) (by omega);have h2:=(Apx h hN (d:=0) (by decide)).list;have h4:=Ii N (xsC l) (by omega) (by omega) (by omega);rw[h2]at h4;have hlm:(l.map exE).length=l.length:=List.length_map _;have h5:MI N (xsB l)=some (Ea 48 (xsC l),0):=by rw[QQ N _ (by omega) (by unfold xsB;omega)];exact congrArg some h1
 unfold Yf;try simp only[clR]
 rw[h5,Dn];dsimp only[Ea];simp (disch:=first | assumption | omega) only[DT,h4];refine(KH (mk:=fun i acc=>((i:Int),acc)) (l.map exE) (0,[],[]) (fun e=>((KG N e).getD default).1) (fun acc=>Dj (Tj N acc) fun r=>bif r != 0 then some ([],r)else some (acc,0)) ?_ ?_ N (by omega)).trans ?_
 ·intro i acc hi ha k;rw[hlm]at hi;have hr:=Agd hN (h.all _ (getD_mem zX hi));have hg:(l.map exE).getD i (0,[],[])=exE (l.getD i zX):=by rw[getD_lt _ _ _ (by rw[hlm];exact hi),List.getElem_map,getD_lt l i zX hi]
  simp (disch:=first | assumption | omega) only[DT,hg,hlm,hr,ES,Option.getD_some];try rfl
 ·intro acc k ha;simp (disch:=first | assumption | omega) only[DT,hlm]
 ·have e:(l.map exE).map (fun e=>((KG N e).getD default).1)=l:=by
   rw[List.map_map];refine(List.map_congr_left fun x hx=> ?_).trans (List.map_id l);show((KG N (exE x)).getD default).1=_;rw[Agd hN (h.all x hx)];rfl
  rw[e,Aj1 h hN];rfl
end
end Go.Proofs.YtfgdgdnlglejbaaGreatDoor.Pl
namespace Go.Proofs.YtfgdgdnlglejbaaGreatDoor.Pl
open IntKind (i64)
open Go Vm
def aut (k:Nat):List (List Att):=(IE 300 (k:Int)).getD []
def Atn (M k:Nat):Bool:=IE (M+300) (k:Int)==some (aut k)&&(decide ((aut k).length<=3)&&((aut k).all (fun r=>Hz.contains r)&&(!(aut k).isEmpty&&(nmC (aut k)==aut k&&(List.range 16).all fun j=>AaG (M+300) (aut k) (aut j)==some (k % 8==j % 8)&&dB (M+300) (aut k) (aut j)==some (k % 8==j % 8)))))
theorem ArO (M:Nat):(List.range 16).all (Atn M)=true:=by kernel_rfl
structure AuL (N k:Nat):Prop where
 made:IE N (k:Int)=some (aut k)
 ok:okN (aut k)
 ne:aut k≠ []
 C:nmC (aut k)=aut k
 mt: ∀ j,j<16->AaG N (aut k) (aut j)=some (k % 8==j % 8)
 rmt: ∀ j,j<16->dB N (aut k) (aut j)=some (k % 8==j % 8)
theorem AhN {N:Nat} (hN:1048578<N) {k:Nat} (h:k<16):AuL N k:=by obtain⟨M,rfl⟩:=ofM hN;have h:=List.all_eq_true.1 (ArO M) k (List.mem_range.2 h);unfold Atn at h;simp only[Bool.and_eq_true,beq_iff_eq,List.all_eq_true,decide_eq_true_eq,List.contains_iff_mem,Bool.not_eq_true',List.isEmpty_eq_false_iff,List.mem_range]at h;obtain⟨h1,h2,h3,h4,h5,h6⟩:=h;exact⟨h1,⟨h2,h3⟩,h4,h5,fun j hj=>(h6 j hj).1,fun j hj=>(h6 j hj).2⟩
abbrev En:Type:=Int×Int×Int×Int×Nat
abbrev En.k (e:En):Nat:=e.2.2.2.2
abbrev En.re (e:En):Int:=e.2.2.1
abbrev En.iv (e:En):Int:=e.2.2.2.1
abbrev Ey:Type:=Int×Int×Int×Int×List (List Att)
def enY (e:En):Ey:=(e.1,e.2.1,e.re,e.iv,aut e.k)
def reL:List Int:=[0,1,2,3,4,5,6,8,9,10]
structure OkE (base:Int) (ind:Bool) (p:Nat) (e:En):Prop where
 s0:1<=e.1
 s1:e.1<=9
 ti:e.2.1∈Qr
 re:e.re∈reL
 r8:e.re=8->base≠ -1
 iv:e.iv= -1\/e.iv∈Qr
 k:e.k<16
 is:ind=true\/e.k % 8=p % 8
theorem Nu (N:Nat) (b:Bool) (s:Bs):Eh N b s 0=some (s,b):=by rw[AkA];simp
def isB (k:Nat):Bs:=Sp.elem 48 (F5 (4,[],aut k))
theorem AkZ {n:List (List Att)} (h:okN n):okG (4,[],n):=Or.inr ⟨n,h,rfl⟩
section
variable {N:Nat} (hN:1048578<N) {base:Int} {ind:Bool} {p q:Nat} {e:En} (h:OkE base ind q e)
include hN
include h
end
end Go.Proofs.YtfgdgdnlglejbaaGreatDoor.Pl
namespace Go.Proofs.YtfgdgdnlglejbaaGreatDoor.Pl
open IntKind (i64)
open Go Vm
structure Qi (l:List Pt):Prop where
 ne:l≠ []
 len:l.length<=3
 all: ∀ p∈l,okP p
def psC (l:List Pt):Bs:=(l.map ptB).flatten
def psB (l:List Pt):Bs:=Sp.elem 48 (psC l)
def zPt:Pt:=([],0,false,[])
section
variable {N:Nat} (hN:1048578<N) {l:List Pt} (h:Qi l)
include hN h
theorem yE:(psC l).length<=6015:=by
 have:=Gs (g:=ptB) (M:=2005) (l:=l) fun p hp=>by have h1:=(oI hN (h.all p hp)).len;have:=Sp.DF 48 (ptC p);show(Sp.elem 48 (ptC p)).length<=_;omega
 have:=h.len;unfold psC;omega
theorem Apd {d:Nat} (hd:d<=2):Par d (psC l) (l.map ptE):=TA fun p hp=>(oI hN (h.all p hp)).par d hd
theorem AsB:Fine (48,psC l):=(FV (by decide) (by decide) (by have:=yE hN h;omega))
theorem Apc:Sp.chk (psB l)=0:=AbB (AsB hN h) fun _=>(Apd hN h (by decide)).nest
theorem AoR:Qi (l.map ptK):=⟨fun e=>h.ne (List.map_eq_nil_iff.1 e),by rw[List.length_map];exact h.len,fun q hq=>by obtain⟨p,hp,rfl⟩:=List.mem_map.1 hq;exact(oI hN (h.all p hp)).okK⟩
theorem Avf:psB (l.map ptK)=psB l:=by unfold psB psC;rw[List.map_map];congr 2;exact List.map_congr_left fun p hp=>(oI hN (h.all p hp)).Afb
theorem Acm:EU N l=some 0:=by
 have h3:=h.len;unfold EU;try simp only[clR]
 simp (disch:=first | assumption | omega) only[DT];refine GY (fun i=>(i:Int)) l.length _ ?_ ?_ N (by omega)
 ·intro i hi k;have e:=(oI hN (h.all _ (getD_mem zPt hi))).chk;unfold zPt at *
  simp (disch:=first | assumption | omega) only[DT,e,ES];try rfl
 ·intro k;simp (disch:=first | assumption | omega) only[DT]
theorem Ag0:IX N l=some (psB l,0):=by
 have h3:=h.len;have hpos:=List.length_pos_iff.2 h.ne;have hl:=yE hN h;unfold IX;try simp only[clR]
 rw[Acm hN h,TK (by omega),cond_false,Dn,show((0:Int) != 0)=false from rfl,cond_false];refine(KH (mk:=fun i a=>((i:Int),false,a)) l zPt ptB (fun a=>Dj (Eb N false a) fun r88=>Dj (Hg N r88.snd) fun r90=>bif r90.fst then some ([],2)else some (r88.fst,0)) ?_ ?_ N (by omega)).trans ?_
 ·intro i a hi ha k;have hp:=h.all _ (getD_mem zPt hi);have hP:=oI hN hp;unfold zPt at *
  dsimp only[U3];rw[Int.toNat_natCast];generalize l.getD i ([],0,false,[])=p at *
  have hlen:=hP.len;unfold ptB;obtain⟨gs,r,b,n⟩:=p;obtain⟨⟨g,hg,hgs⟩,hr,hi'⟩:=hp;dsimp only at hgs hr hi';subst hgs;have l1: [g].length=1:=rfl;have hle:=Qe hN (gs1 hg);have e1:=Sp.DF 160 (EP [g]);have ge:=AaS hN (gs1 hg) (by simp);have w1:DD N false 160 [EP [g]]=_:=UN N 160 false [EP [g]] (by omega) (by omega) hN (by simp) (by rw[EI];omega);have w2:DD N false 160 [Sp.elem 160 (EP [g])]=_:=UN N 160 false [Sp.elem 160 (EP [g])] (by omega) (by omega) hN (by simp) (by rw[EI];omega);rw[EI]at w1 w2
  have hf:(r=0/\flT 129 r=[])\/(r≠0/\flT 129 r=Sp.elem 129 (flB r)/\Ik N r=some (flB r,0)/\DD N false 129 [flB r]=some (Sp.elem 129 (flB r),false)):=by
   rcases hr with rfl | hr
   ·exact Or.inl ⟨rfl,rfl⟩
   ·have R:=UD hN hr;refine Or.inr ⟨R.ne,by unfold flT;rw[gV R.ne];rfl,R.put,?_⟩;have w3:DD N false 129 [flB r]=_:=UN N 129 false [flB r] (by omega) (by omega) hN (by simp) (by rw[EI];have:=R.len;omega);rw[EI]at w3;exact w3
  have hw:(b=false/\n=[]/\piT ([g],r,b,n)=[])\/(b=true/\piT ([g],r,b,n)=Sp.elem 162 (F5 (4,[],n))/\G6 N (4,[],n) false=some (F5 (4,[],n),0)/\DD N false 162 [F5 (4,[],n)]=some (Sp.elem 162 (F5 (4,[],n)),false)):=by
   rcases hi' with ⟨rfl,rfl⟩ | ⟨rfl,hn,_⟩
   ·exact Or.inl ⟨rfl,rfl,rfl⟩
   ·have G:=RN hN (AkZ hn);have:=mQ hN (AkZ hn);have w4:DD N false 162 [F5 (4,[],n)]=_:=UN N 162 false [F5 (4,[],n)] (by omega) (by omega) hN (by simp) (by rw[EI];omega);rw[EI]at w4;exact Or.inr ⟨rfl,rfl,G.enc,w4⟩
  have wS:Eb N false [Sp.elem 160 (Sp.elem 160 (EP [g])),flT 129 r,piT ([g],r,b,n)]=some (Sp.elem 48 (ptC ([g],r,b,n)),false):=by rw[uB N false _ (by show 3<N;omega) (by show 3<=_;omega),flat3,Qv (by unfold ptC at hlen;dsimp only at hlen;omega)];rfl
  clear hP hlen;have fin: ∀(x:Bool×List Bs×List Bs),x=(false,[Sp.elem 160 (Sp.elem 160 (EP [g])),flT 129 r,piT ([g],r,b,n)],a)->U3 (fun b38144_0d l39936d l1012288d=>Dj (Eb N b38144_0d l39936d) fun r82=>Vm.chk (decide ((l1012288d.length+1)*17<=140737488355328)) (k (i64.wrap ((i:Int)+1),r82.snd,l1012288d++[r82.fst]))) x=k (((i+1:Nat):Int),false,a++[Sp.elem 48 (ptC ([g],r,b,n))]):=by intro x hx;subst hx;dsimp only[U3];rw[wS,Dn];simp (disch:=first | assumption | omega) only[DT,ES]
  rw[Ar1 (show(i:Int)<(l.length:Int) by omega),cond_true,Ar0 (by omega),Gh,Gh];simp only[Gm];have step1: ∀(J:List Gn×Int×Bool×List (List Att)×Bool×List Bs×List Bs->Option (Bs×Int)),(bif decide ((([g]:List Gn).length:Int)>0)then Dj (J9 N [g]) fun r39=>Dj (Eh N false r39.fst r39.snd) fun r42=>Dj (DD N r42.snd 160 [r42.fst]) fun r44=>Dj (DD N r44.snd 160 [r44.fst]) fun r46=>J ([g],r,b,n,r46.snd,[r46.fst,[],[]],a)else J ([g],r,b,n,false,[[],[],[]],a))=J ([g],r,b,n,false,[Sp.elem 160 (Sp.elem 160 (EP [g])),[],[]],a):=by intro J;rw[show decide ((([g]:List Gn).length:Int)>0)=true from rfl,cond_true,ge,Dn,Nu,Dn];show Dj (DD N false 160 [EP [g]]) _=_;rw[w1,Dn];show Dj (DD N false 160 [Sp.elem 160 (EP [g])]) _=_;rw[w2,Dn]
  refine(step1 _).trans ?_;dsimp only[U7]
  have last: ∀ x:Bs,x=flT 129 r->(bif b then Dj (G6 N (4,[],n) false) fun r72=>Dj (Eh N false r72.fst r72.snd) fun r75=>Dj (DD N r75.snd 162 [r75.fst]) fun r77=>Vm.chk (decide (2<(([Sp.elem 160 (Sp.elem 160 (EP [g])),x,[]]:List Bs).length:Int))) (Vm.chk (decide (2<([Sp.elem 160 (Sp.elem 160 (EP [g])),x,[]]:List Bs).length)) (U3 (fun b38144_0d l39936d l1012288d=>Dj (Eb N b38144_0d l39936d) fun r82=>Vm.chk (decide ((l1012288d.length+1)*17<=140737488355328)) (k (i64.wrap ((i:Int)+1),r82.snd,l1012288d++[r82.fst]))) (r77.snd,([Sp.elem 160 (Sp.elem 160 (EP [g])),x,[]]:List Bs).set 2 r77.fst,a)))else U3 (fun b38144_0d l39936d l1012288d=>Dj (Eb N b38144_0d l39936d) fun r82=>Vm.chk (decide ((l1012288d.length+1)*17<=140737488355328)) (k (i64.wrap ((i:Int)+1),r82.snd,l1012288d++[r82.fst]))) (false,[Sp.elem 160 (Sp.elem 160 (EP [g])),x,[]],a))=k (((i+1:Nat):Int),false,a++[Sp.elem 48 (ptC ([g],r,b,n))]):=by
   intro x hx;subst hx;rcases hw with ⟨rfl,_,hw⟩ | ⟨rfl,hw,hw1,hw2⟩
   ·rw[cond_false];exact fin _ (by rw[hw])
   ·rw[cond_true,hw1,Dn,Nu,Dn];show Dj (DD N false 162 [F5 (4,[],n)]) _=_;rw[hw2,Dn];exact fin _ (by rw[hw];rfl)
  rcases hf with ⟨hr0,hf⟩ | ⟨hne,hf,hf1,hf2⟩
  ·rw[TL hr0,cond_false];exact last [] hf.symm
  ·rw[gV hne,cond_true,hf1,Dn,Nu,Dn];show Dj (DD N false 129 [flB r]) _=_;rw[hf2,Dn];exact last (Sp.elem 129 (flB r)) hf.symm
 ·intro a k ha;simp (disch:=first | assumption | omega) only[DT]
 ·rw[uB N false _ (by rw[List.length_map];omega) (by rw[List.length_map];omega),Dn,Qv (by unfold psC at hl;omega)];rfl
end
end Go.Proofs.YtfgdgdnlglejbaaGreatDoor.Pl
namespace Go.Proofs.YtfgdgdnlglejbaaGreatDoor.Pl
open IntKind (i64)
open Go Vm
theorem zV {N:Nat} (hN:1048578<N) {t:Nat} {c:Bs} {es:List El} (ht:t<256) (h31:t % 32≠31) (hc:c.length<=131072) (he:QG c=(es,0)):KF N (Sp.elem t c) (t:Int)=some (.inl (es,0)):=by have hB:=Sp.DF t c;have h1:=Ii N c (by omega) (by omega) (by omega);rw[he]at h1;unfold KF JQ;rw[lZ N _ t hN (by omega),y9 t c ht h31 hc,Dn];show IU (Dj (Ht N c) _) _ _=_;rw[h1];rfl
theorem ApQ (e:El) (r:List El):D7 (e::r) 1 (e::r).length=r:=by show((e::r).take (e::r).length).drop 1=r;rw[List.take_length];rfl
theorem Ac1 (N:Nat) (e:El) (r:List El):Lp N (e::r)=some (e,0,r):=by
 have h2:decide ((0:Int)<((e::r).length:Int))=true:=decide_eq_true (by simp only[List.length_cons];omega);have h3:decide ((1:Int)<=((e::r).length:Int))=true:=decide_eq_true (by simp only[List.length_cons];omega);have h4:(((e::r).length:Int)==(0:Int))=false:=by simp;omega
 unfold Lp;try simp -zeta only[Ap]
 rw[h2,h3,h4,ApQ];rfl
theorem Qx {N:Nat} (t:Nat) (c:Bs) (r:List El) {k:Int} (h:(t:Int)=k):F9 N (Ea t c::r) k=some (Ea t c,0,r):=by
 have h1:decide (((Ea t c::r).length:Int)>(0:Int))=true:=decide_eq_true (by simp only[List.length_cons];omega);have h5:(((Ea t c::r).getD 0 (0,[],[])).1 != k)=false:=by show((t:Int) != k)=false;rw[h];simp
 unfold F9;try simp -zeta only[Ap]
 rw[h1,h5,Ac1];rfl
theorem bG {N:Nat} (hN:1048578<N) {c:Bs} {es r:List El} (hc:c.length<=131072) (he:QG c=(es,0)):FN N (Ea 48 c::r)=some (.inl (es,0,r)):=by have h1:=Ii N c (by omega) (by omega) (by omega);rw[he]at h1;unfold FN;rw[Qx 48 c r (k:=48) rfl,Dn];show IU (JQ N c) _ _=_;unfold JQ;rw[h1];rfl
theorem Agz {N:Nat} (hN:1048578<N) {l:List Pt} (h:Qi l):IW N (psB l)=some (l.map ptK,0):=by
 have h3:=h.len;have hpos:=List.length_pos_iff.2 h.ne;have hl:=yE hN h;have ho:KF N (psB l) 48=some (.inl (l.map ptE,0)):=zV hN (by omega) (by omega) (by omega) (Apd hN h (d:=0) (by decide)).list;have hlm:(l.map ptE).length=l.length:=List.length_map _;unfold IW;try simp only[clR]
 rw[ho,GI];unfold EH;dsimp only;simp (disch:=first | assumption | omega) only[DT,hlm,bne_self_eq_false];refine(GY (fun i=>((l.map ptE).drop i,(l.take i).map ptK)) l.length (Dj (EU N (l.map ptK)) fun r=>bif r != 0 then some ([],r)else some (l.map ptK,0)) ?_ ?_ N (by omega)).trans ?_
 ·intro i hi k;have hp:=h.all _ (getD_mem zPt hi);have P:=oI hN hp;have e1:(l.map ptE).drop i=ptE (l.getD i zPt)::(l.map ptE).drop (i+1):=by rw[List.drop_eq_getElem_cons (by rw[hlm];exact hi),List.getElem_map,getD_lt l i zPt hi]
  have e2:(l.take i).map ptK++[ptK (l.getD i zPt)]=(l.take (i+1)).map ptK:=by rw[List.take_add_one,List.getElem?_eq_getElem hi,List.map_append,getD_lt l i zPt hi];rfl
  have e3:FN N (ptE (l.getD i zPt)::(l.map ptE).drop (i+1))=_:=bG hN (c:=ptC (l.getD i zPt)) (r:=(l.map ptE).drop (i+1)) (by have:=P.len;omega) P.els;have e4:((l.take i).map ptK).length=i:=by rw[List.length_map,List.length_take];omega
  dsimp only[U2];rw[e1];have e5:((ptE (l.getD i zPt)::(l.map ptE).drop (i+1)).length:Int)=((l.length - i:Nat):Int):=by rw[List.length_cons,List.length_drop,hlm];omega
  have e6:=P.dec;rw[e5,Arz (by omega),cond_true];rw[e3,GI];simp (disch:=first | assumption | omega) only[DT,e6,e4,e2,bne_self_eq_false];try rfl
 ·intro k;have e1:(l.map ptE).drop l.length=[]:=by rw[<- hlm,List.drop_length]
  have e2:(l.take l.length).map ptK=l.map ptK:=by rw[List.take_length]
  dsimp only[U2];rw[e1,e2];rfl
 ·rw[Acm hN (AoR hN h)];rfl
abbrev Sc:Type:=List Gn×Bool×Bool×Int×Bool
def zSc:Sc:=([],false,false,0,false)
structure Atd (s:Sc):Prop where
 ns:AiR s.1
 re:okR s.2.2.2.1
 sh:(s.2.1=true/\s.2.2.1=false/\s.1=[])\/(s.2.1=false/\s.2.2.1=true/\s.1=[])\/(s.2.1=false/\s.2.2.1=false/\s.1≠ [])
section
variable {N:Nat} (hN:1048578<N)
include hN
variable {s:Sc} (h:Atd s)
include h
end
end Go.Proofs.YtfgdgdnlglejbaaGreatDoor.Pl
namespace Go.Proofs.YtfgdgdnlglejbaaGreatDoor.Pl
open IntKind (i64)
open Go Vm
structure Li:Type where
 k:Nat
 this:Int
 next:Int
 num:Int
 base:Int
 ak:Bs
 hs:Bool
 s:Sc
 fr:List Pt
 es:List En
def akV:Bs:=[102,101,100,99,98,97,57,56,55,54,53,52,51,50,49,48]
abbrev Ly:Type:=Bs×Bs×List (List Att)×Int×Int×Int×Int×Bs×Bool×List Gn×Bool×Bool×Int×Bool×List Pt×List Ey×Bs
def Li.y (x:Li) (raw tbs sig:Bs):Ly:=(raw,tbs,aut x.k,x.this,x.next,x.num,x.base,x.ak,x.hs,x.s.1,x.s.2.1,x.s.2.2.1,x.s.2.2.2.1,x.s.2.2.2.2,x.fr,x.es.map enY,sig)
structure OkL (x:Li):Prop where
 k:x.k<16
 th:x.this∈Qr
 nx:x.next∈Qr
 le:x.this<=x.next
 n0:1<=x.num
 n1:x.num<=200
 b:x.base= -1\/(0<=x.base/\x.base<x.num)
 ak:x.ak=[]\/x.ak=akV
 sc:(x.hs=false/\x.s=zSc)\/(x.hs=true/\Atd x.s)
 fr:x.fr=[]\/(x.base= -1/\Qi x.fr)
 len:x.es.length<=5
 all: ∀ e∈x.es,OkE x.base x.s.2.2.2.2 x.k e
 nd:x.es.Pairwise fun a b=> ¬(a.1=b.1/\a.k % 8=b.k % 8)
theorem AtU {α β :Type} (f: α -> β) (l:List α) (d: α) (c: β) {i:Nat} (h:i<l.length):(l.map f).getD i c=f (l.getD i d):=by rw[getD_lt _ _ _ (by rw[List.length_map];exact h),List.getElem_map,getD_lt l i d h]
section
variable {N:Nat} (hN:1048578<N)
include hN
variable {x:Li} (h:OkL x)
include h
omit hN in
omit hN in
variable (raw tbs sig:Bs)
end
end Go.Proofs.YtfgdgdnlglejbaaGreatDoor.Pl
namespace Go.Proofs.YtfgdgdnlglejbaaGreatDoor.Pl
open IntKind (i64)
open Go Vm
theorem SB {α :Type} {P: α ->Prop} {l:List α} {x: α} (h: ∀ y∈l,P y) (hx:P x): ∀ y∈l++[x],P y:=by
 intro y hy;rcases List.mem_append.1 hy with hy | hy
 ·exact h y hy
 ·rw[List.mem_singleton.1 hy];exact hx
def Ends {α :Type} (Q: α ->Prop) (o:Option α):Prop:= ∃ v,o=some v/\Q v
theorem EK {α :Type} {Q: α ->Prop} {v: α} (h:Q v):Ends Q (some v):=⟨v,rfl,h⟩
theorem DN {α ρ :Type} [Inhabited α] {P: α ->Prop} {Q: ρ ->Prop} {o:Option α} {k: α ->Option ρ} (h:Ends P o) (hk: ∀ v,P v->Ends Q (k v)):Ends Q (Dj o k):=by obtain⟨v,rfl,hv⟩:=h;exact hk v hv
theorem DC {ρ :Type} {Q: ρ ->Prop} {c:Bool} {k:Option ρ} (h:c=true) (hk:Ends Q k):Ends Q (Vm.chk c k):=by rw[h];exact hk
theorem DX {ρ :Type} {Q: ρ ->Prop} {c:Bool} {x y:Option ρ} (h1:c=true->Ends Q x) (h2:c=false->Ends Q y):Ends Q (bif c then x else y):=by
 cases c with
 | true=>exact h1 rfl
 | false=>exact h2 rfl
theorem bC {α ρ :Type} {P: α ->Prop} {Q: ρ ->Prop} {A:(α ->Option ρ)->Option ρ} {f: α ->Option ρ} (hA: ∀ j: α ->Option ρ,(∀ x,P x->Ends Q (j x))->Ends Q (A j)) (hf: ∀ x,P x->Ends Q (f x)):Ends Q (Gm A f):=hA f hf
theorem FW {X Y ρ :Type} {B:X->(X->Option ρ)->(Y->Option ρ)->Option ρ} {kx:Y->Option ρ} {Q: ρ ->Prop} (I:X->Prop) (μ :X->Nat)
 (h: ∀ x,I x-> ∀ k:X->Option ρ,(∀ x',I x'-> μ x'< μ x->Ends Q (k x'))->Ends Q (B x k kx)) (N:Nat) (x:X) (hI:I x) (hm: μ x<N):Ends Q (Dz B N x kx):=MR I μ (Ends Q) h N x hI hm
theorem Agh {α :Type} {P Q: α ->Prop} {o:Option α} (h:Ends P o) (hq: ∀ v,P v->Q v):Ends Q o:=by obtain⟨v,rfl,hv⟩:=h;exact⟨v,rfl,hq v hv⟩
def EF (L:List Int) (d:List Int×Int):Prop:= ∃ k:Nat,d=(L,(k:Int))/\k<=L.length
theorem AoI (N:Nat) {L:List Int} (hL:L.length<=9223372036854775807) {d:List Int×Int} (hd:EF L d) (n:Nat) (hn:0<n) (hn':n<2147483648) :
 Ends (fun r=>0<=r.1/\r.1<(n:Int)/\EF L r.2) (DL N d (n:Int)):=by
 obtain⟨k,rfl,hk⟩:=hd;unfold DL;try simp -zeta only[Ap]
 try dsimp only
 by_cases h:k<L.length
 ·rw[PO,if_neg (by omega),w64 (x:=(k:Int)+1) (by omega) (by omega),w64 (x:=(k:Int)+1 - 1) (by omega) (by omega),YQ,if_pos (by omega),YQ,if_pos (by omega)];generalize L.getD _ _=x;have hne:((n:Int) != 0)=true:=by simp;omega
  rw[hne,Gh,Gh];have h1:=Int.tmod_lt_of_pos x (show(0:Int)<(n:Int) by omega);have h2: -(n:Int)<x.tmod (n:Int):=Int.lt_tmod_of_pos x (by omega);rw[w64 (x:=x.tmod (n:Int)+(n:Int)) (by omega) (by omega)];have h3:0<=(x.tmod (n:Int)+(n:Int)).tmod (n:Int):=Int.tmod_nonneg _ (by omega);have h4:=Int.tmod_lt_of_pos (x.tmod (n:Int)+(n:Int)) (show(0:Int)<(n:Int) by omega);refine⟨_,rfl,h3,h4,k+1,by rw[show((k+1:Nat):Int)=(k:Int)+1 by omega],h⟩
 ·rw[PO,if_pos (by omega)];exact⟨_,rfl,Int.le_refl _,by show(0:Int)<n;omega,k,rfl,hk⟩
theorem JG {α :Type} {P: α ->Prop} {l:List α} {d: α} {i:Int} (h: ∀ x∈l,P x) (h0:0<=i) (hi:i<(l.length:Int)):P (l.getD i.toNat d):=h _ (getD_mem d (by omega))
section
variable (N:Nat) (hN:1048578<N) {L:List Int} (hL:L.length<=9223372036854775807)
include hL
theorem nx {d:List Int×Int} (hd:EF L d) (n:Int) (h0:0<n) (h1:n<2147483648):Ends (fun r=>0<=r.1/\r.1<n/\EF L r.2) (DL N d n):=by
 have:=AoI N hL hd n.toNat (by omega) (by omega)
 rw[show((n.toNat:Nat):Int)=n by omega]at this;exact this
omit hL in
theorem AmE {a:Att} (h:a∈VJ): [a]∈Hz:=List.mem_append_left _ (List.mem_append_left _ (List.mem_map.2 ⟨a,h,rfl⟩))
omit hL in
theorem Aq0 {a b:Att} (h:a∈VJ) (hb:b∈VJ) (hn:b.1≠a.1): [a,b]∈Hz :=
 List.mem_append_left _ (List.mem_append_right _ (List.mem_flatMap.2 ⟨a,h,List.mem_map.2 ⟨b,List.mem_filter.2 ⟨hb,by simpa using Ne.symm hn⟩,rfl⟩⟩))
theorem AhM {d:List Int×Int} (hd:EF L d):Ends (fun r=>r.1∈VJ/\EF L r.2) (QI N d):=by
 unfold QI;try simp -zeta only[Ap]
 refine DN (nx N hL hd 12 (by omega) (by omega)) ?_;rintro ⟨r,d'⟩ ⟨h0,h1,h2⟩;dsimp only at h0 h1 h2 ⊢;refine DC (by simp;omega) (DC (by simp;omega) (DC (by simp;omega) (EK ⟨?_,h2⟩)));exact JG (P:=fun x=>x∈VJ) (fun x hx=>hx) h0 h1
include hN in
theorem Af2 {d:List Int×Int} (hd:EF L d):Ends (fun r=>okN r.1/\EF L r.2) (Tv N d):=by
 unfold Tv;try simp only[clR]
 refine DN (nx N hL hd 4 (by omega) (by omega)) ?_;rintro ⟨r,d1,d2⟩ ⟨h0,h1,h2⟩;dsimp only at h0 h1 h2 ⊢;refine FW (fun x=>0<=x.1/\x.1<4/\EF L (x.2.1,x.2.2.1)/\((x.2.2.2.length:Int)+x.1<=3)/\ ∀ r∈x.2.2.2,r∈Hz) (fun x=>x.1.toNat) ?_ N _ ⟨h0,h1,h2,by simp;omega,fun r hr=>by cases hr⟩ (by dsimp only;omega);rintro ⟨t,a,b,acc⟩ ⟨g0,g1,g2,g3,g4⟩ k hk;dsimp only[U4]at g0 g1 g2 g3 g4 ⊢;refine DX (fun ht=> ?_) (fun _=> ?_)
 ·have ht:=of_decide_eq_true ht;refine DN (nx N hL g2 5 (by omega) (by omega)) ?_;rintro ⟨r,e1,e2⟩ ⟨f0,f1,f2⟩;dsimp only at f0 f1 f2 ⊢
  have hw:i64.wrap (1+i64.wrap (r.tdiv 4))<=2/\1<=i64.wrap (1+i64.wrap (r.tdiv 4)):=by
   have:r=0\/r=1\/r=2\/r=3\/r=4:=by omega
   rcases this with rfl | rfl | rfl | rfl | rfl<;>decide
  refine FW (fun x=>0<=x.1/\x.1<=2/\EF L (x.2.1,x.2.2.1)/\((x.2.2.2.1.length:Int)+x.1<=2)/\((x.2.2.2.1=[]/\1<=x.1)\/(∃ y∈VJ,x.2.2.2.1=[y])\/(x.2.2.2.1.length=2/\x.2.2.2.1∈Hz))/\x.2.2.2.2=acc) (fun x=>x.1.toNat) ?_ N _ ⟨by dsimp only;omega,hw.1,f2,by simp;omega,Or.inl ⟨rfl,hw.2⟩,rfl⟩ (by dsimp only;omega);rintro ⟨t',a',b',acc',out⟩ ⟨p0,p1,p2,p3,p4,p5⟩ k' hk';dsimp only[U5]at p0 p1 p2 p3 p4 p5 ⊢;subst p5;refine DX (fun ht'=> ?_) (fun ht'=> ?_)
  ·have ht':=of_decide_eq_true ht';refine DN (AhM N hL p2) ?_;rintro ⟨r,q1,q2⟩ ⟨z0,z1⟩;dsimp only at z0 z1 ⊢
   have taut:(decide ((0:Int)<(acc'.length:Int))||((acc'.length:Nat):Int)==0)=true:=by
    cases acc' with
    | nil=>rfl
    | cons x y=>rw[decide_eq_true (by rw[List.length_cons];omega)];rfl
   have Ah9:(decide (0<acc'.length)||((acc'.length:Nat):Int)==0)=true:=by
    cases acc' with
    | nil=>rfl
    | cons x y=>rw[decide_eq_true (by rw[List.length_cons];omega)];rfl
   refine DC (by first | exact taut | exact Ah9) (DC (by first | exact taut | exact Ah9) (DC (by first | exact taut | exact Ah9) ?_))
   have p4':acc'=[]\/ ∃ y∈VJ,acc'=[y]:=by
    rcases p4 with ⟨h,_⟩ | h | ⟨h,_⟩
    ·exact Or.inl h
    ·exact Or.inr h
    ·rw[h]at p3;omega
   refine DX (fun hc=> ?_) (fun hc=> ?_)
   ·refine DC (decide_eq_true (by omega)) (hk' _ ⟨?_,?_,z1,?_,?_,rfl⟩ ?_)
    ·dsimp only;rw[w64 (by omega) (by omega)];omega
    ·dsimp only;rw[w64 (by omega) (by omega)];omega
    ·dsimp only;rw[w64 (by omega) (by omega),List.length_append];simp;omega
    ·dsimp only;rcases p4' with rfl | ⟨y,hy,rfl⟩
     ·exact Or.inr (Or.inl ⟨r,z0,rfl⟩)
     ·refine Or.inr (Or.inr ⟨rfl,Aq0 hy z0 fun e=> ?_⟩);rw[e]at hc;simp at hc
    ·dsimp only;rw[w64 (by omega) (by omega)];omega
   ·refine hk' _ ⟨?_,?_,z1,?_,?_,rfl⟩ ?_
    ·dsimp only;rw[w64 (by omega) (by omega)];omega
    ·dsimp only;rw[w64 (by omega) (by omega)];omega
    ·dsimp only;rw[w64 (by omega) (by omega)];omega
    ·dsimp only;rcases p4' with rfl | h
     ·simp at hc
     ·exact Or.inr (Or.inl h)
    ·dsimp only;rw[w64 (by omega) (by omega)];omega
  ·have ht':=of_decide_eq_false ht';dsimp only[U4]
   have hin:acc'∈Hz:=by
    rcases p4 with ⟨_,h⟩ | ⟨y,hy,rfl⟩ | ⟨_,h⟩
    ·omega
    ·exact AmE hy
    ·exact h
   refine DC (decide_eq_true (by omega)) (hk _ ⟨?_,?_,p2,?_,SB g4 hin⟩ ?_)
   ·dsimp only;rw[w64 (by omega) (by omega)];omega
   ·dsimp only;rw[w64 (by omega) (by omega)];omega
   ·dsimp only;rw[w64 (by omega) (by omega),List.length_append];simp;omega
   ·dsimp only;rw[w64 (by omega) (by omega)];omega
 ·dsimp only[U3];exact EK ⟨⟨by dsimp only;omega,g4⟩,g2⟩
include hN hL
theorem mV {d:List Int×Int} (hd:EF L d):Ends (fun r=>okG r.1/\EF L r.2) (NJ N d):=by
 have hT: ∀(l:List Bs) (k:Int),l.all (fun s=>Aet.contains (k,s,[]))=true-> ∀ s∈l,okG (k,s,[]):=fun l k h s hs=>Or.inl (List.contains_iff_mem.1 (List.all_eq_true.1 h s hs));unfold NJ;try simp only[clR]
 refine DN (nx N hL hd 4 (by omega) (by omega)) ?_;rintro ⟨r,d'⟩ ⟨h0,h1,h2⟩;dsimp only at h0 h1 h2 ⊢;refine DX (fun _=> ?_) (fun _=>DX (fun _=> ?_) (fun _=>DX (fun _=> ?_) (fun _=> ?_)))
 ·refine DN (nx N hL h2 6 (by omega) (by omega)) ?_;rintro ⟨r,d'⟩ ⟨h0,h1,h2⟩;dsimp only at h0 h1 h2 ⊢;refine DC (decide_eq_true (by omega)) (DC (decide_eq_true (by omega)) (DC (decide_eq_true (by omega)) (EK ⟨JG (P:=fun s=>okG (1,s,[])) (hT _ 1 (by kernel_rfl)) h0 h1,h2⟩)))
 ·refine DN (nx N hL h2 7 (by omega) (by omega)) ?_;rintro ⟨r,d'⟩ ⟨h0,h1,h2⟩;dsimp only at h0 h1 h2 ⊢;refine DC (decide_eq_true (by omega)) (DC (decide_eq_true (by omega)) (DC (decide_eq_true (by omega)) (EK ⟨JG (P:=fun s=>okG (2,s,[])) (hT _ 2 (by kernel_rfl)) h0 h1,h2⟩)))
 ·refine DN (nx N hL h2 4 (by omega) (by omega)) ?_;rintro ⟨r,d'⟩ ⟨h0,h1,h2⟩;dsimp only at h0 h1 h2 ⊢;refine DC (decide_eq_true (by omega)) (DC (decide_eq_true (by omega)) (DC (decide_eq_true (by omega)) (EK ⟨JG (P:=fun s=>okG (7,s,[])) (hT _ 7 (by kernel_rfl)) h0 h1,h2⟩)))
 ·refine DN (Af2 N hN hL h2) ?_;rintro ⟨n,d'⟩ ⟨g0,g1⟩;exact EK ⟨Or.inr ⟨n,g0,rfl⟩,g1⟩
omit hN in
theorem Alg {d:List Int×Int} (hd:EF L d):Ends (fun r=>r.1∈Qr/\EF L r.2) (WC N d):=by
 unfold WC;try simp -zeta only[Ap]
 refine DN (nx N hL hd 7 (by omega) (by omega)) ?_;rintro ⟨r,d'⟩ ⟨h0,h1,h2⟩;dsimp only at h0 h1 h2 ⊢;exact DC (decide_eq_true (by omega)) (DC (decide_eq_true (by omega)) (DC (decide_eq_true (by omega)) (EK ⟨JG (P:=fun x=>x∈Qr) (fun x hx=>hx) h0 h1,h2⟩)))
omit hL in
theorem Y3 {k:Int} (h0:0<=k) (h1:k<16):Ends (fun n=> ∃ j:Nat,j<16/\n=aut j) (IE N k):=by
 obtain⟨j,rfl⟩: ∃ j:Nat,k=j:=⟨k.toNat,by omega⟩
 exact⟨aut j,(AhN hN (by omega)).made,j,by omega,rfl⟩
theorem Agy {d:List Int×Int} (hd:EF L d):Ends (fun r=>Qi r.1/\EF L r.2) (Ru N d):=by
 unfold Ru;try simp only[clR]
 refine DN (nx N hL hd 3 (by omega) (by omega)) ?_;rintro ⟨r,d1,d2⟩ ⟨h0,h1,h2⟩;dsimp only at h0 h1 h2 ⊢;rw[w64 (by omega) (by omega)];refine FW (fun x=>0<=x.1/\x.1<4/\EF L (x.2.1,x.2.2.1)/\((x.2.2.2.length:Int)+x.1<=3)/\(x.2.2.2=[]->1<=x.1)/\ ∀ p∈x.2.2.2,okP p) (fun x=>x.1.toNat) ?_ N _ ⟨by dsimp only;omega,by dsimp only;omega,h2,by simp;omega,(fun _=>by dsimp only;omega),(fun r hr=>by cases hr)⟩ (by dsimp only;omega);rintro ⟨t,a,b,acc⟩ ⟨g0,g1,g2,g3,g5,g4⟩ k hk;dsimp only[U4]at g0 g1 g2 g3 g4 g5 ⊢;refine DX (fun ht=> ?_) (fun ht=>by dsimp only[U3];exact EK ⟨⟨fun e=>by have:=g5 e;have:=of_decide_eq_false ht;omega,by dsimp only;omega,g4⟩,g2⟩);have ht:=of_decide_eq_true ht;refine DN (mV N hN hL g2) ?_;rintro ⟨g,e⟩ ⟨f0,f1⟩;refine DN (nx N hL f1 6 (by omega) (by omega)) ?_;rintro ⟨r6,e1,e2⟩ ⟨c0,c1,c2⟩;dsimp only at c0 c1 c2 f0 ⊢;refine DC (decide_eq_true (by omega)) (DC (decide_eq_true (by omega)) (DC (decide_eq_true (by omega)) ?_));have hr: [(0:Int),0,510,2,64,384].getD r6.toNat 0=0\/ [(0:Int),0,510,2,64,384].getD r6.toNat 0∈AfH:=JG (P:=fun x:Int=>x=0\/x∈AfH) (by decide) c0 c1;refine bC (P:=fun x=>EF L (x.1,x.2.1)/\x.2.2.1=[(0:Int),0,510,2,64,384].getD r6.toNat 0/\((x.2.2.2.1=false/\x.2.2.2.2.1=[])\/(x.2.2.2.1=true/\okN x.2.2.2.2.1/\x.2.2.2.2.1≠ []))/\x.2.2.2.2.2.1=[g]/\x.2.2.2.2.2.2=acc) (fun j hj=> ?_) ?_
 ·refine DN (nx N hL c2 3 (by omega) (by omega)) ?_;rintro ⟨r3,q1,q2⟩ ⟨z0,z1,z2⟩;dsimp only at z0 z1 z2 ⊢;refine DX (fun _=> ?_) (fun _=>hj _ ⟨z2,rfl,Or.inl ⟨rfl,rfl⟩,rfl,rfl⟩);refine DN (nx N hL z2 16 (by omega) (by omega)) ?_;rintro ⟨r3,q1,q2⟩ ⟨z0,z1,z2⟩;dsimp only at z0 z1 z2 ⊢;refine DN (Y3 N hN z0 z1) ?_;rintro n ⟨i,hi,rfl⟩;have A:=AhN hN hi;exact hj _ ⟨z2,rfl,Or.inr ⟨rfl,A.ok,A.ne⟩,rfl,rfl⟩
 ·rintro ⟨q1,q2,x1,x2,x3,x4,x5⟩ ⟨y1,y2,y3,y4,y5⟩;dsimp only[U7]at y1 y2 y3 y4 y5 ⊢;subst y2 y4 y5;refine DC (decide_eq_true (by omega)) (hk _ ⟨?_,?_,y1,?_,?_,SB g4 ⟨⟨g,f0,rfl⟩,hr,y3⟩⟩ ?_)
  ·dsimp only;rw[w64 (by omega) (by omega)];omega
  ·dsimp only;rw[w64 (by omega) (by omega)];omega
  ·dsimp only;rw[w64 (by omega) (by omega),List.length_append];simp;omega
  ·intro e;simp at e
  ·dsimp only;rw[w64 (by omega) (by omega)];omega
end
end Go.Proofs.YtfgdgdnlglejbaaGreatDoor.Pl
namespace Go.Proofs.YtfgdgdnlglejbaaGreatDoor.Pl
open IntKind (i64)
open Go Vm
abbrev Info:Type:=Bool×Bool×Int×Int×List Bs×List Bs×List (Bs×Bs)×Int×Int×Int×List Gn×Bool×List Gn×List Gn×Bs×Bs×List Pt×List Pt×List Ex
def SG:List Bs:=[[49,46,50,46,51,46,49],[49,46,50,46,51,46,50],[49,46,50,46,51,46,51],[49,46,50,46,51,46,52],[49,46,50,46,51,46,53],[50,46,57,57,57,46,49],[50,46,57,57,57,46,50],[49,46,50,46,51],[50,46,53,46,50,57,46,51,50,46,48]]
def SH:List Bs:=[[49,46,51,46,54,46,49,46,53,46,53,46,55,46,51,46,49],[49,46,51,46,54,46,49,46,53,46,53,46,55,46,51,46,50],[49,46,51,46,54,46,49,46,53,46,53,46,55,46,51,46,51],[49,46,51,46,54,46,49,46,53,46,53,46,55,46,51,46,52],[50,46,53,46,50,57,46,51,55,46,48]]
def skL:List Bs:=[[],[48,49,50,51,52,53,54,55,56,57,97,98,99,100,101,102],[120]]
def akL:List Bs:=[[],[102,101,100,99,98,97,57,56,55,54,53,52,51,50,49,48]]
def Ac9:List Gn:=[[97,110,110,64,101,120,97,109,112,108,101,46,111,114,103],[101,120,97,109,112,108,101,46,111,114,103],[46,101,120,97,109,112,108,101,46,111,114,103],[69,88,65,77,80,76,69,46,111,114,103],[46,111,114,103],[111,114,103],[109,97,105,108,46,101,120,97,109,112,108,101,46,111,114,103]].map (fun s=>(1,s,[])) ++
 [[101,120,97,109,112,108,101,46,111,114,103],[119,119,119,46,101,120,97,109,112,108,101,46,111,114,103],[],[69,120,97,109,112,108,101,46,79,82,71],[111,114,103],[98],[97,46,98]].map (fun s=>(2,s,[])) ++
 [[10,0,0,0,255,0,0,0],[10,1,0,0,255,255,0,0],[0,0,0,0,0,0,0,0],[10,1,2,3,255,255,255,255],[32,1,0,0,0,0,0,0,0,0,0,0,0,0,0,0,255,255,0,0,0,0,0,0,0,0,0,0,0,0,0,0]].map (fun s=>(7,s,[]))
def okB (g:Gn):Prop:=g∈Ac9\/ ∃ n,okN n/\g=(4,[],n)
structure okS (s:List Gn×List Gn):Prop where
 l0:s.1.length<=3
 l1:s.2.length<=3
 ne:s.1≠ []\/s.2≠ []
 a0: ∀ g∈s.1,okB g
 a1: ∀ g∈s.2,okB g
def dI:List (Bool×Int):=[(true,-1),(true,0),(true,1),(true,2),(true,3),(false,-1)]
def Uf:List Int:=[-1,0,1,2,3]
def unX (c:Bool):Ex:=([49,46,50,46,51,46,52,46,53],c,[5,0])
def unY:Ex:=([49,46,50,46,51,46,52,46,54],false,[48,3,2,1,7])
def unL:List (List Ex):=[[],[unX true],[unX false],[unX true,unY],[unX false,unY]]
structure bP (L l:List Bs):Prop where
 len:l.length<=3
 all: ∀ s∈l,s∈L
 nod:l.Nodup
structure AdN (l:List (Bs×Bs)):Prop where
 len:l.length<=3
 all: ∀ m∈l,m.1∈SG/\m.2∈SG
 nod:l.Nodup
structure OkI (x:Info):Prop where
 bas:(x.1=true/\(x.2.1,x.2.2.1)∈dI)\/(x.1=false/\x.2.1=false/\x.2.2.1= -1)
 us:0<=x.2.2.2.1/\x.2.2.2.1<=511
 pu:bP SH x.2.2.2.2.1
 po:bP SG x.2.2.2.2.2.1
 ma:AdN x.2.2.2.2.2.2.1
 re:x.2.2.2.2.2.2.2.1∈Uf
 im:x.2.2.2.2.2.2.2.2.1∈Uf
 ia: -1<=x.2.2.2.2.2.2.2.2.2.1/\x.2.2.2.2.2.2.2.2.2.1<=64
 na:x.2.2.2.2.2.2.2.2.2.2.1.length<=2/\ ∀ g∈x.2.2.2.2.2.2.2.2.2.2.1,okG g
 con:(x.2.2.2.2.2.2.2.2.2.2.2.1=false/\x.2.2.2.2.2.2.2.2.2.2.2.2.1=[]/\x.2.2.2.2.2.2.2.2.2.2.2.2.2.1=[])\/(x.2.2.2.2.2.2.2.2.2.2.2.1=true/\okS (x.2.2.2.2.2.2.2.2.2.2.2.2.1,x.2.2.2.2.2.2.2.2.2.2.2.2.2.1))
 sk:x.2.2.2.2.2.2.2.2.2.2.2.2.2.2.1∈skL
 ak:x.2.2.2.2.2.2.2.2.2.2.2.2.2.2.2.1∈akL
 pt:x.2.2.2.2.2.2.2.2.2.2.2.2.2.2.2.2.1=[]\/Qi x.2.2.2.2.2.2.2.2.2.2.2.2.2.2.2.2.1
 fr:x.2.2.2.2.2.2.2.2.2.2.2.2.2.2.2.2.2.1=[]\/Qi x.2.2.2.2.2.2.2.2.2.2.2.2.2.2.2.2.2.1
 un:x.2.2.2.2.2.2.2.2.2.2.2.2.2.2.2.2.2.2∈unL
section
variable (N:Nat) (hN:1048578<N) {L:List Int} (hL:L.length<=9223372036854775807)
include hN hL
theorem Ae7 {d:List Int×Int} (hd:EF L d):Ends (fun r=>okB r.1/\EF L r.2) (Tu N d):=by
 have hT: ∀(l:List Bs) (k:Int),l.all (fun s=>Ac9.contains (k,s,[]))=true-> ∀ s∈l,okB (k,s,[]):=fun l k h s hs=>Or.inl (List.contains_iff_mem.1 (List.all_eq_true.1 h s hs));unfold Tu;try simp only[clR]
 refine DN (nx N hL hd 4 (by omega) (by omega)) ?_;rintro ⟨r,d'⟩ ⟨h0,h1,h2⟩;dsimp only at h0 h1 h2 ⊢;refine DX (fun _=> ?_) (fun _=>DX (fun _=> ?_) (fun _=>DX (fun _=> ?_) (fun _=> ?_)))
 ·refine DN (nx N hL h2 7 (by omega) (by omega)) ?_;rintro ⟨r,d'⟩ ⟨h0,h1,h2⟩;dsimp only at h0 h1 h2 ⊢;refine DC (decide_eq_true (by omega)) (DC (decide_eq_true (by omega)) (DC (decide_eq_true (by omega)) (EK ⟨JG (P:=fun s=>okB (1,s,[])) (hT _ 1 (by kernel_rfl)) h0 h1,h2⟩)))
 ·refine DN (nx N hL h2 7 (by omega) (by omega)) ?_;rintro ⟨r,d'⟩ ⟨h0,h1,h2⟩;dsimp only at h0 h1 h2 ⊢;refine DC (decide_eq_true (by omega)) (DC (decide_eq_true (by omega)) (DC (decide_eq_true (by omega)) (EK ⟨JG (P:=fun s=>okB (2,s,[])) (hT _ 2 (by kernel_rfl)) h0 h1,h2⟩)))
 ·refine DN (nx N hL h2 5 (by omega) (by omega)) ?_;rintro ⟨r,d'⟩ ⟨h0,h1,h2⟩;dsimp only at h0 h1 h2 ⊢;refine DC (decide_eq_true (by omega)) (DC (decide_eq_true (by omega)) (DC (decide_eq_true (by omega)) (EK ⟨JG (P:=fun s=>okB (7,s,[])) (hT _ 7 (by kernel_rfl)) h0 h1,h2⟩)))
 ·refine DN (Af2 N hN hL h2) ?_;rintro ⟨n,d'⟩ ⟨g0,g1⟩;exact EK ⟨Or.inr ⟨n,g0,rfl⟩,g1⟩
theorem Akz {d:List Int×Int} (hd:EF L d):Ends (fun r=>okS r.1/\EF L r.2) (RS N d):=by
 unfold RS;try simp only[clR]
 refine DN (nx N hL hd 4 (by omega) (by omega)) ?_;rintro ⟨r,d1,d2⟩ ⟨h0,h1,h2⟩;dsimp only at h0 h1 h2 ⊢;refine FW (fun x=>0<=x.1/\x.1<4/\EF L (x.2.1,x.2.2.1)/\((x.2.2.2.length:Int)+x.1<=3)/\ ∀ g∈x.2.2.2,okB g) (fun x=>x.1.toNat) ?_ N _ ⟨h0,h1,h2,by simp;omega,(fun r hr=>by cases hr)⟩ (by dsimp only;omega);rintro ⟨t,a,b,acc⟩ ⟨g0,g1,g2,g3,g4⟩ k hk;dsimp only[U4]at g0 g1 g2 g3 g4 ⊢;refine DX (fun ht=> ?_) (fun _=> ?_)
 ·have ht:=of_decide_eq_true ht;refine DN (Ae7 N hN hL g2) ?_;rintro ⟨g,e1,e2⟩ ⟨f0,f1⟩;dsimp only at f0 f1 ⊢;refine DC (decide_eq_true (by omega)) (hk _ ⟨?_,?_,f1,?_,SB g4 f0⟩ ?_)
  ·dsimp only;rw[w64 (by omega) (by omega)];omega
  ·dsimp only;rw[w64 (by omega) (by omega)];omega
  ·dsimp only;rw[w64 (by omega) (by omega),List.length_append];simp;omega
  ·dsimp only;rw[w64 (by omega) (by omega)];omega
 ·dsimp only[U3];refine DN (nx N hL g2 3 (by omega) (by omega)) ?_;rintro ⟨r,e1,e2⟩ ⟨f0,f1,f2⟩;dsimp only at f0 f1 f2 ⊢;refine FW (fun x=>0<=x.1/\x.1<3/\EF L (x.2.1,x.2.2.1)/\x.2.2.2.1=acc/\((x.2.2.2.2.length:Int)+x.1<=2)/\ ∀ g∈x.2.2.2.2,okB g) (fun x=>x.1.toNat) ?_ N _ ⟨f0,f1,f2,rfl,by simp;omega,(fun r hr=>by cases hr)⟩ (by dsimp only;omega);rintro ⟨t',a',b',acc',out⟩ ⟨p0,p1,p2,p3,p4,p5⟩ k' hk';dsimp only[U5]at p0 p1 p2 p3 p4 p5 ⊢;subst p3;refine DX (fun ht'=> ?_) (fun _=> ?_)
  ·have ht':=of_decide_eq_true ht';refine DN (Ae7 N hN hL p2) ?_;rintro ⟨g,q1,q2⟩ ⟨z0,z1⟩;dsimp only at z0 z1 ⊢;refine DC (decide_eq_true (by omega)) (hk' _ ⟨?_,?_,z1,rfl,?_,SB p5 z0⟩ ?_)
   ·dsimp only;rw[w64 (by omega) (by omega)];omega
   ·dsimp only;rw[w64 (by omega) (by omega)];omega
   ·dsimp only;rw[w64 (by omega) (by omega),List.length_append];simp;omega
   ·dsimp only;rw[w64 (by omega) (by omega)];omega
  ·dsimp only[U4];refine DX (fun _=> ?_) (fun hc=>EK ⟨⟨by dsimp only;omega,by dsimp only;omega,?_,g4,p5⟩,p2⟩)
   ·refine DN (Ae7 N hN hL p2) ?_;rintro ⟨g,q1,q2⟩ ⟨z0,z1⟩;dsimp only at z0 z1 ⊢;refine DC (decide_eq_true (by omega)) (EK ⟨⟨by dsimp only;omega,?_,Or.inr (by simp),g4,SB p5 z0⟩,z1⟩);dsimp only;rw[List.length_append];simp;omega
   ·dsimp only;by_cases e1:acc'=[]
    ·refine Or.inr fun e2=> ?_;subst e1 e2;cases hc
    ·exact Or.inl e1
end
section
variable (N:Nat) (hN:1048578<N) {L:List Int} (hL:L.length<=9223372036854775807)
theorem yC {k:Int} (h0:0<=k) (h1:k<9):Ends (fun s=>s∈SG) (OO N k):=by
 unfold OO;try simp -zeta only[Ap]
 have h:k.tmod 9=k:=by
  have:k=0\/k=1\/k=2\/k=3\/k=4\/k=5\/k=6\/k=7\/k=8:=by omega
  rcases this with rfl | rfl | rfl | rfl | rfl | rfl | rfl | rfl | rfl<;>rfl
 rw[h];exact DC (decide_eq_true (by omega)) (DC (decide_eq_true (by omega)) (DC (decide_eq_true (by omega)) (EK (JG (P:=fun s=>s∈SG) (fun s hs=>hs) h0 h1))))
theorem take_any {α :Type} (p: α ->Bool) {l:List α} {i:Nat} (hi:i<l.length) (d: α):(l.take (i+1)).any p=((l.take i).any p||p (l.getD i d)):=by rw[List.take_add_one,List.getElem?_eq_getElem hi,getD_lt l i d hi,List.any_append];simp
theorem Ags {α :Type} {l:List α} {x: α} (h:l.Nodup) (hx:x∉l):(l++[x]).Nodup:=by rw[List.nodup_append];refine⟨h,List.nodup_cons.2 ⟨List.not_mem_nil,List.nodup_nil⟩,fun a ha b hb=> ?_⟩;rw[List.mem_singleton.1 hb];exact fun e=>hx (e▸ha)
include hN hL in
theorem AkY {d:List Int×Int} (p:Bool) (hd:EF L d):Ends (fun r=>(bP (bif p then SH else SG) r.1)/\EF L r.2) (WE N d p):=by
 unfold WE;try simp only[clR]
 refine DN (nx N hL hd 3 (by omega) (by omega)) ?_;rintro ⟨r,d1,d2⟩ ⟨h0,h1,h2⟩;dsimp only at h0 h1 h2 ⊢;rw[w64 (by omega) (by omega)];refine FW (fun x=>0<=x.1/\x.1<4/\EF L (x.2.1,x.2.2.1)/\((x.2.2.2.length:Int)+x.1<=3)/\(∀ s∈x.2.2.2,s∈(bif p then SH else SG))/\x.2.2.2.Nodup) (fun x=>x.1.toNat) ?_ N _ ⟨by dsimp only;omega,by dsimp only;omega,h2,by simp;omega,(fun r hr=>by cases hr),List.nodup_nil⟩ (by dsimp only;omega);rintro ⟨t,a,b,acc⟩ ⟨g0,g1,g2,g3,g4,g5⟩ k hk;dsimp only[U4]at g0 g1 g2 g3 g4 g5 ⊢;refine DX (fun ht=> ?_) (fun _=>by dsimp only[U3];exact EK ⟨⟨by dsimp only;omega,g4,g5⟩,g2⟩);have ht:=of_decide_eq_true ht;refine DN (nx N hL g2 9 (by omega) (by omega)) ?_;rintro ⟨r9,e1,e2⟩ ⟨c0,c1,c2⟩;dsimp only at c0 c1 c2 ⊢;refine DN (yC N c0 c1) ?_;intro s hs;refine bC (P:=fun x=>x.1∈(bif p then SH else SG)/\EF L (x.2.1,x.2.2.1)/\x.2.2.2=acc) (fun j hj=> ?_) ?_
 ·cases p with
  | false=>exact hj _ ⟨hs,c2,rfl⟩
  | true =>simp only[cond_true];refine DN (nx N hL c2 5 (by omega) (by omega)) ?_;rintro ⟨r3,q1,q2⟩ ⟨z0,z1,z2⟩;dsimp only at z0 z1 z2 ⊢;exact DC (decide_eq_true (by omega)) (DC (decide_eq_true (by omega)) (DC (decide_eq_true (by omega)) (hj _ ⟨JG (P:=fun s=>s∈SH) (fun s hs=>hs) z0 z1,z2,rfl⟩)))
 ·rintro ⟨s,q1,q2,x⟩ ⟨y1,y2,y3⟩;dsimp only at y1 y2 y3;subst y3;dsimp only[U4];refine FW (fun z=>0<=z.2.1/\z.2.1<=(x.length:Int)/\EF L (z.2.2.1,z.2.2.2.1)/\z.2.2.2.2=x/\z.1=(x.take z.2.1.toNat).any (fun y=>s==y)) (fun z=>x.length - z.2.1.toNat) ?_ N _ ⟨Int.le_refl _,by dsimp only;omega,y2,rfl,rfl⟩ (by dsimp only;omega);rintro ⟨w1,i,a',b',x'⟩ ⟨p0,p1,p2,p3,p4⟩ k' hk';dsimp only[U5]at p0 p1 p2 p3 p4 ⊢;subst p3;refine DX (fun hi=> ?_) (fun hi=> ?_)
  ·have hi:=of_decide_eq_true hi;refine DC (decide_eq_true (by omega)) (DC (decide_eq_true (by omega)) (DC (decide_eq_true (by omega)) (hk' _ ⟨?_,?_,p2,rfl,?_⟩ ?_)))
   ·dsimp only;rw[w64 (by omega) (by omega)];omega
   ·dsimp only;rw[w64 (by omega) (by omega)];omega
   ·dsimp only;rw[w64 (by omega) (by omega),show(i+1).toNat=i.toNat+1 by omega,take_any _ (by omega) [],p4]
   ·dsimp only;rw[w64 (by omega) (by omega)];omega
  ·have hi:=of_decide_eq_false hi;rw[List.take_of_length_le (by omega)]at p4;dsimp only[U4];refine DX (fun hc=> ?_) (fun _=> ?_)
   ·have hnot:s∉x':=fun hm=>by
     rw[p4,List.any_eq_true.2 ⟨s,hm,beq_self_eq_true s⟩]at hc;cases hc
    refine DC (decide_eq_true (by omega)) (hk _ ⟨?_,?_,p2,?_,SB g4 y1,Ags g5 hnot⟩ ?_)
    ·dsimp only;rw[w64 (by omega) (by omega)];omega
    ·dsimp only;rw[w64 (by omega) (by omega)];omega
    ·dsimp only;rw[w64 (by omega) (by omega),List.length_append];simp;omega
    ·dsimp only;rw[w64 (by omega) (by omega)];omega
   ·refine hk _ ⟨?_,?_,p2,?_,g4,g5⟩ ?_
    ·dsimp only;rw[w64 (by omega) (by omega)];omega
    ·dsimp only;rw[w64 (by omega) (by omega)];omega
    ·dsimp only;rw[w64 (by omega) (by omega)];omega
    ·dsimp only;rw[w64 (by omega) (by omega)];omega
include hN hL in
theorem Aki {d:List Int×Int} (hd:EF L d):Ends (fun r=>AdN r.1/\EF L r.2) (RU N d):=by
 unfold RU;try simp only[clR]
 refine DN (nx N hL hd 3 (by omega) (by omega)) ?_;rintro ⟨r,d1,d2⟩ ⟨h0,h1,h2⟩;dsimp only at h0 h1 h2 ⊢;rw[w64 (by omega) (by omega)];refine FW (fun x=>0<=x.1/\x.1<4/\EF L (x.2.1,x.2.2.1)/\((x.2.2.2.length:Int)+x.1<=3)/\(∀ m∈x.2.2.2,m.1∈SG/\m.2∈SG)/\x.2.2.2.Nodup) (fun x=>x.1.toNat) ?_ N _ ⟨by dsimp only;omega,by dsimp only;omega,h2,by simp;omega,(fun r hr=>by cases hr),List.nodup_nil⟩ (by dsimp only;omega);rintro ⟨t,a,b,acc⟩ ⟨g0,g1,g2,g3,g4,g5⟩ k hk;dsimp only[U4]at g0 g1 g2 g3 g4 g5 ⊢;refine DX (fun ht=> ?_) (fun _=>by dsimp only[U3];exact EK ⟨⟨by dsimp only;omega,g4,g5⟩,g2⟩);have ht:=of_decide_eq_true ht;refine DN (nx N hL g2 9 (by omega) (by omega)) ?_;rintro ⟨r9,e1,e2⟩ ⟨c0,c1,c2⟩;dsimp only at c0 c1 c2 ⊢;refine DN (yC N c0 c1) ?_;intro s hs;refine DN (nx N hL c2 9 (by omega) (by omega)) ?_;rintro ⟨r9,e1,e2⟩ ⟨c0,c1,c2⟩;dsimp only at c0 c1 c2 ⊢;refine DN (yC N c0 c1) ?_;intro s2 hs2;refine FW (fun z=>0<=z.2.1/\z.2.1<=(acc.length:Int)/\EF L (z.2.2.1,z.2.2.2.1)/\z.2.2.2.2.1=s/\z.2.2.2.2.2.1=s2/\z.2.2.2.2.2.2=acc/\z.1=(acc.take z.2.1.toNat).any (fun y=>s==y.1&&(s2==y.2&&true))) (fun z=>acc.length - z.2.1.toNat) ?_ N _ ⟨Int.le_refl _,by dsimp only;omega,c2,rfl,rfl,rfl,rfl⟩ (by dsimp only;omega);rintro ⟨w1,i,a',b',s',s2',x'⟩ ⟨p0,p1,p2,p3,p4,p5,p6⟩ k' hk';dsimp only[U7]at p0 p1 p2 p3 p4 p5 p6 ⊢;subst p3 p4 p5;refine DX (fun hi=> ?_) (fun hi=> ?_)
 ·have hi:=of_decide_eq_true hi;refine DC (decide_eq_true (by omega)) (DC (decide_eq_true (by omega)) (DC (decide_eq_true (by omega)) (hk' _ ⟨?_,?_,p2,rfl,rfl,rfl,?_⟩ ?_)))
  ·dsimp only;rw[w64 (by omega) (by omega)];omega
  ·dsimp only;rw[w64 (by omega) (by omega)];omega
  ·dsimp only;rw[w64 (by omega) (by omega),show(i+1).toNat=i.toNat+1 by omega,take_any _ (by omega) ([],[]),p6]
  ·dsimp only;rw[w64 (by omega) (by omega)];omega
 ·have hi:=of_decide_eq_false hi;rw[List.take_of_length_le (by omega)]at p6;dsimp only[U6];refine DX (fun hc=> ?_) (fun _=> ?_)
  ·have hnot:(s',s2')∉x':=fun hm=>by
    rw[p6,List.any_eq_true.2 ⟨(s',s2'),hm,by simp⟩]at hc;cases hc
   refine DC (decide_eq_true (by omega)) (hk _ ⟨?_,?_,p2,?_,SB g4 ⟨hs,hs2⟩,Ags g5 hnot⟩ ?_)
   ·dsimp only;rw[w64 (by omega) (by omega)];omega
   ·dsimp only;rw[w64 (by omega) (by omega)];omega
   ·dsimp only;rw[w64 (by omega) (by omega),List.length_append];simp;omega
   ·dsimp only;rw[w64 (by omega) (by omega)];omega
  ·refine hk _ ⟨?_,?_,p2,?_,g4,g5⟩ ?_
   ·dsimp only;rw[w64 (by omega) (by omega)];omega
   ·dsimp only;rw[w64 (by omega) (by omega)];omega
   ·dsimp only;rw[w64 (by omega) (by omega)];omega
   ·dsimp only;rw[w64 (by omega) (by omega)];omega
theorem As6:OkI (false,false,-1,0,[],[],[],-1,-1,-1,[],false,[],[],[],[],[],[],[]) :=
 ⟨Or.inr ⟨rfl,rfl,rfl⟩,by decide,⟨Nat.zero_le _,(fun s hs=>by cases hs),List.nodup_nil⟩,⟨Nat.zero_le _,(fun s hs=>by cases hs),List.nodup_nil⟩,⟨Nat.zero_le _,(fun s hs=>by cases hs),List.nodup_nil⟩,by decide,by decide,by decide,⟨Nat.zero_le _,fun s hs=>by cases hs⟩,Or.inl ⟨rfl,rfl,rfl⟩,by decide,by decide,Or.inl rfl,Or.inl rfl,by decide⟩
theorem five {n:Int} (h0:0<=n) (h1:n<5):i64.wrap (n - 1)∈Uf/\(true,i64.wrap (n - 1))∈dI:=by
 have:n=0\/n=1\/n=2\/n=3\/n=4:=by omega
 rcases this with rfl | rfl | rfl | rfl | rfl<;>exact⟨by decide,by decide⟩
theorem ArY {α :Type} {l:List α} {a b:Nat} {x: α} (h:x∈D7 l a b):x∈l:=List.mem_of_mem_take (List.mem_of_mem_drop h)
include hN hL in
theorem Ass {d:List Int×Int} (hd:EF L d):Ends (fun r=>OkI r.1/\EF L r.2) (bH N d):=by
 unfold bH;try simp only[clR]
 rw[show oO N=some (false,false,-1,0,[],[],[],-1,-1,-1,[],false,[],[],[],[],[],[],[])from rfl,Dn];refine DN (nx N hL hd 6 (by omega) (by omega)) ?_;rintro ⟨r,d1,d2⟩ ⟨h0,h1,h2⟩;dsimp only at h0 h1 h2 ⊢;refine FW (fun x=>0<=x.1/\x.1<6/\EF L (x.2.1,x.2.2.1)/\OkI x.2.2.2) (fun x=>x.1.toNat) ?_ N _ ⟨h0,h1,h2,As6⟩ (by dsimp only;omega);rintro ⟨t,a,b,hb,ca,pl,us,pu,po,ma,re,im,ia,na,hc,pe,ex,sk,ak,pt,fr,un⟩ ⟨g0,g1,g2,P⟩ k hk;dsimp only at g0 g1 g2 P hk;dsimp only[U22];refine DX (fun ht=> ?_) (fun _=> ?_)
 ·have ht:=of_decide_eq_true ht;have go: ∀(a':List Int) (b':Int) (i:Info),EF L (a',b')->OkI i->Ends (fun r=>OkI r.1/\EF L r.2) (k (i64.wrap (t - 1),a',b',i)):=by intro a' b' i hda hP;rw[w64 (by omega) (by omega)];exact hk (t - 1,a',b',i) ⟨by dsimp only;omega,by dsimp only;omega,hda,hP⟩ (by dsimp only;omega)
  refine DN (nx N hL g2 14 (by omega) (by omega)) ?_;rintro ⟨r,d1,d2⟩ ⟨h0,h1,h2⟩;dsimp only at h0 h1 h2 ⊢;refine bC (P:=fun x=> ∃ q,x=(q,d1,d2,hb,ca,pl,us,pu,po,ma,re,im,ia,na,hc,pe,ex,sk,ak,pt,fr,un)) (fun j hj=>DX (fun _=>hj _ ⟨_,rfl⟩) (fun _=>hj _ ⟨_,rfl⟩)) ?_;rintro _ ⟨q,rfl⟩;dsimp only[U22];refine DX (fun _=> ?_) (fun _=>DX (fun _=> ?_) (fun _=>DX (fun _=> ?_) (fun _=>DX (fun _=> ?_) (fun _=>DX (fun _=> ?_) (fun _=>DX (fun _=> ?_) (fun _=>DX (fun _=> ?_) (fun _=>DX (fun _=> ?_) (fun _=>DX (fun _=> ?_) (fun _=>DX (fun _=> ?_) (fun _=>DX (fun _=> ?_) (fun _=>DX (fun _=> ?_) (fun _=> ?_))))))))))))
  ·refine DN (nx N hL h2 5 (by omega) (by omega)) ?_;rintro ⟨r,e1,e2⟩ ⟨f0,f1,f2⟩;dsimp only at f0 f1 f2 ⊢;exact go _ _ _ f2 {P with bas:=Or.inl ⟨rfl,(five f0 f1).2⟩}
  ·exact go _ _ _ h2 {P with bas:=Or.inl ⟨rfl,(by decide:(false,(-1:Int))∈dI)⟩}
  ·refine DN (nx N hL h2 511 (by omega) (by omega)) ?_;rintro ⟨r,e1,e2⟩ ⟨f0,f1,f2⟩;dsimp only at f0 f1 f2 ⊢;exact go _ _ _ f2 {P with us:=by dsimp only;rw[w64 (by omega) (by omega)];omega}
  ·refine DN (AkY N hN hL true h2) ?_;rintro ⟨r,e1,e2⟩ ⟨f0,f2⟩;exact go _ _ _ f2 {P with pu:=f0}
  ·refine DN (AkY N hN hL false h2) ?_;rintro ⟨r,e1,e2⟩ ⟨f0,f2⟩;exact go _ _ _ f2 {P with po:=f0}
  ·refine DN (Aki N hN hL h2) ?_;rintro ⟨r,e1,e2⟩ ⟨f0,f2⟩;exact go _ _ _ f2 {P with ma:=f0}
  ·refine DN (nx N hL h2 5 (by omega) (by omega)) ?_;rintro ⟨r,e⟩ ⟨f0,f1,f2⟩;refine DN (nx N hL f2 5 (by omega) (by omega)) ?_;rintro ⟨r2,e1,e2⟩ ⟨c0,c1,c2⟩;dsimp only at f0 f1 c0 c1 c2 ⊢;exact go _ _ _ c2 {P with re:=(five f0 f1).1,im:=(five c0 c1).1}
  ·refine DN (nx N hL h2 65 (by omega) (by omega)) ?_;rintro ⟨r,e1,e2⟩ ⟨f0,f1,f2⟩;dsimp only at f0 f1 f2 ⊢;exact go _ _ _ f2 {P with ia:=by dsimp only;omega}
  ·refine DN (mV N hN hL h2) ?_;rintro ⟨x,e⟩ ⟨f0,f2⟩;refine DN (mV N hN hL f2) ?_;rintro ⟨y,e⟩ ⟨f1,f2⟩;refine DN (nx N hL f2 2 (by omega) (by omega)) ?_;rintro ⟨r2,e1,e2⟩ ⟨c0,c1,c2⟩;dsimp only at f0 f1 c0 c1 c2 ⊢;rw[w64 (by omega) (by omega)];refine DC (decide_eq_true (by omega)) (DC (decide_eq_true (by omega)) ?_);refine go _ _ _ c2 {P with na:=⟨?_,fun g hg=> ?_⟩}
   ·unfold D7;rw[List.length_drop,List.length_take];simp;omega
   ·rcases List.mem_cons.1 (ArY hg)with rfl | hg
    ·exact f0
    ·rw[List.mem_singleton.1 hg];exact f1
  ·refine DN (Akz N hN hL h2) ?_;rintro ⟨⟨x,y⟩,e1,e2⟩ ⟨f0,f2⟩;exact go _ _ _ f2 {P with con:=Or.inr ⟨rfl,f0⟩}
  ·refine DN (nx N hL h2 3 (by omega) (by omega)) ?_;rintro ⟨r,e⟩ ⟨f0,f1,f2⟩;dsimp only at f0 f1 f2 ⊢;refine DC (decide_eq_true (by omega)) (DC (decide_eq_true (by omega)) (DC (decide_eq_true (by omega)) ?_));refine DN (nx N hL f2 2 (by omega) (by omega)) ?_;rintro ⟨r2,e1,e2⟩ ⟨c0,c1,c2⟩;dsimp only at c0 c1 c2 ⊢;refine DC (decide_eq_true (by omega)) (DC (decide_eq_true (by omega)) (DC (decide_eq_true (by omega)) ?_));exact go _ _ _ c2 {P with sk:=JG (P:=fun s=>s∈skL) (fun s hs=>hs) f0 f1,ak:=JG (P:=fun s=>s∈akL) (fun s hs=>hs) c0 c1}
  ·refine DN (Agy N hN hL h2) ?_;rintro ⟨r,e1,e2⟩ ⟨f0,f2⟩;exact go _ _ _ f2 {P with pt:=Or.inr f0}
  ·refine DN (Agy N hN hL h2) ?_;rintro ⟨r,e⟩ ⟨f0,f2⟩;refine DN (nx N hL f2 2 (by omega) (by omega)) ?_;rintro ⟨r2,e⟩ ⟨c0,c1,c2⟩;refine DN (nx N hL c2 3 (by omega) (by omega)) ?_;rintro ⟨r3,e1,e2⟩ ⟨z0,z1,z2⟩;dsimp only at f0 c0 c1 z0 z1 z2 ⊢;refine DC (decide_eq_true (by omega)) (DC (decide_eq_true (by omega)) ?_);refine go _ _ _ z2 {P with fr:=Or.inr f0,un:= ?_};have hz:r3=0\/r3=1\/r3=2:=by omega
   rcases hz with rfl | rfl | rfl
   ·exact List.mem_cons_self
   ·dsimp only;cases r2==1<;>decide
   ·dsimp only;cases r2==1<;>decide
 ·dsimp only[U21];exact EK ⟨P,g2⟩
end
