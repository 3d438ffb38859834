import Derived.Test.YtfgdgdnlglejbaaGreatDoorA18
set_option linter.all false
namespace Go.Proofs.YtfgdgdnlglejbaaGreatDoor.Pl
open IntKind (i64 u8 u32 u64)
open Go Vm
abbrev Gn:Type:=Int×Bs×List (List Att)
def AgH:List Gn:=[[97,110,110,64,101,120,97,109,112,108,101,46,111,114,103],[65,78,78,64,101,120,97,109,112,108,101,46,111,114,103],[97,110,110,64,69,120,97,109,112,108,101,46,79,82,71],[98,46,99,64,109,97,105,108,46,101,120,97,109,112,108,101,46,111,114,103],[120,64,111,114,103],[97,39,98,64,97,46,98]].map (fun s=>(1,s,[])) ++
 [[101,120,97,109,112,108,101,46,111,114,103],[119,119,119,46,101,120,97,109,112,108,101,46,111,114,103],[87,87,87,46,69,120,97,109,112,108,101,46,111,114,103],[42,46,101,120,97,109,112,108,101,46,111,114,103],[97,46,98],[111,114,103],[109,121,101,120,97,109,112,108,101,46,111,114,103]].map (fun s=>(2,s,[])) ++
 [[10,0,0,1],[10,1,2,3],[192,168,1,7],[32,1,13,184,0,0,0,0,0,0,0,0,0,0,0,1]].map (fun s=>(7,s,[]))
def okG (g:Gn):Prop:=g∈AgH\/ ∃ n,okN n/\g=(4,[],n)
def gnK (g:Gn):Gn:=(g.1,g.2.1,nmC g.2.2)
def gnT (g:Gn):Nat×Bs:=bif g.1==4 then(164,nmT g.2.2)else((128+g.1).toNat,g.2.1)
def ML (g:Gn):Bs:=Sp.elem (gnT g).1 (gnT g).2
def ZF (g:Gn):El:=JX (gnT g).1 (gnT g).2
def AzQ (M:Nat) (g:Gn):Bool:=Ns (M+300) g false==some 0&&(Ll (M+300) g false==some 0&&(Oo (M+300) g false==some (ML g,0)&&(MF (M+300) g false==some (ML g,0) &&
 (ND (M+300) (ZF g) false==some (g,0)&&(g.2.2.isEmpty&&(decide ((gnT g).2.length<=40)&&(decide ((gnT g).1<256)&&(decide ((gnT g).1 % 32≠31)&& !Sp.cons (gnT g).1))))))))
def Azl (M:Nat):AgH.all (AzQ M)=true:=by kernel_rfl
structure A1e (N:Nat) (g:Gn):Prop where
 chk:Ns N g false=some 0
 Arc:Ll N g false=some 0
 enc:Oo N g false=some (ML g,0)
 YR:MF N g false=some (ML g,0)
 dec:ND N (ZF g) false=some (gnK g,0)
 fine:Fine (gnT g)
 len:(gnT g).2.length<=620
 Aqc:gnT (gnK g)=gnT g
 okK:okG (gnK g)
 par: ∀ d,d<=6->Par d (ML g) [ZF g]
section
variable {N:Nat} (hN:1048578<N)
include hN
theorem A0B {n:List (List Att)} (hn:okN n) {d:Nat} (hd:d<=8):XK d (nmB n):=Ath hd (AwU hN hn).nest
theorem Ahc {n:List (List Att)} (hn:okN n) {d:Nat} (hd:d<=7):Par d (nmT n) [JX 48 (nmB n)]:=N8 (Ati hN hn) (by omega) (A0B hN hn (by omega))
theorem A1y {n:List (List Att)} (hn:okN n):A1e N (4,[],n):=by
 have h1:=QX hN hn;have h2:=V5 hN hn;have h3:=Aiq hN hn;have h4:=ZR hN hn;have h5:=zL hN hn;have hC:=Ahe hN hn;have h6:=QX hN hC;have hl:=Abe hN hn;have w:KP N 164 [nmT n]=_:=Av1 N 164 [nmT n] (by omega) (by omega) hN (by simp) (by rw[Kw];omega);have v:JG N 164 [nmT n]=_:=TS N 164 [nmT n] (by omega) (by omega) hN (by simp) (by rw[Kw];omega);rw[Kw]at w v
 have c1: ∀ m:List (List Att),NH N m=some 0->Ns N (4,[],m) false=some 0:=by
  intro m hm;unfold Ns Acg;try simp only[clR]
  simp (disch:=first | assumption | omega) only[JO,hm,Option.isSome_some,Option.getD_some];try rfl
 have c2:Ll N (4,[],n) false=some 0:=by
  unfold Ll;try simp only[clR]
  dsimp only[U4,KY];simp (disch:=first | assumption | omega) only[JO,h2,Option.isSome_some,Option.getD_some];try rfl
 have hf:Fine (164,nmT n):=(MN (by decide) (by decide) (by omega))
 refine⟨c1 n h1,c2,?_,?_,?_,hf,hl,?_,Or.inr ⟨_,hC,rfl⟩,fun d hd=>N8 hf (by omega) (Ahc hN hn (by omega)).nest⟩
 .unfold Oo;try simp only[clR]
  simp (disch:=first | assumption | omega) only[JO,c1 n h1,h3];show Jt (KP N 164 [nmT n]) _=_;rw[w];rfl
 .unfold MF;try simp only[clR]
  simp (disch:=first | assumption | omega) only[JO,c2,h4];show Jt (JG N 164 [nmT n]) _=_;rw[v];rfl
 .have c3:=c1 _ h6;unfold ND;try simp only[clR]
  show _=some ((4,[],nmC n),0);dsimp only[ZF,gnT,JX];simp (disch:=first | assumption | omega) only[JO,h5,c3,AiE];try rfl
 .show(164,nmT (nmC n))=(164,nmT n);unfold nmT;rw[AzH hN hn]
theorem Yu {g:Gn} (h:okG g):A1e N g:=by
 rcases h with h | ⟨n,hn,rfl⟩
 .have hh:=h;obtain⟨M,rfl⟩:=ofM hN;have h:=D7.1 (Azl M) g h;unfold AzQ at h;simp only[Dw,EG,DK,E5,Fe]at h;obtain⟨h1,h2,h3,h4,h5,h6,h7,h8,h9,h10⟩:=h;have hk:gnK g=g:=by obtain⟨k,s,n⟩:=g;dsimp only at h6;subst h6;rfl
  have hf:Fine (gnT g):=⟨h8,h9,by omega⟩
  exact⟨h1,h2,h3,h4,by rw[hk];exact h5,hf,by omega,by rw[hk],by rw[hk];exact Or.inl hh,fun d hd=>Qd hf (by omega) h10⟩
 .exact A1y hN hn
theorem Acd {g:Gn} (h:okG g):(ML g).length<=625:=by have:=(Yu hN h).len;have:=Sp.JL (gnT g).1 (gnT g).2;unfold ML;omega
end
def AqP (l:List Gn):Prop:=l.length<=2/\ ∀ g∈l,okG g
def LG (l:List Gn):Bs:=(l.map ML).flatten
section
variable {N:Nat} (hN:1048578<N) {l:List Gn} (hl:AqP l)
include hN hl
theorem WN:(LG l).length<=1250:=by have:=Nc (g:=ML) (M:=625) (l:=l) fun g hg=>Acd hN (hl.2 g hg);have:=hl.1;unfold LG;omega
theorem Ajn {d:Nat} (hd:d<=6):Par d (LG l) (l.map ZF):=Zj fun g hg=>(Yu hN (hl.2 g hg)).par d hd
theorem A1O:AqP (l.map gnK):=⟨by rw[Dz];exact hl.1,fun g hg=>by obtain⟨x,hx,rfl⟩:=DJ.1 hg;exact(Yu hN (hl.2 x hx)).okK⟩
theorem A08:LG (l.map gnK)=LG l:=by unfold LG;rw[EC];congr 1;exact Ea fun g hg=>by show Sp.elem _ _=Sp.elem _ _;rw[(Yu hN (hl.2 g hg)).Aqc]
theorem Air:OC N l=some 0:=by
 have h2:=hl.1;unfold OC;try simp only[clR]
 refine MR (fun i=>(i:Int)) l.length _ ?_ ?_ N (by omega)
 .intro i hi k;have h:=(Yu hN (hl.2 _ (getD_mem (0,[],[]) hi))).chk;simp (disch:=first | assumption | omega) only[JO,h,KI];try rfl
 .intro k;simp (disch:=first | assumption | omega) only[JO]
theorem AfO:Qk N l=some 0:=by
 have h2:=hl.1;unfold Qk;try simp only[clR]
 simp (disch:=first | assumption | omega) only[JO];refine MR (fun i=>(i:Int)) l.length _ ?_ ?_ N (by omega)
 .intro i hi k;have h:=(Yu hN (hl.2 _ (getD_mem (0,[],[]) hi))).Arc;simp (disch:=first | assumption | omega) only[JO,h,KI];try rfl
 .intro k;simp (disch:=first | assumption | omega) only[JO]
theorem rO (h0:l≠ []):Qh N l=some (LG l,0):=by
 have h2:=hl.1;have hp:=Eo.2 h0;have hb:=WN hN hl;unfold LG at hb;unfold Qh;try simp only[clR]
 simp (disch:=first | assumption | omega) only[JO];refine(Xm (mk:=fun i t=>(t,(i:Int))) l (0,[],[]) ML (fun t=>some (t,0)) ?_ ?_ N (by omega)).trans rfl
 .intro i t hi ht k;have h:=(Yu hN (hl.2 _ (getD_mem (0,[],[]) hi))).YR;simp (disch:=first | assumption | omega) only[JO,h,KI];try rfl
 .intro t k;simp (disch:=first | assumption | omega) only[JO]
theorem zG (h0:l≠ []):O6 N (LG l)=some (l.map gnK,0):=by
 have h2:=hl.1;have hp:=Eo.2 h0;have hb:=WN hN hl;have h3:=(Ajn hN hl (d:=0) (by omega)).list;have h4:=Ou N (LG l) (by omega) (by omega) (by omega);rw[h3]at h4;have hlm:(l.map ZF).length=l.length:=Dz _;unfold O6 fM;try simp only[clR]
 simp (disch:=first | assumption | omega) only[JO,h4,hlm];refine(dR (mk:=fun i acc=>((i:Int),acc)) (l.map ZF) (0,[],[]) (fun e=>((ND N e false).getD default).1) (fun acc=>some (acc,0)) ?_ ?_ N (by omega)).trans ?_
 .intro i acc hi ha k;rw[hlm]at hi;have hr:=(Yu hN (hl.2 _ (getD_mem (0,[],[]) hi))).dec;have hg:(l.map ZF).getD i (0,[],[])=ZF (l.getD i (0,[],[])):=by rw[getD_lt _ _ _ (by rw[hlm];exact hi),Fb,getD_lt l i _ hi]
  simp (disch:=first | assumption | omega) only[JO,hg,hlm,hr,KI,Option.getD_some];try rfl
 .intro acc k ha;simp (disch:=first | assumption | omega) only[JO,hlm]
 .rw[EC];congr 2;exact Ea fun g hg=>by show((ND N (ZF g) false).getD default).1=_;rw[(Yu hN (hl.2 g hg)).dec];rfl
end
def inB (n:Int):Bs:=(QG 300 n).getD []
def Au8 (M:Nat) (n:Nat):Bool:=QG (M+300) (n:Int)==some (inB n)&&(Va (M+300) (n:Int)==some (inB n)&&(Um (M+300) (inB n)==some ((n:Int),0)&&decide ((inB n).length<=2)))
def A03 (M:Nat):(List.range 256).all (Au8 M)=true:=by kernel_rfl
structure AgN (N:Nat) (n:Int):Prop where
 put:QG N n=some (inB n)
 Anv:Va N n=some (inB n)
 int:Um N (inB n)=some (n,0)
 len:(inB n).length<=2
def Aw6 {N:Nat} (hN:1048578<N) {n:Int} (h0:0<=n) (h1:n<256):AgN N n:=by
 obtain⟨M,rfl⟩:=ofM hN;obtain⟨k,rfl⟩: ∃ k:Nat,n=k:=⟨n.toNat,by omega⟩
 have h:=D7.1 (A03 M) k (ES.2 (by omega));unfold Au8 at h;simp only[Dw,EG,DK]at h;obtain⟨h1,h2,h3,h4⟩:=h;exact⟨h1,h2,h3,h4⟩
def LX (t:Nat) (n:Int):Bs:=Sp.elem t (inB n)
def Au7 (t:Nat) (n:Int):El:=JX t (inB n)
def Aq1 {N:Nat} {n:Int} (h:AgN N n) {t:Nat} (ht:t<256) (h31:t % 32≠31):Fine (t,inB n):=⟨ht,h31,by have:=h.len;show(inB n).length<=_;omega⟩
def Xf:List Int:=[0,1000,2000000000,3155759999,3155760000,254033452799,2400000000]
def VL (t:Int):Bs:=((Vy 300 t).getD default).1
def TT (t:Int):Nat×Bs:=(((VL t).headD 0).toNat,(VL t).drop 2)
def Ar3 (t:Int):El:=JX (TT t).1 (TT t).2
def A2o (M:Nat) (t:Int):Bool:=Vy (M+300) t==some (VL t,0)&&(Si (M+300) t==some (VL t,0)&&(fH (M+300) ((TT t).1:Int) (TT t).2==some (t,0)&&(VL t==Sp.elem (TT t).1 (TT t).2 &&
 (decide ((TT t).1<256)&&(decide ((TT t).1 % 32≠31)&&(decide ((TT t).2.length<=20)&&(!Sp.cons (TT t).1&&(decide (0<=t)&&(decide (t<=254033452799)&& !((TT t).1==48))))))))))
def Azm (M:Nat):Xf.all (A2o M)=true:=by kernel_rfl
structure Apo (N:Nat) (t:Int):Prop where
 enc:Vy N t=some (VL t,0)
 YR:Si N t=some (VL t,0)
 dec:fH N ((TT t).1:Int) (TT t).2=some (t,0)
 eq:VL t=Sp.elem (TT t).1 (TT t).2
 fine:Fine (TT t)
 len:(TT t).2.length<=20
 A3i:Sp.cons (TT t).1=false
 p0:0<=t
 p1:t<=254033452799
 n48:(TT t).1≠48
def Sm {N:Nat} (hN:1048578<N) {t:Int} (h:t∈Xf):Apo N t:=by obtain⟨M,rfl⟩:=ofM hN;have h:=D7.1 (Azm M) t h;unfold A2o at h;simp only[Dw,EG,DK,E5,Iy]at h;obtain⟨h1,h2,h3,h4,h5,h6,h7,h8,h9,h10,h11⟩:=h;exact⟨h1,h2,h3,h4,⟨h5,h6,by omega⟩,h7,h8,h9,h10,h11⟩
def Ar2 {N:Nat} {t:Int} (h:Apo N t):(VL t).length<=25:=by have:=h.len;have:=Sp.JL (TT t).1 (TT t).2;rw[h.eq];omega
def Ahs {N:Nat} {t:Int} (h:Apo N t) {d:Nat} (hd:d<16):Par d (VL t) [Ar3 t]:=by rw[h.eq];exact Qd h.fine hd h.A3i
def ZI:List Bs:=[[50,46,53,46,50,57,46,50,49],[50,46,53,46,50,57,46,50,52],[50,46,53,46,50,57,46,50,57],[50,46,53,46,50,57,46,51,53],[50,46,53,46,50,57,46,50,48],[50,46,53,46,50,57,46,50,55],[50,46,53,46,50,57,46,50,56],[50,46,53,46,50,57,46,52,54],[50,46,53,46,50,57,46,49,57],[50,46,53,46,50,57,46,49,53],[50,46,53,46,50,57,46,51,55],[50,46,53,46,50,57,46,51,50],[50,46,53,46,50,57,46,51,51],[50,46,53,46,50,57,46,51,54],[50,46,53,46,50,57,46,53,52],[50,46,53,46,50,57,46,49,55],[50,46,53,46,50,57,46,51,48],[50,46,53,46,50,57,46,49,52],[50,46,53,46,50,57,46,51,49],[49,46,50,46,51,46,49],[49,46,50,46,51,46,50],[49,46,50,46,51,46,51],[49,46,50,46,51,46,52],[49,46,50,46,51,46,53],[50,46,57,57,57,46,49],[50,46,57,57,57,46,50],[49,46,50,46,51],[50,46,53,46,50,57,46,51,50,46,48],[49,46,51,46,54,46,49,46,53,46,53,46,55,46,51,46,49],[49,46,51,46,54,46,49,46,53,46,53,46,55,46,51,46,50],[49,46,51,46,54,46,49,46,53,46,53,46,55,46,51,46,51],[49,46,51,46,54,46,49,46,53,46,53,46,55,46,51,46,52],[50,46,53,46,50,57,46,51,55,46,48],[49,46,50,46,51,46,52,46,53],[49,46,50,46,51,46,52,46,54]]
def idT (s:Bs):Bs:=((Tt 300 s).getD default).1
def idQ (M:Nat) (s:Bs):Bool:=OM (M+300) s==some true&&(Nv (M+300) s==some true&&(Tt (M+300) s==some (idT s,0)&&(Rn (M+300) s==some (Sp.elem 6 (idT s))&&(UW (M+300) (idT s)==some (s,0)&&decide ((idT s).length<=10)))))
def A1A (M:Nat):ZI.all (idQ M)=true:=by kernel_rfl
structure A2U (N:Nat) (s:Bs):Prop where
 val:OM N s=some true
 Avn:Nv N s=some true
 enc:Tt N s=some (idT s,0)
 YR:Rn N s=some (Sp.elem 6 (idT s))
 dec:UW N (idT s)=some (s,0)
 len:(idT s).length<=10
def Qm {N:Nat} (hN:1048578<N) {s:Bs} (h:s∈ZI):A2U N s:=by obtain⟨M,rfl⟩:=ofM hN;have h:=D7.1 (A1A M) s h;unfold idQ at h;simp only[Dw,EG,DK]at h;obtain⟨h1,h2,h3,h4,h5,h6⟩:=h;exact⟨h1,h2,h3,h4,h5,h6⟩
def Anw:List Int:=[2,64,384,510]
def flB (n:Int):Bs:=((PD 300 n).getD default).1
def A2f (M:Nat) (r:Int):Bool:=PD (M+300) r==some (flB r,0)&&(RF (M+300) r==some (flB r,0)&&(UY (M+300) (flB r)==some (r,0)&&(decide ((flB r).length<=5)&&(JR .andNot .i64 r 510==0&& !(r==0)))))
def A0M (M:Nat):Anw.all (A2f M)=true:=by kernel_rfl
structure A23 (N:Nat) (r:Int):Prop where
 put:PD N r=some (flB r,0)
 Anv:RF N r=some (flB r,0)
 get:UY N (flB r)=some (r,0)
 len:(flB r).length<=5
 mask:JR .andNot .i64 r 510=0
 ne:r≠0
def aW {N:Nat} (hN:1048578<N) {r:Int} (h:r∈Anw):A23 N r:=by obtain⟨M,rfl⟩:=ofM hN;have h:=D7.1 (A0M M) r h;unfold A2f at h;simp only[Dw,EG,DK,E5,Iy]at h;obtain⟨h1,h2,h3,h4,h5,h6⟩:=h;exact⟨h1,h2,h3,h4,h5,h6⟩
def A2J:JR .andNot .i64 0 510=0:=by kernel_rfl
def okR (r:Int):Prop:=r=0\/r∈Anw
def flT (t:Nat) (r:Int):Bs:=bif r != 0 then Sp.elem t (flB r)else []
def flE (t:Nat) (r:Int):List El:=bif r != 0 then [JX t (flB r)]else []
def AqQ {r:Int} (h:okR r):JR .andNot .i64 r 510=0:=by
 rcases h with rfl | h
 .exact A2J
 .exact(aW (N:=1048579) (by omega) h).mask
def A0D {r:Int} (h:okR r) (t:Nat):(flT t r).length<=10:=by
 rcases h with rfl | h
 .exact Es _
 .have R:=aW (N:=1048579) (by omega) h;have:=R.len;have:=Sp.JL t (flB r);unfold flT;rw[Aaj R.ne,cond_true];omega
def A14 {r:Int} (h:okR r) {t d:Nat} (ht:t<256) (h31:t % 32≠31) (hd:d<16) (hc:Sp.cons t=false):Par d (flT t r) (flE t r):=AmY _ fun hr=>by
 rcases h with rfl | h
 .cases hr
 .exact Qd ⟨ht,h31,by have:=(aW (N:=1048579) (by omega) h).len;show(flB r).length<=_;omega⟩ hd hc
abbrev Pt:Type:=List Gn×Int×Bool×List (List Att)
structure okP (p:Pt):Prop where
 nm: ∃ g,okG g/\p.1=[g]
 re:okR p.2.1
 is:(p.2.2.1=false/\p.2.2.2=[])\/(p.2.2.1=true/\okN p.2.2.2/\p.2.2.2≠ [])
def ptK (p:Pt):Pt:=(p.1.map gnK,p.2.1,p.2.2.1,nmC p.2.2.2)
def piT (p:Pt):Bs:=bif p.2.2.1 then Sp.elem 162 (ML (4,[],p.2.2.2))else []
def ptC (p:Pt):Bs:=Sp.elem 160 (Sp.elem 160 (LG p.1))++(flT 129 p.2.1++piT p)
def ptB (p:Pt):Bs:=Sp.elem 48 (ptC p)
def ptE (p:Pt):El:=JX 48 (ptC p)
def gs1 {g:Gn} (h:okG g):AqP [g]:=⟨by simp,fun x hx=>by rw[Ei.1 hx];exact h⟩
structure PtM (N:Nat) (p:Pt):Prop where
 chk:Tf N p=some 0
 len:(ptC p).length<=2000
 els:X0 (ptC p)=(JX 160 (Sp.elem 160 (LG p.1))::(flE 129 p.2.1++(bif p.2.2.1 then [JX 162 (ML (4,[],p.2.2.2))]else [])),0)
 par: ∀ d,d<=2->Par d (ptB p) [ptE p]
 okK:okP (ptK p)
 Aqc:ptB (ptK p)=ptB p
 dec:Sr N (JX 160 (Sp.elem 160 (LG p.1))::(flE 129 p.2.1++(bif p.2.2.1 then [JX 162 (ML (4,[],p.2.2.2))]else [])))=some (ptK p,0,[])
section
variable {N:Nat} (hN:1048578<N)
include hN
theorem AcB {p:Pt} (h:okP p):PtM N p:=by
 obtain⟨gs,r,b,n⟩:=p;obtain⟨⟨g,hg,hgs⟩,hr,hi⟩:=h;dsimp only at hgs hr hi;subst hgs;have h1:=gs1 hg;have hl:=WN hN h1;have hm:=AqQ hr;have ck:=Air hN h1;have l1: [g].length=1:=rfl;have hfl:=A0D hr 129;have e1:=Sp.JL 160 (LG [g]);have e2:=Sp.JL 160 (Sp.elem 160 (LG [g]))
 have hpi:(piT ([g],r,b,n)).length<=640:=by
  unfold piT;rcases hi with ⟨rfl,_⟩ | ⟨rfl,hn,_⟩
  .exact Es _
  .have:=Acd hN (Or.inr ⟨n,hn,rfl⟩:okG (4,[],n));have:=Sp.JL 162 (ML (4,[],n));show(Sp.elem 162 (ML (4,[],n))).length<=_;omega
 have hlen:(ptC ([g],r,b,n)).length<=2000:=by unfold ptC;rw[Dv,Dv];dsimp only;omega
 have hpar: ∀ d,d<=3->Par d (ptC ([g],r,b,n)) (JX 160 (Sp.elem 160 (LG [g]))::(flE 129 r++(bif b then [JX 162 (ML (4,[],n))]else []))):=by
  intro d hd;show Par d (Sp.elem 160 (Sp.elem 160 (LG [g]))++(flT 129 r++piT ([g],r,b,n))) _;refine N7 (es:=[_]) (N8 (MN (by decide) (by decide) (by omega)) (by omega) (N8 (t:=160) (MN (by decide) (by decide) (by omega)) (by omega) (Ajn hN h1 (by omega)).nest).nest) (N7 (A14 hr (by decide) (by decide) (by omega) (by decide)) ?_);show Par d (bif b then Sp.elem 162 (ML (4,[],n))else []) _;refine AmY b fun hb=> ?_;rcases hi with ⟨rfl,_⟩ | ⟨rfl,hn,_⟩
  .cases hb
  .have hd4:okG (4,[],n):=Or.inr ⟨n,hn,rfl⟩;exact N8 (MN (by decide) (by decide) (by have:=Acd hN hd4;omega)) (by omega) ((Yu hN hd4).par _ (by omega)).nest
 have hf:Fine (48,ptC ([g],r,b,n)):=(MN (by decide) (by decide) (by omega))
 have hK:LG ([g].map gnK)=LG [g]:=A08 hN h1;have hls:=(zG hN h1 (by simp))
 have o160:OD N (Sp.elem 160 (LG [g])) 160=some (JX 160 (LG [g]),0):=by rw[AbU N _ 160 hN (by omega)];exact congrArg some (AfS 160 (LG [g]) (by decide) (by decide) (by omega))
 refine⟨?_,hlen,(hpar 0 (by omega)).list,fun d hd=>N8 hf (by omega) (hpar _ (by omega)).nest,?_,?_,?_⟩
 .unfold Tf;try simp only[clR]
  rcases hi with ⟨rfl,rfl⟩ | ⟨rfl,hn,hne⟩
  .simp (disch:=first | assumption | omega) only[JO,hm,ck,l1,List.length_nil];try rfl
  .have hpos:=Eo.2 hne;have hc:=QX hN hn;simp (disch:=first | assumption | omega) only[JO,hm,ck,l1,hc];try rfl
 .refine⟨⟨gnK g,(Yu hN hg).okK,rfl⟩,hr,?_⟩;rcases hi with ⟨rfl,rfl⟩ | ⟨rfl,hn,hne⟩
  .exact Or.inl ⟨rfl,rfl⟩
  .exact Or.inr ⟨rfl,Ahe hN hn,fun h=>hne (Fg.1 h)⟩
 .unfold ptB ptC ptK piT;dsimp only;rw[hK];rcases hi with ⟨rfl,rfl⟩ | ⟨rfl,hn,hne⟩
  .rfl
  .rw[show ML (4,[],nmC n)=ML (4,[],n)from congrArg (fun p:Nat×Bs=>Sp.elem p.1 p.2) (Yu hN (Or.inr ⟨n,hn,rfl⟩:okG (4,[],n))).Aqc]
 .have hflE:flE 129 r=[]/\r=0\/flE 129 r=[JX 129 (flB r)]/\r∈Anw:=by
   rcases hr with rfl | hr
   .exact Or.inl ⟨rfl,rfl⟩
   .refine Or.inr ⟨?_,hr⟩;unfold flE;rw[Aaj (aW hN hr).ne];rfl
  have hI:b=false/\n=[]\/b=true/\O6 N (ML (4,[],n))=some ([(4,[],nmC n)],0):=by
   rcases hi with h | ⟨h,hn,_⟩
   .exact Or.inl h
   .refine Or.inr ⟨h,?_⟩;have:=zG hN (gs1 (Or.inr ⟨n,hn,rfl⟩:okG (4,[],n))) (by simp);rwa [show LG [((4:Int),([]:Bs),n)]=ML (4,[],n)from DL _]at this
  unfold Sr;try simp only[clR]
  rcases hflE with ⟨h1,h2⟩ | ⟨h1,h2⟩<;>rcases hI with ⟨rfl,rfl⟩ | ⟨rfl,h3⟩
  .rw[h1];subst h2;simp (disch:=first | assumption | omega) only[JO,Ae3,Aq0,Au5,Aqz,el1,el2,el3,List.cons_append,List.nil_append,o160,hls,TY];try rfl
  .rw[h1];subst h2;simp (disch:=first | assumption | omega) only[JO,Ae3,Aq0,Au5,Aqz,el1,el2,el3,List.cons_append,List.nil_append,o160,hls,TY,h3];try rfl
  .have hg:=(aW hN h2).get;have hne:=(aW hN h2).ne;rw[h1];simp (disch:=first | assumption | omega) only[JO,Ae3,Aq0,Au5,Aqz,el1,el2,el3,List.cons_append,List.nil_append,o160,hls,TY,hg];try rfl
  .have hg:=(aW hN h2).get;have hne:=(aW hN h2).ne;rw[h1];simp (disch:=first | assumption | omega) only[JO,Ae3,Aq0,Au5,Aqz,el1,el2,el3,List.cons_append,List.nil_append,o160,hls,TY,hg,h3];try rfl
end
abbrev Ex:Type:=Bs×Bool×Bs
structure OkX (x:Ex):Prop where
 id:x.1∈ZI
 chk:Sp.chk x.2.2=0
 len:x.2.2.length<=8000
structure A1h (l:List Ex):Prop where
 ne:0<l.length
 len:l.length<=16
 all: ∀ x∈l,OkX x
 nd:l.Pairwise fun a b=>a.1≠b.1
def exC (x:Ex):Bs:=Sp.elem 6 (idT x.1)++((bif x.2.1 then Sp.elem 1 [255]else [])++Sp.elem 4 x.2.2)
def exB (x:Ex):Bs:=Sp.elem 48 (exC x)
def exE (x:Ex):El:=JX 48 (exC x)
def xsC (l:List Ex):Bs:=(l.map exB).flatten
def xsB (l:List Ex):Bs:=Sp.elem 48 (xsC l)
def zX:Ex:=([],false,[])
def AaF {α :Type} (l:List α):JB l 1 l.length=l.drop 1:=by show(l.take l.length).drop 1=_;rw[Ez]
section
variable {N:Nat} (hN:1048578<N) {x:Ex} (h:OkX x)
include hN h
theorem Ak0:(exC x).length<=x.2.2.length+23:=by
 have h1:=(Qm hN h.id).len;have h2:=Sp.JL 6 (idT x.1);have h3:=Sp.JL 4 x.2.2;have h4:=h.len;have h5:(bif x.2.1 then Sp.elem 1 [255]else []:Bs).length<=3:=by cases x.2.1<;>decide
 unfold exC;rw[Dv,Dv];omega
theorem Awu {d:Nat} (hd:d<16):Par d (exC x) (JX 6 (idT x.1)::((bif x.2.1 then [JX 1 [255]]else [])++[JX 4 x.2.2])):=by have h1:=(Qm hN h.id).len;have h4:=h.len;exact N7 (es:=[_]) (Qd (MN (by decide) (by decide) (by omega)) hd (by decide)) (N7 (AmY x.2.1 fun _=>Qd (MN (by decide) (by decide) (by decide)) hd (by decide)) (Qd (MN (by decide) (by decide) (by omega)) hd (by decide)))
theorem A12:X0 (exC x)=(JX 6 (idT x.1)::((bif x.2.1 then [JX 1 [255]]else [])++[JX 4 x.2.2]),0):=(Awu hN h (d:=0) (by decide)).list
theorem AnK:QM N (exE x)=some (x,0):=by
 have h4:=Ak0 hN h;have h3:=h.len;have hl:=Ou N (exC x) (by omega) (by omega) (by omega);rw[A12 hN h]at hl;have I:=(Qm hN h.id).dec;obtain⟨id,c,v⟩:=x;dsimp only at *
 unfold QM exE;try simp only[clR]
 rw[show(JX 48 (exC (id,c,v))).1=48 from rfl,show(JX 48 (exC (id,c,v))).2.1=exC (id,c,v)from rfl];cases c with
 | true =>simp (disch:=first | assumption | omega) only[JO,hl,el1,el2,el3,Ej,List.length_cons,List.length_nil,EH,AaF,FN,Ff,List.cons_append,List.nil_append,I];try rfl
 | false =>simp (disch:=first | assumption | omega) only[JO,hl,el1,el2,el3,Ej,List.length_cons,List.length_nil,EH,AaF,FN,Ff,List.cons_append,List.nil_append,I];try rfl
theorem A13:TB N x.2.2=some 0:=by have:=h.len;rw[AgJ N _ (by omega) (by omega) (by omega),h.chk]
theorem A0o:V6 N x.2.2=some 0:=by have:=h.len;rw[Anb N _ (by omega) (by omega) (by omega),h.chk]
end
def AwN {β :Type} (k:Bs): ∀(m:List (Bs× β)),(∀ p∈m,k≠p.1)->UR (.str .nil) k m=none:=by
 intro m
 induction m with
 | nil=>intro _;rfl
 | cons p m ih =>
  intro h;have h1:(Ty.str .nil).same k p.1=false:=by show((k==p.1)&&true)=false;rw[FI (h p Dy)];rfl
  show(bif (Ty.str .nil).same k p.1 then some p.2 else UR (.str .nil) k m)=none;rw[h1,cond_false];exact ih fun q hq=>h q (D5 _ hq)
def AwP {β :Type} (k:Bs) (v: β): ∀(m:List (Bs× β)),(∀ p∈m,k≠p.1)->kT (.str .nil) k v m=m++[(k,v)]:=by
 intro m
 induction m with
 | nil=>intro _;rfl
 | cons p m ih =>
  intro h;have h1:(Ty.str .nil).same k p.1=false:=by show((k==p.1)&&true)=false;rw[FI (h p Dy)];rfl
  show(bif (Ty.str .nil).same k p.1 then(p.1,v)::m else p::kT (.str .nil) k v m)=_;rw[h1,cond_false,ih fun q hq=>h q (D5 _ hq)];rfl
def A09 {β :Type} (k:Bs) (v: β) (t:List (Bs× β)): ∀(m:List (Bs× β)),(∀ p∈m,k≠p.1)->UR (.str .nil) k (m++(k,v)::t)=some v:=by
 intro m
 induction m with
 | nil =>intro _;show(bif ((k==k)&&true)then some v else _)=_;rw[Em];rfl
 | cons p m ih =>
  intro h;have h1:(Ty.str .nil).same k p.1=false:=by show((k==p.1)&&true)=false;rw[FI (h p Dy)];rfl
  show(bif (Ty.str .nil).same k p.1 then some p.2 else UR (.str .nil) k (m++(k,v)::t))=_;rw[h1,cond_false];exact ih fun q hq=>h q (D5 _ hq)
def ZJ (l:List Ex) (n:Nat):List (Bs×Int):=(List.range n).map fun i=>((l.getD i zX).1,(i:Int))
section
variable {l:List Ex} (h:A1h l)
include h
theorem AzS {i j:Nat} (hi:i<j) (hj:j<l.length):(l.getD i zX).1≠(l.getD j zX).1:=by rw[getD_lt l i zX (by omega),getD_lt l j zX hj];exact Hm.1 h.nd i j (by omega) hj hi
theorem AmE {n:Nat} (hn:n<l.length): ∀ p∈ZJ l n,(l.getD n zX).1≠p.1:=by intro p hp;obtain⟨i,hi,rfl⟩:=DJ.1 hp;exact(AzS h (ES.1 hi) hn).symm
theorem A0z {n:Nat} (hn:n<l.length):UR (.str .nil) (l.getD n zX).1 (ZJ l l.length)=some (n:Int):=by
 have e:ZJ l l.length=ZJ l n++((l.getD n zX).1,(n:Int))::(List.range (l.length - (n+1))).map fun i=>((l.getD (n+1+i) zX).1,((n+1+i:Nat):Int)):=by
  unfold ZJ;obtain⟨k,hk⟩: ∃ k,l.length=n+1+k:=⟨l.length - (n+1),by omega⟩
  rw[hk,show n+1+k - (n+1)=k by omega,List.range_add,ET,Gx,ET,EC,Ed];rfl
 rw[e];exact A09 _ _ _ _ (AmE h hn)
variable {N:Nat} (hN:1048578<N)
include hN
theorem Aql:wK N l=some (ZJ l l.length):=by
 have hl:=h.len;unfold wK;try simp only[clR]
 refine(MR (fun i=>((i:Int),ZJ l i)) l.length (some (ZJ l l.length)) ?_ ?_ N (by omega)).trans rfl
 .intro i hlt k;have e1:=AwN (β :=Int) (l.getD i zX).1 (ZJ l i) (AmE h hlt);have e2:=AwP (l.getD i zX).1 (i:Int) (ZJ l i) (AmE h hlt);have e3:ZJ l i++[((l.getD i zX).1,(i:Int))]=ZJ l (i+1):=by unfold ZJ;rw[Gx,ET];rfl
  unfold zX at e1 e2 e3;simp (disch:=first | assumption | omega) only[JO,e1,e2,e3,KI,Option.isSome_none]
 .intro k;simp (disch:=first | assumption | omega) only[JO]
theorem Azu:Zc N l=some 0:=by
 have hl:=h.len;have h0:=h.ne;have hi:=Aql h hN;unfold Zc;try simp only[clR]
 simp (disch:=first | assumption | omega) only[JO,hi];refine MR (fun i=>((i:Int),ZJ l l.length)) l.length _ ?_ ?_ N (by omega)
 .intro i hlt k;have hx:=h.all _ (getD_mem zX hlt);have e1:=A0z h hlt;have e2:=A13 hN hx;have e3:=(Qm hN hx.id).val;unfold zX at *
  simp (disch:=first | assumption | omega) only[JO,e1,e2,e3,KI,Option.getD_some];try rfl
 .intro k;simp (disch:=first | assumption | omega) only[JO]
theorem Atv {m:Nat} (hm: ∀ x∈l,x.2.2.length<=m):(xsC l).length<=(m+28)*l.length :=
 Nc (g:=exB) (M:=m+28) (l:=l) fun x hx=>by have:=Ak0 hN (h.all x hx);have:=Sp.JL 48 (exC x);have:=hm x hx;unfold exB;omega
theorem xs_len:(xsC l).length<=128448:=by have:=Atv h hN (m:=8000) fun x hx=>(h.all x hx).len;have:=h.len;omega
theorem Ax7 {d:Nat} (hd:d<15):Par d (xsC l) (l.map exE):=Zj fun x hx=>by have hx:=h.all x hx;have h4:=Ak0 hN hx;have h5:=hx.len;exact N8 (MN (by decide) (by decide) (by omega)) (by omega) (Awu hN hx (by omega)).nest
theorem A0Y:Fine (48,xsC l):=(MN (by decide) (by decide) (by have:=xs_len h hN;omega))
theorem AvB:Qn N l=some (xsB l,0):=by
 have hl:=h.len;have h0:=h.ne;have hb:=xs_len h hN
 have hce:VZ N l=some 0:=by
  unfold VZ;try simp only[clR]
  refine MR (fun i=>(i:Int)) l.length (some 0) ?_ ?_ N (by omega)
  .intro i hlt k;have hx:=h.all _ (getD_mem zX hlt);have e2:=A0o hN hx;have e3:=(Qm hN hx.id).Avn
   have e4:aP N (l.take i) (l.getD i zX).1=some (([],false,[]),false):=by
    unfold aP;try simp only[clR]
    have hlt':(l.take i).length=i:=by rw[DZ];omega
    refine MR (fun j=>(j:Int)) (l.take i).length _ ?_ ?_ N (by omega)
    .intro j hj k;rw[hlt']at hj;have hne:=AzS h hj hlt;have e5:((l.getD j zX).1==(l.getD i zX).1)=false:=FI hne;have e6:=Axz l zX hj;unfold zX at *
     simp (disch:=first | assumption | omega) only[JO,hlt',e6,e5,KI]
    .intro k;simp (disch:=first | assumption | omega) only[JO,hlt']
   unfold zX at *
   simp (disch:=first | assumption | omega) only[JO,AnE,e2,e3,e4,KI];try rfl
  .intro k;simp (disch:=first | assumption | omega) only[JO]
 have hc:QI N l=some 0:=by unfold QI;rw[Uc (by omega),cond_false,Auh (by omega),cond_false,hce];rfl
 unfold Qn;try simp only[clR]
 rw[hc,Jy,show((0:Int) != 0)=false from rfl,cond_false];refine(Xm (mk:=fun i t=>(t,(i:Int))) l zX exB (fun t=>Jt (Lm N 48 [t]) fun r=>some (r.1,r.2)) ?_ ?_ N (by omega)).trans ?_
 .intro i t hlt ht k;have hx:=h.all _ (getD_mem zX hlt);have I:=Qm hN hx.id;have h1:=I.len;have e1:=I.YR;have h3:=hx.len;have h4:=Ak0 hN hx;dsimp only[U2];rw[Int.toNat_natCast];unfold xsC at hb;unfold zX at *
  generalize l.getD i ([],false,[])=x at *
  have ht:=FQ ht hb;unfold exB exC at ht ⊢;unfold exC at h4;obtain⟨id,c,v⟩:=x;dsimp only at *
  have w2:Lm N 4 [v]=_:=AcX N 4 [v] (by omega) (by omega) hN (by simp) (by rw[Kw];omega);rw[Kw]at w2;cases c with
  | true =>have w3:JG N 1 [[255]]=some (Sp.elem 1 [255]):=TS N 1 [[255]] (by omega) (by omega) hN (by simp) (by simp);have w4:Lm N 48 [Sp.elem 6 (idT id),Sp.elem 1 [255],Sp.elem 4 v]=_:=AcX N 48 [Sp.elem 6 (idT id),Sp.elem 1 [255],Sp.elem 4 v] (by omega) (by omega) hN (by simp) (by rw[flat3];exact FQ h4 (by omega));rw[flat3]at w4;have p:UZ N true=some [255]:=rfl;dsimp only[cond_true]at ht ⊢;simp (disch:=first | assumption | omega) only[JO,e1,w2,w3,w4,p,KI,Ej];try rfl
  | false =>have w4:Lm N 48 [Sp.elem 6 (idT id),[],Sp.elem 4 v]=_:=AcX N 48 [Sp.elem 6 (idT id),[],Sp.elem 4 v] (by omega) (by omega) hN (by simp) (by rw[flat3];exact FQ h4 (by omega));rw[flat3]at w4;dsimp only[cond_false]at ht ⊢;simp (disch:=first | assumption | omega) only[JO,e1,w2,w4,KI,Ej];try rfl
 .intro t k;simp (disch:=first | assumption | omega) only[JO]
 .have w:Lm N 48 [(l.map exB).flatten]=_:=AcX N 48 [(l.map exB).flatten] (by omega) (by omega) hN (by simp) (by rw[Kw];unfold xsC at hb;omega);rw[w,Jy,Kw];rfl
theorem Ax6:o5 N (xsB l)=some (l,0):=by
 have hl:=h.len;have hb:=xs_len h hN;have hB:=Sp.JL 48 (xsC l);have h1:=rY 48 (xsC l) (by decide) (by decide) (by omega);have h2:=(Ax7 h hN (d:=0) (by decide)).list;have h4:=Ou N (xsC l) (by omega) (by omega) (by omega);rw[h2]at h4;have hlm:(l.map exE).length=l.length:=Dz _;have h5:SV N (xsB l)=some (JX 48 (xsC l),0):=by rw[XC N _ (by omega) (by unfold xsB;omega)];exact congrArg some h1
 unfold o5;try simp only[clR]
 rw[h5,Jy];dsimp only[JX];simp (disch:=first | assumption | omega) only[JO,h4];refine(dR (mk:=fun i acc=>((i:Int),acc)) (l.map exE) (0,[],[]) (fun e=>((QM N e).getD default).1) (fun acc=>Jt (Zc N acc) fun r=>bif r != 0 then some ([],r)else some (acc,0)) ?_ ?_ N (by omega)).trans ?_
 .intro i acc hi ha k;rw[hlm]at hi;have hr:=AnK hN (h.all _ (getD_mem zX hi));have hg:(l.map exE).getD i (0,[],[])=exE (l.getD i zX):=by rw[getD_lt _ _ _ (by rw[hlm];exact hi),Fb,getD_lt l i zX hi]
  simp (disch:=first | assumption | omega) only[JO,hg,hlm,hr,KI,Option.getD_some];try rfl
 .intro acc k ha;simp (disch:=first | assumption | omega) only[JO,hlm]
 .have e:(l.map exE).map (fun e=>((QM N e).getD default).1)=l:=by
   rw[EC];refine(Ea fun x hx=> ?_).trans (FY l);show((QM N (exE x)).getD default).1=_;rw[AnK hN (h.all x hx)];rfl
  rw[e,Azu h hN];rfl
end
def aut (k:Nat):List (List Att):=(OL 300 (k:Int)).getD []
def A1r (M k:Nat):Bool:=OL (M+300) (k:Int)==some (aut k)&&(decide ((aut k).length<=3)&&((aut k).all (fun r=>NJ.contains r)&&(!(aut k).isEmpty&&(nmC (aut k)==aut k&&(List.range 16).all fun j=>AhX (M+300) (aut k) (aut j)==some (k % 8==j % 8)&&xW (M+300) (aut k) (aut j)==some (k % 8==j % 8)))))
def AzZ (M:Nat):(List.range 16).all (A1r M)=true:=by kernel_rfl
structure A20 (N k:Nat):Prop where
 made:OL N (k:Int)=some (aut k)
 ok:okN (aut k)
 ne:aut k≠ []
 C:nmC (aut k)=aut k
 mt: ∀ j,j<16->AhX N (aut k) (aut j)=some (k % 8==j % 8)
 rmt: ∀ j,j<16->xW N (aut k) (aut j)=some (k % 8==j % 8)
def ApN {N:Nat} (hN:1048578<N) {k:Nat} (h:k<16):A20 N k:=by obtain⟨M,rfl⟩:=ofM hN;have h:=D7.1 (AzZ M) k (ES.2 h);unfold A1r at h;simp only[Dw,EG,D7,DK,FT,E5,List.isEmpty_eq_false_iff,ES]at h;obtain⟨h1,h2,h3,h4,h5,h6⟩:=h;exact⟨h1,⟨h2,h3⟩,h4,h5,fun j hj=>(h6 j hj).1,fun j hj=>(h6 j hj).2⟩
abbrev En:Type:=Int×Int×Int×Int×Nat
abbrev En.k (e:En):Nat:=e.2.2.2.2
abbrev En.re (e:En):Int:=e.2.2.1
abbrev En.iv (e:En):Int:=e.2.2.2.1
abbrev Ey:Type:=Int×Int×Int×Int×List (List Att)
def enY (e:En):Ey:=(e.1,e.2.1,e.re,e.iv,aut e.k)
def reL:List Int:=[0,1,2,3,4,5,6,8,9,10]
structure OkE (base:Int) (ind:Bool) (p:Nat) (e:En):Prop where
 s0:1<=e.1
 s1:e.1<=9
 ti:e.2.1∈Xf
 re:e.re∈reL
 r8:e.re=8->base≠ -1
 iv:e.iv= -1\/e.iv∈Xf
 k:e.k<16
 is:ind=true\/e.k % 8=p % 8
def A24 (N:Nat) (b:Bool) (s:Bs):Kt N b s 0=some (s,b):=by rw[AsI];simp
def isB (k:Nat):Bs:=Sp.elem 48 (ML (4,[],aut k))
def Atl {n:List (List Att)} (h:okN n):okG (4,[],n):=Or.inr ⟨n,h,rfl⟩
def A0E (n:List (List Att)):LG [((4:Int),([]:Bs),n)]=ML (4,[],n):=DL _
section
variable {N:Nat} (hN:1048578<N) {base:Int} {ind:Bool} {p q:Nat} {e:En} (h:OkE base ind q e)
include hN
include h
end
structure VH (l:List Pt):Prop where
 ne:l≠ []
 len:l.length<=3
 all: ∀ p∈l,okP p
def psC (l:List Pt):Bs:=(l.map ptB).flatten
def psB (l:List Pt):Bs:=Sp.elem 48 (psC l)
def zPt:Pt:=([],0,false,[])
section
variable {N:Nat} (hN:1048578<N) {l:List Pt} (h:VH l)
include hN h
theorem AfY:(psC l).length<=6015:=by
 have:=Nc (g:=ptB) (M:=2005) (l:=l) fun p hp=>by have h1:=(AcB hN (h.all p hp)).len;have:=Sp.JL 48 (ptC p);show(Sp.elem 48 (ptC p)).length<=_;omega
 have:=h.len;unfold psC;omega
theorem Axm {d:Nat} (hd:d<=2):Par d (psC l) (l.map ptE):=Zj fun p hp=>(AcB hN (h.all p hp)).par d hd
theorem A0I:Fine (48,psC l):=(MN (by decide) (by decide) (by have:=AfY hN h;omega))
theorem Axl:Sp.chk (psB l)=0:=AiV (A0I hN h) fun _=>(Axm hN h (by decide)).nest
theorem Axa:VH (l.map ptK):=⟨fun e=>h.ne (Fg.1 e),by rw[Dz];exact h.len,fun q hq=>by obtain⟨p,hp,rfl⟩:=DJ.1 hq;exact(AcB hN (h.all p hp)).okK⟩
theorem A2N:psB (l.map ptK)=psB l:=by unfold psB psC;rw[EC];congr 2;exact Ea fun p hp=>(AcB hN (h.all p hp)).Aqc
theorem AqZ:Lr N l=some 0:=by
 have h3:=h.len;unfold Lr;try simp only[clR]
 simp (disch:=first | assumption | omega) only[JO];refine MR (fun i=>(i:Int)) l.length _ ?_ ?_ N (by omega)
 .intro i hi k;have e:=(AcB hN (h.all _ (getD_mem zPt hi))).chk;unfold zPt at *
  simp (disch:=first | assumption | omega) only[JO,e,KI];try rfl
 .intro k;simp (disch:=first | assumption | omega) only[JO]
theorem Aoi:MX N l=some 0:=by
 have h3:=h.len;unfold MX;try simp only[clR]
 simp (disch:=first | assumption | omega) only[JO];refine MR (fun i=>(i:Int)) l.length _ ?_ ?_ N (by omega)
 .intro i hi k;have hp:=h.all _ (getD_mem zPt hi);unfold zPt at *
  dsimp only;rw[Int.toNat_natCast];generalize l.getD i ([],0,false,[])=p at *
  obtain⟨gs,r,b,n⟩:=p;obtain⟨⟨g,hg,hgs⟩,hr,hi'⟩:=hp;dsimp only at hgs hr hi';subst hgs;have hm:=AqQ hr;have ck:=AfO hN (gs1 hg);have l1: [g].length=1:=rfl;rcases hi' with ⟨rfl,rfl⟩ | ⟨rfl,hn,hne⟩
  .simp (disch:=first | assumption | omega) only[JO,hm,ck,l1,List.length_nil,KI];try rfl
  .have hpos:=Eo.2 hne;have hc:=V5 hN hn;simp (disch:=first | assumption | omega) only[JO,hm,ck,l1,hc,KI];try rfl
 .intro k;simp (disch:=first | assumption | omega) only[JO]
theorem A2A {n:List (List Att)} (hn:okN n):We N n=some (ML (4,[],n)):=by have h1:=rO hN (gs1 (Atl hn)) (by simp);rw[A0E]at h1;unfold We;rw[h1];rfl
theorem Avg:Qy N l=some (psB l,0):=by
 have h3:=h.len;have hpos:=Eo.2 h.ne;have hl:=AfY hN h;unfold Qy;try simp only[clR]
 rw[Aoi hN h,Uc (by omega),cond_false,Jy,show((0:Int) != 0)=false from rfl,cond_false];refine(Xm (mk:=fun i t=>(t,(i:Int))) l zPt ptB (fun t=>Jt (Lm N 48 [t]) fun r=>some (r.1,r.2)) ?_ ?_ N (by omega)).trans ?_
 .intro i t hi ht k;have hp:=h.all _ (getD_mem zPt hi);have hP:=AcB hN hp;unfold zPt psC at *
  dsimp only[U2];rw[Int.toNat_natCast];generalize l.getD i ([],0,false,[])=p at *
  have hlen:=hP.len;have ht:=FQ ht hl;unfold ptB at ht ⊢;obtain⟨gs,r,b,n⟩:=p;obtain⟨⟨g,hg,hgs⟩,hr,hi'⟩:=hp;dsimp only at hgs hr hi';subst hgs;have ge:=rO hN (gs1 hg) (by simp);have hle:=WN hN (gs1 hg);have e1:=Sp.JL 160 (LG [g]);have w1:JG N 160 [LG [g]]=_:=TS N 160 [LG [g]] (by omega) (by omega) hN (by simp) (by rw[Kw];omega);have w2:JG N 160 [Sp.elem 160 (LG [g])]=_:=TS N 160 [Sp.elem 160 (LG [g])] (by omega) (by omega) hN (by simp) (by rw[Kw];omega);rw[Kw]at w1 w2;have f1:Tz N [g]=some (Sp.elem 160 (Sp.elem 160 (LG [g]))):=by unfold Tz;rw[show((([g]:List Gn).length:Int)==0)=false from rfl,cond_false,ge,Jy];dsimp only;rw[w1,Jy,w2,Jy]
  have f2:Qo N 129 r=some (flT 129 r):=by
   unfold Qo;rcases hr with rfl | hr
   .rfl
   .have R:=aW hN hr;have w3:JG N 129 [flB r]=_:=TS N 129 [flB r] (by omega) (by omega) hN (by simp) (by rw[Kw];have:=R.len;omega);rw[Kw]at w3;rw[Uc R.ne,cond_false,R.Anv,Jy];dsimp only;rw[w3,Jy];unfold flT;rw[Aaj R.ne,cond_true]
  have wS:JG N 48 [Sp.elem 160 (Sp.elem 160 (LG [g])),flT 129 r,piT ([g],r,b,n)]=some (Sp.elem 48 (ptC ([g],r,b,n))):=by have:=TS N 48 [Sp.elem 160 (Sp.elem 160 (LG [g])),flT 129 r,piT ([g],r,b,n)] (by omega) (by omega) hN (by simp) (by rw[flat3];unfold ptC at hlen;dsimp only at hlen;omega);rw[flat3]at this;exact this
  rw[Az7 (show(i:Int)<(l.length:Int) by omega),cond_true,Az6 (by omega),L8,L8];simp only[KY];have fin: ∀ y:Bs,y=piT ([g],r,b,n)->U5 (fun t8b b34560_0b b34560_1b b34560_2b b34560_3b=>Jt (Tz N b34560_0b) fun r33=>Jt (Qo N 129 b34560_1b) fun r36=>Jt (JG N 48 [r33,r36,t8b]) fun r39=>Vm.chk (decide (t.length+r39.length<=140737488355328)) (k (t++r39,i64.wrap ((i:Int)+1)))) (y,[g],r,b,n)=k (t++Sp.elem 48 (ptC ([g],r,b,n)),((i+1:Nat):Int)):=by intro y hy;subst hy;dsimp only[U5];rw[f1,Jy,f2,Jy,wS,Jy];simp (disch:=first | assumption | omega) only[JO,KI]
  rcases hi' with ⟨rfl,hn0⟩ | ⟨rfl,hn,_⟩
  .exact fin [] rfl
  .have d1:=A2A hN h hn;have:=Acd hN (Atl hn);have w4:JG N 162 [ML (4,[],n)]=_:=TS N 162 [ML (4,[],n)] (by omega) (by omega) hN (by simp) (by rw[Kw];omega);rw[Kw]at w4;rw[cond_true,d1,Jy,w4,Jy];exact fin _ rfl
 .intro t k;simp (disch:=first | assumption | omega) only[JO]
 .have w:Lm N 48 [(l.map ptB).flatten]=_:=AcX N 48 [(l.map ptB).flatten] (by omega) (by omega) hN (by simp) (by rw[Kw];unfold psC at hl;omega);rw[w,Jy,Kw];rfl
end
def Ahg {N:Nat} (hN:1048578<N) {t:Nat} {c:Bs} {es:List El} (ht:t<256) (h31:t % 32≠31) (hc:c.length<=131072) (he:X0 c=(es,0)):QL N (Sp.elem t c) (t:Int)=some (.inl (es,0)):=by have hB:=Sp.JL t c;have h1:=Ou N c (by omega) (by omega) (by omega);rw[he]at h1;unfold QL Qu;rw[AbU N _ t hN (by omega),AfS t c ht h31 hc,Jy];show PI (Jt (NT N c) _) _ _=_;rw[h1];rfl
def Aya (e:El) (r:List El):JB (e::r) 1 (e::r).length=r:=by show((e::r).take (e::r).length).drop 1=r;rw[Ez];rfl
def AjO (N:Nat) (e:El) (r:List El):Ry N (e::r)=some (e,0,r):=by
 have h2:decide ((0:Int)<((e::r).length:Int))=true:=Dp (by simp only[List.length_cons];omega);have h3:decide ((1:Int)<=((e::r).length:Int))=true:=Dp (by simp only[List.length_cons];omega);have h4:(((e::r).length:Int)==(0:Int))=false:=by simp;omega
 unfold Ry;try simp -zeta only[Ap]
 rw[h2,h3,h4,Aya];rfl
def Xj {N:Nat} (t:Nat) (c:Bs) (r:List El) {k:Int} (h:(t:Int)=k):Mc N (JX t c::r) k=some (JX t c,0,r):=by
 have h1:decide (((JX t c::r).length:Int)>(0:Int))=true:=Dp (by simp only[List.length_cons];omega);have h5:(((JX t c::r).getD 0 (0,[],[])).1 != k)=false:=by show((t:Int) != k)=false;rw[h];simp
 unfold Mc;try simp -zeta only[Ap]
 rw[h1,h5,AjO];rfl
def wR {N:Nat} (hN:1048578<N) {c:Bs} {es r:List El} (hc:c.length<=131072) (he:X0 c=(es,0)):MJ N (JX 48 c::r)=some (.inl (es,0,r)):=by have h1:=Ou N c (by omega) (by omega) (by omega);rw[he]at h1;unfold MJ;rw[Xj 48 c r (k:=48) rfl,Jy];show PI (Qu N c) _ _=_;unfold Qu;rw[h1];rfl
def Aoh {N:Nat} (hN:1048578<N) {l:List Pt} (h:VH l):Pg N (psB l)=some (l.map ptK,0):=by
 have h3:=h.len;have hpos:=Eo.2 h.ne;have hl:=AfY hN h;have ho:QL N (psB l) 48=some (.inl (l.map ptE,0)):=Ahg hN (by omega) (by omega) (by omega) (Axm hN h (d:=0) (by decide)).list;have hlm:(l.map ptE).length=l.length:=Dz _;unfold Pg;try simp only[clR]
 rw[ho,NW];unfold KW;dsimp only;simp (disch:=first | assumption | omega) only[JO,hlm,Ej];refine(MR (fun i=>((l.map ptE).drop i,(l.take i).map ptK)) l.length (Jt (Lr N (l.map ptK)) fun r=>bif r != 0 then some ([],r)else some (l.map ptK,0)) ?_ ?_ N (by omega)).trans ?_
 .intro i hi k;have hp:=h.all _ (getD_mem zPt hi);have P:=AcB hN hp;have e1:(l.map ptE).drop i=ptE (l.getD i zPt)::(l.map ptE).drop (i+1):=by rw[EI (by rw[hlm];exact hi),Fb,getD_lt l i zPt hi]
  have e2:(l.take i).map ptK++[ptK (l.getD i zPt)]=(l.take (i+1)).map ptK:=by rw[F5,D9 hi,ET,getD_lt l i zPt hi];rfl
  have e3:MJ N (ptE (l.getD i zPt)::(l.map ptE).drop (i+1))=_:=wR hN (c:=ptC (l.getD i zPt)) (r:=(l.map ptE).drop (i+1)) (by have:=P.len;omega) P.els;have e4:((l.take i).map ptK).length=i:=by rw[Dz,DZ];omega
  dsimp only[U2];rw[e1];have e5:((ptE (l.getD i zPt)::(l.map ptE).drop (i+1)).length:Int)=((l.length - i:Nat):Int):=by rw[List.length_cons,Et,hlm];omega
  have e6:=P.dec;rw[e5,Az5 (by omega),cond_true];rw[e3,NW];simp (disch:=first | assumption | omega) only[JO,e6,e4,e2,Ej];try rfl
 .intro k;have e1:(l.map ptE).drop l.length=[]:=by rw[<- hlm,FC]
  have e2:(l.take l.length).map ptK=l.map ptK:=by rw[Ez]
  dsimp only[U2];rw[e1,e2];rfl
 .rw[AqZ hN (Axa hN h)];rfl
abbrev Sc:Type:=List Gn×Bool×Bool×Int×Bool
def zSc:Sc:=([],false,false,0,false)
structure A1g (s:Sc):Prop where
 ns:AqP s.1
 re:okR s.2.2.2.1
 sh:(s.2.1=true/\s.2.2.1=false/\s.1=[])\/(s.2.1=false/\s.2.2.1=true/\s.1=[])\/(s.2.1=false/\s.2.2.1=false/\s.1≠ [])
section
variable {N:Nat} (hN:1048578<N)
include hN
variable {s:Sc} (h:A1g s)
include h
end
structure Li:Type where
 k:Nat
 this:Int
 next:Int
 num:Int
 base:Int
 ak:Bs
 hs:Bool
 s:Sc
 fr:List Pt
 es:List En
def akV:Bs:=[102,101,100,99,98,97,57,56,55,54,53,52,51,50,49,48]
abbrev Ly:Type:=Bs×Bs×List (List Att)×Int×Int×Int×Int×Bs×Bool×List Gn×Bool×Bool×Int×Bool×List Pt×List Ey×Bs
def Li.y (x:Li) (raw tbs sig:Bs):Ly:=(raw,tbs,aut x.k,x.this,x.next,x.num,x.base,x.ak,x.hs,x.s.1,x.s.2.1,x.s.2.2.1,x.s.2.2.2.1,x.s.2.2.2.2,x.fr,x.es.map enY,sig)
structure OkL (x:Li):Prop where
 k:x.k<16
 th:x.this∈Xf
 nx:x.next∈Xf
 le:x.this<=x.next
 n0:1<=x.num
 n1:x.num<=200
 b:x.base= -1\/(0<=x.base/\x.base<x.num)
 ak:x.ak=[]\/x.ak=akV
 sc:(x.hs=false/\x.s=zSc)\/(x.hs=true/\A1g x.s)
 fr:x.fr=[]\/(x.base= -1/\VH x.fr)
 len:x.es.length<=5
 all: ∀ e∈x.es,OkE x.base x.s.2.2.2.2 x.k e
 nd:x.es.Pairwise fun a b=> ¬(a.1=b.1/\a.k % 8=b.k % 8)
def A1H {α β :Type} (f: α -> β) (l:List α) (d: α) (c: β) {i:Nat} (h:i<l.length):(l.map f).getD i c=f (l.getD i d):=by rw[getD_lt _ _ _ (by rw[Dz];exact h),Fb,getD_lt l i d h]
section
variable {N:Nat} (hN:1048578<N)
include hN
variable {x:Li} (h:OkL x)
include h
omit hN in
omit hN in
variable (raw tbs sig:Bs)
end
def YL {α :Type} {P: α ->Prop} {l:List α} {x: α} (h: ∀ y∈l,P y) (hx:P x): ∀ y∈l++[x],P y:=by
 intro y hy;rcases DV.1 hy with hy | hy
 .exact h y hy
 .rw[Ei.1 hy];exact hx
def Ends {α :Type} (Q: α ->Prop) (o:Option α):Prop:= ∃ v,o=some v/\Q v
def KG {α :Type} {Q: α ->Prop} {v: α} (h:Q v):Ends Q (some v):=⟨v,rfl,h⟩
def JM {α ρ :Type} [Inhabited α] {P: α ->Prop} {Q: ρ ->Prop} {o:Option α} {k: α ->Option ρ} (h:Ends P o) (hk: ∀ v,P v->Ends Q (k v)):Ends Q (Jt o k):=by obtain⟨v,rfl,hv⟩:=h;exact hk v hv
def JC {ρ :Type} {Q: ρ ->Prop} {c:Bool} {k:Option ρ} (h:c=true) (hk:Ends Q k):Ends Q (Vm.chk c k):=by rw[h];exact hk
def JF {ρ :Type} {Q: ρ ->Prop} {c:Bool} {x y:Option ρ} (h1:c=true->Ends Q x) (h2:c=false->Ends Q y):Ends Q (bif c then x else y):=by
 cases c with
 | true=>exact h1 rfl
 | false=>exact h2 rfl
def iM {α ρ :Type} {P: α ->Prop} {Q: ρ ->Prop} {A:(α ->Option ρ)->Option ρ} {f: α ->Option ρ} (hA: ∀ j: α ->Option ρ,(∀ x,P x->Ends Q (j x))->Ends Q (A j)) (hf: ∀ x,P x->Ends Q (f x)):Ends Q (KY A f):=hA f hf
def Lj {X Y ρ :Type} {B:X->(X->Option ρ)->(Y->Option ρ)->Option ρ} {kx:Y->Option ρ} {Q: ρ ->Prop} (I:X->Prop) (μ :X->Nat)
 (h: ∀ x,I x-> ∀ k:X->Option ρ,(∀ x',I x'-> μ x'< μ x->Ends Q (k x'))->Ends Q (B x k kx)) (N:Nat) (x:X) (hI:I x) (hm: μ x<N):Ends Q (J8 B N x kx):=Tm I μ (Ends Q) h N x hI hm
def AnN {α :Type} {P Q: α ->Prop} {o:Option α} (h:Ends P o) (hq: ∀ v,P v->Q v):Ends Q o:=by obtain⟨v,rfl,hv⟩:=h;exact⟨v,rfl,hq v hv⟩
def KT (L:List Int) (d:List Int×Int):Prop:= ∃ k:Nat,d=(L,(k:Int))/\k<=L.length
def AwR (N:Nat) {L:List Int} (hL:L.length<=9223372036854775807) {d:List Int×Int} (hd:KT L d) (n:Nat) (hn:0<n) (hn':n<2147483648) :
 Ends (fun r=>0<=r.1/\r.1<(n:Int)/\KT L r.2) (JK N d (n:Int)):=by
 obtain⟨k,rfl,hk⟩:=hd;unfold JK;try simp -zeta only[Ap]
 try dsimp only
 by_cases h:k<L.length
 .rw[Wq,Du (by omega),w64 (x:=(k:Int)+1) (by omega) (by omega),w64 (x:=(k:Int)+1 - 1) (by omega) (by omega),qL,Dt (by omega),qL,Dt (by omega)];generalize L.getD _ _=x;have hne:((n:Int) != 0)=true:=by simp;omega
  rw[hne,L8,L8];have h1:=IL x (show(0:Int)<(n:Int) by omega);have h2: -(n:Int)<x.tmod (n:Int):=Int.lt_tmod_of_pos x (by omega);rw[w64 (x:=x.tmod (n:Int)+(n:Int)) (by omega) (by omega)];have h3:0<=(x.tmod (n:Int)+(n:Int)).tmod (n:Int):=Int.tmod_nonneg _ (by omega);have h4:=IL (x.tmod (n:Int)+(n:Int)) (show(0:Int)<(n:Int) by omega);refine⟨_,rfl,h3,h4,k+1,by rw[show((k+1:Nat):Int)=(k:Int)+1 by omega],h⟩
 .rw[Wq,Dt (by omega)];exact⟨_,rfl,FP _,by show(0:Int)<n;omega,k,rfl,hk⟩
def Qe {α :Type} {P: α ->Prop} {l:List α} {d: α} {i:Int} (h: ∀ x∈l,P x) (h0:0<=i) (hi:i<(l.length:Int)):P (l.getD i.toNat d):=h _ (getD_mem d (by omega))
section
variable (N:Nat) (hN:1048578<N) {L:List Int} (hL:L.length<=9223372036854775807)
include hL
theorem nx {d:List Int×Int} (hd:KT L d) (n:Int) (h0:0<n) (h1:n<2147483648):Ends (fun r=>0<=r.1/\r.1<n/\KT L r.2) (JK N d n):=by
 have:=AwR N hL hd n.toNat (by omega) (by omega)
 rw[show((n.toNat:Nat):Int)=n by omega]at this;exact this
omit hL in
theorem AuR {a:Att} (h:a∈fE): [a]∈NJ:=DF _ (DF _ (DJ.2 ⟨a,h,rfl⟩))
omit hL in
theorem Ay9 {a b:Att} (h:a∈fE) (hb:b∈fE) (hn:b.1≠a.1): [a,b]∈NJ :=
 DF _ (DD _ (Eg.2 ⟨a,h,DJ.2 ⟨b,Ji.2 ⟨hb,by simpa using Ne.symm hn⟩,rfl⟩⟩))
theorem ApM {d:List Int×Int} (hd:KT L d):Ends (fun r=>r.1∈fE/\KT L r.2) (X4 N d):=by
 unfold X4;try simp -zeta only[Ap]
 refine JM (nx N hL hd 12 (by omega) (by omega)) ?_;rintro ⟨r,d'⟩ ⟨h0,h1,h2⟩;dsimp only at h0 h1 h2 ⊢;refine JC (by simp;omega) (JC (by simp;omega) (JC (by simp;omega) (KG ⟨?_,h2⟩)));exact Qe (P:=fun x=>x∈fE) (fun x hx=>hx) h0 h1
include hN in
theorem AmT {d:List Int×Int} (hd:KT L d):Ends (fun r=>okN r.1/\KT L r.2) (Zh N d):=by
 unfold Zh;try simp only[clR]
 refine JM (nx N hL hd 4 (by omega) (by omega)) ?_;rintro ⟨r,d1,d2⟩ ⟨h0,h1,h2⟩;dsimp only at h0 h1 h2 ⊢;refine Lj (fun x=>0<=x.1/\x.1<4/\KT L (x.2.1,x.2.2.1)/\((x.2.2.2.length:Int)+x.1<=3)/\ ∀ r∈x.2.2.2,r∈NJ) (fun x=>x.1.toNat) ?_ N _ ⟨h0,h1,h2,by simp;omega,fun r hr=>by cases hr⟩ (by dsimp only;omega);rintro ⟨t,a,b,acc⟩ ⟨g0,g1,g2,g3,g4⟩ k hk;dsimp only[U4]at g0 g1 g2 g3 g4 ⊢;refine JF (fun ht=> ?_) (fun _=> ?_)
 .have ht:=D6 ht;refine JM (nx N hL g2 5 (by omega) (by omega)) ?_;rintro ⟨r,e1,e2⟩ ⟨f0,f1,f2⟩;dsimp only at f0 f1 f2 ⊢
  have hw:i64.wrap (1+i64.wrap (r.tdiv 4))<=2/\1<=i64.wrap (1+i64.wrap (r.tdiv 4)):=by
   have:r=0\/r=1\/r=2\/r=3\/r=4:=by omega
   rcases this with rfl | rfl | rfl | rfl | rfl<;>decide
  refine Lj (fun x=>0<=x.1/\x.1<=2/\KT L (x.2.1,x.2.2.1)/\((x.2.2.2.1.length:Int)+x.1<=2)/\((x.2.2.2.1=[]/\1<=x.1)\/(∃ y∈fE,x.2.2.2.1=[y])\/(x.2.2.2.1.length=2/\x.2.2.2.1∈NJ))/\x.2.2.2.2=acc) (fun x=>x.1.toNat) ?_ N _ ⟨by dsimp only;omega,hw.1,f2,by simp;omega,Or.inl ⟨rfl,hw.2⟩,rfl⟩ (by dsimp only;omega);rintro ⟨t',a',b',acc',out⟩ ⟨p0,p1,p2,p3,p4,p5⟩ k' hk';dsimp only[U5]at p0 p1 p2 p3 p4 p5 ⊢;subst p5;refine JF (fun ht'=> ?_) (fun ht'=> ?_)
  .have ht':=D6 ht';refine JM (ApM N hL p2) ?_;rintro ⟨r,q1,q2⟩ ⟨z0,z1⟩;dsimp only at z0 z1 ⊢
   have taut:(decide ((0:Int)<(acc'.length:Int))||((acc'.length:Nat):Int)==0)=true:=by
    cases acc' with
    | nil=>rfl
    | cons x y=>rw[Dp (by rw[List.length_cons];omega)];rfl
   have Ap8:(decide (0<acc'.length)||((acc'.length:Nat):Int)==0)=true:=by
    cases acc' with
    | nil=>rfl
    | cons x y=>rw[Dp (by rw[List.length_cons];omega)];rfl
   refine JC (by first | exact taut | exact Ap8) (JC (by first | exact taut | exact Ap8) (JC (by first | exact taut | exact Ap8) ?_))
   have p4':acc'=[]\/ ∃ y∈fE,acc'=[y]:=by
    rcases p4 with ⟨h,_⟩ | h | ⟨h,_⟩
    .exact Or.inl h
    .exact Or.inr h
    .rw[h]at p3;omega
   refine JF (fun hc=> ?_) (fun hc=> ?_)
   .refine JC (Dp (by omega)) (hk' _ ⟨?_,?_,z1,?_,?_,rfl⟩ ?_)
    .dsimp only;rw[w64 (by omega) (by omega)];omega
    .dsimp only;rw[w64 (by omega) (by omega)];omega
    .dsimp only;rw[w64 (by omega) (by omega),Dv];simp;omega
    .dsimp only;rcases p4' with rfl | ⟨y,hy,rfl⟩
     .exact Or.inr (Or.inl ⟨r,z0,rfl⟩)
     .refine Or.inr (Or.inr ⟨rfl,Ay9 hy z0 fun e=> ?_⟩);rw[e]at hc;simp at hc
    .dsimp only;rw[w64 (by omega) (by omega)];omega
   .refine hk' _ ⟨?_,?_,z1,?_,?_,rfl⟩ ?_
    .dsimp only;rw[w64 (by omega) (by omega)];omega
    .dsimp only;rw[w64 (by omega) (by omega)];omega
    .dsimp only;rw[w64 (by omega) (by omega)];omega
    .dsimp only;rcases p4' with rfl | h
     .simp at hc
     .exact Or.inr (Or.inl h)
    .dsimp only;rw[w64 (by omega) (by omega)];omega
  .have ht':=EL ht';dsimp only[U4]
   have hin:acc'∈NJ:=by
    rcases p4 with ⟨_,h⟩ | ⟨y,hy,rfl⟩ | ⟨_,h⟩
    .omega
    .exact AuR hy
    .exact h
   refine JC (Dp (by omega)) (hk _ ⟨?_,?_,p2,?_,YL g4 hin⟩ ?_)
   .dsimp only;rw[w64 (by omega) (by omega)];omega
   .dsimp only;rw[w64 (by omega) (by omega)];omega
   .dsimp only;rw[w64 (by omega) (by omega),Dv];simp;omega
   .dsimp only;rw[w64 (by omega) (by omega)];omega
 .dsimp only[U3];exact KG ⟨⟨by dsimp only;omega,g4⟩,g2⟩
include hN hL
theorem Ace {d:List Int×Int} (hd:KT L d):Ends (fun r=>okG r.1/\KT L r.2) (Uj N d):=by
 have hT: ∀(l:List Bs) (k:Int),l.all (fun s=>AgH.contains (k,s,[]))=true-> ∀ s∈l,okG (k,s,[]):=fun l k h s hs=>Or.inl (FT.1 (D7.1 h s hs));unfold Uj;try simp only[clR]
 refine JM (nx N hL hd 4 (by omega) (by omega)) ?_;rintro ⟨r,d'⟩ ⟨h0,h1,h2⟩;dsimp only at h0 h1 h2 ⊢;refine JF (fun _=> ?_) (fun _=>JF (fun _=> ?_) (fun _=>JF (fun _=> ?_) (fun _=> ?_)))
 .refine JM (nx N hL h2 6 (by omega) (by omega)) ?_;rintro ⟨r,d'⟩ ⟨h0,h1,h2⟩;dsimp only at h0 h1 h2 ⊢;refine JC (Dp (by omega)) (JC (Dp (by omega)) (JC (Dp (by omega)) (KG ⟨Qe (P:=fun s=>okG (1,s,[])) (hT _ 1 (by kernel_rfl)) h0 h1,h2⟩)))
 .refine JM (nx N hL h2 7 (by omega) (by omega)) ?_;rintro ⟨r,d'⟩ ⟨h0,h1,h2⟩;dsimp only at h0 h1 h2 ⊢;refine JC (Dp (by omega)) (JC (Dp (by omega)) (JC (Dp (by omega)) (KG ⟨Qe (P:=fun s=>okG (2,s,[])) (hT _ 2 (by kernel_rfl)) h0 h1,h2⟩)))
 .refine JM (nx N hL h2 4 (by omega) (by omega)) ?_;rintro ⟨r,d'⟩ ⟨h0,h1,h2⟩;dsimp only at h0 h1 h2 ⊢;refine JC (Dp (by omega)) (JC (Dp (by omega)) (JC (Dp (by omega)) (KG ⟨Qe (P:=fun s=>okG (7,s,[])) (hT _ 7 (by kernel_rfl)) h0 h1,h2⟩)))
 .refine JM (AmT N hN hL h2) ?_;rintro ⟨n,d'⟩ ⟨g0,g1⟩;exact KG ⟨Or.inr ⟨n,g0,rfl⟩,g1⟩
omit hN in
theorem Atr {d:List Int×Int} (hd:KT L d):Ends (fun r=>r.1∈Xf/\KT L r.2) (iQ N d):=by
 unfold iQ;try simp -zeta only[Ap]
 refine JM (nx N hL hd 7 (by omega) (by omega)) ?_;rintro ⟨r,d'⟩ ⟨h0,h1,h2⟩;dsimp only at h0 h1 h2 ⊢;exact JC (Dp (by omega)) (JC (Dp (by omega)) (JC (Dp (by omega)) (KG ⟨Qe (P:=fun x=>x∈Xf) (fun x hx=>hx) h0 h1,h2⟩)))
omit hL in
theorem pJ {k:Int} (h0:0<=k) (h1:k<16):Ends (fun n=> ∃ j:Nat,j<16/\n=aut j) (OL N k):=by
 obtain⟨j,rfl⟩: ∃ j:Nat,k=j:=⟨k.toNat,by omega⟩
 exact⟨aut j,(ApN hN (by omega)).made,j,by omega,rfl⟩
theorem Aog {d:List Int×Int} (hd:KT L d):Ends (fun r=>VH r.1/\KT L r.2) (Ye N d):=by
 unfold Ye;try simp only[clR]
 refine JM (nx N hL hd 3 (by omega) (by omega)) ?_;rintro ⟨r,d1,d2⟩ ⟨h0,h1,h2⟩;dsimp only at h0 h1 h2 ⊢;rw[w64 (by omega) (by omega)];refine Lj (fun x=>0<=x.1/\x.1<4/\KT L (x.2.1,x.2.2.1)/\((x.2.2.2.length:Int)+x.1<=3)/\(x.2.2.2=[]->1<=x.1)/\ ∀ p∈x.2.2.2,okP p) (fun x=>x.1.toNat) ?_ N _ ⟨by dsimp only;omega,by dsimp only;omega,h2,by simp;omega,(fun _=>by dsimp only;omega),(fun r hr=>by cases hr)⟩ (by dsimp only;omega);rintro ⟨t,a,b,acc⟩ ⟨g0,g1,g2,g3,g5,g4⟩ k hk;dsimp only[U4]at g0 g1 g2 g3 g4 g5 ⊢;refine JF (fun ht=> ?_) (fun ht=>by dsimp only[U3];exact KG ⟨⟨fun e=>by have:=g5 e;have:=EL ht;omega,by dsimp only;omega,g4⟩,g2⟩);have ht:=D6 ht;refine JM (Ace N hN hL g2) ?_;rintro ⟨g,e⟩ ⟨f0,f1⟩;refine JM (nx N hL f1 6 (by omega) (by omega)) ?_;rintro ⟨r6,e1,e2⟩ ⟨c0,c1,c2⟩;dsimp only at c0 c1 c2 f0 ⊢;refine JC (Dp (by omega)) (JC (Dp (by omega)) (JC (Dp (by omega)) ?_));have hr: [(0:Int),0,510,2,64,384].getD r6.toNat 0=0\/ [(0:Int),0,510,2,64,384].getD r6.toNat 0∈Anw:=Qe (P:=fun x:Int=>x=0\/x∈Anw) (by decide) c0 c1;refine iM (P:=fun x=>KT L (x.1,x.2.1)/\x.2.2.1=[(0:Int),0,510,2,64,384].getD r6.toNat 0/\((x.2.2.2.1=false/\x.2.2.2.2.1=[])\/(x.2.2.2.1=true/\okN x.2.2.2.2.1/\x.2.2.2.2.1≠ []))/\x.2.2.2.2.2.1=[g]/\x.2.2.2.2.2.2=acc) (fun j hj=> ?_) ?_
 .refine JM (nx N hL c2 3 (by omega) (by omega)) ?_;rintro ⟨r3,q1,q2⟩ ⟨z0,z1,z2⟩;dsimp only at z0 z1 z2 ⊢;refine JF (fun _=> ?_) (fun _=>hj _ ⟨z2,rfl,Or.inl ⟨rfl,rfl⟩,rfl,rfl⟩);refine JM (nx N hL z2 16 (by omega) (by omega)) ?_;rintro ⟨r3,q1,q2⟩ ⟨z0,z1,z2⟩;dsimp only at z0 z1 z2 ⊢;refine JM (pJ N hN z0 z1) ?_;rintro n ⟨i,hi,rfl⟩;have A:=ApN hN hi;exact hj _ ⟨z2,rfl,Or.inr ⟨rfl,A.ok,A.ne⟩,rfl,rfl⟩
 .rintro ⟨q1,q2,x1,x2,x3,x4,x5⟩ ⟨y1,y2,y3,y4,y5⟩;dsimp only[U7]at y1 y2 y3 y4 y5 ⊢;subst y2 y4 y5;refine JC (Dp (by omega)) (hk _ ⟨?_,?_,y1,?_,?_,YL g4 ⟨⟨g,f0,rfl⟩,hr,y3⟩⟩ ?_)
  .dsimp only;rw[w64 (by omega) (by omega)];omega
  .dsimp only;rw[w64 (by omega) (by omega)];omega
  .dsimp only;rw[w64 (by omega) (by omega),Dv];simp;omega
  .intro e;simp at e
  .dsimp only;rw[w64 (by omega) (by omega)];omega
end
abbrev Info:Type:=Bool×Bool×Int×Int×List Bs×List Bs×List (Bs×Bs)×Int×Int×Int×List Gn×Bool×List Gn×List Gn×Bs×Bs×List Pt×List Pt×List Ex
def WR:List Bs:=[[49,46,50,46,51,46,49],[49,46,50,46,51,46,50],[49,46,50,46,51,46,51],[49,46,50,46,51,46,52],[49,46,50,46,51,46,53],[50,46,57,57,57,46,49],[50,46,57,57,57,46,50],[49,46,50,46,51],[50,46,53,46,50,57,46,51,50,46,48]]
def YO:List Bs:=[[49,46,51,46,54,46,49,46,53,46,53,46,55,46,51,46,49],[49,46,51,46,54,46,49,46,53,46,53,46,55,46,51,46,50],[49,46,51,46,54,46,49,46,53,46,53,46,55,46,51,46,51],[49,46,51,46,54,46,49,46,53,46,53,46,55,46,51,46,52],[50,46,53,46,50,57,46,51,55,46,48]]
def skL:List Bs:=[[],[48,49,50,51,52,53,54,55,56,57,97,98,99,100,101,102],[120]]
def akL:List Bs:=[[],[102,101,100,99,98,97,57,56,55,54,53,52,51,50,49,48]]
def AjV:List Gn:=[[97,110,110,64,101,120,97,109,112,108,101,46,111,114,103],[101,120,97,109,112,108,101,46,111,114,103],[46,101,120,97,109,112,108,101,46,111,114,103],[69,88,65,77,80,76,69,46,111,114,103],[46,111,114,103],[111,114,103],[109,97,105,108,46,101,120,97,109,112,108,101,46,111,114,103]].map (fun s=>(1,s,[])) ++
 [[101,120,97,109,112,108,101,46,111,114,103],[119,119,119,46,101,120,97,109,112,108,101,46,111,114,103],[],[69,120,97,109,112,108,101,46,79,82,71],[111,114,103],[98],[97,46,98]].map (fun s=>(2,s,[])) ++
 [[10,0,0,0,255,0,0,0],[10,1,0,0,255,255,0,0],[0,0,0,0,0,0,0,0],[10,1,2,3,255,255,255,255],[32,1,0,0,0,0,0,0,0,0,0,0,0,0,0,0,255,255,0,0,0,0,0,0,0,0,0,0,0,0,0,0]].map (fun s=>(7,s,[]))
def okB (g:Gn):Prop:=g∈AjV\/ ∃ n,okN n/\g=(4,[],n)
structure okS (s:List Gn×List Gn):Prop where
 l0:s.1.length<=3
 l1:s.2.length<=3
 ne:s.1≠ []\/s.2≠ []
 a0: ∀ g∈s.1,okB g
 a1: ∀ g∈s.2,okB g
def yC:List (Bool×Int):=[(true,-1),(true,0),(true,1),(true,2),(true,3),(false,-1)]
def rM:List Int:=[-1,0,1,2,3]
def unX (c:Bool):Ex:=([49,46,50,46,51,46,52,46,53],c,[5,0])
def unY:Ex:=([49,46,50,46,51,46,52,46,54],false,[48,3,2,1,7])
def unL:List (List Ex):=[[],[unX true],[unX false],[unX true,unY],[unX false,unY]]
structure xA (L l:List Bs):Prop where
 len:l.length<=3
 all: ∀ s∈l,s∈L
 nod:l.Nodup
structure Alq (l:List (Bs×Bs)):Prop where
 len:l.length<=3
 all: ∀ m∈l,m.1∈WR/\m.2∈WR
 nod:l.Nodup
structure OkI (x:Info):Prop where
 bas:(x.1=true/\(x.2.1,x.2.2.1)∈yC)\/(x.1=false/\x.2.1=false/\x.2.2.1= -1)
 us:0<=x.2.2.2.1/\x.2.2.2.1<=511
 pu:xA YO x.2.2.2.2.1
 po:xA WR x.2.2.2.2.2.1
 ma:Alq x.2.2.2.2.2.2.1
 re:x.2.2.2.2.2.2.2.1∈rM
 im:x.2.2.2.2.2.2.2.2.1∈rM
 ia: -1<=x.2.2.2.2.2.2.2.2.2.1/\x.2.2.2.2.2.2.2.2.2.1<=64
 na:x.2.2.2.2.2.2.2.2.2.2.1.length<=2/\ ∀ g∈x.2.2.2.2.2.2.2.2.2.2.1,okG g
 con:(x.2.2.2.2.2.2.2.2.2.2.2.1=false/\x.2.2.2.2.2.2.2.2.2.2.2.2.1=[]/\x.2.2.2.2.2.2.2.2.2.2.2.2.2.1=[])\/(x.2.2.2.2.2.2.2.2.2.2.2.1=true/\okS (x.2.2.2.2.2.2.2.2.2.2.2.2.1,x.2.2.2.2.2.2.2.2.2.2.2.2.2.1))
 sk:x.2.2.2.2.2.2.2.2.2.2.2.2.2.2.1∈skL
 ak:x.2.2.2.2.2.2.2.2.2.2.2.2.2.2.2.1∈akL
 pt:x.2.2.2.2.2.2.2.2.2.2.2.2.2.2.2.2.1=[]\/VH x.2.2.2.2.2.2.2.2.2.2.2.2.2.2.2.2.1
 fr:x.2.2.2.2.2.2.2.2.2.2.2.2.2.2.2.2.2.1=[]\/VH x.2.2.2.2.2.2.2.2.2.2.2.2.2.2.2.2.2.1
 un:x.2.2.2.2.2.2.2.2.2.2.2.2.2.2.2.2.2.2∈unL
section
variable (N:Nat) (hN:1048578<N) {L:List Int} (hL:L.length<=9223372036854775807)
include hN hL
theorem Ame {d:List Int×Int} (hd:KT L d):Ends (fun r=>okB r.1/\KT L r.2) (Zg N d):=by
 have hT: ∀(l:List Bs) (k:Int),l.all (fun s=>AjV.contains (k,s,[]))=true-> ∀ s∈l,okB (k,s,[]):=fun l k h s hs=>Or.inl (FT.1 (D7.1 h s hs));unfold Zg;try simp only[clR]
 refine JM (nx N hL hd 4 (by omega) (by omega)) ?_;rintro ⟨r,d'⟩ ⟨h0,h1,h2⟩;dsimp only at h0 h1 h2 ⊢;refine JF (fun _=> ?_) (fun _=>JF (fun _=> ?_) (fun _=>JF (fun _=> ?_) (fun _=> ?_)))
 .refine JM (nx N hL h2 7 (by omega) (by omega)) ?_;rintro ⟨r,d'⟩ ⟨h0,h1,h2⟩;dsimp only at h0 h1 h2 ⊢;refine JC (Dp (by omega)) (JC (Dp (by omega)) (JC (Dp (by omega)) (KG ⟨Qe (P:=fun s=>okB (1,s,[])) (hT _ 1 (by kernel_rfl)) h0 h1,h2⟩)))
 .refine JM (nx N hL h2 7 (by omega) (by omega)) ?_;rintro ⟨r,d'⟩ ⟨h0,h1,h2⟩;dsimp only at h0 h1 h2 ⊢;refine JC (Dp (by omega)) (JC (Dp (by omega)) (JC (Dp (by omega)) (KG ⟨Qe (P:=fun s=>okB (2,s,[])) (hT _ 2 (by kernel_rfl)) h0 h1,h2⟩)))
 .refine JM (nx N hL h2 5 (by omega) (by omega)) ?_;rintro ⟨r,d'⟩ ⟨h0,h1,h2⟩;dsimp only at h0 h1 h2 ⊢;refine JC (Dp (by omega)) (JC (Dp (by omega)) (JC (Dp (by omega)) (KG ⟨Qe (P:=fun s=>okB (7,s,[])) (hT _ 7 (by kernel_rfl)) h0 h1,h2⟩)))
 .refine JM (AmT N hN hL h2) ?_;rintro ⟨n,d'⟩ ⟨g0,g1⟩;exact KG ⟨Or.inr ⟨n,g0,rfl⟩,g1⟩
theorem As9 {d:List Int×Int} (hd:KT L d):Ends (fun r=>okS r.1/\KT L r.2) (Yx N d):=by
 unfold Yx;try simp only[clR]
 refine JM (nx N hL hd 4 (by omega) (by omega)) ?_;rintro ⟨r,d1,d2⟩ ⟨h0,h1,h2⟩;dsimp only at h0 h1 h2 ⊢;refine Lj (fun x=>0<=x.1/\x.1<4/\KT L (x.2.1,x.2.2.1)/\((x.2.2.2.length:Int)+x.1<=3)/\ ∀ g∈x.2.2.2,okB g) (fun x=>x.1.toNat) ?_ N _ ⟨h0,h1,h2,by simp;omega,(fun r hr=>by cases hr)⟩ (by dsimp only;omega);rintro ⟨t,a,b,acc⟩ ⟨g0,g1,g2,g3,g4⟩ k hk;dsimp only[U4]at g0 g1 g2 g3 g4 ⊢;refine JF (fun ht=> ?_) (fun _=> ?_)
 .have ht:=D6 ht;refine JM (Ame N hN hL g2) ?_;rintro ⟨g,e1,e2⟩ ⟨f0,f1⟩;dsimp only at f0 f1 ⊢;refine JC (Dp (by omega)) (hk _ ⟨?_,?_,f1,?_,YL g4 f0⟩ ?_)
  .dsimp only;rw[w64 (by omega) (by omega)];omega
  .dsimp only;rw[w64 (by omega) (by omega)];omega
  .dsimp only;rw[w64 (by omega) (by omega),Dv];simp;omega
  .dsimp only;rw[w64 (by omega) (by omega)];omega
 .dsimp only[U3];refine JM (nx N hL g2 3 (by omega) (by omega)) ?_;rintro ⟨r,e1,e2⟩ ⟨f0,f1,f2⟩;dsimp only at f0 f1 f2 ⊢;refine Lj (fun x=>0<=x.1/\x.1<3/\KT L (x.2.1,x.2.2.1)/\x.2.2.2.1=acc/\((x.2.2.2.2.length:Int)+x.1<=2)/\ ∀ g∈x.2.2.2.2,okB g) (fun x=>x.1.toNat) ?_ N _ ⟨f0,f1,f2,rfl,by simp;omega,(fun r hr=>by cases hr)⟩ (by dsimp only;omega);rintro ⟨t',a',b',acc',out⟩ ⟨p0,p1,p2,p3,p4,p5⟩ k' hk';dsimp only[U5]at p0 p1 p2 p3 p4 p5 ⊢;subst p3;refine JF (fun ht'=> ?_) (fun _=> ?_)
  .have ht':=D6 ht';refine JM (Ame N hN hL p2) ?_;rintro ⟨g,q1,q2⟩ ⟨z0,z1⟩;dsimp only at z0 z1 ⊢;refine JC (Dp (by omega)) (hk' _ ⟨?_,?_,z1,rfl,?_,YL p5 z0⟩ ?_)
   .dsimp only;rw[w64 (by omega) (by omega)];omega
   .dsimp only;rw[w64 (by omega) (by omega)];omega
   .dsimp only;rw[w64 (by omega) (by omega),Dv];simp;omega
   .dsimp only;rw[w64 (by omega) (by omega)];omega
  .dsimp only[U4];refine JF (fun _=> ?_) (fun hc=>KG ⟨⟨by dsimp only;omega,by dsimp only;omega,?_,g4,p5⟩,p2⟩)
   .refine JM (Ame N hN hL p2) ?_;rintro ⟨g,q1,q2⟩ ⟨z0,z1⟩;dsimp only at z0 z1 ⊢;refine JC (Dp (by omega)) (KG ⟨⟨by dsimp only;omega,?_,Or.inr (by simp),g4,YL p5 z0⟩,z1⟩);dsimp only;rw[Dv];simp;omega
   .dsimp only;by_cases e1:acc'=[]
    .refine Or.inr fun e2=> ?_;subst e1 e2;cases hc
    .exact Or.inl e1
end
section
variable (N:Nat) (hN:1048578<N) {L:List Int} (hL:L.length<=9223372036854775807)
theorem AfW {k:Int} (h0:0<=k) (h1:k<9):Ends (fun s=>s∈WR) (V4 N k):=by
 unfold V4;try simp -zeta only[Ap]
 have h:k.tmod 9=k:=by
  have:k=0\/k=1\/k=2\/k=3\/k=4\/k=5\/k=6\/k=7\/k=8:=by omega
  rcases this with rfl | rfl | rfl | rfl | rfl | rfl | rfl | rfl | rfl<;>rfl
 rw[h];exact JC (Dp (by omega)) (JC (Dp (by omega)) (JC (Dp (by omega)) (KG (Qe (P:=fun s=>s∈WR) (fun s hs=>hs) h0 h1))))
theorem take_any {α :Type} (p: α ->Bool) {l:List α} {i:Nat} (hi:i<l.length) (d: α):(l.take (i+1)).any p=((l.take i).any p||p (l.getD i d)):=by rw[F5,D9 hi,getD_lt l i d hi,List.any_append];simp
theorem Aob {α :Type} {l:List α} {x: α} (h:l.Nodup) (hx:x∉l):(l++[x]).Nodup:=by rw[List.nodup_append];refine⟨h,List.nodup_cons.2 ⟨Ew,Gs⟩,fun a ha b hb=> ?_⟩;rw[Ei.1 hb];exact fun e=>hx (e▸ha)
include hN hL in
theorem Atk {d:List Int×Int} (p:Bool) (hd:KT L d):Ends (fun r=>(xA (bif p then YO else WR) r.1)/\KT L r.2) (iR N d p):=by
 unfold iR;try simp only[clR]
 refine JM (nx N hL hd 3 (by omega) (by omega)) ?_;rintro ⟨r,d1,d2⟩ ⟨h0,h1,h2⟩;dsimp only at h0 h1 h2 ⊢;rw[w64 (by omega) (by omega)];refine Lj (fun x=>0<=x.1/\x.1<4/\KT L (x.2.1,x.2.2.1)/\((x.2.2.2.length:Int)+x.1<=3)/\(∀ s∈x.2.2.2,s∈(bif p then YO else WR))/\x.2.2.2.Nodup) (fun x=>x.1.toNat) ?_ N _ ⟨by dsimp only;omega,by dsimp only;omega,h2,by simp;omega,(fun r hr=>by cases hr),Gs⟩ (by dsimp only;omega);rintro ⟨t,a,b,acc⟩ ⟨g0,g1,g2,g3,g4,g5⟩ k hk;dsimp only[U4]at g0 g1 g2 g3 g4 g5 ⊢;refine JF (fun ht=> ?_) (fun _=>by dsimp only[U3];exact KG ⟨⟨by dsimp only;omega,g4,g5⟩,g2⟩);have ht:=D6 ht;refine JM (nx N hL g2 9 (by omega) (by omega)) ?_;rintro ⟨r9,e1,e2⟩ ⟨c0,c1,c2⟩;dsimp only at c0 c1 c2 ⊢;refine JM (AfW N c0 c1) ?_;intro s hs;refine iM (P:=fun x=>x.1∈(bif p then YO else WR)/\KT L (x.2.1,x.2.2.1)/\x.2.2.2=acc) (fun j hj=> ?_) ?_
 .cases p with
  | false=>exact hj _ ⟨hs,c2,rfl⟩
  | true =>simp only[cond_true];refine JM (nx N hL c2 5 (by omega) (by omega)) ?_;rintro ⟨r3,q1,q2⟩ ⟨z0,z1,z2⟩;dsimp only at z0 z1 z2 ⊢;exact JC (Dp (by omega)) (JC (Dp (by omega)) (JC (Dp (by omega)) (hj _ ⟨Qe (P:=fun s=>s∈YO) (fun s hs=>hs) z0 z1,z2,rfl⟩)))
 .rintro ⟨s,q1,q2,x⟩ ⟨y1,y2,y3⟩;dsimp only at y1 y2 y3;subst y3;dsimp only[U4];refine Lj (fun z=>0<=z.2.1/\z.2.1<=(x.length:Int)/\KT L (z.2.2.1,z.2.2.2.1)/\z.2.2.2.2=x/\z.1=(x.take z.2.1.toNat).any (fun y=>s==y)) (fun z=>x.length - z.2.1.toNat) ?_ N _ ⟨FP _,by dsimp only;omega,y2,rfl,rfl⟩ (by dsimp only;omega);rintro ⟨w1,i,a',b',x'⟩ ⟨p0,p1,p2,p3,p4⟩ k' hk';dsimp only[U5]at p0 p1 p2 p3 p4 ⊢;subst p3;refine JF (fun hi=> ?_) (fun hi=> ?_)
  .have hi:=D6 hi;refine JC (Dp (by omega)) (JC (Dp (by omega)) (JC (Dp (by omega)) (hk' _ ⟨?_,?_,p2,rfl,?_⟩ ?_)))
   .dsimp only;rw[w64 (by omega) (by omega)];omega
   .dsimp only;rw[w64 (by omega) (by omega)];omega
   .dsimp only;rw[w64 (by omega) (by omega),show(i+1).toNat=i.toNat+1 by omega,take_any _ (by omega) [],p4]
   .dsimp only;rw[w64 (by omega) (by omega)];omega
  .have hi:=EL hi;rw[EW (by omega)]at p4;dsimp only[U4];refine JF (fun hc=> ?_) (fun _=> ?_)
   .have hnot:s∉x':=fun hm=>by
     rw[p4,FB.2 ⟨s,hm,Em s⟩]at hc;cases hc
    refine JC (Dp (by omega)) (hk _ ⟨?_,?_,p2,?_,YL g4 y1,Aob g5 hnot⟩ ?_)
    .dsimp only;rw[w64 (by omega) (by omega)];omega
    .dsimp only;rw[w64 (by omega) (by omega)];omega
    .dsimp only;rw[w64 (by omega) (by omega),Dv];simp;omega
    .dsimp only;rw[w64 (by omega) (by omega)];omega
   .refine hk _ ⟨?_,?_,p2,?_,g4,g5⟩ ?_
    .dsimp only;rw[w64 (by omega) (by omega)];omega
    .dsimp only;rw[w64 (by omega) (by omega)];omega
    .dsimp only;rw[w64 (by omega) (by omega)];omega
    .dsimp only;rw[w64 (by omega) (by omega)];omega
include hN hL in
theorem Asr {d:List Int×Int} (hd:KT L d):Ends (fun r=>Alq r.1/\KT L r.2) (Yy N d):=by
 unfold Yy;try simp only[clR]
 refine JM (nx N hL hd 3 (by omega) (by omega)) ?_;rintro ⟨r,d1,d2⟩ ⟨h0,h1,h2⟩;dsimp only at h0 h1 h2 ⊢;rw[w64 (by omega) (by omega)];refine Lj (fun x=>0<=x.1/\x.1<4/\KT L (x.2.1,x.2.2.1)/\((x.2.2.2.length:Int)+x.1<=3)/\(∀ m∈x.2.2.2,m.1∈WR/\m.2∈WR)/\x.2.2.2.Nodup) (fun x=>x.1.toNat) ?_ N _ ⟨by dsimp only;omega,by dsimp only;omega,h2,by simp;omega,(fun r hr=>by cases hr),Gs⟩ (by dsimp only;omega);rintro ⟨t,a,b,acc⟩ ⟨g0,g1,g2,g3,g4,g5⟩ k hk;dsimp only[U4]at g0 g1 g2 g3 g4 g5 ⊢;refine JF (fun ht=> ?_) (fun _=>by dsimp only[U3];exact KG ⟨⟨by dsimp only;omega,g4,g5⟩,g2⟩);have ht:=D6 ht;refine JM (nx N hL g2 9 (by omega) (by omega)) ?_;rintro ⟨r9,e1,e2⟩ ⟨c0,c1,c2⟩;dsimp only at c0 c1 c2 ⊢;refine JM (AfW N c0 c1) ?_;intro s hs;refine JM (nx N hL c2 9 (by omega) (by omega)) ?_;rintro ⟨r9,e1,e2⟩ ⟨c0,c1,c2⟩;dsimp only at c0 c1 c2 ⊢;refine JM (AfW N c0 c1) ?_;intro s2 hs2;refine Lj (fun z=>0<=z.2.1/\z.2.1<=(acc.length:Int)/\KT L (z.2.2.1,z.2.2.2.1)/\z.2.2.2.2.1=s/\z.2.2.2.2.2.1=s2/\z.2.2.2.2.2.2=acc/\z.1=(acc.take z.2.1.toNat).any (fun y=>s==y.1&&(s2==y.2&&true))) (fun z=>acc.length - z.2.1.toNat) ?_ N _ ⟨FP _,by dsimp only;omega,c2,rfl,rfl,rfl,rfl⟩ (by dsimp only;omega);rintro ⟨w1,i,a',b',s',s2',x'⟩ ⟨p0,p1,p2,p3,p4,p5,p6⟩ k' hk';dsimp only[U7]at p0 p1 p2 p3 p4 p5 p6 ⊢;subst p3 p4 p5;refine JF (fun hi=> ?_) (fun hi=> ?_)
 .have hi:=D6 hi;refine JC (Dp (by omega)) (JC (Dp (by omega)) (JC (Dp (by omega)) (hk' _ ⟨?_,?_,p2,rfl,rfl,rfl,?_⟩ ?_)))
  .dsimp only;rw[w64 (by omega) (by omega)];omega
  .dsimp only;rw[w64 (by omega) (by omega)];omega
  .dsimp only;rw[w64 (by omega) (by omega),show(i+1).toNat=i.toNat+1 by omega,take_any _ (by omega) ([],[]),p6]
  .dsimp only;rw[w64 (by omega) (by omega)];omega
 .have hi:=EL hi;rw[EW (by omega)]at p6;dsimp only[U6];refine JF (fun hc=> ?_) (fun _=> ?_)
  .have hnot:(s',s2')∉x':=fun hm=>by
    rw[p6,FB.2 ⟨(s',s2'),hm,by simp⟩]at hc;cases hc
   refine JC (Dp (by omega)) (hk _ ⟨?_,?_,p2,?_,YL g4 ⟨hs,hs2⟩,Aob g5 hnot⟩ ?_)
   .dsimp only;rw[w64 (by omega) (by omega)];omega
   .dsimp only;rw[w64 (by omega) (by omega)];omega
   .dsimp only;rw[w64 (by omega) (by omega),Dv];simp;omega
   .dsimp only;rw[w64 (by omega) (by omega)];omega
  .refine hk _ ⟨?_,?_,p2,?_,g4,g5⟩ ?_
   .dsimp only;rw[w64 (by omega) (by omega)];omega
   .dsimp only;rw[w64 (by omega) (by omega)];omega
   .dsimp only;rw[w64 (by omega) (by omega)];omega
   .dsimp only;rw[w64 (by omega) (by omega)];omega
theorem A0C:OkI (false,false,-1,0,[],[],[],-1,-1,-1,[],false,[],[],[],[],[],[],[]) :=
 ⟨Or.inr ⟨rfl,rfl,rfl⟩,by decide,⟨Es _,(fun s hs=>by cases hs),Gs⟩,⟨Es _,(fun s hs=>by cases hs),Gs⟩,⟨Es _,(fun s hs=>by cases hs),Gs⟩,by decide,by decide,by decide,⟨Es _,fun s hs=>by cases hs⟩,Or.inl ⟨rfl,rfl,rfl⟩,by decide,by decide,Or.inl rfl,Or.inl rfl,by decide⟩
theorem five {n:Int} (h0:0<=n) (h1:n<5):i64.wrap (n - 1)∈rM/\(true,i64.wrap (n - 1))∈yC:=by
 have:n=0\/n=1\/n=2\/n=3\/n=4:=by omega
 rcases this with rfl | rfl | rfl | rfl | rfl<;>exact⟨by decide,by decide⟩
theorem A0i {α :Type} {l:List α} {a b:Nat} {x: α} (h:x∈JB l a b):x∈l:=Gt (Ik h)
include hN hL in
theorem A00 {d:List Int×Int} (hd:KT L d):Ends (fun r=>OkI r.1/\KT L r.2) (wV N d):=by
 unfold wV;try simp only[clR]
 rw[show AcQ N=some (false,false,-1,0,[],[],[],-1,-1,-1,[],false,[],[],[],[],[],[],[])from rfl,Jy];refine JM (nx N hL hd 6 (by omega) (by omega)) ?_;rintro ⟨r,d1,d2⟩ ⟨h0,h1,h2⟩;dsimp only at h0 h1 h2 ⊢;refine Lj (fun x=>0<=x.1/\x.1<6/\KT L (x.2.1,x.2.2.1)/\OkI x.2.2.2) (fun x=>x.1.toNat) ?_ N _ ⟨h0,h1,h2,A0C⟩ (by dsimp only;omega);rintro ⟨t,a,b,hb,ca,pl,us,pu,po,ma,re,im,ia,na,hc,pe,ex,sk,ak,pt,fr,un⟩ ⟨g0,g1,g2,P⟩ k hk;dsimp only at g0 g1 g2 P hk;dsimp only[U22];refine JF (fun ht=> ?_) (fun _=> ?_)
 .have ht:=D6 ht;have go: ∀(a':List Int) (b':Int) (i:Info),KT L (a',b')->OkI i->Ends (fun r=>OkI r.1/\KT L r.2) (k (i64.wrap (t - 1),a',b',i)):=by intro a' b' i hda hP;rw[w64 (by omega) (by omega)];exact hk (t - 1,a',b',i) ⟨by dsimp only;omega,by dsimp only;omega,hda,hP⟩ (by dsimp only;omega)
  refine JM (nx N hL g2 14 (by omega) (by omega)) ?_;rintro ⟨r,d1,d2⟩ ⟨h0,h1,h2⟩;dsimp only at h0 h1 h2 ⊢;refine iM (P:=fun x=> ∃ q,x=(q,d1,d2,hb,ca,pl,us,pu,po,ma,re,im,ia,na,hc,pe,ex,sk,ak,pt,fr,un)) (fun j hj=>JF (fun _=>hj _ ⟨_,rfl⟩) (fun _=>hj _ ⟨_,rfl⟩)) ?_;rintro _ ⟨q,rfl⟩;dsimp only[U22];refine JF (fun _=> ?_) (fun _=>JF (fun _=> ?_) (fun _=>JF (fun _=> ?_) (fun _=>JF (fun _=> ?_) (fun _=>JF (fun _=> ?_) (fun _=>JF (fun _=> ?_) (fun _=>JF (fun _=> ?_) (fun _=>JF (fun _=> ?_) (fun _=>JF (fun _=> ?_) (fun _=>JF (fun _=> ?_) (fun _=>JF (fun _=> ?_) (fun _=>JF (fun _=> ?_) (fun _=> ?_))))))))))))
  .refine JM (nx N hL h2 5 (by omega) (by omega)) ?_;rintro ⟨r,e1,e2⟩ ⟨f0,f1,f2⟩;dsimp only at f0 f1 f2 ⊢;exact go _ _ _ f2 {P with bas:=Or.inl ⟨rfl,(five f0 f1).2⟩}
  .exact go _ _ _ h2 {P with bas:=Or.inl ⟨rfl,(by decide:(false,(-1:Int))∈yC)⟩}
  .refine JM (nx N hL h2 511 (by omega) (by omega)) ?_;rintro ⟨r,e1,e2⟩ ⟨f0,f1,f2⟩;dsimp only at f0 f1 f2 ⊢;exact go _ _ _ f2 {P with us:=by dsimp only;rw[w64 (by omega) (by omega)];omega}
  .refine JM (Atk N hN hL true h2) ?_;rintro ⟨r,e1,e2⟩ ⟨f0,f2⟩;exact go _ _ _ f2 {P with pu:=f0}
  .refine JM (Atk N hN hL false h2) ?_;rintro ⟨r,e1,e2⟩ ⟨f0,f2⟩;exact go _ _ _ f2 {P with po:=f0}
  .refine JM (Asr N hN hL h2) ?_;rintro ⟨r,e1,e2⟩ ⟨f0,f2⟩;exact go _ _ _ f2 {P with ma:=f0}
  .refine JM (nx N hL h2 5 (by omega) (by omega)) ?_;rintro ⟨r,e⟩ ⟨f0,f1,f2⟩;refine JM (nx N hL f2 5 (by omega) (by omega)) ?_;rintro ⟨r2,e1,e2⟩ ⟨c0,c1,c2⟩;dsimp only at f0 f1 c0 c1 c2 ⊢;exact go _ _ _ c2 {P with re:=(five f0 f1).1,im:=(five c0 c1).1}
  .refine JM (nx N hL h2 65 (by omega) (by omega)) ?_;rintro ⟨r,e1,e2⟩ ⟨f0,f1,f2⟩;dsimp only at f0 f1 f2 ⊢;exact go _ _ _ f2 {P with ia:=by dsimp only;omega}
  .refine JM (Ace N hN hL h2) ?_;rintro ⟨x,e⟩ ⟨f0,f2⟩;refine JM (Ace N hN hL f2) ?_;rintro ⟨y,e⟩ ⟨f1,f2⟩;refine JM (nx N hL f2 2 (by omega) (by omega)) ?_;rintro ⟨r2,e1,e2⟩ ⟨c0,c1,c2⟩;dsimp only at f0 f1 c0 c1 c2 ⊢;rw[w64 (by omega) (by omega)];refine JC (Dp (by omega)) (JC (Dp (by omega)) ?_);refine go _ _ _ c2 {P with na:=⟨?_,fun g hg=> ?_⟩}
   .unfold JB;rw[Et,DZ];simp;omega
   .rcases D8.1 (A0i hg)with rfl | hg
    .exact f0
    .rw[Ei.1 hg];exact f1
  .refine JM (As9 N hN hL h2) ?_;rintro ⟨⟨x,y⟩,e1,e2⟩ ⟨f0,f2⟩;exact go _ _ _ f2 {P with con:=Or.inr ⟨rfl,f0⟩}
  .refine JM (nx N hL h2 3 (by omega) (by omega)) ?_;rintro ⟨r,e⟩ ⟨f0,f1,f2⟩;dsimp only at f0 f1 f2 ⊢;refine JC (Dp (by omega)) (JC (Dp (by omega)) (JC (Dp (by omega)) ?_));refine JM (nx N hL f2 2 (by omega) (by omega)) ?_;rintro ⟨r2,e1,e2⟩ ⟨c0,c1,c2⟩;dsimp only at c0 c1 c2 ⊢;refine JC (Dp (by omega)) (JC (Dp (by omega)) (JC (Dp (by omega)) ?_));exact go _ _ _ c2 {P with sk:=Qe (P:=fun s=>s∈skL) (fun s hs=>hs) f0 f1,ak:=Qe (P:=fun s=>s∈akL) (fun s hs=>hs) c0 c1}
  .refine JM (Aog N hN hL h2) ?_;rintro ⟨r,e1,e2⟩ ⟨f0,f2⟩;exact go _ _ _ f2 {P with pt:=Or.inr f0}
  .refine JM (Aog N hN hL h2) ?_;rintro ⟨r,e⟩ ⟨f0,f2⟩;refine JM (nx N hL f2 2 (by omega) (by omega)) ?_;rintro ⟨r2,e⟩ ⟨c0,c1,c2⟩;refine JM (nx N hL c2 3 (by omega) (by omega)) ?_;rintro ⟨r3,e1,e2⟩ ⟨z0,z1,z2⟩;dsimp only at f0 c0 c1 z0 z1 z2 ⊢;refine JC (Dp (by omega)) (JC (Dp (by omega)) ?_);refine go _ _ _ z2 {P with fr:=Or.inr f0,un:= ?_};have hz:r3=0\/r3=1\/r3=2:=by omega
   rcases hz with rfl | rfl | rfl
   .exact Dy
   .dsimp only;cases r2==1<;>decide
   .dsimp only;cases r2==1<;>decide
 .dsimp only[U21];exact KG ⟨P,g2⟩
end
end Go.Proofs.YtfgdgdnlglejbaaGreatDoor.Pl
