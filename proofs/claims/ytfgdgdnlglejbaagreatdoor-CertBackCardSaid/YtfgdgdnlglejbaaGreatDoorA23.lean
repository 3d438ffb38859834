import Derived.Test.YtfgdgdnlglejbaaGreatDoorA16
import Derived.Test.YtfgdgdnlglejbaaGreatDoorA22
import Derived.ChangeArms
import Derived.SliceStrings
import Derived.Test.YtfgdgdnlglejbaaGreatDoorRows
import Derived.Test.YtfgdgdnlglejbaaGreatDoorChecked
import Derived.Lib.LaidU8
import Derived.Shelf.Vars
import Derived.HandedShaped
import Derived.LaidLaws
set_option linter.all false
namespace Go.Proofs.YtfgdgdnlglejbaaGreatDoor.Pl
open IntKind (i64)
open Go Vm
theorem AsK (M:Nat):(List.range 301).all (Amu M)=true:=by kernel_rfl
theorem WX {N:Nat} (hN:1048578<N) {n:Int} (h0:0<=n) (h1:n<=300):zG N n:=by
 obtain⟨M,rfl⟩:=ofM hN;obtain⟨k,rfl⟩: ∃ k:Nat,n=k:=⟨n.toNat,by omega⟩
 have h:=List.all_eq_true.1 (AsK M) k (List.mem_range.2 (by omega));unfold Amu at h;simp only[Bool.and_eq_true,beq_iff_eq,decide_eq_true_eq]at h;obtain⟨h1,h2,h3,h4⟩:=h;exact⟨h1,h2,h3,h4⟩
theorem Au2 (N:Nat) (s:Bs):QK N s 0=some true:=rfl
theorem Ajd (N:Nat) {s:Bs} (hs:s.length<=60000):Qj N s 0=some (0::s,0):=by
 unfold Qj;try simp -zeta only[Ap]
 rw[Au2];try simp only[clR]
 refine(Ed _ rfl).trans ?_;refine(Ed _ (decide_eq_true (by simp;omega))).trans rfl
theorem Aru (N:Nat) (s:Bs):TB N (0::s)=some (s,0,0):=by
 have hlen:(0::s:Bs).length=s.length+1:=rfl;unfold TB QK;try simp only[clR]
 have hcut:D7 (0::s:Bs) 1 (0::s:Bs).length=s:=by rw[jD];rfl
 rw[show((0::s:Bs)==[])=false from rfl,hcut];simp (disch:=first | assumption | omega) only[DT,hlen,List.getD_cons_zero,UInt8.toNat_zero,Option.isSome_some,Option.getD_some];try rfl
def keyS (k:Int) (i r:Bs):Bs:=Vm.byteOf (IntKind.u8.wrap k)::(i++r)
def Zi (k:Int) (i r:Bs):Bs:=PL++Sp.elem 3 (0::keyS k i r)
def AbP (k:Int) (i r:Bs):Bs:=Sp.elem 48 (Zi k i r)
structure OkK (k:Int) (i r:Bs):Prop where
 k:0<=k/\k<9
 i:i.length=16
 r:r.length=16
section
variable {N:Nat} (hN:1048578<N) {k:Int} {i r:Bs} (h:OkK k i r)
include h
theorem nR:(keyS k i r).length=33:=by unfold keyS;rw[List.length_cons,List.length_append,h.i,h.r]
theorem Agm:List.all [IntKind.u8.wrap k] isByte=true/\i64.wrap (((Vm.byteOf (IntKind.u8.wrap k)).toNat:Nat):Int)=k:=by
 have:=h.k;have:k=0\/k=1\/k=2\/k=3\/k=4\/k=5\/k=6\/k=7\/k=8:=by omega
 rcases this with rfl | rfl | rfl | rfl | rfl | rfl | rfl | rfl | rfl<;>exact⟨rfl,rfl⟩
theorem xY:G7 N (k,i,r)=some 0:=by
 obtain⟨⟨a,b⟩,c,d⟩:=h;unfold G7;try simp -zeta only[Ap]
 simp (disch:=first | assumption | omega) only[DT,c,d,bne_self_eq_false];try rfl
theorem AlM:P6 N (k,i,r)=some (keyS k i r):=by
 have h1:=(Agm h).1;have h2:=h.i;have h3:=h.r;unfold P6;try simp -zeta only[Ap]
 try dsimp only
 rw[h1,Gh,decide_eq_true (by simp;omega),Gh,decide_eq_true (by simp;omega),Gh];rfl
include hN
theorem nP:(Zi k i r).length<=80:=by have h1:=Abs (O9 hN);have h2:=nR h;have h3:=Sp.DF 3 (0::keyS k i r);rw[List.length_cons]at h3;unfold Zi;rw[List.length_append];omega
theorem AkS {d:Nat} (hd:d<=2):Par d (Zi k i r) [Ea 48 PM,Ea 3 (0::keyS k i r)] :=
 GL (es:=[_]) (Ae2 (O9 hN) hd) (JF (FV (by decide) (by decide) (by rw[List.length_cons,nR h];decide)) (by omega) (by decide))
theorem Am4:QF N (k,i,r)=some (AbP k i r,0):=by have h1:=nP hN h;have h2:=nR h;unfold Zi at h1;have w1:Ej N 3 [0::keyS k i r]=_:=SQ N 3 [0::keyS k i r] (by omega) (by omega) hN (by simp) (by rw[EI,List.length_cons];omega);rw[EI]at w1;have w2:Ej N 48 [PL,Sp.elem 3 (0::keyS k i r)]=_:=SQ N 48 [PL,Sp.elem 3 (0::keyS k i r)] (by omega) (by omega) hN (by simp) (by rw[Yh];omega);rw[Yh]at w2;unfold QF;rw[xY h,Dn,show((0:Int) != 0)=false from rfl,cond_false,AlM h,Dn,Ajd N (by omega),Dn];dsimp only;rw[show((0:Int) != 0)=false from rfl,cond_false,w1,Dn];dsimp only;rw[show((0:Int) != 0)=false from rfl,cond_false,(O9 hN).enc,Dn,w2,Dn];rfl
end
structure Ce where
 se:Int
 is:List (List Att)
 su:List (List Att)
 nb:Int
 nf:Int
 kh:Int
 ki:Bs
 kr:Bs
 x:Info
abbrev Ce.c (C:Ce) (raw tbs sig:Bs):Crt:=(raw,tbs,C.se,C.is,C.su,C.nb,C.nf,C.kh,C.ki,C.kr,C.x.1,C.x.2.1,C.x.2.2.1,C.x.2.2.2.1,C.x.2.2.2.2.1,C.x.2.2.2.2.2.1,C.x.2.2.2.2.2.2.1,C.x.2.2.2.2.2.2.2.1,C.x.2.2.2.2.2.2.2.2.1,C.x.2.2.2.2.2.2.2.2.2.1,C.x.2.2.2.2.2.2.2.2.2.2.1,C.x.2.2.2.2.2.2.2.2.2.2.2.1,C.x.2.2.2.2.2.2.2.2.2.2.2.2.1,C.x.2.2.2.2.2.2.2.2.2.2.2.2.2.1,C.x.2.2.2.2.2.2.2.2.2.2.2.2.2.2.1,C.x.2.2.2.2.2.2.2.2.2.2.2.2.2.2.2.1,C.x.2.2.2.2.2.2.2.2.2.2.2.2.2.2.2.2.1,C.x.2.2.2.2.2.2.2.2.2.2.2.2.2.2.2.2.2.1,C.x.2.2.2.2.2.2.2.2.2.2.2.2.2.2.2.2.2.2,sig)
abbrev tX (C:Ce):Prop:=Aln C.se C.is C.su C.nb C.nf C.kh C.ki C.kr C.x
def exO (x:Info):Bs:=bif (exI x).isEmpty then []else Sp.elem 163 (xsB (exI x))
def XA (C:Ce):Bs:=UM C.nb++UM C.nf
def AlH (C:Ce):List Bs:=[Sp.elem 160 (Ho 2 2),Ho 2 C.se,PL,nmT C.is,Sp.elem 48 (XA C),nmT C.su,AbP C.kh C.ki C.kr,exO C.x]
def Y6 (C:Ce):Bs:=Sp.elem 160 (Ho 2 2)++(Ho 2 C.se++(PL++(nmT C.is++(Sp.elem 48 (XA C)++(nmT C.su++(AbP C.kh C.ki C.kr++exO C.x))))))
def Ir (C:Ce):Bs:=Sp.elem 48 (Y6 C)
theorem ApM (C:Ce):(AlH C).flatten=Y6 C:=by simp [AlH,Y6]
theorem Ad0 {α :Type} {l:List α} (h:l.isEmpty=false):l≠ []:=by rintro rfl;cases h
section
variable {N:Nat} (hN:1048578<N)
include hN
theorem Afd {x:Info} (h:OkI x) (h0:exI x≠ []):(xsC (exI x)).length<=91000:=by have h1:=Alj (AcZ hN h h0) hN (m:=6020) fun e he=>(jJ hN h e he).2;have:=zL h;omega
theorem Ase {x:Info} (h:OkI x):(exO x).length<=91010:=by
 unfold exO;cases hb:(exI x).isEmpty with
 | true=>exact Nat.zero_le _
 | false =>have:=Afd hN h (Ad0 hb);have:=Sp.DF 48 (xsC (exI x));have:=Sp.DF 163 (xsB (exI x));unfold xsB at this ⊢;rw[cond_false];omega
theorem zN {n:Int} (I:zG N n) (t:Nat):(Ho t n).length<=7:=by have:=I.len;have:=Sp.DF t (inB n);unfold Ho;omega
theorem Asf (b:Bool) {x:Info} (h:OkI x):Pj N b x=some (exO x,b):=by
 unfold Pj exO;rw[AtH hN h,Dn];dsimp only;rw[show((0:Int) != 0)=false from rfl,cond_false];cases hb:(exI x).isEmpty with
 | true=>rw[List.isEmpty_iff.1 hb];rfl
 | false =>have h0:=Ad0 hb;have:=List.length_pos_iff.2 h0;have hl:=Afd hN h h0;have:=Sp.DF 48 (xsC (exI x));have w:DD N b 163 [xsB (exI x)]=_:=UN N 163 b [xsB (exI x)] (by omega) (by omega) hN (by simp) (by rw[EI];unfold xsB;omega);rw[EI]at w;rw[TK (by omega),cond_false,Apw (AcZ hN h h0) hN,Dn];dsimp only;rw[Nu,Dn];dsimp only;rw[w];rfl
variable {C:Ce} (h:tX C)
include h
theorem Aaj:(XA C).length<=50:=by have h1:=Ajt (Qq hN h.nb);have h2:=Ajt (Qq hN h.nf);unfold XA;rw[List.length_append];omega
theorem gW:(Y6 C).length<=93000:=by have h1:=zN hN (WX hN (n:=2) (by omega) (by omega)) 2;have h2:=Sp.DF 160 (Ho 2 2);have h3:=zN hN (WX hN (n:=C.se) (by have:=h.se;omega) h.se.2) 2;have h4:=Abs (O9 hN);have h5:=kE hN h.is;have h6:=kE hN h.su;have h7:=Aaj hN h;have h8:=Sp.DF 48 (XA C);have h9:=nP hN (⟨h.kh,h.ki,h.kr⟩:OkK C.kh C.ki C.kr);have h10:=Sp.DF 48 (Zi C.kh C.ki C.kr);have h11:=Ase hN h.x;unfold Y6 AbP;simp only[List.length_append];omega
theorem pV (raw tbs sig:Bs):Oa N (C.c raw tbs sig)=some 0:=by
 have h1:=KX hN h.is;have h2:=KX hN h.su;have h3:G7 N (C.kh,C.ki,C.kr)=some 0:=xY ⟨h.kh,h.ki,h.kr⟩;have h4:Jj N C.x=some 0:=Afo hN h.x;obtain⟨s1,s2⟩:=h.se;have p1:=List.length_pos_iff.2 h.ne;have T1:=Qq hN h.nb;have T2:=Qq hN h.nf
 have sp: ∀ {t:Int},Ahq N t->SV N t=some true:=fun {t} T=>by
  have:=T.p0;have:=T.p1;unfold SV;try simp -zeta only[Ap]
  simp (disch:=first | assumption | omega) only[DT]
 have tt:=h.tt;have hc:=h.cs;obtain⟨se,is,su,nb,nf,kh,ki,kr,hb,ca,x⟩:=C;dsimp only at *
 unfold Oa;try simp only[clR]
 have e:(ca&&((su.length:Int)==(0:Int)))=false:=by
  cases ca with
  | false=>rfl
  | true=>have:=List.length_pos_iff.2 (hc rfl);rw[Bool.true_and];exact TK (by omega)
 simp (disch:=first | assumption | omega) only[DT,h1,h2,h3,sp T1,sp T2,Option.isSome_some,Option.getD_some,e,bne_self_eq_false];exact(congrArg (fun o=>Dj o _) h4).trans rfl
theorem AaB (raw tbs sig:Bs):J5 N (C.c raw tbs sig)=some (Ir C,0):=by
 have hl:=gW hN h;have I2:=WX hN (n:=2) (by omega) (by omega);have Is:=WX hN (n:=C.se) (by have:=h.se;omega) h.se.2;have wi: ∀ {n:Int},zG N n->Hl N false n=some (Ho 2 n,false):=fun {n} I=>by have w2:DD N false 2 [inB n]=_:=UN N 2 false [inB n] (by omega) (by omega) hN (by simp) (by rw[EI];have:=I.len;omega);rw[EI]at w2;unfold Hl;rw[I.put,Dn,w2];rfl
 have w160:DD N false 160 [Ho 2 2]=_:=UN N 160 false [Ho 2 2] (by omega) (by omega) hN (by simp) (by rw[EI];have:=zN hN I2 2;omega);rw[EI]at w160;have w48:Eb N false [UM C.nb,UM C.nf]=some (Sp.elem 48 (XA C),false):=by have hv:=Aaj hN h;unfold XA at hv;rw[uB N false _ (by show 2<N;omega) (by show 2<=_;omega),Yh,Qv (by omega)];rfl
 have wS:Eb N false (AlH C)=some (Ir C,false):=by rw[uB N false _ (by show 8<N;omega) (by show 8<=_;omega),ApM,Qv (by omega)];rfl
 have e:MN N false (C.c raw tbs sig)=some (Ir C,false,C.c raw tbs sig):=by
  unfold AlH at wS;unfold MN Ce.c;try simp -zeta only[Ap]
  try dsimp only
  rw[wi I2,Dn,w160,Dn,wi Is,Dn,(O9 hN).enc,Dn,VT hN h.is,Dn];dsimp only;rw[Nu,Dn,(Qq hN h.nb).enc,Dn];dsimp only;rw[Nu,Dn,(Qq hN h.nf).enc,Dn];dsimp only;rw[Nu,Dn];dsimp only;rw[w48,Dn,VT hN h.su,Dn];dsimp only;rw[Nu,Dn,Am4 hN ⟨h.kh,h.ki,h.kr⟩,Dn];dsimp only;rw[Nu,Dn];refine(congrArg (fun o=>Dj o _) (Asf hN false h.x)).trans ?_;rw[Dn];dsimp only;rw[wS,Dn]
 unfold J5;rw[pV hN h,Dn,show((0:Int) != 0)=false from rfl,cond_false,e,Dn];rfl
end
end Go.Proofs.YtfgdgdnlglejbaaGreatDoor.Pl
namespace Go.Proofs.YtfgdgdnlglejbaaGreatDoor.Pl
open IntKind (i64)
open Go Vm
def Ce.K (C:Ce):Ce:=⟨C.se,nmC C.is,nmC C.su,C.nb,C.nf,C.kh,C.ki,C.kr,inK C.x⟩
theorem AoK {n:List (List Att)} (h:n≠ []):nmC n≠ []:=fun e=>h (List.map_eq_nil_iff.1 e)
section
variable {N:Nat} (hN:1048578<N) {C:Ce} (h:tX C)
include hN h
theorem An2:tX C.K :=
 ⟨⟨AoK h.ne,h.tt,h.se,zU hN h.is,zU hN h.su,h.nb,h.nf,h.kh,h.ki,h.kr,Arn hN h.x⟩,fun hc=>AoK (h.cs hc)⟩
theorem Ats:Ir C.K=Ir C:=by
 have h1:nmT (nmC C.is)=nmT C.is:=by unfold nmT;rw[Ah4 hN h.is]
 have h2:nmT (nmC C.su)=nmT C.su:=by unfold nmT;rw[Ah4 hN h.su]
 have h3:exO (inK C.x)=exO C.x:=by unfold exO;rw[AuV hN h.x]
 unfold Ir Y6 Ce.K XA;dsimp only;rw[h1,h2,h3]
end
section
variable {N:Nat} (hN:1048578<N) {k:Int} {i r:Bs} (h:OkK k i r)
include hN h
theorem Am3:QE N (AbP k i r)=some ((k,i,r),0):=by
 have h1:=nP hN h;have hB:=Sp.DF 48 (Zi k i r);have o:MI N (AbP k i r)=some (Ea 48 (Zi k i r),0):=by rw[QQ N _ (by omega) (by unfold AbP;omega)];exact congrArg some (Zt 48 _ (by decide) (by decide) (by omega))
 have L:=Ii N (Zi k i r) (by omega) (by omega) (by omega);rw[(AkS hN h (d:=0) (by decide)).list]at L;have hS:=nR h;have b:=Agm h;have c1:D7 (keyS k i r) 1 17=i:=by unfold keyS D7;show(i++r).take 16=i;rw[<- h.i,List.take_left'];rfl
 have c2:D7 (keyS k i r) 17 (keyS k i r).length=r:=by unfold D7;rw[List.take_length];show(i++r).drop 16=r;rw[<- h.i,List.drop_left'];rfl
 have c3:(keyS k i r).getD 0 0=Vm.byteOf (IntKind.u8.wrap k):=rfl
 have e2:Yu N 307 ((0,[],[]),Ea 3 (0::keyS k i r))=some (0,k,i,r):=by
  rw[show ∀ a,Yu N 307 a=Jy N a.1 a.2 from fun _=>by kernel_rfl];unfold Jy;try simp -zeta only[Ap]
  dsimp only[Ea];rw[show(((3:Nat):Int) != 3)=false from rfl,cond_false,Aru,Dn];dsimp only;rw[c1,c2,c3,b.2,xY h,hS];rfl
 have e1:Yu N 306 ((0,[],[]),Ea 48 PM)=some (0,0,[],[]):=by rw[show ∀ a,Yu N 306 a=GX N a.1 a.2 from fun _=>by kernel_rfl];unfold GX;rw[(O9 hN).chk,Dn]
 obtain⟨K,rfl⟩: ∃ K,N=K+3:=⟨N - 3,by omega⟩
 unfold QE;try simp only[clR]
 rw[o,Dn];dsimp only;rw[show((0:Int) != 0)=false from rfl,cond_false,el1,el2,show(((48:Nat):Int) != 48)=false from rfl,cond_false,L,Dn];dsimp only;rw[show((0:Int) != 0)=false from rfl,cond_false,Fa];dsimp only[U6];refine(AcB rfl).trans ?_;refine(Ed _ rfl).trans ?_;refine(Ed _ rfl).trans ?_;refine(Ed _ rfl).trans ?_;refine(AcA rfl).trans ?_;refine(Ed _ rfl).trans ?_;refine(congrArg (fun o=>Dj o _) e1).trans ?_;rw[Dn];dsimp only;rw[show((0:Int) != 0)=false from rfl,cond_false];refine(Ed _ rfl).trans ?_;rw[ApQ,Fa];dsimp only[U6];refine(AcB rfl).trans ?_;refine(Ed _ rfl).trans ?_;refine(Ed _ rfl).trans ?_;refine(Ed _ rfl).trans ?_;refine(AcA rfl).trans ?_;refine(Ed _ rfl).trans ?_;refine(congrArg (fun o=>Dj o _) e2).trans ?_;rw[Dn];dsimp only;rw[show((0:Int) != 0)=false from rfl,cond_false];refine(Ed _ rfl).trans ?_;rw[ApQ,Fa];rfl
end
section
variable {N:Nat} (hN:1048578<N) {C:Ce} (h:tX C)
include hN h
theorem AkG:Par 1 (Y6 C) (Ea 160 (Ho 2 2)::Amt 2 C.se::Ea 48 PM::Ea 48 (nmB C.is)::Ea 48 (XA C)::Ea 48 (nmB C.su)::Ea 48 (Zi C.kh C.ki C.kr)::(bif !(exI C.x).isEmpty then [Ea 163 (xsB (exI C.x))]else [])):=by
 have I2:=WX hN (n:=2) (by omega) (by omega);have Is:=WX hN (n:=C.se) (by have:=h.se;omega) h.se.2;have hv:=Aaj hN h;have K:OkK C.kh C.ki C.kr:=⟨h.kh,h.ki,h.kr⟩
 have pI: ∀ {n:Int},zG N n-> ∀ d,d<16->Par d (Ho 2 n) [Amt 2 n]:=fun {n} I d hd=>JF (Ai2 I (by decide) (by decide)) hd (by decide)
 refine GL (es:=[_]) (GM (FV (by decide) (by decide) (by have:=zN hN I2 2;omega)) (by decide) (pI I2 2 (by decide)).nest) (GL (es:=[_]) (pI Is 1 (by decide)) (GL (es:=[_]) (Ae2 (O9 hN) (by decide))
  (GL (es:=[_]) (zT hN h.is (by decide)) (GL (es:=[_]) (GM (FV (by decide) (by decide) (by omega)) (by decide) (GL (Aai (Qq hN h.nb) (by decide)) (Aai (Qq hN h.nf) (by decide))).nest)
  (GL (es:=[_]) (zT hN h.su (by decide)) (GL (es:=[_]) (GM (FV (by decide) (by decide) (by have:=nP hN K;omega)) (by decide) (AkS hN K (by decide)).nest) ?_))))))
 unfold exO;cases hb:(exI C.x).isEmpty with
 | true=>exact zY 1
 | false =>have h0:=Ad0 hb;have hl:=Afd hN h.x h0;have:=Sp.DF 48 (xsC (exI C.x));have X:=AcZ hN h.x h0;exact GM (FV (by decide) (by decide) (by unfold xsB;omega)) (by decide) (GM (AsV X hN) (d:=2) (by decide) (Apx X hN (by decide)).nest).nest
theorem Aak (raw tbs:Bs):Q3 N (raw,tbs,0,[],[],0,0,0,[],[],false,false,0,0,[],[],[],0,0,0,[],false,[],[],[],[],[],[],[],[]) (Y6 C)=some (0,C.K.c raw tbs []):=by
 have hl:=gW hN h;have h1:=Ii N (Y6 C) (by omega) (by omega) (by omega);rw[(AkG hN h).list]at h1;have I2:=WX hN (n:=2) (by omega) (by omega);have Is:=WX hN (n:=C.se) (by have:=h.se;omega) h.se.2;have hse:=h.se;have K:OkK C.kh C.ki C.kr:=⟨h.kh,h.ki,h.kr⟩
 have hv:=Aaj hN h;have e1: ∀ r,RJ N (Ea 160 (Ho 2 2)::r)=some (0,r):=fun r=>by unfold RJ;rw[Qx 160 _ r (k:=160) rfl,Dn];dsimp only;rw[show((0:Int) != 0)=false from rfl,cond_false,el2];unfold Ho;rw[AiS hN (Ai2 I2 (by decide) (by decide)) (k:=2) rfl,Dn];dsimp only;rw[show((0:Int) != 0)=false from rfl,cond_false,el2,I2.int];rfl
 have e2: ∀ r,VK N (Amt 2 C.se::r)=some (C.se,0,r):=fun r=>by
  unfold VK Amt;try simp -zeta only[Ap]
  rw[Qx 2 _ r (k:=2) rfl,Dn];dsimp only;rw[show((0:Int) != 0)=false from rfl,cond_false,el2,Is.int,Dn];simp (disch:=first | assumption | omega) only[DT]
 have e3: ∀ r,J6 N (Ea 48 PM::r)=some (0,r):=fun r=>by unfold J6;rw[Ac1,Dn];dsimp only;rw[show((0:Int) != 0)=false from rfl,cond_false,(O9 hN).chk];rfl
 have e4: ∀ {n:List (List Att)},okN n-> ∀ r,Wp N (Ea 48 (nmB n)::r)=some (nmC n,0,r):=fun {n} hn r=>by unfold Wp;rw[Qx 48 _ r (k:=48) rfl,Dn];dsimp only;rw[show((0:Int) != 0)=false from rfl,cond_false,el3];refine(congrArg (fun o=>Dj o _) (fG hN hn)).trans rfl
 have tim: ∀ t,t∈Qr-> ∀ r,Wq N (Aju t::r)=some (t,0,r):=fun t ht r=>by unfold Wq Aju;rw[Ac1,Dn];dsimp only[Ea];rw[show((0:Int) != 0)=false from rfl,cond_false,(Qq hN ht).dec];rfl
 have e5: ∀ r,RI N (Ea 48 (XA C)::r)=some (C.nb,C.nf,0,r):=fun r=>by unfold RI;have hv2:QG (XA C)=([Aju C.nb,Aju C.nf],0):=(GL (Aai (Qq hN h.nb) (d:=0) (by decide)) (Aai (Qq hN h.nf) (by decide))).list;rw[bG hN (c:=XA C) (by omega) hv2,GI];dsimp only;rw[show((0:Int) != 0)=false from rfl,cond_false];refine(congrArg (fun o=>Dj o _) (tim _ h.nb _)).trans ?_;rw[Dn];dsimp only;rw[show((0:Int) != 0)=false from rfl,cond_false,tim _ h.nf,Dn];dsimp only;rw[show((0:Int) != 0)=false from rfl,cond_false,N7];rfl
 have e6: ∀ r,lH N (Ea 48 (Zi C.kh C.ki C.kr)::r)=some ((C.kh,C.ki,C.kr),0,r):=fun r=>by unfold lH;rw[Qx 48 _ r (k:=48) rfl,Dn];dsimp only;rw[show((0:Int) != 0)=false from rfl,cond_false,el3];refine(congrArg (fun o=>Dj o _) (Am3 hN K)).trans rfl
 unfold Q3 JQ;try simp only[clR]
 rw[h1,Dn];dsimp only;rw[show((0:Int) != 0)=false from rfl,cond_false,GI];dsimp only;rw[show((0:Int) != 0)=false from rfl,cond_false,e1,Dn];dsimp only;rw[show((0:Int) != 0)=false from rfl,cond_false,e2,Dn];dsimp only;rw[show((0:Int) != 0)=false from rfl,cond_false,e3,Dn];dsimp only;rw[show((0:Int) != 0)=false from rfl,cond_false,e4 h.is,Dn];dsimp only;rw[show((0:Int) != 0)=false from rfl,cond_false,e5,Dn];dsimp only;rw[show((0:Int) != 0)=false from rfl,cond_false,e4 h.su,Dn];dsimp only;rw[show((0:Int) != 0)=false from rfl,cond_false,e6,Dn];dsimp only;rw[show((0:Int) != 0)=false from rfl,cond_false,show PR N=some none0 from rfl,Dn,tN,Dn];cases hb:(exI C.x).isEmpty with
 | true =>have hi:=AaP hN h.x;rw[List.isEmpty_iff.1 hb]at hi;have hn:Lj N []=some (none0,0):=AfQ hN (Nat.zero_le _) rfl (by obtain⟨M,rfl⟩:=ofM hN;kernel_rfl);rw[hn]at hi;have hi:none0=inK C.x:=(Prod.mk.inj (Option.some.inj hi)).1;unfold Ce.K Ce.c;dsimp only;rw[<- hi,Bool.not_true,cond_false,Ai0];dsimp only;rw[cond_false,N7];rfl
 | false =>have h0:=Ad0 hb;have hd:=Apv (AcZ hN h.x h0) hN;rw[Bool.not_false,cond_true,Ai1 (show((163:Nat):Int)=163 from rfl)];dsimp only;rw[cond_true,el2,hd,Dn];dsimp only;rw[show((0:Int) != 0)=false from rfl,cond_false,AaP hN h.x,Dn];dsimp only;rw[show((0:Int) != 0)=false from rfl,cond_false,N7];rfl
omit h in
theorem sgl {sig:Bs} (hs:sig.length<=600):(PL++Sp.elem 3 (0::sig)).length<=700:=by have h2:=Abs (O9 hN);have h3:=Sp.DF 3 (0::sig);rw[List.length_cons]at h3;rw[List.length_append];omega
end
def sgC (C:Ce) (sig:Bs):Bs:=Ir C++(PL++Sp.elem 3 (0::sig))
def sgB (C:Ce) (sig:Bs):Bs:=Sp.elem 48 (sgC C sig)
section
variable {N:Nat} (hN:1048578<N) {C:Ce} (h:tX C) {sig:Bs} (hs:sig.length<=600)
include hN h
theorem Abw:(Ir C).length<=93005:=by have:=gW hN h;have:=Sp.DF 48 (Y6 C);unfold Ir;omega
include hs
theorem Apj:(sgC C sig).length<=94000:=by have:=Abw hN h;have:=sgl hN hs;unfold sgC;rw[List.length_append];omega
theorem AhU:NV N (Ir C) sig=some (sgB C sig,0):=by
 have hl:=gW hN h;have hL:=Apj hN h hs;have h3:=Sp.DF 3 (0::sig);rw[List.length_cons]at h3;have f3:DD N false 3 [0::sig]=_:=UN N 3 false [0::sig] (by omega) (by omega) hN (by simp) (by rw[EI,List.length_cons];omega);rw[EI]at f3;have f48:Eb N false [Ir C,PL,Sp.elem 3 (0::sig)]=some (sgB C sig,false):=by unfold sgC at hL;rw[uB N false _ (by show 3<N;omega) (by show 3<=_;omega),flat3,Qv (by omega)];rfl
 have e:IM N false (Ir C) sig=some (sgB C sig,false,Ir C,sig):=by unfold IM;rw[(O9 hN).enc,Dn,Ajd N (by omega),Dn];dsimp only;rw[Nu,Dn];dsimp only;rw[f3,Dn];dsimp only;rw[f48,Dn]
 unfold NV Ir;rw[AiS hN (t:=48) (k:=48) (FV (by decide) (by decide) (by omega)) rfl,Dn];dsimp only;rw[show((0:Int) != 0)=false from rfl,cond_false];refine(congrArg (fun o=>Dj o _) e).trans ?_;rw[Dn];rfl
theorem AeA:JI N (sgB C sig)=some (C.K.c (sgB C sig) (Ir C) sig,0):=by
 have hl:=gW hN h;have hL:=Apj hN h hs
 have hp:Par 0 (sgC C sig) [Ea 48 (Y6 C),Ea 48 PM,Ea 3 (0::sig)] :=
  GL (es:=[_]) (GM (FV (by decide) (by decide) (by omega)) (by decide) (AkG hN h).nest) (GL (es:=[_]) (Ae2 (O9 hN) (by decide)) (JF (FV (by decide) (by decide) (by rw[List.length_cons];omega)) (by decide) (by decide)))
 have ho:KF N (sgB C sig) 48=some (.inl (_,0)):=zV hN (t:=48) (by omega) (by omega) (by omega) hp.list;have ht:=Aak hN h (sgB C sig) (Ir C);have hc:=pV hN (An2 hN h) (sgB C sig) (Ir C) sig;have e3: ∀ r,J6 N (Ea 48 PM::r)=some (0,r):=fun r=>by unfold J6;rw[Ac1,Dn];dsimp only;rw[show((0:Int) != 0)=false from rfl,cond_false,(O9 hN).chk];rfl
 have e7: ∀ r,Q4 N (Ea 3 (0::sig)::r)=some (sig,0,r):=fun r=>by unfold Q4;rw[Qx 3 _ r (k:=3) rfl,Dn];dsimp only;rw[show((0:Int) != 0)=false from rfl,cond_false,el2,Aru];rfl
 unfold Ce.c at ht hc ⊢;unfold JI;try simp only[clR]
 rw[ho,GI];dsimp only;rw[show((0:Int) != 0)=false from rfl,cond_false,Qx 48 _ _ (k:=48) rfl,Dn];dsimp only;rw[show((0:Int) != 0)=false from rfl,cond_false,el2,el3];refine(congrArg (fun o=>Dj o _) ht).trans ?_;rw[Dn];dsimp only;rw[show((0:Int) != 0)=false from rfl,cond_false,e3,Dn];dsimp only;rw[show((0:Int) != 0)=false from rfl,cond_false,e7,Dn];dsimp only;rw[show((0:Int) != 0)=false from rfl,cond_false,N7,Dn];dsimp only;rw[if_pos rfl,show((0:Int) != 0)=false from rfl,cond_false];refine(congrArg (fun o=>Dj o _) hc).trans ?_;rw[Dn];rfl
end
end Go.Proofs.YtfgdgdnlglejbaaGreatDoor.Pl
namespace Go.Proofs.YtfgdgdnlglejbaaGreatDoor.Pl
open IntKind (i64)
open Go Vm
theorem Aos {X Y S ρ :Type} {B:X->(X->Option ρ)->(Y->Option ρ)->Option ρ} {kx:Y->Option ρ} (mk:Nat->S->X) (n:Nat) (f:Nat->S->S) (fin:S->Option ρ)
 (h: ∀(i:Nat) (s:S),i<n-> ∀ k,B (mk i s) k kx=k (mk (i+1) (f i s)))
 (hend: ∀(s:S) (k:X->Option ρ),B (mk n s) k kx=fin s) (N:Nat) (s:S) (hN:n<N):Dz B N (mk 0 s) kx=fin ((List.range n).foldl (fun s i=>f i s) s):=by
 have key: ∀ m i s,i+m=n-> ∀ N,m<N->Dz B N (mk i s) kx=fin ((List.range' i m).foldl (fun s i=>f i s) s):=by
  intro m
  induction m with
  | zero =>
   intro i s hi N hN;obtain⟨N,rfl⟩: ∃ K,N=K+1:=⟨N - 1,by omega⟩
   have hi:i=n:=hi;subst hi;rw[Fa,hend];rfl
  | succ m ih =>
   intro i s hi N hN;obtain⟨N,rfl⟩: ∃ K,N=K+1:=⟨N - 1,by omega⟩
   rw[Fa,h i s (by omega),ih (i+1) _ (by omega) N (by omega)];rfl
 rw[List.range_eq_range'];exact key n 0 s (by omega) N hN
theorem Aqg {α :Type} (p: α ->Bool): ∀(l:List α) (b:Bool),l.foldl (fun s x=>s||p x) b=(b||l.any p):=by
 intro l
 induction l with
 | nil=>intro b;simp
 | cons x r ih=>intro b;rw[List.foldl_cons,ih,List.any_cons,Bool.or_assoc]
def Ane (r s:List Att):Bool:=(r.length==s.length)&&r.all (fun a=>s.any fun b=>a.1==b.1&&(a.2.1==b.2.1&&(a.2.2==b.2.2&&true)))
theorem AqO:(Hz.all fun r=>Ane r (oU r)&&decide (r.length<=2))=true:=by kernel_rfl
section
variable {N:Nat} (hN:1048578<N)
include hN
theorem Aj5 (n m:List (List Att)) (hl:m.length=n.length) (hn:n.length<=1048576) (h: ∀ i,i<n.length->Ane (n.getD i []) (m.getD i [])=true/\(n.getD i []).length<=1048576):F7 N n m=some true:=by
 unfold F7;try simp only[clR]
 rw[TL (by rw[hl]),cond_false];refine GY (fun i=>((i:Int),n,m)) n.length (some true) ?_ ?_ N (by omega)
 ·intro i hi k;obtain⟨h1,h2⟩:=h i hi;unfold Ane at h1;rw[Bool.and_eq_true,beq_iff_eq,List.all_eq_true]at h1;obtain⟨h3,h4⟩:=h1;have him:i<m.length:=by omega
  dsimp only[U3];simp (disch:=first | assumption | omega) only[DT,TL (show(((n.getD i []).length:Nat):Int)=(((m.getD i []).length:Nat):Int) by rw[h3])];refine GY (fun j=>((j:Int),n,m)) (n.getD i []).length (k (((i+1:Nat):Int),n,m)) ?_ ?_ N (by omega)
  ·intro j hj k2;have ha:=h4 _ (getD_mem ([],0,[]) hj);simp (disch:=first | assumption | omega) only[DT];generalize (n.getD i []).getD j ([],0,[])=a at *
   refine(Aos (S:=Bool) (fun q b=>(b,(q:Int),n,m,a.1,a.2.1,a.2.2)) (m.getD i []).length (fun q b=>b||(a.1==((m.getD i []).getD q ([],0,[])).1&&(a.2.1==((m.getD i []).getD q ([],0,[])).2.1&&(a.2.2==((m.getD i []).getD q ([],0,[])).2.2&&true)))) (fun b=>bif !b then some false else k2 (((j+1:Nat):Int),n,m)) ?_ ?_ N false (by omega)).trans ?_
   ·intro q b hq k3;simp (disch:=first | assumption | omega) only[DT];rfl
   ·intro b k3;simp (disch:=first | assumption | omega) only[DT];rfl
   ·rw[Aqg,Bool.false_or];obtain⟨b,hb,hb2⟩:=List.any_eq_true.1 ha;obtain⟨q,hq,rfl⟩:=List.mem_iff_getElem.1 hb;rw[List.any_eq_true.2 ⟨q,List.mem_range.2 hq,by rw[getD_lt (m.getD i []) q _ hq];exact hb2⟩];rfl
  ·intro k2;simp (disch:=first | assumption | omega) only[DT];rfl
 ·intro k;simp (disch:=first | assumption | omega) only[DT]
theorem XV {n:List (List Att)} (hn:okN n):F7 N n (nmC n)=some true:=by
 have h3:=hn.1;refine Aj5 hN n (nmC n) (List.length_map _) (by omega) fun i hi=> ?_;have hm:(nmC n).getD i []=oU (n.getD i []):=by unfold nmC;rw[getD_lt _ _ _ (by rw[List.length_map];exact hi),List.getElem_map,getD_lt n i [] hi]
 have:=List.all_eq_true.1 AqO _ (hn.2 _ (getD_mem [] hi));rw[Bool.and_eq_true,decide_eq_true_eq]at this;rw[hm];exact⟨this.1,by omega⟩
theorem Va {l:List Gn} (hl:l.length<=1048576) (h: ∀ g∈l,okN g.2.2):Fb N l (l.map gnK)=some true:=by
 have hL:(l.map gnK).length=l.length:=List.length_map _;unfold Fb;try simp only[clR]
 rw[TL (by rw[hL]),cond_false];refine GY (fun i=>(i:Int)) l.length (some true) ?_ ?_ N (by omega)
 ·intro i hi k;have hn:=h _ (getD_mem (0,[],[]) hi);have h1:=XV hN hn;have hm:(l.map gnK).getD i (0,[],[])=gnK (l.getD i (0,[],[])):=by rw[getD_lt _ _ _ (by rw[List.length_map];exact hi),List.getElem_map,getD_lt l i (0,[],[]) hi]
  have him:i<(l.map gnK).length:=by omega
  generalize l.map gnK=m at *
  simp (disch:=first | assumption | omega) only[DT,hm];generalize l.getD i (0,[],[])=g at *
  unfold gnK;simp only[h1,beq_self_eq_true,bne_self_eq_false,Option.isSome_some,Option.getD_some,Bool.true_or,Bool.or_true,Gh,Bool.not_true,Bool.not_false,cond_false,cond_true,Bool.or_false];rfl
 ·intro k;simp (disch:=first | assumption | omega) only[DT]
omit hN in
theorem Ala:okN []:=⟨Nat.zero_le _,fun r hr=>by cases hr⟩
theorem gJ {l:List Gn} (hl:l.length<=1048576) (h: ∀ g∈l,okG g):Fb N l (l.map gnK)=some true:=Va hN hl fun g hg=>by
 rcases h g hg with h1 | ⟨n,hn,e⟩
 ·have:=List.all_eq_true.1 (show Aet.all (fun g=>g.2.2.isEmpty)=true by decide) _ h1;rw[List.isEmpty_iff]at this;rw[this];exact Ala
 ·rw[e];exact hn
theorem uA {l:List Pt} (hl:l.length<=1048576) (h: ∀ p∈l,okP p):GZ N l (l.map ptK)=some true:=by
 have hL:(l.map ptK).length=l.length:=List.length_map _;unfold GZ;try simp only[clR]
 rw[TL (by rw[hL]),cond_false];refine GY (fun i=>(i:Int)) l.length (some true) ?_ ?_ N (by omega)
 ·intro i hi k;have hp:=h _ (getD_mem ([],0,false,[]) hi);have hm:(l.map ptK).getD i ([],0,false,[])=ptK (l.getD i ([],0,false,[])):=by rw[getD_lt _ _ _ (by rw[List.length_map];exact hi),List.getElem_map,getD_lt l i ([],0,false,[]) hi]
  have him:i<(l.map ptK).length:=by omega
  generalize l.map ptK=m at *
  have h1:Fb N (l.getD i ([],0,false,[])).1 ((l.getD i ([],0,false,[])).1.map gnK)=some true:=by obtain⟨g,hg,e⟩:=hp.nm;rw[e];exact gJ hN (l:=[g]) (by show 1<=_;omega) fun x hx=>by rw[List.mem_singleton.1 hx];exact hg
  have h2:F7 N (l.getD i ([],0,false,[])).2.2.2 (nmC (l.getD i ([],0,false,[])).2.2.2)=some true:=by
   refine XV hN ?_;rcases hp.is with ⟨_,e⟩ | ⟨_,e,_⟩
   ·rw[e];exact⟨Nat.zero_le _,fun r hr=>by cases hr⟩
   ·exact e
  simp (disch:=first | assumption | omega) only[DT,hm];generalize l.getD i ([],0,false,[])=p at *
  unfold ptK;simp only[h1,h2,Dn,beq_self_eq_true,bne_self_eq_false,Option.isSome_some,Option.getD_some,Bool.true_or,Bool.or_true,Gh,Bool.not_true,Bool.not_false,cond_false,cond_true,Bool.or_false,Yx];rfl
 ·intro k;simp (disch:=first | assumption | omega) only[DT]
end
end Go.Proofs.YtfgdgdnlglejbaaGreatDoor.Pl
namespace Go.Proofs.YtfgdgdnlglejbaaGreatDoor.Pl
open IntKind (i64)
open Go Vm
theorem AuP {c:Crt} (h:AsY c): ∃ C:Ce,tX C/\c=C.c c.1 c.2.1 c.2.2.2.2.2.2.2.2.2.2.2.2.2.2.2.2.2.2.2.2.2.2.2.2.2.2.2.2.2:=by obtain⟨c0,c1,se,is,su,nb,nf,kh,ki,kr,hb,ca,pl,us,pu,po,ma,re,im,ia,na,hc,pe,ex,sk,ak,pt,fr,un,sg⟩:=c;exact⟨⟨se,is,su,nb,nf,kh,ki,kr,hb,ca,pl,us,pu,po,ma,re,im,ia,na,hc,pe,ex,sk,ak,pt,fr,un⟩,h,rfl⟩
section
variable {N:Nat} (hN:1048578<N)
include hN
theorem Y2 {l:List Bs} (hl:l.length<=1048576):Hr N l l=some true:=by
 unfold Hr;try simp only[clR]
 rw[TL rfl,cond_false];refine GY (fun i=>(i:Int)) l.length (some true) ?_ ?_ N (by omega)
 ·intro i hi k;simp (disch:=first | assumption | omega) only[DT,ES,beq_self_eq_true]
 ·intro k;simp (disch:=first | assumption | omega) only[DT]
theorem Aa2 {l:List (Bs×Bs)} (hl:l.length<=1048576):JY N l l=some true:=by
 unfold JY;try simp only[clR]
 rw[TL rfl,cond_false];refine GY (fun i=>(i:Int)) l.length (some true) ?_ ?_ N (by omega)
 ·intro i hi k;simp (disch:=first | assumption | omega) only[DT,ES,beq_self_eq_true]
 ·intro k;simp (disch:=first | assumption | omega) only[DT]
theorem qV {l:List Ex} (hl:l.length<=1048576):Jg N l l=some true:=by
 unfold Jg;try simp only[clR]
 rw[TL rfl,cond_false];refine GY (fun i=>(i:Int)) l.length (some true) ?_ ?_ N (by omega)
 ·intro i hi k;simp (disch:=first | assumption | omega) only[DT,ES,beq_self_eq_true]
 ·intro k;simp (disch:=first | assumption | omega) only[DT]
omit hN in
theorem AoP {g:Gn} (h:okB g):okN g.2.2:=by
 rcases h with h1 | ⟨n,hn,e⟩
 ·have:=List.all_eq_true.1 (show Ac9.all (fun g=>g.2.2.isEmpty)=true by decide) _ h1;rw[List.isEmpty_iff]at this;rw[this];exact Ala
 ·rw[e];exact hn
theorem Alq {x:Info} (h:OkI x):NS N x (inK x)=some true:=by
 have hun:=zD h.un;obtain⟨hb,ca,pl,us,pu,po,ma,re,im,ia,na,hc,pe,ex,sk,ak,pt,fr,un⟩:=x;dsimp only at hun;have s1:=Y2 hN (l:=pu) (by have:=h.pu.len;dsimp only at this;omega);have s2:=Y2 hN (l:=po) (by have:=h.po.len;dsimp only at this;omega);have s3:=Aa2 hN (l:=ma) (by have:=h.ma.len;dsimp only at this;omega);have s4:=gJ hN (l:=na) (by have:=h.na.1;dsimp only at this;omega) h.na.2
 have s5:JX N (pe,ex) (pe.map gnK,ex.map gnK)=some true:=by
  have hs:pe.length<=3/\ex.length<=3/\(∀ g∈pe,okB g)/\ ∀ g∈ex,okB g:=by
   rcases h.con with ⟨_,h1,h2⟩ | ⟨_,h1⟩
   ·dsimp only at h1 h2;rw[h1,h2];exact⟨Nat.zero_le _,Nat.zero_le _,fun g hg=>(by cases hg),fun g hg=>(by cases hg)⟩
   ·exact⟨h1.l0,h1.l1,h1.a0,h1.a1⟩
  have a1:=Va hN (l:=pe) (by omega) fun g hg=>AoP (hs.2.2.1 g hg);have a2:=Va hN (l:=ex) (by omega) fun g hg=>AoP (hs.2.2.2 g hg);unfold JX;try simp -zeta only[Ap]
  simp only[a1,a2,Dn,Bool.true_or,Gh,Option.isSome_some,Option.getD_some,cond_true]
 have s6: ∀ l,(l=[]\/Qi l)->GZ N l (l.map ptK)=some true:=by
  rintro l (rfl | h1)
  ·exact uA hN (l:=[]) (Nat.zero_le _) fun p hp=>by cases hp
  ·exact uA hN (by have:=h1.len;omega) h1.all
 have s7:=s6 pt h.pt;have s8:=s6 fr h.fr;have s9:=qV hN (l:=un) (by omega);unfold NS inK;try simp -zeta only[Ap]
 simp only[Dt,beq_self_eq_true,cond_true,Gh,Bool.true_or,Option.isSome_some,Option.getD_some,s1,s2,s3,s4,s5,s7,s8,s9]
theorem AhF {C:Ce} (h:tX C) (raw tbs sig raw' tbs' sig':Bs):G5 N (C.c raw tbs sig) (C.K.c raw' tbs' sig')=some true:=by
 have h1:=XV hN h.is;have h2:=XV hN h.su;have h3:=Alq hN h.x;unfold Ce.K;obtain⟨se,is,su,nb,nf,kh,ki,kr,hb,ca,pl,us,pu,po,ma,re,im,ia,na,hc,pe,ex,sk,ak,pt,fr,un⟩:=C;dsimp only at h1 h2 h3 ⊢;unfold inK at h3 ⊢;unfold G5;try simp -zeta only[Ap]
 simp only[Dt,beq_self_eq_true,cond_true,Gh,Bool.true_or,Bool.and_true,Option.isSome_some,Option.getD_some,h1,h2,h3]
end
end Go.Proofs.YtfgdgdnlglejbaaGreatDoor.Pl
namespace Go.Proofs.YtfgdgdnlglejbaaGreatDoor.Pl
open IntKind (i64)
open Go Vm
abbrev CrT:Type:=Bs×Bs×Int×List RnT×List RnT×Int×Int×Int×Bs×Bs×Bool×Bool×Int×Int×List Bs×List Bs×List (Bs×Bs)×Int×Int×Int×List GnT×Bool×List GnT×List GnT×Bs×Bs×List PtT×List PtT×List (Bs×Bool×Bs)×Bs
def N0:Nat:=2097152
theorem AhR:Big N0:=⟨by decide,by decide⟩
def crR:CrT×List Int×Int:=(Ld N0 ([],0)).getD default
def crA:CrT:=crR.1
theorem ArX:Ld N0 ([],0)=some (crA,crR.2):=by kernel_rfl
def ZG:Bs:=((J5 N0 crA).getD default).1
theorem AsM:J5 N0 crA=some (ZG,0):=by kernel_rfl
theorem Ara:(decide (ZG.length<=1000))=true:=by kernel_rfl
def sgF (f:Nat->UInt8):Bs:=(List.range 564).map f
def outA (f:Nat->UInt8):Bs:=((NV N0 ZG (sgF f)).getD default).1
theorem AsA (f:Nat->UInt8):NV N0 ZG (sgF f)=some (outA f,0):=by kernel_rfl
def AeR (f:Nat->UInt8):CrT:=((JI N0 (outA f)).getD default).1
theorem ArZ (f:Nat->UInt8):JI N0 (outA f)=some (AeR f,0):=by kernel_rfl
theorem ApT (f:Nat->UInt8):(AeR f).1=outA f:=by kernel_rfl
theorem ApV (f:Nat->UInt8):(AeR f).2.1=ZG:=by kernel_rfl
theorem ApU (f:Nat->UInt8):(AeR f).2.2.2.2.2.2.2.2.2.2.2.2.2.2.2.2.2.2.2.2.2.2.2.2.2.2.2.2.2=sgF f:=by kernel_rfl
theorem zero_eq:J5 N0 (([]:Bs),([]:Bs),0,([]:List RnT),([]:List RnT),0,0,0,([]:Bs),([]:Bs),false,false,0,0,([]:List Bs),([]:List Bs),([]:List (Bs×Bs)),0,0,0,([]:List GnT),false,([]:List GnT),([]:List GnT),([]:Bs),([]:Bs),([]:List PtT),([]:List PtT),([]:List (Bs×Bool×Bs)),([]:Bs))=some ([],21):=by kernel_rfl
def sd1:Bs:=(Jk N0 1).getD []
theorem Au0:Jk N0 1=some sd1:=by kernel_rfl
theorem kS:sd1.length=32:=by kernel_rfl
theorem Au1 {l:Bs} (h:l.length=564):sgF (fun i=>l.getD i 0)=l:=by
 unfold sgF;rw[<- h];apply List.ext_getElem
 ·simp
 ·intro i h1 h2;simp [List.getD_eq_getElem?_getD,h2]
theorem AqS {N:Nat} (h:Big N) {sd:Bs} (hs:sd.length=32) (m:Bs):(UE N sd m).length=564:=by unfold UE;rw[List.length_append,SL h (id_eq h hs).2 hs 0 (AbF N sd m)];rfl
def fA:Nat->UInt8:=fun i=>(UE N0 sd1 ZG).getD i 0
theorem Ar2:sgF fA=UE N0 sd1 ZG:=Au1 (AqS AhR kS ZG)
theorem Alf:ZG.length+64<N0:=by have:=of_decide_eq_true Ara;show _<2097152;omega
attribute [irreducible] N0 crA crR ZG outA AeR sd1
theorem Apz:KU N0 crA (Ajm N0 sd1)=some (outA fA,0,Ajn N0 sd1):=by
 have e1:=Ap1 AhR kS Alf;have e2:=AsA fA;rw[Ar2]at e2;unfold KU;try simp -zeta only[Ap]
 rw[AsM,Dn];dsimp only;rw[show((0:Int) != 0)=false from rfl,cond_false];have e1':Gu N0 (sd1,0,0,[pR N0 sd1]) ZG=_:=e1;dsimp only[Ajm,List.headD_cons];rw[e1',Dn];dsimp only;rw[show((0:Int) != 0)=false from rfl,cond_false,e2,Dn];rfl
theorem An6:JJ N0 (AeR fA) (yF N0 sd1)=some 0:=by
 unfold JJ;try simp -zeta only[Ap]
 rw[ApV,ApU,Ar2,Alp AhR kS Alf];rfl
theorem AnC {N:Nat} {sd out:Bs} {t0 t1:TrT} {c dec:CrT} {d:List Int×Int} {k:Int×Bs×Bs} (h1:Jk N 1=some sd) (h2:KZ N sd 0=some (.inl ((sd,0,0,[t0]),0))) (h3:Ld N ([],0)=some (c,d))
 (h4:KU N c (sd,0,0,[t0])=some (out,0,(sd,0,1,[t1])))
 (h5:JI N out=some (dec,0)) (h6:J5 N (([]:Bs),([]:Bs),0,([]:List RnT),([]:List RnT),0,0,0,([]:Bs),([]:Bs),false,false,0,0,([]:List Bs),([]:List Bs),([]:List (Bs×Bs)),0,0,0,([]:List GnT),false,([]:List GnT),([]:List GnT),([]:Bs),([]:Bs),([]:List PtT),([]:List PtT),([]:List (Bs×Bool×Bs)),([]:Bs))=some ([],21)) (h7:dec.1=out) (h8:Gj N (sd,0,1,[t1])=some (k,(sd,0,1,[t1]))) (h9:JJ N dec k=some 0):JK N=some true:=by
 unfold JK;try simp -zeta only[Ap]
 rw[h1,Dn,h2,GI];dsimp only;simp (decide:=true) only[cond_true,cond_false,Gh,Bool.not_true,Bool.not_false,Bool.or_true,Bool.true_or,bne_self_eq_false];rw[show V5 N []=some ([],0)from rfl,Dn,h3,Dn];dsimp only[List.headD_cons];rw[h4,Dn];dsimp only;rw[h5,Dn,h6,Dn];dsimp only[List.headD_cons];rw[h7];simp (decide:=true) only[cond_true,cond_false,Gh,Yx,beq_self_eq_true];rw[h8,Dn];dsimp only;rw[h9,Dn];rfl
theorem ApB:JK N0=some true:=AnC Au0 (Atc AhR kS) ArX Apz (ArZ fA) zero_eq (ApT fA) (ArJ AhR kS) An6
theorem AtL {N:Nat} (hN:1048578<N) {C:Ce} (h:tX C) {sd:Bs} (hb:Big N) (hsd:sd.length=32) (raw tbs sig:Bs) :
 KU N (C.c raw tbs sig) (sg0 N sd)=some (sgB C (si1 N sd (Ir C)),0,sg1 N sd):=by
 have hB:=Abw hN h;have hT:=AaB hN h raw tbs sig;have hS:=An3 hb hsd (m:=Ir C) (by omega);have hW:=AhU hN h (sig:=si1 N sd (Ir C)) (by rw[AfI hb hsd];omega);unfold KU;try simp -zeta only[Ap]
 rw[hT,Dn];dsimp only;rw[show((0:Int) != 0)=false from rfl,cond_false];refine(congrArg (Dj · _) (show Gu N _ (Ir C)=_ from hS)).trans ?_;rw[Dn];dsimp only;rw[show((0:Int) != 0)=false from rfl,cond_false,hW,Dn];rfl
theorem Al2 {N:Nat} {k:Int} {L:List Int} {X Y:Crt} {d dd:List Int×Int} {sd out:Bs} {t0 t1:TrT} {key:Int×Bs×Bs}
 (h0:V5 N L=some d) (h1:Ld N d=some (X,dd)) (h2:Jk N (i64.wrap k)=some sd) (h3:KZ N sd 1=some (.inl ((sd,1,0,[t0]),0)))
 (h4:KU N X (sd,1,0,[t0])=some (out,0,(sd,1,1,[t1]))) (h5:JI N out=some (Y,0)) (h5':J5 N Y=some (Y.2.1,0)) (h6:G5 N X Y=some true) (h7:Y.1=out)
 (h8:Gj N (sd,1,1,[t1])=some (key,(sd,1,1,[t1]))) (h9:JJ N Y key=some 0) (haw:JK N=some true):JB N k L=some true:=by
 unfold JB;try simp -zeta only[Ap]
 rw[h0,Dn,h1,Dn,h2,Dn,h3,GI];dsimp only[List.headD_cons];simp (decide:=true) only[cond_true,cond_false,Gh,Bool.not_true,Bool.not_false,Bool.or_true,Bool.true_or,bne_self_eq_false];rw[h4,Dn];dsimp only[List.headD_cons];rw[h5,Dn];dsimp only;rw[h5',Dn];dsimp only;rw[haw,h6,h7];simp only[Option.getD_some,Option.isSome_some,beq_self_eq_true,cond_true,Dn,Yx,Gh,Bool.true_or,Bool.or_true,Bool.not_true,Bool.or_false];rw[h8,Dn];dsimp only;rw[h9,Dn];rfl
theorem AnD {N:Nat} (hN:1048700<N) (hb:Big N) (haw:JK N=some true) (k:Int) (L:List Int) (hL:L.length<=9223372036854775807):JB N k L=some true:=by
 obtain⟨⟨X,d⟩,e1,hX,_⟩:=AnO N hN hL (d:=(L,0)) ⟨0,rfl,Nat.zero_le _⟩;obtain⟨C,h,hC⟩:=AuP hX;dsimp only at hC;generalize X.1=r0 at hC;generalize X.2.1=r1 at hC;generalize X.2.2.2.2.2.2.2.2.2.2.2.2.2.2.2.2.2.2.2.2.2.2.2.2.2.2.2.2.2=r2 at hC;subst hC;have hM:1048578<N:=by omega
 obtain⟨sd,e2,hsd⟩: ∃ s,Jk N (i64.wrap k)=some s/\s.length=32:=by have:=Ajk (N - 300) (i64.wrap k);rwa [show N - 300+300=N by omega]at this
 have hs:(si1 N sd (Ir C)).length<=600:=by rw[AfI hb hsd];decide
 have hB:=Abw hM h;have e3:=ArI hb hsd;have e4:=AtL hM h hb hsd r0 r1 r2;have e5:=AeA hM h hs;have e5':=AaB hM (An2 hM h) (sgB C (si1 N sd (Ir C))) (Ir C) (si1 N sd (Ir C));rw[Ats hM h]at e5';have e6:=Ap0 hb hsd
 have e7:JJ N (C.K.c (sgB C (si1 N sd (Ir C))) (Ir C) (si1 N sd (Ir C))) (pb1 N sd)=some 0:=by
  unfold JJ Ce.c;try simp -zeta only[Ap]
  try dsimp only
  rw[Aj4 hb hsd (by omega)];rfl
 have e8:=AhF hM h r0 r1 r2 (sgB C (si1 N sd (Ir C))) (Ir C) (si1 N sd (Ir C));exact Al2 (d:=(L,0)) rfl e1 e2 e3 e4 e5 e5' e8 rfl e6 e7 haw
theorem Al3 (k:Int) (L:List Int) (hL:L.length<=9223372036854775807):JB 2097152 k L=some true:=by have h:=ApB;unfold N0 at h;exact AnD (by decide) ⟨by decide,by decide⟩ h k L hL
end Go.Proofs.YtfgdgdnlglejbaaGreatDoor.Pl
namespace Go.Proofs.YtfgdgdnlglejbaaGreatDoor.Vm
open Go.ChangeShapes Go.WideShapes
def nobody:Own:=fun _ _=>none
def Aq5:A->Prop
 | .int k n=>k.min<=n/\n<=k.max
 | .str s=>s.length<=9223372036854775807
 | _=>True
def okN:Nat->A->Prop
 | 0,_=>False
 | n+1,.sl l=>l.xs.length<=9223372036854775807/\ ∀ c∈l.es,∀ a∈c,okN n a
 | _+1,a=>Aq5 a
structure Opened (n:Nat) (w:World) (ks:List CK) (cs:List Value) (aa:List A):Prop where
 lc:cs.length=ks.length
 la:aa.length=ks.length
 rel: ∀ j,j<ks.length->D6 nobody w (cs.getD j undef) (aa.getD j .undef)
 made:((tyl ks).mk aa).1=true
 ok: ∀ a∈aa,okN n a
theorem Aud: ∀(n:Nat) (a:A),okN n a->okN (n+1) a:=by
 intro n
 induction n with
 | zero=>intro a h;exact h.elim
 | succ n ih =>intro a h;cases a<;>first | exact h | exact⟨h.1,fun c hc z hz=>ih z (h.2 c hc z hz)⟩
theorem Opened.up {n:Nat} {w:World} {ks:List CK} {cs:List Value} {aa:List A} (h:Opened n w ks cs aa):Opened (n+1) w ks cs aa:=⟨h.lc,h.la,h.rel,h.made,fun a ha=>Aud n a (h.ok a ha)⟩
theorem AoF: ∀(a:List CK) {b:List CK} {x y:List A},((tyl a).mk x).1=true->((tyl b).mk y).1=true->((tyl (a++b)).mk (x++y)).1=true:=by
 intro a
 induction a with
 | nil =>
  intro b x y hx hy;cases x with
  | nil=>exact hy
  | cons _ _=>cases hx
 | cons k a ih =>
  intro b x y hx hy;cases k with
  | bool =>
   cases x with
   | nil=>cases hx
   | cons c x=>cases c<;>first | exact ih (x:=x) hx hy | cases hx
  | int k =>
   cases x with
   | nil=>cases hx
   | cons c x =>
    cases c<;>first
     | (simp only[tyl,Ty.mk,Bool.and_eq_true]at hx
        simp only[List.cons_append,tyl,Ty.mk,Bool.and_eq_true];exact⟨hx.1,ih hx.2 hy⟩)
     | cases hx
  | str =>
   cases x with
   | nil=>cases hx
   | cons c x=>cases c<;>first | exact ih (x:=x) hx hy | cases hx
  | sl e t =>
   cases x with
   | nil=>cases hx
   | cons c x =>
    cases c with
    | sl l =>
     simp only[tyl,Ty.mk]at hx;simp only[List.cons_append,tyl,Ty.mk];cases hc:l.cast t with
     | none=>rw[hc]at hx;cases hx
     | some xs=>rw[hc]at hx;exact ih (x:=x) hx hy
    | _=>cases hx
  | sln e t =>
   cases x with
   | nil=>cases hx
   | cons c x =>
    cases c with
    | sl l =>
     simp only[tyl,Ty.mk]at hx;simp only[List.cons_append,tyl,Ty.mk];cases hc:l.cast t with
     | none=>rw[hc]at hx;cases hx
     | some xs=>rw[hc]at hx;exact ih (x:=x) hx hy
    | _=>cases hx
  | ptr =>
   cases x with
   | nil=>cases hx
   | cons c x=>cases c<;>first | exact ih (x:=x) hx hy | cases hx
  | fn =>
   cases x with
   | nil=>cases hx
   | cons c x=>cases c<;>first | exact ih (x:=x) hx hy | cases hx
  | mp kt vt =>
   cases x with
   | nil=>cases hx
   | cons c x =>
    cases c with
    | ump l =>
     simp only[tyl,Ty.mk]at hx;simp only[List.cons_append,tyl,Ty.mk];cases hc:l.cast kt vt with
     | none=>rw[hc]at hx;cases hx
     | some xs=>rw[hc]at hx;exact ih (x:=x) hx hy
    | _=>cases hx
  | bx t =>
   cases x with
   | nil=>cases hx
   | cons c x =>
    cases c with
    | sl l =>
     simp only[tyl,Ty.mk]at hx;simp only[List.cons_append,tyl,Ty.mk];cases hc:l.cast t with
     | none=>rw[hc]at hx;cases hx
     | some xs=>rw[hc]at hx;exact ih (x:=x) hx hy
    | _=>cases hx
  | oth =>
   cases x with
   | nil=>cases hx
   | cons c x=>cases c<;>first | exact ih (x:=x) hx hy | cases hx
theorem Opened.nil {n:Nat} {w:World}:Opened n w [] [] []:=⟨rfl,rfl,fun j hj=>absurd hj (Nat.not_lt_zero j),rfl,fun a ha=>(by cases ha)⟩
theorem Opened.append {n:Nat} {w:World} {a b:List CK} {x y:List Value} {p q:List A} (h1:Opened n w a x p) (h2:Opened n w b y q):Opened n w (a++b) (x++y) (p++q):=by
 refine⟨by simp [h1.lc,h2.lc],by simp [h1.la,h2.la],fun j hj=> ?_,AoF a h1.made h2.made,fun z hz=> ?_⟩
 ·rw[List.length_append]at hj;by_cases h:j<a.length
  ·have:=h1.rel j h;rw[List.getD_eq_getElem?_getD,List.getElem?_append_left (by rw[h1.lc];exact h),<- List.getD_eq_getElem?_getD,List.getD_eq_getElem?_getD (l:=p++q),List.getElem?_append_left (by rw[h1.la];exact h),<- List.getD_eq_getElem?_getD];exact this
  ·have:=h2.rel (j - a.length) (by omega);rw[List.getD_eq_getElem?_getD,List.getElem?_append_right (by rw[h1.lc];omega),<- List.getD_eq_getElem?_getD,List.getD_eq_getElem?_getD (l:=p++q),List.getElem?_append_right (by rw[h1.la];omega),<- List.getD_eq_getElem?_getD,h1.lc,h1.la];exact this
 ·rcases List.mem_append.1 hz with hz | hz
  ·exact h1.ok z hz
  ·exact h2.ok z hz
theorem Opened.one {n:Nat} {w:World} {k:CK} {v:Value} {a:A} (hr:D6 nobody w v a) (hm:((tyl [k]).mk [a]).1=true) (ho:okN n a):Opened n w [k] [v] [a] :=
 ⟨rfl,rfl,fun j hj=>by
   have:j=0:=by simp at hj;omega
   subst this;exact hr,hm,fun z hz=>by rw[List.mem_singleton.1 hz];exact ho⟩
def VL (P:Program) (n t:Nat):Nat:=match IK P n t with | some cs=>cs.length | none=>0
def AdL (P:Program) (n:Nat):List Field->Nat->Bool
 | [],_=>true
 | f::r,o=>Nat.beq f.offset o&&Nat.beq (P.cellsOf f.type) (VL P n f.type)&&AdL P n r (o+VL P n f.type)
def kH (P:Program):Nat->Nat->Bool
 | 0,_=>false
 | n+1,t=>match P.underlying t with
  | some .bool=>true
  | some (.int _)=>true
  | some .string=>true
  | some (.slice e)=>kH P n e&&Nat.beq (P.cellsOf e) (VL P n e)&&Nat.blt 0 (VL P n e)&&(match IK P n e with | some cs=>cs.all CK.plain | none=>false)
  | some (.struct fs)=>Nat.beq (P.cellsOf t) (VL P (n+1) t)&&AdL P n fs.toList 0&&fs.toList.all (fun f=>kH P n f.type)
  | _=>false
section
variable {H:Type} {enc:TypeId×Value->H} {P:Program} {w:World} {base:Nat} {spare:Nat->Bool} {held:Bool}
theorem uO {a:Addr} {n:Nat} {cs:List Value} (h:w.cells? base a n=some cs):cs.length=n/\ ∀ j,j<n->w.cell? (a.add j)=some (cs.getD j undef):=by
 unfold World.cells? at h;split at h
 ·have key: ∀(l:List Nat) (cs:List Value),l.mapM (fun i=>w.cell? (a.add i))=some cs->cs.length=l.length/\ ∀ j (hj:j<l.length),w.cell? (a.add l[j])=some (cs.getD j undef):=by
   intro l
   induction l with
   | nil=>grind
   | cons i l ih =>
    intro cs h;rw[List.mapM_cons]at h;cases h1:w.cell? (a.add i)with
    | none=>rw[h1]at h;cases h
    | some v =>
     rw[h1]at h;cases h2:l.mapM (fun i=>w.cell? (a.add i))with
     | none=>rw[h2]at h;cases h
     | some r =>
      rw[h2]at h;injection h with h;subst h;obtain⟨k1,k2⟩:=ih r h2;refine⟨by simp [k1],fun j hj=> ?_⟩;cases j with
      | zero=>exact h1
      | succ j=>grind
  all_goals grind
 ·cases h
theorem AqW {l:List Value} {o a b:Nat}:(l.drop o).take (a+b)=(l.drop o).take a++(l.drop (o+a)).take b:=by rw[List.take_add,List.drop_drop]
theorem oZ (e:Nat) (t:Ty) (xs:List t.Val):((tyl [.sl e t]).mk [.sl ⟨t,xs⟩]).1=true:=by simp only[tyl,Ty.mk];rw[Sl.Wn];rfl
theorem Ak4 (hspare: ∀ b,spare b=true): ∀(n:Nat) (t:TypeId) (ks:List CK) (fuel:Nat) (cs:List Value) (x:DataW H×List MemPlace),IK P n t=some ks->kH P n t=true->DataW.trod enc P w base spare held fuel t cs=some x ->
 ∃ aa,Opened n w ks cs aa:=by
 intro n
 induction n with
 | zero=>intro t ks fuel cs x h;cases h
 | succ n ih =>
  intro t ks fuel cs x hck hok h;unfold IK at hck;unfold kH at hok;cases hu:P.underlying t with
  | none=>rw[hu]at hck;cases hck
  | some d =>
   rw[hu]at hck hok;cases d with
   | bool =>injection hck with hck;subst hck;obtain⟨b,rfl,_⟩:=DataW.trod_bool hu h;exact⟨[.bool b],Opened.one (.bool b) rfl trivial⟩
   | int k =>
    injection hck with hck;subst hck;obtain⟨v,rfl,_,hw⟩:=DataW.trod_int hu h;have hk:Aq5 (.int k v):=by unfold Lit.wf at hw;rw[Bool.and_eq_true,decide_eq_true_eq,decide_eq_true_eq]at hw;exact hw
    exact⟨[.int k v],Opened.one (.int k v) (by cases k<;>rfl) hk⟩
   | string =>
    injection hck with hck;subst hck;obtain⟨v,rfl,_,hw⟩:=DataW.trod_string hu h
    have hk:Aq5 (.str v.data.toList):=by
     show v.data.toList.length<=_;have e:v.data.toList.length=v.size:=by rw[Array.length_toList];rfl
     have:maxLen=9223372036854775807:=rfl;omega
    exact⟨[.str v.data.toList],Opened.one (.str v) rfl hk⟩
   | slice e =>
    dsimp only at hck hok;simp only[Bool.and_eq_true]at hok;obtain⟨⟨⟨hoe,hce⟩,hc0⟩,hpl⟩:=hok;cases hke:IK P n e with
    | none=>rw[hke]at hpl;cases hpl
    | some ke =>
     rw[hke]at hck hpl;dsimp only at hck hpl;rw[hpl]at hck;injection hck with hck;subst hck;have hlen:P.cellsOf e=ke.length:=by have:=Nat.eq_of_beq_eq_true hce;unfold VL at this;rw[hke]at this;exact this
     rcases DataW.trod_slice hu h with ⟨rfl,_⟩ | ⟨a,len,cap,elems,rest,m,_,rfl,_,hb,hl,hm,hel,hels,hsp,_⟩
     ·exact⟨[.sl ⟨tyl ke,[]⟩],Opened.one (.nil _) (oZ _ _ _) ⟨Nat.zero_le _,fun c hc=>(by cases hc)⟩⟩
     ·by_cases hcap:cap=0
      ·have hlen0:len=0:=by omega
       subst hcap;subst hlen0;exact⟨[.sl ⟨tyl ke,[]⟩],Opened.one (.sl0 a _) (oZ _ _ _) ⟨Nat.zero_le _,fun c hc=>(by cases hc)⟩⟩
      have hk0:0<P.cellsOf e:=by have h2:=Nat.eq_of_beq_eq_true hce;rw[h2];simpa using hc0
      have hread: ∃ u,w.cell? a=some u:=by
       by_cases h0:0<len
       ·have he:=hels 0 h0;rw[List.getElem?_eq_getElem (by omega:0<elems.length),Option.bind_eq_some_iff]at he;obtain⟨q,hq,_⟩:=he;obtain⟨_,k2⟩:=uO hq;have:=k2 0 hk0;rw[Nat.zero_mul]at this;exact⟨_,this⟩
       ·have hz:len=0:=by omega
        obtain⟨hr1,hr2⟩:=hsp (hspare _);have he:=hr2 0 (by omega);rw[List.getElem?_eq_getElem (by omega:0<rest.length),Option.bind_eq_some_iff]at he;obtain⟨q,hq,_⟩:=he;obtain⟨_,k2⟩:=uO hq;have:=k2 0 hk0;rw[hz,Nat.zero_mul]at this;exact⟨_,this⟩
      have hspot:a.spot=none:=by
       obtain⟨u,hu⟩:=hread;unfold World.cell? at hu;split at hu
       ·cases hs:a.spot with
        | none=>rfl
        | some z=>rw[hs]at hu;cases hu
       ·cases hu
      have ha:a=at' a.block a.off:=by obtain⟨b,o,sp⟩:=a;dsimp only at hspot;rw[hspot]
      have each: ∀ i,∃(q:List Value) (aa:List A),i<len->(∀ j,j<ke.length->w.cell? (at' a.block (a.off+(i*ke.length+j)))=some (q.getD j undef))/\Opened n w ke q aa:=by
       intro i;by_cases hi:i<len
       ·have he:=hels i hi;have hei:elems[i]? =some (elems[i]'(by omega)):=List.getElem?_eq_getElem (by omega);rw[hei,Option.bind_eq_some_iff]at he;obtain⟨q,hq,hq2⟩:=he;obtain⟨k1,k2⟩:=uO hq;rw[hlen]at k1 k2;obtain⟨aa,h1⟩:=ih e ke m q _ hke hoe hq2;refine⟨q,aa,fun _=>⟨fun j hj=> ?_,h1⟩⟩;have:=k2 j hj;rw[ha,MK,MK]at this;rw[<- this];congr 2;omega
       ·exact⟨[],[],fun h=>absurd h hi⟩
      obtain⟨q,hq⟩:=Classical.axiomOfChoice each;obtain⟨aa,haa⟩:=Classical.axiomOfChoice hq;let l:Sl:=⟨tyl ke,(List.range len).map fun i=>((tyl ke).mk (aa i)).2⟩
      have hes:l.es=(List.range len).map aa:=by show((List.range len).map fun i=>((tyl ke).mk (aa i)).2).map (tyl ke).cells=_;rw[List.map_map];refine List.map_congr_left fun i hi=> ?_;exact Ty.Ox _ _ (haa i (List.mem_range.1 hi)).2.made
      have hesl:l.es.length=len:=by rw[hes,List.length_map,List.length_range]
      have hsz:l.sz=ke.length:=QR ke;have hget: ∀ i,i<len->l.es.getD i []=aa i:=fun i hi=>by rw[hes,List.getD_eq_getElem?_getD,List.getElem?_map,List.getElem?_range hi];rfl
      have hrel:D6 nobody w (.slice (some a) len cap) (.sl l):=by
       rw[ha,<- hesl];refine D6.sl (fun i j=>(q i).getD j undef) (by rw[hesl];exact hl) (fun i j hi hj=> ?_) (fun i j hi hj=> ?_)
       ·rw[hsz]at hj ⊢;exact⟨rfl,(haa i (by rw[<- hesl];exact hi)).1 j hj⟩
       ·rw[hsz]at hj;have hi':i<len:=by rw[<- hesl];exact hi
        rw[hget i hi'];exact(haa i hi').2.rel j hj
      refine⟨[.sl l],Opened.one hrel (oZ _ _ _) ⟨?_,fun c hc z hz=> ?_⟩⟩
      ·show((List.range len).map _).length<=_;rw[List.length_map,List.length_range];have:maxLen=9223372036854775807:=rfl;omega
      ·rw[hes]at hc;obtain⟨i,hi,rfl⟩:=List.mem_map.1 hc;exact(haa i (List.mem_range.1 hi)).2.ok z hz
   | struct fs =>
    dsimp only at hck hok;simp only[Bool.and_eq_true]at hok;obtain⟨⟨hcl,hoff⟩,hall⟩:=hok;obtain⟨xs,m,_,_,hl,hxl,hxs⟩:=DataW.trod_struct hu h
    have fields: ∀(l:List Field) (o:Nat) (ks:List CK),l.foldr (fun f acc=>match IK P n f.type,acc with | some a,some b=>some (a++b) | _,_=>none) (some [])=some ks->AdL P n l o=true->(∀ f∈l,kH P n f.type=true) ->
     (∀ f∈l,∃ y,DataW.trod enc P w base spare held m f.type ((cs.drop f.offset).take (P.cellsOf f.type))=some y)-> ∃ aa,Opened n w ks ((cs.drop o).take ks.length) aa:=by
     intro l
     induction l with
     | nil =>intro o ks hk _ _ _;injection hk with hk;subst hk;exact⟨[],Opened.nil⟩
     | cons f r ihr =>
      intro o ks hk ho hf hy;rw[List.foldr_cons]at hk;cases ha:IK P n f.type with
      | none=>rw[ha]at hk;cases hk
      | some a =>
       rw[ha]at hk;cases hb:r.foldr (fun f acc=>match IK P n f.type,acc with | some a,some b=>some (a++b) | _,_=>none) (some [])with
       | none=>rw[hb]at hk;cases hk
       | some b =>
        rw[hb]at hk;injection hk with hk;subst hk;have hal:VL P n f.type=a.length:=by unfold VL;rw[ha]
        unfold AdL at ho;simp only[Bool.and_eq_true]at ho;obtain⟨⟨h1,h2⟩,h3⟩:=ho;have h1:=Nat.eq_of_beq_eq_true h1;have h2:=Nat.eq_of_beq_eq_true h2;rw[hal]at h2 h3;obtain⟨y,hy1⟩:=hy f List.mem_cons_self;rw[h1,h2]at hy1;obtain⟨pa,p1⟩:=ih f.type a m _ y ha (hf f List.mem_cons_self) hy1;obtain⟨pb,q1⟩:=ihr (o+a.length) b hb h3 (fun g hg=>hf g (List.mem_cons_of_mem _ hg)) (fun g hg=>hy g (List.mem_cons_of_mem _ hg));refine⟨pa++pb,?_⟩;rw[List.length_append,AqW];exact p1.append q1
    obtain⟨aa,h1⟩:=fields fs.toList 0 ks hck hoff (fun f hf=>List.all_eq_true.1 hall f hf) (fun f hf=>by
     obtain⟨i,hi⟩:=List.getElem?_of_mem hf;have hi':fs[i]? =some f:=by rw[<- Array.getElem?_toList];exact hi
     have:=hxs i f hi';have hlt:i<xs.length:=by rw[hxl];exact(Array.getElem?_eq_some_iff.1 hi').1
     rw[List.getElem?_eq_getElem hlt]at this;exact⟨_,this⟩)
    have hcs:(cs.drop 0).take ks.length=cs:=by
     rw[List.drop_zero];refine List.take_of_length_le ?_;have h3:=Nat.eq_of_beq_eq_true hcl;have h4:VL P (n+1) t=ks.length:=by unfold VL IK;rw[hu];dsimp only;rw[hck]
     omega
    rw[hcs]at h1;exact⟨aa,h1.up⟩
   | _=>cases hok
theorem AlG {r:Reach} {b0:Nat} {u:TypeId} {cs:Array Value} (h:Cell.okWide P w r b0 u (.agg cs)):False:=by
 have h':Cell.ok P w r b0 u (.agg cs):=by unfold Cell.okWide at h;all_goals grind
 unfold Cell.ok at h';all_goals grind
def Atl (P:Program) (t:TypeId):Bool:=match P.underlying t with
 | some (.struct _)=>true
 | some (.array _ _)=>true
 | _=>false
theorem open_cell {r:Reach} {b0 n:Nat} {t:TypeId} {v:Value} {d:DataW H} {ps:List MemPlace} {k:CK} (hck:IK P n t=some [k]) (hspare: ∀ b,spare b=true) (hok:kH P n t=true) (ha:Atl P t=false) (hval:Value.okWide P w r b0 t v) (hd:DataW.Trod enc P w base spare held t v d ps) :
 ∃ a,D6 nobody w v a/\((tyl [k]).mk [a]).1=true/\okN n a:=by
 have hc:Cell.okWide P w r b0 t v:=by unfold Value.okWide at hval;all_goals grind[Atl]
 have hcells:v.cells.toList=[v]:=by
  cases v with
  | agg cs=>exact(AlG hc).elim
  | _=>rfl
 obtain⟨fuel,h⟩:=hd;rw[hcells]at h;obtain⟨aa,h1⟩:=Ak4 hspare n t [k] fuel [v] _ hck hok h;obtain⟨a,rfl⟩: ∃ a,aa=[a]:=List.length_eq_one_iff.1 h1.la;exact⟨a,h1.rel 0 (by show 0<1;omega),h1.made,h1.ok a List.mem_cons_self⟩
theorem Opened.ir {n:Nat} {ks:List CK} {cs:Array Value} {aa:List A} (h:Opened n w ks cs.toList aa) (id:Nat):IR nobody w id (.agg cs) (.agg aa):=by
 refine⟨cs,rfl,?_,fun j hj=>D6.ic ?_⟩
 ·rw[<- Array.length_toList,h.lc,h.la]
 ·have:=h.rel j (by rw[<- h.la];exact hj);all_goals simp_all[CK,IR,nobody]
theorem D6.ir {id:Nat} {v:Value} {a:A} (h:D6 nobody w v a):IR nobody w id v a:=by have:=h.ic (id:=id);cases h<;>exact this
end
end Go.Proofs.YtfgdgdnlglejbaaGreatDoor.Vm
namespace Go.Proofs.YtfgdgdnlglejbaaGreatDoor.Vm
open Go Go.Lib
abbrev tabs:List (String×DataW Unit):=[("math/bits.deBruijn32tab",Rows.laid_math_bits_deBruijn32tab),("math/bits.deBruijn64tab",Rows.laid_math_bits_deBruijn64tab),("internal/strconv.uint64pow10",Rows.laid_internal_strconv_uint64pow10),("unicode/utf8.acceptRanges",Rows.laid_unicode_utf8_acceptRanges),("certpath/date.lengths",Rows.laid_certpath_date_lengths),("unicode/utf8.first",Rows.laid_unicode_utf8_first)]
def Av0:DataW Unit->Value
 | .lit (.int k n)=>.int k n
 | _=>undef
def AfG:DataW Unit->List Value
 | .agg l=>l.map Av0
 | _=>[]
def Av3:DataW Unit->List Value
 | .agg l=>l.flatMap AfG
 | _=>[]
noncomputable def laidWorld (os:Os):World :=
 let w0:=World.holding Tryz.prog os ⟨#[],#[],[]⟩
 {w0 with heap:=(((((w0.heap.modify 2 fun
  | .cells _ t frozen=>.cells (AfG Rows.laid_internal_strconv_uint64pow10).toArray t frozen
  | o=>o).modify 3 fun
  | .cells _ t frozen=>.cells (AfG Rows.laid_unicode_utf8_first).toArray t frozen
  | o=>o).modify 4 fun
  | .cells _ t frozen=>.cells (Av3 Rows.laid_unicode_utf8_acceptRanges).toArray t frozen
  | o=>o).modify 5 fun
  | .cells _ t frozen=>.cells (AfG Rows.laid_math_bits_deBruijn32tab).toArray t frozen
  | o=>o).modify 0 fun
  | .cells _ t frozen=>.cells (AfG Rows.laid_certpath_date_lengths).toArray t frozen
  | o=>o).modify 6 fun
  | .cells _ t frozen=>.cells (AfG Rows.laid_math_bits_deBruijn64tab).toArray t frozen
  | o=>o}
theorem laid_met (os:Os) (args:Array Value):laidMet Tryz.prog tabs ((laidWorld os).forCall (fun _ _=>0) ⟨#[],args,[]⟩).memory :=
 laidMet_of_run' 8 (by kernel_rfl) (by kernel_rfl)
set_option maxRecDepth 1000000 in
theorem AhK {W:World} (h:laidMet Tryz.prog tabs W) {nm:String} {D:DataW Unit} (hm:(nm,D)∈tabs) {g tA tE n:Nat} {k:IntKind} {f:Nat->Int} (hg0:Tryz.prog.globalNamed nm=some g) (ht0:(Tryz.prog.globals[g]?).map (·.type)=some tA) (hu:Tryz.prog.underlying tA=some (.array n tE)) (hu2:Tryz.prog.underlying tE=some (.int k)) (hc:Tryz.prog.cellsOf tE=1)
 (hds:D= .agg ((List.range n).map fun j=>.lit (.int k (f j)))) (j:Nat) (hj:j<n):W.cell? ⟨g,j,none⟩=some (.int k (f j)):=by
 obtain⟨g',t,cs,fuel,p,hg,ht,hvar,hd⟩:=laidMet.reads h (n:=nm) (d:=D) hm;obtain rfl:=Option.some.inj (hg0.symm.trans hg);obtain rfl:=Option.some.inj (ht0.symm.trans ht);rw[hds]at hd;obtain⟨fuel',d,q,h1,h2⟩:=array_elem hu hd j hj;rw[List.getElem?_map,List.getElem?_range hj]at h1;have h1:=Option.some.inj h1;subst h1;rw[hc,Nat.mul_one]at h2;obtain⟨m,h3,h4,_⟩:=DataW.trod_int hu2 h2;have hn:f j=m:=by have:=congrArg Prod.fst h4;injection this with this;injection this with _ this
 rw[World.var?_cell hg hvar j]
 have h5:(cs.toList.drop j)[0]? =some (.int k m):=by
  have:((cs.toList.drop j).take 1)[0]? =some (.int k m):=by rw[h3];rfl
  rwa [List.getElem?_take_of_lt (by omega)]at this
 rw[List.getElem?_drop,Nat.add_zero,Array.getElem?_toList]at h5;rw[h5,hn]
set_option maxRecDepth 1000000 in
theorem AqA {W:World} (h:laidMet Tryz.prog tabs W) (j:Nat) (hj:j<20):W.cell? ⟨2,j,none⟩=some (.int .u64 ((10 ^ j:Nat):Int)):=by
 have hds:(Rows.laid_internal_strconv_uint64pow10:DataW Unit)= .agg ((List.range 20).map fun j=>.lit (.int .u64 ((10 ^ j:Nat):Int))):=by kernel_rfl
 have hm:(("internal/strconv.uint64pow10",Rows.laid_internal_strconv_uint64pow10):String×DataW Unit)∈tabs:=List.mem_cons_of_mem _ (List.mem_cons_of_mem _ List.mem_cons_self);generalize (Rows.laid_internal_strconv_uint64pow10:DataW Unit)=D at hds hm;exact AhK h (nm:= "internal/strconv.uint64pow10") (D:=D) hm (g:=2) (tA:=413) (tE:=270) (n:=20) (k:=.u64) (f:=fun j=>((10 ^ j:Nat):Int)) (by kernel_rfl) (by kernel_rfl) (by kernel_rfl) (by kernel_rfl) (by kernel_rfl) hds j hj
set_option maxRecDepth 1000000 in
theorem Aqs {W:World} (h:laidMet Tryz.prog tabs W) (j:Nat) (hj:j<12):W.cell? ⟨0,j,none⟩=some (.int .i64 (([31,28,31,30,31,30,31,31,30,31,30,31]:List Int).getD j 0)) :=
 AhK h (nm:= "certpath/date.lengths") (D:=Rows.laid_certpath_date_lengths) (List.mem_cons_of_mem _ (List.mem_cons_of_mem _ (List.mem_cons_of_mem _ (List.mem_cons_of_mem _ List.mem_cons_self)))) (g:=0) (tA:=320) (tE:=3) (n:=12) (k:=.i64) (f:=fun j=>([31,28,31,30,31,30,31,31,30,31,30,31]:List Int).getD j 0) (by kernel_rfl) (by kernel_rfl) (by kernel_rfl) (by kernel_rfl) (by kernel_rfl) (by kernel_rfl) j hj
theorem inv_of {W:World} (hs:W.ShapedOpen Tryz.prog) (hl:laidMet Tryz.prog tabs W):Inv nobody W:=by
 refine⟨fun g j p h=> ?_,fun g n h=> ?_⟩
 ·unfold X7 at h;split at h
  ·injection h with h;subst h;obtain⟨m,hm⟩:=cell_of_shapedOpen_int (P:=Tryz.prog) (g:=1) (t:=3) (zero:= #[.int .i64 0]) (k:=.i64) hs (of_decide_eq_true (by kernel_rfl)) (by kernel_rfl) rfl (by kernel_rfl) (by kernel_rfl) (by kernel_rfl);exact⟨rfl,_,hm,m,rfl⟩
  ·split at h
   ·rename_i hj;injection h with h;subst h;exact⟨rfl,_,AqA hl _ hj,rfl⟩
   ·cases h
  ·unfold yX at h;split at h
   ·have h:(if j<12 then some (fun v=>v=Value.int .i64 (([31,28,31,30,31,30,31,31,30,31,30,31]:List Int).getD j 0))else none)=some p:=h;split at h
    ·rename_i hj;injection h with h;subst h;exact⟨rfl,_,Aqs hl _ hj,rfl⟩
    ·cases h
   ·cases h
 ·unfold AqY at h;split at h
  ·injection h with h;subst h;obtain⟨cs,h1,h2,_⟩:=hs.1 2 (Array.replicate 20 (.int .u64 0)) 413 (of_decide_eq_true (by kernel_rfl)) (by kernel_rfl);exact⟨cs,_,_,h1,h2⟩
  ·cases h
section
variable {H:Type} {enc:TypeId×Value->H}
theorem Ajh {a:Assume} {C:Checked} {os:Os} {f:FuncId} {fn:Func} {s:ChangeSpec} {conds:List PathCond} {apart fresh handsOn again:Bool} {X:World->Array Value->Prop}
 (hX: ∀(w w':World) (args:Array Value),w.heap=w'.heap->X w args->X w' args)
 (own:ownKnob C.prog.godebug=none) (started:os.Started) (noInit:C.prog.inits.idxOf? f=none) (hfn:C.prog.funcs[f]? =some fn)
 (witness: ∃(w:World) (tape:Tape) (i:Input),w.os=os/\(w.forCall tape i).Shaped C.prog/\i.vars=[]/\Input.okWide C.prog (w.forCall tape i) .any w.heap.size f i /\
   ((s.pre enc C.prog fn conds apart (w.forCall tape i).memory i.args/\X (w.forCall tape i).memory i.args)/\sizedMet enc C.prog fn (OpenSpec.ofChange s) apart (w.forCall tape i).memory i.args)/\a.holds C.prog (lone (Frame.enter C.prog f i.args .normal) [] (w.forCall tape i)))
 (contract: ∀(W:World) (base:Nat) (args:Array Value) (ds gs:List (DataW H)) (before:List MemPlace),
   (∀(j:Nat) t v,fn.params[j]? =some t->args[j]? =some v->Value.okWide C.prog W .any base t v) ->
   DataW.Whole enc C.prog fn.params.toList s.vars apart W args.toList ds gs before->W.ShapedOpen C.prog->X W args ->
   Calls C.prog f args W fun e W'=> ∃ v,e= .returned v/\s.post enc C.prog fn apart fresh handsOn again W args v W') :
 ReturnsInHanded a C os f .any (fun w args=>(s.pre enc C.prog fn conds apart w args/\X w args)/\sizedMet enc C.prog fn (OpenSpec.ofChange s) apart w args) (s.post enc C.prog fn apart fresh handsOn again):=by
 refine returnsInHanded_of_calls own started noInit witness ?_;intro w tape i _ hsh _ hok hpre _;obtain⟨_,_,_,fn',hfn',_,_,_,_,hval⟩:=hok;obtain rfl:=Option.some.inj (hfn'.symm.trans hfn);obtain⟨⟨⟨ds,gs,before,hw,_⟩,hx⟩,_⟩:=hpre;refine(contract (w.forCall tape i) w.heap.size i.args ds gs before hval (DataW.Whole.of_heap (w':=w.forCall tape i) (by rfl) hw) hsh (hX _ _ _ (by rfl) hx)).mono fun e W' ⟨v,he,hp⟩=> ?_;subst he;exact ChangeSpec.post_blind hp
end
