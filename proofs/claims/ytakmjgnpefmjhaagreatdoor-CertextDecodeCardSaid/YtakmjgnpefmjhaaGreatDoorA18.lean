import Derived.Test.YtakmjgnpefmjhaaGreatDoorA17
set_option linter.all false
namespace Go.Proofs.YtakmjgnpefmjhaaGreatDoor.Pl
open IntKind (i64 u8 u32 u64)
open Go Vm
def Alq:Info->List Bool
 | (B,_,_,F,G,H,I,J,M,O,P,hc,_,_,T,U,V,W,_)=>[B,F != 0,decide (((G.length:Nat):Int)>0),decide (((H.length:Nat):Int)>0),decide (((I.length:Nat):Int)>0),decide (J>=0)||decide (M>=0),decide (O>=0),decide (((P.length:Nat):Int)>0),hc,!(T==[]),!(U==[]),decide (((V.length:Nat):Int)>0),decide (((W.length:Nat):Int)>0)]
def Awn {n:Int} (h:spI n=true): -1<=n/\n<=64:=by unfold spI at h;rw[Dv,D6,D6]at h;exact⟨h.1,h.2⟩
def oV {n:Int} (h:spI n=true):decide (n>=0)=(n != -1):=by
 have:=Awn h;by_cases hn:n= -1
 .subst hn;rfl
 .rw[Dn (by omega),show(n != -1)=true from EO.2 hn]
def Aw2 (N:Nat) (x:Info) (hN:1048578<N) (hun:x.2.2.2.2.2.2.2.2.2.2.2.2.2.2.2.2.2.2.length<=1048576):YG N x=some ((x.2.2.2.2.2.2.2.2.2.2.2.2.2.2.2.2.2.2.length+(Alq x).count true:Nat):Int):=by
 have hlen13:(Alq x).length=13:=rfl;obtain⟨B,C,D,F,G,H,I,J,M,O,P,hc,Q,S,T,U,V,W,X⟩:=x;unfold YG;try simp only[clR]
 have hun:X.length<=1048576:=hun;refine(Amj (mk:=fun i s=>(s,(i:Int),Alq (B,C,D,F,G,H,I,J,M,O,P,hc,Q,S,T,U,V,W,X))) (Alq (B,C,D,F,G,H,I,J,M,O,P,hc,Q,S,T,U,V,W,X)) some X.length (by omega) ?_ ?_ N (by omega)).trans rfl
 .intro i s hi h0 h1 k;simp (disch:=omega) only[J4,hlen13,Ko]
 .intro s k;simp (disch:=omega) only[J4,hlen13]
def Aek (N:Nat) (x:Info) (hN:1048578<N) (hx:Aac x):QF N x=some (Um x):=by
 have hcnt:=Aw2 N x hN hx.un.1;have hsub:=Zg N (x.2.2.2.2.2.2.2.2.2.2.2.2.1,x.2.2.2.2.2.2.2.2.2.2.2.2.2.1) hN hx.pe hx.ex;obtain⟨B,C,D,F,G,H,I,J,M,O,P,hc,Q,S,T,U,V,W,X⟩:=x;have e1:=AeE N G 8 hN hx.pu.1 hx.pu.2;have e2:=AeE N H 8 hN hx.po.1 hx.po.2;have e3:=AcK N I hN hx.ma;have e4:LK N V=some (SA V):=Rj N V hN hx.pt;have e5:LK N W=some (SA W):=Rj N W hN hx.fr;have e6:=fG N P hN hx.na;have hun:X.length<=1048576:=hx.un.1;unfold QF Um;try simp only[clR]
 simp only[Az3,e1,e2,e3,Option.isSome_some,Option.getD_some,DV,J8,Js,Ay6];rw[<- JD];refine Ku fun h1=> ?_;rw[<- JD];refine Ku fun h2=> ?_;rw[<- JD];refine Ku fun h3=> ?_;rw[<- JD];refine Ku fun h4=> ?_;rw[<- JD];refine Ku fun h5=> ?_;have key:(Alq (B,C,D,F,G,H,I,J,M,O,P,hc,Q,S,T,U,V,W,X))=Afa (B,C,D,F,G,H,I,J,M,O,P,hc,Q,S,T,U,V,W,X):=by simp only[EN,Jb]at h2;obtain⟨⟨⟨⟨⟨g1,g2⟩,g3⟩,g4⟩,_⟩,_⟩:=h2;unfold Alq Afa;dsimp only;rw[oV g2,oV g3,oV g4]
 rw[key]at hcnt;have hcnt:YG N (B,C,D,F,G,H,I,J,M,O,P,hc,Q,S,T,U,V,W,X)=some ((X.length+(Afa (B,C,D,F,G,H,I,J,M,O,P,hc,Q,S,T,U,V,W,X)).count true:Nat):Int):=hcnt
 have merge: ∀(L:Option Int) (R:Int),L=some R->(bif (bif decide (16<P.length)then 2 else Qp P false) != 0 then some (bif decide (16<P.length)then 2 else Qp P false)else L)=some (bif decide (16<P.length)then 2 else bif Qp P false != 0 then Qp P false else R):=by
  intro L R h;rw[h];cases decide (16<P.length)with
  | true=>rfl
  | false=>rw[cond_false,cond_false,JD]
 rw[e6,Js];refine merge _ _ ?_;simp only[Ld]
 have con: ∀(K:Option Int) (R:Int),K=some R->(bif hc then Jq (MM N (Q,S)) fun r92=>bif r92 != 0 then some r92 else K else bif decide (((Q.length:Nat):Int)>0)||decide (((S.length:Nat):Int)>0)then some 7 else K)=some (bif AbO hc (Q,S) != 0 then AbO hc (Q,S)else R):=by
  intro K R h;have hsub:MM N (Q,S)=some (eH (Q,S)):=hsub;rw[h,hsub,Js,iH,iH];unfold AbO;cases hc with
  | true=>rw[cond_true,cond_true,JD]
  | false =>rw[cond_false,cond_false];show(bif !Q.isEmpty|| !S.isEmpty then some (7:Int)else some R)=some (bif (bif !Q.isEmpty|| !S.isEmpty then(7:Int)else 0) != 0 then(bif !Q.isEmpty|| !S.isEmpty then(7:Int)else 0)else R);cases (!Q.isEmpty|| !S.isEmpty)<;>rfl
 refine con _ _ ?_;show(U19 _ (B,C,D,F,G,H,I,J,M,O,P,hc,Q,S,T,U,V,W,X))=_;dsimp only[U19];rw[show decide (((T.length:Nat):Int)>32)=decide (32<T.length)from SX _ 32,show decide (((U.length:Nat):Int)>32)=decide (32<U.length)from SX _ 32,e4,Js,e5,Js];rw[<- JD];refine Ku fun h9=> ?_;rw[<- JD];refine Ku fun h10=> ?_;rw[<- JD];refine Ku fun h11=> ?_;rw[hcnt,Js,show ∀ n:Nat,decide ((n:Int)>24)=decide (24<n)from fun n=>SX n 24];rw[<- JD];refine Ku fun h12=> ?_;unfold AqG;refine(XP (mk:=fun i=>((i:Int),B,C,D,F,G,H,I,J,M,O,P,hc,Q,S,T,U,V,W,X)) X.length (unI X) some (some 0) ?_ ?_ N (by omega)).trans (first_some _)
 .intro i hi k;have hm:SG (X.getD i ([],false,[])):=hx.un.2 _ (getD_mem ([],false,[]) hi);have hv:=Yz N _ hN hm.1;have hk:=Aw3 N (X.getD i ([],false,[])).1 hN;obtain⟨r,hf⟩:=ArE N (X.take i) (X.getD i ([],false,[])).1 (by rw[DL];omega) (by rw[DL];omega);have hc:=AaW N (X.getD i ([],false,[])).2.2 (by omega) (by have:=hm.2;unfold Lt at this;omega) (by have:=hm.2;unfold Lt at this;omega);unfold unI;dsimp only[U20];simp (disch:=omega) only[J4,hv,hk,Vd,hf,hc,Ko];cases Oz (X.getD i ([],false,[])).1<;>cases TD (X.getD i ([],false,[])).1<;>cases (X.take i).any (fun x=>x.1==(X.getD i ([],false,[])).1)<;>rfl
 .intro k;dsimp only[U20];simp (disch:=omega) only[J4]
def AqH {t:Nat} {c:Bs} (h:c.length<=131072):TS t c=some (Sp.elem t c):=by unfold TS;rw[Dq h]
def WE (N t:Nat) (l:List Bs) (ht:t<256) (h31:t % 32≠31) (hN:1048578<N) (hl:l.length<=1000) (hs:l.flatten.length<=131072):JL N (t:Int) l=some (Sp.elem t l.flatten):=by unfold JL;rw[mQ N t l ht h31 (by omega) (by omega) (by omega),Js,AqH hs];rfl
def KZ (a:Bs): [a].flatten=a:=by simp
def Agy (a b:Bs): [a,b].flatten=a++b:=by simp
def flat3 (a b c:Bs): [a,b,c].flatten=a++(b++c):=by simp
def WC (s:Bs):Bs:=(encR (ND s)).1
def Ag6 {s:Bs} (h:Oz s=true):encR (ND s)=(WC s,0)/\(WC s).length<=60:=by
 unfold Oz at h;unfold WC;cases ha:ND s with
 | none=>rw[ha]at h;cases h
 | some l =>refine⟨rfl,?_⟩;obtain⟨h1,h2,h3,h4⟩:=Ab6 ha;show((AeO l).map UInt8.ofNat).length<=60;have hf:=(AhX h1 h3 h4).1;have hs:(nC (40*l.getD 0 0+l.getD 1 0)).length<=5:=AiM _ hf;have hr:=Axk nC 5 (l.drop 2) (fun x hx=>AiM x (by have:=h3 x (Gj hx);omega));unfold AeO;rw[D7,Dx];rw[ED]at hr;omega
def Aod (e:Att):Prop:=Oz e.1=true/\(e.2.1=12\/e.2.1=19\/e.2.1=22)/\e.2.2.length<=64
def Ayf {k:Int} {v:Bs} (h:XD k v=true):k=12\/k=19\/k=22:=by
 unfold XD at h;by_cases h1:k=12
 .exact .inl h1
 .rw[Dt h1]at h;by_cases h2:k=19
  .exact .inr (.inl h2)
  .rw[Dt h2]at h;by_cases h3:k=22
   .exact .inr (.inr h3)
   .rw[Dt h3]at h;cases h
def AyG {e:Att} {s:List Att} (h:SV e s=0):Aod e/\XD e.2.1 e.2.2=true/\e.2.2≠ []/\s.any (fun x=>x.1==e.1)=false:=by
 unfold SV at h;by_cases h1:ND e.1=none
 .rw[Dq h1]at h;cases h
 .rw[Dt h1]at h;by_cases h2:e.2.2=[]\/XD e.2.1 e.2.2=false
  .rw[Dq h2]at h;cases h
  .rw[Dt h2]at h;by_cases h3:64<e.2.2.length
   .rw[Dq h3]at h;cases h
   .rw[Dt h3]at h
    have ht:XD e.2.1 e.2.2=true:=by
     cases hq:XD e.2.1 e.2.2 with
     | true=>rfl
     | false=>exact absurd (Or.inr hq) h2
    refine⟨⟨?_,Ayf ht,by omega⟩,ht,fun hn=>h2 (Or.inl hn),?_⟩
    .unfold Oz;cases hq:ND e.1 with
     | none=>exact absurd hq h1
     | some l=>rfl
    .cases hq:s.any (fun x=>x.1==e.1)with
     | false=>rfl
     | true=>rw[hq,Dq rfl]at h;cases h
def Awc {r:List Att} (h:X7 r=0):r≠ []/\r.length<=4/\ ∀ e∈r,Aod e:=by
 unfold X7 at h;by_cases h1:r=[]
 .rw[Dq h1]at h;cases h
 .rw[Dt h1]at h;by_cases h2:4<r.length
  .rw[Dq h2]at h;cases h
  .rw[Dt h2]at h;refine⟨h1,by omega,?_⟩;unfold Aqj at h
   have: ∀(l s:List Att),(UY XF (fun _=>some (0:Int)) l s).getD 0=0-> ∀ e∈l,Aod e:=by
    intro l
    induction l with
    | nil=>intro s _ e he;cases he
    | cons x t ih =>
     intro s hs e he;unfold UY XF at hs;by_cases hx:SV x s=0
     .rw[Dq hx]at hs;rcases D8.1 he with rfl | he
      .exact(AyG hx).1
      .exact ih _ hs e he
     .rw[Dt hx]at hs;exact absurd hs hx
   exact this r [] h
def ApN {n:List (List Att)} (h:QC n=0):n.length<=8/\ ∀ r∈n,X7 r=0:=by
 unfold QC pI at h;by_cases h8:8<n.length
 .rw[Dq h8]at h;cases h
 .rw[Dt h8]at h;refine⟨by omega,?_⟩
  have: ∀(l:List (List Att)) (s:Unit),(UY bW (fun _=>some (0:Int)) l s).getD 0=0-> ∀ e∈l,X7 e=0:=by
   intro l
   induction l with
   | nil=>intro s _ e he;cases he
   | cons x t ih =>
    intro s hs e he;unfold UY bW at hs;by_cases hx:X7 x=0
    .rw[Dq hx]at hs;rcases D8.1 he with rfl | he
     .exact hx
     .exact ih _ hs e he
    .rw[Dt hx]at hs;exact absurd hs hx
  exact this n () h
def fO (e:Att):Bs:=Sp.elem 48 (Sp.elem 6 (WC e.1)++Sp.elem e.2.1.toNat e.2.2)
def AoE {e:Att} (h:Aod e):(fO e).length<=139:=by
 have h1:=(Ag6 h.1).2;have h2:=h.2.2;unfold fO;have:=Sp.Kw 48 (Sp.elem 6 (WC e.1)++Sp.elem e.2.1.toNat e.2.2);have:=Sp.Kw 6 (WC e.1);have:=Sp.Kw e.2.1.toNat e.2.2;rw[Dx]at *
 omega
def zH (r:List Att):Bs:=Sp.elem 49 (UK (r.map fO))
def AmA (l:List Bs):(UK l).length=l.flatten.length:=by unfold UK;rw[Gq,Gq];exact((Hf l _).map _).sum_nat
def Aqi {r:List Att} (h:X7 r=0):(zH r).length<=561/\(r.map fO).flatten.length<=556:=by obtain⟨_,h4,ha⟩:=Awc h;have h1:=NM (g:=fO) (M:=139) (l:=r) (fun e he=>AoE (ha e he));have h2:=Sp.Kw 49 (UK (r.map fO));have h3:=AmA (r.map fO);unfold zH;omega
def nmB (n:List (List Att)):Bs:=Sp.elem 48 (n.map zH).flatten
def AlA {n:List (List Att)} (h:QC n=0):(nmB n).length<=4493/\(n.map zH).flatten.length<=4488:=by obtain⟨h8,hr⟩:=ApN h;have h1:=NM (g:=zH) (M:=561) (l:=n) (fun e he=>(Aqi (hr e he)).1);have h2:=Sp.Kw 48 (n.map zH).flatten;unfold nmB;omega
def Axu {k:Int} (h:k=12\/k=19\/k=22):k=(k.toNat:Int)/\k.toNat<256/\k.toNat % 32≠31:=by omega
def Awm {n:List (List Att)} (h:OC n) {i:Nat} (hi:i<n.length): ∀ e∈n.getD i [],YJ e:=fun e he=>h _ (getD_mem [] hi) e he
def dU (N:Nat) (s:Bs) (hN:1048578<N) (hs:Lt s) (h:Oz s=true):Vg N s=some (Sp.elem 6 (WC s)):=by obtain⟨o1,o2⟩:=Ag6 h;have w:JL N 6 [WC s]=_:=WE N 6 [WC s] (by omega) (by omega) hN (by simp) (by rw[KZ];omega);rw[KZ]at w;unfold Vg;unfold Lt at hs;rw[Af5 N s (by omega) hs (by omega),o1,Js,w,Js]
def AmU (N:Nat) (n:List (List Att)) (hN:1048578<N) (hs:OC n):VD N n=some (bif QC n != 0 then([],QC n)else(nmB n,0)):=by
 unfold VD;try simp only[clR]
 rw[iV N n hN hs,Js,<- JD];refine Ku fun h0=> ?_;have h0:QC n=0:=by simpa using h0
 obtain⟨h8,hr⟩:=ApN h0;have hnl:=AlA h0;refine(fP (mk:=fun i t=>(t,(i:Int))) n [] zH (fun t=>Jq (JL N 48 [t]) fun r30=>some (r30,0)) ?_ ?_ N (by omega)).trans ?_
 .intro i t hi ht k;have hri:=hr _ (getD_mem [] hi);have hsi:=Awm hs hi;obtain⟨r0,r4,ra⟩:=Awc hri;have hrl:=Aqi hri
  have hat:VE N (n.getD i [])=some ((n.getD i []).map fO):=by
   generalize n.getD i []=r at *
   unfold VE;try simp only[clR]
   refine(Aik (mk:=fun j a=>((j:Int),a)) r ([],0,[]) fO some ?_ ?_ N (by omega)).trans rfl
   .intro j a hj ha k;have hm:=ra _ (getD_mem ([],0,[]) hj);have hsm:=hsi _ (getD_mem ([],0,[]) hj);have ho:=dU N _ hN hsm.1 hm.1;have hal:=AoE hm;obtain⟨k1,k2,k3⟩:=Axu hm.2.1;have h64:=hm.2.2;have o2:=(Ag6 hm.1).2;dsimp only[U2];rw[Int.toNat_natCast];generalize r.getD j ([],0,[])=e at *
    have l1:=Sp.Kw 6 (WC e.1);have l2:=Sp.Kw e.2.1.toNat e.2.2;have w2:=WE N e.2.1.toNat [e.2.2] k2 k3 hN (by simp) (by rw[KZ];omega);have w3:JL N 48 [Sp.elem 6 (WC e.1),Sp.elem e.2.1.toNat e.2.2]=_:=WE N 48 [Sp.elem 6 (WC e.1),Sp.elem e.2.1.toNat e.2.2] (by omega) (by omega) hN (by simp) (by rw[Agy,Dx];omega);rw[KZ]at w2;rw[Agy]at w3;rw[<- k1]at w2;simp (disch:=omega) only[J4,ho,w2,w3,Ko];rfl
   .intro a k ha;simp (disch:=omega) only[J4]
  have hor:=AlK N ((n.getD i []).map fO) hN (by rw[D7];omega) (by omega);have w:JL N 49 [UK ((n.getD i []).map fO)]=_:=WE N 49 [UK ((n.getD i []).map fO)] (by omega) (by omega) hN (by simp) (by rw[KZ,AmA];omega);rw[KZ]at w;have hw:Sp.elem 49 (UK ((n.getD i []).map fO))=zH (n.getD i []):=rfl;simp (disch:=omega) only[J4,hat,hor,w,hw,Ko]
 .intro t k;simp (disch:=omega) only[J4]
 .have w:JL N 48 [(n.map zH).flatten]=_:=WE N 48 [(n.map zH).flatten] (by omega) (by omega) hN (by simp) (by rw[KZ];omega);rw[w,Js,KZ];rfl
def Vz (g:Gn):Bs:=bif g.1==4 then Sp.elem 164 (nmB g.2.2)else Sp.elem (128+g.1).toNat g.2.1
def Axx {s:Bs} (h:P8 s=true):s.length<=128:=by
 rcases En 128 s.length with hl | hl
 .rw[AjU hl]at h;cases h
 .exact hl
def ArS {s:Bs} (h:RZ s=true):s.length<=128:=by
 rcases En 128 s.length with hl | hl
 .rw[Amn hl]at h;cases h
 .exact hl
def AyX {k:Int} {s:Bs} {c:Bool} (h:AhY k s c=true):s.length<=128/\(k=1\/k=2\/k=7):=by
 unfold AhY at h;by_cases h1:k=1
 .subst h1;refine⟨?_,.inl rfl⟩;rw[Y0 rfl,cond_true]at h;cases c with
  | true =>unfold mbP at h;rw[cond_true,Dv,D6]at h;exact h.1
  | false=>exact Axx h
 .rw[VN h1,cond_false]at h;by_cases h2:k=2
  .subst h2;refine⟨?_,.inr (.inl rfl)⟩;rw[Y0 rfl,cond_true]at h;cases c with
   | true =>
    unfold Ab8 at h;rw[cond_true,E5]at h;rcases h with h | h
    .have:s=[]:=by simpa using h
     subst this;exact DF _
    .exact ArS h
   | false =>
    rw[cond_false]at h;unfold Acz at h;cases hq:Lib.hasPrefix s [42,46]with
    | true =>rw[hq,cond_true,Dv,Dv,D6]at h;exact h.1.1
    | false=>rw[hq]at h;exact ArS h
  .rw[VN h2,cond_false]at h;by_cases h7:k=7
   .subst h7;refine⟨?_,.inr (.inr rfl)⟩;rw[Y0 rfl,cond_true]at h;cases c with
    | true =>
     rw[cond_true]at h;unfold AcM at h;cases hq:(decide (s.length=8)||decide (s.length=32))with
     | false=>rw[hq]at h;cases h
     | true=>rw[E5,D6,D6]at hq;omega
    | false =>rw[cond_false]at h;unfold Ab4 at h;rw[E5,D6,D6]at h;omega
   .rw[VN h7]at h;cases h
def ArU {g:Gn} {c:Bool} (h:LZ g c=0):(g.1=4/\g.2.1=[]/\QC g.2.2=0)\/((g.1=1\/g.1=2\/g.1=7)/\g.2.1.length<=128/\g.2.2=[]/\AhY g.1 g.2.1 c=true):=by
 unfold LZ at h;by_cases h4:g.1=4
 .rw[Y0 h4,cond_true]at h;cases hq:g.2.1==[]with
  | true=>rw[hq]at h;exact .inl ⟨h4,by simpa using hq,h⟩
  | false=>rw[hq]at h;cases h
 .rw[VN h4,cond_false]at h;cases hq:AhY g.1 g.2.1 c&&g.2.2.isEmpty with
  | false=>rw[hq]at h;cases h
  | true =>rw[Dv]at hq;obtain⟨h1,h2⟩:=AyX hq.1;exact .inr ⟨h2,h1,by simpa using hq.2,hq.1⟩
def rW {g:Gn} {c:Bool} (h:LZ g c=0):(Vz g).length<=4498:=by
 unfold Vz;rcases ArU h with ⟨h1,_,h3⟩ | ⟨h1,h2,_,_⟩
 .rw[Y0 h1,cond_true];have:=Sp.Kw 164 (nmB g.2.2);have:=(AlA h3).1;omega
 .rw[VN (by omega),cond_false];have:=Sp.Kw (128+g.1).toNat g.2.1;omega
def Aps (g:Gn) (c:Bool):Bs×Int:=bif LZ g c != 0 then([],LZ g c)else(Vz g,0)
def qK (N:Nat) (g:Gn) (c:Bool) (hN:1048578<N) (hs:We g):PQ N g c=some (Aps g c):=by
 unfold PQ Aps;try simp only[clR]
 rw[Tn N g c hN hs,Js,<- JD];refine Ku fun h0=> ?_;have h0:LZ g c=0:=by simpa using h0
 unfold Vz;rcases ArU h0 with ⟨h1,_,h3⟩ | ⟨h1,h2,_,_⟩
 .have hl:=(AlA h3).1;have w:JL N 164 [nmB g.2.2]=_:=WE N 164 [nmB g.2.2] (by omega) (by omega) hN (by simp) (by rw[KZ];omega);rw[KZ]at w;rw[Y0 h1,cond_true,cond_true,AmU N g.2.2 hN hs.2,Js,h3,h1];show Jq (JL N 164 [nmB g.2.2]) _=_;rw[w,Js]
 .have hk:(128+g.1)=((128+g.1).toNat:Int):=by omega
  have w:=WE N (128+g.1).toNat [g.2.1] (by omega) (by omega) hN (by simp) (by rw[KZ];omega);rw[KZ,<- hk]at w;rw[VN (by omega),cond_false,cond_false,w64 (by omega) (by omega),w,Js]
def wP (c:Bool) (g:Gn):Bs:=bif LZ g c != 0 then []else Vz g
def Av0 (c:Bool) (g:Gn):(wP c g).length<=4498:=by
 unfold wP;cases h:LZ g c != 0 with
 | true=>exact DF _
 | false=>exact rW (c:=c) (by simpa using h)
def A0b (g:Gn) (c:Bool):Aps g c=(wP c g,LZ g c):=by
 unfold Aps wP;cases h:LZ g c != 0 with
 | true=>rfl
 | false=>rw[show LZ g c=0 by simpa using h];rfl
def Av1 {c:Bool} {l:List Gn} (h:JV (fun g=>LZ g c) l=0):l.map (wP c)=l.map Vz:=by refine EK fun g hg=> ?_;have:=ZU h g hg;unfold wP;rw[show LZ g c=0 from this];rfl
def Q9 (l:List Gn):Bs:=(l.map Vz).flatten
def Aon (l:List Gn):Bs×Int:=bif l.isEmpty then([],7)else bif decide (16<l.length)then([],2)else bif Qp l false != 0 then([],Qp l false)else(Q9 l,0)
def wX {l:List Gn} {c:Bool} (h:JV (fun g=>LZ g c) l=0) (h16:l.length<=16):(Q9 l).length<=71968:=by have:=NM (g:=Vz) (M:=4498) (l:=l) (fun g hg=>rW (c:=c) (ZU h g hg));unfold Q9;omega
def lJ (N:Nat) (l:List Gn) (hN:1048578<N) (hs:Me l):PY N l=some (Aon l):=by
 unfold PY Aon;try simp only[clR]
 rw[len0,show decide (((l.length:Nat):Int)>16)=decide (16<l.length)from SX _ 16];cases he:l.isEmpty with
 | true=>rfl
 | false =>
  rw[cond_false,cond_false];by_cases h16:16<l.length
  .rw[Dn h16];rfl
  .rw[Du h16,cond_false,cond_false];refine(AoM (mk:=fun i t=>(t,(i:Int))) l (0,[],[]) (fun g=>LZ g false) (wP false) (fun e=>some ([],e)) (fun t=>some (t,0)) ?_ ?_ N (by omega)).trans ?_
   .intro i t hi ht k;have hg:=qK N _ false hN (hs _ (getD_mem (0,[],[]) hi));have hl:=NM (g:=wP false) (M:=4498) (l:=l) (fun g _=>Av0 false g);rw[A0b]at hg;simp (disch:=omega) only[J4,hg,Ko]
   .intro t k;simp (disch:=omega) only[J4]
   .unfold Qp;rw[<- JD];refine Ku fun h=> ?_;rw[Av1 (by simpa using h)];rfl
def pY (g:Gn):Bs:=Sp.elem 48 (Vz g)
def Awy {g:Gn} (h:LZ g true=0):(pY g).length<=4503:=by have:=rW h;have:=Sp.Kw 48 (Vz g);unfold pY;omega
def jH (t:Nat) (l:List Gn):Bs:=bif l.isEmpty then []else Sp.elem t (l.map pY).flatten
def AmQ {l:List Gn} (h: ∀ g∈l,LZ g true=0) (h16:l.length<=16):(l.map pY).flatten.length<=72048:=by have:=NM (g:=pY) (M:=4503) (l:=l) (fun g hg=>Awy (h g hg));omega
def AmB {t:Nat} {l:List Gn} (h: ∀ g∈l,LZ g true=0) (h16:l.length<=16):(jH t l).length<=72053:=by
 have h1:=AmQ h h16;have:=Sp.Kw t (l.map pY).flatten;unfold jH;cases l.isEmpty with
 | true=>exact DF _
 | false=>rw[cond_false];omega
def Asb (N t:Nat) (l:List Gn) (ht:t<256) (h31:t % 32≠31) (hN:1048578<N) (hs:Me l) (h: ∀ g∈l,LZ g true=0) (h16:l.length<=16):VF N (t:Int) l=some (jH t l,0):=by
 unfold VF jH;try simp only[clR]
 rw[len0];cases he:l.isEmpty with
 | true=>rfl
 | false =>
  rw[cond_false,cond_false];have hl:=AmQ h h16;refine(fP (mk:=fun i a=>(a,(i:Int))) l (0,[],[]) pY (fun s=>Jq (Ru N (t:Int) [s]) fun r34=>some (r34.fst,r34.snd)) ?_ ?_ N (by omega)).trans ?_
  .intro i a hi ha k;have hg0:=h _ (getD_mem (0,[],[]) hi);have hg:=qK N _ true hN (hs _ (getD_mem (0,[],[]) hi));have hb:=rW hg0;have w:JL N 48 [Vz (l.getD i (0,[],[]))]=_:=WE N 48 [Vz (l.getD i (0,[],[]))] (by omega) (by omega) hN (by simp) (by rw[KZ];omega);rw[KZ]at w;unfold Aps at hg;rw[hg0]at hg;have w':Sp.elem 48 (Vz (l.getD i (0,[],[])))=pY (l.getD i (0,[],[])):=rfl;simp (disch:=omega) only[J4,hg,w,w',Ko]
  .intro a k;simp (disch:=omega) only[J4]
  .rw[Aoz N t [(l.map pY).flatten] ht h31 (by show 1<N;omega) (by show 1<=_;omega) (by rw[KZ];omega),KZ,AqH (by omega),Js];rfl
def Alj (t:Nat) (c:Bs):Bs×Int:=((TS t c).getD [],if(TS t c).isNone then 2 else 0)
def Rk (s:St2):Bs×Int:=bif eH s != 0 then([],eH s)else Alj 48 (jH 160 s.1++jH 161 s.2)
def Az7 {s:St2} (h:eH s=0):s.1.length<=16/\s.2.length<=16/\(∀ g∈s.1,LZ g true=0)/\ ∀ g∈s.2,LZ g true=0:=by
 unfold eH at h;cases h1:s.1.isEmpty&&s.2.isEmpty with
 | true=>rw[h1]at h;cases h
 | false =>
  rw[h1,cond_false]at h;cases h2:(decide (16<s.1.length)||decide (16<s.2.length))with
  | true=>rw[h2]at h;cases h
  | false =>rw[h2,cond_false]at h;rw[EN,Ed,Ed]at h2;have:=ZU h;exact⟨by omega,by omega,fun g hg=>this g (DI _ hg),fun g hg=>this g (DC _ hg)⟩
def AgG (N:Nat) (s:St2) (hN:1048578<N) (h1:Me s.1) (h2:Me s.2):Pj N s=some (Rk s):=by
 unfold Pj Rk;try simp only[clR]
 rw[Zg N s hN h1 h2,Js,<- JD];refine Ku fun h0=> ?_;obtain⟨a1,a2,a3,a4⟩:=Az7 (show eH s=0 by simpa using h0);have l1:=AmB (t:=160) a3 a1;have l2:=AmB (t:=161) a4 a2;have e1:VF N 160 s.1=_:=Asb N 160 s.1 (by omega) (by omega) hN h1 a3 a1;have e2:VF N 161 s.2=_:=Asb N 161 s.2 (by omega) (by omega) hN h2 a4 a2;have e3:Ru N 48 [jH 160 s.1,jH 161 s.2]=_:=Aoz N 48 [jH 160 s.1,jH 161 s.2] (by omega) (by omega) (by show 2<N;omega) (by show 2<=_;omega) (by rw[Agy,Dx];omega);rw[Agy]at e3;rw[e1,Js,e2];simp only[Js];rw[e3];simp only[Js];rfl
def flB (n:Int):Bs:=((Tj 70 n).getD ([],0)).1
def inB (n:Int):Bs:=(QD 70 n).getD []
def flags_all (M:Nat): ∀ n:Fin 512,Tj (M+70) (n.val:Int)=some (flB (n.val:Int),0)/\XX (M+70) (n.val:Int)=some (flB (n.val:Int),0)/\(flB (n.val:Int)).length<=3 :=
 DN (by kernel_rfl)
def Axr (M:Nat): ∀ n:Fin 66,QD (M+70) ((n.val:Int) - 1)=some (inB ((n.val:Int) - 1))/\VA (M+70) ((n.val:Int) - 1)=some (inB ((n.val:Int) - 1))/\(inB ((n.val:Int) - 1)).length<=2 :=
 DN (by kernel_rfl)
def Ahr (N:Nat) (n:Int) (hN:1048578<N) (h0:0<=n) (h1:n<512):Tj N n=some (flB n,0)/\XX N n=some (flB n,0)/\(flB n).length<=3:=by
 obtain⟨M,rfl⟩: ∃ M,N=M+70:=⟨N - 70,by omega⟩
 have:=flags_all M ⟨n.toNat,by omega⟩;rw[show((⟨n.toNat,by omega⟩:Fin 512).val:Int)=n from Hl h0]at this;exact this
def AcY (N:Nat) (n:Int) (hN:1048578<N) (h:spI n=true):QD N n=some (inB n)/\VA N n=some (inB n)/\(inB n).length<=2:=by
 obtain⟨M,rfl⟩: ∃ M,N=M+70:=⟨N - 70,by omega⟩
 obtain⟨h0,h1⟩:=Awn h;have:=Axr M ⟨(n+1).toNat,by omega⟩;rw[show((⟨(n+1).toNat,by omega⟩:Fin 66).val:Int) - 1=n from by show((n+1).toNat:Int) - 1=n;omega]at this;exact this
def st1 (l:List El):List Gn×Int :=
 bif (JU l 160).2.1 then(bif (KD (JU l 160).1.2.1 160).2 != 0 then([],(KD (JU l 160).1.2.1 160).2)else Ou (KD (JU l 160).1.2.1 160).1.2.1)else([],0)
def st2 (l:List El):Int×Int :=
 bif (JU l 129).2.1 then(bif (flP (JU l 129).1.2.1).2 != 0 then(0,(flP (JU l 129).1.2.1).2)else bif (flP (JU l 129).1.2.1).1==0 then(0,7)else((flP (JU l 129).1.2.1).1,0))else(0,0)
def gZ (s:Bs):List (List Att)×Int :=
 bif (Ou s).2 != 0 then([],(Ou s).2)else bif ((Ou s).1.length:Int) != 1||((Ou s).1.getD 0 (0,[],[])).1 != 4 then([],7)else(((Ou s).1.getD 0 (0,[],[])).2.2,0)
def st3 (l:List El):(Bool×List (List Att))×Int :=
 bif (JU l 162).2.1 then(bif (gZ (JU l 162).1.2.1).2 != 0 then((false,[]),(gZ (JU l 162).1.2.1).2)else((true,(gZ (JU l 162).1.2.1).1),0))else((false,[]),0)
def r1 (l:List El):List El:=(JU l 160).2.2
def r2 (l:List El):List El:=(JU (r1 l) 129).2.2
def r3 (l:List El):List El:=(JU (r2 l) 162).2.2
def zP:Pt:=([],0,false,[])
def ptD (l:List El):Pt×Int :=
 bif (st1 l).2 != 0 then(zP,(st1 l).2)else bif (st2 (r1 l)).2 != 0 then(zP,(st2 (r1 l)).2)else bif (st3 (r2 l)).2 != 0 then(zP,(st3 (r2 l)).2)else
 bif decide (r3 l≠ [])then(zP,4)else(((st1 l).1,(st2 (r1 l)).1,(st3 (r2 l)).1.1,(st3 (r2 l)).1.2),0)
theorem RH {l:List El} (hg:Good 1048576 l) (t:Int) (h:(JU l t).2.1=true):(JU l t).1.2.1.length<=1048576:=by have:=((Ub hg t).2 h).content;omega
def Alo {l:List El} (hg:Good 1048576 l):Good 1048576 (r1 l):=(Ub hg 160).1
def Ag0 {l:List El} (hg:Good 1048576 l):Good 1048576 (r2 l):=(Ub (Alo hg) 129).1
def A06 (N:Nat) (l:List El) (hN:1048578<N) (hg:Good 1048576 l) (J:List El×List Gn->Option (Pt×Int×List El)) :
 (Jq (L6 N l 160) fun r20=>bif r20.2.1 then Jq (UC N r20.1.2.1 160) fun r27=>bif r27.2 != 0 then some (zP,r27.2,r20.2.2)else Jq (NG N r27.1.2.1) fun r37=>bif r37.2 != 0 then some (zP,r37.2,r20.2.2)else J (r20.2.2,r37.1)else J (r20.2.2,[]))
   = bif (st1 l).2 != 0 then some (zP,(st1 l).2,r1 l)else J (r1 l,(st1 l).1):=by
 rw[Aab,Js];unfold st1 r1;cases h1:(JU l 160).2.1 with
 | false=>rfl
 | true =>
  have hl1:=RH hg 160 h1;have ho:=Nr (JU l 160).1.2.1 160;rw[cond_true,cond_true,XK N _ 160 hN hl1,Js];cases h2:(KD (JU l 160).1.2.1 160).2 != 0 with
  | true=>rw[cond_true,cond_true,h2];rfl
  | false=>rw[cond_false,cond_false,WB N _ hN (by omega),Js]
def A07 (N:Nat) (l:List El) (hN:1048578<N) (hg:Good 1048576 l) (J:List El×Int->Option (Pt×Int×List El)) :
 (Jq (L6 N l 129) fun r47=>bif r47.2.1 then Jq (XW N r47.1.2.1) fun r54=>bif r54.2 != 0 then some (zP,r54.2,r47.2.2)else bif r54.1==0 then some (zP,7,r47.2.2)else J (r47.2.2,r54.1)else J (r47.2.2,0))
   = bif (st2 l).2 != 0 then some (zP,(st2 l).2,(JU l 129).2.2)else J ((JU l 129).2.2,(st2 l).1):=by
 rw[Aab,Js];unfold st2;cases h1:(JU l 129).2.1 with
 | false=>rfl
 | true =>
  have hl1:=RH hg 129 h1;rw[cond_true,cond_true,Adi N _ hN hl1,Js];cases h2:(flP (JU l 129).1.2.1).2 != 0 with
  | true=>rw[cond_true,cond_true,h2];rfl
  | false =>rw[cond_false,cond_false];cases (flP (JU l 129).1.2.1).1==0<;>rfl
def A08 (N:Nat) (l:List El) (hN:1048578<N) (hg:Good 1048576 l) (J:List El×Bool×List (List Att)->Option (Pt×Int×List El)) :
 (Jq (L6 N l 162) fun r68=>bif r68.2.1 then Jq (NG N r68.1.2.1) fun r75=>bif r75.2 != 0 then some (zP,r75.2,r68.2.2)else chk (decide ((0:Int)<(r75.1.length:Int))||((r75.1.length:Int) != 1))<|bif ((r75.1.length:Int) != 1)||((r75.1.getD 0 (0,[],[])).1 != 4)then some (zP,7,r68.2.2)else chk (decide ((0:Int)<(r75.1.length:Int)))<|J (r68.2.2,true,(r75.1.getD 0 (0,[],[])).2.2)else J (r68.2.2,false,[]))
   = bif (st3 l).2 != 0 then some (zP,(st3 l).2,(JU l 162).2.2)else J ((JU l 162).2.2,(st3 l).1.1,(st3 l).1.2):=by
 rw[Aab,Js];unfold st3 gZ;cases h1:(JU l 162).2.1 with
 | false=>rfl
 | true =>
  have hl1:=RH hg 162 h1;rw[cond_true,cond_true,WB N _ hN hl1,Js];cases h2:(Ou (JU l 162).1.2.1).2 != 0 with
  | true=>simp only[h2,cond_true]
  | false =>
   rw[cond_false,cond_false];by_cases h3:(Ou (JU l 162).1.2.1).1.length=1
   .simp (disch:=omega) only[J4,h3];cases ((Ou (JU l 162).1.2.1).1.getD 0 (0,[],[])).1 != 4<;>simp<;>rfl
   .have h4:(((Ou (JU l 162).1.2.1).1.length:Int) != 1)=true:=by simp;omega
    rw[h4,EE,J8,DV];rfl
def AkY (N:Nat) (l:List El) (hN:1048578<N) (hg:Good 1048576 l): ∃ rest,SI N l=some ((ptD l).1,(ptD l).2,rest):=by
 unfold SI;try simp only[clR]
 rw[Pz];refine Jp (fun rest h=>Ey (A06 N l hN hg _) h) ?_;unfold ptD;cases h1:(st1 l).2 != 0 with
 | true=>exact⟨_,rfl⟩
 | false =>
  rw[cond_false,cond_false];dsimp only[U2];rw[Pz];refine Jp (fun rest h=>Ey (A07 N (r1 l) hN (Alo hg) (fun p=>U3 _ (p.1,(st1 l).1,p.2))) h) ?_;cases h2:(st2 (r1 l)).2 != 0 with
  | true=>exact⟨_,rfl⟩
  | false =>
   rw[cond_false,cond_false];dsimp only[U3];rw[Pz];refine Jp (fun rest h=>Ey (A08 N (r2 l) hN (Ag0 hg) (fun p=>U5 _ (p.1,(st1 l).1,(st2 (r1 l)).1,p.2.1,p.2.2))) h) ?_;cases h3:(st3 (r2 l)).2 != 0 with
   | true=>exact⟨_,rfl⟩
   | false =>
    rw[cond_false,cond_false];dsimp only[U5];rw[ArD,Js];show ∃ rest,(bif (if r3 l=[]then(0:Int)else 4) != 0 then some (zP,(if r3 l=[]then(0:Int)else 4),r3 l)else some (((st1 l).1,(st2 (r1 l)).1,(st3 (r2 l)).1.1,(st3 (r2 l)).1.2),0,r3 l))=_;by_cases h4:r3 l=[]
    .rw[Dq h4,Du (fun h=>h h4)];exact⟨_,rfl⟩
    .rw[Dt h4,Dn h4];exact⟨_,rfl⟩
def rg (x:Int):Prop:= -9223372036854775808<=x/\x<=9223372036854775807
def rg0:rg 0:=⟨by decide,by decide⟩
def Aym (x:Int):rg (i64.wrap x):=by
 by_cases h:x % 18446744073709551616>=9223372036854775808
 .rw[show i64.wrap x=x % 18446744073709551616 - 18446744073709551616 from Dq (Dn h)];exact⟨by omega,by omega⟩
 .rw[show i64.wrap x=x % 18446744073709551616 from Dt (fun e=>h (DN e))];exact⟨by omega,by omega⟩
def Avw (r:Bs) (n:Nat):rg (flV r n).1:=by
 have key: ∀(l:List Nat) (a:Int),rg a->rg (l.foldl (fun acc i=>bif mM r i then JY .or .i64 acc (i64.wrap (1*2 ^ min i 64))else acc) a):=by
  intro l
  induction l with
  | nil=>intro a h;exact h
  | cons x y ih =>
   intro a h;refine ih _ ?_;dsimp only;cases mM r x with
   | false=>exact h
   | true=>exact Aym _
 unfold flV;cases decide (0<n)&& !mM r (n - 1)with
 | true=>exact rg0
 | false =>
  cases decide (16<n)with
  | true=>exact rg0
  | false=>exact key _ 0 rg0
def Avv (s:Bs):rg (flP s).1:=by
 unfold flP;cases (Vk s).2.2 != 0 with
 | true=>exact rg0
 | false=>exact Avw _ _
def AsQ (s:Bs) (hs:s.length<=1048576):OC (gZ s).1:=by
 have h:=(Ace s hs).1;unfold gZ;cases (Ou s).2 != 0 with
 | true=>intro p hp;cases hp
 | false =>
  cases hb:((Ou s).1.length:Int) != 1||((Ou s).1.getD 0 (0,[],[])).1 != 4 with
  | true=>intro p hp;cases hp
  | false =>
   rw[EN]at hb;have h1:(Ou s).1.length=1:=by have:=hb.1;simp at this;omega
   exact(h _ (getD_mem (0,[],[]) (by omega))).2
def Awr {l:List El} (hg:Good 1048576 l):Me (st1 l).1:=by
 unfold st1;cases h1:(JU l 160).2.1 with
 | false=>intro g hgm;cases hgm
 | true =>
  have hl1:=RH hg 160 h1;have ho:=Nr (JU l 160).1.2.1 160;cases (KD (JU l 160).1.2.1 160).2 != 0 with
  | true=>intro g hgm;cases hgm
  | false=>exact(Ace _ (by omega)).1
def Aws (l:List El):rg (st2 l).1:=by
 unfold st2;cases (JU l 129).2.1 with
 | false=>exact rg0
 | true =>
  cases (flP (JU l 129).1.2.1).2 != 0 with
  | true=>exact rg0
  | false =>
   cases (flP (JU l 129).1.2.1).1==0 with
   | true=>exact rg0
   | false=>exact Avv _
def Awt {l:List El} (hg:Good 1048576 l):OC (st3 l).1.2:=by
 unfold st3;cases h1:(JU l 162).2.1 with
 | false=>intro p hp;cases hp
 | true =>
  have hl1:=RH hg 162 h1;cases (gZ (JU l 162).1.2.1).2 != 0 with
  | true=>intro p hp;cases hp
  | false=>exact AsQ _ hl1
def iU:NS zP:=⟨fun g h=>(by cases h),fun p h=>(by cases h),by decide,by decide⟩
def AvY {l:List El} (hg:Good 1048576 l):NS (ptD l).1:=by
 unfold ptD;cases (st1 l).2 != 0 with
 | true=>exact iU
 | false =>
  cases (st2 (r1 l)).2 != 0 with
  | true=>exact iU
  | false =>
   cases (st3 (r2 l)).2 != 0 with
   | true=>exact iU
   | false =>
    cases decide (r3 l≠ [])with
    | true=>exact iU
    | false=>exact⟨Awr hg,Awt (Ag0 hg),Aws _⟩
def elD (e:El):Pt×Int:=bif e.1 != 48 then(zP,5)else bif (JG e.2.1).2 != 0 then(zP,(JG e.2.1).2)else ptD (JG e.2.1).1
def AeN {e:El} (he:e.2.1.length<=1048576):NS (elD e).1:=by
 unfold elD;cases e.1 != 48 with
 | true=>exact iU
 | false =>
  cases (JG e.2.1).2 != 0 with
  | true=>exact iU
  | false=>exact AvY ((KC e.2.1).mono he)
def psD (l:List El):List Pt×Int :=
 bif l.isEmpty then([],7)else bif JV (fun e=>(elD e).2) l != 0 then([],JV (fun e=>(elD e).2) l)else
 bif SA (l.map fun e=>(elD e).1) != 0 then([],SA (l.map fun e=>(elD e).1))else(l.map fun e=>(elD e).1,0)
def Z4 (s:Bs):List Pt×Int:=bif (KD s 48).2 != 0 then([],(KD s 48).2)else bif (JG (KD s 48).1.2.1).2 != 0 then([],(JG (KD s 48).1.2.1).2)else psD (JG (KD s 48).1.2.1).1
def Azp (N:Nat) (l:List Pt) (hN:1048578<N) (hs: ∀ p∈l,NS p):Lm N l=some (SA l):=TU N l hN hs
def AuB (N:Nat) (e:El) (r:List El) (hN:1048578<N) (he:e.2.1.length<=1048576):Nq N (e::r)=some (bif e.1 != 48 then .inr ((),5,e::r)else bif (JG e.2.1).2 != 0 then .inr ((),(JG e.2.1).2,r)else .inl ((JG e.2.1).1,0,r)):=by
 unfold Nq OX XM RX;try simp only[clR]
 have hl:(e::r).length=r.length+1:=rfl;simp (disch:=omega) only[J4,hl,Eb,NP N e.2.1 (by omega) (by omega) (by omega)];rw[<- hl,show J9 (e::r) 1 (e::r).length=r from by show((e::r).take (e::r).length).drop 1=r;rw[Ez];rfl];cases e.1 != 48 with
 | true=>rfl
 | false =>have hT:=NP N e.2.1 (by omega) (by omega) (by omega);simp (disch:=omega) only[J4,hT];cases (JG e.2.1).2 != 0<;>rfl
def Yi (N:Nat) (s:Bs) (hN:1048578<N) (hs:s.length<=1048576):OM N s=some (Z4 s):=by
 unfold OM;try simp only[clR]
 rw[AyB N s 48 (by omega) (by omega) (by omega)];have hc:=Qe s;have hg:Good 1048576 (JG (KG s).1.2.1).1:=(KC _).mono (by omega);unfold Z4 KD AtV;by_cases h1:(KG s).2=0
 .have b1:((KG s).2 != 0)=false:=by simp [h1]
  rw[Dt (fun h=>h h1),b1];simp only[cond_false];by_cases h2:(KG s).1.1=48
  .have b2:((KG s).1.1 != 48)=false:=by simp [h2]
   rw[Dt (fun h=>h h2),b2];simp only[cond_false];by_cases h3:(JG (KG s).1.2.1).2=0
   .have b3:((JG (KG s).1.2.1).2 != 0)=false:=by simp [h3]
    rw[Dt (fun h=>h h3),b3,jW];generalize (JG (KG s).1.2.1).1=l at hg;have hlen:=hg.len;unfold MB psD;cases hl:l with
    | nil=>rfl
    | cons a0 l0 =>
     rw[<- hl];have hp:0<l.length:=by rw[hl];exact GI _
     have he:l.isEmpty=false:=by rw[hl];rfl
     rw[he];simp (disch:=omega) only[J4];refine(Ayb (R:=Int) (fun r acc=>(r,acc)) (fun r (acc:List Pt)=>Good 1048576 r/\acc.length+r.length<=1048576) (fun e acc=>bif (elD e).2 != 0 then .inl (elD e).2 else .inr (acc++[(elD e).1])) (fun e=>some ([],e)) (fun acc=>Jq (Lm N acc) fun r46=>bif r46 != 0 then some ([],r46)else some (acc,0)) ?_ ?_ ?_ N l [] ⟨hg,by simpa using hlen⟩ (by omega)).trans ?_
     .intro e r acc hI k;have hee:=(hI.1.all e Dw).content;have hlr:(e::r).length=r.length+1:=rfl;have hI2:=hI.2;rw[hlr]at hI2;have hIn:=AuB N e r hN (by omega);simp (disch:=omega) only[J4,hlr,hIn];unfold elD;cases b4:e.1 != 48 with
      | true=>rfl
      | false =>
       cases b5:(JG e.2.1).2 != 0 with
       | true =>simp only[cond_false,cond_true,b5,Tz]
       | false =>obtain⟨rest,hd⟩:=AkY N (JG e.2.1).1 hN ((KC e.2.1).mono (by omega));simp only[cond_false,jW];simp (disch:=omega) only[J4,hd]
     .intro e r acc acc' hI hst;have hI2:=hI.2;rw[show(e::r).length=r.length+1 from rfl]at hI2;cases b4:(elD e).2 != 0 with
      | true=>rw[b4]at hst;cases hst
      | false =>rw[b4]at hst;injection hst with hst;subst hst;exact⟨hI.1.tail,by rw[Dx];show acc.length+1+r.length<=_;omega⟩
     .intro acc k hI;simp (disch:=omega) only[J4];rfl
     .rw[AjQ,Rn,List.nil_append];cases JV (fun e=>(elD e).2) l != 0 with
      | true=>rfl
      | false =>rw[cond_false,AkX,Azp N _ hN (fun p hp=>by obtain⟨x,hx,rfl⟩:=DD.1 hp;exact AeN (by have:=(hg.all x hx).content;omega)),Js,JD];rfl
   .have b3:((JG (KG s).1.2.1).2 != 0)=true:=by simp [h3]
    rw[Dq h3,b3,Tz,b3];rfl
  .have b2:((KG s).1.1 != 48)=true:=by simp [h2]
   rw[Dq h2,b2,Tz];rfl
 .have b1:((KG s).2 != 0)=true:=by simp [h1]
  rw[Dq h1,b1,Tz];simp only[cond_true,b1]
def A13 (N:Nat) (es l:List El) (x:List El×Int) (hN:1048578<N) (hx:At es l x) (hl:es.length<=1048576) (hg:Good 1048576 l) :
 ∃ y,PS N x=some ((st1 l).1,(st1 l).2,y)/\At es (r1 l) y:=by
 obtain⟨y,hy,ha⟩:=qL N es l x hx (by omega) 160;refine⟨y,?_,ha⟩;unfold PS st1;try simp only[clR]
 rw[hy,Js];dsimp only;cases h1:(JU l 160).2.1 with
 | false=>rfl
 | true =>
  have hl1:=RH hg 160 h1;have ho:=Nr (JU l 160).1.2.1 160;rw[Ec,cond_false,cond_true,ZC N _ 160 hN hl1,Js];cases h2:(KD (JU l 160).1.2.1 160).2 != 0 with
  | true=>rfl
  | false=>rw[cond_false,cond_false,lI N _ hN (by omega),Js]
def Azg (N:Nat) (s:Bs) (hN:1048578<N) (hs:s.length<=1048576):Yc N s=some (bif (flP s).2 != 0 then(0,(flP s).2)else bif (flP s).1==0 then(0,7)else((flP s).1,0)):=by
 unfold Yc;try simp only[clR]
 rw[AaY N s hN hs,Js];simp only[JD]
def A14 (N:Nat) (es l:List El) (x:List El×Int) (hN:1048578<N) (hx:At es l x) (hl:es.length<=1048576) (hg:Good 1048576 l) :
 ∃ y,Qv N x 129=some ((st2 l).1,(st2 l).2,y)/\At es (JU l 129).2.2 y:=by
 obtain⟨y,hy,ha⟩:=qL N es l x hx (by omega) 129;refine⟨y,?_,ha⟩;unfold Qv st2;try simp only[clR]
 rw[hy,Js];dsimp only;cases h1:(JU l 129).2.1 with
 | false=>rfl
 | true =>have hl1:=RH hg 129 h1;rw[Ec,cond_false,cond_true,Azg N _ hN hl1,Js]
def AzX (N:Nat) (s:Bs) (hN:1048578<N) (hs:s.length<=1048576):OB N s=some (gZ s):=by
 unfold OB gZ;try simp only[clR]
 rw[lI N s hN hs,Js];cases (Ou s).2 != 0 with
 | true=>rfl
 | false =>
  rw[cond_false,cond_false];by_cases h3:(Ou s).1.length=1
  .simp (disch:=omega) only[J4,h3];cases ((Ou s).1.getD 0 (0,[],[])).1 != 4<;>simp<;>rfl
  .have h4:(((Ou s).1.length:Int) != 1)=true:=by simp;omega
   rw[h4,EE,J8,DV];rfl
def Azl (N:Nat) (s:Bs) (hN:1048578<N) (hs:s.length<=1048576):Pv N s=some (bif (KD s 48).2 != 0 then(([],0),(KD s 48).2)else(((JG (KD s 48).1.2.1).1,0),(JG (KD s 48).1.2.1).2)):=by
 have hlo:=Nr s 48
 have ht:((KD s 48).2 != 0)=false->((KD s 48).1.1 != 48)=false:=by
  unfold KD;cases hb:(KG s).2 != 0 with
  | true=>intro h;exact absurd h (by show ¬((KG s).2 != 0)=false;rw[hb];decide)
  | false =>
   cases h:(KG s).1.1 != 48 with
   | true=>intro h;cases h
   | false=>intro _;exact h
 unfold Pv;try simp only[clR]
 rw[ZC N s 48 hN hs,Js];cases h:(KD s 48).2 != 0 with
 | true=>rfl
 | false =>rw[cond_false,cond_false,qM N _ 48 hN (by omega),Js];unfold Acy;rw[ht h];rfl
def AxN (N:Nat) (l:List Pt) (hN:1048578<N) (hs: ∀ p∈l,NS p):LK N l=some (SA l):=Rj N l hN hs
def AzG {N:Nat} {es l:List El} {x:List El×Int} (h:At es l x):Kz N (x.1,x.2)=some (if l=[]then 0 else 4,x):=AuA N es l x h
def A15 (N:Nat) (es l:List El) (x:List El×Int) (hN:1048578<N) (hx:At es l x) (hl:es.length<=1048576) (hg:Good 1048576 l) (J:List El×Int->Bool->List (List Att)->Option (List Pt×Int)) :
 ∃ y,At es (JU l 162).2.2 y/\(Jq (Lc N x 162) fun r61=>bif r61.2.1 then Jq (OB N r61.1.2.1) fun r69=>bif r69.2 != 0 then some ([],r69.2)else J (r61.2.2.1,r61.2.2.2) true r69.1 else J (r61.2.2.1,r61.2.2.2) false [])
  = bif (st3 l).2 != 0 then some ([],(st3 l).2)else J y (st3 l).1.1 (st3 l).1.2:=by
 obtain⟨y,hy,ha⟩:=qL N es l x hx (by omega) 162;refine⟨y,ha,?_⟩;rw[hy,Js];unfold st3;dsimp only;cases h1:(JU l 162).2.1 with
 | false=>rfl
 | true =>
  have hl1:=RH hg 162 h1;rw[cond_true,cond_true,AzX N _ hN hl1,Js];cases h2:(gZ (JU l 162).1.2.1).2 != 0 with
  | true=>simp only[h2,cond_true]
  | false=>rfl
def A0Y (N:Nat) (e:El) (acc:List Pt) (hN:1048578<N) (he:e.2.1.length<=1048576) (ha:acc.length<=1048576) (K:List Pt->Option (List Pt×Int)) :
 (Jq (MH N e 48) fun r37=>bif r37.2 != 0 then some ([],r37.2)else Jq (PS N r37.1) fun r45=>bif r45.2.1 != 0 then some ([],r45.2.1)else Jq (Qv N r45.2.2 129) fun r53=>bif r53.2.1 != 0 then some ([],r53.2.1)else Ld (α :=List El×Int×List Gn×Int×Bool×List (List Att)×List Pt) (fun j3=>Jq (Lc N r53.2.2 162) fun r61=>bif r61.2.1 then Jq (OB N r61.1.2.1) fun r69=>bif r69.2 != 0 then some ([],r69.2)else j3 (r61.2.2.1,r61.2.2.2,r45.1,r53.1,true,r69.1,acc)else j3 (r61.2.2.1,r61.2.2.2,r45.1,r53.1,false,[],acc)) (U7 fun a b c d f g acc'=>Jq (Kz N (a,b)) fun r76=>bif r76.1 != 0 then some ([],r76.1)else chk (decide ((acc'.length+1)*65<=140737488355328))<|K (acc'++[(c,d,f,g)])))
   = bif (elD e).2 != 0 then some ([],(elD e).2)else K (acc++[(elD e).1]):=by
 rw[qM N e 48 hN he,Js];unfold Acy elD;have hge:Good 1048576 (JG e.2.1).1:=(KC e.2.1).mono he;cases b4:e.1 != 48 with
 | true=>simp only[cond_true,show((5:Int) != 0)=true from rfl]
 | false =>
  cases b5:(JG e.2.1).2 != 0 with
  | true=>simp only[cond_false,cond_true,b5]
  | false =>
   simp only[cond_false,b5];generalize (JG e.2.1).1=le at hge;have hle:=hge.len;obtain⟨y1,hy1,ha1⟩:=A13 N le le (le,0) hN ⟨0,rfl,DF _,rfl⟩ hle hge;obtain⟨y2,hy2,ha2⟩:=A14 N le (r1 le) y1 hN ha1 hle (Alo hge);rw[hy1,Js];unfold ptD;dsimp only;cases b6:(st1 le).2 != 0 with
   | true=>simp only[cond_true,b6]
   | false =>
    simp only[cond_false];rw[hy2,Js];dsimp only;cases b7:(st2 (r1 le)).2 != 0 with
    | true=>simp only[cond_true,b7]
    | false =>
     simp only[cond_false];rw[Pz];obtain⟨y3,ha3,hy3⟩:=A15 N le (r2 le) y2 hN ha2 hle (Ag0 hge) (fun p v w=>U7 (fun(a:List El) (b:Int) (c:List Gn) (d:Int) (f:Bool) (g:List (List Att)) (acc':List Pt)=>Jq (Kz N (a,b)) fun r76=>bif r76.1 != 0 then some ([],r76.1)else chk (decide ((acc'.length+1)*65<=140737488355328))<|K (acc'++[(c,d,f,g)])) (p.1,p.2,(st1 le).1,(st2 (r1 le)).1,v,w,acc));refine Ey hy3 ?_;cases b8:(st3 (r2 le)).2 != 0 with
     | true=>simp only[cond_true,b8]
     | false =>
      simp only[cond_false,U7];rw[AzG ha3,Js];show(bif (if r3 le=[]then(0:Int)else 4) != 0 then some ([],(if r3 le=[]then(0:Int)else 4))else chk (decide ((acc.length+1)*65<=140737488355328)) (K (acc++[((st1 le).1,(st2 (r1 le)).1,(st3 (r2 le)).1.1,(st3 (r2 le)).1.2)])))=_;rw[show decide ((acc.length+1)*65<=140737488355328)=true from Dn (by omega),J8];by_cases h4:r3 le=[]
      .rw[Dq h4,show decide (r3 le≠ [])=false from Du (fun h=>h h4)];rfl
      .rw[Dt h4,show decide (r3 le≠ [])=true from Dn h4];rfl
def ZX (N:Nat) (s:Bs) (hN:1048578<N) (hs:s.length<=1048576):Qs N s=some (Z4 s):=by
 unfold Qs;try simp only[clR]
 rw[Azl N s hN hs,Js];have hlo:=Nr s 48;have hg:Good 1048576 (JG (KD s 48).1.2.1).1:=(KC _).mono (by omega);unfold Z4;cases h1:(KD s 48).2 != 0 with
 | true=>simp only[cond_true,h1]
 | false =>
  simp only[cond_false];cases h2:(JG (KD s 48).1.2.1).2 != 0 with
  | true=>rfl
  | false =>
   generalize (JG (KD s 48).1.2.1).1=l at hg;have hlen:=hg.len;unfold psD;cases hl:l with
   | nil=>rfl
   | cons a0 l0 =>
    rw[<- hl];have hp:0<l.length:=by rw[hl];exact GI _
    have he:l.isEmpty=false:=by rw[hl];rfl
    rw[he];simp (disch:=omega) only[J4];refine(PT (fun i acc=>((i:Int),acc)) l (0,[],[]) (fun e=>(elD e).2) (fun e=>(elD e).1) (fun e=>some ([],e)) (fun acc=>Jq (LK N acc) fun r46=>bif r46 != 0 then some ([],r46)else some (acc,0)) ?_ ?_ N (by omega)).trans ?_
    .intro i acc hi ha k;have hee:=(hg.all _ (getD_mem (0,[],[]) hi)).content;dsimp only[U2];rw[Int.toNat_natCast,Dn (show(i:Int)<(l.length:Int) by omega),Dn (show(0:Int)<=(i:Int) by omega),cond_true,J8,J8];refine(A0Y N (l.getD i (0,[],[])) acc hN (by omega) (by omega) (fun acc'=>k (i64.wrap ((i:Int)+1),acc'))).trans ?_;rw[w64 (x:=(i:Int)+1) (by omega) (by omega)];rfl
    .intro acc k ha;simp (disch:=omega) only[J4]
    .cases JV (fun e=>(elD e).2) l != 0 with
     | true=>rfl
     | false =>rw[cond_false,AxN N _ hN (fun p hp=>by obtain⟨x,hx,rfl⟩:=DD.1 hp;exact AeN (by have:=(hg.all x hx).content;omega)),Js,JD];rfl
def Ends {α :Type} (Q: α ->Prop) (o:Option α):Prop:= ∃ v,o=some v/\Q v
def Lr {α :Type} {Q: α ->Prop} {v: α} (h:Q v):Ends Q (some v):=⟨v,rfl,h⟩
def JO {α ρ :Type} [Inhabited α] {P: α ->Prop} {Q: ρ ->Prop} {o:Option α} {k: α ->Option ρ} (h:Ends P o) (hk: ∀ v,P v->Ends Q (k v)):Ends Q (Jq o k):=by obtain⟨v,rfl,hv⟩:=h;exact hk v hv
def JF {ρ :Type} {Q: ρ ->Prop} {c:Bool} {k:Option ρ} (h:c=true) (hk:Ends Q k):Ends Q (Vm.chk c k):=by rw[h];exact hk
def Kv {ρ :Type} {Q: ρ ->Prop} {c:Bool} {x y:Option ρ} (h1:c=true->Ends Q x) (h2:c=false->Ends Q y):Ends Q (bif c then x else y):=by
 cases c with
 | true=>exact h1 rfl
 | false=>exact h2 rfl
def wR {α ρ :Type} {P: α ->Prop} {Q: ρ ->Prop} {A:(α ->Option ρ)->Option ρ} {f: α ->Option ρ} (hA: ∀ j: α ->Option ρ,(∀ x,P x->Ends Q (j x))->Ends Q (A j)) (hf: ∀ x,P x->Ends Q (f x)):Ends Q (Ld A f):=hA f hf
def O9 {X Y ρ :Type} {B:X->(X->Option ρ)->(Y->Option ρ)->Option ρ} {kx:Y->Option ρ} {Q: ρ ->Prop} (I:X->Prop) (μ :X->Nat)
 (h: ∀ x,I x-> ∀ k:X->Option ρ,(∀ x',I x'-> μ x'< μ x->Ends Q (k x'))->Ends Q (B x k kx)) (N:Nat) (x:X) (hI:I x) (hm: μ x<N):Ends Q (J6 B N x kx):=AjK I μ (Ends Q) h N x hI hm
def KP (L:List Int) (d:List Int×Int):Prop:= ∃ k:Nat,d=(L,(k:Int))/\k<=L.length
def Am3 (N:Nat) {L:List Int} (hL:L.length<=9223372036854775807) {d:List Int×Int} (hd:KP L d) (n:Nat) (hn:0<n) (hn':n<2147483648) :
 Ends (fun r=>0<=r.1/\r.1<(n:Int)/\KP L r.2) (JB N d (n:Int)):=by
 obtain⟨k,rfl,hk⟩:=hd;unfold JB;try simp -zeta only[Ap]
 try dsimp only
 by_cases h:k<L.length
 .rw[OJ,Dt (by omega),w64 (x:=(k:Int)+1) (by omega) (by omega),w64 (x:=(k:Int)+1 - 1) (by omega) (by omega),Xf,Dq (by omega),Xf,Dq (by omega)];generalize L.getD _ _=x;have hne:((n:Int) != 0)=true:=by simp;omega
  rw[hne,J8,J8];have h1:=Ht x (show(0:Int)<(n:Int) by omega);have h2: -(n:Int)<x.tmod (n:Int):=Int.lt_tmod_of_pos x (by omega);rw[w64 (x:=x.tmod (n:Int)+(n:Int)) (by omega) (by omega)];have h3:0<=(x.tmod (n:Int)+(n:Int)).tmod (n:Int):=Int.tmod_nonneg _ (by omega);have h4:=Ht (x.tmod (n:Int)+(n:Int)) (show(0:Int)<(n:Int) by omega);refine⟨_,rfl,h3,h4,k+1,by rw[show((k+1:Nat):Int)=(k:Int)+1 by omega],h⟩
 .rw[OJ,Dq (by omega)];exact⟨_,rfl,Ip _,by show(0:Int)<n;omega,k,rfl,hk⟩
def QK {α :Type} {P: α ->Prop} {l:List α} {d: α} {i:Int} (h: ∀ x∈l,P x) (h0:0<=i) (hi:i<(l.length:Int)):P (l.getD i.toNat d):=h _ (getD_mem d (by omega))
section
variable (N:Nat) (hN:1048578<N) {L:List Int} (hL:L.length<=9223372036854775807)
include hL
theorem nx {d:List Int×Int} (hd:KP L d) (n:Int) (h0:0<n) (h1:n<2147483648):Ends (fun r=>0<=r.1/\r.1<n/\KP L r.2) (JB N d n):=by
 have:=Am3 N hL hd n.toNat (by omega) (by omega)
 rw[show((n.toNat:Nat):Int)=n by omega]at this;exact this
def AwC (a:Att):Prop:=a.1.length<=40/\a.2.2.length<=40
instance (a:Att):Decidable (AwC a):=by unfold AwC;infer_instance
theorem AkK {d:List Int×Int} (hd:KP L d):Ends (fun r=>AwC r.1/\KP L r.2) (XV N d):=by
 unfold XV;try simp -zeta only[Ap]
 refine JO (nx N hL hd 12 (by omega) (by omega)) ?_;rintro ⟨r,d'⟩ ⟨h0,h1,h2⟩;dsimp only at h0 h1 h2 ⊢;refine JF (by simp;omega) (JF (by simp;omega) (JF (by simp;omega) (Lr ⟨?_,h2⟩)));exact QK (by decide) h0 h1
def nmS (n:List (List Att)):Prop:=n.length<=3/\OC n
include hN in
theorem Am2 {d:List Int×Int} (hd:KP L d):Ends (fun r=>nmS r.1/\KP L r.2) (kN N d):=by
 unfold kN;try simp only[clR]
 refine JO (nx N hL hd 4 (by omega) (by omega)) ?_;rintro ⟨r,d1,d2⟩ ⟨h0,h1,h2⟩;dsimp only at h0 h1 h2 ⊢;refine O9 (fun x=>0<=x.1/\x.1<4/\KP L (x.2.1,x.2.2.1)/\((x.2.2.2.length:Int)+x.1<=3)/\OC x.2.2.2) (fun x=>x.1.toNat) ?_ N _ ⟨h0,h1,h2,by simp;omega,fun r hr=>by cases hr⟩ (by dsimp only;omega);rintro ⟨t,a,b,acc⟩ ⟨g0,g1,g2,g3,g4⟩ k hk;dsimp only[U4]at g0 g1 g2 g3 g4 ⊢;refine Kv (fun ht=> ?_) (fun _=> ?_)
 .have ht:=DN ht;refine JO (nx N hL g2 5 (by omega) (by omega)) ?_;rintro ⟨r,e1,e2⟩ ⟨f0,f1,f2⟩;dsimp only at f0 f1 f2 ⊢
  have hw:i64.wrap (1+i64.wrap (r.tdiv 4))<=2/\0<=i64.wrap (1+i64.wrap (r.tdiv 4)):=by
   have:r=0\/r=1\/r=2\/r=3\/r=4:=by omega
   rcases this with rfl | rfl | rfl | rfl | rfl<;>decide
  refine O9 (fun x=>0<=x.1/\x.1<=2/\KP L (x.2.1,x.2.2.1)/\((x.2.2.2.1.length:Int)+x.1<=2)/\(∀ e∈x.2.2.2.1,YJ e)/\x.2.2.2.2=acc) (fun x=>x.1.toNat) ?_ N _ ⟨hw.2,hw.1,f2,by simp;omega,(fun r hr=>by cases hr),rfl⟩ (by dsimp only;omega);rintro ⟨t',a',b',acc',out⟩ ⟨p0,p1,p2,p3,p4,p5⟩ k' hk';dsimp only[U5]at p0 p1 p2 p3 p4 p5 ⊢;subst p5;refine Kv (fun ht'=> ?_) (fun _=> ?_)
  .have ht':=DN ht';refine JO (AkK N hL p2) ?_;rintro ⟨r,q1,q2⟩ ⟨z0,z1⟩;dsimp only at z0 z1 ⊢
   have taut:(decide ((0:Int)<(acc'.length:Int))||((acc'.length:Nat):Int)==0)=true:=by
    cases acc' with
    | nil=>rfl
    | cons x y=>rw[Dn (by rw[List.length_cons];omega)];rfl
   have Aot:(decide (0<acc'.length)||((acc'.length:Nat):Int)==0)=true:=by
    cases acc' with
    | nil=>rfl
    | cons x y=>rw[Dn (by rw[List.length_cons];omega)];rfl
   have hsm:YJ r:=⟨by have:=z0.1;omega,by have:=z0.2;omega⟩
   refine JF (by first | exact taut | exact Aot) (JF (by first | exact taut | exact Aot) (JF (by first | exact taut | exact Aot) ?_));refine Kv (fun _=> ?_) (fun _=> ?_)
   .refine JF (Dn (by omega)) (hk' _ ⟨?_,?_,z1,?_,?_,rfl⟩ ?_)
    .dsimp only;rw[w64 (by omega) (by omega)];omega
    .dsimp only;rw[w64 (by omega) (by omega)];omega
    .dsimp only;rw[w64 (by omega) (by omega),Dx];simp;omega
    .intro e he;rcases DR.1 he with he | he
     .exact p4 e he
     .rw[DY.1 he];exact hsm
    .dsimp only;rw[w64 (by omega) (by omega)];omega
   .refine hk' _ ⟨?_,?_,z1,?_,p4,rfl⟩ ?_
    .dsimp only;rw[w64 (by omega) (by omega)];omega
    .dsimp only;rw[w64 (by omega) (by omega)];omega
    .dsimp only;rw[w64 (by omega) (by omega)];omega
    .dsimp only;rw[w64 (by omega) (by omega)];omega
  .dsimp only[U4];refine JF (Dn (by omega)) (hk _ ⟨?_,?_,p2,?_,?_⟩ ?_)
   .dsimp only;rw[w64 (by omega) (by omega)];omega
   .dsimp only;rw[w64 (by omega) (by omega)];omega
   .dsimp only;rw[w64 (by omega) (by omega),Dx];simp;omega
   .intro e he;rcases DR.1 he with he | he
    .exact g4 e he
    .rw[DY.1 he];exact p4
   .dsimp only;rw[w64 (by omega) (by omega)];omega
 .dsimp only[U3];exact Lr ⟨⟨by dsimp only;omega,g4⟩,g2⟩
end
def ZR (N:Nat) {L:List Int} (hL:L.length<=9223372036854775807) {d:List Int×Int} (hd:KP L d) (n:Nat) (hn:0<n) (hn':n<2147483648): ∃(i:Nat) (d1:List Int×Int),JB N d (n:Int)=some ((i:Int),d1)/\i<n/\KP L d1:=by obtain⟨⟨x,d1⟩,h1,h2,h3,h4⟩:=Am3 N hL hd n hn hn';have h2:0<=x:=h2;have h3:x<(n:Int):=h3;refine⟨x.toNat,d1,?_,by omega,h4⟩;rw[h1,show((x.toNat:Nat):Int)=x by omega]
def AbP {α :Type} (l:List α) (a b:Nat):(J9 l a b).length=min b l.length - a:=by show((l.take b).drop a).length=_;rw[ED,DL]
def ArJ (x:Int):List.all ([u8.wrap x]:List Int) isByte=true:=by simp [kL]
def Aw9 (a:Nat) (h:a<256):JY .andNot .i64 (a:Int) 31=((a / 32*32:Nat):Int):=by
 have: ∀ a:Fin 256,JY .andNot .i64 ((a.val:Nat):Int) 31=((a.val / 32*32:Nat):Int):=by decide +kernel
 exact this ⟨a,h⟩
def AzP (a:Nat) (h:a<256):JY .and .i64 (a:Int) 224=((a / 32*32:Nat):Int):=by
 have: ∀ a:Fin 256,JY .and .i64 ((a.val:Nat):Int) 224=((a.val / 32*32:Nat):Int):=by decide +kernel
 exact this ⟨a,h⟩
def Tf (r k:Nat):(((r:Nat):Int)==((k:Nat):Int))=decide (r=k):=by
 by_cases h:r=k
 .simp [h]
 .simp [h];omega
def Dam (L:List Int) (n:Nat) (o:Option (Bs×List Int×Int)):Prop:= ∃(r:Bs) (d:List Int×Int),o=some (r,d)/\KP L d/\r.length<=n
def Dam.mono {L:List Int} {n m:Nat} {o:Option (Bs×List Int×Int)} (h:Dam L n o) (hm:n<=m):Dam L m o:=by obtain⟨r,d,h1,h2,h3⟩:=h;exact⟨r,d,h1,h2,by omega⟩
def Amd (N:Nat) {L:List Int} (hL:L.length<=9223372036854775807) {d:List Int×Int} (hd:KP L d) (s:Bs) (hs:s.length<=1073741824):Dam L (s.length+1) (Y6 N d s):=by
 unfold Y6;try simp -zeta only[Ap]
 by_cases h:s=[]
 .subst h;exact⟨[],d,rfl,hd,by simp⟩
 .have hp:=xI h;rw[Ajq,Du h,cond_false];obtain⟨i,d1,h1,hi,hd1⟩:=ZR N hL hd s.length hp (by omega);rw[h1,Js];dsimp only;obtain⟨x,d2,h2,hx,hd2⟩:=ZR N hL hd1 256 (by omega) (by omega);rw[show(256:Int)=((256:Nat):Int)from rfl,h2,Js];dsimp only;rw[ArJ,J8];obtain⟨k,d3,h3,hk,hd3⟩:=ZR N hL hd2 5 (by omega) (by omega);rw[show(5:Int)=((5:Nat):Int)from rfl,h3,Js];dsimp only;rw[w64 (x:=(i:Int)+1) (by omega) (by omega),show((i:Int)+1).toNat=i+1 by omega,show(i:Int).toNat=i from rfl];have hone:(List.map Vm.byteOf ([u8.wrap (x:Int)]:List Int)).length=1:=rfl;have c1:=AbP s 0 i;have c2:=AbP s (i+1) s.length;have c3:=AbP s i s.length;generalize List.map Vm.byteOf ([u8.wrap (x:Int)]:List Int)=one at hone ⊢;rw[show decide ((0:Int)<=(i:Int))=true from Dn (by omega),show decide ((i:Int)<=(s.length:Int))=true from Dn (by omega),show decide ((0:Int)<=(i:Int)+1)=true from Dn (by omega),show decide ((i:Int)+1<=(s.length:Int))=true from Dn (by omega)];simp only[J8];rw[show((k:Int)==0)=decide (k=0)from Tf k 0,show((k:Int)==1)=decide (k=1)from Tf k 1,show((k:Int)==2)=decide (k=2)from Tf k 2,show((k:Int)==3)=decide (k=3)from Tf k 3];simp only[OJ,Xf];by_cases k0:k=0
  .rw[Dq k0,Dq (by omega),Dq (by simp;omega)];exact⟨_,d3,rfl,hd3,by simp;omega⟩
  rw[Dt k0];by_cases k1:k=1
  .rw[Dq k1,Dq (by omega),Dq (by simp;omega)];exact⟨_,d3,rfl,hd3,by simp;omega⟩
  rw[Dt k1];by_cases k2:k=2
  .rw[Dq k2,Dq (by omega)];exact⟨_,d3,rfl,hd3,by simp;omega⟩
  rw[Dt k2];by_cases k3:k=3
  .rw[Dq k3];exact⟨_,d3,rfl,hd3,by omega⟩
  rw[Dt k3];exact⟨_,d3,rfl,hd3,by omega⟩
def wK (N t:Nat) (c:Bs) (ht:t<256) (h31:t % 32≠31) (hN:1<N) (hs:c.length<=140737488355328): ∃ r,JL N (t:Int) ([c]:List Bs)=some r/\r.length<=c.length+5:=by
 unfold JL;have hf:([c]:List Bs).flatten=c:=by simp
 rw[mQ N t [c] ht h31 (by simpa using hN) (by simp) (by rw[hf];exact hs),Js,hf];refine⟨_,rfl,?_⟩;show((TS t c).getD []).length<=_;unfold TS;split
 .exact Sp.Kw t c
 .simp
def AhA (N:Nat) {L:List Int} (hL:L.length<=9223372036854775807) {d:List Int×Int} (hd:KP L d) (s:Bs) (hs:s.length<=1073741824) (hN:1<N):Dam L (s.length+5) (QI N d s):=by
 unfold QI;try simp -zeta only[Ap]
 rw[OJ];by_cases h:s.length<2
 .rw[Dq (by omega)];exact⟨s,d,rfl,hd,by omega⟩
 .rw[Dt (by omega),show decide ((2:Int)<=(s.length:Int))=true from Dn (by omega),show decide ((0:Int)<(s.length:Int))=true from Dn (by omega)];simp only[J8];obtain⟨k,d1,h1,hk,hd1⟩:=ZR N hL hd 6 (by omega) (by omega);rw[show(6:Int)=((6:Nat):Int)from rfl,h1,Js];dsimp only;rw[show((k:Int)==0)=decide (k=0)from Tf k 0,show((k:Int)==1)=decide (k=1)from Tf k 1,show((k:Int)==2)=decide (k=2)from Tf k 2,show((k:Int)==3)=decide (k=3)from Tf k 3,show((k:Int)==4)=decide (k=4)from Tf k 4];simp only[OJ];have c2:=AbP s 2 s.length;have hb:(s.getD 0 0).toNat<256:=Hm _;by_cases k0:k=0
  .rw[Dq k0];obtain⟨j,d2,h2,hj,hd2⟩:=ZR N hL hd1 31 (by omega) (by omega);rw[show(31:Int)=((31:Nat):Int)from rfl,h2,Js];dsimp only;obtain⟨r,hr,hrl⟩:=wK N j (J9 s 2 s.length) (by omega) (by omega) hN (by omega);rw[hr,Js];exact⟨r,d2,rfl,hd2,by omega⟩
  rw[Dt k0];by_cases k1:k=1
  .rw[Dq k1,w64 (by omega) (by omega),Aw9 _ hb];obtain⟨r,hr,hrl⟩:=wK N ((s.getD 0 0).toNat / 32*32) (J9 s 2 s.length) (by omega) (by omega) hN (by omega);rw[hr,Js];exact⟨r,d1,rfl,hd1,by omega⟩
  rw[Dt k1];by_cases k2:k=2
  .rw[Dq k2,w64 (by omega) (by omega),AzP _ hb];obtain⟨r,hr,hrl⟩:=wK N ((s.getD 0 0).toNat / 32*32) [] (by omega) (by omega) hN (by simp);rw[hr,Js];exact⟨r,d1,rfl,hd1,by simp at hrl;omega⟩
  rw[Dt k2];by_cases k3:k=3
  .rw[Dq k3];obtain⟨x,d2,h2,hx,hd2⟩:=ZR N hL hd1 256 (by omega) (by omega);rw[show(256:Int)=((256:Nat):Int)from rfl,h2,Js];dsimp only;rw[ArJ,J8];exact⟨_,d2,rfl,hd2,by show 3<=_;omega⟩
  rw[Dt k3];by_cases k4:k=4
  .rw[Dq k4];exact⟨_,d1,rfl,hd1,by show 2<=_;omega⟩
  rw[Dt k4];obtain⟨r,d2,h2,hd2,hl⟩:=Amd N hL hd1 s hs;rw[h2,Js];exact⟨r,d2,rfl,hd2,by omega⟩
def A1d {s:Bs} (h:Sp.err s=0):Sp.tag s % 32≠31:=by
 intro h31;cases s with
 | nil=>unfold Sp.err Sp.rd Sp.head at h;simp at h
 | cons t r =>have h31':t.toNat % 32=31:=h31;unfold Sp.err Sp.rd Sp.head at h;simp [h31']at h
def Avn {l:List El} {i:Nat} (hi:i<l.length):((l.take i).map (·.2.2)).flatten.length+(l.getD i (0,[],[])).2.2.length=((l.take (i+1)).map (·.2.2)).flatten.length:=by rw[take_snoc hi,FC,FH,Dx];congr 1;rw[show l.getD i (0,[],[])=l[i] by simp [Dp,hi]];simp
def Ajw (l:List Bs) (i:Nat):(l.take i).flatten.length<=l.flatten.length:=by
 conv=>rhs;rw[<- FZ i l,FH,Dx]
 omega
def Asi (l:List El) (i:Nat):((l.take i).map (·.2.2)).flatten.length<=(l.map (·.2.2)).flatten.length:=by rw[List.map_take];exact Ajw _ i
set_option maxRecDepth 4000 in
def AuD (N:Nat) {L:List Int} (hL:L.length<=9223372036854775807) (hN:4<N): ∀(n:Nat) (s:Bs),s.length<n->s.length<N->s.length<=1048576-> ∀ d:List Int×Int,KP L d->Dam L (4*s.length+10) (Y7 N n d s):=by
 intro n
 induction n with
 | zero=>intro s h;omega
 | succ n ih =>
  intro s hn hsN hs d hd;show Dam L _ (Zw N (Y7 N n) d s);unfold Zw;try simp -zeta only[Ap]
  have hrep:=(AhA N hL hd s (by omega) (by omega)).mono (show s.length+5<=4*s.length+10 by omega);have hrep':Dam L (4*s.length+10) (Jq (QI N d s) fun r29=>some (r29.1,r29.2)):=by obtain⟨r,d',h1,h2,h3⟩:=hrep;rw[h1,Js];exact⟨r,d',rfl,h2,h3⟩
  rw[Xx N s hN (by omega),Js];simp only[Aji,ArL,AoN];by_cases h1:Sp.S9 s=0
  .have he:=(kR h1).1;have ho:KG s=(MO s,0):=by unfold KG;rw[Dq h1]
   rw[ho];dsimp only;rw[show((0:Int) != 0)=false from rfl,cond_false,Q3];split
   .exact hrep'
   .have hrd:=Sp.Ac3 s he;have hcl:=Sp.Aa8 s he;have hgl:=KC (Sp.content s);have hec:(MO s).2.1=Sp.content s:=rfl;rw[hec,QL N _ hN (by omega) (by omega),Js];have hcs:(Sp.content s).length+2<=s.length:=by omega
    generalize JG (Sp.content s)=q at hgl ⊢;by_cases h3:q.2=0
    .rw[Aex,Du (show ¬(q.2≠0)from fun h=>h h3),cond_false,AqQ,OJ];by_cases h4:q.1=[]
     .rw[Dq h4];exact hrep'
     .rw[Dt h4];have hql:=hgl.len;have hraws:=hgl.AxJ;obtain⟨j,d1,e1,hj,hd1⟩:=ZR N hL hd q.1.length (xI h4) (by omega);rw[e1,Js];dsimp only;obtain⟨m,d2,e2,hm,hd2⟩:=ZR N hL hd1 8 (by omega) (by omega);rw[show(8:Int)=((8:Nat):Int)from rfl,e2,Js];dsimp only;refine AjK (fun x=> ∃ i:Nat,x.2.1=(i:Int)/\i<=q.1.length/\KP L (x.2.2.1,x.2.2.2.1)/\x.2.2.2.2=(MO s)/\x.1.length<=((q.1.take i).map (·.2.2)).flatten.length+(if j<i then 3*(Sp.content s).length+10 else 0)) (fun x=>q.1.length - x.2.1.toNat) (Dam L (4*s.length+10)) ?_ N _ ⟨0,rfl,by omega,hd2,rfl,by simp⟩ (by show q.1.length - 0<N;omega);rintro ⟨acc,t,L1,k1,ee⟩ ⟨i,ht,hi,hdk,hee,hacc⟩ K hK;dsimp only at ht hdk hee hacc hK;subst ht;subst hee;have htake:=Asi q.1 i;dsimp only[U7,MO];rw[OJ];by_cases hlt:i<q.1.length
      .rw[Dq (by omega),show decide ((0:Int)<=(i:Int))=true from Dn (by omega),show decide ((i:Int)<(q.1.length:Int))=true from Dn (by omega),J8,J8,w64 (by omega) (by omega),show(i:Int).toNat=i from rfl];have hgood:=hgl.all _ (getD_mem ((0,[],[]):El) hlt);have hcon:=hgood.content;have hstep:=Avn hlt;have hnext:=Asi q.1 (i+1);generalize q.1.getD i (0,[],[])=e at hgood hcon hstep ⊢
       have add:i=j-> ∀(u:Bs) (L2:List Int) (k2:Int),KP L (L2,k2)->u.length<=4*e.2.2.length+10 ->
        Dam L (4*s.length+10) (Vm.chk (decide (acc.length+u.length<=140737488355328)) (K (acc++u,(i:Int)+1,L2,k2,(Sp.tag s:Int),Sp.content s,Sp.raw s))):=by
        intro hij u L2 k2 hdu hu;rw[Dt (by omega)]at hacc;rw[Xf,Dq (by omega)];refine hK _ ⟨i+1,by show(i:Int)+1=((i+1:Nat):Int);omega,by omega,hdu,rfl,?_⟩ (by show q.1.length - ((i:Int)+1).toNat<q.1.length - (i:Int).toNat;omega);show(acc++u).length<=_;rw[Dq (by omega),Dx];omega
       by_cases hij:i=j
       .rw[show((i:Int) != (j:Int))=false by rw[hij];simp,cond_false];rw[show((m:Int)==0)=decide (m=0)from Tf m 0,show((m:Int)==1)=decide (m=1)from Tf m 1,show((m:Int)==2)=decide (m=2)from Tf m 2,OJ,OJ,OJ];by_cases m0:m=0
        .rw[Dq m0,Xf,Dq (by omega)];exact add hij _ _ _ hdk (by rw[Dx];omega)
        rw[Dt m0];by_cases m1:m=1
        .rw[Dq m1];have:=add hij [] _ _ hdk (by simp);rw[Xf,Dq (by rw[Dt (by omega)]at hacc;simp;omega),DW]at this;exact this
        rw[Dt m1];by_cases m2:m=2
        .rw[Dq m2];obtain⟨r,d3,g1,g2,g3⟩:=AhA N hL hdk e.2.2 (by omega) (by omega);rw[g1,Js];exact add hij r d3.1 d3.2 g2 (by omega)
        rw[Dt m2];obtain⟨r,d3,g1,g2,g3⟩:=ih e.2.2 (by omega) (by omega) (by omega) _ hdk;rw[g1,Js];exact add hij r d3.1 d3.2 g2 g3
       .rw[show((i:Int) != (j:Int))=true by simp;omega,cond_true,Xf,Dq (by split at hacc<;>omega)];refine hK _ ⟨i+1,by show(i:Int)+1=((i+1:Nat):Int);omega,by omega,hdk,rfl,?_⟩ (by show q.1.length - ((i:Int)+1).toNat<q.1.length - (i:Int).toNat;omega);show(acc++e.2.2).length<=_;rw[Dx];by_cases hji:j<i
        .rw[Dq hji]at hacc;rw[Dq (by omega)];omega
        .rw[Dt hji]at hacc;rw[Dt (by omega)];omega
      .rw[Dt (by omega)];dsimp only[U6];obtain⟨r,g1,g2⟩:=wK N (Sp.tag s) acc (Ab0 s) (A1d he) (by omega) (by split at hacc<;>omega);rw[g1,Js];exact⟨r,_,rfl,hdk,by split at hacc<;>omega⟩
    .rw[Aex,Dn h3];exact hrep'
  .have ho:KG s=((0,[],[]),Sp.S9 s):=by unfold KG;rw[Dt h1]
   rw[ho];dsimp only;rw[Aex,Dn h1];exact hrep'
def Xt {X Y ρ :Type} {B:X->(X->Option ρ)->(Y->Option ρ)->Option ρ} {kx:Y->Option ρ} (mk:Nat->X) (n:Nat) (fin:Option ρ)
 (h: ∀ i,i<n-> ∀ k,B (mk i) k kx=k (mk (i+1))) (hend: ∀ k,B (mk n) k kx=fin) (N:Nat) (hN:n<N):J6 B N (mk 0) kx=fin :=
 Xj (S:=Unit) (fun i _=>mk i) n (fun _ s=>s) (fun _=>fin) (fun i _ hi k=>h i hi k) (fun _ k=>hend k) N () hN
def iI (n:List (List Att)):Prop:=n.length<=1048576/\ ∀ r∈n,r.length<=1048576
def Aaa (N:Nat) (n:List (List Att)) (hN:1048578<N) (hn:iI n):Pm N n n=some true:=by
 have h0:=hn.1;unfold Pm;try simp only[clR]
 simp (disch:=omega) only[J4];refine Xt (fun i=>((i:Int),n,n)) n.length (some true) ?_ ?_ N (by omega)
 .intro i hi k;have h1:=hn.2 _ (getD_mem [] hi);dsimp only[U3];simp (disch:=omega) only[J4];refine Xt (fun j=>((j:Int),n,n)) (n.getD i []).length (k (((i+1:Nat):Int),n,n)) ?_ ?_ N (by omega)
  .intro j hj k2;simp (disch:=omega) only[J4,Ep];rfl
  .intro k2;simp (disch:=omega) only[J4];rfl
 .intro k;simp (disch:=omega) only[J4]
def Axl {α :Type} (p: α ->Bool): ∀(l:List α) (b:Bool),l.foldl (fun s x=>s||p x) b=(b||l.any p):=by
 intro l
 induction l with
 | nil=>intro b;simp
 | cons x r ih=>intro b;rw[List.foldl_cons,ih,List.any_cons,Bool.or_assoc]
def AcZ (N:Nat) (n:List (List Att)) (hN:1048578<N) (hn:iI n):PZ N n n=some true:=by
 have h0:=hn.1;unfold PZ;try simp only[clR]
 simp (disch:=omega) only[J4];refine Xt (fun i=>((i:Int),n,n)) n.length (some true) ?_ ?_ N (by omega)
 .intro i hi k;have h1:=hn.2 _ (getD_mem [] hi);dsimp only[U3];simp (disch:=omega) only[J4];refine Xt (fun j=>((j:Int),n,n)) (n.getD i []).length (k (((i+1:Nat):Int),n,n)) ?_ ?_ N (by omega)
  .intro j hj k2;simp (disch:=omega) only[J4];generalize ha:(n.getD i []).getD j ([],0,[])=a;refine(Xj (S:=Bool) (fun m s=>(s,(m:Int),n,n,a.1,a.2.1,a.2.2)) (n.getD i []).length (fun m s=>s||(a.1==((n.getD i []).getD m ([],0,[])).1&&(a.2.1==((n.getD i []).getD m ([],0,[])).2.1&&(a.2.2==((n.getD i []).getD m ([],0,[])).2.2&&true)))) (fun s=>bif !s then some false else k2 (((j+1:Nat):Int),n,n)) ?_ ?_ N false (by omega)).trans ?_
   .intro m s hm k3;simp (disch:=omega) only[J4];rfl
   .intro s k3;simp (disch:=omega) only[J4];rfl
   .rw[Axl,EI,FU.2 ⟨j,EP.2 hj,by rw[ha];simp⟩];rfl
  .intro k2;simp (disch:=omega) only[J4];rfl
 .intro k;simp (disch:=omega) only[J4]
def jD (l:List Gn):Prop:=l.length<=1048576/\ ∀ g∈l,iI g.2.2
def Tt (N:Nat) (l:List Gn) (hN:1048578<N) (hl:jD l):LC N l l=some true:=by
 have h0:=hl.1;unfold LC;try simp only[clR]
 simp (disch:=omega) only[J4];refine Xt (fun i=>(i:Int)) l.length (some true) ?_ ?_ N (by omega)
 .intro i hi k;have h1:=Aaa N _ hN (hl.2 _ (getD_mem (0,[],[]) hi));simp (disch:=omega) only[J4,h1,Ep,DX,Option.isSome_some,Option.getD_some];rfl
 .intro k;simp (disch:=omega) only[J4]
def Ui (N:Nat) (l:List Gn) (hN:1048578<N) (hl:jD l):MI N l l=some true:=by
 have h0:=hl.1;unfold MI;try simp only[clR]
 simp (disch:=omega) only[J4];refine Xt (fun i=>(i:Int)) l.length (some true) ?_ ?_ N (by omega)
 .intro i hi k;have h1:=AcZ N _ hN (hl.2 _ (getD_mem (0,[],[]) hi));simp (disch:=omega) only[J4,h1,Ep,DX,Option.isSome_some,Option.getD_some];rfl
 .intro k;simp (disch:=omega) only[J4]
def Al0 (p:Pt):Prop:=jD p.1/\iI p.2.2.2
def aJ (N:Nat) (l:List Pt) (hN:1048578<N) (hl:l.length<=1048576) (hp: ∀ p∈l,Al0 p):NJ N l l=some true:=by
 unfold NJ;try simp only[clR]
 simp (disch:=omega) only[J4];refine Xt (fun i=>(i:Int)) l.length (some true) ?_ ?_ N (by omega)
 .intro i hi k;have hh:=hp _ (getD_mem ([],0,false,[]) hi);have h1:=Ui N _ hN hh.1;have h2:=AcZ N _ hN hh.2;simp (disch:=omega) only[J4,h1,h2,Ep,DX,Option.isSome_some,Option.getD_some];rfl
 .intro k;simp (disch:=omega) only[J4]
def rV (N:Nat) (l:List Pt) (hN:1048578<N) (hl:l.length<=1048576) (hp: ∀ p∈l,Al0 p):Py N l l=some true:=by
 unfold Py;try simp only[clR]
 rw[aJ N l hN hl hp];simp (disch:=omega) only[J4];refine Xt (fun i=>(i:Int)) l.length (some true) ?_ ?_ N (by omega)
 .intro i hi k;have hh:=hp _ (getD_mem ([],0,false,[]) hi);have h1:=Tt N _ hN hh.1;have h2:=Aaa N _ hN hh.2;simp (disch:=omega) only[J4,h1,h2,Ep,DX,Option.isSome_some,Option.getD_some];rfl
 .intro k;simp (disch:=omega) only[J4]
def AxL (e:El) (he:e.2.1.length<=1048576):(VI e).1.length<=1048576:=by
 have hg:Good 1048576 (JG e.2.1).1:=(KC e.2.1).mono he;have hz: ∀ x:Int,(([],x):List Att×Int).1.length<=1048576:=fun x=>by show 0<=_;omega
 refine KH (P:=fun r:List Att×Int=>r.1.length<=1048576) (hz _) fun _=> ?_;refine KH (P:=fun r:List Att×Int=>r.1.length<=1048576) (hz _) fun _=> ?_;refine KH (P:=fun r:List Att×Int=>r.1.length<=1048576) (hz _) fun _=> ?_;refine KH (P:=fun r:List Att×Int=>r.1.length<=1048576) (hz _) fun _=> ?_;show((JG e.2.1).1.map _).length<=_;rw[D7];exact hg.len
def AlE (r:List (List Att)×Int):Prop:=iI r.1
def Sr:iI []:=⟨DF _,fun r h=>(by cases h)⟩
def Ax6 (s:Bs) (hs:s.length<=1048576):iI (nmD s).1:=by
 have hc:=Qe s;have hg:Good 1048576 (JG (KG s).1.2.1).1:=(KC _).mono (by omega);have hz: ∀ x:Int,AlE ([],x):=fun x=>Sr;refine KH (P:=AlE) (hz _) fun _=>KH (P:=AlE) (hz _) fun _=>KH (P:=AlE) (hz _) fun _=>KH (P:=AlE) (hz _) fun _=>KH (P:=AlE) (hz _) fun _=>⟨?_,fun r hr=> ?_⟩
 .show((JG (KG s).1.2.1).1.map _).length<=_;rw[D7];exact hg.len
 .obtain⟨x,hx,rfl⟩:=DD.1 hr;exact AxL x (by have:=(hg.all x hx).content;omega)
def Apu (g:Gn) (c:Bool) (h:iI g.2.2):iI (gnC g c).1.2.2:=by
 unfold gnC;cases LZ g c != 0 with
 | true=>exact Sr
 | false=>exact h
def Apv (e:El) (c:Bool) (he:e.2.1.length<=1048576):iI (gnD e c).1.2.2:=by
 unfold gnD;cases e.1==129||e.1==130||e.1==135 with
 | true=>exact Apu _ _ Sr
 | false =>
  cases e.1==164 with
  | false=>exact Sr
  | true =>
   cases (nmD e.2.1).2 != 0 with
   | true=>exact Sr
   | false=>exact Apu _ _ (Ax6 _ he)
def ApW (r:List Gn×Int):Prop:=jD r.1
def TE:jD []:=⟨DF _,fun r h=>(by cases h)⟩
def Acd (s:Bs) (hs:s.length<=1048576):jD (Ou s).1:=by
 have hg:Good 1048576 (JG s).1:=(KC s).mono hs;have hz: ∀ x:Int,ApW ([],x):=fun x=>TE;refine KH (P:=ApW) (hz _) fun _=>KH (P:=ApW) (hz _) fun _=>KH (P:=ApW) (hz _) fun _=>KH (P:=ApW) (hz _) fun _=>⟨?_,fun r hr=> ?_⟩
 .show((JG s).1.map _).length<=_;rw[D7];exact hg.len
 .obtain⟨x,hx,rfl⟩:=DD.1 hr;exact Apv x false (by have:=(hg.all x hx).content;omega)
def Avf (s:Bs) (hs:s.length<=1048576):iI (gZ s).1:=by
 have h:=(Acd s hs).2;unfold gZ;cases (Ou s).2 != 0 with
 | true=>exact Sr
 | false =>
  cases hb:((Ou s).1.length:Int) != 1||((Ou s).1.getD 0 (0,[],[])).1 != 4 with
  | true=>exact Sr
  | false =>
   rw[EN]at hb;have h1:(Ou s).1.length=1:=by have:=hb.1;simp at this;omega
   exact h _ (getD_mem (0,[],[]) (by omega))
def Awq {l:List El} (hg:Good 1048576 l):jD (st1 l).1:=by
 unfold st1;cases h1:(JU l 160).2.1 with
 | false=>exact TE
 | true =>
  have hl1:=RH hg 160 h1;have ho:=Nr (JU l 160).1.2.1 160;cases (KD (JU l 160).1.2.1 160).2 != 0 with
  | true=>exact TE
  | false=>exact Acd _ (by omega)
def AxU {l:List El} (hg:Good 1048576 l):iI (st3 l).1.2:=by
 unfold st3;cases h1:(JU l 162).2.1 with
 | false=>exact Sr
 | true =>
  have hl1:=RH hg 162 h1;cases (gZ (JU l 162).1.2.1).2 != 0 with
  | true=>exact Sr
  | false=>exact Avf _ hl1
def qI:Al0 zP:=⟨TE,Sr⟩
def AxF {l:List El} (hg:Good 1048576 l):Al0 (ptD l).1:=by
 unfold ptD;cases (st1 l).2 != 0 with
 | true=>exact qI
 | false =>
  cases (st2 (r1 l)).2 != 0 with
  | true=>exact qI
  | false =>
   cases (st3 (r2 l)).2 != 0 with
   | true=>exact qI
   | false =>
    cases decide (r3 l≠ [])with
    | true=>exact qI
    | false=>exact⟨Awq hg,AxU (Ag0 hg)⟩
def Axb {e:El} (he:e.2.1.length<=1048576):Al0 (elD e).1:=by
 unfold elD;cases e.1 != 48 with
 | true=>exact qI
 | false =>
  cases (JG e.2.1).2 != 0 with
  | true=>exact qI
  | false=>exact AxF ((KC e.2.1).mono he)
def zD (r:List Pt×Int):Prop:=r.1.length<=1048576/\ ∀ p∈r.1,Al0 p
def AmE (s:Bs) (hs:s.length<=1048576):zD (Z4 s):=by
 have hlo:=Nr s 48;have hg:Good 1048576 (JG (KD s 48).1.2.1).1:=(KC _).mono (by omega);have hz: ∀ x:Int,zD ([],x):=fun x=>⟨DF _,fun r h=>(by cases h)⟩
 refine KH (P:=zD) (hz _) fun _=>KH (P:=zD) (hz _) fun _=> ?_;refine KH (P:=zD) (hz _) fun _=>KH (P:=zD) (hz _) fun _=>KH (P:=zD) (hz _) fun _=>⟨?_,fun r hr=> ?_⟩
 .show((JG (KD s 48).1.2.1).1.map _).length<=_;rw[D7];exact hg.len
 .obtain⟨x,hx,rfl⟩:=DD.1 hr;exact Axb (by have:=(hg.all x hx).content;omega)
end Go.Proofs.YtakmjgnpefmjhaaGreatDoor.Pl
