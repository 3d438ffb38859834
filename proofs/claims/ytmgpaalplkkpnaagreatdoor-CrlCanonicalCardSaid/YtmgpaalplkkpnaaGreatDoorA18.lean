import Derived.Test.YtmgpaalplkkpnaaGreatDoorA17
import Derived.Sort.Walk0
set_option linter.all false
namespace Go.Proofs.YtmgpaalplkkpnaaGreatDoor.Pl
open IntKind (i64 u8 u32 u64)
open Go Vm
def leB (a b:Bs):Bool:=Vm.bytesLess a b||a==b
def Axj (a b:Bs):leB a b=decide (a<=b):=by
 unfold leB Vm.bytesLess;rw[bytesLess_eq];by_cases h:a=b
 .subst h;rw[ET,EF];exact(Di (List.le_refl a)).symm
 .rw[EP h,FP];by_cases h2:a<b
  .rw[Di h2,Di (List.le_of_lt h2)]
  .rw[Dw h2,Dw];intro h3;exact h (Jp h3 (by simpa using h2))
def VP (x:Bs):List Bs->List Bs
 | []=>[x]
 | y::r=>bif leB y x then y::VP x r else x::y::r
def Abw (x:Bs): ∀ s:List Bs,(VP x s).Perm (x::s):=by
 intro s
 induction s with
 | nil=>exact IE _
 | cons y r ih =>
  show(bif leB y x then y::VP x r else x::y::r).Perm _;cases leB y x with
  | true=>exact(List.Perm.cons y ih).trans (List.Perm.swap x y r)
  | false=>exact IE _
def Azq (x:Bs): ∀ s:List Bs,s.Pairwise (fun a b=>a<=b)->(VP x s).Pairwise (fun a b=>a<=b):=by
 intro s
 induction s with
 | nil=>intro _;exact Gx _ _
 | cons y r ih =>
  intro h;rw[EK]at h;show(bif leB y x then y::VP x r else x::y::r).Pairwise _;cases hl:leB y x with
  | true =>
   rw[Axj,D5]at hl;rw[cond_true,EK];refine⟨fun z hz=> ?_,ih h.2⟩;rcases D7.1 ((Abw x r).mem_iff.1 hz)with rfl | hz
   .exact hl
   .exact h.1 z hz
  | false =>
   rw[Axj,EG]at hl
   have hxy:x<=y:=by
    rcases List.le_total x y with h | h
    .exact h
    .exact absurd h hl
   rw[cond_false,EK,EK];refine⟨fun z hz=> ?_,h⟩;rcases D7.1 hz with rfl | hz
   .exact hxy
   .exact List.le_trans hxy (h.1 z hz)
def Ap0: ∀(l s:List Bs),s.Pairwise (fun a b=>a<=b)->(l.foldl (fun s x=>VP x s) s).Pairwise (fun a b=>a<=b)/\(l.foldl (fun s x=>VP x s) s).Perm (l++s):=by
 intro l
 induction l with
 | nil=>intro s h;exact⟨h,IE _⟩
 | cons x r ih =>intro s h;obtain⟨h1,h2⟩:=ih (VP x s) (Azq x s h);refine⟨h1,h2.trans ?_⟩;exact((Abw x s).append_left r).trans List.perm_middle
def AhI (l:List Bs):(l.foldl (fun s x=>VP x s) []).flatten=Q8 l:=by
 unfold Q8;congr 1;obtain⟨h1,h2⟩:=Ap0 l [] List.Pairwise.nil;rw[DX]at h2;refine List.Perm.eq_of_pairwise (le:=fun a b=>a<=b) (fun a b _ _ h3 h4=>Jp h3 h4) h1 ?_ (h2.trans (H9 l _).symm)
 have:=List.pairwise_mergeSort (le:=fun x y:Bs=>decide (x<=y)) (fun a b c h3 h4=>by
  rw[D5]at *
  exact List.le_trans h3 h4) (fun a b=>by
  rw[EE,D5,D5];exact List.le_total a b) l
 exact this.imp (fun h=>by simpa using h)
def A1C (x:Bs): ∀ s:List Bs,s.take (s.findIdx fun y=> !leB y x)++x::s.drop (s.findIdx fun y=> !leB y x)=VP x s:=by
 intro s
 induction s with
 | nil=>rfl
 | cons y r ih =>
  rw[Jj];show _=bif leB y x then y::VP x r else x::y::r;cases leB y x with
  | true=>rw[EI,cond_false,cond_true,List.take_succ_cons,Ia,List.cons_append,ih]
  | false=>rfl
def AlN (N:Nat) (l:List Bs) (hN:1048578<N) (hl:l.length<=1048576) (hf:l.flatten.length<=1099511627776):fE N l=some (Q8 l):=by
 unfold fE;try simp only[clR]
 refine(wF (S:=List Bs) (R:=Unit) (mk:=fun i s=>((i:Int),s)) l [] (fun i s=>s.length=i/\s=(l.take i).foldl (fun s x=>VP x s) []) (fun x s=>.inr (VP x s)) (fun _=>none) (fun s=>some s.flatten) ?_ ?_ ?_ N [] ⟨rfl,rfl⟩ (by omega)).trans ?_
 .intro i s hi hI k;obtain⟨hs,_⟩:=hI;have hp:(VP (l.getD i []) s).length=i+1:=by rw[(Abw _ s).length_eq,List.length_cons,hs]
  simp (disch:=omega) only[JH];refine(AzZ (mk:=fun j=>((j:Int),s)) (out:=fun j=>((j:Int),s)) s [] (fun y=> !leB y (l.getD i [])) ?_ ?_ N (by omega)).trans ?_
  .intro j k hj;simp (disch:=omega) only[JH,KX];unfold leB;cases (Vm.bytesLess (s.getD j []) (l.getD i [])||s.getD j []==l.getD i [])<;>rfl
  .intro k;simp (disch:=omega) only[JH]
  .have hc:=A1C (l.getD i []) s;have hle:(s.findIdx fun y=> !leB y (l.getD i []))<=s.length:=List.findIdx_le_length;generalize (s.findIdx fun y=> !leB y (l.getD i []))=m at hc hle;have hc1:JD s 0 m=s.take m:=rfl;have hc2:JD s m s.length=s.drop m:=by unfold JD;rw[ED]
   have hl1:(s.take m).length=m:=by rw[Eb];omega
   have hl2:(s.drop m).length=s.length - m:=Ew ..;have hl3:(s.take m++[l.getD i []]).length=m+1:=by rw[Dp,hl1];rfl
   simp (disch:=omega) only[JH,hc1,hc2,hl1,hl2,hl3,KX];rw[DZ,List.singleton_append,hc]
 .intro i s s' hi hI he;injection he with he;subst he;refine⟨by rw[(Abw _ s).length_eq,List.length_cons,hI.1],?_⟩;rw[hI.2,FO,DD hi,Ik,getD_lt l i _ hi];rfl
 .intro s k hI
  have hp:s.flatten.length<=1099511627776:=by
   have:=(Ap0 l [] List.Pairwise.nil).2;rw[DX]at this;have h2:=hI.2;rw[ED]at h2;rw[<- h2]at this;have h3:=(this.map List.length).sum_nat
   rw[Gw]at hf ⊢;omega
  have hsl:=hI.1;simp (disch:=omega) only[JH];refine(yZ (mk:=fun i t=>(t,(i:Int),s)) s [] id some ?_ ?_ N).trans ?_
  .intro i t hi ht k;rw[Gp]at ht;have ht:t.length+(s.getD i []).length<=s.flatten.length:=ht;simp (disch:=omega) only[JH,KX];rfl
  .intro t k;simp (disch:=omega) only[JH]
  .rw[Gp]
 .have: ∀(l s:List Bs),RG (R:=Unit) (fun x (s:List Bs)=>.inr (VP x s)) l s= .inr (l.foldl (fun s x=>VP x s) s):=by
   intro l
   induction l with
   | nil=>intro s;rfl
   | cons x r ih=>intro s;rw[QF];exact ih _
  rw[this,AkD,AhI]
def len0 {α :Type} (l:List α):(((l.length:Nat):Int)==0)=l.isEmpty:=by
 cases l with
 | nil=>rfl
 | cons a r=>exact EP (by rw[List.length_cons];omega)
def AyP (n k:Nat):decide ((n:Int)>(k:Int))=decide (k<n):=by congr 1;apply propext;omega
def OE (l:List Gn):Prop:= ∀ g∈l,aN g
def ZA (l:List Gn) (c:Bool):Int:=KW (fun g=>P6 g c) l
def zC (N:Nat) (l:List Gn) (hN:1048578<N) (hl:l.length<=1048576) (hs:OE l):O9 N l=some (ZA l false):=by
 unfold O9;try simp -zeta only[Ap]
 refine(AdR (mk:=fun i=>(i:Int)) l (0,[],[]) (fun g=>P6 g false) some (some 0) ?_ ?_ N (by omega)).trans (first_some _)
 .intro i hi k;have h:=TQ N (l.getD i (0,[],[])) false hN (hs _ (getD_mem _ hi));simp (disch:=omega) only[JH,h,KX]
 .intro k;simp (disch:=omega) only[JH]
abbrev Pt:Type:=List Gn×Int×Bool×List (List Att)
def Qr (p:Pt):Prop:=OE p.1/\Ua p.2.2.2/\ -9223372036854775808<=p.2.1/\p.2.1<=9223372036854775807
def ptI (p:Pt):Int :=
 bif (p.1.isEmpty&& !p.2.2.1)||(!p.2.2.2.isEmpty&& !p.2.2.1)then 7
 else bif JF .andNot .i64 p.2.1 510 != 0 then 1
 else bif decide (16<p.1.length)then 2
 else bif ZA p.1 false != 0 then ZA p.1 false
 else bif !p.2.2.1 then 0
 else bif p.2.2.2.isEmpty then 14 else RI p.2.2.2
def zF (N:Nat) (p:Pt) (hN:1048578<N) (hs:Qr p):OA N p=some (ptI p):=by
 obtain⟨g,r,b,n⟩:=p;have hg:OE g:=hs.1;have hn:Ua n:=hs.2.1;unfold OA ptI;try simp only[clR]
 simp only[KC,U5,len0,Alr];have e: ∀ x y:Bool,(bif x then(bif x then some (7:Int)else none)else none)=(bif x then some 7 else none):=fun x y=>by cases x<;>rfl
 rw[show decide (((g.length:Nat):Int)>16)=decide (16<g.length)from AyP _ 16];cases g.isEmpty&& !b with
 | true=>rfl
 | false =>
  rw[cond_false,F7];cases (!n.isEmpty&& !b)with
  | true=>rfl
  | false =>
   rw[cond_false,cond_false];cases JF .andNot .i64 r 510 != 0 with
   | true=>rfl
   | false =>
    rw[cond_false,cond_false];by_cases h16:16<g.length
    .rw[Di h16];rfl
    .rw[Dw h16,cond_false,cond_false,zC N g hN (by omega) hg,Jt,Sj N n hN hn,Jt,Lr,Lr,Lr]
def Ti (N:Nat) (l:List Pt) (hN:1048578<N) (hs: ∀ p∈l,Qr p):MM N l=some (bif decide (4<l.length)then 2 else KW ptI l):=by
 unfold MM;try simp -zeta only[Ap]
 rw[show decide (((l.length:Nat):Int)>4)=decide (4<l.length)from AyP _ 4];by_cases h4:4<l.length
 .rw[Di h4];rfl
 .rw[Dw h4,cond_false,cond_false];refine(AdR (mk:=fun i=>(i:Int)) l ([],0,false,[]) ptI some (some 0) ?_ ?_ N (by omega)).trans (first_some _)
  .intro i hi k;have h:=zF N (l.getD i ([],0,false,[])) hN (hs _ (getD_mem _ hi));simp (disch:=omega) only[JH,h,KX]
  .intro k;simp (disch:=omega) only[JH]
def Ara (s:Bs):Bool:=(Oq s).isSome
def jA (s:Bs):Prop:=s.length<=1048576
def Aqd (N:Nat) (s:Bs) (hN:1048578<N) (hs:jA s):Uh N s=some (Ara s):=(Aku N s (by omega) hs (by unfold jA at hs;omega)).1
def A3C (m:Bs×Bs):Prop:=jA m.1/\jA m.2
abbrev Ex:Type:=Bs×Bool×Bs
def NH (x:Ex):Prop:=jA x.1/\jA x.2.2
abbrev Info:Type:=Bool×Bool×Int×Int×List Bs×List Bs×List (Bs×Bs)×Int×Int×Int×List Gn×Bool×List Gn×List Gn×Bs×Bs×List Pt×List Pt×List Ex
def rF (l:List Pt):Int:=bif decide (4<l.length)then 2 else KW ptI l
structure A4J (x:Info):Prop where
 pu:x.2.2.2.2.1.length<=1048576/\ ∀ s∈x.2.2.2.2.1,jA s
 po:x.2.2.2.2.2.1.length<=1048576/\ ∀ s∈x.2.2.2.2.2.1,jA s
 ma: ∀ s∈x.2.2.2.2.2.2.1,A3C s
 na:OE x.2.2.2.2.2.2.2.2.2.2.1
 pe:OE x.2.2.2.2.2.2.2.2.2.2.2.2.1
 ex:OE x.2.2.2.2.2.2.2.2.2.2.2.2.2.1
 pt: ∀ p∈x.2.2.2.2.2.2.2.2.2.2.2.2.2.2.2.2.1,Qr p
 fr: ∀ p∈x.2.2.2.2.2.2.2.2.2.2.2.2.2.2.2.2.2.1,Qr p
 un:x.2.2.2.2.2.2.2.2.2.2.2.2.2.2.2.2.2.2.length<=1048576/\ ∀ p∈x.2.2.2.2.2.2.2.2.2.2.2.2.2.2.2.2.2.2,NH p
def Arb {t:Nat} {c:Bs} (h:c.length<=131072):NM t c=some (Sp.elem t c):=by unfold NM;rw[Dn h]
def Ail (N t:Nat) (l:List Bs) (ht:t<256) (h31:t % 32≠31) (hN:1048578<N) (hl:l.length<=1000) (hs:l.flatten.length<=131072):KD N (t:Int) l=some (Sp.elem t l.flatten,0):=by rw[fM N t l ht h31,Arb hs];rfl
def Aip (N t:Nat) (b:Bool) (l:List Bs) (ht:t<256) (h31:t % 32≠31) (hN:1048578<N) (hl:l.length<=1000) (hs:l.flatten.length<=131072):JU N b (t:Int) l=some (Sp.elem t l.flatten,b):=by rw[Ak0 N t b l ht h31,Arb hs];simp
def RD (a:Bs): [a].flatten=a:=by simp
def A0I (a b:Bs): [a,b].flatten=a++b:=by simp
def flat3 (a b c:Bs): [a,b,c].flatten=a++(b++c):=by simp
def qR (s:Bs):Bs:=(encR (Oq s)).1
def Ata {s:Bs} (h:Ara s=true):encR (Oq s)=(qR s,0)/\(qR s).length<=60:=by
 unfold Ara at h;unfold qR;cases ha:Oq s with
 | none=>rw[ha]at h;cases h
 | some l =>refine⟨rfl,?_⟩;obtain⟨h1,h2,h3,h4⟩:=AaR ha;show((AdL l).map UInt8.ofNat).length<=60;have hf:=(Ahq h1 h3 h4).1;have hs:(sJ (40*l.getD 0 0+l.getD 1 0)).length<=5:=AbZ _ hf;have hr:=Azf sJ 5 (l.drop 2) (fun x hx=>AbZ x (by have:=h3 x (GI hx);omega));unfold AdL;rw[Dz,Dp];rw[Ew]at hr;omega
def Aix (e:Att):Prop:=Ara e.1=true/\(e.2.1=12\/e.2.1=19\/e.2.1=22)/\e.2.2.length<=64
def A0t {k:Int} {v:Bs} (h:kP k v=true):k=12\/k=19\/k=22:=by
 unfold kP at h;by_cases h1:k=12
 .exact .inl h1
 .rw[Dk h1]at h;by_cases h2:k=19
  .exact .inr (.inl h2)
  .rw[Dk h2]at h;by_cases h3:k=22
   .exact .inr (.inr h3)
   .rw[Dk h3]at h;cases h
def A1e {e:Att} {s:List Att} (h:YO e s=0):Aix e/\kP e.2.1 e.2.2=true/\e.2.2≠ []/\s.any (fun x=>x.1==e.1)=false:=by
 unfold YO at h;by_cases h1:Oq e.1=none
 .rw[Dn h1]at h;cases h
 .rw[Dk h1]at h;by_cases h2:e.2.2=[]\/kP e.2.1 e.2.2=false
  .rw[Dn h2]at h;cases h
  .rw[Dk h2]at h;by_cases h3:64<e.2.2.length
   .rw[Dn h3]at h;cases h
   .rw[Dk h3]at h
    have ht:kP e.2.1 e.2.2=true:=by
     cases hq:kP e.2.1 e.2.2 with
     | true=>rfl
     | false=>exact absurd (Or.inr hq) h2
    refine⟨⟨?_,A0t ht,by omega⟩,ht,fun hn=>h2 (Or.inl hn),?_⟩
    .unfold Ara;cases hq:Oq e.1 with
     | none=>exact absurd hq h1
     | some l=>rfl
    .cases hq:s.any (fun x=>x.1==e.1)with
     | false=>rfl
     | true=>rw[hq,Dn rfl]at h;cases h
def AxM {r:List Att} (h:dN r=0):r≠ []/\r.length<=4/\ ∀ e∈r,Aix e:=by
 unfold dN at h;by_cases h1:r=[]
 .rw[Dn h1]at h;cases h
 .rw[Dk h1]at h;by_cases h2:4<r.length
  .rw[Dn h2]at h;cases h
  .rw[Dk h2]at h;refine⟨h1,by omega,?_⟩;unfold Avs at h
   have: ∀(l s:List Att),(RV bF (fun _=>some (0:Int)) l s).getD 0=0-> ∀ e∈l,Aix e:=by
    intro l
    induction l with
    | nil=>intro s _ e he;cases he
    | cons x t ih =>
     intro s hs e he;unfold RV bF at hs;by_cases hx:YO x s=0
     .rw[Dn hx]at hs;rcases D7.1 he with rfl | he
      .exact(A1e hx).1
      .exact ih _ hs e he
     .rw[Dk hx]at hs;exact absurd hs hx
   exact this r [] h
def ApV {n:List (List Att)} (h:RI n=0):n.length<=8/\ ∀ r∈n,dN r=0:=by
 unfold RI Ab7 at h;by_cases h8:8<n.length
 .rw[Dn h8]at h;cases h
 .rw[Dk h8]at h;refine⟨by omega,?_⟩
  have: ∀(l:List (List Att)) (s:Unit),(RV qQ (fun _=>some (0:Int)) l s).getD 0=0-> ∀ e∈l,dN e=0:=by
   intro l
   induction l with
   | nil=>intro s _ e he;cases he
   | cons x t ih =>
    intro s hs e he;unfold RV qQ at hs;by_cases hx:dN x=0
    .rw[Dn hx]at hs;rcases D7.1 he with rfl | he
     .exact hx
     .exact ih _ hs e he
    .rw[Dk hx]at hs;exact absurd hs hx
  exact this n () h
def oH (e:Att):Bs:=Sp.elem 48 (Sp.elem 6 (qR e.1)++Sp.elem e.2.1.toNat e.2.2)
def Ay1 {e:Att} (h:Aix e):(oH e).length<=139:=by
 have h1:=(Ata h.1).2;have h2:=h.2.2;unfold oH;have:=Sp.JM 48 (Sp.elem 6 (qR e.1)++Sp.elem e.2.1.toNat e.2.2);have:=Sp.JM 6 (qR e.1);have:=Sp.JM e.2.1.toNat e.2.2;rw[Dp]at *
 omega
def AbK (r:List Att):Bs:=Sp.elem 49 (Q8 (r.map oH))
def AmL (l:List Bs):(Q8 l).length=l.flatten.length:=by unfold Q8;rw[Gw,Gw];exact((H9 l _).map _).sum_nat
def Aqx {r:List Att} (h:dN r=0):(AbK r).length<=561/\(r.map oH).flatten.length<=556:=by obtain⟨_,h4,ha⟩:=AxM h;have h1:=Oo (g:=oH) (M:=139) (l:=r) (fun e he=>Ay1 (ha e he));have h2:=Sp.JM 49 (Q8 (r.map oH));have h3:=AmL (r.map oH);unfold AbK;omega
def nmB (n:List (List Att)):Bs:=Sp.elem 48 (n.map AbK).flatten
def Al6 {n:List (List Att)} (h:RI n=0):(nmB n).length<=4493/\(n.map AbK).flatten.length<=4488:=by obtain⟨h8,hr⟩:=ApV h;have h1:=Oo (g:=AbK) (M:=561) (l:=n) (fun e he=>(Aqx (hr e he)).1);have h2:=Sp.JM 48 (n.map AbK).flatten;unfold nmB;omega
def Azv {k:Int} (h:k=12\/k=19\/k=22):k=(k.toNat:Int)/\k.toNat<256/\k.toNat % 32≠31:=by omega
def AdM (N:Nat) (e:Att) (hN:1048578<N) (hs:XI e) (h:Aix e):MQ N e=some (oH e,0):=by obtain⟨o1,o2⟩:=Ata h.1;obtain⟨k1,k2,k3⟩:=Azv h.2.1;have h64:=h.2.2;have l1:=Sp.JM 6 (qR e.1);have l2:=Sp.JM e.2.1.toNat e.2.2;have w1:KD N 6 [qR e.1]=_:=Ail N 6 [qR e.1] (by omega) (by omega) hN (by simp) (by rw[RD];omega);have w2:=Ail N e.2.1.toNat [e.2.2] k2 k3 hN (by simp) (by rw[RD];omega);have w3:KD N 48 [Sp.elem 6 (qR e.1),Sp.elem e.2.1.toNat e.2.2]=_:=Ail N 48 [Sp.elem 6 (qR e.1),Sp.elem e.2.1.toNat e.2.2] (by omega) (by omega) hN (by simp) (by rw[A0I,Dp];omega);rw[RD]at w1 w2;rw[A0I]at w3;rw[<- k1]at w2;unfold MQ;rw[Acz N e.1 (by omega) hs.1,o1];simp only[Jt];rw[w1,Jt,w2,Jt,w3,Jt];rfl
def AxU {n:List (List Att)} (h:Ua n) {i:Nat} (hi:i<n.length): ∀ e∈n.getD i [],XI e:=fun e he=>h _ (getD_mem [] hi) e he
def uU (N:Nat) (n:List (List Att)) (hN:1048578<N) (hs:Ua n):QZ N n=some (bif RI n != 0 then([],RI n)else(nmB n,0)):=by
 unfold QZ;try simp only[clR]
 rw[Sj N n hN hs,Jt,<- Lr];refine OQ fun h0=> ?_;have h0:RI n=0:=by simpa using h0
 obtain⟨h8,hr⟩:=ApV h0;have hnl:=Al6 h0;refine(Yi (mk:=fun i acc=>((i:Int),acc)) n [] AbK (fun l=>Jr (KD N 48 l) fun r62=>some (r62.fst,r62.snd)) ?_ ?_ N).trans ?_
 .intro i acc hi hacc k;have hri:=hr _ (getD_mem [] hi);have hsi:=AxU hs hi;obtain⟨r0,r4,ra⟩:=AxM hri;have hrl:=Aqx hri;have hpos:=EO.2 r0;dsimp only[U2];rw[Int.toNat_natCast];generalize n.getD i []=r at *
  simp (disch:=omega) only[JH];refine(Yi (mk:=fun j a=>((j:Int),a,acc)) r ([],0,[]) oH (fun l=>Jr (SY N l) fun r48=>Jr (KD N 49 [r48]) fun r50=>bif r50.snd != 0 then some ([],r50.snd)else chk (decide ((acc.length+1)*17<=140737488355328)) (k ((i:Int)+1,acc++[r50.fst]))) ?_ ?_ N).trans ?_
  .intro j a hj ha k;have he:=AdM N _ hN (hsi _ (getD_mem ([],0,[]) hj)) (ra _ (getD_mem ([],0,[]) hj));simp (disch:=omega) only[JH,he,KX]
  .intro a k ha;simp (disch:=omega) only[JH]
  .have w:KD N 49 [Q8 (r.map oH)]=_:=Ail N 49 [Q8 (r.map oH)] (by omega) (by omega) hN (by simp) (by rw[RD,AmL];omega);rw[RD]at w;unfold SY;rw[Ao3 (by rw[Dz];omega),Ab9 (by rw[Dz];omega),Ab9 (by omega)];simp only[Ij,cond_true,Jt];rw[w,Jt];simp (disch:=omega) only[JH,KX];rfl
 .intro acc k ha;simp (disch:=omega) only[JH]
 .have w:KD N 48 (n.map AbK)=_:=Ail N 48 (n.map AbK) (by omega) (by omega) hN (by rw[Dz];omega) (by omega);rw[w,Jt];rfl
def Zk (g:Gn):Bs:=bif g.1==4 then Sp.elem 164 (nmB g.2.2)else Sp.elem (128+g.1).toNat g.2.1
def Az2 {s:Bs} (h:eQ s=true):s.length<=128:=by
 rcases Ej 128 s.length with hl | hl
 .rw[AuP hl]at h;cases h
 .exact hl
def AsJ {s:Bs} (h:xP s=true):s.length<=128:=by
 rcases Ej 128 s.length with hl | hl
 .rw[Awz hl]at h;cases h
 .exact hl
def A12 {k:Int} {s:Bs} {c:Bool} (h:Alg k s c=true):s.length<=128/\(k=1\/k=2\/k=7):=by
 unfold Alg at h;by_cases h1:k=1
 .subst h1;refine⟨?_,.inl rfl⟩;rw[UT rfl,cond_true]at h;cases c with
  | true =>unfold mbP at h;rw[cond_true,Dq,D5]at h;exact h.1
  | false=>exact Az2 h
 .rw[MO h1,cond_false]at h;by_cases h2:k=2
  .subst h2;refine⟨?_,.inr (.inl rfl)⟩;rw[UT rfl,cond_true]at h;cases c with
   | true =>
    unfold Ak7 at h;rw[cond_true,EE]at h;rcases h with h | h
    .have:s=[]:=by simpa using h
     subst this;exact DN _
    .exact AsJ h
   | false =>
    rw[cond_false]at h;unfold AlE at h;cases hq:Lib.hasPrefix s [42,46]with
    | true =>rw[hq,cond_true,Dq,Dq,D5]at h;exact h.1.1
    | false=>rw[hq]at h;exact AsJ h
  .rw[MO h2,cond_false]at h;by_cases h7:k=7
   .subst h7;refine⟨?_,.inr (.inr rfl)⟩;rw[UT rfl,cond_true]at h;cases c with
    | true =>
     rw[cond_true]at h;unfold AlZ at h;cases hq:(decide (s.length=8)||decide (s.length=32))with
     | false=>rw[hq]at h;cases h
     | true=>rw[EE,D5,D5]at hq;omega
    | false =>rw[cond_false]at h;unfold Ak1 at h;rw[EE,D5,D5]at h;omega
   .rw[MO h7]at h;cases h
def AsO {g:Gn} {c:Bool} (h:P6 g c=0):(g.1=4/\g.2.1=[]/\RI g.2.2=0)\/((g.1=1\/g.1=2\/g.1=7)/\g.2.1.length<=128/\g.2.2=[]/\Alg g.1 g.2.1 c=true):=by
 unfold P6 at h;by_cases h4:g.1=4
 .rw[UT h4,cond_true]at h;cases hq:g.2.1==[]with
  | true=>rw[hq]at h;exact .inl ⟨h4,by simpa using hq,h⟩
  | false=>rw[hq]at h;cases h
 .rw[MO h4,cond_false]at h;cases hq:Alg g.1 g.2.1 c&&g.2.2.isEmpty with
  | false=>rw[hq]at h;cases h
  | true =>rw[Dq]at hq;obtain⟨h1,h2⟩:=A12 hq.1;exact .inr ⟨h2,h1,by simpa using hq.2,hq.1⟩
def Ahu {g:Gn} {c:Bool} (h:P6 g c=0):(Zk g).length<=4498:=by
 unfold Zk;rcases AsO h with ⟨h1,_,h3⟩ | ⟨h1,h2,_,_⟩
 .rw[UT h1,cond_true];have:=Sp.JM 164 (nmB g.2.2);have:=(Al6 h3).1;omega
 .rw[MO,cond_false];have:=Sp.JM (128+g.1).toNat g.2.1;omega
def Alf (g:Gn) (c:Bool):Bs×Int:=bif P6 g c != 0 then([],P6 g c)else(Zk g,0)
def Zl (N:Nat) (g:Gn) (c:Bool) (hN:1048578<N) (hs:aN g):NC N g c=some (Alf g c):=by
 unfold NC Alf;try simp only[clR]
 rw[TQ N g c hN hs,Jt,<- Lr];refine OQ fun h0=> ?_;have h0:P6 g c=0:=by simpa using h0
 unfold Zk;rcases AsO h0 with ⟨h1,_,h3⟩ | ⟨h1,h2,_,_⟩
 .have hl:=(Al6 h3).1;have w:KD N 164 [nmB g.2.2]=_:=Ail N 164 [nmB g.2.2] (by omega) (by omega) hN (by simp) (by rw[RD];omega);rw[RD]at w;rw[YQ h1,cond_false,UT h1,cond_true,uU N g.2.2 hN hs.2,Jt,h3,h1];show Jr (KD N 164 [nmB g.2.2]) _=_;rw[w,Jt]
 .have hk:(128+g.1)=((128+g.1).toNat:Int):=by omega
  have w:=Ail N (128+g.1).toNat [g.2.1] (by omega) (by omega) hN (by simp) (by rw[RD];omega);rw[RD,<- hk]at w;rw[UU (by omega),cond_true,MO,cond_false,w64,w,Jt]
def vF (c:Bool) (g:Gn):Bs:=bif P6 g c != 0 then []else Zk g
def AwM (c:Bool) (g:Gn):(vF c g).length<=4498:=by
 unfold vF;cases h:P6 g c != 0 with
 | true=>exact DN _
 | false=>exact Ahu (c:=c) (by simpa using h)
def A2X (g:Gn) (c:Bool):Alf g c=(vF c g,P6 g c):=by
 unfold Alf vF;cases h:P6 g c != 0 with
 | true=>rfl
 | false=>rw[show P6 g c=0 by simpa using h];rfl
def AwN {c:Bool} {l:List Gn} (h:KW (fun g=>P6 g c) l=0):l.map (vF c)=l.map Zk:=by refine E5 fun g hg=> ?_;have:=Ae2 h g hg;unfold vF;rw[show P6 g c=0 from this];rfl
def Uz (l:List Gn):Bs:=(l.map Zk).flatten
def Ao1 (l:List Gn):Bs×Int:=bif l.isEmpty then([],7)else bif decide (16<l.length)then([],2)else bif ZA l false != 0 then([],ZA l false)else(Uz l,0)
def Axl {l:List Gn} {c:Bool} (h:KW (fun g=>P6 g c) l=0) (h16:l.length<=16):(Uz l).length<=71968:=by have:=Oo (g:=Zk) (M:=4498) (l:=l) (fun g hg=>Ahu (c:=c) (Ae2 h g hg));unfold Uz;omega
def aT (N:Nat) (l:List Gn) (hN:1048578<N) (hs:OE l):PL N l=some (Ao1 l):=by
 unfold PL Ao1 Vj;try simp only[clR]
 rw[len0,show decide (((l.length:Nat):Int)>16)=decide (16<l.length)from AyP _ 16];cases he:l.isEmpty with
 | true=>rfl
 | false =>
  rw[cond_false,cond_false];by_cases h16:16<l.length
  .rw[Di h16];rfl
  .rw[Dw h16,cond_false,cond_false,Jt];show JB _ N _ _=_;refine(AoZ (mk:=fun i t=>(t,(i:Int))) l (0,[],[]) (fun g=>P6 g false) (vF false) (fun e=>some ([],e)) (fun t=>some (t,0)) ?_ ?_ N (by omega)).trans ?_
   .intro i t hi ht k;have hg:=Zl N _ false hN (hs _ (getD_mem (0,[],[]) hi));have hl:=Oo (g:=vF false) (M:=4498) (l:=l) (fun g _=>AwM false g);rw[A2X]at hg;simp (disch:=omega) only[JH,hg,KX]
   .intro t k;simp (disch:=omega) only[JH]
   .unfold ZA;rw[<- Lr];refine OQ fun h=> ?_;rw[AwN (by simpa using h)];rfl
def A2V (t:Nat) (c:Bs):Bs×Int:=((NM t c).getD [],if(NM t c).isNone then 2 else 0)
def flB (n:Int):Bs:=((Ot 70 n).getD ([],0)).1
def flags_all (M:Nat): ∀ n:Fin 512,Ot (M+70) (n.val:Int)=some (flB (n.val:Int),0)/\QV (M+70) (n.val:Int)=some (flB (n.val:Int),0)/\(flB (n.val:Int)).length<=3 :=
 D6 (by kernel_rfl)
def xA (N:Nat) (n:Int) (hN:1048578<N) (h0:0<=n) (h1:n<512):Ot N n=some (flB n,0)/\QV N n=some (flB n,0)/\(flB n).length<=3:=by
 obtain⟨M,rfl⟩: ∃ M,N=M+70:=⟨N - 70,by omega⟩
 have:=flags_all M ⟨n.toNat,by omega⟩;rw[show((⟨n.toNat,by omega⟩:Fin 512).val:Int)=n from IM h0]at this;exact this
def ML (s:Bs) (t:Int):El×Int:=bif (KH s).2 != 0 then((0,[],[]),(KH s).2)else bif (KH s).1.1 != t then((0,[],[]),5)else((KH s).1,0)
def SK (N:Nat) (s:Bs) (t:Int) (hN:1048578<N) (hs:s.length<=1048576):OB N s t=some (ML s t):=by
 unfold OB ML;try simp only[clR]
 rw[UR N s,Jt];simp only[Lr]
def A00 (N:Nat) (s:Bs) (t:Int) (hN:1048578<N) (hs:s.length<=1048576):XG N s t=some (ML s t):=by
 unfold XG ML;try simp only[clR]
 rw[rM N s (by omega) (by omega),Jt];simp only[Lr]
def VU (s:Bs) (t:Int):(ML s t).1.2.1.length<=s.length:=by
 have hc:=QR s;unfold ML;cases (KH s).2 != 0 with
 | true=>show 0<=_;omega
 | false=>cases (KH s).1.1 != t with
  | true=>show 0<=_;omega
  | false=>exact hc.1
def st1 (l:List El):List Gn×Int :=
 bif (Lu l 160).2.1 then(bif (ML (Lu l 160).1.2.1 160).2 != 0 then([],(ML (Lu l 160).1.2.1 160).2)else RQ (ML (Lu l 160).1.2.1 160).1.2.1)else([],0)
def st2 (l:List El):Int×Int :=
 bif (Lu l 129).2.1 then(bif (flP (Lu l 129).1.2.1).2 != 0 then(0,(flP (Lu l 129).1.2.1).2)else bif (flP (Lu l 129).1.2.1).1==0 then(0,7)else((flP (Lu l 129).1.2.1).1,0))else(0,0)
def Ahl (s:Bs):List (List Att)×Int :=
 bif (RQ s).2 != 0 then([],(RQ s).2)else bif ((RQ s).1.length:Int) != 1||((RQ s).1.getD 0 (0,[],[])).1 != 4 then([],7)else(((RQ s).1.getD 0 (0,[],[])).2.2,0)
def st3 (l:List El):(Bool×List (List Att))×Int :=
 bif (Lu l 162).2.1 then(bif (Ahl (Lu l 162).1.2.1).2 != 0 then((false,[]),(Ahl (Lu l 162).1.2.1).2)else((true,(Ahl (Lu l 162).1.2.1).1),0))else((false,[]),0)
def r1 (l:List El):List El:=(Lu l 160).2.2
def r2 (l:List El):List El:=(Lu (r1 l) 129).2.2
def r3 (l:List El):List El:=(Lu (r2 l) 162).2.2
def zP:Pt:=([],0,false,[])
def ptD (l:List El):Pt×Int :=
 bif (st1 l).2 != 0 then(zP,(st1 l).2)else bif (st2 (r1 l)).2 != 0 then(zP,(st2 (r1 l)).2)else bif (st3 (r2 l)).2 != 0 then(zP,(st3 (r2 l)).2)else
 bif decide (r3 l≠ [])then(zP,4)else(((st1 l).1,(st2 (r1 l)).1,(st3 (r2 l)).1.1,(st3 (r2 l)).1.2),0)
def Aai {l:List El} (hg:Good 1048576 l) (t:Int) (h:(Lu l t).2.1=true):(Lu l t).1.2.1.length<=1048576:=by have:=((qC hg t).2 h).content;omega
def AsP {l:List El} (hg:Good 1048576 l):Good 1048576 (r1 l):=(qC hg 160).1
def AsQ {l:List El} (hg:Good 1048576 l):Good 1048576 (r2 l):=(qC (AsP hg) 129).1
def A3F (N:Nat) (l:List El) (hN:1048578<N) (hg:Good 1048576 l) (J:List El×List Gn->Option (Pt×Int×List El)) :
 (Jr (Lc N l 160) fun r20=>bif r20.2.1 then Jr (OB N r20.1.2.1 160) fun r27=>bif r27.2 != 0 then some (zP,r27.2,r20.2.2)else Jr (L9 N r27.1.2.1) fun r37=>bif r37.2 != 0 then some (zP,r37.2,r20.2.2)else J (r20.2.2,r37.1)else J (r20.2.2,[]))
   = bif (st1 l).2 != 0 then some (zP,(st1 l).2,r1 l)else J (r1 l,(st1 l).1):=by
 rw[fQ,Jt];unfold st1 r1;cases h1:(Lu l 160).2.1 with
 | false=>rfl
 | true =>
  have hl1:=Aai hg 160 h1;have ho:=VU (Lu l 160).1.2.1 160;rw[cond_true,cond_true,SK N _ 160 hN hl1,Jt];cases h2:(ML (Lu l 160).1.2.1 160).2 != 0 with
  | true=>rw[cond_true,cond_true,h2];rfl
  | false=>rw[cond_false,cond_false,RF N _ hN,Jt]
def A3G (N:Nat) (l:List El) (hN:1048578<N) (hg:Good 1048576 l) (J:List El×Int->Option (Pt×Int×List El)) :
 (Jr (Lc N l 129) fun r47=>bif r47.2.1 then Jr (QI N r47.1.2.1) fun r54=>bif r54.2 != 0 then some (zP,r54.2,r47.2.2)else bif r54.1==0 then some (zP,7,r47.2.2)else J (r47.2.2,r54.1)else J (r47.2.2,0))
   = bif (st2 l).2 != 0 then some (zP,(st2 l).2,(Lu l 129).2.2)else J ((Lu l 129).2.2,(st2 l).1):=by
 rw[fQ,Jt];unfold st2;cases h1:(Lu l 129).2.1 with
 | false=>rfl
 | true =>
  have hl1:=Aai hg 129 h1;rw[cond_true,cond_true,Ac4 N _ hN hl1,Jt];cases h2:(flP (Lu l 129).1.2.1).2 != 0 with
  | true=>rw[cond_true,cond_true,h2];rfl
  | false =>rw[cond_false,cond_false];cases (flP (Lu l 129).1.2.1).1==0<;>rfl
def A3H (N:Nat) (l:List El) (hN:1048578<N) (hg:Good 1048576 l) (J:List El×Bool×List (List Att)->Option (Pt×Int×List El)) :
 (Jr (Lc N l 162) fun r68=>bif r68.2.1 then Jr (L9 N r68.1.2.1) fun r75=>bif r75.2 != 0 then some (zP,r75.2,r68.2.2)else chk (decide ((0:Int)<(r75.1.length:Int))||((r75.1.length:Int) != 1))<|bif ((r75.1.length:Int) != 1)||((r75.1.getD 0 (0,[],[])).1 != 4)then some (zP,7,r68.2.2)else chk (decide ((0:Int)<(r75.1.length:Int)))<|J (r68.2.2,true,(r75.1.getD 0 (0,[],[])).2.2)else J (r68.2.2,false,[]))
   = bif (st3 l).2 != 0 then some (zP,(st3 l).2,(Lu l 162).2.2)else J ((Lu l 162).2.2,(st3 l).1.1,(st3 l).1.2):=by
 rw[fQ,Jt];unfold st3 Ahl;cases h1:(Lu l 162).2.1 with
 | false=>rfl
 | true =>
  have hl1:=Aai hg 162 h1;rw[cond_true,cond_true,RF N _ hN hl1,Jt];cases h2:(RQ (Lu l 162).1.2.1).2 != 0 with
  | true=>simp only[h2,cond_true]
  | false =>
   rw[cond_false,cond_false];by_cases h3:(RQ (Lu l 162).1.2.1).1.length=1
   .simp (disch:=omega) only[JH,h3];cases ((RQ (Lu l 162).1.2.1).1.getD 0 (0,[],[])).1 != 4<;>simp<;>rfl
   .have h4:(((RQ (Lu l 162).1.2.1).1.length:Int) != 1)=true:=by simp;omega
    rw[h4,EF,JI,DU];rfl
def AkO (N:Nat) (l:List El) (hN:1048578<N) (hg:Good 1048576 l): ∃ rest,Oe N l=some ((ptD l).1,(ptD l).2,rest):=by
 unfold Oe;try simp only[clR]
 rw[TT];refine Exists.imp (fun rest h=>ER (A3F N l hN hg _) h) ?_;unfold ptD;cases h1:(st1 l).2 != 0 with
 | true=>exact⟨_,rfl⟩
 | false =>
  rw[cond_false,cond_false];dsimp only[U2];rw[TT];refine Exists.imp (fun rest h=>ER (A3G N (r1 l) hN (AsP hg) (fun p=>U3 _ (p.1,(st1 l).1,p.2))) h) ?_;cases h2:(st2 (r1 l)).2 != 0 with
  | true=>exact⟨_,rfl⟩
  | false =>
   rw[cond_false,cond_false];dsimp only[U3];rw[TT];refine Exists.imp (fun rest h=>ER (A3H N (r2 l) hN (AsQ hg) (fun p=>U5 _ (p.1,(st1 l).1,(st2 (r1 l)).1,p.2.1,p.2.2))) h) ?_;cases h3:(st3 (r2 l)).2 != 0 with
   | true=>exact⟨_,rfl⟩
   | false =>
    rw[cond_false,cond_false];dsimp only[U5];rw[aZ,Jt];show ∃ rest,(bif (if r3 l=[]then(0:Int)else 4) != 0 then some (zP,(if r3 l=[]then(0:Int)else 4),r3 l)else some (((st1 l).1,(st2 (r1 l)).1,(st3 (r2 l)).1.1,(st3 (r2 l)).1.2),0,r3 l))=_;by_cases h4:r3 l=[]
    .rw[Dn h4,Dw (fun h=>h h4)];exact⟨_,rfl⟩
    .rw[Dk h4,Di h4];exact⟨_,rfl⟩
def rg (x:Int):Prop:= -9223372036854775808<=x/\x<=9223372036854775807
def rg0:rg 0:=⟨by decide,by decide⟩
def A01 (x:Int):rg (i64.wrap x):=by
 by_cases h:x % 18446744073709551616>=9223372036854775808
 .rw[show i64.wrap x=x % 18446744073709551616 - 18446744073709551616 from Dn (Di h)];exact⟨by omega,by omega⟩
 .rw[show i64.wrap x=x % 18446744073709551616 from Dk (fun e=>h (D6 e))];exact⟨by omega,by omega⟩
def AwG (r:Bs) (n:Nat):rg (flV r n).1:=by
 have key: ∀(l:List Nat) (a:Int),rg a->rg (l.foldl (fun acc i=>bif Ae9 r i then JF .or .i64 acc (i64.wrap (1*2 ^ min i 64))else acc) a):=by
  intro l
  induction l with
  | nil=>intro a h;exact h
  | cons x y ih =>
   intro a h;refine ih _ ?_;dsimp only;cases Ae9 r x with
   | false=>exact h
   | true=>exact A01 _
 unfold flV;cases decide (0<n)&& !Ae9 r (n - 1)with
 | true=>exact rg0
 | false =>
  cases decide (16<n)with
  | true=>exact rg0
  | false=>exact key _ 0 rg0
def Am3 (s:Bs):rg (flP s).1:=by
 unfold flP;cases (Qh s).2.2 != 0 with
 | true=>exact rg0
 | false=>exact AwG _ _
def Aue (s:Bs) (hs:s.length<=1048576):Ua (Ahl s).1:=by
 have h:=(mW s hs).1;unfold Ahl;cases (RQ s).2 != 0 with
 | true=>intro p hp;cases hp
 | false =>
  cases hb:((RQ s).1.length:Int) != 1||((RQ s).1.getD 0 (0,[],[])).1 != 4 with
  | true=>intro p hp;cases hp
  | false =>
   rw[EU]at hb;have h1:(RQ s).1.length=1:=by have:=hb.1;simp at this;omega
   exact(h _ (getD_mem (0,[],[]))).2
def AxW {l:List El} (hg:Good 1048576 l):OE (st1 l).1:=by
 unfold st1;cases h1:(Lu l 160).2.1 with
 | false=>intro g hgm;cases hgm
 | true =>
  have hl1:=Aai hg 160 h1;have ho:=VU (Lu l 160).1.2.1 160;cases (ML (Lu l 160).1.2.1 160).2 != 0 with
  | true=>intro g hgm;cases hgm
  | false=>exact(mW _).1
def AxX (l:List El):rg (st2 l).1:=by
 unfold st2;cases (Lu l 129).2.1 with
 | false=>exact rg0
 | true =>
  cases (flP (Lu l 129).1.2.1).2 != 0 with
  | true=>exact rg0
  | false =>
   cases (flP (Lu l 129).1.2.1).1==0 with
   | true=>exact rg0
   | false=>exact Am3 _
def AxY {l:List El} (hg:Good 1048576 l):Ua (st3 l).1.2:=by
 unfold st3;cases h1:(Lu l 162).2.1 with
 | false=>intro p hp;cases hp
 | true =>
  have hl1:=Aai hg 162 h1;cases (Ahl (Lu l 162).1.2.1).2 != 0 with
  | true=>intro p hp;cases hp
  | false=>exact Aue _ hl1
def dS:Qr zP:=⟨fun g h=>(by cases h),fun p h=>(by cases h),by decide,by decide⟩
def AxI {l:List El} (hg:Good 1048576 l):Qr (ptD l).1:=by
 unfold ptD;cases (st1 l).2 != 0 with
 | true=>exact dS
 | false =>
  cases (st2 (r1 l)).2 != 0 with
  | true=>exact dS
  | false =>
   cases (st3 (r2 l)).2 != 0 with
   | true=>exact dS
   | false =>
    cases decide (r3 l≠ [])with
    | true=>exact dS
    | false=>exact⟨AxW hg,AxY (AsQ hg),AxX _⟩
def elD (e:El):Pt×Int:=bif e.1 != 48 then(zP,5)else bif (JQ e.2.1).2 != 0 then(zP,(JQ e.2.1).2)else ptD (JQ e.2.1).1
def Am2 {e:El} (he:e.2.1.length<=1048576):Qr (elD e).1:=by
 unfold elD;cases e.1 != 48 with
 | true=>exact dS
 | false =>
  cases (JQ e.2.1).2 != 0 with
  | true=>exact dS
  | false=>exact AxI ((KR e.2.1).mono he)
def psD (l:List El):List Pt×Int :=
 bif l.isEmpty then([],7)else bif KW (fun e=>(elD e).2) l != 0 then([],KW (fun e=>(elD e).2) l)else
 bif rF (l.map fun e=>(elD e).1) != 0 then([],rF (l.map fun e=>(elD e).1))else(l.map fun e=>(elD e).1,0)
def Aqq (s:Bs):List Pt×Int:=bif (ML s 48).2 != 0 then([],(ML s 48).2)else bif (JQ (ML s 48).1.2.1).2 != 0 then([],(JQ (ML s 48).1.2.1).2)else psD (JQ (ML s 48).1.2.1).1
def A1W (N:Nat) (l:List Pt) (hN:1048578<N) (hs: ∀ p∈l,Qr p):MM N l=some (rF l):=Ti N l hN hs
def Amq (N:Nat) (e:El) (r:List El) (hN:1048578<N) (he:e.2.1.length<=1048576):Q7 N (e::r)=some (bif e.1 != 48 then .inr ((),5,e::r)else bif (JQ e.2.1).2 != 0 then .inr ((),(JQ e.2.1).2,r)else .inl ((JQ e.2.1).1,0,r)):=by
 unfold Q7 L8 MP Om;try simp only[clR]
 have hl:(e::r).length=r.length+1:=rfl;simp (disch:=omega) only[JH,hl,Eh,MK N e.2.1];rw[<- hl,show JD (e::r) 1 (e::r).length=r from by show((e::r).take (e::r).length).drop 1=r;rw[ED];rfl];cases e.1 != 48 with
 | true=>rfl
 | false =>have hT:=MK N e.2.1;simp (disch:=omega) only[JH,hT];cases (JQ e.2.1).2 != 0<;>rfl
def sS (N:Nat) (s:Bs) (hN:1048578<N) (hs:s.length<=1048576):QB N s=some (Aqq s):=by
 unfold QB;try simp only[clR]
 rw[A0T N s 48 (by omega) (by omega) (by omega)];have hc:=QR s;have hg:Good 1048576 (JQ (KH s).1.2.1).1:=(KR _).mono (by omega);unfold Aqq ML Avf;by_cases h1:(KH s).2=0
 .have b1:((KH s).2 != 0)=false:=by simp [h1]
  rw[Dk (fun h=>h h1),b1];simp only[cond_false];by_cases h2:(KH s).1.1=48
  .have b2:((KH s).1.1 != 48)=false:=by simp [h2]
   rw[Dk (fun h=>h h2),b2];simp only[cond_false];by_cases h3:(JQ (KH s).1.2.1).2=0
   .have b3:((JQ (KH s).1.2.1).2 != 0)=false:=by simp [h3]
    rw[Dk (fun h=>h h3),b3,Uf];generalize (JQ (KH s).1.2.1).1=l at hg;have hlen:=hg.len;unfold OU psD;cases hl:l with
    | nil=>rfl
    | cons a0 l0 =>
     rw[<- hl];have hp:0<l.length:=by rw[hl];exact Jd _
     have he:l.isEmpty=false:=by rw[hl];rfl
     rw[he];simp (disch:=omega) only[JH];refine(A0m (R:=Int) (fun r acc=>(r,acc)) (fun r (acc:List Pt)=>Good 1048576 r/\acc.length+r.length<=1048576) (fun e acc=>bif (elD e).2 != 0 then .inl (elD e).2 else .inr (acc++[(elD e).1])) (fun e=>some ([],e)) (fun acc=>Jr (MM N acc) fun r46=>bif r46 != 0 then some ([],r46)else some (acc,0)) ?_ ?_ ?_ N l [] ⟨hg,by simpa using hlen⟩ (by omega)).trans ?_
     .intro e r acc hI k;have hee:=(hI.1.all e Dv).content;have hlr:(e::r).length=r.length+1:=rfl;have hI2:=hI.2;rw[hlr]at hI2;have hIn:=Amq N e r hN (by omega);simp (disch:=omega) only[JH,hlr,hIn];unfold elD;cases b4:e.1 != 48 with
      | true=>rfl
      | false =>
       cases b5:(JQ e.2.1).2 != 0 with
       | true =>simp only[cond_false,cond_true,b5,QN]
       | false =>obtain⟨rest,hd⟩:=AkO N (JQ e.2.1).1 hN ((KR e.2.1).mono (by omega));simp only[cond_false,Uf];simp (disch:=omega) only[JH,hd]
     .intro e r acc acc' hI hst;have hI2:=hI.2;rw[show(e::r).length=r.length+1 from rfl]at hI2;cases b4:(elD e).2 != 0 with
      | true=>rw[b4]at hst;cases hst
      | false =>rw[b4]at hst;injection hst with hst;subst hst;exact⟨hI.1.tail,by rw[Dp];show acc.length+1+r.length<=_;omega⟩
     .intro acc k hI;simp (disch:=omega) only[JH];rfl
     .rw[Aj9,QP,List.nil_append];cases KW (fun e=>(elD e).2) l != 0 with
      | true=>rfl
      | false =>rw[cond_false,AkD,A1W N _ hN (fun p hp=>by obtain⟨x,hx,rfl⟩:=DI.1 hp;exact Am2 (by have:=(hg.all x hx).content;omega)),Jt,Lr];rfl
   .have b3:((JQ (KH s).1.2.1).2 != 0)=true:=by simp [h3]
    rw[Dn h3,b3,QN,b3];rfl
  .have b2:((KH s).1.1 != 48)=true:=by simp [h2]
   rw[Dn h2,b2,QN];rfl
 .have b1:((KH s).2 != 0)=true:=by simp [h1]
  rw[Dn h1,b1,QN];simp only[cond_true,b1]
end Go.Proofs.YtmgpaalplkkpnaaGreatDoor.Pl
namespace Go.Proofs.YtmgpaalplkkpnaaGreatDoor.Sp
def Aig (b:UInt8):Int:=if b.toNat<128 then(b.toNat:Int)else(b.toNat:Int) - 256
def be (v:Int) (l:List UInt8):Int:=l.foldl (fun v b=>v*256+(b.toNat:Int)) v
def Aiz:List UInt8->Bool
 | []=>true
 | [_]=>false
 | a::b::_=>(decide (a.toNat=0)&&decide (b.toNat<128))||(decide (a.toNat=255)&&decide (128<=b.toNat))
def AwW:List UInt8->Int
 | []=>0
 | a::r=>be (Aig a) r
def integer (l:List UInt8):Int×Int :=
 if Aiz l then(0,7)else if 8<l.length then(0,1)else(AwW l,0)
def A1g (v:Int) (l:List UInt8) (b:UInt8):be v (b::l)=be (v*256+(b.toNat:Int)) l:=rfl
def Av3 (b:UInt8): -128<=Aig b/\Aig b<=127:=by unfold Aig;have:=b.toNat_lt;split<;>omega
def AxG {m n:Nat} (h:m<=n):(256:Int) ^ m<=256 ^ n:=by have:=Int.ofNat_le.2 (GM (n:=256) (by omega) h);rw[Int.natCast_pow,Int.natCast_pow]at this;exact this
def byteOf (q:Int):UInt8:=UInt8.ofNat (q % 256).toNat
def strip:List UInt8->List UInt8
 | []=>[]
 | [a]=>[a]
 | a::b::r=>if Aiz (a::b::r)then strip (b::r)else a::b::r
def fits (q:Int):Prop:= -128<=q/\q<=127
instance (q:Int):Decidable (fits q):=inferInstanceAs (Decidable (_/\_))
end Go.Proofs.YtmgpaalplkkpnaaGreatDoor.Sp
