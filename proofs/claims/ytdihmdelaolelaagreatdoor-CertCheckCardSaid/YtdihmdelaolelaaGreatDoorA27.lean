import Derived.Test.YtdihmdelaolelaaGreatDoorA26
set_option linter.all false
namespace Go.Proofs.YtdihmdelaolelaaGreatDoor.Pl
open IntKind (i64 u8 u32 u64)
open Go Vm
section
variable (N:Nat) (hN:1048578<N) {L:List Int} (hL:L.length<=9223372036854775807)
theorem oO {k:Int} (h0:0<=k) (h1:k<9):Ends shortS (Va N k):=by
 unfold Va;try simp -zeta only[Ap]
 have h:k.tmod 9=k:=by
  have:k=0\/k=1\/k=2\/k=3\/k=4\/k=5\/k=6\/k=7\/k=8:=by omega
  rcases this with rfl | rfl | rfl | rfl | rfl | rfl | rfl | rfl | rfl<;>rfl
 rw[h];exact JH (Dk) (JH (Dk) (JH (Dk) (Ku (P8 (P:=shortS) (by decide) h0 h1))))
def Arx (m:Nat) (l:List Bs):Prop:=l.length<=m/\ ∀ s∈l,shortS s
include hN hL in
theorem Aje {d:List Int×Int} (p:Bool) (hd:KD L d):Ends (fun r=>Arx 3 r.1/\KD L r.2) (dD N d p):=by
 unfold dD;try simp only[clR]
 refine JC (nx N hL hd 3 (by omega)) ?_;rintro ⟨r,d1,d2⟩ ⟨h0,h1,h2⟩;dsimp only at h0 h1 h2 ⊢;rw[w64];refine Ns (fun x=>0<=x.1/\x.1<4/\KD L (x.2.1,x.2.2.1)/\((x.2.2.2.length:Int)+x.1<=3)/\ ∀ s∈x.2.2.2,shortS s) (fun x=>x.1.toNat) ?_ N _ ⟨by dsimp only;omega,by dsimp only;omega,h2,by simp;omega,(fun r hr=>by cases hr)⟩ (by dsimp only;omega);rintro ⟨t,a,b,acc⟩ ⟨g0,g1,g2,g3,g4⟩ k hk;dsimp only[U4]at g0 g1 g2 g3 g4 ⊢;refine JW (fun ht=> ?_) (fun _=>by dsimp only[U3];exact Ku ⟨⟨by dsimp only;omega,g4⟩,g2⟩);have ht:=DC ht;refine JC (nx N hL g2 9 (by omega)) ?_;rintro ⟨r9,e1,e2⟩ ⟨c0,c1,c2⟩;dsimp only at c0 c1 c2 ⊢;refine JC (oO N c0 c1) ?_;intro s hs;refine mP (P:=fun x=>shortS x.1/\KD L (x.2.1,x.2.2.1)/\x.2.2.2=acc) (fun j hj=> ?_) ?_
 .refine JW (fun _=> ?_) (fun _=>hj _ ⟨hs,c2,rfl⟩);refine JC (nx N hL c2 5 (by omega)) ?_;rintro ⟨r3,q1,q2⟩ ⟨z0,z1,z2⟩;dsimp only at z0 z1 z2 ⊢;exact JH (Dk) (JH (Dk) (JH (Dk) (hj _ ⟨P8 (P:=shortS) (by decide) z0 z1,z2,rfl⟩)))
 .rintro ⟨s,q1,q2,x⟩ ⟨y1,y2,y3⟩;dsimp only at y1 y2 y3;subst y3;dsimp only[U4];refine Ns (fun z=>0<=z.2.1/\z.2.1<=(x.length:Int)/\KD L (z.2.2.1,z.2.2.2.1)/\z.2.2.2.2=x) (fun z=>x.length - z.2.1.toNat) ?_ N _ ⟨FN _,by dsimp only;omega,y2,rfl⟩ (by dsimp only;omega);rintro ⟨w1,i,a',b',x'⟩ ⟨p0,p1,p2,p3⟩ k' hk';dsimp only[U5]at p0 p1 p2 p3 ⊢;subst p3;refine JW (fun hi=> ?_) (fun _=> ?_)
  .have hi:=DC hi;refine JH (Dk) (JH (Dk) (JH (Dk) (hk' _ ⟨?_,?_,p2,rfl⟩ ?_)))
   .dsimp only;rw[w64];omega
   .dsimp only;rw[w64];omega
   .dsimp only;rw[w64];omega
  .dsimp only[U4];refine JW (fun _=> ?_) (fun _=> ?_)
   .refine JH (Dk) (hk _ ⟨?_,?_,p2,?_,ZG g4 y1⟩ ?_)
    .dsimp only;rw[w64];omega
    .dsimp only;rw[w64];omega
    .dsimp only;rw[w64,Dv];simp;omega
    .dsimp only;rw[w64];omega
   .refine hk _ ⟨?_,?_,p2,?_,g4⟩ ?_
    .dsimp only;rw[w64];omega
    .dsimp only;rw[w64];omega
    .dsimp only;rw[w64];omega
    .dsimp only;rw[w64];omega
def AyA (m:Bs×Bs):Prop:=shortS m.1/\shortS m.2
def AwT (m:Nat) (l:List (Bs×Bs)):Prop:=l.length<=m/\ ∀ s∈l,AyA s
include hN hL in
theorem Akb {d:List Int×Int} (hd:KD L d):Ends (fun r=>AwT 3 r.1/\KD L r.2) (Xu N d):=by
 unfold Xu;try simp only[clR]
 refine JC (nx N hL hd 3 (by omega)) ?_;rintro ⟨r,d1,d2⟩ ⟨h0,h1,h2⟩;dsimp only at h0 h1 h2 ⊢;rw[w64];refine Ns (fun x=>0<=x.1/\x.1<4/\KD L (x.2.1,x.2.2.1)/\((x.2.2.2.length:Int)+x.1<=3)/\ ∀ s∈x.2.2.2,AyA s) (fun x=>x.1.toNat) ?_ N _ ⟨by dsimp only;omega,by dsimp only;omega,h2,by simp;omega,(fun r hr=>by cases hr)⟩ (by dsimp only;omega);rintro ⟨t,a,b,acc⟩ ⟨g0,g1,g2,g3,g4⟩ k hk;dsimp only[U4]at g0 g1 g2 g3 g4 ⊢;refine JW (fun ht=> ?_) (fun _=>by dsimp only[U3];exact Ku ⟨⟨by dsimp only;omega,g4⟩,g2⟩);have ht:=DC ht;refine JC (nx N hL g2 9 (by omega)) ?_;rintro ⟨r9,e1,e2⟩ ⟨c0,c1,c2⟩;dsimp only at c0 c1 c2 ⊢;refine JC (oO N c0 c1) ?_;intro s hs;refine JC (nx N hL c2 9 (by omega)) ?_;rintro ⟨r9,e1,e2⟩ ⟨c0,c1,c2⟩;dsimp only at c0 c1 c2 ⊢;refine JC (oO N c0 c1) ?_;intro s2 hs2;refine Ns (fun z=>0<=z.2.1/\z.2.1<=(acc.length:Int)/\KD L (z.2.2.1,z.2.2.2.1)/\z.2.2.2.2.1=s/\z.2.2.2.2.2.1=s2/\z.2.2.2.2.2.2=acc) (fun z=>acc.length - z.2.1.toNat) ?_ N _ ⟨FN _,by dsimp only;omega,c2,rfl,rfl,rfl⟩ (by dsimp only;omega);rintro ⟨w1,i,a',b',s',s2',x'⟩ ⟨p0,p1,p2,p3,p4,p5⟩ k' hk';dsimp only[U7]at p0 p1 p2 p3 p4 p5 ⊢;subst p3 p4 p5;refine JW (fun hi=> ?_) (fun _=> ?_)
 .have hi:=DC hi;refine JH (Dk) (JH (Dk) (JH (Dk) (hk' _ ⟨?_,?_,p2,rfl,rfl,rfl⟩ ?_)))
  .dsimp only;rw[w64];omega
  .dsimp only;rw[w64];omega
  .dsimp only;rw[w64];omega
 .dsimp only[U6];refine JW (fun _=> ?_) (fun _=> ?_)
  .refine JH (Dk) (hk _ ⟨?_,?_,p2,?_,ZG g4 ⟨hs,hs2⟩⟩ ?_)
   .dsimp only;rw[w64];omega
   .dsimp only;rw[w64];omega
   .dsimp only;rw[w64,Dv];simp;omega
   .dsimp only;rw[w64];omega
  .refine hk _ ⟨?_,?_,p2,?_,g4⟩ ?_
   .dsimp only;rw[w64];omega
   .dsimp only;rw[w64];omega
   .dsimp only;rw[w64];omega
   .dsimp only;rw[w64];omega
def AzE (m:Nat) (l:List Ex):Prop:=l.length<=m/\ ∀ x∈l,shortS x.1/\shortS x.2.2
structure Aqm (pl us re im ia:Int) (pe ex:List Gn) (sk ak:Bs) (fr:List Pt) (pu po:List Bs) (ma:List (Bs×Bs)) (na:List Gn) (pt:List Pt) (un:List Ex):Prop where
 pl: -1<=pl/\pl<=70
 us:0<=us/\us<=511
 re: -1<=re/\re<=70
 im: -1<=im/\im<=70
 ia: -1<=ia/\ia<=70
 pe:AhD 3 pe
 ex:AhD 3 ex
 sk:shortS sk
 ak:shortS ak
 fr:Awf fr
 pu:Arx 3 pu
 po:Arx 3 po
 ma:AwT 3 ma
 na:AhD 2 na
 pt:Awf pt
 un:AzE 2 un
theorem ApH {α :Type} {l:List α} {a b:Nat} {x: α} (h:x∈J6 l a b):x∈l:=FO (FQ h)
def Aqn:Info->Prop
 | (_,_,pl,us,pu,po,ma,re,im,ia,na,_,pe,ex,sk,ak,pt,fr,un)=>Aqm pl us re im ia pe ex sk ak fr pu po ma na pt un
include hN hL in
theorem AtL {d:List Int×Int} (hd:KD L d):Ends (fun r=>Aqn r.1/\KD L r.2) (mW N d):=by
 unfold mW;try simp only[clR]
 rw[show wY N=some (false,false,-1,0,[],[],[],-1,-1,-1,[],false,[],[],[],[],[],[],[])from rfl,Jt];refine JC (nx N hL hd 6 (by omega)) ?_;rintro ⟨r,d1,d2⟩ ⟨h0,h1,h2⟩;dsimp only at h0 h1 h2 ⊢;refine Ns (fun x=> ∃ t a b hb ca pl us re im ia hc pe ex sk ak fr pu po ma na pt un,x=(t,a,b,hb,ca,pl,us,pu,po,ma,re,im,ia,na,hc,pe,ex,sk,ak,pt,fr,un)/\0<=t/\t<6/\KD L (a,b)/\Aqm pl us re im ia pe ex sk ak fr pu po ma na pt un) (fun x=>x.1.toNat) ?_ N _ ⟨r,d1,d2,false,false,-1,0,-1,-1,-1,false,[],[],[],[],[],[],[],[],[],[],[],rfl,h0,h1,h2,⟨by omega,by omega,by omega,by omega,by omega,⟨by simp,by simp⟩,⟨by simp,by simp⟩,by decide,by decide,⟨by simp,by simp⟩,⟨by simp,by simp⟩,⟨by simp,by simp⟩,⟨by simp,by simp⟩,⟨by simp,by simp⟩,⟨by simp,by simp⟩,⟨by simp,by simp⟩⟩⟩ (by dsimp only;omega);rintro _ ⟨t,a,b,hb,ca,pl,us,re,im,ia,hc,pe,ex,sk,ak,fr,pu,po,ma,na,pt,un,rfl,g0,g1,g2,P⟩ k hk;dsimp only[U22];refine JW (fun ht=> ?_) (fun _=> ?_)
 .have ht:=DC ht;have go: ∀(a':List Int) (b':Int) (hb' ca':Bool) (pl' us' re' im' ia':Int) (hc':Bool) (pe' ex':List Gn) (sk' ak':Bs) (fr':List Pt) (pu' po':List Bs) (ma':List (Bs×Bs)) (na':List Gn) (pt':List Pt) (un':List Ex),KD L (a',b')->Aqm pl' us' re' im' ia' pe' ex' sk' ak' fr' pu' po' ma' na' pt' un'->Ends (fun r=>Aqn r.1/\KD L r.2) (k (i64.wrap (t - 1),a',b',hb',ca',pl',us',pu',po',ma',re',im',ia',na',hc',pe',ex',sk',ak',pt',fr',un')):=by intro a' b' hb' ca' pl' us' re' im' ia' hc' pe' ex' sk' ak' fr' pu' po' ma' na' pt' un' hda hP;rw[w64];exact hk _ ⟨t - 1,a',b',hb',ca',pl',us',re',im',ia',hc',pe',ex',sk',ak',fr',pu',po',ma',na',pt',un',rfl,by omega,by omega,hda,hP⟩ (by dsimp only;omega)
  refine JC (nx N hL g2 14 (by omega)) ?_;rintro ⟨r,d1,d2⟩ ⟨h0,h1,h2⟩;dsimp only at h0 h1 h2 ⊢;refine mP (P:=fun x=> ∃ q,x=(q,d1,d2,hb,ca,pl,us,pu,po,ma,re,im,ia,na,hc,pe,ex,sk,ak,pt,fr,un)) (fun j hj=>JW (fun _=>hj _ ⟨_,rfl⟩) (fun _=>hj _ ⟨_,rfl⟩)) ?_;rintro _ ⟨q,rfl⟩;dsimp only[U22];refine JW (fun _=> ?_) (fun _=>JW (fun _=> ?_) (fun _=>JW (fun _=> ?_) (fun _=>JW (fun _=> ?_) (fun _=>JW (fun _=> ?_) (fun _=>JW (fun _=> ?_) (fun _=>JW (fun _=> ?_) (fun _=>JW (fun _=> ?_) (fun _=>JW (fun _=> ?_) (fun _=>JW (fun _=> ?_) (fun _=>JW (fun _=> ?_) (fun _=>JW (fun _=> ?_) (fun _=> ?_))))))))))))
  .refine JC (nx N hL h2 5 (by omega)) ?_;rintro ⟨r,e1,e2⟩ ⟨f0,f1,f2⟩;dsimp only at f0 f1 f2 ⊢;exact go _ _ _ _ _ _ _ _ _ _ _ _ _ _ _ _ _ _ _ _ _ f2 {P with pl:=by rw[w64];omega}
  .exact go _ _ _ _ _ _ _ _ _ _ _ _ _ _ _ _ _ _ _ _ _ h2 {P with pl:=by omega}
  .refine JC (nx N hL h2 511 (by omega)) ?_;rintro ⟨r,e1,e2⟩ ⟨f0,f1,f2⟩;dsimp only at f0 f1 f2 ⊢;exact go _ _ _ _ _ _ _ _ _ _ _ _ _ _ _ _ _ _ _ _ _ f2 {P with us:=by rw[w64];omega}
  .refine JC (Aje N hN hL true h2) ?_;rintro ⟨r,e1,e2⟩ ⟨f0,f2⟩;exact go _ _ _ _ _ _ _ _ _ _ _ _ _ _ _ _ _ _ _ _ _ f2 {P with pu:=f0}
  .refine JC (Aje N hN hL false h2) ?_;rintro ⟨r,e1,e2⟩ ⟨f0,f2⟩;exact go _ _ _ _ _ _ _ _ _ _ _ _ _ _ _ _ _ _ _ _ _ f2 {P with po:=f0}
  .refine JC (Akb N hN hL h2) ?_;rintro ⟨r,e1,e2⟩ ⟨f0,f2⟩;exact go _ _ _ _ _ _ _ _ _ _ _ _ _ _ _ _ _ _ _ _ _ f2 {P with ma:=f0}
  .refine JC (nx N hL h2 5 (by omega)) ?_;rintro ⟨r,e⟩ ⟨f0,f1,f2⟩;refine JC (nx N hL f2 5 (by omega)) ?_;rintro ⟨r2,e1,e2⟩ ⟨c0,c1,c2⟩;dsimp only at f0 f1 c0 c1 c2 ⊢;exact go _ _ _ _ _ _ _ _ _ _ _ _ _ _ _ _ _ _ _ _ _ c2 {P with re:=by rw[w64];omega,im:=by rw[w64];omega}
  .refine JC (nx N hL h2 65 (by omega)) ?_;rintro ⟨r,e1,e2⟩ ⟨f0,f1,f2⟩;dsimp only at f0 f1 f2 ⊢;exact go _ _ _ _ _ _ _ _ _ _ _ _ _ _ _ _ _ _ _ _ _ f2 {P with ia:=by omega}
  .refine JC (jV N hN hL h2) ?_;rintro ⟨x,e⟩ ⟨f0,f2⟩;refine JC (jV N hN hL f2) ?_;rintro ⟨y,e⟩ ⟨f1,f2⟩;refine JC (nx N hL f2 2 (by omega)) ?_;rintro ⟨r2,e1,e2⟩ ⟨c0,c1,c2⟩;dsimp only at f0 f1 c0 c1 c2 ⊢;rw[w64];refine JH (Dk) (JH (Dk) ?_);refine go _ _ _ _ _ _ _ _ _ _ _ _ _ _ _ _ _ _ _ _ _ c2 {P with na:=⟨?_,fun g hg=> ?_⟩}
   .unfold J6;rw[Es,DD];simp;omega
   .rcases D8.1 (ApH hg)with rfl | hg
    .exact f0
    .rw[Ed.1 hg];exact f1
  .refine JC (AkO N hN hL h2) ?_;rintro ⟨⟨x,y⟩,e1,e2⟩ ⟨⟨f0,f1⟩,f2⟩;exact go _ _ _ _ _ _ _ _ _ _ _ _ _ _ _ _ _ _ _ _ _ f2 {P with pe:=f0,ex:=f1}
  .refine JC (nx N hL h2 3 (by omega)) ?_;rintro ⟨r,e⟩ ⟨f0,f1,f2⟩;dsimp only at f0 f1 f2 ⊢;refine JH (Dk) (JH (Dk) (JH (Dk) ?_));refine JC (nx N hL f2 2 (by omega)) ?_;rintro ⟨r2,e1,e2⟩ ⟨c0,c1,c2⟩;dsimp only at c0 c1 c2 ⊢;refine JH (Dk) (JH (Dk) (JH (Dk) ?_));exact go _ _ _ _ _ _ _ _ _ _ _ _ _ _ _ _ _ _ _ _ _ c2 {P with sk:=P8 (P:=shortS) (by decide) f0 f1,ak:=P8 (P:=shortS) (by decide) c0 c1}
  .refine JC (AdD N hN hL h2) ?_;rintro ⟨r,e1,e2⟩ ⟨f0,f2⟩;exact go _ _ _ _ _ _ _ _ _ _ _ _ _ _ _ _ _ _ _ _ _ f2 {P with pt:=f0}
  .refine JC (AdD N hN hL h2) ?_;rintro ⟨r,e⟩ ⟨f0,f2⟩;refine JC (nx N hL f2 2 (by omega)) ?_;rintro ⟨r2,e⟩ ⟨c0,c1,c2⟩;refine JC (nx N hL c2 3 (by omega)) ?_;rintro ⟨r3,e1,e2⟩ ⟨z0,z1,z2⟩;dsimp only at f0 c0 c1 z0 z1 z2 ⊢;refine JH (Dk) (JH (Dk) ?_);refine go _ _ _ _ _ _ _ _ _ _ _ _ _ _ _ _ _ _ _ _ _ z2 {P with fr:=f0,un:=⟨?_,fun g hg=> ?_⟩}
   .unfold J6;rw[Es,DD];simp;omega
   .rcases D8.1 (ApH hg)with rfl | hg
    .exact⟨(by decide:shortS [49,46,50,46,51,46,52,46,53]),(by decide:shortS [5,0])⟩
    .rw[Ed.1 hg];exact⟨by decide,by decide⟩
 .dsimp only[U21];exact Ku ⟨P,g2⟩
end
def AbT {s:Bs} (h:shortS s):LG s:=by unfold shortS at h;unfold LG;omega
def Aqn.small {x:Info} (h:Aqn x):O5 x:=by
 obtain⟨B,C,D,F,G,H,I,J,K,L,M,O,P,Q,R,S,T,U,un⟩:=x;have h:Aqm D F J K L P Q R S U G H I M T un:=h;have hi: ∀ {m:Nat} {l:List Bs},Arx m l->m<=1000->l.length<=1048576/\ ∀ s∈l,LG s:=fun g hm=>⟨by have:=g.1;omega,fun s hs=>AbT (g.2 s hs)⟩
 refine⟨hi h.pu (by omega),hi h.po (by omega),fun s hs=>⟨AbT (h.ma.2 s hs).1,AbT (h.ma.2 s hs).2⟩,Amy h.na,Amy h.pe,Amy h.ex,h.pt.2,h.fr.2,?_,fun s hs=>⟨AbT (h.un.2 s hs).1,AbT (h.un.2 s hs).2⟩⟩;have:=h.un.1;dsimp only;omega
theorem Aek (t:Nat) (c:Bs):(Y7 t c).1.length<=131077:=dP
def Aw0 (s:St2):(OL s).1.length<=131077:=by
 unfold OL;cases ZP s != 0 with
 | true=>exact Em _
 | false=>exact Aek _ _
def Ani (l:List Pt):(KN l).1.length<=131077:=by
 unfold KN;cases l.isEmpty with
 | true=>exact Em _
 | false=>cases RF l != 0 with
  | true=>exact Em _
  | false=>exact Aek _ _
def Ws {t:Nat} {c:Bs} (h:c.length<=1048571):(Sp.elem t c).length<=1048576:=by have:=Sp.JQ t c;omega
def Agy {b:Bool} {c:Bs} {k:Nat} (h:c.length<=k):((bif b then c else []):Bs).length<=k:=by cases b with
 | true=>exact h
 | false=>exact Em _
def AxN {N:Nat} (hN:1048578<N) {x:Info} (h0:Qg x=0):(OI x).all (fun r=>decide (r.2.2.1.length<=40)&&decide (r.2.2.2.2.length<=1048576))=true:=by
 obtain⟨B,C,D,F,G,H,I,J,K,L,O,P,Q,R,S,T,U,V,W⟩:=x;obtain⟨ok,_⟩:=Aet h0;obtain⟨s1,s2,s3,s4⟩:=ok.sp;have k: ∀ {n:Int} {t:Nat},spI n=true->(Sp.elem t (inB n)).length<=7:=fun h=>by have:=iY N hN h;have:=Sp.JQ ‹Nat› (inB ‹Int›);omega
 have v1:(bK C D).length<=1048576:=Ws (by rw[Dv];have a:((bif C then Sp.elem 1 [255]else []):Bs).length<=6:=Agy (by decide);have b:((bif D != -1 then Sp.elem 2 (inB D)else []):Bs).length<=7:=Agy (k s1);omega);have v2:(Sp.elem 3 (flB F)).length<=1048576:=Ws (by have:=iW ok.us;omega);have v3:(Aer G).length<=1048576:=Ws (by have:=Lp (g:=Lt) (M:=65) (l:=G) (fun m hm=>by exact MZ (ok.pu.2 m hm));have:=ok.pu.1;omega);have v4:(AeE H).length<=1048576:=Ws (by have:=Lp (g:=(fun s=>Sp.elem 48 (Lt s))) (M:=70) (l:=H) (fun m hm=>by have:=MZ (ok.po.2 m hm);have:=Sp.JQ 48 (Lt m);omega);have:=ok.po.1;omega);have v5:(Ae6 I).length<=1048576:=Ws (by have:=Lp (g:=(fun m:Bs×Bs=>Sp.elem 48 (Lt m.1++Lt m.2))) (M:=135) (l:=I) (fun m hm=>by have:=MZ (ok.ma.2 m hm).1;have:=MZ (ok.ma.2 m hm).2;have:=Sp.JQ 48 (Lt m.1++Lt m.2);rw[Dv]at this;omega);have:=ok.ma.1;omega);have v6:(AaP J K).length<=1048576:=Ws (by rw[Dv];have a:((bif J != -1 then Sp.elem 128 (inB J)else []):Bs).length<=7:=Agy (k s2);have b:((bif K != -1 then Sp.elem 129 (inB K)else []):Bs).length<=7:=Agy (k s3);omega);have v7:(Sp.elem 2 (inB L)).length<=1048576:=by have:=k (t:=2) s4;omega
 have v8:(Sp.elem 48 (Nj O)).length<=1048576:=Ws (by have:=dB ok.na.2 ok.na.1;omega);have v9:(OL (Q,R)).1.length<=1048576:=by have:=Aw0 (Q,R);omega
 have va:(Sp.elem 4 S).length<=1048576:=Ws (by have:=ok.sk;omega);have vb:(Sp.elem 48 (Sp.elem 128 T)).length<=1048576:=Ws (by have:=ok.ak;have:=Sp.JQ 128 T;omega);have vc:(KN U).1.length<=1048576:=by have:=Ani U;omega
 have vd:(KN V).1.length<=1048576:=by have:=Ani V;omega
 unfold OI;simp only[List.all_cons,List.all_nil,Dk v1,Dk v2,Dk v3,Dk v4,Dk v5,Dk v6,Dk v7,Dk v8,Dk v9,Dk va,Dk vb,Dk vc,Dk vd];rfl
def Ax0: ∀(l:List (Bool×Bool×Ex)),(l.flatMap KU).length<=l.length:=by
 intro l
 induction l with
 | nil=>exact DK _
 | cons r l ih=>rw[F7,Dv,List.length_cons];have:=NZ r;omega
def ApM {N:Nat} (hN:1048578<N) {x:Info} (hx:O5 x):(∀ e∈(encI x).1,TZ e)/\(encI x).1.length<=1048600:=by
 unfold encI;by_cases h0:Qg x=0
 .rw[qA h0,cond_false];cases (OI x).any QN with
  | true=>exact⟨(fun e he=>nomatch he),Em _⟩
  | false =>
   rw[cond_false];refine⟨fun e he=> ?_,?_⟩
   .rcases DR.1 he with he | he
    .obtain⟨r,hr,hg⟩:=Et.1 he;have:=DF.1 (AxN hN h0) r hr;rw[Dx,D6,D6]at this;unfold KU at hg;cases h1:r.1 with
     | true=>rw[h1,cond_true,Ed]at hg;subst hg;exact⟨by unfold LG;omega,this.2⟩
     | false=>rw[h1]at hg;exact nomatch hg
    .exact hx.un.2 e he
   .rw[Dv];have a:=Ax0 (OI x);rw[Ajj]at a;have:=hx.un.1;omega
 .rw[bM h0,cond_true];exact⟨(fun e he=>nomatch he),Em _⟩
section
variable (N:Nat) (hN:1048700<N)
include hN
end
set_option linter.unusedSectionVars false
def ne_nil {s:Bs} (h:0<s.length):(s==([]:Bs))=false:=by cases s with | nil=>simp at h | cons a r=>rfl
def idP (N:Nat) (sd:Bs):Bs:=hS N [[73],sd]
def xU (N:Nat) (sd:Bs):TrT:=([],sd,idP N sd,0)
def oJ (N:Nat) (sd:Bs):Bs:=pkP N (idP N sd) sd 0
def bD (N:Nat) (sd:Bs):TrT:=([[oJ N sd]],sd,idP N sd,0)
def AnL (N:Nat) (sd:Bs):SgT:=(sd,0,0,[xU N sd])
def AnM (N:Nat) (sd:Bs):SgT:=(sd,0,1,[bD N sd])
def Abv (N:Nat) (sd:Bs):Int×Bs×Bs:=(0,idP N sd,oJ N sd)
def Aeh (N:Nat) (sd m:Bs):Bs:=hS N [[77],idP N sd,oJ N sd,b4P 0,m]
def Zb (N:Nat) (sd m:Bs):Bs:=b4P 0++pF N (idP N sd) sd 0 (Aeh N sd m)
section
variable {N:Nat} (h:Big N) {sd:Bs} (hs:sd.length=32)
include h hs
theorem id_eq:Nh N [[73],sd]=some (idP N sd)/\(idP N sd).length=16:=AfK (hok h (by simp) (by simp [hs]))
theorem ApT:(oJ N sd).length=16:=pk_len h (id_eq h hs).2 hs 0
theorem Aof:Vy N sd 0=some (.inl (xU N sd,0)):=by
 unfold Vy;try simp -zeta only[Ap]
 rw[show((sd.length:Int) != 32)=false by rw[hs];rfl,cond_false,(id_eq h hs).1];rfl
theorem zW (l:List (List Bs)) (k:Bs):ML N (l,sd,k,0)=some (1,(l,sd,k,0)):=by
 unfold ML NF;try simp -zeta only[Ap]
 rw[Jt,ne_nil (by rw[hs];decide)];rfl
theorem Ayg:Zc N sd 0=some (.inl (AnL N sd,0)):=by
 have e:=zW h hs [] (idP N sd);unfold Zc AbU;try simp -zeta only[Ap]
 rw[Aof h hs,Ai8];unfold xU;dsimp only;rw[e];rfl
theorem Azu:Ob N (xU N sd)=some (bD N sd):=by
 obtain⟨M,rfl⟩: ∃ M,N=M+10:=⟨N - 10,by have:=h.n;omega⟩
 unfold Ob;try simp -zeta only[Ap]
 have e:=AsI h (id_eq h hs).2 hs (FN 0) (by omega:(0:Int)<256);unfold xU;rw[L8];dsimp only[U6];rw[e];rfl
theorem Azv:Ob N (bD N sd)=some (bD N sd):=rfl
theorem AsH (t:TrT) (ht:Ob N t=some (bD N sd)) (hv:t.2.1=sd):SA N t=some (Abv N sd,bD N sd):=by unfold SA NF;rw[Jt,hv,ne_nil (by rw[hs];decide)];dsimp only;rw[Eu,EI,cond_false,ht];rfl
theorem Atl {m:Bs} (hm:m.length+64<N):RH N (Abv N sd) 0 m=some (Aeh N sd m)/\(Aeh N sd m).length=16:=by
 have hn:=h.n
 obtain⟨e1,e2⟩:=AfK (N:=N) (l:=[[77],idP N sd,oJ N sd,b4P 0,m]) ⟨by omega,h.m,by simp;omega,fun s hs'=>by
  have i1:=(id_eq h hs).2;have i2:=ApT h hs;simp only[D8,F6,Ho]at hs';rcases hs' with rfl | rfl | rfl | rfl | rfl
  .simp;omega
  .omega
  .omega
  .simp [b4P];omega
  .exact hm⟩
 refine⟨?_,e2⟩;unfold RH;rw[Aue,Jt];show Jr (Nh N [[77],idP N sd,oJ N sd,b4P 0,m]) _=_;rw[e1];rfl
theorem AuT {m:Bs} (hm:m.length+64<N) (l:List (List Bs)) (ht:Ob N (l,sd,idP N sd,0)=some (bD N sd)):Uu N (l,sd,idP N sd,0) 0 m=some (Zb N sd m,0,bD N sd):=by
 have hn:=h.n;have e1:=zW h hs l (idP N sd);have e2:=AsH h hs (l,sd,idP N sd,0) ht rfl;obtain⟨e3,e4⟩:=Atl h hs hm;have e5:=Axg h (id_eq h hs).2 hs (FN 0) (by omega) e4;have hl:=xG h (id_eq h hs).2 hs 0 (Aeh N sd m);unfold Uu NF;try simp -zeta only[Ap]
 rw[Jt,ne_nil (by rw[hs];decide)];dsimp only;rw[e1];simp (decide:=true) only[Eu,EI,cond_false,cond_true,Option.isSome_some,Ea,EM,Jz,Option.getD_some,Int.lt_irrefl,Hw];rw[e2,Jt];dsimp only[bD];rw[EO,EO,Jz,Jz];refine(KQ _ rfl).trans ?_;rw[e3,Jt,e5,Jt];dsimp only;rw[show((0:Int) != 0)=false from rfl,cond_false,Aue,Jt,KQ _ (Dk (by rw[hl];simp [b4P]))];obtain⟨M,rfl⟩: ∃ M,N=M+10:=⟨N - 10,by omega⟩
 rfl
theorem AuQ {m:Bs} (hm:m.length+64<N):PX N (AnL N sd) m=some (Zb N sd m,0,AnM N sd):=by
 have e1:=zW h hs [] (idP N sd);have e2:=AuT h hs hm [] (Azu h hs);unfold PX VU Ot;try simp -zeta only[Ap]
 dsimp only[AnL,xU,Jt,List.headD_cons];rw[ne_nil (by rw[hs];decide),Fa,cond_false,cond_false,e1,Jt];dsimp only;rw[show(i64.wrap (1 - 0))=1 from rfl,Jt];dsimp only;rw[show((1:Int)==0)=false from rfl,cond_false,List.headD_cons,e2,Jt];rfl
theorem Axf:Q4 N (AnM N sd)=some (Abv N sd,AnM N sd):=by
 have e:=AsH h hs (bD N sd) (Azv h hs) rfl;unfold Q4 Ot;try simp -zeta only[Ap]
 dsimp only[AnM,List.headD_cons];rw[ne_nil (by rw[hs];decide),Fa,Jt];dsimp only;rw[cond_false,List.headD_cons,e,Jt];dsimp only;rw[EO,EO,Jz,Jz];rfl
theorem Aqo {m:Bs} (hm:m.length+64<N):Xv N (Abv N sd) m (Zb N sd m)=some 0:=by
 have hn:=h.n;obtain⟨e3,e4⟩:=Atl h hs hm;have e5:=Aqq h (id_eq h hs).2 hs (FN 0) (by omega) e4;have hl:=xG h (id_eq h hs).2 hs 0 (Aeh N sd m);have hk:=ApT h hs;have hi:=(id_eq h hs).2;have h4:(b4P 0).length=4:=rfl
 have hc:Nv N (Abv N sd)=some 0:=by
  unfold Nv Abv;try simp -zeta only[Ap]
  try dsimp only
  rw[show((List.length (idP N sd):Int) != 16)=false by rw[hi];rfl,show((List.length (oJ N sd):Int) != 16)=false by rw[hk];rfl];rfl
 have hsl:(Zb N sd m).length=564:=by unfold Zb;rw[Dv,hl,h4]
 have c1:J6 (Zb N sd m) 0 4=b4P 0:=by unfold J6 Zb;rw[Gv (by omega)];rfl
 have c2:J6 (Zb N sd m) 4 564=pF N (idP N sd) sd 0 (Aeh N sd m):=by unfold J6;rw[Fg (by omega)];unfold Zb;exact List.drop_left' h4
 have hf:aI N (Zb N sd m)=some (0,true):=by
  unfold aI;try simp -zeta only[Ap]
  rw[c1,hsl];obtain⟨M,rfl⟩: ∃ M,N=M+10:=⟨N - 10,by omega⟩
  rfl
 unfold Xv;try simp -zeta only[Ap]
 rw[hc,Jt,show((0:Int) != 0)=false from rfl,cond_false,hsl,hf,Jt];dsimp only[Abv];rw[show((((564:Nat):Int)) != i64.wrap (564+i64.wrap (0*16)))=false from rfl,cond_false];refine(KQ _ rfl).trans ?_;rw[Dq (by decide: ¬(0:Int)>=i64.wrap (1*2 ^ min (u64.wrap 0).toNat 64)),cond_false];have e3':RH N (0,idP N sd,oJ N sd) 0 m=_:=e3;rw[e3',Jt];refine(KQ _ rfl).trans ?_;rw[c2,e5,Jt];dsimp only;rw[show((0:Int) != 0)=false from rfl,cond_false];refine(KQ _ rfl).trans ?_;obtain⟨M,rfl⟩: ∃ M,N=M+10:=⟨N - 10,by omega⟩
 rw[L8];dsimp only[U6,U4];rw[Dq (by decide: ¬(0:Int)<0),cond_false];show(bif !(oJ (M+10) sd==oJ (M+10) sd)then _ else _)=_;rw[EO];rfl
end
set_option linter.unusedSectionVars false
section
variable {N:Nat} (h:Big N) {sd:Bs} (hs:sd.length=32)
include h hs
end
def W32 (w:List Int):List Int:=(List.range 8).flatMap fun i=>[u8.wrap ((w.getD i 0).fdiv 16777216),u8.wrap ((w.getD i 0).fdiv 65536),u8.wrap ((w.getD i 0).fdiv 256),u8.wrap (w.getD i 0)]
def kF (N:Nat) (t6g:List Int):Option Bs :=
 J3 (X:=Int×List Int) (Y:=(List Int)) (U2 fun t76h l1028672h k8 x9 =>
 bif decide (t76h<(t6g.length:Int))then(chk (decide ((0:Int)<=t76h)) <|
 chk (decide (t76h<(t6g.length:Int))) <|
 chk (decide ((l1028672h.length+4)*2<=140737488355328)) <|
 let y56576:List Int:=l1028672h++([u8.wrap ((t6g.getD t76h.toNat 0).fdiv (16777216)),u8.wrap ((t6g.getD t76h.toNat 0).fdiv (65536)),u8.wrap ((t6g.getD t76h.toNat 0).fdiv (256)),u8.wrap (t6g.getD t76h.toNat 0)]:List Int)
 k8 (i64.wrap (t76h+(1:Int)),y56576))
 else(x9 l1028672h))
 N (0,([]:List Int)) (fun l1032768i =>
 chk (List.all l1032768i isByte) <|
 some (List.map Vm.byteOf l1032768i))
def AaK:List Int:=[1779033703,3144134277,1013904242,2773480762,1359893119,2600822924,528734635,1541459225]
def blk4 (a b c d:UInt8):Bs:=[115,101,101,100,a,b,c,d,128]++List.replicate 54 0++[64]
def Aq6 {α :Type} {b:Bool} {x y: α} (h:b=true:=by kernel_rfl):(bif b then x else y)=x:=by rw[h];rfl
def Aq5 {α :Type} {b:Bool} {x y: α} (h:b=false:=by kernel_rfl):(bif b then x else y)=y:=by rw[h];rfl
def Ayn {α β ρ :Type} (f: α -> β -> ρ) (a: α) (b: β):U2 f (a,b)=f a b:=rfl
def Axo {α ρ :Type} [Inhabited α] {x y:Option α} {f g: α ->Option ρ} (h:x=y) (hf: ∀ r,f r=g r):Jr x f=Jr y g:=by rw[h,funext hf]
def Aqt {α β γ δ ρ :Type} (f: α -> β -> γ -> δ -> ρ) (a: α) (b: β) (k: γ) (x: δ):U2 f (a,b) k x=f a b k x:=rfl
def Ayo {α β ε γ δ ρ :Type} (f: α -> β -> ε -> γ -> δ -> ρ) (a: α) (b: β) (c: ε) (k: γ) (x: δ):U3 f (a,b,c) k x=f a b c k x:=rfl
def pd4:List Int:=[128]++List.replicate 54 0++[64]
def AzI (M:Nat) (a b c d:UInt8):nI (M+300) [[115,101,101,100],[a,b,c,d]]=Jr (Xj (M+300) AaK (blk4 a b c d)) (kF (M+300)):=by
 unfold nI;try simp -zeta only[Ap]
 generalize Xj (M+300)=R;refine((?h1: ∀ K:Bs->Option Bs,J3 _ (M+300) (([]:Bs),(0:Int)) K=K [115,101,101,100,a,b,c,d]) _).trans ?_
 case h1 =>
  intro K
  iterate 2
   refine(L8 _ _ _ _).trans ?_;refine(Aqt _ _ _ _ _).trans ?_;refine(Aq6).trans ?_
   iterate 3 refine(KQ _).trans ?_
  refine(L8 _ _ _ _).trans ?_;refine(Aqt _ _ _ _ _).trans ?_;exact(Aq5).trans rfl
 rw[P6];rw[show(i64.wrap (64 - (i64.wrap ((([115,101,101,100,a,b,c,d]:Bs).length:Int)+9)).tmod 64)==64)=false by kernel_rfl,cond_false];rw[show i64.wrap (64 - (i64.wrap ((([115,101,101,100,a,b,c,d]:Bs).length:Int)+9)).tmod 64)=47 by kernel_rfl];refine(Ayn _ _ _).trans ?_
 iterate 5 refine(KQ _).trans ?_
 refine((?h2: ∀ K:List Int×List Int->Option Bs,J3 _ (M+300) ((0:Int),AaK,_) K=K (AaK,pd4)) _).trans ?_
 case h2 =>
  intro K
  iterate 8
   refine(L8 _ _ _ _).trans ?_;refine(Ayo _ _ _ _ _ _).trans ?_;refine(Aq6).trans ?_
   iterate 4 refine(KQ _).trans ?_
  refine(L8 _ _ _ _).trans ?_;refine(Ayo _ _ _ _ _ _).trans ?_;refine(Aq5).trans ?_;exact congrArg (fun l=>K (AaK,l)) (DC (by kernel_rfl))
 refine(Ayn _ _ _).trans ?_
 iterate 2 refine(KQ _).trans ?_
 refine((?h3: ∀ K:List Int->Option Bs,J3 _ (M+300) (AaK,(0:Int)) K=Jr (R AaK (blk4 a b c d)) K) _).trans ?_
 case h3 =>
  intro K;refine(L8 _ _ _ _).trans ?_;refine(Aqt _ _ _ _ _).trans ?_;refine(Aq6).trans ?_
  iterate 3 refine(KQ _).trans ?_
  refine Axo (congrArg (R AaK) ?_) fun r=> ?_
  .rfl
  .refine(L8 _ _ _ _).trans ?_;refine(Aqt _ _ _ _ _).trans ?_;exact Aq5
 rfl
def AyS (M:Nat) (a b c d:UInt8):((Xj (M+300) AaK (blk4 a b c d)).map List.length)=some 8:=by kernel_rfl
def kF8 (M:Nat) (a b c d e f g h:Int):kF (M+300) [a,b,c,d,e,f,g,h]=chk (List.all (W32 [a,b,c,d,e,f,g,h]) isByte) (some (List.map Vm.byteOf (W32 [a,b,c,d,e,f,g,h]))):=by kernel_rfl
def Awq (M:Nat) (p:Int): ∃ s,S9 (M+300) p=some s/\s.length=32:=by
 have e:wU (M+300) p=some (b4P p):=by
  unfold wU;try simp -zeta only[Ap]
  rw[KQ _ (by simp [OT])];rfl
 unfold S9;rw[e,Jt];obtain⟨a,b,c,d,hb⟩: ∃ a b c d,b4P p=[a,b,c,d]:=⟨_,_,_,_,rfl⟩
 rw[hb,AzI];obtain⟨w,hw,hl⟩:=Iw.1 (AyS M a b c d);rw[hw,Jt]
 match w,hl with
 | [a,b,c,d,e,f,g,h],_ =>rw[kF8,KQ _ (by simp [W32,OT,Iu]),Jt];exact⟨_,rfl,by simp [W32,Iu]⟩
abbrev Crt:Type:=Bs×Bs×Int×List (List Att)×List (List Att)×Int×Int×Int×Bs×Bs×Bool×Bool×Int×Int×List Bs×List Bs×List (Bs×Bs)×Int×Int×Int×List Gn×Bool×List Gn×List Gn×Bs×Bs×List Pt×List Pt×List Ex×Bs
def As7:List Int:=[0,1000,2000000000,3155759999,3155760000,254033452799,2400000000]
structure AzJ (se:Int) (is su:List (List Att)) (nb nf kh:Int) (ki kr:Bs) (x:Info):Prop where
 se:1<=se/\se<=300
 is:LM is
 su:LM su
 nb:nb∈As7
 nf:nf∈As7
 kh:0<=kh/\kh<9
 ki:ki.length=16
 kr:kr.length=16
 x:O5 x
section
variable (N:Nat) (hN:1048700<N) {L:List Int} (hL:L.length<=9223372036854775807)
include hN hL
theorem Ajt {d:List Int×Int} (hd:KD L d):Ends (fun r=>r.1∈As7/\KD L r.2) (dC N d):=by
 unfold dC;try simp only[clR]
 refine JC (nx N hL hd 7 (by omega)) ?_;rintro ⟨r,d'⟩ ⟨h0,h1,h2⟩;dsimp only at h0 h1 h2 ⊢;exact JH (Dk) (JH (Dk) (JH (Dk) (Ku ⟨P8 (P:=fun s=>s∈As7) (fun s hs=>hs) h0 h1,h2⟩)))
theorem AvI {d:List Int×Int} (hd:KD L d):Ends (fun r=>((0<=r.1.1/\r.1.1<9)/\r.1.2.1.length=16/\r.1.2.2.length=16)/\KD L r.2) (vV N d):=by
 unfold vV;try simp only[clR]
 refine JC (nx N hL hd 50 (by omega)) ?_;rintro ⟨r,e⟩ ⟨h0,h1,h2⟩;dsimp only at h0 h1 h2 ⊢;obtain⟨s,e2,hs⟩: ∃ s,S9 N r=some s/\s.length=32:=by have:=Awq (N - 300) r;rwa [show N - 300+300=N by omega]at this
 rw[e2,Jt];refine JC (nx N hL h2 9 (by omega)) ?_;rintro ⟨r,e⟩ ⟨h0,h1,h2⟩;dsimp only at h0 h1 h2 ⊢;refine JH (Dk) (JH (Dk) (Ku ⟨⟨⟨h0,h1⟩,?_,?_⟩,h2⟩))
 .dsimp only;unfold J6;rw[Es,DD];omega
 .dsimp only;unfold J6;rw[Es,DD];omega
end
def QS (c:Crt):Info:=(c.2.2.2.2.2.2.2.2.2.2.1,c.2.2.2.2.2.2.2.2.2.2.2.1,c.2.2.2.2.2.2.2.2.2.2.2.2.1,c.2.2.2.2.2.2.2.2.2.2.2.2.2.1,c.2.2.2.2.2.2.2.2.2.2.2.2.2.2.1,c.2.2.2.2.2.2.2.2.2.2.2.2.2.2.2.1,c.2.2.2.2.2.2.2.2.2.2.2.2.2.2.2.2.1,c.2.2.2.2.2.2.2.2.2.2.2.2.2.2.2.2.2.1,c.2.2.2.2.2.2.2.2.2.2.2.2.2.2.2.2.2.2.1,c.2.2.2.2.2.2.2.2.2.2.2.2.2.2.2.2.2.2.2.1,c.2.2.2.2.2.2.2.2.2.2.2.2.2.2.2.2.2.2.2.2.1,c.2.2.2.2.2.2.2.2.2.2.2.2.2.2.2.2.2.2.2.2.2.1,c.2.2.2.2.2.2.2.2.2.2.2.2.2.2.2.2.2.2.2.2.2.2.1,c.2.2.2.2.2.2.2.2.2.2.2.2.2.2.2.2.2.2.2.2.2.2.2.1,c.2.2.2.2.2.2.2.2.2.2.2.2.2.2.2.2.2.2.2.2.2.2.2.2.1,c.2.2.2.2.2.2.2.2.2.2.2.2.2.2.2.2.2.2.2.2.2.2.2.2.2.1,c.2.2.2.2.2.2.2.2.2.2.2.2.2.2.2.2.2.2.2.2.2.2.2.2.2.2.1,c.2.2.2.2.2.2.2.2.2.2.2.2.2.2.2.2.2.2.2.2.2.2.2.2.2.2.2.1,c.2.2.2.2.2.2.2.2.2.2.2.2.2.2.2.2.2.2.2.2.2.2.2.2.2.2.2.2.1)
def tmB (a b:Int):Bool:=decide (a<0)||decide (a>254033452799)||decide (b<0)||decide (b>254033452799)||decide (a>b)
def nY (se:Int) (is su:List (List Att)) (nb nf:Int) (k:Int×Bs×Bs) (C:Bool) (x:Info):Int :=
 bif decide (se<1)||decide (se>4611686018427387904)then 21 else bif is.isEmpty then 14 else bif Nk is != 0 then Nk is else bif tmB nb nf then 12 else bif Nk su != 0 then Nk su else bif C&&su.isEmpty then 14 else bif vS k != 0 then vS k else Qg x
def mF (c:Crt):Int:=nY c.2.2.1 c.2.2.2.1 c.2.2.2.2.1 c.2.2.2.2.2.1 c.2.2.2.2.2.2.1 (c.2.2.2.2.2.2.2.1,c.2.2.2.2.2.2.2.2.1,c.2.2.2.2.2.2.2.2.2.1) c.2.2.2.2.2.2.2.2.2.2.2.1 (QS c)
structure SmC (c:Crt):Prop where
 is:LM c.2.2.2.1
 su:LM c.2.2.2.2.1
 x:O5 (QS c)
section
variable (N:Nat) (hN:1048578<N)
include hN
omit hN in
theorem Avr (x:Int):VC N x=some (!(decide (x<0)||decide (x>254033452799))):=by
 unfold VC;try simp only[clR]
 have h1:decide (x>=0)= !decide (x<0):=by by_cases h:x<0<;>simp [h]<;>omega
 have h2:decide (x<=254033452799)= !decide (x>254033452799):=by by_cases h:x>254033452799<;>simp [h]<;>omega
 all_goals simp_all[VC]
theorem xX (c:Crt) (hs:SmC c):RV N c=some (mF c):=by
 obtain⟨raw,tb,se,is,su,nb,nf,kh,ki,kr,B,C,pl,D,F,G,H,J,K,L,M,O,P,Q,R,S,T,U,V,sg⟩:=c;have h1:LM is:=hs.is;have h2:LM su:=hs.su;have h3:RG N (B,C,pl,D,F,G,H,J,K,L,M,O,P,Q,R,S,T,U,V)=some (Qg (B,C,pl,D,F,G,H,J,K,L,M,O,P,Q,R,S,T,U,V)):=jK N (B,C,pl,D,F,G,H,J,K,L,M,O,P,Q,R,S,T,U,V) hN hs.x;unfold RV mF QS nY;try simp -zeta only[Ap]
 try dsimp only
 rw[UJ N _ hN h1,UJ N _ hN h2,mQ,h3];generalize Qg (B,C,pl,D,F,G,H,J,K,L,M,O,P,Q,R,S,T,U,V)=I;simp only[Avr,Jt,Option.isSome_some,Option.getD_some,len0];try simp only[clR]
 have ht: ∀ a b:Int,(decide (a<0)||decide (a>254033452799)||(decide (b<0)||decide (b>254033452799))||decide (a>b))=tmB a b:=fun a b=>by unfold tmB;cases decide (a<0)<;>cases decide (a>254033452799)<;>cases decide (b<0)<;>cases decide (b>254033452799)<;>rfl
 rw[ht];simp only[JY]
theorem zS (c:Crt) (hs:SmC c):Qm N c=some (mF c):=by
 obtain⟨raw,tb,se,is,su,nb,nf,kh,ki,kr,B,C,pl,D,F,G,H,J,K,L,M,O,P,Q,R,S,T,U,V,sg⟩:=c;have h1:LM is:=hs.is;have h2:LM su:=hs.su;have h3:Qo N (B,C,pl,D,F,G,H,J,K,L,M,O,P,Q,R,S,T,U,V)=some (Qg (B,C,pl,D,F,G,H,J,K,L,M,O,P,Q,R,S,T,U,V)):=zT N (B,C,pl,D,F,G,H,J,K,L,M,O,P,Q,R,S,T,U,V) hN hs.x;unfold Qm mF QS nY;try simp -zeta only[Ap]
 try dsimp only
 rw[WX N _ hN h1,WX N _ hN h2,AmG,mQ,h3];generalize Qg (B,C,pl,D,F,G,H,J,K,L,M,O,P,Q,R,S,T,U,V)=I;all_goals simp_all[Jt,len0,XX,Jz,tmB,JY,Crt,hs,Qm,mF]
omit hN in
theorem takeB (N:Nat) (b:Bool) (s:Bs) (e:Int):Ko N b s e=some (s,b||(e != 0)):=by
 rw[TC];by_cases h:e=0
 .subst h;rfl
 .rw[Dk h,bM h]
def jU (x:Info):Option Bs:=bif (encI x).2 != 0 then none else bif (encI x).1.isEmpty then some []else bif (Um (encI x).1).2 != 0 then none else KT 163 (Um (encI x).1).1
omit hN in
theorem At3 (l:List Ex):(Um l).1.length<=131077:=by grind[Um,Y4,RD,Aek]
theorem ApD (x:Info) (hx:O5 x) (b:Bool): ∃ s,Qb N b x=some (s,b||(jU x).isNone)/\(∀ v,jU x=some v->s=v)/\s.length<=131077:=by
 unfold Qb jU;rw[AcF N x hN hx,Jt,len0];have hsm:=(ApM hN hx).1;cases he:(encI x).2 != 0 with
 | true =>rw[cond_true,takeB,Jt,he];exact⟨[],rfl,(fun v h=>by cases h),Em _⟩
 | false =>
  rw[cond_false,cond_false];cases hl:(encI x).1.isEmpty with
  | true=>exact⟨[],by rw[cond_true,cond_true];show some _=_;rw[show(some ([]:Bs)).isNone=false from rfl,ES],(fun v h=>(FT h)),Em _⟩
  | false =>
   rw[cond_false,cond_false,AjJ N hN _ hsm,Jt,takeB,Jt];dsimp only;rw[show(163:Int)=((163:Nat):Int)from rfl,AgW N 163 _ _ (by omega) (by omega) (by simp;omega) (by simp),Jt,JO];cases h2:(Um (encI x).1).2 != 0 with
   | true =>refine⟨((KT 163 (Um (encI x).1).1).getD []),?_,(fun v h=>by cases h),dP⟩;show some (_,(b||true)||_)=some (_,b||true);rw[EM,Ea]
   | false =>
    refine⟨((KT 163 (Um (encI x).1).1).getD []),?_,(fun v h=> ?_),dP⟩
    .show some (_,(b||false)||_)=some (_,b||_);rw[ES];rfl
    .have h:KT 163 (Um (encI x).1).1=some v:=h;rw[h];rfl
theorem AxM (x:Info) (hx:O5 x): ∃ s e,PG N 163 x=some (s,e)/\(e != 0)=(jU x).isNone/\ ∀ v,jU x=some v->s=v:=by
 unfold PG jU;try simp -zeta only[Ap]
 rw[Ajx N x hN hx,Jt,len0];have hsm:=(ApM hN hx).1;try simp only[clR]
 cases he:(encI x).2 != 0 with
 | true=>exact⟨[],_,rfl,he,(fun v h=>by cases h)⟩
 | false =>
  rw[EK,cond_false];cases hl:(encI x).1.isEmpty with
  | true=>exact⟨[],_,rfl,he,(fun v h=>FT h)⟩
  | false =>
   rw[cond_false,cond_false];unfold fD;rw[Ajw N hN _ hsm,Jt];have hle:=At3 (encI x).1;cases h2:(Um (encI x).1).2 != 0 with
   | true=>exact⟨[],_,rfl,h2,(fun v h=>by cases h)⟩
   | false =>
    rw[cond_false,cond_false,show(163:Int)=((163:Nat):Int)from rfl,bG N 163 _ (by omega) (by omega) (by simp;omega) (by simp) (by rw[JO];omega),Jt,JO];refine⟨_,_,rfl,?_,(fun v h=> ?_)⟩
    .show((if(KT 163 (Um (encI x).1).1).isNone=true then(2:Int)else 0) != 0)=_;cases (KT 163 (Um (encI x).1).1)<;>rfl
    .rw[h];rfl
def Ry (t:Int):Bs:=((QC N t).getD ([],0)).1
theorem ZQ {t:Int} (h0:0<=t) (h1:t<=254033452799):QC N t=some (Ry N t,0)/\Oe N t=some (Ry N t,0)/\(Ry N t).length<=30:=by grind[AuE,Ry]
def Abq (se:Int) (is su:List (List Att)) (nb nf:Int) (k:Int×Bs×Bs) (v:Bs):Bs:=[Sp.elem 160 (AeB 2),AeB se,jG,nmB is,Sp.elem 48 (Ry N nb++Ry N nf),nmB su,AmF k,v].flatten
def Aiw (se:Int) (is su:List (List Att)) (nb nf:Int) (k:Int×Bs×Bs) (C:Bool) (x:Info):Bs×Int :=
 bif nY se is su nb nf k C x != 0 then([],nY se is su nb nf k C x)else match jU x with
 | none=>([],2)
 | some v=>Y7 48 (Abq N se is su nb nf k v)
omit hN in
theorem ApG {se:Int} {is su:List (List Att)} {nb nf:Int} {k:Int×Bs×Bs} {C:Bool} {x:Info} (h:nY se is su nb nf k C x=0):(1<=se/\se<=4611686018427387904)/\Nk is=0/\((0<=nb/\nb<=254033452799)/\0<=nf/\nf<=254033452799)/\Nk su=0/\vS k=0/\Qg x=0:=by unfold nY at h;obtain⟨h1,h⟩:=uC h;obtain⟨_,h⟩:=uC h;obtain⟨h2,h⟩:=nN h;obtain⟨h3,h⟩:=uC h;obtain⟨h4,h⟩:=nN h;obtain⟨_,h⟩:=uC h;obtain⟨h5,h6⟩:=nN h;all_goals grind[tmB]
theorem Ajh {se:Int} {is su:List (List Att)} {nb nf:Int} {k:Int×Bs×Bs} {v:Bs} (h1:1<=se/\se<=4611686018427387904) (h2:Nk is=0) (h3:(0<=nb/\nb<=254033452799)/\0<=nf/\nf<=254033452799) (h4:Nk su=0) (h5:vS k=0) (hv:v.length<=131077) :
 (Abq N se is su nb nf k v).length<=1000000/\(Sp.elem 48 (Ry N nb++Ry N nf)).length<=70/\(Ry N nb++Ry N nf).length<=60:=by
 have a1:=(Ya N hN 2).2.2;have a2:=Sp.JQ 160 (AeB 2);have a3:=(Ya N hN se).2.2;have a4:=Al5;have a5:=(ZH h2).1;have a6:=(ZQ N hN h3.1.1 h3.1.2).2.2;have a7:=(ZQ N hN h3.2.1 h3.2.2).2.2;have a8:=Sp.JQ 48 (Ry N nb++Ry N nf);have a9:=(ZH h4).1;have a10:=(AhM N hN h5).2.2;have a11:(Ry N nb++Ry N nf).length=(Ry N nb).length+(Ry N nf).length:=Dv;refine⟨?_,by omega,by omega⟩;unfold Abq;simp only[List.flatten_cons,List.flatten_nil,Dv,List.length_nil];rw[Dv]at a8;omega
theorem AdK (c:Crt) (hs:SmC c):Ru N c=some (Aiw N c.2.2.1 c.2.2.2.1 c.2.2.2.2.1 c.2.2.2.2.2.1 c.2.2.2.2.2.2.1 (c.2.2.2.2.2.2.2.1,c.2.2.2.2.2.2.2.2.1,c.2.2.2.2.2.2.2.2.2.1) c.2.2.2.2.2.2.2.2.2.2.2.1 (QS c)):=by
 have hC:=zS N hN c hs;have hxs:=hs.x;have h1:=hs.is;have h2:=hs.su;unfold mF at hC;unfold Ru;try simp -zeta only[Ap]
 rw[hC,Jt];have hX:PG N 163 (c.2.2.2.2.2.2.2.2.2.2.1,c.2.2.2.2.2.2.2.2.2.2.2.1,c.2.2.2.2.2.2.2.2.2.2.2.2.1,c.2.2.2.2.2.2.2.2.2.2.2.2.2.1,c.2.2.2.2.2.2.2.2.2.2.2.2.2.2.1,c.2.2.2.2.2.2.2.2.2.2.2.2.2.2.2.1,c.2.2.2.2.2.2.2.2.2.2.2.2.2.2.2.2.1,c.2.2.2.2.2.2.2.2.2.2.2.2.2.2.2.2.2.1,c.2.2.2.2.2.2.2.2.2.2.2.2.2.2.2.2.2.2.1,c.2.2.2.2.2.2.2.2.2.2.2.2.2.2.2.2.2.2.2.1,c.2.2.2.2.2.2.2.2.2.2.2.2.2.2.2.2.2.2.2.2.1,c.2.2.2.2.2.2.2.2.2.2.2.2.2.2.2.2.2.2.2.2.2.1,c.2.2.2.2.2.2.2.2.2.2.2.2.2.2.2.2.2.2.2.2.2.2.1,c.2.2.2.2.2.2.2.2.2.2.2.2.2.2.2.2.2.2.2.2.2.2.2.1,c.2.2.2.2.2.2.2.2.2.2.2.2.2.2.2.2.2.2.2.2.2.2.2.2.1,c.2.2.2.2.2.2.2.2.2.2.2.2.2.2.2.2.2.2.2.2.2.2.2.2.2.1,c.2.2.2.2.2.2.2.2.2.2.2.2.2.2.2.2.2.2.2.2.2.2.2.2.2.2.1,c.2.2.2.2.2.2.2.2.2.2.2.2.2.2.2.2.2.2.2.2.2.2.2.2.2.2.2.1,c.2.2.2.2.2.2.2.2.2.2.2.2.2.2.2.2.2.2.2.2.2.2.2.2.2.2.2.2.1)=PG N 163 (QS c):=rfl;rw[hX];generalize QS c=x at hxs ⊢;generalize c.2.2.2.2.2.2.2.2.2.2.2.1=C;generalize (c.2.2.2.2.2.2.2.1,c.2.2.2.2.2.2.2.2.1,c.2.2.2.2.2.2.2.2.2.1)=k;generalize c.2.2.2.2.2.2.1=nf;generalize c.2.2.2.2.2.1=nb;generalize c.2.2.2.2.1=su at h2 ⊢;generalize c.2.2.2.1=is at h1 ⊢;generalize c.2.2.1=se;unfold Aiw;by_cases h0:nY se is su nb nf k C x=0
 .obtain⟨c1,c2,c3,c4,c5,c6⟩:=ApG h0;rw[h0,show((0:Int) != 0)=false from rfl,cond_false,cond_false];rw[dR N is hN h1,c2,Jt,dR N su hN h2,c4,Jt,(ZQ N hN c3.1.1 c3.1.2).2.1,Jt,(ZQ N hN c3.2.1 c3.2.2).2.1,Jt,(AhM N hN c5).2.1,Jt];obtain⟨s,e,q1,q2,q3⟩:=AxM N hN x hxs;rw[q1,Jt];dsimp only;rw[q2];cases hv:jU x with
  | none=>rfl
  | some v =>
   have hs:=q3 v hv;subst hs;have hvl:s.length<=131077:=by obtain⟨s',w1,w2,w3⟩:=ApD N hN x hxs false;rw[<- w2 s hv];exact w3
   have pl:=Ajh N hN (v:=s) c1 c2 c3 c4 c5 hvl;have a1:=(Ya N hN 2).2.2;rw[show(some s).isNone=false from rfl,cond_false,(Ya N hN 2).2.1,Jt,show(160:Int)=((160:Nat):Int)from rfl,Q9 N 160 _ (by omega) (by omega) hN (by simp) (by rw[JO];omega),Jt,JO];rw[(Ya N hN se).2.1,Jt,(Acj N hN).2,Jt,show(48:Int)=((48:Nat):Int)from rfl,Q9 N 48 _ (by omega) (by omega) hN (by simp) (by rw[OW];omega),Jt,OW];rw[show((0:Int) != 0)=false from rfl,cond_false,cond_false];rw[bG N 48 _ (by omega) (by omega) (by simp;omega) (by simp) (GI (show _<=1000000 from pl.1) (by omega)),Jt];rfl
 .rw[show(nY se is su nb nf k C x != 0)=true from EE.2 h0];rfl
omit hN in
theorem AzD (b:Bool):Md N b=some (b,b):=by kernel_rfl
theorem Aop (c:Crt) (hs:SmC c):Qr N c=some (Aiw N c.2.2.1 c.2.2.2.1 c.2.2.2.2.1 c.2.2.2.2.2.1 c.2.2.2.2.2.2.1 (c.2.2.2.2.2.2.2.1,c.2.2.2.2.2.2.2.2.1,c.2.2.2.2.2.2.2.2.2.1) c.2.2.2.2.2.2.2.2.2.2.2.1 (QS c)):=by
 have hC:=xX N hN c hs;have hxs:=hs.x;have h1:=hs.is;have h2:=hs.su;unfold mF at hC;unfold Qr;rw[hC,Jt];by_cases h0:nY c.2.2.1 c.2.2.2.1 c.2.2.2.2.1 c.2.2.2.2.2.1 c.2.2.2.2.2.2.1 (c.2.2.2.2.2.2.2.1,c.2.2.2.2.2.2.2.2.1,c.2.2.2.2.2.2.2.2.2.1) c.2.2.2.2.2.2.2.2.2.2.2.1 (QS c)=0
 .obtain⟨c1,c2,c3,c4,c5,c6⟩:=ApG h0
  have key: ∃ s b,RY N false c=some (s,b,c)/\(jU (QS c)=none->b=true)/\ ∀ v,jU (QS c)=some v->s=(KT 48 (Abq N c.2.2.1 c.2.2.2.1 c.2.2.2.2.1 c.2.2.2.2.2.1 c.2.2.2.2.2.2.1 (c.2.2.2.2.2.2.2.1,c.2.2.2.2.2.2.2.2.1,c.2.2.2.2.2.2.2.2.2.1) v)).getD []/\b=(KT 48 (Abq N c.2.2.1 c.2.2.2.1 c.2.2.2.2.1 c.2.2.2.2.2.1 c.2.2.2.2.2.2.1 (c.2.2.2.2.2.2.2.1,c.2.2.2.2.2.2.2.2.1,c.2.2.2.2.2.2.2.2.2.1) v)).isNone:=by
   unfold RY;try simp -zeta only[Ap]
   have hX: ∀ b,Qb N b (c.2.2.2.2.2.2.2.2.2.2.1,c.2.2.2.2.2.2.2.2.2.2.2.1,c.2.2.2.2.2.2.2.2.2.2.2.2.1,c.2.2.2.2.2.2.2.2.2.2.2.2.2.1,c.2.2.2.2.2.2.2.2.2.2.2.2.2.2.1,c.2.2.2.2.2.2.2.2.2.2.2.2.2.2.2.1,c.2.2.2.2.2.2.2.2.2.2.2.2.2.2.2.2.1,c.2.2.2.2.2.2.2.2.2.2.2.2.2.2.2.2.2.1,c.2.2.2.2.2.2.2.2.2.2.2.2.2.2.2.2.2.2.1,c.2.2.2.2.2.2.2.2.2.2.2.2.2.2.2.2.2.2.2.1,c.2.2.2.2.2.2.2.2.2.2.2.2.2.2.2.2.2.2.2.2.1,c.2.2.2.2.2.2.2.2.2.2.2.2.2.2.2.2.2.2.2.2.2.1,c.2.2.2.2.2.2.2.2.2.2.2.2.2.2.2.2.2.2.2.2.2.2.1,c.2.2.2.2.2.2.2.2.2.2.2.2.2.2.2.2.2.2.2.2.2.2.2.1,c.2.2.2.2.2.2.2.2.2.2.2.2.2.2.2.2.2.2.2.2.2.2.2.2.1,c.2.2.2.2.2.2.2.2.2.2.2.2.2.2.2.2.2.2.2.2.2.2.2.2.2.1,c.2.2.2.2.2.2.2.2.2.2.2.2.2.2.2.2.2.2.2.2.2.2.2.2.2.2.1,c.2.2.2.2.2.2.2.2.2.2.2.2.2.2.2.2.2.2.2.2.2.2.2.2.2.2.2.1,c.2.2.2.2.2.2.2.2.2.2.2.2.2.2.2.2.2.2.2.2.2.2.2.2.2.2.2.2.1)=Qb N b (QS c):=fun _=>rfl;have a1:=(Ya N hN 2).2.2;obtain⟨s,w1,w2,w3⟩:=ApD N hN (QS c) hxs false;have pl:=Ajh N hN (v:=s) c1 c2 c3 c4 c5 w3;rw[(Ya N hN 2).1,Jt];dsimp only;rw[show(160:Int)=((160:Nat):Int)from rfl,We N 160 false _ (by omega) (by omega) hN (by simp) (by rw[JO];omega),Jt,JO];dsimp only;rw[(Ya N hN c.2.2.1).1,Jt,(Acj N hN).1,Jt,Y1 N _ hN h1,c2,Jt,takeB,Jt];dsimp only;rw[(ZQ N hN c3.1.1 c3.1.2).1,Jt,takeB,Jt,(ZQ N hN c3.2.1 c3.2.2).1,Jt,takeB,Jt];dsimp only;rw[show((0:Int) != 0)=false from rfl,cond_false];dsimp only;rw[Alu N _ _ (by simp;omega) (by simp),OW,ZV (by omega),Jt,Y1 N _ hN h2,c4,Jt,takeB,Jt];dsimp only;rw[(AhM N hN c5).1,Jt,takeB,Jt];dsimp only;rw[hX];rw[show((0:Int) != 0)=false from rfl,cond_false];rw[show(some (Sp.elem 48 (Ry N c.2.2.2.2.2.1++Ry N c.2.2.2.2.2.2.1))).isNone=false from rfl];simp only[show((0:Int) != 0)=false from rfl,ES];rw[w1,Jt,Alu N _ _ (by simp;omega) (by simp),Jt];refine⟨_,_,rfl,(fun h=> ?_),(fun v h=> ?_)⟩
   .rw[h];rfl
   .have:=w2 v h;subst this;rw[h];exact⟨rfl,rfl⟩
  obtain⟨s,b,k1,k2,k3⟩:=key;rw[h0,show((0:Int) != 0)=false from rfl,cond_false,k1,Jt,AzD,Jt];unfold Aiw;rw[h0,show((0:Int) != 0)=false from rfl,cond_false];cases hv:jU (QS c)with
  | none=>rw[k2 hv];rfl
  | some v =>obtain⟨k4,k5⟩:=k3 v hv;rw[k4,k5];unfold Y7;dsimp only;generalize KT 48 _=o;cases o<;>rfl
 .unfold Aiw;rw[bM h0];rfl
end
def AvM (l:List Bs):Prop:=l.length<=1048576/\ ∀ s∈l,LG s
def AzG (l:List Ex):Prop:=l.length<=1000000/\ ∀ x∈l,TZ x
def Ay8 (l:List Pt):Prop:=l.length<=1048576/\ ∀ p∈l,Qp p
def Aye:Info->Prop
 | (_,_,_,_,G,H,I,_,_,_,O,_,Q,R,_,_,U,V,W)=>AvM G/\AvM H/\(∀ s∈I,sW s)/\Lh O/\Lh Q/\Lh R/\Ay8 U/\Ay8 V/\AzG W
def Aye.small {x:Info} (h:Aye x):O5 x:=by obtain⟨B,C,D,F,G,H,I,J,K,M,O,P,Q,R,S,T,U,V,W⟩:=x;obtain⟨h1,h2,h3,h4,h5,h6,h7,h8,h9⟩:=h;exact⟨h1,h2,h3,h4,h5,h6,h7.2,h8.2,by have:=h9.1;dsimp only;omega,h9.2⟩
section
variable (N:Nat) (hN:1048578<N) {L:List Int} (hL:L.length<=9223372036854775807)
end
def pX (a:Att):Bool:=decide (200<a.1.length)||decide (200<a.2.2.length)
def dH (r:List Att):Bool:=decide (8<r.length)||r.any pX
def OJ (n:List (List Att)):Bool:=bif decide (12<n.length)then false else bif n.any dH then false else true
def Yl (N:Nat) (n:List (List Att)) (hN:1048578<N):MR N n=some (OJ n):=by
 unfold MR;try simp only[clR]
 unfold OJ;rw[show decide (((n.length:Nat):Int)>12)=decide (12<n.length)from MX _ 12];by_cases h12:12<n.length
 .rw[Dk h12];rfl
 rw[Dq h12,cond_false,cond_false,<- JY];refine QJ (mk:=fun i=>(i:Int)) n [] dH (some false) (some true) ?_ ?_ N
 .intro i hi k;dsimp only;rw[Int.toNat_natCast];generalize n.getD i []=r;rw[Vt,cond_true,Sr,Jz,Jz,show decide (((r.length:Nat):Int)>8)=decide (8<r.length)from MX _ 8];unfold dH;by_cases h8:8<r.length
  .rw[Dk h8];rfl
  rw[Dq h8,cond_false,EK];refine(QJ (mk:=fun i=>(i:Int)) r ([],0,[]) pX (some false) (k ((i+1:Nat):Int)) ?_ ?_ N)
  .intro j hj k;dsimp only;rw[Int.toNat_natCast];generalize r.getD j ([],0,[])=a;rw[show decide (((a.1.length:Nat):Int)>200)=decide (200<a.1.length)from MX _ 200,show decide (((a.2.2.length:Nat):Int)>200)=decide (200<a.2.2.length)from MX _ 200];have ha:(decide (200<a.1.length)||decide (200<a.2.2.length))=pX a:=rfl;rw[ha,Vt,cond_true,Sr,Jz,Jz,w64];rfl
  .intro k;rw[Vs,cond_false,w64];rfl
 .intro k;rw[Vs,cond_false]
def Ajo {n:List (List Att)} (h:OJ n=true):n.length<=12/\(∀ r∈n,r.length<=8)/\LM n:=by
 unfold OJ at h;cases h1:decide (12<n.length)with
 | true=>rw[h1]at h;cases h
 | false =>
  cases h2:n.any dH with
  | true=>rw[h1,h2]at h;cases h
  | false =>
   have h1:=Ep h1;have h2:=Fj.1 h2;refine⟨by omega,fun r hr=> ?_,fun r hr e he=> ?_⟩
   .have:=h2 r hr;unfold dH at this;rw[Ej,D6]at this;omega
   .have h3:=h2 r hr;unfold dH at h3;rw[Ej]at h3;have h4: ¬ pX e=true:=fun hb=>h3 (Or.inr (Gl.2 ⟨e,he,hb⟩));unfold pX at h4;rw[Ej,D6,D6]at h4;exact⟨by omega,by omega⟩
def AfJ (g:Gn):Bool:=decide (300<g.2.1.length)|| !OJ g.2.2
def PI (l:List Gn):Bool:=bif decide (20<l.length)then false else bif l.any AfJ then false else true
def xW (N:Nat) (l:List Gn) (hN:1048578<N):MG N l=some (PI l):=by
 unfold MG;try simp only[clR]
 unfold PI;rw[show decide (((l.length:Nat):Int)>20)=decide (20<l.length)from MX _ 20];by_cases h12:20<l.length
 .rw[Dk h12];rfl
 rw[Dq h12,cond_false,cond_false,<- JY];refine QJ (mk:=fun i=>(i:Int)) l (0,[],[]) AfJ (some false) (some true) ?_ ?_ N
 .intro i hi k;dsimp only;rw[Int.toNat_natCast];generalize l.getD i (0,[],[])=g;rw[Yl N _ hN,Vt,cond_true,Sr,Jz,Jz,show decide (((g.2.1.length:Nat):Int)>300)=decide (300<g.2.1.length)from MX _ 300];simp only[Option.isSome_some,Ea,Jz,Option.getD_some];have ha:(decide (300<g.2.1.length)|| !OJ g.2.2)=AfJ g:=rfl;rw[ha,w64];rfl
 .intro k;rw[Vs,cond_false]
def iO {l:List Gn} (h:PI l=true):l.length<=20/\(∀ g∈l,g.2.1.length<=300/\OJ g.2.2=true)/\Lh l:=by
 unfold PI at h;cases h1:decide (20<l.length)with
 | true=>rw[h1]at h;cases h
 | false =>
  cases h2:l.any AfJ with
  | true=>rw[h1,h2]at h;cases h
  | false =>
   have h1:=Ep h1;have h2:=Fj.1 h2
   have key: ∀ g∈l,g.2.1.length<=300/\OJ g.2.2=true:=by
    intro g hg;have:=h2 g hg;unfold AfJ at this;rw[Ej,D6]at this;refine⟨by omega,?_⟩;cases hq:OJ g.2.2 with
    | true=>rfl
    | false=>exact absurd (Or.inr (by rw[hq];rfl)) this
   exact⟨by omega,key,fun g hg=>⟨by have:=(key g hg).1;omega,(Ajo (key g hg).2).2.2⟩⟩
def xE (l:List Pt):Bool:=bif decide (6<l.length)then false else bif l.any (fun p=> !PI p.1|| !OJ p.2.2.2)then false else true
def pR (N:Nat) (l:List Pt) (hN:1048578<N):P7 N l=some (xE l):=by
 unfold P7;try simp only[clR]
 unfold xE;rw[show decide (((l.length:Nat):Int)>6)=decide (6<l.length)from MX _ 6];by_cases h12:6<l.length
 .rw[Dk h12];rfl
 rw[Dq h12,cond_false,cond_false,<- JY];refine QJ (mk:=fun i=>(i:Int)) l ([],0,false,[]) (fun p=> !PI p.1|| !OJ p.2.2.2) (some false) (some true) ?_ ?_ N
 .intro i hi k;dsimp only;rw[Int.toNat_natCast];generalize l.getD i ([],0,false,[])=g;rw[xW N _ hN,Jt,Yl N _ hN,Vt,cond_true,Sr,Jz,Jz];simp only[Option.isSome_some,Ea,Jz,Option.getD_some];rw[w64];rfl
 .intro k;rw[Vs,cond_false]
def Awu {l:List Pt} (h:xE l=true):l.length<=6/\ ∀ p∈l,PI p.1=true/\OJ p.2.2.2=true:=by
 unfold xE at h;cases h1:decide (6<l.length)with
 | true=>rw[h1]at h;cases h
 | false =>
  cases h2:l.any (fun p=> !PI p.1|| !OJ p.2.2.2)with
  | true=>rw[h1,h2]at h;cases h
  | false =>have h1:=Ep h1;have h2:=Fj.1 h2;refine⟨by omega,fun p hp=> ?_⟩;have:=h2 p hp;cases hq:PI p.1<;>cases hq2:OJ p.2.2.2<;>rw[hq,hq2]at this<;>first | exact⟨rfl,rfl⟩ | exact absurd rfl this
def Af9 (x:Ex):Bool:=decide (200<x.1.length)||decide (300<x.2.2.length)
def AcA (l:List Ex):Bool:=bif decide (30<l.length)then false else bif l.any Af9 then false else true
def zY (N:Nat) (l:List Ex) (hN:1048578<N):OD N l=some (AcA l):=by
 unfold OD;try simp only[clR]
 unfold AcA;rw[show decide (((l.length:Nat):Int)>30)=decide (30<l.length)from MX _ 30];by_cases h12:30<l.length
 .rw[Dk h12];rfl
 rw[Dq h12,cond_false,cond_false,<- JY];refine QJ (mk:=fun i=>(i:Int)) l ([],false,[]) Af9 (some false) (some true) ?_ ?_ N
 .intro i hi k;dsimp only;rw[Int.toNat_natCast];generalize l.getD i ([],false,[])=a;rw[show decide (((a.1.length:Nat):Int)>200)=decide (200<a.1.length)from MX _ 200,show decide (((a.2.2.length:Nat):Int)>300)=decide (300<a.2.2.length)from MX _ 300];have ha:(decide (200<a.1.length)||decide (300<a.2.2.length))=Af9 a:=rfl;rw[ha,Vt,cond_true,Sr,Jz,Jz,w64];rfl
 .intro k;rw[Vs,cond_false]
def Aws {l:List Ex} (h:AcA l=true):l.length<=30/\ ∀ x∈l,x.1.length<=200/\x.2.2.length<=300:=by
 unfold AcA at h;cases h1:decide (30<l.length)with
 | true=>rw[h1]at h;cases h
 | false =>
  cases h2:l.any Af9 with
  | true=>rw[h1,h2]at h;cases h
  | false =>have h1:=Ep h1;have h2:=Fj.1 h2;refine⟨by omega,fun p hp=> ?_⟩;have:=h2 p hp;unfold Af9 at this;rw[Ej,D6,D6]at this;omega
def aX (l:List Bs) (n m:Nat):Bool:=bif decide (n<l.length)then false else bif l.any (fun s=>decide (m<s.length))then false else true
def Ayd (N:Nat) (l:List Bs) (n m:Nat) (hN:1048578<N) (hn:n<=1000):XA N l (n:Int) (m:Int)=some (aX l n m):=by
 unfold XA;try simp only[clR]
 unfold aX;rw[show decide (((l.length:Nat):Int)>(n:Int))=decide (n<l.length)from MX _ n];by_cases h12:n<l.length
 .rw[Dk h12];rfl
 rw[Dq h12,cond_false,cond_false,<- JY];refine QJ (mk:=fun i=>(i:Int)) l [] (fun s=>decide (m<s.length)) (some false) (some true) ?_ ?_ N
 .intro i hi k;dsimp only;rw[Int.toNat_natCast];generalize l.getD i []=a;rw[show decide (((a.length:Nat):Int)>(m:Int))=decide (m<a.length)from MX _ m];rw[Vt,cond_true,Sr,Jz,Jz,w64];rfl
 .intro k;rw[Vs,cond_false]
def Awt {l:List Bs} {n m:Nat} (h:aX l n m=true):l.length<=n/\ ∀ s∈l,s.length<=m:=by
 unfold aX at h;cases h1:decide (n<l.length)with
 | true=>rw[h1]at h;cases h
 | false =>
  cases h2:l.any (fun s=>decide (m<s.length))with
  | true=>rw[h1,h2]at h;cases h
  | false =>have h1:=Ep h1;have h2:=Fj.1 h2;refine⟨by omega,fun p hp=> ?_⟩;have:=h2 p hp;rw[D6]at this;omega
def AaY (m:Bs×Bs):Bool:=decide (200<m.1.length)||decide (200<m.2.length)
def sV:Info->Bool
 | (_,_,_,_,G,H,I,_,_,_,M,_,P,Q,R,S,T,U,V) =>
  bif !aX G 12 200|| !aX H 12 200||decide (12<I.length)|| !PI M|| !PI P|| !PI Q||decide (100<R.length)||decide (100<S.length)then false
  else bif I.any AaY then false else xE T&&xE U&&AcA V
def Alv (N:Nat) (x:Info) (hN:1048578<N):TQ N x=some (sV x):=by
 obtain⟨B,C,D,F,G,H,I,J,K,L,M,O,P,Q,R,S,T,U,V⟩:=x;unfold TQ;try simp only[clR]
 unfold sV;have f1: ∀ l:List Bs,XA N l 12 200=some (aX l 12 200):=fun l=>Ayd N l 12 200 hN (by omega);simp only[f1,Jt,xW N _ hN,Option.isSome_some,Option.getD_some,Ea,Jz];rw[show decide (((I.length:Nat):Int)>12)=decide (12<I.length)from MX _ 12,show decide (((R.length:Nat):Int)>100)=decide (100<R.length)from MX _ 100,show decide (((S.length:Nat):Int)>100)=decide (100<S.length)from MX _ 100];rw[<- JY];refine KJ fun h=> ?_;simp only[Fe,Eh]at h;have hma:=h.1.1.1.1.1.2;rw[<- JY];refine QJ (mk:=fun i=>((i:Int),B,C,D,F,G,H,I,J,K,L,M,O,P,Q,R,S,T,U,V)) I ([],[]) AaY (some false) _ ?_ ?_ N
 .intro i hi k;dsimp only[U20];rw[Int.toNat_natCast];generalize I.getD i ([],[])=m;rw[show decide (((m.1.length:Nat):Int)>200)=decide (200<m.1.length)from MX _ 200,show decide (((m.2.length:Nat):Int)>200)=decide (200<m.2.length)from MX _ 200];have hm:(decide (200<m.1.length)||decide (200<m.2.length))=AaY m:=rfl;rw[hm,Vt,cond_true,Sr,Jz,Jz,w64];rfl
 .intro k;dsimp only[U20];rw[Vs,cond_false];dsimp only[U19];rw[pR N _ hN,Jt,pR N _ hN,zY N _ hN];rfl
def vK (x:Int):Prop:= -9223372036854775808<=x/\x<=9223372036854775807
def AdG {l:List Pt} (h:xE l=true) (hr: ∀ p∈l,vK p.2.1):l.length<=6/\ ∀ p∈l,Qp p:=by obtain⟨h1,h2⟩:=Awu h;exact⟨h1,fun p hp=>⟨(iO (h2 p hp).1).2.2,(Ajo (h2 p hp).2).2.2,hr p hp⟩⟩
def Apt {l:List Ex} (h:AcA l=true):l.length<=30/\ ∀ x∈l,TZ x:=by obtain⟨h1,h2⟩:=Aws h;exact⟨h1,fun x hx=>⟨by have:=(h2 x hx).1;unfold LG;omega,by have:=(h2 x hx).2;unfold LG;omega⟩⟩
def AdF {l:List Bs} (h:aX l 12 200=true):AvM l:=by obtain⟨h1,h2⟩:=Awt h;exact⟨by omega,fun s hs=>by have:=h2 s hs;unfold LG;omega⟩
def Au5 {x:Info} (h:sV x=true) (h1: ∀ p∈x.2.2.2.2.2.2.2.2.2.2.2.2.2.2.2.2.1,vK p.2.1) (h2: ∀ p∈x.2.2.2.2.2.2.2.2.2.2.2.2.2.2.2.2.2.1,vK p.2.1) :
 O5 x/\(x.2.2.2.2.2.2.2.2.2.2.2.2.2.2.2.2.1.length<=6/\ ∀ p∈x.2.2.2.2.2.2.2.2.2.2.2.2.2.2.2.2.1,Qp p)/\(x.2.2.2.2.2.2.2.2.2.2.2.2.2.2.2.2.2.2.length<=30/\ ∀ p∈x.2.2.2.2.2.2.2.2.2.2.2.2.2.2.2.2.2.2,TZ p):=by
 obtain⟨B,C,D,F,G,H,I,J,K,L,M,O,P,Q,R,S,T,U,V⟩:=x;unfold sV at h;dsimp only at h;cases g1:(!aX G 12 200|| !aX H 12 200||decide (12<I.length)|| !PI M|| !PI P|| !PI Q||decide (100<R.length)||decide (100<S.length))with
 | true=>rw[g1]at h;cases h
 | false =>
  rw[g1,cond_false]at h;simp only[Fe,Ia]at g1;obtain⟨⟨⟨⟨⟨⟨⟨q1,q2⟩,q3⟩,q4⟩,q5⟩,q6⟩,_⟩,_⟩:=g1;cases g2:I.any AaY with
  | true=>rw[g2]at h;cases h
  | false =>rw[g2,cond_false,Dx,Dx]at h;obtain⟨⟨p1,p2⟩,p3⟩:=h;have z1:=AdG p1 h1;have z2:=AdG p2 h2;have z3:=Apt p3;refine⟨⟨AdF q1,AdF q2,?_,(iO q4).2.2,(iO q5).2.2,(iO q6).2.2,z1.2,z2.2,by have:=z3.1;exact⟨by dsimp only;omega,z3.2⟩⟩,z1,z3⟩;intro m hm;have:=Fj.1 g2 m hm;unfold AaY at this;rw[Ej,D6,D6]at this;exact⟨by unfold LG;omega,by unfold LG;omega⟩
abbrev CrT:Type:=Bs×Bs×Int×List RnT×List RnT×Int×Int×Int×Bs×Bs×Bool×Bool×Int×Int×List Bs×List Bs×List (Bs×Bs)×Int×Int×Int×List GnT×Bool×List GnT×List GnT×Bs×Bs×List PtT×List PtT×List (Bs×Bool×Bs)×Bs
def N0:Nat:=2097152
def AlE:Big N0:=⟨by decide,by decide⟩
def crR:CrT×List Int×Int:=(Sz N0 ([],0)).getD default
def crA:CrT:=crR.1
def Axr:Sz N0 ([],0)=some (crA,crR.2):=by kernel_rfl
def lC:Bs:=((Qr N0 crA).getD default).1
def AxU:Qr N0 crA=some (lC,0):=by kernel_rfl
def Aw5:(decide (lC.length<=1000))=true:=by kernel_rfl
def sgF (f:Nat->UInt8):Bs:=(List.range 564).map f
def outA (f:Nat->UInt8):Bs:=((XL N0 lC (sgF f)).getD default).1
def AxE (f:Nat->UInt8):XL N0 lC (sgF f)=some (outA f,0):=by kernel_rfl
def Aht (f:Nat->UInt8):CrT:=((Xb N0 (outA f)).getD default).1
def Axs (f:Nat->UInt8):Xb N0 (outA f)=some (Aht f,0):=by kernel_rfl
def Avu (f:Nat->UInt8):(Aht f).1=outA f:=by kernel_rfl
def Avw (f:Nat->UInt8):(Aht f).2.1=lC:=by kernel_rfl
def Avv (f:Nat->UInt8):(Aht f).2.2.2.2.2.2.2.2.2.2.2.2.2.2.2.2.2.2.2.2.2.2.2.2.2.2.2.2.2=sgF f:=by kernel_rfl
def zero_eq:Qr N0 (([]:Bs),([]:Bs),0,([]:List RnT),([]:List RnT),0,0,0,([]:Bs),([]:Bs),false,false,0,0,([]:List Bs),([]:List Bs),([]:List (Bs×Bs)),0,0,0,([]:List GnT),false,([]:List GnT),([]:List GnT),([]:Bs),([]:Bs),([]:List PtT),([]:List PtT),([]:List (Bs×Bool×Bs)),([]:Bs))=some ([],21):=by kernel_rfl
def sd1:Bs:=(S9 N0 1).getD []
def AyT:S9 N0 1=some sd1:=by kernel_rfl
def sU:sd1.length=32:=by kernel_rfl
def AyU {l:Bs} (h:l.length=564):sgF (fun i=>l.getD i 0)=l:=by
 unfold sgF;rw[<- h];apply Jp
 .simp
 .intro i h1 h2;simp [Dn,h2]
def Aww {N:Nat} (h:Big N) {sd:Bs} (hs:sd.length=32) (m:Bs):(Zb N sd m).length=564:=by unfold Zb;rw[Dv,xG h (id_eq h hs).2 hs 0 (Aeh N sd m)];rfl
def fA:Nat->UInt8:=fun i=>(Zb N0 sd1 lC).getD i 0
def AwK:sgF fA=Zb N0 sd1 lC:=AyU (Aww AlE sU lC)
def Aqi:lC.length+64<N0:=by have:=DC Aw5;show _<2097152;omega
attribute [irreducible] N0 crA crR lC outA Aht sd1
def AuN:Yq N0 crA (AnL N0 sd1)=some (outA fA,0,AnM N0 sd1):=by
 have e1:=AuQ AlE sU Aqi;have e2:=AxE fA;rw[AwK]at e2;unfold Yq;try simp -zeta only[Ap]
 rw[AxU,Jt];dsimp only;rw[show((0:Int) != 0)=false from rfl,cond_false];have e1':PX N0 (sd1,0,0,[xU N0 sd1]) lC=_:=e1;dsimp only[AnL,List.headD_cons];rw[e1',Jt];dsimp only;rw[show((0:Int) != 0)=false from rfl,cond_false,e2,Jt];rfl
def AsK:Xc N0 (Aht fA) (Abv N0 sd1)=some 0:=by
 unfold Xc;try simp -zeta only[Ap]
 rw[Avw,Avv,AwK,Aqo AlE sU Aqi];rfl
def AsU {N:Nat} {sd out:Bs} {t0 t1:TrT} {c dec:CrT} {d:List Int×Int} {k:Int×Bs×Bs} (h1:S9 N 1=some sd) (h2:Zc N sd 0=some (.inl ((sd,0,0,[t0]),0))) (h3:Sz N ([],0)=some (c,d))
 (h4:Yq N c (sd,0,0,[t0])=some (out,0,(sd,0,1,[t1])))
 (h5:Xb N out=some (dec,0)) (h6:Qr N (([]:Bs),([]:Bs),0,([]:List RnT),([]:List RnT),0,0,0,([]:Bs),([]:Bs),false,false,0,0,([]:List Bs),([]:List Bs),([]:List (Bs×Bs)),0,0,0,([]:List GnT),false,([]:List GnT),([]:List GnT),([]:Bs),([]:Bs),([]:List PtT),([]:List PtT),([]:List (Bs×Bool×Bs)),([]:Bs))=some ([],21)) (h7:dec.1=out) (h8:Q4 N (sd,0,1,[t1])=some (k,(sd,0,1,[t1]))) (h9:Xc N dec k=some 0):QE N=some true:=by
 unfold QE;try simp -zeta only[Ap]
 rw[h1,Jt,h2,Ai8];dsimp only;simp (decide:=true) only[cond_true,cond_false,Jz,EI,Eu,EM,Ea,bne_self_eq_false];rw[show ZE N []=some ([],0)from rfl,Jt,h3,Jt];dsimp only[List.headD_cons];rw[h4,Jt];dsimp only;rw[h5,Jt,h6,Jt];dsimp only[List.headD_cons];rw[h7];simp (decide:=true) only[cond_true,cond_false,Jz,XX,EO];rw[h8,Jt];dsimp only;rw[h9,Jt];rfl
theorem Avc:QE N0=some true:=AsU AyT (Ayg AlE sU) Axr AuN (Axs fA) zero_eq (Avu fA) (Axf AlE sU) AsK
def rT (n:List (List Att)):Prop:= ∀ r∈n,r.length<=2/\ ∀ e∈r,AgY e
def nmT (n:List (List Att)):Prop:=n.length<=3/\rT n
def kL (n:List (List Att)):Prop:=n.length<=100/\ ∀ r∈n,r.length<=100/\ ∀ e∈r,e.1.length<=1000/\e.2.2.length<=1000
def Aui {n:List (List Att)} (h:nmT n):kL n:=⟨by have:=h.1;omega,fun r hr=>⟨by have:=(h.2 r hr).1;omega,fun e he=>⟨by have:=((h.2 r hr).2 e he).1;omega,by have:=((h.2 r hr).2 e he).2;omega⟩⟩⟩
def Agx {n:List (List Att)} (h:kL n):LM n:=fun r hr e he=>⟨by have:=((h.2 r hr).2 e he).1;omega,by have:=((h.2 r hr).2 e he).2;omega⟩
def wG {N:Nat} (hN:1048578<N) {n:List (List Att)} (h:kL n):SmN N n:=⟨by have:=h.1;omega,by have:=h.1;omega,fun r hr=>⟨by have:=(h.2 r hr).1;omega,by have:=(h.2 r hr).1;omega,fun e he=>⟨by have:=((h.2 r hr).2 e he).2;omega,by have:=((h.2 r hr).2 e he).2;omega⟩⟩⟩
def ArS (n:List (List Att)):Bool:=decide (n.length<=100)&&n.all fun r=>decide (r.length<=100)&&r.all fun e=>decide (e.1.length<=1000)&&decide (e.2.2.length<=1000)
def Az0 (o:Option (List (List Att))):Bool:=match o with
 | some n=>ArS n
 | none=>false
def AvX {n:List (List Att)} (h:ArS n=true):kL n:=by unfold ArS at h;simp only[Dx,D6,DF]at h;exact⟨h.1,fun r hr=>⟨(h.2 r hr).1,fun e he=>(h.2 r hr).2 e he⟩⟩
def AsT (M:Nat): ∀ k:Fin 16,Az0 (MQ (M+70) (k.val:Int))=true:=DC (by kernel_rfl)
structure SmX (c:Crt):Prop where
 is:kL c.2.2.2.1
 su:kL c.2.2.2.2.1
 x:O5 (QS c)
def SmX.s {c:Crt} (h:SmX c):SmC c:=⟨Agx h.is,Agx h.su,h.x⟩
def Afe (N:Nat) (hN:1048578<N) {k:Int} (h0:0<=k) (h1:k<16):Ends kL (MQ N k):=by
 obtain⟨M,rfl⟩: ∃ M,N=M+70:=⟨N - 70,by omega⟩
 have h:=AsT M ⟨k.toNat,by omega⟩;rw[show(((⟨k.toNat,by omega⟩:Fin 16).val:Nat):Int)=k from H8 h0]at h;cases ho:MQ (M+70) k with
 | none=>rw[ho]at h;cases h
 | some n=>rw[ho]at h;exact⟨n,rfl,AvX h⟩
section
variable (N:Nat) (hN:1048578<N) {L:List Int} (hL:L.length<=9223372036854775807)
include hL
include hN in
theorem ArI {d:List Int×Int} (hd:KD L d):Ends (fun r=>nmT r.1/\KD L r.2) (Ue N d):=by
 unfold Ue;try simp only[clR]
 refine JC (nx N hL hd 4 (by omega)) ?_;rintro ⟨r,d1,d2⟩ ⟨h0,h1,h2⟩;dsimp only at h0 h1 h2 ⊢;refine Ns (fun x=>0<=x.1/\x.1<4/\KD L (x.2.1,x.2.2.1)/\((x.2.2.2.length:Int)+x.1<=3)/\rT x.2.2.2) (fun x=>x.1.toNat) ?_ N _ ⟨h0,h1,h2,by simp;omega,fun r hr=>by cases hr⟩ (by dsimp only;omega);rintro ⟨t,a,b,acc⟩ ⟨g0,g1,g2,g3,g4⟩ k hk;dsimp only[U4]at g0 g1 g2 g3 g4 ⊢;refine JW (fun ht=> ?_) (fun _=> ?_)
 .have ht:=DC ht;refine JC (nx N hL g2 5 (by omega)) ?_;rintro ⟨r,e1,e2⟩ ⟨f0,f1,f2⟩;dsimp only at f0 f1 f2 ⊢
  have hw:i64.wrap (1+i64.wrap (r.tdiv 4))<=2/\0<=i64.wrap (1+i64.wrap (r.tdiv 4)):=by
   have:r=0\/r=1\/r=2\/r=3\/r=4:=by omega
   rcases this with rfl | rfl | rfl | rfl | rfl<;>decide
  refine Ns (fun x=>0<=x.1/\x.1<=2/\KD L (x.2.1,x.2.2.1)/\((x.2.2.2.1.length:Int)+x.1<=2)/\(∀ e∈x.2.2.2.1,AgY e)/\x.2.2.2.2=acc) (fun x=>x.1.toNat) ?_ N _ ⟨hw.2,hw.1,f2,by simp;omega,(fun r hr=>by cases hr),rfl⟩ (by dsimp only;omega);rintro ⟨t',a',b',acc',out⟩ ⟨p0,p1,p2,p3,p4,p5⟩ k' hk';dsimp only[U5]at p0 p1 p2 p3 p4 p5 ⊢;subst p5;refine JW (fun ht'=> ?_) (fun _=> ?_)
  .have ht':=DC ht';refine JC (pY N hL p2) ?_;rintro ⟨r,q1,q2⟩ ⟨z0,z1⟩;dsimp only at z0 z1 ⊢
   have taut:(decide ((0:Int)<(acc'.length:Int))||((acc'.length:Nat):Int)==0)=true:=by
    cases acc' with
    | nil=>rfl
    | cons x y=>rw[Dk (by rw[List.length_cons];omega)];rfl
   have nK:(decide (0<acc'.length)||((acc'.length:Nat):Int)==0)=true:=by
    cases acc' with
    | nil=>rfl
    | cons x y=>rw[Dk (by rw[List.length_cons];omega)];rfl
   have hsm:AgY r:=z0;refine JH (by first | exact taut | exact nK) (JH (by first | exact taut | exact nK) (JH (by first | exact taut | exact nK) ?_));refine JW (fun _=> ?_) (fun _=> ?_)
   .refine JH (Dk) (hk' _ ⟨?_,?_,z1,?_,?_,rfl⟩ ?_)
    .dsimp only;rw[w64];omega
    .dsimp only;rw[w64];omega
    .dsimp only;rw[w64,Dv];simp;omega
    .intro e he;rcases DR.1 he with he | he
     .exact p4 e he
     .rw[Ed.1 he];exact hsm
    .dsimp only;rw[w64];omega
   .refine hk' _ ⟨?_,?_,z1,?_,p4,rfl⟩ ?_
    .dsimp only;rw[w64];omega
    .dsimp only;rw[w64];omega
    .dsimp only;rw[w64];omega
    .dsimp only;rw[w64];omega
  .dsimp only[U4];refine JH (Dk) (hk _ ⟨?_,?_,p2,?_,?_⟩ ?_)
   .dsimp only;rw[w64];omega
   .dsimp only;rw[w64];omega
   .dsimp only;rw[w64,Dv];simp;omega
   .intro e he;rcases DR.1 he with he | he
    .exact g4 e he
    .rw[Ed.1 he];exact⟨by omega,p4⟩
   .dsimp only;rw[w64];omega
 .dsimp only[U3];exact Ku ⟨⟨by dsimp only;omega,g4⟩,g2⟩
end
section
variable (N:Nat) (hN:1048700<N) {L:List Int} (hL:L.length<=9223372036854775807)
include hN hL
theorem AqH {d:List Int×Int} (hd:KD L d):Ends (fun r=>SmX r.1/\KD L r.2) (Sz N d):=by
 unfold Sz;try simp only[clR]
 refine JC (nx N hL hd 300 (by omega)) ?_;rintro ⟨se,d1⟩ ⟨s0,s1,hd⟩;dsimp only at s0 s1 hd ⊢;refine JC (nx N hL hd 16 (by omega)) ?_;rintro ⟨q,d1⟩ ⟨q0,q1,hd⟩;dsimp only at q0 q1 hd ⊢;refine JC (Afe N (by omega) q0 q1) fun is his=> ?_;refine JC (ArI N (by omega) hL hd) ?_;rintro ⟨su,d1⟩ ⟨hsu,hd⟩;dsimp only at hsu hd ⊢;refine JC (Ajt N hN hL hd) ?_;rintro ⟨nb,d1⟩ ⟨hnb,hd⟩;dsimp only at hnb hd ⊢;refine JC (Ajt N hN hL hd) ?_;rintro ⟨nf,d1⟩ ⟨hnf,hd⟩;dsimp only at hnf hd ⊢;refine JC (AvI N hN hL hd) ?_;rintro ⟨⟨kh,ki,kr⟩,d1⟩ ⟨⟨hkh,hki,hkr⟩,hd⟩;dsimp only at hkh hki hkr hd ⊢;refine JC (AtL N (by omega) hL hd) ?_;rintro ⟨⟨C,D,F,G,H,I,J,K,O,Q,R,S,T,U,V,W,X,Y,Z⟩,a,b⟩ ⟨hx,hd⟩;have hx:=hx.small;dsimp only at hd ⊢;rw[w64];refine mP (P:=fun y=>KD L (y.1,y.2.1)/\kL y.2.2.2.1/\kL y.2.2.2.2.1/\O5 y.2.2.2.2.2.2.2.2.2.2) (fun j hj=>JW (fun _=>hj _ ⟨hd,his,Aui hsu,hx⟩) (fun _=>hj _ ⟨hd,his,Aui hsu,hx⟩)) ?_;clear hx his hsu hnb hnf hkh hki hkr hd;rintro ⟨a,b,se,is,su,nb,nf,kh,ki,kr,C,D,F,G,H,I,J,K,O,Q,R,S,T,U,V,W,X,Y,Z⟩ ⟨hd,hP1,hP2,hP3⟩;dsimp only at hd hP1 hP2 hP3;dsimp only[U29];try simp only[clR]
 refine JW (fun _=>JC (Afe N (by omega) (k:=1) (by omega) (by omega)) fun q hq=>Ku ⟨⟨hP1,hq,hP3⟩,hd⟩) (fun _=>Ku ⟨⟨hP1,hP2,hP3⟩,hd⟩)
theorem Aj7 {d:List Int×Int} (hd:KD L d) {raw:Crt} (hr:SmX raw):Ends (fun r=>SmX r.1/\KD L r.2) (Xq N d raw):=by
 unfold Xq;try simp -zeta only[Ap]
 have nil:kL []:=⟨by decide,fun r hr=>by cases hr⟩
 refine JC (AqH N hN hL hd) ?_;rintro ⟨c,d1⟩ ⟨S,hd⟩;dsimp only at S hd ⊢;refine JC (nx N hL hd 12 (by omega)) ?_;rintro ⟨k,d1⟩ ⟨k0,k1,hd⟩;dsimp only at k0 k1 hd ⊢;refine JW (fun _=>Ku ⟨⟨S.is,S.su,S.x⟩,hd⟩) (fun _=> ?_);refine JW (fun _=>Ku ⟨⟨hr.is,S.su,S.x⟩,hd⟩) (fun _=> ?_);refine JW (fun _=>Ku ⟨⟨S.is,hr.su,S.x⟩,hd⟩) (fun _=> ?_);refine JW (fun _=>Ku ⟨⟨S.is,S.su,S.x⟩,hd⟩) (fun _=> ?_);refine JW (fun _=>Ku ⟨⟨S.is,S.su,S.x⟩,hd⟩) (fun _=> ?_);refine JW (fun _=>Ku ⟨⟨S.is,S.su,S.x⟩,hd⟩) (fun _=> ?_);refine JW (fun _=> ?_) (fun _=> ?_)
 .refine JC (nx N hL hd 12 (by omega)) ?_;rintro ⟨q,d1⟩ ⟨q0,q1,hd⟩;exact Ku ⟨⟨S.is,S.su,S.x⟩,hd⟩
 refine JW (fun _=>Ku ⟨⟨S.is,S.su,hr.x⟩,hd⟩) (fun _=> ?_);refine JW (fun _=>Ku ⟨⟨S.is,nil,S.x⟩,hd⟩) (fun _=> ?_);refine JW (fun _=>Ku ⟨⟨nil,S.su,S.x⟩,hd⟩) (fun _=> ?_);exact Ku ⟨S,hd⟩
end
def AnN {n:List (List Att)} (h:OJ n=true):kL n:=by
 unfold OJ at h;cases h1:decide (12<n.length)with
 | true=>rw[h1]at h;cases h
 | false =>
  cases h2:n.any dH with
  | true=>rw[h1,h2]at h;cases h
  | false =>have h1:=Ep h1;refine⟨by omega,fun r hr=> ?_⟩;all_goals grind[dH,pX]
section
variable (N:Nat) (hN:1048700<N)
include hN
theorem Awv (c:Crt): ∃ b,Xf N c=some b/\(b=true->OJ c.2.2.2.1=true/\OJ c.2.2.2.2.1=true/\sV (QS c)=true):=by
 obtain⟨raw,tb,se,is,su,nb,nf,kh,ki,kr,C,D,F,G,H,I,J,K,O,Q,R,S,T,U,V,W,X,Y,Z,sg⟩:=c;unfold Xf QS;try simp -zeta only[Ap]
 try dsimp only
 rw[Yl N is (by omega),Yl N su (by omega),Alv N _ (by omega),Jt];all_goals simp_all[XX,Jz,OJ,sV,Crt,Xf,QS]
theorem Aqf (c:Crt) (h:SmX c):RX N c=some (kE c.2.2.2.1 c.2.2.2.2.1)/\Ro N c=some (kE c.2.2.2.1 c.2.2.2.2.1):=by
 unfold RX Ro;try simp -zeta only[Ap]
 exact⟨by rw[AvQ (wG (by omega) h.is) (wG (by omega) h.su),Jt],by rw[Au1 (wG (by omega) h.is) (wG (by omega) h.su),Jt]⟩
theorem Axp (haw:QE N=some true) (p0:Crt) (p1:List Int) (hL:p1.length<=9223372036854775807) (h1: ∀ p∈(QS p0).2.2.2.2.2.2.2.2.2.2.2.2.2.2.2.2.1,vK p.2.1) (h2: ∀ p∈(QS p0).2.2.2.2.2.2.2.2.2.2.2.2.2.2.2.2.2.1,vK p.2.1):Qi N p0 p1=some true:=by
 refine(fun h=>by obtain⟨w,h1,rfl⟩:=h;exact h1:Ends (fun r=>r=true) (Qi N p0 p1)->_) ?_;unfold Qi;try simp -zeta only[Ap]
 obtain⟨b,C,hsh⟩:=Awv N hN p0;rw[C,Jt];cases b with
 | false=>grind[Jt,Ku]
 | true =>
  obtain⟨s1,s2,s3⟩:=hsh rfl;have hr:SmX p0:=⟨AnN s1,AnN s2,(Au5 s3 h1 h2).1⟩
  rw[show(!true)=false from rfl,cond_false,show ZE N p1=some (p1,0)from rfl,Jt];refine JC (Aj7 N hN hL (d:=(p1,0)) ⟨0,rfl,Em _⟩ hr) ?_;rintro ⟨c,d⟩ ⟨S,hd⟩;dsimp only at S hd ⊢;have hall: ∀ y∈ [p0,c],SmX y:=by all_goals simp_all[QE,Crt,QS,vK,Qi]
  have hlen: [p0,c].length=2:=rfl;clear hr S hd;generalize [p0,c]=A at hall hlen ⊢;refine Ns (fun(x:Int×List Crt)=>0<=x.1/\x.1<=2/\x.2=A) (fun x=>(2 - x.1).toNat) ?_ N _ ⟨by dsimp only;omega,by dsimp only;omega,rfl⟩ (by dsimp only;omega);rintro ⟨t,B⟩ ⟨g0,g1,rfl⟩ k hk;dsimp only at g0 g1 hk hall hlen;dsimp only[U2];refine JW (fun ht=> ?_) (fun _=>by rw[haw,Jt];exact Ku rfl);have ht:t<2:=DC ht;have hti:t.toNat<B.length:=by rw[hlen];omega
  refine JH (Dk g0) (JH (Dk (by rw[hlen];omega)) (JH (Dk hti) ?_));have hy:=hall _ (getD_mem (([]:Bs),([]:Bs),0,([]:List (List Att)),([]:List (List Att)),0,0,0,([]:Bs),([]:Bs),false,false,0,0,([]:List Bs),([]:List Bs),([]:List (Bs×Bs)),0,0,0,([]:List Gn),false,([]:List Gn),([]:List Gn),([]:Bs),([]:Bs),([]:List Pt),([]:List Pt),([]:List Ex),([]:Bs)) hti);generalize B.getD t.toNat (([]:Bs),([]:Bs),0,([]:List (List Att)),([]:List (List Att)),0,0,0,([]:Bs),([]:Bs),false,false,0,0,([]:List Bs),([]:List Bs),([]:List (Bs×Bs)),0,0,0,([]:List Gn),false,([]:List Gn),([]:List Gn),([]:Bs),([]:Bs),([]:List Pt),([]:List Pt),([]:List Ex),([]:Bs))=y at hy ⊢;have hN':1048578<N:=by omega
  rw[Aop N hN' y hy.s,Jt,AdK N hN' y hy.s,Jt,xX N hN' y hy.s,Jt,zS N hN' y hy.s,Jt,(Aqf N hN y hy).1,(Aqf N hN y hy).2,w64 (x:=t+1)];all_goals grind[Aiw,mF,kE,XX,Jz]
end
def Aou (p0:Crt) (p1:List Int) (hL:p1.length<=9223372036854775807) (h1: ∀ p∈(QS p0).2.2.2.2.2.2.2.2.2.2.2.2.2.2.2.2.1,vK p.2.1) (h2: ∀ p∈(QS p0).2.2.2.2.2.2.2.2.2.2.2.2.2.2.2.2.2.1,vK p.2.1):Qi 2097152 p0 p1=some true:=by grind[Avc,N0,Axp]
end Go.Proofs.YtdihmdelaolelaaGreatDoor.Pl
