import Derived.Test.YtehkhflpjkokeaaGreatDoorA20
set_option linter.all false
namespace Go.Proofs.YtehkhflpjkokeaaGreatDoor.Pl
open IntKind (i64 u8 u32 u64)
open Go Vm
def tfB (t:Nat) (v:Bool):Bs:=bif v then Sp.elem t [255]else []
def AgX (t:Nat) (v:Bool):(tfB t v).length<=6:=by
 unfold tfB;cases v with
 | false=>exact EG _
 | true=>have:=Sp.JO t [255];rw[cond_true];simpa using this
def oH (gs:List Gn) (ou oc:Bool) (rs:Int) (nd:Bool):Bs:=Sp.elem 48 [pnB gs,tfB 129 ou,tfB 130 oc,pfB 131 rs,tfB 132 nd].flatten
structure Aj7 (gs:List Gn) (rs:Int):Prop where
 n16:gs.length<=16
 ns:KP (fun g=>N8 g false) gs=0
 r:0<=rs/\rs<512
def AwR {gs:List Gn} {ou oc:Bool} {rs:Int} {nd:Bool} (hr: -9223372036854775808<=rs/\rs<=9223372036854775807) (h:scI true gs ou oc rs nd=0):Aj7 gs rs:=by unfold scI at h;rw[Eh,cond_false]at h;obtain⟨_,h⟩:=Z9 h (by decide);obtain⟨h1,h⟩:=Z9 h (by decide);obtain⟨h2,h⟩:=Z9 h (by decide);have:=Et h2;exact⟨by omega,h,AnX hr.1 hr.2 (by simpa using h1)⟩
def AnT {gs:List Gn} {rs:Int} (h:Aj7 gs rs):(Me gs).length<=71968/\(pnB gs).length<=71978:=by
 have h1:=zC h.ns h.n16;have h2:=Sp.JO 160 (Me gs);have h3:=Sp.JO 160 (Sp.elem 160 (Me gs));refine⟨h1,?_⟩;unfold pnB;cases gs.isEmpty with
 | true=>exact EG _
 | false=>rw[cond_false];omega
def AgS {gs:List Gn} {ou oc:Bool} {rs:Int} {nd:Bool} (h:Aj7 gs rs):([pnB gs,tfB 129 ou,tfB 130 oc,pfB 131 rs,tfB 132 nd]:List Bs).flatten.length<=72100/\(oH gs ou oc rs nd).length<=72110:=by
 have a1:=(AnT h).2;have a2:=AgX 129 ou;have a3:=AgX 130 oc;have a4:=Aob (t:=131) h.r;have a5:=AgX 132 nd;have a6:=Sp.JO 48 ([pnB gs,tfB 129 ou,tfB 130 oc,pfB 131 rs,tfB 132 nd]:List Bs).flatten;have a7:([pnB gs,tfB 129 ou,tfB 130 oc,pfB 131 rs,tfB 132 nd]:List Bs).flatten.length<=72100:=by simp only[List.flatten_cons,List.flatten_nil,Dx,List.length_nil];omega
 exact⟨a7,by unfold oH;omega⟩
section
variable (N:Nat) (hN:1048578<N)
include hN
theorem Ac7 (t:Nat) (b v:Bool) (ht:t<256:=by omega) (h31:t % 32≠31:=by omega):ML N b (t:Int) v=some (tfB t v,b):=by
 unfold ML tfB;cases v with
 | false=>rfl
 | true =>rw[show Rf N true=some [255]from rfl];have:=ZT N t b [[255]] ht h31 hN (by simp) (by rw[JR];decide);rw[JR]at this;simp only[Eh,cond_false,cond_true,Jr,this]
theorem Ade (t:Nat) (v:Bool) (ht:t<256:=by omega) (h31:t % 32≠31:=by omega):N9 N (t:Int) v=some (tfB t v):=by
 unfold N9 tfB;cases v with
 | false=>rfl
 | true =>rw[show Qu N true=some [255]from rfl];have:=RX N t [[255]] ht h31 hN (by simp) (by rw[JR];decide);rw[JR]at this;simp only[Eh,cond_false,Jr,this];rfl
theorem Anl (b:Bool) (gs:List Gn) (ou oc:Bool) (rs:Int) (nd:Bool) (hg:LZ gs) (h:Aj7 gs rs):UB N b (gs,ou,oc,rs,nd)=some (oH gs ou oc rs nd,b):=by
 have l1:=AnT h;have l2:=nC h.r;have l3:=AgS (ou:=ou) (oc:=oc) (nd:=nd) h;have e1:=Sp.JO 160 (Me gs);have w1: ∀ b,JJ N b 160 [Me gs]=some (Sp.elem 160 (Me gs),b):=fun b=>by have:=ZT N 160 b [Me gs] (by omega) (by omega) hN (by simp) (by rw[JR];omega);rw[JR]at this;exact this
 have w2: ∀ b,JJ N b 160 [Sp.elem 160 (Me gs)]=some (Sp.elem 160 (Sp.elem 160 (Me gs)),b):=fun b=>by have:=ZT N 160 b [Sp.elem 160 (Me gs)] (by omega) (by omega) hN (by simp) (by rw[JR];omega);rw[JR]at this;exact this
 have w3: ∀ b,JJ N b 131 [flB rs]=some (Sp.elem 131 (flB rs),b):=fun b=>by have:=ZT N 131 b [flB rs] (by omega) (by omega) hN (by simp) (by rw[JR];omega);rw[JR]at this;exact this
 have f1: ∀ b v,ML N b 129 v=some (tfB 129 v,b):=fun b v=>Ac7 N hN 129 b v;have f2: ∀ b v,ML N b 130 v=some (tfB 130 v,b):=fun b v=>Ac7 N hN 130 b v;have f3: ∀ b v,ML N b 132 v=some (tfB 132 v,b):=fun b v=>Ac7 N hN 132 b v;have fs:=(Y4 N rs hN h.r.1 h.r.2).1;have tE: ∀ b:Bool,(b||((0:Int) != 0))=b:=fun b=>by rw[show((0:Int) != 0)=false from rfl,ET]
 have w4: ∀ b l,l=[pnB gs,tfB 129 ou,tfB 130 oc,pfB 131 rs,tfB 132 nd]->Ko N b l=some (oH gs ou oc rs nd,b):=fun b l hl=>by subst hl;rw[lK N b _ (by simp;omega),RY];show some (_,b||false)=_;rw[ET];rfl
 have hL:gs.isEmpty=false->NF N gs=some (Me gs,0):=fun hq=>by rw[Ya N gs hN hg,qW (fun h=>by rw[h]at hq;cases hq) h.n16 h.ns]
 unfold UB;try simp -zeta only[Ap]
 try dsimp only
 rw[SE];cases hc1:gs.isEmpty with
 | true =>
  by_cases hr:rs=0
  .simp only[JX,U7,hc1,lU hr,Eh,cond_false,Jr,f1,f2,f3];rw[w4 b _ (by unfold pnB pfB;rw[hc1,PH hr];rfl)];rfl
  .simp only[JX,U7,hc1,dF hr,Eh,cond_false,cond_true,Jr,fs,takeB,tE,w3,f1,f2,f3];rw[w4 b _ (by unfold pnB pfB;rw[hc1,NP hr];rfl)];rfl
 | false =>
  have hL:=hL hc1;by_cases hr:rs=0
  .simp only[JX,U7,hc1,lU hr,DY,cond_false,cond_true,Jr,hL,takeB,tE,w1,w2,f1,f2,f3];rw[w4 b _ (by unfold pnB pfB;rw[hc1,PH hr];rfl)];rfl
  .simp only[JX,U7,hc1,dF hr,DY,cond_false,cond_true,Jr,hL,takeB,tE,w1,w2,fs,w3,f1,f2,f3];rw[w4 b _ (by unfold pnB pfB;rw[hc1,NP hr];rfl)];rfl
end
def Wy (ak:Bs) (nu ba:Int) (hs:Bool) (gs:List Gn) (ou oc:Bool) (rs:Int) (nd:Bool) (fr:List Pt):List Ex :=
 (bif !(ak==[])then [([50,46,53,46,50,57,46,51,53],false,Sp.elem 48 (Sp.elem 128 ak))]else [])++([([50,46,53,46,50,57,46,50,48],false,ZI nu)]++((bif ba != -1 then [([50,46,53,46,50,57,46,50,55],true,ZI ba)]else [])++((bif hs then [([50,46,53,46,50,57,46,50,56],true,oH gs ou oc rs nd)]else [])++bif fr.isEmpty then []else [([50,46,53,46,50,57,46,52,54],false,(ZJ fr).1)])))
def frE (fr:List Pt):Bool:= !fr.isEmpty&&(ZJ fr).2 != 0
structure Aol (ak:Bs) (nu ba:Int) (hs:Bool) (gs:List Gn) (rs:Int) (fr:List Pt):Prop where
 l1:ak.length<=32
 l2: -9223372036854775808<=nu/\nu<=9223372036854775807
 l3: -9223372036854775808<=ba/\ba<=9223372036854775807
 l4:LZ gs
 l5:hs=true->Aj7 gs rs
 l6: ∀ p∈fr,Nu p
section
variable (N:Nat) (hN:1048578<N)
include hN
theorem Aum (fr:List Pt):(ZJ fr).1.length<=131077:=by
 unfold ZJ;cases fr.isEmpty with
 | true=>exact EG _
 | false =>
  cases VH fr != 0 with
  | true=>exact EG _
  | false=>exact Xd
theorem AeB {ak:Bs} {nu ba:Int} {hs:Bool} {gs:List Gn} (ou oc:Bool) {rs:Int} (nd:Bool) {fr:List Pt} (h:Aol ak nu ba hs gs rs fr): ∀ x∈Wy ak nu ba hs gs ou oc rs nd fr,VT x:=by
 have m: ∀(b:Bool) (y:Ex),(b=true->VT y)-> ∀ x∈(bif b then [y]else []),VT x:=by
  intro b y hy x hx;cases b with
  | false=>cases hx
  | true=>rw[cond_true,DT]at hx;rw[hx];exact hy rfl
 have hi: ∀ s:Bs,s.length<=200000->PL s:=fun s h=>by unfold PL;omega
 intro x hx;unfold Wy at hx;simp only[DJ]at hx;rcases hx with hx | hx | hx | hx | hx
 .refine m _ _ (fun _=>⟨hi _ (by simp),hi _ ?_⟩) x hx;have a1:=Sp.JO 128 ak;have a2:=Sp.JO 48 (Sp.elem 128 ak);have:=h.l1;dsimp only;omega
 .rw[DT]at hx;rw[hx];have:=(QD N hN nu h.l2.1 h.l2.2).2.2;exact⟨hi _ (by simp),hi _ (by dsimp only;omega)⟩
 .have:=(QD N hN ba h.l3.1 h.l3.2).2.2;exact m _ _ (fun _=>⟨hi _ (by simp),hi _ (by dsimp only;omega)⟩) x hx
 .exact m _ _ (fun hb=>⟨hi _ (by simp),hi _ (by have:=(AgS (ou:=ou) (oc:=oc) (nd:=nd) (h.l5 hb)).2;dsimp only;omega)⟩) x hx
 .have:=Aum N hN fr;cases hf:fr.isEmpty with
  | true=>rw[hf]at hx;cases hx
  | false =>rw[hf,cond_false,DT]at hx;rw[hx];exact⟨hi _ (by simp),hi _ (by dsimp only;omega)⟩
theorem Apy (b:Bool) (raw tb:Bs) (au:List (List Att)) (th ne nu ba:Int) (ak:Bs) (hs:Bool) (gs:List Gn) (ou oc:Bool) (rs:Int) (nd:Bool) (fr:List Pt) (en:List Ent) (sg:Bs) (h:Aol ak nu ba hs gs rs fr) :
 QQ N b (raw,tb,au,th,ne,nu,ba,ak,hs,gs,ou,oc,rs,nd,fr,en,sg)=some (Wy ak nu ba hs gs ou oc rs nd fr,b||frE fr):=by
 have a1:=Sp.JO 128 ak;have ha:=h.l1;have w1: ∀ b,JJ N b 128 [ak]=some (Sp.elem 128 ak,b):=fun b=>by have:=ZT N 128 b [ak] (by omega) (by omega) hN (by simp) (by rw[JR];omega);rw[JR]at this;exact this
 have w2: ∀ b,Ko N b [Sp.elem 128 ak]=_:=fun b=>Avd N hN b _ (by omega);have i1:=(QD N hN nu h.l2.1 h.l2.2).1;have i2:=(QD N hN ba h.l3.1 h.l3.2).1;have sc:hs=true-> ∀ b,UB N b (gs,ou,oc,rs,nd)=_:=fun hq b=>Anl N hN b gs ou oc rs nd h.l4 (h.l5 hq);have pe:=iC N fr hN h.l6;have n4: ∀ l:List Ex,l.length<=100->decide ((l.length+1)*41<=140737488355328)=true:=fun l h=>Di;have bo: ∀ b,(b||false)=b:=ET;unfold QQ Wy frE;try simp -zeta only[Ap]
 try dsimp only
 cases hs with
 | false =>
  cases hc4:fr.isEmpty<;>cases hc1:ak==[]<;>cases hc2:ba != -1 <;>
   (simp (disch:=simp) only[JX,U19,cond_true,cond_false,hc1,hc2,hc4,SE,Jr,Eh,DY,w1,w2,i1,i2,pe,takeB,n4,Jv,Fa,EE,bo]
    try rfl)
 | true =>
  have sc:=sc rfl
  cases hc4:fr.isEmpty<;>cases hc1:ak==[]<;>cases hc2:ba != -1 <;>
   (simp (disch:=simp) only[JX,U19,cond_true,cond_false,hc1,hc2,hc4,SE,Jr,Eh,DY,w1,w2,i1,i2,sc,pe,takeB,n4,Jv,Fa,EE,bo]
    try rfl)
theorem Anz (raw tb:Bs) (au:List (List Att)) (th ne nu ba:Int) (ak:Bs) (hs:Bool) (gs:List Gn) (ou oc:Bool) (rs:Int) (nd:Bool) (fr:List Pt) (en:List Ent) (sg:Bs) (h:Aol ak nu ba hs gs rs fr) :
 PQ N (raw,tb,au,th,ne,nu,ba,ak,hs,gs,ou,oc,rs,nd,fr,en,sg)=some (bif frE fr then([],(ZJ fr).2)else(Wy ak nu ba hs gs ou oc rs nd fr,0)):=by
 have a1:=Sp.JO 128 ak;have ha:=h.l1;have w1:JP N 128 [ak]=some (Sp.elem 128 ak):=by have:=RX N 128 [ak] (by omega) (by omega) hN (by simp) (by rw[JR];omega);rw[JR]at this;exact this
 have w2:JP N 48 [Sp.elem 128 ak]=some (Sp.elem 48 (Sp.elem 128 ak)):=by have:=RX N 48 [Sp.elem 128 ak] (by omega) (by omega) hN (by simp) (by rw[JR];omega);rw[JR]at this;exact this
 have i1:=(QD N hN nu h.l2.1 h.l2.2).2.1;have i2:=(QD N hN ba h.l3.1 h.l3.2).2.1;have b1: ∀ v,N9 N 129 v=some (tfB 129 v):=fun v=>Ade N hN 129 v;have b2: ∀ v,N9 N 130 v=some (tfB 130 v):=fun v=>Ade N hN 130 v;have b3: ∀ v,N9 N 132 v=some (tfB 132 v):=fun v=>Ade N hN 132 v;have fn:hs=true->Ov N gs=some (pnB gs):=fun hq=>yL N gs hN h.l4 (h.l5 hq).n16 (h.l5 hq).ns;have fl:hs=true->Qb N 131 rs=some (pfB 131 rs):=fun hq=>Ak5 N 131 rs (by omega) (by omega) hN (h.l5 hq).r;have w3:hs=true->JP N 48 [pnB gs,tfB 129 ou,tfB 130 oc,pfB 131 rs,tfB 132 nd]=some (oH gs ou oc rs nd):=fun hq=>RX N 48 _ (by omega) (by omega) hN (by simp) (by have:=(AgS (ou:=ou) (oc:=oc) (nd:=nd) (h.l5 hq)).1;omega);have pe:=oC N fr hN h.l6;have n4: ∀ l:List Ex,l.length<=100->decide ((l.length+1)*41<=140737488355328)=true:=fun l h=>Di;unfold PQ Wy frE;try simp -zeta only[Ap]
 try dsimp only
 cases hs with
 | false =>
  cases hc4:fr.isEmpty<;>cases hc1:ak==[]<;>cases hc2:ba != -1 <;>
   (simp (disch:=simp) only[JX,U18,cond_true,cond_false,hc1,hc2,hc4,SE,Jr,Eh,DY,w1,w2,i1,i2,pe,n4,Jv,Fa,EE]
    first | rfl | (cases (ZJ fr).2 != 0<;>rfl))
 | true =>
  have fn:=fn rfl;have fl:=fl rfl;have w3:=w3 rfl
  cases hc4:fr.isEmpty<;>cases hc1:ak==[]<;>cases hc2:ba != -1 <;>
   (simp (disch:=simp) only[JX,U18,cond_true,cond_false,hc1,hc2,hc4,SE,Jr,Eh,DY,w1,w2,i1,i2,b1,b2,b3,fn,fl,w3,pe,n4,Jv,Fa,EE]
    first | rfl | (cases (ZJ fr).2 != 0<;>rfl))
end
def Ah3 {α ρ :Type} {A:(α ->Option ρ)->Option ρ} {J: α ->Option ρ} (y: α) {r:Option ρ} (h: ∀ j,A j=j y) (hj:J y=r):JX A J=r:=(h J).trans hj
def AxC (N:Nat) (b:Bool):MW N b=some (b,b):=by kernel_rfl
structure Ax5 (au:List (List Att)) (th ne nu ba:Int) (ak:Bs) (hs:Bool) (gs:List Gn) (rs:Int) (fr:List Pt) (en:List Ent):Prop where
 k1:MN au=0
 k2:0<=th/\th<=254033452799
 k3:0<=ne/\ne<=254033452799
 k4:Aol ak nu ba hs gs rs fr
 k5:en.length<=256
 k6: ∀ e∈en,iQ e
def ArM {N:Nat} {raw tb:Bs} {au:List (List Att)} {th ne nu ba:Int} {ak:Bs} {hs:Bool} {gs:List Gn} {ou oc:Bool} {rs:Int} {nd:Bool} {fr:List Pt} {en:List Ent} {sg:Bs} (hsm:wL N au gs fr en) (hr: -9223372036854775808<=rs/\rs<=9223372036854775807) (h:fB (raw,tb,au,th,ne,nu,ba,ak,hs,gs,ou,oc,rs,nd,fr,en,sg)=0):Ax5 au th ne nu ba ak hs gs rs fr en:=by unfold fB at h;dsimp only at h;obtain⟨h,g⟩:=AjO h;unfold Aeq at h;obtain⟨_,h⟩:=Z9 h (by decide);obtain⟨h1,h⟩:=AjO h;obtain⟨h2,h⟩:=Z9 h (by decide);obtain⟨h3,h⟩:=Z9 h (by decide);obtain⟨h4,h⟩:=Z9 h (by decide);obtain⟨h5,h⟩:=AjO h;have h4:=Et h4;simp only[Gv,Ec]at h2 h3;unfold Ajr at g;obtain⟨g1,g⟩:=Z9 g (by decide);have g1:=Et g1;refine⟨h1,by omega,by omega,⟨by omega,by omega,by omega,hsm.s2,(fun hq=>by subst hq;exact AwR hr h5),hsm.s3⟩,by omega,fun e he=> ?_⟩;obtain⟨i,hi,rfl⟩:=FT.1 he;have g2:=Zl g i (GK.2 hi);unfold y7 at g2;rw[getD_lt en i zEn hi]at g2;exact Avy (AjO g2).1
def aU (N:Nat):List Ent->List (List Att)->List Bs
 | [],_=>[]
 | e::r,cur=>dS N e cur::aU N r e.2.2.2.2
def eStr (N:Nat) (au:List (List Att)) (en:List Ent):Bs:=bif en.isEmpty then []else(KJ 48 (aU N en au).flatten).getD []
def Ac3 (N:Nat) (au:List (List Att)) (en:List Ent):Bool:= !en.isEmpty&&(KJ 48 (aU N en au).flatten).isNone
def AlZ (N:Nat):Lst->Bs×Int
 | (raw,tb,au,th,ne,nu,ba,ak,hs,gs,ou,oc,rs,nd,fr,en,sg) =>
  bif fB (raw,tb,au,th,ne,nu,ba,ak,hs,gs,ou,oc,rs,nd,fr,en,sg) != 0 then([],fB (raw,tb,au,th,ne,nu,ba,ak,hs,gs,ou,oc,rs,nd,fr,en,sg))
  else bif Ac3 N au en then([],2)else bif frE fr then([],2)else bif (Oi (Wy ak nu ba hs gs ou oc rs nd fr)).2 != 0 then([],2)
  else bif (KJ 160 (Oi (Wy ak nu ba hs gs ou oc rs nd fr)).1).isNone then([],2)
  else kN 48 [ZI 1,wO,nmB au,Rx N th,Rx N ne,eStr N au en,(KJ 160 (Oi (Wy ak nu ba hs gs ou oc rs nd fr)).1).getD []].flatten
def Ak6 {l:List Bs} {M:Nat} (h: ∀ s∈l,s.length<=M):l.flatten.length<=M*l.length:=by have:=Oa (g:=fun s:Bs=>s) (M:=M) (l:=l) h;rwa [List.map_id']at this
def AoT (l:List Ex):(Oi l).1.length<=131077:=by
 unfold Oi;cases UG l != 0 with
 | true=>exact EG _
 | false =>
  cases l.any (fun x=>(OO x).isNone)with
  | true=>exact EG _
  | false=>exact Xd
section
variable (N:Nat) (hN:1048578<N)
include hN
theorem Akr: ∀(l:List Ent) (cur:List (List Att)),(∀ e∈l,iQ e)-> ∀ s∈aU N l cur,s.length<=16100:=by
 intro l
 induction l with
 | nil=>intro _ _ s hs;cases hs
 | cons e r ih =>
  intro cur h s hs;rcases D6.1 hs with rfl | hs
  .exact(dU N hN (h e Dv) cur).1
  .exact ih _ (fun e he=>h e (Dw _ he)) s hs
omit hN in
theorem yB: ∀(l:List Ent) (cur:List (List Att)),(aU N l cur).length=l.length:=by
 intro l
 induction l with
 | nil=>intro _;rfl
 | cons e r ih=>intro cur;show(aU N r _).length+1=_;rw[ih];rfl
theorem Aks {X Y ρ :Type} {B:X->(X->Option ρ)->(Y->Option ρ)->Option ρ} {kx:Y->Option ρ} (en:List Ent) (S:Int->List (List Att)->List Bs->X) (R:List Bs->Y) (hs: ∀ e∈en,iQ e/\SmN N e.2.2.2.2)
 (h: ∀(i:Nat) cur acc k,i<en.length->SmN N cur->acc.length<=i->(∀ s∈acc,s.length<=16100)->B (S i cur acc) k kx=k (S ((i+1:Nat):Int) (en.getD i zEn).2.2.2.2 (acc++[dS N (en.getD i zEn) cur])))
 (hend: ∀ cur acc k,B (S (en.length:Int) cur acc) k kx=kx (R acc)) :
 ∀(m i:Nat) cur acc F,i+m=en.length->m<F->SmN N cur->acc.length<=i->(∀ s∈acc,s.length<=16100)->Jz B F (S i cur acc) kx=kx (R (acc++aU N (en.drop i) cur)):=by
 intro m
 induction m with
 | zero =>
  intro i cur acc F hi hF _ _ _;obtain⟨F,rfl⟩: ∃ G,F=G+1:=⟨F - 1,by omega⟩
  have:i=en.length:=by omega
  subst this;rw[Ls,hend,FY];show _=kx (R (acc++[]));rw[En]
 | succ m ih =>
  intro i cur acc F hi hF hc ha hb;obtain⟨F,rfl⟩: ∃ G,F=G+1:=⟨F - 1,by omega⟩
  have hlt:i<en.length:=by omega
  have hm:=hs _ (getD_mem zEn hlt)
  rw[Ls,h i cur acc _ hlt hc ha hb,ih (i+1) _ _ F (by omega) (by omega) hm.2 (by rw[Dx];simp;omega) (fun s hs=>by
   rcases DJ.1 hs with hs | hs
   .exact hb s hs
   .rw[DT.1 hs];exact(dU N hN hm.1 cur).1)]
  rw[Ep hlt,<- getD_lt en i zEn hlt];show _=kx (R (acc++(dS N (en.getD i zEn) cur::aU N (en.drop (i+1)) (en.getD i zEn).2.2.2.2)));rw[Ej];rfl
theorem Awl (x:Lst) (hx:SmL N x) (hr: -9223372036854775808<=x.2.2.2.2.2.2.2.2.2.2.2.2.1/\x.2.2.2.2.2.2.2.2.2.2.2.2.1<=9223372036854775807):WM N x=some (AlZ N x):=by
 have hC:=xG N hN x hx;obtain⟨raw,tb,au,th,ne,nu,ba,ak,hs,gs,ou,oc,rs,nd,fr,en,sg⟩:=x;have h:wL N au gs fr en:=hx;dsimp only at hr;unfold WM AlZ;try simp -zeta only[Ap]
 try dsimp only
 rw[hC,Jr];cases hq:fB (raw,tb,au,th,ne,nu,ba,ak,hs,gs,ou,oc,rs,nd,fr,en,sg) != 0 with
 | true=>rfl
 | false =>
  have ok:=ArM h hr (by simpa using hq);rw[cond_false,cond_false];have hE:=Akr N hN en au ok.k6;have hEl:=yB N en au;have k5:=ok.k5;refine Ah3 (eStr N au en,raw,tb,au,th,ne,nu,ba,ak,hs,gs,ou,oc,rs,nd,fr,en,sg,Ac3 N au en) (fun j=> ?_) ?_
  .unfold eStr Ac3;rw[SE];cases he:en.isEmpty with
   | true=>rfl
   | false =>
    rw[DY,cond_true];refine(Aks N hN en (fun i cur acc=>(i,raw,tb,au,th,ne,nu,ba,ak,hs,gs,ou,oc,rs,nd,fr,en,sg,cur,false,acc)) (fun acc=>(raw,tb,au,th,ne,nu,ba,ak,hs,gs,ou,oc,rs,nd,fr,en,sg,false,acc)) (fun e he=>⟨ok.k6 e he,h.s6 e he⟩) ?_ ?_ en.length 0 au [] N (by omega) (by omega) h.s5 (DN _) (fun s hs=>by cases hs)).trans ?_
    .intro i cur acc k hi hc ha hb;have hm:=getD_mem zEn hi;dsimp only[U21];rw[Di,cond_true,Di,Jv,Di,Jv,Int.toNat_natCast,show(0,0,0,0,([]:List Yq0))=zEn from rfl,Ank N hN false _ cur (ok.k6 _ hm) (h.s4 _ hm) (h.s6 _ hm) hc,Jr,Jv,w64];rfl
    .intro cur acc k;dsimp only[U21];rw[Ay8,cond_false]
    .dsimp only[U19];rw[List.nil_append,FP,lK N false _ (by omega) (by omega),Jr];rw[EN,EE,cond_false]
  .generalize Ac3 N au en=bE;generalize eStr N au en=sE;have hxs:=AeB N hN ou oc nd ok.k4;dsimp only[U19];rw[(QD N hN 1).1,Jr,(AnH N hN).1,Jr,jA N _ hN h.s1,ok.k1,Jr,takeB,Jr];dsimp only;rw[(PG N hN ok.k2.1 ok.k2.2).1,Jr,takeB,Jr,(PG N hN ok.k3.1 ok.k3.2).1,Jr,takeB,Jr];dsimp only;rw[Apy N hN _ _ _ _ _ _ _ _ _ _ _ _ _ _ _ _ _ _ ok.k4,Jr];dsimp only;rw[uJ N hN _ hxs,Jr,takeB,Jr];dsimp only;rw[show(160:Int)=((160:Nat):Int)from rfl,Af0 N 160 _ _ (by omega) (by omega) (by simp;omega) (by simp),Jr,JR];dsimp only;rw[lK N _ _ (by simp;omega),Jr,AxC,Jr];dsimp only;rw[show(bif (0:Int) != 0 then(([]:Bs),(0:Int))else(nmB au,0))=(nmB au,0)from rfl];rw[show((0:Int) != 0)=false from rfl];simp only[ET];generalize frE fr=bF;generalize ((Oi (Wy ak nu ba hs gs ou oc rs nd fr)).2 != 0)=bX;generalize KJ 160 (Oi (Wy ak nu ba hs gs ou oc rs nd fr)).1=o;cases bE with
   | true=>simp only[DR,cond_true]
   | false =>
    cases bF with
    | true=>simp only[Ew,DR,cond_true,cond_false]
    | false =>
     cases bX with
     | true=>simp only[Ew,DR,cond_true,cond_false]
     | false =>
      simp only[EN,cond_false];cases o with
      | none=>rfl
      | some v =>unfold kN;generalize KJ 48 _=q;cases q<;>rfl
theorem Acr (x:Lst) (hx:SmL N x) (hr: -9223372036854775808<=x.2.2.2.2.2.2.2.2.2.2.2.2.1/\x.2.2.2.2.2.2.2.2.2.2.2.2.1<=9223372036854775807):Q7 N x=some (AlZ N x):=by
 have hC:=wH N hN x hx;obtain⟨raw,tb,au,th,ne,nu,ba,ak,hs,gs,ou,oc,rs,nd,fr,en,sg⟩:=x;have h:wL N au gs fr en:=hx;dsimp only at hr;unfold Q7 AlZ;try simp -zeta only[Ap]
 try dsimp only
 rw[hC,Jr];cases hq:fB (raw,tb,au,th,ne,nu,ba,ak,hs,gs,ou,oc,rs,nd,fr,en,sg) != 0 with
 | true=>rfl
 | false =>
  have ok:=ArM h hr (by simpa using hq);rw[cond_false,cond_false];have hE:=Akr N hN en au ok.k6;have hEl:=yB N en au;have k5:=ok.k5;have hfl:(aU N en au).flatten.length<=16100*256:=He (Ak6 hE) (IQ _ (by omega));rw[tV N _ hN h.s1,ok.k1,Jr,(PG N hN ok.k2.1 ok.k2.2).2.1,Jr,(PG N hN ok.k3.1 ok.k3.2).2.1,Jr];refine(Aks N hN en (fun i cur acc=>(acc.flatten,i,raw,tb,au,th,ne,nu,ba,ak,hs,gs,ou,oc,rs,nd,fr,en,sg,cur)) (fun acc=>(acc.flatten,raw,tb,au,th,ne,nu,ba,ak,hs,gs,ou,oc,rs,nd,fr,en,sg)) (fun e he=>⟨ok.k6 e he,h.s6 e he⟩) ?_ ?_ en.length 0 au [] N (by omega) (by omega) h.s5 (DN _) (fun s hs=>by cases hs)).trans ?_
  .intro i cur acc k hi hc ha hb;have hm:=getD_mem zEn hi;have l1:=Ak6 hb;have l2:=(dU N hN (ok.k6 _ hm) cur).1;have l3:16100*acc.length<=16100*256:=IQ _ (by omega);dsimp only[U20];rw[Di,cond_true,Di,Jv,Jv,Int.toNat_natCast,show(0,0,0,0,([]:List Yq0))=zEn from rfl,Asr N hN _ cur (ok.k6 _ hm) (h.s4 _ hm) (h.s6 _ hm) hc,Jr,Di,Jv,w64];rw[G9,List.flatten_cons,List.flatten_nil,En];rfl
  .intro cur acc k;dsimp only[U20];rw[Ay8,cond_false]
  .dsimp only[U18];rw[List.nil_append,FP];have hxs:=AeB N hN ou oc nd ok.k4
   have hsl:(eStr N au en).length<=131077:=by
    unfold eStr;cases en.isEmpty with
    | true=>exact EG _
    | false=>exact Xd
   cases hb:Ac3 N au en with
   | true =>unfold Ac3 at hb;rw[Du]at hb;rw[NU,SE,hb.1,cond_true,show(48:Int)=((48:Nat):Int)from rfl,YV N 48 _ (by omega) (by omega) (by simp;omega) (by simp) (by rw[JR];omega),Jr,JR,hb.2];rfl
   | false =>
    rw[cond_false];refine Ah3 (eStr N au en,raw,tb,au,th,ne,nu,ba,ak,hs,gs,ou,oc,rs,nd,fr,en,sg) (fun j=> ?_) ?_
    .rw[SE];unfold Ac3 at hb;unfold eStr;cases he:en.isEmpty with
     | true =>have:en=[]:=Gz.1 he;subst this;rfl
     | false =>rw[he,DY,EE]at hb;rw[DY,cond_true,show(48:Int)=((48:Nat):Int)from rfl,YV N 48 _ (by omega) (by omega) (by simp;omega) (by simp) (by rw[JR];omega),Jr,JR,hb];rfl
    .dsimp only[U18];rw[Anz N hN _ _ _ _ _ _ _ _ _ _ _ _ _ _ _ _ _ ok.k4,Jr];have hfr:frE fr=true->((ZJ fr).2 != 0)=true:=fun hq=>by unfold frE at hq;rw[Du]at hq;exact hq.2
     cases hF:frE fr with
     | true =>rw[cond_true,cond_true,hfr hF];rfl
     | false =>
      rw[cond_false,cond_false];dsimp only;rw[show((0:Int) != 0)=false from rfl,cond_false];unfold ZO;rw[tK N hN _ hxs,Jr];have hle:=AoT (Wy ak nu ba hs gs ou oc rs nd fr);cases hX:(Oi (Wy ak nu ba hs gs ou oc rs nd fr)).2 != 0 with
      | true=>rw[cond_true,cond_true,Jr,hX];rfl
      | false =>
       rw[cond_false,cond_false,show(160:Int)=((160:Nat):Int)from rfl,YV N 160 _ (by omega) (by omega) (by simp;omega) (by simp) (by rw[JR];omega),Jr,JR,Jr];have hwl:=Xd (t:=160) (c:=(Oi (Wy ak nu ba hs gs ou oc rs nd fr)).1);dsimp only;cases ho:KJ 160 (Oi (Wy ak nu ba hs gs ou oc rs nd fr)).1 with
       | none=>rfl
       | some v =>rw[ho]at hwl;have hwl:v.length<=131077:=hwl;have a1:=(QD N hN 1).2.2;have a2:=AsR;have a3:=(WW ok.k1).1;have a4:=(PG N hN ok.k2.1 ok.k2.2).2.2.1;have a5:=(PG N hN ok.k3.1 ok.k3.2).2.2.1;rw[show(some v).isNone=false from rfl,show((if false=true then(2:Int)else 0) != 0)=false from rfl,cond_false,cond_false,(QD N hN 1).2.1,Jr,(AnH N hN).2,Jr];rw[show(48:Int)=((48:Nat):Int)from rfl,YV N 48 _ (by omega) (by omega) (by simp;omega) (by simp) (by simp only[List.flatten_cons,List.flatten_nil,Dx,List.length_nil,Option.getD_some];omega),Jr];rw[cond_false];unfold kN;generalize KJ 48 _=q;cases q<;>rfl
end
section
variable (N:Nat) (hN:1048578<N) {L:List Int} (hL:L.length<=9223372036854775807)
include hL
def Af2 (a:Att):Prop:=a.1.length<=40/\a.2.2.length<=40
instance (a:Att):Decidable (Af2 a):=by unfold Af2;infer_instance
theorem lT {d:List Int×Int} (hd:KO L d):Ends (fun r=>Af2 r.1/\KO L r.2) (V3 N d):=by
 unfold V3;try simp -zeta only[Ap]
 refine JK (nx N hL hd 12 (by omega)) ?_;rintro ⟨r,d'⟩ ⟨h0,h1,h2⟩;dsimp only at h0 h1 h2 ⊢;refine JG (by simp;omega) (JG (by simp;omega) (JG (by simp;omega) (Kr ⟨?_,h2⟩)));exact Yw (by decide) h0 h1
def nmS (n:List (List Att)):Prop:=n.length<=3/\LX n
include hN in
theorem ArR {d:List Int×Int} (hd:KO L d):Ends (fun r=>nmS r.1/\KO L r.2) (UN N d):=by
 unfold UN;try simp only[clR]
 refine JK (nx N hL hd 4 (by omega)) ?_;rintro ⟨r,d1,d2⟩ ⟨h0,h1,h2⟩;dsimp only at h0 h1 h2 ⊢;refine PX (fun x=>0<=x.1/\x.1<4/\KO L (x.2.1,x.2.2.1)/\((x.2.2.2.length:Int)+x.1<=3)/\LX x.2.2.2) (fun x=>x.1.toNat) ?_ N _ ⟨h0,h1,h2,by simp;omega,fun r hr=>by cases hr⟩ (by dsimp only;omega);rintro ⟨t,a,b,acc⟩ ⟨g0,g1,g2,g3,g4⟩ k hk;dsimp only[U4]at g0 g1 g2 g3 g4 ⊢;refine JQ (fun ht=> ?_) (fun _=> ?_)
 .have ht:=D9 ht;refine JK (nx N hL g2 5 (by omega)) ?_;rintro ⟨r,e1,e2⟩ ⟨f0,f1,f2⟩;dsimp only at f0 f1 f2 ⊢
  have hw:i64.wrap (1+i64.wrap (r.tdiv 4))<=2/\0<=i64.wrap (1+i64.wrap (r.tdiv 4)):=by
   have:r=0\/r=1\/r=2\/r=3\/r=4:=by omega
   rcases this with rfl | rfl | rfl | rfl | rfl<;>decide
  refine PX (fun x=>0<=x.1/\x.1<=2/\KO L (x.2.1,x.2.2.1)/\((x.2.2.2.1.length:Int)+x.1<=2)/\(∀ e∈x.2.2.2.1,Zx e)/\x.2.2.2.2=acc) (fun x=>x.1.toNat) ?_ N _ ⟨hw.2,hw.1,f2,by simp;omega,(fun r hr=>by cases hr),rfl⟩ (by dsimp only;omega);rintro ⟨t',a',b',acc',out⟩ ⟨p0,p1,p2,p3,p4,p5⟩ k' hk';dsimp only[U5]at p0 p1 p2 p3 p4 p5 ⊢;subst p5;refine JQ (fun ht'=> ?_) (fun _=> ?_)
  .have ht':=D9 ht';refine JK (lT N hL p2) ?_;rintro ⟨r,q1,q2⟩ ⟨z0,z1⟩;dsimp only at z0 z1 ⊢
   have taut:(decide ((0:Int)<(acc'.length:Int))||((acc'.length:Nat):Int)==0)=true:=by
    cases acc' with
    | nil=>rfl
    | cons x y=>rw[Di (by rw[List.length_cons];omega)];rfl
   have jS:(decide (0<acc'.length)||((acc'.length:Nat):Int)==0)=true:=by
    cases acc' with
    | nil=>rfl
    | cons x y=>rw[Di (by rw[List.length_cons];omega)];rfl
   have hsm:Zx r:=⟨by have:=z0.1;omega,by have:=z0.2;omega⟩
   refine JG (by first | exact taut | exact jS) (JG (by first | exact taut | exact jS) (JG (by first | exact taut | exact jS) ?_));refine JQ (fun _=> ?_) (fun _=> ?_)
   .refine JG (Di) (hk' _ ⟨?_,?_,z1,?_,?_,rfl⟩ ?_)
    .dsimp only;rw[w64];omega
    .dsimp only;rw[w64];omega
    .dsimp only;rw[w64,Dx];simp;omega
    .intro e he;rcases DJ.1 he with he | he
     .exact p4 e he
     .rw[DT.1 he];exact hsm
    .dsimp only;rw[w64];omega
   .refine hk' _ ⟨?_,?_,z1,?_,p4,rfl⟩ ?_
    .dsimp only;rw[w64];omega
    .dsimp only;rw[w64];omega
    .dsimp only;rw[w64];omega
    .dsimp only;rw[w64];omega
  .dsimp only[U4];refine JG (Di) (hk _ ⟨?_,?_,p2,?_,?_⟩ ?_)
   .dsimp only;rw[w64];omega
   .dsimp only;rw[w64];omega
   .dsimp only;rw[w64,Dx];simp;omega
   .intro e he;rcases DJ.1 he with he | he
    .exact g4 e he
    .rw[DT.1 he];exact p4
   .dsimp only;rw[w64];omega
 .dsimp only[U3];exact Kr ⟨⟨by dsimp only;omega,g4⟩,g2⟩
end
section
variable (N:Nat) (hN:1048578<N) {L:List Int} (hL:L.length<=9223372036854775807)
def nmC (n:List (List Att)):Bool:=decide (n.length<=3)&&n.all fun r=>r.all fun e=>decide (e.1.length<=40)&&decide (e.2.2.length<=40)
def nmO (o:Option (List (List Att))):Bool:=match o with
 | some n=>nmC n
 | none=>false
theorem Aw8 {n:List (List Att)} (h:nmC n=true):nmS n:=by unfold nmC at h;rw[Du,Dz]at h;refine⟨h.1,fun r hr e he=> ?_⟩;have:=DD.1 (DD.1 h.2 r hr) e he;rw[Du,Dz,Dz]at this;exact⟨by omega,by omega⟩
theorem AhQ (M:Nat): ∀ k:Fin 16,nmO (Kz (M+70) (k.val:Int))=true:=D9 (by kernel_rfl)
include hN in
theorem Af3 {k:Int} (h0:0<=k) (h1:k<16):Ends nmS (Kz N k):=by
 obtain⟨M,rfl⟩: ∃ M,N=M+70:=⟨N - 70,by omega⟩
 have h:=AhQ M ⟨k.toNat,by omega⟩;rw[show(((⟨k.toNat,by omega⟩:Fin 16).val:Nat):Int)=k from GY h0]at h;cases ho:Kz (M+70) k with
 | none=>rw[ho]at h;cases h
 | some n=>rw[ho]at h;exact⟨n,rfl,Aw8 h⟩
def shortS (s:Bs):Prop:=s.length<=40
instance (s:Bs):Decidable (shortS s):=by unfold shortS;infer_instance
def gnS (g:Gn):Prop:=g.2.1.length<=40/\LX g.2.2/\g.2.2.length<=3
theorem Apc {g:Gn} (h:gnS g):gQ g:=⟨by have:=h.1;omega,h.2.1⟩
theorem AcB {k:Int} {s:Bs} (h:shortS s):gnS (k,s,[]):=⟨h,(fun r hr=>by cases hr),by simp⟩
include hN hL in
theorem dZ {d:List Int×Int} (hd:KO L d):Ends (fun r=>gnS r.1/\KO L r.2) (SG N d):=by
 unfold SG;try simp only[clR]
 refine JK (nx N hL hd 4 (by omega)) ?_;rintro ⟨r,d'⟩ ⟨h0,h1,h2⟩;dsimp only at h0 h1 h2 ⊢;refine JQ (fun _=> ?_) (fun _=>JQ (fun _=> ?_) (fun _=>JQ (fun _=> ?_) (fun _=> ?_)))
 .refine JK (nx N hL h2 6 (by omega)) ?_;rintro ⟨r,d'⟩ ⟨h0,h1,h2⟩;dsimp only at h0 h1 h2 ⊢;refine JG (Di) (JG (Di) (JG (Di) (Kr ⟨AcB (Yw (P:=shortS) (by decide) h0 h1),h2⟩)))
 .refine JK (nx N hL h2 7 (by omega)) ?_;rintro ⟨r,d'⟩ ⟨h0,h1,h2⟩;dsimp only at h0 h1 h2 ⊢;refine JG (Di) (JG (Di) (JG (Di) (Kr ⟨AcB (Yw (P:=shortS) (by decide) h0 h1),h2⟩)))
 .refine JK (nx N hL h2 4 (by omega)) ?_;rintro ⟨r,d'⟩ ⟨h0,h1,h2⟩;dsimp only at h0 h1 h2 ⊢;refine JG (Di) (JG (Di) (JG (Di) (Kr ⟨AcB (Yw (P:=shortS) (by decide) h0 h1),h2⟩)))
 .refine JK (ArR N hN hL h2) ?_;rintro ⟨n,d'⟩ ⟨g0,g1⟩;exact Kr ⟨⟨by simp,g0.2,g0.1⟩,g1⟩
def AxG (l:List Pt):Prop:=l.length<=3/\ ∀ p∈l,Nu p
include hN hL in
theorem Ani {d:List Int×Int} (hd:KO L d):Ends (fun r=>AxG r.1/\KO L r.2) (YE N d):=by
 unfold YE;try simp only[clR]
 refine JK (nx N hL hd 3 (by omega)) ?_;rintro ⟨r,d1,d2⟩ ⟨h0,h1,h2⟩;dsimp only at h0 h1 h2 ⊢;rw[w64];refine PX (fun x=>0<=x.1/\x.1<4/\KO L (x.2.1,x.2.2.1)/\((x.2.2.2.length:Int)+x.1<=3)/\ ∀ p∈x.2.2.2,Nu p) (fun x=>x.1.toNat) ?_ N _ ⟨by dsimp only;omega,by dsimp only;omega,h2,by simp;omega,(fun r hr=>by cases hr)⟩ (by dsimp only;omega);rintro ⟨t,a,b,acc⟩ ⟨g0,g1,g2,g3,g4⟩ k hk;dsimp only[U4]at g0 g1 g2 g3 g4 ⊢;refine JQ (fun ht=> ?_) (fun _=>by dsimp only[U3];exact Kr ⟨⟨by dsimp only;omega,g4⟩,g2⟩);have ht:=D9 ht;refine JK (dZ N hN hL g2) ?_;rintro ⟨g,e⟩ ⟨f0,f1⟩;refine JK (nx N hL f1 6 (by omega)) ?_;rintro ⟨r6,e1,e2⟩ ⟨c0,c1,c2⟩;dsimp only at c0 c1 c2 f0 ⊢;refine JG (Di) (JG (Di) (JG (Di) ?_));have hr:0<= [(0:Int),0,510,2,64,384].getD r6.toNat 0/\ [(0:Int),0,510,2,64,384].getD r6.toNat 0<=510:=Yw (P:=fun x:Int=>0<=x/\x<=510) (by decide) c0 c1;have hg:LZ [g]:=fun x hx=>by rw[DT.1 hx];exact Apc f0
 refine PY (P:=fun x=>KO L (x.1,x.2.1)/\x.2.2.1=[(0:Int),0,510,2,64,384].getD r6.toNat 0/\LX x.2.2.2.2.1/\x.2.2.2.2.2.1=[g]/\x.2.2.2.2.2.2=acc) (fun j hj=> ?_) ?_
 .refine JK (nx N hL c2 3 (by omega)) ?_;rintro ⟨r3,q1,q2⟩ ⟨z0,z1,z2⟩;dsimp only at z0 z1 z2 ⊢;refine JQ (fun _=> ?_) (fun _=>hj _ ⟨z2,rfl,(fun r hr=>by cases hr),rfl,rfl⟩);refine JK (nx N hL z2 16 (by omega)) ?_;rintro ⟨r3,q1,q2⟩ ⟨z0,z1,z2⟩;dsimp only at z0 z1 z2 ⊢;refine JK (Af3 N hN z0 z1) ?_;intro n hn;exact hj _ ⟨z2,rfl,hn.2,rfl,rfl⟩
 .rintro ⟨q1,q2,x1,x2,x3,x4,x5⟩ ⟨y1,y2,y3,y4,y5⟩;dsimp only[U7]at y1 y2 y3 y4 y5 ⊢;subst y2 y4 y5;refine JG (Di) (hk _ ⟨?_,?_,y1,?_,AcU g4 ⟨hg,y3,by dsimp only;omega,by dsimp only;omega⟩⟩ ?_)
  .dsimp only;rw[w64];omega
  .dsimp only;rw[w64];omega
  .dsimp only;rw[w64,Dx];simp;omega
  .dsimp only;rw[w64];omega
end
def dE (a:Att):Bool:=decide (200<a.1.length)||decide (200<a.2.2.length)
def Zp (r:List Att):Bool:=decide (8<r.length)||r.any dE
def MC (n:List (List Att)):Bool:=bif decide (12<n.length)then false else bif n.any Zp then false else true
def Xe (N:Nat) (n:List (List Att)) (hN:1048578<N):MZ N n=some (MC n):=by
 unfold MZ;try simp only[clR]
 unfold MC;rw[show decide (((n.length:Nat):Int)>12)=decide (12<n.length)from S9 _ 12];by_cases h12:12<n.length
 .rw[Di h12];rfl
 rw[Dn h12,cond_false,cond_false,<- Oe];refine bV (mk:=fun i=>(i:Int)) n [] Zp (some false) (some true) ?_ ?_ N
 .intro i hi k;dsimp only;rw[Int.toNat_natCast];generalize n.getD i []=r;rw[Y8,cond_true,Vq,Jv,Jv,show decide (((r.length:Nat):Int)>8)=decide (8<r.length)from S9 _ 8];unfold Zp;by_cases h8:8<r.length
  .rw[Di h8];rfl
  rw[Dn h8,cond_false,EN];refine(bV (mk:=fun i=>(i:Int)) r ([],0,[]) dE (some false) (k ((i+1:Nat):Int)) ?_ ?_ N)
  .intro j hj k;dsimp only;rw[Int.toNat_natCast];generalize r.getD j ([],0,[])=a;rw[show decide (((a.1.length:Nat):Int)>200)=decide (200<a.1.length)from S9 _ 200,show decide (((a.2.2.length:Nat):Int)>200)=decide (200<a.2.2.length)from S9 _ 200];have ha:(decide (200<a.1.length)||decide (200<a.2.2.length))=dE a:=rfl;rw[ha,Y8,cond_true,Vq,Jv,Jv,w64];rfl
  .intro k;rw[AaU,cond_false,w64];rfl
 .intro k;rw[AaU,cond_false]
def Asx {n:List (List Att)} (h:MC n=true):n.length<=12/\(∀ r∈n,r.length<=8)/\LX n:=by
 unfold MC at h;cases h1:decide (12<n.length)with
 | true=>rw[h1]at h;cases h
 | false =>
  cases h2:n.any Zp with
  | true=>rw[h1,h2]at h;cases h
  | false =>
   have h1:=Et h1;have h2:=Fe.1 h2;refine⟨by omega,fun r hr=> ?_,fun r hr e he=> ?_⟩
   .have:=h2 r hr;unfold Zp at this;rw[Eo,Dz]at this;omega
   .have h3:=h2 r hr;unfold Zp at h3;rw[Eo]at h3;have h4: ¬ dE e=true:=fun hb=>h3 (Or.inr (Gy.2 ⟨e,he,hb⟩));unfold dE at h4;rw[Eo,Dz,Dz]at h4;exact⟨by omega,by omega⟩
def Ael (g:Gn):Bool:=decide (300<g.2.1.length)|| !MC g.2.2
def QH (l:List Gn):Bool:=bif decide (20<l.length)then false else bif l.any Ael then false else true
def tX (N:Nat) (l:List Gn) (hN:1048578<N):Px N l=some (QH l):=by
 unfold Px;try simp only[clR]
 unfold QH;rw[show decide (((l.length:Nat):Int)>20)=decide (20<l.length)from S9 _ 20];by_cases h12:20<l.length
 .rw[Di h12];rfl
 rw[Dn h12,cond_false,cond_false,<- Oe];refine bV (mk:=fun i=>(i:Int)) l (0,[],[]) Ael (some false) (some true) ?_ ?_ N
 .intro i hi k;dsimp only;rw[Int.toNat_natCast];generalize l.getD i (0,[],[])=g;rw[Xe N _ hN,Y8,cond_true,Vq,Jv,Jv,show decide (((g.2.1.length:Nat):Int)>300)=decide (300<g.2.1.length)from S9 _ 300];simp only[Option.isSome_some,DR,Jv,Option.getD_some];have ha:(decide (300<g.2.1.length)|| !MC g.2.2)=Ael g:=rfl;rw[ha,w64];rfl
 .intro k;rw[AaU,cond_false]
def Afi {l:List Gn} (h:QH l=true):l.length<=20/\(∀ g∈l,g.2.1.length<=300/\MC g.2.2=true)/\LZ l:=by
 unfold QH at h;cases h1:decide (20<l.length)with
 | true=>rw[h1]at h;cases h
 | false =>
  cases h2:l.any Ael with
  | true=>rw[h1,h2]at h;cases h
  | false =>
   have h1:=Et h1;have h2:=Fe.1 h2
   have key: ∀ g∈l,g.2.1.length<=300/\MC g.2.2=true:=by
    intro g hg;have:=h2 g hg;unfold Ael at this;rw[Eo,Dz]at this;refine⟨by omega,?_⟩;cases hq:MC g.2.2 with
    | true=>rfl
    | false=>exact absurd (Or.inr (by rw[hq];rfl)) this
   exact⟨by omega,key,fun g hg=>⟨by have:=(key g hg).1;omega,(Asx (key g hg).2).2.2⟩⟩
def sN (l:List Pt):Bool:=bif decide (6<l.length)then false else bif l.any (fun p=> !QH p.1|| !MC p.2.2.2)then false else true
def Afy (N:Nat) (l:List Pt) (hN:1048578<N):Qm N l=some (sN l):=by
 unfold Qm;try simp only[clR]
 unfold sN;rw[show decide (((l.length:Nat):Int)>6)=decide (6<l.length)from S9 _ 6];by_cases h12:6<l.length
 .rw[Di h12];rfl
 rw[Dn h12,cond_false,cond_false,<- Oe];refine bV (mk:=fun i=>(i:Int)) l ([],0,false,[]) (fun p=> !QH p.1|| !MC p.2.2.2) (some false) (some true) ?_ ?_ N
 .intro i hi k;dsimp only;rw[Int.toNat_natCast];generalize l.getD i ([],0,false,[])=g;rw[tX N _ hN,Jr,Xe N _ hN,Y8,cond_true,Vq,Jv,Jv];simp only[Option.isSome_some,DR,Jv,Option.getD_some];rw[w64];rfl
 .intro k;rw[AaU,cond_false]
def AlU {l:List Pt} (h:sN l=true):l.length<=6/\ ∀ p∈l,QH p.1=true/\MC p.2.2.2=true:=by
 unfold sN at h;cases h1:decide (6<l.length)with
 | true=>rw[h1]at h;cases h
 | false =>
  cases h2:l.any (fun p=> !QH p.1|| !MC p.2.2.2)with
  | true=>rw[h1,h2]at h;cases h
  | false =>have h1:=Et h1;have h2:=Fe.1 h2;refine⟨by omega,fun p hp=> ?_⟩;have:=h2 p hp;cases hq:QH p.1<;>cases hq2:MC p.2.2.2<;>rw[hq,hq2]at this<;>first | exact⟨rfl,rfl⟩ | exact absurd rfl this
def rT (n:List (List Att)):Prop:= ∀ r∈n,r.length<=2/\ ∀ e∈r,Af2 e
def nmT (n:List (List Att)):Prop:=n.length<=3/\rT n
def SH (n:List (List Att)):Prop:=n.length<=100/\ ∀ r∈n,r.length<=100/\ ∀ e∈r,e.1.length<=1000/\e.2.2.length<=1000
def Aw9 {n:List (List Att)} (h:nmT n):SH n:=⟨by have:=h.1;omega,fun r hr=>⟨by have:=(h.2 r hr).1;omega,fun e he=>⟨by have:=((h.2 r hr).2 e he).1;omega,by have:=((h.2 r hr).2 e he).2;omega⟩⟩⟩
def rJ {n:List (List Att)} (h:SH n):LX n:=fun r hr e he=>⟨by have:=((h.2 r hr).2 e he).1;omega,by have:=((h.2 r hr).2 e he).2;omega⟩
def rH {N:Nat} (hN:1048578<N) {n:List (List Att)} (h:SH n):SmN N n:=⟨by have:=h.1;omega,by have:=h.1;omega,fun r hr=>⟨by have:=(h.2 r hr).1;omega,by have:=(h.2 r hr).1;omega,fun e he=>⟨by have:=((h.2 r hr).2 e he).2;omega,by have:=((h.2 r hr).2 e he).2;omega⟩⟩⟩
def ApJ (n:List (List Att)):Bool:=decide (n.length<=100)&&n.all fun r=>decide (r.length<=100)&&r.all fun e=>decide (e.1.length<=1000)&&decide (e.2.2.length<=1000)
def Axy (o:Option (List (List Att))):Bool:=match o with
 | some n=>ApJ n
 | none=>false
def Aue {n:List (List Att)} (h:ApJ n=true):SH n:=by unfold ApJ at h;simp only[Du,Dz,DD]at h;exact⟨h.1,fun r hr=>⟨(h.2 r hr).1,fun e he=>(h.2 r hr).2 e he⟩⟩
def AqE (M:Nat): ∀ k:Fin 16,Axy (Kz (M+70) (k.val:Int))=true:=D9 (by kernel_rfl)
def Ad0 (N:Nat) (hN:1048578<N) {k:Int} (h0:0<=k) (h1:k<16):Ends SH (Kz N k):=by
 obtain⟨M,rfl⟩: ∃ M,N=M+70:=⟨N - 70,by omega⟩
 have h:=AqE M ⟨k.toNat,by omega⟩;rw[show(((⟨k.toNat,by omega⟩:Fin 16).val:Nat):Int)=k from GY h0]at h;cases ho:Kz (M+70) k with
 | none=>rw[ho]at h;cases h
 | some n=>rw[ho]at h;exact⟨n,rfl,Aue h⟩
section
variable (N:Nat) (hN:1048578<N) {L:List Int} (hL:L.length<=9223372036854775807)
include hL
include hN in
theorem ApA {d:List Int×Int} (hd:KO L d):Ends (fun r=>nmT r.1/\KO L r.2) (UN N d):=by
 unfold UN;try simp only[clR]
 refine JK (nx N hL hd 4 (by omega)) ?_;rintro ⟨r,d1,d2⟩ ⟨h0,h1,h2⟩;dsimp only at h0 h1 h2 ⊢;refine PX (fun x=>0<=x.1/\x.1<4/\KO L (x.2.1,x.2.2.1)/\((x.2.2.2.length:Int)+x.1<=3)/\rT x.2.2.2) (fun x=>x.1.toNat) ?_ N _ ⟨h0,h1,h2,by simp;omega,fun r hr=>by cases hr⟩ (by dsimp only;omega);rintro ⟨t,a,b,acc⟩ ⟨g0,g1,g2,g3,g4⟩ k hk;dsimp only[U4]at g0 g1 g2 g3 g4 ⊢;refine JQ (fun ht=> ?_) (fun _=> ?_)
 .have ht:=D9 ht;refine JK (nx N hL g2 5 (by omega)) ?_;rintro ⟨r,e1,e2⟩ ⟨f0,f1,f2⟩;dsimp only at f0 f1 f2 ⊢
  have hw:i64.wrap (1+i64.wrap (r.tdiv 4))<=2/\0<=i64.wrap (1+i64.wrap (r.tdiv 4)):=by
   have:r=0\/r=1\/r=2\/r=3\/r=4:=by omega
   rcases this with rfl | rfl | rfl | rfl | rfl<;>decide
  refine PX (fun x=>0<=x.1/\x.1<=2/\KO L (x.2.1,x.2.2.1)/\((x.2.2.2.1.length:Int)+x.1<=2)/\(∀ e∈x.2.2.2.1,Af2 e)/\x.2.2.2.2=acc) (fun x=>x.1.toNat) ?_ N _ ⟨hw.2,hw.1,f2,by simp;omega,(fun r hr=>by cases hr),rfl⟩ (by dsimp only;omega);rintro ⟨t',a',b',acc',out⟩ ⟨p0,p1,p2,p3,p4,p5⟩ k' hk';dsimp only[U5]at p0 p1 p2 p3 p4 p5 ⊢;subst p5;refine JQ (fun ht'=> ?_) (fun _=> ?_)
  .have ht':=D9 ht';refine JK (lT N hL p2) ?_;rintro ⟨r,q1,q2⟩ ⟨z0,z1⟩;dsimp only at z0 z1 ⊢
   have taut:(decide ((0:Int)<(acc'.length:Int))||((acc'.length:Nat):Int)==0)=true:=by
    cases acc' with
    | nil=>rfl
    | cons x y=>rw[Di (by rw[List.length_cons];omega)];rfl
   have jS:(decide (0<acc'.length)||((acc'.length:Nat):Int)==0)=true:=by
    cases acc' with
    | nil=>rfl
    | cons x y=>rw[Di (by rw[List.length_cons];omega)];rfl
   have hsm:Af2 r:=z0;refine JG (by first | exact taut | exact jS) (JG (by first | exact taut | exact jS) (JG (by first | exact taut | exact jS) ?_));refine JQ (fun _=> ?_) (fun _=> ?_)
   .refine JG (Di) (hk' _ ⟨?_,?_,z1,?_,?_,rfl⟩ ?_)
    .dsimp only;rw[w64];omega
    .dsimp only;rw[w64];omega
    .dsimp only;rw[w64,Dx];simp;omega
    .intro e he;rcases DJ.1 he with he | he
     .exact p4 e he
     .rw[DT.1 he];exact hsm
    .dsimp only;rw[w64];omega
   .refine hk' _ ⟨?_,?_,z1,?_,p4,rfl⟩ ?_
    .dsimp only;rw[w64];omega
    .dsimp only;rw[w64];omega
    .dsimp only;rw[w64];omega
    .dsimp only;rw[w64];omega
  .dsimp only[U4];refine JG (Di) (hk _ ⟨?_,?_,p2,?_,?_⟩ ?_)
   .dsimp only;rw[w64];omega
   .dsimp only;rw[w64];omega
   .dsimp only;rw[w64,Dx];simp;omega
   .intro e he;rcases DJ.1 he with he | he
    .exact g4 e he
    .rw[DT.1 he];exact⟨by omega,p4⟩
   .dsimp only;rw[w64];omega
 .dsimp only[U3];exact Kr ⟨⟨by dsimp only;omega,g4⟩,g2⟩
end
def Ado {n:List (List Att)} (h:MC n=true):SH n:=by
 unfold MC at h;cases h1:decide (12<n.length)with
 | true=>rw[h1]at h;cases h
 | false =>
  cases h2:n.any Zp with
  | true=>rw[h1,h2]at h;cases h
  | false =>have h1:=Et h1;refine⟨by omega,fun r hr=> ?_⟩;have h3:=Fe.1 h2 r hr;unfold Zp at h3;rw[Eo,Dz]at h3;refine⟨by omega,fun e he=> ?_⟩;have h4: ¬ dE e=true:=fun hb=>h3 (Or.inr (Gy.2 ⟨e,he,hb⟩));unfold dE at h4;rw[Eo,Dz,Dz]at h4;omega
structure LiP (m:Nat) (au:List (List Att)) (gs:List Gn) (rs:Int) (fr:List Pt) (en:List Ent):Prop where
 g1:SH au
 g2:LZ gs
 g3: -9223372036854775808<=rs/\rs<=9223372036854775807
 g4: ∀ p∈fr,Nu p
 g5:en.length<=m
 g6: ∀ e∈en,SH e.2.2.2.2
def LiG (m:Nat):Lst->Prop
 | (_,_,au,_,_,_,_,_,_,gs,_,_,rs,_,fr,en,_)=>LiP m au gs rs fr en
def LiG.sm {N m:Nat} (hN:1048578<N) {x:Lst} (h:LiG m x):SmL N x:=by obtain⟨raw,tb,au,th,ne,nu,ba,ak,hs,gs,ou,oc,rs,nd,fr,en,sg⟩:=x;have h:LiP m au gs rs fr en:=h;exact⟨rJ h.g1,h.g2,h.g4,fun e he=>rJ (h.g6 e he),rH hN h.g1,fun e he=>rH hN (h.g6 e he)⟩
def LiG.rs {m:Nat} {x:Lst} (h:LiG m x): -9223372036854775808<=x.2.2.2.2.2.2.2.2.2.2.2.2.1/\x.2.2.2.2.2.2.2.2.2.2.2.2.1<=9223372036854775807:=by obtain⟨raw,tb,au,th,ne,nu,ba,ak,hs,gs,ou,oc,rs,nd,fr,en,sg⟩:=x;exact(show LiP m au gs rs fr en from h).g3
section
variable (N:Nat) (hN:1048578<N) {L:List Int} (hL:L.length<=9223372036854775807)
include hL in
theorem XY {d:List Int×Int} (hd:KO L d):Ends (fun r=>KO L r.2) (Td N d):=by
 unfold Td;try simp -zeta only[Ap]
 refine JK (nx N hL hd 7 (by omega)) ?_;rintro ⟨r,d'⟩ ⟨h0,h1,h2⟩;dsimp only at h0 h1 h2 ⊢;exact JG (Di) (JG (Di) (JG (Di) (Kr h2)))
include hN in
theorem AsE (y:Lst) (n:List (List Att)) (s:Int) (h5:y.2.2.2.2.2.2.2.2.2.2.2.2.2.2.2.1.length<=1000) (he: ∀ e∈y.2.2.2.2.2.2.2.2.2.2.2.2.2.2.2.1,SH e.2.2.2.2) (hn:SH n):Ends (fun _=>True) (Ux N y n s):=by
 unfold Ux;try simp -zeta only[Ap]
 generalize y.2.2.2.2.2.2.2.2.2.2.2.2.2.2.2.1=es at h5 he ⊢;refine PX (fun(x:Int×List Yq0)=>0<=x.1/\x.1<=(es.length:Int)/\x.2=n) (fun x=>es.length - x.1.toNat) ?_ N _ ⟨FH _,by dsimp only;omega,rfl⟩ (by dsimp only;omega);rintro ⟨t,m⟩ ⟨h0,h1,rfl⟩ k hk;dsimp only at h0 h1 hk;dsimp only[U2];refine JQ (fun ht=> ?_) (fun _=>Kr trivial);have ht:=D9 ht;refine JG (Di h0) (JG (Di ht) ?_);have hm:=he _ (getD_mem (0,0,0,0,([]:List Yq0)) (show t.toNat<es.length by omega));rw[jR (rH hN hm) (rH hN hn)];simp only[Pn,PT,Og,Option.isSome_some,DR,Jv,Option.getD_some];refine JQ (fun _=>Kr trivial) (fun _=>hk _ ⟨?_,?_,rfl⟩ ?_)
 .dsimp only;rw[w64];omega
 .dsimp only;rw[w64];omega
 .dsimp only;rw[w64];omega
include hN hL in
theorem Apz {d:List Int×Int} (hd:KO L d):Ends (fun r=>LiG 6 r.1/\KO L r.2) (jE N d):=by
 unfold jE;try simp -zeta only[Ap]
 refine JK (nx N hL hd 16 (by omega)) ?_;rintro ⟨r,d1⟩ ⟨h0,h1,h2⟩;dsimp only at h0 h1 h2 ⊢;refine JK (Ad0 N hN h0 h1) ?_;intro au hau;refine JK (XY N hL h2) ?_;rintro ⟨t1,d2⟩ h3;refine JK (XY N hL h3) ?_;rintro ⟨t2,d3⟩ h4;refine JK (nx N hL h4 200 (by omega)) ?_;rintro ⟨r5,d5a,d5b⟩ ⟨h5,h6,h7⟩;dsimp only at h3 h4 h5 h6 h7 ⊢;refine PY (P:=fun x=> ∃ u v,x=(d5a,d5b,au,u,v,1+r5)) (fun j hj=> ?_) ?_
 .rw[w64];exact JQ (fun _=>hj _ ⟨_,_,rfl⟩) (fun _=>hj _ ⟨_,_,rfl⟩)
 rintro _ ⟨u,v,rfl⟩;dsimp only[U6];refine PY (P:=fun x=> ∃ a b w,x=(a,b,au,u,v,1+r5,w)/\KO L (a,b)) (fun j hj=> ?_) ?_
 .refine JK (nx N hL h7 3 (by omega)) ?_;rintro ⟨r,d1⟩ ⟨h0,h1,h2⟩;dsimp only at h0 h1 h2 ⊢;refine JQ (fun _=> ?_) (fun _=>hj _ ⟨_,_,_,rfl,h2⟩);refine JK (nx N hL h2 (1+r5) (by omega)) ?_;rintro ⟨r,d1⟩ ⟨h0,h1,h2⟩;exact hj _ ⟨_,_,_,rfl,h2⟩
 rintro _ ⟨a,b,w,rfl,hab⟩;dsimp only[U7];refine PY (P:=fun x=> ∃ a b s,x=(a,b,au,u,v,1+r5,w,s)/\KO L (a,b)) (fun j hj=> ?_) ?_
 .refine JK (nx N hL hab 3 (by omega)) ?_;rintro ⟨r,d1⟩ ⟨h0,h1,h2⟩;dsimp only at h0 h1 h2 ⊢;exact JQ (fun _=>hj _ ⟨_,_,_,rfl,h2⟩) (fun _=>hj _ ⟨_,_,_,rfl,h2⟩)
 clear hab a b;rintro _ ⟨a,b,s,rfl,hab⟩;dsimp only[U8];refine PY (P:=fun x=> ∃ a b p q r t y z,x=(a,b,au,u,v,1+r5,w,s,p,q,r,t,y,z)/\KO L (a,b)/\LZ q/\0<=y/\y<=510) (fun j hj=> ?_) ?_
 .have nil:LZ []:=fun g hg=>by cases hg
  refine JK (nx N hL hab 2 (by omega)) ?_;rintro ⟨r,d1⟩ ⟨h0,h1,h2⟩;dsimp only at h0 h1 h2 ⊢;refine JQ (fun _=> ?_) (fun _=>hj _ ⟨_,_,_,_,_,_,_,_,rfl,h2,nil,by omega,by omega⟩);refine JK (nx N hL h2 4 (by omega)) ?_;rintro ⟨r,d1⟩ ⟨h0,h1,h2⟩;dsimp only at h0 h1 h2 ⊢;refine JG (Di) (JG (Di) (JG (Di) ?_));have hr:0<=([0,2,64,510]:List Int).getD r.toNat 0/\([0,2,64,510]:List Int).getD r.toNat 0<=510:=Yw (P:=fun x:Int=>0<=x/\x<=510) (by decide) h0 h1;refine JK (nx N hL h2 2 (by omega)) ?_;rintro ⟨r',d1⟩ ⟨h0,h1,h2⟩;dsimp only at h0 h1 h2 ⊢;refine JK (nx N hL h2 4 (by omega)) ?_;rintro ⟨r'',d1⟩ ⟨h0,h1,h2⟩;dsimp only at h0 h1 h2 ⊢;refine JQ (fun _=>hj _ ⟨_,_,_,_,_,_,_,_,rfl,h2,nil,hr⟩) (fun _=>JQ (fun _=>hj _ ⟨_,_,_,_,_,_,_,_,rfl,h2,nil,hr⟩) (fun _=> ?_));refine JK (dZ N hN hL h2) ?_;rintro ⟨g1,d1⟩ ⟨i1,h2⟩;refine JK (dZ N hN hL h2) ?_;rintro ⟨g2,d1⟩ ⟨i2,h2⟩;refine JK (nx N hL h2 2 (by omega)) ?_;rintro ⟨r3,d1⟩ ⟨h0,h1,h2⟩;dsimp only at h0 h1 h2 i1 i2 ⊢;rw[w64 (x:=1+r3)];refine JG (Di) (JG (Di) (hj _ ⟨_,_,_,_,_,_,_,_,rfl,h2,fun g hg=> ?_,hr⟩));have hg:=F9 (FU hg);rcases D6.1 hg with rfl | hg
  .exact Apc i1
  .rw[DT.1 hg];exact Apc i2
 clear hab a b;rintro _ ⟨a,b,p,q,r,t,y,z,rfl,hab,hq,hy⟩;dsimp only[U14];refine PY (P:=fun x=> ∃ a b o,x=(a,b,au,u,v,1+r5,w,s,p,q,r,t,y,z,o)/\KO L (a,b)/\ ∀ p∈o,Nu p) (fun j hj=> ?_) ?_
 .obtain⟨⟨g,d1⟩,e1,h0,h1,h2⟩:=nx N hL hab 4 (by omega);rw[e1];simp only[Pn,PT,Og,Option.isSome_some,DR,Jv,Option.getD_some]
  have hd:KO L ((bif (w==(-1:Int))then d1.1 else a),(bif (w==(-1:Int))then d1.2 else b)):=by
   cases (w==(-1:Int))
   .exact hab
   .exact h2
  refine JQ (fun _=> ?_) (fun _=>hj _ ⟨_,_,_,rfl,hd,fun p hp=>by cases hp⟩);refine JK (Ani N hN hL hd) ?_;rintro ⟨g,d1⟩ ⟨h0,h2⟩;exact hj _ ⟨_,_,_,rfl,h2,h0.2⟩
 clear hab a b;rintro _ ⟨a,b,o,rfl,hab,ho⟩;dsimp only[U15];refine JK (nx N hL hab 6 (by omega)) ?_;clear hab a b;rintro ⟨g,a,b⟩ ⟨h0,h1,hab⟩;dsimp only at h0 h1 hab ⊢;refine PX (fun x=> ∃(t':Int) (a:List Int) (b:Int) (es:List Ent),x=(t',a,b,au,u,v,1+r5,w,s,p,q,r,t,y,z,o,es)/\0<=t'/\t'<6/\KO L (a,b)/\(es.length:Int)+t'<=6/\ ∀ e∈es,SH e.2.2.2.2) (fun x=>x.1.toNat) ?_ N _ ⟨_,_,_,_,rfl,h0,h1,hab,by simp;omega,fun e he=>by cases he⟩ (by dsimp only;omega);clear hab a b h0 h1;rintro _ ⟨t',a,b,es,rfl,g0,g1,hab,g3,g4⟩ k hk;dsimp only[U17];refine JQ (fun ht=> ?_) (fun _=> ?_)
 .have ht:=D9 ht;refine JK (nx N hL hab 9 (by omega)) ?_;rintro ⟨c1,d1⟩ ⟨h0,h1,h2⟩;dsimp only at h0 h1 h2 ⊢;rw[w64 (x:=1+c1)];refine JK (XY N hL h2) ?_;rintro ⟨c2,d2⟩ h3;dsimp only at h3 ⊢;refine JK (nx N hL h3 9 (by omega)) ?_;rintro ⟨c3,d3⟩ ⟨f0,f1,f2⟩;dsimp only at f0 f1 f2 ⊢;refine JG (Di) (JG (Di) (JG (Di) ?_));refine PY (P:=fun x=> ∃ a b c4,x=(a,b,au,u,v,1+r5,w,s,p,q,r,t,y,z,o,1+c1,c2,([0,1,2,3,4,5,6,9,10]:List Int).getD c3.toNat 0,c4,au,es)/\KO L (a,b)) (fun j hj=> ?_) ?_
  .refine JK (nx N hL f2 3 (by omega)) ?_;rintro ⟨g,d1⟩ ⟨h0,h1,h2⟩;dsimp only at h0 h1 h2 ⊢;refine JQ (fun _=> ?_) (fun _=>hj _ ⟨_,_,_,rfl,h2⟩);refine JK (XY N hL h2) ?_;rintro ⟨g,d1⟩ h3;exact hj _ ⟨_,_,_,rfl,h3⟩
  clear hab;rintro _ ⟨a,b,c4,rfl,hab⟩;dsimp only[U21];refine PY (P:=fun x=> ∃ a b c3,x=(a,b,au,u,v,1+r5,w,s,p,q,r,t,y,z,o,1+c1,c2,c3,c4,au,es)/\KO L (a,b)) (fun j hj=> ?_) ?_
  .obtain⟨⟨g,d1⟩,e1,h0,h1,h2⟩:=nx N hL hab 3 (by omega);rw[e1];simp only[Pn,PT,Og,Option.isSome_some,DR,Jv,Option.getD_some]
   have hd:KO L ((bif (w != (-1:Int))then d1.1 else a),(bif (w != (-1:Int))then d1.2 else b)):=by
    cases (w != (-1:Int))
    .exact hab
    .exact h2
   exact JQ (fun _=>hj _ ⟨_,_,_,rfl,hd⟩) (fun _=>hj _ ⟨_,_,_,rfl,hd⟩)
  clear hab;rintro _ ⟨a,b,c5,rfl,hab⟩;dsimp only[U21];refine PY (P:=fun x=> ∃ a b n,x=(a,b,au,u,v,1+r5,w,s,p,q,r,t,y,z,o,1+c1,c2,c5,c4,n,es)/\SH n/\KO L (a,b)) (fun j hj=> ?_) ?_
  .refine JQ (fun _=> ?_) (fun _=>hj _ ⟨_,_,_,rfl,hau,hab⟩);refine JK (nx N hL hab 16 (by omega)) ?_;rintro ⟨g,d1⟩ ⟨h0,h1,h2⟩;dsimp only at h0 h1 h2 ⊢;refine JK (Ad0 N hN h0 h1) ?_;intro n hn;exact hj _ ⟨_,_,_,rfl,hn,h2⟩
  clear hab;rintro _ ⟨a,b,n,rfl,hn,hab⟩;dsimp only[U21];rw[w64 (x:=t' - 1)];refine JK (AsE N hN (([]:Bs),([]:Bs),au,u,v,1+r5,w,s,p,q,r,t,y,z,o,es,([]:Bs)) n _ (by dsimp only;omega) g4 hn) fun f _=> ?_;refine JQ (fun _=> ?_) (fun _=>hk _ ⟨_,_,_,_,rfl,by omega,by omega,hab,by omega,g4⟩ (by dsimp only;omega));refine JG (Di) (hk _ ⟨_,_,_,_,rfl,by omega,by omega,hab,by rw[Dx];simp;omega,AcU g4 hn⟩ (by dsimp only;omega))
 .dsimp only[U16];exact Kr ⟨⟨hau,hq,by omega,ho,by omega,g4⟩,hab⟩
end
set_option linter.unusedSectionVars false
def ne_nil {s:Bs} (h:0<s.length):(s==([]:Bs))=false:=by cases s with | nil=>simp at h | cons a r=>rfl
def idP (N:Nat) (sd:Bs):Bs:=hS N [[73],sd]
def tJ (N:Nat) (sd:Bs):TrT:=([],sd,idP N sd,0)
def kR (N:Nat) (sd:Bs):Bs:=pkP N (idP N sd) sd 0
def YS (N:Nat) (sd:Bs):TrT:=([[kR N sd]],sd,idP N sd,0)
def AlS (N:Nat) (sd:Bs):SgT:=(sd,0,0,[tJ N sd])
def AlT (N:Nat) (sd:Bs):SgT:=(sd,0,1,[YS N sd])
def Aah (N:Nat) (sd:Bs):Int×Bs×Bs:=(0,idP N sd,kR N sd)
def Ac2 (N:Nat) (sd m:Bs):Bs:=hS N [[77],idP N sd,kR N sd,b4P 0,m]
def XR (N:Nat) (sd m:Bs):Bs:=b4P 0++l9 N (idP N sd) sd 0 (Ac2 N sd m)
section
variable {N:Nat} (h:Big N) {sd:Bs} (hs:sd.length=32)
include h hs
theorem id_eq:MM N [[73],sd]=some (idP N sd)/\(idP N sd).length=16:=Aen (hok h (by simp) (by simp [hs]))
theorem AnV:(kR N sd).length=16:=pk_len h (id_eq h hs).2 hs 0
theorem Amk:Uu N sd 0=some (.inl (tJ N sd,0)):=by
 unfold Uu;try simp -zeta only[Ap]
 rw[show((sd.length:Int) != 32)=false by rw[hs];rfl,cond_false,(id_eq h hs).1];rfl
theorem wJ (l:List (List Bs)) (k:Bs):LW N (l,sd,k,0)=some (1,(l,sd,k,0)):=by
 unfold LW Nj;try simp -zeta only[Ap]
 rw[Jr,ne_nil (by rw[hs];decide)];rfl
theorem Awg:XT N sd 0=some (.inl (AlS N sd,0)):=by
 have e:=wJ h hs [] (idP N sd);unfold XT AaA;try simp -zeta only[Ap]
 rw[Amk h hs,Ahi];unfold tJ;dsimp only;rw[e];rfl
theorem Axt:NI N (tJ N sd)=some (YS N sd):=by
 obtain⟨M,rfl⟩: ∃ M,N=M+10:=⟨N - 10,by have:=h.n;omega⟩
 unfold NI;try simp -zeta only[Ap]
 have e:=Aq4 h (id_eq h hs).2 hs (FH 0) (by omega:(0:Int)<256);unfold tJ;rw[Ls];dsimp only[U6];rw[e];rfl
theorem Axu:NI N (YS N sd)=some (YS N sd):=rfl
theorem Aq3 (t:TrT) (ht:NI N t=some (YS N sd)) (hv:t.2.1=sd):QY N t=some (Aah N sd,YS N sd):=by unfold QY Nj;rw[Jr,hv,ne_nil (by rw[hs];decide)];dsimp only;rw[DY,Eh,cond_false,ht];rfl
theorem AqY {m:Bs} (hm:m.length+64<N):QC N (Aah N sd) 0 m=some (Ac2 N sd m)/\(Ac2 N sd m).length=16:=by
 have hn:=h.n
 obtain⟨e1,e2⟩:=Aen (N:=N) (l:=[[77],idP N sd,kR N sd,b4P 0,m]) ⟨by omega,h.m,by simp;omega,fun s hs'=>by
  have i1:=(id_eq h hs).2;have i2:=AnV h hs;simp only[D6,Fv,Hl]at hs';rcases hs' with rfl | rfl | rfl | rfl | rfl
  .simp;omega
  .omega
  .omega
  .simp [b4P];omega
  .exact hm⟩
 refine⟨?_,e2⟩;unfold QC;rw[ArP,Jr];show Jq (MM N [[77],idP N sd,kR N sd,b4P 0,m]) _=_;rw[e1];rfl
theorem AsK {m:Bs} (hm:m.length+64<N) (l:List (List Bs)) (ht:NI N (l,sd,idP N sd,0)=some (YS N sd)):Tz N (l,sd,idP N sd,0) 0 m=some (XR N sd m,0,YS N sd):=by
 have hn:=h.n;have e1:=wJ h hs l (idP N sd);have e2:=Aq3 h hs (l,sd,idP N sd,0) ht rfl;obtain⟨e3,e4⟩:=AqY h hs hm;have e5:=Avg h (id_eq h hs).2 hs (FH 0) (by omega) e4;have hl:=sO h (id_eq h hs).2 hs 0 (Ac2 N sd m);unfold Tz Nj;try simp -zeta only[Ap]
 rw[Jr,ne_nil (by rw[hs];decide)];dsimp only;rw[e1];simp (decide:=true) only[DY,Eh,cond_false,cond_true,Option.isSome_some,DR,Ew,Jv,Option.getD_some,Int.lt_irrefl,Ia];rw[e2,Jr];dsimp only[YS];rw[ER,ER,Jv,Jv];refine(KY _ rfl).trans ?_;rw[e3,Jr,e5,Jr];dsimp only;rw[show((0:Int) != 0)=false from rfl,cond_false,ArP,Jr,KY _ (Di (by rw[hl];simp [b4P]))];obtain⟨M,rfl⟩: ∃ M,N=M+10:=⟨N - 10,by omega⟩
 rfl
theorem AsH {m:Bs} (hm:m.length+64<N):OZ N (AlS N sd) m=some (XR N sd m,0,AlT N sd):=by
 have e1:=wJ h hs [] (idP N sd);have e2:=AsK h hs hm [] (Axt h hs);unfold OZ UX NW;try simp -zeta only[Ap]
 dsimp only[AlS,tJ,Jr,List.headD_cons];rw[ne_nil (by rw[hs];decide),Fa,cond_false,cond_false,e1,Jr];dsimp only;rw[show(i64.wrap (1 - 0))=1 from rfl,Jr];dsimp only;rw[show((1:Int)==0)=false from rfl,cond_false,List.headD_cons,e2,Jr];rfl
theorem Avf:PK N (AlT N sd)=some (Aah N sd,AlT N sd):=by
 have e:=Aq3 h hs (YS N sd) (Axu h hs) rfl;unfold PK NW;try simp -zeta only[Ap]
 dsimp only[AlT,List.headD_cons];rw[ne_nil (by rw[hs];decide),Fa,Jr];dsimp only;rw[cond_false,List.headD_cons,e,Jr];dsimp only;rw[ER,ER,Jv,Jv];rfl
theorem Aom {m:Bs} (hm:m.length+64<N):Wl N (Aah N sd) m (XR N sd m)=some 0:=by
 have hn:=h.n;obtain⟨e3,e4⟩:=AqY h hs hm;have e5:=Aoo h (id_eq h hs).2 hs (FH 0) (by omega) e4;have hl:=sO h (id_eq h hs).2 hs 0 (Ac2 N sd m);have hk:=AnV h hs;have hi:=(id_eq h hs).2;have h4:(b4P 0).length=4:=rfl
 have hc:X6 N (Aah N sd)=some 0:=by
  unfold X6 Aah;try simp -zeta only[Ap]
  try dsimp only
  rw[show((List.length (idP N sd):Int) != 16)=false by rw[hi];rfl,show((List.length (kR N sd):Int) != 16)=false by rw[hk];rfl];rfl
 have hsl:(XR N sd m).length=564:=by unfold XR;rw[Dx,hl,h4]
 have c1:J6 (XR N sd m) 0 4=b4P 0:=by unfold J6 XR;rw[GH (by omega)];rfl
 have c2:J6 (XR N sd m) 4 564=l9 N (idP N sd) sd 0 (Ac2 N sd m):=by unfold J6;rw[Fb (by omega)];unfold XR;exact List.drop_left' h4
 have hf:YF N (XR N sd m)=some (0,true):=by
  unfold YF;try simp -zeta only[Ap]
  rw[c1,hsl];obtain⟨M,rfl⟩: ∃ M,N=M+10:=⟨N - 10,by omega⟩
  rfl
 unfold Wl;try simp -zeta only[Ap]
 rw[hc,Jr,show((0:Int) != 0)=false from rfl,cond_false,hsl,hf,Jr];dsimp only[Aah];rw[show((((564:Nat):Int)) != i64.wrap (564+i64.wrap (0*16)))=false from rfl,cond_false];refine(KY _ rfl).trans ?_;rw[Dn (by decide: ¬(0:Int)>=i64.wrap (1*2 ^ min (u64.wrap 0).toNat 64)),cond_false];have e3':QC N (0,idP N sd,kR N sd) 0 m=_:=e3;rw[e3',Jr];refine(KY _ rfl).trans ?_;rw[c2,e5,Jr];dsimp only;rw[show((0:Int) != 0)=false from rfl,cond_false];refine(KY _ rfl).trans ?_;obtain⟨M,rfl⟩: ∃ M,N=M+10:=⟨N - 10,by omega⟩
 rw[Ls];dsimp only[U6,U4];rw[Dn (by decide: ¬(0:Int)<0),cond_false];show(bif !(kR (M+10) sd==kR (M+10) sd)then _ else _)=_;rw[ER];rfl
end
def N0:Nat:=2097152
def AjP:Big N0:=⟨by decide,by decide⟩
def au0:List RnT:=(Kz N0 0).getD []
def Awp:Kz N0 0=some au0:=by kernel_rfl
def liA:LsT:=(([]:Bs),([]:Bs),au0,0,0,1,(-1),([]:Bs),false,([]:List GnT),false,false,0,false,([]:List PtT),([(7,0,6,(-1),au0)]:List EnT),([]:Bs))
def gV:Bs:=((WM N0 liA).getD default).1
def AvW:WM N0 liA=some (gV,0):=by kernel_rfl
def Au7:(decide (gV.length<=1000))=true:=by kernel_rfl
def sgF (f:Nat->UInt8):Bs:=(List.range 564).map f
def outA (f:Nat->UInt8):Bs:=((pV N0 gV (sgF f)).getD default).1
def AvF (f:Nat->UInt8):pV N0 gV (sgF f)=some (outA f,0):=by kernel_rfl
def Ac1 (f:Nat->UInt8):LsT:=((Xj N0 (outA f)).getD default).1
def Avs (f:Nat->UInt8):Xj N0 (outA f)=some (Ac1 f,0):=by kernel_rfl
def Ato (f:Nat->UInt8):(Ac1 f).2.1=gV:=by kernel_rfl
def Atp (f:Nat->UInt8):(Ac1 f).2.2.2.2.2.2.2.2.2.2.2.2.2.2.2.2=sgF f:=by kernel_rfl
def au8:List RnT:=(Kz N0 8).getD []
def Awq:Kz N0 8=some au8:=by kernel_rfl
def At5 (f:Nat->UInt8):EnT:=((dI N0 (Ac1 f) au8 7).getD default).1
def Av0 (f:Nat->UInt8):dI N0 (Ac1 f) au8 7=some (At5 f,true):=by kernel_rfl
def Aww (f:Nat->UInt8):(At5 f).2.2.1=6:=by kernel_rfl
def AxD:Uc N0 9=some 128:=by kernel_rfl
def sd1:Bs:=(Zj N0 1).getD []
def AwS:Zj N0 1=some sd1:=by kernel_rfl
def oI:sd1.length=32:=by kernel_rfl
def AwT {l:Bs} (h:l.length=564):sgF (fun i=>l.getD i 0)=l:=by
 unfold sgF;rw[<- h];apply List.ext_getElem
 .simp
 .intro i h1 h2;simp [Dj,h2]
def Auz {N:Nat} (h:Big N) {sd:Bs} (hs:sd.length=32) (m:Bs):(XR N sd m).length=564:=by unfold XR;rw[Dx,sO h (id_eq h hs).2 hs 0 (Ac2 N sd m)];rfl
def fA:Nat->UInt8:=fun i=>(XR N0 sd1 gV).getD i 0
def AuO:sgF fA=XR N0 sd1 gV:=AwT (Auz AjP oI gV)
def Aoi:gV.length+64<N0:=by have:=D9 Au7;show _<2097152;omega
attribute [irreducible] N0 au0 gV outA Ac1 au8 At5 sd1
def AsF:Za N0 liA (AlS N0 sd1)=some (outA fA,0,AlT N0 sd1):=by
 have e1:=AsH AjP oI Aoi;have e2:=AvF fA;rw[AuO]at e2;unfold Za;try simp -zeta only[Ap]
 rw[AvW,Jr];dsimp only;rw[show((0:Int) != 0)=false from rfl,cond_false];have e1':OZ N0 (sd1,0,0,[tJ N0 sd1]) gV=_:=e1;dsimp only[AlS,List.headD_cons];rw[e1',Jr];dsimp only;rw[show((0:Int) != 0)=false from rfl,cond_false,e2,Jr];rfl
def Aq6:Xk N0 (Ac1 fA) (Aah N0 sd1)=some 0:=by
 unfold Xk;try simp -zeta only[Ap]
 rw[Ato,Atp,AuO,Aom AjP oI Aoi];rfl
def AqF {N:Nat} {sd out:Bs} {au au':List RnT} {t0 t1:TrT} {dec:LsT} {fin:EnT} {k:Int×Bs×Bs} (h1:Zj N 1=some sd) (h2:XT N sd 0=some (.inl ((sd,0,0,[t0]),0))) (h3:Kz N 0=some au)
 (h4:Za N (([]:Bs),([]:Bs),au,0,0,1,(-1),([]:Bs),false,([]:List GnT),false,false,0,false,([]:List PtT),([(7,0,6,(-1),au)]:List EnT),([]:Bs)) (sd,0,0,[t0])=some (out,0,(sd,0,1,[t1])))
 (h5:Xj N out=some (dec,0)) (h6:Kz N 8=some au') (h7:dI N dec au' 7=some (fin,true)) (h8:PK N (sd,0,1,[t1])=some (k,(sd,0,1,[t1]))) (h9:Xk N dec k=some 0) (h10:fin.2.2.1=6) (h11:Uc N 9=some 128):RQ N=some true:=by
 unfold RQ;try simp -zeta only[Ap]
 rw[h1,Jr,h2,Ahi];dsimp only;simp (decide:=true) only[cond_true,cond_false,Jv,Eh,DY,Ew,DR,Jn];rw[h3,Jr,Jr];dsimp only[List.headD_cons];rw[h4,Jr];dsimp only;rw[h5,Jr,h6,Jr];dsimp only;rw[h7,Jr];dsimp only[List.headD_cons];simp (decide:=true) only[cond_true,cond_false,Jv,Yq,ER];rw[h8,Jr];dsimp only;rw[h9,Jr,h10,h11];rfl
def AsW:RQ N0=some true:=AqF AwS (Awg AjP oI) Awp AsF (Avs fA) Awq (Av0 fA) (Avf AjP oI) Aq6 (Aww fA) AxD
def Afh {l:List Ent} {i:Nat} {x:Ent} (h: ∀ e∈l,SH e.2.2.2.2) (hx:SH x.2.2.2.2): ∀ e∈l.set i x,SH e.2.2.2.2:=by
 intro e he;rcases GZ he with he | rfl
 .exact h e he
 .exact hx
def Aox {l:List Ent} {i:Nat} (h: ∀ e∈l,SH e.2.2.2.2) (hi:i<l.length):SH (l.getD i (0,0,0,0,([]:List Yq0))).2.2.2.2:=h _ (getD_mem _ hi)
section
variable (N:Nat) (hN:1048578<N) {L:List Int} (hL:L.length<=9223372036854775807)
include hN hL in
theorem AhT {d:List Int×Int} (hd:KO L d) {raw:Lst} (hr:LiG 20 raw):Ends (fun r=>LiG 1000 r.1/\KO L r.2) (Wh N d raw):=by
 unfold Wh;try simp -zeta only[Ap]
 obtain⟨raw,tb,au,th,ne,nu,ba,ak,hs,gs,ou,oc,rs,nd,fr,en,sg⟩:=raw;have R:LiP 20 au gs rs fr en:=hr;refine JK (Apz N hN hL hd) ?_;rintro ⟨⟨raw',tb',au',th',ne',nu',ba',ak',hs',gs',ou',oc',rs',nd',fr',en',sg'⟩,d1⟩ ⟨M,hd⟩;have M:LiP 6 au' gs' rs' fr' en':=M;have M5:=M.g5;have R5:=R.g5;dsimp only at hd ⊢;refine PY (P:=fun x=> ∃ t a b,x=(t,a,b,raw,tb,au,th,ne,nu,ba,ak,hs,gs,ou,oc,rs,nd,fr,en,sg,raw',tb',au',th',ne',nu',ba',ak',hs',gs',ou',oc',rs',nd',fr',sg',en')/\KO L (a,b)/\0<=t/\(0<(en'.length:Int)->t<(en'.length:Int))) (fun j hj=> ?_) ?_
 .refine JQ (fun h=> ?_) (fun h=>hj _ ⟨_,_,_,rfl,hd,by omega,fun h0=>by have:=Et h;omega⟩);have h:=D9 h;refine JK (nx N hL hd (en'.length:Int) (by omega)) ?_;rintro ⟨r,d1⟩ ⟨h0,h1,h2⟩;exact hj _ ⟨_,_,_,rfl,h2,h0,fun _=>h1⟩
 clear hd;rintro _ ⟨t,a,b,rfl,hd,t0,t1⟩;dsimp only[U37];refine JK (nx N hL hd 22 (by omega)) ?_;clear hd;rintro ⟨r,d1⟩ ⟨_,_,hd⟩;dsimp only at hd ⊢;have S:=M.g6;have ok: ∀ {au gs rs fr en},SH au->LZ gs->(-9223372036854775808<=rs/\rs<=9223372036854775807)->(∀ p∈fr,Nu p)->en.length<=1000->(∀ e∈en,SH e.2.2.2.2)->LiP 1000 au gs rs fr en:=fun a b c d e f=>⟨a,b,c,d,e,f⟩
 have M':LiP 1000 au' gs' rs' fr' en':=ok M.g1 M.g2 M.g3 M.g4 (by omega) M.g6;have bd: ∀ {l:List Ent},l.length<=1000->(l.length+1)*57<=140737488355328:=fun h=>by omega
 refine JQ (fun _=>Kr ⟨ok R.g1 M.g2 M.g3 M.g4 (by omega) M.g6,hd⟩) (fun _=> ?_);refine JQ (fun _=>Kr ⟨M',hd⟩) (fun _=> ?_);refine JQ (fun _=>Kr ⟨M',hd⟩) (fun _=> ?_);refine JQ (fun _=>Kr ⟨M',hd⟩) (fun _=> ?_);refine JQ (fun _=>Kr ⟨M',hd⟩) (fun _=> ?_);refine JQ (fun _=> ?_) (fun _=> ?_)
 .refine JK (nx N hL hd 3 (by omega)) ?_;rintro ⟨q,d1⟩ ⟨q0,q1,hd⟩;exact Kr ⟨M',hd⟩
 refine JQ (fun _=>Kr ⟨M',hd⟩) (fun _=> ?_);refine JQ (fun _=>Kr ⟨ok M.g1 R.g2 R.g3 M.g4 (by omega) M.g6,hd⟩) (fun _=> ?_);refine JQ (fun _=> ?_) (fun _=> ?_)
 .refine JK (nx N hL hd 2 (by omega)) ?_;rintro ⟨q,d1⟩ ⟨q0,q1,hd⟩;exact Kr ⟨M',hd⟩
 refine JQ (fun _=> ?_) (fun _=> ?_)
 .refine JK (nx N hL hd 1100 (by omega)) ?_;rintro ⟨q,d1⟩ ⟨q0,q1,hd⟩;dsimp only at q0 q1 ⊢;rw[w64 (x:=q - 20)];exact Kr ⟨ok M.g1 M.g2 (by omega) M.g4 (by omega) M.g6,hd⟩
 refine JQ (fun _=>Kr ⟨ok M.g1 M.g2 M.g3 R.g4 (by omega) M.g6,hd⟩) (fun _=> ?_);refine JQ (fun _=>JG (Di) (Kr ⟨ok M.g1 M.g2 M.g3 M.g4 (by rw[Dx];omega) (fun e he=> ?_),hd⟩)) (fun _=> ?_)
 .rcases DJ.1 he with he | he
  .exact M.g6 e he
  .exact R.g6 e he
 refine JQ (fun _=>JQ (fun h=> ?_) (fun _=>Kr ⟨M',hd⟩)) (fun _=> ?_)
 .have h:=D9 h;have t1:=t1 h;have hti:t.toNat<en'.length:=by omega
  refine JG (Di t0) (JG (Di t1) (JG (Di hti) (JG (Di) (Kr ⟨ok M.g1 M.g2 M.g3 M.g4 (by rw[Dx];simp;omega) (AcU M.g6 (M.g6 _ (getD_mem _ hti))),hd⟩))))
 refine JQ (fun _=>JQ (fun h=> ?_) (fun _=>Kr ⟨M',hd⟩)) (fun _=> ?_)
 .have h:=D9 h;have t1:=t1 h;have hti:t.toNat<en'.length:=by omega
  refine JK (nx N hL hd 13 (by omega)) ?_;rintro ⟨q,d1⟩ ⟨q0,q1,hd⟩;refine JG (Di t0) (JG (Di t1) (JG (Di hti) (JG (Di hti) (Kr ⟨ok M.g1 M.g2 M.g3 M.g4 (by rw[EP];omega) (Afh M.g6 (Aox M.g6 hti)),hd⟩))))
 refine JQ (fun _=>JQ (fun h=> ?_) (fun _=>Kr ⟨M',hd⟩)) (fun _=> ?_)
 .have h:=D9 h;have t1:=t1 h;have hti:t.toNat<en'.length:=by omega
  refine JK (ApA N (by omega) hL hd) ?_;rintro ⟨q,d1⟩ ⟨hq,hd⟩;refine JG (Di t0) (JG (Di t1) (JG (Di hti) (JG (Di hti) (Kr ⟨ok M.g1 M.g2 M.g3 M.g4 (by rw[EP];omega) (Afh M.g6 (Aw9 hq)),hd⟩))))
 refine JQ (fun _=>JQ (fun h=> ?_) (fun _=>Kr ⟨M',hd⟩)) (fun _=> ?_)
 .have h:=D9 h;have t1:=t1 h;have hti:t.toNat<en'.length:=by omega
  refine JK (nx N hL hd 4 (by omega)) ?_;rintro ⟨q,d1⟩ ⟨q0,q1,hd⟩;refine JK (XY N hL hd) ?_;rintro ⟨q',d1⟩ hd;refine JK (nx N hL hd 2 (by omega)) ?_;rintro ⟨q'',d1⟩ ⟨q0,q1,hd⟩;have hs1:=fun x:Ent=>Afh (i:=t.toNat) (x:=x) M.g6;have hs2:=hs1 _ (show SH ((en'.getD t.toNat (0,0,0,0,([]:List Yq0))).1,(en'.getD t.toNat (0,0,0,0,([]:List Yq0))).2.1,(en'.getD t.toNat (0,0,0,0,([]:List Yq0))).2.2.1,i64.wrap (q - (2:Int)),(en'.getD t.toNat (0,0,0,0,([]:List Yq0))).2.2.2.2).2.2.2.2 from Aox M.g6 hti);refine JG (Di t0) (JG (Di t1) (JG (Di hti) (JG (Di hti) ?_)));refine JG (Di t0) (JG (Di (by rw[EP];exact t1)) (JG (Di (by rw[EP];exact hti)) (JG (Di (by rw[EP];exact hti)) ?_)));exact Kr ⟨ok M.g1 M.g2 M.g3 M.g4 (by rw[EP,EP];omega) (Afh hs2 (Aox hs2 (by rw[EP];exact hti))),hd⟩
 refine JQ (fun _=> ?_) (fun _=>Kr ⟨M',hd⟩);refine JK (nx N hL hd 5 (by omega)) ?_;rintro ⟨q,d1⟩ ⟨q0,q1,hd⟩;dsimp only at q0 q1 hd ⊢;rw[w64 (x:=30+q)];refine JG (Di (FH _)) (JG (Di) (JG (Di) (JG ?_ (Kr ⟨M',hd⟩))));rw[DD];intro x hx;rw[FQ hx];rfl
end
section
variable (N:Nat) (hN:1048578<N)
include hN
theorem Aj8 (x:Lst): ∃ b,Vz N x=some b/\(b=true->MC x.2.2.1=true/\QH x.2.2.2.2.2.2.2.2.2.1=true/\sN x.2.2.2.2.2.2.2.2.2.2.2.2.2.2.1=true/\x.2.2.2.2.2.2.2.2.2.2.2.2.2.2.2.1.length<=20/\ ∀ e∈x.2.2.2.2.2.2.2.2.2.2.2.2.2.2.2.1,MC e.2.2.2.2=true):=by
 obtain⟨raw,tb,au,th,ne,nu,ba,ak,hs,gs,ou,oc,rs,nd,fr,en,sg⟩:=x;unfold Vz;try simp -zeta only[Ap]
 try dsimp only
 rw[Xe N au (by omega),tX N gs (by omega),Afy N fr (by omega),Jr];simp only[Yq,Option.isSome_some,Option.getD_some,DR,Ew,GV,GL,G8,Gt,Jv];cases hq:((((!MC au||decide ((ak.length:Int)>100))|| !QH gs)|| !sN fr)||decide ((en.length:Int)>20))with
 | true=>exact⟨false,rfl,fun h=>by cases h⟩
 | false =>
  simp only[Gv,Jh,Ec]at hq;obtain⟨⟨⟨⟨h1,h2⟩,h3⟩,h4⟩,h5⟩:=hq;refine⟨!en.any fun e=> !MC e.2.2.2.2,?_,fun hb=>⟨h1,h3,h4,by omega,fun e he=> ?_⟩⟩
  .rw[cond_false];refine(bV (mk:=fun i=>(i:Int)) en (0,0,0,0,[]) (fun e=> !MC e.2.2.2.2) (some false) (some true) ?_ ?_ N).trans ?_
   .intro i hi k;dsimp only;rw[Di,cond_true,Di,Jv,Jv,Int.toNat_natCast,Xe N _ (by omega),Jr,w64];rfl
   .intro k;dsimp only;rw[Ay8,cond_false]
   .cases en.any fun e=> !MC e.2.2.2.2<;>rfl
  .have:=Fe.1 (by simpa using hb:(en.any fun e=> !MC e.2.2.2.2)=false) e he;simpa using this
theorem AwU {x:Lst} (h:MC x.2.2.1=true/\QH x.2.2.2.2.2.2.2.2.2.1=true/\sN x.2.2.2.2.2.2.2.2.2.2.2.2.2.2.1=true/\x.2.2.2.2.2.2.2.2.2.2.2.2.2.2.2.1.length<=20/\ ∀ e∈x.2.2.2.2.2.2.2.2.2.2.2.2.2.2.2.1,MC e.2.2.2.2=true)
 (hr: -9223372036854775808<=x.2.2.2.2.2.2.2.2.2.2.2.2.1/\x.2.2.2.2.2.2.2.2.2.2.2.2.1<=9223372036854775807) (hp: ∀ p∈x.2.2.2.2.2.2.2.2.2.2.2.2.2.2.1,-9223372036854775808<=p.2.1/\p.2.1<=9223372036854775807):LiG 20 x:=by
 obtain⟨raw,tb,au,th,ne,nu,ba,ak,hs,gs,ou,oc,rs,nd,fr,en,sg⟩:=x;obtain⟨h1,h2,h3,h4,h5⟩:=h;exact⟨Ado h1,(Afi h2).2.2,hr,fun p hq=>⟨(Afi ((AlU h3).2 p hq).1).2.2,rJ (Ado ((AlU h3).2 p hq).2),hp p hq⟩,h4,fun e he=>Ado (h5 e he)⟩
theorem Avp (haw:RQ N=some true) (p0:Lst) (p1:List Int) (hL:p1.length<=9223372036854775807) (hr: -9223372036854775808<=p0.2.2.2.2.2.2.2.2.2.2.2.2.1/\p0.2.2.2.2.2.2.2.2.2.2.2.2.1<=9223372036854775807) (hp: ∀ p∈p0.2.2.2.2.2.2.2.2.2.2.2.2.2.2.1,-9223372036854775808<=p.2.1/\p.2.1<=9223372036854775807):SC N p0 p1=some true:=by
 refine(fun h=>by obtain⟨w,h1,rfl⟩:=h;exact h1:Ends (fun r=>r=true) (SC N p0 p1)->_) ?_;unfold SC;try simp -zeta only[Ap]
 obtain⟨b,hb,hsh⟩:=Aj8 N hN p0;rw[hb,Jr];cases b with
 | false=>rw[show(!false)=true from rfl,cond_true,haw,Jr];exact Kr rfl
 | true =>
  have hR:LiG 20 p0:=AwU N hN (hsh rfl) hr hp;rw[show(!true)=false from rfl,cond_false,show AcM N p1=some (p1,0)from rfl,Jr];refine JK (AhT N hN hL (d:=(p1,0)) ⟨0,rfl,EG _⟩ hR) ?_;rintro ⟨c,d⟩ ⟨hc,hd⟩;dsimp only at hc hd ⊢
  have hall: ∀ y∈ [p0,c],SmL N y/\(-9223372036854775808<=y.2.2.2.2.2.2.2.2.2.2.2.2.1/\y.2.2.2.2.2.2.2.2.2.2.2.2.1<=9223372036854775807):=by
   intro y hy;simp only[D6,Fv,Hl]at hy;rcases hy with rfl | rfl
   .exact⟨hR.sm hN,hR.rs⟩
   .exact⟨hc.sm hN,hc.rs⟩
  have hlen: [p0,c].length=2:=rfl;clear hR hc hd hsh hb;generalize [p0,c]=A at hall hlen ⊢;refine PX (fun(x:Int×List Lst)=>0<=x.1/\x.1<=2/\x.2=A) (fun x=>(2 - x.1).toNat) ?_ N _ ⟨by dsimp only;omega,by dsimp only;omega,rfl⟩ (by dsimp only;omega);rintro ⟨t,B⟩ ⟨g0,g1,rfl⟩ k hk;dsimp only at g0 g1 hk hall hlen;dsimp only[U2];refine JQ (fun ht=> ?_) (fun _=>by rw[haw,Jr];exact Kr rfl);have ht:t<2:=D9 ht;have hti:t.toNat<B.length:=by rw[hlen];omega
  refine JG (Di g0) (JG (Di (by rw[hlen];omega)) (JG (Di hti) ?_));have hy:=hall _ (getD_mem (([]:Bs),([]:Bs),([]:List Yq0),0,0,0,0,([]:Bs),false,([]:List Yq1),false,false,0,false,([]:List Yq2),([]:List Yq3),([]:Bs)) hti);generalize B.getD t.toNat (([]:Bs),([]:Bs),([]:List Yq0),0,0,0,0,([]:Bs),false,([]:List Yq1),false,false,0,false,([]:List Yq2),([]:List Yq3),([]:Bs))=y at hy ⊢;obtain⟨hy,hyr⟩:=hy;rw[Awl N hN y hy hyr,Jr,Acr N hN y hy hyr,Jr,xG N hN y hy,Jr,wH N hN y hy,Jr,w64 (x:=t+1)];generalize AlZ N y=T;generalize fB y=I;simp only[Yq,Jn,ER,Eh,DY,Ew,DR,cond_true,cond_false,Jv,GL,Option.isSome_some,Option.getD_some];exact hk _ ⟨by dsimp only;omega,by dsimp only;omega,rfl⟩ (by dsimp only;omega)
end
def Amw (p0:Lst) (p1:List Int) (hL:p1.length<=9223372036854775807) (hr: -9223372036854775808<=p0.2.2.2.2.2.2.2.2.2.2.2.2.1/\p0.2.2.2.2.2.2.2.2.2.2.2.2.1<=9223372036854775807) (hp: ∀ p∈p0.2.2.2.2.2.2.2.2.2.2.2.2.2.2.1,-9223372036854775808<=p.2.1/\p.2.1<=9223372036854775807):SC 2097152 p0 p1=some true:=by have h:=AsW;unfold N0 at h;exact Avp 2097152 (by omega) h p0 p1 hL hr hp
end Go.Proofs.YtehkhflpjkokeaaGreatDoor.Pl
namespace Go.Proofs.YtehkhflpjkokeaaGreatDoor.Vm
open Go.RowKit
def Moves.below {T:Nat->Prop} {w w':World} (h:Moves (fun _ _=>none) T w w'):Below w.heap.size w w' :=
 ⟨h.os,h.tape,h.output,h.size,fun b hb=>by
   rcases h.blk b hb with e | ⟨c,c',e,fr,_,_,_,_,k,o,_,ho,_⟩ | ⟨_,_,_,_,o,_,_,ho,_⟩
   .exact e
   .cases ho
   .cases ho⟩
def Sig.AxF {Js JA:List Sh} {f:ShT Js->Option (ShT (L8 Js JA))} {xs:List A} {a:ShT Js} {o:ShT (L8 Js JA)} (hd:Yi Js xs=some a) (hf:f a=some o):(Sig.of Js JA f).F xs=some (encs (L8 Js JA) o):=by unfold Sig.F Sig.of;dsimp only;rw[hd];dsimp only;rw[hf];rfl
def ArE {P:Program} {f:FuncId} {sg:Sig} (h:Spec P f sg) {xs:List A} {vs:Array Value} {W:World} (hF:sg.F xs=some [.bool true]) (hress:sg.JA=[.cell false .bool]) (hv:vs.size=xs.length) (hl:xs.length=sg.Js.length) (h100:xs.length<=100)
 (hx: ∀ j,j<xs.length->IR (fun _ _=>none) W (256*j) (vs.getD j undef) (xs.getD j .undef)) (hI:Inv (fun _ _=>none) W):Calls P f vs W fun e w'=>e= .returned (.bool true)/\Below W.heap.size W w':=by
 refine(h.2 (fun _ _=>none) W vs xs _ hI hv hl h100 hx hF).mono fun e w' hq=> ?_;obtain⟨v,O',he,hc⟩:=hq;obtain⟨us,h1,h2,h3⟩:=hc.res;rw[hress]at h1;have h1':us.size=1:=h1;have h4:J3 O' w' (us.getD 0 undef) (.bool true):=h3 0 (by omega);have h5:us.getD 0 undef= .bool true:=by generalize us.getD 0 undef=z at h4;cases h4;rfl
 have h6:v= .bool true:=by rw[h2,Io h1',<- h5];simp [Dq,h1']
 exact⟨by rw[he,h6],hc.moves.below⟩
end Go.Proofs.YtehkhflpjkokeaaGreatDoor.Vm
