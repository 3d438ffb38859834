import Derived.Test.YtbnphelpndnnfaaGreatDoorA21
import Derived.ChangeArms
import Derived.SliceStrings
import Derived.Test.YtbnphelpndnnfaaGreatDoorRows
import Derived.Test.YtbnphelpndnnfaaGreatDoorChecked
import Derived.Lib.LaidU8
import Derived.Shelf.Vars
import Derived.HandedShaped
import Derived.LaidLaws
set_option linter.all false
namespace Go.Proofs.YtbnphelpndnnfaaGreatDoor.Pl
open IntKind (i64)
open Go Vm
def N0:Nat:=2097152
theorem mY:Big N0:=⟨by decide,by decide⟩
def au0:List RnT:=(Dx N0 0).getD []
theorem Acn:Dx N0 0=some au0:=by kernel_rfl
def liA:LsT:=(([]:Bs),([]:Bs),au0,0,0,1,(-1),([]:Bs),false,([]:List GnT),false,false,0,false,([]:List PtT),([(7,0,6,(-1),au0)]:List EnT),([]:Bs))
def QV:Bs:=((NM N0 liA).getD default).1
theorem AbX:NM N0 liA=some (QV,0):=by kernel_rfl
theorem AaU:(decide (QV.length<=1000))=true:=by kernel_rfl
def sgF (f:Nat->UInt8):Bs:=(List.range 564).map f
def outA (f:Nat->UInt8):Bs:=((NL N0 QV (sgF f)).getD default).1
theorem AbQ (f:Nat->UInt8):NL N0 QV (sgF f)=some (outA f,0):=by kernel_rfl
def Zb (f:Nat->UInt8):LsT:=((Gq N0 (outA f)).getD default).1
theorem Abz (f:Nat->UInt8):Gq N0 (outA f)=some (Zb f,0):=by kernel_rfl
theorem Aah (f:Nat->UInt8):(Zb f).2.1=QV:=by kernel_rfl
theorem Aai (f:Nat->UInt8):(Zb f).2.2.2.2.2.2.2.2.2.2.2.2.2.2.2.2=sgF f:=by kernel_rfl
def au8:List RnT:=(Dx N0 8).getD []
theorem Aco:Dx N0 8=some au8:=by kernel_rfl
def finA (f:Nat->UInt8):EnT:=((Qr N0 (Zb f) au8 7).getD default).1
theorem Ab4 (f:Nat->UInt8):Qr N0 (Zb f) au8 7=some (finA f,true):=by kernel_rfl
theorem Acw (f:Nat->UInt8):(finA f).2.2.1=6:=by kernel_rfl
theorem Ad2:JP N0 9=some 128:=by kernel_rfl
def sd1:Bs:=(G5 N0 1).getD []
theorem AcJ:G5 N0 1=some sd1:=by kernel_rfl
theorem UK:sd1.length=32:=by kernel_rfl
theorem AcL {l:Bs} (h:l.length=564):sgF (fun i=>l.getD i 0)=l:=by
  unfold sgF
  rw[<- h]
  apply List.ext_getElem
  ·simp
  ·intro i h1 h2
   simp [List.getD_eq_getElem?_getD,h2]
theorem AaQ {N:Nat} (h:Big N) {sd:Bs} (hs:sd.length=32) (m:Bs):(Nv N sd m).length=564:=by
  unfold Nv
  rw[List.length_append,Lr h (id_eq h hs).2 hs 0 (Zc N sd m)];rfl
def fA:Nat->UInt8:=fun i=>(Nv N0 sd1 QV).getD i 0
theorem Abj:sgF fA=Nv N0 sd1 QV:=AcL (AaQ mY UK QV)
theorem tV:QV.length+64<N0:=by have:=of_decide_eq_true AaU;show _<2097152;omega
attribute [irreducible] N0 au0 QV outA Zb au8 finA sd1
theorem zS:Ht N0 liA (pI N0 sd1)=some (outA fA,0,pJ N0 sd1):=by
  have e1:=zV mY UK tV
  have e2:=AbQ fA
  rw[Abj]at e2
  unfold Ht
  rw[AbX,CW]
  dsimp only
  rw[show((0:Int) != 0)=false from rfl,cond_false]
  have e1':Ec N0 (sd1,0,0,[VG N0 sd1]) QV=_:=e1
  dsimp only[pI,List.headD_cons]
  rw[e1',CW]
  dsimp only
  rw[show((0:Int) != 0)=false from rfl,cond_false,e2,CW]
  rfl
theorem xH:Gs N0 (Zb fA) (X7 N0 sd1)=some 0:=by
  unfold Gs
  rw[Aah,Aai,Abj,uD mY UK tV]
  rfl
theorem xJ {N:Nat} {sd out:Bs} {au au':List RnT} {t0 t1:TrT} {dec:LsT} {fin:EnT} {k:Int×Bs×Bs} (h1:G5 N 1=some sd) (h2:Gv N sd 0=some (.inl ((sd,0,0,[t0]),0))) (h3:Dx N 0=some au)
    (h4:Ht N (([]:Bs),([]:Bs),au,0,0,1,(-1),([]:Bs),false,([]:List GnT),false,false,0,false,([]:List PtT),([(7,0,6,(-1),au)]:List EnT),([]:Bs)) (sd,0,0,[t0])=some (out,0,(sd,0,1,[t1])))
    (h5:Gq N out=some (dec,0)) (h6:Dx N 8=some au') (h7:Qr N dec au' 7=some (fin,true)) (h8:DV N (sd,0,1,[t1])=some (k,(sd,0,1,[t1]))) (h9:Gs N dec k=some 0) (h10:fin.2.2.1=6) (h11:JP N 9=some 128):FN N=some true:=by
  unfold FN;try simp -zeta only[Ap]
  rw[h1,CW,h2,callE_inl]
  dsimp only
  simp (decide:=true) only[cond_true,cond_false,DY,Bool.not_true,Bool.not_false,Bool.or_true,Bool.true_or,bne_self_eq_false]
  rw[h3,CW,CW]
  dsimp only[List.headD_cons]
  rw[h4,CW]
  dsimp only
  rw[h5,CW,h6,CW]
  dsimp only
  rw[h7,CW]
  dsimp only[List.headD_cons]
  simp (decide:=true) only[cond_true,cond_false,DY,letB_eq,beq_self_eq_true]
  rw[h8,CW]
  dsimp only
  rw[h9,CW,h10,h11]
  rfl
theorem Aab:FN N0=some true:=xJ AcJ (Aca mY UK) Acn zS (Abz fA) Aco (Ab4 fA) (Abr mY UK) xH (Acw fA) Ad2
theorem zA {T Y ρ :Type} {B:(Int×T)->((Int×T)->Option ρ)->(Y->Option ρ)->Option ρ} {kx:Y->Option ρ} (c:T) (n:Nat) (fin:Option ρ)
    (h: ∀ i:Nat,i<n-> ∀ k,B ((i:Int),c) k kx=k (((i+1:Nat):Int),c)) (hend: ∀ k,B ((n:Int),c) k kx=fin) (N:Nat) (hN:n<N):iterG B N (0,c) kx=fin :=
  Ew (fun i=>((i:Int),c)) n fin h hend N hN
theorem Aav {N:Nat} (hN:1048578<N) {x:Li} (h:OkL x) (raw tbs sig raw' tbs' sig':Bs):DD N (x.y raw tbs sig) ((liK x).y raw' tbs' sig')=some true:=by
  have h1:=mM hN h.k
  have h2:Eb N x.s.1 (x.s.1.map gnK)=some true:=by
    have hs:x.s.1.length<=1048576/\ ∀ g∈x.s.1,okG g:=by
      rcases h.sc with ⟨_,e⟩ | ⟨_,S⟩
      ·rw[e];exact⟨Nat.zero_le _,fun g hg=>by cases hg⟩
      ·exact⟨by have:=S.ns.1;omega,S.ns.2⟩
    exact TQ hN hs.1 hs.2
  have h3:FK N x.fr (x.fr.map ptK)=some true:=by
    have hs:x.fr.length<=1048576/\ ∀ p∈x.fr,okP p:=by
      rcases h.fr with e | ⟨_,S⟩
      ·rw[e];exact⟨Nat.zero_le _,fun g hg=>by cases hg⟩
      ·exact⟨by have:=S.len;omega,S.all⟩
    exact mO hN hs.1 hs.2
  have hl1:(x.es.map enY).length=x.es.length:=List.length_map _
  have hl2:((esK x).map enY).length=x.es.length:=by rw[List.length_map,Qi]
  have h5:=h.len
  unfold DD Li.y liK scK;try simp -zeta only[Ap]
  try dsimp only
  rw[h1,CW]
  simp only[h2,h3,hl1,hl2,letB_eq,Option.isSome_some,Option.getD_some,bne_self_eq_false,beq_self_eq_true,Bool.not_true,Bool.not_false,Bool.true_or,Bool.or_true,Bool.false_or,cond_true,cond_false,DY]
  refine zA _ x.es.length (some true) ?_ ?_ N (by omega)
  ·intro i hi k
   have e1:=Ut enY x.es zE zY hi
   have e2:((esK x).map enY).getD i zY=enY (GY x i):=by rw[Ut enY (esK x) zE zY (by rw[Qi];exact hi),Xe hi]
   have hm:EH N (aut (x.es.getD i zE).k) (aut (GY x i).k)=some true:=by
     refine((G9 hN (h.all _ (getD_mem zE hi)).k).rmt (GY x i).k (lY h (i+1) (by omega)).2).trans ?_
     rw[XP h hi,beq_self_eq_true]
   unfold zY at e1 e2
   dsimp only[U35]
   have f1:(enY (GY x i)).1=(enY (x.es.getD i zE)).1:=by rw[Aam,Aam];dsimp only[GY]
   have f2:(enY (GY x i)).2.1=(enY (x.es.getD i zE)).2.1:=by rw[Aan,Aan];dsimp only[GY]
   have f3:(enY (GY x i)).2.2.1=(enY (x.es.getD i zE)).2.2.1:=by rw[Aao,Aao];dsimp only[GY]
   have f4:(enY (GY x i)).2.2.2.1=(enY (x.es.getD i zE)).2.2.2.1:=by rw[Aap,Aap];dsimp only[GY]
   rw[<- Aaq,<- Aaq]at hm
   rw[Int.toNat_natCast,e1,e2,f1,f2,f3,f4,hm]
   generalize enY (x.es.getD i zE)=E1
   simp (disch:=first | assumption | omega) only[Dj,hl1,hl2,Option.isSome_some,Option.getD_some,bne_self_eq_false,beq_self_eq_true,Bool.not_true,Bool.not_false,Bool.true_or,Bool.or_true,D7]
  ·intro k
   dsimp only[U35]
   rw[XM (by omega),cond_false]
theorem xK {N:Nat} {k:Int} {L:List Int} {X Y:Ly} {d dd:List Int×Int} {sd out:Bs} {t0 t1:TrT} {key:Int×Bs×Bs}
    (h0:Zo N L=some d) (h1:OE N d=some (X,dd)) (h2:G5 N (i64.wrap k)=some sd) (h3:Gv N sd 1=some (.inl ((sd,1,0,[t0]),0)))
    (h4:Ht N X (sd,1,0,[t0])=some (out,0,(sd,1,1,[t1]))) (h5:Gq N out=some (Y,0)) (h6:DD N X Y=some true) (h7:Y.1=out)
    (h8:DV N (sd,1,1,[t1])=some (key,(sd,1,1,[t1]))) (h9:Gs N Y key=some 0) (haw:FN N=some true):Gi N k L=some true:=by
  unfold Gi;try simp -zeta only[Ap]
  rw[h0,CW,h1,CW,h2,CW,h3,callE_inl]
  dsimp only[List.headD_cons]
  simp (decide:=true) only[cond_true,cond_false,DY,Bool.not_true,Bool.not_false,Bool.or_true,Bool.true_or,bne_self_eq_false]
  rw[h4,CW]
  dsimp only[List.headD_cons]
  rw[h5,CW]
  dsimp only
  rw[haw,h6,h7]
  simp only[Option.getD_some,Option.isSome_some,beq_self_eq_true,cond_true,CW,letB_eq,DY,Bool.true_or,Bool.or_true,Bool.not_true,Bool.or_false]
  rw[h8,CW]
  dsimp only
  rw[h9,CW]
  rfl
theorem Aac {N:Nat} (hN:1048578<N) (hb:Big N) (haw:FN N=some true) (k:Int) (L:List Int) (hL:L.length<=9223372036854775807):Gi N k L=some true:=by
  obtain⟨⟨X,d⟩,e1,⟨x,h,hX⟩,_⟩:=AbK N hN hL (d:=(L,0)) ⟨0,rfl,Nat.zero_le _⟩
  dsimp only at hX
  obtain⟨M,hM⟩:=ofM hN
  obtain⟨sd,e2,hsd⟩: ∃ s,G5 N (i64.wrap k)=some s/\s.length=32:=by rw[hM];exact AaP M _
  clear M hM
  have hs:(si1 N sd (DR x)).length<=60000:=by rw[iU hb hsd];decide
  have hl:=Qk hN h
  have hB:=VC hN h
  have e3:=Abq hb hsd
  have e4:=Aa1 hN h hb hsd [] [] [] (bP hN h [] [] [])
  rw[<- hX]at e4
  have e5:=decode_ok hN h hs (bP hN (Abl h hN) _ _ _)
  have e6:=zU hb hsd
  have e7:Gs N ((liK x).y (La (DR x) (si1 N sd (DR x))) (DR x) (si1 N sd (DR x))) (pb1 N sd)=some 0:=by
    unfold Gs Li.y
    dsimp only
    rw[qC hb hsd (by omega)]
    rfl
  have e8:=Aav hN h [] [] [] (La (DR x) (si1 N sd (DR x))) (DR x) (si1 N sd (DR x))
  rw[<- hX]at e8
  exact xK (d:=(L,0)) rfl e1 e2 e3 e4 e5 e8 rfl e6 e7 haw
theorem uK (k:Int) (L:List Int) (hL:L.length<=9223372036854775807):Gi 2097152 k L=some true:=by
  have h:=Aab
  unfold N0 at h
  exact Aac (by decide) ⟨by decide,by decide⟩ h k L hL
end Go.Proofs.YtbnphelpndnnfaaGreatDoor.Pl
namespace Go.Proofs.YtbnphelpndnnfaaGreatDoor.Vm
open Go.RowKit
theorem Moves.below {T:Nat->Prop} {w w':World} (h:Moves (fun _ _=>none) T w w'):Below w.heap.size w w' :=
  ⟨h.os,h.tape,h.output,h.size,fun b hb=>by
    rcases h.blk b hb with e | ⟨c,c',e,fr,_,_,_,_,k,o,_,ho,_⟩ | ⟨_,_,_,_,o,_,_,ho,_⟩
    ·exact e
    ·cases ho
    ·cases ho⟩
theorem Sig.Ad7 {pars ress:List Sh} {f:ShT pars->Option (ShT (outS pars ress))} {xs:List A} {a:ShT pars} {o:ShT (outS pars ress)} (hd:decs pars xs=some a) (hf:f a=some o):(Sig.of pars ress f).F xs=some (encs (outS pars ress) o):=by
  unfold Sig.F Sig.of
  dsimp only
  rw[hd]
  dsimp only
  rw[hf]
  rfl
theorem yI {P:Program} {f:FuncId} {sg:Sig} (h:Spec P f sg) {xs:List A} {vs:Array Value} {W:World} (hF:sg.F xs=some [.bool true]) (hress:sg.ress=[.cell false .bool]) (hv:vs.size=xs.length) (hl:xs.length=sg.pars.length) (h100:xs.length<=100)
    (hx: ∀ j,j<xs.length->IR (fun _ _=>none) W (256*j) (vs.getD j undef) (xs.getD j .undef)) (hI:Inv (fun _ _=>none) W):Calls P f vs W fun e w'=>e= .returned (.bool true)/\Below W.heap.size W w':=by
  refine(h.2 (fun _ _=>none) W vs xs _ hI hv hl h100 hx hF).mono fun e w' hq=> ?_
  obtain⟨v,O',he,hc⟩:=hq
  obtain⟨us,h1,h2,h3⟩:=hc.res
  rw[hress]at h1
  have h1':us.size=1:=h1
  have h4:VRel O' w' (us.getD 0 undef) (.bool true):=h3 0 (by omega)
  have h5:us.getD 0 undef= .bool true:=by
    generalize us.getD 0 undef=z at h4
    cases h4;rfl
  have h6:v= .bool true:=by
    rw[h2,dif_pos h1',<- h5]
    simp [Array.getD_eq_getD_getElem?,h1']
  exact⟨by rw[he,h6],hc.moves.below⟩
open Go.ChangeShapes Go.WideShapes
def nobody:Own:=fun _ _=>none
def Aa8:A->Prop
  | .int k n=>k.min<=n/\n<=k.max
  | .str s=>s.length<=9223372036854775807
  | _=>True
def okN:Nat->A->Prop
  | 0,_=>False
  | n+1,.sl l=>l.xs.length<=9223372036854775807/\ ∀ c∈l.es,∀ a∈c,okN n a
  | _+1,a=>Aa8 a
structure Opened (n:Nat) (w:World) (ks:List CK) (cs:List Value) (aa:List A):Prop where
  lc:cs.length=ks.length
  la:aa.length=ks.length
  rel: ∀ j,j<ks.length->VRel nobody w (cs.getD j undef) (aa.getD j .undef)
  made:((tyl ks).mk aa).1=true
  ok: ∀ a∈aa,okN n a
theorem Ac9: ∀(n:Nat) (a:A),okN n a->okN (n+1) a:=by
  intro n
  induction n with
  | zero=>intro a h;exact h.elim
  | succ n ih =>
    intro a h
    cases a<;>first | exact h | exact⟨h.1,fun c hc z hz=>ih z (h.2 c hc z hz)⟩
theorem Opened.up {n:Nat} {w:World} {ks:List CK} {cs:List Value} {aa:List A} (h:Opened n w ks cs aa):Opened (n+1) w ks cs aa:=⟨h.lc,h.la,h.rel,h.made,fun a ha=>Ac9 n a (h.ok a ha)⟩
theorem yN: ∀(a:List CK) {b:List CK} {x y:List A},((tyl a).mk x).1=true->((tyl b).mk y).1=true->((tyl (a++b)).mk (x++y)).1=true:=by
  intro a
  induction a with
  | nil =>
    intro b x y hx hy
    cases x with
    | nil=>exact hy
    | cons _ _=>cases hx
  | cons k a ih =>
    intro b x y hx hy
    cases k with
    | bool =>
      cases x with
      | nil=>cases hx
      | cons c x=>cases c<;>first | exact ih (x:=x) hx hy | cases hx
    | int k =>
      cases x with
      | nil=>cases hx
      | cons c x =>
        cases c<;>first
          | (simp only[tyl,Ty.mk,Bool.and_eq_true]at hx
             simp only[List.cons_append,tyl,Ty.mk,Bool.and_eq_true]
             exact⟨hx.1,ih hx.2 hy⟩)
          | cases hx
    | str =>
      cases x with
      | nil=>cases hx
      | cons c x=>cases c<;>first | exact ih (x:=x) hx hy | cases hx
    | sl e t =>
      cases x with
      | nil=>cases hx
      | cons c x =>
        cases c with
        | sl l =>
          simp only[tyl,Ty.mk]at hx
          simp only[List.cons_append,tyl,Ty.mk]
          cases hc:l.cast t with
          | none=>rw[hc]at hx;cases hx
          | some xs=>rw[hc]at hx;exact ih (x:=x) hx hy
        | _=>cases hx
    | sln e t =>
      cases x with
      | nil=>cases hx
      | cons c x =>
        cases c with
        | sl l =>
          simp only[tyl,Ty.mk]at hx
          simp only[List.cons_append,tyl,Ty.mk]
          cases hc:l.cast t with
          | none=>rw[hc]at hx;cases hx
          | some xs=>rw[hc]at hx;exact ih (x:=x) hx hy
        | _=>cases hx
    | ptr =>
      cases x with
      | nil=>cases hx
      | cons c x=>cases c<;>first | exact ih (x:=x) hx hy | cases hx
    | fn =>
      cases x with
      | nil=>cases hx
      | cons c x=>cases c<;>first | exact ih (x:=x) hx hy | cases hx
    | mp kt vt =>
      cases x with
      | nil=>cases hx
      | cons c x =>
        cases c with
        | ump l =>
          simp only[tyl,Ty.mk]at hx
          simp only[List.cons_append,tyl,Ty.mk]
          cases hc:l.cast kt vt with
          | none=>rw[hc]at hx;cases hx
          | some xs=>rw[hc]at hx;exact ih (x:=x) hx hy
        | _=>cases hx
    | bx t =>
      cases x with
      | nil=>cases hx
      | cons c x =>
        cases c with
        | sl l =>
          simp only[tyl,Ty.mk]at hx
          simp only[List.cons_append,tyl,Ty.mk]
          cases hc:l.cast t with
          | none=>rw[hc]at hx;cases hx
          | some xs=>rw[hc]at hx;exact ih (x:=x) hx hy
        | _=>cases hx
    | oth =>
      cases x with
      | nil=>cases hx
      | cons c x=>cases c<;>first | exact ih (x:=x) hx hy | cases hx
theorem Opened.nil {n:Nat} {w:World}:Opened n w [] [] []:=⟨rfl,rfl,fun j hj=>absurd hj (Nat.not_lt_zero j),rfl,fun a ha=>(by cases ha)⟩
theorem Opened.append {n:Nat} {w:World} {a b:List CK} {x y:List Value} {p q:List A} (h1:Opened n w a x p) (h2:Opened n w b y q):Opened n w (a++b) (x++y) (p++q):=by
  refine⟨by simp [h1.lc,h2.lc],by simp [h1.la,h2.la],fun j hj=> ?_,yN a h1.made h2.made,fun z hz=> ?_⟩
  ·rw[List.length_append]at hj
   by_cases h:j<a.length
   ·have:=h1.rel j h
    rw[List.getD_eq_getElem?_getD,List.getElem?_append_left (by rw[h1.lc];exact h),<- List.getD_eq_getElem?_getD,List.getD_eq_getElem?_getD (l:=p++q),List.getElem?_append_left (by rw[h1.la];exact h),<- List.getD_eq_getElem?_getD]
    exact this
   ·have:=h2.rel (j - a.length) (by omega)
    rw[List.getD_eq_getElem?_getD,List.getElem?_append_right (by rw[h1.lc];omega),<- List.getD_eq_getElem?_getD,List.getD_eq_getElem?_getD (l:=p++q),List.getElem?_append_right (by rw[h1.la];omega),<- List.getD_eq_getElem?_getD,h1.lc,h1.la]
    exact this
  ·rcases List.mem_append.1 hz with hz | hz
   ·exact h1.ok z hz
   ·exact h2.ok z hz
theorem Opened.one {n:Nat} {w:World} {k:CK} {v:Value} {a:A} (hr:VRel nobody w v a) (hm:((tyl [k]).mk [a]).1=true) (ho:okN n a):Opened n w [k] [v] [a] :=
  ⟨rfl,rfl,fun j hj=>by
    have:j=0:=by simp at hj;omega
    subst this;exact hr,hm,fun z hz=>by rw[List.mem_singleton.1 hz];exact ho⟩
def Oq (P:Program) (n t:Nat):Nat:=match ckOf P n t with | some cs=>cs.length | none=>0
def bU (P:Program) (n:Nat):List Field->Nat->Bool
  | [],_=>true
  | f::r,o=>Nat.beq f.offset o&&Nat.beq (P.cellsOf f.type) (Oq P n f.type)&&bU P n r (o+Oq P n f.type)
def U1 (P:Program):Nat->Nat->Bool
  | 0,_=>false
  | n+1,t=>match P.underlying t with
    | some .bool=>true
    | some (.int _)=>true
    | some .string=>true
    | some (.slice e)=>U1 P n e&&Nat.beq (P.cellsOf e) (Oq P n e)&&Nat.blt 0 (Oq P n e)&&(match ckOf P n e with | some cs=>cs.all CK.plain | none=>false)
    | some (.struct fs)=>Nat.beq (P.cellsOf t) (Oq P (n+1) t)&&bU P n fs.toList 0&&fs.toList.all (fun f=>U1 P n f.type)
    | _=>false
section
variable {H:Type} {enc:TypeId×Value->H} {P:Program} {w:World} {base:Nat} {spare:Nat->Bool} {held:Bool}
theorem WG {a:Addr} {n:Nat} {cs:List Value} (h:w.cells? base a n=some cs):cs.length=n/\ ∀ j,j<n->w.cell? (a.add j)=some (cs.getD j undef):=by
  unfold World.cells? at h
  split at h
  ·have key: ∀(l:List Nat) (cs:List Value),l.mapM (fun i=>w.cell? (a.add i))=some cs->cs.length=l.length/\ ∀ j (hj:j<l.length),w.cell? (a.add l[j])=some (cs.getD j undef):=by
     intro l
     induction l with
     | nil=>grind
     | cons i l ih =>
       intro cs h
       rw[List.mapM_cons]at h
       cases h1:w.cell? (a.add i)with
       | none=>rw[h1]at h;cases h
       | some v =>
         rw[h1]at h
         cases h2:l.mapM (fun i=>w.cell? (a.add i))with
         | none=>rw[h2]at h;cases h
         | some r =>
           rw[h2]at h
           injection h with h
           subst h
           obtain⟨k1,k2⟩:=ih r h2
           refine⟨by simp [k1],fun j hj=> ?_⟩
           cases j with
           | zero=>exact h1
           | succ j=>grind
   all_goals grind
  ·cases h
theorem AaT {l:List Value} {o a b:Nat}:(l.drop o).take (a+b)=(l.drop o).take a++(l.drop (o+a)).take b:=by
  rw[List.take_add,List.drop_drop]
theorem VB (e:Nat) (t:Ty) (xs:List t.Val):((tyl [.sl e t]).mk [.sl ⟨t,xs⟩]).1=true:=by
  simp only[tyl,Ty.mk]
  rw[Sl.cast_self]
  rfl
theorem rW (hspare: ∀ b,spare b=true): ∀(n:Nat) (t:TypeId) (ks:List CK) (fuel:Nat) (cs:List Value) (x:DataW H×List MemPlace),ckOf P n t=some ks->U1 P n t=true->DataW.trod enc P w base spare held fuel t cs=some x ->
    ∃ aa,Opened n w ks cs aa:=by
  intro n
  induction n with
  | zero=>intro t ks fuel cs x h;cases h
  | succ n ih =>
    intro t ks fuel cs x hck hok h
    unfold ckOf at hck
    unfold U1 at hok
    cases hu:P.underlying t with
    | none=>rw[hu]at hck;cases hck
    | some d =>
      rw[hu]at hck hok
      cases d with
      | bool =>
        injection hck with hck
        subst hck
        obtain⟨b,rfl,_⟩:=DataW.trod_bool hu h
        exact⟨[.bool b],Opened.one (.bool b) rfl trivial⟩
      | int k =>
        injection hck with hck
        subst hck
        obtain⟨v,rfl,_,hw⟩:=DataW.trod_int hu h
        have hk:Aa8 (.int k v):=by
          unfold Lit.wf at hw
          rw[Bool.and_eq_true,decide_eq_true_eq,decide_eq_true_eq]at hw
          exact hw
        exact⟨[.int k v],Opened.one (.int k v) (by cases k<;>rfl) hk⟩
      | string =>
        injection hck with hck
        subst hck
        obtain⟨v,rfl,_,hw⟩:=DataW.trod_string hu h
        have hk:Aa8 (.str v.data.toList):=by
          show v.data.toList.length<=_
          have e:v.data.toList.length=v.size:=by rw[Array.length_toList];rfl
          have:maxLen=9223372036854775807:=rfl
          omega
        exact⟨[.str v.data.toList],Opened.one (.str v) rfl hk⟩
      | slice e =>
        dsimp only at hck hok
        simp only[Bool.and_eq_true]at hok
        obtain⟨⟨⟨hoe,hce⟩,hc0⟩,hpl⟩:=hok
        cases hke:ckOf P n e with
        | none=>rw[hke]at hpl;cases hpl
        | some ke =>
          rw[hke]at hck hpl
          dsimp only at hck hpl
          rw[hpl]at hck
          injection hck with hck
          subst hck
          have hlen:P.cellsOf e=ke.length:=by
            have:=Nat.eq_of_beq_eq_true hce
            unfold Oq at this
            rw[hke]at this;exact this
          rcases DataW.trod_slice hu h with ⟨rfl,_⟩ | ⟨a,len,cap,elems,rest,m,_,rfl,_,hb,hl,hm,hel,hels,hsp,_⟩
          ·exact⟨[.sl ⟨tyl ke,[]⟩],Opened.one (.nil _) (VB _ _ _) ⟨Nat.zero_le _,fun c hc=>(by cases hc)⟩⟩
          ·by_cases hcap:cap=0
           ·have hlen0:len=0:=by omega
            subst hcap
            subst hlen0
            exact⟨[.sl ⟨tyl ke,[]⟩],Opened.one (.sl0 a _) (VB _ _ _) ⟨Nat.zero_le _,fun c hc=>(by cases hc)⟩⟩
           have hk0:0<P.cellsOf e:=by
             have h2:=Nat.eq_of_beq_eq_true hce
             rw[h2]
             simpa using hc0
           have hread: ∃ u,w.cell? a=some u:=by
             by_cases h0:0<len
             ·have he:=hels 0 h0
              rw[List.getElem?_eq_getElem (by omega:0<elems.length),Option.bind_eq_some_iff]at he
              obtain⟨q,hq,_⟩:=he
              obtain⟨_,k2⟩:=WG hq
              have:=k2 0 hk0
              rw[Nat.zero_mul]at this
              exact⟨_,this⟩
             ·have hz:len=0:=by omega
              obtain⟨hr1,hr2⟩:=hsp (hspare _)
              have he:=hr2 0 (by omega)
              rw[List.getElem?_eq_getElem (by omega:0<rest.length),Option.bind_eq_some_iff]at he
              obtain⟨q,hq,_⟩:=he
              obtain⟨_,k2⟩:=WG hq
              have:=k2 0 hk0
              rw[hz,Nat.zero_mul]at this
              exact⟨_,this⟩
           have hspot:a.spot=none:=by
             obtain⟨u,hu⟩:=hread
             unfold World.cell? at hu
             split at hu
             ·cases hs:a.spot with
              | none=>rfl
              | some z=>rw[hs]at hu;cases hu
             ·cases hu
           have ha:a=at' a.block a.off:=by
             obtain⟨b,o,sp⟩:=a
             dsimp only at hspot
             rw[hspot]
           have each: ∀ i,∃(q:List Value) (aa:List A),i<len->(∀ j,j<ke.length->w.cell? (at' a.block (a.off+(i*ke.length+j)))=some (q.getD j undef))/\Opened n w ke q aa:=by
             intro i
             by_cases hi:i<len
             ·have he:=hels i hi
              have hei:elems[i]? =some (elems[i]'(by omega)):=List.getElem?_eq_getElem (by omega)
              rw[hei,Option.bind_eq_some_iff]at he
              obtain⟨q,hq,hq2⟩:=he
              obtain⟨k1,k2⟩:=WG hq
              rw[hlen]at k1 k2
              obtain⟨aa,h1⟩:=ih e ke m q _ hke hoe hq2
              refine⟨q,aa,fun _=>⟨fun j hj=> ?_,h1⟩⟩
              have:=k2 j hj
              rw[ha,add_at,add_at]at this
              rw[<- this];congr 2;omega
             ·exact⟨[],[],fun h=>absurd h hi⟩
           obtain⟨q,hq⟩:=Classical.axiomOfChoice each
           obtain⟨aa,haa⟩:=Classical.axiomOfChoice hq
           let l:Sl:=⟨tyl ke,(List.range len).map fun i=>((tyl ke).mk (aa i)).2⟩
           have hes:l.es=(List.range len).map aa:=by
             show((List.range len).map fun i=>((tyl ke).mk (aa i)).2).map (tyl ke).cells=_
             rw[List.map_map]
             refine List.map_congr_left fun i hi=> ?_
             exact Ty.mk_cells _ _ (haa i (List.mem_range.1 hi)).2.made
           have hesl:l.es.length=len:=by rw[hes,List.length_map,List.length_range]
           have hsz:l.sz=ke.length:=tyl_len ke
           have hget: ∀ i,i<len->l.es.getD i []=aa i:=fun i hi=>by
             rw[hes,List.getD_eq_getElem?_getD,List.getElem?_map,List.getElem?_range hi];rfl
           have hrel:VRel nobody w (.slice (some a) len cap) (.sl l):=by
             rw[ha,<- hesl]
             refine VRel.sl (fun i j=>(q i).getD j undef) (by rw[hesl];exact hl) (fun i j hi hj=> ?_) (fun i j hi hj=> ?_)
             ·rw[hsz]at hj ⊢
              exact⟨rfl,(haa i (by rw[<- hesl];exact hi)).1 j hj⟩
             ·rw[hsz]at hj
              have hi':i<len:=by rw[<- hesl];exact hi
              rw[hget i hi']
              exact(haa i hi').2.rel j hj
           refine⟨[.sl l],Opened.one hrel (VB _ _ _) ⟨?_,fun c hc z hz=> ?_⟩⟩
           ·show((List.range len).map _).length<=_
            rw[List.length_map,List.length_range]
            have:maxLen=9223372036854775807:=rfl
            omega
           ·rw[hes]at hc
            obtain⟨i,hi,rfl⟩:=List.mem_map.1 hc
            exact(haa i (List.mem_range.1 hi)).2.ok z hz
      | struct fs =>
        dsimp only at hck hok
        simp only[Bool.and_eq_true]at hok
        obtain⟨⟨hcl,hoff⟩,hall⟩:=hok
        obtain⟨xs,m,_,_,hl,hxl,hxs⟩:=DataW.trod_struct hu h
        have fields: ∀(l:List Field) (o:Nat) (ks:List CK),l.foldr (fun f acc=>match ckOf P n f.type,acc with | some a,some b=>some (a++b) | _,_=>none) (some [])=some ks->bU P n l o=true->(∀ f∈l,U1 P n f.type=true) ->
            (∀ f∈l,∃ y,DataW.trod enc P w base spare held m f.type ((cs.drop f.offset).take (P.cellsOf f.type))=some y)-> ∃ aa,Opened n w ks ((cs.drop o).take ks.length) aa:=by
          intro l
          induction l with
          | nil =>
            intro o ks hk _ _ _
            injection hk with hk
            subst hk
            exact⟨[],Opened.nil⟩
          | cons f r ihr =>
            intro o ks hk ho hf hy
            rw[List.foldr_cons]at hk
            cases ha:ckOf P n f.type with
            | none=>rw[ha]at hk;cases hk
            | some a =>
              rw[ha]at hk
              cases hb:r.foldr (fun f acc=>match ckOf P n f.type,acc with | some a,some b=>some (a++b) | _,_=>none) (some [])with
              | none=>rw[hb]at hk;cases hk
              | some b =>
                rw[hb]at hk
                injection hk with hk
                subst hk
                have hal:Oq P n f.type=a.length:=by unfold Oq;rw[ha]
                unfold bU at ho
                simp only[Bool.and_eq_true]at ho
                obtain⟨⟨h1,h2⟩,h3⟩:=ho
                have h1:=Nat.eq_of_beq_eq_true h1
                have h2:=Nat.eq_of_beq_eq_true h2
                rw[hal]at h2 h3
                obtain⟨y,hy1⟩:=hy f List.mem_cons_self
                rw[h1,h2]at hy1
                obtain⟨pa,p1⟩:=ih f.type a m _ y ha (hf f List.mem_cons_self) hy1
                obtain⟨pb,q1⟩:=ihr (o+a.length) b hb h3 (fun g hg=>hf g (List.mem_cons_of_mem _ hg)) (fun g hg=>hy g (List.mem_cons_of_mem _ hg))
                refine⟨pa++pb,?_⟩
                rw[List.length_append,AaT]
                exact p1.append q1
        obtain⟨aa,h1⟩:=fields fs.toList 0 ks hck hoff (fun f hf=>List.all_eq_true.1 hall f hf) (fun f hf=>by
          obtain⟨i,hi⟩:=List.getElem?_of_mem hf
          have hi':fs[i]? =some f:=by rw[<- Array.getElem?_toList];exact hi
          have:=hxs i f hi'
          have hlt:i<xs.length:=by
            rw[hxl]
            exact(Array.getElem?_eq_some_iff.1 hi').1
          rw[List.getElem?_eq_getElem hlt]at this
          exact⟨_,this⟩)
        have hcs:(cs.drop 0).take ks.length=cs:=by
          rw[List.drop_zero]
          refine List.take_of_length_le ?_
          have h3:=Nat.eq_of_beq_eq_true hcl
          have h4:Oq P (n+1) t=ks.length:=by
            unfold Oq ckOf
            rw[hu]
            dsimp only
            rw[hck]
          omega
        rw[hcs]at h1
        exact⟨aa,h1.up⟩
      | _=>cases hok
theorem uS {r:Reach} {b0:Nat} {u:TypeId} {cs:Array Value} (h:Cell.okWide P w r b0 u (.agg cs)):False:=by
  have h':Cell.ok P w r b0 u (.agg cs):=by
    unfold Cell.okWide at h
    all_goals grind
  unfold Cell.ok at h'
  all_goals grind
def Acl (P:Program) (t:TypeId):Bool:=match P.underlying t with
  | some (.struct _)=>true
  | some (.array _ _)=>true
  | _=>false
theorem open_cell {r:Reach} {b0 n:Nat} {t:TypeId} {v:Value} {d:DataW H} {ps:List MemPlace} {k:CK} (hck:ckOf P n t=some [k]) (hspare: ∀ b,spare b=true) (hok:U1 P n t=true) (ha:Acl P t=false) (hval:Value.okWide P w r b0 t v) (hd:DataW.Trod enc P w base spare held t v d ps) :
    ∃ a,VRel nobody w v a/\((tyl [k]).mk [a]).1=true/\okN n a:=by
  have hc:Cell.okWide P w r b0 t v:=by
    unfold Value.okWide at hval
    all_goals grind[Acl]
  have hcells:v.cells.toList=[v]:=by
    cases v with
    | agg cs=>exact(uS hc).elim
    | _=>rfl
  obtain⟨fuel,h⟩:=hd
  rw[hcells]at h
  obtain⟨aa,h1⟩:=rW hspare n t [k] fuel [v] _ hck hok h
  obtain⟨a,rfl⟩: ∃ a,aa=[a]:=List.length_eq_one_iff.1 h1.la
  exact⟨a,h1.rel 0 (by show 0<1;omega),h1.made,h1.ok a List.mem_cons_self⟩
theorem Opened.ir {n:Nat} {ks:List CK} {cs:Array Value} {aa:List A} (h:Opened n w ks cs.toList aa) (id:Nat):IR nobody w id (.agg cs) (.agg aa):=by
  refine⟨cs,rfl,?_,fun j hj=>VRel.ic ?_⟩
  ·rw[<- Array.length_toList,h.lc,h.la]
  ·have:=h.rel j (by rw[<- h.la];exact hj)
   all_goals simp_all[CK,IR,nobody]
theorem VRel.ir {id:Nat} {v:Value} {a:A} (h:VRel nobody w v a):IR nobody w id v a:=by
  have:=h.ic (id:=id)
  cases h<;>exact this
end
end Go.Proofs.YtbnphelpndnnfaaGreatDoor.Vm
namespace Go.Proofs.YtbnphelpndnnfaaGreatDoor.Vm
open Go Go.Lib
abbrev tabs:List (String×DataW Unit):=[("math/bits.deBruijn32tab",Rows.laid_math_bits_deBruijn32tab),("math/bits.deBruijn64tab",Rows.laid_math_bits_deBruijn64tab),("internal/strconv.uint64pow10",Rows.laid_internal_strconv_uint64pow10),("unicode/utf8.acceptRanges",Rows.laid_unicode_utf8_acceptRanges),("certpath/date.lengths",Rows.laid_certpath_date_lengths),("unicode/utf8.first",Rows.laid_unicode_utf8_first)]
def Ad6:DataW Unit->Value
  | .lit (.int k n)=>.int k n
  | _=>undef
def iR:DataW Unit->List Value
  | .agg l=>l.map Ad6
  | _=>[]
def Ad9:DataW Unit->List Value
  | .agg l=>l.flatMap iR
  | _=>[]
noncomputable def laidWorld (os:Os):World :=
  let w0:=World.holding Tryz.prog os ⟨#[],#[],[]⟩
  {w0 with heap:=(((((w0.heap.modify 2 fun
     | .cells _ t frozen=>.cells (iR Rows.laid_internal_strconv_uint64pow10).toArray t frozen
     | o=>o).modify 3 fun
     | .cells _ t frozen=>.cells (iR Rows.laid_unicode_utf8_first).toArray t frozen
     | o=>o).modify 4 fun
     | .cells _ t frozen=>.cells (Ad9 Rows.laid_unicode_utf8_acceptRanges).toArray t frozen
     | o=>o).modify 5 fun
     | .cells _ t frozen=>.cells (iR Rows.laid_math_bits_deBruijn32tab).toArray t frozen
     | o=>o).modify 0 fun
     | .cells _ t frozen=>.cells (iR Rows.laid_certpath_date_lengths).toArray t frozen
     | o=>o).modify 6 fun
     | .cells _ t frozen=>.cells (iR Rows.laid_math_bits_deBruijn64tab).toArray t frozen
     | o=>o}
theorem laid_met (os:Os) (args:Array Value):laidMet Tryz.prog tabs ((laidWorld os).forCall (fun _ _=>0) ⟨#[],args,[]⟩).memory :=
  laidMet_of_run' 8 (by kernel_rfl) (by kernel_rfl)
set_option maxRecDepth 1000000 in
theorem mQ {W:World} (h:laidMet Tryz.prog tabs W) {nm:String} {D:DataW Unit} (hm:(nm,D)∈tabs) {g tA tE n:Nat} {k:IntKind} {f:Nat->Int} (hg0:Tryz.prog.globalNamed nm=some g) (ht0:(Tryz.prog.globals[g]?).map (·.type)=some tA) (hu:Tryz.prog.underlying tA=some (.array n tE)) (hu2:Tryz.prog.underlying tE=some (.int k)) (hc:Tryz.prog.cellsOf tE=1)
    (hds:D= .agg ((List.range n).map fun j=>.lit (.int k (f j)))) (j:Nat) (hj:j<n):W.cell? ⟨g,j,none⟩=some (.int k (f j)):=by
  obtain⟨g',t,cs,fuel,p,hg,ht,hvar,hd⟩:=laidMet.reads h (n:=nm) (d:=D) hm
  obtain rfl:=Option.some.inj (hg0.symm.trans hg)
  obtain rfl:=Option.some.inj (ht0.symm.trans ht)
  rw[hds]at hd
  obtain⟨fuel',d,q,h1,h2⟩:=array_elem hu hd j hj
  rw[List.getElem?_map,List.getElem?_range hj]at h1
  have h1:=Option.some.inj h1
  subst h1
  rw[hc,Nat.mul_one]at h2
  obtain⟨m,h3,h4,_⟩:=DataW.trod_int hu2 h2
  have hn:f j=m:=by
    have:=congrArg Prod.fst h4
    injection this with this
    injection this with _ this
  rw[World.var?_cell hg hvar j]
  have h5:(cs.toList.drop j)[0]? =some (.int k m):=by
    have:((cs.toList.drop j).take 1)[0]? =some (.int k m):=by rw[h3];rfl
    rwa [List.getElem?_take_of_lt (by omega)]at this
  rw[List.getElem?_drop,Nat.add_zero,Array.getElem?_toList]at h5
  rw[h5,hn]
set_option maxRecDepth 1000000 in
theorem AaB {W:World} (h:laidMet Tryz.prog tabs W) (j:Nat) (hj:j<20):W.cell? ⟨2,j,none⟩=some (.int .u64 ((10 ^ j:Nat):Int)):=by
  have hds:(Rows.laid_internal_strconv_uint64pow10:DataW Unit)= .agg ((List.range 20).map fun j=>.lit (.int .u64 ((10 ^ j:Nat):Int))):=by kernel_rfl
  have hm:(("internal/strconv.uint64pow10",Rows.laid_internal_strconv_uint64pow10):String×DataW Unit)∈tabs:=List.mem_cons_of_mem _ (List.mem_cons_of_mem _ List.mem_cons_self)
  generalize (Rows.laid_internal_strconv_uint64pow10:DataW Unit)=D at hds hm
  exact mQ h (nm:= "internal/strconv.uint64pow10") (D:=D) hm (g:=2) (tA:=460) (tE:=323) (n:=20) (k:=.u64) (f:=fun j=>((10 ^ j:Nat):Int)) (by kernel_rfl) (by kernel_rfl) (by kernel_rfl) (by kernel_rfl) (by kernel_rfl) hds j hj
set_option maxRecDepth 1000000 in
theorem Aa4 {W:World} (h:laidMet Tryz.prog tabs W) (j:Nat) (hj:j<12):W.cell? ⟨0,j,none⟩=some (.int .i64 (([31,28,31,30,31,30,31,31,30,31,30,31]:List Int).getD j 0)) :=
  mQ h (nm:= "certpath/date.lengths") (D:=Rows.laid_certpath_date_lengths) (List.mem_cons_of_mem _ (List.mem_cons_of_mem _ (List.mem_cons_of_mem _ (List.mem_cons_of_mem _ List.mem_cons_self)))) (g:=0) (tA:=386) (tE:=3) (n:=12) (k:=.i64) (f:=fun j=>([31,28,31,30,31,30,31,31,30,31,30,31]:List Int).getD j 0) (by kernel_rfl) (by kernel_rfl) (by kernel_rfl) (by kernel_rfl) (by kernel_rfl) (by kernel_rfl) j hj
theorem inv_of {W:World} (hs:W.ShapedOpen Tryz.prog) (hl:laidMet Tryz.prog tabs W):Inv nobody W:=by
  refine⟨fun g j p h=> ?_,fun g n h=> ?_⟩
  ·unfold tabP at h
   split at h
   ·injection h with h
    subst h
    obtain⟨m,hm⟩:=cell_of_shapedOpen_int (P:=Tryz.prog) (g:=1) (t:=3) (zero:= #[.int .i64 0]) (k:=.i64) hs (of_decide_eq_true (by kernel_rfl)) (by kernel_rfl) rfl (by kernel_rfl) (by kernel_rfl) (by kernel_rfl)
    exact⟨rfl,_,hm,m,rfl⟩
   ·split at h
    ·rename_i hj
     injection h with h
     subst h
     exact⟨rfl,_,AaB hl _ hj,rfl⟩
    ·cases h
   ·unfold tabI at h
    split at h
    ·have h:(if j<12 then some (fun v=>v=Value.int .i64 (([31,28,31,30,31,30,31,31,30,31,30,31]:List Int).getD j 0))else none)=some p:=h
     split at h
     ·rename_i hj
      injection h with h
      subst h
      exact⟨rfl,_,Aa4 hl _ hj,rfl⟩
     ·cases h
    ·cases h
  ·unfold tabN at h
   split at h
   ·injection h with h
    subst h
    obtain⟨cs,h1,h2,_⟩:=hs.1 2 (Array.replicate 20 (.int .u64 0)) 460 (of_decide_eq_true (by kernel_rfl)) (by kernel_rfl)
    exact⟨cs,_,_,h1,h2⟩
   ·cases h
section
variable {H:Type} {enc:TypeId×Value->H}
theorem pG {a:Assume} {C:Checked} {os:Os} {f:FuncId} {fn:Func} {s:ChangeSpec} {conds:List PathCond} {apart fresh handsOn again:Bool} {X:World->Array Value->Prop}
    (hX: ∀(w w':World) (args:Array Value),w.heap=w'.heap->X w args->X w' args)
    (own:ownKnob C.prog.godebug=none) (started:os.Started) (noInit:C.prog.inits.idxOf? f=none) (hfn:C.prog.funcs[f]? =some fn)
    (witness: ∃(w:World) (tape:Tape) (i:Input),w.os=os/\(w.forCall tape i).Shaped C.prog/\i.vars=[]/\Input.okWide C.prog (w.forCall tape i) .any w.heap.size f i /\
      ((s.pre enc C.prog fn conds apart (w.forCall tape i).memory i.args/\X (w.forCall tape i).memory i.args)/\sizedMet enc C.prog fn (OpenSpec.ofChange s) apart (w.forCall tape i).memory i.args)/\a.holds C.prog (lone (Frame.enter C.prog f i.args .normal) [] (w.forCall tape i)))
    (contract: ∀(W:World) (base:Nat) (args:Array Value) (ds gs:List (DataW H)) (before:List MemPlace),
      (∀(j:Nat) t v,fn.params[j]? =some t->args[j]? =some v->Value.okWide C.prog W .any base t v) ->
      DataW.Whole enc C.prog fn.params.toList s.vars apart W args.toList ds gs before->W.ShapedOpen C.prog->X W args ->
      Calls C.prog f args W fun e W'=> ∃ v,e= .returned v/\s.post enc C.prog fn apart fresh handsOn again W args v W') :
    ReturnsInHanded a C os f .any (fun w args=>(s.pre enc C.prog fn conds apart w args/\X w args)/\sizedMet enc C.prog fn (OpenSpec.ofChange s) apart w args) (s.post enc C.prog fn apart fresh handsOn again):=by
  refine returnsInHanded_of_calls own started noInit witness ?_
  intro w tape i _ hsh _ hok hpre _
  obtain⟨_,_,_,fn',hfn',_,_,_,_,hval⟩:=hok
  obtain rfl:=Option.some.inj (hfn'.symm.trans hfn)
  obtain⟨⟨⟨ds,gs,before,hw,_⟩,hx⟩,_⟩:=hpre
  refine(contract (w.forCall tape i) w.heap.size i.args ds gs before hval (DataW.Whole.of_heap (w':=w.forCall tape i) (by rfl) hw) hsh (hX _ _ _ (by rfl) hx)).mono fun e W' ⟨v,he,hp⟩=> ?_
  subst he
  exact ChangeSpec.post_blind hp
end
