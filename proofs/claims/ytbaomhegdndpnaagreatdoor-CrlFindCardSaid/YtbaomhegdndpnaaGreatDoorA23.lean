import Derived.Test.YtbaomhegdndpnaaGreatDoorA22
import Derived.ChangeArms
import Derived.SliceStrings
import Derived.Test.YtbaomhegdndpnaaGreatDoorRows
import Derived.Test.YtbaomhegdndpnaaGreatDoorChecked
import Derived.Lib.LaidU8
import Derived.Shelf.Vars
import Derived.HandedShaped
import Derived.LaidLaws
set_option linter.all false
namespace Go.Proofs.YtbaomhegdndpnaaGreatDoor.Pl
open IntKind (i64)
open Go Vm
theorem yS (N:Nat) (x:Int):Ends (fun _=>True) (FX N x):=by
  unfold FX
  simp only[EU,DF,Ci]
  by_cases h1:x>=1
  ·by_cases h2:x<=6
   ·simp only[decide_eq_true h1,decide_eq_true h2,cond_true,decide_eq_true (by omega:0<=x),BU]
    exact Bj trivial
   ·simp only[decide_eq_true h1,decide_eq_false h2,cond_true,cond_false]
    exact Ba (fun _=>Bj trivial) (fun _=>Ba (fun _=>Bj trivial) fun _=>Bj trivial)
  ·simp only[decide_eq_false h1,cond_false]
   exact Ba (fun _=>Bj trivial) (fun _=>Ba (fun _=>Bj trivial) fun _=>Bj trivial)
theorem AeC {N:Nat} {es:List Yq1} (hN:0<N) (h:SmE N es) (n:List Yq0) (s:Int):SmN N (Qo es n s).1.2.2.2.2:=by
  unfold Qo
  cases hq:Uj es n s with
  | none=>exact⟨by simpa using hN,by simp,fun r hr=>by cases hr⟩
  | some i=>exact kS h (List.mem_range.1 (List.mem_of_find?_eq_some hq))
def okL (N:Nat) (l:List Yq4):Prop:=l.length=2/\ ∀ y∈l,LiS N y
def okM (N:Nat) (l:List (List Yq0)):Prop:=l.length=3/\ ∀ n∈l,SmN N n
abbrev dL:Yq4:=(([]:Bs),([]:Bs),([]:List Yq0),0,0,0,0,([]:Bs),false,([]:List Yq2),false,false,0,false,([]:List Yq3),([]:List Yq1),([]:Bs))
set_option maxHeartbeats 1000000 in
set_option maxRecDepth 10000 in
theorem Ae8 {N:Nat} (hN:1048578<N) (hw:ES N=some true) (p0:Yq4) (p1:List Yq0) (p2:Int) (L:List Int) (p4 p5:Int) (hL:L.length<=9223372036854775807):Ends (fun v=>v=true) (FC N p0 p1 p2 L p4 p5):=by
  unfold FC
  refine AP (vO N hN p0) ?_
  intro v1 hv1
  obtain⟨v2,e2,hv2⟩:=Hz N hN p1
  simp only[e2,PS,LU,Ci,Option.isSome_some,Bool.true_or,BU,Option.getD_some]
  refine Ba (fun _=>by rw[hw];exact Bj rfl) fun hb=> ?_
  have h1:v1=true:=by cases v1 with | true=>rfl | false=>cases hb
  subst h1
  have h2:v2=true:=by cases v2 with | true=>rfl | false=>cases hb
  subst h2
  have hp0:=hv1 rfl
  have hp1:=hv2 rfl
  rw[show dC N L=some (L,0)from rfl,AQ]
  refine AP (list_good N hN hL (d:=(L,0)) ⟨0,rfl,Nat.zero_le _⟩) ?_
  rintro ⟨z,d1,d2⟩ ⟨hz,hd⟩
  dsimp only at hz hd ⊢
  have hzz:okL N [p0,z]:=⟨rfl,fun y hy=>by
    simp only[List.mem_cons,List.not_mem_nil,or_false]at hy
    rcases hy with rfl | rfl
    ·exact hp0
    ·exact hz⟩
  refine Dv (X:=Int×List Yq0×Bs×Bs×List Yq0×Int×Int×Int×Int×Bs×Bool×List Yq2×Bool×Bool×Int×Bool×List Yq3×List Yq1×Bs×List Int×Int×List Yq4) (fun x=>0<=x.1/\x.1<=(2:Int)/\SmN N (x.2.1)/\SmN N (x.2.2.2.2.1)/\BM L (x.2.2.2.2.2.2.2.2.2.2.2.2.2.2.2.2.2.2.2.1,x.2.2.2.2.2.2.2.2.2.2.2.2.2.2.2.2.2.2.2.2.1)/\okL N (x.2.2.2.2.2.2.2.2.2.2.2.2.2.2.2.2.2.2.2.2.2)) (fun x=>(2 - x.1).toNat) ?_ N _ ⟨Int.le_refl _,by dsimp only;omega,hp1,hz.1,hd,hzz⟩ (by dsimp only;omega)
  rintro ⟨c0,c1,c2,c3,c4,c5,c6,c7,c8,c9,c10,c11,c12,c13,c14,c15,c16,c17,c18,c19,c20,c21⟩ ⟨g0,g1,g2,g3,g4,g5⟩ k hk
  dsimp only[U22]at g0 g1 g2 g3 g4 g5 ⊢
  refine Ba (fun ht=> ?_) fun _=> ?_
  ·have ht:=of_decide_eq_true ht
   obtain⟨gl,gm⟩:=g5
   refine A7 (decide_eq_true g0) (A7 (decide_eq_true (by omega)) (A7 (decide_eq_true (by omega)) ?_))
   refine AP (nx N hL g4 16 (by omega) (by omega)) ?_
   rintro ⟨r,e1,e2⟩ ⟨f0,f1,f2⟩
   dsimp only at f0 f1 f2 ⊢
   refine AP (PN N hN f0 f1) ?_
   intro au hau
   have hy:=gm _ (getD_mem dL (by omega:c0.toNat<c21.length))
   have hM:okM N [c1,au,c4]:=⟨rfl,fun n hn=>by
     simp only[List.mem_cons,List.not_mem_nil,or_false]at hn
     rcases hn with rfl | rfl | rfl
     ·exact g2
     ·exact hau
     ·exact g3⟩
   refine Dv (X:=Int×List Yq0×Bs×Bs×List Yq0×Int×Int×Int×Int×Bs×Bool×List Yq2×Bool×Bool×Int×Bool×List Yq3×List Yq1×Bs×Bs×Bs×List Yq0×Int×Int×Int×Int×Bs×Bool×List Yq2×Bool×Bool×Int×Bool×List Yq3×List Yq1×Bs×List Int×Int×List Yq4×List (List Yq0)) (fun x=>0<=x.1/\x.1<=(3:Int)/\SmN N (x.2.1)/\SmN N (x.2.2.2.2.1)/\SmE N (x.2.2.2.2.2.2.2.2.2.2.2.2.2.2.2.2.2.2.2.2.2.2.2.2.2.2.2.2.2.2.2.2.2.2.1)/\BM L (x.2.2.2.2.2.2.2.2.2.2.2.2.2.2.2.2.2.2.2.2.2.2.2.2.2.2.2.2.2.2.2.2.2.2.2.2.1,x.2.2.2.2.2.2.2.2.2.2.2.2.2.2.2.2.2.2.2.2.2.2.2.2.2.2.2.2.2.2.2.2.2.2.2.2.2.1)/\okL N (x.2.2.2.2.2.2.2.2.2.2.2.2.2.2.2.2.2.2.2.2.2.2.2.2.2.2.2.2.2.2.2.2.2.2.2.2.2.2.1)/\okM N (x.2.2.2.2.2.2.2.2.2.2.2.2.2.2.2.2.2.2.2.2.2.2.2.2.2.2.2.2.2.2.2.2.2.2.2.2.2.2.2)) (fun x=>(3 - x.1).toNat) ?_ N _ ⟨Int.le_refl _,by dsimp only;omega,g2,g3,hy.2,f2,⟨gl,gm⟩,hM⟩ (by dsimp only;omega)
   clear hy hM hau f0 f1 f2 g2 g3 g4
   rintro ⟨b0,b1,b2,b3,b4,b5,b6,b7,b8,b9,b10,b11,b12,b13,b14,b15,b16,b17,b18,b19,b20,b21,b22,b23,b24,b25,b26,b27,b28,b29,b30,b31,b32,b33,b34,b35,b36,b37,b38,b39⟩ ⟨m0,m1,m2,m3,m4,m5,m6,m7⟩ k' hk'
   dsimp only[U40]at m0 m1 m2 m3 m4 m5 m6 m7 ⊢
   refine Ba (fun ht2=> ?_) fun _=> ?_
   ·have ht2:=of_decide_eq_true ht2
    obtain⟨nl,nm⟩:=m7
    refine A7 (decide_eq_true m0) (A7 (decide_eq_true (by omega)) (A7 (decide_eq_true (by omega)) ?_))
    refine AP (nx N hL m5 9 (by omega) (by omega)) ?_
    rintro ⟨r,e1,e2⟩ ⟨f0,f1,f2⟩
    dsimp only at f0 f1 f2 ⊢
    have hn:=nm _ (getD_mem ([]:List Yq0) (by omega:b0.toNat<b39.length))
    refine Dv (X:=Int×List Yq0×Bs×Bs×List Yq0×Int×Int×Int×Int×Bs×Bool×List Yq2×Bool×Bool×Int×Bool×List Yq3×List Yq1×Bs×Bs×Bs×List Yq0×Int×Int×Int×Int×Bs×Bool×List Yq2×Bool×Bool×Int×Bool×List Yq3×List Yq1×Bs×List Yq0×List Int×Int×List Yq4×List (List Yq0)×List Int) (fun x=>0<=x.1/\x.1<=(2:Int)/\SmN N (x.2.1)/\SmN N (x.2.2.2.2.1)/\SmE N (x.2.2.2.2.2.2.2.2.2.2.2.2.2.2.2.2.2.2.2.2.2.2.2.2.2.2.2.2.2.2.2.2.2.2.1)/\SmN N (x.2.2.2.2.2.2.2.2.2.2.2.2.2.2.2.2.2.2.2.2.2.2.2.2.2.2.2.2.2.2.2.2.2.2.2.2.1)/\BM L (x.2.2.2.2.2.2.2.2.2.2.2.2.2.2.2.2.2.2.2.2.2.2.2.2.2.2.2.2.2.2.2.2.2.2.2.2.2.1,x.2.2.2.2.2.2.2.2.2.2.2.2.2.2.2.2.2.2.2.2.2.2.2.2.2.2.2.2.2.2.2.2.2.2.2.2.2.2.1)/\okL N (x.2.2.2.2.2.2.2.2.2.2.2.2.2.2.2.2.2.2.2.2.2.2.2.2.2.2.2.2.2.2.2.2.2.2.2.2.2.2.2.1)/\okM N (x.2.2.2.2.2.2.2.2.2.2.2.2.2.2.2.2.2.2.2.2.2.2.2.2.2.2.2.2.2.2.2.2.2.2.2.2.2.2.2.2.1)/\(x.2.2.2.2.2.2.2.2.2.2.2.2.2.2.2.2.2.2.2.2.2.2.2.2.2.2.2.2.2.2.2.2.2.2.2.2.2.2.2.2.2).length=2) (fun x=>(2 - x.1).toNat) ?_ N _ ⟨Int.le_refl _,by dsimp only;omega,m2,m3,m4,hn,f2,m6,⟨nl,nm⟩,rfl⟩ (by dsimp only;omega)
    rintro ⟨a0,a1,a2,a3,a4,a5,a6,a7,a8,a9,a10,a11,a12,a13,a14,a15,a16,a17,a18,a19,a20,a21,a22,a23,a24,a25,a26,a27,a28,a29,a30,a31,a32,a33,a34,a35,a36,a37,a38,a39,a40,a41⟩ ⟨q0,q1,q2,q3,q4,q5,q6,q7,q8,q9⟩ k5 hk5
    dsimp only[U42]at q0 q1 q2 q3 q4 q5 q6 q7 q8 q9 ⊢
    refine Ba (fun ht3=> ?_) fun _=> ?_
    ·have ht3:=of_decide_eq_true ht3
     refine A7 (decide_eq_true q0) (A7 (decide_eq_true (by omega)) (A7 (decide_eq_true (by omega)) ?_))
     rw[Af3 (y:=(a19,a20,a21,a22,a23,a24,a25,a26,a27,a28,a29,a30,a31,a32,a33,a34,a35)) q4 q5,AQ,Xd (y:=(a19,a20,a21,a22,a23,a24,a25,a26,a27,a28,a29,a30,a31,a32,a33,a34,a35)) q4 q5,AQ]
     have hsm:=AeC (by omega:0<N) q4 a36 (a41.getD a0.toNat 0)
     dsimp only at hsm ⊢
     obtain⟨ve,ee,hve⟩:=AbC N hN hsm
     have hve:ve=true:=hve
     subst hve
     generalize Qo a34 a36 (a41.getD a0.toNat 0)=F at ee hsm ⊢
     simp only[YY,ee,beq_self_eq_true,bne_self_eq_false,Bool.not_true,Bool.not_false,cond_true,cond_false,BU,Bool.or_true,Bool.true_or,Option.isSome_some,Option.getD_some]
     rw[w64 (by omega) (by omega)]
     exact hk5 _ ⟨by dsimp only;omega,by dsimp only;omega,q2,q3,q4,q5,q6,q7,q8,q9⟩ (by dsimp only;omega)
    ·dsimp only[U39]
     rw[w64 (by omega) (by omega)]
     exact hk' _ ⟨by dsimp only;omega,by dsimp only;omega,q2,q3,q4,q6,q7,q8⟩ (by dsimp only;omega)
   ·dsimp only[U21]
    rw[w64 (by omega) (by omega)]
    exact hk _ ⟨by dsimp only;omega,by dsimp only;omega,m2,m3,m5,m6⟩ (by dsimp only;omega)
  ·rw[hw,AQ,AcR,AcR]
   obtain⟨u1,eu1,_⟩:=yS N p4
   obtain⟨u2,eu2,_⟩:=yS N (i64.wrap (p5.tmod 14))
   simp only[eu1,eu2,beq_self_eq_true,Bool.not_true,Bool.not_false,cond_true,cond_false,BU,Bool.or_true,Bool.true_or,Option.isSome_some,Option.getD_some]
   exact Bj rfl
theorem Agi:ES 2097152=some true:=by
  have h:=Aen
  unfold N0 at h
  exact h
theorem Ae9 (p0:Yq4) (p1:List Yq0) (p2:Int) (L:List Int) (p4 p5:Int) (hL:L.length<=9223372036854775807):FC 2097152 p0 p1 p2 L p4 p5=some true:=by
  obtain⟨v,e,hv⟩:=Ae8 (N:=2097152) (by omega) Agi p0 p1 p2 L p4 p5 hL
  have hv:v=true:=hv
  rw[e,hv]
end Go.Proofs.YtbaomhegdndpnaaGreatDoor.Pl
namespace Go.Proofs.YtbaomhegdndpnaaGreatDoor.Vm
open Go.RowKit
theorem Moves.below {T:Nat->Prop} {w w':World} (h:Moves (fun _ _=>none) T w w'):Below w.heap.size w w' :=
  ⟨h.os,h.tape,h.output,h.size,fun b hb=>by
    rcases h.blk b hb with e | ⟨c,c',e,fr,_,_,_,_,k,o,_,ho,_⟩ | ⟨_,_,_,_,o,_,_,ho,_⟩
    ·exact e
    ·cases ho
    ·cases ho⟩
theorem Sig.Ahh {pars ress:List Sh} {f:ShT pars->Option (ShT (outS pars ress))} {xs:List A} {a:ShT pars} {o:ShT (outS pars ress)} (hd:LY pars xs=some a) (hf:f a=some o):(Sig.of pars ress f).F xs=some (encs (outS pars ress) o):=by
  unfold Sig.F Sig.of
  dsimp only
  rw[hd]
  dsimp only
  rw[hf]
  rfl
theorem Ad3 {P:Program} {f:FuncId} {sg:Sig} (h:Spec P f sg) {xs:List A} {vs:Array Value} {W:World} (hF:sg.F xs=some [.bool true]) (hress:sg.ress=[.cell false .bool]) (hv:vs.size=xs.length) (hl:xs.length=sg.pars.length) (h100:xs.length<=100)
    (hx: ∀ j,j<xs.length->IR (fun _ _=>none) W (256*j) (vs.getD j undef) (xs.getD j .undef)) (hI:Inv (fun _ _=>none) W):Calls P f vs W fun e w'=>e= .returned (.bool true)/\Below W.heap.size W w':=by
  refine(h.2 (fun _ _=>none) W vs xs _ hI hv hl h100 hx hF).mono fun e w' hq=> ?_
  obtain⟨v,O',he,hc⟩:=hq
  obtain⟨us,h1,h2,h3⟩:=hc.res
  rw[hress]at h1
  have h1':us.size=1:=h1
  have h4:Ai O' w' (us.getD 0 undef) (.bool true):=h3 0 (by omega)
  have h5:us.getD 0 undef= .bool true:=by
    generalize us.getD 0 undef=z at h4
    cases h4;rfl
  have h6:v= .bool true:=by
    rw[h2,dif_pos h1',<- h5]
    simp [Array.getD_eq_getD_getElem?,h1']
  exact⟨by rw[he,h6],hc.moves.below⟩
open Go.ChangeShapes Go.WideShapes
def nobody:Own:=fun _ _=>none
def AeQ:A->Prop
  | .int k n=>k.min<=n/\n<=k.max
  | .str s=>s.length<=9223372036854775807
  | _=>True
def okN:Nat->A->Prop
  | 0,_=>False
  | n+1,.sl l=>l.xs.length<=9223372036854775807/\ ∀ c∈l.es,∀ a∈c,okN n a
  | _+1,a=>AeQ a
structure Opened (n:Nat) (w:World) (ks:List CK) (cs:List Value) (aa:List A):Prop where
  lc:cs.length=ks.length
  la:aa.length=ks.length
  rel: ∀ j,j<ks.length->Ai nobody w (cs.getD j undef) (aa.getD j .undef)
  made:((tyl ks).mk aa).1=true
  ok: ∀ a∈aa,okN n a
theorem Ag0: ∀(n:Nat) (a:A),okN n a->okN (n+1) a:=by
  intro n
  induction n with
  | zero=>intro a h;exact h.elim
  | succ n ih =>
    intro a h
    cases a<;>first | exact h | exact⟨h.1,fun c hc z hz=>ih z (h.2 c hc z hz)⟩
theorem Opened.up {n:Nat} {w:World} {ks:List CK} {cs:List Value} {aa:List A} (h:Opened n w ks cs aa):Opened (n+1) w ks cs aa:=⟨h.lc,h.la,h.rel,h.made,fun a ha=>Ag0 n a (h.ok a ha)⟩
theorem Ad7: ∀(a:List CK) {b:List CK} {x y:List A},((tyl a).mk x).1=true->((tyl b).mk y).1=true->((tyl (a++b)).mk (x++y)).1=true:=by
  intro a
  induction a with
  | nil =>
    intro b x y hx hy
    cases x with
    | nil=>exact hy
    | cons _ _=>cases hx
  | cons k a ih =>
    intro b x y hx hy
    cases k with
    | bool =>
      cases x with
      | nil=>cases hx
      | cons c x=>cases c<;>first | exact ih (x:=x) hx hy | cases hx
    | int k =>
      cases x with
      | nil=>cases hx
      | cons c x =>
        cases c<;>first
          | (simp only[tyl,Ty.mk,Bool.and_eq_true]at hx
             simp only[List.cons_append,tyl,Ty.mk,Bool.and_eq_true]
             exact⟨hx.1,ih hx.2 hy⟩)
          | cases hx
    | str =>
      cases x with
      | nil=>cases hx
      | cons c x=>cases c<;>first | exact ih (x:=x) hx hy | cases hx
    | sl e t =>
      cases x with
      | nil=>cases hx
      | cons c x =>
        cases c with
        | sl l =>
          simp only[tyl,Ty.mk]at hx
          simp only[List.cons_append,tyl,Ty.mk]
          cases hc:l.cast t with
          | none=>rw[hc]at hx;cases hx
          | some xs=>rw[hc]at hx;exact ih (x:=x) hx hy
        | _=>cases hx
    | sln e t =>
      cases x with
      | nil=>cases hx
      | cons c x =>
        cases c with
        | sl l =>
          simp only[tyl,Ty.mk]at hx
          simp only[List.cons_append,tyl,Ty.mk]
          cases hc:l.cast t with
          | none=>rw[hc]at hx;cases hx
          | some xs=>rw[hc]at hx;exact ih (x:=x) hx hy
        | _=>cases hx
    | ptr =>
      cases x with
      | nil=>cases hx
      | cons c x=>cases c<;>first | exact ih (x:=x) hx hy | cases hx
    | fn =>
      cases x with
      | nil=>cases hx
      | cons c x=>cases c<;>first | exact ih (x:=x) hx hy | cases hx
    | mp kt vt =>
      cases x with
      | nil=>cases hx
      | cons c x =>
        cases c with
        | ump l =>
          simp only[tyl,Ty.mk]at hx
          simp only[List.cons_append,tyl,Ty.mk]
          cases hc:l.cast kt vt with
          | none=>rw[hc]at hx;cases hx
          | some xs=>rw[hc]at hx;exact ih (x:=x) hx hy
        | _=>cases hx
    | bx t =>
      cases x with
      | nil=>cases hx
      | cons c x =>
        cases c with
        | sl l =>
          simp only[tyl,Ty.mk]at hx
          simp only[List.cons_append,tyl,Ty.mk]
          cases hc:l.cast t with
          | none=>rw[hc]at hx;cases hx
          | some xs=>rw[hc]at hx;exact ih (x:=x) hx hy
        | _=>cases hx
    | oth =>
      cases x with
      | nil=>cases hx
      | cons c x=>cases c<;>first | exact ih (x:=x) hx hy | cases hx
theorem Opened.nil {n:Nat} {w:World}:Opened n w [] [] []:=⟨rfl,rfl,fun j hj=>absurd hj (Nat.not_lt_zero j),rfl,fun a ha=>(by cases ha)⟩
theorem Opened.append {n:Nat} {w:World} {a b:List CK} {x y:List Value} {p q:List A} (h1:Opened n w a x p) (h2:Opened n w b y q):Opened n w (a++b) (x++y) (p++q):=by
  refine⟨by simp [h1.lc,h2.lc],by simp [h1.la,h2.la],fun j hj=> ?_,Ad7 a h1.made h2.made,fun z hz=> ?_⟩
  ·rw[List.length_append]at hj
   by_cases h:j<a.length
   ·have:=h1.rel j h
    rw[List.getD_eq_getElem?_getD,List.getElem?_append_left (by rw[h1.lc];exact h),<- List.getD_eq_getElem?_getD,List.getD_eq_getElem?_getD (l:=p++q),List.getElem?_append_left (by rw[h1.la];exact h),<- List.getD_eq_getElem?_getD]
    exact this
   ·have:=h2.rel (j - a.length) (by omega)
    rw[List.getD_eq_getElem?_getD,List.getElem?_append_right (by rw[h1.lc];omega),<- List.getD_eq_getElem?_getD,List.getD_eq_getElem?_getD (l:=p++q),List.getElem?_append_right (by rw[h1.la];omega),<- List.getD_eq_getElem?_getD,h1.lc,h1.la]
    exact this
  ·rcases List.mem_append.1 hz with hz | hz
   ·exact h1.ok z hz
   ·exact h2.ok z hz
theorem Opened.one {n:Nat} {w:World} {k:CK} {v:Value} {a:A} (hr:Ai nobody w v a) (hm:((tyl [k]).mk [a]).1=true) (ho:okN n a):Opened n w [k] [v] [a] :=
  ⟨rfl,rfl,fun j hj=>by
    have:j=0:=by simp at hj;omega
    subst this;exact hr,hm,fun z hz=>by rw[List.mem_singleton.1 hz];exact ho⟩
def MM (P:Program) (n t:Nat):Nat:=match D7 P n t with | some cs=>cs.length | none=>0
def jW (P:Program) (n:Nat):List Field->Nat->Bool
  | [],_=>true
  | f::r,o=>Nat.beq f.offset o&&Nat.beq (P.cellsOf f.type) (MM P n f.type)&&jW P n r (o+MM P n f.type)
def QB (P:Program):Nat->Nat->Bool
  | 0,_=>false
  | n+1,t=>match P.underlying t with
    | some .bool=>true
    | some (.int _)=>true
    | some .string=>true
    | some (.slice e)=>QB P n e&&Nat.beq (P.cellsOf e) (MM P n e)&&Nat.blt 0 (MM P n e)&&(match D7 P n e with | some cs=>cs.all CK.plain | none=>false)
    | some (.struct fs)=>Nat.beq (P.cellsOf t) (MM P (n+1) t)&&jW P n fs.toList 0&&fs.toList.all (fun f=>QB P n f.type)
    | _=>false
section
variable {H:Type} {enc:TypeId×Value->H} {P:Program} {w:World} {base:Nat} {spare:Nat->Bool} {held:Bool}
theorem Xq {a:Addr} {n:Nat} {cs:List Value} (h:w.cells? base a n=some cs):cs.length=n/\ ∀ j,j<n->w.cell? (a.add j)=some (cs.getD j undef):=by
  unfold World.cells? at h
  split at h
  ·have key: ∀(l:List Nat) (cs:List Value),l.mapM (fun i=>w.cell? (a.add i))=some cs->cs.length=l.length/\ ∀ j (hj:j<l.length),w.cell? (a.add l[j])=some (cs.getD j undef):=by
     intro l
     induction l with
     | nil=>grind
     | cons i l ih =>
       intro cs h
       rw[List.mapM_cons]at h
       cases h1:w.cell? (a.add i)with
       | none=>rw[h1]at h;cases h
       | some v =>
         rw[h1]at h
         cases h2:l.mapM (fun i=>w.cell? (a.add i))with
         | none=>rw[h2]at h;cases h
         | some r =>
           rw[h2]at h
           injection h with h
           subst h
           obtain⟨k1,k2⟩:=ih r h2
           refine⟨by simp [k1],fun j hj=> ?_⟩
           cases j with
           | zero=>exact h1
           | succ j=>grind
   all_goals grind
  ·cases h
theorem Afh {l:List Value} {o a b:Nat}:(l.drop o).take (a+b)=(l.drop o).take a++(l.drop (o+a)).take b:=by
  rw[List.take_add,List.drop_drop]
theorem VQ (e:Nat) (t:Ty) (xs:List t.Val):((tyl [.sl e t]).mk [.sl ⟨t,xs⟩]).1=true:=by
  simp only[tyl,Ty.mk]
  rw[Sl.Nb]
  rfl
theorem aV (hspare: ∀ b,spare b=true): ∀(n:Nat) (t:TypeId) (ks:List CK) (fuel:Nat) (cs:List Value) (x:DataW H×List MemPlace),D7 P n t=some ks->QB P n t=true->DataW.trod enc P w base spare held fuel t cs=some x ->
    ∃ aa,Opened n w ks cs aa:=by
  intro n
  induction n with
  | zero=>intro t ks fuel cs x h;cases h
  | succ n ih =>
    intro t ks fuel cs x hck hok h
    unfold D7 at hck
    unfold QB at hok
    cases hu:P.underlying t with
    | none=>rw[hu]at hck;cases hck
    | some d =>
      rw[hu]at hck hok
      cases d with
      | bool =>
        injection hck with hck
        subst hck
        obtain⟨b,rfl,_⟩:=DataW.trod_bool hu h
        exact⟨[.bool b],Opened.one (.bool b) rfl trivial⟩
      | int k =>
        injection hck with hck
        subst hck
        obtain⟨v,rfl,_,hw⟩:=DataW.trod_int hu h
        have hk:AeQ (.int k v):=by
          unfold Lit.wf at hw
          rw[Bool.and_eq_true,decide_eq_true_eq,decide_eq_true_eq]at hw
          exact hw
        exact⟨[.int k v],Opened.one (.int k v) (by cases k<;>rfl) hk⟩
      | string =>
        injection hck with hck
        subst hck
        obtain⟨v,rfl,_,hw⟩:=DataW.trod_string hu h
        have hk:AeQ (.str v.data.toList):=by
          show v.data.toList.length<=_
          have e:v.data.toList.length=v.size:=by rw[Array.length_toList];rfl
          have:maxLen=9223372036854775807:=rfl
          omega
        exact⟨[.str v.data.toList],Opened.one (.str v) rfl hk⟩
      | slice e =>
        dsimp only at hck hok
        simp only[Bool.and_eq_true]at hok
        obtain⟨⟨⟨hoe,hce⟩,hc0⟩,hpl⟩:=hok
        cases hke:D7 P n e with
        | none=>rw[hke]at hpl;cases hpl
        | some ke =>
          rw[hke]at hck hpl
          dsimp only at hck hpl
          rw[hpl]at hck
          injection hck with hck
          subst hck
          have hlen:P.cellsOf e=ke.length:=by
            have:=Nat.eq_of_beq_eq_true hce
            unfold MM at this
            rw[hke]at this;exact this
          rcases DataW.trod_slice hu h with ⟨rfl,_⟩ | ⟨a,len,cap,elems,rest,m,_,rfl,_,hb,hl,hm,hel,hels,hsp,_⟩
          ·exact⟨[.sl ⟨tyl ke,[]⟩],Opened.one (.nil _) (VQ _ _ _) ⟨Nat.zero_le _,fun c hc=>(by cases hc)⟩⟩
          ·by_cases hcap:cap=0
           ·have hlen0:len=0:=by omega
            subst hcap
            subst hlen0
            exact⟨[.sl ⟨tyl ke,[]⟩],Opened.one (.sl0 a _) (VQ _ _ _) ⟨Nat.zero_le _,fun c hc=>(by cases hc)⟩⟩
           have hk0:0<P.cellsOf e:=by
             have h2:=Nat.eq_of_beq_eq_true hce
             rw[h2]
             simpa using hc0
           have hread: ∃ u,w.cell? a=some u:=by
             by_cases h0:0<len
             ·have he:=hels 0 h0
              rw[List.getElem?_eq_getElem (by omega:0<elems.length),Option.bind_eq_some_iff]at he
              obtain⟨q,hq,_⟩:=he
              obtain⟨_,k2⟩:=Xq hq
              have:=k2 0 hk0
              rw[Nat.zero_mul]at this
              exact⟨_,this⟩
             ·have hz:len=0:=by omega
              obtain⟨hr1,hr2⟩:=hsp (hspare _)
              have he:=hr2 0 (by omega)
              rw[List.getElem?_eq_getElem (by omega:0<rest.length),Option.bind_eq_some_iff]at he
              obtain⟨q,hq,_⟩:=he
              obtain⟨_,k2⟩:=Xq hq
              have:=k2 0 hk0
              rw[hz,Nat.zero_mul]at this
              exact⟨_,this⟩
           have hspot:a.spot=none:=by
             obtain⟨u,hu⟩:=hread
             unfold World.cell? at hu
             split at hu
             ·cases hs:a.spot with
              | none=>rfl
              | some z=>rw[hs]at hu;cases hu
             ·cases hu
           have ha:a=at' a.block a.off:=by
             obtain⟨b,o,sp⟩:=a
             dsimp only at hspot
             rw[hspot]
           have each: ∀ i,∃(q:List Value) (aa:List A),i<len->(∀ j,j<ke.length->w.cell? (at' a.block (a.off+(i*ke.length+j)))=some (q.getD j undef))/\Opened n w ke q aa:=by
             intro i
             by_cases hi:i<len
             ·have he:=hels i hi
              have hei:elems[i]? =some (elems[i]'(by omega)):=List.getElem?_eq_getElem (by omega)
              rw[hei,Option.bind_eq_some_iff]at he
              obtain⟨q,hq,hq2⟩:=he
              obtain⟨k1,k2⟩:=Xq hq
              rw[hlen]at k1 k2
              obtain⟨aa,h1⟩:=ih e ke m q _ hke hoe hq2
              refine⟨q,aa,fun _=>⟨fun j hj=> ?_,h1⟩⟩
              have:=k2 j hj
              rw[ha,FM,FM]at this
              rw[<- this];congr 2;omega
             ·exact⟨[],[],fun h=>absurd h hi⟩
           obtain⟨q,hq⟩:=Classical.axiomOfChoice each
           obtain⟨aa,haa⟩:=Classical.axiomOfChoice hq
           let l:Sl:=⟨tyl ke,(List.range len).map fun i=>((tyl ke).mk (aa i)).2⟩
           have hes:l.es=(List.range len).map aa:=by
             show((List.range len).map fun i=>((tyl ke).mk (aa i)).2).map (tyl ke).cells=_
             rw[List.map_map]
             refine List.map_congr_left fun i hi=> ?_
             exact Ty.Ej _ _ (haa i (List.mem_range.1 hi)).2.made
           have hesl:l.es.length=len:=by rw[hes,List.length_map,List.length_range]
           have hsz:l.sz=ke.length:=IM ke
           have hget: ∀ i,i<len->l.es.getD i []=aa i:=fun i hi=>by
             rw[hes,List.getD_eq_getElem?_getD,List.getElem?_map,List.getElem?_range hi];rfl
           have hrel:Ai nobody w (.slice (some a) len cap) (.sl l):=by
             rw[ha,<- hesl]
             refine Ai.sl (fun i j=>(q i).getD j undef) (by rw[hesl];exact hl) (fun i j hi hj=> ?_) (fun i j hi hj=> ?_)
             ·rw[hsz]at hj ⊢
              exact⟨rfl,(haa i (by rw[<- hesl];exact hi)).1 j hj⟩
             ·rw[hsz]at hj
              have hi':i<len:=by rw[<- hesl];exact hi
              rw[hget i hi']
              exact(haa i hi').2.rel j hj
           refine⟨[.sl l],Opened.one hrel (VQ _ _ _) ⟨?_,fun c hc z hz=> ?_⟩⟩
           ·show((List.range len).map _).length<=_
            rw[List.length_map,List.length_range]
            have:maxLen=9223372036854775807:=rfl
            omega
           ·rw[hes]at hc
            obtain⟨i,hi,rfl⟩:=List.mem_map.1 hc
            exact(haa i (List.mem_range.1 hi)).2.ok z hz
      | struct fs =>
        dsimp only at hck hok
        simp only[Bool.and_eq_true]at hok
        obtain⟨⟨hcl,hoff⟩,hall⟩:=hok
        obtain⟨xs,m,_,_,hl,hxl,hxs⟩:=DataW.trod_struct hu h
        have fields: ∀(l:List Field) (o:Nat) (ks:List CK),l.foldr (fun f acc=>match D7 P n f.type,acc with | some a,some b=>some (a++b) | _,_=>none) (some [])=some ks->jW P n l o=true->(∀ f∈l,QB P n f.type=true) ->
            (∀ f∈l,∃ y,DataW.trod enc P w base spare held m f.type ((cs.drop f.offset).take (P.cellsOf f.type))=some y)-> ∃ aa,Opened n w ks ((cs.drop o).take ks.length) aa:=by
          intro l
          induction l with
          | nil =>
            intro o ks hk _ _ _
            injection hk with hk
            subst hk
            exact⟨[],Opened.nil⟩
          | cons f r ihr =>
            intro o ks hk ho hf hy
            rw[List.foldr_cons]at hk
            cases ha:D7 P n f.type with
            | none=>rw[ha]at hk;cases hk
            | some a =>
              rw[ha]at hk
              cases hb:r.foldr (fun f acc=>match D7 P n f.type,acc with | some a,some b=>some (a++b) | _,_=>none) (some [])with
              | none=>rw[hb]at hk;cases hk
              | some b =>
                rw[hb]at hk
                injection hk with hk
                subst hk
                have hal:MM P n f.type=a.length:=by unfold MM;rw[ha]
                unfold jW at ho
                simp only[Bool.and_eq_true]at ho
                obtain⟨⟨h1,h2⟩,h3⟩:=ho
                have h1:=Nat.eq_of_beq_eq_true h1
                have h2:=Nat.eq_of_beq_eq_true h2
                rw[hal]at h2 h3
                obtain⟨y,hy1⟩:=hy f List.mem_cons_self
                rw[h1,h2]at hy1
                obtain⟨pa,p1⟩:=ih f.type a m _ y ha (hf f List.mem_cons_self) hy1
                obtain⟨pb,q1⟩:=ihr (o+a.length) b hb h3 (fun g hg=>hf g (List.mem_cons_of_mem _ hg)) (fun g hg=>hy g (List.mem_cons_of_mem _ hg))
                refine⟨pa++pb,?_⟩
                rw[List.length_append,Afh]
                exact p1.append q1
        obtain⟨aa,h1⟩:=fields fs.toList 0 ks hck hoff (fun f hf=>List.all_eq_true.1 hall f hf) (fun f hf=>by
          obtain⟨i,hi⟩:=List.getElem?_of_mem hf
          have hi':fs[i]? =some f:=by rw[<- Array.getElem?_toList];exact hi
          have:=hxs i f hi'
          have hlt:i<xs.length:=by
            rw[hxl]
            exact(Array.getElem?_eq_some_iff.1 hi').1
          rw[List.getElem?_eq_getElem hlt]at this
          exact⟨_,this⟩)
        have hcs:(cs.drop 0).take ks.length=cs:=by
          rw[List.drop_zero]
          refine List.take_of_length_le ?_
          have h3:=Nat.eq_of_beq_eq_true hcl
          have h4:MM P (n+1) t=ks.length:=by
            unfold MM D7
            rw[hu]
            dsimp only
            rw[hck]
          omega
        rw[hcs]at h1
        exact⟨aa,h1.up⟩
      | _=>cases hok
theorem Aby {r:Reach} {b0:Nat} {u:TypeId} {cs:Array Value} (h:Cell.okWide P w r b0 u (.agg cs)):False:=by
  have h':Cell.ok P w r b0 u (.agg cs):=by
    unfold Cell.okWide at h
    all_goals grind
  unfold Cell.ok at h'
  all_goals grind
def Abh (P:Program) (t:TypeId):Bool:=match P.underlying t with
  | some (.struct _)=>true
  | some (.array _ _)=>true
  | _=>false
theorem open_cell {r:Reach} {b0 n:Nat} {t:TypeId} {v:Value} {d:DataW H} {ps:List MemPlace} {k:CK} (hck:D7 P n t=some [k]) (hspare: ∀ b,spare b=true) (hok:QB P n t=true) (ha:Abh P t=false) (hval:Value.okWide P w r b0 t v) (hd:DataW.Trod enc P w base spare held t v d ps) :
    ∃ a,Ai nobody w v a/\((tyl [k]).mk [a]).1=true/\okN n a:=by
  have hc:Cell.okWide P w r b0 t v:=by
    unfold Value.okWide at hval
    all_goals grind[Abh]
  have hcells:v.cells.toList=[v]:=by
    cases v with
    | agg cs=>exact(Aby hc).elim
    | _=>rfl
  obtain⟨fuel,h⟩:=hd
  rw[hcells]at h
  obtain⟨aa,h1⟩:=aV hspare n t [k] fuel [v] _ hck hok h
  obtain⟨a,rfl⟩: ∃ a,aa=[a]:=List.length_eq_one_iff.1 h1.la
  exact⟨a,h1.rel 0 (by show 0<1;omega),h1.made,h1.ok a List.mem_cons_self⟩
theorem yJ {r:Reach} {b0 n:Nat} {t:TypeId} {v:Value} {d:DataW H} {ps:List MemPlace} {ks:List CK} (hck:D7 P n t=some ks) (hspare: ∀ b,spare b=true) (hok:QB P n t=true) (ha:Abh P t=true) (hval:Value.okWide P w r b0 t v) (hd:DataW.Trod enc P w base spare held t v d ps) :
    ∃(cs:Array Value) (aa:List A),v= .agg cs/\Opened n w ks cs.toList aa:=by
  have hc: ∃ cs,v= .agg cs/\cs.size=P.cellsOf t/\Row.okWide P w r b0 t cs:=by
    unfold Value.okWide at hval
    all_goals grind[Abh]
  obtain⟨cs,rfl,_,ts,_,_,hrow⟩:=hc
  obtain⟨fuel,h⟩:=hd
  obtain⟨aa,h1⟩:=aV hspare n t ks fuel cs.toList _ hck hok h
  exact⟨cs,aa,rfl,h1⟩
theorem Opened.ir {n:Nat} {ks:List CK} {cs:Array Value} {aa:List A} (h:Opened n w ks cs.toList aa) (id:Nat):IR nobody w id (.agg cs) (.agg aa):=by
  refine⟨cs,rfl,?_,fun j hj=>Ai.ic ?_⟩
  ·rw[<- Array.length_toList,h.lc,h.la]
  ·have:=h.rel j (by rw[<- h.la];exact hj)
   all_goals simp_all[CK,IR,nobody]
theorem Ai.ir {id:Nat} {v:Value} {a:A} (h:Ai nobody w v a):IR nobody w id v a:=by
  have:=h.ic (id:=id)
  cases h<;>exact this
end
end Go.Proofs.YtbaomhegdndpnaaGreatDoor.Vm
namespace Go.Proofs.YtbaomhegdndpnaaGreatDoor.Vm
open Go Go.Lib
abbrev tabs:List (String×DataW Unit):=[("math/bits.deBruijn32tab",Rows.laid_math_bits_deBruijn32tab),("math/bits.deBruijn64tab",Rows.laid_math_bits_deBruijn64tab),("internal/strconv.uint64pow10",Rows.laid_internal_strconv_uint64pow10),("unicode/utf8.acceptRanges",Rows.laid_unicode_utf8_acceptRanges),("certpath/date.lengths",Rows.laid_certpath_date_lengths),("unicode/utf8.first",Rows.laid_unicode_utf8_first)]
def Ahg:DataW Unit->Value
  | .lit (.int k n)=>.int k n
  | _=>undef
def oU:DataW Unit->List Value
  | .agg l=>l.map Ahg
  | _=>[]
def Ahj:DataW Unit->List Value
  | .agg l=>l.flatMap oU
  | _=>[]
noncomputable def laidWorld (os:Os):World :=
  let w0:=World.holding Tryz.prog os ⟨#[],#[],[]⟩
  {w0 with heap:=(((((w0.heap.modify 2 fun
     | .cells _ t frozen=>.cells (oU Rows.laid_internal_strconv_uint64pow10).toArray t frozen
     | o=>o).modify 3 fun
     | .cells _ t frozen=>.cells (oU Rows.laid_unicode_utf8_first).toArray t frozen
     | o=>o).modify 4 fun
     | .cells _ t frozen=>.cells (Ahj Rows.laid_unicode_utf8_acceptRanges).toArray t frozen
     | o=>o).modify 5 fun
     | .cells _ t frozen=>.cells (oU Rows.laid_math_bits_deBruijn32tab).toArray t frozen
     | o=>o).modify 0 fun
     | .cells _ t frozen=>.cells (oU Rows.laid_certpath_date_lengths).toArray t frozen
     | o=>o).modify 6 fun
     | .cells _ t frozen=>.cells (oU Rows.laid_math_bits_deBruijn64tab).toArray t frozen
     | o=>o}
theorem laid_met (os:Os) (args:Array Value):laidMet Tryz.prog tabs ((laidWorld os).forCall (fun _ _=>0) ⟨#[],args,[]⟩).memory :=
  laidMet_of_run' 8 (by kernel_rfl) (by kernel_rfl)
set_option maxRecDepth 1000000 in
theorem vV {W:World} (h:laidMet Tryz.prog tabs W) {nm:String} {D:DataW Unit} (hm:(nm,D)∈tabs) {g tA tE n:Nat} {k:IntKind} {f:Nat->Int} (hg0:Tryz.prog.globalNamed nm=some g) (ht0:(Tryz.prog.globals[g]?).map (·.type)=some tA) (hu:Tryz.prog.underlying tA=some (.array n tE)) (hu2:Tryz.prog.underlying tE=some (.int k)) (hc:Tryz.prog.cellsOf tE=1)
    (hds:D= .agg ((List.range n).map fun j=>.lit (.int k (f j)))) (j:Nat) (hj:j<n):W.cell? ⟨g,j,none⟩=some (.int k (f j)):=by
  obtain⟨g',t,cs,fuel,p,hg,ht,hvar,hd⟩:=laidMet.reads h (n:=nm) (d:=D) hm
  obtain rfl:=Option.some.inj (hg0.symm.trans hg)
  obtain rfl:=Option.some.inj (ht0.symm.trans ht)
  rw[hds]at hd
  obtain⟨fuel',d,q,h1,h2⟩:=array_elem hu hd j hj
  rw[List.getElem?_map,List.getElem?_range hj]at h1
  have h1:=Option.some.inj h1
  subst h1
  rw[hc,Nat.mul_one]at h2
  obtain⟨m,h3,h4,_⟩:=DataW.trod_int hu2 h2
  have hn:f j=m:=by
    have:=congrArg Prod.fst h4
    injection this with this
    injection this with _ this
  rw[World.var?_cell hg hvar j]
  have h5:(cs.toList.drop j)[0]? =some (.int k m):=by
    have:((cs.toList.drop j).take 1)[0]? =some (.int k m):=by rw[h3];rfl
    rwa [List.getElem?_take_of_lt (by omega)]at this
  rw[List.getElem?_drop,Nat.add_zero,Array.getElem?_toList]at h5
  rw[h5,hn]
set_option maxRecDepth 1000000 in
theorem AeU {W:World} (h:laidMet Tryz.prog tabs W) (j:Nat) (hj:j<20):W.cell? ⟨2,j,none⟩=some (.int .u64 ((10 ^ j:Nat):Int)):=by
  have hds:(Rows.laid_internal_strconv_uint64pow10:DataW Unit)= .agg ((List.range 20).map fun j=>.lit (.int .u64 ((10 ^ j:Nat):Int))):=by kernel_rfl
  have hm:(("internal/strconv.uint64pow10",Rows.laid_internal_strconv_uint64pow10):String×DataW Unit)∈tabs:=List.mem_cons_of_mem _ (List.mem_cons_of_mem _ List.mem_cons_self)
  generalize (Rows.laid_internal_strconv_uint64pow10:DataW Unit)=D at hds hm
  exact vV h (nm:= "internal/strconv.uint64pow10") (D:=D) hm (g:=2) (tA:=343) (tE:=265) (n:=20) (k:=.u64) (f:=fun j=>((10 ^ j:Nat):Int)) (by kernel_rfl) (by kernel_rfl) (by kernel_rfl) (by kernel_rfl) (by kernel_rfl) hds j hj
set_option maxRecDepth 1000000 in
theorem AeI {W:World} (h:laidMet Tryz.prog tabs W) (j:Nat) (hj:j<12):W.cell? ⟨0,j,none⟩=some (.int .i64 (([31,28,31,30,31,30,31,31,30,31,30,31]:List Int).getD j 0)) :=
  vV h (nm:= "certpath/date.lengths") (D:=Rows.laid_certpath_date_lengths) (List.mem_cons_of_mem _ (List.mem_cons_of_mem _ (List.mem_cons_of_mem _ (List.mem_cons_of_mem _ List.mem_cons_self)))) (g:=0) (tA:=276) (tE:=3) (n:=12) (k:=.i64) (f:=fun j=>([31,28,31,30,31,30,31,31,30,31,30,31]:List Int).getD j 0) (by kernel_rfl) (by kernel_rfl) (by kernel_rfl) (by kernel_rfl) (by kernel_rfl) (by kernel_rfl) j hj
theorem inv_of {W:World} (hs:W.ShapedOpen Tryz.prog) (hl:laidMet Tryz.prog tabs W):Inv nobody W:=by
  refine⟨fun g j p h=> ?_,fun g n h=> ?_⟩
  ·unfold TD at h
   split at h
   ·injection h with h
    subst h
    obtain⟨m,hm⟩:=cell_of_shapedOpen_int (P:=Tryz.prog) (g:=1) (t:=3) (zero:= #[.int .i64 0]) (k:=.i64) hs (of_decide_eq_true (by kernel_rfl)) (by kernel_rfl) rfl (by kernel_rfl) (by kernel_rfl) (by kernel_rfl)
    exact⟨rfl,_,hm,m,rfl⟩
   ·split at h
    ·rename_i hj
     injection h with h
     subst h
     exact⟨rfl,_,AeU hl _ hj,rfl⟩
    ·cases h
   ·unfold YM at h
    split at h
    ·have h:(if j<12 then some (fun v=>v=Value.int .i64 (([31,28,31,30,31,30,31,31,30,31,30,31]:List Int).getD j 0))else none)=some p:=h
     split at h
     ·rename_i hj
      injection h with h
      subst h
      exact⟨rfl,_,AeI hl _ hj,rfl⟩
     ·cases h
    ·cases h
  ·unfold Afj at h
   split at h
   ·injection h with h
    subst h
    obtain⟨cs,h1,h2,_⟩:=hs.1 2 (Array.replicate 20 (.int .u64 0)) 343 (of_decide_eq_true (by kernel_rfl)) (by kernel_rfl)
    exact⟨cs,_,_,h1,h2⟩
   ·cases h
section
variable {H:Type} {enc:TypeId×Value->H}
theorem yZ {a:Assume} {C:Checked} {os:Os} {f:FuncId} {fn:Func} {s:ChangeSpec} {conds:List PathCond} {apart fresh handsOn again:Bool} {X:World->Array Value->Prop}
    (hX: ∀(w w':World) (args:Array Value),w.heap=w'.heap->X w args->X w' args)
    (own:ownKnob C.prog.godebug=none) (started:os.Started) (noInit:C.prog.inits.idxOf? f=none) (hfn:C.prog.funcs[f]? =some fn)
    (witness: ∃(w:World) (tape:Tape) (i:Input),w.os=os/\(w.forCall tape i).Shaped C.prog/\i.vars=[]/\Input.okWide C.prog (w.forCall tape i) .any w.heap.size f i /\
      ((s.pre enc C.prog fn conds apart (w.forCall tape i).memory i.args/\X (w.forCall tape i).memory i.args)/\sizedMet enc C.prog fn (OpenSpec.ofChange s) apart (w.forCall tape i).memory i.args)/\a.holds C.prog (lone (Frame.enter C.prog f i.args .normal) [] (w.forCall tape i)))
    (contract: ∀(W:World) (base:Nat) (args:Array Value) (ds gs:List (DataW H)) (before:List MemPlace),
      (∀(j:Nat) t v,fn.params[j]? =some t->args[j]? =some v->Value.okWide C.prog W .any base t v) ->
      DataW.Whole enc C.prog fn.params.toList s.vars apart W args.toList ds gs before->W.ShapedOpen C.prog->X W args ->
      Calls C.prog f args W fun e W'=> ∃ v,e= .returned v/\s.post enc C.prog fn apart fresh handsOn again W args v W') :
    ReturnsInHanded a C os f .any (fun w args=>(s.pre enc C.prog fn conds apart w args/\X w args)/\sizedMet enc C.prog fn (OpenSpec.ofChange s) apart w args) (s.post enc C.prog fn apart fresh handsOn again):=by
  refine returnsInHanded_of_calls own started noInit witness ?_
  intro w tape i _ hsh _ hok hpre _
  obtain⟨_,_,_,fn',hfn',_,_,_,_,hval⟩:=hok
  obtain rfl:=Option.some.inj (hfn'.symm.trans hfn)
  obtain⟨⟨⟨ds,gs,before,hw,_⟩,hx⟩,_⟩:=hpre
  refine(contract (w.forCall tape i) w.heap.size i.args ds gs before hval (DataW.Whole.of_heap (w':=w.forCall tape i) (by rfl) hw) hsh (hX _ _ _ (by rfl) hx)).mono fun e W' ⟨v,he,hp⟩=> ?_
  subst he
  exact ChangeSpec.post_blind hp
end
