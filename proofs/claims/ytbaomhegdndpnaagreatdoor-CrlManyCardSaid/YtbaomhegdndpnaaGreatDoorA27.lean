import Derived.Test.YtbaomhegdndpnaaGreatDoorA26
import Derived.ChangeArms
import Derived.SliceStrings
import Derived.Test.YtbaomhegdndpnaaGreatDoorRows
import Derived.Test.YtbaomhegdndpnaaGreatDoorChecked
import Derived.Lib.LaidU8
import Derived.Shelf.Vars
import Derived.HandedShaped
import Derived.LaidLaws
set_option linter.all false
namespace Go.Proofs.YtbaomhegdndpnaaGreatDoor.Pl
open IntKind (i64)
open Go Vm
structure Lis (N:Nat) (au:List Yq0) (es:List Yq1):Prop where
  iss:Iss N au
  ent: ∀ j,j<es.length->Ent au es j
  dif: ∀ i j,i<es.length->j<i->(es.getD j d1).1≠(es.getD i d1).1
  len:es.length<=1000
  sc:DW N (xL au es)=some 0
  rsc:Du N (xL au es)=some 0
  pt:BU N []=some 0
  rpt:DC N []=some 0
theorem AdH {N:Nat} {au:List Yq0} {es:List Yq1} (h:Lis N au es):GV N (xL au es)=some (if es.length<=256 then 0 else 2):=by
  have hi:=h.iss
  have hN:=hi.big
  have hsc:DW N (([]:Bs),([]:Bs),au,0,0,3,(-1),([]:Bs),false,([]:List Yq2),false,false,0,false,([]:List Yq3),es,([]:Bs))=some 0:=h.sc
  unfold GV xL
  dsimp only
  simp only[hi.len,hi.chk,hsc,h.pt,AP,YW,Pz N (by decide:(0:Int)<=0) (by decide:(0:Int)<=254033452799),Pz N (by decide:(0:Int)<=3) (by decide:(3:Int)<=4611686018427387904),Pz N (by decide:(-1:Int)<= -1) (by decide:(-1:Int)<=4611686018427387904),cond_true,cond_false,G8,Option.isSome_some,Option.getD_some,Bool.not_false,Bool.not_true,Bool.or_true,Bool.true_or,Bool.and_false,Bool.or_false,bne_self_eq_false,decide_eq_false (by decide: ¬((0:Int)>0)),List.length_nil]
  refine Eq.trans (show _=bif false then some 2 else _ from rfl) ?_
  rw[cond_false]
  by_cases hl:es.length<=256
  ·rw[if_pos hl,decide_eq_false (by omega),cond_false]
   refine Hl (X:=Int×Bs×Bs×List Yq0×Int×Int×Int×Int×Bs×Bool×List Yq2×Bool×Bool×Int×Bool×List Yq3×List Yq1×Bs) (fun x=>0<=x.1/\x.1<=(es.length:Int)/\x.2=xL au es) (fun x=>((es.length:Int) - x.1).toNat) (fun _=>some 0) ?_ N _ ⟨by show(0:Int)<=0;omega,by show(0:Int)<=es.length;omega,rfl⟩ (by show((es.length:Int) - 0).toNat<N;omega)
   rintro ⟨t,x⟩ ⟨h1,h2,h3⟩ k hk
   have h1:0<=t:=h1
   have h2:t<=(es.length:Int):=h2
   have h3:x=xL au es:=h3
   subst h3
   dsimp only[U18]
   by_cases hlt:t<(es.length:Int)
   ·have e:=AdQ hi hl (i:=t.toNat) (fun j hj=>h.ent j (by omega)) (fun j hj=>h.dif _ _ (by omega) hj)
    rw[Int.toNat_of_nonneg h1]at e
    have e:FM N (([]:Bs),([]:Bs),au,0,0,3,(-1),([]:Bs),false,([]:List Yq2),false,false,0,false,([]:List Yq3),es,([]:Bs)) t=some 0:=e
    dsimp only[xL]
    rw[decide_eq_true hlt,cond_true,e,AP,bne_self_eq_false,cond_false,w64 (by omega) (by omega)]
    exact hk _ ⟨by show 0<=t+1;omega,by show t+1<=_;omega,rfl⟩ (by show((es.length:Int) - (t+1)).toNat<((es.length:Int) - t).toNat;omega)
   ·rw[decide_eq_false hlt]
    rfl
  ·rw[if_neg hl,decide_eq_true (by omega)]
   rfl
theorem Adk {N:Nat} {au:List Yq0} {es:List Yq1} (h:Lis N au es):Fv N (xL au es)=some (if es.length<=256 then 0 else 2):=by
  have hi:=h.iss
  have hN:=hi.big
  have hsc:Du N (([]:Bs),([]:Bs),au,0,0,3,(-1),([]:Bs),false,([]:List Yq2),false,false,0,false,([]:List Yq3),es,([]:Bs))=some 0:=h.rsc
  unfold Fv xL
  dsimp only
  simp only[hi.len,hi.AfF,hsc,h.rpt,AP,YW,cond_true,cond_false,G8,Option.isSome_some,Option.getD_some,Bool.not_false,Bool.not_true,Bool.or_true,Bool.true_or,Bool.and_false,Bool.or_false,bne_self_eq_false,decide_eq_false (by decide: ¬((0:Int)>0)),decide_eq_false (by decide: ¬((0:Int)<0)),decide_eq_false (by decide: ¬((0:Int)>254033452799)),decide_eq_false (by decide: ¬((3:Int)<0)),decide_eq_false (by decide: ¬((3:Int)>4611686018427387904)),decide_eq_false (by decide: ¬((-1:Int)< -1)),decide_eq_false (by decide: ¬((-1:Int)>4611686018427387904)),List.length_nil]
  refine Eq.trans (show _=bif false then some 2 else _ from rfl) ?_
  rw[cond_false]
  by_cases hl:es.length<=256
  ·rw[if_pos hl,decide_eq_false (by omega),cond_false]
   refine Hl (X:=Int×Bs×Bs×List Yq0×Int×Int×Int×Int×Bs×Bool×List Yq2×Bool×Bool×Int×Bool×List Yq3×List Yq1×Bs) (fun x=>0<=x.1/\x.1<=(es.length:Int)/\x.2=xL au es) (fun x=>((es.length:Int) - x.1).toNat) (fun _=>some 0) ?_ N _ ⟨by show(0:Int)<=0;omega,by show(0:Int)<=es.length;omega,rfl⟩ (by show((es.length:Int) - 0).toNat<N;omega)
   rintro ⟨t,x⟩ ⟨h1,h2,h3⟩ k hk
   have h1:0<=t:=h1
   have h2:t<=(es.length:Int):=h2
   have h3:x=xL au es:=h3
   subst h3
   dsimp only[U18]
   by_cases hlt:t<(es.length:Int)
   ·have e:=Adm hi hl (i:=t.toNat) (fun j hj=>h.ent j (by omega)) (fun j hj=>h.dif _ _ (by omega) hj)
    rw[Int.toNat_of_nonneg h1]at e
    have e:EU N (([]:Bs),([]:Bs),au,0,0,3,(-1),([]:Bs),false,([]:List Yq2),false,false,0,false,([]:List Yq3),es,([]:Bs)) t=some 0:=e
    dsimp only[xL]
    rw[decide_eq_true hlt,cond_true,e,AP,bne_self_eq_false,cond_false,w64 (by omega) (by omega)]
    exact hk _ ⟨by show 0<=t+1;omega,by show t+1<=_;omega,rfl⟩ (by show((es.length:Int) - (t+1)).toNat<((es.length:Int) - t).toNat;omega)
   ·rw[decide_eq_false hlt]
    rfl
  ·rw[if_neg hl,decide_eq_true (by omega)]
   rfl
def enL (au:List Yq0) (i:Nat):Yq1:=((i:Int)+1,5*(i:Int),((i % 7:Nat):Int),-1,au)
def esL (au:List Yq0) (n:Nat):List Yq1:=(List.range n).map (enL au)
theorem lY (au:List Yq0) {n i:Nat} (h:i<n):(esL au n).getD i d1=enL au i:=by
  unfold esL
  simp [List.getD_eq_getElem?_getD,h]
theorem Af6 {N:Nat} {au:List Yq0} (hi:Iss N au) (n:Nat) (hn:n<=1000) (h1:DW N (xL au (esL au n))=some 0) (h2:Du N (xL au (esL au n))=some 0) (h3:BU N []=some 0) (h4:DC N []=some 0):Lis N au (esL au n):=by
  have hl:(esL au n).length=n:=by simp [esL]
  refine⟨hi,fun j hj=> ?_,fun i j hi hj=> ?_,by omega,h1,h2,h3,h4⟩
  ·rw[hl]at hj
   have e:=lY au hj
   exact⟨by omega,by rw[e];show 1<=(j:Int)+1/\(j:Int)+1<=_;omega,by rw[e];show 0<=5*(j:Int)/\5*(j:Int)<=_;omega,⟨⟨j % 7,Nat.mod_lt _ (by omega)⟩,by rw[e];rfl⟩,by rw[e];rfl,by rw[e];rfl⟩
  ·rw[hl]at hi
   rw[lY au hi,lY au (by omega)]
   show(j:Int)+1≠(i:Int)+1
   omega
theorem Aec {N:Nat} {au:List Yq0} (hi:Iss N au) (hN:2000<=N) (ha:Bo N 1=some au) (hw:F9 N=some true) (h1: ∀ n,DW N (xL au (esL au n))=some 0) (h2: ∀ n,Du N (xL au (esL au n))=some 0) (h3:BU N []=some 0) (h4:DC N []=some 0) (p:Int) (l:List Int) (hp:0<=p) (hp2:p<=255):Fb N p l=some true:=by
  obtain⟨m,hm,hm2⟩: ∃ m:Nat,p.tmod 5=(m:Int)/\m<5:=⟨(p % 5).toNat,by rw[Int.tmod_eq_emod_of_nonneg hp];omega,by omega⟩
  unfold Fb
  rw[ha,AP,hm,w64 (x:=(m:Int)) (by omega) (by omega),w64 (x:=254+(m:Int)) (by omega) (by omega)]
  refine(Hl (X:=Int×List Yq0×List Yq1) (fun x=>0<=x.1/\x.1<=((254+m:Nat):Int)/\x.2.1=au/\x.2.2=esL au x.1.toNat) (fun x=>(((254+m:Nat):Int) - x.1).toNat) (fun _=>some true) ?_ N _ ⟨by show(0:Int)<=0;omega,by show(0:Int)<=((254+m:Nat):Int);omega,rfl,rfl⟩ (by show(((254+m:Nat):Int) - 0).toNat<N;omega))
  rintro ⟨t,b,es⟩ ⟨g1,g2,g3,g4⟩ k hk
  have g1:0<=t:=g1
  have g2:t<=((254+m:Nat):Int):=g2
  have g3:b=au:=g3
  have g4:es=esL au t.toNat:=g4
  subst g3
  have hl:es.length=t.toNat:=by rw[g4];simp [esL]
  dsimp only[U3]
  by_cases hlt:t<254+(m:Int)
  ·rw[decide_eq_true hlt,cond_true,BR _ (decide_eq_true (by omega)),w64 (x:=t+1) (by omega) (by omega),w64 (x:=5*t) (by omega) (by omega)]
   refine hk _ ⟨by show 0<=t+1;omega,by show t+1<=_;omega,rfl,?_⟩ (by show(((254+m:Nat):Int) - (t+1)).toNat<(((254+m:Nat):Int) - t).toNat;omega)
   show es++[(t+1,5*t,t.tmod 7,-1,b)]=esL b (t+1).toNat
   rw[show(t+1).toNat=t.toNat+1 by omega]
   have e7:t.tmod 7=((t.toNat % 7:Nat):Int):=by rw[Int.tmod_eq_emod_of_nonneg g1];omega
   have et:((t.toNat:Nat):Int)=t:=Int.toNat_of_nonneg g1
   unfold esL at g4 ⊢
   rw[List.range_succ,List.map_append,<- g4,e7]
   show _=es++[enL b t.toNat]
   unfold enL
   rw[et]
  ·rw[decide_eq_false hlt,cond_false]
   dsimp only[U2]
   have hL:=Af6 hi t.toNat (by omega) (h1 _) (h2 _) h3 h4
   rw[<- g4]at hL
   have e1:=AdH hL
   have e2:=Adk hL
   dsimp only[xL]at e1 e2
   rw[hw,AP,e1,e2]
   simp only[Option.isSome_some,Option.getD_some,Bool.not_true,Bool.or_false,Bool.true_or,G8,cond_true,beq_self_eq_true]
def auI:List Yq0:=(Bo 1048576 1).getD []
theorem Afu:Bo 1048576 1=some auI:=by kernel_rfl
theorem iss:Iss 1048576 auI:=⟨by kernel_rfl,by kernel_rfl,by kernel_rfl,by kernel_rfl,by kernel_rfl,fun r=>by rcases r with ⟨r,hr⟩;rcases r with _ | _ | _ | _ | _ | _ | _ | r<;>first | (exfalso;omega) | kernel_rfl,fun r=>by rcases r with ⟨r,hr⟩;rcases r with _ | _ | _ | _ | _ | _ | _ | r<;>first | (exfalso;omega) | kernel_rfl,by decide⟩
theorem sc1 (es:List Yq1):DW 1048576 (xL auI es)=some 0:=by kernel_rfl
theorem sc2 (es:List Yq1):Du 1048576 (xL auI es)=some 0:=by kernel_rfl
theorem pt1:BU 1048576 []=some 0:=by kernel_rfl
theorem pt2:DC 1048576 []=some 0:=by kernel_rfl
theorem Afv:F9 1048576=some true:=by
  have h:=Ad8
  unfold N0 at h
  exact h
theorem Aed (p:Int) (l:List Int) (hp:0<=p) (hp2:p<=255):Fb 1048576 p l=some true:=Aec iss (by decide) Afu Afv (fun _=>sc1 _) (fun _=>sc2 _) pt1 pt2 p l hp hp2
end Go.Proofs.YtbaomhegdndpnaaGreatDoor.Pl
namespace Go.Proofs.YtbaomhegdndpnaaGreatDoor.Vm
open Go.RowKit
theorem Moves.below {T:Nat->Prop} {w w':World} (h:Moves (fun _ _=>none) T w w'):Below w.heap.size w w' :=
  ⟨h.os,h.tape,h.output,h.size,fun b hb=>by
    rcases h.blk b hb with e | ⟨c,c',e,fr,_,_,_,_,k,o,_,ho,_⟩ | ⟨_,_,_,_,o,_,_,ho,_⟩
    ·exact e
    ·cases ho
    ·cases ho⟩
theorem Sig.Agp {pars ress:List Sh} {f:ShT pars->Option (ShT (outS pars ress))} {xs:List A} {a:ShT pars} {o:ShT (outS pars ress)} (hd:L6 pars xs=some a) (hf:f a=some o):(Sig.of pars ress f).F xs=some (encs (outS pars ress) o):=by
  unfold Sig.F Sig.of
  dsimp only
  rw[hd]
  dsimp only
  rw[hf]
  rfl
theorem AcR {P:Program} {f:FuncId} {sg:Sig} (h:Spec P f sg) {xs:List A} {vs:Array Value} {W:World} (hF:sg.F xs=some [.bool true]) (hress:sg.ress=[.cell false .bool]) (hv:vs.size=xs.length) (hl:xs.length=sg.pars.length) (h100:xs.length<=100)
    (hx: ∀ j,j<xs.length->IR (fun _ _=>none) W (256*j) (vs.getD j undef) (xs.getD j .undef)) (hI:Inv (fun _ _=>none) W):Calls P f vs W fun e w'=>e= .returned (.bool true)/\Below W.heap.size W w':=by
  refine(h.2 (fun _ _=>none) W vs xs _ hI hv hl h100 hx hF).mono fun e w' hq=> ?_
  obtain⟨v,O',he,hc⟩:=hq
  obtain⟨us,h1,h2,h3⟩:=hc.res
  rw[hress]at h1
  have h1':us.size=1:=h1
  have h4:Ak O' w' (us.getD 0 undef) (.bool true):=h3 0 (by omega)
  have h5:us.getD 0 undef= .bool true:=by
    generalize us.getD 0 undef=z at h4
    cases h4;rfl
  have h6:v= .bool true:=by
    rw[h2,dif_pos h1',<- h5]
    simp [Array.getD_eq_getD_getElem?,h1']
  exact⟨by rw[he,h6],hc.moves.below⟩
open Go.ChangeShapes Go.WideShapes
def nobody:Own:=fun _ _=>none
def Aej:A->Prop
  | .int k n=>k.min<=n/\n<=k.max
  | .str s=>s.length<=9223372036854775807
  | _=>True
def okN:Nat->A->Prop
  | 0,_=>False
  | n+1,.sl l=>l.xs.length<=9223372036854775807/\ ∀ c∈l.es,∀ a∈c,okN n a
  | _+1,a=>Aej a
structure Opened (n:Nat) (w:World) (ks:List CK) (cs:List Value) (aa:List A):Prop where
  lc:cs.length=ks.length
  la:aa.length=ks.length
  rel: ∀ j,j<ks.length->Ak nobody w (cs.getD j undef) (aa.getD j .undef)
  made:((tyl ks).mk aa).1=true
  ok: ∀ a∈aa,okN n a
theorem AfA: ∀(n:Nat) (a:A),okN n a->okN (n+1) a:=by
  intro n
  induction n with
  | zero=>intro a h;exact h.elim
  | succ n ih =>
    intro a h
    cases a<;>first | exact h | exact⟨h.1,fun c hc z hz=>ih z (h.2 c hc z hz)⟩
theorem Opened.up {n:Nat} {w:World} {ks:List CK} {cs:List Value} {aa:List A} (h:Opened n w ks cs aa):Opened (n+1) w ks cs aa:=⟨h.lc,h.la,h.rel,h.made,fun a ha=>AfA n a (h.ok a ha)⟩
theorem AcV: ∀(a:List CK) {b:List CK} {x y:List A},((tyl a).mk x).1=true->((tyl b).mk y).1=true->((tyl (a++b)).mk (x++y)).1=true:=by
  intro a
  induction a with
  | nil =>
    intro b x y hx hy
    cases x with
    | nil=>exact hy
    | cons _ _=>cases hx
  | cons k a ih =>
    intro b x y hx hy
    cases k with
    | bool =>
      cases x with
      | nil=>cases hx
      | cons c x=>cases c<;>first | exact ih (x:=x) hx hy | cases hx
    | int k =>
      cases x with
      | nil=>cases hx
      | cons c x =>
        cases c<;>first
          | (simp only[tyl,Ty.mk,Bool.and_eq_true]at hx
             simp only[List.cons_append,tyl,Ty.mk,Bool.and_eq_true]
             exact⟨hx.1,ih hx.2 hy⟩)
          | cases hx
    | str =>
      cases x with
      | nil=>cases hx
      | cons c x=>cases c<;>first | exact ih (x:=x) hx hy | cases hx
    | sl e t =>
      cases x with
      | nil=>cases hx
      | cons c x =>
        cases c with
        | sl l =>
          simp only[tyl,Ty.mk]at hx
          simp only[List.cons_append,tyl,Ty.mk]
          cases hc:l.cast t with
          | none=>rw[hc]at hx;cases hx
          | some xs=>rw[hc]at hx;exact ih (x:=x) hx hy
        | _=>cases hx
    | sln e t =>
      cases x with
      | nil=>cases hx
      | cons c x =>
        cases c with
        | sl l =>
          simp only[tyl,Ty.mk]at hx
          simp only[List.cons_append,tyl,Ty.mk]
          cases hc:l.cast t with
          | none=>rw[hc]at hx;cases hx
          | some xs=>rw[hc]at hx;exact ih (x:=x) hx hy
        | _=>cases hx
    | ptr =>
      cases x with
      | nil=>cases hx
      | cons c x=>cases c<;>first | exact ih (x:=x) hx hy | cases hx
    | fn =>
      cases x with
      | nil=>cases hx
      | cons c x=>cases c<;>first | exact ih (x:=x) hx hy | cases hx
    | mp kt vt =>
      cases x with
      | nil=>cases hx
      | cons c x =>
        cases c with
        | ump l =>
          simp only[tyl,Ty.mk]at hx
          simp only[List.cons_append,tyl,Ty.mk]
          cases hc:l.cast kt vt with
          | none=>rw[hc]at hx;cases hx
          | some xs=>rw[hc]at hx;exact ih (x:=x) hx hy
        | _=>cases hx
    | bx t =>
      cases x with
      | nil=>cases hx
      | cons c x =>
        cases c with
        | sl l =>
          simp only[tyl,Ty.mk]at hx
          simp only[List.cons_append,tyl,Ty.mk]
          cases hc:l.cast t with
          | none=>rw[hc]at hx;cases hx
          | some xs=>rw[hc]at hx;exact ih (x:=x) hx hy
        | _=>cases hx
    | oth =>
      cases x with
      | nil=>cases hx
      | cons c x=>cases c<;>first | exact ih (x:=x) hx hy | cases hx
theorem Opened.nil {n:Nat} {w:World}:Opened n w [] [] []:=⟨rfl,rfl,fun j hj=>absurd hj (Nat.not_lt_zero j),rfl,fun a ha=>(by cases ha)⟩
theorem Opened.append {n:Nat} {w:World} {a b:List CK} {x y:List Value} {p q:List A} (h1:Opened n w a x p) (h2:Opened n w b y q):Opened n w (a++b) (x++y) (p++q):=by
  refine⟨by simp [h1.lc,h2.lc],by simp [h1.la,h2.la],fun j hj=> ?_,AcV a h1.made h2.made,fun z hz=> ?_⟩
  ·rw[List.length_append]at hj
   by_cases h:j<a.length
   ·have:=h1.rel j h
    rw[List.getD_eq_getElem?_getD,List.getElem?_append_left (by rw[h1.lc];exact h),<- List.getD_eq_getElem?_getD,List.getD_eq_getElem?_getD (l:=p++q),List.getElem?_append_left (by rw[h1.la];exact h),<- List.getD_eq_getElem?_getD]
    exact this
   ·have:=h2.rel (j - a.length) (by omega)
    rw[List.getD_eq_getElem?_getD,List.getElem?_append_right (by rw[h1.lc];omega),<- List.getD_eq_getElem?_getD,List.getD_eq_getElem?_getD (l:=p++q),List.getElem?_append_right (by rw[h1.la];omega),<- List.getD_eq_getElem?_getD,h1.lc,h1.la]
    exact this
  ·rcases List.mem_append.1 hz with hz | hz
   ·exact h1.ok z hz
   ·exact h2.ok z hz
theorem Opened.one {n:Nat} {w:World} {k:CK} {v:Value} {a:A} (hr:Ak nobody w v a) (hm:((tyl [k]).mk [a]).1=true) (ho:okN n a):Opened n w [k] [v] [a] :=
  ⟨rfl,rfl,fun j hj=>by
    have:j=0:=by simp at hj;omega
    subst this;exact hr,hm,fun z hz=>by rw[List.mem_singleton.1 hz];exact ho⟩
def LV (P:Program) (n t:Nat):Nat:=match Dy P n t with | some cs=>cs.length | none=>0
def jF (P:Program) (n:Nat):List Field->Nat->Bool
  | [],_=>true
  | f::r,o=>Nat.beq f.offset o&&Nat.beq (P.cellsOf f.type) (LV P n f.type)&&jF P n r (o+LV P n f.type)
def Uj (P:Program):Nat->Nat->Bool
  | 0,_=>false
  | n+1,t=>match P.underlying t with
    | some .bool=>true
    | some (.int _)=>true
    | some .string=>true
    | some (.slice e)=>Uj P n e&&Nat.beq (P.cellsOf e) (LV P n e)&&Nat.blt 0 (LV P n e)&&(match Dy P n e with | some cs=>cs.all CK.plain | none=>false)
    | some (.struct fs)=>Nat.beq (P.cellsOf t) (LV P (n+1) t)&&jF P n fs.toList 0&&fs.toList.all (fun f=>Uj P n f.type)
    | _=>false
section
variable {H:Type} {enc:TypeId×Value->H} {P:Program} {w:World} {base:Nat} {spare:Nat->Bool} {held:Bool}
theorem Xl {a:Addr} {n:Nat} {cs:List Value} (h:w.cells? base a n=some cs):cs.length=n/\ ∀ j,j<n->w.cell? (a.add j)=some (cs.getD j undef):=by
  unfold World.cells? at h
  split at h
  ·have key: ∀(l:List Nat) (cs:List Value),l.mapM (fun i=>w.cell? (a.add i))=some cs->cs.length=l.length/\ ∀ j (hj:j<l.length),w.cell? (a.add l[j])=some (cs.getD j undef):=by
     intro l
     induction l with
     | nil=>grind
     | cons i l ih =>
       intro cs h
       rw[List.mapM_cons]at h
       cases h1:w.cell? (a.add i)with
       | none=>rw[h1]at h;cases h
       | some v =>
         rw[h1]at h
         cases h2:l.mapM (fun i=>w.cell? (a.add i))with
         | none=>rw[h2]at h;cases h
         | some r =>
           rw[h2]at h
           injection h with h
           subst h
           obtain⟨k1,k2⟩:=ih r h2
           refine⟨by simp [k1],fun j hj=> ?_⟩
           cases j with
           | zero=>exact h1
           | succ j=>grind
   all_goals grind
  ·cases h
theorem Aey {l:List Value} {o a b:Nat}:(l.drop o).take (a+b)=(l.drop o).take a++(l.drop (o+a)).take b:=by
  rw[List.take_add,List.drop_drop]
theorem VK (e:Nat) (t:Ty) (xs:List t.Val):((tyl [.sl e t]).mk [.sl ⟨t,xs⟩]).1=true:=by
  simp only[tyl,Ty.mk]
  rw[Sl.MH]
  rfl
theorem Aar (hspare: ∀ b,spare b=true): ∀(n:Nat) (t:TypeId) (ks:List CK) (fuel:Nat) (cs:List Value) (x:DataW H×List MemPlace),Dy P n t=some ks->Uj P n t=true->DataW.trod enc P w base spare held fuel t cs=some x ->
    ∃ aa,Opened n w ks cs aa:=by
  intro n
  induction n with
  | zero=>intro t ks fuel cs x h;cases h
  | succ n ih =>
    intro t ks fuel cs x hck hok h
    unfold Dy at hck
    unfold Uj at hok
    cases hu:P.underlying t with
    | none=>rw[hu]at hck;cases hck
    | some d =>
      rw[hu]at hck hok
      cases d with
      | bool =>
        injection hck with hck
        subst hck
        obtain⟨b,rfl,_⟩:=DataW.trod_bool hu h
        exact⟨[.bool b],Opened.one (.bool b) rfl trivial⟩
      | int k =>
        injection hck with hck
        subst hck
        obtain⟨v,rfl,_,hw⟩:=DataW.trod_int hu h
        have hk:Aej (.int k v):=by
          unfold Lit.wf at hw
          rw[Bool.and_eq_true,decide_eq_true_eq,decide_eq_true_eq]at hw
          exact hw
        exact⟨[.int k v],Opened.one (.int k v) (by cases k<;>rfl) hk⟩
      | string =>
        injection hck with hck
        subst hck
        obtain⟨v,rfl,_,hw⟩:=DataW.trod_string hu h
        have hk:Aej (.str v.data.toList):=by
          show v.data.toList.length<=_
          have e:v.data.toList.length=v.size:=by rw[Array.length_toList];rfl
          have:maxLen=9223372036854775807:=rfl
          omega
        exact⟨[.str v.data.toList],Opened.one (.str v) rfl hk⟩
      | slice e =>
        dsimp only at hck hok
        simp only[Bool.and_eq_true]at hok
        obtain⟨⟨⟨hoe,hce⟩,hc0⟩,hpl⟩:=hok
        cases hke:Dy P n e with
        | none=>rw[hke]at hpl;cases hpl
        | some ke =>
          rw[hke]at hck hpl
          dsimp only at hck hpl
          rw[hpl]at hck
          injection hck with hck
          subst hck
          have hlen:P.cellsOf e=ke.length:=by
            have:=Nat.eq_of_beq_eq_true hce
            unfold LV at this
            rw[hke]at this;exact this
          rcases DataW.trod_slice hu h with ⟨rfl,_⟩ | ⟨a,len,cap,elems,rest,m,_,rfl,_,hb,hl,hm,hel,hels,hsp,_⟩
          ·exact⟨[.sl ⟨tyl ke,[]⟩],Opened.one (.nil _) (VK _ _ _) ⟨Nat.zero_le _,fun c hc=>(by cases hc)⟩⟩
          ·by_cases hcap:cap=0
           ·have hlen0:len=0:=by omega
            subst hcap
            subst hlen0
            exact⟨[.sl ⟨tyl ke,[]⟩],Opened.one (.sl0 a _) (VK _ _ _) ⟨Nat.zero_le _,fun c hc=>(by cases hc)⟩⟩
           have hk0:0<P.cellsOf e:=by
             have h2:=Nat.eq_of_beq_eq_true hce
             rw[h2]
             simpa using hc0
           have hread: ∃ u,w.cell? a=some u:=by
             by_cases h0:0<len
             ·have he:=hels 0 h0
              rw[List.getElem?_eq_getElem (by omega:0<elems.length),Option.bind_eq_some_iff]at he
              obtain⟨q,hq,_⟩:=he
              obtain⟨_,k2⟩:=Xl hq
              have:=k2 0 hk0
              rw[Nat.zero_mul]at this
              exact⟨_,this⟩
             ·have hz:len=0:=by omega
              obtain⟨hr1,hr2⟩:=hsp (hspare _)
              have he:=hr2 0 (by omega)
              rw[List.getElem?_eq_getElem (by omega:0<rest.length),Option.bind_eq_some_iff]at he
              obtain⟨q,hq,_⟩:=he
              obtain⟨_,k2⟩:=Xl hq
              have:=k2 0 hk0
              rw[hz,Nat.zero_mul]at this
              exact⟨_,this⟩
           have hspot:a.spot=none:=by
             obtain⟨u,hu⟩:=hread
             unfold World.cell? at hu
             split at hu
             ·cases hs:a.spot with
              | none=>rfl
              | some z=>rw[hs]at hu;cases hu
             ·cases hu
           have ha:a=at' a.block a.off:=by
             obtain⟨b,o,sp⟩:=a
             dsimp only at hspot
             rw[hspot]
           have each: ∀ i,∃(q:List Value) (aa:List A),i<len->(∀ j,j<ke.length->w.cell? (at' a.block (a.off+(i*ke.length+j)))=some (q.getD j undef))/\Opened n w ke q aa:=by
             intro i
             by_cases hi:i<len
             ·have he:=hels i hi
              have hei:elems[i]? =some (elems[i]'(by omega)):=List.getElem?_eq_getElem (by omega)
              rw[hei,Option.bind_eq_some_iff]at he
              obtain⟨q,hq,hq2⟩:=he
              obtain⟨k1,k2⟩:=Xl hq
              rw[hlen]at k1 k2
              obtain⟨aa,h1⟩:=ih e ke m q _ hke hoe hq2
              refine⟨q,aa,fun _=>⟨fun j hj=> ?_,h1⟩⟩
              have:=k2 j hj
              rw[ha,Fh,Fh]at this
              rw[<- this];congr 2;omega
             ·exact⟨[],[],fun h=>absurd h hi⟩
           obtain⟨q,hq⟩:=Classical.axiomOfChoice each
           obtain⟨aa,haa⟩:=Classical.axiomOfChoice hq
           let l:Sl:=⟨tyl ke,(List.range len).map fun i=>((tyl ke).mk (aa i)).2⟩
           have hes:l.es=(List.range len).map aa:=by
             show((List.range len).map fun i=>((tyl ke).mk (aa i)).2).map (tyl ke).cells=_
             rw[List.map_map]
             refine List.map_congr_left fun i hi=> ?_
             exact Ty.Gi _ _ (haa i (List.mem_range.1 hi)).2.made
           have hesl:l.es.length=len:=by rw[hes,List.length_map,List.length_range]
           have hsz:l.sz=ke.length:=Ij ke
           have hget: ∀ i,i<len->l.es.getD i []=aa i:=fun i hi=>by
             rw[hes,List.getD_eq_getElem?_getD,List.getElem?_map,List.getElem?_range hi];rfl
           have hrel:Ak nobody w (.slice (some a) len cap) (.sl l):=by
             rw[ha,<- hesl]
             refine Ak.sl (fun i j=>(q i).getD j undef) (by rw[hesl];exact hl) (fun i j hi hj=> ?_) (fun i j hi hj=> ?_)
             ·rw[hsz]at hj ⊢
              exact⟨rfl,(haa i (by rw[<- hesl];exact hi)).1 j hj⟩
             ·rw[hsz]at hj
              have hi':i<len:=by rw[<- hesl];exact hi
              rw[hget i hi']
              exact(haa i hi').2.rel j hj
           refine⟨[.sl l],Opened.one hrel (VK _ _ _) ⟨?_,fun c hc z hz=> ?_⟩⟩
           ·show((List.range len).map _).length<=_
            rw[List.length_map,List.length_range]
            have:maxLen=9223372036854775807:=rfl
            omega
           ·rw[hes]at hc
            obtain⟨i,hi,rfl⟩:=List.mem_map.1 hc
            exact(haa i (List.mem_range.1 hi)).2.ok z hz
      | struct fs =>
        dsimp only at hck hok
        simp only[Bool.and_eq_true]at hok
        obtain⟨⟨hcl,hoff⟩,hall⟩:=hok
        obtain⟨xs,m,_,_,hl,hxl,hxs⟩:=DataW.trod_struct hu h
        have fields: ∀(l:List Field) (o:Nat) (ks:List CK),l.foldr (fun f acc=>match Dy P n f.type,acc with | some a,some b=>some (a++b) | _,_=>none) (some [])=some ks->jF P n l o=true->(∀ f∈l,Uj P n f.type=true) ->
            (∀ f∈l,∃ y,DataW.trod enc P w base spare held m f.type ((cs.drop f.offset).take (P.cellsOf f.type))=some y)-> ∃ aa,Opened n w ks ((cs.drop o).take ks.length) aa:=by
          intro l
          induction l with
          | nil =>
            intro o ks hk _ _ _
            injection hk with hk
            subst hk
            exact⟨[],Opened.nil⟩
          | cons f r ihr =>
            intro o ks hk ho hf hy
            rw[List.foldr_cons]at hk
            cases ha:Dy P n f.type with
            | none=>rw[ha]at hk;cases hk
            | some a =>
              rw[ha]at hk
              cases hb:r.foldr (fun f acc=>match Dy P n f.type,acc with | some a,some b=>some (a++b) | _,_=>none) (some [])with
              | none=>rw[hb]at hk;cases hk
              | some b =>
                rw[hb]at hk
                injection hk with hk
                subst hk
                have hal:LV P n f.type=a.length:=by unfold LV;rw[ha]
                unfold jF at ho
                simp only[Bool.and_eq_true]at ho
                obtain⟨⟨h1,h2⟩,h3⟩:=ho
                have h1:=Nat.eq_of_beq_eq_true h1
                have h2:=Nat.eq_of_beq_eq_true h2
                rw[hal]at h2 h3
                obtain⟨y,hy1⟩:=hy f List.mem_cons_self
                rw[h1,h2]at hy1
                obtain⟨pa,p1⟩:=ih f.type a m _ y ha (hf f List.mem_cons_self) hy1
                obtain⟨pb,q1⟩:=ihr (o+a.length) b hb h3 (fun g hg=>hf g (List.mem_cons_of_mem _ hg)) (fun g hg=>hy g (List.mem_cons_of_mem _ hg))
                refine⟨pa++pb,?_⟩
                rw[List.length_append,Aey]
                exact p1.append q1
        obtain⟨aa,h1⟩:=fields fs.toList 0 ks hck hoff (fun f hf=>List.all_eq_true.1 hall f hf) (fun f hf=>by
          obtain⟨i,hi⟩:=List.getElem?_of_mem hf
          have hi':fs[i]? =some f:=by rw[<- Array.getElem?_toList];exact hi
          have:=hxs i f hi'
          have hlt:i<xs.length:=by
            rw[hxl]
            exact(Array.getElem?_eq_some_iff.1 hi').1
          rw[List.getElem?_eq_getElem hlt]at this
          exact⟨_,this⟩)
        have hcs:(cs.drop 0).take ks.length=cs:=by
          rw[List.drop_zero]
          refine List.take_of_length_le ?_
          have h3:=Nat.eq_of_beq_eq_true hcl
          have h4:LV P (n+1) t=ks.length:=by
            unfold LV Dy
            rw[hu]
            dsimp only
            rw[hck]
          omega
        rw[hcs]at h1
        exact⟨aa,h1.up⟩
      | _=>cases hok
theorem AaR {r:Reach} {b0:Nat} {u:TypeId} {cs:Array Value} (h:Cell.okWide P w r b0 u (.agg cs)):False:=by
  have h':Cell.ok P w r b0 u (.agg cs):=by
    unfold Cell.okWide at h
    all_goals grind
  unfold Cell.ok at h'
  all_goals grind
def Afr (P:Program) (t:TypeId):Bool:=match P.underlying t with
  | some (.struct _)=>true
  | some (.array _ _)=>true
  | _=>false
theorem open_cell {r:Reach} {b0 n:Nat} {t:TypeId} {v:Value} {d:DataW H} {ps:List MemPlace} {k:CK} (hck:Dy P n t=some [k]) (hspare: ∀ b,spare b=true) (hok:Uj P n t=true) (ha:Afr P t=false) (hval:Value.okWide P w r b0 t v) (hd:DataW.Trod enc P w base spare held t v d ps) :
    ∃ a,Ak nobody w v a/\((tyl [k]).mk [a]).1=true/\okN n a:=by
  have hc:Cell.okWide P w r b0 t v:=by
    unfold Value.okWide at hval
    all_goals grind[Afr]
  have hcells:v.cells.toList=[v]:=by
    cases v with
    | agg cs=>exact(AaR hc).elim
    | _=>rfl
  obtain⟨fuel,h⟩:=hd
  rw[hcells]at h
  obtain⟨aa,h1⟩:=Aar hspare n t [k] fuel [v] _ hck hok h
  obtain⟨a,rfl⟩: ∃ a,aa=[a]:=List.length_eq_one_iff.1 h1.la
  exact⟨a,h1.rel 0 (by show 0<1;omega),h1.made,h1.ok a List.mem_cons_self⟩
theorem Opened.ir {n:Nat} {ks:List CK} {cs:Array Value} {aa:List A} (h:Opened n w ks cs.toList aa) (id:Nat):IR nobody w id (.agg cs) (.agg aa):=by
  refine⟨cs,rfl,?_,fun j hj=>Ak.ic ?_⟩
  ·rw[<- Array.length_toList,h.lc,h.la]
  ·have:=h.rel j (by rw[<- h.la];exact hj)
   all_goals simp_all[CK,IR,nobody]
theorem Ak.ir {id:Nat} {v:Value} {a:A} (h:Ak nobody w v a):IR nobody w id v a:=by
  have:=h.ic (id:=id)
  cases h<;>exact this
end
end Go.Proofs.YtbaomhegdndpnaaGreatDoor.Vm
namespace Go.Proofs.YtbaomhegdndpnaaGreatDoor.Vm
open Go Go.Lib
abbrev tabs:List (String×DataW Unit):=[("math/bits.deBruijn32tab",Rows.laid_math_bits_deBruijn32tab),("math/bits.deBruijn64tab",Rows.laid_math_bits_deBruijn64tab),("internal/strconv.uint64pow10",Rows.laid_internal_strconv_uint64pow10),("unicode/utf8.acceptRanges",Rows.laid_unicode_utf8_acceptRanges),("certpath/date.lengths",Rows.laid_certpath_date_lengths),("unicode/utf8.first",Rows.laid_unicode_utf8_first)]
def Ago:DataW Unit->Value
  | .lit (.int k n)=>.int k n
  | _=>undef
def nZ:DataW Unit->List Value
  | .agg l=>l.map Ago
  | _=>[]
def Agq:DataW Unit->List Value
  | .agg l=>l.flatMap nZ
  | _=>[]
noncomputable def laidWorld (os:Os):World :=
  let w0:=World.holding Tryz.prog os ⟨#[],#[],[]⟩
  {w0 with heap:=(((((w0.heap.modify 2 fun
     | .cells _ t frozen=>.cells (nZ Rows.laid_internal_strconv_uint64pow10).toArray t frozen
     | o=>o).modify 3 fun
     | .cells _ t frozen=>.cells (nZ Rows.laid_unicode_utf8_first).toArray t frozen
     | o=>o).modify 4 fun
     | .cells _ t frozen=>.cells (Agq Rows.laid_unicode_utf8_acceptRanges).toArray t frozen
     | o=>o).modify 5 fun
     | .cells _ t frozen=>.cells (nZ Rows.laid_math_bits_deBruijn32tab).toArray t frozen
     | o=>o).modify 0 fun
     | .cells _ t frozen=>.cells (nZ Rows.laid_certpath_date_lengths).toArray t frozen
     | o=>o).modify 6 fun
     | .cells _ t frozen=>.cells (nZ Rows.laid_math_bits_deBruijn64tab).toArray t frozen
     | o=>o}
theorem laid_met (os:Os) (args:Array Value):laidMet Tryz.prog tabs ((laidWorld os).forCall (fun _ _=>0) ⟨#[],args,[]⟩).memory :=
  laidMet_of_run' 8 (by kernel_rfl) (by kernel_rfl)
set_option maxRecDepth 1000000 in
theorem uX {W:World} (h:laidMet Tryz.prog tabs W) {nm:String} {D:DataW Unit} (hm:(nm,D)∈tabs) {g tA tE n:Nat} {k:IntKind} {f:Nat->Int} (hg0:Tryz.prog.globalNamed nm=some g) (ht0:(Tryz.prog.globals[g]?).map (·.type)=some tA) (hu:Tryz.prog.underlying tA=some (.array n tE)) (hu2:Tryz.prog.underlying tE=some (.int k)) (hc:Tryz.prog.cellsOf tE=1)
    (hds:D= .agg ((List.range n).map fun j=>.lit (.int k (f j)))) (j:Nat) (hj:j<n):W.cell? ⟨g,j,none⟩=some (.int k (f j)):=by
  obtain⟨g',t,cs,fuel,p,hg,ht,hvar,hd⟩:=laidMet.reads h (n:=nm) (d:=D) hm
  obtain rfl:=Option.some.inj (hg0.symm.trans hg)
  obtain rfl:=Option.some.inj (ht0.symm.trans ht)
  rw[hds]at hd
  obtain⟨fuel',d,q,h1,h2⟩:=array_elem hu hd j hj
  rw[List.getElem?_map,List.getElem?_range hj]at h1
  have h1:=Option.some.inj h1
  subst h1
  rw[hc,Nat.mul_one]at h2
  obtain⟨m,h3,h4,_⟩:=DataW.trod_int hu2 h2
  have hn:f j=m:=by
    have:=congrArg Prod.fst h4
    injection this with this
    injection this with _ this
  rw[World.var?_cell hg hvar j]
  have h5:(cs.toList.drop j)[0]? =some (.int k m):=by
    have:((cs.toList.drop j).take 1)[0]? =some (.int k m):=by rw[h3];rfl
    rwa [List.getElem?_take_of_lt (by omega)]at this
  rw[List.getElem?_drop,Nat.add_zero,Array.getElem?_toList]at h5
  rw[h5,hn]
set_option maxRecDepth 1000000 in
theorem Aem {W:World} (h:laidMet Tryz.prog tabs W) (j:Nat) (hj:j<20):W.cell? ⟨2,j,none⟩=some (.int .u64 ((10 ^ j:Nat):Int)):=by
  have hds:(Rows.laid_internal_strconv_uint64pow10:DataW Unit)= .agg ((List.range 20).map fun j=>.lit (.int .u64 ((10 ^ j:Nat):Int))):=by kernel_rfl
  have hm:(("internal/strconv.uint64pow10",Rows.laid_internal_strconv_uint64pow10):String×DataW Unit)∈tabs:=List.mem_cons_of_mem _ (List.mem_cons_of_mem _ List.mem_cons_self)
  generalize (Rows.laid_internal_strconv_uint64pow10:DataW Unit)=D at hds hm
  exact uX h (nm:= "internal/strconv.uint64pow10") (D:=D) hm (g:=2) (tA:=343) (tE:=265) (n:=20) (k:=.u64) (f:=fun j=>((10 ^ j:Nat):Int)) (by kernel_rfl) (by kernel_rfl) (by kernel_rfl) (by kernel_rfl) (by kernel_rfl) hds j hj
set_option maxRecDepth 1000000 in
theorem Aea {W:World} (h:laidMet Tryz.prog tabs W) (j:Nat) (hj:j<12):W.cell? ⟨0,j,none⟩=some (.int .i64 (([31,28,31,30,31,30,31,31,30,31,30,31]:List Int).getD j 0)) :=
  uX h (nm:= "certpath/date.lengths") (D:=Rows.laid_certpath_date_lengths) (List.mem_cons_of_mem _ (List.mem_cons_of_mem _ (List.mem_cons_of_mem _ (List.mem_cons_of_mem _ List.mem_cons_self)))) (g:=0) (tA:=276) (tE:=3) (n:=12) (k:=.i64) (f:=fun j=>([31,28,31,30,31,30,31,31,30,31,30,31]:List Int).getD j 0) (by kernel_rfl) (by kernel_rfl) (by kernel_rfl) (by kernel_rfl) (by kernel_rfl) (by kernel_rfl) j hj
theorem inv_of {W:World} (hs:W.ShapedOpen Tryz.prog) (hl:laidMet Tryz.prog tabs W):Inv nobody W:=by
  refine⟨fun g j p h=> ?_,fun g n h=> ?_⟩
  ·unfold Tn at h
   split at h
   ·injection h with h
    subst h
    obtain⟨m,hm⟩:=cell_of_shapedOpen_int (P:=Tryz.prog) (g:=1) (t:=3) (zero:= #[.int .i64 0]) (k:=.i64) hs (of_decide_eq_true (by kernel_rfl)) (by kernel_rfl) rfl (by kernel_rfl) (by kernel_rfl) (by kernel_rfl)
    exact⟨rfl,_,hm,m,rfl⟩
   ·split at h
    ·rename_i hj
     injection h with h
     subst h
     exact⟨rfl,_,Aem hl _ hj,rfl⟩
    ·cases h
   ·unfold YL at h
    split at h
    ·have h:(if j<12 then some (fun v=>v=Value.int .i64 (([31,28,31,30,31,30,31,31,30,31,30,31]:List Int).getD j 0))else none)=some p:=h
     split at h
     ·rename_i hj
      injection h with h
      subst h
      exact⟨rfl,_,Aea hl _ hj,rfl⟩
     ·cases h
    ·cases h
  ·unfold Ae0 at h
   split at h
   ·injection h with h
    subst h
    obtain⟨cs,h1,h2,_⟩:=hs.1 2 (Array.replicate 20 (.int .u64 0)) 343 (of_decide_eq_true (by kernel_rfl)) (by kernel_rfl)
    exact⟨cs,_,_,h1,h2⟩
   ·cases h
section
variable {H:Type} {enc:TypeId×Value->H}
theorem yA {a:Assume} {C:Checked} {os:Os} {f:FuncId} {fn:Func} {s:ChangeSpec} {conds:List PathCond} {apart fresh handsOn again:Bool} {X:World->Array Value->Prop}
    (hX: ∀(w w':World) (args:Array Value),w.heap=w'.heap->X w args->X w' args)
    (own:ownKnob C.prog.godebug=none) (started:os.Started) (noInit:C.prog.inits.idxOf? f=none) (hfn:C.prog.funcs[f]? =some fn)
    (witness: ∃(w:World) (tape:Tape) (i:Input),w.os=os/\(w.forCall tape i).Shaped C.prog/\i.vars=[]/\Input.okWide C.prog (w.forCall tape i) .any w.heap.size f i /\
      ((s.pre enc C.prog fn conds apart (w.forCall tape i).memory i.args/\X (w.forCall tape i).memory i.args)/\sizedMet enc C.prog fn (OpenSpec.ofChange s) apart (w.forCall tape i).memory i.args)/\a.holds C.prog (lone (Frame.enter C.prog f i.args .normal) [] (w.forCall tape i)))
    (contract: ∀(W:World) (base:Nat) (args:Array Value) (ds gs:List (DataW H)) (before:List MemPlace),
      (∀(j:Nat) t v,fn.params[j]? =some t->args[j]? =some v->Value.okWide C.prog W .any base t v) ->
      DataW.Whole enc C.prog fn.params.toList s.vars apart W args.toList ds gs before->W.ShapedOpen C.prog->X W args ->
      Calls C.prog f args W fun e W'=> ∃ v,e= .returned v/\s.post enc C.prog fn apart fresh handsOn again W args v W') :
    ReturnsInHanded a C os f .any (fun w args=>(s.pre enc C.prog fn conds apart w args/\X w args)/\sizedMet enc C.prog fn (OpenSpec.ofChange s) apart w args) (s.post enc C.prog fn apart fresh handsOn again):=by
  refine returnsInHanded_of_calls own started noInit witness ?_
  intro w tape i _ hsh _ hok hpre _
  obtain⟨_,_,_,fn',hfn',_,_,_,_,hval⟩:=hok
  obtain rfl:=Option.some.inj (hfn'.symm.trans hfn)
  obtain⟨⟨⟨ds,gs,before,hw,_⟩,hx⟩,_⟩:=hpre
  refine(contract (w.forCall tape i) w.heap.size i.args ds gs before hval (DataW.Whole.of_heap (w':=w.forCall tape i) (by rfl) hw) hsh (hX _ _ _ (by rfl) hx)).mono fun e W' ⟨v,he,hp⟩=> ?_
  subst he
  exact ChangeSpec.post_blind hp
end
