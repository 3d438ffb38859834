import Derived.Test.YtbaomhegdndpnaaGreatDoorA21
set_option linter.all false
namespace Go.Proofs.YtbaomhegdndpnaaGreatDoor.Vm
open IntKind (i64)
open Go
theorem w64 {x:Int} (h1: -9223372036854775808<=x) (h2:x<=9223372036854775807):i64.wrap x=x:=by
  have e:i64.wrap x=if 9223372036854775808<=x % 18446744073709551616 then x % 18446744073709551616 - 18446744073709551616 else x % 18446744073709551616:=by
    show(if(true&&decide (x % 18446744073709551616>=9223372036854775808))=true then _ else _)=_
    simp only[Bool.true_and,decide_eq_true_eq,ge_iff_le]
    rfl
  rw[e]
  split<;>omega
theorem w8 (x:Int):IntKind.u8.wrap x=x % 256:=by
  have hp:(2:Int) ^ 8=256:=by decide
  simp only[IntKind.wrap,IntKind.bits,IntKind.signed,Bool.false_and,Bool.false_eq_true,if_false,hp]
theorem Ye (x:Int):isByte (IntKind.u8.wrap x)=true:=by
  rw[w8];unfold isByte;simp;omega
theorem wu64 {x:Int} (h1:0<=x) (h2:x<=18446744073709551615):IntKind.u64.wrap x=x:=by
  have hp:(2:Int) ^ 64=18446744073709551616:=by decide
  simp only[IntKind.wrap,IntKind.bits,IntKind.signed,Bool.false_and,Bool.false_eq_true,if_false,hp]
  omega
theorem G8 {ρ :Type} (k:Option ρ):chk true k=k:=rfl
theorem AP {α ρ :Type} [Inhabited α] (a: α) (k: α ->Option ρ):callO (some a) k=k a:=rfl
theorem pI {α ρ :Type} {A:(α ->Option ρ)->Option ρ} {f: α ->Option ρ} (P: α ->Prop) (Q:Option ρ ->Prop) (hA: ∀ j: α ->Option ρ,(∀ x,P x->Q (j x))->Q (A j)) (hf: ∀ x,P x->Q (f x)):Q (BI A f):=hA f hf
theorem Aaz {X Y ρ :Type} (B:X->(X->Option ρ)->(Y->Option ρ)->Option ρ) (n:Nat) (x:X) (kx:Y->Option ρ):Aq B (n+1) x kx=B x (fun x'=>Aq B n x' kx) kx:=rfl
theorem Hl {X Y ρ :Type} {B:X->(X->Option ρ)->(Y->Option ρ)->Option ρ} {kx:Y->Option ρ} (I:X->Prop) (μ :X->Nat) (F:X->Option ρ)
    (h: ∀ x,I x-> ∀ k:X->Option ρ,(∀ x',I x'-> μ x'< μ x->k x'=F x')->B x k kx=F x): ∀(N:Nat) (x:X),I x-> μ x<N->Aq B N x kx=F x:=by
  intro N
  induction N with
  | zero=>intro x _ h;omega
  | succ N ih=>intro x hI hm;exact h x hI _ (fun x' hI' hm'=>ih x' hI' (by omega))
theorem Gg {X Y ρ :Type} {B:X->(X->Option ρ)->(Y->Option ρ)->Option ρ} {kx:Y->Option ρ} (I:X->Prop) (μ :X->Nat) (Q:Option ρ ->Prop)
    (h: ∀ x,I x-> ∀ k:X->Option ρ,(∀ x',I x'-> μ x'< μ x->Q (k x'))->Q (B x k kx)): ∀(N:Nat) (x:X),I x-> μ x<N->Q (Aq B N x kx):=by
  intro N
  induction N with
  | zero=>intro x _ h;omega
  | succ N ih=>intro x hI hm;exact h x hI _ (fun x' hI' hm'=>ih x' hI' (by omega))
theorem BR {ρ :Type} {c:Bool} (k:Option ρ) (h:c=true):chk c k=k:=by rw[h];rfl
theorem AeK (c:UInt8):c.toNat<256:=UInt8.toNat_lt c
theorem getD_lt {α :Type} (l:List α) (i:Nat) (d: α) (h:i<l.length):l.getD i d=l[i]:=by rw[List.getD_eq_getElem?_getD,List.getElem?_eq_getElem h];rfl
end Go.Proofs.YtbaomhegdndpnaaGreatDoor.Vm
namespace Go.Proofs.YtbaomhegdndpnaaGreatDoor.Pl
open IntKind (i64)
open Go Vm
def Tot {α :Type} (Q: α ->Prop) (o:Option α):Prop:= ∃ v,o=some v/\Q v
theorem Tot.chk {α :Type} {Q: α ->Prop} {c:Bool} {k:Option α} (hc:c=true) (h:Tot Q k):Tot Q (Vm.chk c k):=by rw[hc];exact h
theorem Tot.call {α β :Type} [Inhabited α] {P: α ->Prop} {Q: β ->Prop} {x:Option α} {f: α ->Option β} (h:Tot P x) (hf: ∀ v,P v->Tot Q (f v)):Tot Q (callO x f):=by
  obtain⟨v,rfl,hv⟩:=h
  exact hf v hv
theorem Tot.bif {α :Type} {Q: α ->Prop} {b:Bool} {x y:Option α} (h1:b=true->Tot Q x) (h2:b=false->Tot Q y):Tot Q (bif b then x else y):=by
  cases b with
  | true=>exact h1 rfl
  | false=>exact h2 rfl
theorem Tot.some {α :Type} {Q: α ->Prop} {v: α} (h:Q v):Tot Q (some v):=⟨v,rfl,h⟩
theorem Tot.pR {α :Type} {o:Option α} (h:o.isSome=true):Tot (fun _=>True) o:=by
  cases o with
  | none=>cases h
  | some v=>exact⟨v,rfl,trivial⟩
theorem Tot.mono {α :Type} {P Q: α ->Prop} {o:Option α} (h:Tot P o) (hq: ∀ v,P v->Q v):Tot Q o:=let ⟨v,e,p⟩:=h;⟨v,e,hq v p⟩
theorem zU (l:List Int):l=(List.range l.length).map fun i=>l.getD i 0:=by
  apply List.ext_getElem
  ·simp
  ·intro i h1 h2
   simp [List.getD_eq_getElem?_getD,h1]
theorem AaK (M:Nat) (p0:Yq5) (f:Nat->Int):(ER (M+70) p0 ((List.range 64).map f)).isSome=true:=by kernel_rfl
theorem oJ {N:Nat} (hN:70<=N) (p0:Yq5) {l:List Int} (hl:l.length=64):Tot (fun _=>True) (ER N p0 l):=by
  obtain⟨M,rfl⟩:=Nat.exists_eq_add_of_le' hN
  have h:=AaK M p0 fun i=>l.getD i 0
  rw[<- hl,<- zU]at h
  exact Tot.pR h
theorem Jr {α :Type} (l:List α) (a b:Nat) (h:b<=l.length):(A7 l a b).length=b - a:=by
  simp [A7];omega
abbrev kW (r:Yq7):List Int:=r.2.2.2.2.2.2.2.2.1
theorem ZR (N:Nat):Tot (fun _=>True) (JU N):=Tot.pR (by kernel_rfl)
theorem Adv {N:Nat} (hN:70<=N) (hM:N<=1000000000) (p0:Yq7) (h8:(kW p0).length<64) (p1:Bs) (hl:p1.length+64<N):Tot (fun r=>(kW r).length<64) (FD N p0 p1):=by
  unfold FD
  refine Tot.bif (fun _=>Tot.some h8) fun _=> ?_
  refine pI (fun x=>x.2.2.2.2.2.2.2.2.1.length<64) (Tot _) (fun j hj=>Tot.bif (fun _=>(ZR N).call fun v _=>hj _ h8) fun _=>hj _ h8) ?_
  rintro ⟨b0,b1,b2,b3,b4,b5,b6,b7,b8,b9⟩ hb
  have hb:b8.length<64:=hb
  dsimp only[U10]
  refine Tot.chk (decide_eq_true (by omega)) (Tot.chk (decide_eq_true (by rw[List.length_map];omega)) ?_)
  refine Gg (fun x=>x.1.length<N) (fun x=>x.1.length) (Tot _) ?_ N _ (by show(b8++p1.map _).length<N;rw[List.length_append,List.length_map];omega) (by show(b8++p1.map _).length<N;rw[List.length_append,List.length_map];omega)
  rintro ⟨t,c0,c1,c2,c3,c4,c5,c6,c7,c8,c9⟩ hI k hk
  have hI:t.length<N:=hI
  dsimp only[U11]
  refine Tot.bif (fun h=> ?_) fun h=> ?_
  ·have h:=of_decide_eq_true h
   refine Tot.chk (decide_eq_true (by omega)) ((oJ hN _ (by rw[Jr _ _ _ (by omega)])).call fun v _=>Tot.chk (decide_eq_true (by omega)) (hk _ ?_ ?_))
   ·show(A7 t 64 t.length).length<N
    rw[Jr _ _ _ (Nat.le_refl _)];omega
   ·show(A7 t 64 t.length).length<t.length
    rw[Jr _ _ _ (Nat.le_refl _)];omega
  ·have h:=of_decide_eq_false h
   refine Tot.chk (decide_eq_true (by omega)) (Tot.some ?_)
   show t.length<64
   omega
theorem AfU (n:Nat):(n:Int).tmod 64=((n % 64:Nat):Int):=by
  rw[Int.tmod_eq_emod_of_nonneg (by omega)];omega
theorem AeN {N:Nat} (hN:150<=N) (p0:Yq7) (h8:(kW p0).length<64):Tot (fun r=>r.1.length=32) (GH N p0):=by
  unfold GH
  refine(ZR N).call fun v _=>Tot.chk rfl ?_
  refine pI (fun x=>x.2.2.2.2.2.2.2.2.2.2.2.1.length=8/\x.2.2.2.2.2.2.2.2.2.2.2.2.length<64) (Tot _) (fun j hj=>Tot.bif (fun _=>Tot.chk (decide_eq_true (by have:p0.2.2.2.2.2.2.2.2.1.length<64:=h8;omega)) (hj _ ⟨rfl,h8⟩)) fun _=>hj _ ⟨rfl,by show 0<64;omega⟩) ?_
  rintro ⟨t,b0,b1,b2,b3,b4,b5,b6,b7,b8,b9,l1,l2⟩ ⟨h1,h2⟩
  have h1:l1.length=8:=h1
  have h2:l2.length<64:=h2
  dsimp only[U13]
  refine Tot.chk (decide_eq_true (by omega)) ?_
  refine Gg (fun x=>x.2.2.2.2.2.2.2.2.2.2.1.length=8/\x.2.2.2.2.2.2.2.2.2.2.2.length<=120) (fun x=>120 - x.2.2.2.2.2.2.2.2.2.2.2.length) (Tot _) ?_ N _ ⟨h1,by show(l2++_).length<=120;simp;omega⟩ (by show 120 - _<N;omega)
  rintro ⟨b0,b1,b2,b3,b4,b5,b6,b7,b8,b9,l1,l2⟩ ⟨h1,h2⟩ k hk
  have h1:l1.length=8:=h1
  have h2:l2.length<=120:=h2
  dsimp only[U12]
  rw[AfU]
  refine Tot.bif (fun h=> ?_) fun h=> ?_
  ·have h: ¬((l2.length % 64:Nat):Int)=56:=bne_iff_ne.1 h
   refine Tot.chk (decide_eq_true (by omega)) (hk _ ⟨h1,?_⟩ ?_)
   ·show(l2++[0]).length<=120
    simp;omega
   ·show 120 - (l2++[0]).length<120 - l2.length
    simp;omega
  ·have h:((l2.length % 64:Nat):Int)=56:=by simpa using h
   clear k hk
   refine Gg (fun x=>x.2.2.2.2.2.2.2.2.2.2.2.1.length=8/\ -1<=x.1/\x.1<=7/\((x.2.2.2.2.2.2.2.2.2.2.2.2.length:Int)+x.1+1) % 64=0/\(x.2.2.2.2.2.2.2.2.2.2.2.2.length:Int)+x.1+1<=128) (fun x=>(x.1+1).toNat) (Tot _) ?_ N _ ⟨h1,by show(-1:Int)<=7;omega,by show(7:Int)<=7;omega,by show((l2.length:Int)+7+1) % 64=0;omega,by show(l2.length:Int)+7+1<=128;omega⟩ (by show((7:Int)+1).toNat<N;omega)
   rintro ⟨t,b0,b1,b2,b3,b4,b5,b6,b7,b8,b9,l1,l2⟩ ⟨h1,h3,h4,h5,h6⟩ k hk
   have h1:l1.length=8:=h1
   have h3: -1<=t:=h3
   have h4:t<=7:=h4
   have h5:((l2.length:Int)+t+1) % 64=0:=h5
   have h6:(l2.length:Int)+t+1<=128:=h6
   dsimp only[U13]
   refine Tot.bif (fun h=> ?_) fun h=> ?_
   ·have h:=of_decide_eq_true h
    refine Tot.chk (decide_eq_true (by rw[wu64 (x:=t) (by omega) (by omega),wu64 (by omega) (by omega)];omega)) (Tot.chk (decide_eq_true (by omega)) (hk _ ⟨h1,?_⟩ ?_))
    ·show -1<=i64.wrap (t - 1)/\i64.wrap (t - 1)<=7/\(((l2++[_]).length:Int)+i64.wrap (t - 1)+1) % 64=0/\((l2++[_]).length:Int)+i64.wrap (t - 1)+1<=128
     rw[w64 (by omega) (by omega)]
     simp
     omega
    ·show(i64.wrap (t - 1)+1).toNat<(t+1).toNat
     rw[w64 (by omega) (by omega)];omega
   ·have h:=of_decide_eq_false h
    have ht:t= -1:=by omega
    subst ht
    clear k hk
    refine Gg (fun x=>x.2.2.2.2.2.2.2.2.2.2.2.length=8/\x.1.length % 64=0/\x.1.length<=128) (fun x=>x.1.length) (Tot _) ?_ N _ ⟨h1,by show l2.length % 64=0;omega,by show l2.length<=128;omega⟩ (by show l2.length<N;omega)
    rintro ⟨t,b0,b1,b2,b3,b4,b5,b6,b7,b8,b9,l1⟩ ⟨h1,h2,h3⟩ k hk
    have h1:l1.length=8:=h1
    have h2:t.length % 64=0:=h2
    have h3:t.length<=128:=h3
    dsimp only[U12]
    refine Tot.bif (fun h=> ?_) fun h=> ?_
    ·have h:=of_decide_eq_true h
     refine Tot.chk (by rw[h1];rfl) (Tot.chk (decide_eq_true (by omega)) ((oJ (by omega) _ (by rw[Jr _ _ _ (by omega)])).call fun v _=>Tot.chk (by rw[h1];rfl) (Tot.chk (decide_eq_true (by omega)) (hk _ ⟨rfl,?_⟩ ?_))))
     ·show(A7 t 64 t.length).length % 64=0/\(A7 t 64 t.length).length<=128
      rw[Jr _ _ _ (Nat.le_refl _)];omega
     ·show(A7 t 64 t.length).length<t.length
      rw[Jr _ _ _ (Nat.le_refl _)];omega
    ·clear k hk h
     dsimp only[U11]
     refine Tot.chk (by rw[h1];rfl) ?_
     refine Gg (fun x=>0<=x.1/\x.1<=8/\(x.2.2.2.2.2.2.2.2.2.2.2.length:Int)=4*x.1/\x.2.2.2.2.2.2.2.2.2.2.2.all Vm.isByte=true) (fun x=>(8 - x.1).toNat) (Tot _) ?_ N _ ⟨by show(0:Int)<=0;omega,by show(0:Int)<=8;omega,rfl,rfl⟩ (by show((8:Int) - 0).toNat<N;omega)
     rintro ⟨t,b0,b1,b2,b3,b4,b5,b6,b7,b8,b9,l⟩ ⟨h1,h2,h3,h4⟩ k hk
     have h1:0<=t:=h1
     have h2:t<=8:=h2
     have h3:(l.length:Int)=4*t:=h3
     have h4:l.all Vm.isByte=true:=h4
     dsimp only[U12]
     refine Tot.bif (fun h=> ?_) fun h=> ?_
     ·have h:=of_decide_eq_true h
      refine Tot.chk (decide_eq_true (by omega)) (Tot.chk (decide_eq_true (by omega)) (Tot.chk (decide_eq_true (by omega)) (hk _ ?_ ?_)))
      ·show 0<=i64.wrap (t+1)/\i64.wrap (t+1)<=8/\((l++[_,_,_,_]).length:Int)=4*i64.wrap (t+1)/\(l++[_,_,_,_]).all Vm.isByte=true
       rw[w64 (by omega) (by omega)]
       refine⟨by omega,by omega,by simp;omega,?_⟩
       rw[List.all_append,h4]
       simp only[List.all_cons,Ye,List.all_nil,Bool.and_self]
      ·show(8 - i64.wrap (t+1)).toNat<(8 - t).toNat
       rw[w64 (by omega) (by omega)];omega
     ·have h:=of_decide_eq_false h
      dsimp only[U11]
      refine Tot.chk h4 (Tot.some ?_)
      show(l.map Vm.byteOf).length=32
      rw[List.length_map];omega
theorem AdW {N:Nat} (hN:150<=N) (hM:N<=1000000000) {l:List Bs} (hl:l.length<N) (hs: ∀ s∈l,s.length+64<N):Tot (fun r=>r.length=32) (Vf N l):=by
  unfold Vf
  refine Tot.call (P:=fun r=>(kW r).length<64) ⟨_,rfl,by show 0<64;omega⟩ fun v hv=> ?_
  refine Gg (fun x=>0<=x.1/\x.1<=(l.length:Int)/\(kW x.2).length<64) (fun x=>((l.length:Int) - x.1).toNat) (Tot _) ?_ N _ ⟨by show(0:Int)<=0;omega,by show(0:Int)<=l.length;omega,hv⟩ (by show((l.length:Int) - 0).toNat<N;omega)
  rintro ⟨t,b0,b1,b2,b3,b4,b5,b6,b7,b8,b9⟩ ⟨h1,h2,h3⟩ k hk
  have h1:0<=t:=h1
  have h2:t<=(l.length:Int):=h2
  dsimp only[U11]
  refine Tot.bif (fun h=> ?_) fun h=> ?_
  ·have h:=of_decide_eq_true h
   have hlt:t.toNat<l.length:=by omega
   refine Tot.chk (decide_eq_true h1) (Tot.chk (decide_eq_true h) ((Adv (by omega) hM _ h3 _ (by rw[getD_lt _ _ _ hlt];exact hs _ (List.getElem_mem hlt))).call fun v hv=>hk _ ?_ ?_))
   ·show 0<=i64.wrap (t+1)/\i64.wrap (t+1)<=(l.length:Int)/\(kW v).length<64
    rw[w64 (by omega) (by omega)]
    exact⟨by omega,by omega,hv⟩
   ·show((l.length:Int) - i64.wrap (t+1)).toNat<((l.length:Int) - t).toNat
    rw[w64 (by omega) (by omega)];omega
  ·dsimp only[U10]
   exact(AeN hN _ h3).call fun v hv=>Tot.some hv
theorem Acf {N:Nat} (hN:150<=N) (hM:N<=1000000000) {l:List Bs} (hl:l.length<N) (hs: ∀ s∈l,s.length+64<N):Tot (fun r=>r.length=16) (CE N l):=by
  unfold CE
  refine(AdW hN hM hl hs).call fun v hv=>Tot.chk (decide_eq_true (by omega)) (Tot.some ?_)
  rw[Jr _ _ _ (by omega)]
def b4P (p:Int):Bs:=List.map Vm.byteOf ([IntKind.u8.wrap (p.fdiv (16777216)),IntKind.u8.wrap (p.fdiv (65536)),IntKind.u8.wrap (p.fdiv (256)),IntKind.u8.wrap p]:List Int)
def b1P (p:Int):Bs:=List.map Vm.byteOf ([IntKind.u8.wrap p]:List Int)
theorem tN (N:Nat) (p:Int):Ul N p=some (b4P p):=by
  unfold Ul
  rw[BR _ (by simp [Ye])]
  rfl
theorem AaF (N:Nat) (p:Int):Uk N p=some (b1P p):=by
  unfold Uk
  rw[BR _ (by simp [Ye])]
  rfl
theorem AcU (N:Nat) (p:Int):merkle_b4 N p=some (b4P p):=tN N p
def hS (N:Nat) (l:List Bs):Bs:=(CE N l).getD []
structure Hok (N:Nat) (l:List Bs):Prop where
  n:150<=N
  m:N<=1000000000
  len:l.length<N
  each: ∀ s∈l,s.length+64<N
theorem iC {N:Nat} {l:List Bs} (h:Hok N l):CE N l=some (hS N l)/\(hS N l).length=16:=by
  obtain⟨v,e,hv⟩:=Acf h.n h.m h.len h.each
  unfold hS
  rw[e]
  exact⟨rfl,hv⟩
def wk (f:Int->Bs->Bs) (a:Int):Nat->Bs->Bs
  | 0,x=>x
  | n+1,x=>wk f (a+1) n (f a x)
theorem AfZ (f:Int->Bs->Bs): ∀(n:Nat) (a:Int) (m:Nat) (x:Bs),wk f a (n+m) x=wk f (a+n) m (wk f a n x):=by
  intro n
  induction n with
  | zero=>intro a m x;simp [wk]
  | succ n ih =>
    intro a m x
    rw[show n+1+m=(n+m)+1 by omega]
    show wk f (a+1) (n+m) (f a x)=wk f (a+((n+1:Nat):Int)) m (wk f (a+1) n (f a x))
    rw[ih]
    congr 1
    omega
theorem Adu {f:Int->Bs->Bs} (hf: ∀ t x,x.length=16->(f t x).length=16): ∀(n:Nat) (a:Int) (x:Bs),x.length=16->(wk f a n x).length=16:=by
  intro n
  induction n with
  | zero=>intro a x h;exact h
  | succ n ih=>intro a x h;exact ih _ _ (hf _ _ h)
def st (N:Nat) (p0:Bs) (p1 p2 t:Int) (x:Bs):Bs:=hS N [[67],p0,b4P p1,b1P p2,b1P t,x]
structure Big (N:Nat):Prop where
  n:2000<=N
  m:N<=1000000000
theorem hok {N:Nat} (h:Big N) {l:List Bs} (hl:l.length<=100) (hs:l.all (fun s=>decide (s.length<=1000))=true):Hok N l:=by
  have h1:=h.n
  refine⟨by omega,h.m,by omega,fun s hm=> ?_⟩
  have:=of_decide_eq_true (List.all_eq_true.1 hs s hm)
  omega
theorem AeJ {N:Nat} (h:Big N) {p0:Bs} (h0:p0.length<=1000) (p1 p2 t:Int) {x:Bs} (hx:x.length=16):CE N [[67],p0,b4P p1,b1P p2,b1P t,x]=some (st N p0 p1 p2 t x)/\(st N p0 p1 p2 t x).length=16 :=
  iC (hok h (by simp) (by simp [h0,hx,b4P,b1P]))
theorem walk_eq {N:Nat} (h:Big N) {p0:Bs} (h0:p0.length<=1000) (p1 p2:Int) {a b:Int} (ha:0<=a) (hab:a<=b) (hb:b<=15) {x:Bs} (hx:x.length=16):LJ N p0 p1 p2 a b x=some (wk (st N p0 p1 p2) a (b - a).toNat x):=by
  unfold LJ
  have hn:=h.n
  refine Hl (X:=Bs×Int) (fun x=>x.1.length=16/\0<=x.2/\x.2<=b) (fun x=>(b - x.2).toNat) (fun x=>some (wk (st N p0 p1 p2) x.2 (b - x.2).toNat x.1)) ?_ N _ ⟨hx,ha,hab⟩ (by show(b - a).toNat<N;omega)
  rintro ⟨x,t⟩ ⟨h1,h2,h3⟩ k hk
  have h1:x.length=16:=h1
  have h2:0<=t:=h2
  have h3:t<=b:=h3
  dsimp only[U2]
  by_cases hlt:t<b
  ·rw[decide_eq_true hlt,cond_true,tN,AP,AaF,AP,AaF,AP]
   obtain⟨e1,e2⟩:=AeJ h h0 p1 p2 t h1
   rw[e1,AP,w64 (by omega) (by omega)]
   refine(hk _ ⟨e2,by show 0<=t+1;omega,by show t+1<=b;omega⟩ (by show(b - (t+1)).toNat<(b - t).toNat;omega)).trans ?_
   show some (wk _ (t+1) (b - (t+1)).toNat _)=some (wk _ t (b - t).toNat x)
   rw[show(b - t).toNat=(b - (t+1)).toNat+1 by omega]
   rfl
  ·rw[decide_eq_false hlt,cond_false]
   rw[show(b - t).toNat=0 by omega]
   rfl
theorem aT {ρ :Type} {B:Int×List Bs->(Int×List Bs->Option ρ)->(List Bs->Option ρ)->Option ρ} {kx:List Bs->Option ρ} (n:Nat) (g:Nat->Bs)
    (h: ∀(i:Nat) (acc:List Bs) (k:Int×List Bs->Option ρ),i<n->acc.length=i->B ((i:Int),acc) k kx=k ((i:Int)+1,acc++[g i]))
    (hend: ∀(acc:List Bs) (k:Int×List Bs->Option ρ),acc.length=n->B ((n:Int),acc) k kx=kx acc) {N:Nat} (hN:n<N):Aq B N (0,[]) kx=kx ((List.range n).map g):=by
  refine Hl (fun x=>x.1=(x.2.length:Int)/\x.2.length<=n/\x.2=(List.range x.2.length).map g) (fun x=>n - x.2.length) (fun _=>kx ((List.range n).map g)) ?_ N _ ⟨rfl,Nat.zero_le _,rfl⟩ (by show n - 0<N;omega)
  rintro ⟨t,acc⟩ ⟨h1,h2,h3⟩ k hk
  have h1:t=(acc.length:Int):=h1
  have h2:acc.length<=n:=h2
  have h3:acc=(List.range acc.length).map g:=h3
  subst h1
  by_cases hl:acc.length<n
  ·rw[h acc.length acc k hl rfl]
   refine hk _ ⟨by show(acc.length:Int)+1=((acc++[g acc.length]).length:Int);simp,by show(acc++[g acc.length]).length<=n;simp;omega,?_⟩ (by show n - (acc++[g acc.length]).length<n - acc.length;simp;omega)
   show acc++[g acc.length]=(List.range (acc++[g acc.length]).length).map g
   rw[List.length_append,List.length_singleton,List.range_succ,List.map_append,<- h3]
   rfl
  ·have e:acc.length=n:=by omega
   have h4:=hend acc k e
   rw[<- e]at h4
   rw[h4,<- e]
   exact congrArg kx h3
def AbQ (N:Nat) (p1:Bs) (p2:Int) (i:Nat):Bs:=hS N [[83],p1,b4P p2,b1P (i:Int)]
theorem J7 {N:Nat} (h:Big N) {p1:Bs} (h1:p1.length<=1000) (p2:Int) (i:Nat):KE N p1 p2 (i:Int)=some (AbQ N p1 p2 i)/\(AbQ N p1 p2 i).length=16:=by
  obtain⟨e1,e2⟩:=iC (N:=N) (l:=[[83],p1,b4P p2,b1P (i:Int)]) (hok h (by simp) (by simp [h1,b4P,b1P]))
  refine⟨?_,e2⟩
  unfold KE
  rw[tN,AP,AaF,AP,e1]
  rfl
def yL (N:Nat) (p0 p1:Bs) (p2:Int) (i:Nat):Bs:=wk (st N p0 p2 (i:Int)) 0 15 (AbQ N p1 p2 i)
theorem st_len {N:Nat} (h:Big N) {p0:Bs} (h0:p0.length<=1000) (p1 p2:Int): ∀ t x,x.length=16->(st N p0 p1 p2 t x).length=16:=fun t _ hx=>(AeJ h h0 p1 p2 t hx).2
theorem gU: ∀(l:List Bs),(∀ s∈l,s.length=16)->l.flatten.length=16*l.length:=by
  intro l
  induction l with
  | nil=>intro _;rfl
  | cons a r ih =>
    intro h
    rw[List.flatten_cons,List.length_append,h a List.mem_cons_self,ih fun s hs=>h s (List.mem_cons_of_mem _ hs),List.length_cons];omega
def iN (b:UInt8):Int:=(b.toNat:Int)
theorem Acs (l:Bs):(l.map iN).map Vm.byteOf=l:=by
  rw[List.map_map]
  conv=>rhs;rw[<- List.map_id l]
  refine List.map_congr_left fun b _=> ?_
  show UInt8.ofNat ((b.toNat:Int)).toNat=b
  simp
theorem AcK (l:Bs):(l.map iN).all Vm.isByte=true:=by
  rw[List.all_eq_true]
  intro x hx
  obtain⟨b,_,rfl⟩:=List.mem_map.1 hx
  have:=AeK b
  unfold Vm.isByte iN
  rw[decide_eq_true (by omega),decide_eq_true (by omega)];rfl
theorem join_eq {N:Nat} (h:Big N) {l:List Bs} (hl:l.length<=1000) (h16: ∀ s∈l,s.length=16):Qq N l=some l.flatten:=by
  have hn:=h.n
  have hf:=gU l h16
  unfold Qq
  rw[w64 (x:=(l.length:Int)*16) (by omega) (by omega),BR _ (decide_eq_true (by omega)),BR _ (decide_eq_true (by omega)),BR _ (decide_eq_true (by omega))]
  refine(Hl (X:=Int×List Int) (fun x=>0<=x.1/\x.1<=(l.length:Int)/\x.2.length=16*l.length/\x.2.take (16*x.1.toNat)=((l.take x.1.toNat).flatten).map iN) (fun x=>((l.length:Int) - x.1).toNat) (fun _=>some l.flatten) ?_ N _ ⟨by show(0:Int)<=0;omega,by show(0:Int)<=l.length;omega,by show(List.replicate _ _).length=_;rw[List.length_replicate];omega,by simp⟩ (by show((l.length:Int) - 0).toNat<N;omega))
  rintro ⟨t,y⟩ ⟨h1,h2,h3,h4⟩ k hk
  have h1:0<=t:=h1
  have h2:t<=(l.length:Int):=h2
  have h3:y.length=16*l.length:=h3
  have h4:y.take (16*t.toNat)=((l.take t.toNat).flatten).map iN:=h4
  dsimp only[U2]
  by_cases hlt:t<(l.length:Int)
  ·have hi:t.toNat<l.length:=by omega
   have hg:l.getD t.toNat []=l[t.toNat]:=getD_lt _ _ _ hi
   have h5:(l.getD t.toNat []).length=16:=by rw[hg];exact h16 _ (List.getElem_mem hi)
   have h6:l.take (t.toNat+1)=l.take t.toNat++[l.getD t.toNat []]:=by rw[hg,List.take_succ_eq_append_getElem hi]
   have h7:((l.take t.toNat).flatten).length=16*t.toNat:=by rw[gU _ fun s hs=>h16 s (List.mem_of_mem_take hs),List.length_take];omega
   generalize l.getD t.toNat []=s at h5 h6 ⊢
   rw[decide_eq_true hlt,cond_true,BR _ (decide_eq_true h1),BR _ rfl,w64 (x:=t*16) (by omega) (by omega),w64 (x:=t+1) (by omega) (by omega),BR _ (decide_eq_true (by omega)),BR _ (decide_eq_true (by omega)),BR _ (decide_eq_true (by omega)),BR _ (decide_eq_true (by omega))]
   have e16:(t*16).toNat=16*t.toNat:=by omega
   rw[e16]
   have h8:(y.take (16*t.toNat)).length=16*t.toNat:=by rw[List.length_take];omega
   refine hk _ ⟨by show 0<=t+1;omega,by show t+1<=_;omega,?_,?_⟩ (by show((l.length:Int) - (t+1)).toNat<((l.length:Int) - t).toNat;omega)
   ·show(SS y (16*t.toNat) s).length=_
    unfold SS
    simp only[List.length_append,List.length_map,List.length_drop,h8]
    omega
   ·show(SS y (16*t.toNat) s).take (16*(t+1).toNat)=((l.take (t+1).toNat).flatten).map iN
    rw[show(t+1).toNat=t.toNat+1 by omega,h6,List.flatten_append,List.map_append,<- h4]
    unfold SS
    rw[List.take_append_of_le_length (by simp only[List.length_append,List.length_map,h8];omega)]
    rw[List.take_of_length_le (by simp only[List.length_append,List.length_map,h8];omega)]
    simp [iN]
  ·have et:t.toNat=l.length:=by omega
   rw[decide_eq_false hlt,cond_false]
   rw[et,<- h3,List.take_length,List.take_length]at h4
   rw[h4]
   show chk _ _=_
   rw[BR _ (AcK _),Acs]
theorem LG {n:Nat} {g:Nat->Bs} (h: ∀ i,(g i).length=16): ∀ s∈(List.range n).map g,s.length=16:=by
  intro s hs
  obtain⟨i,_,rfl⟩:=List.mem_map.1 hs
  exact h i
def Aen (N:Nat) (p0:Bs) (p1:Int) (l:List Bs):Bs:=hS N [[76],p0,b4P p1,l.flatten]
theorem Yz {N:Nat} (h:Big N) {p0:Bs} (h0:p0.length<=1000) (p1:Int) {l:List Bs} (hl:l.length<=60) (h16: ∀ s∈l,s.length=16):KD N p0 p1 l=some (Aen N p0 p1 l)/\(Aen N p0 p1 l).length=16:=by
  have hf:=gU l h16
  obtain⟨e1,e2⟩:=iC (N:=N) (l:=[[76],p0,b4P p1,l.flatten]) (hok h (by simp) (by
    simp only[List.all_cons,List.all_nil,hf,Bool.and_true,decide_eq_true h0]
    rw[decide_eq_true (by omega:16*l.length<=1000)]
    simp [b4P]))
  refine⟨?_,e2⟩
  unfold KD
  rw[tN,AP,join_eq h (by omega) h16,AP,e1]
  rfl
theorem Xn (N:Nat) {p0:Bs} (h0:p0.length=16) {p:Int} (h1:0<=p) (h2:p<256):Fe N p0 p=some 0:=by
  unfold Fe
  rw[show((p0.length:Int) != 16)=false by rw[h0];rfl,decide_eq_false (by omega: ¬ p<0),decide_eq_false (by omega: ¬ p>=256)]
  rfl
theorem Xo (N:Nat) {p0 p1:Bs} (h0:p0.length=16) (hs:p1.length=32) {p:Int} (h1:0<=p) (h2:p<256):Gq N p0 p1 p=some 0:=by
  unfold Gq
  rw[show((p0.length:Int) != 16)=false by rw[h0];rfl,show((p1.length:Int) != 32)=false by rw[hs];rfl]
  show callO (Fe N p0 p) _=_
  rw[Xn N h0 h1 h2]
  rfl
theorem dP {N:Nat} (h:Big N) {p0 p1:Bs} (h0:p0.length<=1000) (hs:p1.length<=1000) (p2:Int) (i:Nat):(yL N p0 p1 p2 i).length=16:=Adu (st_len h h0 p2 i) _ _ _ (J7 h hs p2 i).2
def pkP (N:Nat) (p0 p1:Bs) (p2:Int):Bs:=Aen N p0 p2 ((List.range 35).map (yL N p0 p1 p2))
theorem Ace {N:Nat} (h:Big N) {p0 p1:Bs} (h0:p0.length=16) (hs:p1.length=32) {p2:Int} (h1:0<=p2) (h2:p2<256):OW N p0 p1 p2=some (pkP N p0 p1 p2,0):=by
  have hn:=h.n
  unfold OW
  rw[Xo N h0 hs h1 h2]
  show Aq (X:=Int×List Bs) (Y:=List Bs) _ N (0,[]) _=_
  refine(aT 35 (yL N p0 p1 p2) (fun i acc k hi ha=> ?_) (fun acc k ha=> ?_) (by omega)).trans ?_
  ·dsimp only[U2]
   rw[decide_eq_true (by omega:(i:Int)<35),cond_true,(J7 h (by omega) p2 i).1,AP,walk_eq h (by omega) p2 i (Int.le_refl 0) (by omega) (Int.le_refl 15) (J7 h (by omega) p2 i).2,AP,BR _ (decide_eq_true (by omega)),w64 (by omega) (by omega)]
   rfl
  ·rfl
  ·rw[(Yz h (by omega) p2 (by simp) (LG (dP h (by omega) (by omega) p2))).1]
   rfl
theorem pk_len {N:Nat} (h:Big N) {p0 p1:Bs} (h0:p0.length=16) (hs:p1.length=32) (p2:Int):(pkP N p0 p1 p2).length=16:=(Yz h (by omega) p2 (by simp) (LG (dP h (by omega) (by omega) p2))).2
def Dig (l:List Int):Prop:=l.length=35/\ ∀ i,0<=l.getD i 0/\l.getD i 0<=15
theorem Aga (a:Nat) (h:a<256):0<=bitsI .and .u8 (a:Int) 15/\bitsI .and .u8 (a:Int) 15<=15:=by
  have: ∀ a:Fin 256,0<=bitsI .and .u8 ((a.val:Nat):Int) 15/\bitsI .and .u8 ((a.val:Nat):Int) 15<=15:=by decide +kernel
  exact this ⟨a,h⟩
theorem Acj (a:Nat) (h:a<1024):0<=bitsI .and .i64 (a:Int) 15/\bitsI .and .i64 (a:Int) 15<=15:=by
  have: ∀ a:Fin 1024,0<=bitsI .and .i64 ((a.val:Nat):Int) 15/\bitsI .and .i64 ((a.val:Nat):Int) 15<=15:=by decide +kernel
  exact this ⟨a,h⟩
theorem AdV {l:List Int} (h: ∀ x∈l,0<=x/\x<=15) (i:Nat):0<=l.getD i 0/\l.getD i 0<=15:=by
  by_cases hi:i<l.length
  ·rw[getD_lt _ _ _ hi];exact h _ (List.getElem_mem hi)
  ·rw[List.getD_eq_getElem?_getD,List.getElem?_eq_none (by omega)];simp
theorem Abh (a b:Nat):(a:Int).fdiv (b:Int)=((a / b:Nat):Int):=by
  rw[Int.fdiv_eq_ediv_of_nonneg _ (Int.natCast_nonneg b)];rfl
theorem Aa6 {N:Nat} (h:Big N) {p:Bs} (hp:p.length=16):Tot (fun r=>r.2=0/\Dig r.1) (Gj N p):=by
  have hn:=h.n
  unfold Gj
  rw[show((p.length:Int) != 16)=false by rw[hp];rfl]
  refine Tot.chk (decide_eq_true (by omega)) ?_
  show Tot _ (Aq (X:=Int×Int×List Int×List Int) _ N (0,0,p.map iN,[]) _)
  refine Gg (fun x=>0<=x.2.1/\x.2.1<=16/\x.2.2.1=p.map iN/\(x.2.2.2.length:Int)=2*x.2.1/\(∀ d∈x.2.2.2,0<=d/\d<=15)/\0<=x.1/\x.1<=30*x.2.1) (fun x=>(16 - x.2.1).toNat) (Tot _) ?_ N _ ⟨by show(0:Int)<=0;omega,by show(0:Int)<=16;omega,rfl,rfl,(fun _ h=>by cases h),by show(0:Int)<=0;omega,by show(0:Int)<=30*0;omega⟩ (by show((16:Int) - 0).toNat<N;omega)
  rintro ⟨c,t,l,acc⟩ ⟨h1,h2,h3,h4,h5,h6,h7⟩ k hk
  have h1:0<=t:=h1
  have h2:t<=16:=h2
  have h3:l=p.map iN:=h3
  have h4:(acc.length:Int)=2*t:=h4
  have h5: ∀ d∈acc,0<=d/\d<=15:=h5
  have h6:0<=c:=h6
  have h7:c<=30*t:=h7
  dsimp only[U4]
  refine Tot.bif (fun hb=> ?_) fun hb=> ?_
  ·have hb:=of_decide_eq_true hb
   rw[List.length_map,hp]at hb
   have hl:t.toNat<l.length:=by rw[h3,List.length_map];omega
   obtain⟨a,ha,hlt⟩: ∃ a:Nat,l.getD t.toNat 0=(a:Int)/\a<256:=by
     rw[getD_lt _ _ _ hl]
     have hm:l[t.toNat]∈p.map iN:=h3▸List.getElem_mem hl
     obtain⟨b,_,hb⟩:=List.mem_map.1 hm
     exact⟨b.toNat,hb.symm,AeK b⟩
   obtain⟨q1,q2⟩:=Aga a hlt
   have hd:(a:Int).fdiv 16=((a / 16:Nat):Int):=Abh a 16
   rw[ha,hd]
   generalize bitsI .and .u8 (a:Int) 15=y at q1 q2 ⊢
   rw[w64 (x:=((a / 16:Nat):Int)) (by omega) (by omega),w64 (x:=y) (by omega) (by omega),w64 (x:=15 - ((a / 16:Nat):Int)) (by omega) (by omega),w64 (x:=15 - ((a / 16:Nat):Int)+15) (by omega) (by omega),w64 (x:=15 - ((a / 16:Nat):Int)+15 - y) (by omega) (by omega),w64 (x:=t+1) (by omega) (by omega),w64 (by omega) (by omega)]
   refine Tot.chk (decide_eq_true h1) (Tot.chk (decide_eq_true (by omega)) (Tot.chk (decide_eq_true (by omega)) (Tot.chk (decide_eq_true (by omega)) (hk _ ⟨by show 0<=t+1;omega,by show t+1<=16;omega,h3,?_,?_,?_,?_⟩ ?_))))
   ·show((acc++[_,_]).length:Int)=2*(t+1)
    simp;omega
   ·intro d hd
    have hd:d∈acc++[((a / 16:Nat):Int),y]:=hd
    rcases List.mem_append.1 hd with hd | hd
    ·exact h5 d hd
    ·simp only[List.mem_cons,List.not_mem_nil,or_false]at hd
     rcases hd with rfl | rfl<;>omega
   ·show 0<=c+(15 - ((a / 16:Nat):Int)+15 - y)
    omega
   ·show c+(15 - ((a / 16:Nat):Int)+15 - y)<=30*(t+1)
    omega
   ·show(16 - (t+1)).toNat<(16 - t).toNat
    omega
  ·have hb:=of_decide_eq_false hb
   rw[List.length_map,hp]at hb
   dsimp only[U2]
   refine Tot.chk (decide_eq_true (by omega)) (Tot.some ⟨rfl,?_,?_⟩)
   ·show(acc++[_,_,_]).length=35
    simp;omega
   ·obtain⟨n,hn,hn2⟩: ∃ n:Nat,c=(n:Int)/\n<=480:=⟨c.toNat,by omega,by omega⟩
    refine AdV fun x hx=> ?_
    have hx:x∈acc++[c.fdiv 256,bitsI .and .i64 (c.fdiv 16) 15,bitsI .and .i64 c 15]:=hx
    rcases List.mem_append.1 hx with hx | hx
    ·exact h5 x hx
    ·simp only[List.mem_cons,List.not_mem_nil,or_false]at hx
     subst hn
     have e1:(n:Int).fdiv 256=((n / 256:Nat):Int):=Abh n 256
     have e2:(n:Int).fdiv 16=((n / 16:Nat):Int):=Abh n 16
     rcases hx with rfl | rfl | rfl
     ·rw[e1];omega
     ·rw[e2];exact Acj _ (by omega)
     ·exact Acj _ (by omega)
theorem AdJ: ∀(l:List Bs) (i:Nat),(∀ s∈l,s.length=16)->i<l.length->A7 l.flatten (16*i) (16*(i+1))=l.getD i []:=by
  intro l
  induction l with
  | nil=>intro i _ h;simp at h
  | cons a r ih =>
    intro i h hi
    have ha:a.length=16:=h a List.mem_cons_self
    cases i with
    | zero =>
      show((a++r.flatten).take (16*(0+1))).drop (16*0)=a
      rw[List.take_append_of_le_length (by omega),List.take_of_length_le (by omega)]
      rfl
    | succ i =>
      have:=ih i (fun s hs=>h s (List.mem_cons_of_mem _ hs)) (by simpa using hi)
      show((a++r.flatten).take (16*(i+1+1))).drop (16*(i+1))=r.getD i []
      rw[<- this]
      rw[show 16*(i+1+1)=a.length+16*(i+1) by omega,List.take_length_add_append,show 16*(i+1)=a.length+16*i by omega,List.drop_length_add_append]
      rw[ha,show 16+16*i=16*(i+1) by omega]
      rfl
def lL (N:Nat) (d:Bs):List Int:=((Gj N d).getD ([],0)).1
theorem oQ {N:Nat} (h:Big N) {d:Bs} (hd:d.length=16):Gj N d=some (lL N d,0)/\Dig (lL N d):=by
  obtain⟨⟨l,e⟩,h1,h2,h3⟩:=Aa6 h hd
  have h2:e=0:=h2
  subst h2
  unfold lL
  rw[h1]
  exact⟨rfl,h3⟩
def sgP (N:Nat) (p0 p1:Bs) (p2:Int) (d:Bs) (i:Nat):Bs:=wk (st N p0 p2 (i:Int)) 0 ((lL N d).getD i 0).toNat (AbQ N p1 p2 i)
def Tc (N:Nat) (p0 p1:Bs) (p2:Int) (d:Bs):Bs:=((List.range 35).map (sgP N p0 p1 p2 d)).flatten
section
variable {N:Nat} (h:Big N) {p0 p1:Bs} (h0:p0.length=16) (hs:p1.length=32) {p2:Int} (h1:0<=p2) (h2:p2<256) {d:Bs} (hd:d.length=16)
include h h0 hs
theorem Zc (p2:Int) (d:Bs) (i:Nat):(sgP N p0 p1 p2 d i).length=16:=Adu (st_len h (by omega) p2 i) _ _ _ (J7 h (by omega) p2 i).2
theorem VJ (p2:Int) (d:Bs):(Tc N p0 p1 p2 d).length=560:=by
  unfold Tc
  rw[gU _ (LG (Zc h h0 hs p2 d)),List.length_map,List.length_range]
include h1 h2 hd
theorem AeM:ots_Sign N p0 p1 p2 d=some (Tc N p0 p1 p2 d,0):=by
  have hn:=h.n
  obtain⟨e1,e2,e3⟩:=oQ h hd
  unfold ots_Sign
  rw[Xo N h0 hs h1 h2,AP]
  rw[show((0:Int) != 0)=false from rfl,cond_false]
  rw[e1,AP]
  show Aq (X:=Int×List Bs) (Y:=List Bs) _ N (0,[]) _=_
  refine(aT 35 (sgP N p0 p1 p2 d) (fun i acc k hi ha=> ?_) (fun acc k ha=> ?_) (by omega)).trans ?_
  ·have e4:=e3 i
   dsimp only[U2]
   rw[decide_eq_true (by omega:(i:Int)<35),cond_true,BR _ (decide_eq_true (by omega)),BR _ (decide_eq_true (by omega)),(J7 h (by omega) p2 i).1,AP,Int.toNat_natCast,walk_eq h (by omega) p2 i (Int.le_refl 0) e4.1 e4.2 (J7 h (by omega) p2 i).2,AP,BR _ (decide_eq_true (by omega)),w64 (by omega) (by omega),Int.sub_zero]
   rfl
  ·rfl
  ·rw[join_eq h (by simp) (LG (Zc h h0 hs p2 d))]
   rfl
theorem Aa8:Me N p0 p2 d (Tc N p0 p1 p2 d)=some (pkP N p0 p1 p2,0):=by
  have hn:=h.n
  obtain⟨e1,e2,e3⟩:=oQ h hd
  have hsl:=VJ h h0 hs p2 d
  unfold Me
  rw[Xn N h0 h1 h2,AP]
  rw[show((0:Int) != 0)=false from rfl,cond_false]
  rw[e1,AP]
  show(bif (((Tc N p0 p1 p2 d).length:Int) != 560)then _ else _)=_
  rw[show(((Tc N p0 p1 p2 d).length:Int) != 560)=false by rw[hsl];rfl,cond_false]
  refine(aT 35 (yL N p0 p1 p2) (fun i acc k hi ha=> ?_) (fun acc k ha=> ?_) (by omega)).trans ?_
  ·have e4:=e3 i
   have hc:A7 (Tc N p0 p1 p2 d) (16*i) (16*(i+1))=sgP N p0 p1 p2 d i:=by
     unfold Tc
     rw[AdJ _ _ (LG (Zc h h0 hs p2 d)) (by simpa using hi),getD_lt _ _ _ (by simpa using hi)]
     simp
   dsimp only[U2]
   rw[decide_eq_true (by omega:(i:Int)<35),cond_true,w64 (x:=(i:Int)*16) (by omega) (by omega),w64 (x:=(i:Int)+1) (by omega) (by omega),w64 (by omega) (by omega)]
   rw[BR _ (decide_eq_true (by omega)),BR _ (decide_eq_true (by omega)),BR _ (decide_eq_true (by omega)),BR _ (decide_eq_true (by omega)),BR _ (decide_eq_true (by omega)),show((i:Int)*16).toNat=16*i by omega,show(((i:Int)+1)*16).toNat=16*(i+1) by omega,hc,Int.toNat_natCast,walk_eq h (by omega) p2 i e4.1 e4.2 (Int.le_refl 15) (Zc h h0 hs p2 d i),AP,BR _ (decide_eq_true (by omega))]
   congr 3
   congr 1
   unfold sgP yL
   rw[show(15:Nat)=((lL N d).getD i 0).toNat+(15 - (lL N d).getD i 0).toNat by omega,AfZ]
   congr 1
   omega
  ·rfl
  ·rw[(Yz h (by omega) p2 (by simp) (LG (dP h (by omega) (by omega) p2))).1]
   rfl
end
end Go.Proofs.YtbaomhegdndpnaaGreatDoor.Pl
namespace Go.Proofs.YtbaomhegdndpnaaGreatDoor.Pl
open IntKind (i64)
open Go Vm
set_option linter.unusedSectionVars false
theorem ne_nil {s:Bs} (h:0<s.length):(s==([]:Bs))=false:=by cases s with | nil=>simp at h | cons a r=>rfl
def idP (N:Nat) (sd:Bs):Bs:=hS N [[73],sd]
def VS (N:Nat) (sd:Bs):Yq8:=([],sd,idP N sd,0)
def SH (N:Nat) (sd:Bs):Bs:=pkP N (idP N sd) sd 0
def MF (N:Nat) (sd:Bs):Yq8:=([[SH N sd]],sd,idP N sd,0)
def yE (N:Nat) (sd:Bs):Yq9:=(sd,0,0,[VS N sd])
def yF (N:Nat) (sd:Bs):Yq9:=(sd,0,1,[MF N sd])
def Yy (N:Nat) (sd:Bs):Int×Bs×Bs:=(0,idP N sd,SH N sd)
def bC (N:Nat) (sd m:Bs):Bs:=hS N [[77],idP N sd,SH N sd,b4P 0,m]
def KU (N:Nat) (sd m:Bs):Bs:=b4P 0++Tc N (idP N sd) sd 0 (bC N sd m)
section
variable {N:Nat} (h:Big N) {sd:Bs} (hs:sd.length=32)
include h hs
theorem id_eq:CE N [[73],sd]=some (idP N sd)/\(idP N sd).length=16:=iC (hok h (by simp) (by simp [hs]))
theorem Aa0:(SH N sd).length=16:=pk_len h (id_eq h hs).2 hs 0
theorem yQ:GI N sd 0=some (.inl (VS N sd,0)):=by
  unfold GI
  rw[show((sd.length:Int) != 32)=false by rw[hs];rfl,cond_false,(id_eq h hs).1]
  rfl
theorem Xa (l:List (List Bs)) (k:Bs):merkle_Tree_Leaves N (l,sd,k,0)=some (1,(l,sd,k,0)):=by
  unfold merkle_Tree_Leaves merkle_Tree_valid
  rw[AP,ne_nil (by rw[hs];decide)]
  rfl
theorem Afl:KW N sd 0=some (.inl (yE N sd,0)):=by
  have e:=Xa h hs [] (idP N sd)
  unfold KW YG
  rw[yQ h hs,oM]
  unfold VS
  dsimp only
  rw[e]
  rfl
theorem Agb:Dt N (VS N sd)=some (MF N sd):=by
  obtain⟨M,rfl⟩: ∃ M,N=M+10:=⟨N - 10,by have:=h.n;omega⟩
  unfold Dt
  have e:=Ace h (id_eq h hs).2 hs (Int.le_refl 0) (by omega:(0:Int)<256)
  unfold VS
  rw[Aaz]
  dsimp only[U6]
  rw[e]
  rfl
theorem Agc:Dt N (MF N sd)=some (MF N sd):=rfl
theorem Acd (t:Yq8) (ht:Dt N t=some (MF N sd)) (hv:t.2.1=sd):merkle_Tree_Key N t=some (Yy N sd,MF N sd):=by
  unfold merkle_Tree_Key merkle_Tree_valid
  rw[AP,hv,ne_nil (by rw[hs];decide)]
  dsimp only
  rw[Bool.not_false,Bool.not_true,cond_false,ht]
  rfl
theorem Ac1 {m:Bs} (hm:m.length+64<N):merkle_digest N (Yy N sd) 0 m=some (bC N sd m)/\(bC N sd m).length=16:=by
  have hn:=h.n
  obtain⟨e1,e2⟩:=iC (N:=N) (l:=[[77],idP N sd,SH N sd,b4P 0,m]) ⟨by omega,h.m,by simp;omega,fun s hs'=>by
    have i1:=(id_eq h hs).2
    have i2:=Aa0 h hs
    simp only[List.mem_cons,List.not_mem_nil,or_false]at hs'
    rcases hs' with rfl | rfl | rfl | rfl | rfl
    ·simp;omega
    ·omega
    ·omega
    ·simp [b4P];omega
    ·exact hm⟩
  refine⟨?_,e2⟩
  unfold merkle_digest
  rw[AcU,AP]
  show callO (CE N [[77],idP N sd,SH N sd,b4P 0,m]) _=_
  rw[e1]
  rfl
theorem Ad2 {m:Bs} (hm:m.length+64<N) (l:List (List Bs)) (ht:Dt N (l,sd,idP N sd,0)=some (MF N sd)):merkle_Tree_Sign N (l,sd,idP N sd,0) 0 m=some (KU N sd m,0,MF N sd):=by
  have hn:=h.n
  have e1:=Xa h hs l (idP N sd)
  have e2:=Acd h hs (l,sd,idP N sd,0) ht rfl
  obtain⟨e3,e4⟩:=Ac1 h hs hm
  have e5:=AeM h (id_eq h hs).2 hs (Int.le_refl 0) (by omega) e4
  have hl:=VJ h (id_eq h hs).2 hs 0 (bC N sd m)
  unfold merkle_Tree_Sign merkle_Tree_valid
  rw[AP,ne_nil (by rw[hs];decide)]
  dsimp only
  rw[e1]
  simp (decide:=true) only[Bool.not_false,Bool.not_true,cond_false,cond_true,Option.isSome_some,Bool.true_or,Bool.or_true,G8,Option.getD_some,Int.lt_irrefl,decide_false]
  rw[e2,AP]
  dsimp only[MF]
  rw[beq_self_eq_true,beq_self_eq_true,G8,G8]
  refine(BR _ rfl).trans ?_
  rw[e3,AP,e5,AP]
  dsimp only
  rw[show((0:Int) != 0)=false from rfl,cond_false,AcU,AP,BR _ (decide_eq_true (by rw[hl];simp [b4P]))]
  obtain⟨M,rfl⟩: ∃ M,N=M+10:=⟨N - 10,by omega⟩
  rfl
theorem Ady {m:Bs} (hm:m.length+64<N):Ef N (yE N sd) m=some (KU N sd m,0,yF N sd):=by
  have e1:=Xa h hs [] (idP N sd)
  have e2:=Ad2 h hs hm [] (Agb h hs)
  unfold Ef Hr Dx
  dsimp only[yE,VS,AP,List.headD_cons]
  rw[ne_nil (by rw[hs];decide),Bool.false_and,cond_false,cond_false,e1,AP]
  dsimp only
  rw[show(i64.wrap (1 - 0))=1 from rfl,AP]
  dsimp only
  rw[show((1:Int)==0)=false from rfl,cond_false,List.headD_cons,e2,AP]
  rfl
theorem AeL:E8 N (yF N sd)=some (Yy N sd,yF N sd):=by
  have e:=Acd h hs (MF N sd) (Agc h hs) rfl
  unfold E8 Dx
  dsimp only[yF,List.headD_cons]
  rw[ne_nil (by rw[hs];decide),Bool.false_and,AP]
  dsimp only
  rw[cond_false,List.headD_cons,e,AP]
  dsimp only
  rw[beq_self_eq_true,beq_self_eq_true,G8,G8]
  rfl
theorem Aa7 {m:Bs} (hm:m.length+64<N):IZ N (Yy N sd) m (KU N sd m)=some 0:=by
  have hn:=h.n
  obtain⟨e3,e4⟩:=Ac1 h hs hm
  have e5:=Aa8 h (id_eq h hs).2 hs (Int.le_refl 0) (by omega) e4
  have hl:=VJ h (id_eq h hs).2 hs 0 (bC N sd m)
  have hk:=Aa0 h hs
  have hi:=(id_eq h hs).2
  have h4:(b4P 0).length=4:=rfl
  have hc:JY N (Yy N sd)=some 0:=by
    unfold JY Yy
    dsimp only
    rw[show((List.length (idP N sd):Int) != 16)=false by rw[hi];rfl,show((List.length (SH N sd):Int) != 16)=false by rw[hk];rfl]
    rfl
  have hsl:(KU N sd m).length=564:=by unfold KU;rw[List.length_append,hl,h4]
  have c1:A7 (KU N sd m) 0 4=b4P 0:=by
    unfold A7 KU
    rw[List.take_append_of_le_length (by omega)];rfl
  have c2:A7 (KU N sd m) 4 564=Tc N (idP N sd) sd 0 (bC N sd m):=by
    unfold A7
    rw[List.take_of_length_le (by omega)]
    unfold KU
    exact List.drop_left' h4
  have hf:Md N (KU N sd m)=some (0,true):=by
    unfold Md
    rw[c1,hsl]
    obtain⟨M,rfl⟩: ∃ M,N=M+10:=⟨N - 10,by omega⟩
    rfl
  unfold IZ
  rw[hc,AP,show((0:Int) != 0)=false from rfl,cond_false,hsl,hf,AP]
  dsimp only[Yy]
  rw[show((((564:Nat):Int)) != i64.wrap (564+i64.wrap (0*16)))=false from rfl,cond_false]
  refine(BR _ rfl).trans ?_
  rw[decide_eq_false (by decide: ¬(0:Int)>=i64.wrap (1*2 ^ min (IntKind.u64.wrap 0).toNat 64)),cond_false]
  have e3':merkle_digest N (0,idP N sd,SH N sd) 0 m=_:=e3
  rw[e3',AP]
  refine(BR _ rfl).trans ?_
  rw[c2,e5,AP]
  dsimp only
  rw[show((0:Int) != 0)=false from rfl,cond_false]
  refine(BR _ rfl).trans ?_
  obtain⟨M,rfl⟩: ∃ M,N=M+10:=⟨N - 10,by omega⟩
  rw[Aaz]
  dsimp only[U6,U4]
  rw[decide_eq_false (by decide: ¬(0:Int)<0),cond_false]
  show(bif !(SH (M+10) sd==SH (M+10) sd)then _ else _)=_
  rw[beq_self_eq_true]
  rfl
end
end Go.Proofs.YtbaomhegdndpnaaGreatDoor.Pl
namespace Go.Proofs.YtbaomhegdndpnaaGreatDoor.Pl
open IntKind (i64)
open Go Vm
def N0:Nat:=1048576
theorem vC:Big N0:=⟨by decide,by decide⟩
def au0:List Yq0:=(Bo N0 0).getD []
theorem Afs:Bo N0 0=some au0:=by kernel_rfl
def liA:Yq4:=(([]:Bs),([]:Bs),au0,0,0,1,(-1),([]:Bs),false,([]:List Yq2),false,false,0,false,([]:List Yq3),([(7,0,6,(-1),au0)]:List Yq1),([]:Bs))
def QE:Bs:=((TE N0 liA).getD default).1
theorem Afe:TE N0 liA=some (QE,0):=by kernel_rfl
theorem Ae1:(decide (QE.length<=1000))=true:=by kernel_rfl
def sgF (f:Nat->UInt8):Bs:=(List.range 564).map f
def outA (f:Nat->UInt8):Bs:=((UG N0 QE (sgF f)).getD default).1
theorem Afa (f:Nat->UInt8):UG N0 QE (sgF f)=some (outA f,0):=by kernel_rfl
def aZ (f:Nat->UInt8):Yq4:=((JH N0 (outA f)).getD default).1
theorem AeQ (f:Nat->UInt8):JH N0 (outA f)=some (aZ f,0):=by kernel_rfl
theorem AdL (f:Nat->UInt8):(aZ f).2.1=QE:=by kernel_rfl
theorem AdM (f:Nat->UInt8):(aZ f).2.2.2.2.2.2.2.2.2.2.2.2.2.2.2.2=sgF f:=by kernel_rfl
def au8:List Yq0:=(Bo N0 8).getD []
theorem Aft:Bo N0 8=some au8:=by kernel_rfl
def Vb (f:Nat->UInt8):Yq1:=((P9 N0 (aZ f) au8 7).getD default).1
theorem AeU (f:Nat->UInt8):P9 N0 (aZ f) au8 7=some (Vb f,true):=by kernel_rfl
theorem Afz (f:Nat->UInt8):(Vb f).2.2.1=6:=by kernel_rfl
theorem Agn:H6 N0 9=some 128:=by kernel_rfl
def sd1:Bs:=(MV N0 1).getD []
theorem AfN:MV N0 1=some sd1:=by kernel_rfl
theorem Uz:sd1.length=32:=by kernel_rfl
theorem AfO {l:Bs} (h:l.length=564):sgF (fun i=>l.getD i 0)=l:=by
  unfold sgF
  rw[<- h]
  apply List.ext_getElem
  ·simp
  ·intro i h1 h2
   simp [List.getD_eq_getElem?_getD,h2]
theorem Aev {N:Nat} (h:Big N) {sd:Bs} (hs:sd.length=32) (m:Bs):(KU N sd m).length=564:=by
  unfold KU
  rw[List.length_append,VJ h (id_eq h hs).2 hs 0 (bC N sd m)];rfl
def fA:Nat->UInt8:=fun i=>(KU N0 sd1 QE).getD i 0
theorem AeB:sgF fA=KU N0 sd1 QE:=AfO (Aev vC Uz QE)
theorem Aa4:QE.length+64<N0:=by have:=of_decide_eq_true Ae1;show _<1048576;omega
attribute [irreducible] N0 au0 QE outA aZ au8 Vb sd1
theorem Adx:MK N0 liA (yE N0 sd1)=some (outA fA,0,yF N0 sd1):=by
  have e1:=Ady vC Uz Aa4
  have e2:=Afa fA
  rw[AeB]at e2
  unfold MK
  rw[Afe,AP]
  dsimp only
  rw[show((0:Int) != 0)=false from rfl,cond_false]
  have e1':Ef N0 (sd1,0,0,[VS N0 sd1]) QE=_:=e1
  dsimp only[yE,List.headD_cons]
  rw[e1',AP]
  dsimp only
  rw[show((0:Int) != 0)=false from rfl,cond_false,e2,AP]
  rfl
theorem Acg:JI N0 (aZ fA) (Yy N0 sd1)=some 0:=by
  unfold JI
  rw[AdL,AdM,AeB,Aa7 vC Uz Aa4]
  rfl
theorem Acl {N:Nat} {sd out:Bs} {au au':List Yq0} {t0 t1:Yq8} {dec:Yq4} {fin:Yq1} {k:Int×Bs×Bs} (h1:MV N 1=some sd) (h2:KW N sd 0=some (.inl ((sd,0,0,[t0]),0))) (h3:Bo N 0=some au)
    (h4:MK N (([]:Bs),([]:Bs),au,0,0,1,(-1),([]:Bs),false,([]:List Yq2),false,false,0,false,([]:List Yq3),([(7,0,6,(-1),au)]:List Yq1),([]:Bs)) (sd,0,0,[t0])=some (out,0,(sd,0,1,[t1])))
    (h5:JH N out=some (dec,0)) (h6:Bo N 8=some au') (h7:P9 N dec au' 7=some (fin,true)) (h8:E8 N (sd,0,1,[t1])=some (k,(sd,0,1,[t1]))) (h9:JI N dec k=some 0) (h10:fin.2.2.1=6) (h11:H6 N 9=some 128):F9 N=some true:=by
  unfold F9
  rw[h1,AP,h2,oM]
  dsimp only
  simp (decide:=true) only[cond_true,cond_false,G8,Bool.not_true,Bool.not_false,Bool.or_true,Bool.true_or,bne_self_eq_false]
  rw[h3,AP,AP]
  dsimp only[List.headD_cons]
  rw[h4,AP]
  dsimp only
  rw[h5,AP,h6,AP]
  dsimp only
  rw[h7,AP]
  dsimp only[List.headD_cons]
  simp (decide:=true) only[cond_true,cond_false,G8,YW,beq_self_eq_true]
  rw[h8,AP]
  dsimp only
  rw[h9,AP,h10,h11]
  rfl
theorem Ad8:F9 N0=some true:=Acl AfN (Afl vC Uz) Afs Adx (AeQ fA) Aft (AeU fA) (AeL vC Uz) Acg (Afz fA) Agn
abbrev d1:Yq1:=(0,0,0,0,([]:List Yq0))
structure Iss (N:Nat) (au:List Yq0):Prop where
  chk:EJ N au=some 0
  AfF:Ep N au=some 0
  mat:F7 N au au=some true
  AfL:Es N au au=some true
  len:((au.length:Int)==0)=false
  re: ∀ r:Fin 7,UL N ((r.val:Nat):Int)=some true
  rre: ∀ r:Fin 7,QC N ((r.val:Nat):Int)=some true
  big:300<=N
theorem AbK {N:Nat} {au:List Yq0} (h:Iss N au) {l:List Yq1} {a:Int} (hN:l.length<N) (hl:l.length<=1000) (hx: ∀ j,j<l.length->(l.getD j d1).1≠a/\(l.getD j d1).2.2.2.2=au):MO N l au a=some (-1):=by
  unfold MO
  refine Hl (X:=Int×List Yq0) (fun x=>0<=x.1/\x.1<=(l.length:Int)/\x.2=au) (fun x=>((l.length:Int) - x.1).toNat) (fun _=>some (-1)) ?_ N _ ⟨by show(0:Int)<=0;omega,by show(0:Int)<=l.length;omega,rfl⟩ (by show((l.length:Int) - 0).toNat<N;omega)
  rintro ⟨t,b⟩ ⟨h1,h2,h3⟩ k hk
  have h1:0<=t:=h1
  have h2:t<=(l.length:Int):=h2
  have h3:b=au:=h3
  subst h3
  dsimp only[U2]
  by_cases hlt:t<(l.length:Int)
  ·obtain⟨e1,e2⟩:=hx t.toNat (by omega)
   have e3:((l.getD t.toNat d1).1==a)=false:=beq_eq_false_iff_ne.2 e1
   simp only[decide_eq_true hlt,decide_eq_true h1,e2,e3,h.mat,cond_true,cond_false,G8,Option.isSome_some,Option.getD_some,Bool.not_false,Bool.or_true,Bool.true_or]
   rw[w64 (by omega) (by omega)]
   exact hk _ ⟨by show 0<=t+1;omega,by show t+1<=_;omega,rfl⟩ (by show((l.length:Int) - (t+1)).toNat<((l.length:Int) - t).toNat;omega)
  ·rw[decide_eq_false hlt]
   rfl
def xL (au:List Yq0) (es:List Yq1):Yq4:=(([]:Bs),([]:Bs),au,0,0,3,(-1),([]:Bs),false,([]:List Yq2),false,false,0,false,([]:List Yq3),es,([]:Bs))
structure Ent (au:List Yq0) (es:List Yq1) (i:Nat):Prop where
  lt:i<es.length
  a1:1<=(es.getD i d1).1/\(es.getD i d1).1<=4611686018427387904
  a2:0<=(es.getD i d1).2.1/\(es.getD i d1).2.1<=254033452799
  a3: ∃ r:Fin 7,(es.getD i d1).2.2.1=((r.val:Nat):Int)
  a4:(es.getD i d1).2.2.2.1= -1
  a5:(es.getD i d1).2.2.2.2=au
theorem Pz (N:Nat) {x a b:Int} (h1:a<=x) (h2:x<=b):DX N x a b=some true:=by
  unfold DX
  rw[decide_eq_true (show x>=a from h1),decide_eq_true h2];rfl
theorem AdQ {N:Nat} {au:List Yq0} (h:Iss N au) {es:List Yq1} (hl:es.length<=256) {i:Nat} (he: ∀ j,j<=i->Ent au es j) (hd: ∀ j,j<i->(es.getD j d1).1≠(es.getD i d1).1):FM N (xL au es) (i:Int)=some 0:=by
  have hi:=(he i (Nat.le_refl _)).lt
  obtain⟨_,⟨p1,p2⟩,⟨p3,p4⟩,⟨r,p5⟩,p6,p7⟩:=he i (Nat.le_refl _)
  have hc:(A7 es 0 i).length=i:=Jr es 0 i (by omega)
  have hg: ∀ j,j<i->(A7 es 0 i).getD j d1=es.getD j d1:=by
    intro j hj
    unfold A7
    simp [List.getD_eq_getElem?_getD,hj]
  have hp:=AbK h (l:=A7 es 0 i) (a:=(es.getD i d1).1) (by have:=h.big;omega) (by omega) (fun j hj=>by
    rw[hc]at hj
    rw[hg j hj]
    exact⟨hd j hj,(he j (by omega)).a5⟩)
  have hr8:((((r.val:Nat):Int))==8)=false:=by
    have:=r.isLt
    exact beq_eq_false_iff_ne.2 (by omega)
  unfold FM PI xL
  dsimp only
  simp only[Int.toNat_natCast,p5,p6,p7,Pz N p1 p2,Pz N p3 p4,Pz N (by decide:(-1:Int)<= -1) (by decide:(-1:Int)<=254033452799),h.re,h.chk,h.mat,h.len,hp,hr8,AP,decide_eq_true (by omega:(0:Int)<=(i:Int)),decide_eq_true (by omega:(i:Int)<(es.length:Int)),decide_eq_true (by omega:(i:Int)<=(es.length:Int)),cond_true,cond_false,G8,Option.isSome_some,Option.getD_some,Bool.not_false,Bool.not_true,Bool.or_true,Bool.true_or,Bool.and_true,Bool.and_false,Bool.false_and,Bool.or_false,Bool.false_or,bne_self_eq_false]
  rfl
set_option maxRecDepth 100000 in
theorem Adm {N:Nat} {au:List Yq0} (h:Iss N au) {es:List Yq1} (hl:es.length<=256) {i:Nat} (he: ∀ j,j<=i->Ent au es j) (hd: ∀ j,j<i->(es.getD j d1).1≠(es.getD i d1).1):EU N (xL au es) (i:Int)=some 0:=by
  have hi:=(he i (Nat.le_refl _)).lt
  have hN:=h.big
  obtain⟨_,⟨p1,p2⟩,⟨p3,p4⟩,⟨r,p5⟩,p6,p7⟩:=he i (Nat.le_refl _)
  have hr8:((((r.val:Nat):Int))==8)=false:=by
    have:=r.isLt
    exact beq_eq_false_iff_ne.2 (by omega)
  unfold EU xL
  dsimp only
  simp only[Int.toNat_natCast,p5,p6,p7,YW,decide_eq_false (by omega: ¬(es.getD i d1).1<1),decide_eq_false (by omega: ¬(es.getD i d1).1>4611686018427387904),decide_eq_false (by omega: ¬(es.getD i d1).2.1<0),decide_eq_false (by omega: ¬(es.getD i d1).2.1>254033452799),h.rre,h.AfF,h.AfL,h.len,hr8,AP,decide_eq_true (by omega:(0:Int)<=(i:Int)),decide_eq_true (by omega:(i:Int)<(es.length:Int)),cond_true,cond_false,G8,Option.isSome_some,Option.getD_some,Bool.not_false,Bool.not_true,Bool.or_true,Bool.true_or,Bool.and_true,Bool.and_false,Bool.false_and,Bool.or_false,Bool.false_or,bne_self_eq_false,Bool.not_not,Bool.or_not_self,Bool.not_or_self]
  refine Hl (X:=Int×Bs×Bs×List Yq0×Int×Int×Int×Int×Bs×Bool×List Yq2×Bool×Bool×Int×Bool×List Yq3×List Yq1×Bs×Int×Int×Int×Int×List Yq0) (fun x=>0<=x.1/\x.1<=(i:Int)/\x.2.2.2.2.2.2.2.2.2.2.2.2.2.2.2.2.1=es/\x.2.2.2.2.2.2.2.2.2.2.2.2.2.2.2.2.2.2.1=(es.getD i d1).1/\x.2.2.2.2.2.2.2.2.2.2.2.2.2.2.2.2.2.2.2.2.2.2=au) (fun x=>((i:Int) - x.1).toNat) (fun _=>some 0) ?_ N _ ⟨by show(0:Int)<=0;omega,by show(0:Int)<=i;omega,rfl,rfl,rfl⟩ (by show((i:Int) - 0).toNat<N;omega)
  rintro ⟨t,c0,c1,c2,c3,c4,c5,c6,c7,c8,c9,c10,c11,c12,c13,c14,c15,c16,c17,c18,c19,c20,c21⟩ ⟨h1,h2,h3,h4,h5⟩ k hk
  have h1:0<=t:=h1
  have h2:t<=(i:Int):=h2
  have h3:c15=es:=h3
  have h4:c17=(es.getD i d1).1:=h4
  have h5:c21=au:=h5
  subst h3
  subst h5
  dsimp only[U23]
  by_cases hlt:t<(i:Int)
  ·have e1:=hd t.toNat (by omega)
   have e2:=(he t.toNat (by omega)).a5
   have e3:((c15.getD t.toNat d1).1==c17)=false:=by rw[h4];exact beq_eq_false_iff_ne.2 e1
   simp only[decide_eq_true hlt,decide_eq_true h1,decide_eq_true (by omega:t<(c15.length:Int)),e2,e3,h.AfL,cond_true,cond_false,G8,Option.isSome_some,Option.getD_some,Bool.not_false,Bool.or_true,Bool.true_or]
   rw[w64 (by omega) (by omega)]
   exact hk _ ⟨by show 0<=t+1;omega,by show t+1<=_;omega,rfl,h4,rfl⟩ (by show((i:Int) - (t+1)).toNat<((i:Int) - t).toNat;omega)
  ·rw[decide_eq_false hlt]
   rfl
