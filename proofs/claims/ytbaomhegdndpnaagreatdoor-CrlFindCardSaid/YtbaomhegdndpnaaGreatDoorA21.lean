import Derived.Test.YtbaomhegdndpnaaGreatDoorA17
set_option linter.all false
namespace Go.Proofs.YtbaomhegdndpnaaGreatDoor.Vm
open IntKind (i64)
open Go
theorem w64 {x:Int} (h1: -9223372036854775808<=x) (h2:x<=9223372036854775807):i64.wrap x=x:=by
  have e:i64.wrap x=if 9223372036854775808<=x % 18446744073709551616 then x % 18446744073709551616 - 18446744073709551616 else x % 18446744073709551616:=by
    show(if(true&&decide (x % 18446744073709551616>=9223372036854775808))=true then _ else _)=_
    simp only[Bool.true_and,decide_eq_true_eq,ge_iff_le]
    rfl
  rw[e]
  split<;>omega
theorem w8 (x:Int):IntKind.u8.wrap x=x % 256:=by
  have hp:(2:Int) ^ 8=256:=by decide
  simp only[IntKind.wrap,IntKind.bits,IntKind.signed,Bool.false_and,Bool.false_eq_true,if_false,hp]
theorem Yj (x:Int):isByte (IntKind.u8.wrap x)=true:=by
  rw[w8];unfold isByte;simp;omega
theorem wu64 {x:Int} (h1:0<=x) (h2:x<=18446744073709551615):IntKind.u64.wrap x=x:=by
  have hp:(2:Int) ^ 64=18446744073709551616:=by decide
  simp only[IntKind.wrap,IntKind.bits,IntKind.signed,Bool.false_and,Bool.false_eq_true,if_false,hp]
  omega
theorem AcW {ρ :Type} (p:Prop) [Decidable p] (k:Option ρ):chk (decide p) k=if p then k else none:=by
  by_cases h:p<;>simp [chk,h]
theorem BU {ρ :Type} (k:Option ρ):chk true k=k:=rfl
theorem PS {ρ :Type} (b:Bool) (k:Option ρ):chk (!b|| !!b) k=k:=by cases b<;>rfl
theorem EU {ρ :Type} (b:Bool) (k:Option ρ):chk (b|| !b) k=k:=by cases b<;>rfl
theorem LU {ρ :Type} (b:Bool) (k:Option ρ):chk (bif b then true else !b) k=k:=by cases b<;>rfl
theorem Ci {ρ :Type} (b:Bool) (k:Option ρ):chk (bif b then true else true) k=k:=by cases b<;>rfl
theorem DF {ρ :Type} (b:Bool) (k:Option ρ):chk (bif b then b else true) k=k:=by cases b<;>rfl
theorem AaM (a b:Bool):(bif a then b else false)=(a&&b):=by cases a<;>rfl
theorem AcP {α :Type} (p:Prop) [Decidable p] (a b: α):(bif decide p then a else b)=if p then a else b:=by by_cases h:p<;>simp [h]
theorem AQ {α ρ :Type} [Inhabited α] (a: α) (k: α ->Option ρ):callO (some a) k=k a:=rfl
theorem AfH {α ρ :Type} (A:(α ->Option ρ)->Option ρ) (f: α ->Option ρ):BH A f=A f:=rfl
theorem qJ {α ρ :Type} {A:(α ->Option ρ)->Option ρ} {f: α ->Option ρ} (P: α ->Prop) (Q:Option ρ ->Prop) (hA: ∀ j: α ->Option ρ,(∀ x,P x->Q (j x))->Q (A j)) (hf: ∀ x,P x->Q (f x)):Q (BH A f):=hA f hf
theorem nU {X Y ρ :Type} (B:X->(X->Option ρ)->(Y->Option ρ)->Option ρ) (n:Nat) (x:X) (kx:Y->Option ρ):Au B (n+1) x kx=B x (fun x'=>Au B n x' kx) kx:=rfl
theorem Qy {X Y ρ :Type} {B:X->(X->Option ρ)->(Y->Option ρ)->Option ρ} {kx:Y->Option ρ} (I:X->Prop) (μ :X->Nat) (F:X->Option ρ)
    (h: ∀ x,I x-> ∀ k:X->Option ρ,(∀ x',I x'-> μ x'< μ x->k x'=F x')->B x k kx=F x): ∀(N:Nat) (x:X),I x-> μ x<N->Au B N x kx=F x:=by
  intro N
  induction N with
  | zero=>intro x _ h;omega
  | succ N ih=>intro x hI hm;exact h x hI _ (fun x' hI' hm'=>ih x' hI' (by omega))
theorem FT {X Y ρ :Type} {B:X->(X->Option ρ)->(Y->Option ρ)->Option ρ} {kx:Y->Option ρ} (I:X->Prop) (μ :X->Nat) (Q:Option ρ ->Prop)
    (h: ∀ x,I x-> ∀ k:X->Option ρ,(∀ x',I x'-> μ x'< μ x->Q (k x'))->Q (B x k kx)): ∀(N:Nat) (x:X),I x-> μ x<N->Q (Au B N x kx):=by
  intro N
  induction N with
  | zero=>intro x _ h;omega
  | succ N ih=>intro x hI hm;exact h x hI _ (fun x' hI' hm'=>ih x' hI' (by omega))
set_option linter.defProp false in
def clR:=And.intro @YY (And.intro @Bool.cond_true_left (And.intro @Bool.cond_false_left (And.intro @Bool.cond_true_right (And.intro @Bool.cond_false_right (And.intro @Bool.or_not_self (And.intro @Bool.not_or_self (And.intro @Bool.not_not (And.intro @BU (And.intro @Bool.or_true (And.intro @Bool.true_or (And.intro @Bool.or_self (@Bool.cond_self.{1}))))))))))))
theorem BF {ρ :Type} {c:Bool} (k:Option ρ) (h:c=true):chk c k=k:=by rw[h];rfl
theorem AcC (c:UInt8):c.toNat<256:=UInt8.toNat_lt c
theorem getD_lt {α :Type} (l:List α) (i:Nat) (d: α) (h:i<l.length):l.getD i d=l[i]:=by rw[List.getD_eq_getElem?_getD,List.getElem?_eq_getElem h];rfl
def QP {E S ρ :Type} (step:E->S->Option ρ ⊕ S) (fin:S->Option ρ):List E->S->Option ρ
  | [],s=>fin s
  | e::r,s=>match step e s with
    | .inl x=>x
    | .inr s'=>QP step fin r s'
def kU {X S ρ :Type} (b:(X->Option ρ)->Option ρ) (nx:S->X) (I:S->Prop):Option ρ ⊕ S->Prop
  | .inl x=> ∀ k,b k=x
  | .inr s'=>(∀ k,b k=k (nx s'))/\I s'
theorem ER {X Y S E ρ :Type} {B:X->(X->Option ρ)->(Y->Option ρ)->Option ρ} {kx:Y->Option ρ} (mk:Int->S->X) (l:List E) (d:E) (I:Nat->S->Prop) (step:E->S->Option ρ ⊕ S) (fin:S->Option ρ)
    (h: ∀(i:Nat) (s:S),i<l.length->I i s->kU (fun k=>B (mk (i:Int) s) k kx) (mk ((i:Int)+1)) (I (i+1)) (step (l.getD i d) s))
    (hend: ∀(s:S) (k:X->Option ρ),I l.length s->B (mk (l.length:Int) s) k kx=fin s) (N:Nat) (s:S) (h0:I 0 s) (hN:l.length<N):Au B N (mk 0 s) kx=QP step fin l s:=by
  have key: ∀(n i:Nat) (s:S),I i s->i<=l.length->l.length - i<n->Au B n (mk (i:Int) s) kx=QP step fin (l.drop i) s:=by
    intro n
    induction n with
    | zero=>intro i s _ _ h;omega
    | succ n ih =>
      intro i s hI hi hn
      rw[nU]
      by_cases hl:i<l.length
      ·have h1:=h i s hl hI
       rw[List.drop_eq_getElem_cons hl]
       show _=(match step l[i] s with | .inl x=>x | .inr s'=>QP step fin (l.drop (i+1)) s')
       rw[show l.getD i d=l[i] by simp [List.getD_eq_getElem?_getD,hl]]at h1
       cases hs:step l[i] s with
       | inl x=>rw[hs]at h1;exact h1 _
       | inr s' =>
         rw[hs]at h1
         obtain⟨h2,h3⟩:=h1
         exact(h2 _).trans (ih (i+1) _ h3 (by omega) (by omega))
      ·have:i=l.length:=by omega
       subst this
       rw[hend s _ hI,List.drop_length];rfl
  exact key N 0 s h0 (by omega) (by omega)
end Go.Proofs.YtbaomhegdndpnaaGreatDoor.Vm
namespace Go.Proofs.YtbaomhegdndpnaaGreatDoor.Pl
open IntKind (i64)
open Go Vm
def Tot {α :Type} (Q: α ->Prop) (o:Option α):Prop:= ∃ v,o=some v/\Q v
theorem Tot.chk {α :Type} {Q: α ->Prop} {c:Bool} {k:Option α} (hc:c=true) (h:Tot Q k):Tot Q (Vm.chk c k):=by rw[hc];exact h
theorem Tot.call {α β :Type} [Inhabited α] {P: α ->Prop} {Q: β ->Prop} {x:Option α} {f: α ->Option β} (h:Tot P x) (hf: ∀ v,P v->Tot Q (f v)):Tot Q (callO x f):=by
  obtain⟨v,rfl,hv⟩:=h
  exact hf v hv
theorem Tot.bif {α :Type} {Q: α ->Prop} {b:Bool} {x y:Option α} (h1:b=true->Tot Q x) (h2:b=false->Tot Q y):Tot Q (bif b then x else y):=by
  cases b with
  | true=>exact h1 rfl
  | false=>exact h2 rfl
theorem Tot.some {α :Type} {Q: α ->Prop} {v: α} (h:Q v):Tot Q (some v):=⟨v,rfl,h⟩
theorem Tot.qO {α :Type} {o:Option α} (h:o.isSome=true):Tot (fun _=>True) o:=by
  cases o with
  | none=>cases h
  | some v=>exact⟨v,rfl,trivial⟩
theorem Tot.mono {α :Type} {P Q: α ->Prop} {o:Option α} (h:Tot P o) (hq: ∀ v,P v->Q v):Tot Q o:=let ⟨v,e,p⟩:=h;⟨v,e,hq v p⟩
theorem Aau (l:List Int):l=(List.range l.length).map fun i=>l.getD i 0:=by
  apply List.ext_getElem
  ·simp
  ·intro i h1 h2
   simp [List.getD_eq_getElem?_getD,h1]
theorem Abr (M:Nat) (p0:Yq5) (f:Nat->Int):(Fe (M+70) p0 ((List.range 64).map f)).isSome=true:=by kernel_rfl
theorem pR {N:Nat} (hN:70<=N) (p0:Yq5) {l:List Int} (hl:l.length=64):Tot (fun _=>True) (Fe N p0 l):=by
  obtain⟨M,rfl⟩:=Nat.exists_eq_add_of_le' hN
  have h:=Abr M p0 fun i=>l.getD i 0
  rw[<- hl,<- Aau]at h
  exact Tot.qO h
theorem LX {α :Type} (l:List α) (a b:Nat) (h:b<=l.length):(AO l a b).length=b - a:=by
  simp [AO];omega
abbrev lS (r:Yq7):List Int:=r.2.2.2.2.2.2.2.2.1
theorem ZV (N:Nat):Tot (fun _=>True) (KC N):=Tot.qO (by kernel_rfl)
theorem Aea {N:Nat} (hN:70<=N) (hM:N<=1000000000) (p0:Yq7) (h8:(lS p0).length<64) (p1:Bs) (hl:p1.length+64<N):Tot (fun r=>(lS r).length<64) (Gm N p0 p1):=by
  unfold Gm
  refine Tot.bif (fun _=>Tot.some h8) fun _=> ?_
  refine qJ (fun x=>x.2.2.2.2.2.2.2.2.1.length<64) (Tot _) (fun j hj=>Tot.bif (fun _=>(ZV N).call fun v _=>hj _ h8) fun _=>hj _ h8) ?_
  rintro ⟨b0,b1,b2,b3,b4,b5,b6,b7,b8,b9⟩ hb
  have hb:b8.length<64:=hb
  dsimp only[U10]
  refine Tot.chk (decide_eq_true (by omega)) (Tot.chk (decide_eq_true (by rw[List.length_map];omega)) ?_)
  refine FT (fun x=>x.1.length<N) (fun x=>x.1.length) (Tot _) ?_ N _ (by show(b8++p1.map _).length<N;rw[List.length_append,List.length_map];omega) (by show(b8++p1.map _).length<N;rw[List.length_append,List.length_map];omega)
  rintro ⟨t,c0,c1,c2,c3,c4,c5,c6,c7,c8,c9⟩ hI k hk
  have hI:t.length<N:=hI
  dsimp only[U11]
  refine Tot.bif (fun h=> ?_) fun h=> ?_
  ·have h:=of_decide_eq_true h
   refine Tot.chk (decide_eq_true (by omega)) ((pR hN _ (by rw[LX _ _ _ (by omega)])).call fun v _=>Tot.chk (decide_eq_true (by omega)) (hk _ ?_ ?_))
   ·show(AO t 64 t.length).length<N
    rw[LX _ _ _ (Nat.le_refl _)];omega
   ·show(AO t 64 t.length).length<t.length
    rw[LX _ _ _ (Nat.le_refl _)];omega
  ·have h:=of_decide_eq_false h
   refine Tot.chk (decide_eq_true (by omega)) (Tot.some ?_)
   show t.length<64
   omega
theorem AgI (n:Nat):(n:Int).tmod 64=((n % 64:Nat):Int):=by
  rw[Int.tmod_eq_emod_of_nonneg (by omega)];omega
theorem Af6 {N:Nat} (hN:150<=N) (p0:Yq7) (h8:(lS p0).length<64):Tot (fun r=>r.1.length=32) (Hu N p0):=by
  unfold Hu
  refine(ZV N).call fun v _=>Tot.chk rfl ?_
  refine qJ (fun x=>x.2.2.2.2.2.2.2.2.2.2.2.1.length=8/\x.2.2.2.2.2.2.2.2.2.2.2.2.length<64) (Tot _) (fun j hj=>Tot.bif (fun _=>Tot.chk (decide_eq_true (by have:p0.2.2.2.2.2.2.2.2.1.length<64:=h8;omega)) (hj _ ⟨rfl,h8⟩)) fun _=>hj _ ⟨rfl,by show 0<64;omega⟩) ?_
  rintro ⟨t,b0,b1,b2,b3,b4,b5,b6,b7,b8,b9,l1,l2⟩ ⟨h1,h2⟩
  have h1:l1.length=8:=h1
  have h2:l2.length<64:=h2
  dsimp only[U13]
  refine Tot.chk (decide_eq_true (by omega)) ?_
  refine FT (fun x=>x.2.2.2.2.2.2.2.2.2.2.1.length=8/\x.2.2.2.2.2.2.2.2.2.2.2.length<=120) (fun x=>120 - x.2.2.2.2.2.2.2.2.2.2.2.length) (Tot _) ?_ N _ ⟨h1,by show(l2++_).length<=120;simp;omega⟩ (by show 120 - _<N;omega)
  rintro ⟨b0,b1,b2,b3,b4,b5,b6,b7,b8,b9,l1,l2⟩ ⟨h1,h2⟩ k hk
  have h1:l1.length=8:=h1
  have h2:l2.length<=120:=h2
  dsimp only[U12]
  rw[AgI]
  refine Tot.bif (fun h=> ?_) fun h=> ?_
  ·have h: ¬((l2.length % 64:Nat):Int)=56:=bne_iff_ne.1 h
   refine Tot.chk (decide_eq_true (by omega)) (hk _ ⟨h1,?_⟩ ?_)
   ·show(l2++[0]).length<=120
    simp;omega
   ·show 120 - (l2++[0]).length<120 - l2.length
    simp;omega
  ·have h:((l2.length % 64:Nat):Int)=56:=by simpa using h
   clear k hk
   refine FT (fun x=>x.2.2.2.2.2.2.2.2.2.2.2.1.length=8/\ -1<=x.1/\x.1<=7/\((x.2.2.2.2.2.2.2.2.2.2.2.2.length:Int)+x.1+1) % 64=0/\(x.2.2.2.2.2.2.2.2.2.2.2.2.length:Int)+x.1+1<=128) (fun x=>(x.1+1).toNat) (Tot _) ?_ N _ ⟨h1,by show(-1:Int)<=7;omega,by show(7:Int)<=7;omega,by show((l2.length:Int)+7+1) % 64=0;omega,by show(l2.length:Int)+7+1<=128;omega⟩ (by show((7:Int)+1).toNat<N;omega)
   rintro ⟨t,b0,b1,b2,b3,b4,b5,b6,b7,b8,b9,l1,l2⟩ ⟨h1,h3,h4,h5,h6⟩ k hk
   have h1:l1.length=8:=h1
   have h3: -1<=t:=h3
   have h4:t<=7:=h4
   have h5:((l2.length:Int)+t+1) % 64=0:=h5
   have h6:(l2.length:Int)+t+1<=128:=h6
   dsimp only[U13]
   refine Tot.bif (fun h=> ?_) fun h=> ?_
   ·have h:=of_decide_eq_true h
    refine Tot.chk (decide_eq_true (by rw[wu64 (x:=t) (by omega) (by omega),wu64 (by omega) (by omega)];omega)) (Tot.chk (decide_eq_true (by omega)) (hk _ ⟨h1,?_⟩ ?_))
    ·show -1<=i64.wrap (t - 1)/\i64.wrap (t - 1)<=7/\(((l2++[_]).length:Int)+i64.wrap (t - 1)+1) % 64=0/\((l2++[_]).length:Int)+i64.wrap (t - 1)+1<=128
     rw[w64 (by omega) (by omega)]
     simp
     omega
    ·show(i64.wrap (t - 1)+1).toNat<(t+1).toNat
     rw[w64 (by omega) (by omega)];omega
   ·have h:=of_decide_eq_false h
    have ht:t= -1:=by omega
    subst ht
    clear k hk
    refine FT (fun x=>x.2.2.2.2.2.2.2.2.2.2.2.length=8/\x.1.length % 64=0/\x.1.length<=128) (fun x=>x.1.length) (Tot _) ?_ N _ ⟨h1,by show l2.length % 64=0;omega,by show l2.length<=128;omega⟩ (by show l2.length<N;omega)
    rintro ⟨t,b0,b1,b2,b3,b4,b5,b6,b7,b8,b9,l1⟩ ⟨h1,h2,h3⟩ k hk
    have h1:l1.length=8:=h1
    have h2:t.length % 64=0:=h2
    have h3:t.length<=128:=h3
    dsimp only[U12]
    refine Tot.bif (fun h=> ?_) fun h=> ?_
    ·have h:=of_decide_eq_true h
     refine Tot.chk (by rw[h1];rfl) (Tot.chk (decide_eq_true (by omega)) ((pR (by omega) _ (by rw[LX _ _ _ (by omega)])).call fun v _=>Tot.chk (by rw[h1];rfl) (Tot.chk (decide_eq_true (by omega)) (hk _ ⟨rfl,?_⟩ ?_))))
     ·show(AO t 64 t.length).length % 64=0/\(AO t 64 t.length).length<=128
      rw[LX _ _ _ (Nat.le_refl _)];omega
     ·show(AO t 64 t.length).length<t.length
      rw[LX _ _ _ (Nat.le_refl _)];omega
    ·clear k hk h
     dsimp only[U11]
     refine Tot.chk (by rw[h1];rfl) ?_
     refine FT (fun x=>0<=x.1/\x.1<=8/\(x.2.2.2.2.2.2.2.2.2.2.2.length:Int)=4*x.1/\x.2.2.2.2.2.2.2.2.2.2.2.all Vm.isByte=true) (fun x=>(8 - x.1).toNat) (Tot _) ?_ N _ ⟨by show(0:Int)<=0;omega,by show(0:Int)<=8;omega,rfl,rfl⟩ (by show((8:Int) - 0).toNat<N;omega)
     rintro ⟨t,b0,b1,b2,b3,b4,b5,b6,b7,b8,b9,l⟩ ⟨h1,h2,h3,h4⟩ k hk
     have h1:0<=t:=h1
     have h2:t<=8:=h2
     have h3:(l.length:Int)=4*t:=h3
     have h4:l.all Vm.isByte=true:=h4
     dsimp only[U12]
     refine Tot.bif (fun h=> ?_) fun h=> ?_
     ·have h:=of_decide_eq_true h
      refine Tot.chk (decide_eq_true (by omega)) (Tot.chk (decide_eq_true (by omega)) (Tot.chk (decide_eq_true (by omega)) (hk _ ?_ ?_)))
      ·show 0<=i64.wrap (t+1)/\i64.wrap (t+1)<=8/\((l++[_,_,_,_]).length:Int)=4*i64.wrap (t+1)/\(l++[_,_,_,_]).all Vm.isByte=true
       rw[w64 (by omega) (by omega)]
       refine⟨by omega,by omega,by simp;omega,?_⟩
       rw[List.all_append,h4]
       simp only[List.all_cons,Yj,List.all_nil,Bool.and_self]
      ·show(8 - i64.wrap (t+1)).toNat<(8 - t).toNat
       rw[w64 (by omega) (by omega)];omega
     ·have h:=of_decide_eq_false h
      dsimp only[U11]
      refine Tot.chk h4 (Tot.some ?_)
      show(l.map Vm.byteOf).length=32
      rw[List.length_map];omega
theorem AeE {N:Nat} (hN:150<=N) (hM:N<=1000000000) {l:List Bs} (hl:l.length<N) (hs: ∀ s∈l,s.length+64<N):Tot (fun r=>r.length=32) (Vu N l):=by
  unfold Vu
  refine Tot.call (P:=fun r=>(lS r).length<64) ⟨_,rfl,by show 0<64;omega⟩ fun v hv=> ?_
  refine FT (fun x=>0<=x.1/\x.1<=(l.length:Int)/\(lS x.2).length<64) (fun x=>((l.length:Int) - x.1).toNat) (Tot _) ?_ N _ ⟨by show(0:Int)<=0;omega,by show(0:Int)<=l.length;omega,hv⟩ (by show((l.length:Int) - 0).toNat<N;omega)
  rintro ⟨t,b0,b1,b2,b3,b4,b5,b6,b7,b8,b9⟩ ⟨h1,h2,h3⟩ k hk
  have h1:0<=t:=h1
  have h2:t<=(l.length:Int):=h2
  dsimp only[U11]
  refine Tot.bif (fun h=> ?_) fun h=> ?_
  ·have h:=of_decide_eq_true h
   have hlt:t.toNat<l.length:=by omega
   refine Tot.chk (decide_eq_true h1) (Tot.chk (decide_eq_true h) ((Aea (by omega) hM _ h3 _ (by rw[getD_lt _ _ _ hlt];exact hs _ (List.getElem_mem hlt))).call fun v hv=>hk _ ?_ ?_))
   ·show 0<=i64.wrap (t+1)/\i64.wrap (t+1)<=(l.length:Int)/\(lS v).length<64
    rw[w64 (by omega) (by omega)]
    exact⟨by omega,by omega,hv⟩
   ·show((l.length:Int) - i64.wrap (t+1)).toNat<((l.length:Int) - t).toNat
    rw[w64 (by omega) (by omega)];omega
  ·dsimp only[U10]
   exact(Af6 hN _ h3).call fun v hv=>Tot.some hv
theorem AcF {N:Nat} (hN:150<=N) (hM:N<=1000000000) {l:List Bs} (hl:l.length<N) (hs: ∀ s∈l,s.length+64<N):Tot (fun r=>r.length=16) (CW N l):=by
  unfold CW
  refine(AeE hN hM hl hs).call fun v hv=>Tot.chk (decide_eq_true (by omega)) (Tot.some ?_)
  rw[LX _ _ _ (by omega)]
def b4P (p:Int):Bs:=List.map Vm.byteOf ([IntKind.u8.wrap (p.fdiv (16777216)),IntKind.u8.wrap (p.fdiv (65536)),IntKind.u8.wrap (p.fdiv (256)),IntKind.u8.wrap p]:List Int)
def b1P (p:Int):Bs:=List.map Vm.byteOf ([IntKind.u8.wrap p]:List Int)
theorem uN (N:Nat) (p:Int):U9 N p=some (b4P p):=by
  unfold U9
  rw[BF _ (by simp [Yj])]
  rfl
theorem Abl (N:Nat) (p:Int):U1 N p=some (b1P p):=by
  unfold U1
  rw[BF _ (by simp [Yj])]
  rfl
theorem Ad6 (N:Nat) (p:Int):merkle_b4 N p=some (b4P p):=uN N p
def hS (N:Nat) (l:List Bs):Bs:=(CW N l).getD []
structure Hok (N:Nat) (l:List Bs):Prop where
  n:150<=N
  m:N<=1000000000
  len:l.length<N
  each: ∀ s∈l,s.length+64<N
theorem iT {N:Nat} {l:List Bs} (h:Hok N l):CW N l=some (hS N l)/\(hS N l).length=16:=by
  obtain⟨v,e,hv⟩:=AcF h.n h.m h.len h.each
  unfold hS
  rw[e]
  exact⟨rfl,hv⟩
def wk (f:Int->Bs->Bs) (a:Int):Nat->Bs->Bs
  | 0,x=>x
  | n+1,x=>wk f (a+1) n (f a x)
theorem AgN (f:Int->Bs->Bs): ∀(n:Nat) (a:Int) (m:Nat) (x:Bs),wk f a (n+m) x=wk f (a+n) m (wk f a n x):=by
  intro n
  induction n with
  | zero=>intro a m x;simp [wk]
  | succ n ih =>
    intro a m x
    rw[show n+1+m=(n+m)+1 by omega]
    show wk f (a+1) (n+m) (f a x)=wk f (a+((n+1:Nat):Int)) m (wk f (a+1) n (f a x))
    rw[ih]
    congr 1
    omega
theorem AdZ {f:Int->Bs->Bs} (hf: ∀ t x,x.length=16->(f t x).length=16): ∀(n:Nat) (a:Int) (x:Bs),x.length=16->(wk f a n x).length=16:=by
  intro n
  induction n with
  | zero=>intro a x h;exact h
  | succ n ih=>intro a x h;exact ih _ _ (hf _ _ h)
def st (N:Nat) (p0:Bs) (p1 p2 t:Int) (x:Bs):Bs:=hS N [[67],p0,b4P p1,b1P p2,b1P t,x]
structure Big (N:Nat):Prop where
  n:2000<=N
  m:N<=1000000000
theorem hok {N:Nat} (h:Big N) {l:List Bs} (hl:l.length<=100) (hs:l.all (fun s=>decide (s.length<=1000))=true):Hok N l:=by
  have h1:=h.n
  refine⟨by omega,h.m,by omega,fun s hm=> ?_⟩
  have:=of_decide_eq_true (List.all_eq_true.1 hs s hm)
  omega
theorem Af2 {N:Nat} (h:Big N) {p0:Bs} (h0:p0.length<=1000) (p1 p2 t:Int) {x:Bs} (hx:x.length=16):CW N [[67],p0,b4P p1,b1P p2,b1P t,x]=some (st N p0 p1 p2 t x)/\(st N p0 p1 p2 t x).length=16 :=
  iT (hok h (by simp) (by simp [h0,hx,b4P,b1P]))
theorem walk_eq {N:Nat} (h:Big N) {p0:Bs} (h0:p0.length<=1000) (p1 p2:Int) {a b:Int} (ha:0<=a) (hab:a<=b) (hb:b<=15) {x:Bs} (hx:x.length=16):MH N p0 p1 p2 a b x=some (wk (st N p0 p1 p2) a (b - a).toNat x):=by
  unfold MH
  have hn:=h.n
  refine Qy (X:=Bs×Int) (fun x=>x.1.length=16/\0<=x.2/\x.2<=b) (fun x=>(b - x.2).toNat) (fun x=>some (wk (st N p0 p1 p2) x.2 (b - x.2).toNat x.1)) ?_ N _ ⟨hx,ha,hab⟩ (by show(b - a).toNat<N;omega)
  rintro ⟨x,t⟩ ⟨h1,h2,h3⟩ k hk
  have h1:x.length=16:=h1
  have h2:0<=t:=h2
  have h3:t<=b:=h3
  dsimp only[U2]
  by_cases hlt:t<b
  ·rw[decide_eq_true hlt,cond_true,uN,AQ,Abl,AQ,Abl,AQ]
   obtain⟨e1,e2⟩:=Af2 h h0 p1 p2 t h1
   rw[e1,AQ,w64 (by omega) (by omega)]
   refine(hk _ ⟨e2,by show 0<=t+1;omega,by show t+1<=b;omega⟩ (by show(b - (t+1)).toNat<(b - t).toNat;omega)).trans ?_
   show some (wk _ (t+1) (b - (t+1)).toNat _)=some (wk _ t (b - t).toNat x)
   rw[show(b - t).toNat=(b - (t+1)).toNat+1 by omega]
   rfl
  ·rw[decide_eq_false hlt,cond_false]
   rw[show(b - t).toNat=0 by omega]
   rfl
theorem bC {ρ :Type} {B:Int×List Bs->(Int×List Bs->Option ρ)->(List Bs->Option ρ)->Option ρ} {kx:List Bs->Option ρ} (n:Nat) (g:Nat->Bs)
    (h: ∀(i:Nat) (acc:List Bs) (k:Int×List Bs->Option ρ),i<n->acc.length=i->B ((i:Int),acc) k kx=k ((i:Int)+1,acc++[g i]))
    (hend: ∀(acc:List Bs) (k:Int×List Bs->Option ρ),acc.length=n->B ((n:Int),acc) k kx=kx acc) {N:Nat} (hN:n<N):Au B N (0,[]) kx=kx ((List.range n).map g):=by
  refine Qy (fun x=>x.1=(x.2.length:Int)/\x.2.length<=n/\x.2=(List.range x.2.length).map g) (fun x=>n - x.2.length) (fun _=>kx ((List.range n).map g)) ?_ N _ ⟨rfl,Nat.zero_le _,rfl⟩ (by show n - 0<N;omega)
  rintro ⟨t,acc⟩ ⟨h1,h2,h3⟩ k hk
  have h1:t=(acc.length:Int):=h1
  have h2:acc.length<=n:=h2
  have h3:acc=(List.range acc.length).map g:=h3
  subst h1
  by_cases hl:acc.length<n
  ·rw[h acc.length acc k hl rfl]
   refine hk _ ⟨by show(acc.length:Int)+1=((acc++[g acc.length]).length:Int);simp,by show(acc++[g acc.length]).length<=n;simp;omega,?_⟩ (by show n - (acc++[g acc.length]).length<n - acc.length;simp;omega)
   show acc++[g acc.length]=(List.range (acc++[g acc.length]).length).map g
   rw[List.length_append,List.length_singleton,List.range_succ,List.map_append,<- h3]
   rfl
  ·have e:acc.length=n:=by omega
   have h4:=hend acc k e
   rw[<- e]at h4
   rw[h4,<- e]
   exact congrArg kx h3
def Ac0 (N:Nat) (p1:Bs) (p2:Int) (i:Nat):Bs:=hS N [[83],p1,b4P p2,b1P (i:Int)]
theorem JO {N:Nat} (h:Big N) {p1:Bs} (h1:p1.length<=1000) (p2:Int) (i:Nat):KZ N p1 p2 (i:Int)=some (Ac0 N p1 p2 i)/\(Ac0 N p1 p2 i).length=16:=by
  obtain⟨e1,e2⟩:=iT (N:=N) (l:=[[83],p1,b4P p2,b1P (i:Int)]) (hok h (by simp) (by simp [h1,b4P,b1P]))
  refine⟨?_,e2⟩
  unfold KZ
  rw[uN,AQ,Abl,AQ,e1]
  rfl
def zN (N:Nat) (p0 p1:Bs) (p2:Int) (i:Nat):Bs:=wk (st N p0 p2 (i:Int)) 0 15 (Ac0 N p1 p2 i)
theorem st_len {N:Nat} (h:Big N) {p0:Bs} (h0:p0.length<=1000) (p1 p2:Int): ∀ t x,x.length=16->(st N p0 p1 p2 t x).length=16:=fun t _ hx=>(Af2 h h0 p1 p2 t hx).2
theorem iL: ∀(l:List Bs),(∀ s∈l,s.length=16)->l.flatten.length=16*l.length:=by
  intro l
  induction l with
  | nil=>intro _;rfl
  | cons a r ih =>
    intro h
    rw[List.flatten_cons,List.length_append,h a List.mem_cons_self,ih fun s hs=>h s (List.mem_cons_of_mem _ hs),List.length_cons];omega
def iN (b:UInt8):Int:=(b.toNat:Int)
theorem AcT (l:Bs):(l.map iN).map Vm.byteOf=l:=by
  rw[List.map_map]
  conv=>rhs;rw[<- List.map_id l]
  refine List.map_congr_left fun b _=> ?_
  show UInt8.ofNat ((b.toNat:Int)).toNat=b
  simp
theorem Adw (l:Bs):(l.map iN).all Vm.isByte=true:=by
  rw[List.all_eq_true]
  intro x hx
  obtain⟨b,_,rfl⟩:=List.mem_map.1 hx
  have:=AcC b
  unfold Vm.isByte iN
  rw[decide_eq_true (by omega),decide_eq_true (by omega)];rfl
theorem join_eq {N:Nat} (h:Big N) {l:List Bs} (hl:l.length<=1000) (h16: ∀ s∈l,s.length=16):QD N l=some l.flatten:=by
  have hn:=h.n
  have hf:=iL l h16
  unfold QD
  rw[w64 (x:=(l.length:Int)*16) (by omega) (by omega),BF _ (decide_eq_true (by omega)),BF _ (decide_eq_true (by omega)),BF _ (decide_eq_true (by omega))]
  refine(Qy (X:=Int×List Int) (fun x=>0<=x.1/\x.1<=(l.length:Int)/\x.2.length=16*l.length/\x.2.take (16*x.1.toNat)=((l.take x.1.toNat).flatten).map iN) (fun x=>((l.length:Int) - x.1).toNat) (fun _=>some l.flatten) ?_ N _ ⟨by show(0:Int)<=0;omega,by show(0:Int)<=l.length;omega,by show(List.replicate _ _).length=_;rw[List.length_replicate];omega,by simp⟩ (by show((l.length:Int) - 0).toNat<N;omega))
  rintro ⟨t,y⟩ ⟨h1,h2,h3,h4⟩ k hk
  have h1:0<=t:=h1
  have h2:t<=(l.length:Int):=h2
  have h3:y.length=16*l.length:=h3
  have h4:y.take (16*t.toNat)=((l.take t.toNat).flatten).map iN:=h4
  dsimp only[U2]
  by_cases hlt:t<(l.length:Int)
  ·have hi:t.toNat<l.length:=by omega
   have hg:l.getD t.toNat []=l[t.toNat]:=getD_lt _ _ _ hi
   have h5:(l.getD t.toNat []).length=16:=by rw[hg];exact h16 _ (List.getElem_mem hi)
   have h6:l.take (t.toNat+1)=l.take t.toNat++[l.getD t.toNat []]:=by rw[hg,List.take_succ_eq_append_getElem hi]
   have h7:((l.take t.toNat).flatten).length=16*t.toNat:=by rw[iL _ fun s hs=>h16 s (List.mem_of_mem_take hs),List.length_take];omega
   generalize l.getD t.toNat []=s at h5 h6 ⊢
   rw[decide_eq_true hlt,cond_true,BF _ (decide_eq_true h1),BF _ rfl,w64 (x:=t*16) (by omega) (by omega),w64 (x:=t+1) (by omega) (by omega),BF _ (decide_eq_true (by omega)),BF _ (decide_eq_true (by omega)),BF _ (decide_eq_true (by omega)),BF _ (decide_eq_true (by omega))]
   have e16:(t*16).toNat=16*t.toNat:=by omega
   rw[e16]
   have h8:(y.take (16*t.toNat)).length=16*t.toNat:=by rw[List.length_take];omega
   refine hk _ ⟨by show 0<=t+1;omega,by show t+1<=_;omega,?_,?_⟩ (by show((l.length:Int) - (t+1)).toNat<((l.length:Int) - t).toNat;omega)
   ·show(Tq y (16*t.toNat) s).length=_
    unfold Tq
    simp only[List.length_append,List.length_map,List.length_drop,h8]
    omega
   ·show(Tq y (16*t.toNat) s).take (16*(t+1).toNat)=((l.take (t+1).toNat).flatten).map iN
    rw[show(t+1).toNat=t.toNat+1 by omega,h6,List.flatten_append,List.map_append,<- h4]
    unfold Tq
    rw[List.take_append_of_le_length (by simp only[List.length_append,List.length_map,h8];omega)]
    rw[List.take_of_length_le (by simp only[List.length_append,List.length_map,h8];omega)]
    simp [iN]
  ·have et:t.toNat=l.length:=by omega
   rw[decide_eq_false hlt,cond_false]
   rw[et,<- h3,List.take_length,List.take_length]at h4
   rw[h4]
   show chk _ _=_
   rw[BF _ (Adw _),AcT]
theorem MF {n:Nat} {g:Nat->Bs} (h: ∀ i,(g i).length=16): ∀ s∈(List.range n).map g,s.length=16:=by
  intro s hs
  obtain⟨i,_,rfl⟩:=List.mem_map.1 hs
  exact h i
def AeV (N:Nat) (p0:Bs) (p1:Int) (l:List Bs):Bs:=hS N [[76],p0,b4P p1,l.flatten]
theorem Y8 {N:Nat} (h:Big N) {p0:Bs} (h0:p0.length<=1000) (p1:Int) {l:List Bs} (hl:l.length<=60) (h16: ∀ s∈l,s.length=16):KY N p0 p1 l=some (AeV N p0 p1 l)/\(AeV N p0 p1 l).length=16:=by
  have hf:=iL l h16
  obtain⟨e1,e2⟩:=iT (N:=N) (l:=[[76],p0,b4P p1,l.flatten]) (hok h (by simp) (by
    simp only[List.all_cons,List.all_nil,hf,Bool.and_true,decide_eq_true h0]
    rw[decide_eq_true (by omega:16*l.length<=1000)]
    simp [b4P]))
  refine⟨?_,e2⟩
  unfold KY
  rw[uN,AQ,join_eq h (by omega) h16,AQ,e1]
  rfl
theorem Xt (N:Nat) {p0:Bs} (h0:p0.length=16) {p:Int} (h1:0<=p) (h2:p<256):FD N p0 p=some 0:=by
  unfold FD
  rw[show((p0.length:Int) != 16)=false by rw[h0];rfl,decide_eq_false (by omega: ¬ p<0),decide_eq_false (by omega: ¬ p>=256)]
  rfl
theorem Xu (N:Nat) {p0 p1:Bs} (h0:p0.length=16) (hs:p1.length=32) {p:Int} (h1:0<=p) (h2:p<256):GR N p0 p1 p=some 0:=by
  unfold GR
  rw[show((p0.length:Int) != 16)=false by rw[h0];rfl,show((p1.length:Int) != 32)=false by rw[hs];rfl]
  show callO (FD N p0 p) _=_
  rw[Xt N h0 h1 h2]
  rfl
theorem eQ {N:Nat} (h:Big N) {p0 p1:Bs} (h0:p0.length<=1000) (hs:p1.length<=1000) (p2:Int) (i:Nat):(zN N p0 p1 p2 i).length=16:=AdZ (st_len h h0 p2 i) _ _ _ (JO h hs p2 i).2
def pkP (N:Nat) (p0 p1:Bs) (p2:Int):Bs:=AeV N p0 p2 ((List.range 35).map (zN N p0 p1 p2))
theorem AcE {N:Nat} (h:Big N) {p0 p1:Bs} (h0:p0.length=16) (hs:p1.length=32) {p2:Int} (h1:0<=p2) (h2:p2<256):Py N p0 p1 p2=some (pkP N p0 p1 p2,0):=by
  have hn:=h.n
  unfold Py
  rw[Xu N h0 hs h1 h2]
  show Au (X:=Int×List Bs) (Y:=List Bs) _ N (0,[]) _=_
  refine(bC 35 (zN N p0 p1 p2) (fun i acc k hi ha=> ?_) (fun acc k ha=> ?_) (by omega)).trans ?_
  ·dsimp only[U2]
   rw[decide_eq_true (by omega:(i:Int)<35),cond_true,(JO h (by omega) p2 i).1,AQ,walk_eq h (by omega) p2 i (Int.le_refl 0) (by omega) (Int.le_refl 15) (JO h (by omega) p2 i).2,AQ,BF _ (decide_eq_true (by omega)),w64 (by omega) (by omega)]
   rfl
  ·rfl
  ·rw[(Y8 h (by omega) p2 (by simp) (MF (eQ h (by omega) (by omega) p2))).1]
   rfl
theorem pk_len {N:Nat} (h:Big N) {p0 p1:Bs} (h0:p0.length=16) (hs:p1.length=32) (p2:Int):(pkP N p0 p1 p2).length=16:=(Y8 h (by omega) p2 (by simp) (MF (eQ h (by omega) (by omega) p2))).2
def Dig (l:List Int):Prop:=l.length=35/\ ∀ i,0<=l.getD i 0/\l.getD i 0<=15
theorem AgO (a:Nat) (h:a<256):0<=bitsI .and .u8 (a:Int) 15/\bitsI .and .u8 (a:Int) 15<=15:=by
  have: ∀ a:Fin 256,0<=bitsI .and .u8 ((a.val:Nat):Int) 15/\bitsI .and .u8 ((a.val:Nat):Int) 15<=15:=by decide +kernel
  exact this ⟨a,h⟩
theorem AcJ (a:Nat) (h:a<1024):0<=bitsI .and .i64 (a:Int) 15/\bitsI .and .i64 (a:Int) 15<=15:=by
  have: ∀ a:Fin 1024,0<=bitsI .and .i64 ((a.val:Nat):Int) 15/\bitsI .and .i64 ((a.val:Nat):Int) 15<=15:=by decide +kernel
  exact this ⟨a,h⟩
theorem AeD {l:List Int} (h: ∀ x∈l,0<=x/\x<=15) (i:Nat):0<=l.getD i 0/\l.getD i 0<=15:=by
  by_cases hi:i<l.length
  ·rw[getD_lt _ _ _ hi];exact h _ (List.getElem_mem hi)
  ·rw[List.getD_eq_getElem?_getD,List.getElem?_eq_none (by omega)];simp
theorem AbF (a b:Nat):(a:Int).fdiv (b:Int)=((a / b:Nat):Int):=by
  rw[Int.fdiv_eq_ediv_of_nonneg _ (Int.natCast_nonneg b)];rfl
theorem Abb {N:Nat} (h:Big N) {p:Bs} (hp:p.length=16):Tot (fun r=>r.2=0/\Dig r.1) (GI N p):=by
  have hn:=h.n
  unfold GI
  rw[show((p.length:Int) != 16)=false by rw[hp];rfl]
  refine Tot.chk (decide_eq_true (by omega)) ?_
  show Tot _ (Au (X:=Int×Int×List Int×List Int) _ N (0,0,p.map iN,[]) _)
  refine FT (fun x=>0<=x.2.1/\x.2.1<=16/\x.2.2.1=p.map iN/\(x.2.2.2.length:Int)=2*x.2.1/\(∀ d∈x.2.2.2,0<=d/\d<=15)/\0<=x.1/\x.1<=30*x.2.1) (fun x=>(16 - x.2.1).toNat) (Tot _) ?_ N _ ⟨by show(0:Int)<=0;omega,by show(0:Int)<=16;omega,rfl,rfl,(fun _ h=>by cases h),by show(0:Int)<=0;omega,by show(0:Int)<=30*0;omega⟩ (by show((16:Int) - 0).toNat<N;omega)
  rintro ⟨c,t,l,acc⟩ ⟨h1,h2,h3,h4,h5,h6,h7⟩ k hk
  have h1:0<=t:=h1
  have h2:t<=16:=h2
  have h3:l=p.map iN:=h3
  have h4:(acc.length:Int)=2*t:=h4
  have h5: ∀ d∈acc,0<=d/\d<=15:=h5
  have h6:0<=c:=h6
  have h7:c<=30*t:=h7
  dsimp only[U4]
  refine Tot.bif (fun hb=> ?_) fun hb=> ?_
  ·have hb:=of_decide_eq_true hb
   rw[List.length_map,hp]at hb
   have hl:t.toNat<l.length:=by rw[h3,List.length_map];omega
   obtain⟨a,ha,hlt⟩: ∃ a:Nat,l.getD t.toNat 0=(a:Int)/\a<256:=by
     rw[getD_lt _ _ _ hl]
     have hm:l[t.toNat]∈p.map iN:=h3▸List.getElem_mem hl
     obtain⟨b,_,hb⟩:=List.mem_map.1 hm
     exact⟨b.toNat,hb.symm,AcC b⟩
   obtain⟨q1,q2⟩:=AgO a hlt
   have hd:(a:Int).fdiv 16=((a / 16:Nat):Int):=AbF a 16
   rw[ha,hd]
   generalize bitsI .and .u8 (a:Int) 15=y at q1 q2 ⊢
   rw[w64 (x:=((a / 16:Nat):Int)) (by omega) (by omega),w64 (x:=y) (by omega) (by omega),w64 (x:=15 - ((a / 16:Nat):Int)) (by omega) (by omega),w64 (x:=15 - ((a / 16:Nat):Int)+15) (by omega) (by omega),w64 (x:=15 - ((a / 16:Nat):Int)+15 - y) (by omega) (by omega),w64 (x:=t+1) (by omega) (by omega),w64 (by omega) (by omega)]
   refine Tot.chk (decide_eq_true h1) (Tot.chk (decide_eq_true (by omega)) (Tot.chk (decide_eq_true (by omega)) (Tot.chk (decide_eq_true (by omega)) (hk _ ⟨by show 0<=t+1;omega,by show t+1<=16;omega,h3,?_,?_,?_,?_⟩ ?_))))
   ·show((acc++[_,_]).length:Int)=2*(t+1)
    simp;omega
   ·intro d hd
    have hd:d∈acc++[((a / 16:Nat):Int),y]:=hd
    rcases List.mem_append.1 hd with hd | hd
    ·exact h5 d hd
    ·simp only[List.mem_cons,List.not_mem_nil,or_false]at hd
     rcases hd with rfl | rfl<;>omega
   ·show 0<=c+(15 - ((a / 16:Nat):Int)+15 - y)
    omega
   ·show c+(15 - ((a / 16:Nat):Int)+15 - y)<=30*(t+1)
    omega
   ·show(16 - (t+1)).toNat<(16 - t).toNat
    omega
  ·have hb:=of_decide_eq_false hb
   rw[List.length_map,hp]at hb
   dsimp only[U2]
   refine Tot.chk (decide_eq_true (by omega)) (Tot.some ⟨rfl,?_,?_⟩)
   ·show(acc++[_,_,_]).length=35
    simp;omega
   ·obtain⟨n,hn,hn2⟩: ∃ n:Nat,c=(n:Int)/\n<=480:=⟨c.toNat,by omega,by omega⟩
    refine AeD fun x hx=> ?_
    have hx:x∈acc++[c.fdiv 256,bitsI .and .i64 (c.fdiv 16) 15,bitsI .and .i64 c 15]:=hx
    rcases List.mem_append.1 hx with hx | hx
    ·exact h5 x hx
    ·simp only[List.mem_cons,List.not_mem_nil,or_false]at hx
     subst hn
     have e1:(n:Int).fdiv 256=((n / 256:Nat):Int):=AbF n 256
     have e2:(n:Int).fdiv 16=((n / 16:Nat):Int):=AbF n 16
     rcases hx with rfl | rfl | rfl
     ·rw[e1];omega
     ·rw[e2];exact AcJ _ (by omega)
     ·exact AcJ _ (by omega)
theorem Aex: ∀(l:List Bs) (i:Nat),(∀ s∈l,s.length=16)->i<l.length->AO l.flatten (16*i) (16*(i+1))=l.getD i []:=by
  intro l
  induction l with
  | nil=>intro i _ h;simp at h
  | cons a r ih =>
    intro i h hi
    have ha:a.length=16:=h a List.mem_cons_self
    cases i with
    | zero =>
      show((a++r.flatten).take (16*(0+1))).drop (16*0)=a
      rw[List.take_append_of_le_length (by omega),List.take_of_length_le (by omega)]
      rfl
    | succ i =>
      have:=ih i (fun s hs=>h s (List.mem_cons_of_mem _ hs)) (by simpa using hi)
      show((a++r.flatten).take (16*(i+1+1))).drop (16*(i+1))=r.getD i []
      rw[<- this]
      rw[show 16*(i+1+1)=a.length+16*(i+1) by omega,List.take_length_add_append,show 16*(i+1)=a.length+16*i by omega,List.drop_length_add_append]
      rw[ha,show 16+16*i=16*(i+1) by omega]
      rfl
def mP (N:Nat) (d:Bs):List Int:=((GI N d).getD ([],0)).1
theorem qB {N:Nat} (h:Big N) {d:Bs} (hd:d.length=16):GI N d=some (mP N d,0)/\Dig (mP N d):=by
  obtain⟨⟨l,e⟩,h1,h2,h3⟩:=Abb h hd
  have h2:e=0:=h2
  subst h2
  unfold mP
  rw[h1]
  exact⟨rfl,h3⟩
def sgP (N:Nat) (p0 p1:Bs) (p2:Int) (d:Bs) (i:Nat):Bs:=wk (st N p0 p2 (i:Int)) 0 ((mP N d).getD i 0).toNat (Ac0 N p1 p2 i)
def Tu (N:Nat) (p0 p1:Bs) (p2:Int) (d:Bs):Bs:=((List.range 35).map (sgP N p0 p1 p2 d)).flatten
section
variable {N:Nat} (h:Big N) {p0 p1:Bs} (h0:p0.length=16) (hs:p1.length=32) {p2:Int} (h1:0<=p2) (h2:p2<256) {d:Bs} (hd:d.length=16)
include h h0 hs
theorem Ze (p2:Int) (d:Bs) (i:Nat):(sgP N p0 p1 p2 d i).length=16:=AdZ (st_len h (by omega) p2 i) _ _ _ (JO h (by omega) p2 i).2
theorem VP (p2:Int) (d:Bs):(Tu N p0 p1 p2 d).length=560:=by
  unfold Tu
  rw[iL _ (MF (Ze h h0 hs p2 d)),List.length_map,List.length_range]
include h1 h2 hd
theorem Af5:ots_Sign N p0 p1 p2 d=some (Tu N p0 p1 p2 d,0):=by
  have hn:=h.n
  obtain⟨e1,e2,e3⟩:=qB h hd
  unfold ots_Sign
  rw[Xu N h0 hs h1 h2,AQ]
  rw[show((0:Int) != 0)=false from rfl,cond_false]
  rw[e1,AQ]
  show Au (X:=Int×List Bs) (Y:=List Bs) _ N (0,[]) _=_
  refine(bC 35 (sgP N p0 p1 p2 d) (fun i acc k hi ha=> ?_) (fun acc k ha=> ?_) (by omega)).trans ?_
  ·have e4:=e3 i
   dsimp only[U2]
   rw[decide_eq_true (by omega:(i:Int)<35),cond_true,BF _ (decide_eq_true (by omega)),BF _ (decide_eq_true (by omega)),(JO h (by omega) p2 i).1,AQ,Int.toNat_natCast,walk_eq h (by omega) p2 i (Int.le_refl 0) e4.1 e4.2 (JO h (by omega) p2 i).2,AQ,BF _ (decide_eq_true (by omega)),w64 (by omega) (by omega),Int.sub_zero]
   rfl
  ·rfl
  ·rw[join_eq h (by simp) (MF (Ze h h0 hs p2 d))]
   rfl
theorem Abd:MV N p0 p2 d (Tu N p0 p1 p2 d)=some (pkP N p0 p1 p2,0):=by
  have hn:=h.n
  obtain⟨e1,e2,e3⟩:=qB h hd
  have hsl:=VP h h0 hs p2 d
  unfold MV
  rw[Xt N h0 h1 h2,AQ]
  rw[show((0:Int) != 0)=false from rfl,cond_false]
  rw[e1,AQ]
  show(bif (((Tu N p0 p1 p2 d).length:Int) != 560)then _ else _)=_
  rw[show(((Tu N p0 p1 p2 d).length:Int) != 560)=false by rw[hsl];rfl,cond_false]
  refine(bC 35 (zN N p0 p1 p2) (fun i acc k hi ha=> ?_) (fun acc k ha=> ?_) (by omega)).trans ?_
  ·have e4:=e3 i
   have hc:AO (Tu N p0 p1 p2 d) (16*i) (16*(i+1))=sgP N p0 p1 p2 d i:=by
     unfold Tu
     rw[Aex _ _ (MF (Ze h h0 hs p2 d)) (by simpa using hi),getD_lt _ _ _ (by simpa using hi)]
     simp
   dsimp only[U2]
   rw[decide_eq_true (by omega:(i:Int)<35),cond_true,w64 (x:=(i:Int)*16) (by omega) (by omega),w64 (x:=(i:Int)+1) (by omega) (by omega),w64 (by omega) (by omega)]
   rw[BF _ (decide_eq_true (by omega)),BF _ (decide_eq_true (by omega)),BF _ (decide_eq_true (by omega)),BF _ (decide_eq_true (by omega)),BF _ (decide_eq_true (by omega)),show((i:Int)*16).toNat=16*i by omega,show(((i:Int)+1)*16).toNat=16*(i+1) by omega,hc,Int.toNat_natCast,walk_eq h (by omega) p2 i e4.1 e4.2 (Int.le_refl 15) (Ze h h0 hs p2 d i),AQ,BF _ (decide_eq_true (by omega))]
   congr 3
   congr 1
   unfold sgP zN
   rw[show(15:Nat)=((mP N d).getD i 0).toNat+(15 - (mP N d).getD i 0).toNat by omega,AgN]
   congr 1
   omega
  ·rfl
  ·rw[(Y8 h (by omega) p2 (by simp) (MF (eQ h (by omega) (by omega) p2))).1]
   rfl
end
end Go.Proofs.YtbaomhegdndpnaaGreatDoor.Pl
namespace Go.Proofs.YtbaomhegdndpnaaGreatDoor.Pl
open IntKind (i64)
open Go Vm
def low (b:Int):Int:=if 65<=b/\b<=90 then b+32 else b
def fP (s:Bool×List Int) (b:Int):Bool×List Int:=if b=32 then(decide (0<s.2.length),s.2)else(false,(if s.1 then s.2++[32]else s.2)++[low b])
def IE (l:List Int):Int:=l.getD (l.length - 1) 0
def fR (acc:List Int) (c:Int):List Int:=if c≠32\/(0<acc.length/\IE acc≠32)then acc++[c]else acc
def UI (l:List Int):List Int:=if 0<l.length/\IE l=32 then l.take (l.length - 1)else l
theorem Ym (l:List Int) (x:Int):IE (l++[x])=x:=by simp [IE,List.getD_eq_getElem?_getD]
theorem Agv {b:Int} (h:b≠32) (h0:0<=b):low b≠32:=by unfold low;split<;>omega
theorem AgV:low 32=32:=by decide
theorem runs: ∀(l:List Int) (p:Bool) (acc:List Int),(∀ b∈l,0<=b)->(p=true->0<acc.length)->(0<acc.length->IE acc≠32) ->
    UI ((l.map low).foldl fR (acc++if p then [32]else []))=(l.foldl fP (p,acc)).2:=by
  intro l
  induction l with
  | nil =>
    intro p acc _ hp ha
    show UI (acc++if p then [32]else [])=acc
    cases p with
    | true =>
      have:=hp rfl
      unfold UI
      rw[if_pos rfl,Ym,if_pos ⟨by simp,rfl⟩]
      simp
    | false =>
      rw[if_neg (by simp),List.append_nil]
      unfold UI
      rw[if_neg fun h=>ha h.1 h.2]
  | cons b r ih =>
    intro p acc h hp ha
    have hb:=h b List.mem_cons_self
    have hr: ∀ x∈r,0<=x:=fun x hx=>h x (List.mem_cons_of_mem _ hx)
    rw[List.map_cons,List.foldl_cons,List.foldl_cons]
    by_cases h32:b=32
    ·subst h32
     have e1:fP (p,acc) 32=(decide (0<acc.length),acc):=by unfold fP;rw[if_pos rfl]
     rw[e1,AgV]
     have e2:fR (acc++if p then [32]else []) 32=acc++if decide (0<acc.length)then [32]else []:=by
       by_cases h0:0<acc.length
       ·rw[decide_eq_true h0,if_pos rfl]
        cases p with
        | true=>unfold fR;rw[if_pos rfl,Ym,if_neg (by simp)]
        | false=>unfold fR;rw[if_neg (by decide: ¬(false=true)),List.append_nil,if_pos (Or.inr ⟨h0,ha h0⟩)]
       ·have:acc=[]:=by cases acc with | nil=>rfl | cons a t=>simp at h0
        subst this
        have hf:p=false:=by cases p with | true=>exact absurd (hp rfl) (by simp) | false=>rfl
        subst hf
        rfl
     rw[e2]
     exact ih _ _ hr (fun h=>of_decide_eq_true h) ha
    ·have hl:=Agv h32 hb
     have e1:fP (p,acc) b=(false,(if p then acc++[32]else acc)++[low b]):=by unfold fP;rw[if_neg h32]
     have e2:fR (acc++if p then [32]else []) (low b)=((if p then acc++[32]else acc)++[low b])++if false then [32]else []:=by
       unfold fR
       rw[if_pos (Or.inl hl)]
       cases p<;>simp
     rw[e1,e2]
     exact ih _ _ hr (fun h=>by cases h) (fun _=>by rw[Ym];exact hl)
structure FI (n:Nat) (s:Bool×List Int):Prop where
  len:s.2.length<=2*n
  byt:s.2.all Vm.isByte=true
theorem Me (b:UInt8):0<=iN b/\iN b<256:=by have:=AcC b;unfold iN;omega
theorem wB {x:Int} (h:0<=x/\x<256):Vm.isByte x=true:=by unfold Vm.isByte;rw[decide_eq_true h.1,decide_eq_true h.2];rfl
theorem cZ {x:Int} (h:0<=x/\x<256):0<=low x/\low x<256:=by unfold low;split<;>omega
theorem AgP {n:Nat} {s:Bool×List Int} (h:FI n s) (b:UInt8):FI (n+1) (fP s (iN b)):=by
  obtain⟨h1,h2⟩:=h
  unfold fP
  split
  ·exact⟨by show s.2.length<=_;omega,h2⟩
  ·have hb:=wB (cZ (Me b))
   refine⟨?_,?_⟩
   ·show((if s.1 then s.2++[32]else s.2)++[low (iN b)]).length<=_
    split<;>simp<;>omega
   ·show((if s.1 then s.2++[32]else s.2)++[low (iN b)]).all Vm.isByte=true
    split<;>simp only[List.all_append,h2,hb,List.all_cons,List.all_nil,Bool.and_true]<;>rfl
theorem zB {E S ρ :Type} (g:S->E->S) (fin:S->Option ρ): ∀(l:List E) (s:S),QP (fun e s=>(.inr (g s e):Option ρ ⊕ S)) fin l s=fin (l.foldl g s):=by
  intro l
  induction l with
  | nil=>intro s;rfl
  | cons e r ih=>intro s;exact ih _
def Hr (p:Bs):Bs:=((p.foldl (fun s b=>fP s (iN b)) (false,[])).2).map Vm.byteOf
theorem YN {N:Nat} {p:Bs} (hN:p.length<N) (hl:p.length<=1000000):NK N p=some (Hr p):=by
  unfold NK
  rw[BF _ (decide_eq_true (by omega))]
  refine(ER (X:=Bool×Int×List Int×List Int) (fun i (s:Bool×List Int)=>(s.1,i,p.map iN,s.2)) p 0 (fun i s=>FI i s) (fun e s=>.inr (fP s (iN e))) (fun s=>some (s.2.map Vm.byteOf)) (fun i s hi hI=> ?_) (fun s k hI=> ?_) N (false,[]) ⟨by simp,rfl⟩ hN).trans ?_
  ·obtain⟨q,acc⟩:=s
   obtain⟨h1,h2⟩:=hI
   have h1:acc.length<=2*i:=h1
   have hg:(p.map iN).getD i 0=iN (p.getD i 0):=by simp [List.getD_eq_getElem?_getD,hi]
   refine⟨fun k=> ?_,AgP ⟨h1,h2⟩ _⟩
   obtain⟨b1,b2⟩:=Me (p.getD i 0)
   generalize iN (p.getD i 0)=b at hg b1 b2 ⊢
   dsimp only[U4,U3]
   have hm:(p.map fun(b:UInt8)=>((b.toNat:Int)))=p.map iN:=rfl
   rw[hm]
   simp only[Int.toNat_natCast,List.length_map,hg,decide_eq_true (by omega:(i:Int)<(p.length:Int)),decide_eq_true (by omega:(0:Int)<=(i:Int)),decide_eq_true hi,cond_true,BU,AfH,w64 (x:=(i:Int)+1) (by omega) (by omega)]
   unfold fP
   by_cases h32:b=32
   ·subst h32
    rw[if_pos rfl]
    by_cases h0:0<acc.length
    ·rw[decide_eq_true h0,decide_eq_true (by omega:(acc.length:Int)>0)];rfl
    ·rw[decide_eq_false h0,decide_eq_false (by omega: ¬(acc.length:Int)>0)];rfl
   ·rw[if_neg h32,beq_eq_false_iff_ne.2 h32,cond_false]
    have hlow: ∀(K:Int->Option Bs),(bif bif decide (b>=65)then decide (b<=90)else false then K (IntKind.u8.wrap (b+32))else K b)=K (low b):=by
      intro K
      unfold low
      by_cases g1:65<=b
      ·by_cases g2:b<=90
       ·rw[decide_eq_true (show b>=65 from g1),decide_eq_true g2,if_pos ⟨g1,g2⟩,w8,show(b+32) % 256=b+32 by omega];rfl
       ·rw[decide_eq_true (show b>=65 from g1),decide_eq_false g2,if_neg fun h=>g2 h.2];rfl
      ·rw[decide_eq_false (show ¬ b>=65 from g1),if_neg fun h=>g1 h.1];rfl
    cases q with
    | true =>
      rw[cond_true,BF _ (decide_eq_true (by omega))]
      dsimp only[U3]
      rw[EU,DF,Ci]
      refine(hlow fun v=>chk (decide (((acc++[32]).length+1)*2<=140737488355328)) (k (false,(i:Int)+1,p.map iN,acc++[32]++[v]))).trans ?_
      rw[BF _ (decide_eq_true (by simp;omega))]
      rfl
    | false =>
      rw[cond_false]
      dsimp only[U3]
      rw[EU,DF,Ci]
      refine(hlow fun v=>chk (decide ((acc.length+1)*2<=140737488355328)) (k (false,(i:Int)+1,p.map iN,acc++[v]))).trans ?_
      rw[BF _ (decide_eq_true (by omega))]
      rfl
  ·obtain⟨h1,h2⟩:=hI
   dsimp only[U4]
   rw[List.length_map,decide_eq_false (by omega),cond_false,BF _ h2]
  ·rw[zB];rfl
def Yr (p:Bs):Bs:=((p.map iN).map low).map Vm.byteOf
theorem Aed {N:Nat} {p:Bs} (hN:p.length<N) (hl:p.length<=1000000):MX N p=some (Yr p):=by
  unfold MX
  rw[BF _ (decide_eq_true (by omega))]
  refine Qy (X:=Int×List Int) (fun x=>0<=x.1/\x.1<=(p.length:Int)/\x.2=((p.map iN).take x.1.toNat).map low++(p.map iN).drop x.1.toNat) (fun x=>((p.length:Int) - x.1).toNat) (fun _=>some (Yr p)) ?_ N _ ⟨by show(0:Int)<=0;omega,by show(0:Int)<=p.length;omega,rfl⟩ (by show((p.length:Int) - 0).toNat<N;omega)
  rintro ⟨t,l⟩ ⟨h1,h2,h3⟩ k hk
  have h1:0<=t:=h1
  have h2:t<=(p.length:Int):=h2
  have h3:l=((p.map iN).take t.toNat).map low++(p.map iN).drop t.toNat:=h3
  have hlen:l.length=p.length:=by rw[h3];simp;omega
  dsimp only[U2]
  rw[List.length_map]
  by_cases hlt:t<(p.length:Int)
  ·have hi:t.toNat<(p.map iN).length:=by rw[List.length_map];omega
   have hd:(p.map iN).drop t.toNat=(p.map iN)[t.toNat]::(p.map iN).drop (t.toNat+1):=List.drop_eq_getElem_cons hi
   have ht:(p.map iN).take (t.toNat+1)=(p.map iN).take t.toNat++[(p.map iN)[t.toNat]]:=List.take_succ_eq_append_getElem hi
   obtain⟨b1,b2⟩:0<=(p.map iN)[t.toNat]/\(p.map iN)[t.toNat]<256:=by rw[List.getElem_map];exact Me _
   have hA:(((p.map iN).take t.toNat).map low).length=t.toNat:=by rw[List.length_map,List.length_take];omega
   rw[hd]at h3
   generalize (p.map iN)[t.toNat]=b at h3 ht b1 b2
   have hg:l.getD t.toNat 0=b:=by
     rw[h3,List.getD_eq_getElem?_getD,List.getElem?_append_right (by omega),hA,Nat.sub_self];rfl
   have hs: ∀ c,l.set t.toNat c=((p.map iN).take t.toNat).map low++c::(p.map iN).drop (t.toNat+1):=fun c=>by
     rw[h3,List.set_append_right _ _ (by omega),hA,Nat.sub_self];rfl
   have fin: ∀ c,c=low b->k (t+1,l.set t.toNat c)=some (Yr p):=fun c hc=>by
     refine hk _ ⟨by show 0<=t+1;omega,by show t+1<=_;omega,?_⟩ (by show((p.length:Int) - (t+1)).toNat<((p.length:Int) - t).toNat;omega)
     show l.set t.toNat c=((p.map iN).take (t+1).toNat).map low++(p.map iN).drop (t+1).toNat
     rw[hs,show(t+1).toNat=t.toNat+1 by omega,ht,List.map_append,hc,List.append_assoc]
     rfl
   have hself:l.set t.toNat b=l:=by rw[hs,<- h3]
   simp only[hg,decide_eq_true hlt,decide_eq_true h1,decide_eq_true (by omega:t<(l.length:Int)),decide_eq_true (by omega:t.toNat<l.length),cond_true,BU,Bool.true_or,EU,DF,Ci,w64 (x:=t+1) (by omega) (by omega)]
   by_cases g1:65<=b
   ·rw[decide_eq_true (show b>=65 from g1)]
    by_cases g2:b<=90
    ·rw[decide_eq_true g2]
     refine Eq.trans (show _=k (t+1,l.set t.toNat (IntKind.u8.wrap (b+32)))from rfl) (fin _ ?_)
     unfold low
     rw[w8,if_pos ⟨g1,g2⟩];omega
    ·rw[decide_eq_false g2]
     refine Eq.trans (show _=k (t+1,l)from rfl) ?_
     have:=fin b (by unfold low;rw[if_neg fun h=>g2 h.2])
     rwa [hself]at this
   ·rw[decide_eq_false (show ¬ b>=65 from g1)]
    refine Eq.trans (show _=k (t+1,l)from rfl) ?_
    have:=fin b (by unfold low;rw[if_neg fun h=>g1 h.1])
    rwa [hself]at this
  ·rw[decide_eq_false hlt,cond_false]
   have et:t.toNat=(p.map iN).length:=by rw[List.length_map];omega
   rw[et,List.take_length,List.drop_length,List.append_nil]at h3
   rw[h3,BF _ ?_]
   ·rfl
   ·rw[List.all_eq_true]
    intro x hx
    obtain⟨y,hy,rfl⟩:=List.mem_map.1 hx
    obtain⟨b,_,rfl⟩:=List.mem_map.1 hy
    exact wB (cZ (Me b))
theorem AgU {x:Int} (h:0<=x/\x<256):iN (Vm.byteOf x)=x:=by
  unfold iN Vm.byteOf
  rw[UInt8.toNat_ofNat']
  have:x.toNat % 2 ^ 8=x.toNat:=Nat.mod_eq_of_lt (by omega)
  rw[this];omega
theorem AfI (p:Bs):(Yr p).map iN=(p.map iN).map low:=by
  unfold Yr
  simp only[List.map_map]
  refine List.map_congr_left fun b _=> ?_
  exact AgU (cZ (Me b))
structure FJ (n:Nat) (s:List Int):Prop where
  len:s.length<=n
  byt:s.all Vm.isByte=true
theorem AgQ {n:Nat} {s:List Int} (h:FJ n s) (b:UInt8):FJ (n+1) (fR s (iN b)):=by
  obtain⟨h1,h2⟩:=h
  unfold fR
  split
  ·refine⟨by simp;omega,?_⟩
   simp only[List.all_append,h2,wB (Me b),List.all_cons,List.all_nil,Bool.and_true]
  ·exact⟨by omega,h2⟩
theorem AeA (g:List Int->Int->List Int): ∀(p:Bs) (s:List Int),p.foldl (fun s b=>g s (iN b)) s=(p.map iN).foldl g s:=by
  intro p
  induction p with
  | nil=>intro s;rfl
  | cons b r ih=>intro s;exact ih _
theorem AeB (g:Bool×List Int->Int->Bool×List Int): ∀(p:Bs) (s:Bool×List Int),p.foldl (fun s b=>g s (iN b)) s=(p.map iN).foldl g s:=by
  intro p
  induction p with
  | nil=>intro s;rfl
  | cons b r ih=>intro s;exact ih _
theorem yR {N:Nat} {p:Bs} (hN:p.length<N) (hl:p.length<=1000000):Lm N p=some (Hr p):=by
  unfold Lm
  rw[Aed hN hl,AQ]
  have hq:(Yr p).length=p.length:=by simp [Yr]
  generalize hqd:Yr p=q at hq
  refine(ER (X:=Int×List Int) (fun i (s:List Int)=>(i,s)) q 0 (fun i s=>FJ i s) (fun e s=>.inr (fR s (iN e))) (fun s=>some ((UI s).map Vm.byteOf)) (fun i s hi hI=> ?_) (fun s k hI=> ?_) N [] ⟨by simp,rfl⟩ (by omega)).trans ?_
  ·obtain⟨h1,h2⟩:=hI
   refine⟨fun k=> ?_,AgQ ⟨h1,h2⟩ _⟩
   have hg:(((q.getD i 0).toNat:Nat):Int)=iN (q.getD i 0):=rfl
   dsimp only[U2]
   simp only[Int.toNat_natCast,hg]
   generalize iN (q.getD i 0)=c
   rw[decide_eq_true (by omega:(i:Int)<(q.length:Int)),decide_eq_true (by omega:(0:Int)<=(i:Int)),w64 (x:=(i:Int)+1) (by omega) (by omega)]
   unfold fR
   by_cases h0:0<s.length
   ·have hx:s.getD (i64.wrap ((s.length:Int) - 1)).toNat 0=IE s:=by rw[w64 (by omega) (by omega)];unfold IE;congr 1;omega
    rw[hx,w64 (x:=(s.length:Int) - 1) (by omega) (by omega),decide_eq_true (by omega:(s.length:Int)>0),decide_eq_true (by omega:(0:Int)<=(s.length:Int) - 1),decide_eq_true (by omega:(s.length:Int) - 1<(s.length:Int)),decide_eq_true (by omega:((s.length:Int) - 1).toNat<s.length),decide_eq_true (by omega:(s.length+1)*2<=140737488355328)]
    by_cases hc:c=32
    ·subst hc
     by_cases hL:IE s=32
     ·rw[hL,if_neg (by simp)];rfl
     ·rw[if_pos (Or.inr ⟨h0,hL⟩),show((IE s) != 32)=true from bne_iff_ne.2 hL];rfl
    ·rw[if_pos (Or.inl hc),show(c != 32)=true from bne_iff_ne.2 hc];rfl
   ·rw[decide_eq_false (by omega: ¬(s.length:Int)>0),decide_eq_true (by omega:(s.length+1)*2<=140737488355328)]
    by_cases hc:c=32
    ·subst hc
     rw[if_neg (by simp;omega)]
     simp only[Bool.and_false,Bool.not_false,Bool.or_true,BU]
     rfl
    ·rw[if_pos (Or.inl hc),show(c != 32)=true from bne_iff_ne.2 hc]
     simp only[Bool.and_false,Bool.not_false,Bool.or_true,BU]
     rfl
  ·obtain⟨h1,h2⟩:=hI
   dsimp only[U2]
   rw[decide_eq_false (by omega),cond_false]
   unfold UI
   by_cases h0:0<s.length
   ·have hx:s.getD (i64.wrap ((s.length:Int) - 1)).toNat 0=IE s:=by rw[w64 (by omega) (by omega)];unfold IE;congr 1;omega
    rw[hx,w64 (x:=(s.length:Int) - 1) (by omega) (by omega),decide_eq_true (by omega:(s.length:Int)>0),decide_eq_true (by omega:(0:Int)<=(s.length:Int) - 1),decide_eq_true (by omega:(s.length:Int) - 1<(s.length:Int)),decide_eq_true (by omega:((s.length:Int) - 1).toNat<s.length),decide_eq_true (by omega:(s.length:Int) - 1<=(s.length:Int))]
    have hcut:AO s 0 ((s.length:Int) - 1).toNat=s.take (s.length - 1):=by
      unfold AO
      rw[show((s.length:Int) - 1).toNat=s.length - 1 by omega];rfl
    rw[hcut]
    by_cases hL:IE s=32
    ·rw[hL,if_pos ⟨h0,rfl⟩]
     have h3:(s.take (s.length - 1)).all Vm.isByte=true:=List.all_eq_true.2 fun x hx=>List.all_eq_true.1 h2 x (List.mem_of_mem_take hx)
     rw[h3];rfl
    ·rw[if_neg (fun h=>hL h.2),show((IE s)==32)=false from beq_eq_false_iff_ne.2 hL,h2];rfl
   ·rw[decide_eq_false (by omega: ¬(s.length:Int)>0),if_neg (fun h=>h0 h.1),h2]
    simp only[Bool.not_false,Bool.or_true,BU]
    rfl
  ·rw[zB,AeA fR,<- hqd,AfI]
   have:=runs (p.map iN) false [] (fun b hb=>by obtain⟨x,_,rfl⟩:=List.mem_map.1 hb;exact(Me x).1) (fun h=>by cases h) (fun h=>absurd h (by simp))
   unfold Hr
   rw[AeB fP]
   rw[if_neg (by decide: ¬(false=true)),List.append_nil]at this
   rw[this]
