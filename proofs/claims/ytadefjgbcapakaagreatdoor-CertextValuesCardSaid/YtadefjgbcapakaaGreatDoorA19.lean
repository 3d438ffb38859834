import Derived.Test.YtadefjgbcapakaaGreatDoorA16
import Derived.Lib.SplitLaws
set_option linter.all false
namespace Go.Proofs.YtadefjgbcapakaaGreatDoor.Vm
open IntKind (i64)
open Go
theorem w64 {x:Int} (h1: -9223372036854775808<=x) (h2:x<=9223372036854775807):i64.wrap x=x:=by
  have e:i64.wrap x=if 9223372036854775808<=x % 18446744073709551616 then x % 18446744073709551616 - 18446744073709551616 else x % 18446744073709551616:=by
    show(if(true&&decide (x % 18446744073709551616>=9223372036854775808))=true then _ else _)=_
    simp only[Bool.true_and,decide_eq_true_eq,ge_iff_le]
    rfl
  rw[e]
  split<;>omega
theorem w8 (x:Int):IntKind.u8.wrap x=x % 256:=by
  have hp:(2:Int) ^ 8=256:=by decide
  simp only[IntKind.wrap,IntKind.bits,IntKind.signed,Bool.false_and,Bool.false_eq_true,if_false,hp]
theorem QK (x:Int):isByte (IntKind.u8.wrap x)=true:=by
  rw[w8];unfold isByte;simp;omega
theorem AgZ (a:Nat) (h:a<256):Bg .and .i64 (a:Int) 31=((a % 32:Nat):Int):=by
  have: ∀ a:Fin 256,Bg .and .i64 ((a.val:Nat):Int) 31=((a.val % 32:Nat):Int):=by decide +kernel
  exact this ⟨a,h⟩
theorem Afx (a:Nat) (h:a<256):Bg .and .i64 (a:Int) 32=((if a / 32 % 2=1 then 32 else 0:Nat):Int):=by
  have: ∀ a:Fin 256,Bg .and .i64 ((a.val:Nat):Int) 32=((if a.val / 32 % 2=1 then 32 else 0:Nat):Int):=by decide +kernel
  exact this ⟨a,h⟩
theorem or8 (t b:Nat) (ht:t<36028797018963968) (hb:b<256):Bg .or .i64 (((t*256:Nat)):Int) (b:Int)=((t*256+b:Nat):Int):=by
  have e: ∀ n:Nat,n<2 ^ 64->(BitVec.ofInt 64 (n:Int))=BitVec.ofNat 64 n:=fun n _=>by simp
  show i64.wrap _=_
  rw[show(BitVec.ofInt (i64).bits ((t*256:Nat):Int))=BitVec.ofNat 64 (t*256)from e _ (by omega),show(BitVec.ofInt (i64).bits ((b:Nat):Int))=BitVec.ofNat 64 b from e _ (by omega)]
  show i64.wrap (((BitVec.ofNat 64 (t*256)) ||| (BitVec.ofNat 64 b)).toNat:Int)=_
  rw[BitVec.toNat_or,BitVec.toNat_ofNat,BitVec.toNat_ofNat,Nat.mod_eq_of_lt (by omega),Nat.mod_eq_of_lt (by omega)]
  rw[show t*256=t <<< 8 by rw[Nat.shiftLeft_eq],<- Nat.shiftLeft_add_eq_or_of_lt (by omega:b<2 ^ 8),Nat.shiftLeft_eq]
  exact w64 (by omega) (by omega)
theorem AcA {ρ :Type} (p:Prop) [Decidable p] (k:Option ρ):chk (decide p) k=if p then k else none:=by
  by_cases h:p<;>simp [chk,h]
theorem AY {ρ :Type} (k:Option ρ):chk true k=k:=rfl
theorem AcB {ρ :Type} (b:Bool) (k:Option ρ):chk (!b|| !!b) k=k:=by cases b<;>rfl
theorem zW {ρ :Type} (b:Bool) (k:Option ρ):chk (b|| !b) k=k:=by cases b<;>rfl
theorem Ac6 (a b:Bool):(bif a then true else b)=(a||b):=by cases a<;>rfl
theorem sV {α :Type} (p:Prop) [Decidable p] (a b: α):(bif decide p then a else b)=if p then a else b:=by by_cases h:p<;>simp [h]
theorem zX {ρ :Type} (b:Bool) (k:Option ρ):chk (b||true) k=k:=by cases b<;>rfl
theorem EU {α :Type} (b:Bool) (x y: α):(bif b then x else y)=if b=true then x else y:=by cases b<;>rfl
theorem zV {ρ :Type} (b:Bool) (k:Option ρ):chk b k=if b=true then k else none:=by cases b<;>rfl
theorem Af {α ρ :Type} [Inhabited α] (a: α) (k: α ->Option ρ):Ae (some a) k=k a:=rfl
theorem Tv {α ρ :Type} (A:(α ->Option ρ)->Option ρ) (f: α ->Option ρ):KD A f=A f:=rfl
theorem Adw {α ρ :Type} {A:(α ->Option ρ)->Option ρ} {f: α ->Option ρ} (P: α ->Prop) (Q:Option ρ ->Prop) (hA: ∀ j: α ->Option ρ,(∀ x,P x->Q (j x))->Q (A j)) (hf: ∀ x,P x->Q (f x)):Q (KD A f):=hA f hf
theorem CY {X Y ρ :Type} (B:X->(X->Option ρ)->(Y->Option ρ)->Option ρ) (n:Nat) (x:X) (kx:Y->Option ρ):Ar B (n+1) x kx=B x (fun x'=>Ar B n x' kx) kx:=rfl
theorem Gh {X Y ρ :Type} {B:X->(X->Option ρ)->(Y->Option ρ)->Option ρ} {kx:Y->Option ρ} (I:X->Prop) (μ :X->Nat) (F:X->Option ρ)
    (h: ∀ x,I x-> ∀ k:X->Option ρ,(∀ x',I x'-> μ x'< μ x->k x'=F x')->B x k kx=F x): ∀(N:Nat) (x:X),I x-> μ x<N->Ar B N x kx=F x:=by
  intro N
  induction N with
  | zero=>intro x _ h;omega
  | succ N ih=>intro x hI hm;exact h x hI _ (fun x' hI' hm'=>ih x' hI' (by omega))
def BD {E:Type} (f:E->Int):List E->Int
  | []=>0
  | e::r=>if f e≠0 then f e else BD f r
set_option linter.defProp false in
def clR:=And.intro @Aag (And.intro @Bool.cond_true_left (And.intro @Bool.cond_false_left (And.intro @Bool.cond_true_right (And.intro @Bool.cond_false_right (And.intro @Bool.or_not_self (And.intro @Bool.not_or_self (And.intro @Bool.not_not (And.intro @AY (And.intro @Bool.or_true (And.intro @Bool.true_or (And.intro @Bool.or_self (@Bool.cond_self.{1}))))))))))))
theorem rX (c:UInt8):c.toNat<256:=UInt8.toNat_lt c
theorem getD_lt {α :Type} (l:List α) (i:Nat) (d: α) (h:i<l.length):l.getD i d=l[i]:=by rw[List.getD_eq_getElem?_getD,List.getElem?_eq_getElem h];rfl
theorem zT {α :Type} {p: α ->Bool} {l:List α} (h:l.all p=true) {i:Nat} (hi:i<l.length):p l[i]=true:=List.all_eq_true.1 h _ (List.getElem_mem hi)
def Yi {E S ρ :Type} (step:E->S->Option ρ ⊕ S) (fin:S->Option ρ):List E->S->Option ρ
  | [],s=>fin s
  | e::r,s=>match step e s with
    | .inl x=>x
    | .inr s'=>Yi step fin r s'
def xH {X S ρ :Type} (b:(X->Option ρ)->Option ρ) (nx:S->X) (I:S->Prop):Option ρ ⊕ S->Prop
  | .inl x=> ∀ k,b k=x
  | .inr s'=>(∀ k,b k=k (nx s'))/\I s'
theorem Adr {X Y S E ρ :Type} {B:X->(X->Option ρ)->(Y->Option ρ)->Option ρ} {kx:Y->Option ρ} (mk:Int->S->X) (l:List E) (d:E) (I:Nat->S->Prop) (step:E->S->Option ρ ⊕ S) (fin:S->Option ρ)
    (h: ∀(i:Nat) (s:S),i<l.length->I i s->xH (fun k=>B (mk (i:Int) s) k kx) (mk ((i:Int)+1)) (I (i+1)) (step (l.getD i d) s))
    (hend: ∀(s:S) (k:X->Option ρ),I l.length s->B (mk (l.length:Int) s) k kx=fin s) (N:Nat) (s:S) (h0:I 0 s) (hN:l.length<N):Ar B N (mk 0 s) kx=Yi step fin l s:=by
  have key: ∀(n i:Nat) (s:S),I i s->i<=l.length->l.length - i<n->Ar B n (mk (i:Int) s) kx=Yi step fin (l.drop i) s:=by
    intro n
    induction n with
    | zero=>intro i s _ _ h;omega
    | succ n ih =>
      intro i s hI hi hn
      rw[CY]
      by_cases hl:i<l.length
      ·have h1:=h i s hl hI
       rw[List.drop_eq_getElem_cons hl]
       show _=(match step l[i] s with | .inl x=>x | .inr s'=>Yi step fin (l.drop (i+1)) s')
       rw[show l.getD i d=l[i] by simp [List.getD_eq_getElem?_getD,hl]]at h1
       cases hs:step l[i] s with
       | inl x=>rw[hs]at h1;exact h1 _
       | inr s' =>
         rw[hs]at h1
         obtain⟨h2,h3⟩:=h1
         exact(h2 _).trans (ih (i+1) _ h3 (by omega) (by omega))
      ·have:i=l.length:=by omega
       subst this
       rw[hend s _ hI,List.drop_length];rfl
  exact key N 0 s h0 (by omega) (by omega)
theorem fZ {X Y S E ρ :Type} {B:X->(X->Option ρ)->(Y->Option ρ)->Option ρ} {kx:Y->Option ρ} (mk:Int->S->X) (out:S->Y) (l:List E) (d:E) (I:Nat->S->Prop) (step:E->S->Option ρ ⊕ S)
    (h: ∀(i:Nat) (s:S),i<l.length->I i s->xH (fun k=>B (mk (i:Int) s) k kx) (mk ((i:Int)+1)) (I (i+1)) (step (l.getD i d) s))
    (hend: ∀(s:S) (k:X->Option ρ),I l.length s->B (mk (l.length:Int) s) k kx=kx (out s)) (N:Nat) (s:S) (h0:I 0 s) (hN:l.length<N):Ar B N (mk 0 s) kx=Yi step (fun s=>kx (out s)) l s :=
  Adr mk l d I step _ h hend N s h0 hN
def F6 {α β :Type} (f: α ->Option β):List α ->Option (List β)
  | []=>some []
  | a::r=>match f a,F6 f r with
    | some b,some t=>some (b::t)
    | _,_=>none
def Vp {E β S ρ :Type} (f:E->Option β) (g:S-> β ->S) (bad:Option ρ) (e:E) (s:S):Option ρ ⊕ S:=(f e).elim (.inl bad) (fun b=>.inr (g s b))
theorem xI {X E β S ρ :Type} {f:E->Option β} {g:S-> β ->S} {bad:Option ρ} {e:E} {s:S} {b:(X->Option ρ)->Option ρ} {nx:S->X} {I:S->Prop} (h1:f e=none-> ∀ k,b k=bad) (h2: ∀ v,f e=some v->(∀ k,b k=k (nx (g s v)))/\I (g s v)):xH b nx I (Vp f g bad e s):=by
  unfold Vp
  cases h:f e with
  | none=>exact h1 h
  | some v=>exact h2 v h
theorem AdT {E β S ρ :Type} (f:E->Option β) (g:S-> β ->S) (bad:Option ρ) (fin:S->Option ρ): ∀(l:List E) (s:S),Yi (Vp f g bad) fin l s=(F6 f l).elim bad (fun bs=>fin (bs.foldl g s)):=by
  intro l
  induction l with
  | nil=>intro s;rfl
  | cons e r ih =>
    intro s
    have h1:Vp f g bad e s=(f e).elim (.inl bad) (fun b=>.inr (g s b)):=rfl
    unfold Yi F6
    rw[h1]
    cases f e with
    | none=>rfl
    | some b =>
      show Yi (Vp f g bad) fin r (g s b)=_
      rw[ih]
      cases F6 f r<;>rfl
theorem nH {α β :Type} (h: α -> β): ∀(l:List α) (a:List β),l.foldl (fun a x=>a++[h x]) a=a++l.map h:=by
  intro l
  induction l with
  | nil=>intro a;simp
  | cons x r ih=>intro a;rw[List.foldl_cons,ih];simp
theorem bI {α β :Type} {f: α ->Option β}: ∀ {l:List α} {r:List β},F6 f l=some r->r.length=l.length:=by
  intro l
  induction l with
  | nil=>intro r h;injection h with h;subst h;rfl
  | cons a t ih =>
    intro r h
    unfold F6 at h
    split at h
    ·rename_i b q h1 h2
     injection h with h;subst h
     simp [ih h2]
    ·cases h
def Bo (c:UInt8):Bs->List Bs
  | []=>[[]]
  | b::r=>if b=c then []::Bo c r else match Bo c r with
    | []=>[[b]]
    | h::t=>(b::h)::t
theorem o6 (c:UInt8) (s:Bs):Bo c s≠ []:=by
  cases s with
  | nil=>simp [Bo]
  | cons b r =>
    unfold Bo
    split
    ·simp
    ·split<;>simp
theorem Nc (c b:UInt8) (r:Bs) (h:b≠c):Bo c (b::r)=(b::(Bo c r).headD [])::(Bo c r).tail:=by
  have hn:=o6 c r
  show(if b=c then _ else _)=_
  rw[if_neg h]
  cases hs:Bo c r with
  | nil=>exact absurd hs hn
  | cons x t=>rfl
theorem Yl (c:UInt8): ∀(a r:Bs),c∉a->Bo c (a++c::r)=a::Bo c r:=by
  intro a
  induction a with
  | nil =>
    intro r _
    show(if c=c then _ else _)=_
    rw[if_pos rfl]
  | cons b a ih =>
    intro r h
    have hb:b≠c:=fun e=>h (by rw[e];exact List.mem_cons_self)
    have:=ih r (fun hm=>h (List.mem_cons_of_mem _ hm))
    show Bo c (b::(a++c::r))=_
    rw[Nc _ _ _ hb,this]
    rfl
theorem RX (c:UInt8): ∀ a:Bs,c∉a->Bo c a=[a]:=by
  intro a
  induction a with
  | nil=>intro _;rfl
  | cons b a ih =>
    intro h
    have hb:b≠c:=fun e=>h (by rw[e];exact List.mem_cons_self)
    rw[Nc _ _ _ hb,ih (fun hm=>h (List.mem_cons_of_mem _ hm))]
    rfl
theorem index_none (c:UInt8): ∀ s:Bs,c∉s->Lib.index s [c]= -1:=by
  intro s
  induction s with
  | nil=>intro _;rfl
  | cons b r ih =>
    intro h
    have hb: ¬ c=b:=fun e=>h (by rw[e];exact List.mem_cons_self)
    have h2:=ih (fun hm=>h (List.mem_cons_of_mem _ hm))
    show(if List.isPrefixOf [c] (b::r)=true then(0:Int)else if Lib.index r [c]== -1 then -1 else Lib.index r [c]+1)= -1
    rw[h2,if_neg (by simp [List.isPrefixOf,hb])]
    rfl
theorem AeG (c:UInt8): ∀(a r:Bs),c∉a->Lib.index (a++c::r) [c]=(a.length:Int):=by
  intro a
  induction a with
  | nil =>
    intro r _
    show(if List.isPrefixOf [c] (c::r)=true then(0:Int)else _)=_
    rw[if_pos (by simp [List.isPrefixOf])]
    rfl
  | cons b a ih =>
    intro r h
    have hb: ¬ c=b:=fun e=>h (by rw[e];exact List.mem_cons_self)
    have h2:=ih r (fun hm=>h (List.mem_cons_of_mem _ hm))
    show(if List.isPrefixOf [c] (b::(a++c::r))=true then(0:Int)else if Lib.index (a++c::r) [c]== -1 then -1 else Lib.index (a++c::r) [c]+1)=_
    rw[h2,if_neg (by simp [List.isPrefixOf,hb]),if_neg (by simp)]
    simp
theorem AcK (c:UInt8) (s:Bs):c∉s\/ ∃ a r,s=a++c::r/\c∉a:=by
  induction s with
  | nil=>left;simp
  | cons b t ih =>
    by_cases hb:b=c
    ·right;exact⟨[],t,by rw[hb];rfl,by simp⟩
    ·rcases ih with h | ⟨a,r,h1,h2⟩
     ·left
      intro hm
      rcases List.mem_cons.1 hm with h3 | h3
      ·exact hb h3.symm
      ·exact h h3
     ·right
      refine⟨b::a,r,by rw[h1];rfl,fun hm=> ?_⟩
      rcases List.mem_cons.1 hm with h3 | h3
      ·exact hb h3.symm
      ·exact h2 h3
theorem AdY (c:UInt8): ∀(n:Nat) (s:Bs),s.length<=n->Lib.splitK [c] 0 (Lib.count s [c]) s=Bo c s:=by
  intro n
  induction n with
  | zero =>
    intro s h
    have:s=[]:=List.eq_nil_of_length_eq_zero (by omega)
    subst this
    rfl
  | succ n ih =>
    intro s h
    rcases AcK c s with hn | ⟨a,r,rfl,ha⟩
    ·rw[Lib.count_miss (index_none c s hn),RX c s hn];rfl
    ·have hi:=AeG c a r ha
     rw[Lib.count_hit (by simp) hi,Nat.add_comm]
     show(if Lib.index (a++c::r) [c]== -1 then _ else _)=_
     rw[hi,if_neg (by simp),Yl c a r ha]
     have e1:(a++c::r).take ((a.length:Int).toNat+0)=a:=by simp
     have e2:(a++c::r).drop ((a.length:Int).toNat+ [c].length)=r:=by
       rw[show((a.length:Int).toNat+ [c].length)=a.length+1 from by simp]
       rw[<- List.drop_drop,List.drop_left]
       rfl
     have e3:(a++c::r).drop (a.length+ [c].length)=r:=by
       rw[show(a.length+ [c].length)=a.length+1 from by simp,<- List.drop_drop,List.drop_left]
       rfl
     rw[e1,e2,e3,ih r (by simp at h;omega)]
theorem Afl (c:UInt8) (s:Bs):Lib.split s [c]=Bo c s:=AdY c s.length s (Nat.le_refl _)
theorem jH (c:UInt8): ∀ s:Bs,(Bo c s).length<=s.length+1/\0<(Bo c s).length/\ ∀ x∈Bo c s,x.length<=s.length:=by
  intro s
  induction s with
  | nil=>exact⟨by simp [Bo],by simp [Bo],by intro x hx;simp [Bo]at hx;simp [hx]⟩
  | cons b r ih =>
    obtain⟨h1,h2,h3⟩:=ih
    by_cases hb:b=c
    ·have e:Bo c (b::r)=[]::Bo c r:=by show(if b=c then _ else _)=_;rw[if_pos hb]
     rw[e]
     refine⟨by simp;omega,by simp,fun x hx=> ?_⟩
     rcases List.mem_cons.1 hx with rfl | hx
     ·simp
     ·have:=h3 x hx;simp;omega
    ·rw[Nc _ _ _ hb]
     cases hs:Bo c r with
     | nil=>rw[hs]at h2;simp at h2
     | cons y t =>
       rw[hs]at h1 h3
       refine⟨by simp at h1 ⊢;omega,by simp,fun x hx=> ?_⟩
       rcases List.mem_cons.1 hx with rfl | hx
       ·have:=h3 y List.mem_cons_self;simp;omega
       ·have:=h3 x (List.mem_cons_of_mem _ hx);simp;omega
end Go.Proofs.YtadefjgbcapakaaGreatDoor.Vm
namespace Go.Proofs.YtadefjgbcapakaaGreatDoor.Pl
open IntKind (i64)
open Go Vm
def Cb (c:UInt8):Bool:=decide (48<=c.toNat)&&decide (c.toNat<=57)
def DX (d:Bs):Nat:=d.foldl (fun v c=>10*v+(c.toNat - 48)) 0
theorem Xh (d:Bs) (c:UInt8):DX (d++[c])=10*DX d+(c.toNat - 48):=by simp [DX,List.foldl_append]
theorem Ae2: ∀(d:Bs) (v k:Nat),d.all Cb=true->v<10 ^ k->d.foldl (fun v c=>10*v+(c.toNat - 48)) v<10 ^ (k+d.length):=by
  intro d
  induction d with
  | nil=>intro v k _ h;exact h
  | cons c d ih =>
    intro v k h hv
    rw[List.all_cons,Bool.and_eq_true]at h
    have h2:=h.1
    unfold Cb at h2
    simp only[Bool.and_eq_true,decide_eq_true_eq]at h2
    have:=ih (10*v+(c.toNat - 48)) (k+1) h.2 (by rw[Nat.pow_succ];omega)
    rw[List.length_cons,show k+(d.length+1)=k+1+d.length by omega]
    exact this
theorem Aaa (d:Bs) (h:d.all Cb=true):DX d<10 ^ d.length:=by
  have:=Ae2 d 0 0 h (by decide)
  rwa [Nat.zero_add]at this
def dQ (d:Bs):Bool:= !(decide (d.length=0)||decide (10<d.length)||(decide ((d.getD 0 0).toNat=48)&&decide (1<d.length)))&&(d.all Cb&&decide (DX d<=2147483647))
def Gx (d:Bs):Option Nat:=if dQ d then some (DX d)else none
def AbC:Option Nat->Int
  | none=> -1
  | some n=>n
theorem uA {c:Nat} (h1:48<=c) (h2:c<=57):i64.wrap (IntKind.u8.wrap ((c:Int) - 48))=((c - 48:Nat):Int):=by
  rw[w8,w64 (by omega) (by omega)];omega
theorem Aem {ρ :Type} (N:Nat) (s:Bs) (hs:s.length<=10) (hN:10<N) (bad:Option ρ) (fin:Int->Option ρ) :
    Ar (X:=Int×Int) (Y:=Int) (U2 fun t3a t4a k7 x8 =>
     bif decide (t4a<(s.length:Int))then Vm.chk (decide ((0:Int)<=t4a)) (Vm.chk (decide (t4a<(s.length:Int)))
       (Vm.chk (decide ((0:Int)<=t4a)||decide (((s.getD t4a.toNat 0).toNat:Int)<(48:Int)))
         (Vm.chk (decide (t4a<(s.length:Int))||decide (((s.getD t4a.toNat 0).toNat:Int)<(48:Int)))
           (bif decide (((s.getD t4a.toNat 0).toNat:Int)<(48:Int))||decide (((s.getD t4a.toNat 0).toNat:Int)>(57:Int))then bad
            else Vm.chk (decide ((0:Int)<=t4a)) (Vm.chk (decide (t4a<(s.length:Int)))
             (k7 (i64.wrap ((i64.wrap ((10:Int)*t3a))+i64.wrap (IntKind.u8.wrap (((s.getD t4a.toNat 0).toNat:Int) - (48:Int)))),i64.wrap (t4a+(1:Int)))))))))
     else x8 t3a) N (0,0) fin=if s.all Cb=true then fin ((DX s:Nat):Int)else bad:=by
  refine Gh (I:=fun x=> ∃ i:Nat,x=(((DX (s.take i):Nat):Int),(i:Int))/\i<=s.length/\(s.take i).all Cb=true) (μ :=fun x=>s.length - x.2.toNat) (fun _=>if s.all Cb=true then fin ((DX s:Nat):Int)else bad) ?_ N (0,0) ⟨0,rfl,by omega,rfl⟩ (by show s.length - 0<N;omega)
  rintro x ⟨i,rfl,hi,hd⟩ k hk
  show(bif decide ((i:Int)<(s.length:Int))then _ else _)=_
  by_cases hl:i<s.length
  ·have hv:=Aaa (s.take i) hd
   have h10:(10:Nat) ^ (s.take i).length<=10 ^ 9:=Nat.pow_le_pow_right (by decide) (by simp;omega)
   have hg:s.getD ((i:Int)).toNat 0=s[i]:=getD_lt s i 0 hl
   rw[decide_eq_true (by omega),cond_true,hg,decide_eq_true (show(0:Int)<=(i:Int) by omega)]
   simp only[Bool.true_or,AY]
   have htake:s.take (i+1)=s.take i++[s[i]]:=by rw[List.take_add_one,List.getElem?_eq_getElem hl];rfl
   by_cases hc:Cb s[i]=true
   ·have hc':=hc
    unfold Cb at hc'
    simp only[Bool.and_eq_true,decide_eq_true_eq]at hc'
    rw[decide_eq_false (by omega),decide_eq_false (by omega)]
    simp only[Bool.or_self,cond_false]
    rw[uA hc'.1 hc'.2,w64 (x:=(10:Int)*((DX (s.take i):Nat):Int)) (by omega) (by omega),w64 (x:=(10:Int)*((DX (s.take i):Nat):Int)+_) (by omega) (by omega),w64 (x:=(i:Int)+1) (by omega) (by omega)]
    refine hk _ ⟨i+1,?_,by omega,by rw[htake,List.all_append,hd];simpa using hc⟩ (by show s.length - ((i:Int)+1).toNat<s.length - ((i:Int)).toNat;omega)
    rw[htake,Xh]
    push_cast
    rfl
   ·have hall: ¬(s.all Cb=true):=fun h=>hc (zT h hl)
    rw[if_neg hall]
    have:(decide (((s[i].toNat:Nat):Int)<48)||decide (((s[i].toNat:Nat):Int)>57))=true:=by
      unfold Cb at hc
      simp only[Bool.and_eq_true,decide_eq_true_eq]at hc
      simp only[Bool.or_eq_true,decide_eq_true_eq]
      omega
    rw[this,cond_true]
  ·have:i=s.length:=by omega
   subst this
   rw[decide_eq_false (by omega),cond_false]
   rw[List.take_length]at hd
   rw[if_pos hd,List.take_length]
theorem Ab5 (N:Nat) (s:Bs) (hN:16<N):TA N s=some (AbC (Gx s)):=by
  unfold TA
  try simp only[clR]
  by_cases h0:s.length=0
  ·have:s=[]:=List.eq_nil_of_length_eq_zero h0
   subst this
   rfl
  ·have hne:(s==([]:Bs))=false:=by cases s with | nil=>exact absurd rfl h0 | cons _ _=>rfl
   rw[hne,decide_eq_true (show(0:Int)<(s.length:Int) by omega)]
   simp only[Bool.false_or,Bool.true_or,AY]
   unfold Gx dQ
   by_cases h1:10<s.length
   ·rw[decide_eq_true (show(s.length:Int)>10 by omega),decide_eq_true h1]
    simp [AY,AbC]
   ·rw[decide_eq_false (show ¬((s.length:Int)>10) by omega),decide_eq_false h1,decide_eq_false h0]
    simp only[Bool.or_false,Bool.false_or,Bool.not_false,Bool.true_and,Bool.not_or_self,AY]
    by_cases h2:(s.getD 0 0).toNat=48/\1<s.length
    ·rw[show(((s.getD 0 0).toNat:Int)==48)=true from by rw[beq_iff_eq];omega,decide_eq_true (show(s.length:Int)>1 by omega),decide_eq_true h2.1,decide_eq_true h2.2]
     rfl
    ·have e:((((s.getD 0 0).toNat:Int)==48)&&decide ((s.length:Int)>1))=false:=by
       rw[Bool.and_eq_false_iff]
       simp only[beq_eq_false_iff_ne,decide_eq_false_iff_not]
       omega
     have e':(decide ((s.getD 0 0).toNat=48)&&decide (1<s.length))=false:=by
       rw[Bool.and_eq_false_iff]
       simp only[decide_eq_false_iff_not]
       omega
     rw[e,e',cond_false]
     refine Eq.trans (Aem N s (by omega) (by omega) _ _) ?_
     by_cases h3:s.all Cb=true
     ·rw[if_pos h3,h3]
      by_cases h4:DX s<=2147483647
      ·rw[decide_eq_false (by omega),decide_eq_true h4];rfl
      ·rw[decide_eq_true (by omega),decide_eq_false h4];rfl
     ·rw[if_neg h3,show s.all Cb=false by simpa using h3];rfl
def NI (l:List Nat):Bool:=(decide (l.getD 0 0<=1)&&decide (l.getD 1 0<=39))||decide (l.getD 0 0=2)
def Ii (s:Bs):Option (List Nat) :=
  if(Bo 46 s).length<2\/12<(Bo 46 s).length then none
  else match F6 Gx (Bo 46 s)with
    | none=>none
    | some l=>if NI l=true then some l else none
def ints (l:List Nat):List Int:=l.map fun(n:Nat)=>(n:Int)
def Ah8:Option (List Nat)->List Int
  | none=>[]
  | some l=>ints l
theorem AfD {s:Bs} {n:Nat} (h:Gx s=some n):n<=2147483647:=by
  unfold Gx at h
  split at h
  ·rename_i hk
   injection h with h
   unfold dQ at hk
   simp only[Bool.and_eq_true,decide_eq_true_eq]at hk
   omega
  ·cases h
theorem AeP {α β :Type} {f: α ->Option β}: ∀ {l:List α} {r:List β},F6 f l=some r-> ∀ b∈r,∃ a∈l,f a=some b:=by
  intro l
  induction l with
  | nil=>intro r h b hb;injection h with h;subst h;cases hb
  | cons a t ih =>
    intro r h b hb
    unfold F6 at h
    split at h
    ·rename_i x q h1 h2
     injection h with h;subst h
     rcases List.mem_cons.1 hb with rfl | hb
     ·exact⟨a,List.mem_cons_self,h1⟩
     ·obtain⟨y,h3,h4⟩:=ih h2 b hb
      exact⟨y,List.mem_cons_of_mem _ h3,h4⟩
    ·cases h
theorem yN (N:Nat) (a b:Nat):UL N (a:Int) (b:Int)=some ((decide (a<=1)&&decide (b<=39))||decide (a=2)):=by
  unfold UL
  try simp only[clR]
  have e1:decide ((a:Int)<=1)=decide (a<=1):=by rw[decide_eq_decide];omega
  have e2:decide ((b:Int)<=39)=decide (b<=39):=by rw[decide_eq_decide];omega
  have e3:((a:Int)==2)=decide (a=2):=by rw[Bool.eq_iff_iff,beq_iff_eq,decide_eq_true_eq];omega
  rw[e1,e2,e3]
theorem yL (N:Nat) (s:Bs) (hN:16<N) (hs:s.length<=1048576):UK N s=some (Ah8 (Ii s)):=by
  unfold UK
  try simp only[clR]
  have hsp:strings_Split N s [46]=some (Bo 46 s):=by
    unfold strings_Split
    rw[decide_eq_true (by omega),Afl];rfl
  rw[hsp,Af]
  unfold Ii
  have hlen:=jH 46 s
  generalize hp:Bo 46 s=p at hlen ⊢
  by_cases h1:p.length<2\/12<p.length
  ·rw[if_pos h1,show(decide ((p.length:Int)<2)||decide ((p.length:Int)>12))=true by simp only[Bool.or_eq_true,decide_eq_true_eq];omega]
   rfl
  ·rw[if_neg h1,show(decide ((p.length:Int)<2)||decide ((p.length:Int)>12))=false by simp only[Bool.or_eq_false_iff,decide_eq_false_iff_not];omega,cond_false]
   refine Eq.trans (fZ (S:=List Int) (mk:=fun i a=>(i,a)) (out:=fun a=>a) p [] (fun i a=>a.length=i) (Vp Gx (fun a v=>a++[(v:Int)]) (some [])) ?_ ?_ N [] rfl (by omega)) ?_
   ·intro i a hi ha
    have hg:p.getD ((i:Int)).toNat []=p[i]:=getD_lt p i [] hi
    rw[getD_lt p i [] hi]
    have key: ∀(K:Int->Option (List Int)),(Vm.chk (decide ((0:Int)<=(i:Int))) (Vm.chk (decide ((i:Int)<(p.length:Int))) (Ae (TA N (p.getD ((i:Int)).toNat [])) K)))=K (AbC (Gx p[i])):=by
      intro K
      rw[decide_eq_true (show(0:Int)<=(i:Int) by omega),decide_eq_true (show(i:Int)<(p.length:Int) by omega),AY,AY,hg,Ab5 N _ hN,Af]
    refine xI (fun hv k=> ?_) (fun v hv=>⟨fun k=> ?_,by simp [ha]⟩)
    ·dsimp only[U2]
     rw[key,hv,decide_eq_true (show(i:Int)<(p.length:Int) by omega)]
     rfl
    ·dsimp only[U2]
     rw[key,hv,decide_eq_true (show(i:Int)<(p.length:Int) by omega),cond_true]
     rw[show AbC (some v)=(v:Int)from rfl,decide_eq_false (show ¬((v:Int)<0) by omega),cond_false,decide_eq_true (show(a.length+1)*9<=140737488355328 by omega),AY,w64 (by omega) (by omega)]
   ·intro a k ha
    dsimp only[U2]
    rw[decide_eq_false (by omega),cond_false]
   ·rw[AdT]
    cases hm:F6 Gx p with
    | none=>rfl
    | some l =>
      have hl:=bI hm
      have hf:l.foldl (fun(a:List Int) (v:Nat)=>a++[(v:Int)]) []=l.map (fun(v:Nat)=>(v:Int)):=by rw[nH,List.nil_append]
      dsimp only[Option.elim]
      rw[hf]
      have e1:(l.map (fun(v:Nat)=>(v:Int))).length=l.length:=List.length_map ..
      rw[e1,decide_eq_true (show(0:Int)<(l.length:Int) by omega),decide_eq_true (show 0<l.length by omega),decide_eq_true (show(1:Int)<(l.length:Int) by omega),decide_eq_true (show 1<l.length by omega)]
      simp only[AY]
      have g0:(l.map (fun(v:Nat)=>(v:Int))).getD 0 0=((l.getD 0 0:Nat):Int):=by
        rw[getD_lt _ 0 0 (by rw[e1];omega),getD_lt _ 0 0 (by omega)];simp
      have g1:(l.map (fun(v:Nat)=>(v:Int))).getD 1 0=((l.getD 1 0:Nat):Int):=by
        rw[getD_lt _ 1 0 (by rw[e1];omega),getD_lt _ 1 0 (by omega)];simp
      rw[g0,g1,yN,Af]
      show(bif !(NI l)then _ else _)=_
      cases NI l<;>rfl
def Rx (cur:Bs) (out:List Nat):Option (List Nat):=if out.length=12 then none else(Gx cur).map fun v=>out++[v]
def Ir:Bs->List Nat->Bs->Option (List Nat)
  | cur,out,[]=>Rx cur out
  | cur,out,c::r=>if c=46 then(Rx cur out).bind fun o=>Ir [] o r else if Cb c=true then Ir (cur++[c]) out r else none
theorem o5 (cur:Bs) (out:List Nat) (r:Bs):Ir cur out (46::r)=(Rx cur out).bind fun o=>Ir [] o r:=if_pos rfl
theorem nY (cur:Bs) (out:List Nat) (c:UInt8) (r:Bs) (h1:c≠46) (h2: ¬ Cb c=true):Ir cur out (c::r)=none:=by
  show(if c=46 then _ else if Cb c=true then _ else _)=_
  rw[if_neg h1,if_neg h2]
theorem nZ (cur:Bs) (out:List Nat) (c:UInt8) (r:Bs) (h1:c≠46) (h2:Cb c=true):Ir cur out (c::r)=Ir (cur++[c]) out r:=by
  show(if c=46 then _ else if Cb c=true then _ else _)=_
  rw[if_neg h1,if_pos h2]
def JC (l:List Nat):Option (List Nat):=if 2<=l.length/\NI l=true then some l else none
def dK:Option (List Nat)->List Int×Bool
  | none=>([],false)
  | some l=>(ints l,true)
theorem yR {ρ :Type} (N:Nat) (d:Bs) (out:List Int) (hs:d.length<=10) (hd:d.all Cb=true) (hN:10<N) (fin:Int×List Int->Option ρ) :
    Ar (X:=Int×Int×List Int) (Y:=Int×List Int) (U3 fun t8b t9b l1004096b k11 x12 =>
     bif decide (t9b<(d.length:Int))then Vm.chk (decide (0<=t9b)) (Vm.chk (decide (t9b<(d.length:Int)))
       (k11 (i64.wrap (i64.wrap (10*t8b)+i64.wrap (IntKind.u8.wrap (((d.getD t9b.toNat 0).toNat:Int) - 48))),i64.wrap (t9b+1),l1004096b)))
     else x12 (t8b,l1004096b)) N (0,0,out) fin=fin ((DX d:Nat),out):=by
  refine Gh (I:=fun x=> ∃ i:Nat,x=(((DX (d.take i):Nat):Int),(i:Int),out)/\i<=d.length) (μ :=fun x=>d.length - x.2.1.toNat) (fun _=>fin ((DX d:Nat),out)) ?_ N (0,0,out) ⟨0,rfl,by omega⟩ (by show d.length - 0<N;omega)
  rintro x ⟨i,rfl,hi⟩ k hk
  dsimp only[U3]
  by_cases hl:i<d.length
  ·have hdi:(d.take i).all Cb=true:=List.all_eq_true.2 fun x hx=>List.all_eq_true.1 hd x (List.mem_of_mem_take hx)
   have hv:=Aaa (d.take i) hdi
   have h10:(10:Nat) ^ (d.take i).length<=10 ^ 9:=Nat.pow_le_pow_right (by decide) (by simp;omega)
   have hg:d.getD ((i:Int)).toNat 0=d[i]:=getD_lt d i 0 hl
   have htake:d.take (i+1)=d.take i++[d[i]]:=by rw[List.take_add_one,List.getElem?_eq_getElem hl];rfl
   have hc:=zT hd hl
   unfold Cb at hc
   simp only[Bool.and_eq_true,decide_eq_true_eq]at hc
   rw[decide_eq_true (by omega),cond_true,hg,decide_eq_true (show(0:Int)<=(i:Int) by omega),AY,AY]
   rw[uA hc.1 hc.2,w64 (x:=(10:Int)*((DX (d.take i):Nat):Int)) (by omega) (by omega),w64 (x:=(10:Int)*((DX (d.take i):Nat):Int)+_) (by omega) (by omega),w64 (x:=(i:Int)+1) (by omega) (by omega)]
   refine hk _ ⟨i+1,?_,by omega⟩ (by show d.length - ((i:Int)+1).toNat<d.length - ((i:Int)).toNat;omega)
   rw[htake,Xh]
   push_cast
   rfl
  ·have:i=d.length:=by omega
   subst this
   rw[decide_eq_false (by omega),cond_false,List.take_length]
theorem sO {d:Bs} (hd:d.all Cb=true):Gx d=if d.length=0\/10<d.length\/((d.getD 0 0).toNat=48/\1<d.length)\/2147483647<DX d then none else some (DX d):=by
  unfold Gx dQ
  rw[hd]
  by_cases h:d.length=0\/10<d.length\/((d.getD 0 0).toNat=48/\1<d.length)\/2147483647<DX d
  ·rw[if_pos h,if_neg]
   simp only[Bool.and_eq_true,Bool.not_eq_true',Bool.or_eq_false_iff,decide_eq_false_iff_not,Bool.and_eq_false_iff,decide_eq_true_eq]
   omega
  ·rw[if_neg h,if_pos]
   have h1:d.length≠0:=by omega
   have h2: ¬ 10<d.length:=by omega
   have h3:DX d<=2147483647:=by omega
   have h4:(decide ((d.getD 0 0).toNat=48)&&decide (1<d.length))=false:=by
     rw[Bool.and_eq_false_iff,decide_eq_false_iff_not,decide_eq_false_iff_not];omega
   rw[decide_eq_false h1,decide_eq_false h2,decide_eq_true h3,h4];rfl
theorem AfL {d:Bs} (o:List Nat) (hd:d.all Cb=true):Rx d o=if(d.length=0\/10<d.length\/((d.getD 0 0).toNat=48/\1<d.length))\/o.length=12\/2147483647<DX d then none else some (o++[DX d]):=by
  unfold Rx
  rw[sO hd]
  by_cases h1:o.length=12
  ·rw[if_pos h1,if_pos (.inr (.inl h1))]
  ·rw[if_neg h1]
   by_cases h2:d.length=0\/10<d.length\/((d.getD 0 0).toNat=48/\1<d.length)\/2147483647<DX d
   ·rw[if_pos h2,if_pos (by omega)];rfl
   ·rw[if_neg h2,if_neg (by omega)];rfl
theorem nC (s:Bs) {a j:Nat} (ha:a<=j) (hj:j<s.length):AV s a (j+1)=AV s a j++[s[j]]:=by
  unfold AV
  rw[List.take_add_one,List.getElem?_eq_getElem hj,List.drop_append_of_le_length (by simp;omega)]
  rfl
theorem QH {α :Type} (s:List α) (a:Nat):AV s a a=[]:=by
  unfold AV
  exact List.drop_eq_nil_of_le (by simp;omega)
theorem Adl (o:List Nat) (v:Nat):ints o++[(v:Int)]=ints (o++[v]):=by simp [ints]
theorem Gg (o:List Nat):(ints o).length=o.length:=List.length_map ..
theorem AfU (o:List Nat):(Vm.chk (decide (0<((ints o).length:Int))||decide (((ints o).length:Int)<2))
        (Vm.chk (decide (0<(ints o).length)||decide (((ints o).length:Int)<2))
          (Vm.chk (decide (0<((ints o).length:Int))||(decide (((ints o).length:Int)<2)||decide ((ints o).getD 0 0>2)))
            (Vm.chk (decide (0<(ints o).length)||(decide (((ints o).length:Int)<2)||decide ((ints o).getD 0 0>2)))
              (Vm.chk (decide (1<((ints o).length:Int))|| !(!(decide (((ints o).length:Int)<2)||decide ((ints o).getD 0 0>2))&&decide ((ints o).getD 0 0<2)))
                (Vm.chk (decide (1<(ints o).length)|| !(!(decide (((ints o).length:Int)<2)||decide ((ints o).getD 0 0>2))&&decide ((ints o).getD 0 0<2)))
                  (Vm.chk (!decide ((ints o).getD 0 0<2)|| !(decide (((ints o).length:Int)<2)||decide ((ints o).getD 0 0>2))&&decide ((ints o).getD 0 0<2)||(decide (((ints o).length:Int)<2)||decide ((ints o).getD 0 0>2)))
                    (bif decide (((ints o).length:Int)<2)||decide ((ints o).getD 0 0>2)||decide ((ints o).getD 0 0<2)&&decide ((ints o).getD 1 0>39)then some (([]:List Int),false)else some (ints o,true)))))))))=some (dK (JC o)):=by
  by_cases h:o.length<2
  ·have e:JC o=none:=if_neg (by omega)
   rw[e,Gg,decide_eq_true (show(o.length:Int)<2 by omega)]
   simp [AY,dK]
  ·match o,h with
   | a::b::r,_ =>
     have e0:(ints (a::b::r)).getD 0 0=(a:Int):=rfl
     have e1:(ints (a::b::r)).getD 1 0=(b:Int):=rfl
     have e2:(ints (a::b::r)).length=r.length+2:=by rw[Gg];rfl
     rw[e0,e1,e2,decide_eq_true (show(0:Int)<((r.length+2:Nat):Int) by omega),decide_eq_true (show 0<r.length+2 by omega),decide_eq_true (show(1:Int)<((r.length+2:Nat):Int) by omega),decide_eq_true (show 1<r.length+2 by omega),decide_eq_false (show ¬(((r.length+2:Nat):Int)<2) by omega)]
     have hr:NI (a::b::r)= !(decide ((a:Int)>2)||(decide ((a:Int)<2)&&decide ((b:Int)>39))):=by
       show((decide (a<=1)&&decide (b<=39))||decide (a=2))=_
       rw[Bool.eq_iff_iff]
       simp only[Bool.or_eq_true,Bool.and_eq_true,decide_eq_true_eq,Bool.not_eq_true',Bool.or_eq_false_iff,Bool.and_eq_false_iff,decide_eq_false_iff_not]
       omega
     unfold JC
     rw[hr]
     cases decide ((a:Int)>2)<;>cases decide ((a:Int)<2)<;>cases decide ((b:Int)>39)<;>simp [Vm.chk,dK]
   | [],h=>exact absurd (by decide) h
   | [a],h=>exact absurd (by simp) h
theorem Aah (c:UInt8) (k:Nat):(((c.toNat:Nat):Int) != (k:Int))=decide (c.toNat≠k):=by
  rw[Bool.eq_iff_iff,bne_iff_ne,decide_eq_true_eq];omega
theorem pU (N:Nat) (s:Bs) (hN:16<N) (hs:s.length<=1048576) (hl:s.length+1<N):KW N s=some (dK ((Ir [] [] s).bind JC)):=by
  unfold KW
  try simp only[clR]
  generalize hR:Ir [] [] s=R0
  refine Gh (I:=fun x=> ∃(a j:Nat) (o:List Nat),x=((a:Int),(j:Int),ints o)/\a<=j/\o.length<=12/\((j<=s.length/\(AV s a j).all Cb=true/\Ir (AV s a j) o (s.drop j)=R0)\/(j=s.length+1/\some o=R0))) (μ :=fun x=>s.length+1 - x.2.1.toNat) (fun _=>some (dK (R0.bind JC))) ?_ N (0,0,[]) ⟨0,0,[],rfl,by omega,by simp,.inl ⟨by omega,by rw[QH];rfl,by rw[QH,List.drop_zero];exact hR⟩⟩ (by show s.length+1 - 0<N;omega)
  rintro x ⟨a,j,o,rfl,ha,ho,hx⟩ k hk
  dsimp only[U3]
  rcases hx with ⟨hj,hd,hsc⟩ | ⟨rfl,hsc⟩
  ·have hmu: ∀ j':Nat,j<j'->s.length+1 - ((j':Int)).toNat<s.length+1 - ((j:Int)).toNat:=fun j' h=>by omega
   rw[decide_eq_true (show(j:Int)<=(s.length:Int) by omega),cond_true,decide_eq_true (show(0:Int)<=(j:Int) by omega)]
   simp only[Bool.true_or,AY]
   have proc: ∀(d:Bs),d.all Cb=true->(if j<s.length then(Rx d o).bind fun o=>Ir [] o (s.drop (j+1))else Rx d o)=R0 ->
       (Vm.chk (decide ((0:Int)<=(a:Int))) (Vm.chk (decide ((a:Int)<=(j:Int)))
         (Vm.chk (decide (0<(d.length:Int))|| !(!((d.length:Int)==0||decide ((d.length:Int)>10))&&decide ((d.length:Int)>1)))
           (Vm.chk (!decide ((d.length:Int)>1)|| !((d.length:Int)==0||decide ((d.length:Int)>10))&&decide ((d.length:Int)>1)||((d.length:Int)==0||decide ((d.length:Int)>10)))
             (bif (d.length:Int)==0||decide ((d.length:Int)>10)||decide ((d.length:Int)>1)&&((d.getD 0 0).toNat:Int)==48||((ints o).length:Int)==12 then some (([]:List Int),false)
              else Ar (X:=Int×Int×List Int) (Y:=Int×List Int) (U3 fun t8b t9b l1004096b k11 x12 =>
                 bif decide (t9b<(d.length:Int))then Vm.chk (decide (0<=t9b)) (Vm.chk (decide (t9b<(d.length:Int)))
                   (k11 (i64.wrap (i64.wrap (10*t8b)+i64.wrap (IntKind.u8.wrap (((d.getD t9b.toNat 0).toNat:Int) - 48))),i64.wrap (t9b+1),l1004096b)))
                 else x12 (t8b,l1004096b)) N (0,0,ints o) (U2 fun t8c l1008192c=>bif decide (t8c>2147483647)then some ([],false)else Vm.chk (decide ((l1008192c.length+1)*9<=140737488355328)) (k (i64.wrap ((j:Int)+1),i64.wrap ((j:Int)+1),l1008192c++[t8c]))))))))=some (dK (R0.bind JC)):=by
     intro d hd hsc
     rw[decide_eq_true (show(0:Int)<=(a:Int) by omega),decide_eq_true (show(a:Int)<=(j:Int) by omega)]
     simp only[AY]
     have c0:(((d.length:Nat):Int)==0)=decide (d.length=0):=by rw[Bool.eq_iff_iff,beq_iff_eq,decide_eq_true_eq];omega
     have c1:decide (((d.length:Nat):Int)>10)=decide (10<d.length):=by rw[decide_eq_decide];omega
     have c2:decide (((d.length:Nat):Int)>1)=decide (1<d.length):=by rw[decide_eq_decide];omega
     have c3:((((d.getD 0 0).toNat:Nat):Int)==48)=decide ((d.getD 0 0).toNat=48):=by rw[Bool.eq_iff_iff,beq_iff_eq,decide_eq_true_eq];omega
     have c4:(((ints o).length:Int)==12)=decide (o.length=12):=by rw[Gg,Bool.eq_iff_iff,beq_iff_eq,decide_eq_true_eq];omega
     have c5:decide (0<((d.length:Nat):Int))= !(decide (d.length=0)):=by rw[Bool.eq_iff_iff,decide_eq_true_eq,Bool.not_eq_true',decide_eq_false_iff_not];omega
     rw[c0,c1,c2,c3,c4,c5]
     have t1:((!(decide (d.length=0)))|| !(!(decide (d.length=0)||decide (10<d.length))&&decide (1<d.length)))=true:=by cases decide (d.length=0)<;>cases decide (10<d.length)<;>cases decide (1<d.length)<;>rfl
     have t2:(!decide (1<d.length)|| !(decide (d.length=0)||decide (10<d.length))&&decide (1<d.length)||(decide (d.length=0)||decide (10<d.length)))=true:=by cases decide (d.length=0)<;>cases decide (10<d.length)<;>cases decide (1<d.length)<;>rfl
     rw[t1,t2,AY,AY]
     have hE:=AfL o hd
     by_cases hb:(d.length=0\/10<d.length\/((d.getD 0 0).toNat=48/\1<d.length))\/o.length=12
     ·rw[show(decide (d.length=0)||decide (10<d.length)||decide (1<d.length)&&decide ((d.getD 0 0).toNat=48)||decide (o.length=12))=true by simp only[Bool.or_eq_true,Bool.and_eq_true,decide_eq_true_eq];omega,cond_true]
      rw[if_pos (by omega)]at hE
      have:R0=none:=by rw[<- hsc,hE];split<;>rfl
      rw[this];rfl
     ·rw[show(decide (d.length=0)||decide (10<d.length)||decide (1<d.length)&&decide ((d.getD 0 0).toNat=48)||decide (o.length=12))=false by simp only[Bool.or_eq_false_iff,Bool.and_eq_false_iff,decide_eq_false_iff_not];omega,cond_false]
      refine Eq.trans (yR N d (ints o) (by omega) hd (by omega) _) ?_
      dsimp only[U2]
      by_cases hv:2147483647<DX d
      ·rw[decide_eq_true (show((DX d:Nat):Int)>2147483647 by omega),cond_true]
       rw[if_pos (by omega)]at hE
       have:R0=none:=by rw[<- hsc,hE];split<;>rfl
       rw[this];rfl
      ·rw[decide_eq_false (show ¬((DX d:Nat):Int)>2147483647 by omega),cond_false,Gg,decide_eq_true (show(o.length+1)*9<=140737488355328 by omega),AY,w64 (by omega) (by omega),Adl]
       rw[if_neg (by omega)]at hE
       rw[hE]at hsc
       refine hk _ ⟨j+1,j+1,o++[DX d],rfl,by omega,by simp;omega,?_⟩ (hmu (j+1) (by omega))
       by_cases hjl:j<s.length
       ·rw[if_pos hjl]at hsc
        exact .inl ⟨by omega,by rw[QH];rfl,by rw[QH];exact hsc⟩
       ·rw[if_neg hjl]at hsc
        exact .inr ⟨by omega,hsc⟩
   by_cases hjl:j<s.length
   ·have hg:s.getD ((j:Int)).toNat 0=s[j]:=getD_lt s j 0 hjl
    rw[decide_eq_true (show(j:Int)<(s.length:Int) by omega),hg]
    simp only[Bool.true_or,AY,Bool.true_and]
    by_cases h46:s[j].toNat=46
    ·rw[show(((s[j].toNat:Nat):Int) != 46)=false by rw[show(46:Int)=((46:Nat):Int)from rfl,Aah,decide_eq_false (by simp [h46])],cond_false]
     have he:s[j]=46:=UInt8.toNat.inj (by rw[h46];rfl)
     refine proc _ hd ?_
     rw[if_pos hjl,<- hsc,List.drop_eq_getElem_cons hjl,he,o5];rfl
    ·rw[show(((s[j].toNat:Nat):Int) != 46)=true by rw[show(46:Int)=((46:Nat):Int)from rfl,Aah,decide_eq_true (by simp [h46])],cond_true]
     have hne:s[j]≠46:=fun e=>h46 (by rw[e];rfl)
     rw[List.drop_eq_getElem_cons hjl]at hsc
     by_cases hdg:Cb s[j]=true
     ·rw[nZ _ _ _ _ hne hdg]at hsc
      have hc:=hdg
      unfold Cb at hc
      simp only[Bool.and_eq_true,decide_eq_true_eq]at hc
      rw[decide_eq_false (show ¬((s[j].toNat:Nat):Int)<48 by omega),decide_eq_false (show ¬((s[j].toNat:Nat):Int)>57 by omega)]
      simp only[Bool.or_self,cond_false]
      rw[w64 (by omega) (by omega)]
      refine hk _ ⟨a,j+1,o,rfl,by omega,ho,.inl ⟨by omega,?_,?_⟩⟩ (hmu (j+1) (by omega))
      ·rw[nC s ha hjl,List.all_append,hd];simpa using hdg
      ·rw[nC s ha hjl];exact hsc
     ·rw[nY _ _ _ _ hne hdg]at hsc
      have:(decide (((s[j].toNat:Nat):Int)<48)||decide (((s[j].toNat:Nat):Int)>57))=true:=by
        unfold Cb at hdg
        simp only[Bool.and_eq_true,decide_eq_true_eq]at hdg
        simp only[Bool.or_eq_true,decide_eq_true_eq]
        omega
      rw[this,cond_true,<- hsc];rfl
   ·rw[decide_eq_false (show ¬(j:Int)<(s.length:Int) by omega)]
    simp only[Bool.false_and,cond_false]
    refine proc _ hd ?_
    rw[if_neg hjl,<- hsc,List.drop_eq_nil_of_le (by omega)];rfl
  ·rw[decide_eq_false (show ¬((s.length+1:Nat):Int)<=(s.length:Int) by omega),cond_false,<- hsc]
   exact AfU o
theorem AbP (c b:UInt8) (hb:b≠c): ∀ s:Bs,b∈s-> ∃ x∈Bo c s,b∈x:=by
  intro s
  induction s with
  | nil=>intro h;cases h
  | cons a r ih =>
    intro h
    by_cases ha:a=c
    ·rcases List.mem_cons.1 h with rfl | h
     ·exact absurd ha hb
     ·obtain⟨x,h1,h2⟩:=ih h
      refine⟨x,?_,h2⟩
      show x∈(if a=c then _ else _)
      rw[if_pos ha]
      exact List.mem_cons_of_mem _ h1
    ·rw[Nc _ _ _ ha]
     rcases List.mem_cons.1 h with rfl | h
     ·exact⟨_,List.mem_cons_self,List.mem_cons_self⟩
     ·obtain⟨x,h1,h2⟩:=ih h
      have hn:=o6 c r
      cases hs:Bo c r with
      | nil=>exact absurd hs hn
      | cons y t =>
        rw[hs]at h1
        rcases List.mem_cons.1 h1 with rfl | h1
        ·exact⟨_,List.mem_cons_self,List.mem_cons_of_mem _ h2⟩
        ·exact⟨x,List.mem_cons_of_mem _ h1,h2⟩
theorem Ad1 {α β :Type} {f: α ->Option β}: ∀ {l:List α} {a: α},a∈l->f a=none->F6 f l=none:=by
  intro l
  induction l with
  | nil=>intro a h;cases h
  | cons x t ih =>
    intro a h ha
    unfold F6
    rcases List.mem_cons.1 h with rfl | h
    ·rw[ha]
    ·rw[ih h ha]
     split
     ·rename_i h1 h2;cases h2
     ·rfl
theorem QN {α β :Type} (f: α ->Option β) (a: α) (l:List α):F6 f (a::l)=(f a).bind fun b=>(F6 f l).map fun r=>b::r:=by
  show(match f a,F6 f l with | some b,some bs=>some (b::bs) | _,_=>none)=_
  cases f a<;>cases F6 f l<;>rfl
theorem OI {d:Bs} (h:d.all Cb=true):(46:UInt8)∉d:=by
  intro hm
  have:=List.all_eq_true.1 h _ hm
  revert this;decide
theorem Aga: ∀(s cur:Bs) (out:List Nat),cur.all Cb=true->out.length<=12->Ir cur out s=if 12<out.length+(Bo 46 (cur++s)).length then none else(F6 Gx (Bo 46 (cur++s))).map fun r=>out++r:=by
  intro s
  induction s with
  | nil =>
    intro cur out hc ho
    rw[List.append_nil,RX _ _ (OI hc),QN]
    show Rx cur out=_
    unfold Rx
    by_cases h:out.length=12
    ·rw[if_pos h,if_pos (by simp only[List.length_singleton];omega)]
    ·rw[if_neg h,if_neg (by simp only[List.length_singleton];omega)]
     cases Gx cur<;>rfl
  | cons c r ih =>
    intro cur out hc ho
    by_cases h1:c=46
    ·subst h1
     rw[o5,Yl _ _ _ (OI hc),QN]
     unfold Rx
     have hl:=(jH 46 r).2.1
     by_cases h:out.length=12
     ·rw[if_pos h,if_pos (by rw[List.length_cons];omega)];rfl
     ·rw[if_neg h]
      cases hv:Gx cur with
      | none=>simp
      | some v =>
        have:=ih [] (out++[v]) rfl (by simp;omega)
        rw[List.nil_append]at this
        show Ir [] (out++[v]) r=_
        rw[this]
        simp only[List.length_append,List.length_singleton,List.length_cons,List.length_nil,Option.bind_some,Option.map_map]
        by_cases h3:12<out.length+(0+1)+(Bo 46 r).length
        ·rw[if_pos h3,if_pos (by omega)]
        ·rw[if_neg h3,if_neg (by omega)]
         cases F6 Gx (Bo 46 r)<;>simp
    ·by_cases h2:Cb c=true
     ·rw[nZ _ _ _ _ h1 h2,ih (cur++[c]) out (by simp [hc,h2]) ho,List.append_assoc]
      rfl
     ·rw[nY _ _ _ _ h1 h2]
      obtain⟨x,hx1,hx2⟩:=AbP 46 c h1 (cur++c::r) (by simp)
      rw[Ad1 hx1 (by
        unfold Gx dQ
        rw[if_neg]
        have:x.all Cb=false:=by
          apply Bool.eq_false_iff.2
          intro h
          exact h2 (List.all_eq_true.1 h _ hx2)
        rw[this]
        simp)]
      split<;>rfl
theorem Acy (s:Bs):(Ir [] [] s).bind JC=Ii s:=by
  rw[Aga s [] [] rfl (by decide)]
  unfold Ii
  simp only[List.length_nil,Nat.zero_add,List.nil_append]
  by_cases h:12<(Bo 46 s).length
  ·rw[if_pos h,if_pos (Or.inr h)];rfl
  ·rw[if_neg h]
   cases hm:F6 Gx (Bo 46 s)with
   | none=>split<;>rfl
   | some l =>
     have hl:=bI hm
     show JC l=_
     unfold JC
     have h3: ∀ q:Option (List Nat),(if(Bo 46 s).length<2\/12<(Bo 46 s).length then none else q)=if 2<=l.length then q else none:=by
       intro q
       by_cases h2:2<=l.length
       ·rw[if_neg (by omega),if_pos h2]
       ·rw[if_pos (Or.inl (by omega)),if_neg h2]
     rw[h3]
     dsimp only
     by_cases h2:2<=l.length<;>by_cases hr:NI l=true<;>simp [h2,hr]
theorem lZ (N:Nat) (s:Bs) (hN:16<N) (hs:s.length<=1048576) (hl:s.length+1<N):KW N s=some (dK (Ii s)):=by
  rw[pU N s hN hs hl,Acy]
def hi (m:Nat):List Nat:=if m=0 then []else hi (m / 128)++[m % 128+128]
termination_by m
decreasing_by omega
theorem Agq (n:Nat) (h:n<9223372036854775808):Bg .and .i64 (n:Int) 127=((n % 128:Nat):Int):=by
  show i64.wrap (((BitVec.ofInt 64 (n:Int)) &&& (BitVec.ofInt 64 ((127:Nat):Int))).toNat:Int)=_
  rw[show(BitVec.ofInt 64 (n:Int))=BitVec.ofNat 64 n by simp,show(BitVec.ofInt 64 ((127:Nat):Int))=BitVec.ofNat 64 127 by simp]
  rw[BitVec.toNat_and,BitVec.toNat_ofNat,BitVec.toNat_ofNat,Nat.mod_eq_of_lt (by omega),Nat.mod_eq_of_lt (by omega)]
  rw[show(127:Nat)=2 ^ 7 - 1 by decide,Nat.and_two_pow_sub_one_eq_mod]
  exact w64 (by omega) (by omega)
theorem Aat {s:Bs} {l:List Nat} (h:Ii s=some l):2<=l.length/\l.length<=12/\(∀ x∈l,x<=2147483647)/\NI l=true:=by
  unfold Ii at h
  split at h
  ·cases h
  ·cases hm:F6 Gx (Bo 46 s)with
   | none=>rw[hm]at h;cases h
   | some r =>
     rw[hm]at h
     dsimp only at h
     split at h
     ·rename_i hr
      injection h with h;subst h
      have hl:=bI hm
      refine⟨by omega,by omega,fun x hx=> ?_,hr⟩
      obtain⟨a,_,ha⟩:=AeP hm x hx
      exact AfD ha
     ·cases h
theorem Adi {l:List Nat} (h: ∀ x∈l,x<256):(ints l).all Vm.isByte=true/\(ints l).map Vm.byteOf=l.map UInt8.ofNat:=by
  constructor
  ·rw[List.all_eq_true]
   intro x hx
   obtain⟨n,hn,rfl⟩:=List.mem_map.1 hx
   have:=h n hn
   unfold Vm.isByte
   simp only[Bool.and_eq_true,decide_eq_true_eq]
   omega
  ·unfold ints
   rw[List.map_map]
   rfl
theorem Adk (l:List Nat) (i:Nat):(ints l).getD i 0=((l.getD i 0:Nat):Int):=by
  unfold ints
  by_cases h:i<l.length
  ·rw[getD_lt _ _ _ (by rw[List.length_map];exact h),getD_lt _ _ _ h,List.getElem_map]
  ·rw[List.getD_eq_getElem?_getD,List.getD_eq_getElem?_getD,List.getElem?_eq_none (by rw[List.length_map];omega),List.getElem?_eq_none (by omega)];rfl
theorem AeH (a b:List Nat):ints (a++b)=ints a++ints b:=by unfold ints;rw[List.map_append]
theorem Pq (N:Nat) (s:Bs) (hN:16<N) (hs:s.length<=1048576) (hl:s.length+1<N):ES N s=some (Ii s).isSome/\A7 N s=some (Ii s).isSome:=by
  unfold ES A7
  rw[yL N s hN hs,lZ N s hN hs hl,Af,Af]
  cases ha:Ii s with
  | none=>exact⟨rfl,rfl⟩
  | some l =>
    obtain⟨h1,h2,h3,h4⟩:=Aat ha
    refine⟨?_,rfl⟩
    show some (!(ints l).isEmpty)=_
    rw[show(ints l).isEmpty=false by rw[List.isEmpty_eq_false_iff_exists_mem];exact⟨_,List.mem_map.2 ⟨l.getD 0 0,by rw[getD_lt l 0 0 (by omega)];exact List.getElem_mem _,rfl⟩⟩]
    rfl
abbrev dd (n:Nat):Bs:=Lib.decDigits n
theorem Kt {n:Nat} (h:n<10):dd n=[UInt8.ofNat (48+n)]:=Lib.decDigits_one h
theorem Px {n:Nat} (h: ¬ n<10):dd n=dd (n / 10)++[UInt8.ofNat (48+n % 10)]:=by
  show Lib.decDigits n=_
  rw[Lib.decDigits,dif_neg h]
theorem Yy {k:Nat} (h:k<10):(UInt8.ofNat (48+k)).toNat=48+k:=by
  rw[UInt8.toNat_ofNat'];omega
theorem zY {k:Nat} (h:k<10):Cb (UInt8.ofNat (48+k))=true:=by
  unfold Cb
  rw[Yy h]
  simp only[Bool.and_eq_true,decide_eq_true_eq]
  omega
theorem tX (n:Nat):(dd n).all Cb=true:=by
  induction n using Nat.strongRecOn with
  | _ n ih =>
    by_cases h:n<10
    ·rw[Kt h,List.all_cons,zY h];rfl
    ·rw[Px h,List.all_append,ih (n / 10) (by omega),List.all_cons,zY (by omega)];rfl
theorem Agv (n:Nat):DX (dd n)=n:=by
  induction n using Nat.strongRecOn with
  | _ n ih =>
    by_cases h:n<10
    ·rw[Kt h]
     show 10*0+((UInt8.ofNat (48+n)).toNat - 48)=n
     rw[Yy h];omega
    ·rw[Px h,Xh,ih (n / 10) (by omega),Yy (by omega)];omega
theorem Afz (n:Nat):dd n≠ []:=by
  by_cases h:n<10
  ·rw[Kt h];simp
  ·rw[Px h];simp
theorem SX (k n:Nat) (h:n<10 ^ (k+1)):1<=(dd n).length/\(dd n).length<=k+1:=by
  constructor
  ·exact List.length_pos_iff.2 (Afz n)
  ·induction k generalizing n with
   | zero=>rw[Kt (by simpa using h)];exact Nat.le_refl _
   | succ k ih =>
     by_cases h1:n<10
     ·rw[Kt h1];simp
     ·rw[Px h1,List.length_append,List.length_singleton]
      have:=ih (n / 10) (by rw[Nat.pow_succ]at h;omega)
      omega
theorem AfH (n:Nat) (h:0<n):((dd n).getD 0 0).toNat≠48:=by
  induction n using Nat.strongRecOn with
  | _ n ih =>
    by_cases h1:n<10
    ·rw[Kt h1]
     show(UInt8.ofNat (48+n)).toNat≠48
     rw[Yy h1];omega
    ·have h2:=ih (n / 10) (by omega) (by omega)
     have h3:=List.length_pos_iff.2 (Afz (n / 10))
     rw[Px h1,List.getD_eq_getElem?_getD,List.getElem?_append_left h3,<- List.getD_eq_getElem?_getD]
     exact h2
theorem AfC (n:Nat) (h:n<10000000000):Gx (dd n)=if n<=2147483647 then some n else none:=by
  have hl:=SX 9 n (by omega)
  rw[sO (tX n),Agv]
  have h2: ¬(((dd n).getD 0 0).toNat=48/\1<(dd n).length):=by
    rintro ⟨h3,h4⟩
    by_cases h0:n<10
    ·rw[Kt h0]at h4;simp at h4
    ·exact AfH n (by omega) h3
  by_cases h5:n<=2147483647
  ·rw[if_neg (by omega),if_pos h5]
  ·rw[if_pos (by omega),if_neg h5]
theorem Af9 (N n:Nat) (h:n<10000000000):strconv_Itoa N (n:Int)=some (dd n):=by
  unfold strconv_Itoa
  rw[decide_eq_true (by omega),decide_eq_true (by omega)]
  show some (Lib.itoa (n:Int))=_
  unfold Lib.itoa
  rw[if_neg (by omega)]
  rfl
theorem JL (k:Nat) (h:k<10):([IntKind.u8.wrap (i64.wrap ((48:Int)+(k:Int)))].all Vm.isByte)=true/\ [IntKind.u8.wrap (i64.wrap ((48:Int)+(k:Int)))].map Vm.byteOf=[UInt8.ofNat (48+k)]:=by
  rw[w64 (by omega) (by omega),w8,show((48:Int)+(k:Int)) % 256=((48+k:Nat):Int) by omega]
  have:=Adi (l:=[48+k]) (by intro x hx;rw[List.mem_singleton]at hx;omega)
  exact this
theorem rZ (N:Nat): ∀(k n:Nat),n<10 ^ (k+1)->k<=17-> ∀ F,k<F->GU N F (n:Int)=some (dd n):=by
  intro k
  induction k with
  | zero =>
    intro n h _ F hF
    obtain⟨F,rfl⟩: ∃ G,F=G+1:=⟨F - 1,by omega⟩
    have h1:n<10:=by simpa using h
    show GG N (GU N F) (n:Int)=_
    unfold GG
    rw[decide_eq_true (by omega),cond_true,(JL n h1).1,(JL n h1).2,AY,Kt h1]
  | succ k ih =>
    intro n h hk F hF
    obtain⟨F,rfl⟩: ∃ G,F=G+1:=⟨F - 1,by omega⟩
    show GG N (GU N F) (n:Int)=_
    unfold GG
    by_cases h1:n<10
    ·rw[decide_eq_true (by omega),cond_true,(JL n h1).1,(JL n h1).2,AY,Kt h1]
    ·have h18:(10:Nat) ^ (k+1+1)<=10 ^ 18+0->n<9223372036854775807:=fun h2=>by omega
     have h19:n<9223372036854775807:=h18 (by rw[Nat.add_zero];exact Nat.pow_le_pow_right (by decide) (by omega))
     have hl:=SX k (n / 10) (by rw[Nat.pow_succ]at h;omega)
     rw[decide_eq_false (by omega),cond_false,show((n:Int)).tdiv 10=((n / 10:Nat):Int)from rfl,show((n:Int)).tmod 10=((n % 10:Nat):Int)from rfl,w64 (x:=((n / 10:Nat):Int)) (by omega) (by omega),ih (n / 10) (by rw[Nat.pow_succ]at h;omega) (by omega) F (by omega),Af]
     rw[(JL (n % 10) (by omega)).1,(JL (n % 10) (by omega)).2,AY]
     dsimp only
     rw[decide_eq_true (by simp only[List.length_singleton];omega),AY,Px h1]
