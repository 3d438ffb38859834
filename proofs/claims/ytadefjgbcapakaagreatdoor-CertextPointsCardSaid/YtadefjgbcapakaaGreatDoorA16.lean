import Derived.Test.YtadefjgbcapakaaGreatDoorA13
import Derived.Lib.SplitLaws
set_option linter.all false
namespace Go.Proofs.YtadefjgbcapakaaGreatDoor.Vm
open IntKind (i64)
open Go
theorem w64 {x:Int} (h1: -9223372036854775808<=x) (h2:x<=9223372036854775807):i64.wrap x=x:=by
  have e:i64.wrap x=if 9223372036854775808<=x % 18446744073709551616 then x % 18446744073709551616 - 18446744073709551616 else x % 18446744073709551616:=by
    show(if(true&&decide (x % 18446744073709551616>=9223372036854775808))=true then _ else _)=_
    simp only[Bool.true_and,decide_eq_true_eq,ge_iff_le]
    rfl
  rw[e]
  split<;>omega
theorem w8 (x:Int):IntKind.u8.wrap x=x % 256:=by
  have hp:(2:Int) ^ 8=256:=by decide
  simp only[IntKind.wrap,IntKind.bits,IntKind.signed,Bool.false_and,Bool.false_eq_true,if_false,hp]
theorem Oq (x:Int):isByte (IntKind.u8.wrap x)=true:=by
  rw[w8];unfold isByte;simp;omega
theorem wu64 {x:Int} (h1:0<=x) (h2:x<=18446744073709551615):IntKind.u64.wrap x=x:=by
  have hp:(2:Int) ^ 64=18446744073709551616:=by decide
  simp only[IntKind.wrap,IntKind.bits,IntKind.signed,Bool.false_and,Bool.false_eq_true,if_false,hp]
  omega
theorem Ag8 (a:Nat) (h:a<256):Ba .and .i64 (a:Int) 31=((a % 32:Nat):Int):=by
  have: ∀ a:Fin 256,Ba .and .i64 ((a.val:Nat):Int) 31=((a.val % 32:Nat):Int):=by decide +kernel
  exact this ⟨a,h⟩
theorem or8 (t b:Nat) (ht:t<36028797018963968) (hb:b<256):Ba .or .i64 (((t*256:Nat)):Int) (b:Int)=((t*256+b:Nat):Int):=by
  have e: ∀ n:Nat,n<2 ^ 64->(BitVec.ofInt 64 (n:Int))=BitVec.ofNat 64 n:=fun n _=>by simp
  show i64.wrap _=_
  rw[show(BitVec.ofInt (i64).bits ((t*256:Nat):Int))=BitVec.ofNat 64 (t*256)from e _ (by omega),show(BitVec.ofInt (i64).bits ((b:Nat):Int))=BitVec.ofNat 64 b from e _ (by omega)]
  show i64.wrap (((BitVec.ofNat 64 (t*256)) ||| (BitVec.ofNat 64 b)).toNat:Int)=_
  rw[BitVec.toNat_or,BitVec.toNat_ofNat,BitVec.toNat_ofNat,Nat.mod_eq_of_lt (by omega),Nat.mod_eq_of_lt (by omega)]
  rw[show t*256=t <<< 8 by rw[Nat.shiftLeft_eq],<- Nat.shiftLeft_add_eq_or_of_lt (by omega:b<2 ^ 8),Nat.shiftLeft_eq]
  exact w64 (by omega) (by omega)
theorem Ii {ρ :Type} (p:Prop) [Decidable p] (k:Option ρ):chk (decide p) k=if p then k else none:=by
  by_cases h:p<;>simp [chk,h]
theorem Ai {ρ :Type} (k:Option ρ):chk true k=k:=rfl
theorem gX {ρ :Type} (b:Bool) (k:Option ρ):chk (!b|| !!b) k=k:=by cases b<;>rfl
theorem mM {ρ :Type} (b:Bool) (k:Option ρ):chk (b|| !b) k=k:=by cases b<;>rfl
theorem Aan {ρ :Type} (b:Bool) (k:Option ρ):chk (bif b then true else !b) k=k:=by cases b<;>rfl
theorem rX {ρ :Type} (b:Bool) (k:Option ρ):chk (bif b then true else true) k=k:=by cases b<;>rfl
theorem vT (a b:Bool):(bif a then true else b)=(a||b):=by cases a<;>rfl
theorem DU {α :Type} (p:Prop) [Decidable p] (a b: α):(bif decide p then a else b)=if p then a else b:=by by_cases h:p<;>simp [h]
theorem mO {ρ :Type} (b:Bool) (k:Option ρ):chk (b||true) k=k:=by cases b<;>rfl
theorem Oe {α :Type} (b:Bool) (x y: α):(bif b then x else y)=if b=true then x else y:=by cases b<;>rfl
theorem AfY {ρ :Type} (b:Bool) (k:Option ρ):chk b k=if b=true then k else none:=by cases b<;>rfl
theorem Ae {α ρ :Type} [Inhabited α] (a: α) (k: α ->Option ρ):Ac (some a) k=k a:=rfl
theorem FW {α ρ :Type} (A:(α ->Option ρ)->Option ρ) (f: α ->Option ρ):Dz A f=A f:=rfl
theorem Yl {X Y ρ :Type} (B:X->(X->Option ρ)->(Y->Option ρ)->Option ρ) (n:Nat) (x:X) (kx:Y->Option ρ):Ap B (n+1) x kx=B x (fun x'=>Ap B n x' kx) kx:=rfl
theorem DI {X Y ρ :Type} {B:X->(X->Option ρ)->(Y->Option ρ)->Option ρ} {kx:Y->Option ρ} (I:X->Prop) (μ :X->Nat) (F:X->Option ρ)
    (h: ∀ x,I x-> ∀ k:X->Option ρ,(∀ x',I x'-> μ x'< μ x->k x'=F x')->B x k kx=F x): ∀(N:Nat) (x:X),I x-> μ x<N->Ap B N x kx=F x:=by
  intro N
  induction N with
  | zero=>intro x _ h;omega
  | succ N ih=>intro x hI hm;exact h x hI _ (fun x' hI' hm'=>ih x' hI' (by omega))
theorem xR {X Y ρ :Type} {B:X->(X->Option ρ)->(Y->Option ρ)->Option ρ} {kx:Y->Option ρ} (I:X->Prop) (μ :X->Nat) (Q:Option ρ ->Prop)
    (h: ∀ x,I x-> ∀ k:X->Option ρ,(∀ x',I x'-> μ x'< μ x->Q (k x'))->Q (B x k kx)): ∀(N:Nat) (x:X),I x-> μ x<N->Q (Ap B N x kx):=by
  intro N
  induction N with
  | zero=>intro x _ h;omega
  | succ N ih=>intro x hI hm;exact h x hI _ (fun x' hI' hm'=>ih x' hI' (by omega))
def mZ {E S ρ :Type} (step:E->S->(S->Option ρ)->Option ρ) (fin:S->Option ρ):List E->S->Option ρ
  | [],s=>fin s
  | e::r,s=>step e s (fun s'=>mZ step fin r s')
theorem Ahv {X Y S E ρ :Type} {B:X->(X->Option ρ)->(Y->Option ρ)->Option ρ} {kx:Y->Option ρ} (mk:Int->S->X) (l:List E) (d:E) (step:E->S->(S->Option ρ)->Option ρ) (fin:S->Option ρ)
    (h: ∀(i:Nat) (s:S) (k:X->Option ρ),i<l.length->B (mk (i:Int) s) k kx=step (l.getD i d) s (fun s'=>k (mk ((i:Int)+1) s')))
    (hend: ∀(s:S) (k:X->Option ρ),B (mk (l.length:Int) s) k kx=fin s) (N:Nat) (s:S) (hN:l.length<N):Ap B N (mk 0 s) kx=mZ step fin l s:=by
  have key: ∀(n i:Nat) (s:S),i<=l.length->l.length - i<n->Ap B n (mk (i:Int) s) kx=mZ step fin (l.drop i) s:=by
    intro n
    induction n with
    | zero=>intro i s _ h;omega
    | succ n ih =>
      intro i s hi hn
      rw[Yl]
      by_cases hl:i<l.length
      ·rw[h i s _ hl,List.drop_eq_getElem_cons hl]
       show _=step l[i] s (fun s'=>mZ step fin (l.drop (i+1)) s')
       rw[show l.getD i d=l[i] by simp [List.getD_eq_getElem?_getD,hl]]
       congr 1
       funext s'
       exact ih (i+1) s' (by omega) (by omega)
      ·have:i=l.length:=by omega
       rw[this,hend,List.drop_length];rfl
  exact key N 0 s (by omega) (by omega)
def Bq {E:Type} (f:E->Int):List E->Int
  | []=>0
  | e::r=>if f e≠0 then f e else Bq f r
set_option linter.defProp false in
def clR:=And.intro @Agm (And.intro @Bool.cond_true_left (And.intro @Bool.cond_false_left (And.intro @Bool.cond_true_right (And.intro @Bool.cond_false_right (And.intro @Bool.or_not_self (And.intro @Bool.not_or_self (And.intro @Bool.not_not (And.intro @Ai (And.intro @Bool.or_true (And.intro @Bool.true_or (And.intro @Bool.or_self (@Bool.cond_self.{1}))))))))))))
theorem Ic (c:UInt8):c.toNat<256:=UInt8.toNat_lt c
theorem getD_lt {α :Type} (l:List α) (i:Nat) (d: α) (h:i<l.length):l.getD i d=l[i]:=by rw[List.getD_eq_getElem?_getD,List.getElem?_eq_getElem h];rfl
theorem AfV {α :Type} {p: α ->Bool} {l:List α} (h:l.all p=true) {i:Nat} (hi:i<l.length):p l[i]=true:=List.all_eq_true.1 h _ (List.getElem_mem hi)
def Iu {E S ρ :Type} (step:E->S->Option ρ ⊕ S) (fin:S->Option ρ):List E->S->Option ρ
  | [],s=>fin s
  | e::r,s=>match step e s with
    | .inl x=>x
    | .inr s'=>Iu step fin r s'
def lS {X S ρ :Type} (b:(X->Option ρ)->Option ρ) (nx:S->X) (I:S->Prop):Option ρ ⊕ S->Prop
  | .inl x=> ∀ k,b k=x
  | .inr s'=>(∀ k,b k=k (nx s'))/\I s'
theorem RF {X Y S E ρ :Type} {B:X->(X->Option ρ)->(Y->Option ρ)->Option ρ} {kx:Y->Option ρ} (mk:Int->S->X) (l:List E) (d:E) (I:Nat->S->Prop) (step:E->S->Option ρ ⊕ S) (fin:S->Option ρ)
    (h: ∀(i:Nat) (s:S),i<l.length->I i s->lS (fun k=>B (mk (i:Int) s) k kx) (mk ((i:Int)+1)) (I (i+1)) (step (l.getD i d) s))
    (hend: ∀(s:S) (k:X->Option ρ),I l.length s->B (mk (l.length:Int) s) k kx=fin s) (N:Nat) (s:S) (h0:I 0 s) (hN:l.length<N):Ap B N (mk 0 s) kx=Iu step fin l s:=by
  have key: ∀(n i:Nat) (s:S),I i s->i<=l.length->l.length - i<n->Ap B n (mk (i:Int) s) kx=Iu step fin (l.drop i) s:=by
    intro n
    induction n with
    | zero=>intro i s _ _ h;omega
    | succ n ih =>
      intro i s hI hi hn
      rw[Yl]
      by_cases hl:i<l.length
      ·have h1:=h i s hl hI
       rw[List.drop_eq_getElem_cons hl]
       show _=(match step l[i] s with | .inl x=>x | .inr s'=>Iu step fin (l.drop (i+1)) s')
       rw[show l.getD i d=l[i] by simp [List.getD_eq_getElem?_getD,hl]]at h1
       cases hs:step l[i] s with
       | inl x=>rw[hs]at h1;exact h1 _
       | inr s' =>
         rw[hs]at h1
         obtain⟨h2,h3⟩:=h1
         exact(h2 _).trans (ih (i+1) _ h3 (by omega) (by omega))
      ·have:i=l.length:=by omega
       subst this
       rw[hend s _ hI,List.drop_length];rfl
  exact key N 0 s h0 (by omega) (by omega)
theorem DY {X Y S E ρ :Type} {B:X->(X->Option ρ)->(Y->Option ρ)->Option ρ} {kx:Y->Option ρ} (mk:Int->S->X) (out:S->Y) (l:List E) (d:E) (I:Nat->S->Prop) (step:E->S->Option ρ ⊕ S)
    (h: ∀(i:Nat) (s:S),i<l.length->I i s->lS (fun k=>B (mk (i:Int) s) k kx) (mk ((i:Int)+1)) (I (i+1)) (step (l.getD i d) s))
    (hend: ∀(s:S) (k:X->Option ρ),I l.length s->B (mk (l.length:Int) s) k kx=kx (out s)) (N:Nat) (s:S) (h0:I 0 s) (hN:l.length<N):Ap B N (mk 0 s) kx=Iu step (fun s=>kx (out s)) l s :=
  RF mk l d I step _ h hend N s h0 hN
def Gf {α β :Type} (f: α ->Option β):List α ->Option (List β)
  | []=>some []
  | a::r=>match f a,Gf f r with
    | some b,some t=>some (b::t)
    | _,_=>none
def Rk {E β S ρ :Type} (f:E->Option β) (g:S-> β ->S) (bad:Option ρ) (e:E) (s:S):Option ρ ⊕ S:=(f e).elim (.inl bad) (fun b=>.inr (g s b))
theorem Aff {X E β S ρ :Type} {f:E->Option β} {g:S-> β ->S} {bad:Option ρ} {e:E} {s:S} {b:(X->Option ρ)->Option ρ} {nx:S->X} {I:S->Prop} (h1:f e=none-> ∀ k,b k=bad) (h2: ∀ v,f e=some v->(∀ k,b k=k (nx (g s v)))/\I (g s v)):lS b nx I (Rk f g bad e s):=by
  unfold Rk
  cases h:f e with
  | none=>exact h1 h
  | some v=>exact h2 v h
theorem zH {E β S ρ :Type} (f:E->Option β) (g:S-> β ->S) (bad:Option ρ) (fin:S->Option ρ): ∀(l:List E) (s:S),Iu (Rk f g bad) fin l s=(Gf f l).elim bad (fun bs=>fin (bs.foldl g s)):=by
  intro l
  induction l with
  | nil=>intro s;rfl
  | cons e r ih =>
    intro s
    have h1:Rk f g bad e s=(f e).elim (.inl bad) (fun b=>.inr (g s b)):=rfl
    unfold Iu Gf
    rw[h1]
    cases f e with
    | none=>rfl
    | some b =>
      show Iu (Rk f g bad) fin r (g s b)=_
      rw[ih]
      cases Gf f r<;>rfl
theorem Abz {α β :Type} (h: α -> β): ∀(l:List α) (a:List β),l.foldl (fun a x=>a++[h x]) a=a++l.map h:=by
  intro l
  induction l with
  | nil=>intro a;simp
  | cons x r ih=>intro a;rw[List.foldl_cons,ih];simp
theorem tY {α β :Type} {f: α ->Option β}: ∀ {l:List α} {r:List β},Gf f l=some r->r.length=l.length:=by
  intro l
  induction l with
  | nil=>intro r h;injection h with h;subst h;rfl
  | cons a t ih =>
    intro r h
    unfold Gf at h
    split at h
    ·rename_i b q h1 h2
     injection h with h;subst h
     simp [ih h2]
    ·cases h
def Bf (c:UInt8):Bs->List Bs
  | []=>[[]]
  | b::r=>if b=c then []::Bf c r else match Bf c r with
    | []=>[[b]]
    | h::t=>(b::h)::t
theorem AbS (c:UInt8) (s:Bs):Bf c s≠ []:=by
  cases s with
  | nil=>simp [Bf]
  | cons b r =>
    unfold Bf
    split
    ·simp
    ·split<;>simp
theorem Rj (c b:UInt8) (r:Bs) (h:b≠c):Bf c (b::r)=(b::(Bf c r).headD [])::(Bf c r).tail:=by
  have hn:=AbS c r
  show(if b=c then _ else _)=_
  rw[if_neg h]
  cases hs:Bf c r with
  | nil=>exact absurd hs hn
  | cons x t=>rfl
theorem I8 (c:UInt8): ∀(a r:Bs),c∉a->Bf c (a++c::r)=a::Bf c r:=by
  intro a
  induction a with
  | nil =>
    intro r _
    show(if c=c then _ else _)=_
    rw[if_pos rfl]
  | cons b a ih =>
    intro r h
    have hb:b≠c:=fun e=>h (by rw[e];exact List.mem_cons_self)
    have:=ih r (fun hm=>h (List.mem_cons_of_mem _ hm))
    show Bf c (b::(a++c::r))=_
    rw[Rj _ _ _ hb,this]
    rfl
theorem Na (c:UInt8): ∀ a:Bs,c∉a->Bf c a=[a]:=by
  intro a
  induction a with
  | nil=>intro _;rfl
  | cons b a ih =>
    intro h
    have hb:b≠c:=fun e=>h (by rw[e];exact List.mem_cons_self)
    rw[Rj _ _ _ hb,ih (fun hm=>h (List.mem_cons_of_mem _ hm))]
    rfl
theorem index_none (c:UInt8): ∀ s:Bs,c∉s->Lib.index s [c]= -1:=by
  intro s
  induction s with
  | nil=>intro _;rfl
  | cons b r ih =>
    intro h
    have hb: ¬ c=b:=fun e=>h (by rw[e];exact List.mem_cons_self)
    have h2:=ih (fun hm=>h (List.mem_cons_of_mem _ hm))
    show(if List.isPrefixOf [c] (b::r)=true then(0:Int)else if Lib.index r [c]== -1 then -1 else Lib.index r [c]+1)= -1
    rw[h2,if_neg (by simp [List.isPrefixOf,hb])]
    rfl
theorem sU (c:UInt8): ∀(a r:Bs),c∉a->Lib.index (a++c::r) [c]=(a.length:Int):=by
  intro a
  induction a with
  | nil =>
    intro r _
    show(if List.isPrefixOf [c] (c::r)=true then(0:Int)else _)=_
    rw[if_pos (by simp [List.isPrefixOf])]
    rfl
  | cons b a ih =>
    intro r h
    have hb: ¬ c=b:=fun e=>h (by rw[e];exact List.mem_cons_self)
    have h2:=ih r (fun hm=>h (List.mem_cons_of_mem _ hm))
    show(if List.isPrefixOf [c] (b::(a++c::r))=true then(0:Int)else if Lib.index (a++c::r) [c]== -1 then -1 else Lib.index (a++c::r) [c]+1)=_
    rw[h2,if_neg (by simp [List.isPrefixOf,hb]),if_neg (by simp)]
    simp
theorem Rt (c:UInt8) (s:Bs):c∉s\/ ∃ a r,s=a++c::r/\c∉a:=by
  induction s with
  | nil=>left;simp
  | cons b t ih =>
    by_cases hb:b=c
    ·right;exact⟨[],t,by rw[hb];rfl,by simp⟩
    ·rcases ih with h | ⟨a,r,h1,h2⟩
     ·left
      intro hm
      rcases List.mem_cons.1 hm with h3 | h3
      ·exact hb h3.symm
      ·exact h h3
     ·right
      refine⟨b::a,r,by rw[h1];rfl,fun hm=> ?_⟩
      rcases List.mem_cons.1 hm with h3 | h3
      ·exact hb h3.symm
      ·exact h2 h3
theorem Aj8 (c:UInt8): ∀(n:Nat) (s:Bs),s.length<=n->Lib.splitK [c] 0 (Lib.count s [c]) s=Bf c s:=by
  intro n
  induction n with
  | zero =>
    intro s h
    have:s=[]:=List.eq_nil_of_length_eq_zero (by omega)
    subst this
    rfl
  | succ n ih =>
    intro s h
    rcases Rt c s with hn | ⟨a,r,rfl,ha⟩
    ·rw[Lib.count_miss (index_none c s hn),Na c s hn];rfl
    ·have hi:=sU c a r ha
     rw[Lib.count_hit (by simp) hi,Nat.add_comm]
     show(if Lib.index (a++c::r) [c]== -1 then _ else _)=_
     rw[hi,if_neg (by simp),I8 c a r ha]
     have e1:(a++c::r).take ((a.length:Int).toNat+0)=a:=by simp
     have e2:(a++c::r).drop ((a.length:Int).toNat+ [c].length)=r:=by
       rw[show((a.length:Int).toNat+ [c].length)=a.length+1 from by simp]
       rw[<- List.drop_drop,List.drop_left]
       rfl
     have e3:(a++c::r).drop (a.length+ [c].length)=r:=by
       rw[show(a.length+ [c].length)=a.length+1 from by simp,<- List.drop_drop,List.drop_left]
       rfl
     rw[e1,e2,e3,ih r (by simp at h;omega)]
theorem Afd (c:UInt8) (s:Bs):Lib.split s [c]=Bf c s:=Aj8 c s.length s (Nat.le_refl _)
theorem PX (c:UInt8): ∀ s:Bs,(Bf c s).length<=s.length+1/\0<(Bf c s).length/\ ∀ x∈Bf c s,x.length<=s.length:=by
  intro s
  induction s with
  | nil=>exact⟨by simp [Bf],by simp [Bf],by intro x hx;simp [Bf]at hx;simp [hx]⟩
  | cons b r ih =>
    obtain⟨h1,h2,h3⟩:=ih
    by_cases hb:b=c
    ·have e:Bf c (b::r)=[]::Bf c r:=by show(if b=c then _ else _)=_;rw[if_pos hb]
     rw[e]
     refine⟨by simp;omega,by simp,fun x hx=> ?_⟩
     rcases List.mem_cons.1 hx with rfl | hx
     ·simp
     ·have:=h3 x hx;simp;omega
    ·rw[Rj _ _ _ hb]
     cases hs:Bf c r with
     | nil=>rw[hs]at h2;simp at h2
     | cons y t =>
       rw[hs]at h1 h3
       refine⟨by simp at h1 ⊢;omega,by simp,fun x hx=> ?_⟩
       rcases List.mem_cons.1 hx with rfl | hx
       ·have:=h3 y List.mem_cons_self;simp;omega
       ·have:=h3 x (List.mem_cons_of_mem _ hx);simp;omega
end Go.Proofs.YtadefjgbcapakaaGreatDoor.Vm
namespace Go.Proofs.YtadefjgbcapakaaGreatDoor.Pl
open IntKind (i64)
open Go Vm
def CO (c:UInt8):Bool:=decide (48<=c.toNat)&&decide (c.toNat<=57)
def Es (d:Bs):Nat:=d.foldl (fun v c=>10*v+(c.toNat - 48)) 0
theorem iE (d:Bs) (c:UInt8):Es (d++[c])=10*Es d+(c.toNat - 48):=by simp [Es,List.foldl_append]
theorem Akg: ∀(d:Bs) (v k:Nat),d.all CO=true->v<10 ^ k->d.foldl (fun v c=>10*v+(c.toNat - 48)) v<10 ^ (k+d.length):=by
  intro d
  induction d with
  | nil=>intro v k _ h;exact h
  | cons c d ih =>
    intro v k h hv
    rw[List.all_cons,Bool.and_eq_true]at h
    have h2:=h.1
    unfold CO at h2
    simp only[Bool.and_eq_true,decide_eq_true_eq]at h2
    have:=ih (10*v+(c.toNat - 48)) (k+1) h.2 (by rw[Nat.pow_succ];omega)
    rw[List.length_cons,show k+(d.length+1)=k+1+d.length by omega]
    exact this
theorem Agc (d:Bs) (h:d.all CO=true):Es d<10 ^ d.length:=by
  have:=Akg d 0 0 h (by decide)
  rwa [Nat.zero_add]at this
def vN (d:Bs):Bool:= !(decide (d.length=0)||decide (10<d.length)||(decide ((d.getD 0 0).toNat=48)&&decide (1<d.length)))&&(d.all CO&&decide (Es d<=2147483647))
def Ig (d:Bs):Option Nat:=if vN d then some (Es d)else none
def AhI:Option Nat->Int
  | none=> -1
  | some n=>n
theorem AdQ {c:Nat} (h1:48<=c) (h2:c<=57):i64.wrap (IntKind.u8.wrap ((c:Int) - 48))=((c - 48:Nat):Int):=by
  rw[w8,w64 (by omega) (by omega)];omega
theorem AjS {ρ :Type} (N:Nat) (s:Bs) (hs:s.length<=10) (hN:10<N) (bad:Option ρ) (fin:Int->Option ρ) :
    Ap (X:=Int×Int) (Y:=Int) (U2 fun t3a t4a k7 x8 =>
     bif decide (t4a<(s.length:Int))then Vm.chk (decide ((0:Int)<=t4a)) (Vm.chk (decide (t4a<(s.length:Int)))
       (Vm.chk (decide ((0:Int)<=t4a)||decide (((s.getD t4a.toNat 0).toNat:Int)<(48:Int)))
         (Vm.chk (decide (t4a<(s.length:Int))||decide (((s.getD t4a.toNat 0).toNat:Int)<(48:Int)))
           (bif decide (((s.getD t4a.toNat 0).toNat:Int)<(48:Int))||decide (((s.getD t4a.toNat 0).toNat:Int)>(57:Int))then bad
            else Vm.chk (decide ((0:Int)<=t4a)) (Vm.chk (decide (t4a<(s.length:Int)))
             (k7 (i64.wrap ((i64.wrap ((10:Int)*t3a))+i64.wrap (IntKind.u8.wrap (((s.getD t4a.toNat 0).toNat:Int) - (48:Int)))),i64.wrap (t4a+(1:Int)))))))))
     else x8 t3a) N (0,0) fin=if s.all CO=true then fin ((Es s:Nat):Int)else bad:=by
  refine DI (I:=fun x=> ∃ i:Nat,x=(((Es (s.take i):Nat):Int),(i:Int))/\i<=s.length/\(s.take i).all CO=true) (μ :=fun x=>s.length - x.2.toNat) (fun _=>if s.all CO=true then fin ((Es s:Nat):Int)else bad) ?_ N (0,0) ⟨0,rfl,by omega,rfl⟩ (by show s.length - 0<N;omega)
  rintro x ⟨i,rfl,hi,hd⟩ k hk
  show(bif decide ((i:Int)<(s.length:Int))then _ else _)=_
  by_cases hl:i<s.length
  ·have hv:=Agc (s.take i) hd
   have h10:(10:Nat) ^ (s.take i).length<=10 ^ 9:=Nat.pow_le_pow_right (by decide) (by simp;omega)
   have hg:s.getD ((i:Int)).toNat 0=s[i]:=getD_lt s i 0 hl
   rw[decide_eq_true (by omega),cond_true,hg,decide_eq_true (show(0:Int)<=(i:Int) by omega)]
   simp only[Bool.true_or,Ai]
   have htake:s.take (i+1)=s.take i++[s[i]]:=by rw[List.take_add_one,List.getElem?_eq_getElem hl];rfl
   by_cases hc:CO s[i]=true
   ·have hc':=hc
    unfold CO at hc'
    simp only[Bool.and_eq_true,decide_eq_true_eq]at hc'
    rw[decide_eq_false (by omega),decide_eq_false (by omega)]
    simp only[Bool.or_self,cond_false]
    rw[AdQ hc'.1 hc'.2,w64 (x:=(10:Int)*((Es (s.take i):Nat):Int)) (by omega) (by omega),w64 (x:=(10:Int)*((Es (s.take i):Nat):Int)+_) (by omega) (by omega),w64 (x:=(i:Int)+1) (by omega) (by omega)]
    refine hk _ ⟨i+1,?_,by omega,by rw[htake,List.all_append,hd];simpa using hc⟩ (by show s.length - ((i:Int)+1).toNat<s.length - ((i:Int)).toNat;omega)
    rw[htake,iE]
    push_cast
    rfl
   ·have hall: ¬(s.all CO=true):=fun h=>hc (AfV h hl)
    rw[if_neg hall]
    have:(decide (((s[i].toNat:Nat):Int)<48)||decide (((s[i].toNat:Nat):Int)>57))=true:=by
      unfold CO at hc
      simp only[Bool.and_eq_true,decide_eq_true_eq]at hc
      simp only[Bool.or_eq_true,decide_eq_true_eq]
      omega
    rw[this,cond_true]
  ·have:i=s.length:=by omega
   subst this
   rw[decide_eq_false (by omega),cond_false]
   rw[List.take_length]at hd
   rw[if_pos hd,List.take_length]
theorem AhC (N:Nat) (s:Bs) (hN:16<N):Yv N s=some (AhI (Ig s)):=by
  unfold Yv
  try simp only[clR]
  by_cases h0:s.length=0
  ·have:s=[]:=List.eq_nil_of_length_eq_zero h0
   subst this
   rfl
  ·have hne:(s==([]:Bs))=false:=by cases s with | nil=>exact absurd rfl h0 | cons _ _=>rfl
   rw[hne,decide_eq_true (show(0:Int)<(s.length:Int) by omega)]
   simp only[Bool.false_or,Bool.true_or,Ai]
   unfold Ig vN
   by_cases h1:10<s.length
   ·rw[decide_eq_true (show(s.length:Int)>10 by omega),decide_eq_true h1]
    simp [Ai,AhI]
   ·rw[decide_eq_false (show ¬((s.length:Int)>10) by omega),decide_eq_false h1,decide_eq_false h0]
    simp only[Bool.or_false,Bool.false_or,Bool.not_false,Bool.true_and,Bool.not_or_self,Ai]
    by_cases h2:(s.getD 0 0).toNat=48/\1<s.length
    ·rw[show(((s.getD 0 0).toNat:Int)==48)=true from by rw[beq_iff_eq];omega,decide_eq_true (show(s.length:Int)>1 by omega),decide_eq_true h2.1,decide_eq_true h2.2]
     rfl
    ·have e:((((s.getD 0 0).toNat:Int)==48)&&decide ((s.length:Int)>1))=false:=by
       rw[Bool.and_eq_false_iff]
       simp only[beq_eq_false_iff_ne,decide_eq_false_iff_not]
       omega
     have e':(decide ((s.getD 0 0).toNat=48)&&decide (1<s.length))=false:=by
       rw[Bool.and_eq_false_iff]
       simp only[decide_eq_false_iff_not]
       omega
     rw[e,e',cond_false]
     refine Eq.trans (AjS N s (by omega) (by omega) _ _) ?_
     by_cases h3:s.all CO=true
     ·rw[if_pos h3,h3]
      by_cases h4:Es s<=2147483647
      ·rw[decide_eq_false (by omega),decide_eq_true h4];rfl
      ·rw[decide_eq_true (by omega),decide_eq_false h4];rfl
     ·rw[if_neg h3,show s.all CO=false by simpa using h3];rfl
def KN (l:List Nat):Bool:=(decide (l.getD 0 0<=1)&&decide (l.getD 1 0<=39))||decide (l.getD 0 0=2)
def Dt (s:Bs):Option (List Nat) :=
  if(Bf 46 s).length<2\/12<(Bf 46 s).length then none
  else match Gf Ig (Bf 46 s)with
    | none=>none
    | some l=>if KN l=true then some l else none
def ints (l:List Nat):List Int:=l.map fun(n:Nat)=>(n:Int)
def Anb:Option (List Nat)->List Int
  | none=>[]
  | some l=>ints l
theorem AlE {s:Bs} {n:Nat} (h:Ig s=some n):n<=2147483647:=by
  unfold Ig at h
  split at h
  ·rename_i hk
   injection h with h
   unfold vN at hk
   simp only[Bool.and_eq_true,decide_eq_true_eq]at hk
   omega
  ·cases h
theorem Ak9 {α β :Type} {f: α ->Option β}: ∀ {l:List α} {r:List β},Gf f l=some r-> ∀ b∈r,∃ a∈l,f a=some b:=by
  intro l
  induction l with
  | nil=>intro r h b hb;injection h with h;subst h;cases hb
  | cons a t ih =>
    intro r h b hb
    unfold Gf at h
    split at h
    ·rename_i x q h1 h2
     injection h with h;subst h
     rcases List.mem_cons.1 hb with rfl | hb
     ·exact⟨a,List.mem_cons_self,h1⟩
     ·obtain⟨y,h3,h4⟩:=ih h2 b hb
      exact⟨y,List.mem_cons_of_mem _ h3,h4⟩
    ·cases h
theorem AfE (N:Nat) (a b:Nat):ZI N (a:Int) (b:Int)=some ((decide (a<=1)&&decide (b<=39))||decide (a=2)):=by
  unfold ZI
  try simp only[clR]
  have e1:decide ((a:Int)<=1)=decide (a<=1):=by rw[decide_eq_decide];omega
  have e2:decide ((b:Int)<=39)=decide (b<=39):=by rw[decide_eq_decide];omega
  have e3:((a:Int)==2)=decide (a=2):=by rw[Bool.eq_iff_iff,beq_iff_eq,decide_eq_true_eq];omega
  rw[e1,e2,e3]
theorem qI (N:Nat) (s:Bs) (hN:16<N) (hs:s.length<=1048576):Vg N s=some (Anb (Dt s)):=by
  unfold Vg
  try simp only[clR]
  have hsp:strings_Split N s [46]=some (Bf 46 s):=by
    unfold strings_Split
    rw[decide_eq_true (by omega),Afd];rfl
  rw[hsp,Ae]
  unfold Dt
  have hlen:=PX 46 s
  generalize hp:Bf 46 s=p at hlen ⊢
  by_cases h1:p.length<2\/12<p.length
  ·rw[if_pos h1,show(decide ((p.length:Int)<2)||decide ((p.length:Int)>12))=true by simp only[Bool.or_eq_true,decide_eq_true_eq];omega]
   rfl
  ·rw[if_neg h1,show(decide ((p.length:Int)<2)||decide ((p.length:Int)>12))=false by simp only[Bool.or_eq_false_iff,decide_eq_false_iff_not];omega,cond_false]
   refine Eq.trans (DY (S:=List Int) (mk:=fun i a=>(i,a)) (out:=fun a=>a) p [] (fun i a=>a.length=i) (Rk Ig (fun a v=>a++[(v:Int)]) (some [])) ?_ ?_ N [] rfl (by omega)) ?_
   ·intro i a hi ha
    have hg:p.getD ((i:Int)).toNat []=p[i]:=getD_lt p i [] hi
    rw[getD_lt p i [] hi]
    have key: ∀(K:Int->Option (List Int)),(Vm.chk (decide ((0:Int)<=(i:Int))) (Vm.chk (decide ((i:Int)<(p.length:Int))) (Ac (Yv N (p.getD ((i:Int)).toNat [])) K)))=K (AhI (Ig p[i])):=by
      intro K
      rw[decide_eq_true (show(0:Int)<=(i:Int) by omega),decide_eq_true (show(i:Int)<(p.length:Int) by omega),Ai,Ai,hg,AhC N _ hN,Ae]
    refine Aff (fun hv k=> ?_) (fun v hv=>⟨fun k=> ?_,by simp [ha]⟩)
    ·dsimp only[U2]
     rw[key,hv,decide_eq_true (show(i:Int)<(p.length:Int) by omega)]
     rfl
    ·dsimp only[U2]
     rw[key,hv,decide_eq_true (show(i:Int)<(p.length:Int) by omega),cond_true]
     rw[show AhI (some v)=(v:Int)from rfl,decide_eq_false (show ¬((v:Int)<0) by omega),cond_false,decide_eq_true (show(a.length+1)*9<=140737488355328 by omega),Ai,w64 (by omega) (by omega)]
   ·intro a k ha
    dsimp only[U2]
    rw[decide_eq_false (by omega),cond_false]
   ·rw[zH]
    cases hm:Gf Ig p with
    | none=>rfl
    | some l =>
      have hl:=tY hm
      have hf:l.foldl (fun(a:List Int) (v:Nat)=>a++[(v:Int)]) []=l.map (fun(v:Nat)=>(v:Int)):=by rw[Abz,List.nil_append]
      dsimp only[Option.elim]
      rw[hf]
      have e1:(l.map (fun(v:Nat)=>(v:Int))).length=l.length:=List.length_map ..
      rw[e1,decide_eq_true (show(0:Int)<(l.length:Int) by omega),decide_eq_true (show 0<l.length by omega),decide_eq_true (show(1:Int)<(l.length:Int) by omega),decide_eq_true (show 1<l.length by omega)]
      simp only[Ai]
      have g0:(l.map (fun(v:Nat)=>(v:Int))).getD 0 0=((l.getD 0 0:Nat):Int):=by
        rw[getD_lt _ 0 0 (by rw[e1];omega),getD_lt _ 0 0 (by omega)];simp
      have g1:(l.map (fun(v:Nat)=>(v:Int))).getD 1 0=((l.getD 1 0:Nat):Int):=by
        rw[getD_lt _ 1 0 (by rw[e1];omega),getD_lt _ 1 0 (by omega)];simp
      rw[g0,g1,AfE,Ae]
      show(bif !(KN l)then _ else _)=_
      cases KN l<;>rfl
def Xm (cur:Bs) (out:List Nat):Option (List Nat):=if out.length=12 then none else(Ig cur).map fun v=>out++[v]
def JQ:Bs->List Nat->Bs->Option (List Nat)
  | cur,out,[]=>Xm cur out
  | cur,out,c::r=>if c=46 then(Xm cur out).bind fun o=>JQ [] o r else if CO c=true then JQ (cur++[c]) out r else none
theorem AbP (cur:Bs) (out:List Nat) (r:Bs):JQ cur out (46::r)=(Xm cur out).bind fun o=>JQ [] o r:=if_pos rfl
theorem AbN (cur:Bs) (out:List Nat) (c:UInt8) (r:Bs) (h1:c≠46) (h2: ¬ CO c=true):JQ cur out (c::r)=none:=by
  show(if c=46 then _ else if CO c=true then _ else _)=_
  rw[if_neg h1,if_neg h2]
theorem AbO (cur:Bs) (out:List Nat) (c:UInt8) (r:Bs) (h1:c≠46) (h2:CO c=true):JQ cur out (c::r)=JQ (cur++[c]) out r:=by
  show(if c=46 then _ else if CO c=true then _ else _)=_
  rw[if_neg h1,if_pos h2]
def NJ (l:List Nat):Option (List Nat):=if 2<=l.length/\KN l=true then some l else none
def lH:Option (List Nat)->List Int×Bool
  | none=>([],false)
  | some l=>(ints l,true)
theorem AfH {ρ :Type} (N:Nat) (d:Bs) (out:List Int) (hs:d.length<=10) (hd:d.all CO=true) (hN:10<N) (fin:Int×List Int->Option ρ) :
    Ap (X:=Int×Int×List Int) (Y:=Int×List Int) (U3 fun t8b t9b l1004096b k11 x12 =>
     bif decide (t9b<(d.length:Int))then Vm.chk (decide (0<=t9b)) (Vm.chk (decide (t9b<(d.length:Int)))
       (k11 (i64.wrap (i64.wrap (10*t8b)+i64.wrap (IntKind.u8.wrap (((d.getD t9b.toNat 0).toNat:Int) - 48))),i64.wrap (t9b+1),l1004096b)))
     else x12 (t8b,l1004096b)) N (0,0,out) fin=fin ((Es d:Nat),out):=by
  refine DI (I:=fun x=> ∃ i:Nat,x=(((Es (d.take i):Nat):Int),(i:Int),out)/\i<=d.length) (μ :=fun x=>d.length - x.2.1.toNat) (fun _=>fin ((Es d:Nat),out)) ?_ N (0,0,out) ⟨0,rfl,by omega⟩ (by show d.length - 0<N;omega)
  rintro x ⟨i,rfl,hi⟩ k hk
  dsimp only[U3]
  by_cases hl:i<d.length
  ·have hdi:(d.take i).all CO=true:=List.all_eq_true.2 fun x hx=>List.all_eq_true.1 hd x (List.mem_of_mem_take hx)
   have hv:=Agc (d.take i) hdi
   have h10:(10:Nat) ^ (d.take i).length<=10 ^ 9:=Nat.pow_le_pow_right (by decide) (by simp;omega)
   have hg:d.getD ((i:Int)).toNat 0=d[i]:=getD_lt d i 0 hl
   have htake:d.take (i+1)=d.take i++[d[i]]:=by rw[List.take_add_one,List.getElem?_eq_getElem hl];rfl
   have hc:=AfV hd hl
   unfold CO at hc
   simp only[Bool.and_eq_true,decide_eq_true_eq]at hc
   rw[decide_eq_true (by omega),cond_true,hg,decide_eq_true (show(0:Int)<=(i:Int) by omega),Ai,Ai]
   rw[AdQ hc.1 hc.2,w64 (x:=(10:Int)*((Es (d.take i):Nat):Int)) (by omega) (by omega),w64 (x:=(10:Int)*((Es (d.take i):Nat):Int)+_) (by omega) (by omega),w64 (x:=(i:Int)+1) (by omega) (by omega)]
   refine hk _ ⟨i+1,?_,by omega⟩ (by show d.length - ((i:Int)+1).toNat<d.length - ((i:Int)).toNat;omega)
   rw[htake,iE]
   push_cast
   rfl
  ·have:i=d.length:=by omega
   subst this
   rw[decide_eq_false (by omega),cond_false,List.take_length]
theorem AdA {d:Bs} (hd:d.all CO=true):Ig d=if d.length=0\/10<d.length\/((d.getD 0 0).toNat=48/\1<d.length)\/2147483647<Es d then none else some (Es d):=by
  unfold Ig vN
  rw[hd]
  by_cases h:d.length=0\/10<d.length\/((d.getD 0 0).toNat=48/\1<d.length)\/2147483647<Es d
  ·rw[if_pos h,if_neg]
   simp only[Bool.and_eq_true,Bool.not_eq_true',Bool.or_eq_false_iff,decide_eq_false_iff_not,Bool.and_eq_false_iff,decide_eq_true_eq]
   omega
  ·rw[if_neg h,if_pos]
   have h1:d.length≠0:=by omega
   have h2: ¬ 10<d.length:=by omega
   have h3:Es d<=2147483647:=by omega
   have h4:(decide ((d.getD 0 0).toNat=48)&&decide (1<d.length))=false:=by
     rw[Bool.and_eq_false_iff,decide_eq_false_iff_not,decide_eq_false_iff_not];omega
   rw[decide_eq_false h1,decide_eq_false h2,decide_eq_true h3,h4];rfl
theorem AlP {d:Bs} (o:List Nat) (hd:d.all CO=true):Xm d o=if(d.length=0\/10<d.length\/((d.getD 0 0).toNat=48/\1<d.length))\/o.length=12\/2147483647<Es d then none else some (o++[Es d]):=by
  unfold Xm
  rw[AdA hd]
  by_cases h1:o.length=12
  ·rw[if_pos h1,if_pos (.inr (.inl h1))]
  ·rw[if_neg h1]
   by_cases h2:d.length=0\/10<d.length\/((d.getD 0 0).toNat=48/\1<d.length)\/2147483647<Es d
   ·rw[if_pos h2,if_pos (by omega)];rfl
   ·rw[if_neg h2,if_neg (by omega)];rfl
theorem iC (s:Bs) {a j:Nat} (ha:a<=j) (hj:j<s.length):Ar s a (j+1)=Ar s a j++[s[j]]:=by
  unfold Ar
  rw[List.take_add_one,List.getElem?_eq_getElem hj,List.drop_append_of_le_length (by simp;omega)]
  rfl
theorem Oj {α :Type} (s:List α) (a:Nat):Ar s a a=[]:=by
  unfold Ar
  exact List.drop_eq_nil_of_le (by simp;omega)
theorem AiZ (o:List Nat) (v:Nat):ints o++[(v:Int)]=ints (o++[v]):=by simp [ints]
theorem BQ (o:List Nat):(ints o).length=o.length:=List.length_map ..
theorem Amj (o:List Nat):(Vm.chk (decide (0<((ints o).length:Int))||decide (((ints o).length:Int)<2))
        (Vm.chk (decide (0<(ints o).length)||decide (((ints o).length:Int)<2))
          (Vm.chk (decide (0<((ints o).length:Int))||(decide (((ints o).length:Int)<2)||decide ((ints o).getD 0 0>2)))
            (Vm.chk (decide (0<(ints o).length)||(decide (((ints o).length:Int)<2)||decide ((ints o).getD 0 0>2)))
              (Vm.chk (decide (1<((ints o).length:Int))|| !(!(decide (((ints o).length:Int)<2)||decide ((ints o).getD 0 0>2))&&decide ((ints o).getD 0 0<2)))
                (Vm.chk (decide (1<(ints o).length)|| !(!(decide (((ints o).length:Int)<2)||decide ((ints o).getD 0 0>2))&&decide ((ints o).getD 0 0<2)))
                  (Vm.chk (!decide ((ints o).getD 0 0<2)|| !(decide (((ints o).length:Int)<2)||decide ((ints o).getD 0 0>2))&&decide ((ints o).getD 0 0<2)||(decide (((ints o).length:Int)<2)||decide ((ints o).getD 0 0>2)))
                    (bif decide (((ints o).length:Int)<2)||decide ((ints o).getD 0 0>2)||decide ((ints o).getD 0 0<2)&&decide ((ints o).getD 1 0>39)then some (([]:List Int),false)else some (ints o,true)))))))))=some (lH (NJ o)):=by
  by_cases h:o.length<2
  ·have e:NJ o=none:=if_neg (by omega)
   rw[e,BQ,decide_eq_true (show(o.length:Int)<2 by omega)]
   simp [Ai,lH]
  ·match o,h with
   | a::b::r,_ =>
     have e0:(ints (a::b::r)).getD 0 0=(a:Int):=rfl
     have e1:(ints (a::b::r)).getD 1 0=(b:Int):=rfl
     have e2:(ints (a::b::r)).length=r.length+2:=by rw[BQ];rfl
     rw[e0,e1,e2,decide_eq_true (show(0:Int)<((r.length+2:Nat):Int) by omega),decide_eq_true (show 0<r.length+2 by omega),decide_eq_true (show(1:Int)<((r.length+2:Nat):Int) by omega),decide_eq_true (show 1<r.length+2 by omega),decide_eq_false (show ¬(((r.length+2:Nat):Int)<2) by omega)]
     have hr:KN (a::b::r)= !(decide ((a:Int)>2)||(decide ((a:Int)<2)&&decide ((b:Int)>39))):=by
       show((decide (a<=1)&&decide (b<=39))||decide (a=2))=_
       rw[Bool.eq_iff_iff]
       simp only[Bool.or_eq_true,Bool.and_eq_true,decide_eq_true_eq,Bool.not_eq_true',Bool.or_eq_false_iff,Bool.and_eq_false_iff,decide_eq_false_iff_not]
       omega
     unfold NJ
     rw[hr]
     cases decide ((a:Int)>2)<;>cases decide ((a:Int)<2)<;>cases decide ((b:Int)>39)<;>simp [Vm.chk,lH]
   | [],h=>exact absurd (by decide) h
   | [a],h=>exact absurd (by simp) h
theorem Ago (c:UInt8) (k:Nat):(((c.toNat:Nat):Int) != (k:Int))=decide (c.toNat≠k):=by
  rw[Bool.eq_iff_iff,bne_iff_ne,decide_eq_true_eq];omega
theorem AcF (N:Nat) (s:Bs) (hN:16<N) (hs:s.length<=1048576) (hl:s.length+1<N):L9 N s=some (lH ((JQ [] [] s).bind NJ)):=by
  unfold L9
  try simp only[clR]
  generalize hR:JQ [] [] s=R0
  refine DI (I:=fun x=> ∃(a j:Nat) (o:List Nat),x=((a:Int),(j:Int),ints o)/\a<=j/\o.length<=12/\((j<=s.length/\(Ar s a j).all CO=true/\JQ (Ar s a j) o (s.drop j)=R0)\/(j=s.length+1/\some o=R0))) (μ :=fun x=>s.length+1 - x.2.1.toNat) (fun _=>some (lH (R0.bind NJ))) ?_ N (0,0,[]) ⟨0,0,[],rfl,by omega,by simp,.inl ⟨by omega,by rw[Oj];rfl,by rw[Oj,List.drop_zero];exact hR⟩⟩ (by show s.length+1 - 0<N;omega)
  rintro x ⟨a,j,o,rfl,ha,ho,hx⟩ k hk
  dsimp only[U3]
  rcases hx with ⟨hj,hd,hsc⟩ | ⟨rfl,hsc⟩
  ·have hmu: ∀ j':Nat,j<j'->s.length+1 - ((j':Int)).toNat<s.length+1 - ((j:Int)).toNat:=fun j' h=>by omega
   rw[decide_eq_true (show(j:Int)<=(s.length:Int) by omega),cond_true,decide_eq_true (show(0:Int)<=(j:Int) by omega)]
   simp only[Bool.true_or,Ai]
   have proc: ∀(d:Bs),d.all CO=true->(if j<s.length then(Xm d o).bind fun o=>JQ [] o (s.drop (j+1))else Xm d o)=R0 ->
       (Vm.chk (decide ((0:Int)<=(a:Int))) (Vm.chk (decide ((a:Int)<=(j:Int)))
         (Vm.chk (decide (0<(d.length:Int))|| !(!((d.length:Int)==0||decide ((d.length:Int)>10))&&decide ((d.length:Int)>1)))
           (Vm.chk (!decide ((d.length:Int)>1)|| !((d.length:Int)==0||decide ((d.length:Int)>10))&&decide ((d.length:Int)>1)||((d.length:Int)==0||decide ((d.length:Int)>10)))
             (bif (d.length:Int)==0||decide ((d.length:Int)>10)||decide ((d.length:Int)>1)&&((d.getD 0 0).toNat:Int)==48||((ints o).length:Int)==12 then some (([]:List Int),false)
              else Ap (X:=Int×Int×List Int) (Y:=Int×List Int) (U3 fun t8b t9b l1004096b k11 x12 =>
                 bif decide (t9b<(d.length:Int))then Vm.chk (decide (0<=t9b)) (Vm.chk (decide (t9b<(d.length:Int)))
                   (k11 (i64.wrap (i64.wrap (10*t8b)+i64.wrap (IntKind.u8.wrap (((d.getD t9b.toNat 0).toNat:Int) - 48))),i64.wrap (t9b+1),l1004096b)))
                 else x12 (t8b,l1004096b)) N (0,0,ints o) (U2 fun t8c l1008192c=>bif decide (t8c>2147483647)then some ([],false)else Vm.chk (decide ((l1008192c.length+1)*9<=140737488355328)) (k (i64.wrap ((j:Int)+1),i64.wrap ((j:Int)+1),l1008192c++[t8c]))))))))=some (lH (R0.bind NJ)):=by
     intro d hd hsc
     rw[decide_eq_true (show(0:Int)<=(a:Int) by omega),decide_eq_true (show(a:Int)<=(j:Int) by omega)]
     simp only[Ai]
     have c0:(((d.length:Nat):Int)==0)=decide (d.length=0):=by rw[Bool.eq_iff_iff,beq_iff_eq,decide_eq_true_eq];omega
     have c1:decide (((d.length:Nat):Int)>10)=decide (10<d.length):=by rw[decide_eq_decide];omega
     have c2:decide (((d.length:Nat):Int)>1)=decide (1<d.length):=by rw[decide_eq_decide];omega
     have c3:((((d.getD 0 0).toNat:Nat):Int)==48)=decide ((d.getD 0 0).toNat=48):=by rw[Bool.eq_iff_iff,beq_iff_eq,decide_eq_true_eq];omega
     have c4:(((ints o).length:Int)==12)=decide (o.length=12):=by rw[BQ,Bool.eq_iff_iff,beq_iff_eq,decide_eq_true_eq];omega
     have c5:decide (0<((d.length:Nat):Int))= !(decide (d.length=0)):=by rw[Bool.eq_iff_iff,decide_eq_true_eq,Bool.not_eq_true',decide_eq_false_iff_not];omega
     rw[c0,c1,c2,c3,c4,c5]
     have t1:((!(decide (d.length=0)))|| !(!(decide (d.length=0)||decide (10<d.length))&&decide (1<d.length)))=true:=by cases decide (d.length=0)<;>cases decide (10<d.length)<;>cases decide (1<d.length)<;>rfl
     have t2:(!decide (1<d.length)|| !(decide (d.length=0)||decide (10<d.length))&&decide (1<d.length)||(decide (d.length=0)||decide (10<d.length)))=true:=by cases decide (d.length=0)<;>cases decide (10<d.length)<;>cases decide (1<d.length)<;>rfl
     rw[t1,t2,Ai,Ai]
     have hE:=AlP o hd
     by_cases hb:(d.length=0\/10<d.length\/((d.getD 0 0).toNat=48/\1<d.length))\/o.length=12
     ·rw[show(decide (d.length=0)||decide (10<d.length)||decide (1<d.length)&&decide ((d.getD 0 0).toNat=48)||decide (o.length=12))=true by simp only[Bool.or_eq_true,Bool.and_eq_true,decide_eq_true_eq];omega,cond_true]
      rw[if_pos (by omega)]at hE
      have:R0=none:=by rw[<- hsc,hE];split<;>rfl
      rw[this];rfl
     ·rw[show(decide (d.length=0)||decide (10<d.length)||decide (1<d.length)&&decide ((d.getD 0 0).toNat=48)||decide (o.length=12))=false by simp only[Bool.or_eq_false_iff,Bool.and_eq_false_iff,decide_eq_false_iff_not];omega,cond_false]
      refine Eq.trans (AfH N d (ints o) (by omega) hd (by omega) _) ?_
      dsimp only[U2]
      by_cases hv:2147483647<Es d
      ·rw[decide_eq_true (show((Es d:Nat):Int)>2147483647 by omega),cond_true]
       rw[if_pos (by omega)]at hE
       have:R0=none:=by rw[<- hsc,hE];split<;>rfl
       rw[this];rfl
      ·rw[decide_eq_false (show ¬((Es d:Nat):Int)>2147483647 by omega),cond_false,BQ,decide_eq_true (show(o.length+1)*9<=140737488355328 by omega),Ai,w64 (by omega) (by omega),AiZ]
       rw[if_neg (by omega)]at hE
       rw[hE]at hsc
       refine hk _ ⟨j+1,j+1,o++[Es d],rfl,by omega,by simp;omega,?_⟩ (hmu (j+1) (by omega))
       by_cases hjl:j<s.length
       ·rw[if_pos hjl]at hsc
        exact .inl ⟨by omega,by rw[Oj];rfl,by rw[Oj];exact hsc⟩
       ·rw[if_neg hjl]at hsc
        exact .inr ⟨by omega,hsc⟩
   by_cases hjl:j<s.length
   ·have hg:s.getD ((j:Int)).toNat 0=s[j]:=getD_lt s j 0 hjl
    rw[decide_eq_true (show(j:Int)<(s.length:Int) by omega),hg]
    simp only[Bool.true_or,Ai,Bool.true_and]
    by_cases h46:s[j].toNat=46
    ·rw[show(((s[j].toNat:Nat):Int) != 46)=false by rw[show(46:Int)=((46:Nat):Int)from rfl,Ago,decide_eq_false (by simp [h46])],cond_false]
     have he:s[j]=46:=UInt8.toNat.inj (by rw[h46];rfl)
     refine proc _ hd ?_
     rw[if_pos hjl,<- hsc,List.drop_eq_getElem_cons hjl,he,AbP];rfl
    ·rw[show(((s[j].toNat:Nat):Int) != 46)=true by rw[show(46:Int)=((46:Nat):Int)from rfl,Ago,decide_eq_true (by simp [h46])],cond_true]
     have hne:s[j]≠46:=fun e=>h46 (by rw[e];rfl)
     rw[List.drop_eq_getElem_cons hjl]at hsc
     by_cases hdg:CO s[j]=true
     ·rw[AbO _ _ _ _ hne hdg]at hsc
      have hc:=hdg
      unfold CO at hc
      simp only[Bool.and_eq_true,decide_eq_true_eq]at hc
      rw[decide_eq_false (show ¬((s[j].toNat:Nat):Int)<48 by omega),decide_eq_false (show ¬((s[j].toNat:Nat):Int)>57 by omega)]
      simp only[Bool.or_self,cond_false]
      rw[w64 (by omega) (by omega)]
      refine hk _ ⟨a,j+1,o,rfl,by omega,ho,.inl ⟨by omega,?_,?_⟩⟩ (hmu (j+1) (by omega))
      ·rw[iC s ha hjl,List.all_append,hd];simpa using hdg
      ·rw[iC s ha hjl];exact hsc
     ·rw[AbN _ _ _ _ hne hdg]at hsc
      have:(decide (((s[j].toNat:Nat):Int)<48)||decide (((s[j].toNat:Nat):Int)>57))=true:=by
        unfold CO at hdg
        simp only[Bool.and_eq_true,decide_eq_true_eq]at hdg
        simp only[Bool.or_eq_true,decide_eq_true_eq]
        omega
      rw[this,cond_true,<- hsc];rfl
   ·rw[decide_eq_false (show ¬(j:Int)<(s.length:Int) by omega)]
    simp only[Bool.false_and,cond_false]
    refine proc _ hd ?_
    rw[if_neg hjl,<- hsc,List.drop_eq_nil_of_le (by omega)];rfl
  ·rw[decide_eq_false (show ¬((s.length+1:Nat):Int)<=(s.length:Int) by omega),cond_false,<- hsc]
   exact Amj o
theorem AhX (c b:UInt8) (hb:b≠c): ∀ s:Bs,b∈s-> ∃ x∈Bf c s,b∈x:=by
  intro s
  induction s with
  | nil=>intro h;cases h
  | cons a r ih =>
    intro h
    by_cases ha:a=c
    ·rcases List.mem_cons.1 h with rfl | h
     ·exact absurd ha hb
     ·obtain⟨x,h1,h2⟩:=ih h
      refine⟨x,?_,h2⟩
      show x∈(if a=c then _ else _)
      rw[if_pos ha]
      exact List.mem_cons_of_mem _ h1
    ·rw[Rj _ _ _ ha]
     rcases List.mem_cons.1 h with rfl | h
     ·exact⟨_,List.mem_cons_self,List.mem_cons_self⟩
     ·obtain⟨x,h1,h2⟩:=ih h
      have hn:=AbS c r
      cases hs:Bf c r with
      | nil=>exact absurd hs hn
      | cons y t =>
        rw[hs]at h1
        rcases List.mem_cons.1 h1 with rfl | h1
        ·exact⟨_,List.mem_cons_self,List.mem_cons_of_mem _ h2⟩
        ·exact⟨x,List.mem_cons_of_mem _ h1,h2⟩
theorem Ajm {α β :Type} {f: α ->Option β}: ∀ {l:List α} {a: α},a∈l->f a=none->Gf f l=none:=by
  intro l
  induction l with
  | nil=>intro a h;cases h
  | cons x t ih =>
    intro a h ha
    unfold Gf
    rcases List.mem_cons.1 h with rfl | h
    ·rw[ha]
    ·rw[ih h ha]
     split
     ·rename_i h1 h2;cases h2
     ·rfl
theorem RJ {α β :Type} (f: α ->Option β) (a: α) (l:List α):Gf f (a::l)=(f a).bind fun b=>(Gf f l).map fun r=>b::r:=by
  show(match f a,Gf f l with | some b,some bs=>some (b::bs) | _,_=>none)=_
  cases f a<;>cases Gf f l<;>rfl
theorem TT {d:Bs} (h:d.all CO=true):(46:UInt8)∉d:=by
  intro hm
  have:=List.all_eq_true.1 h _ hm
  revert this;decide
theorem Amq: ∀(s cur:Bs) (out:List Nat),cur.all CO=true->out.length<=12->JQ cur out s=if 12<out.length+(Bf 46 (cur++s)).length then none else(Gf Ig (Bf 46 (cur++s))).map fun r=>out++r:=by
  intro s
  induction s with
  | nil =>
    intro cur out hc ho
    rw[List.append_nil,Na _ _ (TT hc),RJ]
    show Xm cur out=_
    unfold Xm
    by_cases h:out.length=12
    ·rw[if_pos h,if_pos (by simp only[List.length_singleton];omega)]
    ·rw[if_neg h,if_neg (by simp only[List.length_singleton];omega)]
     cases Ig cur<;>rfl
  | cons c r ih =>
    intro cur out hc ho
    by_cases h1:c=46
    ·subst h1
     rw[AbP,I8 _ _ _ (TT hc),RJ]
     unfold Xm
     have hl:=(PX 46 r).2.1
     by_cases h:out.length=12
     ·rw[if_pos h,if_pos (by rw[List.length_cons];omega)];rfl
     ·rw[if_neg h]
      cases hv:Ig cur with
      | none=>simp
      | some v =>
        have:=ih [] (out++[v]) rfl (by simp;omega)
        rw[List.nil_append]at this
        show JQ [] (out++[v]) r=_
        rw[this]
        simp only[List.length_append,List.length_singleton,List.length_cons,List.length_nil,Option.bind_some,Option.map_map]
        by_cases h3:12<out.length+(0+1)+(Bf 46 r).length
        ·rw[if_pos h3,if_pos (by omega)]
        ·rw[if_neg h3,if_neg (by omega)]
         cases Gf Ig (Bf 46 r)<;>simp
    ·by_cases h2:CO c=true
     ·rw[AbO _ _ _ _ h1 h2,ih (cur++[c]) out (by simp [hc,h2]) ho,List.append_assoc]
      rfl
     ·rw[AbN _ _ _ _ h1 h2]
      obtain⟨x,hx1,hx2⟩:=AhX 46 c h1 (cur++c::r) (by simp)
      rw[Ajm hx1 (by
        unfold Ig vN
        rw[if_neg]
        have:x.all CO=false:=by
          apply Bool.eq_false_iff.2
          intro h
          exact h2 (List.all_eq_true.1 h _ hx2)
        rw[this]
        simp)]
      split<;>rfl
theorem Aip (s:Bs):(JQ [] [] s).bind NJ=Dt s:=by
  rw[Amq s [] [] rfl (by decide)]
  unfold Dt
  simp only[List.length_nil,Nat.zero_add,List.nil_append]
  by_cases h:12<(Bf 46 s).length
  ·rw[if_pos h,if_pos (Or.inr h)];rfl
  ·rw[if_neg h]
   cases hm:Gf Ig (Bf 46 s)with
   | none=>split<;>rfl
   | some l =>
     have hl:=tY hm
     show NJ l=_
     unfold NJ
     have h3: ∀ q:Option (List Nat),(if(Bf 46 s).length<2\/12<(Bf 46 s).length then none else q)=if 2<=l.length then q else none:=by
       intro q
       by_cases h2:2<=l.length
       ·rw[if_neg (by omega),if_pos h2]
       ·rw[if_pos (Or.inl (by omega)),if_neg h2]
     rw[h3]
     dsimp only
     by_cases h2:2<=l.length<;>by_cases hr:KN l=true<;>simp [h2,hr]
theorem Y1 (N:Nat) (s:Bs) (hN:16<N) (hs:s.length<=1048576) (hl:s.length+1<N):L9 N s=some (lH (Dt s)):=by
  rw[AcF N s hN hs hl,Aip]
def hi (m:Nat):List Nat:=if m=0 then []else hi (m / 128)++[m % 128+128]
termination_by m
decreasing_by omega
theorem sO:hi 0=[]:=by rw[hi];rfl
theorem Aho {m:Nat} (h:m≠0):hi m=hi (m / 128)++[m % 128+128]:=by rw[hi,if_neg h]
def NY (n:Nat):List Nat:=hi (n / 128)++[n % 128]
def cnt (m:Nat):Nat:=(hi m).length
theorem wB:cnt 0=0:=by unfold cnt;rw[sO];rfl
theorem Ade {m:Nat} (h:m≠0):cnt m=cnt (m / 128)+1:=by unfold cnt;rw[Aho h];simp
theorem cnt_le: ∀(k m:Nat),m<128 ^ k->cnt m<=k:=by
  intro k
  induction k with
  | zero=>intro m h;have:m=0:=by rw[Nat.pow_zero]at h;omega
          rw[this,wB];omega
  | succ k ih =>
    intro m h
    by_cases h0:m=0
    ·rw[h0,wB];omega
    ·rw[Ade h0]
     have:=ih (m / 128) (by rw[Nat.pow_succ]at h;omega)
     omega
def X5 (m:Nat):Nat->List Nat
  | 0=>[]
  | t+1=>(m / 128 ^ t % 128+128)::X5 m t
theorem div_pow (m t:Nat):m / 128 ^ (t+1)=m / 128 / 128 ^ t:=by
  rw[Nat.pow_succ,Nat.div_div_eq_div_mul,Nat.mul_comm]
theorem AjI: ∀(t m:Nat),X5 m (t+1)=X5 (m / 128) t++[m % 128+128]:=by
  intro t
  induction t with
  | zero=>intro m;show [m / 128 ^ 0 % 128+128]=_;rw[Nat.pow_zero,Nat.div_one];rfl
  | succ t ih =>
    intro m
    show(m / 128 ^ (t+1) % 128+128)::X5 m (t+1)=_
    rw[ih,div_pow]
    rfl
theorem Amt: ∀(k m:Nat),m<128 ^ k->X5 m (cnt m)=hi m:=by
  intro k
  induction k with
  | zero=>intro m h;have:m=0:=by rw[Nat.pow_zero]at h;omega
          rw[this,wB,sO];rfl
  | succ k ih =>
    intro m h
    by_cases h0:m=0
    ·rw[h0,wB,sO];rfl
    ·rw[Ade h0,AjI,ih _ (by rw[Nat.pow_succ]at h;omega),<- Aho h0]
theorem sh7 (n t:Nat) (ht:t<=9):(n:Int).fdiv (2 ^ min (IntKind.u64.wrap (7*IntKind.u64.wrap (t:Int))).toNat 64)=((n / 128 ^ t:Nat):Int):=by
  rw[wu64 (x:=(t:Int)) (by omega) (by omega),wu64 (by omega) (by omega),show min ((7:Int)*(t:Int)).toNat 64=7*t by omega]
  have h:(2:Nat) ^ (7*t)=128 ^ t:=by rw[Nat.pow_mul]
  have e:(2:Int) ^ (7*t)=((128 ^ t:Nat):Int):=by rw[<- h];push_cast;rfl
  rw[e]
  exact(Int.ofNat_fdiv _ _).symm
theorem Ad9 (n:Nat) (h:n<9223372036854775808):Ba .and .i64 (n:Int) 127=((n % 128:Nat):Int):=by
  show i64.wrap (((BitVec.ofInt 64 (n:Int)) &&& (BitVec.ofInt 64 ((127:Nat):Int))).toNat:Int)=_
  rw[show(BitVec.ofInt 64 (n:Int))=BitVec.ofNat 64 n by simp,show(BitVec.ofInt 64 ((127:Nat):Int))=BitVec.ofNat 64 127 by simp]
  rw[BitVec.toNat_and,BitVec.toNat_ofNat,BitVec.toNat_ofNat,Nat.mod_eq_of_lt (by omega),Nat.mod_eq_of_lt (by omega)]
  rw[show(127:Nat)=2 ^ 7 - 1 by decide,Nat.and_two_pow_sub_one_eq_mod]
  exact w64 (by omega) (by omega)
theorem AnH (a:Nat) (h:a<128):Ba .or .i64 (a:Int) 128=((a+128:Nat):Int):=by
  have: ∀ a:Fin 128,Ba .or .i64 ((a.val:Nat):Int) 128=((a.val+128:Nat):Int):=by decide +kernel
  exact this ⟨a,h⟩
theorem Amx {ρ :Type} (N n:Nat) (l:List Int) (hn:n<34359738368) (hN:16<N) (fin:Int×List Int->Option ρ) :
    Ap (X:=Int×List Int) (Y:=Int×List Int) (U2 fun t5a l0a k1 x2 =>
     Vm.chk (decide (0<=IntKind.u64.wrap (7*IntKind.u64.wrap t5a)))
       (bif decide ((n:Int).fdiv (2 ^ min (IntKind.u64.wrap (7*IntKind.u64.wrap t5a)).toNat 64)>0)then
         k1 (i64.wrap (t5a+1),l0a)
       else x2 (t5a,l0a))) N (1,l) fin=fin (((1+cnt (n / 128):Nat):Int),l):=by
  refine Eq.trans (DI (I:=fun x:Int×List Int=> ∃ t:Nat,x=((t:Int),l)/\1<=t/\t<=5) (μ :=fun x=>5 - x.1.toNat) (F:=fun x=>fin (((x.1.toNat+cnt (n / 128 ^ x.1.toNat):Nat):Int),l)) ?_ N (1,l) ⟨1,rfl,by omega,by omega⟩ (by show 5 - 1<N;omega)) rfl
  rintro x ⟨t,rfl,h1,h2⟩ k hk
  dsimp only[U2]
  rw[sh7 n t (by omega),decide_eq_true (show(0:Int)<=IntKind.u64.wrap (7*IntKind.u64.wrap (t:Int)) by rw[wu64 (x:=(t:Int)) (by omega) (by omega),wu64 (by omega) (by omega)];omega),Ai]
  have ht:((t:Int)).toNat=t:=by omega
  rw[ht]
  generalize hm:n / 128 ^ t=m
  by_cases h0:m=0
  ·rw[h0,decide_eq_false (by omega),cond_false,wB];rfl
  ·rw[decide_eq_true (by omega),cond_true,w64 (by omega) (by omega)]
   have h5:t<5:=by
     refine Nat.lt_of_le_of_ne h2 fun e=>h0 ?_
     rw[<- hm,e]
     exact Nat.div_eq_of_lt hn
   have e1:((t:Int)+1).toNat=t+1:=by omega
   rw[hk _ ⟨t+1,by push_cast;rfl,by omega,by omega⟩ (by show 5 - ((t:Int)+1).toNat<5 - (t:Int).toNat;omega)]
   show fin (((((t:Int)+1).toNat+cnt (n / 128 ^ ((t:Int)+1).toNat):Nat):Int),l)=_
   rw[e1,Nat.pow_succ,<- Nat.div_div_eq_div_mul,hm,Ade h0]
   congr 2
   omega
theorem AiA {ρ :Type} (N n:Nat) (hn:n<34359738368) (hN:16<N) (fin:List Int->Option ρ) (t:Nat) (l:List Int) (ht:t<=5) (hl:l.length<=2000000) :
    Ap (X:=Int×List Int) (Y:=List Int) (U2 fun t6c l1008192c k3 x4 =>
         bif decide (t6c>0)then
           Vm.chk (decide (0<=IntKind.u64.wrap (7*IntKind.u64.wrap t6c)))
             (Vm.chk (decide ((l1008192c.length+1)*2<=140737488355328))
               (k3
                 (i64.wrap (t6c - 1),
                   l1008192c ++
                     [IntKind.u8.wrap
                         (Ba BinOp.or i64
                           (Ba BinOp.and i64
                             ((n:Int).fdiv (2 ^ min (IntKind.u64.wrap (7*IntKind.u64.wrap t6c)).toNat 64)) 127)
                           128)])))
         else x4 l1008192c) N ((t:Int),l) fin=fin (l++ints (X5 (n / 128) t)):=by
  refine Eq.trans (DI (I:=fun x:Int×List Int=> ∃(t:Nat) (l:List Int),x=((t:Int),l)/\t<=5/\l.length+t<=2000005) (μ :=fun x=>x.1.toNat) (F:=fun x=>fin (x.2++ints (X5 (n / 128) x.1.toNat))) ?_ N ((t:Int),l) ⟨t,l,rfl,ht,by omega⟩ (by show(t:Int).toNat<N;omega)) rfl
  rintro x ⟨t,l,rfl,h2,h3⟩ k hk
  have ht:((t:Int)).toNat=t:=by omega
  cases t with
  | zero =>
    dsimp only[U2]
    rw[decide_eq_false (by omega),cond_false]
    show _=fin (l++[])
    rw[List.append_nil]
  | succ t =>
    dsimp only[U2]
    rw[sh7 n (t+1) (by omega),decide_eq_true (show(0:Int)<=IntKind.u64.wrap (7*IntKind.u64.wrap ((t+1:Nat):Int)) by rw[wu64 (x:=((t+1:Nat):Int)) (by omega) (by omega),wu64 (by omega) (by omega)];omega),Ai,decide_eq_true (show((t+1:Nat):Int)>0 by omega),cond_true,decide_eq_true (by omega),Ai]
    have hd:n / 128 ^ (t+1)<=n:=Nat.div_le_self _ _
    rw[Ad9 _ (by omega),AnH _ (by omega),w8,w64 (by omega) (by omega),ht]
    have e1:(((t+1:Nat):Int) - 1).toNat=t:=by omega
    rw[hk _ ⟨t,_,by congr 1;omega,by omega,by rw[List.length_append,List.length_singleton];omega⟩ (by show(((t+1:Nat):Int) - 1).toNat<((t+1:Nat):Int).toNat;omega)]
    show fin ((l++_)++ints (X5 (n / 128) (((t+1:Nat):Int) - 1).toNat))=fin (l++ints ((n / 128 / 128 ^ t % 128+128)::X5 (n / 128) t))
    rw[e1,div_pow,List.append_assoc]
    congr 2
    show _=((n / 128 / 128 ^ t % 128+128:Nat):Int)::ints (X5 (n / 128) t)
    rw[show(((n / 128 / 128 ^ t % 128+128:Nat):Int)) % 256=((n / 128 / 128 ^ t % 128+128:Nat):Int) by omega]
    rfl
theorem yI (N:Nat) (l:List Int) (n:Nat) (hn:n<34359738368) (hN:16<N) (hl:l.length<=1000000):Yw N l (n:Int)=some (l++ints (NY n)):=by
  unfold Yw
  have hc:cnt (n / 128)<=4:=cnt_le 4 _ (by omega)
  have h1:=Amt 4 (n / 128) (by omega)
  rw[Amx N n l hn hN]
  dsimp only[U2]
  rw[w64 (by omega) (by omega),show((1+cnt (n / 128):Nat):Int) - 1=((cnt (n / 128):Nat):Int) by omega,AiA N n hn hN _ _ _ (by omega) (by omega),h1]
  have hlen:(l++ints (hi (n / 128))).length<=1000004:=by
    rw[List.length_append,BQ]
    show l.length+cnt (n / 128)<=_
    omega
  rw[decide_eq_true (by omega),Ai,Ad9 _ (by omega),w8,show(((n % 128:Nat):Int)) % 256=((n % 128:Nat):Int) by omega,List.append_assoc]
  unfold NY ints
  rw[List.map_append]
  rfl
theorem hi_lt: ∀(k m:Nat),m<128 ^ k-> ∀ x∈hi m,x<256:=by
  intro k
  induction k with
  | zero =>
    intro m h x hx
    rw[Nat.pow_zero]at h
    rw[show m=0 by omega,sO]at hx
    cases hx
  | succ k ih =>
    intro m h x hx
    by_cases h0:m=0
    ·rw[h0,sO]at hx;cases hx
    ·rw[Aho h0,List.mem_append,List.mem_singleton]at hx
     rcases hx with hx | rfl
     ·exact ih _ (by rw[Nat.pow_succ]at h;omega) x hx
     ·omega
theorem Agv (n:Nat) (h:n<34359738368): ∀ x∈NY n,x<256:=by
  intro x hx
  unfold NY at hx
  rw[List.mem_append,List.mem_singleton]at hx
  rcases hx with hx | rfl
  ·exact hi_lt 5 _ (by omega) x hx
  ·omega
theorem V5 (n:Nat) (h:n<34359738368):(NY n).length<=5:=by
  unfold NY
  rw[List.length_append]
  have:=cnt_le 4 (n / 128) (by omega)
  unfold cnt at this
  simp only[List.length_singleton];omega
def UL (l:List Nat):List Nat:=NY (40*l.getD 0 0+l.getD 1 0)++(l.drop 2).flatMap NY
def encR:Option (List Nat)->Bs×Int
  | none=>([],11)
  | some l=>((UL l).map UInt8.ofNat,0)
theorem TM {s:Bs} {l:List Nat} (h:Dt s=some l):2<=l.length/\l.length<=12/\(∀ x∈l,x<=2147483647)/\KN l=true:=by
  unfold Dt at h
  split at h
  ·cases h
  ·cases hm:Gf Ig (Bf 46 s)with
   | none=>rw[hm]at h;cases h
   | some r =>
     rw[hm]at h
     dsimp only at h
     split at h
     ·rename_i hr
      injection h with h;subst h
      have hl:=tY hm
      refine⟨by omega,by omega,fun x hx=> ?_,hr⟩
      obtain⟨a,_,ha⟩:=Ak9 hm x hx
      exact AlE ha
     ·cases h
theorem Zq {l:List Nat} (h1:2<=l.length) (h2: ∀ x∈l,x<=2147483647) (h3:KN l=true):40*l.getD 0 0+l.getD 1 0<34359738368/\l.getD 0 0<=2/\l.getD 1 0<=2147483647:=by
  have:=h2 (l.getD 1 0) (by rw[getD_lt l 1 0 (by omega)];exact List.getElem_mem _)
  unfold KN at h3
  simp only[Bool.or_eq_true,Bool.and_eq_true,decide_eq_true_eq]at h3
  omega
theorem jE {l:List Nat} (h: ∀ x∈l,x<256):(ints l).all Vm.isByte=true/\(ints l).map Vm.byteOf=l.map UInt8.ofNat:=by
  constructor
  ·rw[List.all_eq_true]
   intro x hx
   obtain⟨n,hn,rfl⟩:=List.mem_map.1 hx
   have:=h n hn
   unfold Vm.isByte
   simp only[Bool.and_eq_true,decide_eq_true_eq]
   omega
  ·unfold ints
   rw[List.map_map]
   rfl
theorem Agh {l:List Nat} (h1:2<=l.length) (h2: ∀ x∈l,x<=2147483647) (h3:KN l=true): ∀ x∈UL l,x<256:=by
  intro x hx
  unfold UL at hx
  rw[List.mem_append]at hx
  rcases hx with hx | hx
  ·exact Agv _ (Zq h1 h2 h3).1 x hx
  ·obtain⟨n,hn,hx⟩:=List.mem_flatMap.1 hx
   have:=h2 n (List.mem_of_mem_drop hn)
   exact Agv n (by omega) x hx
theorem Kz (l:List Nat) (i:Nat):(ints l).getD i 0=((l.getD i 0:Nat):Int):=by
  unfold ints
  by_cases h:i<l.length
  ·rw[getD_lt _ _ _ (by rw[List.length_map];exact h),getD_lt _ _ _ h,List.getElem_map]
  ·rw[List.getD_eq_getElem?_getD,List.getD_eq_getElem?_getD,List.getElem?_eq_none (by rw[List.length_map];omega),List.getElem?_eq_none (by omega)];rfl
theorem Aeq (l:List Nat):Ar (ints l) 2 (ints l).length=ints (l.drop 2):=by
  unfold Ar ints
  rw[List.take_length,List.map_drop]
theorem QF (a b:List Nat):ints (a++b)=ints a++ints b:=by unfold ints;rw[List.map_append]
theorem Aby (f:Nat->List Nat): ∀(l:List Nat) (a:List Int),l.foldl (fun a n=>a++ints (f n)) a=a++ints (l.flatMap f):=by
  intro l
  induction l with
  | nil=>intro a;show a=a++[];rw[List.append_nil]
  | cons x r ih =>
    intro a
    rw[List.foldl_cons,ih,List.flatMap_cons,QF,List.append_assoc]
theorem Akt (f:Nat->List Nat) (k:Nat): ∀(l:List Nat),(∀ x∈l,(f x).length<=k)->(l.flatMap f).length<=k*l.length:=by
  intro l
  induction l with
  | nil=>intro _;exact Nat.zero_le _
  | cons x r ih =>
    intro h
    rw[List.flatMap_cons,List.length_append,List.length_cons,Nat.mul_succ]
    have:=ih (fun y hy=>h y (List.mem_cons_of_mem _ hy))
    have:=h x List.mem_cons_self
    omega
theorem Afe {X E S ρ :Type} {g:S->E->S} {e:E} {s:S} {b:(X->Option ρ)->Option ρ} {nx:S->X} {I:S->Prop} (h:(∀ k,b k=k (nx (g s e)))/\I (g s e)):lS b nx I (Rk some g (none:Option ρ) e s):=h
theorem AbB {α :Type}: ∀ l:List α,Gf some l=some l:=by
  intro l
  induction l with
  | nil=>rfl
  | cons a r ih=>rw[RJ,ih];rfl
theorem Ac0 (N:Nat) (s:Bs) (hN:16<N) (hs:s.length<=1048576):Pv N s=some (encR (Dt s)):=by
  unfold Pv
  rw[qI N s hN hs,Ae]
  cases ha:Dt s with
  | none=>rfl
  | some l =>
    obtain⟨h1,h2,h3,h4⟩:=TM ha
    have hf:=Zq h1 h3 h4
    show(bif (ints l).isEmpty then _ else _)=_
    rw[show Anb (some l)=ints l from rfl,show(ints l).isEmpty=false by rw[List.isEmpty_eq_false_iff_exists_mem];exact⟨_,List.mem_map.2 ⟨l.getD 0 0,by rw[getD_lt l 0 0 (by omega)];exact List.getElem_mem _,rfl⟩⟩,cond_false,BQ,decide_eq_true (by omega),Ai,decide_eq_true (by omega),Ai,Kz,Kz]
    rw[w64 (x:=40*((l.getD 0 0:Nat):Int)) (by omega) (by omega),w64 (by omega) (by omega),show(40:Int)*((l.getD 0 0:Nat):Int)+((l.getD 1 0:Nat):Int)=((40*l.getD 0 0+l.getD 1 0:Nat):Int) by omega]
    dsimp only
    rw[yI N [] _ hf.1 hN (Nat.zero_le _),Ae]
    rw[decide_eq_true (by omega),Ai,<- BQ l,Aeq]
    generalize hd:l.drop 2=d
    have hdl:d.length<=10:=by rw[<- hd,List.length_drop];omega
    have hdm: ∀ x∈d,x<=2147483647:=fun x hx=>h3 x (List.mem_of_mem_drop (hd▸hx))
    refine Eq.trans (DY (S:=List Int) (mk:=fun i a=>(i,a)) (out:=fun a=>a) d 0 (fun i a=>a.length<=5*(i+1)) (Rk some (fun a n=>a++ints (NY n)) none) ?_ ?_ N _ (by rw[List.nil_append,BQ];have:=V5 _ hf.1;omega) (by omega)) ?_
    ·intro i a hi ha
     rw[getD_lt d i 0 hi]
     have hn:=hdm d[i] (List.getElem_mem hi)
     refine Afe ⟨fun k=> ?_,?_⟩
     ·dsimp only[U2]
      rw[BQ,decide_eq_true (by omega),cond_true,decide_eq_true (by omega),Ai,Ai,show((i:Int)).toNat=i by omega,Kz,getD_lt d i 0 hi,yI N a _ (by omega) hN (by omega),Ae,w64 (by omega) (by omega)]
     ·have:=V5 d[i] (by omega)
      rw[List.length_append,BQ];omega
    ·intro a k ha
     dsimp only[U2]
     rw[BQ,decide_eq_false (by omega),cond_false]
    ·rw[zH,AbB]
     dsimp only[Option.elim]
     rw[Aby,List.nil_append,<- QF]
     have hb:=jE (Agh h1 h3 h4)
     unfold UL at hb
     rw[hd]at hb
     rw[hb.1,hb.2,Ai]
     show _=some ((UL l).map UInt8.ofNat,0)
     unfold UL
     rw[hd]
