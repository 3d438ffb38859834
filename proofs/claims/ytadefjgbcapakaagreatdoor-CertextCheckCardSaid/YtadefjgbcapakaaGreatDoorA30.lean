/-
  CertextCheck: the law returns true whatever the input; machine, functions, plain law (part 30 of 47.)
-/
import Derived.Test.YtadefjgbcapakaaGreatDoorA25
import Derived.Sort.Walk0
set_option linter.unusedVariables false
set_option linter.unusedSimpArgs false
namespace Go.Proofs.YtadefjgbcapakaaGreatDoor.Vm
open IntKind (i64)
open Go
theorem w64 {x:Int} (h1: -9223372036854775808≤x) (h2:x≤9223372036854775807):i64.wrap x=x:=by
  have e:i64.wrap x=if 9223372036854775808≤x % 18446744073709551616 then x % 18446744073709551616 - 18446744073709551616 else x % 18446744073709551616:=by
    show(if(true&&decide (x % 18446744073709551616≥9223372036854775808))=true then _ else _)=_
    simp only[Bool.true_and,decide_eq_true_eq,ge_iff_le]
    rfl
  rw[e]
  split<;>omega
theorem w8 (x:Int):IntKind.u8.wrap x=x % 256:=by
  have hp:(2:Int) ^ 8=256:=by decide
  simp only[IntKind.wrap,IntKind.bits,IntKind.signed,Bool.false_and,Bool.false_eq_true,if_false,hp]
theorem Rq (x:Int):isByte (IntKind.u8.wrap x)=true:=by
  rw[w8];unfold isByte;simp;omega
theorem wu64 {x:Int} (h1:0≤x) (h2:x≤18446744073709551615):IntKind.u64.wrap x=x:=by
  have hp:(2:Int) ^ 64=18446744073709551616:=by decide
  simp only[IntKind.wrap,IntKind.bits,IntKind.signed,Bool.false_and,Bool.false_eq_true,if_false,hp]
  omega
theorem AhM (a:Nat) (h:a<256):BP .and .i64 (a:Int) 31=((a % 32:Nat):Int):=by
  have: ∀ a:Fin 256,BP .and .i64 ((a.val:Nat):Int) 31=((a.val % 32:Nat):Int):=by decide +kernel
  exact this ⟨a,h⟩
theorem Am3 (a:Nat) (h:a<256):BP .and .i64 (a:Int) 32=((if a / 32 % 2=1 then 32 else 0:Nat):Int):=by
  have: ∀ a:Fin 256,BP .and .i64 ((a.val:Nat):Int) 32=((if a.val / 32 % 2=1 then 32 else 0:Nat):Int):=by decide +kernel
  exact this ⟨a,h⟩
theorem or8 (t b:Nat) (ht:t<36028797018963968) (hb:b<256):BP .or .i64 (((t*256:Nat)):Int) (b:Int)=((t*256+b:Nat):Int):=by
  have e: ∀ n:Nat,n<2 ^ 64→(BitVec.ofInt 64 (n:Int))=BitVec.ofNat 64 n:=fun n _=>by simp
  show i64.wrap _=_
  rw[show(BitVec.ofInt (i64).bits ((t*256:Nat):Int))=BitVec.ofNat 64 (t*256)from e _ (by omega),show(BitVec.ofInt (i64).bits ((b:Nat):Int))=BitVec.ofNat 64 b from e _ (by omega)]
  show i64.wrap (((BitVec.ofNat 64 (t*256)) ||| (BitVec.ofNat 64 b)).toNat:Int)=_
  rw[BitVec.toNat_or,BitVec.toNat_ofNat,BitVec.toNat_ofNat,Nat.mod_eq_of_lt (by omega),Nat.mod_eq_of_lt (by omega)]
  rw[show t*256=t <<< 8 by rw[Nat.shiftLeft_eq], ←Nat.shiftLeft_add_eq_or_of_lt (by omega:b<2 ^ 8),Nat.shiftLeft_eq]
  exact w64 (by omega) (by omega)
theorem XB {ρ :Type} (p:Prop) [Decidable p] (k:Option ρ):chk (decide p) k=if p then k else none:=by
  by_cases h:p<;>simp [chk,h]
theorem Aj {ρ :Type} (k:Option ρ):chk true k=k:=rfl
theorem xN {ρ :Type} (b:Bool) (k:Option ρ):chk (!b|| !!b) k=k:=by cases b<;>rfl
theorem mF {ρ :Type} (b:Bool) (k:Option ρ):chk (b|| !b) k=k:=by cases b<;>rfl
theorem Ahm {ρ :Type} (b:Bool) (k:Option ρ):chk (bif b then true else !b) k=k:=by cases b<;>rfl
theorem Ae5 {ρ :Type} (b:Bool) (k:Option ρ):chk (bif b then true else true) k=k:=by cases b<;>rfl
theorem xA (a b:Bool):(bif a then true else b)=(a||b):=by cases a<;>rfl
theorem MW {α :Type} (p:Prop) [Decidable p] (a b: α):(bif decide p then a else b)=if p then a else b:=by by_cases h:p<;>simp [h]
theorem mG {ρ :Type} (b:Bool) (k:Option ρ):chk (b||true) k=k:=by cases b<;>rfl
theorem G6 {α :Type} (b:Bool) (x y: α):(bif b then x else y)=if b=true then x else y:=by cases b<;>rfl
theorem Ahn {ρ :Type} (b:Bool) (k:Option ρ):chk b k=if b=true then k else none:=by cases b<;>rfl
theorem Ae {α ρ :Type} [Inhabited α] (a: α) (k: α →Option ρ):Ad (some a) k=k a:=rfl
theorem Oz {α ρ :Type} (A:(α →Option ρ)→Option ρ) (f: α →Option ρ):CS A f=A f:=rfl
theorem mW {X Y ρ :Type} (B:X→(X→Option ρ)→(Y→Option ρ)→Option ρ) (n:Nat) (x:X) (kx:Y→Option ρ):Ak B (n+1) x kx=B x (fun x'=>Ak B n x' kx) kx:=rfl
theorem Fe {X Y ρ :Type} {B:X→(X→Option ρ)→(Y→Option ρ)→Option ρ} {kx:Y→Option ρ} (I:X→Prop) (μ :X→Nat) (F:X→Option ρ)
    (h: ∀ x,I x→ ∀ k:X→Option ρ,(∀ x',I x'→ μ x'< μ x→k x'=F x')→B x k kx=F x): ∀(N:Nat) (x:X),I x→ μ x<N→Ak B N x kx=F x:=by
  intro N
  induction N with
  | zero=>intro x _ h;omega
  | succ N ih=>intro x hI hm;exact h x hI _ (fun x' hI' hm'=>ih x' hI' (by omega))
theorem AiB {X Y ρ :Type} {B:X→(X→Option ρ)→(Y→Option ρ)→Option ρ} {kx:Y→Option ρ} (I:X→Prop) (μ :X→Nat) (Q:Option ρ →Prop)
    (h: ∀ x,I x→ ∀ k:X→Option ρ,(∀ x',I x'→ μ x'< μ x→Q (k x'))→Q (B x k kx)): ∀(N:Nat) (x:X),I x→ μ x<N→Q (Ak B N x kx):=by
  intro N
  induction N with
  | zero=>intro x _ h;omega
  | succ N ih=>intro x hI hm;exact h x hI _ (fun x' hI' hm'=>ih x' hI' (by omega))
def mP {E S ρ :Type} (step:E→S→(S→Option ρ)→Option ρ) (fin:S→Option ρ):List E→S→Option ρ
  | [],s=>fin s
  | e::r,s=>step e s (fun s'=>mP step fin r s')
theorem AiA {X Y S E ρ :Type} {B:X→(X→Option ρ)→(Y→Option ρ)→Option ρ} {kx:Y→Option ρ} (mk:Int→S→X) (l:List E) (d:E) (step:E→S→(S→Option ρ)→Option ρ) (fin:S→Option ρ)
    (h: ∀(i:Nat) (s:S) (k:X→Option ρ),i<l.length→B (mk (i:Int) s) k kx=step (l.getD i d) s (fun s'=>k (mk ((i:Int)+1) s')))
    (hend: ∀(s:S) (k:X→Option ρ),B (mk (l.length:Int) s) k kx=fin s) (N:Nat) (s:S) (hN:l.length<N):Ak B N (mk 0 s) kx=mP step fin l s:=by
  have key: ∀(n i:Nat) (s:S),i≤l.length→l.length - i<n→Ak B n (mk (i:Int) s) kx=mP step fin (l.drop i) s:=by
    intro n
    induction n with
    | zero=>intro i s _ h;omega
    | succ n ih =>
      intro i s hi hn
      rw[mW]
      by_cases hl:i<l.length
      ·rw[h i s _ hl,List.drop_eq_getElem_cons hl]
       show _=step l[i] s (fun s'=>mP step fin (l.drop (i+1)) s')
       rw[show l.getD i d=l[i] by simp [List.getD_eq_getElem?_getD,hl]]
       congr 1
       funext s'
       exact ih (i+1) s' (by omega) (by omega)
      ·have:i=l.length:=by omega
       rw[this,hend,List.drop_length];rfl
  exact key N 0 s (by omega) (by omega)
def Bz {E:Type} (f:E→Int):List E→Int
  | []=>0
  | e::r=>if f e≠0 then f e else Bz f r
set_option linter.defProp false in
def clR:=And.intro @Ahy (And.intro @Bool.cond_true_left (And.intro @Bool.cond_false_left (And.intro @Bool.cond_true_right (And.intro @Bool.cond_false_right (And.intro @Bool.or_not_self (And.intro @Bool.not_or_self (And.intro @Bool.not_not (And.intro @Aj (And.intro @Bool.or_true (And.intro @Bool.true_or (And.intro @Bool.or_self (@Bool.cond_self.{1}))))))))))))
theorem NK (c:UInt8):c.toNat<256:=UInt8.toNat_lt c
theorem getD_lt {α :Type} (l:List α) (i:Nat) (d: α) (h:i<l.length):l.getD i d=l[i]:=by rw[List.getD_eq_getElem?_getD,List.getElem?_eq_getElem h];rfl
theorem Ahk {α :Type} {p: α →Bool} {l:List α} (h:l.all p=true) {i:Nat} (hi:i<l.length):p l[i]=true:=List.all_eq_true.1 h _ (List.getElem_mem hi)
def Jg {E S ρ :Type} (step:E→S→Option ρ ⊕ S) (fin:S→Option ρ):List E→S→Option ρ
  | [],s=>fin s
  | e::r,s=>match step e s with
    | .inl x=>x
    | .inr s'=>Jg step fin r s'
def lN {X S ρ :Type} (b:(X→Option ρ)→Option ρ) (nx:S→X) (I:S→Prop):Option ρ ⊕ S→Prop
  | .inl x=> ∀ k,b k=x
  | .inr s'=>(∀ k,b k=k (nx s'))∧I s'
theorem Rt {X Y S E ρ :Type} {B:X→(X→Option ρ)→(Y→Option ρ)→Option ρ} {kx:Y→Option ρ} (mk:Int→S→X) (l:List E) (d:E) (I:Nat→S→Prop) (step:E→S→Option ρ ⊕ S) (fin:S→Option ρ)
    (h: ∀(i:Nat) (s:S),i<l.length→I i s→lN (fun k=>B (mk (i:Int) s) k kx) (mk ((i:Int)+1)) (I (i+1)) (step (l.getD i d) s))
    (hend: ∀(s:S) (k:X→Option ρ),I l.length s→B (mk (l.length:Int) s) k kx=fin s) (N:Nat) (s:S) (h0:I 0 s) (hN:l.length<N):Ak B N (mk 0 s) kx=Jg step fin l s:=by
  have key: ∀(n i:Nat) (s:S),I i s→i≤l.length→l.length - i<n→Ak B n (mk (i:Int) s) kx=Jg step fin (l.drop i) s:=by
    intro n
    induction n with
    | zero=>intro i s _ _ h;omega
    | succ n ih =>
      intro i s hI hi hn
      rw[mW]
      by_cases hl:i<l.length
      ·have h1:=h i s hl hI
       rw[List.drop_eq_getElem_cons hl]
       show _=(match step l[i] s with | .inl x=>x | .inr s'=>Jg step fin (l.drop (i+1)) s')
       rw[show l.getD i d=l[i] by simp [List.getD_eq_getElem?_getD,hl]]at h1
       cases hs:step l[i] s with
       | inl x=>rw[hs]at h1;exact h1 _
       | inr s' =>
         rw[hs]at h1
         obtain⟨h2,h3⟩:=h1
         exact(h2 _).trans (ih (i+1) _ h3 (by omega) (by omega))
      ·have:i=l.length:=by omega
       subst this
       rw[hend s _ hI,List.drop_length];rfl
  exact key N 0 s h0 (by omega) (by omega)
theorem Ez {X Y S E ρ :Type} {B:X→(X→Option ρ)→(Y→Option ρ)→Option ρ} {kx:Y→Option ρ} (mk:Int→S→X) (out:S→Y) (l:List E) (d:E) (I:Nat→S→Prop) (step:E→S→Option ρ ⊕ S)
    (h: ∀(i:Nat) (s:S),i<l.length→I i s→lN (fun k=>B (mk (i:Int) s) k kx) (mk ((i:Int)+1)) (I (i+1)) (step (l.getD i d) s))
    (hend: ∀(s:S) (k:X→Option ρ),I l.length s→B (mk (l.length:Int) s) k kx=kx (out s)) (N:Nat) (s:S) (h0:I 0 s) (hN:l.length<N):Ak B N (mk 0 s) kx=Jg step (fun s=>kx (out s)) l s :=
  Rt mk l d I step _ h hend N s h0 hN
def I8 {α β :Type} (f: α →Option β):List α →Option (List β)
  | []=>some []
  | a::r=>match f a,I8 f r with
    | some b,some t=>some (b::t)
    | _,_=>none
def TQ {E β S ρ :Type} (f:E→Option β) (g:S→ β →S) (bad:Option ρ) (e:E) (s:S):Option ρ ⊕ S:=(f e).elim (.inl bad) (fun b=>.inr (g s b))
theorem Amr {X E β S ρ :Type} {f:E→Option β} {g:S→ β →S} {bad:Option ρ} {e:E} {s:S} {b:(X→Option ρ)→Option ρ} {nx:S→X} {I:S→Prop} (h1:f e=none→ ∀ k,b k=bad) (h2: ∀ v,f e=some v→(∀ k,b k=k (nx (g s v)))∧I (g s v)):lN b nx I (TQ f g bad e s):=by
  unfold TQ
  cases h:f e with
  | none=>exact h1 h
  | some v=>exact h2 v h
theorem Aga {E β S ρ :Type} (f:E→Option β) (g:S→ β →S) (bad:Option ρ) (fin:S→Option ρ): ∀(l:List E) (s:S),Jg (TQ f g bad) fin l s=(I8 f l).elim bad (fun bs=>fin (bs.foldl g s)):=by
  intro l
  induction l with
  | nil=>intro s;rfl
  | cons e r ih =>
    intro s
    have h1:TQ f g bad e s=(f e).elim (.inl bad) (fun b=>.inr (g s b)):=rfl
    unfold Jg I8
    rw[h1]
    cases f e with
    | none=>rfl
    | some b =>
      show Jg (TQ f g bad) fin r (g s b)=_
      rw[ih]
      cases I8 f r<;>rfl
theorem Ake {α β :Type} (h: α → β): ∀(l:List α) (a:List β),l.foldl (fun a x=>a++[h x]) a=a++l.map h:=by
  intro l
  induction l with
  | nil=>intro a;simp
  | cons x r ih=>intro a;rw[List.foldl_cons,ih];simp
theorem vG {α β :Type} {f: α →Option β}: ∀ {l:List α} {r:List β},I8 f l=some r→r.length=l.length:=by
  intro l
  induction l with
  | nil=>intro r h;injection h with h;subst h;rfl
  | cons a t ih =>
    intro r h
    unfold I8 at h
    split at h
    ·rename_i b q h1 h2
     injection h with h;subst h
     simp [ih h2]
    ·cases h
theorem Ju {a b:Int} {q:Decidable (a<b)} (h:a<b): @decide (a<b) q=true:= @decide_eq_true _ q h
theorem Jt {a b:Int} {q:Decidable (a<b)} (h:b≤a): @decide (a<b) q=false:= @decide_eq_false _ q (by omega)
theorem Hg {a b:Int} {q:Decidable (a≤b)} (h:a≤b): @decide (a≤b) q=true:= @decide_eq_true _ q h
theorem Am6 {a b:Int} {q:Decidable (a≤b)} (h:b<a): @decide (a≤b) q=false:= @decide_eq_false _ q (by omega)
theorem xR {a b:Int} {q:Decidable (a>b)} (h:b<a): @decide (a>b) q=true:= @decide_eq_true _ q h
theorem AdY {a b:Int} {q:Decidable (a>b)} (h:a≤b): @decide (a>b) q=false:= @decide_eq_false _ q (by omega)
theorem Aov {a b:Int} {q:Decidable (a≥b)} (h:b≤a): @decide (a≥b) q=true:= @decide_eq_true _ q h
theorem Aou {a b:Int} {q:Decidable (a≥b)} (h:a<b): @decide (a≥b) q=false:= @decide_eq_false _ q (by omega)
theorem Aei {a b:Nat} {q:Decidable (a<b)} (h:a<b): @decide (a<b) q=true:= @decide_eq_true _ q h
theorem Aeh {a b:Nat} {q:Decidable (a<b)} (h:b≤a): @decide (a<b) q=false:= @decide_eq_false _ q (by omega)
theorem Eo {a b:Nat} {q:Decidable (a≤b)} (h:a≤b): @decide (a≤b) q=true:= @decide_eq_true _ q h
theorem zL {a b:Nat} {q:Decidable (a≤b)} (h:b<a): @decide (a≤b) q=false:= @decide_eq_false _ q (by omega)
theorem JF {a b:Int} (h:a=b):(a==b)=true:=by subst h;exact beq_self_eq_true _
theorem IP {a b:Int} (h:a≠b):(a==b)=false:=beq_false_of_ne h
theorem xC {a b:Int} (h:a≠b):(a != b)=true:=by unfold bne;rw[IP h];rfl
theorem Uc {a b:Int} (h:a=b):(a != b)=false:=by unfold bne;rw[JF h];rfl
theorem toNat_add (a b:Nat):((a:Int)+(b:Int)).toNat=a+b:=by omega
theorem toNat_sub (a b:Nat):((a:Int) - (b:Int)).toNat=a - b:=by omega
theorem Aj0 (a:Nat):((a:Int)+1).toNat=a+1:=by omega
theorem Aay (a:Nat):((a:Int) - 1).toNat=a - 1:=by omega
theorem AY (a:Nat):((a:Int)+1)=((a+1:Nat):Int):=rfl
theorem AlO {α :Type} (a: α):(some a).isSome=true:=rfl
theorem getD_mem {α :Type} {l:List α} {i:Nat} (d: α) (h:i<l.length):l.getD i d∈l:=by rw[getD_lt l i d h];exact List.getElem_mem h
def IG {R S ρ :Type} (x:R ⊕ S) (ret:R→Option ρ) (k:S→Option ρ):Option ρ :=match x with
  | .inl r=>ret r
  | .inr s=>k s
theorem AmM {R S ρ :Type} (r:R) (ret:R→Option ρ) (k:S→Option ρ):IG (.inl r) ret k=ret r:=rfl
theorem AaF {R S ρ :Type} (s:S) (ret:R→Option ρ) (k:S→Option ρ):IG (.inr s) ret k=k s:=rfl
theorem Ib {R S ρ :Type} (b:Bool) (x y:R ⊕ S) (ret:R→Option ρ) (k:S→Option ρ):IG (bif b then x else y) ret k=bif b then IG x ret k else IG y ret k:=by cases b<;>rfl
theorem AjN {R S ρ :Type} (b:Prop) [Decidable b] (x y:R ⊕ S) (ret:R→Option ρ) (k:S→Option ρ):IG (if b then x else y) ret k=if b then IG x ret k else IG y ret k:=by split<;>rfl
theorem xQ {R S ρ :Type} (x:R ⊕ S) (f:R→ ρ) (g:S→ ρ):IG x (fun r=>some (f r)) (fun s=>some (g s))=some (x.elim f g):=by cases x<;>rfl
def EN {E R S:Type} (step:E→S→R ⊕ S):List E→S→R ⊕ S
  | [],s=>.inr s
  | e::r,s=>match step e s with
    | .inl x=>.inl x
    | .inr s'=>EN step r s'
theorem Akz {E R S:Type} (step:E→S→R ⊕ S) (s:S):EN step [] s= .inr s:=rfl
theorem DR {E R S:Type} (step:E→S→R ⊕ S) (e:E) (l:List E) (s:S):EN step (e::l) s=(step e s).elim Sum.inl (fun s'=>EN step l s'):=by
  simp only[EN]
  cases step e s<;>rfl
theorem Jo {X Y S E R ρ :Type} {B:X→(X→Option ρ)→(Y→Option ρ)→Option ρ} {kx:Y→Option ρ} (mk:Nat→S→X) (l:List E) (d:E) (I:Nat→S→Prop) (step:E→S→R ⊕ S) (ret:R→Option ρ) (fin:S→Option ρ)
    (h: ∀(i:Nat) (s:S),i<l.length→I i s→ ∀ k,B (mk i s) k kx=IG (step (l.getD i d) s) ret fun s'=>k (mk (i+1) s'))
    (hI: ∀(i:Nat) (s s':S),i<l.length→I i s→step (l.getD i d) s= .inr s'→I (i+1) s')
    (hend: ∀(s:S) (k:X→Option ρ),I l.length s→B (mk l.length s) k kx=fin s) (N:Nat) (s:S) (h0:I 0 s) (hN:l.length<N):Ak B N (mk 0 s) kx=IG (EN step l s) ret fin:=by
  have key: ∀(n i:Nat) (s:S),I i s→i≤l.length→l.length - i<n→Ak B n (mk i s) kx=IG (EN step (l.drop i) s) ret fin:=by
    intro n
    induction n with
    | zero=>intro i s _ _ h;omega
    | succ n ih =>
      intro i s hi hil hn
      rw[mW]
      by_cases hl:i<l.length
      ·rw[h i s hl hi,List.drop_eq_getElem_cons hl]
       have hs:=hI i s
       rw[show l.getD i d=l[i]from getD_lt l i d hl]at *
       rw[DR]
       cases hst:step l[i] s with
       | inl x=>rfl
       | inr s'=>exact ih (i+1) _ (hs _ hl hi hst) (by omega) (by omega)
      ·have:i=l.length:=by omega
       subst this
       rw[hend s _ hi,List.drop_length];rfl
  exact key N 0 s h0 (by omega) (by omega)
theorem FO {X Y S E R ρ :Type} {B:X→(X→Option ρ)→(Y→Option ρ)→Option ρ} {kx:Y→Option ρ} (mk:Nat→S→X) (l:List E) (d:E) (step:E→S→R ⊕ S) (ret:R→Option ρ) (fin:S→Option ρ)
    (h: ∀(i:Nat) (s:S),i<l.length→ ∀ k,B (mk i s) k kx=IG (step (l.getD i d) s) ret fun s'=>k (mk (i+1) s'))
    (hend: ∀(s:S) (k:X→Option ρ),B (mk l.length s) k kx=fin s) (N:Nat) (s:S) (hN:l.length<N):Ak B N (mk 0 s) kx=IG (EN step l s) ret fin :=
  Jo mk l d (fun _ _=>True) step ret fin (fun i s hi _=>h i s hi) (fun _ _ _ _ _ _=>trivial) (fun s k _=>hend s k) N s trivial hN
theorem Agb {X Y E ρ :Type} {B:X→(X→Option ρ)→(Y→Option ρ)→Option ρ} {kx:Y→Option ρ} (mk:Nat→X) (out:Nat→Y) (l:List E) (d:E) (p:E→Bool)
    (h: ∀(i:Nat) (k:X→Option ρ),i<l.length→B (mk i) k kx=bif p (l.getD i d)then kx (out i)else k (mk (i+1)))
    (hend: ∀ k:X→Option ρ,B (mk l.length) k kx=kx (out l.length)) (N:Nat) (hN:l.length<N):Ak B N (mk 0) kx=kx (out (l.findIdx p)):=by
  have key: ∀(n i:Nat),i≤l.length→l.length - i<n→Ak B n (mk i) kx=kx (out (i+(l.drop i).findIdx p)):=by
    intro n
    induction n with
    | zero=>intro i _ h;omega
    | succ n ih =>
      intro i hi hn
      rw[mW]
      by_cases hl:i<l.length
      ·rw[h i _ hl,List.drop_eq_getElem_cons hl,List.findIdx_cons,show l.getD i d=l[i]from getD_lt l i d hl]
       cases p l[i]with
       | true=>rfl
       | false =>
         rw[cond_false,cond_false,ih (i+1) (by omega) (by omega)]
         congr 2;omega
      ·have:i=l.length:=by omega
       subst this
       rw[hend,List.drop_length];rfl
  have:=key N 0 (Nat.zero_le _) (by omega)
  rwa [Nat.zero_add,List.drop_zero]at this
theorem AeL {E:Type} (p:E→Bool): ∀ l:List E,(∀ x∈l,p x=false)→l.findIdx p=l.length:=by
  intro l
  induction l with
  | nil=>intro _;rfl
  | cons x r ih =>
    intro h
    rw[List.findIdx_cons,h x List.mem_cons_self,ih (fun y hy=>h y (List.mem_cons_of_mem _ hy))];rfl
theorem Ais {E:Type} (p:E→Bool): ∀(a:List E) (x:E) (r:List E),(∀ x∈a,p x=false)→p x=true→(a++x::r).findIdx p=a.length:=by
  intro a
  induction a with
  | nil=>intro x r _ h;rw[List.nil_append,List.findIdx_cons,h];rfl
  | cons y a ih =>
    intro x r h hx
    rw[List.cons_append,List.findIdx_cons,h y List.mem_cons_self,ih x r (fun y hy=>h y (List.mem_cons_of_mem _ hy)) hx];rfl
theorem jC {E R:Type} (p:E→Bool) (r:R): ∀ l:List E,EN (fun e (_:Unit)=>bif p e then .inr ()else .inl r) l ()=bif l.all p then .inr ()else .inl r:=by
  intro l
  induction l with
  | nil=>rfl
  | cons e t ih =>
    rw[DR,List.all_cons]
    cases p e with
    | true=>exact ih
    | false=>rfl
theorem Acl {E R:Type} (p:E→Bool) (r:R): ∀ l:List E,EN (fun e (_:Unit)=>bif p e then .inl r else .inr ()) l ()=bif l.any p then .inl r else .inr ():=by
  intro l
  induction l with
  | nil=>rfl
  | cons e t ih =>
    rw[DR,List.any_cons]
    cases p e with
    | true=>rfl
    | false=>exact ih
theorem Ag8 {E:Type} (f:E→Int): ∀ l:List E,EN (fun e (_:Unit)=>bif f e != 0 then .inl (f e)else .inr ()) l ()=bif Bz f l != 0 then .inl (Bz f l)else .inr ():=by
  intro l
  induction l with
  | nil=>rfl
  | cons e t ih =>
    rw[DR]
    unfold Bz
    by_cases h:f e=0
    ·rw[h,show((0:Int) != 0)=false from rfl]
     exact ih
    ·rw[if_pos h,show(f e != 0)=true from bne_iff_ne.2 h];rfl
theorem AfA {n i:Nat} (h:i<n):(List.range n).getD i 0=i:=by
  rw[getD_lt _ _ _ (by rw[List.length_range];exact h),List.getElem_range]
section
variable {X Y E ρ :Type} {B:X→(X→Option ρ)→(Y→Option ρ)→Option ρ} {kx:Y→Option ρ}
theorem Jn (mk:Nat→X) (l:List E) (d:E) (f:E→Int) (ret:Int→Option ρ) (fin:Option ρ)
    (h: ∀ i,i<l.length→ ∀ k,B (mk i) k kx=bif f (l.getD i d) != 0 then ret (f (l.getD i d))else k (mk (i+1)))
    (hend: ∀ k,B (mk l.length) k kx=fin) (N:Nat) (hN:l.length<N):Ak B N (mk 0) kx=bif Bz f l != 0 then ret (Bz f l)else fin:=by
  refine Eq.trans (FO (S:=Unit) (R:=Int) (mk:=fun i _=>mk i) l d (fun e _=>bif f e != 0 then .inl (f e)else .inr ()) ret (fun _=>fin) ?_ (fun _ k=>hend k) N () hN) ?_
  ·intro i _ hi k
   rw[h i hi,Ib];rfl
  ·rw[Ag8,Ib];rfl
theorem LG (mk:Nat→X) (n:Nat) (f:Nat→Int) (ret:Int→Option ρ) (fin:Option ρ)
    (h: ∀ i,i<n→ ∀ k,B (mk i) k kx=bif f i != 0 then ret (f i)else k (mk (i+1)))
    (hend: ∀ k,B (mk n) k kx=fin) (N:Nat) (hN:n<N):Ak B N (mk 0) kx=bif Bz f (List.range n) != 0 then ret (Bz f (List.range n))else fin:=by
  refine Jn mk (List.range n) 0 f ret fin ?_ ?_ N (by rw[List.length_range];exact hN)
  ·intro i hi k
   rw[List.length_range]at hi
   rw[AfA hi];exact h i hi k
  ·intro k;rw[List.length_range];exact hend k
theorem FT (mk:Nat→X) (l:List E) (d:E) (p:E→Bool) (x fin:Option ρ)
    (h: ∀ i,i<l.length→ ∀ k,B (mk i) k kx=bif p (l.getD i d)then x else k (mk (i+1)))
    (hend: ∀ k,B (mk l.length) k kx=fin) (N:Nat) (hN:l.length<N):Ak B N (mk 0) kx=bif l.any p then x else fin:=by
  refine Eq.trans (FO (S:=Unit) (R:=Unit) (mk:=fun i _=>mk i) l d (fun e _=>bif p e then .inl ()else .inr ()) (fun _=>x) (fun _=>fin) ?_ (fun _ k=>hend k) N () hN) ?_
  ·intro i _ hi k
   rw[h i hi,Ib];rfl
  ·rw[Acl,Ib];rfl
end
theorem first_some (e:Int):(bif e != 0 then some e else some 0)=some e:=by
  by_cases h:e=0
  ·subst h;rfl
  ·rw[show(e != 0)=true from bne_iff_ne.2 h];rfl
theorem Bd {α :Type} (b:Bool) (x y: α):(bif b then some x else some y)=some (bif b then x else y):=by cases b<;>rfl
theorem AcK {E:Type} (f:E→Int): ∀ a b:List E,Bz f (a++b)=bif Bz f a != 0 then Bz f a else Bz f b:=by
  intro a
  induction a with
  | nil=>intro b;rfl
  | cons x r ih =>
    intro b
    show(if f x≠0 then f x else Bz f (r++b))=bif (if f x≠0 then f x else Bz f r) != 0 then(if f x≠0 then f x else Bz f r)else Bz f b
    by_cases h:f x=0
    ·rw[if_neg (fun hn=>hn h),if_neg (fun hn=>hn h)];exact ih b
    ·rw[if_pos h,if_pos h,show(f x != 0)=true from bne_iff_ne.2 h];rfl
theorem I4 {E:Type} (f:E→Int) (x:E) (r:List E):Bz f (x::r)=bif f x != 0 then f x else Bz f r:=by
  show(if f x≠0 then f x else Bz f r)=_
  by_cases h:f x=0
  ·rw[if_neg (fun hn=>hn h),h];rfl
  ·rw[if_pos h,show(f x != 0)=true from bne_iff_ne.2 h];rfl
theorem Ac6 {α :Type} (l:List α) (d: α) {i j:Nat} (h:j<i):(l.take i).getD j d=l.getD j d:=by
  rw[List.getD_eq_getElem?_getD,List.getElem?_take,if_pos h, ←List.getD_eq_getElem?_getD]
theorem Ot {α :Type} (l:List α) (i:Nat):AO l 0 i=l.take i:=rfl
section
variable {X Y E A ρ :Type} {B:X→(X→Option ρ)→(Y→Option ρ)→Option ρ} {kx:Y→Option ρ}
theorem AiI (er:E→Int) (g:E→A): ∀(l:List E) (acc:List A),EN (fun e (acc:List A)=>bif er e != 0 then Sum.inl (er e)else Sum.inr (acc++[g e])) l acc=bif Bz er l != 0 then .inl (Bz er l)else .inr (acc++l.map g):=by
  intro l
  induction l with
  | nil=>intro acc;rw[List.map_nil,List.append_nil];rfl
  | cons e r ih =>
    intro acc
    rw[DR,I4]
    cases h:er e != 0 with
    | true=>rw[cond_true,cond_true,h];rfl
    | false =>
      rw[cond_false,cond_false]
      show EN _ r (acc++[g e])=_
      rw[ih,List.append_assoc];rfl
theorem AlJ (mk:Nat→List A→X) (l:List E) (d:E) (er:E→Int) (g:E→A) (ret:Int→Option ρ) (fin:List A→Option ρ)
    (h: ∀(i:Nat) (acc:List A),i<l.length→acc.length=i→ ∀ k,B (mk i acc) k kx=bif er (l.getD i d) != 0 then ret (er (l.getD i d))else k (mk (i+1) (acc++[g (l.getD i d)])))
    (hend: ∀(acc:List A) (k:X→Option ρ),acc.length=l.length→B (mk l.length acc) k kx=fin acc) (N:Nat) (hN:l.length<N):Ak B N (mk 0 []) kx=bif Bz er l != 0 then ret (Bz er l)else fin (l.map g):=by
  refine(Jo (S:=List A) (R:=Int) mk l d (fun i acc=>acc.length=i) (fun e acc=>bif er e != 0 then .inl (er e)else .inr (acc++[g e])) ret fin ?_ ?_ (fun acc k ha=>hend acc k ha) N [] rfl hN).trans ?_
  ·intro i acc hi ha k
   rw[h i acc hi ha,Ib];rfl
  ·intro i acc acc' hi ha he
   cases hb:er (l.getD i d) != 0 with
   | true=>rw[hb]at he;cases he
   | false =>
     rw[hb]at he;injection he with he;subst he
     rw[List.length_append,ha];rfl
  ·rw[AiI,Ib,List.nil_append];rfl
theorem AeM: ∀ l:List E,Bz (fun _=>(0:Int)) l=0:=by
  intro l
  induction l with
  | nil=>rfl
  | cons e r ih=>rw[I4];exact ih
theorem KW (mk:Nat→List A→X) (l:List E) (d:E) (g:E→A) (fin:List A→Option ρ)
    (h: ∀(i:Nat) (acc:List A),i<l.length→acc.length=i→ ∀ k,B (mk i acc) k kx=k (mk (i+1) (acc++[g (l.getD i d)])))
    (hend: ∀(acc:List A) (k:X→Option ρ),acc.length=l.length→B (mk l.length acc) k kx=fin acc) (N:Nat) (hN:l.length<N):Ak B N (mk 0 []) kx=fin (l.map g):=by
  refine(AlJ mk l d (fun _=>0) g (fun _=>none) fin (fun i acc hi ha k=>h i acc hi ha k) hend N hN).trans ?_
  rw[AeM];rfl
theorem AbY (g:E→Bs) (l:List E) (d:E) {i:Nat} (h:i<l.length):((l.take i).map g).flatten++g (l.getD i d)=((l.take (i+1)).map g).flatten:=by
  rw[getD_lt l i d h,List.take_add_one,List.getElem?_eq_getElem h,List.map_append,List.flatten_append]
  simp
theorem AmU (g:E→Bs) (l:List E) (i:Nat):((l.take i).map g).flatten.length≤(l.map g).flatten.length:=by
  conv=>rhs;rw[← List.take_append_drop i l,List.map_append,List.flatten_append,List.length_append]
  omega
theorem rQ (mk:Nat→Bs→X) (l:List E) (d:E) (er:E→Int) (g:E→Bs) (ret:Int→Option ρ) (fin:Bs→Option ρ)
    (h: ∀(i:Nat) (t:Bs),i<l.length→t.length+(g (l.getD i d)).length≤(l.map g).flatten.length→ ∀ k,B (mk i t) k kx=bif er (l.getD i d) != 0 then ret (er (l.getD i d))else k (mk (i+1) (t++g (l.getD i d))))
    (hend: ∀(t:Bs) (k:X→Option ρ),B (mk l.length t) k kx=fin t) (N:Nat) (hN:l.length<N):Ak B N (mk 0 []) kx=bif Bz er l != 0 then ret (Bz er l)else fin (l.map g).flatten:=by
  refine(Jo (S:=Bs) (R:=Int) mk l d (fun i t=>t=((l.take i).map g).flatten) (fun e t=>bif er e != 0 then .inl (er e)else .inr (t++g e)) ret fin ?_ ?_ (fun t k _=>hend t k) N [] rfl hN).trans ?_
  ·intro i t hi ht k
   rw[h i t hi ?_,Ib]
   ·rfl
   ·rw[ht, ←List.length_append,AbY g l d hi]
    exact AmU g l (i+1)
  ·intro i t t' hi ht he
   cases hb:er (l.getD i d) != 0 with
   | true=>rw[hb]at he;cases he
   | false =>
     rw[hb]at he;injection he with he
     rw[← he,ht,AbY g l d hi]
  ·have: ∀(l:List E) (t:Bs),EN (fun e (t:Bs)=>bif er e != 0 then Sum.inl (er e)else Sum.inr (t++g e)) l t=bif Bz er l != 0 then .inl (Bz er l)else .inr (t++(l.map g).flatten):=by
     intro l
     induction l with
     | nil=>intro t;simp [Akz,Bz]
     | cons e r ih =>
       intro t
       rw[DR,I4]
       cases h:er e != 0 with
       | true=>rw[cond_true,cond_true,h];rfl
       | false=>rw[cond_false,cond_false,List.map_cons,List.flatten_cons, ←List.append_assoc, ←ih];rfl
   rw[this,Ib,List.nil_append];rfl
theorem Qj (mk:Nat→Bs→X) (l:List E) (d:E) (g:E→Bs) (fin:Bs→Option ρ)
    (h: ∀(i:Nat) (t:Bs),i<l.length→t.length+(g (l.getD i d)).length≤(l.map g).flatten.length→ ∀ k,B (mk i t) k kx=k (mk (i+1) (t++g (l.getD i d))))
    (hend: ∀(t:Bs) (k:X→Option ρ),B (mk l.length t) k kx=fin t) (N:Nat) (hN:l.length<N):Ak B N (mk 0 []) kx=fin (l.map g).flatten:=by
  refine(rQ mk l d (fun _=>0) g (fun _=>none) fin (fun i t hi ht k=>h i t hi ht k) hend N hN).trans ?_
  rw[AeM];rfl
theorem O5 {f:E→Int}: ∀ {l:List E},Bz f l=0→ ∀ e∈l,f e=0:=by
  intro l
  induction l with
  | nil=>intro _ e he;cases he
  | cons x r ih =>
    intro h e he
    rw[I4]at h
    cases hx:f x != 0 with
    | true=>rw[hx]at h;rw[show f x=0 from h]at hx;cases hx
    | false =>
      rw[hx]at h
      rcases List.mem_cons.1 he with rfl | he
      ·simpa using hx
      ·exact ih h e he
theorem Dk {g:E→Bs} {M:Nat}: ∀ {l:List E},(∀ e∈l,(g e).length≤M)→(l.map g).flatten.length≤M*l.length:=by
  intro l
  induction l with
  | nil=>intro _;simp
  | cons e r ih =>
    intro h
    have h1:=h e List.mem_cons_self
    have h2:=ih fun e he=>h e (List.mem_cons_of_mem _ he)
    rw[List.map_cons,List.flatten_cons,List.length_append,List.length_cons,Nat.mul_succ]
    omega
end
theorem AmC (x y:Bool):(!x|| !y&&x||y)=true:=by cases x<;>cases y<;>rfl
theorem Aen (x y:Bool):(x|| !y&& !x||y)=true:=by cases x<;>cases y<;>rfl
theorem BC {α :Type} {c:Bool} {a x y: α} (h:c=false→x=y):(bif c then a else x)=bif c then a else y:=by
  cases c with
  | true=>rfl
  | false=>exact h rfl
set_option linter.defProp false in
def Aw:=And.intro @Ahy (And.intro @Oz (And.intro @Aj (And.intro @Ae (And.intro @cond_true.{1} (And.intro @cond_false.{1} (And.intro @Ju (And.intro @Jt (And.intro @Hg (And.intro @Am6 (And.intro @xR (And.intro @AdY (And.intro @Aov (And.intro @Aou (And.intro @Aei (And.intro @Aeh (And.intro @Eo (And.intro @zL (And.intro @JF (And.intro @IP (And.intro @xC (And.intro @Uc (And.intro @w64 (And.intro @Int.toNat_natCast (And.intro @toNat_add (And.intro @toNat_sub (And.intro @Aj0 (And.intro @Aay (And.intro @Bool.true_or (And.intro @Bool.or_true (And.intro @Bool.false_or (And.intro @Bool.or_false (And.intro @Bool.true_and (And.intro @Bool.and_true (And.intro @Bool.false_and (And.intro @Bool.and_false (And.intro @Bool.not_true (And.intro @Bool.not_false (And.intro @Bool.not_not (And.intro @Bool.or_not_self (And.intro @Bool.not_or_self (And.intro @Bool.cond_self.{1} (And.intro @Bool.cond_true_left (And.intro @Bool.cond_false_left (And.intro @Bool.cond_true_right (And.intro @Bool.cond_false_right (And.intro @Bool.or_self (And.intro @Bool.and_self (And.intro @AmM (And.intro @AaF (And.intro @Ib (And.intro @AjN (And.intro @U2.eq_1 (And.intro @U3.eq_1 (And.intro @U4.eq_1 (And.intro @U5.eq_1 (And.intro @U6.eq_1 (And.intro @U7.eq_1 (And.intro @U8.eq_1 (And.intro @U9.eq_1 (@U10.eq_1))))))))))))))))))))))))))))))))))))))))))))))))))))))))))))
end Go.Proofs.YtadefjgbcapakaaGreatDoor.Vm
namespace Go.Proofs.YtadefjgbcapakaaGreatDoor.Pl
open IntKind (i64)
open Go Vm
def leB (a b:Bs):Bool:=Vm.bytesLess a b||a==b
theorem Akw (a b:Bs):leB a b=decide (a≤b):=by
  unfold leB Vm.bytesLess
  rw[bytesLess_eq]
  by_cases h:a=b
  ·subst h
   rw[beq_self_eq_true,Bool.or_true]
   exact(decide_eq_true (List.le_refl a)).symm
  ·rw[beq_false_of_ne h,Bool.or_false]
   by_cases h2:a<b
   ·rw[decide_eq_true h2,decide_eq_true (List.le_of_lt h2)]
   ·rw[decide_eq_false h2,decide_eq_false]
    intro h3
    exact h (List.le_antisymm h3 (by simpa using h2))
def MN (x:Bs):List Bs→List Bs
  | []=>[x]
  | y::r=>bif leB y x then y::MN x r else x::y::r
theorem Zc (x:Bs): ∀ s:List Bs,(MN x s).Perm (x::s):=by
  intro s
  induction s with
  | nil=>exact List.Perm.refl _
  | cons y r ih =>
    show(bif leB y x then y::MN x r else x::y::r).Perm _
    cases leB y x with
    | true=>exact(List.Perm.cons y ih).trans (List.Perm.swap x y r)
    | false=>exact List.Perm.refl _
theorem AlL (x:Bs): ∀ s:List Bs,s.Pairwise (fun a b=>a≤b)→(MN x s).Pairwise (fun a b=>a≤b):=by
  intro s
  induction s with
  | nil=>intro _;exact List.pairwise_singleton _ _
  | cons y r ih =>
    intro h
    rw[List.pairwise_cons]at h
    show(bif leB y x then y::MN x r else x::y::r).Pairwise _
    cases hl:leB y x with
    | true =>
      rw[Akw,decide_eq_true_eq]at hl
      rw[cond_true,List.pairwise_cons]
      refine⟨fun z hz=> ?_,ih h.2⟩
      rcases List.mem_cons.1 ((Zc x r).mem_iff.1 hz)with rfl | hz
      ·exact hl
      ·exact h.1 z hz
    | false =>
      rw[Akw,decide_eq_false_iff_not]at hl
      have hxy:x≤y:=by
        rcases List.le_total x y with h | h
        ·exact h
        ·exact absurd h hl
      rw[cond_false,List.pairwise_cons,List.pairwise_cons]
      refine⟨fun z hz=> ?_,h⟩
      rcases List.mem_cons.1 hz with rfl | hz
      ·exact hxy
      ·exact List.le_trans hxy (h.1 z hz)
theorem AeP: ∀(l s:List Bs),s.Pairwise (fun a b=>a≤b)→(l.foldl (fun s x=>MN x s) s).Pairwise (fun a b=>a≤b)∧(l.foldl (fun s x=>MN x s) s).Perm (l++s):=by
  intro l
  induction l with
  | nil=>intro s h;exact⟨h,List.Perm.refl _⟩
  | cons x r ih =>
    intro s h
    obtain⟨h1,h2⟩:=ih (MN x s) (AlL x s h)
    refine⟨h1,h2.trans ?_⟩
    exact((Zc x s).append_left r).trans List.perm_middle
theorem Amc (l:List Bs):(l.foldl (fun s x=>MN x s) []).flatten=GU l:=by
  unfold GU
  congr 1
  obtain⟨h1,h2⟩:=AeP l [] List.Pairwise.nil
  rw[List.append_nil]at h2
  refine List.Perm.eq_of_pairwise (le:=fun a b=>a≤b) (fun a b _ _ h3 h4=>List.le_antisymm h3 h4) h1 ?_ (h2.trans (List.mergeSort_perm l _).symm)
  have:=List.pairwise_mergeSort (le:=fun x y:Bs=>decide (x≤y)) (fun a b c h3 h4=>by
    rw[decide_eq_true_eq]at *
    exact List.le_trans h3 h4) (fun a b=>by
    rw[Bool.or_eq_true,decide_eq_true_eq,decide_eq_true_eq]
    exact List.le_total a b) l
  exact this.imp (fun h=>by simpa using h)
theorem AmZ (x:Bs): ∀ s:List Bs,s.take (s.findIdx fun y=> !leB y x)++x::s.drop (s.findIdx fun y=> !leB y x)=MN x s:=by
  intro s
  induction s with
  | nil=>rfl
  | cons y r ih =>
    rw[List.findIdx_cons]
    show _=bif leB y x then y::MN x r else x::y::r
    cases leB y x with
    | true=>rw[Bool.not_true,cond_false,cond_true,List.take_succ_cons,List.drop_succ_cons,List.cons_append,ih]
    | false=>rfl
theorem Ab5 (N:Nat) (l:List Bs) (hN:1048578<N) (hl:l.length≤1048576) (hf:l.flatten.length≤1099511627776):QK N l=some (GU l):=by
  unfold QK
  try simp only[clR]
  refine(Jo (S:=List Bs) (R:=Unit) (mk:=fun i s=>((i:Int),s)) l [] (fun i s=>s.length=i∧s=(l.take i).foldl (fun s x=>MN x s) []) (fun x s=>.inr (MN x s)) (fun _=>none) (fun s=>some s.flatten) ?_ ?_ ?_ N [] ⟨rfl,rfl⟩ (by omega)).trans ?_
  ·intro i s hi hI k
   obtain⟨hs,_⟩:=hI
   have hp:(MN (l.getD i []) s).length=i+1:=by rw[(Zc _ s).length_eq,List.length_cons,hs]
   simp (disch:=first | assumption | omega) only[Aw]
   refine(Agb (mk:=fun j=>((j:Int),s)) (out:=fun j=>((j:Int),s)) s [] (fun y=> !leB y (l.getD i [])) ?_ ?_ N (by omega)).trans ?_
   ·intro j k hj
    simp (disch:=first | assumption | omega) only[Aw,AY]
    unfold leB
    cases (Vm.bytesLess (s.getD j []) (l.getD i [])||s.getD j []==l.getD i [])<;>rfl
   ·intro k
    simp (disch:=first | assumption | omega) only[Aw]
   ·have hc:=AmZ (l.getD i []) s
    have hle:(s.findIdx fun y=> !leB y (l.getD i []))≤s.length:=List.findIdx_le_length
    generalize (s.findIdx fun y=> !leB y (l.getD i []))=m at hc hle
    have hc1:AO s 0 m=s.take m:=rfl
    have hc2:AO s m s.length=s.drop m:=by unfold AO;rw[List.take_length]
    have hl1:(s.take m).length=m:=by rw[List.length_take];omega
    have hl2:(s.drop m).length=s.length - m:=List.length_drop ..
    have hl3:(s.take m++[l.getD i []]).length=m+1:=by rw[List.length_append,hl1];rfl
    simp (disch:=first | assumption | omega) only[Aw,hc1,hc2,hl1,hl2,hl3,AY]
    rw[List.append_assoc,List.singleton_append,hc]
  ·intro i s s' hi hI he
   injection he with he
   subst he
   refine⟨by rw[(Zc _ s).length_eq,List.length_cons,hI.1],?_⟩
   rw[hI.2,List.take_add_one,List.getElem?_eq_getElem hi,List.foldl_append,getD_lt l i _ hi];rfl
  ·intro s k hI
   have hp:s.flatten.length≤1099511627776:=by
     have:=(AeP l [] List.Pairwise.nil).2
     rw[List.append_nil]at this
     have h2:=hI.2
     rw[List.take_length]at h2
     rw[← h2]at this
     have h3:=(this.map List.length).sum_nat
     rw[List.length_flatten]at hf ⊢
     omega
   have hsl:=hI.1
   simp (disch:=first | assumption | omega) only[Aw]
   refine(Qj (mk:=fun i t=>(t,(i:Int),s)) s [] id some ?_ ?_ N (by omega)).trans ?_
   ·intro i t hi ht k
    rw[List.map_id]at ht
    have ht:t.length+(s.getD i []).length≤s.flatten.length:=ht
    simp (disch:=first | assumption | omega) only[Aw,AY]
    rfl
   ·intro t k
    simp (disch:=first | assumption | omega) only[Aw]
   ·rw[List.map_id]
  ·have: ∀(l s:List Bs),EN (R:=Unit) (fun x (s:List Bs)=>.inr (MN x s)) l s= .inr (l.foldl (fun s x=>MN x s) s):=by
     intro l
     induction l with
     | nil=>intro s;rfl
     | cons x r ih=>intro s;rw[DR];exact ih _
   rw[this,AaF,Amc]
