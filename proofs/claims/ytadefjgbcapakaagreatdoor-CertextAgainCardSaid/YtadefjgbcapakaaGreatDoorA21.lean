import Derived.Test.YtadefjgbcapakaaGreatDoorA20
import Derived.Lib.TrimUEq
set_option linter.all false
namespace Go.Proofs.YtadefjgbcapakaaGreatDoor.Pl
open IntKind (i64)
open Go Vm
theorem AaO (lim:Nat): ∀(s:Bs) (cur:Nat) (mid:Bool) (acc l:List Nat),Fp lim s cur mid acc=some l-> ∃ t,l=acc++t:=by
  intro s
  induction s with
  | nil =>
    intro cur mid acc l h
    cases mid with
    | true=>cases h
    | false=>injection h with h;exact⟨[],by rw[List.append_nil];exact h.symm⟩
  | cons b r ih =>
    intro cur mid acc l h
    rw[Ir]at h
    split at h
    ·cases h
    ·split at h
     ·cases h
     ·split at h
      ·exact ih _ _ _ _ h
      ·obtain⟨t,rfl⟩:=ih _ _ _ _ h
       exact⟨_,List.append_assoc _ _ _⟩
theorem AjD (lim m:Nat): ∀(s:Bs) (v:Nat) (acc l:List Nat),m<v->Fp lim s v true acc=some l-> ∃ x∈l,m<x:=by
  intro s
  induction s with
  | nil=>intro v acc l _ h;cases h
  | cons b r ih =>
    intro v acc l hv h
    rw[Ir]at h
    split at h
    ·cases h
    ·split at h
     ·cases h
     ·split at h
      ·exact ih _ _ _ (by omega) h
      ·obtain⟨t,rfl⟩:=AaO _ _ _ _ _ _ h
       exact⟨_,List.mem_append_left _ (List.mem_append_right _ List.mem_cons_self),by omega⟩
def upTo (m:Nat) (l:List Nat):Option (List Nat):=if ∀ x∈l,x<=m then some l else none
theorem AjE (lim m:Nat) (hm:m<=lim): ∀(s:Bs) (cur:Nat) (mid:Bool) (acc:List Nat),(∀ x∈acc,x<=m)->Fp m s cur mid acc=(Fp lim s cur mid acc).bind (upTo m):=by
  intro s
  induction s with
  | nil =>
    intro cur mid acc ha
    cases mid with
    | true=>rfl
    | false=>show some acc=upTo m acc;unfold upTo;rw[if_pos ha]
  | cons b r ih =>
    intro cur mid acc ha
    rw[Ir,Ir]
    by_cases h1:mid=false/\b.toNat=128
    ·rw[if_pos h1,if_pos h1];rfl
    ·rw[if_neg h1,if_neg h1]
     by_cases h2:lim<cur*128+b.toNat % 128
     ·rw[if_pos h2,if_pos (by omega)];rfl
     ·rw[if_neg h2]
      by_cases h3:m<cur*128+b.toNat % 128
      ·rw[if_pos h3]
       have key: ∀ q:Option (List Nat),(∀ l,q=some l-> ∃ x∈l,m<x)->none=q.bind (upTo m):=by
         intro q hq
         cases q with
         | none=>rfl
         | some l =>
           obtain⟨x,h4,h5⟩:=hq l rfl
           show none=upTo m l
           unfold upTo
           rw[if_neg (fun h=>by have:=h x h4;omega)]
       refine key _ fun l hl=> ?_
       split at hl
       ·exact AjD _ _ _ _ _ _ h3 hl
       ·obtain⟨t,rfl⟩:=AaO _ _ _ _ _ _ hl
        exact⟨_,List.mem_append_left _ (List.mem_append_right _ List.mem_cons_self),h3⟩
      ·rw[if_neg h3]
       split
       ·exact ih _ _ _ ha
       ·refine ih _ _ _ fun x hx=> ?_
        rcases List.mem_append.1 hx with hx | hx
        ·exact ha x hx
        ·rw[List.mem_singleton]at hx;omega
def two (l:List Nat):List Nat:=match l with
  | []=>[]
  | n::t=>(if 2<n / 40 then 2 else n / 40)::(n - 40*(if 2<n / 40 then 2 else n / 40))::t
def wV (a:List Nat):Bs:=([46]:Bs).intercalate (a.map dd)
theorem AgO (x y:Bs) (r:List Bs):([46]:Bs).intercalate (x::y::r)=x++46::([46]:Bs).intercalate (y::r):=by
  simp [List.intercalate]
theorem An9 {l:List Nat} (h:l≠ []):(two l).length=l.length+1:=by
  cases l with
  | nil=>exact absurd rfl h
  | cons n t=>rfl
theorem AoY {l:List Nat} {m:Nat} (hm:2<=m) (h: ∀ x∈l,x<m): ∀ x∈two l,x<m+1:=by
  cases l with
  | nil=>intro x hx;cases hx
  | cons n t =>
    intro x hx
    have hn:=h n List.mem_cons_self
    rcases List.mem_cons.1 hx with rfl | hx
    ·split<;>omega
    ·rcases List.mem_cons.1 hx with rfl | hx
     ·omega
     ·have:=h x (List.mem_cons_of_mem _ hx);omega
def Oq (s:Bs):Option (List Nat):=(Fp 4294967294 s 0 false []).bind fun l=>if l.length=0\/11<l.length then none else upTo 2147483647 (two l)
def JG:Option (List Nat)->Bs×Int
  | none=>([],11)
  | some a=>(wV a,0)
theorem AlA {lim:Nat} {s:Bs} {l:List Nat} (h:Fp lim s 0 false []=some l): ∀ x∈l,x<=lim:=by
  have h1:=AjE lim lim (Nat.le_refl _) s 0 false [] (fun x hx=>by cases hx)
  rw[h]at h1
  have h2:some l=upTo lim l:=h1
  unfold upTo at h2
  split at h2
  ·assumption
  ·cases h2
theorem Aej: ∀(a:List Nat),(∀ x∈a,x<10000000000)->(wV a).length<=11*a.length:=by
  intro a
  induction a with
  | nil=>intro _;exact Nat.le_refl _
  | cons n r ih =>
    intro h
    have h1:=AnX 9 n (by have:=h n List.mem_cons_self;omega)
    cases r with
    | nil =>
      show(([46]:Bs).intercalate [dd n]).length<=_
      rw[show([46]:Bs).intercalate [dd n]=dd n by simp [List.intercalate]]
      simp only[List.length_singleton];omega
    | cons m r =>
      have h2:=ih (fun x hx=>h x (List.mem_cons_of_mem _ hx))
      show(([46]:Bs).intercalate (dd n::dd m::r.map dd)).length<=_
      rw[AgO,List.length_append,List.length_cons]
      unfold wV at h2
      rw[List.map_cons]at h2
      simp only[List.length_cons]at h2 ⊢
      omega
theorem Ajn (l:List Nat) (k:Nat):AA (ints l) k (ints l).length=ints (l.drop k):=by
  unfold AA ints
  rw[List.take_length,List.map_drop]
def Adt (n:Nat):Option Bs:=if n<=2147483647 then some (dd n)else none
theorem Al3: ∀ a:List Nat,H7 Adt a=(upTo 2147483647 a).map (List.map dd):=by
  intro a
  induction a with
  | nil=>rfl
  | cons n r ih =>
    rw[Vy,ih]
    unfold Adt upTo
    by_cases h1:n<=2147483647
    ·rw[if_pos h1]
     by_cases h2: ∀ x∈r,x<=2147483647
     ·rw[if_pos h2,if_pos (fun x hx=>(List.mem_cons.1 hx).elim (fun e=>e▸h1) (h2 x))];rfl
     ·rw[if_neg h2,if_neg (fun h=>h2 fun x hx=>h x (List.mem_cons_of_mem _ hx))];rfl
    ·rw[if_neg h1,if_neg (show ¬ ∀ x∈n::r,x<=2147483647 from fun h=>h1 (h n List.mem_cons_self))];rfl
theorem An8 (n:Nat) (hn:n<=4294967294):(bif decide ((2:Int)<i64.wrap (((n:Nat):Int).tdiv 40))then(2:Int)else i64.wrap (((n:Nat):Int).tdiv 40))=(((if 2<n / 40 then 2 else n / 40:Nat)):Int):=by
  rw[show((n:Int)).tdiv 40=((n / 40:Nat):Int)from rfl,w64 (by omega) (by omega)]
  by_cases h:2<n / 40
  ·rw[decide_eq_true (by omega),if_pos h];rfl
  ·rw[decide_eq_false (by omega),if_neg h];rfl
theorem Amd (n:Nat) (hn:n<=4294967294):i64.wrap (((n:Nat):Int) - i64.wrap (40*(((if 2<n / 40 then 2 else n / 40:Nat)):Int)))=((n - 40*(if 2<n / 40 then 2 else n / 40):Nat):Int):=by
  have h:40*(if 2<n / 40 then 2 else n / 40)<=n:=by split<;>omega
  have h2:(if 2<n / 40 then 2 else n / 40)<=2:=by split<;>omega
  generalize (if 2<n / 40 then 2 else n / 40)=q at *
  rw[w64 (x:=40*(q:Int)) (by omega) (by omega),w64 (by omega) (by omega)]
  omega
theorem Np (N:Nat) (s:Bs) (hs:s.length<=1048576) (hN:s.length+1<N) (hN2:16<N):OH N s=some (JG (Oq s)):=by
  unfold OH
  try simp only[clR]
  rw[Aab N s hs hN]
  unfold Oq
  cases hsc:Fp 4294967294 s 0 false []with
  | none=>rfl
  | some l =>
    have hle:=AlA hsc
    rw[show numO (some l)=some (ints l)from rfl,Ae,DW]
    show _=some (JG (if l.length=0\/11<l.length then none else upTo 2147483647 (two l)))
    by_cases h0:l.length=0\/11<l.length
    ·rw[if_pos h0,show(((l.length:Nat):Int)==0||decide ((l.length:Int)>11))=true by
       rcases h0 with h0 | h0
       ·rw[h0];rfl
       ·rw[decide_eq_true (by omega),Bool.or_true]]
     rfl
    ·have hb:(((l.length:Nat):Int)==0||decide ((l.length:Int)>11))=false:=by
       rw[decide_eq_false (by omega),Bool.or_false]
       apply Bool.eq_false_iff.2
       intro h
       have:=eq_of_beq h
       omega
     rw[if_neg h0,hb,cond_false]
     obtain⟨n,t,rfl⟩: ∃ n t,l=n::t:=by
       cases l with
       | nil=>exact absurd (Or.inl rfl) h0
       | cons n t=>exact⟨n,t,rfl⟩
     have hn:=hle n List.mem_cons_self
     simp only[List.length_cons]at h0
     have hc:AA (ints (n::t)) 1 (n::t).length=ints t:=by rw[<- DW (n::t),Ajn];rfl
     rw[hc,show(ints (n::t)).getD 0 0=(n:Int)from rfl,An8 n hn,Amd n hn]
     have he: [(((if 2<n / 40 then 2 else n / 40:Nat)):Int),((n - 40*(if 2<n / 40 then 2 else n / 40):Nat):Int)]++ints t=ints (two (n::t)):=rfl
     rw[he]
     have h2l:=An9 (l:=n::t) (by simp)
     have h2m:=AoY (m:=4294967295) (by omega) (fun x hx=>by have:=hle x hx;omega) (l:=n::t)
     simp only[List.length_cons]at h2l
     rw[decide_eq_true (by simp only[List.length_cons];omega),AP,AP,decide_eq_true (by simp only[List.length_cons];omega),AP,decide_eq_true (by rw[DW];omega),AP]
     generalize two (n::t)=e at *
     refine Eq.trans (J4 (S:=List Bs) (mk:=fun i a=>(i,ints e,a)) (out:=fun a=>a) e 0 (fun i a=>a.length=i) (SH Adt (fun a v=>a++[v]) (some ([],11))) ?_ ?_ N [] rfl (by omega)) ?_
     ·intro i a hi ha
      rw[getD_lt e i 0 hi]
      have hx:=h2m e[i] (List.getElem_mem hi)
      have key: ∀(A:Option (Bs×Int)) (K:Int->Option (Bs×Int)),(bif decide ((i:Int)<((ints e).length:Int))then Vm.chk (decide (0<=(i:Int))) (Vm.chk (decide ((i:Int)<((ints e).length:Int))) (Vm.chk (decide ((i:Int).toNat<(ints e).length)) (K ((ints e).getD (i:Int).toNat 0))))else A)=K ((e[i]:Nat):Int):=by
        intro A K
        rw[DW,decide_eq_true (by omega),cond_true,decide_eq_true (by omega),AP,AP,show((i:Int)).toNat=i by omega,decide_eq_true (by omega),AP,Vr,getD_lt e i 0 hi]
      refine Aef (fun hv k=> ?_) (fun v hv=>⟨fun k=> ?_,by simp [ha]⟩)
      ·unfold Adt at hv
       split at hv
       ·cases hv
       ·dsimp only[U3]
        refine(key _ (fun y=>bif decide (y>2147483647)then some ([],11)else _)).trans ?_
        rw[decide_eq_true (by omega),cond_true]
      ·unfold Adt at hv
       split at hv
       ·injection hv with hv;subst hv
        dsimp only[U3]
        refine(key _ (fun y=>bif decide (y>2147483647)then some ([],11)else Ac (strconv_Itoa N y) _)).trans ?_
        rw[decide_eq_false (by omega),cond_false,Am8 N _ (by omega),Ae,decide_eq_true (by omega),AP,w64 (by omega) (by omega)]
       ·cases hv
     ·intro a k ha
      show(bif decide ((e.length:Int)<((ints e).length:Int))then _ else _)=_
      rw[DW,decide_eq_false (by omega),cond_false]
     ·rw[AdZ,Al3]
      have hf: ∀ l:List Bs,l.foldl (fun(a:List Bs) (v:Bs)=>a++[v]) []=l:=by
        intro l
        rw[AaA (fun x=>x),List.nil_append,List.map_id']
      unfold upTo
      by_cases hu: ∀ x∈e,x<=2147483647
      ·rw[if_pos hu]
       dsimp only[Option.map,Option.elim]
       rw[hf]
       have htl:=Aej e (fun x hx=>by have:=hu x hx;omega)
       unfold wV at htl
       unfold strings_Join
       rw[List.length_map,decide_eq_true (by omega),decide_eq_true (by omega)]
       rfl
      ·rw[if_neg hu];rfl
def cc (acc:List Nat):Nat:=if acc=[]then 0 else acc.length+1
theorem jD {E ρ :Type} (p:E->Bool) (bad:Option ρ) (fin:Unit->Option ρ): ∀ l:List E,IG (fun e (_:Unit)=>if p e=true then .inr ()else .inl bad) fin l ()=if l.all p=true then fin ()else bad:=by
  intro l
  induction l with
  | nil=>rfl
  | cons e r ih =>
    rw[List.all_cons]
    unfold IG
    by_cases h:p e=true
    ·rw[if_pos h,h,Bool.true_and];exact ih
    ·rw[if_neg h,if_neg (by simp [h])]
theorem SI {X E ρ :Type} {p:E->Bool} {bad:Option ρ} {e:E} {b:(X->Option ρ)->Option ρ} {nx:Unit->X} {I:Unit->Prop} (h0:p e=false-> ∀ k,b k=bad) (h1:p e=true->(∀ k,b k=k (nx ()))/\I ()):gX b nx I (if p e=true then .inr ()else .inl bad):=by
  cases h:p e with
  | true=>rw[if_pos rfl];exact h1 h
  | false=>rw[if_neg (by decide)];exact h0 h
def Ap0:Bs:=[32,39,40,41,43,44,45,46,47,58,61,63]
def aT (c:UInt8):Bool:=(decide (97<=c.toNat)&&decide (c.toNat<=122))||(decide (65<=c.toNat)&&decide (c.toNat<=90))||(decide (48<=c.toNat)&&decide (c.toNat<=57))
def prC (c:UInt8):Bool:=aT c||Ap0.any (· ==c)
def iaC (c:UInt8):Bool:=decide (32<=c.toNat)&&decide (c.toNat<=126)
theorem xE {P:UInt8->Prop} (h: ∀ n:Fin 256,P (UInt8.ofNat n.val)) (c:UInt8):P c:=by
  have:=h ⟨c.toNat,UInt8.toNat_lt c⟩
  rwa [UInt8.ofNat_toNat]at this
theorem AfQ (N:Nat) (c:UInt8):Jk N (c.toNat:Int)=some (prC c):=by
  refine xE (P:=fun c=>Jk N (c.toNat:Int)=some (prC c)) ?_ c
  show ∀ n:Fin 256,Jk 0 ((UInt8.ofNat n.val).toNat:Int)=some (prC (UInt8.ofNat n.val))
  decide +kernel
theorem AfR (N:Nat) (c:UInt8):Jl N (c.toNat:Int)=some (iaC c):=by
  refine xE (P:=fun c=>Jl N (c.toNat:Int)=some (iaC c)) ?_ c
  show ∀ n:Fin 256,Jl 0 ((UInt8.ofNat n.val).toNat:Int)=some (iaC (UInt8.ofNat n.val))
  decide +kernel
theorem all_eq (N f:Nat) (s:Bs) (p:UInt8->Bool) (hf: ∀ c:UInt8,iP N f (c.toNat:Int)=some (p c)) (hl:s.length<N) (hs:s.length<=1048576):NG N s f=some (s.all p):=by
  unfold NG
  refine Eq.trans (J4 (S:=Unit) (mk:=fun i _=>i) (out:=fun a=>a) s 0 (fun _ _=>True) (fun e (_:Unit)=>if p e=true then .inr ()else .inl (some false)) ?_ ?_ N () trivial hl) ?_
  ·intro i a hi _
   have key: ∀(A:Option Bool) (K:Bool->Option Bool),(bif decide ((i:Int)<(s.length:Int))then Vm.chk (decide (0<=(i:Int))) (Vm.chk (decide ((i:Int)<(s.length:Int))) (Ac (iP N f ((s.getD (i:Int).toNat 0).toNat:Int)) K))else A)=K (p (s.getD i 0)):=by
     intro A K
     rw[show((i:Int)).toNat=i by omega,decide_eq_true (by omega),cond_true,decide_eq_true (by omega),AP,AP,hf,Ae]
   refine SI (p:=p) (fun h k=> ?_) (fun h=>⟨fun k=> ?_,trivial⟩)
   ·rw[key,h];rfl
   ·rw[key,h,w64 (by omega) (by omega)];rfl
  ·intro a k _
   rw[decide_eq_false (by omega),cond_false]
  ·rw[jD]
   cases s.all p<;>rfl
theorem Akz (N:Nat) (s:Bs) (hl:s.length<N) (hs:s.length<=1048576):J9 N 19 s=some (s.all prC):=by
  show Ac (NG N s 286) (fun r=>some r)=_
  rw[all_eq N 286 s prC (fun c=>AfQ N c) hl hs];rfl
theorem Ak0 (N:Nat) (s:Bs) (hl:s.length<N) (hs:s.length<=1048576):J9 N 22 s=some (s.all iaC):=by
  show Ac (NG N s 289) (fun r=>some r)=_
  rw[all_eq N 289 s iaC (fun c=>AfR N c) hl hs];rfl
def chR (n b0 b1 b2 b3:Nat):Option Nat :=
  if b0<32\/b0=127 then none
  else if b0<128 then some 1
  else if 192<=b0/\b0<224 then
    (if n<=1\/b1 / 64≠2 then none
     else if b0 % 32*64+b1 % 64<128 then none else some 2)
  else if 224<=b0/\b0<240 then
    (if n<=2\/b1 / 64≠2\/b2 / 64≠2 then none
     else if b0 % 16*4096+b1 % 64*64+b2 % 64<2048\/(55296<=b0 % 16*4096+b1 % 64*64+b2 % 64/\b0 % 16*4096+b1 % 64*64+b2 % 64<57344)then none else some 3)
  else if 240<=b0/\b0<248 then
    (if n<=3\/b1 / 64≠2\/b2 / 64≠2\/b3 / 64≠2 then none
     else if b0 % 8*262144+b1 % 64*4096+b2 % 64*64+b3 % 64<65536\/1114111<b0 % 8*262144+b1 % 64*4096+b2 % 64*64+b3 % 64 then none else some 4)
  else none
set_option maxHeartbeats 4000000 in
theorem AnU (n b0 b1 b2 b3:Nat) (h0:b0<256) (h1:b1<256) (h2:b2<256) (h3:b3<256) :
    chR n b0 b1 b2 b3=if(Lib.decodeN n b0 b1 b2 b3).1<32\/(Lib.decodeN n b0 b1 b2 b3).1=127\/((Lib.decodeN n b0 b1 b2 b3).1=65533/\ ¬(3<=n/\b0=239/\b1=191/\b2=189))then none else some (Lib.decodeN n b0 b1 b2 b3).2:=by
  by_cases c1:b0<128
  ·have hd:Lib.decodeN n b0 b1 b2 b3=(b0,1):=by unfold Lib.decodeN;rw[if_pos c1]
   rw[hd]
   unfold chR
   dsimp only
   by_cases c2:b0<32\/b0=127
   ·rw[if_pos c2,if_pos (by omega)]
   ·rw[if_neg c2,if_pos c1,if_neg (by omega)]
  ·unfold chR Lib.decodeN
   rw[if_neg c1,if_neg (by omega),if_neg c1]
   by_cases c2:192<=b0/\b0<224
   ·rw[if_pos c2]
    repeat' split
    all_goals first | rfl | (exfalso;dsimp only at *;omega)
   ·rw[if_neg c2,if_neg (show ¬(b0 / 32=6/\(1<n/\b1 / 64=2)) by omega)]
    by_cases c3:224<=b0/\b0<240
    ·rw[if_pos c3]
     repeat' split
     all_goals first | rfl | (exfalso;dsimp only at *;omega)
    ·rw[if_neg c3,if_neg (show ¬(b0 / 16=14/\(1<n/\b1 / 64=2)/\(2<n/\b2 / 64=2)) by omega)]
     repeat' split
     all_goals first | rfl | (exfalso;dsimp only at *;omega)
def AnT (s:Bs) (i:Nat):Option Nat:=chR (s.length - i) (s.getD i 0).toNat (s.getD (i+1) 0).toNat (s.getD (i+2) 0).toNat (s.getD (i+3) 0).toNat
def vK (s:Bs):Nat->Nat->Bool
  | 0,_=>true
  | n+1,i=>if i<s.length then(match AnT s i with
     | none=>false
     | some w=>vK s n (i+w))else true
theorem AdI (l:Bs):Lib.hasPrefix l [239,191,189]=true↔3<=l.length/\(l.getD 0 0).toNat=239/\(l.getD 1 0).toNat=191/\(l.getD 2 0).toNat=189:=by
  have hb: ∀(x:UInt8) (k:Nat),k<256->((UInt8.ofNat k==x)=true↔x.toNat=k):=by
    intro x k hk
    rw[beq_iff_eq]
    constructor
    ·intro h;rw[<- h,UInt8.toNat_ofNat'];omega
    ·intro h;rw[<- h,UInt8.ofNat_toNat]
  match l with
  | []=>simp [Lib.hasPrefix,List.isPrefixOf]
  | [x]=>simp [Lib.hasPrefix,List.isPrefixOf]
  | [x,y]=>simp [Lib.hasPrefix,List.isPrefixOf]
  | x::y::z::r =>
    show((UInt8.ofNat 239==x)&&((UInt8.ofNat 191==y)&&((UInt8.ofNat 189==z)&&true)))=true↔3<=r.length+1+1+1/\x.toNat=239/\y.toNat=191/\z.toNat=189
    rw[Bool.and_eq_true,Bool.and_eq_true,Bool.and_true,hb _ _ (by decide),hb _ _ (by decide),hb _ _ (by decide)]
    exact⟨fun h=>⟨by omega,h⟩,fun h=>h.2⟩
theorem Apb (s:Bs): ∀(n i:Nat),Jm ⟨s.toArray⟩ n i=vK s n i:=by
  intro n
  induction n with
  | zero=>intro i;rfl
  | succ n ih =>
    intro i
    have hd:=Lib.decode_N ⟨s.toArray⟩ i
    have hc:=AnU (s.length - i) (s.getD i 0).toNat (s.getD (i+1) 0).toNat (s.getD (i+2) 0).toNat (s.getD (i+3) 0).toNat (Zu _) (Zu _) (Zu _) (Zu _)
    have hp:=AdI (s.drop i)
    rw[List.length_drop,Lib.getD_dropU,Lib.getD_dropU,Lib.getD_dropU,Nat.add_zero]at hp
    unfold Jm vK
    show(if i<s.length then _ else _)=_
    by_cases hl:i<s.length
    ·rw[if_pos hl,if_pos hl]
     show(let d:=Utf8.decode ⟨s.toArray⟩ i;if d.1<32\/d.1=127 then false else if d.1=65533/\Lib.hasPrefix (s.drop i) [239,191,189]=false then false else Jm ⟨s.toArray⟩ n (i+d.2))=_
     unfold AnT
     have hd':Utf8.decode ⟨s.toArray⟩ i=Lib.decodeN (s.length - i) (s.getD i 0).toNat (s.getD (i+1) 0).toNat (s.getD (i+2) 0).toNat (s.getD (i+3) 0).toNat:=hd
     rw[hc,hd']
     generalize Lib.decodeN (s.length - i) (s.getD i 0).toNat (s.getD (i+1) 0).toNat (s.getD (i+2) 0).toNat (s.getD (i+3) 0).toNat=d
     dsimp only
     by_cases h1:d.1<32\/d.1=127
     ·rw[if_pos h1,if_pos (by omega)]
     ·rw[if_neg h1]
      by_cases h2:d.1=65533/\Lib.hasPrefix (s.drop i) [239,191,189]=false
      ·have h3: ¬(3<=s.length - i/\(s.getD i 0).toNat=239/\(s.getD (i+1) 0).toNat=191/\(s.getD (i+2) 0).toNat=189):=fun h=>by
         have:=hp.2 h
         rw[h2.2]at this
         cases this
       rw[if_pos h2,if_pos (Or.inr (Or.inr ⟨h2.1,h3⟩))]
      ·have h3: ¬(d.1<32\/d.1=127\/(d.1=65533/\ ¬(3<=s.length - i/\(s.getD i 0).toNat=239/\(s.getD (i+1) 0).toNat=191/\(s.getD (i+2) 0).toNat=189))):=by
         rintro (h | h | ⟨h,h4⟩)
         ·exact h1 (Or.inl h)
         ·exact h1 (Or.inr h)
         ·refine h2 ⟨h,?_⟩
          apply Bool.eq_false_iff.2
          intro h5
          exact h4 (hp.1 h5)
       rw[if_neg h2,if_neg h3]
       exact ih _
    ·rw[if_neg hl,if_neg hl]
def Ro (t:Int) (s:Bs):Bool:=if t=12 then vK s s.length 0 else if t=19 then s.all prC else if t=22 then s.all iaC else false
theorem AbR (N:Nat) (t:Int) (s:Bs) (hl:s.length<N) (hs:s.length<=1048576):J9 N t s=some (Ro t s):=by
  unfold Ro
  by_cases h1:t=12
  ·subst h1
   rw[if_pos rfl]
   show Ac (Zr N s) (fun r=>some r)=_
   unfold Zr
   rw[decide_eq_true (by omega)]
   show some (AhZ s)=_
   unfold AhZ
   rw[Apb]
  ·rw[if_neg h1]
   by_cases h2:t=19
   ·subst h2;rw[if_pos rfl];exact Akz N s hl hs
   ·rw[if_neg h2]
    by_cases h3:t=22
    ·subst h3;rw[if_pos rfl];exact Ak0 N s hl hs
    ·rw[if_neg h3]
     unfold J9
     rw[show(t==12)=false from beq_false_of_ne h1,show(t==19)=false from beq_false_of_ne h2,show(t==22)=false from beq_false_of_ne h3]
     rfl
abbrev Att:Type:=Bs×Int×Bs
def Ob (e:Att) (seen:List Att):Int :=
  if FB e.1=none then 11
  else if e.2.2=[]\/Ro e.2.1 e.2.2=false then 13
  else if 64<e.2.2.length then 2
  else if seen.any (fun x=>x.1==e.1)=true then 10 else 0
theorem Ake (N:Nat) (q:List Att) (e:Att) (hl:q.length<N) (hs:q.length<=1048576) (fin:Unit->Option Int) :
    Ap (X:=Int×Bs×Int×Bs) (Y:=Unit) (U4 fun t43b b33792_0b b33792_1b b33792_2b k3 x4 =>
                         bif decide (t43b< ↑q.length)then
                           Vm.chk (decide (0<=t43b))
                             (Vm.chk (decide (t43b< ↑q.length))
                               (bif (q.getD t43b.toNat ([],0,[])).1==b33792_0b then
                                 some 10
                               else k3 (i64.wrap (t43b+1),b33792_0b,b33792_1b,b33792_2b)))
                         else x4 ()) N (0,e.1,e.2.1,e.2.2) fin=if q.any (fun x=>x.1==e.1)=true then some 10 else fin ():=by
  refine Eq.trans (J4 (S:=Unit) (mk:=fun i _=>(i,e.1,e.2.1,e.2.2)) (out:=fun a=>a) q ([],0,[]) (fun _ _=>True) (fun x (_:Unit)=>if(!(x.1==e.1))=true then .inr ()else .inl (some 10)) ?_ ?_ N () trivial hl) ?_
  ·intro i a hi _
   refine SI (p:=fun x:Att=> !(x.1==e.1)) (fun h k=> ?_) (fun h=>⟨fun k=> ?_,trivial⟩)
   ·dsimp only[U4]
    have h':((q.getD i ([],0,[])).1==e.1)=true:=by simpa using h
    rw[show((i:Int)).toNat=i by omega,decide_eq_true (by omega),cond_true,decide_eq_true (by omega),AP,AP,h',cond_true]
   ·dsimp only[U4]
    have h':((q.getD i ([],0,[])).1==e.1)=false:=by simpa using h
    rw[show((i:Int)).toNat=i by omega,decide_eq_true (by omega),cond_true,decide_eq_true (by omega),AP,AP,h',cond_false,w64 (by omega) (by omega)]
  ·intro a k _
   dsimp only[U4]
   rw[decide_eq_false (by omega),cond_false]
  ·rw[jD (p:=fun x:Att=> !(x.1==e.1))]
   rw[show q.any (fun x=>x.1==e.1)= !(q.all fun x=> !(x.1==e.1)) by rw[List.not_all_eq_any_not];simp]
   cases q.all fun x=> !(x.1==e.1)<;>rfl
def MV (e:Att):Prop:=e.1.length<=1048576/\e.2.2.length<=1048576
def PE (e:Att) (seen:List Att):Option Int ⊕ List Att:=if Ob e seen=0 then .inr (seen++[e])else .inl (some (Ob e seen))
def Ah8 (p:List Att):Option Int:=IG PE (fun _=>some 0) p []
theorem iV (v:Bs):(v==[])=decide (v=[]):=by cases v<;>rfl
theorem Afa (N:Nat) (p:List Att) (hN:1048578<N) (hp: ∀ e∈p,MV e):FI N p=if p=[]then some 14 else if 4<p.length then some 2 else Ah8 p:=by
  unfold FI
  try simp only[clR]
  by_cases h0:p=[]
  ·subst h0;rfl
  ·have hpos:=List.length_pos_iff.2 h0
   have hb:(((p.length:Nat):Int)==0)=false:=beq_false_of_ne (by omega)
   rw[hb,cond_false,if_neg h0]
   by_cases h4:4<p.length
   ·rw[if_pos h4,decide_eq_true (by omega),cond_true]
   ·rw[if_neg h4,decide_eq_false (by omega),cond_false]
    refine fB (S:=List Att) (mk:=fun i _=>i) p ([],0,[]) (fun i s=>s=p.take i) PE (fun _=>some 0) ?_ ?_ N [] rfl (by omega)
    ·intro i s hi hs
     subst hs
     have hm:=hp p[i] (List.getElem_mem hi)
     have hcut:AA p 0 i=p.take i:=rfl
     have htk:p.take i++[p[i]]=p.take (i+1):=by rw[List.take_add_one,List.getElem?_eq_getElem hi];rfl
     have hlt:(p.take i).length<=4:=by rw[List.length_take];omega
     rw[getD_lt p i _ hi]
     generalize he:p[i]=e at hm htk
     have ho:=(xG N e.1 (by omega) hm.1 (by have:=hm.1;omega)).1
     have ht:=AbR N e.2.1 e.2.2 (by have:=hm.2;omega) hm.2
     have hsl:=fun fin=>Ake N (p.take i) e (by omega) (by omega) fin
     unfold PE
     by_cases a1:FB e.1=none
     ·have hat:Ob e (p.take i)=11:=by unfold Ob;rw[if_pos a1]
      rw[hat,if_neg (by decide)]
      intro k
      dsimp only
      rw[show((i:Int)).toNat=i by omega,getD_lt p i _ hi,he,decide_eq_true (show(i:Int)<(p.length:Int) by omega),cond_true,decide_eq_true (show(0:Int)<=(i:Int) by omega),AP,AP,ho,Ae,a1]
      rfl
     ·have hsome:(FB e.1).isSome=true:=by cases hq:FB e.1 with
        | none=>exact absurd hq a1
        | some l=>rfl
      rw[hsome]at ho
      by_cases a2:e.2.2=[]\/Ro e.2.1 e.2.2=false
      ·have hat:Ob e (p.take i)=13:=by unfold Ob;rw[if_neg a1,if_pos a2]
       rw[hat,if_neg (by decide)]
       intro k
       dsimp only
       rw[show((i:Int)).toNat=i by omega,getD_lt p i _ hi,he,decide_eq_true (show(i:Int)<(p.length:Int) by omega),cond_true,decide_eq_true (show(0:Int)<=(i:Int) by omega),AP,AP,ho,Ae,ht,iV]
       rcases a2 with a2 | a2
       ·rw[decide_eq_true a2];rfl
       ·rw[a2];cases decide (e.2.2=[])<;>rfl
      ·have a3: ¬ e.2.2=[]:=fun h=>a2 (Or.inl h)
       have a4:Ro e.2.1 e.2.2=true:=by
         cases hq:Ro e.2.1 e.2.2 with
         | true=>rfl
         | false=>exact absurd (Or.inr hq) a2
       by_cases a5:64<e.2.2.length
       ·have hat:Ob e (p.take i)=2:=by unfold Ob;rw[if_neg a1,if_neg a2,if_pos a5]
        rw[hat,if_neg (by decide)]
        intro k
        dsimp only
        rw[show((i:Int)).toNat=i by omega,getD_lt p i _ hi,he,decide_eq_true (show(i:Int)<(p.length:Int) by omega),cond_true,decide_eq_true (show(0:Int)<=(i:Int) by omega),AP,AP,ho,Ae,ht,iV,decide_eq_false a3,a4]
        rw[decide_eq_true (show(e.2.2.length:Int)>64 by omega)]
        rfl
       ·have hat:Ob e (p.take i)=if(p.take i).any (fun x=>x.1==e.1)=true then 10 else 0:=by unfold Ob;rw[if_neg a1,if_neg a2,if_neg a5]
        have go: ∀ k:Int->Option Int,(bif decide ((i:Int)<(p.length:Int))then k (i64.wrap ((i:Int)+1))else none)=k ((i:Int)+1):=fun k=>by
          rw[decide_eq_true (by omega),cond_true,w64 (by omega) (by omega)]
        have hw:i64.wrap ((i:Int)+1)=(i:Int)+1:=w64 (by omega) (by omega)
        rw[hat]
        by_cases a6:(p.take i).any (fun x=>x.1==e.1)=true
        ·rw[if_pos a6,if_neg (by decide)]
         intro k
         dsimp only
         rw[show((i:Int)).toNat=i by omega,getD_lt p i _ hi,he,decide_eq_true (show(i:Int)<(p.length:Int) by omega),cond_true,decide_eq_true (show(0:Int)<=(i:Int) by omega),AP,AP,ho,Ae,ht,iV,decide_eq_false a3,a4,decide_eq_false (show ¬(e.2.2.length:Int)>64 by omega),decide_eq_true (show(i:Int)<=(p.length:Int) by omega),hcut,hsl,if_pos a6]
         rfl
        ·rw[if_neg a6,if_pos rfl]
         refine⟨fun k=> ?_,htk⟩
         dsimp only
         rw[show((i:Int)).toNat=i by omega,getD_lt p i _ hi,he,decide_eq_true (show(i:Int)<(p.length:Int) by omega),cond_true,decide_eq_true (show(0:Int)<=(i:Int) by omega),AP,AP,ho,Ae,ht,iV,decide_eq_false a3,a4,decide_eq_false (show ¬(e.2.2.length:Int)>64 by omega),decide_eq_true (show(i:Int)<=(p.length:Int) by omega),hcut,hsl,if_neg a6,hw]
         rfl
    ·intro s k _
     rw[decide_eq_false (by omega),cond_false]
theorem AjX (p:List Att): ∃ v,Ah8 p=some v:=by
  have: ∀(l s:List Att),∃ v,IG PE (fun _=>some 0) l s=some v:=by
    intro l
    induction l with
    | nil=>intro s;exact⟨0,rfl⟩
    | cons e r ih =>
      intro s
      unfold IG PE
      by_cases h:Ob e s=0
      ·rw[if_pos h];exact ih _
      ·rw[if_neg h];exact⟨_,rfl⟩
  exact this p []
def Kr (p:List Att):Int:=if p=[]then 14 else if 4<p.length then 2 else(Ah8 p).getD 0
theorem Ant (N:Nat) (p:List Att) (hN:1048578<N) (hp: ∀ e∈p,MV e):FI N p=some (Kr p):=by
  rw[Afa N p hN hp]
  unfold Kr
  obtain⟨v,hv⟩:=AjX p
  rw[hv]
  split
  ·rfl
  ·split<;>rfl
def QL (p:List Att) (_:Unit):Option Int ⊕ Unit:=if Kr p=0 then .inr ()else .inl (some (Kr p))
def Sv (n:List (List Att)):Option Int:=if 8<n.length then some 2 else IG QL (fun _=>some 0) n ()
def G9 (n:List (List Att)):Prop:= ∀ p∈n,∀ e∈p,MV e
theorem yK (N:Nat) (n:List (List Att)) (hN:1048578<N) (hn:G9 n):Gh N n=Sv n:=by
  unfold Gh Sv
  by_cases h8:8<n.length
  ·rw[if_pos h8,decide_eq_true (by omega),cond_true]
  ·rw[if_neg h8,decide_eq_false (by omega),cond_false]
   refine fB (S:=Unit) (mk:=fun i _=>i) n [] (fun _ _=>True) QL (fun _=>some 0) ?_ ?_ N () trivial (by omega)
   ·intro i s hi _
    rw[getD_lt n i [] hi]
    have hr:=Ant N n[i] hN (hn _ (List.getElem_mem hi))
    unfold QL
    by_cases h:Kr n[i]=0
    ·rw[if_pos h]
     refine⟨fun k=> ?_,trivial⟩
     dsimp only
     rw[show((i:Int)).toNat=i by omega,getD_lt n i [] hi,decide_eq_true (by omega),cond_true,decide_eq_true (by omega),AP,AP,hr,Ae,h,w64 (by omega) (by omega)]
     rfl
    ·rw[if_neg h]
     intro k
     dsimp only
     rw[show((i:Int)).toNat=i by omega,getD_lt n i [] hi,decide_eq_true (by omega),cond_true,decide_eq_true (by omega),AP,AP,hr,Ae,show(Kr n[i] != 0)=true from bne_iff_ne.2 h,cond_true]
   ·intro s k _
    rw[decide_eq_false (by omega),cond_false]
def zA:Att:=([],0,[])
def Tf (e:El):Att×Int :=
  bif e.1 != 48 then(zA,5)else bif (AV e.2.1).2 != 0 then(zA,(AV e.2.1).2)else
  match (AV e.2.1).1 with
  | []=>(zA,3)
  | a::l=>bif a.1 != 6 then(zA,5)else bif (JG (Oq a.2.1)).2 != 0 then(zA,(JG (Oq a.2.1)).2)else
    match l with
    | []=>(zA,3)
    | b::m=>bif b.1 != 12&&b.1 != 19&&b.1 != 22 then(zA,5)else
      match m with
      | []=>(((JG (Oq a.2.1)).1,b.1,b.2.1),0)
      | _::_=>(zA,4)
theorem AmM (N:Nat) (e:El) (hN:1048578<N) (he:e.2.1.length<=1048576):Gv N e=some (Tf e):=by
  unfold Gv
  try simp only[clR]
  rw[DZ N e.2.1 (by omega) (by omega) (by omega)]
  unfold Tf
  have hg:Good 1048576 (AV e.2.1).1:=(Dt e.2.1).mono he
  generalize AV e.2.1=r at hg ⊢
  obtain⟨l,er⟩:=r
  rw[<- Bh]
  refine BR fun h0=> ?_
  rw[Ae,<- Bh]
  refine BR fun h1=> ?_
  match l,hg with
  | [],_=>rfl
  | [a],hg =>
    have ha:=(hg.all a (by simp)).content
    have hlen: [a].length=1:=rfl
    simp (disch:=first | assumption | omega) only[A7,hlen,List.getD_cons_zero]
    rw[Np N _ (by omega) (by omega) (by omega)]
    simp (disch:=first | assumption | omega) only[A7,hlen,List.getD_cons_zero]
    simp only[bne]
    cases a.1==6<;>cases (JG (Oq a.2.1)).2==0<;>rfl
  | [a,b],hg =>
    have ha:=(hg.all a (by simp)).content
    have hlen: [a,b].length=2:=rfl
    simp (disch:=first | assumption | omega) only[A7,hlen,List.getD_cons_zero,List.getD_cons_succ]
    rw[Np N _ (by omega) (by omega) (by omega)]
    simp (disch:=first | assumption | omega) only[A7,hlen]
    simp only[bne]
    cases a.1==6<;>cases (JG (Oq a.2.1)).2==0<;>cases b.1==12<;>cases b.1==19<;>cases b.1==22<;>rfl
  | a::b::c::m,hg =>
    have ha:=(hg.all a (by simp)).content
    have hlen:(a::b::c::m).length=m.length+3:=rfl
    simp (disch:=first | assumption | omega) only[A7,hlen,List.getD_cons_zero,List.getD_cons_succ]
    rw[Np N _ (by omega) (by omega) (by omega)]
    simp (disch:=first | assumption | omega) only[A7,hlen]
    simp only[bne]
    cases a.1==6<;>cases (JG (Oq a.2.1)).2==0<;>cases b.1==12<;>cases b.1==19<;>cases b.1==22<;>rfl
def zM (c:UInt8):Bool:=aT c||decide (c.toNat=45)
def zN (s:Bs):Bool:= !(decide (s.length<1)||decide (63<s.length)||decide ((s.getD 0 0).toNat=45)||decide ((s.getD (s.length - 1) 0).toNat=45))&&s.all zM
theorem XL (N:Nat) (c:UInt8): ∃ a b,IA N (c.toNat:Int)=some a/\Iq N (c.toNat:Int)=some b/\(a||b)=aT c:=by
  refine xE (P:=fun c=> ∃ a b,IA N (c.toNat:Int)=some a/\Iq N (c.toNat:Int)=some b/\(a||b)=aT c) ?_ c
  intro n
  refine⟨(IA 0 ((UInt8.ofNat n.val).toNat:Int)).getD false,(Iq 0 ((UInt8.ofNat n.val).toNat:Int)).getD false,?_⟩
  show IA 0 _=_/\Iq 0 _=_/\_
  revert n
  decide +kernel
theorem Abz (N:Nat) (s:Bs) (hN:70<N) (hs:s.length<=1048576):Sm N s=some (zN s):=by
  unfold Sm zN
  try simp only[clR]
  by_cases h1:s.length<1
  ·have:s=[]:=List.length_eq_zero_iff.1 (by omega)
   subst this;rfl
  ·rw[decide_eq_false h1,decide_eq_false (show ¬(s.length:Int)<1 by omega),decide_eq_true (show(0:Int)<(s.length:Int) by omega),w64 (by omega) (by omega),decide_eq_true (show(0:Int)<=(s.length:Int) - 1 by omega),decide_eq_true (show(s.length:Int) - 1<(s.length:Int) by omega),show((s.length:Int) - 1).toNat=s.length - 1 by omega]
   simp only[Bool.true_or,AP,Bool.false_or]
   have e1: ∀ c:UInt8,(((c.toNat:Nat):Int)==45)=decide (c.toNat=45):=fun c=>by
     by_cases h:c.toNat=45
     ·rw[h];rfl
     ·rw[decide_eq_false h];exact beq_false_of_ne (by omega)
   rw[e1,e1,show decide ((s.length:Int)>63)=decide (63<s.length) by congr 1;apply propext;omega]
   generalize decide ((s.getD 0 0).toNat=45)=q1
   generalize decide ((s.getD (s.length - 1) 0).toNat=45)=q2
   by_cases h2:63<s.length
   ·rw[decide_eq_true h2];rfl
   ·rw[decide_eq_false h2]
    cases q1<;>cases q2<;>first | rfl | skip
    rw[show(false||false||false)=false from rfl,cond_false,decide_eq_true (by omega),AP]
    have hml:((s.map fun b=>((b.toNat:Nat):Int)).length)=s.length:=List.length_map ..
    refine Eq.trans (J4 (S:=Unit) (mk:=fun i _=>(i,s.map fun b=>((b.toNat:Nat):Int))) (out:=fun a=>a) s 0 (fun _ _=>True) (fun e (_:Unit)=>if zM e=true then .inr ()else .inl (some false)) ?_ ?_ N () trivial (by omega)) ?_
    ·intro i a hi _
     obtain⟨x,y,hx,hy,hxy⟩:=XL N (s.getD i 0)
     have hg:(s.map fun b=>((b.toNat:Nat):Int)).getD i 0=(((s.getD i 0).toNat:Nat):Int):=by
       rw[getD_lt _ i 0 (by omega),getD_lt s i 0 hi,List.getElem_map]
     have hne:((((s.getD i 0).toNat:Nat):Int) != 45)= !decide ((s.getD i 0).toNat=45):=by rw[bne,e1]
     refine SI (p:=zM) (fun h k=> ?_) (fun h=>⟨fun k=> ?_,trivial⟩)
     ·dsimp only[U2]
      unfold zM at h
      rw[hml,show((i:Int)).toNat=i by omega,decide_eq_true (by omega),cond_true,decide_eq_true (by omega),AP,decide_eq_true (by omega),AP,hg,hx,Ae,hy,hne]
      rw[<- hxy]at h
      generalize decide ((s.getD i 0).toNat=45)=z at h
      cases x<;>cases y<;>cases z<;>first | rfl | (exact absurd h (by decide))
     ·dsimp only[U2]
      unfold zM at h
      rw[hml,show((i:Int)).toNat=i by omega,decide_eq_true (by omega),cond_true,decide_eq_true (by omega),AP,decide_eq_true (by omega),AP,hg,hx,Ae,hy,hne,w64 (by omega) (by omega)]
      rw[<- hxy]at h
      generalize decide ((s.getD i 0).toNat=45)=z at h
      cases x<;>cases y<;>cases z<;>first | rfl | (exact absurd h (by decide))
    ·intro a k _
     dsimp only[U2]
     rw[hml,decide_eq_false (by omega),cond_false]
    ·rw[jD]
     cases s.all zM<;>rfl
def Wq (s:Bs):Bool:= !decide (128<s.length)&&(BI 46 s).all zN
theorem MN (N:Nat) (s:Bs) (hN:200<N):Gz N s=some (Wq s):=by
  unfold Gz Wq
  by_cases h:128<s.length
  ·rw[decide_eq_true h,decide_eq_true (show(s.length:Int)>128 by omega),cond_true];rfl
  ·rw[decide_eq_false h,decide_eq_false (show ¬(s.length:Int)>128 by omega),cond_false]
   have hsp:strings_Split N s [46]=some (BI 46 s):=by
     unfold strings_Split
     rw[decide_eq_true (by omega),Aee];rfl
   rw[hsp,Ae]
   have hlen:=Zk 46 s
   generalize BI 46 s=p at hlen ⊢
   refine Eq.trans (J4 (S:=Unit) (mk:=fun i _=>i) (out:=fun a=>a) p [] (fun _ _=>True) (fun e (_:Unit)=>if zN e=true then .inr ()else .inl (some false)) ?_ ?_ N () trivial (by omega)) ?_
   ·intro i a hi _
    have hm:=hlen.2.2 (p.getD i []) (by rw[getD_lt p i [] hi];exact List.getElem_mem hi)
    have hlab:=Abz N (p.getD i []) (by omega) (by omega)
    refine SI (p:=zN) (fun h k=> ?_) (fun h=>⟨fun k=> ?_,trivial⟩)
    ·dsimp only
     rw[show((i:Int)).toNat=i by omega,decide_eq_true (by omega),cond_true,decide_eq_true (by omega),AP,AP,hlab,Ae,h];rfl
    ·dsimp only
     rw[show((i:Int)).toNat=i by omega,decide_eq_true (by omega),cond_true,decide_eq_true (by omega),AP,AP,hlab,Ae,h,w64 (by omega) (by omega)];rfl
   ·intro a k _
    dsimp only
    rw[decide_eq_false (by omega),cond_false]
   ·rw[jD]
    cases p.all zN<;>rfl
theorem ApK (c:UInt8) (n:Nat) (hn:n<256):(((c.toNat:Nat):Int)==(n:Int))=(c==UInt8.ofNat n):=by
  by_cases h:c=UInt8.ofNat n
  ·subst h
   rw[beq_self_eq_true,UInt8.toNat_ofNat',show n % 2 ^ 8=n from Nat.mod_eq_of_lt hn]
   exact beq_self_eq_true _
  ·rw[beq_false_of_ne h]
   refine beq_false_of_ne fun h2=>h ?_
   apply UInt8.toNat_inj.1
   rw[UInt8.toNat_ofNat',show n % 2 ^ 8=n from Nat.mod_eq_of_lt hn]
   omega
theorem beq46 (c:UInt8):(((c.toNat:Nat):Int)==46)=(c==46):=ApK c 46 (by omega)
theorem contains_one (c:UInt8) (s:Bs):Lib.contains s [c]=s.contains c:=by
  unfold Lib.contains
  rcases dG c s with h | ⟨a,r,rfl,ha⟩
  ·rw[index_none c s h]
   have:s.contains c=false:=by simpa using h
   rw[this];rfl
  ·rw[oQ c a r ha]
   have:(a++c::r).contains c=true:=by simp
   rw[this];exact decide_eq_true (by omega)
def Aad (s:Bs):Bool:=bif Lib.hasPrefix s [42,46]then decide (s.length<=128)&&Wq (s.drop 2)&&(s.drop 2).contains 46 else Wq s
theorem AoV {s p:Bs} (h:Lib.hasPrefix s p=true):Lib.trimPrefix s p=s.drop p.length:=by unfold Lib.trimPrefix;rw[if_pos h]
theorem AoU {s p:Bs} (h:Lib.hasPrefix s p=false):Lib.trimPrefix s p=s:=by unfold Lib.trimPrefix;rw[if_neg (by rw[h];decide)]
theorem uB (N:Nat) (s:Bs) (hN:1048578<N):KZ N s=some (Aad s):=by
  unfold KZ Aad strings_CutPrefix
  try simp only[clR]
  rw[Ae]
  cases hp:Lib.hasPrefix s [42,46]with
  | false=>rw[AoU hp,MN N _ (by omega)];rfl
  | true =>
    rw[AoV hp,show s.drop ([42,46]:Bs).length=s.drop 2 from rfl]
    simp (disch:=first | assumption | omega) only[A7,MN,Alq,Option.getD_some]
    by_cases h:s.length<=128
    ·unfold strings_Contains
     rw[decide_eq_true (show(s.drop 2).length<4294967281 by rw[List.length_drop];omega),cond_true,contains_one,vF h,sD (by omega)]
     rfl
    ·rw[Ahn (by omega),Amw (by omega)];simp [chk]
def xU (s:Bs):Bool:=(s==[])||Wq s
theorem Adf (N:Nat) (s:Bs) (hN:1048578<N):QF N s=some (xU s):=by
  unfold QF xU
  try simp only[clR]
  simp (disch:=first | assumption | omega) only[A7,MN,Option.isSome_some,Option.getD_some]
def Acx:Bs:=[33,35,36,37,38,39,42,43,45,47,61,63,94,95,96,123,124,125,126,46]
def Aha (c:UInt8):Bool:=aT c||Acx.any (· ==c)
def dots:Bs->Bool
  | x::y::r=>(x==46&&y==46)||dots (y::r)
  | _=>false
theorem Abn: ∀ s:Bs,Lib.contains s [46,46]=dots s:=by
  have key: ∀ s:Bs,(Lib.index s [46,46]= -1/\dots s=false)\/(0<=Lib.index s [46,46]/\dots s=true):=by
    intro s
    induction s with
    | nil=>left;exact⟨rfl,rfl⟩
    | cons x r ih =>
      cases r with
      | nil =>
        left
        refine⟨?_,rfl⟩
        show(if List.isPrefixOf [46,46] [x]=true then(0:Int)else _)= -1
        rw[if_neg (by simp [List.isPrefixOf])];rfl
      | cons y r =>
        have e:Lib.index (x::y::r) [46,46]=if List.isPrefixOf [46,46] (x::y::r)=true then(0:Int)else if Lib.index (y::r) [46,46]== -1 then -1 else Lib.index (y::r) [46,46]+1:=rfl
        have d:dots (x::y::r)=((x==46&&y==46)||dots (y::r)):=rfl
        have p:List.isPrefixOf [46,46] (x::y::r)=(x==46&&y==46):=by
          simp only[List.isPrefixOf,Bool.and_true]
          rw[Bool.beq_comm (a:=(46:UInt8)),Bool.beq_comm (a:=(46:UInt8))]
        rw[e,d,p]
        cases (x==46&&y==46)with
        | true=>right;exact⟨by rw[if_pos rfl];exact Int.le_refl 0,rfl⟩
        | false =>
          rcases ih with ⟨h1,h2⟩ | ⟨h1,h2⟩
          ·left;rw[h1,h2];exact⟨rfl,rfl⟩
          ·right
           rw[h2]
           refine⟨?_,rfl⟩
           rw[if_neg (by decide),if_neg (by simp;omega)];omega
  intro s
  unfold Lib.contains
  rcases key s with ⟨h1,h2⟩ | ⟨h1,h2⟩
  ·rw[h1,h2];rfl
  ·rw[h2];exact decide_eq_true h1
def Adw (s:Bs):Bool:= !(decide (s.length<1)||decide (64<s.length)||(s.getD 0 0==46)||(s.getD (s.length - 1) 0==46)||dots s)&&s.all Aha
theorem Ab4 (c:UInt8): ∀ l:Bs,decide (Lib.indexByte l c>=0)=l.any (· ==c):=by
  intro l
  induction l with
  | nil=>rfl
  | cons b r ih =>
    show decide ((if(b==c)=true then(0:Int)else if Lib.indexByte r c== -1 then -1 else Lib.indexByte r c+1)>=0)=(b==c||r.any (· ==c))
    cases b==c with
    | true=>rfl
    | false =>
      rw[if_neg (by decide),Bool.false_or,<- ih]
      have:=Lib.indexByte_ge r c
      by_cases h:Lib.indexByte r c= -1
      ·rw[h];rfl
      ·rw[if_neg (by simpa using h)]
       congr 1;apply propext;omega
theorem AoZ (c:UInt8):c.toNat.toUInt8=c:=UInt8.ofNat_toNat
theorem Ab2 (N:Nat) (s:Bs) (hN:1048578<N) (hs:s.length<=1048576):O9 N s=some (Adw s):=by
  unfold O9 Adw
  try simp only[clR]
  unfold strings_Contains
  rw[decide_eq_true (show s.length<4294967281 by omega),cond_true,Abn]
  by_cases h1:s.length<1
  ·have:s=[]:=List.length_eq_zero_iff.1 (by omega)
   subst this;rfl
  ·by_cases h2:64<s.length
   ·simp (disch:=first | assumption | omega) only[A7,Option.isSome_some]
   ·simp (disch:=first | assumption | omega) only[A7,Option.isSome_some,Option.getD_some,beq46]
    cases s.getD 0 0==46<;>cases s.getD (s.length - 1) 0==46<;>cases dots s<;>first | rfl | skip
    simp only[Bool.false_or,Bool.or_false,cond_false,Bool.not_false,Bool.true_and]
    have hml:((s.map fun b=>((b.toNat:Nat):Int)).length)=s.length:=List.length_map ..
    refine Eq.trans (NV (S:=Unit) (R:=Bool) (mk:=fun i _=>((i:Int),s.map fun b=>((b.toNat:Nat):Int))) s 0 (fun c _=>bif Aha c then .inr ()else .inl false) some (fun _=>some true) ?_ ?_ N () (by omega)) ?_
    ·intro i _ hi k
     obtain⟨x,y,hx,hy,hxy⟩:=XL N (s.getD i 0)
     have hg:(s.map fun b=>((b.toNat:Nat):Int)).getD i 0=(((s.getD i 0).toNat:Nat):Int):=by
       rw[getD_lt _ i 0 (by omega),getD_lt s i 0 hi,List.getElem_map]
     simp (disch:=first | assumption | omega) only[A7,hml,hg,hx,hy,BU,strings_IndexByte,AoZ,Ab4]
     unfold Aha
     rw[<- hxy]
     show _=bif _||Acx.any (· ==s.getD i 0)then _ else _
     rw[show([33,35,36,37,38,39,42,43,45,47,61,63,94,95,96,123,124,125,126,46]:Bs)=Acx from rfl]
     cases x<;>cases y<;>cases Acx.any (· ==s.getD i 0)<;>rfl
    ·intro _ k
     simp (disch:=first | assumption | omega) only[A7,hml]
    ·rw[Aj2]
     cases s.all Aha<;>rfl
theorem AkR {c:UInt8} {s:Bs} (h:c∉s):Lib.cut s [c]=(s,[],false):=by
  unfold Lib.cut
  rw[index_none c s h];rfl
theorem AnV {c:UInt8} {a r:Bs} (h:c∉a):Lib.cut (a++c::r) [c]=(a,r,true):=by
  unfold Lib.cut
  rw[oQ c a r h,if_pos (by omega)]
  have e1:((a.length:Int)).toNat=a.length:=by omega
  rw[e1,List.take_left,<- List.drop_drop,List.drop_left]
  rfl
def Qq (s:Bs):Bool:=(Lib.cut s [64]).2.2&&decide (s.length<=128)&&Adw (Lib.cut s [64]).1&&Wq (Lib.cut s [64]).2.1
theorem eH (N:Nat) (s:Bs) (hN:1048578<N) (hs:s.length<=1048576):KY N s=some (Qq s):=by
  unfold KY Qq strings_Cut
  try simp only[clR]
  rw[decide_eq_true (show s.length<4294967281 by omega),cond_true,Ae]
  have hl:(Lib.cut s [64]).1.length<=s.length:=by
    rcases dG 64 s with h | ⟨a,r,rfl,ha⟩
    ·rw[AkR h];exact Nat.le_refl _
    ·rw[AnV ha];simp
  rw[Ab2 N _ hN (by omega),MN N _ (by omega)]
  rw[show decide (((s.length:Nat):Int)<=128)=decide (s.length<=128) by congr 1;apply propext;omega]
  rfl
theorem AgE (n i:Nat) (h:i<n):(List.range n).getD i 0=i:=by
  rw[getD_lt _ _ _ (by rw[List.length_range];exact h),List.getElem_range]
def mbP (s:Bs):Bool:=decide (s.length<=128)&&(Qq s||Wq (Lib.trimPrefix s [46]))
theorem AnZ (n:Nat):decide ((n:Int)<=128)=decide (n<=128):=by congr 1;apply propext;omega
theorem oO (N:Nat) (s:Bs) (hN:1048578<N) (hs:s.length<=1048576):JL N s=some (mbP s):=by
  unfold JL mbP strings_TrimPrefix
  try simp only[clR]
  rw[eH N s hN hs]
  simp only[Option.isSome_some,Option.getD_some,Bool.true_or,AP]
  rw[MN N _ (by omega),AnZ]
  simp only[Option.isSome_some,Option.getD_some,Bool.true_or,AP]
  cases Qq s<;>cases decide (s.length<=128)<;>rfl
theorem Ahf {s:Bs} (h:128<s.length):Qq s=false:=by unfold Qq;rw[Ahn h];simp
theorem Ai6 {s:Bs} (h:128<s.length):Wq s=false:=by unfold Wq;rw[Aho h];rfl
def xM (s:Bs):Bool:=decide (s.length=4)||decide (s.length=16)
theorem AgK (a b:Nat):(((a:Nat):Int)==((b:Nat):Int))=decide (a=b):=by
  by_cases h:a=b
  ·rw[h,decide_eq_true rfl];exact beq_self_eq_true _
  ·rw[decide_eq_false h];exact beq_false_of_ne (by omega)
theorem tZ (N:Nat) (s:Bs):KX N s=some (xM s):=by
  unfold KX xM
  try simp only[clR]
  rw[show(((s.length:Nat):Int)==4)=decide (s.length=4)from AgK _ 4,show(((s.length:Nat):Int)==16)=decide (s.length=16)from AgK _ 16]
def Agc (c:UInt8) (k:Nat):Bool:=c.toNat / 2 ^ k % 2==1
theorem AkI (c:UInt8) (k:Nat) (hk:k<8):(Bi .and .u8 (((c.toNat:Nat):Int).fdiv (2 ^ min k 8)) 1==1)=Agc c k:=by
  have: ∀ k:Fin 8,∀ n:Fin 256,(Bi .and .u8 ((((UInt8.ofNat n.val).toNat:Nat):Int).fdiv (2 ^ min k.val 8)) 1==1)=Agc (UInt8.ofNat n.val) k.val:=by decide +kernel
  exact xE (P:=fun c=>(Bi .and .u8 (((c.toNat:Nat):Int).fdiv (2 ^ min k 8)) 1==1)=Agc c k) (this ⟨k,hk⟩) c
theorem Ap4 (i:Nat):((i:Int)).tdiv 8=((i / 8:Nat):Int):=rfl
theorem Ap5 (i:Nat):((i:Int)).tmod 8=((i % 8:Nat):Int):=rfl
theorem Ap3 (i:Nat):((i:Int)).tdiv 2=((i / 2:Nat):Int):=rfl
theorem AhV (i:Nat):((7:Int) - (i:Int)).toNat=7 - i:=by omega
def Ti (s:Bs) (i:Nat):Bool:=Agc (s.getD (i / 8) 0) (7 - i % 8)
theorem lH (N:Nat) (s:Bs) (i:Nat) (h:i<8*s.length) (hs:s.length<=1048576):PY N s (i:Int)=some (Ti s i):=by
  unfold PY Ti
  have:i / 8<s.length:=by omega
  have:i % 8<8:=by omega
  simp (disch:=first | assumption | omega) only[A7,Ap4,Ap5,wu64,AhV]
  rw[AkI _ _ (by omega)]
def rngS (s:Bs) (i:Nat) (z:Bool):Bool ⊕ Bool:=bif (Ti (s.drop (s.length / 2)) i&&z)||(!Ti (s.drop (s.length / 2)) i&&Ti s i)then .inl false else .inr (z|| !Ti (s.drop (s.length / 2)) i)
def Aap (s:Bs):Bool:=bif decide (s.length=8)||decide (s.length=32)then(FC (rngS s) (List.range (8*(s.length / 2))) false).elim id (fun _=>true)else false
theorem Abv (N:Nat) (s:Bs) (hN:1048578<N):O8 N s=some (Aap s):=by
  unfold O8
  try simp only[clR]
  unfold Aap
  rw[show(((s.length:Nat):Int) != 8)= !decide (s.length=8)from congrArg _ (AgK _ 8),show(((s.length:Nat):Int) != 32)= !decide (s.length=32)from congrArg _ (AgK _ 32)]
  by_cases h0:s.length=8\/s.length=32
  ·have hb:(decide (s.length=8)||decide (s.length=32))=true:=by simpa using h0
   rw[hb,cond_true,show(!decide (s.length=8)&& !decide (s.length=32))=false by rw[<- Bool.not_or,hb];rfl,cond_false]
   have hd:s.length / 2<=s.length:=by omega
   have hh:Qn N s=some (s.take (s.length / 2),s.drop (s.length / 2)):=by
     unfold Qn
     simp (disch:=first | assumption | omega) only[A7,Ap3,wu64]
     unfold AA
     rw[List.take_length];rfl
   rw[hh,Ae]
   have hl:(s.drop (s.length / 2)).length=s.length / 2:=by rw[List.length_drop];omega
   have hl1:(s.take (s.length / 2)).length=s.length / 2:=by rw[List.length_take];omega
   refine Eq.trans (NV (S:=Bool) (R:=Bool) (mk:=fun i z=>(z,(i:Int))) (List.range (8*(s.length / 2))) 0 (rngS s) some (fun _=>some true) ?_ ?_ N false (by rw[List.length_range];omega)) ?_
   ·intro i z hi k
    rw[List.length_range]at hi
    rw[AgE _ _ hi]
    have hb1:=lH N (s.drop (s.length / 2)) i (by omega) (by omega)
    have hb2:=lH N (s.take (s.length / 2)) i (by omega) (by omega)
    have hb3:Ti (s.take (s.length / 2)) i=Ti s i:=by
      unfold Ti
      congr 1
      rw[List.getD_eq_getElem?_getD,List.getElem?_take,if_pos (by omega),<- List.getD_eq_getElem?_getD]
    rw[hb3]at hb2
    unfold rngS
    simp (disch:=first | assumption | omega) only[A7,hl,hb1,hb2,Option.isSome_some,Option.getD_some,BU]
    cases Ti (s.drop (s.length / 2)) i<;>cases Ti s i<;>cases z<;>rfl
   ·intro z k
    rw[List.length_range]
    simp (disch:=first | assumption | omega) only[A7,hl]
   ·exact Agq _ id (fun _=>true)
  ·have hb:(decide (s.length=8)||decide (s.length=32))=false:=by simpa using h0
   rw[hb,show(!decide (s.length=8)&& !decide (s.length=32))=true by rw[<- Bool.not_or,hb];rfl]
   rfl
theorem Ahl (n:List (List Att)): ∃ v,Sv n=some v:=by
  unfold Sv
  by_cases h:8<n.length
  ·rw[if_pos h];exact⟨_,rfl⟩
  ·rw[if_neg h]
   have: ∀(l:List (List Att)) (s:Unit),∃ v,IG QL (fun _=>some 0) l s=some v:=by
     intro l
     induction l with
     | nil=>intro s;exact⟨0,rfl⟩
     | cons e r ih =>
       intro s
       unfold IG QL
       by_cases h:Kr e=0
       ·rw[if_pos h];exact ih _
       ·rw[if_neg h];exact⟨_,rfl⟩
   exact this n ()
def ER (n:List (List Att)):Int:=(Sv n).getD 0
theorem Ang (n:List (List Att)):Sv n=some (ER n):=by
  obtain⟨v,h⟩:=Ahl n
  unfold ER;rw[h];rfl
theorem Na (N:Nat) (n:List (List Att)) (hN:1048578<N) (hn:G9 n):Gh N n=some (ER n):=(yK N n hN hn).trans (Ang n)
abbrev Gn:Type:=Int×Bs×List (List Att)
def JQ (g:Gn):Prop:=g.2.1.length<=1048576/\G9 g.2.2
def yZ (k:Int) (s:Bs) (c:Bool):Bool:=bif k==1 then(bif c then mbP s else Qq s)else bif k==2 then(bif c then xU s else Aad s)else bif k==7 then(bif c then Aap s else xM s)else false
def CY (g:Gn) (c:Bool):Int:=bif g.1==4 then(bif g.2.1==[]then ER g.2.2 else 14)else bif yZ g.1 g.2.1 c&&g.2.2.isEmpty then 0 else 14
theorem fE {α :Type} (l:List α):decide (((l.length:Nat):Int)>0)= !l.isEmpty:=by
  cases l with
  | nil=>rfl
  | cons a r=>rw[decide_eq_true (by rw[List.length_cons];omega)];rfl
theorem Ab5 (N:Nat) (k:Int) (s:Bs) (c:Bool) (hN:1048578<N) (hs:s.length<=1048576):FU N k s c=some (bif k==0 then(bif c then mbP s else Qq s)else bif k==1 then(bif c then xU s else Aad s)else bif k==3 then(bif c then Aap s else xM s)else false):=by
  unfold FU
  try simp only[clR]
  simp only[oO N s hN hs,eH N s hN hs,Adf N s hN,uB N s hN,Abv N s hN,tZ N s,Option.isSome_some,Option.getD_some,Bool.true_or,AP]
  cases k==0<;>cases k==1<;>cases k==3<;>cases c<;>simp [chk]
theorem Jd (N:Nat) (g:Gn) (c:Bool) (hN:1048578<N) (hg:JQ g):GR N g c=some (CY g c):=by
  obtain⟨k,s,n⟩:=g
  unfold GR
  try simp only[clR]
  have hg:s.length<=1048576/\G9 n:=hg
  have hd:=Na N n hN hg.2
  have hk: ∀ k:Int,FU N k s c=_:=fun k=>Ab5 N k s c hN hg.1
  have h1:=hg.1
  unfold CY yZ oL
  by_cases e1:k=1
  ·subst e1
   simp (disch:=first | assumption | omega) only[A7,hk,Option.isSome_some,Option.getD_some,fE]
   cases n.isEmpty<;>cases c<;>cases mbP s<;>cases Qq s<;>rfl
  ·by_cases e2:k=2
   ·subst e2
    simp (disch:=first | assumption | omega) only[A7,hk,Option.isSome_some,Option.getD_some,fE]
    cases n.isEmpty<;>cases c<;>cases xU s<;>cases Aad s<;>rfl
   ·by_cases e4:k=4
    ·subst e4
     simp (disch:=first | assumption | omega) only[A7,hd,Option.isSome_some,Option.getD_some,fE]
     cases s==[]<;>rfl
    ·by_cases e7:k=7
     ·subst e7
      simp (disch:=first | assumption | omega) only[A7,hk,Option.isSome_some,Option.getD_some,fE]
      cases n.isEmpty<;>cases c<;>cases Aap s<;>cases xM s<;>rfl
     ·simp (disch:=first | assumption | omega) only[A7]
def Ace (l:List El):Bool:=(List.range (l.length - 1)).any fun i=>bytesLess (l.getD (i+1) (0,[],[])).2.2 (l.getD i (0,[],[])).2.2
theorem AnG (N:Nat) (l:List El) (hN:1048578<N) (hl:l.length<=1048576):Nr N l=some (!Ace l):=by
  unfold Nr Ace
  try simp only[clR]
  refine(SN (fun i=>((i+1:Nat):Int)) (List.range (l.length - 1)) 0 (fun i=>bytesLess (l.getD (i+1) (0,[],[])).2.2 (l.getD i (0,[],[])).2.2) (some false) (some true) ?_ ?_ N (by rw[List.length_range];omega)).trans ?_
  ·intro i hi k
   rw[List.length_range]at hi
   rw[Zd hi]
   simp (disch:=first | assumption | omega) only[A7]
   rfl
  ·intro k
   rw[List.length_range]
   simp (disch:=first | assumption | omega) only[A7]
  ·cases List.any _ _<;>rfl
def IE (e:El):List Att×Int :=
  bif e.1 != 49 then([],5)else bif (AV e.2.1).2 != 0 then([],(AV e.2.1).2)else bif Ace (AV e.2.1).1 then([],9)else
  bif AU (fun a=>(Tf a).2) (AV e.2.1).1 != 0 then([],AU (fun a=>(Tf a).2) (AV e.2.1).1)else((AV e.2.1).1.map fun a=>(Tf a).1,0)
theorem AmN (N:Nat) (e:El) (hN:1048578<N) (he:e.2.1.length<=1048576):GK N e=some (IE e):=by
  unfold GK
  try simp only[clR]
  rw[DZ N e.2.1 (by omega) (by omega) (by omega)]
  unfold IE
  have hg:Good 1048576 (AV e.2.1).1:=(Dt e.2.1).mono he
  generalize AV e.2.1=r at hg ⊢
  obtain⟨l,er⟩:=r
  have hlen:l.length<=1048576:=hg.len
  rw[Ae]
  dsimp only
  rw[AnG N l hN hlen]
  simp (disch:=first | assumption | omega) only[A7]
  simp only[<- Bh]
  refine BR fun _=>BR fun _=>BR fun _=> ?_
  refine(YF (fun i acc=>((i:Int),acc)) l (0,[],[]) (fun a=>(Tf a).2) (fun a=>(Tf a).1) (fun e=>some ([],e)) (fun acc=>some (acc,0)) ?_ ?_ N (by omega)).trans ?_
  ·intro i acc hi ha k
   have hc:=(hg.all _ (getD_mem (0,[],[]) hi)).content
   dsimp only at hc
   have hE:=AmM N (l.getD i (0,[],[])) hN (by omega)
   simp (disch:=first | assumption | omega) only[A7,hE]
   generalize Tf (l.getD i (0,[],[]))=y
   cases y.2 != 0<;>rfl
  ·intro acc k ha
   simp (disch:=first | assumption | omega) only[A7]
  ·rfl
def nmD (s:Bs):List (List Att)×Int :=
  bif (Cf s).2 != 0 then([],(Cf s).2)else bif (Cf s).1.1 != 48 then([],5)else bif (AV (Cf s).1.2.1).2 != 0 then([],(AV (Cf s).1.2.1).2)else
  bif AU (fun a=>(IE a).2) (AV (Cf s).1.2.1).1 != 0 then([],AU (fun a=>(IE a).2) (AV (Cf s).1.2.1).1)else
  bif ER ((AV (Cf s).1.2.1).1.map fun a=>(IE a).1) != 0 then([],ER ((AV (Cf s).1.2.1).1.map fun a=>(IE a).1))else((AV (Cf s).1.2.1).1.map fun a=>(IE a).1,0)
theorem AoX (l:List Nat):(two l).length<=l.length+1:=by
  cases l with
  | nil=>exact Nat.zero_le _
  | cons n t=>show t.length+1+1<=t.length+1+1;omega
theorem Ags (s:Bs):(JG (Oq s)).1.length<=1048576:=by
  cases h:Oq s with
  | none=>show 0<=_;omega
  | some a =>
    unfold Oq at h
    cases hn:Fp 4294967294 s 0 false []with
    | none=>rw[hn]at h;cases h
    | some l =>
      rw[hn]at h
      simp only[Option.bind_some]at h
      split at h
      ·cases h
      ·rename_i hne
       unfold upTo at h
       split at h
       ·rename_i hu
        injection h with h
        subst h
        have h1:=Aej (two l) (fun x hx=>by have:=hu x hx;omega)
        have h2:=AoX l
        show(wV (two l)).length<=_
        omega
       ·cases h
theorem AfV (e:El) (he:e.2.1.length<=1048576):MV (Tf e).1:=by
  have hg:Good 1048576 (AV e.2.1).1:=(Dt e.2.1).mono he
  have hz:MV zA:=⟨by show 0<=_;omega,by show 0<=_;omega⟩
  unfold Tf
  cases e.1 != 48 with
  | true=>exact hz
  | false =>
    rw[cond_false]
    cases (AV e.2.1).2 != 0 with
    | true=>exact hz
    | false =>
      rw[cond_false]
      match (AV e.2.1).1,hg with
      | [],_=>exact hz
      | a::l,hg =>
        dsimp only
        cases a.1 != 6 with
        | true=>exact hz
        | false =>
          rw[cond_false]
          cases h3:(JG (Oq a.2.1)).2 != 0 with
          | true=>exact hz
          | false =>
            rw[cond_false]
            match l,hg with
            | [],_=>exact hz
            | b::m,hg =>
              dsimp only
              have hb:=(hg.all b (by simp)).content
              cases b.1 != 12&&b.1 != 19&&b.1 != 22 with
              | true=>exact hz
              | false =>
                match m with
                | []=>exact⟨Ags _,by show b.2.1.length<=_;omega⟩
                | _::_=>exact hz
theorem wL (e:El) (he:e.2.1.length<=1048576): ∀ a∈(IE e).1,MV a:=by
  have hg:Good 1048576 (AV e.2.1).1:=(Dt e.2.1).mono he
  unfold IE
  cases e.1 != 49<;>cases (AV e.2.1).2 != 0<;>cases Ace (AV e.2.1).1<;>cases AU (fun a=>(Tf a).2) (AV e.2.1).1 != 0<;>intro a ha
  all_goals first
    | exact absurd ha (List.not_mem_nil)
    | (obtain⟨x,hx,rfl⟩:=List.mem_map.1 ha
       exact AfV x (by have:=(hg.all x hx).content;omega))
theorem sG (N:Nat) (s:Bs) (hN:1048578<N) (hs:s.length<=1048576):Ov N s=some (nmD s):=by
  unfold Ov
  try simp only[clR]
  rw[Pq N s (by omega) (by omega)]
  have hc:=MQ s
  unfold nmD
  generalize Cf s=o at hc ⊢
  rw[Ae]
  rw[DZ N o.1.2.1 (by omega) (by omega) (by omega)]
  have hg:Good 1048576 (AV o.1.2.1).1:=(Dt o.1.2.1).mono (by omega)
  generalize AV o.1.2.1=r at hg ⊢
  obtain⟨l,er⟩:=r
  have hlen:l.length<=1048576:=hg.len
  rw[Ae]
  dsimp only
  simp only[<- Bh]
  refine BR fun _=>BR fun _=>BR fun _=> ?_
  refine(YF (fun i acc=>((i:Int),acc)) l (0,[],[]) (fun a=>(IE a).2) (fun a=>(IE a).1) (fun e=>some ([],e)) (fun acc=>Ac (Gh N acc) fun r60=>bif r60 != 0 then some ([],r60)else some (acc,0)) ?_ ?_ N (by omega)).trans ?_
  ·intro i acc hi ha k
   have hc:=(hg.all _ (getD_mem (0,[],[]) hi)).content
   dsimp only at hc
   have hE:=AmN N (l.getD i (0,[],[])) hN (by omega)
   simp (disch:=first | assumption | omega) only[A7,hE]
   generalize IE (l.getD i (0,[],[]))=y
   cases y.2 != 0<;>rfl
  ·intro acc k ha
   simp (disch:=first | assumption | omega) only[A7]
  ·rw[Na N _ hN (fun p hp e he=>by
     obtain⟨x,hx,rfl⟩:=List.mem_map.1 hp
     exact wL x (by have:=(hg.all x hx).content;omega) e he),Ae]
