import Derived.Test.YtadefjgbcapakaaGreatDoorA19
set_option linter.all false
namespace Go.Proofs.YtadefjgbcapakaaGreatDoor.Pl
open IntKind (i64)
open Go Vm
def Dw (lim:Nat):Bs->Nat->Bool->List Nat->Option (List Nat)
  | [],_,mid,acc=>if mid=true then none else some acc
  | b::r,cur,mid,acc =>
    if mid=false/\b.toNat=128 then none
    else if lim<cur*128+b.toNat % 128 then none
    else if 128<=b.toNat then Dw lim r (cur*128+b.toNat % 128) true acc
    else Dw lim r 0 false (acc++[cur*128+b.toNat % 128])
theorem EM (lim:Nat) (b:UInt8) (r:Bs) (cur:Nat) (mid:Bool) (acc:List Nat):Dw lim (b::r) cur mid acc=if mid=false/\b.toNat=128 then none
    else if lim<cur*128+b.toNat % 128 then none
    else if 128<=b.toNat then Dw lim r (cur*128+b.toNat % 128) true acc
    else Dw lim r 0 false (acc++[cur*128+b.toNat % 128]):=rfl
theorem or7 (t b:Nat) (ht:t<36028797018963968) (hb:b<128):Bg .or .i64 (((t*128:Nat)):Int) (b:Int)=((t*128+b:Nat):Int):=by
  have e: ∀ n:Nat,n<2 ^ 64->(BitVec.ofInt 64 (n:Int))=BitVec.ofNat 64 n:=fun n _=>by simp
  show i64.wrap _=_
  rw[show(BitVec.ofInt (i64).bits ((t*128:Nat):Int))=BitVec.ofNat 64 (t*128)from e _ (by omega),show(BitVec.ofInt (i64).bits ((b:Nat):Int))=BitVec.ofNat 64 b from e _ (by omega)]
  show i64.wrap (((BitVec.ofNat 64 (t*128)) ||| (BitVec.ofNat 64 b)).toNat:Int)=_
  rw[BitVec.toNat_or,BitVec.toNat_ofNat,BitVec.toNat_ofNat,Nat.mod_eq_of_lt (by omega),Nat.mod_eq_of_lt (by omega)]
  rw[show t*128=t <<< 7 by rw[Nat.shiftLeft_eq],<- Nat.shiftLeft_add_eq_or_of_lt (by omega:b<2 ^ 7),Nat.shiftLeft_eq]
  exact w64 (by omega) (by omega)
def numO:Option (List Nat)->Option (List Int)
  | none=>some []
  | some l=>some (ints l)
theorem AeW (v:Nat) (hv:v<=4294967294) (b:UInt8):Bg BinOp.or i64 (i64.wrap ((v:Int)*128)) (Bg BinOp.and i64 (i64.wrap (b.toNat:Int)) 127)=((v*128+b.toNat % 128:Nat):Int):=by
  have:=rX b
  rw[w64 (x:=(b.toNat:Int)) (by omega) (by omega),Agq _ (by omega),w64 (by omega) (by omega),show(v:Int)*128=((v*128:Nat):Int) by omega,or7 _ _ (by omega) (by omega)]
theorem AeV {ρ :Type} (N:Nat) (s:Bs) (hN:s.length+1<N) (hs:s.length<=1048576) (G:Option (List Nat)->Option ρ) (kx:Int×List Int->Option ρ) (bad:Option ρ) (hbad:G none=bad)
    (i:Nat) (acc:List Nat) (hi:i<=s.length) (ha:acc.length<=i)
    (hk: ∀(j:Nat) (a:List Nat),i<j->j<=s.length->a.length<=j->kx ((j:Int),ints a)=G (Dw 4294967294 (s.drop j) 0 false a)) :
    Ar (X:=Int×Int×List Int) (Y:=(Int×List Int) ⊕ Unit) (U3 fun t4b t5b l1004096b k3 x4 =>
              bif decide (t4b< ↑(List.length s))then
                Vm.chk (decide (0<=t4b))
                  (Vm.chk (decide (t4b< ↑(List.length s)))
                    (bif
                        decide
                          (Bg BinOp.or i64 (i64.wrap (t5b*128))
                            (Bg BinOp.and i64 (i64.wrap ↑(List.getD s t4b.toNat 0).toNat)
                              127) >
                            4294967294)then
                      bad
                    else
                      bif decide (i64.wrap ↑(List.getD s t4b.toNat 0).toNat<128)then
                        Vm.chk (decide ((l1004096b.length+1)*9<=140737488355328))
                          (x4
                            (Sum.inl
                              (i64.wrap (t4b+1),
                                l1004096b ++
                                  [Bg BinOp.or i64 (i64.wrap (t5b*128))
                                    (Bg BinOp.and i64
                                      (i64.wrap ↑(List.getD s t4b.toNat 0).toNat) 127)])))
                      else
                        k3
                          (i64.wrap (t4b+1),
                            Bg BinOp.or i64 (i64.wrap (t5b*128))
                             (Bg BinOp.and i64 (i64.wrap ↑(List.getD s t4b.toNat 0).toNat)
                               127),
                            l1004096b)))
              else x4 (Sum.inr ())) N ((i:Int),0,ints acc) (Sum.elim (U2 fun t4c l42240c=>kx (t4c,l42240c)) fun x=>bad)=G (Dw 4294967294 (s.drop i) 0 true acc):=by
  refine Eq.trans (Gh (I:=fun x:Int×Int×List Int=> ∃(j v:Nat),x=((j:Int),(v:Int),ints acc)/\i<=j/\j<=s.length/\v<=4294967294) (μ :=fun x=>s.length - x.1.toNat) (F:=fun x=>G (Dw 4294967294 (s.drop x.1.toNat) x.2.1.toNat true acc)) ?_ N _ ⟨i,0,rfl,Nat.le_refl _,hi,by omega⟩ (by show s.length - ((i:Int)).toNat<N;omega)) ?_
  ·rintro x ⟨j,v,rfl,h1,h2,h3⟩ k hk2
   dsimp only[U3]
   rw[show((j:Int)).toNat=j by omega,show((v:Int)).toNat=v by omega]
   by_cases hl:j<s.length
   ·have hg:s.getD j 0=s[j]:=getD_lt s j 0 hl
    have hb:=rX s[j]
    rw[hg,AeW v h3,List.drop_eq_getElem_cons hl,EM,if_neg (fun h=>by cases h.1),decide_eq_true (by omega),cond_true,decide_eq_true (by omega),AY,AY]
    by_cases hv:4294967294<v*128+s[j].toNat % 128
    ·rw[if_pos hv,decide_eq_true (by omega),cond_true,hbad]
    ·rw[if_neg hv,decide_eq_false (by omega),cond_false,w64 (x:=(s[j].toNat:Int)) (by omega) (by omega),w64 (by omega) (by omega)]
     by_cases hc:128<=s[j].toNat
     ·rw[if_pos hc,decide_eq_false (by omega),cond_false,show((j:Int)+1)=((j+1:Nat):Int)from rfl,hk2 _ ⟨j+1,_,rfl,by omega,by omega,by omega⟩ (by show s.length - ((j+1:Nat):Int).toNat<s.length - ((j:Int)).toNat;omega)]
      show G (Dw _ (s.drop ((j+1:Nat):Int).toNat) ((v*128+s[j].toNat % 128:Nat):Int).toNat true acc)=_
      rw[show((j+1:Nat):Int).toNat=j+1 by omega,show((v*128+s[j].toNat % 128:Nat):Int).toNat=v*128+s[j].toNat % 128 by omega]
     ·rw[if_neg hc,decide_eq_true (by omega),cond_true,Gg,decide_eq_true (by omega),AY]
      show kx ((j:Int)+1,ints acc++ints [v*128+s[j].toNat % 128])=_
      rw[<- AeH]
      exact hk (j+1) _ (by omega) (by omega) (by rw[List.length_append,List.length_singleton];omega)
   ·rw[decide_eq_false (by omega),cond_false,show j=s.length by omega,List.drop_length]
    show bad=G none
    exact hbad.symm
  ·show G (Dw _ (s.drop ((i:Int)).toNat) (0:Int).toNat true acc)=_
   rw[show((i:Int)).toNat=i by omega]
   rfl
theorem lK (N:Nat) (s:Bs) (hs:s.length<=1048576) (hN:s.length+1<N):MW N s=numO (Dw 4294967294 s 0 false []):=by
  unfold MW
  refine Eq.trans (Gh (I:=fun x:Int×List Int=> ∃(j:Nat) (a:List Nat),x=((j:Int),ints a)/\j<=s.length/\a.length<=j) (μ :=fun x=>s.length - x.1.toNat) (F:=fun x=>numO (Dw 4294967294 (s.drop x.1.toNat) 0 false (x.2.map Int.toNat))) ?_ N _ ⟨0,[],rfl,Nat.zero_le _,Nat.zero_le _⟩ (by show s.length - 0<N;omega)) rfl
  rintro x ⟨j,a,rfl,h1,h2⟩ k hk
  dsimp only[U2]
  have hmap: ∀ a:List Nat,(ints a).map Int.toNat=a:=by
    intro a
    unfold ints
    rw[List.map_map]
    exact(List.map_congr_left fun x _=>by rfl).trans (List.map_id _)
  rw[show((j:Int)).toNat=j by omega,hmap]
  by_cases hl:j<s.length
  ·have hg:s.getD j 0=s[j]:=getD_lt s j 0 hl
   have hb:=rX s[j]
   rw[hg,decide_eq_true (by omega),cond_true,decide_eq_true (by omega),AY,AY]
   by_cases h8:s[j].toNat=128
   ·rw[List.drop_eq_getElem_cons hl,EM,if_pos ⟨rfl,h8⟩,h8]
    rfl
   ·have hbe:(((s[j].toNat:Nat):Int)==128)=false:=by
      apply Bool.eq_false_iff.2
      intro h
      have:=eq_of_beq h
      omega
    rw[hbe,cond_false]
    have he:Dw 4294967294 (s.drop j) 0 false a=Dw 4294967294 (s.drop j) 0 true a:=by
      rw[List.drop_eq_getElem_cons hl,EM,EM]
      simp only[h8,and_false,if_false]
    rw[he]
    refine AeV N s hN hs numO k (some []) rfl j a h1 h2 ?_
    intro i a' hi1 hi2 ha'
    rw[hk _ ⟨i,a',rfl,hi2,ha'⟩ (by show s.length - ((i:Int)).toNat<s.length - ((j:Int)).toNat;omega)]
    show numO (Dw _ (s.drop ((i:Int)).toNat) 0 false ((ints a').map Int.toNat))=_
    rw[hmap,show((i:Int)).toNat=i by omega]
  ·rw[decide_eq_false (by omega),cond_false,show j=s.length by omega,List.drop_length]
   rfl
theorem X5 (lim:Nat): ∀(s:Bs) (cur:Nat) (mid:Bool) (acc l:List Nat),Dw lim s cur mid acc=some l-> ∃ t,l=acc++t:=by
  intro s
  induction s with
  | nil =>
    intro cur mid acc l h
    cases mid with
    | true=>cases h
    | false=>injection h with h;exact⟨[],by rw[List.append_nil];exact h.symm⟩
  | cons b r ih =>
    intro cur mid acc l h
    rw[EM]at h
    split at h
    ·cases h
    ·split at h
     ·cases h
     ·split at h
      ·exact ih _ _ _ _ h
      ·obtain⟨t,rfl⟩:=ih _ _ _ _ h
       exact⟨_,List.append_assoc _ _ _⟩
theorem AdE (lim m:Nat): ∀(s:Bs) (v:Nat) (acc l:List Nat),m<v->Dw lim s v true acc=some l-> ∃ x∈l,m<x:=by
  intro s
  induction s with
  | nil=>intro v acc l _ h;cases h
  | cons b r ih =>
    intro v acc l hv h
    rw[EM]at h
    split at h
    ·cases h
    ·split at h
     ·cases h
     ·split at h
      ·exact ih _ _ _ (by omega) h
      ·obtain⟨t,rfl⟩:=X5 _ _ _ _ _ _ h
       exact⟨_,List.mem_append_left _ (List.mem_append_right _ List.mem_cons_self),by omega⟩
def upTo (m:Nat) (l:List Nat):Option (List Nat):=if ∀ x∈l,x<=m then some l else none
theorem nR (lim m:Nat) (hm:m<=lim): ∀(s:Bs) (cur:Nat) (mid:Bool) (acc:List Nat),(∀ x∈acc,x<=m)->Dw m s cur mid acc=(Dw lim s cur mid acc).bind (upTo m):=by
  intro s
  induction s with
  | nil =>
    intro cur mid acc ha
    cases mid with
    | true=>rfl
    | false=>show some acc=upTo m acc;unfold upTo;rw[if_pos ha]
  | cons b r ih =>
    intro cur mid acc ha
    rw[EM,EM]
    by_cases h1:mid=false/\b.toNat=128
    ·rw[if_pos h1,if_pos h1];rfl
    ·rw[if_neg h1,if_neg h1]
     by_cases h2:lim<cur*128+b.toNat % 128
     ·rw[if_pos h2,if_pos (by omega)];rfl
     ·rw[if_neg h2]
      by_cases h3:m<cur*128+b.toNat % 128
      ·rw[if_pos h3]
       have key: ∀ q:Option (List Nat),(∀ l,q=some l-> ∃ x∈l,m<x)->none=q.bind (upTo m):=by
         intro q hq
         cases q with
         | none=>rfl
         | some l =>
           obtain⟨x,h4,h5⟩:=hq l rfl
           show none=upTo m l
           unfold upTo
           rw[if_neg (fun h=>by have:=h x h4;omega)]
       refine key _ fun l hl=> ?_
       split at hl
       ·exact AdE _ _ _ _ _ _ h3 hl
       ·obtain⟨t,rfl⟩:=X5 _ _ _ _ _ _ hl
        exact⟨_,List.mem_append_left _ (List.mem_append_right _ List.mem_cons_self),h3⟩
      ·rw[if_neg h3]
       split
       ·exact ih _ _ _ ha
       ·refine ih _ _ _ fun x hx=> ?_
        rcases List.mem_append.1 hx with hx | hx
        ·exact ha x hx
        ·rw[List.mem_singleton]at hx;omega
def two (l:List Nat):List Nat:=match l with
  | []=>[]
  | n::t=>(if 2<n / 40 then 2 else n / 40)::(n - 40*(if 2<n / 40 then 2 else n / 40))::t
def Fz (a:List Nat):Bs:=([46]:Bs).intercalate (a.map dd)
theorem KC (x y:Bs) (r:List Bs):([46]:Bs).intercalate (x::y::r)=x++46::([46]:Bs).intercalate (y::r):=by
  simp [List.intercalate]
theorem AbQ: ∀(a:List Nat),a≠ []->Bo 46 (Fz a)=a.map dd:=by
  intro a
  induction a with
  | nil=>intro h;exact absurd rfl h
  | cons n r ih =>
    intro _
    cases r with
    | nil =>
      show Bo 46 (([46]:Bs).intercalate [dd n])=_
      rw[show([46]:Bs).intercalate [dd n]=dd n by simp [List.intercalate],RX _ _ (OI (tX n))];rfl
    | cons m r =>
      show Bo 46 (([46]:Bs).intercalate (dd n::dd m::r.map dd))=_
      rw[KC,Yl _ _ _ (OI (tX n))]
      have:=ih (by simp)
      unfold Fz at this
      rw[List.map_cons]at this
      rw[this];rfl
theorem AfQ: ∀(a:List Nat),(∀ x∈a,x<10000000000)->F6 Gx (a.map dd)=upTo 2147483647 a:=by
  intro a
  induction a with
  | nil=>intro _;rfl
  | cons n r ih =>
    intro h
    rw[List.map_cons,QN,AfC n (h n List.mem_cons_self),ih (fun x hx=>h x (List.mem_cons_of_mem _ hx))]
    unfold upTo
    by_cases h1:n<=2147483647
    ·rw[if_pos h1]
     by_cases h2: ∀ x∈r,x<=2147483647
     ·rw[if_pos h2,if_pos (fun x hx=>(List.mem_cons.1 hx).elim (fun e=>e▸h1) (h2 x))];rfl
     ·rw[if_neg h2,if_neg (fun h=>h2 fun x hx=>h x (List.mem_cons_of_mem _ hx))];rfl
    ·rw[if_neg h1,if_neg (show ¬ ∀ x∈n::r,x<=2147483647 from fun h=>h1 (h n List.mem_cons_self))];rfl
theorem Y9 {l:List Nat} (h:l≠ []):(two l).length=l.length+1:=by
  cases l with
  | nil=>exact absurd rfl h
  | cons n t=>rfl
theorem Afp {l:List Nat} (h:l≠ []):NI (two l)=true:=by
  cases l with
  | nil=>exact absurd rfl h
  | cons n t =>
    show(decide ((if 2<n / 40 then 2 else n / 40)<=1)&&decide (n - 40*(if 2<n / 40 then 2 else n / 40)<=39)||decide ((if 2<n / 40 then 2 else n / 40)=2))=true
    simp only[Bool.or_eq_true,Bool.and_eq_true,decide_eq_true_eq]
    split<;>omega
theorem jQ {l:List Nat} {m:Nat} (hm:2<=m) (h: ∀ x∈l,x<m): ∀ x∈two l,x<m+1:=by
  cases l with
  | nil=>intro x hx;cases hx
  | cons n t =>
    intro x hx
    have hn:=h n List.mem_cons_self
    rcases List.mem_cons.1 hx with rfl | hx
    ·split<;>omega
    ·rcases List.mem_cons.1 hx with rfl | hx
     ·omega
     ·have:=h x (List.mem_cons_of_mem _ hx);omega
theorem AgY {l:List Nat} (h: ∀ x∈two l,x<=2147483647): ∀ x∈l,x<=2147483727:=by
  cases l with
  | nil=>intro x hx;cases hx
  | cons n t =>
    intro x hx
    rcases List.mem_cons.1 hx with rfl | hx
    ·have h1:=h (x - 40*(if 2<x / 40 then 2 else x / 40)) (List.mem_cons_of_mem _ List.mem_cons_self)
     split at h1<;>omega
    ·have:=h x (List.mem_cons_of_mem _ (List.mem_cons_of_mem _ hx));omega
theorem Acz {l:List Nat} (h:l≠ []) (h1:l.length<=11) (h2: ∀ x∈l,x<9999999999):Ii (Fz (two l))=upTo 2147483647 (two l):=by
  have hl:=Y9 h
  unfold Ii
  rw[AbQ _ (by intro e;rw[e]at hl;simp at hl),List.length_map,if_neg (by have:=List.length_pos_iff.2 h;omega),AfQ _ (jQ (by omega) h2)]
  unfold upTo
  by_cases h3: ∀ x∈two l,x<=2147483647
  ·rw[if_pos h3]
   dsimp only
   rw[if_pos (Afp h)]
  ·rw[if_neg h3]
def Me (s:Bs):Option (List Nat):=(Dw 4294967294 s 0 false []).bind fun l=>if l.length=0\/11<l.length then none else upTo 2147483647 (two l)
def IA:Option (List Nat)->Bs×Int
  | none=>([],11)
  | some a=>(Fz a,0)
theorem AeU {lim:Nat} {s:Bs} {l:List Nat} (h:Dw lim s 0 false []=some l): ∀ x∈l,x<=lim:=by
  have h1:=nR lim lim (Nat.le_refl _) s 0 false [] (fun x hx=>by cases hx)
  rw[h]at h1
  have h2:some l=upTo lim l:=h1
  unfold upTo at h2
  split at h2
  ·assumption
  ·cases h2
theorem Vs: ∀(a:List Nat),(∀ x∈a,x<10000000000)->(Fz a).length<=11*a.length:=by
  intro a
  induction a with
  | nil=>intro _;exact Nat.le_refl _
  | cons n r ih =>
    intro h
    have h1:=SX 9 n (by have:=h n List.mem_cons_self;omega)
    cases r with
    | nil =>
      show(([46]:Bs).intercalate [dd n]).length<=_
      rw[show([46]:Bs).intercalate [dd n]=dd n by simp [List.intercalate]]
      simp only[List.length_singleton];omega
    | cons m r =>
      have h2:=ih (fun x hx=>h x (List.mem_cons_of_mem _ hx))
      show(([46]:Bs).intercalate (dd n::dd m::r.map dd)).length<=_
      rw[KC,List.length_append,List.length_cons]
      unfold Fz at h2
      rw[List.map_cons]at h2
      simp only[List.length_cons]at h2 ⊢
      omega
theorem Adj (l:List Nat) (k:Nat):AV (ints l) k (ints l).length=ints (l.drop k):=by
  unfold AV ints
  rw[List.take_length,List.map_drop]
def uX (n:Nat):Option Bs:=if n<=2147483647 then some (dd n)else none
theorem AeO: ∀ a:List Nat,F6 uX a=(upTo 2147483647 a).map (List.map dd):=by
  intro a
  induction a with
  | nil=>rfl
  | cons n r ih =>
    rw[QN,ih]
    unfold uX upTo
    by_cases h1:n<=2147483647
    ·rw[if_pos h1]
     by_cases h2: ∀ x∈r,x<=2147483647
     ·rw[if_pos h2,if_pos (fun x hx=>(List.mem_cons.1 hx).elim (fun e=>e▸h1) (h2 x))];rfl
     ·rw[if_neg h2,if_neg (fun h=>h2 fun x hx=>h x (List.mem_cons_of_mem _ hx))];rfl
    ·rw[if_neg h1,if_neg (show ¬ ∀ x∈n::r,x<=2147483647 from fun h=>h1 (h n List.mem_cons_self))];rfl
theorem Aam (n:Nat) (hn:n<=4294967294):(bif decide ((2:Int)<i64.wrap (((n:Nat):Int).tdiv 40))then(2:Int)else i64.wrap (((n:Nat):Int).tdiv 40))=(((if 2<n / 40 then 2 else n / 40:Nat)):Int):=by
  rw[show((n:Int)).tdiv 40=((n / 40:Nat):Int)from rfl,w64 (by omega) (by omega)]
  by_cases h:2<n / 40
  ·rw[decide_eq_true (by omega),if_pos h];rfl
  ·rw[decide_eq_false (by omega),if_neg h];rfl
theorem xP (n:Nat) (hn:n<=4294967294):i64.wrap (((n:Nat):Int) - i64.wrap (40*(((if 2<n / 40 then 2 else n / 40:Nat)):Int)))=((n - 40*(if 2<n / 40 then 2 else n / 40):Nat):Int):=by
  have h:40*(if 2<n / 40 then 2 else n / 40)<=n:=by split<;>omega
  have h2:(if 2<n / 40 then 2 else n / 40)<=2:=by split<;>omega
  generalize (if 2<n / 40 then 2 else n / 40)=q at *
  rw[w64 (x:=40*(q:Int)) (by omega) (by omega),w64 (by omega) (by omega)]
  omega
theorem oM (N:Nat) (s:Bs) (hs:s.length<=1048576) (hN:s.length+1<N) (hN2:16<N):OQ N s=some (IA (Me s)):=by
  unfold OQ
  try simp only[clR]
  rw[lK N s hs hN]
  unfold Me
  cases hsc:Dw 4294967294 s 0 false []with
  | none=>rfl
  | some l =>
    have hle:=AeU hsc
    rw[show numO (some l)=some (ints l)from rfl,Af,Gg]
    show _=some (IA (if l.length=0\/11<l.length then none else upTo 2147483647 (two l)))
    by_cases h0:l.length=0\/11<l.length
    ·rw[if_pos h0,show(((l.length:Nat):Int)==0||decide ((l.length:Int)>11))=true by
       rcases h0 with h0 | h0
       ·rw[h0];rfl
       ·rw[decide_eq_true (by omega),Bool.or_true]]
     rfl
    ·have hb:(((l.length:Nat):Int)==0||decide ((l.length:Int)>11))=false:=by
       rw[decide_eq_false (by omega),Bool.or_false]
       apply Bool.eq_false_iff.2
       intro h
       have:=eq_of_beq h
       omega
     rw[if_neg h0,hb,cond_false]
     obtain⟨n,t,rfl⟩: ∃ n t,l=n::t:=by
       cases l with
       | nil=>exact absurd (Or.inl rfl) h0
       | cons n t=>exact⟨n,t,rfl⟩
     have hn:=hle n List.mem_cons_self
     simp only[List.length_cons]at h0
     have hc:AV (ints (n::t)) 1 (n::t).length=ints t:=by rw[<- Gg (n::t),Adj];rfl
     rw[hc,show(ints (n::t)).getD 0 0=(n:Int)from rfl,Aam n hn,xP n hn]
     have he: [(((if 2<n / 40 then 2 else n / 40:Nat)):Int),((n - 40*(if 2<n / 40 then 2 else n / 40):Nat):Int)]++ints t=ints (two (n::t)):=rfl
     rw[he]
     have h2l:=Y9 (l:=n::t) (by simp)
     have h2m:=jQ (m:=4294967295) (by omega) (fun x hx=>by have:=hle x hx;omega) (l:=n::t)
     simp only[List.length_cons]at h2l
     rw[decide_eq_true (by simp only[List.length_cons];omega),AY,AY,decide_eq_true (by simp only[List.length_cons];omega),AY,decide_eq_true (by rw[Gg];omega),AY]
     generalize two (n::t)=e at *
     refine Eq.trans (fZ (S:=List Bs) (mk:=fun i a=>(i,ints e,a)) (out:=fun a=>a) e 0 (fun i a=>a.length=i) (Vp uX (fun a v=>a++[v]) (some ([],11))) ?_ ?_ N [] rfl (by omega)) ?_
     ·intro i a hi ha
      rw[getD_lt e i 0 hi]
      have hx:=h2m e[i] (List.getElem_mem hi)
      have key: ∀(A:Option (Bs×Int)) (K:Int->Option (Bs×Int)),(bif decide ((i:Int)<((ints e).length:Int))then Vm.chk (decide (0<=(i:Int))) (Vm.chk (decide ((i:Int)<((ints e).length:Int))) (Vm.chk (decide ((i:Int).toNat<(ints e).length)) (K ((ints e).getD (i:Int).toNat 0))))else A)=K ((e[i]:Nat):Int):=by
        intro A K
        rw[Gg,decide_eq_true (by omega),cond_true,decide_eq_true (by omega),AY,AY,show((i:Int)).toNat=i by omega,decide_eq_true (by omega),AY,Adk,getD_lt e i 0 hi]
      refine xI (fun hv k=> ?_) (fun v hv=>⟨fun k=> ?_,by simp [ha]⟩)
      ·unfold uX at hv
       split at hv
       ·cases hv
       ·dsimp only[U3]
        refine(key _ (fun y=>bif decide (y>2147483647)then some ([],11)else _)).trans ?_
        rw[decide_eq_true (by omega),cond_true]
      ·unfold uX at hv
       split at hv
       ·injection hv with hv;subst hv
        dsimp only[U3]
        refine(key _ (fun y=>bif decide (y>2147483647)then some ([],11)else Ae (strconv_Itoa N y) _)).trans ?_
        rw[decide_eq_false (by omega),cond_false,Af9 N _ (by omega),Af,decide_eq_true (by omega),AY,w64 (by omega) (by omega)]
       ·cases hv
     ·intro a k ha
      show(bif decide ((e.length:Int)<((ints e).length:Int))then _ else _)=_
      rw[Gg,decide_eq_false (by omega),cond_false]
     ·rw[AdT,AeO]
      have hf: ∀ l:List Bs,l.foldl (fun(a:List Bs) (v:Bs)=>a++[v]) []=l:=by
        intro l
        rw[nH (fun x=>x),List.nil_append,List.map_id']
      unfold upTo
      by_cases hu: ∀ x∈e,x<=2147483647
      ·rw[if_pos hu]
       dsimp only[Option.map,Option.elim]
       rw[hf]
       have htl:=Vs e (fun x hx=>by have:=hu x hx;omega)
       unfold Fz at htl
       unfold strings_Join
       rw[List.length_map,decide_eq_true (by omega),decide_eq_true (by omega)]
       rfl
      ·rw[if_neg hu];rfl
theorem Adq {X Y ρ :Type} {B:X->(X->Option ρ)->(Y->Option ρ)->Option ρ} {kx:Y->Option ρ} (P:X->Option ρ ->Prop) (μ :X->Nat)
    (h: ∀ x v,P x v-> ∀ k:X->Option ρ,(∀ x' v',P x' v'-> μ x'< μ x->k x'=v')->B x k kx=v): ∀(N:Nat) (x:X) (v:Option ρ),P x v-> μ x<N->Ar B N x kx=v:=by
  intro N
  induction N with
  | zero=>intro x v _ h;omega
  | succ N ih=>intro x v hI hm;exact h x v hI _ (fun x' v' hI' hm'=>ih x' v' hI' (by omega))
def cc (acc:List Nat):Nat:=if acc=[]then 0 else acc.length+1
def fB:Option (Bs×Int):=some ([],11)
def Agw (kx:Bs×Bool->Option (Bs×Int)):Option (List Nat)->Option (Bs×Int)
  | none=>fB
  | some l=>if 11<l.length then fB else kx (Fz (two l),false)
theorem Afq {l:List Nat} (v:Nat) (h:l≠ []):two (l++[v])=two l++[v]:=by
  cases l with
  | nil=>exact absurd rfl h
  | cons n t=>rfl
theorem Aeb (v:Nat): ∀ a:List Nat,a≠ []->Fz (a++[v])=Fz a++46::dd v:=by
  intro a
  induction a with
  | nil=>intro h;exact absurd rfl h
  | cons n r ih =>
    intro _
    cases r with
    | nil =>
      show([46]:Bs).intercalate [dd n,dd v]=([46]:Bs).intercalate [dd n]++_
      simp [List.intercalate]
    | cons m r =>
      have h2:=ih (by simp)
      unfold Fz at h2 ⊢
      show([46]:Bs).intercalate (dd n::dd m::(r++[v]).map dd)=([46]:Bs).intercalate (dd n::dd m::r.map dd)++_
      have h3:([46]:Bs).intercalate (dd m::(r++[v]).map dd)=([46]:Bs).intercalate (dd m::r.map dd)++46::dd v:=h2
      rw[KC,KC,h3,List.append_assoc]
      rfl
theorem Afo (n:Nat):Fz (two [n])=dd (if 2<n / 40 then 2 else n / 40)++[46]++dd (n - 40*(if 2<n / 40 then 2 else n / 40)):=by
  show([46]:Bs).intercalate [dd _,dd _]=_
  rw[KC]
  simp [List.intercalate]
theorem NF (N:Nat) (s:Bs) (hs:s.length<=1048576) (hN:s.length+1<N) (hN2:1000<N):EC N s=some (IA (Me s)):=by
  unfold EC
  try simp only[clR]
  refine Eq.trans (Adq (P:=fun(x:Bs×Int×Bool×Int×Int) v=> ∃(i cur:Nat) (mid:Bool) (acc:List Nat),x=(Fz (two acc),(cur:Int),mid,((cc acc:Nat):Int),(i:Int))/\i<=s.length/\acc.length<=11/\(∀ x∈acc,x<=2147483727)/\cur<=2147483727/\v=Agw (fun q=>Vm.chk ((A7 N q.1).isSome||(((s.length:Nat):Int)==0||q.2)) (bif (((s.length:Nat):Int)==0||q.2|| !(A7 N q.1).getD default)then some ([],11)else some (q.1,0))) (Dw 2147483727 (s.drop i) cur mid acc)) (μ :=fun x=>s.length - x.2.2.2.2.toNat) ?_ N ([],0,false,0,0) _ ⟨0,0,false,[],rfl,Nat.zero_le _,Nat.zero_le _,fun x (h:x∈ [])=>absurd h (List.not_mem_nil),Nat.zero_le _,rfl⟩ (by show s.length - 0<N;omega)) ?_
  ·rintro x v ⟨i,cur,mid,acc,rfl,h1,h2,h3,h4,rfl⟩ k hk
   dsimp only[U5,U2]
   rw[show((i:Int)).toNat=i by omega]
   by_cases hl:i<s.length
   ·have hg:s.getD i 0=s[i]:=getD_lt s i 0 hl
    have hb:=rX s[i]
    rw[hg,decide_eq_true (by omega),cond_true,decide_eq_true (by omega)]
    simp only[Bool.true_or,AY]
    rw[List.drop_eq_getElem_cons hl,EM]
    by_cases h8:mid=false/\s[i].toNat=128
    ·rw[if_pos h8,h8.1,h8.2];rfl
    ·have hbe:(!mid&&((s[i].toNat:Nat):Int)==128)=false:=by
       apply Bool.eq_false_iff.2
       intro h
       simp only[Bool.and_eq_true,Bool.not_eq_true',beq_iff_eq]at h
       exact h8 ⟨h.1,by omega⟩
     rw[if_neg h8,hbe,cond_false]
     rw[show((s[i].toNat:Nat):Int).tmod 128=((s[i].toNat % 128:Nat):Int)from rfl,w64 (x:=((s[i].toNat % 128:Nat):Int)) (by omega) (by omega),w64 (x:=128*(cur:Int)) (by omega) (by omega),w64 (x:=128*(cur:Int)+_) (by omega) (by omega),show 128*(cur:Int)+((s[i].toNat % 128:Nat):Int)=((cur*128+s[i].toNat % 128:Nat):Int) by omega]
     generalize hw:cur*128+s[i].toNat % 128=w
     by_cases hv:2147483727<w
     ·rw[if_pos hv,decide_eq_true (by omega),cond_true];rfl
     ·rw[if_neg hv,decide_eq_false (by omega),cond_false,w64 (x:=(i:Int)+1) (by omega) (by omega),show((i:Int)+1)=((i+1:Nat):Int)from rfl]
      have hmu: ∀(a:Bs) (b:Int) (c:Bool) (d:Int),s.length - ((a,b,c,d,((i+1:Nat):Int)):Bs×Int×Bool×Int×Int).2.2.2.2.toNat<s.length - ((Fz (two acc),(cur:Int),mid,((cc acc:Nat):Int),(i:Int)):Bs×Int×Bool×Int×Int).2.2.2.2.toNat:=by
        intro a b c d
        show s.length - ((i+1:Nat):Int).toNat<s.length - ((i:Int)).toNat
        omega
      by_cases hc:128<=s[i].toNat
      ·rw[if_pos hc,decide_eq_true (by omega),cond_true]
       exact hk _ _ ⟨i+1,w,true,acc,rfl,by omega,h2,h3,by omega,rfl⟩ (hmu _ _ _ _)
      ·rw[if_neg hc,decide_eq_false (by omega),cond_false,Tv]
       by_cases ha:acc=[]
       ·subst ha
        have hq:(if 2<w / 40 then 2 else w / 40)<=2:=by split<;>omega
        rw[Aam w (by omega),xP w (by omega),rZ N 9 _ (by omega) (by omega) N (by omega),rZ N 9 _ (by omega) (by omega) N (by omega)]
        rw[Af,Af]
        have hd1:=SX 9 (if 2<w / 40 then 2 else w / 40) (by omega)
        have hd2:=SX 9 (w - 40*(if 2<w / 40 then 2 else w / 40)) (by omega)
        rw[show(((cc []:Nat):Int)==0)=true from rfl,cond_true,decide_eq_true (by omega),AY,decide_eq_true (by rw[List.length_append,List.length_singleton];omega),AY]
        dsimp only[U2]
        rw[<- Afo]
        rw[show(decide (i64.wrap ((1:Int)+1)>12))=false by decide,cond_false,show i64.wrap ((1:Int)+1)=((cc [w]:Nat):Int) by unfold cc;rw[if_neg (by simp),List.length_singleton];decide]
        exact hk _ _ ⟨i+1,0,false,[w],rfl,by omega,by simp,fun x hx=>by rw[List.mem_singleton]at hx;omega,by omega,rfl⟩ (hmu _ _ _ _)
       ·have hcc:cc acc=acc.length+1:=if_neg ha
        have hpos:=List.length_pos_iff.2 ha
        have h2l:=Y9 ha
        have htl:=Vs (two acc) (fun x hx=>by have:=jQ (m:=2147483728) (by omega) (fun x hx=>by have:=h3 x hx;omega) x hx;omega)
        have hd1:=SX 9 w (by omega)
        have hne:two acc≠ []:=by intro e;rw[e]at h2l;simp at h2l
        have hz:(((cc acc:Nat):Int)==0)=false:=by
          apply Bool.eq_false_iff.2
          intro h
          have:=eq_of_beq h
          omega
        rw[hz,cond_false,rZ N 9 w (by omega) (by omega) N (by omega),Af,decide_eq_true (by omega),AY,decide_eq_true (by simp only[List.length_append,List.length_singleton];omega),AY]
        dsimp only[U2]
        rw[show Fz (two acc)++([46]++dd w)=Fz (two (acc++[w])) by rw[Afq w ha,Aeb w _ hne];rfl]
        rw[w64 (by omega) (by omega)]
        by_cases h11:acc.length=11
        ·rw[decide_eq_true (by omega),cond_true]
         cases hsc:Dw 2147483727 (s.drop (i+1)) 0 false (acc++[w])with
         | none=>rfl
         | some l =>
           obtain⟨t,rfl⟩:=X5 _ _ _ _ _ _ hsc
           show _=if 11<((acc++[w])++t).length then fB else _
           rw[if_pos (by simp only[List.length_append,List.length_singleton];omega)];rfl
        ·rw[decide_eq_false (by omega),cond_false]
         have hcc2:cc (acc++[w])=acc.length+2:=by
           unfold cc
           rw[if_neg (by simp),List.length_append,List.length_singleton]
         rw[show((cc acc:Nat):Int)+1=((cc (acc++[w]):Nat):Int) by omega]
         refine hk _ _ ⟨i+1,0,false,acc++[w],rfl,by omega,by rw[List.length_append,List.length_singleton];omega,fun x hx=> ?_,by omega,rfl⟩ (hmu _ _ _ _)
         rcases List.mem_append.1 hx with hx | hx
         ·exact h3 x hx
         ·rw[List.mem_singleton]at hx;omega
   ·rw[decide_eq_false (by omega),cond_false,show i=s.length by omega,List.drop_length]
    cases mid with
    | true =>
      simp only[Bool.or_true,AY,Bool.true_or,cond_true]
      rfl
    | false =>
      show _=if 11<acc.length then fB else _
      rw[if_neg (by omega)]
  ·have hlim:=nR 4294967294 2147483727 (by omega) s 0 false [] (fun x (h:x∈ [])=>absurd h (List.not_mem_nil))
   rw[List.drop_zero,hlim]
   unfold Me
   cases hsc:Dw 4294967294 s 0 false []with
   | none=>rfl
   | some l =>
     show Agw _ (upTo 2147483727 l)=some (IA (if l.length=0\/11<l.length then none else upTo 2147483647 (two l)))
     by_cases hu: ∀ x∈l,x<=2147483727
     ·rw[show upTo 2147483727 l=some l from if_pos hu]
      show(if 11<l.length then fB else _)=_
      by_cases h11:11<l.length
      ·rw[if_pos h11,if_pos (Or.inr h11)];rfl
      ·rw[if_neg h11]
       by_cases h0:l=[]
       ·subst h0
        rw[if_pos (show([]:List Nat).length=0\/11<([]:List Nat).length from Or.inl rfl)]
        have hv:=(Pq N [] (by omega) (Nat.zero_le _) (by show 0+1<N;omega)).2
        show Vm.chk ((A7 N []).isSome||_) (bif (_|| !(A7 N []).getD default)then _ else _)=_
        rw[hv]
        simp only[Option.isSome_some,Bool.true_or,AY]
        rw[show(some (Ii []).isSome:Option Bool).getD default=false from by decide,Bool.not_false,Bool.or_true]
        rfl
       ·have hpos:=List.length_pos_iff.2 h0
        have h2l:=Y9 h0
        have htl:=Vs (two l) (fun x hx=>by have:=jQ (m:=2147483728) (by omega) (fun x hx=>by have:=hu x hx;omega) x hx;omega)
        have hv:=(Pq N (Fz (two l)) (by omega) (by omega) (by omega)).2
        rw[Acz h0 (by omega) (fun x hx=>by have:=hu x hx;omega)]at hv
        rw[if_neg (by omega)]
        have hs0:(((s.length:Nat):Int)==0)=false:=by
          apply Bool.eq_false_iff.2
          intro h
          have h1:=eq_of_beq h
          have h2:s=[]:=List.length_eq_zero_iff.1 (by omega)
          rw[h2]at hsc
          injection hsc with hsc
          exact h0 hsc.symm
        dsimp only
        rw[hv,hs0]
        simp only[Option.isSome_some,Bool.true_or,AY,Bool.false_or]
        unfold upTo
        by_cases h3: ∀ x∈two l,x<=2147483647
        ·rw[if_pos h3];rfl
        ·rw[if_neg h3];rfl
     ·rw[show upTo 2147483727 l=none from if_neg hu]
      have:upTo 2147483647 (two l)=none:=if_neg fun h=>hu (AgY h)
      rw[this]
      split<;>rfl
end Go.Proofs.YtadefjgbcapakaaGreatDoor.Pl
namespace Go.Proofs.YtadefjgbcapakaaGreatDoor.Sp
def beNat (l:List UInt8):Nat:=l.foldl (fun v b=>v*256+b.toNat) 0
def leastOf (k:Nat):Nat:=if k=1 then 128 else 2 ^ (8*(k - 1))
theorem Aaz (l:List UInt8) (b:UInt8):beNat (l++[b])=beNat l*256+b.toNat:=by simp [beNat,List.foldl_append]
theorem Aep (l:List UInt8):beNat l<256 ^ l.length:=by
  have h: ∀(l:List UInt8) (v h:Nat),v<h->l.foldl (fun v b=>v*256+b.toNat) v<h*256 ^ l.length:=by
    intro l
    induction l with
    | nil=>intro v h hv;simpa using hv
    | cons b r ih =>
      intro v h hv
      have hb:=b.toNat_lt
      have:=ih (v*256+b.toNat) (h*256) (by omega)
      rw[List.foldl_cons,List.length_cons,Nat.pow_succ]
      rw[Nat.mul_comm (256 ^ r.length) 256,<- Nat.mul_assoc];exact this
  have:=h l 0 1 (by omega)
  simpa [beNat]using this
def head (l:List UInt8):Int×Nat×Nat :=
  match l with
  | []=>(3,0,0)
  | t::r =>
    if t.toNat % 32=31 then(5,0,0)else
    match r with
    | []=>(3,0,0)
    | n::r =>
      if n.toNat<128 then(0,2,n.toNat)else
      if n.toNat=128\/131<n.toNat then(6,0,0)else
      if r.length<n.toNat - 128 then(3,0,0)else
      if beNat (r.take (n.toNat - 128))<leastOf (n.toNat - 128)\/131072<beNat (r.take (n.toNat - 128))then(6,0,0)else
      (0,2+(n.toNat - 128),beNat (r.take (n.toNat - 128)))
def rd (l:List UInt8):Int×Nat×Nat:=if(head l).1=0/\l.length - (head l).2.1<(head l).2.2 then(3,0,0)else head l
def err (l:List UInt8):Int:=(rd l).1
def tag (l:List UInt8):Nat:=(l.headD 0).toNat
def content (l:List UInt8):List UInt8:=(l.drop (rd l).2.1).take (rd l).2.2
def raw (l:List UInt8):List UInt8:=l.take ((rd l).2.1+(rd l).2.2)
def rest (l:List UInt8):List UInt8:=l.drop ((rd l).2.1+(rd l).2.2)
theorem AfO (l:List UInt8) (h:(head l).1=0):2<=(head l).2.1/\(head l).2.1<=l.length/\(head l).2.1<=5/\(head l).2.2<=131072:=by
  unfold head at *
  split at h
  ·simp at h
  ·split at h
   ·simp at h
   ·split at h
    ·simp at h
    ·split at h
     ·simp only[*,if_true,if_false,List.length_cons];omega
     ·split at h
      ·simp at h
      ·split at h
       ·simp at h
       ·split at h
        ·simp at h
        ·simp only[*,if_false,List.length_cons];omega
theorem Y6 (l:List UInt8) (h:err l=0):2<=(rd l).2.1/\(rd l).2.1+(rd l).2.2<=l.length/\(rd l).2.1<=5/\(rd l).2.2<=131072:=by
  unfold err rd at *
  by_cases hc:(head l).1=0/\l.length - (head l).2.1<(head l).2.2
  ·rw[if_pos hc]at h;simp at h
  ·rw[if_neg hc]at h ⊢
   have:=AfO l h
   omega
theorem P7 (l:List UInt8) (h:err l=0):(rest l).length<l.length:=by
  have:=Y6 l h
  unfold rest;rw[List.length_drop];omega
theorem FN (l:List UInt8) (h:err l=0):(content l).length<l.length:=by
  have:=Y6 l h
  unfold content;rw[List.length_take,List.length_drop];omega
theorem kR (l:List UInt8) (h:err l=0):(content l).length=(rd l).2.2:=by
  have:=Y6 l h
  unfold content;rw[List.length_take,List.length_drop];omega
theorem iP (l:List UInt8) (h:err l=0):(raw l).length=(rd l).2.1+(rd l).2.2:=by
  have:=Y6 l h
  unfold raw;rw[List.length_take];omega
def G9 (l:List UInt8):Int:=if err l≠0 then err l else if rest l=[]then 0 else 4
def cons (t:Nat):Bool:=decide (t / 32 % 2=1)
def within:Nat->Nat->List UInt8->Int
  | 0,_,_=>0
  | f+1,d,l =>
    if l=[]then 0 else
    if err l≠0 then err l else
    if 16<=d then 8 else
    if(if cons (tag l)then within f (d+1) (content l)else 0)≠0 then(if cons (tag l)then within f (d+1) (content l)else 0)
    else within f d (rest l)
def inner (f d:Nat) (t:Nat) (c:List UInt8):Int:=if cons t then within f d c else 0
theorem Acu (f d:Nat) (l:List UInt8) (h:l≠ []) (he:err l≠0):within (f+1) d l=err l:=by
  rw[within,if_neg h,if_pos he]
theorem zO (f d:Nat) (l:List UInt8) (h:l≠ []) (he:err l=0) (hd:16<=d):within (f+1) d l=8:=by
  rw[within,if_neg h,if_neg (by simp [he]),if_pos hd]
theorem Acs (f d:Nat) (l:List UInt8) (h:l≠ []) (he:err l=0) (hd: ¬ 16<=d) (hi:inner f (d+1) (tag l) (content l)≠0):within (f+1) d l=inner f (d+1) (tag l) (content l):=by
  rw[within,if_neg h,if_neg (by simp [he]),if_neg hd]
  unfold inner at hi ⊢
  rw[if_pos hi]
theorem zQ (f d:Nat) (l:List UInt8) (h:l≠ []) (he:err l=0) (hd: ¬ 16<=d) (hi:inner f (d+1) (tag l) (content l)=0):within (f+1) d l=within f d (rest l):=by
  rw[within,if_neg h,if_neg (by simp [he]),if_neg hd]
  unfold inner at hi
  rw[if_neg (by simp [hi])]
def chk (l:List UInt8):Int:=if G9 l≠0 then G9 l else inner (l.length+1) 1 (tag l) (content l)
def AeL (n:Nat):List UInt8 :=
  if n<128 then [UInt8.ofNat n]else if n<256 then [129,UInt8.ofNat n]else if n<65536 then [130,UInt8.ofNat (n / 256),UInt8.ofNat n]
  else [131,UInt8.ofNat (n / 65536),UInt8.ofNat (n / 256),UInt8.ofNat n]
def elem (t:Nat) (c:List UInt8):List UInt8:=UInt8.ofNat t::AeL c.length++c
def wrap (t:Int) (c:List UInt8):List UInt8×Int :=
  if t<0\/255<t\/t % 32=31 then([],5)else if 131072<c.length then([],6)else(elem t.toNat c,0)
