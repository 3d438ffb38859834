import Derived.Test.YtbnphelpndnnfaaGreatDoorA20
set_option linter.all false
namespace Go.Proofs.YtbnphelpndnnfaaGreatDoor.Pl
open IntKind (i64)
open Go Vm
abbrev RnT:Type:=List (Bs×Int×Bs)
abbrev GnT:Type:=Int×Bs×List RnT
abbrev PtT:Type:=List GnT×Int×Bool×List RnT
abbrev EnT:Type:=Int×Int×Int×Int×List RnT
abbrev LsT:Type:=Bs×Bs×List RnT×Int×Int×Int×Int×Bs×Bool×List GnT×Bool×Bool×Int×Bool×List PtT×List EnT×Bs
abbrev Y8T:Type:=Int×Int×Int×Int×Int×Int×Int×Int
abbrev HsT:Type:=Int×Int×Int×Int×Int×Int×Int×Int×List Int×Int
abbrev TrT:Type:=List (List Bs)×Bs×Bs×Int
abbrev SgT:Type:=Bs×Int×Int×List TrT
def Tot {α :Type} (Q: α ->Prop) (o:Option α):Prop:= ∃ v,o=some v/\Q v
theorem Tot.chk {α :Type} {Q: α ->Prop} {c:Bool} {k:Option α} (hc:c=true) (h:Tot Q k):Tot Q (Vm.chk c k):=by rw[hc];exact h
theorem Tot.call {α β :Type} [Inhabited α] {P: α ->Prop} {Q: β ->Prop} {x:Option α} {f: α ->Option β} (h:Tot P x) (hf: ∀ v,P v->Tot Q (f v)):Tot Q (callO x f):=by
  obtain⟨v,rfl,hv⟩:=h
  exact hf v hv
theorem Tot.bif {α :Type} {Q: α ->Prop} {b:Bool} {x y:Option α} (h1:b=true->Tot Q x) (h2:b=false->Tot Q y):Tot Q (bif b then x else y):=by
  cases b with
  | true=>exact h1 rfl
  | false=>exact h2 rfl
theorem Tot.some {α :Type} {Q: α ->Prop} {v: α} (h:Q v):Tot Q (some v):=⟨v,rfl,h⟩
theorem Tot.jS {α :Type} {o:Option α} (h:o.isSome=true):Tot (fun _=>True) o:=by
  cases o with
  | none=>cases h
  | some v=>exact⟨v,rfl,trivial⟩
theorem Tot.mono {α :Type} {P Q: α ->Prop} {o:Option α} (h:Tot P o) (hq: ∀ v,P v->Q v):Tot Q o:=let ⟨v,e,p⟩:=h;⟨v,e,hq v p⟩
theorem qU (l:List Int):l=(List.range l.length).map fun i=>l.getD i 0:=by
  apply List.ext_getElem
  ·simp
  ·intro i h1 h2
   simp [List.getD_eq_getElem?_getD,h1]
theorem uQ (M:Nat) (p0:Y8T) (f:Nat->Int):(GK (M+70) p0 ((List.range 64).map f)).isSome=true:=by kernel_rfl
theorem jE {N:Nat} (hN:70<=N) (p0:Y8T) {l:List Int} (hl:l.length=64):Tot (fun _=>True) (GK N p0 l):=by
  obtain⟨M,rfl⟩:=Nat.exists_eq_add_of_le' hN
  have h:=uQ M p0 fun i=>l.getD i 0
  rw[<- hl,<- qU]at h
  exact Tot.jS h
theorem NQ {α :Type} (l:List α) (a b:Nat) (h:b<=l.length):(cutL l a b).length=b - a:=by
  simp [cutL];omega
abbrev dV (r:HsT):List Int:=r.2.2.2.2.2.2.2.2.1
theorem Y4 (N:Nat):Tot (fun _=>True) (MK N):=Tot.jS (by kernel_rfl)
theorem zQ {N:Nat} (hN:70<=N) (hM:N<=1000000000) (p0:HsT) (h8:(dV p0).length<64) (p1:Bs) (hl:p1.length+64<N):Tot (fun r=>(dV r).length<64) (Ij N p0 p1):=by
  unfold Ij;try simp -zeta only[Ap]
  refine Tot.bif (fun _=>Tot.some h8) fun _=> ?_
  refine jR (fun x=>x.2.2.2.2.2.2.2.2.1.length<64) (Tot _) (fun j hj=>Tot.bif (fun _=>(Y4 N).call fun v _=>hj _ h8) fun _=>hj _ h8) ?_
  rintro ⟨b0,b1,b2,b3,b4,b5,b6,b7,b8,b9⟩ hb
  have hb:b8.length<64:=hb
  dsimp only[U10]
  refine Tot.chk (decide_eq_true (by omega)) (Tot.chk (decide_eq_true (by rw[List.length_map];omega)) ?_)
  refine H7 (fun x=>x.1.length<N) (fun x=>x.1.length) (Tot _) ?_ N _ (by show(b8++p1.map _).length<N;rw[List.length_append,List.length_map];omega) (by show(b8++p1.map _).length<N;rw[List.length_append,List.length_map];omega)
  rintro ⟨t,c0,c1,c2,c3,c4,c5,c6,c7,c8,c9⟩ hI k hk
  have hI:t.length<N:=hI
  dsimp only[U11]
  refine Tot.bif (fun h=> ?_) fun h=> ?_
  ·have h:=of_decide_eq_true h
   refine Tot.chk (decide_eq_true (by omega)) ((jE hN _ (by rw[NQ _ _ _ (by omega)])).call fun v _=>Tot.chk (decide_eq_true (by omega)) (hk _ ?_ ?_))
   ·show(cutL t 64 t.length).length<N
    rw[NQ _ _ _ (Nat.le_refl _)];omega
   ·show(cutL t 64 t.length).length<t.length
    rw[NQ _ _ _ (Nat.le_refl _)];omega
  ·have h:=of_decide_eq_false h
   refine Tot.chk (decide_eq_true (by omega)) (Tot.some ?_)
   show t.length<64
   omega
theorem AcQ (n:Nat):(n:Int).tmod 64=((n % 64:Nat):Int):=by
  rw[Int.tmod_eq_emod_of_nonneg (by omega)];omega
theorem Abs {N:Nat} (hN:150<=N) (p0:HsT) (h8:(dV p0).length<64):Tot (fun r=>r.1.length=32) (Jr N p0):=by
  unfold Jr;try simp -zeta only[Ap]
  refine(Y4 N).call fun v _=>Tot.chk rfl ?_
  refine jR (fun x=>x.2.2.2.2.2.2.2.2.2.2.2.1.length=8/\x.2.2.2.2.2.2.2.2.2.2.2.2.length<64) (Tot _) (fun j hj=>Tot.bif (fun _=>Tot.chk (decide_eq_true (by have:p0.2.2.2.2.2.2.2.2.1.length<64:=h8;omega)) (hj _ ⟨rfl,h8⟩)) fun _=>hj _ ⟨rfl,by show 0<64;omega⟩) ?_
  rintro ⟨t,b0,b1,b2,b3,b4,b5,b6,b7,b8,b9,l1,l2⟩ ⟨h1,h2⟩
  have h1:l1.length=8:=h1
  have h2:l2.length<64:=h2
  dsimp only[U13]
  refine Tot.chk (decide_eq_true (by omega)) ?_
  refine H7 (fun x=>x.2.2.2.2.2.2.2.2.2.2.1.length=8/\x.2.2.2.2.2.2.2.2.2.2.2.length<=120) (fun x=>120 - x.2.2.2.2.2.2.2.2.2.2.2.length) (Tot _) ?_ N _ ⟨h1,by show(l2++_).length<=120;simp;omega⟩ (by show 120 - _<N;omega)
  rintro ⟨b0,b1,b2,b3,b4,b5,b6,b7,b8,b9,l1,l2⟩ ⟨h1,h2⟩ k hk
  have h1:l1.length=8:=h1
  have h2:l2.length<=120:=h2
  dsimp only[U12]
  rw[AcQ]
  refine Tot.bif (fun h=> ?_) fun h=> ?_
  ·have h: ¬((l2.length % 64:Nat):Int)=56:=bne_iff_ne.1 h
   refine Tot.chk (decide_eq_true (by omega)) (hk _ ⟨h1,?_⟩ ?_)
   ·show(l2++[0]).length<=120
    simp;omega
   ·show 120 - (l2++[0]).length<120 - l2.length
    simp;omega
  ·have h:((l2.length % 64:Nat):Int)=56:=by simpa using h
   clear k hk
   refine H7 (fun x=>x.2.2.2.2.2.2.2.2.2.2.2.1.length=8/\ -1<=x.1/\x.1<=7/\((x.2.2.2.2.2.2.2.2.2.2.2.2.length:Int)+x.1+1) % 64=0/\(x.2.2.2.2.2.2.2.2.2.2.2.2.length:Int)+x.1+1<=128) (fun x=>(x.1+1).toNat) (Tot _) ?_ N _ ⟨h1,by show(-1:Int)<=7;omega,by show(7:Int)<=7;omega,by show((l2.length:Int)+7+1) % 64=0;omega,by show(l2.length:Int)+7+1<=128;omega⟩ (by show((7:Int)+1).toNat<N;omega)
   rintro ⟨t,b0,b1,b2,b3,b4,b5,b6,b7,b8,b9,l1,l2⟩ ⟨h1,h3,h4,h5,h6⟩ k hk
   have h1:l1.length=8:=h1
   have h3: -1<=t:=h3
   have h4:t<=7:=h4
   have h5:((l2.length:Int)+t+1) % 64=0:=h5
   have h6:(l2.length:Int)+t+1<=128:=h6
   dsimp only[U13]
   refine Tot.bif (fun h=> ?_) fun h=> ?_
   ·have h:=of_decide_eq_true h
    refine Tot.chk (decide_eq_true (by rw[wu64 (x:=t) (by omega) (by omega),wu64 (by omega) (by omega)];omega)) (Tot.chk (decide_eq_true (by omega)) (hk _ ⟨h1,?_⟩ ?_))
    ·show -1<=i64.wrap (t - 1)/\i64.wrap (t - 1)<=7/\(((l2++[_]).length:Int)+i64.wrap (t - 1)+1) % 64=0/\((l2++[_]).length:Int)+i64.wrap (t - 1)+1<=128
     rw[w64 (by omega) (by omega)]
     simp
     omega
    ·show(i64.wrap (t - 1)+1).toNat<(t+1).toNat
     rw[w64 (by omega) (by omega)];omega
   ·have h:=of_decide_eq_false h
    have ht:t= -1:=by omega
    subst ht
    clear k hk
    refine H7 (fun x=>x.2.2.2.2.2.2.2.2.2.2.2.length=8/\x.1.length % 64=0/\x.1.length<=128) (fun x=>x.1.length) (Tot _) ?_ N _ ⟨h1,by show l2.length % 64=0;omega,by show l2.length<=128;omega⟩ (by show l2.length<N;omega)
    rintro ⟨t,b0,b1,b2,b3,b4,b5,b6,b7,b8,b9,l1⟩ ⟨h1,h2,h3⟩ k hk
    have h1:l1.length=8:=h1
    have h2:t.length % 64=0:=h2
    have h3:t.length<=128:=h3
    dsimp only[U12]
    refine Tot.bif (fun h=> ?_) fun h=> ?_
    ·have h:=of_decide_eq_true h
     refine Tot.chk (by rw[h1];rfl) (Tot.chk (decide_eq_true (by omega)) ((jE (by omega) _ (by rw[NQ _ _ _ (by omega)])).call fun v _=>Tot.chk (by rw[h1];rfl) (Tot.chk (decide_eq_true (by omega)) (hk _ ⟨rfl,?_⟩ ?_))))
     ·show(cutL t 64 t.length).length % 64=0/\(cutL t 64 t.length).length<=128
      rw[NQ _ _ _ (Nat.le_refl _)];omega
     ·show(cutL t 64 t.length).length<t.length
      rw[NQ _ _ _ (Nat.le_refl _)];omega
    ·clear k hk h
     dsimp only[U11]
     refine Tot.chk (by rw[h1];rfl) ?_
     refine H7 (fun x=>0<=x.1/\x.1<=8/\(x.2.2.2.2.2.2.2.2.2.2.2.length:Int)=4*x.1/\x.2.2.2.2.2.2.2.2.2.2.2.all Vm.isByte=true) (fun x=>(8 - x.1).toNat) (Tot _) ?_ N _ ⟨by show(0:Int)<=0;omega,by show(0:Int)<=8;omega,rfl,rfl⟩ (by show((8:Int) - 0).toNat<N;omega)
     rintro ⟨t,b0,b1,b2,b3,b4,b5,b6,b7,b8,b9,l⟩ ⟨h1,h2,h3,h4⟩ k hk
     have h1:0<=t:=h1
     have h2:t<=8:=h2
     have h3:(l.length:Int)=4*t:=h3
     have h4:l.all Vm.isByte=true:=h4
     dsimp only[U12]
     refine Tot.bif (fun h=> ?_) fun h=> ?_
     ·have h:=of_decide_eq_true h
      refine Tot.chk (decide_eq_true (by omega)) (Tot.chk (decide_eq_true (by omega)) (Tot.chk (decide_eq_true (by omega)) (hk _ ?_ ?_)))
      ·show 0<=i64.wrap (t+1)/\i64.wrap (t+1)<=8/\((l++[_,_,_,_]).length:Int)=4*i64.wrap (t+1)/\(l++[_,_,_,_]).all Vm.isByte=true
       rw[w64 (by omega) (by omega)]
       refine⟨by omega,by omega,by simp;omega,?_⟩
       rw[List.all_append,h4]
       simp only[List.all_cons,H6,List.all_nil,Bool.and_self]
      ·show(8 - i64.wrap (t+1)).toNat<(8 - t).toNat
       rw[w64 (by omega) (by omega)];omega
     ·have h:=of_decide_eq_false h
      dsimp only[U11]
      refine Tot.chk h4 (Tot.some ?_)
      show(l.map Vm.byteOf).length=32
      rw[List.length_map];omega
theorem Aaz {N:Nat} (hN:150<=N) (hM:N<=1000000000) {l:List Bs} (hl:l.length<N) (hs: ∀ s∈l,s.length+64<N):Tot (fun r=>r.length=32) (Vj N l):=by
  unfold Vj;try simp -zeta only[Ap]
  refine Tot.call (P:=fun r=>(dV r).length<64) ⟨_,rfl,by show 0<64;omega⟩ fun v hv=> ?_
  refine H7 (fun x=>0<=x.1/\x.1<=(l.length:Int)/\(dV x.2).length<64) (fun x=>((l.length:Int) - x.1).toNat) (Tot _) ?_ N _ ⟨by show(0:Int)<=0;omega,by show(0:Int)<=l.length;omega,hv⟩ (by show((l.length:Int) - 0).toNat<N;omega)
  rintro ⟨t,b0,b1,b2,b3,b4,b5,b6,b7,b8,b9⟩ ⟨h1,h2,h3⟩ k hk
  have h1:0<=t:=h1
  have h2:t<=(l.length:Int):=h2
  dsimp only[U11]
  refine Tot.bif (fun h=> ?_) fun h=> ?_
  ·have h:=of_decide_eq_true h
   have hlt:t.toNat<l.length:=by omega
   refine Tot.chk (decide_eq_true h1) (Tot.chk (decide_eq_true h) ((zQ (by omega) hM _ h3 _ (by rw[getD_lt _ _ _ hlt];exact hs _ (List.getElem_mem hlt))).call fun v hv=>hk _ ?_ ?_))
   ·show 0<=i64.wrap (t+1)/\i64.wrap (t+1)<=(l.length:Int)/\(dV v).length<64
    rw[w64 (by omega) (by omega)]
    exact⟨by omega,by omega,hv⟩
   ·show((l.length:Int) - i64.wrap (t+1)).toNat<((l.length:Int) - t).toNat
    rw[w64 (by omega) (by omega)];omega
  ·dsimp only[U10]
   exact(Abs hN _ h3).call fun v hv=>Tot.some hv
theorem xC {N:Nat} (hN:150<=N) (hM:N<=1000000000) {l:List Bs} (hl:l.length<N) (hs: ∀ s∈l,s.length+64<N):Tot (fun r=>r.length=16) (Eh N l):=by
  unfold Eh;try simp -zeta only[Ap]
  refine(Aaz hN hM hl hs).call fun v hv=>Tot.chk (decide_eq_true (by omega)) (Tot.some ?_)
  rw[NQ _ _ _ (by omega)]
def b4P (p:Int):Bs:=List.map Vm.byteOf ([IntKind.u8.wrap (p.fdiv (16777216)),IntKind.u8.wrap (p.fdiv (65536)),IntKind.u8.wrap (p.fdiv (256)),IntKind.u8.wrap p]:List Int)
def b1P (p:Int):Bs:=List.map Vm.byteOf ([IntKind.u8.wrap p]:List Int)
theorem lX (N:Nat) (p:Int):UB N p=some (b4P p):=by
  unfold UB;try simp -zeta only[Ap]
  rw[Dv _ (by simp [H6])]
  rfl
theorem lW (N:Nat) (p:Int):UA N p=some (b1P p):=by
  unfold UA;try simp -zeta only[Ap]
  rw[Dv _ (by simp [H6])]
  rfl
theorem Xx (N:Nat) (p:Int):OI N p=some (b4P p):=lX N p
def hS (N:Nat) (l:List Bs):Bs:=(Eh N l).getD []
structure Hok (N:Nat) (l:List Bs):Prop where
  n:150<=N
  m:N<=1000000000
  len:l.length<N
  each: ∀ s∈l,s.length+64<N
theorem Ve {N:Nat} {l:List Bs} (h:Hok N l):Eh N l=some (hS N l)/\(hS N l).length=16:=by
  obtain⟨v,e,hv⟩:=xC h.n h.m h.len h.each
  unfold hS
  rw[e]
  exact⟨rfl,hv⟩
def wk (f:Int->Bs->Bs) (a:Int):Nat->Bs->Bs
  | 0,x=>x
  | n+1,x=>wk f (a+1) n (f a x)
theorem Ada (f:Int->Bs->Bs): ∀(n:Nat) (a:Int) (m:Nat) (x:Bs),wk f a (n+m) x=wk f (a+n) m (wk f a n x):=by
  intro n
  induction n with
  | zero=>intro a m x;simp [wk]
  | succ n ih =>
    intro a m x
    rw[show n+1+m=(n+m)+1 by omega]
    show wk f (a+1) (n+m) (f a x)=wk f (a+((n+1:Nat):Int)) m (wk f (a+1) n (f a x))
    rw[ih]
    congr 1
    omega
theorem zO {f:Int->Bs->Bs} (hf: ∀ t x,x.length=16->(f t x).length=16): ∀(n:Nat) (a:Int) (x:Bs),x.length=16->(wk f a n x).length=16:=by
  intro n
  induction n with
  | zero=>intro a x h;exact h
  | succ n ih=>intro a x h;exact ih _ _ (hf _ _ h)
def st (N:Nat) (p0:Bs) (p1 p2 t:Int) (x:Bs):Bs:=hS N [[67],p0,b4P p1,b1P p2,b1P t,x]
structure Big (N:Nat):Prop where
  n:2000<=N
  m:N<=1000000000
theorem hok {N:Nat} (h:Big N) {l:List Bs} (hl:l.length<=100) (hs:l.all (fun s=>decide (s.length<=1000))=true):Hok N l:=by
  have h1:=h.n
  refine⟨by omega,h.m,by omega,fun s hm=> ?_⟩
  have:=of_decide_eq_true (List.all_eq_true.1 hs s hm)
  omega
theorem Abm {N:Nat} (h:Big N) {p0:Bs} (h0:p0.length<=1000) (p1 p2 t:Int) {x:Bs} (hx:x.length=16):Eh N [[67],p0,b4P p1,b1P p2,b1P t,x]=some (st N p0 p1 p2 t x)/\(st N p0 p1 p2 t x).length=16 :=
  Ve (hok h (by simp) (by simp [h0,hx,b4P,b1P]))
theorem walk_eq {N:Nat} (h:Big N) {p0:Bs} (h0:p0.length<=1000) (p1 p2:Int) {a b:Int} (ha:0<=a) (hab:a<=b) (hb:b<=15) {x:Bs} (hx:x.length=16):Ob N p0 p1 p2 a b x=some (wk (st N p0 p1 p2) a (b - a).toNat x):=by
  unfold Ob
  have hn:=h.n
  refine Lj (X:=Bs×Int) (fun x=>x.1.length=16/\0<=x.2/\x.2<=b) (fun x=>(b - x.2).toNat) (fun x=>some (wk (st N p0 p1 p2) x.2 (b - x.2).toNat x.1)) ?_ N _ ⟨hx,ha,hab⟩ (by show(b - a).toNat<N;omega)
  rintro ⟨x,t⟩ ⟨h1,h2,h3⟩ k hk
  have h1:x.length=16:=h1
  have h2:0<=t:=h2
  have h3:t<=b:=h3
  dsimp only[U2]
  by_cases hlt:t<b
  ·rw[decide_eq_true hlt,cond_true,lX,CW,lW,CW,lW,CW]
   obtain⟨e1,e2⟩:=Abm h h0 p1 p2 t h1
   rw[e1,CW,w64 (by omega) (by omega)]
   refine(hk _ ⟨e2,by show 0<=t+1;omega,by show t+1<=b;omega⟩ (by show(b - (t+1)).toNat<(b - t).toNat;omega)).trans ?_
   show some (wk _ (t+1) (b - (t+1)).toNat _)=some (wk _ t (b - t).toNat x)
   rw[show(b - t).toNat=(b - (t+1)).toNat+1 by omega]
   rfl
  ·rw[decide_eq_false hlt,cond_false]
   rw[show(b - t).toNat=0 by omega]
   rfl
theorem YW {ρ :Type} {B:Int×List Bs->(Int×List Bs->Option ρ)->(List Bs->Option ρ)->Option ρ} {kx:List Bs->Option ρ} (n:Nat) (g:Nat->Bs)
    (h: ∀(i:Nat) (acc:List Bs) (k:Int×List Bs->Option ρ),i<n->acc.length=i->B ((i:Int),acc) k kx=k ((i:Int)+1,acc++[g i]))
    (hend: ∀(acc:List Bs) (k:Int×List Bs->Option ρ),acc.length=n->B ((n:Int),acc) k kx=kx acc) {N:Nat} (hN:n<N):iterG B N (0,[]) kx=kx ((List.range n).map g):=by
  refine Lj (fun x=>x.1=(x.2.length:Int)/\x.2.length<=n/\x.2=(List.range x.2.length).map g) (fun x=>n - x.2.length) (fun _=>kx ((List.range n).map g)) ?_ N _ ⟨rfl,Nat.zero_le _,rfl⟩ (by show n - 0<N;omega)
  rintro ⟨t,acc⟩ ⟨h1,h2,h3⟩ k hk
  have h1:t=(acc.length:Int):=h1
  have h2:acc.length<=n:=h2
  have h3:acc=(List.range acc.length).map g:=h3
  subst h1
  by_cases hl:acc.length<n
  ·rw[h acc.length acc k hl rfl]
   refine hk _ ⟨by show(acc.length:Int)+1=((acc++[g acc.length]).length:Int);simp,by show(acc++[g acc.length]).length<=n;simp;omega,?_⟩ (by show n - (acc++[g acc.length]).length<n - acc.length;simp;omega)
   show acc++[g acc.length]=(List.range (acc++[g acc.length]).length).map g
   rw[List.length_append,List.length_singleton,List.range_succ,List.map_append,<- h3]
   rfl
  ·have e:acc.length=n:=by omega
   have h4:=hend acc k e
   rw[<- e]at h4
   rw[h4,<- e]
   exact congrArg kx h3
def wL (N:Nat) (p1:Bs) (p2:Int) (i:Nat):Bs:=hS N [[83],p1,b4P p2,b1P (i:Int)]
theorem LM {N:Nat} (h:Big N) {p1:Bs} (h1:p1.length<=1000) (p2:Int) (i:Nat):Nh N p1 p2 (i:Int)=some (wL N p1 p2 i)/\(wL N p1 p2 i).length=16:=by
  obtain⟨e1,e2⟩:=Ve (N:=N) (l:=[[83],p1,b4P p2,b1P (i:Int)]) (hok h (by simp) (by simp [h1,b4P,b1P]))
  refine⟨?_,e2⟩
  unfold Nh
  rw[lX,CW,lW,CW,e1]
  rfl
def pV (N:Nat) (p0 p1:Bs) (p2:Int) (i:Nat):Bs:=wk (st N p0 p2 (i:Int)) 0 15 (wL N p1 p2 i)
theorem st_len {N:Nat} (h:Big N) {p0:Bs} (h0:p0.length<=1000) (p1 p2:Int): ∀ t x,x.length=16->(st N p0 p1 p2 t x).length=16:=fun t _ hx=>(Abm h h0 p1 p2 t hx).2
theorem aT: ∀(l:List Bs),(∀ s∈l,s.length=16)->l.flatten.length=16*l.length:=by
  intro l
  induction l with
  | nil=>intro _;rfl
  | cons a r ih =>
    intro h
    rw[List.flatten_cons,List.length_append,h a List.mem_cons_self,ih fun s hs=>h s (List.mem_cons_of_mem _ hs),List.length_cons];omega
def iN (b:UInt8):Int:=(b.toNat:Int)
theorem xO (l:Bs):(l.map iN).map Vm.byteOf=l:=by
  rw[List.map_map]
  conv=>rhs;rw[<- List.map_id l]
  refine List.map_congr_left fun b _=> ?_
  show UInt8.ofNat ((b.toNat:Int)).toNat=b
  simp
theorem yH (l:Bs):(l.map iN).all Vm.isByte=true:=by
  rw[List.all_eq_true]
  intro x hx
  obtain⟨b,_,rfl⟩:=List.mem_map.1 hx
  have:=Abp b
  unfold Vm.isByte iN
  rw[decide_eq_true (by omega),decide_eq_true (by omega)];rfl
theorem join_eq {N:Nat} (h:Big N) {l:List Bs} (hl:l.length<=1000) (h16: ∀ s∈l,s.length=16):QK N l=some l.flatten:=by
  have hn:=h.n
  have hf:=aT l h16
  unfold QK;try simp -zeta only[Ap]
  rw[w64 (x:=(l.length:Int)*16) (by omega) (by omega),Dv _ (decide_eq_true (by omega)),Dv _ (decide_eq_true (by omega)),Dv _ (decide_eq_true (by omega))]
  refine(Lj (X:=Int×List Int) (fun x=>0<=x.1/\x.1<=(l.length:Int)/\x.2.length=16*l.length/\x.2.take (16*x.1.toNat)=((l.take x.1.toNat).flatten).map iN) (fun x=>((l.length:Int) - x.1).toNat) (fun _=>some l.flatten) ?_ N _ ⟨by show(0:Int)<=0;omega,by show(0:Int)<=l.length;omega,by show(List.replicate _ _).length=_;rw[List.length_replicate];omega,by simp⟩ (by show((l.length:Int) - 0).toNat<N;omega))
  rintro ⟨t,y⟩ ⟨h1,h2,h3,h4⟩ k hk
  have h1:0<=t:=h1
  have h2:t<=(l.length:Int):=h2
  have h3:y.length=16*l.length:=h3
  have h4:y.take (16*t.toNat)=((l.take t.toNat).flatten).map iN:=h4
  dsimp only[U2]
  by_cases hlt:t<(l.length:Int)
  ·have hi:t.toNat<l.length:=by omega
   have hg:l.getD t.toNat []=l[t.toNat]:=getD_lt _ _ _ hi
   have h5:(l.getD t.toNat []).length=16:=by rw[hg];exact h16 _ (List.getElem_mem hi)
   have h6:l.take (t.toNat+1)=l.take t.toNat++[l.getD t.toNat []]:=by rw[hg,List.take_succ_eq_append_getElem hi]
   have h7:((l.take t.toNat).flatten).length=16*t.toNat:=by rw[aT _ fun s hs=>h16 s (List.mem_of_mem_take hs),List.length_take];omega
   generalize l.getD t.toNat []=s at h5 h6 ⊢
   rw[decide_eq_true hlt,cond_true,Dv _ (decide_eq_true h1),Dv _ rfl,w64 (x:=t*16) (by omega) (by omega),w64 (x:=t+1) (by omega) (by omega),Dv _ (decide_eq_true (by omega)),Dv _ (decide_eq_true (by omega)),Dv _ (decide_eq_true (by omega)),Dv _ (decide_eq_true (by omega))]
   have e16:(t*16).toNat=16*t.toNat:=by omega
   rw[e16]
   have h8:(y.take (16*t.toNat)).length=16*t.toNat:=by rw[List.length_take];omega
   refine hk _ ⟨by show 0<=t+1;omega,by show t+1<=_;omega,?_,?_⟩ (by show((l.length:Int) - (t+1)).toNat<((l.length:Int) - t).toNat;omega)
   ·show(putB y (16*t.toNat) s).length=_
    unfold putB
    simp only[List.length_append,List.length_map,List.length_drop,h8]
    omega
   ·show(putB y (16*t.toNat) s).take (16*(t+1).toNat)=((l.take (t+1).toNat).flatten).map iN
    rw[show(t+1).toNat=t.toNat+1 by omega,h6,List.flatten_append,List.map_append,<- h4]
    unfold putB
    rw[List.take_append_of_le_length (by simp only[List.length_append,List.length_map,h8];omega)]
    rw[List.take_of_length_le (by simp only[List.length_append,List.length_map,h8];omega)]
    simp [iN]
  ·have et:t.toNat=l.length:=by omega
   rw[decide_eq_false hlt,cond_false]
   rw[et,<- h3,List.take_length,List.take_length]at h4
   rw[h4]
   show chk _ _=_
   rw[Dv _ (yH _),xO]
theorem NZ {n:Nat} {g:Nat->Bs} (h: ∀ i,(g i).length=16): ∀ s∈(List.range n).map g,s.length=16:=by
  intro s hs
  obtain⟨i,_,rfl⟩:=List.mem_map.1 hs
  exact h i
def AaC (N:Nat) (p0:Bs) (p1:Int) (l:List Bs):Bs:=hS N [[76],p0,b4P p1,l.flatten]
theorem X8 {N:Nat} (h:Big N) {p0:Bs} (h0:p0.length<=1000) (p1:Int) {l:List Bs} (hl:l.length<=60) (h16: ∀ s∈l,s.length=16):Nc N p0 p1 l=some (AaC N p0 p1 l)/\(AaC N p0 p1 l).length=16:=by
  have hf:=aT l h16
  obtain⟨e1,e2⟩:=Ve (N:=N) (l:=[[76],p0,b4P p1,l.flatten]) (hok h (by simp) (by
    simp only[List.all_cons,List.all_nil,hf,Bool.and_true,decide_eq_true h0]
    rw[decide_eq_true (by omega:16*l.length<=1000)]
    simp [b4P]))
  refine⟨?_,e2⟩
  unfold Nc
  rw[lX,CW,join_eq h (by omega) h16,CW,e1]
  rfl
theorem WH (N:Nat) {p0:Bs} (h0:p0.length=16) {p:Int} (h1:0<=p) (h2:p<256):Hm N p0 p=some 0:=by
  unfold Hm;try simp -zeta only[Ap]
  rw[show((p0.length:Int) != 16)=false by rw[h0];rfl,decide_eq_false (by omega: ¬ p<0),decide_eq_false (by omega: ¬ p>=256)]
  rfl
theorem WI (N:Nat) {p0 p1:Bs} (h0:p0.length=16) (hs:p1.length=32) {p:Int} (h1:0<=p) (h2:p<256):IZ N p0 p1 p=some 0:=by
  unfold IZ;try simp -zeta only[Ap]
  rw[show((p0.length:Int) != 16)=false by rw[h0];rfl,show((p1.length:Int) != 32)=false by rw[hs];rfl]
  show callO (Hm N p0 p) _=_
  rw[WH N h0 h1 h2]
  rfl
theorem ZK {N:Nat} (h:Big N) {p0 p1:Bs} (h0:p0.length<=1000) (hs:p1.length<=1000) (p2:Int) (i:Nat):(pV N p0 p1 p2 i).length=16:=zO (st_len h h0 p2 i) _ _ _ (LM h hs p2 i).2
def pkP (N:Nat) (p0 p1:Bs) (p2:Int):Bs:=AaC N p0 p2 ((List.range 35).map (pV N p0 p1 p2))
theorem WC {N:Nat} (h:Big N) {p0 p1:Bs} (h0:p0.length=16) (hs:p1.length=32) {p2:Int} (h1:0<=p2) (h2:p2<256):Qd N p0 p1 p2=some (pkP N p0 p1 p2,0):=by
  have hn:=h.n
  unfold Qd;try simp -zeta only[Ap]
  rw[WI N h0 hs h1 h2]
  show iterG (X:=Int×List Bs) (Y:=List Bs) _ N (0,[]) _=_
  refine(YW 35 (pV N p0 p1 p2) (fun i acc k hi ha=> ?_) (fun acc k ha=> ?_) (by omega)).trans ?_
  ·dsimp only[U2]
   rw[decide_eq_true (by omega:(i:Int)<35),cond_true,(LM h (by omega) p2 i).1,CW,walk_eq h (by omega) p2 i (Int.le_refl 0) (by omega) (Int.le_refl 15) (LM h (by omega) p2 i).2,CW,Dv _ (decide_eq_true (by omega)),w64 (by omega) (by omega)]
   rfl
  ·rfl
  ·rw[(X8 h (by omega) p2 (by simp) (NZ (ZK h (by omega) (by omega) p2))).1]
   rfl
theorem pk_len {N:Nat} (h:Big N) {p0 p1:Bs} (h0:p0.length=16) (hs:p1.length=32) (p2:Int):(pkP N p0 p1 p2).length=16:=(X8 h (by omega) p2 (by simp) (NZ (ZK h (by omega) (by omega) p2))).2
def Dig (l:List Int):Prop:=l.length=35/\ ∀ i,0<=l.getD i 0/\l.getD i 0<=15
theorem Ade (a:Nat) (h:a<256):0<=bitsI .and .u8 (a:Int) 15/\bitsI .and .u8 (a:Int) 15<=15:=by
  have: ∀ a:Fin 256,0<=bitsI .and .u8 ((a.val:Nat):Int) 15/\bitsI .and .u8 ((a.val:Nat):Int) 15<=15:=by decide +kernel
  exact this ⟨a,h⟩
theorem xI (a:Nat) (h:a<1024):0<=bitsI .and .i64 (a:Int) 15/\bitsI .and .i64 (a:Int) 15<=15:=by
  have: ∀ a:Fin 1024,0<=bitsI .and .i64 ((a.val:Nat):Int) 15/\bitsI .and .i64 ((a.val:Nat):Int) 15<=15:=by decide +kernel
  exact this ⟨a,h⟩
theorem Aay {l:List Int} (h: ∀ x∈l,0<=x/\x<=15) (i:Nat):0<=l.getD i 0/\l.getD i 0<=15:=by
  by_cases hi:i<l.length
  ·rw[getD_lt _ _ _ hi];exact h _ (List.getElem_mem hi)
  ·rw[List.getD_eq_getElem?_getD,List.getElem?_eq_none (by omega)];simp
theorem vG (a b:Nat):(a:Int).fdiv (b:Int)=((a / b:Nat):Int):=by
  rw[Int.fdiv_eq_ediv_of_nonneg _ (Int.natCast_nonneg b)];rfl
theorem uC {N:Nat} (h:Big N) {p:Bs} (hp:p.length=16):Tot (fun r=>r.2=0/\Dig r.1) (IL N p):=by
  have hn:=h.n
  unfold IL;try simp -zeta only[Ap]
  rw[show((p.length:Int) != 16)=false by rw[hp];rfl]
  refine Tot.chk (decide_eq_true (by omega)) ?_
  show Tot _ (iterG (X:=Int×Int×List Int×List Int) _ N (0,0,p.map iN,[]) _)
  refine H7 (fun x=>0<=x.2.1/\x.2.1<=16/\x.2.2.1=p.map iN/\(x.2.2.2.length:Int)=2*x.2.1/\(∀ d∈x.2.2.2,0<=d/\d<=15)/\0<=x.1/\x.1<=30*x.2.1) (fun x=>(16 - x.2.1).toNat) (Tot _) ?_ N _ ⟨by show(0:Int)<=0;omega,by show(0:Int)<=16;omega,rfl,rfl,(fun _ h=>by cases h),by show(0:Int)<=0;omega,by show(0:Int)<=30*0;omega⟩ (by show((16:Int) - 0).toNat<N;omega)
  rintro ⟨c,t,l,acc⟩ ⟨h1,h2,h3,h4,h5,h6,h7⟩ k hk
  have h1:0<=t:=h1
  have h2:t<=16:=h2
  have h3:l=p.map iN:=h3
  have h4:(acc.length:Int)=2*t:=h4
  have h5: ∀ d∈acc,0<=d/\d<=15:=h5
  have h6:0<=c:=h6
  have h7:c<=30*t:=h7
  dsimp only[U4]
  refine Tot.bif (fun hb=> ?_) fun hb=> ?_
  ·have hb:=of_decide_eq_true hb
   rw[List.length_map,hp]at hb
   have hl:t.toNat<l.length:=by rw[h3,List.length_map];omega
   obtain⟨a,ha,hlt⟩: ∃ a:Nat,l.getD t.toNat 0=(a:Int)/\a<256:=by
     rw[getD_lt _ _ _ hl]
     have hm:l[t.toNat]∈p.map iN:=h3▸List.getElem_mem hl
     obtain⟨b,_,hb⟩:=List.mem_map.1 hm
     exact⟨b.toNat,hb.symm,Abp b⟩
   obtain⟨q1,q2⟩:=Ade a hlt
   have hd:(a:Int).fdiv 16=((a / 16:Nat):Int):=vG a 16
   rw[ha,hd]
   generalize bitsI .and .u8 (a:Int) 15=y at q1 q2 ⊢
   rw[w64 (x:=((a / 16:Nat):Int)) (by omega) (by omega),w64 (x:=y) (by omega) (by omega),w64 (x:=15 - ((a / 16:Nat):Int)) (by omega) (by omega),w64 (x:=15 - ((a / 16:Nat):Int)+15) (by omega) (by omega),w64 (x:=15 - ((a / 16:Nat):Int)+15 - y) (by omega) (by omega),w64 (x:=t+1) (by omega) (by omega),w64 (by omega) (by omega)]
   refine Tot.chk (decide_eq_true h1) (Tot.chk (decide_eq_true (by omega)) (Tot.chk (decide_eq_true (by omega)) (Tot.chk (decide_eq_true (by omega)) (hk _ ⟨by show 0<=t+1;omega,by show t+1<=16;omega,h3,?_,?_,?_,?_⟩ ?_))))
   ·show((acc++[_,_]).length:Int)=2*(t+1)
    simp;omega
   ·intro d hd
    have hd:d∈acc++[((a / 16:Nat):Int),y]:=hd
    rcases List.mem_append.1 hd with hd | hd
    ·exact h5 d hd
    ·simp only[List.mem_cons,List.not_mem_nil,or_false]at hd
     rcases hd with rfl | rfl<;>omega
   ·show 0<=c+(15 - ((a / 16:Nat):Int)+15 - y)
    omega
   ·show c+(15 - ((a / 16:Nat):Int)+15 - y)<=30*(t+1)
    omega
   ·show(16 - (t+1)).toNat<(16 - t).toNat
    omega
  ·have hb:=of_decide_eq_false hb
   rw[List.length_map,hp]at hb
   dsimp only[U2]
   refine Tot.chk (decide_eq_true (by omega)) (Tot.some ⟨rfl,?_,?_⟩)
   ·show(acc++[_,_,_]).length=35
    simp;omega
   ·obtain⟨n,hn,hn2⟩: ∃ n:Nat,c=(n:Int)/\n<=480:=⟨c.toNat,by omega,by omega⟩
    refine Aay fun x hx=> ?_
    have hx:x∈acc++[c.fdiv 256,bitsI .and .i64 (c.fdiv 16) 15,bitsI .and .i64 c 15]:=hx
    rcases List.mem_append.1 hx with hx | hx
    ·exact h5 x hx
    ·simp only[List.mem_cons,List.not_mem_nil,or_false]at hx
     subst hn
     have e1:(n:Int).fdiv 256=((n / 256:Nat):Int):=vG n 256
     have e2:(n:Int).fdiv 16=((n / 16:Nat):Int):=vG n 16
     rcases hx with rfl | rfl | rfl
     ·rw[e1];omega
     ·rw[e2];exact xI _ (by omega)
     ·exact xI _ (by omega)
theorem Aag: ∀(l:List Bs) (i:Nat),(∀ s∈l,s.length=16)->i<l.length->cutL l.flatten (16*i) (16*(i+1))=l.getD i []:=by
  intro l
  induction l with
  | nil=>intro i _ h;simp at h
  | cons a r ih =>
    intro i h hi
    have ha:a.length=16:=h a List.mem_cons_self
    cases i with
    | zero =>
      show((a++r.flatten).take (16*(0+1))).drop (16*0)=a
      rw[List.take_append_of_le_length (by omega),List.take_of_length_le (by omega)]
      rfl
    | succ i =>
      have:=ih i (fun s hs=>h s (List.mem_cons_of_mem _ hs)) (by simpa using hi)
      show((a++r.flatten).take (16*(i+1+1))).drop (16*(i+1))=r.getD i []
      rw[<- this]
      rw[show 16*(i+1+1)=a.length+16*(i+1) by omega,List.take_length_add_append,show 16*(i+1)=a.length+16*i by omega,List.drop_length_add_append]
      rw[ha,show 16+16*i=16*(i+1) by omega]
      rfl
def fC (N:Nat) (d:Bs):List Int:=((IL N d).getD ([],0)).1
theorem jH {N:Nat} (h:Big N) {d:Bs} (hd:d.length=16):IL N d=some (fC N d,0)/\Dig (fC N d):=by
  obtain⟨⟨l,e⟩,h1,h2,h3⟩:=uC h hd
  have h2:e=0:=h2
  subst h2
  unfold fC
  rw[h1]
  exact⟨rfl,h3⟩
def sgP (N:Nat) (p0 p1:Bs) (p2:Int) (d:Bs) (i:Nat):Bs:=wk (st N p0 p2 (i:Int)) 0 ((fC N d).getD i 0).toNat (wL N p1 p2 i)
def P8 (N:Nat) (p0 p1:Bs) (p2:Int) (d:Bs):Bs:=((List.range 35).map (sgP N p0 p1 p2 d)).flatten
section
variable {N:Nat} (h:Big N) {p0 p1:Bs} (h0:p0.length=16) (hs:p1.length=32) {p2:Int} (h1:0<=p2) (h2:p2<256) {d:Bs} (hd:d.length=16)
include h h0 hs
theorem XU (p2:Int) (d:Bs) (i:Nat):(sgP N p0 p1 p2 d i).length=16:=zO (st_len h (by omega) p2 i) _ _ _ (LM h (by omega) p2 i).2
theorem Lr (p2:Int) (d:Bs):(P8 N p0 p1 p2 d).length=560:=by
  unfold P8
  rw[aT _ (NZ (XU h h0 hs p2 d)),List.length_map,List.length_range]
include h1 h2 hd
theorem sF:Vw N p0 p1 p2 d=some (P8 N p0 p1 p2 d,0):=by
  have hn:=h.n
  obtain⟨e1,e2,e3⟩:=jH h hd
  unfold Vw;try simp -zeta only[Ap]
  rw[WI N h0 hs h1 h2,CW]
  rw[show((0:Int) != 0)=false from rfl,cond_false]
  rw[e1,CW]
  show iterG (X:=Int×List Bs) (Y:=List Bs) _ N (0,[]) _=_
  refine(YW 35 (sgP N p0 p1 p2 d) (fun i acc k hi ha=> ?_) (fun acc k ha=> ?_) (by omega)).trans ?_
  ·have e4:=e3 i
   dsimp only[U2]
   rw[decide_eq_true (by omega:(i:Int)<35),cond_true,Dv _ (decide_eq_true (by omega)),Dv _ (decide_eq_true (by omega)),(LM h (by omega) p2 i).1,CW,Int.toNat_natCast,walk_eq h (by omega) p2 i (Int.le_refl 0) e4.1 e4.2 (LM h (by omega) p2 i).2,CW,Dv _ (decide_eq_true (by omega)),w64 (by omega) (by omega),Int.sub_zero]
   rfl
  ·rfl
  ·rw[join_eq h (by simp) (NZ (XU h h0 hs p2 d))]
   rfl
theorem ZL:Oy N p0 p2 d (P8 N p0 p1 p2 d)=some (pkP N p0 p1 p2,0):=by
  have hn:=h.n
  obtain⟨e1,e2,e3⟩:=jH h hd
  have hsl:=Lr h h0 hs p2 d
  unfold Oy;try simp -zeta only[Ap]
  rw[WH N h0 h1 h2,CW]
  rw[show((0:Int) != 0)=false from rfl,cond_false]
  rw[e1,CW]
  show(bif (((P8 N p0 p1 p2 d).length:Int) != 560)then _ else _)=_
  rw[show(((P8 N p0 p1 p2 d).length:Int) != 560)=false by rw[hsl];rfl,cond_false]
  refine(YW 35 (pV N p0 p1 p2) (fun i acc k hi ha=> ?_) (fun acc k ha=> ?_) (by omega)).trans ?_
  ·have e4:=e3 i
   have hc:cutL (P8 N p0 p1 p2 d) (16*i) (16*(i+1))=sgP N p0 p1 p2 d i:=by
     unfold P8
     rw[Aag _ _ (NZ (XU h h0 hs p2 d)) (by simpa using hi),getD_lt _ _ _ (by simpa using hi)]
     simp
   dsimp only[U2]
   rw[decide_eq_true (by omega:(i:Int)<35),cond_true,w64 (x:=(i:Int)*16) (by omega) (by omega),w64 (x:=(i:Int)+1) (by omega) (by omega),w64 (by omega) (by omega)]
   rw[Dv _ (decide_eq_true (by omega)),Dv _ (decide_eq_true (by omega)),Dv _ (decide_eq_true (by omega)),Dv _ (decide_eq_true (by omega)),Dv _ (decide_eq_true (by omega)),show((i:Int)*16).toNat=16*i by omega,show(((i:Int)+1)*16).toNat=16*(i+1) by omega,hc,Int.toNat_natCast,walk_eq h (by omega) p2 i e4.1 e4.2 (Int.le_refl 15) (XU h h0 hs p2 d i),CW,Dv _ (decide_eq_true (by omega))]
   congr 3
   congr 1
   unfold sgP pV
   rw[show(15:Nat)=((fC N d).getD i 0).toNat+(15 - (fC N d).getD i 0).toNat by omega,Ada]
   congr 1
   omega
  ·rfl
  ·rw[(X8 h (by omega) p2 (by simp) (NZ (ZK h (by omega) (by omega) p2))).1]
   rfl
end
end Go.Proofs.YtbnphelpndnnfaaGreatDoor.Pl
namespace Go.Proofs.YtbnphelpndnnfaaGreatDoor.Pl
open IntKind (i64)
open Go Vm
set_option linter.unusedSectionVars false
theorem ne_nil {s:Bs} (h:0<s.length):(s==([]:Bs))=false:=by cases s with | nil=>simp at h | cons a r=>rfl
def idP (N:Nat) (sd:Bs):Bs:=hS N [[73],sd]
def VG (N:Nat) (sd:Bs):TrT:=([],sd,idP N sd,0)
def Tz (N:Nat) (sd:Bs):Bs:=pkP N (idP N sd) sd 0
def O7 (N:Nat) (sd:Bs):TrT:=([[Tz N sd]],sd,idP N sd,0)
def pI (N:Nat) (sd:Bs):SgT:=(sd,0,0,[VG N sd])
def pJ (N:Nat) (sd:Bs):SgT:=(sd,0,1,[O7 N sd])
def X7 (N:Nat) (sd:Bs):Int×Bs×Bs:=(0,idP N sd,Tz N sd)
def Zc (N:Nat) (sd m:Bs):Bs:=hS N [[77],idP N sd,Tz N sd,b4P 0,m]
def Nv (N:Nat) (sd m:Bs):Bs:=b4P 0++P8 N (idP N sd) sd 0 (Zc N sd m)
section
variable {N:Nat} (h:Big N) {sd:Bs} (hs:sd.length=32)
include h hs
theorem id_eq:Eh N [[73],sd]=some (idP N sd)/\(idP N sd).length=16:=Ve (hok h (by simp) (by simp [hs]))
theorem sV:(Tz N sd).length=16:=pk_len h (id_eq h hs).2 hs 0
theorem qB:FX N sd 0=some (.inl (VG N sd,0)):=by
  unfold FX;try simp -zeta only[Ap]
  rw[show((sd.length:Int) != 32)=false by rw[hs];rfl,cond_false,(id_eq h hs).1]
  rfl
theorem WB (l:List (List Bs)) (k:Bs):DF N (l,sd,k,0)=some (1,(l,sd,k,0)):=by
  unfold DF DK;try simp -zeta only[Ap]
  rw[CW,ne_nil (by rw[hs];decide)]
  rfl
theorem Aca:Gv N sd 0=some (.inl (pI N sd,0)):=by
  have e:=WB h hs [] (idP N sd)
  unfold Gv SI;try simp -zeta only[Ap]
  rw[qB h hs,callE_inl]
  unfold VG
  dsimp only
  rw[e]
  rfl
theorem Adh:D8 N (VG N sd)=some (O7 N sd):=by
  obtain⟨M,rfl⟩: ∃ M,N=M+10:=⟨N - 10,by have:=h.n;omega⟩
  unfold D8;try simp -zeta only[Ap]
  have e:=WC h (id_eq h hs).2 hs (Int.le_refl 0) (by omega:(0:Int)<256)
  unfold VG
  rw[DW]
  dsimp only[U6]
  rw[e]
  rfl
theorem Adi:D8 N (O7 N sd)=some (O7 N sd):=rfl
theorem xA (t:TrT) (ht:D8 N t=some (O7 N sd)) (hv:t.2.1=sd):Fp N t=some (X7 N sd,O7 N sd):=by
  unfold Fp DK
  rw[CW,hv,ne_nil (by rw[hs];decide)]
  dsimp only
  rw[Bool.not_false,Bool.not_true,cond_false,ht]
  rfl
theorem xY {m:Bs} (hm:m.length+64<N):ES N (X7 N sd) 0 m=some (Zc N sd m)/\(Zc N sd m).length=16:=by
  have hn:=h.n
  obtain⟨e1,e2⟩:=Ve (N:=N) (l:=[[77],idP N sd,Tz N sd,b4P 0,m]) ⟨by omega,h.m,by simp;omega,fun s hs'=>by
    have i1:=(id_eq h hs).2
    have i2:=sV h hs
    simp only[List.mem_cons,List.not_mem_nil,or_false]at hs'
    rcases hs' with rfl | rfl | rfl | rfl | rfl
    ·simp;omega
    ·omega
    ·omega
    ·simp [b4P];omega
    ·exact hm⟩
  refine⟨?_,e2⟩
  unfold ES
  rw[Xx,CW]
  show callO (Eh N [[77],idP N sd,Tz N sd,b4P 0,m]) _=_
  rw[e1]
  rfl
theorem Aaa {m:Bs} (hm:m.length+64<N) (l:List (List Bs)) (ht:D8 N (l,sd,idP N sd,0)=some (O7 N sd)):FI N (l,sd,idP N sd,0) 0 m=some (Nv N sd m,0,O7 N sd):=by
  have hn:=h.n
  have e1:=WB h hs l (idP N sd)
  have e2:=xA h hs (l,sd,idP N sd,0) ht rfl
  obtain⟨e3,e4⟩:=xY h hs hm
  have e5:=sF h (id_eq h hs).2 hs (Int.le_refl 0) (by omega) e4
  have hl:=Lr h (id_eq h hs).2 hs 0 (Zc N sd m)
  unfold FI DK;try simp -zeta only[Ap]
  rw[CW,ne_nil (by rw[hs];decide)]
  dsimp only
  rw[e1]
  simp (decide:=true) only[Bool.not_false,Bool.not_true,cond_false,cond_true,Option.isSome_some,Bool.true_or,Bool.or_true,DY,Option.getD_some,Int.lt_irrefl,decide_false]
  rw[e2,CW]
  dsimp only[O7]
  rw[beq_self_eq_true,beq_self_eq_true,DY,DY]
  refine(Dv _ rfl).trans ?_
  rw[e3,CW,e5,CW]
  dsimp only
  rw[show((0:Int) != 0)=false from rfl,cond_false,Xx,CW,Dv _ (decide_eq_true (by rw[hl];simp [b4P]))]
  obtain⟨M,rfl⟩: ∃ M,N=M+10:=⟨N - 10,by omega⟩
  rfl
theorem zV {m:Bs} (hm:m.length+64<N):Ec N (pI N sd) m=some (Nv N sd m,0,pJ N sd):=by
  have e1:=WB h hs [] (idP N sd)
  have e2:=Aaa h hs hm [] (Adh h hs)
  unfold Ec H9 Ed
  dsimp only[pI,VG,CW,List.headD_cons]
  rw[ne_nil (by rw[hs];decide),Bool.false_and,cond_false,cond_false,e1,CW]
  dsimp only
  rw[show(i64.wrap (1 - 0))=1 from rfl,CW]
  dsimp only
  rw[show((1:Int)==0)=false from rfl,cond_false,List.headD_cons,e2,CW]
  rfl
theorem Abr:DV N (pJ N sd)=some (X7 N sd,pJ N sd):=by
  have e:=xA h hs (O7 N sd) (Adi h hs) rfl
  unfold DV Ed;try simp -zeta only[Ap]
  dsimp only[pJ,List.headD_cons]
  rw[ne_nil (by rw[hs];decide),Bool.false_and,CW]
  dsimp only
  rw[cond_false,List.headD_cons,e,CW]
  dsimp only
  rw[beq_self_eq_true,beq_self_eq_true,DY,DY]
  rfl
theorem uD {m:Bs} (hm:m.length+64<N):Hl N (X7 N sd) m (Nv N sd m)=some 0:=by
  have hn:=h.n
  obtain⟨e3,e4⟩:=xY h hs hm
  have e5:=ZL h (id_eq h hs).2 hs (Int.le_refl 0) (by omega) e4
  have hl:=Lr h (id_eq h hs).2 hs 0 (Zc N sd m)
  have hk:=sV h hs
  have hi:=(id_eq h hs).2
  have h4:(b4P 0).length=4:=rfl
  have hc:Iu N (X7 N sd)=some 0:=by
    unfold Iu X7;try simp -zeta only[Ap]
    try dsimp only
    rw[show((List.length (idP N sd):Int) != 16)=false by rw[hi];rfl,show((List.length (Tz N sd):Int) != 16)=false by rw[hk];rfl]
    rfl
  have hsl:(Nv N sd m).length=564:=by unfold Nv;rw[List.length_append,hl,h4]
  have c1:cutL (Nv N sd m) 0 4=b4P 0:=by
    unfold cutL Nv
    rw[List.take_append_of_le_length (by omega)];rfl
  have c2:cutL (Nv N sd m) 4 564=P8 N (idP N sd) sd 0 (Zc N sd m):=by
    unfold cutL
    rw[List.take_of_length_le (by omega)]
    unfold Nv
    exact List.drop_left' h4
  have hf:Je N (Nv N sd m)=some (0,true):=by
    unfold Je;try simp -zeta only[Ap]
    rw[c1,hsl]
    obtain⟨M,rfl⟩: ∃ M,N=M+10:=⟨N - 10,by omega⟩
    rfl
  unfold Hl;try simp -zeta only[Ap]
  rw[hc,CW,show((0:Int) != 0)=false from rfl,cond_false,hsl,hf,CW]
  dsimp only[X7]
  rw[show((((564:Nat):Int)) != i64.wrap (564+i64.wrap (0*16)))=false from rfl,cond_false]
  refine(Dv _ rfl).trans ?_
  rw[decide_eq_false (by decide: ¬(0:Int)>=i64.wrap (1*2 ^ min (IntKind.u64.wrap 0).toNat 64)),cond_false]
  have e3':ES N (0,idP N sd,Tz N sd) 0 m=_:=e3
  rw[e3',CW]
  refine(Dv _ rfl).trans ?_
  rw[c2,e5,CW]
  dsimp only
  rw[show((0:Int) != 0)=false from rfl,cond_false]
  refine(Dv _ rfl).trans ?_
  obtain⟨M,rfl⟩: ∃ M,N=M+10:=⟨N - 10,by omega⟩
  rw[DW]
  dsimp only[U6,U4]
  rw[decide_eq_false (by decide: ¬(0:Int)<0),cond_false]
  show(bif !(Tz (M+10) sd==Tz (M+10) sd)then _ else _)=_
  rw[beq_self_eq_true]
  rfl
end
end Go.Proofs.YtbnphelpndnnfaaGreatDoor.Pl
namespace Go.Proofs.YtbnphelpndnnfaaGreatDoor.Pl
open IntKind (i64)
open Go Vm
set_option linter.unusedSectionVars false
def kyP (N:Nat) (sd:Bs) (i:Int):Bs:=pkP N (idP N sd) sd i
def P7 (N:Nat) (sd:Bs):Bs:=hS N [[78],idP N sd,b1P 0,b4P 0,kyP N sd 0,kyP N sd 1]
def tr0 (N:Nat) (sd:Bs):TrT:=([],sd,idP N sd,1)
def tr1 (N:Nat) (sd:Bs):TrT:=([[kyP N sd 0,kyP N sd 1],[P7 N sd]],sd,idP N sd,1)
def sg0 (N:Nat) (sd:Bs):SgT:=(sd,1,0,[tr0 N sd])
def sg1 (N:Nat) (sd:Bs):SgT:=(sd,1,1,[tr1 N sd])
def pb1 (N:Nat) (sd:Bs):Int×Bs×Bs:=(1,idP N sd,P7 N sd)
def dg1 (N:Nat) (sd m:Bs):Bs:=hS N [[77],idP N sd,P7 N sd,b4P 0,m]
def si1 (N:Nat) (sd m:Bs):Bs:=b4P 0++P8 N (idP N sd) sd 0 (dg1 N sd m)++kyP N sd 1
section
variable {N:Nat} (h:Big N) {sd:Bs} (hs:sd.length=32)
include h hs
theorem bI (i:Int):(kyP N sd i).length=16:=pk_len h (id_eq h hs).2 hs i
theorem oP:Fz N (idP N sd) 0 0 (kyP N sd 0) (kyP N sd 1)=some (P7 N sd)/\(P7 N sd).length=16:=by
  obtain⟨e1,e2⟩:=Ve (N:=N) (l:=[[78],idP N sd,b1P 0,b4P 0,kyP N sd 0,kyP N sd 1]) (hok h (by simp) (by simp [(id_eq h hs).2,bI h hs,b1P,b4P]))
  refine⟨?_,e2⟩
  unfold Fz
  rw[show X3 N 0=some (b1P 0)from lW N 0,CW,Xx,CW]
  exact(congrArg (callO · _) e1).trans rfl
theorem mG:FX N sd 1=some (.inl (tr0 N sd,0)):=by
  unfold FX;try simp -zeta only[Ap]
  rw[show((sd.length:Int) != 32)=false by rw[hs];rfl,cond_false,(id_eq h hs).1]
  rfl
theorem UN (l:List (List Bs)) (k:Bs):DF N (l,sd,k,1)=some (2,(l,sd,k,1)):=by
  unfold DF DK;try simp -zeta only[Ap]
  rw[CW,ne_nil (by rw[hs];decide)]
  rfl
theorem Abq:Gv N sd 1=some (.inl (sg0 N sd,0)):=by
  have e:=UN h hs [] (idP N sd)
  unfold Gv SI;try simp -zeta only[Ap]
  rw[mG h hs,callE_inl]
  unfold tr0
  dsimp only
  rw[e]
  rfl
theorem Acz:D8 N (tr0 N sd)=some (tr1 N sd):=by
  obtain⟨M,rfl⟩: ∃ M,N=M+10:=⟨N - 10,by have:=h.n;omega⟩
  have e0:=WC h (id_eq h hs).2 hs (Int.le_refl 0) (by omega:(0:Int)<256)
  have e1:=WC h (id_eq h hs).2 hs (by omega:(0:Int)<=1) (by omega:(1:Int)<256)
  have e2:=(oP h hs).1
  unfold D8;try simp -zeta only[Ap]
  unfold tr0
  dsimp only[List.isEmpty_nil,Bool.not_true,cond_false]
  rw[DW]
  dsimp only[U6]
  refine(Dv _ rfl).trans ?_
  rw[decide_eq_true (by decide:(0:Int)<i64.wrap (1*2 ^ min (IntKind.u64.wrap 1).toNat 64)),cond_true,e0,CW]
  refine(Dv _ rfl).trans ?_
  rw[show i64.wrap (0+1)=1 from rfl,DW]
  dsimp only[U6]
  refine(Dv _ rfl).trans ?_
  rw[decide_eq_true (by decide:(1:Int)<i64.wrap (1*2 ^ min (IntKind.u64.wrap 1).toNat 64)),cond_true,e1,CW]
  refine(Dv _ rfl).trans ?_
  rw[show i64.wrap (1+1)=2 from rfl,DW]
  dsimp only[U6]
  refine(Dv _ rfl).trans ?_
  rw[decide_eq_false (by decide: ¬(2:Int)<i64.wrap (1*2 ^ min (IntKind.u64.wrap 1).toNat 64)),cond_false]
  dsimp only[U5]
  rw[DW]
  dsimp only[U6]
  rw[decide_eq_true (by decide:(0:Int)<1),cond_true,DW]
  dsimp only[U7]
  rw[show([]++[pkP (M+10) (idP (M+10) sd) sd 0]++[pkP (M+10) (idP (M+10) sd) sd 1]:List Bs)=[kyP (M+10) sd 0,kyP (M+10) sd 1]from rfl,show((([kyP (M+10) sd 0,kyP (M+10) sd 1]:List Bs).length:Int))=2 from rfl,decide_eq_true (by decide:(0:Int)<i64.wrap ((2:Int).tdiv 2)),cond_true,show i64.wrap (2*0)=0 from rfl,show i64.wrap (0+1)=1 from rfl]
  iterate 7 refine(Dv _ rfl).trans ?_
  show callO (Fz (M+10) (idP (M+10) sd) 0 0 (kyP (M+10) sd 0) (kyP (M+10) sd 1)) _=_
  rw[e2,CW]
  kernel_rfl
theorem Ac0:D8 N (tr1 N sd)=some (tr1 N sd):=rfl
theorem sD (t:TrT) (ht:D8 N t=some (tr1 N sd)) (hv:t.2.1=sd):Fp N t=some (pb1 N sd,tr1 N sd):=by
  unfold Fp DK
  rw[CW,hv,ne_nil (by rw[hs];decide)]
  dsimp only
  rw[Bool.not_false,Bool.not_true,cond_false,ht]
  rfl
theorem sS {m:Bs} (hm:m.length+64<N):ES N (pb1 N sd) 0 m=some (dg1 N sd m)/\(dg1 N sd m).length=16:=by
  have hn:=h.n
  obtain⟨e1,e2⟩:=Ve (N:=N) (l:=[[77],idP N sd,P7 N sd,b4P 0,m]) ⟨by omega,h.m,by simp;omega,fun s hs'=>by
    have i1:=(id_eq h hs).2
    have i2:=(oP h hs).2
    simp only[List.mem_cons,List.not_mem_nil,or_false]at hs'
    rcases hs' with rfl | rfl | rfl | rfl | rfl
    ·simp;omega
    ·omega
    ·omega
    ·simp [b4P];omega
    ·exact hm⟩
  refine⟨?_,e2⟩
  unfold ES
  rw[Xx,CW]
  show callO (Eh N [[77],idP N sd,P7 N sd,b4P 0,m]) _=_
  rw[e1]
  rfl
theorem xG {m:Bs} (hm:m.length+64<N) (l:List (List Bs)) (ht:D8 N (l,sd,idP N sd,1)=some (tr1 N sd)):FI N (l,sd,idP N sd,1) 0 m=some (si1 N sd m,0,tr1 N sd):=by
  have hn:=h.n
  have e1:=UN h hs l (idP N sd)
  have e2:=sD h hs (l,sd,idP N sd,1) ht rfl
  obtain⟨e3,e4⟩:=sS h hs hm
  have e5:=sF h (id_eq h hs).2 hs (Int.le_refl 0) (by omega) e4
  have hl:=Lr h (id_eq h hs).2 hs 0 (dg1 N sd m)
  have hk:=bI h hs 1
  unfold FI DK;try simp -zeta only[Ap]
  rw[CW,ne_nil (by rw[hs];decide)]
  dsimp only
  rw[e1]
  simp (decide:=true) only[Bool.not_false,Bool.not_true,cond_false,cond_true,Option.isSome_some,Bool.true_or,Bool.or_true,DY,Option.getD_some,Int.lt_irrefl,decide_false]
  rw[e2,CW]
  dsimp only[tr1]
  rw[beq_self_eq_true,beq_self_eq_true,DY,DY]
  refine(Dv _ rfl).trans ?_
  rw[e3,CW,e5,CW]
  dsimp only
  rw[show((0:Int) != 0)=false from rfl,cond_false,Xx,CW,Dv _ (decide_eq_true (by rw[hl];simp [b4P]))]
  obtain⟨M,rfl⟩: ∃ M,N=M+10:=⟨N - 10,by omega⟩
  rw[DW]
  dsimp only[U7]
  rw[decide_eq_true (by decide:(0:Int)<1),cond_true,show bitsI .xor .i64 0 1=1 by decide +kernel]
  iterate 4 refine(Dv _ rfl).trans ?_
  rw[show(([[kyP (M+10) sd 0,kyP (M+10) sd 1],[P7 (M+10) sd]]:List (List Bs)).getD (0:Int).toNat []).getD (1:Int).toNat []=kyP (M+10) sd 1 from rfl]
  rw[Dv _ (decide_eq_true (by rw[List.length_append,hl,hk];simp [b4P]))]
  rw[show i64.wrap (0+1)=1 from rfl,DW]
  dsimp only[U7,U5]
  rw[decide_eq_false (by decide: ¬(1:Int)<1),cond_false]
  rfl
theorem xB {m:Bs} (hm:m.length+64<N):Ec N (sg0 N sd) m=some (si1 N sd m,0,sg1 N sd):=by
  have e1:=UN h hs [] (idP N sd)
  have e2:=xG h hs hm [] (Acz h hs)
  unfold Ec H9 Ed
  dsimp only[sg0,tr0,CW,List.headD_cons]
  rw[ne_nil (by rw[hs];decide),Bool.false_and,cond_false,cond_false,e1,CW]
  dsimp only
  rw[show(i64.wrap (2 - 0))=2 from rfl,CW]
  dsimp only
  rw[show((2:Int)==0)=false from rfl,cond_false,List.headD_cons,e2,CW]
  rfl
theorem zU:DV N (sg1 N sd)=some (pb1 N sd,sg1 N sd):=by
  have e:=sD h hs (tr1 N sd) (Ac0 h hs) rfl
  unfold DV Ed;try simp -zeta only[Ap]
  dsimp only[sg1,List.headD_cons]
  rw[ne_nil (by rw[hs];decide),Bool.false_and,CW]
  dsimp only
  rw[cond_false,List.headD_cons,e,CW]
  dsimp only
  rw[beq_self_eq_true,beq_self_eq_true,DY,DY]
  rfl
theorem iU (m:Bs):(si1 N sd m).length=580:=by
  have hl:=Lr h (id_eq h hs).2 hs 0 (dg1 N sd m)
  unfold si1
  rw[List.length_append,List.length_append,hl,bI h hs];rfl
theorem qC {m:Bs} (hm:m.length+64<N):Hl N (pb1 N sd) m (si1 N sd m)=some 0:=by
  have hn:=h.n
  obtain⟨e3,e4⟩:=sS h hs hm
  have e5:=ZL h (id_eq h hs).2 hs (Int.le_refl 0) (by omega) e4
  have hl:=Lr h (id_eq h hs).2 hs 0 (dg1 N sd m)
  have hp:=oP h hs
  have hi:=(id_eq h hs).2
  have h4:(b4P 0).length=4:=rfl
  have hk:=bI h hs 1
  have hc:Iu N (pb1 N sd)=some 0:=by
    unfold Iu pb1;try simp -zeta only[Ap]
    try dsimp only
    rw[show((List.length (idP N sd):Int) != 16)=false by rw[hi];rfl,show((List.length (P7 N sd):Int) != 16)=false by rw[hp.2];rfl]
    rfl
  have hsl:=iU h hs m
  have c1:cutL (si1 N sd m) 0 4=b4P 0:=by
    unfold cutL si1
    rw[List.append_assoc,List.take_append_of_le_length (by omega)];rfl
  have c2:cutL (si1 N sd m) 4 564=P8 N (idP N sd) sd 0 (dg1 N sd m):=by
    unfold cutL si1
    rw[List.take_left' (by rw[List.length_append,hl,h4])]
    exact List.drop_left' h4
  have c3:cutL (si1 N sd m) 564 580=kyP N sd 1:=by
    unfold cutL
    rw[List.take_of_length_le (by omega)]
    unfold si1
    exact List.drop_left' (by rw[List.length_append,hl,h4])
  have c4:cutL (kyP N sd 1) 0 16=kyP N sd 1:=by
    unfold cutL
    rw[List.take_of_length_le (by omega)];rfl
  have hf:Je N (si1 N sd m)=some (0,true):=by
    unfold Je;try simp -zeta only[Ap]
    rw[c1,hsl]
    obtain⟨M,rfl⟩: ∃ M,N=M+10:=⟨N - 10,by omega⟩
    rfl
  unfold Hl;try simp -zeta only[Ap]
  rw[hc,CW,show((0:Int) != 0)=false from rfl,cond_false,hsl,hf,CW]
  dsimp only[pb1]
  rw[show((((580:Nat):Int)) != i64.wrap (564+i64.wrap (1*16)))=false from rfl,cond_false]
  refine(Dv _ rfl).trans ?_
  rw[decide_eq_false (by decide: ¬(0:Int)>=i64.wrap (1*2 ^ min (IntKind.u64.wrap 1).toNat 64)),cond_false]
  have e3':ES N (1,idP N sd,P7 N sd) 0 m=_:=e3
  rw[e3',CW]
  refine(Dv _ rfl).trans ?_
  rw[c2,e5,CW]
  dsimp only
  rw[show((0:Int) != 0)=false from rfl,cond_false]
  refine(Dv _ rfl).trans ?_
  rw[c3]
  obtain⟨M,rfl⟩: ∃ M,N=M+10:=⟨N - 10,by omega⟩
  rw[DW]
  dsimp only[U6,U4]
  rw[decide_eq_true (by decide:(0:Int)<1),cond_true,Hg,hk]
  refine(Dv _ rfl).trans ?_
  refine(Dv _ rfl).trans ?_
  refine(Dv _ rfl).trans ?_
  rw[show(i64.wrap (0*16)).toNat=0 from rfl,show(i64.wrap (i64.wrap (0+1)*16)).toNat=16 from rfl,c4,show(((0:Int).tmod 2)==0)=true from rfl,cond_true]
  show callO (Fz (M+10) (idP (M+10) sd) 0 0 (kyP (M+10) sd 0) (kyP (M+10) sd 1)) _=_
  rw[hp.1,CW]
  dsimp only[U4]
  rw[DW]
  show(bif !(P7 (M+10) sd==P7 (M+10) sd)then _ else _)=_
  rw[beq_self_eq_true]
  rfl
end
end Go.Proofs.YtbnphelpndnnfaaGreatDoor.Pl
namespace Go.Proofs.YtbnphelpndnnfaaGreatDoor.Pl
open IntKind (i64)
open Go Vm
def W32 (w:List Int):List Int:=(List.range 8).flatMap fun i=>[IntKind.u8.wrap ((w.getD i 0).fdiv 16777216),IntKind.u8.wrap ((w.getD i 0).fdiv 65536),IntKind.u8.wrap ((w.getD i 0).fdiv 256),IntKind.u8.wrap (w.getD i 0)]
def kF (N:Nat) (t6g:List Int):Option Bs :=
 iterG (X:=Int×List Int) (Y:=(List Int)) (U2 fun t76h l1028672h k8 x9 =>
 bif decide (t76h<(t6g.length:Int))then(chk (decide ((0:Int)<=t76h)) <|
 chk (decide (t76h<(t6g.length:Int))) <|
 chk (decide ((l1028672h.length+4)*2<=140737488355328)) <|
 let y56576:List Int:=l1028672h++([IntKind.u8.wrap ((t6g.getD t76h.toNat 0).fdiv (16777216)),IntKind.u8.wrap ((t6g.getD t76h.toNat 0).fdiv (65536)),IntKind.u8.wrap ((t6g.getD t76h.toNat 0).fdiv (256)),IntKind.u8.wrap (t6g.getD t76h.toNat 0)]:List Int)
 k8 (i64.wrap (t76h+(1:Int)),y56576))
 else(x9 l1028672h))
 N (0,([]:List Int)) (fun l1032768i =>
 chk (List.all l1032768i isByte) <|
 some (List.map Vm.byteOf l1032768i))
def Xv:List Int:=[1779033703,3144134277,1013904242,2773480762,1359893119,2600822924,528734635,1541459225]
def blk4 (a b c d:UInt8):Bs:=[115,101,101,100,a,b,c,d,128]++List.replicate 54 0++[64]
theorem uP {α :Type} {b:Bool} {x y: α} (h:b=true):(bif b then x else y)=x:=by rw[h];rfl
theorem uO {α :Type} {b:Bool} {x y: α} (h:b=false):(bif b then x else y)=y:=by rw[h];rfl
theorem Aci {α β ρ :Type} (f: α -> β -> ρ) (a: α) (b: β):U2 f (a,b)=f a b:=rfl
theorem Abv {α ρ :Type} [Inhabited α] {x y:Option α} {f g: α ->Option ρ} (h:x=y) (hf: ∀ r,f r=g r):callO x f=callO y g:=by rw[h,funext hf]
theorem uH {α β γ δ ρ :Type} (f: α -> β -> γ -> δ -> ρ) (a: α) (b: β) (k: γ) (x: δ):U2 f (a,b) k x=f a b k x:=rfl
theorem Acj {α β ε γ δ ρ :Type} (f: α -> β -> ε -> γ -> δ -> ρ) (a: α) (b: β) (c: ε) (k: γ) (x: δ):U3 f (a,b,c) k x=f a b c k x:=rfl
def pd4:List Int:=[128]++List.replicate 54 0++[64]
theorem AdB (M:Nat) (a b c d:UInt8):SB (M+300) [[115,101,101,100],[a,b,c,d]]=callO (KP (M+300) Xv (blk4 a b c d)) (kF (M+300)):=by
  unfold SB;try simp -zeta only[Ap]
  generalize KP (M+300)=R
  refine((?h1: ∀ K:Bs->Option Bs,iterG _ (M+300) (([]:Bs),(0:Int)) K=K [115,101,101,100,a,b,c,d]) _).trans ?_
  case h1 =>
    intro K
    iterate 2
      refine(DW _ _ _ _).trans ?_
      refine(uH _ _ _ _ _).trans ?_
      refine(uP (by kernel_rfl)).trans ?_
      iterate 3 refine(Dv _ (by kernel_rfl)).trans ?_
    refine(DW _ _ _ _).trans ?_
    refine(uH _ _ _ _ _).trans ?_
    exact(uO (by kernel_rfl)).trans rfl
  rw[Hg]
  rw[show(i64.wrap (64 - (i64.wrap ((([115,101,101,100,a,b,c,d]:Bs).length:Int)+9)).tmod 64)==64)=false by kernel_rfl,cond_false]
  rw[show i64.wrap (64 - (i64.wrap ((([115,101,101,100,a,b,c,d]:Bs).length:Int)+9)).tmod 64)=47 by kernel_rfl]
  refine(Aci _ _ _).trans ?_
  iterate 5 refine(Dv _ (by kernel_rfl)).trans ?_
  refine((?h2: ∀ K:List Int×List Int->Option Bs,iterG _ (M+300) ((0:Int),Xv,_) K=K (Xv,pd4)) _).trans ?_
  case h2 =>
    intro K
    iterate 8
      refine(DW _ _ _ _).trans ?_
      refine(Acj _ _ _ _ _ _).trans ?_
      refine(uP (by kernel_rfl)).trans ?_
      iterate 4 refine(Dv _ (by kernel_rfl)).trans ?_
    refine(DW _ _ _ _).trans ?_
    refine(Acj _ _ _ _ _ _).trans ?_
    refine(uO (by kernel_rfl)).trans ?_
    exact congrArg (fun l=>K (Xv,l)) (of_decide_eq_true (by kernel_rfl))
  refine(Aci _ _ _).trans ?_
  iterate 2 refine(Dv _ (by kernel_rfl)).trans ?_
  refine((?h3: ∀ K:List Int->Option Bs,iterG _ (M+300) (Xv,(0:Int)) K=callO (R Xv (blk4 a b c d)) K) _).trans ?_
  case h3 =>
    intro K
    refine(DW _ _ _ _).trans ?_
    refine(uH _ _ _ _ _).trans ?_
    refine(uP (by kernel_rfl)).trans ?_
    iterate 3 refine(Dv _ (by kernel_rfl)).trans ?_
    refine Abv (congrArg (R Xv) ?_) fun r=> ?_
    ·rfl
    ·refine(DW _ _ _ _).trans ?_
     refine(uH _ _ _ _ _).trans ?_
     exact uO (by kernel_rfl)
  rfl
theorem AcG (M:Nat) (a b c d:UInt8):((KP (M+300) Xv (blk4 a b c d)).map List.length)=some 8:=by kernel_rfl
theorem kF8 (M:Nat) (a b c d e f g h:Int):kF (M+300) [a,b,c,d,e,f,g,h]=chk (List.all (W32 [a,b,c,d,e,f,g,h]) isByte) (some (List.map Vm.byteOf (W32 [a,b,c,d,e,f,g,h]))):=by kernel_rfl
theorem AaP (M:Nat) (p:Int): ∃ s,G5 (M+300) p=some s/\s.length=32:=by
  have e:V8 (M+300) p=some (b4P p):=by
    unfold V8;try simp -zeta only[Ap]
    rw[Dv _ (by simp [H6])]
    rfl
  unfold G5
  rw[e,CW]
  obtain⟨a,b,c,d,hb⟩: ∃ a b c d,b4P p=[a,b,c,d]:=⟨_,_,_,_,rfl⟩
  rw[hb,AdB]
  obtain⟨w,hw,hl⟩:=Option.map_eq_some_iff.1 (AcG M a b c d)
  rw[hw,CW]
  match w,hl with
  | [a,b,c,d,e,f,g,h],_ =>
    rw[kF8,Dv _ (by simp [W32,H6,List.range_succ]),CW]
    exact⟨_,rfl,by simp [W32,List.range_succ]⟩
theorem AcM (N:Nat) (s:Bs):JZ N s 0=some true:=rfl
theorem AaD (N:Nat) {s:Bs} (hs:s.length<=60000):Nj N s 0=some (0::s,0):=by
  unfold Nj;try simp -zeta only[Ap]
  rw[AcM]
  try simp only[clR]
  refine(Dv _ rfl).trans ?_
  refine(Dv _ (decide_eq_true (by simp;omega))).trans rfl
section
variable {N:Nat} (hN:1048578<N) {x:Li} (h:OkL x)
include hN h
theorem AcK {sig:Bs} (hs:sig.length<=60000):NL N (DR x) sig=some (La (DR x) sig,0):=by
  have hl:=Qk hN h
  have hB:=VC hN h
  have h2:=YV (LY hN)
  have h3:=Sp.Dk 3 (0::sig)
  rw[List.length_cons]at h3
  have w:Ep N (DR x) 48=some (Dp 48 (Om x),0):=by
    rw[JR N _ 48 hN (by omega)]
    exact congrArg some (LK 48 (Om x) (by decide) (by decide) (by omega))
  have f3:Dh N false 3 [0::sig]=_:=Lt N 3 false [0::sig] (by omega) (by omega) hN (by simp) (by rw[DC,List.length_cons];omega)
  rw[DC]at f3
  have f48:Dq N false [DR x,LX,Sp.elem 3 (0::sig)]=some (La (DR x) sig,false):=by
    rw[LW N false _ (by show 3<N;omega) (by show 3<=_;omega),flat3]
    have:(DR x++(LX++Sp.elem 3 (0::sig))).length<=131072:=by rw[List.length_append,List.length_append];omega
    rw[Gp this];rfl
  have e:Fe N false (DR x) sig=some (La (DR x) sig,false,DR x,sig):=by
    unfold Fe
    rw[(LY hN).enc,CW,AaD N hs,CW]
    dsimp only
    rw[Ho,CW]
    dsimp only
    rw[f3,CW]
    dsimp only
    rw[f48,CW]
  unfold NL O8
  rw[w,CW]
  dsimp only
  rw[show((0:Int) != 0)=false from rfl,cond_false,e,CW]
  rfl
theorem Aa1 {sd:Bs} (hb:Big N) (hsd:sd.length=32) (raw tbs sig:Bs) (hc:I4 N (x.y raw tbs sig)=some 0) :
    Ht N (x.y raw tbs sig) (sg0 N sd)=some (La (DR x) (si1 N sd (DR x)),0,sg1 N sd):=by
  have hT:=xE hN h raw tbs sig hc
  have hB:=VC hN h
  have hS:=xB hb hsd (m:=DR x) (by omega)
  have hW:=AcK hN h (sig:=si1 N sd (DR x)) (by rw[iU hb hsd];omega)
  unfold Ht
  rw[hT,CW]
  dsimp only
  rw[show((0:Int) != 0)=false from rfl,cond_false]
  refine(congrArg (callO · _) (show Ec N _ (DR x)=_ from hS)).trans ?_
  rw[CW]
  dsimp only
  rw[show((0:Int) != 0)=false from rfl,cond_false,hW,CW]
  rfl
end
end Go.Proofs.YtbnphelpndnnfaaGreatDoor.Pl
namespace Go.Proofs.YtbnphelpndnnfaaGreatDoor.Pl
open IntKind (i64)
open Go Vm
theorem Zq {α :Type} {P: α ->Prop} {l:List α} {x: α} (h: ∀ y∈l,P y) (hx:P x): ∀ y∈l++[x],P y:=by
  intro y hy
  rcases List.mem_append.1 hy with hy | hy
  ·exact h y hy
  ·rw[List.mem_singleton.1 hy];exact hx
def Ends {α :Type} (Q: α ->Prop) (o:Option α):Prop:= ∃ v,o=some v/\Q v
theorem Hz {α :Type} {Q: α ->Prop} {v: α} (h:Q v):Ends Q (some v):=⟨v,rfl,h⟩
theorem Dt {α ρ :Type} [Inhabited α] {P: α ->Prop} {Q: ρ ->Prop} {o:Option α} {k: α ->Option ρ} (h:Ends P o) (hk: ∀ v,P v->Ends Q (k v)):Ends Q (callO o k):=by
  obtain⟨v,rfl,hv⟩:=h
  exact hk v hv
theorem Dy {ρ :Type} {Q: ρ ->Prop} {c:Bool} {k:Option ρ} (h:c=true) (hk:Ends Q k):Ends Q (Vm.chk c k):=by rw[h];exact hk
theorem Eg {ρ :Type} {Q: ρ ->Prop} {c:Bool} {x y:Option ρ} (h1:c=true->Ends Q x) (h2:c=false->Ends Q y):Ends Q (bif c then x else y):=by
  cases c with
  | true=>exact h1 rfl
  | false=>exact h2 rfl
theorem Hy {α ρ :Type} {P: α ->Prop} {Q: ρ ->Prop} {A:(α ->Option ρ)->Option ρ} {f: α ->Option ρ} (hA: ∀ j: α ->Option ρ,(∀ x,P x->Ends Q (j x))->Ends Q (A j)) (hf: ∀ x,P x->Ends Q (f x)):Ends Q (letJ A f):=hA f hf
theorem RX {X Y ρ :Type} {B:X->(X->Option ρ)->(Y->Option ρ)->Option ρ} {kx:Y->Option ρ} {Q: ρ ->Prop} (I:X->Prop) (μ :X->Nat)
    (h: ∀ x,I x-> ∀ k:X->Option ρ,(∀ x',I x'-> μ x'< μ x->Ends Q (k x'))->Ends Q (B x k kx)) (N:Nat) (x:X) (hI:I x) (hm: μ x<N):Ends Q (iterG B N x kx):=H7 I μ (Ends Q) h N x hI hm
def DL (L:List Int) (d:List Int×Int):Prop:= ∃ k:Nat,d=(L,(k:Int))/\k<=L.length
theorem yQ (N:Nat) {L:List Int} (hL:L.length<=9223372036854775807) {d:List Int×Int} (hd:DL L d) (n:Nat) (hn:0<n) (hn':n<2147483648) :
    Ends (fun r=>0<=r.1/\r.1<(n:Int)/\DL L r.2) (Di N d (n:Int)):=by
  obtain⟨k,rfl,hk⟩:=hd
  unfold Di;try simp -zeta only[Ap]
  try dsimp only
  by_cases h:k<L.length
  ·rw[Jy,if_neg (by omega),w64 (x:=(k:Int)+1) (by omega) (by omega),w64 (x:=(k:Int)+1 - 1) (by omega) (by omega),Qp,if_pos (by omega),Qp,if_pos (by omega)]
   generalize L.getD _ _=x
   have hne:((n:Int) != 0)=true:=by simp;omega
   rw[hne,DY,DY]
   have h1:=Int.tmod_lt_of_pos x (show(0:Int)<(n:Int) by omega)
   have h2: -(n:Int)<x.tmod (n:Int):=Int.lt_tmod_of_pos x (by omega)
   rw[w64 (x:=x.tmod (n:Int)+(n:Int)) (by omega) (by omega)]
   have h3:0<=(x.tmod (n:Int)+(n:Int)).tmod (n:Int):=Int.tmod_nonneg _ (by omega)
   have h4:=Int.tmod_lt_of_pos (x.tmod (n:Int)+(n:Int)) (show(0:Int)<(n:Int) by omega)
   refine⟨_,rfl,h3,h4,k+1,by rw[show((k+1:Nat):Int)=(k:Int)+1 by omega],h⟩
  ·rw[Jy,if_pos (by omega)]
   exact⟨_,rfl,Int.le_refl _,by show(0:Int)<n;omega,k,rfl,hk⟩
theorem JG {α :Type} {P: α ->Prop} {l:List α} {d: α} {i:Int} (h: ∀ x∈l,P x) (h0:0<=i) (hi:i<(l.length:Int)):P (l.getD i.toNat d):=h _ (getD_mem d (by omega))
section
variable (N:Nat) (hN:1048578<N) {L:List Int} (hL:L.length<=9223372036854775807)
include hL
theorem nx {d:List Int×Int} (hd:DL L d) (n:Int) (h0:0<n) (h1:n<2147483648):Ends (fun r=>0<=r.1/\r.1<n/\DL L r.2) (Di N d n):=by
  have:=yQ N hL hd n.toNat (by omega) (by omega)
  rw[show((n.toNat:Nat):Int)=n by omega]at this
  exact this
omit hL in
theorem vT {a:Att} (h:a∈Oo): [a]∈EG:=List.mem_append_left _ (List.mem_append_left _ (List.mem_map.2 ⟨a,h,rfl⟩))
omit hL in
theorem Aa6 {a b:Att} (h:a∈Oo) (hb:b∈Oo) (hn:b.1≠a.1): [a,b]∈EG :=
  List.mem_append_left _ (List.mem_append_right _ (List.mem_flatMap.2 ⟨a,h,List.mem_map.2 ⟨b,List.mem_filter.2 ⟨hb,by simpa using Ne.symm hn⟩,rfl⟩⟩))
theorem mV {d:List Int×Int} (hd:DL L d):Ends (fun r=>r.1∈Oo/\DL L r.2) (JX N d):=by
  unfold JX;try simp -zeta only[Ap]
  refine Dt (nx N hL hd 12 (by omega) (by omega)) ?_
  rintro ⟨r,d'⟩ ⟨h0,h1,h2⟩
  dsimp only at h0 h1 h2 ⊢
  refine Dy (by simp;omega) (Dy (by simp;omega) (Dy (by simp;omega) (Hz ⟨?_,h2⟩)))
  exact JG (P:=fun x=>x∈Oo) (fun x hx=>hx) h0 h1
include hN in
theorem AbN {d:List Int×Int} (hd:DL L d):Ends (fun r=>okN r.1/\DL L r.2) (Si N d):=by
  unfold Si
  try simp only[clR]
  refine Dt (nx N hL hd 4 (by omega) (by omega)) ?_
  rintro ⟨r,d1,d2⟩ ⟨h0,h1,h2⟩
  dsimp only at h0 h1 h2 ⊢
  refine RX (fun x=>0<=x.1/\x.1<4/\DL L (x.2.1,x.2.2.1)/\((x.2.2.2.length:Int)+x.1<=3)/\ ∀ r∈x.2.2.2,r∈EG) (fun x=>x.1.toNat) ?_ N _ ⟨h0,h1,h2,by simp;omega,fun r hr=>by cases hr⟩ (by dsimp only;omega)
  rintro ⟨t,a,b,acc⟩ ⟨g0,g1,g2,g3,g4⟩ k hk
  dsimp only[U4]at g0 g1 g2 g3 g4 ⊢
  refine Eg (fun ht=> ?_) (fun _=> ?_)
  ·have ht:=of_decide_eq_true ht
   refine Dt (nx N hL g2 5 (by omega) (by omega)) ?_
   rintro ⟨r,e1,e2⟩ ⟨f0,f1,f2⟩
   dsimp only at f0 f1 f2 ⊢
   have hw:i64.wrap (1+i64.wrap (r.tdiv 4))<=2/\1<=i64.wrap (1+i64.wrap (r.tdiv 4)):=by
     have:r=0\/r=1\/r=2\/r=3\/r=4:=by omega
     rcases this with rfl | rfl | rfl | rfl | rfl<;>decide
   refine RX (fun x=>0<=x.1/\x.1<=2/\DL L (x.2.1,x.2.2.1)/\((x.2.2.2.1.length:Int)+x.1<=2)/\((x.2.2.2.1=[]/\1<=x.1)\/(∃ y∈Oo,x.2.2.2.1=[y])\/(x.2.2.2.1.length=2/\x.2.2.2.1∈EG))/\x.2.2.2.2=acc) (fun x=>x.1.toNat) ?_ N _ ⟨by dsimp only;omega,hw.1,f2,by simp;omega,Or.inl ⟨rfl,hw.2⟩,rfl⟩ (by dsimp only;omega)
   rintro ⟨t',a',b',acc',out⟩ ⟨p0,p1,p2,p3,p4,p5⟩ k' hk'
   dsimp only[U5]at p0 p1 p2 p3 p4 p5 ⊢
   subst p5
   refine Eg (fun ht'=> ?_) (fun ht'=> ?_)
   ·have ht':=of_decide_eq_true ht'
    refine Dt (mV N hL p2) ?_
    rintro ⟨r,q1,q2⟩ ⟨z0,z1⟩
    dsimp only at z0 z1 ⊢
    have taut:(decide ((0:Int)<(acc'.length:Int))||((acc'.length:Nat):Int)==0)=true:=by
      cases acc' with
      | nil=>rfl
      | cons x y=>rw[decide_eq_true (by rw[List.length_cons];omega)];rfl
    have mF:(decide (0<acc'.length)||((acc'.length:Nat):Int)==0)=true:=by
      cases acc' with
      | nil=>rfl
      | cons x y=>rw[decide_eq_true (by rw[List.length_cons];omega)];rfl
    refine Dy (by first | exact taut | exact mF) (Dy (by first | exact taut | exact mF) (Dy (by first | exact taut | exact mF) ?_))
    have p4':acc'=[]\/ ∃ y∈Oo,acc'=[y]:=by
      rcases p4 with ⟨h,_⟩ | h | ⟨h,_⟩
      ·exact Or.inl h
      ·exact Or.inr h
      ·rw[h]at p3;omega
    refine Eg (fun hc=> ?_) (fun hc=> ?_)
    ·refine Dy (decide_eq_true (by omega)) (hk' _ ⟨?_,?_,z1,?_,?_,rfl⟩ ?_)
     ·dsimp only;rw[w64 (by omega) (by omega)];omega
     ·dsimp only;rw[w64 (by omega) (by omega)];omega
     ·dsimp only;rw[w64 (by omega) (by omega),List.length_append];simp;omega
     ·dsimp only
      rcases p4' with rfl | ⟨y,hy,rfl⟩
      ·exact Or.inr (Or.inl ⟨r,z0,rfl⟩)
      ·refine Or.inr (Or.inr ⟨rfl,Aa6 hy z0 fun e=> ?_⟩)
       rw[e]at hc
       simp at hc
     ·dsimp only;rw[w64 (by omega) (by omega)];omega
    ·refine hk' _ ⟨?_,?_,z1,?_,?_,rfl⟩ ?_
     ·dsimp only;rw[w64 (by omega) (by omega)];omega
     ·dsimp only;rw[w64 (by omega) (by omega)];omega
     ·dsimp only;rw[w64 (by omega) (by omega)];omega
     ·dsimp only
      rcases p4' with rfl | h
      ·simp at hc
      ·exact Or.inr (Or.inl h)
     ·dsimp only;rw[w64 (by omega) (by omega)];omega
   ·have ht':=of_decide_eq_false ht'
    dsimp only[U4]
    have hin:acc'∈EG:=by
      rcases p4 with ⟨_,h⟩ | ⟨y,hy,rfl⟩ | ⟨_,h⟩
      ·omega
      ·exact vT hy
      ·exact h
    refine Dy (decide_eq_true (by omega)) (hk _ ⟨?_,?_,p2,?_,Zq g4 hin⟩ ?_)
    ·dsimp only;rw[w64 (by omega) (by omega)];omega
    ·dsimp only;rw[w64 (by omega) (by omega)];omega
    ·dsimp only;rw[w64 (by omega) (by omega),List.length_append];simp;omega
    ·dsimp only;rw[w64 (by omega) (by omega)];omega
  ·dsimp only[U3]
   exact Hz ⟨⟨by dsimp only;omega,g4⟩,g2⟩
include hN hL
theorem Vd {d:List Int×Int} (hd:DL L d):Ends (fun r=>okG r.1/\DL L r.2) (Ir N d):=by
  have hT: ∀(l:List Bs) (k:Int),l.all (fun s=>dP.contains (k,s,[]))=true-> ∀ s∈l,okG (k,s,[]):=fun l k h s hs=>Or.inl (List.contains_iff_mem.1 (List.all_eq_true.1 h s hs))
  unfold Ir
  try simp only[clR]
  refine Dt (nx N hL hd 4 (by omega) (by omega)) ?_
  rintro ⟨r,d'⟩ ⟨h0,h1,h2⟩
  dsimp only at h0 h1 h2 ⊢
  refine Eg (fun _=> ?_) (fun _=>Eg (fun _=> ?_) (fun _=>Eg (fun _=> ?_) (fun _=> ?_)))
  ·refine Dt (nx N hL h2 6 (by omega) (by omega)) ?_
   rintro ⟨r,d'⟩ ⟨h0,h1,h2⟩
   dsimp only at h0 h1 h2 ⊢
   refine Dy (decide_eq_true (by omega)) (Dy (decide_eq_true (by omega)) (Dy (decide_eq_true (by omega)) (Hz ⟨JG (P:=fun s=>okG (1,s,[])) (hT _ 1 (by kernel_rfl)) h0 h1,h2⟩)))
  ·refine Dt (nx N hL h2 7 (by omega) (by omega)) ?_
   rintro ⟨r,d'⟩ ⟨h0,h1,h2⟩
   dsimp only at h0 h1 h2 ⊢
   refine Dy (decide_eq_true (by omega)) (Dy (decide_eq_true (by omega)) (Dy (decide_eq_true (by omega)) (Hz ⟨JG (P:=fun s=>okG (2,s,[])) (hT _ 2 (by kernel_rfl)) h0 h1,h2⟩)))
  ·refine Dt (nx N hL h2 4 (by omega) (by omega)) ?_
   rintro ⟨r,d'⟩ ⟨h0,h1,h2⟩
   dsimp only at h0 h1 h2 ⊢
   refine Dy (decide_eq_true (by omega)) (Dy (decide_eq_true (by omega)) (Dy (decide_eq_true (by omega)) (Hz ⟨JG (P:=fun s=>okG (7,s,[])) (hT _ 7 (by kernel_rfl)) h0 h1,h2⟩)))
  ·refine Dt (AbN N hN hL h2) ?_
   rintro ⟨n,d'⟩ ⟨g0,g1⟩
   exact Hz ⟨Or.inr ⟨n,g0,rfl⟩,g1⟩
omit hN in
theorem XV {d:List Int×Int} (hd:DL L d):Ends (fun r=>r.1∈Iz/\DL L r.2) (JF N d):=by
  unfold JF;try simp -zeta only[Ap]
  refine Dt (nx N hL hd 7 (by omega) (by omega)) ?_
  rintro ⟨r,d'⟩ ⟨h0,h1,h2⟩
  dsimp only at h0 h1 h2 ⊢
  exact Dy (decide_eq_true (by omega)) (Dy (decide_eq_true (by omega)) (Dy (decide_eq_true (by omega)) (Hz ⟨JG (P:=fun x=>x∈Iz) (fun x hx=>hx) h0 h1,h2⟩)))
omit hL in
theorem Ql {k:Int} (h0:0<=k) (h1:k<16):Ends (fun n=> ∃ j:Nat,j<16/\n=aut j) (Dx N k):=by
  obtain⟨j,rfl⟩: ∃ j:Nat,k=j:=⟨k.toNat,by omega⟩
  exact⟨aut j,(G9 hN (by omega)).made,j,by omega,rfl⟩
theorem zB {d:List Int×Int} (hd:DL L d):Ends (fun r=>X4 r.1/\DL L r.2) (Ov N d):=by
  unfold Ov
  try simp only[clR]
  refine Dt (nx N hL hd 3 (by omega) (by omega)) ?_
  rintro ⟨r,d1,d2⟩ ⟨h0,h1,h2⟩
  dsimp only at h0 h1 h2 ⊢
  rw[w64 (by omega) (by omega)]
  refine RX (fun x=>0<=x.1/\x.1<4/\DL L (x.2.1,x.2.2.1)/\((x.2.2.2.length:Int)+x.1<=3)/\(x.2.2.2=[]->1<=x.1)/\ ∀ p∈x.2.2.2,okP p) (fun x=>x.1.toNat) ?_ N _ ⟨by dsimp only;omega,by dsimp only;omega,h2,by simp;omega,(fun _=>by dsimp only;omega),(fun r hr=>by cases hr)⟩ (by dsimp only;omega)
  rintro ⟨t,a,b,acc⟩ ⟨g0,g1,g2,g3,g5,g4⟩ k hk
  dsimp only[U4]at g0 g1 g2 g3 g4 g5 ⊢
  refine Eg (fun ht=> ?_) (fun ht=>by dsimp only[U3];exact Hz ⟨⟨fun e=>by have:=g5 e;have:=of_decide_eq_false ht;omega,by dsimp only;omega,g4⟩,g2⟩)
  have ht:=of_decide_eq_true ht
  refine Dt (Vd N hN hL g2) ?_
  rintro ⟨g,e⟩ ⟨f0,f1⟩
  refine Dt (nx N hL f1 6 (by omega) (by omega)) ?_
  rintro ⟨r6,e1,e2⟩ ⟨c0,c1,c2⟩
  dsimp only at c0 c1 c2 f0 ⊢
  refine Dy (decide_eq_true (by omega)) (Dy (decide_eq_true (by omega)) (Dy (decide_eq_true (by omega)) ?_))
  have hr: [(0:Int),0,510,2,64,384].getD r6.toNat 0=0\/ [(0:Int),0,510,2,64,384].getD r6.toNat 0∈ZE:=JG (P:=fun x:Int=>x=0\/x∈ZE) (by decide) c0 c1
  refine Hy (P:=fun x=>DL L (x.1,x.2.1)/\x.2.2.1=[(0:Int),0,510,2,64,384].getD r6.toNat 0/\((x.2.2.2.1=false/\x.2.2.2.2.1=[])\/(x.2.2.2.1=true/\okN x.2.2.2.2.1/\x.2.2.2.2.1≠ []))/\x.2.2.2.2.2.1=[g]/\x.2.2.2.2.2.2=acc) (fun j hj=> ?_) ?_
  ·refine Dt (nx N hL c2 3 (by omega) (by omega)) ?_
   rintro ⟨r3,q1,q2⟩ ⟨z0,z1,z2⟩
   dsimp only at z0 z1 z2 ⊢
   refine Eg (fun _=> ?_) (fun _=>hj _ ⟨z2,rfl,Or.inl ⟨rfl,rfl⟩,rfl,rfl⟩)
   refine Dt (nx N hL z2 16 (by omega) (by omega)) ?_
   rintro ⟨r3,q1,q2⟩ ⟨z0,z1,z2⟩
   dsimp only at z0 z1 z2 ⊢
   refine Dt (Ql N hN z0 z1) ?_
   rintro n ⟨i,hi,rfl⟩
   have A:=G9 hN hi
   exact hj _ ⟨z2,rfl,Or.inr ⟨rfl,A.ok,A.ne⟩,rfl,rfl⟩
  ·rintro ⟨q1,q2,x1,x2,x3,x4,x5⟩ ⟨y1,y2,y3,y4,y5⟩
   dsimp only[U7]at y1 y2 y3 y4 y5 ⊢
   subst y2 y4 y5
   refine Dy (decide_eq_true (by omega)) (hk _ ⟨?_,?_,y1,?_,?_,Zq g4 ⟨⟨g,f0,rfl⟩,hr,y3⟩⟩ ?_)
   ·dsimp only;rw[w64 (by omega) (by omega)];omega
   ·dsimp only;rw[w64 (by omega) (by omega)];omega
   ·dsimp only;rw[w64 (by omega) (by omega),List.length_append];simp;omega
   ·intro e;simp at e
   ·dsimp only;rw[w64 (by omega) (by omega)];omega
theorem AbK {d:List Int×Int} (hd:DL L d):Ends (fun r=>(∃ x,OkL x/\r.1=x.y [] [] [])/\DL L r.2) (OE N d):=by
  unfold OE;try simp -zeta only[Ap]
  refine Dt (nx N hL hd 16 (by omega) (by omega)) ?_
  rintro ⟨r,d1⟩ ⟨h0,h1,h2⟩
  dsimp only at h0 h1 h2 ⊢
  refine Dt (Ql N hN h0 h1) ?_
  rintro _ ⟨kk,hkk,rfl⟩
  refine Dt (XV N hL h2) ?_
  rintro ⟨t1,d2⟩ ⟨ht1,h3⟩
  refine Dt (XV N hL h3) ?_
  rintro ⟨t2,d3⟩ ⟨ht2,h4⟩
  refine Dt (nx N hL h4 200 (by omega) (by omega)) ?_
  rintro ⟨r5,d5a,d5b⟩ ⟨h5,h6,h7⟩
  dsimp only at ht1 h3 ht2 h4 h5 h6 h7 ⊢
  refine Hy (P:=fun x=> ∃ u v,x=(d5a,d5b,aut kk,u,v,1+r5)/\u∈Iz/\v∈Iz/\u<=v) (fun j hj=> ?_) ?_
  ·rw[w64 (by omega) (by omega)]
   exact Eg (fun hb=>hj _ ⟨_,_,rfl,ht2,ht1,by have:=of_decide_eq_true hb;omega⟩) (fun hb=>hj _ ⟨_,_,rfl,ht1,ht2,by have:=of_decide_eq_false hb;omega⟩)
  rintro _ ⟨u,v,rfl,hu,hv,huv⟩
  dsimp only[U6]
  refine Hy (P:=fun x=> ∃ a b w,x=(a,b,aut kk,u,v,1+r5,w)/\DL L (a,b)/\(w= -1\/(0<=w/\w<1+r5))) (fun j hj=> ?_) ?_
  ·refine Dt (nx N hL h7 3 (by omega) (by omega)) ?_
   rintro ⟨r,d1⟩ ⟨h0,h1,h2⟩
   dsimp only at h0 h1 h2 ⊢
   refine Eg (fun _=> ?_) (fun _=>hj _ ⟨_,_,_,rfl,h2,Or.inl rfl⟩)
   refine Dt (nx N hL h2 (1+r5) (by omega) (by omega)) ?_
   rintro ⟨r,d1⟩ ⟨h0,h1,h2⟩
   exact hj _ ⟨_,_,_,rfl,h2,Or.inr ⟨h0,h1⟩⟩
  rintro _ ⟨a,b,w,rfl,hab,hw⟩
  dsimp only[U7]
  refine Hy (P:=fun x=> ∃ a b s,x=(a,b,aut kk,u,v,1+r5,w,s)/\DL L (a,b)/\(s=[]\/s=akV)) (fun j hj=> ?_) ?_
  ·refine Dt (nx N hL hab 3 (by omega) (by omega)) ?_
   rintro ⟨r,d1⟩ ⟨h0,h1,h2⟩
   dsimp only at h0 h1 h2 ⊢
   exact Eg (fun _=>hj _ ⟨_,_,_,rfl,h2,Or.inr rfl⟩) (fun _=>hj _ ⟨_,_,_,rfl,h2,Or.inl rfl⟩)
  clear hab a b
  rintro _ ⟨a,b,s,rfl,hab,hs⟩
  dsimp only[U8]
  refine Hy (P:=fun x=> ∃ a b p q r t y z,x=(a,b,aut kk,u,v,1+r5,w,s,p,q,r,t,y,z)/\DL L (a,b)/\((p=false/\(q,r,t,y,z)=zSc)\/(p=true/\dS (q,r,t,y,z)))) (fun j hj=> ?_) ?_
  ·refine Dt (nx N hL hab 2 (by omega) (by omega)) ?_
   rintro ⟨r,d1⟩ ⟨h0,h1,h2⟩
   dsimp only at h0 h1 h2 ⊢
   refine Eg (fun _=> ?_) (fun _=>hj _ ⟨_,_,_,_,_,_,_,_,rfl,h2,Or.inl ⟨rfl,rfl⟩⟩)
   refine Dt (nx N hL h2 4 (by omega) (by omega)) ?_
   rintro ⟨r,d1⟩ ⟨h0,h1,h2⟩
   dsimp only at h0 h1 h2 ⊢
   refine Dy (decide_eq_true (by omega)) (Dy (decide_eq_true (by omega)) (Dy (decide_eq_true (by omega)) ?_))
   have hr:okR ([(0:Int),2,64,510].getD r.toNat 0):=JG (P:=okR) (fun x hx=>by
     have: ∀ x∈ [(0:Int),2,64,510],x=0\/x∈ZE:=by decide
     exact this x hx) h0 h1
   generalize [(0:Int),2,64,510].getD r.toNat 0=rr at hr ⊢
   refine Dt (nx N hL h2 2 (by omega) (by omega)) ?_
   rintro ⟨r,d1⟩ ⟨h0,h1,h2⟩
   dsimp only at h0 h1 h2 ⊢
   refine Dt (nx N hL h2 4 (by omega) (by omega)) ?_
   rintro ⟨r',d1⟩ ⟨h0,h1,h2⟩
   dsimp only at h0 h1 h2 ⊢
   have hn0:Zw []:=⟨by simp,fun g hg=>by cases hg⟩
   refine Eg (fun _=>hj _ ⟨_,_,_,_,_,_,_,_,rfl,h2,Or.inr ⟨rfl,hn0,hr,Or.inl ⟨rfl,rfl,rfl⟩⟩⟩) (fun _=>Eg (fun _=>hj _ ⟨_,_,_,_,_,_,_,_,rfl,h2,Or.inr ⟨rfl,hn0,hr,Or.inr (Or.inl ⟨rfl,rfl,rfl⟩)⟩⟩) (fun _=> ?_))
   refine Dt (Vd N hN hL h2) ?_
   rintro ⟨g1,d1⟩ ⟨hg1,h2⟩
   refine Dt (Vd N hN hL h2) ?_
   rintro ⟨g2,d1⟩ ⟨hg2,h2⟩
   refine Dt (nx N hL h2 2 (by omega) (by omega)) ?_
   rintro ⟨r7,d1⟩ ⟨h0,h1,h2⟩
   dsimp only at h0 h1 h2 hg1 hg2 ⊢
   rw[w64 (x:=1+r7) (by omega) (by omega)]
   refine Dy (decide_eq_true (by omega)) (Dy (decide_eq_true (by omega)) (hj _ ⟨_,_,_,_,_,_,_,_,rfl,h2,Or.inr ⟨rfl,?_,hr,Or.inr (Or.inr ⟨rfl,rfl,?_⟩)⟩⟩))
   ·have e:r7=0\/r7=1:=by omega
    rcases e with rfl | rfl
    ·exact gs1 hg1
    ·exact⟨by show [g1,g2].length<=2;simp,fun x hx=>by
       have hx:x∈ [g1,g2]:=hx
       rcases List.mem_cons.1 hx with rfl | hx
       ·exact hg1
       ·rw[List.mem_singleton.1 hx];exact hg2⟩
   ·have e:r7=0\/r7=1:=by omega
    rcases e with rfl | rfl<;>(intro h;cases h)
  clear hab a b
  rintro _ ⟨a,b,p,q,r,t,y,z,rfl,hab,hsc⟩
  dsimp only[U14]
  refine Hy (P:=fun x=> ∃ a b o,x=(a,b,aut kk,u,v,1+r5,w,s,p,q,r,t,y,z,o)/\DL L (a,b)/\(o=[]\/(w= -1/\X4 o))) (fun j hj=> ?_) ?_
  ·obtain⟨⟨g,d1⟩,e1,h0,h1,h2⟩:=nx N hL hab 4 (by omega) (by omega)
   rw[e1]
   simp only[NK,J3,I7,Option.isSome_some,Bool.true_or,DY,Option.getD_some]
   have hd:DL L ((bif (w==(-1:Int))then d1.1 else a),(bif (w==(-1:Int))then d1.2 else b)):=by
     cases (w==(-1:Int))
     ·exact hab
     ·exact h2
   refine Eg (fun hb=> ?_) (fun _=>hj _ ⟨_,_,_,rfl,hd,Or.inl rfl⟩)
   have hw1:w= -1:=by
     cases hq:w==(-1:Int)with
     | true=>exact eq_of_beq hq
     | false=>rw[hq]at hb;cases hb
   refine Dt (zB N hN hL hd) ?_
   rintro ⟨g,d1⟩ ⟨h0,h2⟩
   exact hj _ ⟨_,_,_,rfl,h2,Or.inr ⟨hw1,h0⟩⟩
  clear hab a b
  rintro _ ⟨a,b,o,rfl,hab,ho⟩
  dsimp only[U15]
  refine Dt (nx N hL hab 6 (by omega) (by omega)) ?_
  clear hab a b
  rintro ⟨g,a,b⟩ ⟨h0,h1,hab⟩
  dsimp only at h0 h1 hab ⊢
  refine RX (fun x=> ∃(t':Int) (a:List Int) (b:Int) (es:List En),x=(t',a,b,aut kk,u,v,1+r5,w,s,p,q,r,t,y,z,o,es.map enY)/\0<=t'/\t'<6/\DL L (a,b)/\(es.length:Int)+t'<=5/\(∀ e∈es,OkE w z kk e)/\es.Pairwise (fun a b=> ¬(a.1=b.1/\a.k % 8=b.k % 8))) (fun x=>x.1.toNat) ?_ N _ ⟨_,_,_,[],rfl,h0,h1,hab,by simp;omega,(fun e he=>by cases he),List.Pairwise.nil⟩ (by dsimp only;omega)
  clear hab a b h0 h1
  rintro _ ⟨t',a,b,es,rfl,g0,g1,hab,g3,g4,g5⟩ k hk
  dsimp only[U17]
  refine Eg (fun ht=> ?_) (fun _=> ?_)
  ·have ht:=of_decide_eq_true ht
   refine Dt (nx N hL hab 9 (by omega) (by omega)) ?_
   rintro ⟨c1,d1⟩ ⟨h0,h1,h2⟩
   dsimp only at h0 h1 h2 ⊢
   rw[w64 (x:=1+c1) (by omega) (by omega)]
   refine Dt (XV N hL h2) ?_
   rintro ⟨c2,d2⟩ ⟨hc2,h3⟩
   dsimp only at hc2 h3 ⊢
   refine Dt (nx N hL h3 9 (by omega) (by omega)) ?_
   rintro ⟨c3,d3⟩ ⟨f0,f1,f2⟩
   dsimp only at f0 f1 f2 ⊢
   refine Dy (decide_eq_true (by omega)) (Dy (decide_eq_true (by omega)) (Dy (decide_eq_true (by omega)) ?_))
   have hre:([0,1,2,3,4,5,6,9,10]:List Int).getD c3.toNat 0∈reL/\([0,1,2,3,4,5,6,9,10]:List Int).getD c3.toNat 0≠8:=JG (P:=fun x:Int=>x∈reL/\x≠8) (by decide) f0 f1
   generalize ([0,1,2,3,4,5,6,9,10]:List Int).getD c3.toNat 0=c3' at hre ⊢
   refine Hy (P:=fun x=> ∃ a b c4,x=(a,b,aut kk,u,v,1+r5,w,s,p,q,r,t,y,z,o,1+c1,c2,c3',c4,aut kk,es.map enY)/\DL L (a,b)/\(c4= -1\/c4∈Iz)) (fun j hj=> ?_) ?_
   ·refine Dt (nx N hL f2 3 (by omega) (by omega)) ?_
    rintro ⟨g,d1⟩ ⟨h0,h1,h2⟩
    dsimp only at h0 h1 h2 ⊢
    refine Eg (fun _=> ?_) (fun _=>hj _ ⟨_,_,_,rfl,h2,Or.inl rfl⟩)
    refine Dt (XV N hL h2) ?_
    rintro ⟨g,d1⟩ ⟨hg,h3⟩
    exact hj _ ⟨_,_,_,rfl,h3,Or.inr hg⟩
   clear hab
   rintro _ ⟨a,b,c4,rfl,hab,hc4⟩
   dsimp only[U21]
   refine Hy (P:=fun x=> ∃ a b c3,x=(a,b,aut kk,u,v,1+r5,w,s,p,q,r,t,y,z,o,1+c1,c2,c3,c4,aut kk,es.map enY)/\DL L (a,b)/\c3∈reL/\(c3=8->w≠ -1)) (fun j hj=> ?_) ?_
   ·obtain⟨⟨g,d1⟩,e1,h0,h1,h2⟩:=nx N hL hab 3 (by omega) (by omega)
    rw[e1]
    simp only[NK,J3,I7,Option.isSome_some,Bool.true_or,DY,Option.getD_some]
    have hd:DL L ((bif (w != (-1:Int))then d1.1 else a),(bif (w != (-1:Int))then d1.2 else b)):=by
      cases (w != (-1:Int))
      ·exact hab
      ·exact h2
    refine Eg (fun hb=>hj _ ⟨_,_,_,rfl,hd,by decide,fun _ hw=> ?_⟩) (fun _=>hj _ ⟨_,_,_,rfl,hd,hre.1,fun h=>absurd h hre.2⟩)
    rw[hw]at hb;cases hb
   clear hab
   rintro _ ⟨a,b,c5,rfl,hab,hc5,hc8⟩
   dsimp only[U21]
   refine Hy (P:=fun x=> ∃ a b k',x=(a,b,aut kk,u,v,1+r5,w,s,p,q,r,t,y,z,o,1+c1,c2,c5,c4,aut k',es.map enY)/\k'<16/\(z=true\/k' % 8=kk % 8)/\DL L (a,b)) (fun j hj=> ?_) ?_
   ·refine Eg (fun hz=> ?_) (fun _=>hj _ ⟨_,_,_,rfl,hkk,Or.inr rfl,hab⟩)
    refine Dt (nx N hL hab 16 (by omega) (by omega)) ?_
    rintro ⟨g,d1⟩ ⟨h0,h1,h2⟩
    dsimp only at h0 h1 h2 ⊢
    refine Dt (Ql N hN h0 h1) ?_
    rintro _ ⟨k',hk',rfl⟩
    exact hj _ ⟨_,_,_,rfl,hk',Or.inl hz,h2⟩
   clear hab
   rintro _ ⟨a,b,k',rfl,hk',hz,hab⟩
   dsimp only[U21]
   rw[w64 (x:=t' - 1) (by omega) (by omega),AaJ hN (fun e he=>(g4 e he).k) (by omega) hk' (1+c1) (y:=(([]:Bs),([]:Bs),aut kk,u,v,1+r5,w,s,p,q,r,t,y,z,o,es.map enY,([]:Bs))) rfl,CW]
   cases hf:(List.range es.length).find? fun i=>Tt k' (1+c1) (es.getD i zE)with
   | some i=>exact hk _ ⟨_,_,_,es,rfl,by omega,by omega,hab,by omega,g4,g5⟩ (by dsimp only;omega)
   | none =>
     refine Dy (decide_eq_true (by rw[List.length_map];omega)) (hk _ ⟨_,_,_,es++[(1+c1,c2,c5,c4,k')],by rw[List.map_append];rfl,by omega,by omega,hab,by rw[List.length_append];simp;omega,Zq g4 ⟨by dsimp only;omega,by dsimp only;omega,hc2,hc5,hc8,hc4,hk',hz⟩,?_⟩ (by dsimp only;omega))
     rw[List.pairwise_append]
     refine⟨g5,List.pairwise_singleton _ _,fun e he e' he' hq=> ?_⟩
     rw[List.mem_singleton.1 he']at hq
     obtain⟨i,hi,rfl⟩:=List.getElem_of_mem he
     have:=List.find?_eq_none.1 hf i (List.mem_range.2 hi)
     rw[getD_lt es i zE hi]at this
     unfold Tt at this
     rw[hq.1,hq.2]at this
     simp at this
  ·dsimp only[U16]
   exact Hz ⟨⟨⟨kk,u,v,1+r5,w,s,p,(q,r,t,y,z),o,es⟩,⟨hkk,hu,hv,huv,by dsimp only;omega,by dsimp only;omega,hw,hs,hsc,ho,by dsimp only;omega,g4,g5⟩,rfl⟩,hab⟩
end
