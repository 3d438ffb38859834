import Derived.Test.YtbaomhegdndpnaaGreatDoorA21
import Derived.ChangeArms
import Derived.SliceStrings
import Derived.Test.YtbaomhegdndpnaaGreatDoorRows
import Derived.Test.YtbaomhegdndpnaaGreatDoorChecked
import Derived.Lib.LaidU8
import Derived.Shelf.Vars
import Derived.HandedShaped
import Derived.LaidLaws
set_option linter.all false
namespace Go.Proofs.YtbaomhegdndpnaaGreatDoor.Pl
open IntKind (i64)
open Go Vm
def b4P (p:Int):Bs:=List.map Vm.byteOf ([IntKind.u8.wrap (p.fdiv (16777216)),IntKind.u8.wrap (p.fdiv (65536)),IntKind.u8.wrap (p.fdiv (256)),IntKind.u8.wrap p]:List Int)
def b1P (p:Int):Bs:=List.map Vm.byteOf ([IntKind.u8.wrap p]:List Int)
theorem AgL (N:Nat) (p:Int):fZ N p=some (b4P p):=by
  unfold fZ;try simp -zeta only[Ap]
  rw[F7 _ (by simp [OI])]
  rfl
theorem AkF (N:Nat) (p:Int):fV N p=some (b1P p):=by
  unfold fV;try simp -zeta only[Ap]
  rw[F7 _ (by simp [OI])]
  rfl
theorem AnD (N:Nat) (p:Int):VD N p=some (b4P p):=AgL N p
def hS (N:Nat) (l:List Bs):Bs:=(FZ N l).getD []
structure Hok (N:Nat) (l:List Bs):Prop where
  n:150<=N
  m:N<=1000000000
  len:l.length<N
  each: ∀ s∈l,s.length+64<N
theorem Acy {N:Nat} {l:List Bs} (h:Hok N l):FZ N l=some (hS N l)/\(hS N l).length=16:=by
  obtain⟨v,e,hv⟩:=Am5 h.n h.m h.len h.each
  unfold hS
  rw[e]
  exact⟨rfl,hv⟩
def wk (f:Int->Bs->Bs) (a:Int):Nat->Bs->Bs
  | 0,x=>x
  | n+1,x=>wk f (a+1) n (f a x)
theorem AsN (f:Int->Bs->Bs): ∀(n:Nat) (a:Int) (m:Nat) (x:Bs),wk f a (n+m) x=wk f (a+n) m (wk f a n x):=by
  intro n
  induction n with
  | zero=>intro a m x;simp [wk]
  | succ n ih =>
    intro a m x
    rw[show n+1+m=(n+m)+1 by omega]
    show wk f (a+1) (n+m) (f a x)=wk f (a+((n+1:Nat):Int)) m (wk f (a+1) n (f a x))
    rw[ih]
    congr 1
    omega
theorem Aou {f:Int->Bs->Bs} (hf: ∀ t x,x.length=16->(f t x).length=16): ∀(n:Nat) (a:Int) (x:Bs),x.length=16->(wk f a n x).length=16:=by
  intro n
  induction n with
  | zero=>intro a x h;exact h
  | succ n ih=>intro a x h;exact ih _ _ (hf _ _ h)
def st (N:Nat) (p0:Bs) (p1 p2 t:Int) (x:Bs):Bs:=hS N [[67],p0,b4P p1,b1P p2,b1P t,x]
structure Big (N:Nat):Prop where
  n:2000<=N
  m:N<=1000000000
theorem hok {N:Nat} (h:Big N) {l:List Bs} (hl:l.length<=100) (hs:l.all (fun s=>decide (s.length<=1000))=true):Hok N l:=by
  have h1:=h.n
  refine⟨by omega,h.m,by omega,fun s hm=> ?_⟩
  have:=of_decide_eq_true (List.all_eq_true.1 hs s hm)
  omega
theorem Aqs {N:Nat} (h:Big N) {p0:Bs} (h0:p0.length<=1000) (p1 p2 t:Int) {x:Bs} (hx:x.length=16):FZ N [[67],p0,b4P p1,b1P p2,b1P t,x]=some (st N p0 p1 p2 t x)/\(st N p0 p1 p2 t x).length=16 :=
  Acy (hok h (by simp) (by simp [h0,hx,b4P,b1P]))
theorem walk_eq {N:Nat} (h:Big N) {p0:Bs} (h0:p0.length<=1000) (p1 p2:Int) {a b:Int} (ha:0<=a) (hab:a<=b) (hb:b<=15) {x:Bs} (hx:x.length=16):UJ N p0 p1 p2 a b x=some (wk (st N p0 p1 p2) a (b - a).toNat x):=by
  unfold UJ
  have hn:=h.n
  refine OJ (X:=Bs×Int) (fun x=>x.1.length=16/\0<=x.2/\x.2<=b) (fun x=>(b - x.2).toNat) (fun x=>some (wk (st N p0 p1 p2) x.2 (b - x.2).toNat x.1)) ?_ N _ ⟨hx,ha,hab⟩ (by show(b - a).toNat<N;omega)
  rintro ⟨x,t⟩ ⟨h1,h2,h3⟩ k hk
  have h1:x.length=16:=h1
  have h2:0<=t:=h2
  have h3:t<=b:=h3
  dsimp only[U2]
  by_cases hlt:t<b
  ·rw[decide_eq_true hlt,cond_true,AgL,CY,AkF,CY,AkF,CY]
   obtain⟨e1,e2⟩:=Aqs h h0 p1 p2 t h1
   rw[e1,CY,w64 (by omega) (by omega)]
   refine(hk _ ⟨e2,by show 0<=t+1;omega,by show t+1<=b;omega⟩ (by show(b - (t+1)).toNat<(b - t).toNat;omega)).trans ?_
   show some (wk _ (t+1) (b - (t+1)).toNat _)=some (wk _ t (b - t).toNat x)
   rw[show(b - t).toNat=(b - (t+1)).toNat+1 by omega]
   rfl
  ·rw[decide_eq_false hlt,cond_false]
   rw[show(b - t).toNat=0 by omega]
   rfl
theorem Aa7 {ρ :Type} {B:Int×List Bs->(Int×List Bs->Option ρ)->(List Bs->Option ρ)->Option ρ} {kx:List Bs->Option ρ} (n:Nat) (g:Nat->Bs)
    (h: ∀(i:Nat) (acc:List Bs) (k:Int×List Bs->Option ρ),i<n->acc.length=i->B ((i:Int),acc) k kx=k ((i:Int)+1,acc++[g i]))
    (hend: ∀(acc:List Bs) (k:Int×List Bs->Option ρ),acc.length=n->B ((n:Int),acc) k kx=kx acc) {N:Nat} (hN:n<N):Dq B N (0,[]) kx=kx ((List.range n).map g):=by
  refine OJ (fun x=>x.1=(x.2.length:Int)/\x.2.length<=n/\x.2=(List.range x.2.length).map g) (fun x=>n - x.2.length) (fun _=>kx ((List.range n).map g)) ?_ N _ ⟨rfl,Nat.zero_le _,rfl⟩ (by show n - 0<N;omega)
  rintro ⟨t,acc⟩ ⟨h1,h2,h3⟩ k hk
  have h1:t=(acc.length:Int):=h1
  have h2:acc.length<=n:=h2
  have h3:acc=(List.range acc.length).map g:=h3
  subst h1
  by_cases hl:acc.length<n
  ·rw[h acc.length acc k hl rfl]
   refine hk _ ⟨by show(acc.length:Int)+1=((acc++[g acc.length]).length:Int);simp,by show(acc++[g acc.length]).length<=n;simp;omega,?_⟩ (by show n - (acc++[g acc.length]).length<n - acc.length;simp;omega)
   show acc++[g acc.length]=(List.range (acc++[g acc.length]).length).map g
   rw[List.length_append,List.length_singleton,List.range_succ,List.map_append,<- h3]
   rfl
  ·have e:acc.length=n:=by omega
   have h4:=hend acc k e
   rw[<- e]at h4
   rw[h4,<- e]
   exact congrArg kx h3
def Aml (N:Nat) (p1:Bs) (p2:Int) (i:Nat):Bs:=hS N [[83],p1,b4P p2,b1P (i:Int)]
theorem RS {N:Nat} (h:Big N) {p1:Bs} (h1:p1.length<=1000) (p2:Int) (i:Nat):TF N p1 p2 (i:Int)=some (Aml N p1 p2 i)/\(Aml N p1 p2 i).length=16:=by
  obtain⟨e1,e2⟩:=Acy (N:=N) (l:=[[83],p1,b4P p2,b1P (i:Int)]) (hok h (by simp) (by simp [h1,b4P,b1P]))
  refine⟨?_,e2⟩
  unfold TF
  rw[AgL,CY,AkF,CY,e1]
  rfl
def AiV (N:Nat) (p0 p1:Bs) (p2:Int) (i:Nat):Bs:=wk (st N p0 p2 (i:Int)) 0 15 (Aml N p1 p2 i)
theorem st_len {N:Nat} (h:Big N) {p0:Bs} (h0:p0.length<=1000) (p1 p2:Int): ∀ t x,x.length=16->(st N p0 p1 p2 t x).length=16:=fun t _ hx=>(Aqs h h0 p1 p2 t hx).2
theorem Acr: ∀(l:List Bs),(∀ s∈l,s.length=16)->l.flatten.length=16*l.length:=by
  intro l
  induction l with
  | nil=>intro _;rfl
  | cons a r ih =>
    intro h
    rw[List.flatten_cons,List.length_append,h a List.mem_cons_self,ih fun s hs=>h s (List.mem_cons_of_mem _ hs),List.length_cons];omega
def iN (b:UInt8):Int:=(b.toNat:Int)
theorem AmJ (l:Bs):(l.map iN).map Vm.byteOf=l:=by
  rw[List.map_map]
  conv=>rhs;rw[<- List.map_id l]
  refine List.map_congr_left fun b _=> ?_
  show UInt8.ofNat ((b.toNat:Int)).toNat=b
  simp
theorem Anz (l:Bs):(l.map iN).all Vm.isByte=true:=by
  rw[List.all_eq_true]
  intro x hx
  obtain⟨b,_,rfl⟩:=List.mem_map.1 hx
  have:=Aqu b
  unfold Vm.isByte iN
  rw[decide_eq_true (by omega),decide_eq_true (by omega)];rfl
theorem join_eq {N:Nat} (h:Big N) {l:List Bs} (hl:l.length<=1000) (h16: ∀ s∈l,s.length=16):Y8 N l=some l.flatten:=by
  have hn:=h.n
  have hf:=Acr l h16
  unfold Y8;try simp -zeta only[Ap]
  rw[w64 (x:=(l.length:Int)*16) (by omega) (by omega),F7 _ (decide_eq_true (by omega)),F7 _ (decide_eq_true (by omega)),F7 _ (decide_eq_true (by omega))]
  refine(OJ (X:=Int×List Int) (fun x=>0<=x.1/\x.1<=(l.length:Int)/\x.2.length=16*l.length/\x.2.take (16*x.1.toNat)=((l.take x.1.toNat).flatten).map iN) (fun x=>((l.length:Int) - x.1).toNat) (fun _=>some l.flatten) ?_ N _ ⟨by show(0:Int)<=0;omega,by show(0:Int)<=l.length;omega,by show(List.replicate _ _).length=_;rw[List.length_replicate];omega,by simp⟩ (by show((l.length:Int) - 0).toNat<N;omega))
  rintro ⟨t,y⟩ ⟨h1,h2,h3,h4⟩ k hk
  have h1:0<=t:=h1
  have h2:t<=(l.length:Int):=h2
  have h3:y.length=16*l.length:=h3
  have h4:y.take (16*t.toNat)=((l.take t.toNat).flatten).map iN:=h4
  dsimp only[U2]
  by_cases hlt:t<(l.length:Int)
  ·have hi:t.toNat<l.length:=by omega
   have hg:l.getD t.toNat []=l[t.toNat]:=getD_lt _ _ _ hi
   have h5:(l.getD t.toNat []).length=16:=by rw[hg];exact h16 _ (List.getElem_mem hi)
   have h6:l.take (t.toNat+1)=l.take t.toNat++[l.getD t.toNat []]:=by rw[hg,List.take_succ_eq_append_getElem hi]
   have h7:((l.take t.toNat).flatten).length=16*t.toNat:=by rw[Acr _ fun s hs=>h16 s (List.mem_of_mem_take hs),List.length_take];omega
   generalize l.getD t.toNat []=s at h5 h6 ⊢
   rw[decide_eq_true hlt,cond_true,F7 _ (decide_eq_true h1),F7 _ rfl,w64 (x:=t*16) (by omega) (by omega),w64 (x:=t+1) (by omega) (by omega),F7 _ (decide_eq_true (by omega)),F7 _ (decide_eq_true (by omega)),F7 _ (decide_eq_true (by omega)),F7 _ (decide_eq_true (by omega))]
   have e16:(t*16).toNat=16*t.toNat:=by omega
   rw[e16]
   have h8:(y.take (16*t.toNat)).length=16*t.toNat:=by rw[List.length_take];omega
   refine hk _ ⟨by show 0<=t+1;omega,by show t+1<=_;omega,?_,?_⟩ (by show((l.length:Int) - (t+1)).toNat<((l.length:Int) - t).toNat;omega)
   ·show(bQ y (16*t.toNat) s).length=_
    unfold bQ
    simp only[List.length_append,List.length_map,List.length_drop,h8]
    omega
   ·show(bQ y (16*t.toNat) s).take (16*(t+1).toNat)=((l.take (t+1).toNat).flatten).map iN
    rw[show(t+1).toNat=t.toNat+1 by omega,h6,List.flatten_append,List.map_append,<- h4]
    unfold bQ
    rw[List.take_append_of_le_length (by simp only[List.length_append,List.length_map,h8];omega)]
    rw[List.take_of_length_le (by simp only[List.length_append,List.length_map,h8];omega)]
    simp [iN]
  ·have et:t.toNat=l.length:=by omega
   rw[decide_eq_false hlt,cond_false]
   rw[et,<- h3,List.take_length,List.take_length]at h4
   rw[h4]
   show chk _ _=_
   rw[F7 _ (Anz _),AmJ]
theorem UF {n:Nat} {g:Nat->Bs} (h: ∀ i,(g i).length=16): ∀ s∈(List.range n).map g,s.length=16:=by
  intro s hs
  obtain⟨i,_,rfl⟩:=List.mem_map.1 hs
  exact h i
def Ap2 (N:Nat) (p0:Bs) (p1:Int) (l:List Bs):Bs:=hS N [[76],p0,b4P p1,l.flatten]
theorem uK {N:Nat} (h:Big N) {p0:Bs} (h0:p0.length<=1000) (p1:Int) {l:List Bs} (hl:l.length<=60) (h16: ∀ s∈l,s.length=16):TE N p0 p1 l=some (Ap2 N p0 p1 l)/\(Ap2 N p0 p1 l).length=16:=by
  have hf:=Acr l h16
  obtain⟨e1,e2⟩:=Acy (N:=N) (l:=[[76],p0,b4P p1,l.flatten]) (hok h (by simp) (by
    simp only[List.all_cons,List.all_nil,hf,Bool.and_true,decide_eq_true h0]
    rw[decide_eq_true (by omega:16*l.length<=1000)]
    simp [b4P]))
  refine⟨?_,e2⟩
  unfold TE
  rw[AgL,CY,join_eq h (by omega) h16,CY,e1]
  rfl
theorem qC (N:Nat) {p0:Bs} (h0:p0.length=16) {p:Int} (h1:0<=p) (h2:p<256):KL N p0 p=some 0:=by
  unfold KL;try simp -zeta only[Ap]
  rw[show((p0.length:Int) != 16)=false by rw[h0];rfl,decide_eq_false (by omega: ¬ p<0),decide_eq_false (by omega: ¬ p>=256)]
  rfl
theorem qE (N:Nat) {p0 p1:Bs} (h0:p0.length=16) (hs:p1.length=32) {p:Int} (h1:0<=p) (h2:p<256):ND N p0 p1 p=some 0:=by
  unfold ND;try simp -zeta only[Ap]
  rw[show((p0.length:Int) != 16)=false by rw[h0];rfl,show((p1.length:Int) != 32)=false by rw[hs];rfl]
  show CW (KL N p0 p) _=_
  rw[qC N h0 h1 h2]
  rfl
theorem Ab8 {N:Nat} (h:Big N) {p0 p1:Bs} (h0:p0.length<=1000) (hs:p1.length<=1000) (p2:Int) (i:Nat):(AiV N p0 p1 p2 i).length=16:=Aou (st_len h h0 p2 i) _ _ _ (RS h hs p2 i).2
def pkP (N:Nat) (p0 p1:Bs) (p2:Int):Bs:=Ap2 N p0 p2 ((List.range 35).map (AiV N p0 p1 p2))
theorem Am4 {N:Nat} (h:Big N) {p0 p1:Bs} (h0:p0.length=16) (hs:p1.length=32) {p2:Int} (h1:0<=p2) (h2:p2<256):X6 N p0 p1 p2=some (pkP N p0 p1 p2,0):=by
  have hn:=h.n
  unfold X6;try simp -zeta only[Ap]
  rw[qE N h0 hs h1 h2]
  show Dq (X:=Int×List Bs) (Y:=List Bs) _ N (0,[]) _=_
  refine(Aa7 35 (AiV N p0 p1 p2) (fun i acc k hi ha=> ?_) (fun acc k ha=> ?_) (by omega)).trans ?_
  ·dsimp only[U2]
   rw[decide_eq_true (by omega:(i:Int)<35),cond_true,(RS h (by omega) p2 i).1,CY,walk_eq h (by omega) p2 i (Int.le_refl 0) (by omega) (Int.le_refl 15) (RS h (by omega) p2 i).2,CY,F7 _ (decide_eq_true (by omega)),w64 (by omega) (by omega)]
   rfl
  ·rfl
  ·rw[(uK h (by omega) p2 (by simp) (UF (Ab8 h (by omega) (by omega) p2))).1]
   rfl
theorem pk_len {N:Nat} (h:Big N) {p0 p1:Bs} (h0:p0.length=16) (hs:p1.length=32) (p2:Int):(pkP N p0 p1 p2).length=16:=(uK h (by omega) p2 (by simp) (UF (Ab8 h (by omega) (by omega) p2))).2
def Dig (l:List Int):Prop:=l.length=35/\ ∀ i,0<=l.getD i 0/\l.getD i 0<=15
theorem AsR (a:Nat) (h:a<256):0<=D9 .and .u8 (a:Int) 15/\D9 .and .u8 (a:Int) 15<=15:=by
  have: ∀ a:Fin 256,0<=D9 .and .u8 ((a.val:Nat):Int) 15/\D9 .and .u8 ((a.val:Nat):Int) 15<=15:=by decide +kernel
  exact this ⟨a,h⟩
theorem Am9 (a:Nat) (h:a<1024):0<=D9 .and .i64 (a:Int) 15/\D9 .and .i64 (a:Int) 15<=15:=by
  have: ∀ a:Fin 1024,0<=D9 .and .i64 ((a.val:Nat):Int) 15/\D9 .and .i64 ((a.val:Nat):Int) 15<=15:=by decide +kernel
  exact this ⟨a,h⟩
theorem Apf {l:List Int} (h: ∀ x∈l,0<=x/\x<=15) (i:Nat):0<=l.getD i 0/\l.getD i 0<=15:=by
  by_cases hi:i<l.length
  ·rw[getD_lt _ _ _ hi];exact h _ (List.getElem_mem hi)
  ·rw[List.getD_eq_getElem?_getD,List.getElem?_eq_none (by omega)];simp
theorem Alo (a b:Nat):(a:Int).fdiv (b:Int)=((a / b:Nat):Int):=by
  rw[Int.fdiv_eq_ediv_of_nonneg _ (Int.natCast_nonneg b)];rfl
theorem Ak5 {N:Nat} (h:Big N) {p:Bs} (hp:p.length=16):Tot (fun r=>r.2=0/\Dig r.1) (Nc N p):=by
  have hn:=h.n
  unfold Nc;try simp -zeta only[Ap]
  rw[show((p.length:Int) != 16)=false by rw[hp];rfl]
  refine Tot.chk (decide_eq_true (by omega)) ?_
  show Tot _ (Dq (X:=Int×Int×List Int×List Int) _ N (0,0,p.map iN,[]) _)
  refine Le (fun x=>0<=x.2.1/\x.2.1<=16/\x.2.2.1=p.map iN/\(x.2.2.2.length:Int)=2*x.2.1/\(∀ d∈x.2.2.2,0<=d/\d<=15)/\0<=x.1/\x.1<=30*x.2.1) (fun x=>(16 - x.2.1).toNat) (Tot _) ?_ N _ ⟨by show(0:Int)<=0;omega,by show(0:Int)<=16;omega,rfl,rfl,(fun _ h=>by cases h),by show(0:Int)<=0;omega,by show(0:Int)<=30*0;omega⟩ (by show((16:Int) - 0).toNat<N;omega)
  rintro ⟨c,t,l,acc⟩ ⟨h1,h2,h3,h4,h5,h6,h7⟩ k hk
  have h1:0<=t:=h1
  have h2:t<=16:=h2
  have h3:l=p.map iN:=h3
  have h4:(acc.length:Int)=2*t:=h4
  have h5: ∀ d∈acc,0<=d/\d<=15:=h5
  have h6:0<=c:=h6
  have h7:c<=30*t:=h7
  dsimp only[U4]
  refine Tot.bif (fun hb=> ?_) fun hb=> ?_
  ·have hb:=of_decide_eq_true hb
   rw[List.length_map,hp]at hb
   have hl:t.toNat<l.length:=by rw[h3,List.length_map];omega
   obtain⟨a,ha,hlt⟩: ∃ a:Nat,l.getD t.toNat 0=(a:Int)/\a<256:=by
     rw[getD_lt _ _ _ hl]
     have hm:l[t.toNat]∈p.map iN:=h3▸List.getElem_mem hl
     obtain⟨b,_,hb⟩:=List.mem_map.1 hm
     exact⟨b.toNat,hb.symm,Aqu b⟩
   obtain⟨q1,q2⟩:=AsR a hlt
   have hd:(a:Int).fdiv 16=((a / 16:Nat):Int):=Alo a 16
   rw[ha,hd]
   generalize D9 .and .u8 (a:Int) 15=y at q1 q2 ⊢
   rw[w64 (x:=((a / 16:Nat):Int)) (by omega) (by omega),w64 (x:=y) (by omega) (by omega),w64 (x:=15 - ((a / 16:Nat):Int)) (by omega) (by omega),w64 (x:=15 - ((a / 16:Nat):Int)+15) (by omega) (by omega),w64 (x:=15 - ((a / 16:Nat):Int)+15 - y) (by omega) (by omega),w64 (x:=t+1) (by omega) (by omega),w64 (by omega) (by omega)]
   refine Tot.chk (decide_eq_true h1) (Tot.chk (decide_eq_true (by omega)) (Tot.chk (decide_eq_true (by omega)) (Tot.chk (decide_eq_true (by omega)) (hk _ ⟨by show 0<=t+1;omega,by show t+1<=16;omega,h3,?_,?_,?_,?_⟩ ?_))))
   ·show((acc++[_,_]).length:Int)=2*(t+1)
    simp;omega
   ·intro d hd
    have hd:d∈acc++[((a / 16:Nat):Int),y]:=hd
    rcases List.mem_append.1 hd with hd | hd
    ·exact h5 d hd
    ·simp only[List.mem_cons,List.not_mem_nil,or_false]at hd
     rcases hd with rfl | rfl<;>omega
   ·show 0<=c+(15 - ((a / 16:Nat):Int)+15 - y)
    omega
   ·show c+(15 - ((a / 16:Nat):Int)+15 - y)<=30*(t+1)
    omega
   ·show(16 - (t+1)).toNat<(16 - t).toNat
    omega
  ·have hb:=of_decide_eq_false hb
   rw[List.length_map,hp]at hb
   dsimp only[U2]
   refine Tot.chk (decide_eq_true (by omega)) (Tot.some ⟨rfl,?_,?_⟩)
   ·show(acc++[_,_,_]).length=35
    simp;omega
   ·obtain⟨n,hn,hn2⟩: ∃ n:Nat,c=(n:Int)/\n<=480:=⟨c.toNat,by omega,by omega⟩
    refine Apf fun x hx=> ?_
    have hx:x∈acc++[c.fdiv 256,D9 .and .i64 (c.fdiv 16) 15,D9 .and .i64 c 15]:=hx
    rcases List.mem_append.1 hx with hx | hx
    ·exact h5 x hx
    ·simp only[List.mem_cons,List.not_mem_nil,or_false]at hx
     subst hn
     have e1:(n:Int).fdiv 256=((n / 256:Nat):Int):=Alo n 256
     have e2:(n:Int).fdiv 16=((n / 16:Nat):Int):=Alo n 16
     rcases hx with rfl | rfl | rfl
     ·rw[e1];omega
     ·rw[e2];exact Am9 _ (by omega)
     ·exact Am9 _ (by omega)
theorem AoK: ∀(l:List Bs) (i:Nat),(∀ s∈l,s.length=16)->i<l.length->Dx l.flatten (16*i) (16*(i+1))=l.getD i []:=by
  intro l
  induction l with
  | nil=>intro i _ h;simp at h
  | cons a r ih =>
    intro i h hi
    have ha:a.length=16:=h a List.mem_cons_self
    cases i with
    | zero =>
      show((a++r.flatten).take (16*(0+1))).drop (16*0)=a
      rw[List.take_append_of_le_length (by omega),List.take_of_length_le (by omega)]
      rfl
    | succ i =>
      have:=ih i (fun s hs=>h s (List.mem_cons_of_mem _ hs)) (by simpa using hi)
      show((a++r.flatten).take (16*(i+1+1))).drop (16*(i+1))=r.getD i []
      rw[<- this]
      rw[show 16*(i+1+1)=a.length+16*(i+1) by omega,List.take_length_add_append,show 16*(i+1)=a.length+16*i by omega,List.drop_length_add_append]
      rw[ha,show 16+16*i=16*(i+1) by omega]
      rfl
def AdR (N:Nat) (d:Bs):List Int:=((Nc N d).getD ([],0)).1
theorem Aft {N:Nat} (h:Big N) {d:Bs} (hd:d.length=16):Nc N d=some (AdR N d,0)/\Dig (AdR N d):=by
  obtain⟨⟨l,e⟩,h1,h2,h3⟩:=Ak5 h hd
  have h2:e=0:=h2
  subst h2
  unfold AdR
  rw[h1]
  exact⟨rfl,h3⟩
def sgP (N:Nat) (p0 p1:Bs) (p2:Int) (d:Bs) (i:Nat):Bs:=wk (st N p0 p2 (i:Int)) 0 ((AdR N d).getD i 0).toNat (Aml N p1 p2 i)
def cZ (N:Nat) (p0 p1:Bs) (p2:Int) (d:Bs):Bs:=((List.range 35).map (sgP N p0 p1 p2 d)).flatten
section
variable {N:Nat} (h:Big N) {p0 p1:Bs} (h0:p0.length=16) (hs:p1.length=32) {p2:Int} (h1:0<=p2) (h2:p2<256) {d:Bs} (hd:d.length=16)
include h h0 hs
theorem xW (p2:Int) (d:Bs) (i:Nat):(sgP N p0 p1 p2 d i).length=16:=Aou (st_len h (by omega) p2 i) _ _ _ (RS h (by omega) p2 i).2
theorem lN (p2:Int) (d:Bs):(cZ N p0 p1 p2 d).length=560:=by
  unfold cZ
  rw[Acr _ (UF (xW h h0 hs p2 d)),List.length_map,List.length_range]
include h1 h2 hd
theorem Aqx:kP N p0 p1 p2 d=some (cZ N p0 p1 p2 d,0):=by
  have hn:=h.n
  obtain⟨e1,e2,e3⟩:=Aft h hd
  unfold kP;try simp -zeta only[Ap]
  rw[qE N h0 hs h1 h2,CY]
  rw[show((0:Int) != 0)=false from rfl,cond_false]
  rw[e1,CY]
  show Dq (X:=Int×List Bs) (Y:=List Bs) _ N (0,[]) _=_
  refine(Aa7 35 (sgP N p0 p1 p2 d) (fun i acc k hi ha=> ?_) (fun acc k ha=> ?_) (by omega)).trans ?_
  ·have e4:=e3 i
   dsimp only[U2]
   rw[decide_eq_true (by omega:(i:Int)<35),cond_true,F7 _ (decide_eq_true (by omega)),F7 _ (decide_eq_true (by omega)),(RS h (by omega) p2 i).1,CY,Int.toNat_natCast,walk_eq h (by omega) p2 i (Int.le_refl 0) e4.1 e4.2 (RS h (by omega) p2 i).2,CY,F7 _ (decide_eq_true (by omega)),w64 (by omega) (by omega),Int.sub_zero]
   rfl
  ·rfl
  ·rw[join_eq h (by simp) (UF (xW h h0 hs p2 d))]
   rfl
theorem Ak7:Vj N p0 p2 d (cZ N p0 p1 p2 d)=some (pkP N p0 p1 p2,0):=by
  have hn:=h.n
  obtain⟨e1,e2,e3⟩:=Aft h hd
  have hsl:=lN h h0 hs p2 d
  unfold Vj;try simp -zeta only[Ap]
  rw[qC N h0 h1 h2,CY]
  rw[show((0:Int) != 0)=false from rfl,cond_false]
  rw[e1,CY]
  show(bif (((cZ N p0 p1 p2 d).length:Int) != 560)then _ else _)=_
  rw[show(((cZ N p0 p1 p2 d).length:Int) != 560)=false by rw[hsl];rfl,cond_false]
  refine(Aa7 35 (AiV N p0 p1 p2) (fun i acc k hi ha=> ?_) (fun acc k ha=> ?_) (by omega)).trans ?_
  ·have e4:=e3 i
   have hc:Dx (cZ N p0 p1 p2 d) (16*i) (16*(i+1))=sgP N p0 p1 p2 d i:=by
     unfold cZ
     rw[AoK _ _ (UF (xW h h0 hs p2 d)) (by simpa using hi),getD_lt _ _ _ (by simpa using hi)]
     simp
   dsimp only[U2]
   rw[decide_eq_true (by omega:(i:Int)<35),cond_true,w64 (x:=(i:Int)*16) (by omega) (by omega),w64 (x:=(i:Int)+1) (by omega) (by omega),w64 (by omega) (by omega)]
   rw[F7 _ (decide_eq_true (by omega)),F7 _ (decide_eq_true (by omega)),F7 _ (decide_eq_true (by omega)),F7 _ (decide_eq_true (by omega)),F7 _ (decide_eq_true (by omega)),show((i:Int)*16).toNat=16*i by omega,show(((i:Int)+1)*16).toNat=16*(i+1) by omega,hc,Int.toNat_natCast,walk_eq h (by omega) p2 i e4.1 e4.2 (Int.le_refl 15) (xW h h0 hs p2 d i),CY,F7 _ (decide_eq_true (by omega))]
   congr 3
   congr 1
   unfold sgP AiV
   rw[show(15:Nat)=((AdR N d).getD i 0).toNat+(15 - (AdR N d).getD i 0).toNat by omega,AsN]
   congr 1
   omega
  ·rfl
  ·rw[(uK h (by omega) p2 (by simp) (UF (Ab8 h (by omega) (by omega) p2))).1]
   rfl
end
end Go.Proofs.YtbaomhegdndpnaaGreatDoor.Pl
namespace Go.Proofs.YtbaomhegdndpnaaGreatDoor.Pl
open IntKind (i64)
open Go Vm
set_option linter.unusedSectionVars false
theorem ne_nil {s:Bs} (h:0<s.length):(s==([]:Bs))=false:=by cases s with | nil=>simp at h | cons a r=>rfl
def idP (N:Nat) (sd:Bs):Bs:=hS N [[73],sd]
def lY (N:Nat) (sd:Bs):Yq8:=([],sd,idP N sd,0)
def bH (N:Nat) (sd:Bs):Bs:=pkP N (idP N sd) sd 0
def Vt (N:Nat) (sd:Bs):Yq8:=([[bH N sd]],sd,idP N sd,0)
def AiL (N:Nat) (sd:Bs):Yq9:=(sd,0,0,[lY N sd])
def AiM (N:Nat) (sd:Bs):Yq9:=(sd,0,1,[Vt N sd])
def uJ (N:Nat) (sd:Bs):Int×Bs×Bs:=(0,idP N sd,bH N sd)
def AaE (N:Nat) (sd m:Bs):Bs:=hS N [[77],idP N sd,bH N sd,b4P 0,m]
def Ud (N:Nat) (sd m:Bs):Bs:=b4P 0++cZ N (idP N sd) sd 0 (AaE N sd m)
section
variable {N:Nat} (h:Big N) {sd:Bs} (hs:sd.length=32)
include h hs
theorem id_eq:FZ N [[73],sd]=some (idP N sd)/\(idP N sd).length=16:=Acy (hok h (by simp) (by simp [hs]))
theorem Akp:(bH N sd).length=16:=pk_len h (id_eq h hs).2 hs 0
theorem Ajc:Oi N sd 0=some (.inl (lY N sd,0)):=by
  unfold Oi;try simp -zeta only[Ap]
  rw[show((sd.length:Int) != 32)=false by rw[hs];rfl,cond_false,(id_eq h hs).1]
  rfl
theorem pG (l:List (List Bs)) (k:Bs):FI N (l,sd,k,0)=some (1,(l,sd,k,0)):=by
  unfold FI Gz;try simp -zeta only[Ap]
  rw[CY,ne_nil (by rw[hs];decide)]
  rfl
theorem Ary:Ue N sd 0=some (.inl (AiL N sd,0)):=by
  have e:=pG h hs [] (idP N sd)
  unfold Ue wB;try simp -zeta only[Ap]
  rw[Ajc h hs,KR]
  unfold lY
  dsimp only
  rw[e]
  rfl
theorem AsW:Ho N (lY N sd)=some (Vt N sd):=by
  obtain⟨M,rfl⟩: ∃ M,N=M+10:=⟨N - 10,by have:=h.n;omega⟩
  unfold Ho;try simp -zeta only[Ap]
  have e:=Am4 h (id_eq h hs).2 hs (Int.le_refl 0) (by omega:(0:Int)<256)
  unfold lY
  rw[XL]
  dsimp only[U6]
  rw[e]
  rfl
theorem AsX:Ho N (Vt N sd)=some (Vt N sd):=rfl
theorem Am3 (t:Yq8) (ht:Ho N t=some (Vt N sd)) (hv:t.2.1=sd):Lh N t=some (uJ N sd,Vt N sd):=by
  unfold Lh Gz
  rw[CY,hv,ne_nil (by rw[hs];decide)]
  dsimp only
  rw[Bool.not_false,Bool.not_true,cond_false,ht]
  rfl
theorem AmT {m:Bs} (hm:m.length+64<N):KJ N (uJ N sd) 0 m=some (AaE N sd m)/\(AaE N sd m).length=16:=by
  have hn:=h.n
  obtain⟨e1,e2⟩:=Acy (N:=N) (l:=[[77],idP N sd,bH N sd,b4P 0,m]) ⟨by omega,h.m,by simp;omega,fun s hs'=>by
    have i1:=(id_eq h hs).2
    have i2:=Akp h hs
    simp only[List.mem_cons,List.not_mem_nil,or_false]at hs'
    rcases hs' with rfl | rfl | rfl | rfl | rfl
    ·simp;omega
    ·omega
    ·omega
    ·simp [b4P];omega
    ·exact hm⟩
  refine⟨?_,e2⟩
  unfold KJ
  rw[AnD,CY]
  show CW (FZ N [[77],idP N sd,bH N sd,b4P 0,m]) _=_
  rw[e1]
  rfl
theorem Ao2 {m:Bs} (hm:m.length+64<N) (l:List (List Bs)) (ht:Ho N (l,sd,idP N sd,0)=some (Vt N sd)):MX N (l,sd,idP N sd,0) 0 m=some (Ud N sd m,0,Vt N sd):=by
  have hn:=h.n
  have e1:=pG h hs l (idP N sd)
  have e2:=Am3 h hs (l,sd,idP N sd,0) ht rfl
  obtain⟨e3,e4⟩:=AmT h hs hm
  have e5:=Aqx h (id_eq h hs).2 hs (Int.le_refl 0) (by omega) e4
  have hl:=lN h (id_eq h hs).2 hs 0 (AaE N sd m)
  unfold MX Gz;try simp -zeta only[Ap]
  rw[CY,ne_nil (by rw[hs];decide)]
  dsimp only
  rw[e1]
  simp (decide:=true) only[Bool.not_false,Bool.not_true,cond_false,cond_true,Option.isSome_some,Bool.true_or,Bool.or_true,EW,Option.getD_some,Int.lt_irrefl,decide_false]
  rw[e2,CY]
  dsimp only[Vt]
  rw[beq_self_eq_true,beq_self_eq_true,EW,EW]
  refine(F7 _ rfl).trans ?_
  rw[e3,CY,e5,CY]
  dsimp only
  rw[show((0:Int) != 0)=false from rfl,cond_false,AnD,CY,F7 _ (decide_eq_true (by rw[hl];simp [b4P]))]
  obtain⟨M,rfl⟩: ∃ M,N=M+10:=⟨N - 10,by omega⟩
  rfl
theorem Aoz {m:Bs} (hm:m.length+64<N):Jb N (AiL N sd) m=some (Ud N sd m,0,AiM N sd):=by
  have e1:=pG h hs [] (idP N sd)
  have e2:=Ao2 h hs hm [] (AsW h hs)
  unfold Jb Pg Hw
  dsimp only[AiL,lY,CY,List.headD_cons]
  rw[ne_nil (by rw[hs];decide),Bool.false_and,cond_false,cond_false,e1,CY]
  dsimp only
  rw[show(i64.wrap (1 - 0))=1 from rfl,CY]
  dsimp only
  rw[show((1:Int)==0)=false from rfl,cond_false,List.headD_cons,e2,CY]
  rfl
theorem Aqw:J4 N (AiM N sd)=some (uJ N sd,AiM N sd):=by
  have e:=Am3 h hs (Vt N sd) (AsX h hs) rfl
  unfold J4 Hw;try simp -zeta only[Ap]
  dsimp only[AiM,List.headD_cons]
  rw[ne_nil (by rw[hs];decide),Bool.false_and,CY]
  dsimp only
  rw[cond_false,List.headD_cons,e,CY]
  dsimp only
  rw[beq_self_eq_true,beq_self_eq_true,EW,EW]
  rfl
theorem Ak6 {m:Bs} (hm:m.length+64<N):QM N (uJ N sd) m (Ud N sd m)=some 0:=by
  have hn:=h.n
  obtain⟨e3,e4⟩:=AmT h hs hm
  have e5:=Ak7 h (id_eq h hs).2 hs (Int.le_refl 0) (by omega) e4
  have hl:=lN h (id_eq h hs).2 hs 0 (AaE N sd m)
  have hk:=Akp h hs
  have hi:=(id_eq h hs).2
  have h4:(b4P 0).length=4:=rfl
  have hc:Ti N (uJ N sd)=some 0:=by
    unfold Ti uJ;try simp -zeta only[Ap]
    try dsimp only
    rw[show((List.length (idP N sd):Int) != 16)=false by rw[hi];rfl,show((List.length (bH N sd):Int) != 16)=false by rw[hk];rfl]
    rfl
  have hsl:(Ud N sd m).length=564:=by unfold Ud;rw[List.length_append,hl,h4]
  have c1:Dx (Ud N sd m) 0 4=b4P 0:=by
    unfold Dx Ud
    rw[List.take_append_of_le_length (by omega)];rfl
  have c2:Dx (Ud N sd m) 4 564=cZ N (idP N sd) sd 0 (AaE N sd m):=by
    unfold Dx
    rw[List.take_of_length_le (by omega)]
    unfold Ud
    exact List.drop_left' h4
  have hf:Vg N (Ud N sd m)=some (0,true):=by
    unfold Vg;try simp -zeta only[Ap]
    rw[c1,hsl]
    obtain⟨M,rfl⟩: ∃ M,N=M+10:=⟨N - 10,by omega⟩
    rfl
  unfold QM;try simp -zeta only[Ap]
  rw[hc,CY,show((0:Int) != 0)=false from rfl,cond_false,hsl,hf,CY]
  dsimp only[uJ]
  rw[show((((564:Nat):Int)) != i64.wrap (564+i64.wrap (0*16)))=false from rfl,cond_false]
  refine(F7 _ rfl).trans ?_
  rw[decide_eq_false (by decide: ¬(0:Int)>=i64.wrap (1*2 ^ min (IntKind.u64.wrap 0).toNat 64)),cond_false]
  have e3':KJ N (0,idP N sd,bH N sd) 0 m=_:=e3
  rw[e3',CY]
  refine(F7 _ rfl).trans ?_
  rw[c2,e5,CY]
  dsimp only
  rw[show((0:Int) != 0)=false from rfl,cond_false]
  refine(F7 _ rfl).trans ?_
  obtain⟨M,rfl⟩: ∃ M,N=M+10:=⟨N - 10,by omega⟩
  rw[XL]
  dsimp only[U6,U4]
  rw[decide_eq_false (by decide: ¬(0:Int)<0),cond_false]
  show(bif !(bH (M+10) sd==bH (M+10) sd)then _ else _)=_
  rw[beq_self_eq_true]
  rfl
end
end Go.Proofs.YtbaomhegdndpnaaGreatDoor.Pl
namespace Go.Proofs.YtbaomhegdndpnaaGreatDoor.Pl
open IntKind (i64)
open Go Vm
def N0:Nat:=2097152
theorem Ahs:Big N0:=⟨by decide,by decide⟩
def au0:List Yq0:=(Ef N0 0).getD []
theorem Ar8:Ef N0 0=some au0:=by kernel_rfl
def liA:Yq4:=(([]:Bs),([]:Bs),au0,0,0,1,(-1),([]:Bs),false,([]:List Yq2),false,false,0,false,([]:List Yq3),([(7,0,6,(-1),au0)]:List Yq1),([]:Bs))
def YZ:Bs:=((Ux N0 liA).getD default).1
theorem Aro:Ux N0 liA=some (YZ,0):=by kernel_rfl
theorem ApN:(decide (YZ.length<=1000))=true:=by kernel_rfl
def sgF (f:Nat->UInt8):Bs:=(List.range 564).map f
def outA (f:Nat->UInt8):Bs:=((iT N0 YZ (sgF f)).getD default).1
theorem Arc (f:Nat->UInt8):iT N0 YZ (sgF f)=some (outA f,0):=by kernel_rfl
def AaD (f:Nat->UInt8):Yq4:=((KX N0 (outA f)).getD default).1
theorem Aq4 (f:Nat->UInt8):KX N0 (outA f)=some (AaD f,0):=by kernel_rfl
theorem AoM (f:Nat->UInt8):(AaD f).2.1=YZ:=by kernel_rfl
theorem AoN (f:Nat->UInt8):(AaD f).2.2.2.2.2.2.2.2.2.2.2.2.2.2.2.2=sgF f:=by kernel_rfl
def au8:List Yq0:=(Ef N0 8).getD []
theorem Ar9:Ef N0 8=some au8:=by kernel_rfl
def jH (f:Nat->UInt8):Yq1:=((O6 N0 (AaD f) au8 7).getD default).1
theorem AqD (f:Nat->UInt8):O6 N0 (AaD f) au8 7=some (jH f,true):=by kernel_rfl
theorem ArJ (f:Nat->UInt8):(jH f).2.2.1=6:=by kernel_rfl
theorem Ats:P5 N0 9=some 128:=by kernel_rfl
def sd1:Bs:=(V9 N0 1).getD []
theorem Asz:V9 N0 1=some sd1:=by kernel_rfl
theorem iG:sd1.length=32:=by kernel_rfl
theorem As1 {l:Bs} (h:l.length=564):sgF (fun i=>l.getD i 0)=l:=by
  unfold sgF
  rw[<- h]
  apply List.ext_getElem
  ·simp
  ·intro i h1 h2
   simp [List.getD_eq_getElem?_getD,h2]
theorem ApG {N:Nat} (h:Big N) {sd:Bs} (hs:sd.length=32) (m:Bs):(Ud N sd m).length=564:=by
  unfold Ud
  rw[List.length_append,lN h (id_eq h hs).2 hs 0 (AaE N sd m)];rfl
def fA:Nat->UInt8:=fun i=>(Ud N0 sd1 YZ).getD i 0
theorem Aqh:sgF fA=Ud N0 sd1 YZ:=As1 (ApG Ahs iG YZ)
theorem Akz:YZ.length+64<N0:=by have:=of_decide_eq_true ApN;show _<2097152;omega
attribute [irreducible] N0 au0 YZ outA AaD au8 jH sd1
theorem Aox:Vz N0 liA (AiL N0 sd1)=some (outA fA,0,AiM N0 sd1):=by
  have e1:=Aoz Ahs iG Akz
  have e2:=Arc fA
  rw[Aqh]at e2
  unfold Vz
  rw[Aro,CY]
  dsimp only
  rw[show((0:Int) != 0)=false from rfl,cond_false]
  have e1':Jb N0 (sd1,0,0,[lY N0 sd1]) YZ=_:=e1
  dsimp only[AiL,List.headD_cons]
  rw[e1',CY]
  dsimp only
  rw[show((0:Int) != 0)=false from rfl,cond_false,e2,CY]
  rfl
theorem Am6:Su N0 (AaD fA) (uJ N0 sd1)=some 0:=by
  unfold Su
  rw[AoM,AoN,Aqh,Ak6 Ahs iG Akz]
  rfl
theorem AmB {N:Nat} {sd out:Bs} {au au':List Yq0} {t0 t1:Yq8} {dec:Yq4} {fin:Yq1} {k:Int×Bs×Bs} (h1:V9 N 1=some sd) (h2:Ue N sd 0=some (.inl ((sd,0,0,[t0]),0))) (h3:Ef N 0=some au)
    (h4:Vz N (([]:Bs),([]:Bs),au,0,0,1,(-1),([]:Bs),false,([]:List Yq2),false,false,0,false,([]:List Yq3),([(7,0,6,(-1),au)]:List Yq1),([]:Bs)) (sd,0,0,[t0])=some (out,0,(sd,0,1,[t1])))
    (h5:KX N out=some (dec,0)) (h6:Ef N 8=some au') (h7:O6 N dec au' 7=some (fin,true)) (h8:J4 N (sd,0,1,[t1])=some (k,(sd,0,1,[t1]))) (h9:Su N dec k=some 0) (h10:fin.2.2.1=6) (h11:P5 N 9=some 128):NM N=some true:=by
  unfold NM;try simp -zeta only[Ap]
  rw[h1,CY,h2,KR]
  dsimp only
  simp (decide:=true) only[cond_true,cond_false,EW,Bool.not_true,Bool.not_false,Bool.or_true,Bool.true_or,bne_self_eq_false]
  rw[h3,CY,CY]
  dsimp only[List.headD_cons]
  rw[h4,CY]
  dsimp only
  rw[h5,CY,h6,CY]
  dsimp only
  rw[h7,CY]
  dsimp only[List.headD_cons]
  simp (decide:=true) only[cond_true,cond_false,EW,Aew,beq_self_eq_true]
  rw[h8,CY]
  dsimp only
  rw[h9,CY,h10,h11]
  rfl
theorem Ao7:NM N0=some true:=AmB Asz (Ary Ahs iG) Ar8 Aox (Aq4 fA) Ar9 (AqD fA) (Aqw Ahs iG) Am6 (ArJ fA) Ats
theorem Aom {N:Nat} (hN:1048578<N) {x:Li} (h:OkL x):Oh N (x.y [] [] [])=some (XD (Gi x) vZ):=by
  have h1:=As0 hN h (sig:=vZ) (by decide)
  unfold vZ at h1
  unfold Oh
  rw[AsQ hN h,CY]
  dsimp only
  rw[h1];rfl
theorem ArR {x:Li} (h:OkL x) {j s:Nat}:((List.range (esK x).length).find? fun i=>Mc (j+8) (s:Int) ((esK x).getD i zE))=((List.range x.es.length).find? fun i=>Mc j (s:Int) (x.es.getD i zE)):=by
  rw[XJ]
  have key: ∀ l:List Nat,(∀ i∈l,i<x.es.length)->(l.find? fun i=>Mc (j+8) (s:Int) ((esK x).getD i zE))=(l.find? fun i=>Mc j (s:Int) (x.es.getD i zE)):=by
    intro l
    induction l with
    | nil=>intro _;rfl
    | cons a l ih =>
      intro hl
      have ha:=hl a List.mem_cons_self
      have e:Mc (j+8) (s:Int) ((esK x).getD a zE)=Mc j (s:Int) (x.es.getD a zE):=by
        rw[Yn ha]
        unfold Mc
        rw[xH h ha,Nat.add_mod_right];rfl
      rw[List.find?_cons,List.find?_cons,e,ih fun i hi=>hl i (List.mem_cons_of_mem _ hi)]
  exact key _ fun i hi=>List.mem_range.1 hi
theorem Ajt {N:Nat} (hN:1048578<N) (haw:NM N=some true) (L:List Int) (hL:L.length<=9223372036854775807):IJ N L=some true:=by
  obtain⟨⟨X,d⟩,e1,⟨x,h,hX⟩,_⟩:=AqV N hN hL (d:=(L,0)) ⟨0,rfl,Nat.zero_le _⟩
  dsimp only at hX
  have e0:AaT N L=some (L,0):=rfl
  have e2:=Aom hN h
  rw[<- hX]at e2
  have hs:vZ.length<=60000:=by decide
  have e3:=decode_ok hN h hs (AlG hN (AgY h hN) _ _ _)
  have hXe:X.2.2.2.2.2.2.2.2.2.2.2.2.2.2.2.1=x.es.map enY:=by rw[hX];rfl
  have hYe:((liK x).y (XD (Gi x) vZ) (Gi x) vZ).2.2.2.2.2.2.2.2.2.2.2.2.2.2.2.1=(esK x).map enY:=rfl
  generalize (liK x).y (XD (Gi x) vZ) (Gi x) vZ=Y at e3 hYe
  unfold IJ
  try simp only[clR]
  rw[e0,CY,e1,CY]
  dsimp only
  rw[e2,CY,e3,CY]
  dsimp only
  have hne:(((Y.2.2.2.2.2.2.2.2.2.2.2.2.2.2.2.1).length:Int) != ((X.2.2.2.2.2.2.2.2.2.2.2.2.2.2.2.1).length:Int))=false:=by
    rw[hXe,hYe,List.length_map,List.length_map,XJ,bne_self_eq_false]
  rw[hne]
  simp only[bne_self_eq_false,Bool.or_self,Bool.or_false,Bool.not_false,Bool.not_true,Bool.or_true,Bool.true_or,EW,cond_false,cond_true]
  have hk1:=fun e he=>(h.all e he).k
  have hk2:=fun e he=>((AgY h hN).all e he).k
  have hl1:=h.len
  have hl2:=(AgY h hN).len
  refine(Fp (fun i=>(((i+1:Nat):Int),X.1,X.2.1,X.2.2.1,X.2.2.2.1,X.2.2.2.2.1,X.2.2.2.2.2.1,X.2.2.2.2.2.2.1,X.2.2.2.2.2.2.2.1,X.2.2.2.2.2.2.2.2.1,X.2.2.2.2.2.2.2.2.2.1,X.2.2.2.2.2.2.2.2.2.2.1,X.2.2.2.2.2.2.2.2.2.2.2.1,X.2.2.2.2.2.2.2.2.2.2.2.2.1,X.2.2.2.2.2.2.2.2.2.2.2.2.2.1,X.2.2.2.2.2.2.2.2.2.2.2.2.2.2.1,X.2.2.2.2.2.2.2.2.2.2.2.2.2.2.2.1,X.2.2.2.2.2.2.2.2.2.2.2.2.2.2.2.2,Y.1,Y.2.1,Y.2.2.1,Y.2.2.2.1,Y.2.2.2.2.1,Y.2.2.2.2.2.1,Y.2.2.2.2.2.2.1,Y.2.2.2.2.2.2.2.1,Y.2.2.2.2.2.2.2.2.1,Y.2.2.2.2.2.2.2.2.2.1,Y.2.2.2.2.2.2.2.2.2.2.1,Y.2.2.2.2.2.2.2.2.2.2.2.1,Y.2.2.2.2.2.2.2.2.2.2.2.2.1,Y.2.2.2.2.2.2.2.2.2.2.2.2.2.1,Y.2.2.2.2.2.2.2.2.2.2.2.2.2.2.1,Y.2.2.2.2.2.2.2.2.2.2.2.2.2.2.2.1,Y.2.2.2.2.2.2.2.2.2.2.2.2.2.2.2.2)) 9 (some true) ?_ ?_ N (by omega))
  ·intro i hi k
   dsimp only[U35]
   rw[Ob (by omega),cond_true]
   refine(Fp (fun j=>((j:Int),X.1,X.2.1,X.2.2.1,X.2.2.2.1,X.2.2.2.2.1,X.2.2.2.2.2.1,X.2.2.2.2.2.2.1,X.2.2.2.2.2.2.2.1,X.2.2.2.2.2.2.2.2.1,X.2.2.2.2.2.2.2.2.2.1,X.2.2.2.2.2.2.2.2.2.2.1,X.2.2.2.2.2.2.2.2.2.2.2.1,X.2.2.2.2.2.2.2.2.2.2.2.2.1,X.2.2.2.2.2.2.2.2.2.2.2.2.2.1,X.2.2.2.2.2.2.2.2.2.2.2.2.2.2.1,X.2.2.2.2.2.2.2.2.2.2.2.2.2.2.2.1,X.2.2.2.2.2.2.2.2.2.2.2.2.2.2.2.2,Y.1,Y.2.1,Y.2.2.1,Y.2.2.2.1,Y.2.2.2.2.1,Y.2.2.2.2.2.1,Y.2.2.2.2.2.2.1,Y.2.2.2.2.2.2.2.1,Y.2.2.2.2.2.2.2.2.1,Y.2.2.2.2.2.2.2.2.2.1,Y.2.2.2.2.2.2.2.2.2.2.1,Y.2.2.2.2.2.2.2.2.2.2.2.1,Y.2.2.2.2.2.2.2.2.2.2.2.2.1,Y.2.2.2.2.2.2.2.2.2.2.2.2.2.1,Y.2.2.2.2.2.2.2.2.2.2.2.2.2.2.1,Y.2.2.2.2.2.2.2.2.2.2.2.2.2.2.2.1,Y.2.2.2.2.2.2.2.2.2.2.2.2.2.2.2.2)) 8 (k (((i+1+1:Nat):Int),X.1,X.2.1,X.2.2.1,X.2.2.2.1,X.2.2.2.2.1,X.2.2.2.2.2.1,X.2.2.2.2.2.2.1,X.2.2.2.2.2.2.2.1,X.2.2.2.2.2.2.2.2.1,X.2.2.2.2.2.2.2.2.2.1,X.2.2.2.2.2.2.2.2.2.2.1,X.2.2.2.2.2.2.2.2.2.2.2.1,X.2.2.2.2.2.2.2.2.2.2.2.2.1,X.2.2.2.2.2.2.2.2.2.2.2.2.2.1,X.2.2.2.2.2.2.2.2.2.2.2.2.2.2.1,X.2.2.2.2.2.2.2.2.2.2.2.2.2.2.2.1,X.2.2.2.2.2.2.2.2.2.2.2.2.2.2.2.2,Y.1,Y.2.1,Y.2.2.1,Y.2.2.2.1,Y.2.2.2.2.1,Y.2.2.2.2.2.1,Y.2.2.2.2.2.2.1,Y.2.2.2.2.2.2.2.1,Y.2.2.2.2.2.2.2.2.1,Y.2.2.2.2.2.2.2.2.2.1,Y.2.2.2.2.2.2.2.2.2.2.1,Y.2.2.2.2.2.2.2.2.2.2.2.1,Y.2.2.2.2.2.2.2.2.2.2.2.2.1,Y.2.2.2.2.2.2.2.2.2.2.2.2.2.1,Y.2.2.2.2.2.2.2.2.2.2.2.2.2.2.1,Y.2.2.2.2.2.2.2.2.2.2.2.2.2.2.2.1,Y.2.2.2.2.2.2.2.2.2.2.2.2.2.2.2.2)) ?_ ?_ N (by omega))
   ·intro j hj k'
    have a1:=(GL hN (show j<16 by omega)).made
    have a2:Ef N (i64.wrap ((j:Int)+8))=some (aut (j+8)):=by
      rw[w64 (by omega) (by omega)]
      exact(GL hN (show j+8<16 by omega)).made
    have f1:=find_ok hN hk2 (by show(esK x).length<=100;exact Nat.le_trans hl2 (by decide)) (show j+8<16 by omega) ((i+1:Nat):Int) (y:=Y) hYe
    have f2:=AiH hN hk1 (by omega) (show j<16 by omega) ((i+1:Nat):Int) (y:=X) hXe
    have hh:=ArR h (j:=j) (s:=i+1)
    rw[show(liK x).es=esK x from rfl,hh]at f1
    dsimp only[U35]
    rw[Ob (by omega),cond_true,a2,CY]
    refine(congrArg (fun o=>CW o _) f1).trans ?_
    rw[CY,a1,CY]
    refine(congrArg (fun o=>CW o _) f2).trans ?_
    rw[CY]
    cases hf:(List.range x.es.length).find? fun i'=>Mc j ((i+1:Nat):Int) (x.es.getD i' zE)with
    | none =>
      simp (disch:=first | assumption | omega) only[D8,beq_self_eq_true,bne_self_eq_false,Em]
      try rfl
    | some i' =>
      have hi':i'<x.es.length:=List.mem_range.1 (List.mem_of_find?_eq_some hf)
      have g1:(enY ((esK x).getD i' zE)).2.2.1=(enY (x.es.getD i' zE)).2.2.1:=by rw[Yn hi',AoT,AoT];rfl
      have g2:(enY ((esK x).getD i' zE)).2.1=(enY (x.es.getD i' zE)).2.1:=by rw[Yn hi',Ah8,Ah8];rfl
      dsimp only
      generalize enY ((esK x).getD i' zE)=E2 at g1 g2 ⊢
      generalize enY (x.es.getD i' zE)=E1 at g1 g2 ⊢
      rw[g1,g2]
      simp (disch:=first | assumption | omega) only[D8,beq_self_eq_true,bne_self_eq_false,Em]
      try rfl
   ·intro k'
    dsimp only[U35]
    rw[SH (by omega),cond_false]
    dsimp only[U34]
    rw[w64 (by omega) (by omega)]
    rfl
  ·intro k
   dsimp only[U35]
   rw[SH (by omega),cond_false,haw]
   rfl
theorem Aju (L:List Int) (hL:L.length<=9223372036854775807):IJ 2097152 L=some true:=by
  have h:=Ao7
  unfold N0 at h
  exact Ajt (by decide) h L hL
end Go.Proofs.YtbaomhegdndpnaaGreatDoor.Pl
namespace Go.Proofs.YtbaomhegdndpnaaGreatDoor.Vm
open Go.RowKit
theorem Moves.below {T:Nat->Prop} {w w':World} (h:Moves (fun _ _=>none) T w w'):Below w.heap.size w w' :=
  ⟨h.os,h.tape,h.output,h.size,fun b hb=>by
    rcases h.blk b hb with e | ⟨c,c',e,fr,_,_,_,_,k,o,_,ho,_⟩ | ⟨_,_,_,_,o,_,_,ho,_⟩
    ·exact e
    ·cases ho
    ·cases ho⟩
theorem Sig.Aty {Dk D6:List Sh} {f:ShT Dk->Option (ShT (FV Dk D6))} {xs:List A} {a:ShT Dk} {o:ShT (FV Dk D6)} (hd:U0 Dk xs=some a) (hf:f a=some o):(Sig.of Dk D6 f).F xs=some (encs (FV Dk D6) o):=by
  unfold Sig.F Sig.of
  dsimp only
  rw[hd]
  dsimp only
  rw[hf]
  rfl
theorem An6 {P:Program} {f:FuncId} {sg:Sig} (h:Spec P f sg) {xs:List A} {vs:Array Value} {W:World} (hF:sg.F xs=some [.bool true]) (hress:sg.D6=[.cell false .bool]) (hv:vs.size=xs.length) (hl:xs.length=sg.Dk.length) (h100:xs.length<=100)
    (hx: ∀ j,j<xs.length->IR (fun _ _=>none) W (256*j) (vs.getD j undef) (xs.getD j .undef)) (hI:Inv (fun _ _=>none) W):Calls P f vs W fun e w'=>e= .returned (.bool true)/\Below W.heap.size W w':=by
  refine(h.2 (fun _ _=>none) W vs xs _ hI hv hl h100 hx hF).mono fun e w' hq=> ?_
  obtain⟨v,O',he,hc⟩:=hq
  obtain⟨us,h1,h2,h3⟩:=hc.res
  rw[hress]at h1
  have h1':us.size=1:=h1
  have h4:Dt O' w' (us.getD 0 undef) (.bool true):=h3 0 (by omega)
  have h5:us.getD 0 undef= .bool true:=by
    generalize us.getD 0 undef=z at h4
    cases h4;rfl
  have h6:v= .bool true:=by
    rw[h2,dif_pos h1',<- h5]
    simp [Array.getD_eq_getD_getElem?,h1']
  exact⟨by rw[he,h6],hc.moves.below⟩
open Go.ChangeShapes Go.WideShapes
def nobody:Own:=fun _ _=>none
def Apx:A->Prop
  | .int k n=>k.min<=n/\n<=k.max
  | .str s=>s.length<=9223372036854775807
  | _=>True
def okN:Nat->A->Prop
  | 0,_=>False
  | n+1,.sl l=>l.xs.length<=9223372036854775807/\ ∀ c∈l.es,∀ a∈c,okN n a
  | _+1,a=>Apx a
structure Opened (n:Nat) (w:World) (ks:List CK) (cs:List Value) (aa:List A):Prop where
  lc:cs.length=ks.length
  la:aa.length=ks.length
  rel: ∀ j,j<ks.length->Dt nobody w (cs.getD j undef) (aa.getD j .undef)
  made:((tyl ks).mk aa).1=true
  ok: ∀ a∈aa,okN n a
theorem Asf: ∀(n:Nat) (a:A),okN n a->okN (n+1) a:=by
  intro n
  induction n with
  | zero=>intro a h;exact h.elim
  | succ n ih =>
    intro a h
    cases a<;>first | exact h | exact⟨h.1,fun c hc z hz=>ih z (h.2 c hc z hz)⟩
theorem Opened.up {n:Nat} {w:World} {ks:List CK} {cs:List Value} {aa:List A} (h:Opened n w ks cs aa):Opened (n+1) w ks cs aa:=⟨h.lc,h.la,h.rel,h.made,fun a ha=>Asf n a (h.ok a ha)⟩
theorem AnF: ∀(a:List CK) {b:List CK} {x y:List A},((tyl a).mk x).1=true->((tyl b).mk y).1=true->((tyl (a++b)).mk (x++y)).1=true:=by
  intro a
  induction a with
  | nil =>
    intro b x y hx hy
    cases x with
    | nil=>exact hy
    | cons _ _=>cases hx
  | cons k a ih =>
    intro b x y hx hy
    cases k with
    | bool =>
      cases x with
      | nil=>cases hx
      | cons c x=>cases c<;>first | exact ih (x:=x) hx hy | cases hx
    | int k =>
      cases x with
      | nil=>cases hx
      | cons c x =>
        cases c<;>first
          | (simp only[tyl,Ty.mk,Bool.and_eq_true]at hx
             simp only[List.cons_append,tyl,Ty.mk,Bool.and_eq_true]
             exact⟨hx.1,ih hx.2 hy⟩)
          | cases hx
    | str =>
      cases x with
      | nil=>cases hx
      | cons c x=>cases c<;>first | exact ih (x:=x) hx hy | cases hx
    | sl e t =>
      cases x with
      | nil=>cases hx
      | cons c x =>
        cases c with
        | sl l =>
          simp only[tyl,Ty.mk]at hx
          simp only[List.cons_append,tyl,Ty.mk]
          cases hc:l.cast t with
          | none=>rw[hc]at hx;cases hx
          | some xs=>rw[hc]at hx;exact ih (x:=x) hx hy
        | _=>cases hx
    | sln e t =>
      cases x with
      | nil=>cases hx
      | cons c x =>
        cases c with
        | sl l =>
          simp only[tyl,Ty.mk]at hx
          simp only[List.cons_append,tyl,Ty.mk]
          cases hc:l.cast t with
          | none=>rw[hc]at hx;cases hx
          | some xs=>rw[hc]at hx;exact ih (x:=x) hx hy
        | _=>cases hx
    | ptr =>
      cases x with
      | nil=>cases hx
      | cons c x=>cases c<;>first | exact ih (x:=x) hx hy | cases hx
    | fn =>
      cases x with
      | nil=>cases hx
      | cons c x=>cases c<;>first | exact ih (x:=x) hx hy | cases hx
    | mp kt vt =>
      cases x with
      | nil=>cases hx
      | cons c x =>
        cases c with
        | ump l =>
          simp only[tyl,Ty.mk]at hx
          simp only[List.cons_append,tyl,Ty.mk]
          cases hc:l.cast kt vt with
          | none=>rw[hc]at hx;cases hx
          | some xs=>rw[hc]at hx;exact ih (x:=x) hx hy
        | _=>cases hx
    | bx t =>
      cases x with
      | nil=>cases hx
      | cons c x =>
        cases c with
        | sl l =>
          simp only[tyl,Ty.mk]at hx
          simp only[List.cons_append,tyl,Ty.mk]
          cases hc:l.cast t with
          | none=>rw[hc]at hx;cases hx
          | some xs=>rw[hc]at hx;exact ih (x:=x) hx hy
        | _=>cases hx
    | oth =>
      cases x with
      | nil=>cases hx
      | cons c x=>cases c<;>first | exact ih (x:=x) hx hy | cases hx
theorem Opened.nil {n:Nat} {w:World}:Opened n w [] [] []:=⟨rfl,rfl,fun j hj=>absurd hj (Nat.not_lt_zero j),rfl,fun a ha=>(by cases ha)⟩
theorem Opened.append {n:Nat} {w:World} {a b:List CK} {x y:List Value} {p q:List A} (h1:Opened n w a x p) (h2:Opened n w b y q):Opened n w (a++b) (x++y) (p++q):=by
  refine⟨by simp [h1.lc,h2.lc],by simp [h1.la,h2.la],fun j hj=> ?_,AnF a h1.made h2.made,fun z hz=> ?_⟩
  ·rw[List.length_append]at hj
   by_cases h:j<a.length
   ·have:=h1.rel j h
    rw[List.getD_eq_getElem?_getD,List.getElem?_append_left (by rw[h1.lc];exact h),<- List.getD_eq_getElem?_getD,List.getD_eq_getElem?_getD (l:=p++q),List.getElem?_append_left (by rw[h1.la];exact h),<- List.getD_eq_getElem?_getD]
    exact this
   ·have:=h2.rel (j - a.length) (by omega)
    rw[List.getD_eq_getElem?_getD,List.getElem?_append_right (by rw[h1.lc];omega),<- List.getD_eq_getElem?_getD,List.getD_eq_getElem?_getD (l:=p++q),List.getElem?_append_right (by rw[h1.la];omega),<- List.getD_eq_getElem?_getD,h1.lc,h1.la]
    exact this
  ·rcases List.mem_append.1 hz with hz | hz
   ·exact h1.ok z hz
   ·exact h2.ok z hz
theorem Opened.one {n:Nat} {w:World} {k:CK} {v:Value} {a:A} (hr:Dt nobody w v a) (hm:((tyl [k]).mk [a]).1=true) (ho:okN n a):Opened n w [k] [v] [a] :=
  ⟨rfl,rfl,fun j hj=>by
    have:j=0:=by simp at hj;omega
    subst this;exact hr,hm,fun z hz=>by rw[List.mem_singleton.1 hz];exact ho⟩
def UY (P:Program) (n t:Nat):Nat:=match Hz P n t with | some cs=>cs.length | none=>0
def AcU (P:Program) (n:Nat):List Field->Nat->Bool
  | [],_=>true
  | f::r,o=>Nat.beq f.offset o&&Nat.beq (P.cellsOf f.type) (UY P n f.type)&&AcU P n r (o+UY P n f.type)
def fU (P:Program):Nat->Nat->Bool
  | 0,_=>false
  | n+1,t=>match P.underlying t with
    | some .bool=>true
    | some (.int _)=>true
    | some .string=>true
    | some (.slice e)=>fU P n e&&Nat.beq (P.cellsOf e) (UY P n e)&&Nat.blt 0 (UY P n e)&&(match Hz P n e with | some cs=>cs.all CK.plain | none=>false)
    | some (.struct fs)=>Nat.beq (P.cellsOf t) (UY P (n+1) t)&&AcU P n fs.toList 0&&fs.toList.all (fun f=>fU P n f.type)
    | _=>false
section
variable {H:Type} {enc:TypeId×Value->H} {P:Program} {w:World} {base:Nat} {spare:Nat->Bool} {held:Bool}
theorem qA {a:Addr} {n:Nat} {cs:List Value} (h:w.cells? base a n=some cs):cs.length=n/\ ∀ j,j<n->w.cell? (a.add j)=some (cs.getD j undef):=by
  unfold World.cells? at h
  split at h
  ·have key: ∀(l:List Nat) (cs:List Value),l.mapM (fun i=>w.cell? (a.add i))=some cs->cs.length=l.length/\ ∀ j (hj:j<l.length),w.cell? (a.add l[j])=some (cs.getD j undef):=by
     intro l
     induction l with
     | nil=>grind
     | cons i l ih =>
       intro cs h
       rw[List.mapM_cons]at h
       cases h1:w.cell? (a.add i)with
       | none=>rw[h1]at h;cases h
       | some v =>
         rw[h1]at h
         cases h2:l.mapM (fun i=>w.cell? (a.add i))with
         | none=>rw[h2]at h;cases h
         | some r =>
           rw[h2]at h
           injection h with h
           subst h
           obtain⟨k1,k2⟩:=ih r h2
           refine⟨by simp [k1],fun j hj=> ?_⟩
           cases j with
           | zero=>exact h1
           | succ j=>grind
   all_goals grind
  ·cases h
theorem ApK {l:List Value} {o a b:Nat}:(l.drop o).take (a+b)=(l.drop o).take a++(l.drop (o+a)).take b:=by
  rw[List.take_add,List.drop_drop]
theorem lQ (e:Nat) (t:Ty) (xs:List t.Val):((tyl [.sl e t]).mk [.sl ⟨t,xs⟩]).1=true:=by
  simp only[tyl,Ty.mk]
  rw[Sl.Vy]
  rfl
theorem AjY (hspare: ∀ b,spare b=true): ∀(n:Nat) (t:TypeId) (ks:List CK) (fuel:Nat) (cs:List Value) (x:DataW H×List MemPlace),Hz P n t=some ks->fU P n t=true->DataW.trod enc P w base spare held fuel t cs=some x ->
    ∃ aa,Opened n w ks cs aa:=by
  intro n
  induction n with
  | zero=>intro t ks fuel cs x h;cases h
  | succ n ih =>
    intro t ks fuel cs x hck hok h
    unfold Hz at hck
    unfold fU at hok
    cases hu:P.underlying t with
    | none=>rw[hu]at hck;cases hck
    | some d =>
      rw[hu]at hck hok
      cases d with
      | bool =>
        injection hck with hck
        subst hck
        obtain⟨b,rfl,_⟩:=DataW.trod_bool hu h
        exact⟨[.bool b],Opened.one (.bool b) rfl trivial⟩
      | int k =>
        injection hck with hck
        subst hck
        obtain⟨v,rfl,_,hw⟩:=DataW.trod_int hu h
        have hk:Apx (.int k v):=by
          unfold Lit.wf at hw
          rw[Bool.and_eq_true,decide_eq_true_eq,decide_eq_true_eq]at hw
          exact hw
        exact⟨[.int k v],Opened.one (.int k v) (by cases k<;>rfl) hk⟩
      | string =>
        injection hck with hck
        subst hck
        obtain⟨v,rfl,_,hw⟩:=DataW.trod_string hu h
        have hk:Apx (.str v.data.toList):=by
          show v.data.toList.length<=_
          have e:v.data.toList.length=v.size:=by rw[Array.length_toList];rfl
          have:maxLen=9223372036854775807:=rfl
          omega
        exact⟨[.str v.data.toList],Opened.one (.str v) rfl hk⟩
      | slice e =>
        dsimp only at hck hok
        simp only[Bool.and_eq_true]at hok
        obtain⟨⟨⟨hoe,hce⟩,hc0⟩,hpl⟩:=hok
        cases hke:Hz P n e with
        | none=>rw[hke]at hpl;cases hpl
        | some ke =>
          rw[hke]at hck hpl
          dsimp only at hck hpl
          rw[hpl]at hck
          injection hck with hck
          subst hck
          have hlen:P.cellsOf e=ke.length:=by
            have:=Nat.eq_of_beq_eq_true hce
            unfold UY at this
            rw[hke]at this;exact this
          rcases DataW.trod_slice hu h with ⟨rfl,_⟩ | ⟨a,len,cap,elems,rest,m,_,rfl,_,hb,hl,hm,hel,hels,hsp,_⟩
          ·exact⟨[.sl ⟨tyl ke,[]⟩],Opened.one (.nil _) (lQ _ _ _) ⟨Nat.zero_le _,fun c hc=>(by cases hc)⟩⟩
          ·by_cases hcap:cap=0
           ·have hlen0:len=0:=by omega
            subst hcap
            subst hlen0
            exact⟨[.sl ⟨tyl ke,[]⟩],Opened.one (.sl0 a _) (lQ _ _ _) ⟨Nat.zero_le _,fun c hc=>(by cases hc)⟩⟩
           have hk0:0<P.cellsOf e:=by
             have h2:=Nat.eq_of_beq_eq_true hce
             rw[h2]
             simpa using hc0
           have hread: ∃ u,w.cell? a=some u:=by
             by_cases h0:0<len
             ·have he:=hels 0 h0
              rw[List.getElem?_eq_getElem (by omega:0<elems.length),Option.bind_eq_some_iff]at he
              obtain⟨q,hq,_⟩:=he
              obtain⟨_,k2⟩:=qA hq
              have:=k2 0 hk0
              rw[Nat.zero_mul]at this
              exact⟨_,this⟩
             ·have hz:len=0:=by omega
              obtain⟨hr1,hr2⟩:=hsp (hspare _)
              have he:=hr2 0 (by omega)
              rw[List.getElem?_eq_getElem (by omega:0<rest.length),Option.bind_eq_some_iff]at he
              obtain⟨q,hq,_⟩:=he
              obtain⟨_,k2⟩:=qA hq
              have:=k2 0 hk0
              rw[hz,Nat.zero_mul]at this
              exact⟨_,this⟩
           have hspot:a.spot=none:=by
             obtain⟨u,hu⟩:=hread
             unfold World.cell? at hu
             split at hu
             ·cases hs:a.spot with
              | none=>rfl
              | some z=>rw[hs]at hu;cases hu
             ·cases hu
           have ha:a=at' a.block a.off:=by
             obtain⟨b,o,sp⟩:=a
             dsimp only at hspot
             rw[hspot]
           have each: ∀ i,∃(q:List Value) (aa:List A),i<len->(∀ j,j<ke.length->w.cell? (at' a.block (a.off+(i*ke.length+j)))=some (q.getD j undef))/\Opened n w ke q aa:=by
             intro i
             by_cases hi:i<len
             ·have he:=hels i hi
              have hei:elems[i]? =some (elems[i]'(by omega)):=List.getElem?_eq_getElem (by omega)
              rw[hei,Option.bind_eq_some_iff]at he
              obtain⟨q,hq,hq2⟩:=he
              obtain⟨k1,k2⟩:=qA hq
              rw[hlen]at k1 k2
              obtain⟨aa,h1⟩:=ih e ke m q _ hke hoe hq2
              refine⟨q,aa,fun _=>⟨fun j hj=> ?_,h1⟩⟩
              have:=k2 j hj
              rw[ha,KQ,KQ]at this
              rw[<- this];congr 2;omega
             ·exact⟨[],[],fun h=>absurd h hi⟩
           obtain⟨q,hq⟩:=Classical.axiomOfChoice each
           obtain⟨aa,haa⟩:=Classical.axiomOfChoice hq
           let l:Sl:=⟨tyl ke,(List.range len).map fun i=>((tyl ke).mk (aa i)).2⟩
           have hes:l.es=(List.range len).map aa:=by
             show((List.range len).map fun i=>((tyl ke).mk (aa i)).2).map (tyl ke).cells=_
             rw[List.map_map]
             refine List.map_congr_left fun i hi=> ?_
             exact Ty.OQ _ _ (haa i (List.mem_range.1 hi)).2.made
           have hesl:l.es.length=len:=by rw[hes,List.length_map,List.length_range]
           have hsz:l.sz=ke.length:=PV ke
           have hget: ∀ i,i<len->l.es.getD i []=aa i:=fun i hi=>by
             rw[hes,List.getD_eq_getElem?_getD,List.getElem?_map,List.getElem?_range hi];rfl
           have hrel:Dt nobody w (.slice (some a) len cap) (.sl l):=by
             rw[ha,<- hesl]
             refine Dt.sl (fun i j=>(q i).getD j undef) (by rw[hesl];exact hl) (fun i j hi hj=> ?_) (fun i j hi hj=> ?_)
             ·rw[hsz]at hj ⊢
              exact⟨rfl,(haa i (by rw[<- hesl];exact hi)).1 j hj⟩
             ·rw[hsz]at hj
              have hi':i<len:=by rw[<- hesl];exact hi
              rw[hget i hi']
              exact(haa i hi').2.rel j hj
           refine⟨[.sl l],Opened.one hrel (lQ _ _ _) ⟨?_,fun c hc z hz=> ?_⟩⟩
           ·show((List.range len).map _).length<=_
            rw[List.length_map,List.length_range]
            have:maxLen=9223372036854775807:=rfl
            omega
           ·rw[hes]at hc
            obtain⟨i,hi,rfl⟩:=List.mem_map.1 hc
            exact(haa i (List.mem_range.1 hi)).2.ok z hz
      | struct fs =>
        dsimp only at hck hok
        simp only[Bool.and_eq_true]at hok
        obtain⟨⟨hcl,hoff⟩,hall⟩:=hok
        obtain⟨xs,m,_,_,hl,hxl,hxs⟩:=DataW.trod_struct hu h
        have fields: ∀(l:List Field) (o:Nat) (ks:List CK),l.foldr (fun f acc=>match Hz P n f.type,acc with | some a,some b=>some (a++b) | _,_=>none) (some [])=some ks->AcU P n l o=true->(∀ f∈l,fU P n f.type=true) ->
            (∀ f∈l,∃ y,DataW.trod enc P w base spare held m f.type ((cs.drop f.offset).take (P.cellsOf f.type))=some y)-> ∃ aa,Opened n w ks ((cs.drop o).take ks.length) aa:=by
          intro l
          induction l with
          | nil =>
            intro o ks hk _ _ _
            injection hk with hk
            subst hk
            exact⟨[],Opened.nil⟩
          | cons f r ihr =>
            intro o ks hk ho hf hy
            rw[List.foldr_cons]at hk
            cases ha:Hz P n f.type with
            | none=>rw[ha]at hk;cases hk
            | some a =>
              rw[ha]at hk
              cases hb:r.foldr (fun f acc=>match Hz P n f.type,acc with | some a,some b=>some (a++b) | _,_=>none) (some [])with
              | none=>rw[hb]at hk;cases hk
              | some b =>
                rw[hb]at hk
                injection hk with hk
                subst hk
                have hal:UY P n f.type=a.length:=by unfold UY;rw[ha]
                unfold AcU at ho
                simp only[Bool.and_eq_true]at ho
                obtain⟨⟨h1,h2⟩,h3⟩:=ho
                have h1:=Nat.eq_of_beq_eq_true h1
                have h2:=Nat.eq_of_beq_eq_true h2
                rw[hal]at h2 h3
                obtain⟨y,hy1⟩:=hy f List.mem_cons_self
                rw[h1,h2]at hy1
                obtain⟨pa,p1⟩:=ih f.type a m _ y ha (hf f List.mem_cons_self) hy1
                obtain⟨pb,q1⟩:=ihr (o+a.length) b hb h3 (fun g hg=>hf g (List.mem_cons_of_mem _ hg)) (fun g hg=>hy g (List.mem_cons_of_mem _ hg))
                refine⟨pa++pb,?_⟩
                rw[List.length_append,ApK]
                exact p1.append q1
        obtain⟨aa,h1⟩:=fields fs.toList 0 ks hck hoff (fun f hf=>List.all_eq_true.1 hall f hf) (fun f hf=>by
          obtain⟨i,hi⟩:=List.getElem?_of_mem hf
          have hi':fs[i]? =some f:=by rw[<- Array.getElem?_toList];exact hi
          have:=hxs i f hi'
          have hlt:i<xs.length:=by
            rw[hxl]
            exact(Array.getElem?_eq_some_iff.1 hi').1
          rw[List.getElem?_eq_getElem hlt]at this
          exact⟨_,this⟩)
        have hcs:(cs.drop 0).take ks.length=cs:=by
          rw[List.drop_zero]
          refine List.take_of_length_le ?_
          have h3:=Nat.eq_of_beq_eq_true hcl
          have h4:UY P (n+1) t=ks.length:=by
            unfold UY Hz
            rw[hu]
            dsimp only
            rw[hck]
          omega
        rw[hcs]at h1
        exact⟨aa,h1.up⟩
      | _=>cases hok
theorem AkS {r:Reach} {b0:Nat} {u:TypeId} {cs:Array Value} (h:Cell.okWide P w r b0 u (.agg cs)):False:=by
  have h':Cell.ok P w r b0 u (.agg cs):=by
    unfold Cell.okWide at h
    all_goals grind
  unfold Cell.ok at h'
  all_goals grind
def Ar6 (P:Program) (t:TypeId):Bool:=match P.underlying t with
  | some (.struct _)=>true
  | some (.array _ _)=>true
  | _=>false
theorem open_cell {r:Reach} {b0 n:Nat} {t:TypeId} {v:Value} {d:DataW H} {ps:List MemPlace} {k:CK} (hck:Hz P n t=some [k]) (hspare: ∀ b,spare b=true) (hok:fU P n t=true) (ha:Ar6 P t=false) (hval:Value.okWide P w r b0 t v) (hd:DataW.Trod enc P w base spare held t v d ps) :
    ∃ a,Dt nobody w v a/\((tyl [k]).mk [a]).1=true/\okN n a:=by
  have hc:Cell.okWide P w r b0 t v:=by
    unfold Value.okWide at hval
    all_goals grind[Ar6]
  have hcells:v.cells.toList=[v]:=by
    cases v with
    | agg cs=>exact(AkS hc).elim
    | _=>rfl
  obtain⟨fuel,h⟩:=hd
  rw[hcells]at h
  obtain⟨aa,h1⟩:=AjY hspare n t [k] fuel [v] _ hck hok h
  obtain⟨a,rfl⟩: ∃ a,aa=[a]:=List.length_eq_one_iff.1 h1.la
  exact⟨a,h1.rel 0 (by show 0<1;omega),h1.made,h1.ok a List.mem_cons_self⟩
theorem Opened.ir {n:Nat} {ks:List CK} {cs:Array Value} {aa:List A} (h:Opened n w ks cs.toList aa) (id:Nat):IR nobody w id (.agg cs) (.agg aa):=by
  refine⟨cs,rfl,?_,fun j hj=>Dt.ic ?_⟩
  ·rw[<- Array.length_toList,h.lc,h.la]
  ·have:=h.rel j (by rw[<- h.la];exact hj)
   all_goals simp_all[CK,IR,nobody]
theorem Dt.ir {id:Nat} {v:Value} {a:A} (h:Dt nobody w v a):IR nobody w id v a:=by
  have:=h.ic (id:=id)
  cases h<;>exact this
end
end Go.Proofs.YtbaomhegdndpnaaGreatDoor.Vm
namespace Go.Proofs.YtbaomhegdndpnaaGreatDoor.Vm
open Go Go.Lib
abbrev tabs:List (String×DataW Unit):=[("math/bits.deBruijn32tab",Rows.laid_math_bits_deBruijn32tab),("math/bits.deBruijn64tab",Rows.laid_math_bits_deBruijn64tab),("internal/strconv.uint64pow10",Rows.laid_internal_strconv_uint64pow10),("unicode/utf8.acceptRanges",Rows.laid_unicode_utf8_acceptRanges),("certpath/date.lengths",Rows.laid_certpath_date_lengths),("unicode/utf8.first",Rows.laid_unicode_utf8_first)]
def Atx:DataW Unit->Value
  | .lit (.int k n)=>.int k n
  | _=>undef
def AeY:DataW Unit->List Value
  | .agg l=>l.map Atx
  | _=>[]
def At1:DataW Unit->List Value
  | .agg l=>l.flatMap AeY
  | _=>[]
noncomputable def laidWorld (os:Os):World :=
  let w0:=World.holding Tryz.prog os ⟨#[],#[],[]⟩
  {w0 with heap:=(((((w0.heap.modify 2 fun
     | .cells _ t frozen=>.cells (AeY Rows.laid_internal_strconv_uint64pow10).toArray t frozen
     | o=>o).modify 3 fun
     | .cells _ t frozen=>.cells (AeY Rows.laid_unicode_utf8_first).toArray t frozen
     | o=>o).modify 4 fun
     | .cells _ t frozen=>.cells (At1 Rows.laid_unicode_utf8_acceptRanges).toArray t frozen
     | o=>o).modify 5 fun
     | .cells _ t frozen=>.cells (AeY Rows.laid_math_bits_deBruijn32tab).toArray t frozen
     | o=>o).modify 0 fun
     | .cells _ t frozen=>.cells (AeY Rows.laid_certpath_date_lengths).toArray t frozen
     | o=>o).modify 6 fun
     | .cells _ t frozen=>.cells (AeY Rows.laid_math_bits_deBruijn64tab).toArray t frozen
     | o=>o}
theorem laid_met (os:Os) (args:Array Value):laidMet Tryz.prog tabs ((laidWorld os).forCall (fun _ _=>0) ⟨#[],args,[]⟩).memory :=
  laidMet_of_run' 8 (by kernel_rfl) (by kernel_rfl)
set_option maxRecDepth 1000000 in
theorem Aho {W:World} (h:laidMet Tryz.prog tabs W) {nm:String} {D:DataW Unit} (hm:(nm,D)∈tabs) {g tA tE n:Nat} {k:IntKind} {f:Nat->Int} (hg0:Tryz.prog.globalNamed nm=some g) (ht0:(Tryz.prog.globals[g]?).map (·.type)=some tA) (hu:Tryz.prog.underlying tA=some (.array n tE)) (hu2:Tryz.prog.underlying tE=some (.int k)) (hc:Tryz.prog.cellsOf tE=1)
    (hds:D= .agg ((List.range n).map fun j=>.lit (.int k (f j)))) (j:Nat) (hj:j<n):W.cell? ⟨g,j,none⟩=some (.int k (f j)):=by
  obtain⟨g',t,cs,fuel,p,hg,ht,hvar,hd⟩:=laidMet.reads h (n:=nm) (d:=D) hm
  obtain rfl:=Option.some.inj (hg0.symm.trans hg)
  obtain rfl:=Option.some.inj (ht0.symm.trans ht)
  rw[hds]at hd
  obtain⟨fuel',d,q,h1,h2⟩:=array_elem hu hd j hj
  rw[List.getElem?_map,List.getElem?_range hj]at h1
  have h1:=Option.some.inj h1
  subst h1
  rw[hc,Nat.mul_one]at h2
  obtain⟨m,h3,h4,_⟩:=DataW.trod_int hu2 h2
  have hn:f j=m:=by
    have:=congrArg Prod.fst h4
    injection this with this
    injection this with _ this
  rw[World.var?_cell hg hvar j]
  have h5:(cs.toList.drop j)[0]? =some (.int k m):=by
    have:((cs.toList.drop j).take 1)[0]? =some (.int k m):=by rw[h3];rfl
    rwa [List.getElem?_take_of_lt (by omega)]at this
  rw[List.getElem?_drop,Nat.add_zero,Array.getElem?_toList]at h5
  rw[h5,hn]
set_option maxRecDepth 1000000 in
theorem Ap1 {W:World} (h:laidMet Tryz.prog tabs W) (j:Nat) (hj:j<20):W.cell? ⟨2,j,none⟩=some (.int .u64 ((10 ^ j:Nat):Int)):=by
  have hds:(Rows.laid_internal_strconv_uint64pow10:DataW Unit)= .agg ((List.range 20).map fun j=>.lit (.int .u64 ((10 ^ j:Nat):Int))):=by kernel_rfl
  have hm:(("internal/strconv.uint64pow10",Rows.laid_internal_strconv_uint64pow10):String×DataW Unit)∈tabs:=List.mem_cons_of_mem _ (List.mem_cons_of_mem _ List.mem_cons_self)
  generalize (Rows.laid_internal_strconv_uint64pow10:DataW Unit)=D at hds hm
  exact Aho h (nm:= "internal/strconv.uint64pow10") (D:=D) hm (g:=2) (tA:=343) (tE:=265) (n:=20) (k:=.u64) (f:=fun j=>((10 ^ j:Nat):Int)) (by kernel_rfl) (by kernel_rfl) (by kernel_rfl) (by kernel_rfl) (by kernel_rfl) hds j hj
set_option maxRecDepth 1000000 in
theorem Apm {W:World} (h:laidMet Tryz.prog tabs W) (j:Nat) (hj:j<12):W.cell? ⟨0,j,none⟩=some (.int .i64 (([31,28,31,30,31,30,31,31,30,31,30,31]:List Int).getD j 0)) :=
  Aho h (nm:= "certpath/date.lengths") (D:=Rows.laid_certpath_date_lengths) (List.mem_cons_of_mem _ (List.mem_cons_of_mem _ (List.mem_cons_of_mem _ (List.mem_cons_of_mem _ List.mem_cons_self)))) (g:=0) (tA:=276) (tE:=3) (n:=12) (k:=.i64) (f:=fun j=>([31,28,31,30,31,30,31,31,30,31,30,31]:List Int).getD j 0) (by kernel_rfl) (by kernel_rfl) (by kernel_rfl) (by kernel_rfl) (by kernel_rfl) (by kernel_rfl) j hj
theorem inv_of {W:World} (hs:W.ShapedOpen Tryz.prog) (hl:laidMet Tryz.prog tabs W):Inv nobody W:=by
  refine⟨fun g j p h=> ?_,fun g n h=> ?_⟩
  ·unfold dE at h
   split at h
   ·injection h with h
    subst h
    obtain⟨m,hm⟩:=cell_of_shapedOpen_int (P:=Tryz.prog) (g:=1) (t:=3) (zero:= #[.int .i64 0]) (k:=.i64) hs (of_decide_eq_true (by kernel_rfl)) (by kernel_rfl) rfl (by kernel_rfl) (by kernel_rfl) (by kernel_rfl)
    exact⟨rfl,_,hm,m,rfl⟩
   ·split at h
    ·rename_i hj
     injection h with h
     subst h
     exact⟨rfl,_,Ap1 hl _ hj,rfl⟩
    ·cases h
   ·unfold wK at h
    split at h
    ·have h:(if j<12 then some (fun v=>v=Value.int .i64 (([31,28,31,30,31,30,31,31,30,31,30,31]:List Int).getD j 0))else none)=some p:=h
     split at h
     ·rename_i hj
      injection h with h
      subst h
      exact⟨rfl,_,Apm hl _ hj,rfl⟩
     ·cases h
    ·cases h
  ·unfold ApM at h
   split at h
   ·injection h with h
    subst h
    obtain⟨cs,h1,h2,_⟩:=hs.1 2 (Array.replicate 20 (.int .u64 0)) 343 (of_decide_eq_true (by kernel_rfl)) (by kernel_rfl)
    exact⟨cs,_,_,h1,h2⟩
   ·cases h
section
variable {H:Type} {enc:TypeId×Value->H}
theorem AiG {a:Assume} {C:Checked} {os:Os} {f:FuncId} {fn:Func} {s:ChangeSpec} {conds:List PathCond} {apart fresh handsOn again:Bool} {X:World->Array Value->Prop}
    (hX: ∀(w w':World) (args:Array Value),w.heap=w'.heap->X w args->X w' args)
    (own:ownKnob C.prog.godebug=none) (started:os.Started) (noInit:C.prog.inits.idxOf? f=none) (hfn:C.prog.funcs[f]? =some fn)
    (witness: ∃(w:World) (tape:Tape) (i:Input),w.os=os/\(w.forCall tape i).Shaped C.prog/\i.vars=[]/\Input.okWide C.prog (w.forCall tape i) .any w.heap.size f i /\
      ((s.pre enc C.prog fn conds apart (w.forCall tape i).memory i.args/\X (w.forCall tape i).memory i.args)/\sizedMet enc C.prog fn (OpenSpec.ofChange s) apart (w.forCall tape i).memory i.args)/\a.holds C.prog (lone (Frame.enter C.prog f i.args .normal) [] (w.forCall tape i)))
    (contract: ∀(W:World) (base:Nat) (args:Array Value) (ds gs:List (DataW H)) (before:List MemPlace),
      (∀(j:Nat) t v,fn.params[j]? =some t->args[j]? =some v->Value.okWide C.prog W .any base t v) ->
      DataW.Whole enc C.prog fn.params.toList s.vars apart W args.toList ds gs before->W.ShapedOpen C.prog->X W args ->
      Calls C.prog f args W fun e W'=> ∃ v,e= .returned v/\s.post enc C.prog fn apart fresh handsOn again W args v W') :
    ReturnsInHanded a C os f .any (fun w args=>(s.pre enc C.prog fn conds apart w args/\X w args)/\sizedMet enc C.prog fn (OpenSpec.ofChange s) apart w args) (s.post enc C.prog fn apart fresh handsOn again):=by
  refine returnsInHanded_of_calls own started noInit witness ?_
  intro w tape i _ hsh _ hok hpre _
  obtain⟨_,_,_,fn',hfn',_,_,_,_,hval⟩:=hok
  obtain rfl:=Option.some.inj (hfn'.symm.trans hfn)
  obtain⟨⟨⟨ds,gs,before,hw,_⟩,hx⟩,_⟩:=hpre
  refine(contract (w.forCall tape i) w.heap.size i.args ds gs before hval (DataW.Whole.of_heap (w':=w.forCall tape i) (by rfl) hw) hsh (hX _ _ _ (by rfl) hx)).mono fun e W' ⟨v,he,hp⟩=> ?_
  subst he
  exact ChangeSpec.post_blind hp
end
