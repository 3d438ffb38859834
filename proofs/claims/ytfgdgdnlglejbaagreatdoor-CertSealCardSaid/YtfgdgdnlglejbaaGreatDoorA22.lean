import Derived.Test.YtfgdgdnlglejbaaGreatDoorA16
import Derived.Test.YtfgdgdnlglejbaaGreatDoorA21
import Derived.ChangeArms
import Derived.SliceStrings
import Derived.Test.YtfgdgdnlglejbaaGreatDoorRows
import Derived.Test.YtfgdgdnlglejbaaGreatDoorChecked
import Derived.Lib.LaidU8
import Derived.Shelf.Vars
import Derived.HandedShaped
import Derived.LaidLaws
set_option linter.all false
namespace Go.Proofs.YtfgdgdnlglejbaaGreatDoor.Pl
open IntKind (i64)
open Go Vm
def b4P (p:Int):Bs:=List.map Vm.byteOf ([IntKind.u8.wrap (p.fdiv (16777216)),IntKind.u8.wrap (p.fdiv (65536)),IntKind.u8.wrap (p.fdiv (256)),IntKind.u8.wrap p]:List Int)
def b1P (p:Int):Bs:=List.map Vm.byteOf ([IntKind.u8.wrap p]:List Int)
theorem Ajz (N:Nat) (p:Int):mX N p=some (b4P p):=by
 unfold mX;try simp -zeta only[Ap]
 rw[EY _ (by simp [KW])];rfl
theorem An8 (N:Nat) (p:Int):mW N p=some (b1P p):=by
 unfold mW;try simp -zeta only[Ap]
 rw[EY _ (by simp [KW])];rfl
theorem Aq2 (N:Nat) (p:Int):WT N p=some (b4P p):=Ajz N p
def hS (N:Nat) (l:List Bs):Bs:=(Gy N l).getD []
structure Hok (N:Nat) (l:List Bs):Prop where
 n:150<=N
 m:N<=1000000000
 len:l.length<N
 each: ∀ s∈l,s.length+64<N
theorem AeZ {N:Nat} {l:List Bs} (h:Hok N l):Gy N l=some (hS N l)/\(hS N l).length=16:=by obtain⟨v,e,hv⟩:=Ap0 h.n h.m h.len h.each;unfold hS;rw[e];exact⟨rfl,hv⟩
def wk (f:Int->Bs->Bs) (a:Int):Nat->Bs->Bs
 | 0,x=>x
 | n+1,x=>wk f (a+1) n (f a x)
theorem Av1 (f:Int->Bs->Bs): ∀(n:Nat) (a:Int) (m:Nat) (x:Bs),wk f a (n+m) x=wk f (a+n) m (wk f a n x):=by
 intro n
 induction n with
 | zero=>intro a m x;simp [wk]
 | succ n ih =>intro a m x;rw[show n+1+m=(n+m)+1 by omega];show wk f (a+1) (n+m) (f a x)=wk f (a+((n+1:Nat):Int)) m (wk f (a+1) n (f a x));rw[ih];congr 1;omega
theorem AqZ {f:Int->Bs->Bs} (hf: ∀ t x,x.length=16->(f t x).length=16): ∀(n:Nat) (a:Int) (x:Bs),x.length=16->(wk f a n x).length=16:=by
 intro n
 induction n with
 | zero=>intro a x h;exact h
 | succ n ih=>intro a x h;exact ih _ _ (hf _ _ h)
def st (N:Nat) (p0:Bs) (p1 p2 t:Int) (x:Bs):Bs:=hS N [[67],p0,b4P p1,b1P p2,b1P t,x]
structure Big (N:Nat):Prop where
 n:2000<=N
 m:N<=1000000000
theorem hok {N:Nat} (h:Big N) {l:List Bs} (hl:l.length<=100) (hs:l.all (fun s=>decide (s.length<=1000))=true):Hok N l:=by have h1:=h.n;refine⟨by omega,h.m,by omega,fun s hm=> ?_⟩;have:=of_decide_eq_true (List.all_eq_true.1 hs s hm);omega
theorem Ati {N:Nat} (h:Big N) {p0:Bs} (h0:p0.length<=1000) (p1 p2 t:Int) {x:Bs} (hx:x.length=16):Gy N [[67],p0,b4P p1,b1P p2,b1P t,x]=some (st N p0 p1 p2 t x)/\(st N p0 p1 p2 t x).length=16 :=
 AeZ (hok h (by simp) (by simp [h0,hx,b4P,b1P]))
theorem walk_eq {N:Nat} (h:Big N) {p0:Bs} (h0:p0.length<=1000) (p1 p2:Int) {a b:Int} (ha:0<=a) (hab:a<=b) (hb:b<=15) {x:Bs} (hx:x.length=16):VF N p0 p1 p2 a b x=some (wk (st N p0 p1 p2) a (b - a).toNat x):=by
 unfold VF;have hn:=h.n;refine PH (X:=Bs×Int) (fun x=>x.1.length=16/\0<=x.2/\x.2<=b) (fun x=>(b - x.2).toNat) (fun x=>some (wk (st N p0 p1 p2) x.2 (b - x.2).toNat x.1)) ?_ N _ ⟨hx,ha,hab⟩ (by show(b - a).toNat<N;omega);rintro ⟨x,t⟩ ⟨h1,h2,h3⟩ k hk;have h1:x.length=16:=h1;have h2:0<=t:=h2;have h3:t<=b:=h3;dsimp only[U2];by_cases hlt:t<b
 ·rw[decide_eq_true hlt,cond_true,Ajz,Dz,An8,Dz,An8,Dz];obtain⟨e1,e2⟩:=Ati h h0 p1 p2 t h1;rw[e1,Dz,w64 (by omega) (by omega)];refine(hk _ ⟨e2,by show 0<=t+1;omega,by show t+1<=b;omega⟩ (by show(b - (t+1)).toNat<(b - t).toNat;omega)).trans ?_;show some (wk _ (t+1) (b - (t+1)).toNat _)=some (wk _ t (b - t).toNat x);rw[show(b - t).toNat=(b - (t+1)).toNat+1 by omega];rfl
 ·rw[decide_eq_false hlt,cond_false];rw[show(b - t).toNat=0 by omega];rfl
theorem Ada {ρ :Type} {B:Int×List Bs->(Int×List Bs->Option ρ)->(List Bs->Option ρ)->Option ρ} {kx:List Bs->Option ρ} (n:Nat) (g:Nat->Bs)
 (h: ∀(i:Nat) (acc:List Bs) (k:Int×List Bs->Option ρ),i<n->acc.length=i->B ((i:Int),acc) k kx=k ((i:Int)+1,acc++[g i]))
 (hend: ∀(acc:List Bs) (k:Int×List Bs->Option ρ),acc.length=n->B ((n:Int),acc) k kx=kx acc) {N:Nat} (hN:n<N):D5 B N (0,[]) kx=kx ((List.range n).map g):=by
 refine PH (fun x=>x.1=(x.2.length:Int)/\x.2.length<=n/\x.2=(List.range x.2.length).map g) (fun x=>n - x.2.length) (fun _=>kx ((List.range n).map g)) ?_ N _ ⟨rfl,Nat.zero_le _,rfl⟩ (by show n - 0<N;omega);rintro ⟨t,acc⟩ ⟨h1,h2,h3⟩ k hk;have h1:t=(acc.length:Int):=h1;have h2:acc.length<=n:=h2;have h3:acc=(List.range acc.length).map g:=h3;subst h1;by_cases hl:acc.length<n
 ·rw[h acc.length acc k hl rfl];refine hk _ ⟨by show(acc.length:Int)+1=((acc++[g acc.length]).length:Int);simp,by show(acc++[g acc.length]).length<=n;simp;omega,?_⟩ (by show n - (acc++[g acc.length]).length<n - acc.length;simp;omega);show acc++[g acc.length]=(List.range (acc++[g acc.length]).length).map g;rw[List.length_append,List.length_singleton,List.range_succ,List.map_append,<- h3];rfl
 ·have e:acc.length=n:=by omega
  have h4:=hend acc k e;rw[<- e]at h4;rw[h4,<- e];exact congrArg kx h3
def Apf (N:Nat) (p1:Bs) (p2:Int) (i:Nat):Bs:=hS N [[83],p1,b4P p2,b1P (i:Int)]
theorem Tz {N:Nat} (h:Big N) {p1:Bs} (h1:p1.length<=1000) (p2:Int) (i:Nat):Ut N p1 p2 (i:Int)=some (Apf N p1 p2 i)/\(Apf N p1 p2 i).length=16:=by obtain⟨e1,e2⟩:=AeZ (N:=N) (l:=[[83],p1,b4P p2,b1P (i:Int)]) (hok h (by simp) (by simp [h1,b4P,b1P]));refine⟨?_,e2⟩;unfold Ut;rw[Ajz,Dz,An8,Dz,e1];rfl
def AlD (N:Nat) (p0 p1:Bs) (p2:Int) (i:Nat):Bs:=wk (st N p0 p2 (i:Int)) 0 15 (Apf N p1 p2 i)
theorem st_len {N:Nat} (h:Big N) {p0:Bs} (h0:p0.length<=1000) (p1 p2:Int): ∀ t x,x.length=16->(st N p0 p1 p2 t x).length=16:=fun t _ hx=>(Ati h h0 p1 p2 t hx).2
theorem AeU: ∀(l:List Bs),(∀ s∈l,s.length=16)->l.flatten.length=16*l.length:=by
 intro l
 induction l with
 | nil=>intro _;rfl
 | cons a r ih =>intro h;rw[List.flatten_cons,List.length_append,h a List.mem_cons_self,ih fun s hs=>h s (List.mem_cons_of_mem _ hs),List.length_cons];omega
def iN (b:UInt8):Int:=(b.toNat:Int)
theorem ApD (l:Bs):(l.map iN).map Vm.byteOf=l:=by
 rw[List.map_map]
 conv=>rhs;rw[<- List.map_id l]
 refine List.map_congr_left fun b _=> ?_;show UInt8.ofNat ((b.toNat:Int)).toNat=b;simp
theorem Aqo (l:Bs):(l.map iN).all Vm.isByte=true:=by rw[List.all_eq_true];intro x hx;obtain⟨b,_,rfl⟩:=List.mem_map.1 hx;have:=Atk b;unfold Vm.isByte iN;rw[decide_eq_true (by omega),decide_eq_true (by omega)];rfl
theorem join_eq {N:Nat} (h:Big N) {l:List Bs} (hl:l.length<=1000) (h16: ∀ s∈l,s.length=16):ZO N l=some l.flatten:=by
 have hn:=h.n;have hf:=AeU l h16;unfold ZO;try simp -zeta only[Ap]
 rw[w64 (x:=(l.length:Int)*16) (by omega) (by omega),EY _ (decide_eq_true (by omega)),EY _ (decide_eq_true (by omega)),EY _ (decide_eq_true (by omega))];refine(PH (X:=Int×List Int) (fun x=>0<=x.1/\x.1<=(l.length:Int)/\x.2.length=16*l.length/\x.2.take (16*x.1.toNat)=((l.take x.1.toNat).flatten).map iN) (fun x=>((l.length:Int) - x.1).toNat) (fun _=>some l.flatten) ?_ N _ ⟨by show(0:Int)<=0;omega,by show(0:Int)<=l.length;omega,by show(List.replicate _ _).length=_;rw[List.length_replicate];omega,by simp⟩ (by show((l.length:Int) - 0).toNat<N;omega));rintro ⟨t,y⟩ ⟨h1,h2,h3,h4⟩ k hk;have h1:0<=t:=h1;have h2:t<=(l.length:Int):=h2;have h3:y.length=16*l.length:=h3;have h4:y.take (16*t.toNat)=((l.take t.toNat).flatten).map iN:=h4;dsimp only[U2];by_cases hlt:t<(l.length:Int)
 ·have hi:t.toNat<l.length:=by omega
  have hg:l.getD t.toNat []=l[t.toNat]:=getD_lt _ _ _ hi;have h5:(l.getD t.toNat []).length=16:=by rw[hg];exact h16 _ (List.getElem_mem hi)
  have h6:l.take (t.toNat+1)=l.take t.toNat++[l.getD t.toNat []]:=by rw[hg,List.take_succ_eq_append_getElem hi]
  have h7:((l.take t.toNat).flatten).length=16*t.toNat:=by rw[AeU _ fun s hs=>h16 s (List.mem_of_mem_take hs),List.length_take];omega
  generalize l.getD t.toNat []=s at h5 h6 ⊢;rw[decide_eq_true hlt,cond_true,EY _ (decide_eq_true h1),EY _ rfl,w64 (x:=t*16) (by omega) (by omega),w64 (x:=t+1) (by omega) (by omega),EY _ (decide_eq_true (by omega)),EY _ (decide_eq_true (by omega)),EY _ (decide_eq_true (by omega)),EY _ (decide_eq_true (by omega))];have e16:(t*16).toNat=16*t.toNat:=by omega
  rw[e16];have h8:(y.take (16*t.toNat)).length=16*t.toNat:=by rw[List.length_take];omega
  refine hk _ ⟨by show 0<=t+1;omega,by show t+1<=_;omega,?_,?_⟩ (by show((l.length:Int) - (t+1)).toNat<((l.length:Int) - t).toNat;omega)
  ·show(jC y (16*t.toNat) s).length=_;unfold jC;simp only[List.length_append,List.length_map,List.length_drop,h8];omega
  ·show(jC y (16*t.toNat) s).take (16*(t+1).toNat)=((l.take (t+1).toNat).flatten).map iN;rw[show(t+1).toNat=t.toNat+1 by omega,h6,List.flatten_append,List.map_append,<- h4];unfold jC;rw[List.take_append_of_le_length (by simp only[List.length_append,List.length_map,h8];omega)];rw[List.take_of_length_le (by simp only[List.length_append,List.length_map,h8];omega)];simp [iN]
 ·have et:t.toNat=l.length:=by omega
  rw[decide_eq_false hlt,cond_false];rw[et,<- h3,List.take_length,List.take_length]at h4;rw[h4];show chk _ _=_;rw[EY _ (Aqo _),ApD]
theorem VD {n:Nat} {g:Nat->Bs} (h: ∀ i,(g i).length=16): ∀ s∈(List.range n).map g,s.length=16:=by intro s hs;obtain⟨i,_,rfl⟩:=List.mem_map.1 hs;exact h i
def Aso (N:Nat) (p0:Bs) (p1:Int) (l:List Bs):Bs:=hS N [[76],p0,b4P p1,l.flatten]
theorem Aa5 {N:Nat} (h:Big N) {p0:Bs} (h0:p0.length<=1000) (p1:Int) {l:List Bs} (hl:l.length<=60) (h16: ∀ s∈l,s.length=16):Us N p0 p1 l=some (Aso N p0 p1 l)/\(Aso N p0 p1 l).length=16:=by have hf:=AeU l h16;obtain⟨e1,e2⟩:=AeZ (N:=N) (l:=[[76],p0,b4P p1,l.flatten]) (hok h (by simp) (by simp only[List.all_cons,List.all_nil,hf,Bool.and_true,decide_eq_true h0];rw[decide_eq_true (by omega:16*l.length<=1000)];simp [b4P]));refine⟨?_,e2⟩;unfold Us;rw[Ajz,Dz,join_eq h (by omega) h16,Dz,e1];rfl
theorem yS (N:Nat) {p0:Bs} (h0:p0.length=16) {p:Int} (h1:0<=p) (h2:p<256):KN N p0 p=some 0:=by
 unfold KN;try simp -zeta only[Ap]
 rw[show((p0.length:Int) != 16)=false by rw[h0];rfl,decide_eq_false (by omega: ¬ p<0),decide_eq_false (by omega: ¬ p>=256)];rfl
theorem yT (N:Nat) {p0 p1:Bs} (h0:p0.length=16) (hs:p1.length=32) {p:Int} (h1:0<=p) (h2:p<256):NW N p0 p1 p=some 0:=by
 unfold NW;try simp -zeta only[Ap]
 rw[show((p0.length:Int) != 16)=false by rw[h0];rfl,show((p1.length:Int) != 32)=false by rw[hs];rfl];show Dk (KN N p0 p) _=_;rw[yS N h0 h1 h2];rfl
theorem Ael {N:Nat} (h:Big N) {p0 p1:Bs} (h0:p0.length<=1000) (hs:p1.length<=1000) (p2:Int) (i:Nat):(AlD N p0 p1 p2 i).length=16:=AqZ (st_len h h0 p2 i) _ _ _ (Tz h hs p2 i).2
def pkP (N:Nat) (p0 p1:Bs) (p2:Int):Bs:=Aso N p0 p2 ((List.range 35).map (AlD N p0 p1 p2))
theorem Apz {N:Nat} (h:Big N) {p0 p1:Bs} (h0:p0.length=16) (hs:p1.length=32) {p2:Int} (h1:0<=p2) (h2:p2<256):YB N p0 p1 p2=some (pkP N p0 p1 p2,0):=by
 have hn:=h.n;unfold YB;try simp -zeta only[Ap]
 rw[yT N h0 hs h1 h2];show D5 (X:=Int×List Bs) (Y:=List Bs) _ N (0,[]) _=_;refine(Ada 35 (AlD N p0 p1 p2) (fun i acc k hi ha=> ?_) (fun acc k ha=> ?_) (by omega)).trans ?_
 ·dsimp only[U2];rw[decide_eq_true (by omega:(i:Int)<35),cond_true,(Tz h (by omega) p2 i).1,Dz,walk_eq h (by omega) p2 i (Int.le_refl 0) (by omega) (Int.le_refl 15) (Tz h (by omega) p2 i).2,Dz,EY _ (decide_eq_true (by omega)),w64 (by omega) (by omega)];rfl
 ·rfl
 ·rw[(Aa5 h (by omega) p2 (by simp) (VD (Ael h (by omega) (by omega) p2))).1];rfl
theorem pk_len {N:Nat} (h:Big N) {p0 p1:Bs} (h0:p0.length=16) (hs:p1.length=32) (p2:Int):(pkP N p0 p1 p2).length=16:=(Aa5 h (by omega) p2 (by simp) (VD (Ael h (by omega) (by omega) p2))).2
def Dig (l:List Int):Prop:=l.length=35/\ ∀ i,0<=l.getD i 0/\l.getD i 0<=15
theorem Av6 (a:Nat) (h:a<256):0<=DX .and .u8 (a:Int) 15/\DX .and .u8 (a:Int) 15<=15:=by
 have: ∀ a:Fin 256,0<=DX .and .u8 ((a.val:Nat):Int) 15/\DX .and .u8 ((a.val:Nat):Int) 15<=15:=by decide +kernel
 exact this ⟨a,h⟩
theorem Ap4 (a:Nat) (h:a<1024):0<=DX .and .i64 (a:Int) 15/\DX .and .i64 (a:Int) 15<=15:=by
 have: ∀ a:Fin 1024,0<=DX .and .i64 ((a.val:Nat):Int) 15/\DX .and .i64 ((a.val:Nat):Int) 15<=15:=by decide +kernel
 exact this ⟨a,h⟩
theorem ArN {l:List Int} (h: ∀ x∈l,0<=x/\x<=15) (i:Nat):0<=l.getD i 0/\l.getD i 0<=15:=by
 by_cases hi:i<l.length
 ·rw[getD_lt _ _ _ hi];exact h _ (List.getElem_mem hi)
 ·rw[List.getD_eq_getElem?_getD,List.getElem?_eq_none (by omega)];simp
theorem Aoi (a b:Nat):(a:Int).fdiv (b:Int)=((a / b:Nat):Int):=by rw[Int.fdiv_eq_ediv_of_nonneg _ (Int.natCast_nonneg b)];rfl
theorem Anx {N:Nat} (h:Big N) {p:Bs} (hp:p.length=16):Tot (fun r=>r.2=0/\Dig r.1) (N9 N p):=by
 have hn:=h.n;unfold N9;try simp -zeta only[Ap]
 rw[show((p.length:Int) != 16)=false by rw[hp];rfl];refine Tot.chk (decide_eq_true (by omega)) ?_;show Tot _ (D5 (X:=Int×Int×List Int×List Int) _ N (0,0,p.map iN,[]) _);refine KX (fun x=>0<=x.2.1/\x.2.1<=16/\x.2.2.1=p.map iN/\(x.2.2.2.length:Int)=2*x.2.1/\(∀ d∈x.2.2.2,0<=d/\d<=15)/\0<=x.1/\x.1<=30*x.2.1) (fun x=>(16 - x.2.1).toNat) (Tot _) ?_ N _ ⟨by show(0:Int)<=0;omega,by show(0:Int)<=16;omega,rfl,rfl,(fun _ h=>by cases h),by show(0:Int)<=0;omega,by show(0:Int)<=30*0;omega⟩ (by show((16:Int) - 0).toNat<N;omega);rintro ⟨c,t,l,acc⟩ ⟨h1,h2,h3,h4,h5,h6,h7⟩ k hk;have h1:0<=t:=h1;have h2:t<=16:=h2;have h3:l=p.map iN:=h3;have h4:(acc.length:Int)=2*t:=h4;have h5: ∀ d∈acc,0<=d/\d<=15:=h5;have h6:0<=c:=h6;have h7:c<=30*t:=h7;dsimp only[U4];refine Tot.bif (fun hb=> ?_) fun hb=> ?_
 ·have hb:=of_decide_eq_true hb;rw[List.length_map,hp]at hb;have hl:t.toNat<l.length:=by rw[h3,List.length_map];omega
  obtain⟨a,ha,hlt⟩: ∃ a:Nat,l.getD t.toNat 0=(a:Int)/\a<256:=by rw[getD_lt _ _ _ hl];have hm:l[t.toNat]∈p.map iN:=h3▸List.getElem_mem hl;obtain⟨b,_,hb⟩:=List.mem_map.1 hm;exact⟨b.toNat,hb.symm,Atk b⟩
  obtain⟨q1,q2⟩:=Av6 a hlt;have hd:(a:Int).fdiv 16=((a / 16:Nat):Int):=Aoi a 16;rw[ha,hd];generalize DX .and .u8 (a:Int) 15=y at q1 q2 ⊢;rw[w64 (x:=((a / 16:Nat):Int)) (by omega) (by omega),w64 (x:=y) (by omega) (by omega),w64 (x:=15 - ((a / 16:Nat):Int)) (by omega) (by omega),w64 (x:=15 - ((a / 16:Nat):Int)+15) (by omega) (by omega),w64 (x:=15 - ((a / 16:Nat):Int)+15 - y) (by omega) (by omega),w64 (x:=t+1) (by omega) (by omega),w64 (by omega) (by omega)];refine Tot.chk (decide_eq_true h1) (Tot.chk (decide_eq_true (by omega)) (Tot.chk (decide_eq_true (by omega)) (Tot.chk (decide_eq_true (by omega)) (hk _ ⟨by show 0<=t+1;omega,by show t+1<=16;omega,h3,?_,?_,?_,?_⟩ ?_))))
  ·show((acc++[_,_]).length:Int)=2*(t+1);simp;omega
  ·intro d hd;have hd:d∈acc++[((a / 16:Nat):Int),y]:=hd;rcases List.mem_append.1 hd with hd | hd
   ·exact h5 d hd
   ·simp only[List.mem_cons,List.not_mem_nil,or_false]at hd;rcases hd with rfl | rfl<;>omega
  ·show 0<=c+(15 - ((a / 16:Nat):Int)+15 - y);omega
  ·show c+(15 - ((a / 16:Nat):Int)+15 - y)<=30*(t+1);omega
  ·show(16 - (t+1)).toNat<(16 - t).toNat
   omega
 ·have hb:=of_decide_eq_false hb;rw[List.length_map,hp]at hb;dsimp only[U2];refine Tot.chk (decide_eq_true (by omega)) (Tot.some ⟨rfl,?_,?_⟩)
  ·show(acc++[_,_,_]).length=35;simp;omega
  ·obtain⟨n,hn,hn2⟩: ∃ n:Nat,c=(n:Int)/\n<=480:=⟨c.toNat,by omega,by omega⟩
   refine ArN fun x hx=> ?_;have hx:x∈acc++[c.fdiv 256,DX .and .i64 (c.fdiv 16) 15,DX .and .i64 c 15]:=hx;rcases List.mem_append.1 hx with hx | hx
   ·exact h5 x hx
   ·simp only[List.mem_cons,List.not_mem_nil,or_false]at hx;subst hn;have e1:(n:Int).fdiv 256=((n / 256:Nat):Int):=Aoi n 256;have e2:(n:Int).fdiv 16=((n / 16:Nat):Int):=Aoi n 16;rcases hx with rfl | rfl | rfl
    ·rw[e1];omega
    ·rw[e2];exact Ap4 _ (by omega)
    ·exact Ap4 _ (by omega)
theorem Ar8: ∀(l:List Bs) (i:Nat),(∀ s∈l,s.length=16)->i<l.length->D9 l.flatten (16*i) (16*(i+1))=l.getD i []:=by
 intro l
 induction l with
 | nil=>intro i _ h;simp at h
 | cons a r ih =>
  intro i h hi;have ha:a.length=16:=h a List.mem_cons_self;cases i with
  | zero =>show((a++r.flatten).take (16*(0+1))).drop (16*0)=a;rw[List.take_append_of_le_length (by omega),List.take_of_length_le (by omega)];rfl
  | succ i =>have:=ih i (fun s hs=>h s (List.mem_cons_of_mem _ hs)) (by simpa using hi);show((a++r.flatten).take (16*(i+1+1))).drop (16*(i+1))=r.getD i [];rw[<- this];rw[show 16*(i+1+1)=a.length+16*(i+1) by omega,List.take_length_add_append,show 16*(i+1)=a.length+16*i by omega,List.drop_length_add_append];rw[ha,show 16+16*i=16*(i+1) by omega];rfl
def AgD (N:Nat) (d:Bs):List Int:=((N9 N d).getD ([],0)).1
theorem AhS {N:Nat} (h:Big N) {d:Bs} (hd:d.length=16):N9 N d=some (AgD N d,0)/\Dig (AgD N d):=by obtain⟨⟨l,e⟩,h1,h2,h3⟩:=Anx h hd;have h2:e=0:=h2;subst h2;unfold AgD;rw[h1];exact⟨rfl,h3⟩
def sgP (N:Nat) (p0 p1:Bs) (p2:Int) (d:Bs) (i:Nat):Bs:=wk (st N p0 p2 (i:Int)) 0 ((AgD N d).getD i 0).toNat (Apf N p1 p2 i)
def jK (N:Nat) (p0 p1:Bs) (p2:Int) (d:Bs):Bs:=((List.range 35).map (sgP N p0 p1 p2 d)).flatten
section
variable {N:Nat} (h:Big N) {p0 p1:Bs} (h0:p0.length=16) (hs:p1.length=32) {p2:Int} (h1:0<=p2) (h2:p2<256) {d:Bs} (hd:d.length=16)
include h h0 hs
theorem AbB (p2:Int) (d:Bs) (i:Nat):(sgP N p0 p1 p2 d i).length=16:=AqZ (st_len h (by omega) p2 i) _ _ _ (Tz h (by omega) p2 i).2
theorem sH (p2:Int) (d:Bs):(jK N p0 p1 p2 d).length=560:=by unfold jK;rw[AeU _ (VD (AbB h h0 hs p2 d)),List.length_map,List.length_range]
include h1 h2 hd
theorem Atn:qV N p0 p1 p2 d=some (jK N p0 p1 p2 d,0):=by
 have hn:=h.n;obtain⟨e1,e2,e3⟩:=AhS h hd;unfold qV;try simp -zeta only[Ap]
 rw[yT N h0 hs h1 h2,Dz];rw[show((0:Int) != 0)=false from rfl,cond_false];rw[e1,Dz];show D5 (X:=Int×List Bs) (Y:=List Bs) _ N (0,[]) _=_;refine(Ada 35 (sgP N p0 p1 p2 d) (fun i acc k hi ha=> ?_) (fun acc k ha=> ?_) (by omega)).trans ?_
 ·have e4:=e3 i;dsimp only[U2];rw[decide_eq_true (by omega:(i:Int)<35),cond_true,EY _ (decide_eq_true (by omega)),EY _ (decide_eq_true (by omega)),(Tz h (by omega) p2 i).1,Dz,Int.toNat_natCast,walk_eq h (by omega) p2 i (Int.le_refl 0) e4.1 e4.2 (Tz h (by omega) p2 i).2,Dz,EY _ (decide_eq_true (by omega)),w64 (by omega) (by omega),Int.sub_zero];rfl
 ·rfl
 ·rw[join_eq h (by simp) (VD (AbB h h0 hs p2 d))];rfl
theorem An0:Wj N p0 p2 d (jK N p0 p1 p2 d)=some (pkP N p0 p1 p2,0):=by
 have hn:=h.n;obtain⟨e1,e2,e3⟩:=AhS h hd;have hsl:=sH h h0 hs p2 d;unfold Wj;try simp -zeta only[Ap]
 rw[yS N h0 h1 h2,Dz];rw[show((0:Int) != 0)=false from rfl,cond_false];rw[e1,Dz];show(bif (((jK N p0 p1 p2 d).length:Int) != 560)then _ else _)=_;rw[show(((jK N p0 p1 p2 d).length:Int) != 560)=false by rw[hsl];rfl,cond_false];refine(Ada 35 (AlD N p0 p1 p2) (fun i acc k hi ha=> ?_) (fun acc k ha=> ?_) (by omega)).trans ?_
 ·have e4:=e3 i;have hc:D9 (jK N p0 p1 p2 d) (16*i) (16*(i+1))=sgP N p0 p1 p2 d i:=by unfold jK;rw[Ar8 _ _ (VD (AbB h h0 hs p2 d)) (by simpa using hi),getD_lt _ _ _ (by simpa using hi)];simp
  dsimp only[U2];rw[decide_eq_true (by omega:(i:Int)<35),cond_true,w64 (x:=(i:Int)*16) (by omega) (by omega),w64 (x:=(i:Int)+1) (by omega) (by omega),w64 (by omega) (by omega)];rw[EY _ (decide_eq_true (by omega)),EY _ (decide_eq_true (by omega)),EY _ (decide_eq_true (by omega)),EY _ (decide_eq_true (by omega)),EY _ (decide_eq_true (by omega)),show((i:Int)*16).toNat=16*i by omega,show(((i:Int)+1)*16).toNat=16*(i+1) by omega,hc,Int.toNat_natCast,walk_eq h (by omega) p2 i e4.1 e4.2 (Int.le_refl 15) (AbB h h0 hs p2 d i),Dz,EY _ (decide_eq_true (by omega))];congr 3;congr 1;unfold sgP AlD;rw[show(15:Nat)=((AgD N d).getD i 0).toNat+(15 - (AgD N d).getD i 0).toNat by omega,Av1];congr 1;omega
 ·rfl
 ·rw[(Aa5 h (by omega) p2 (by simp) (VD (Ael h (by omega) (by omega) p2))).1];rfl
end
end Go.Proofs.YtfgdgdnlglejbaaGreatDoor.Pl
namespace Go.Proofs.YtfgdgdnlglejbaaGreatDoor.Pl
open IntKind (i64)
open Go Vm
set_option linter.unusedSectionVars false
theorem ne_nil {s:Bs} (h:0<s.length):(s==([]:Bs))=false:=by cases s with | nil=>simp at h | cons a r=>rfl
def idP (N:Nat) (sd:Bs):Bs:=hS N [[73],sd]
def sW (N:Nat) (sd:Bs):TrT:=([],sd,idP N sd,0)
def iU (N:Nat) (sd:Bs):Bs:=pkP N (idP N sd) sd 0
def Wy (N:Nat) (sd:Bs):TrT:=([[iU N sd]],sd,idP N sd,0)
def Al1 (N:Nat) (sd:Bs):SgT:=(sd,0,0,[sW N sd])
def Al2 (N:Nat) (sd:Bs):SgT:=(sd,0,1,[Wy N sd])
def Aa4 (N:Nat) (sd:Bs):Int×Bs×Bs:=(0,idP N sd,iU N sd)
def Adv (N:Nat) (sd m:Bs):Bs:=hS N [[77],idP N sd,iU N sd,b4P 0,m]
def UK (N:Nat) (sd m:Bs):Bs:=b4P 0++jK N (idP N sd) sd 0 (Adv N sd m)
section
variable {N:Nat} (h:Big N) {sd:Bs} (hs:sd.length=32)
include h hs
theorem id_eq:Gy N [[73],sd]=some (idP N sd)/\(idP N sd).length=16:=AeZ (hok h (by simp) (by simp [hs]))
theorem Ane:(iU N sd).length=16:=pk_len h (id_eq h hs).2 hs 0
theorem AlJ:OI N sd 0=some (.inl (sW N sd,0)):=by
 unfold OI;try simp -zeta only[Ap]
 rw[show((sd.length:Int) != 32)=false by rw[hs];rfl,cond_false,(id_eq h hs).1];rfl
theorem xP (l:List (List Bs)) (k:Bs):Gj N (l,sd,k,0)=some (1,(l,sd,k,0)):=by
 unfold Gj GK;try simp -zeta only[Ap]
 rw[Dz,ne_nil (by rw[hs];decide)];rfl
theorem Au0:UL N sd 0=some (.inl (Al1 N sd,0)):=by
 have e:=xP h hs [] (idP N sd);unfold UL Abc;try simp -zeta only[Ap]
 rw[AlJ h hs,AhP];unfold sW;dsimp only;rw[e];rfl
theorem AvE:Hu N (sW N sd)=some (Wy N sd):=by
 obtain⟨M,rfl⟩: ∃ M,N=M+10:=⟨N - 10,by have:=h.n;omega⟩
 unfold Hu;try simp -zeta only[Ap]
 have e:=Apz h (id_eq h hs).2 hs (Int.le_refl 0) (by omega:(0:Int)<256);unfold sW;rw[MC];dsimp only[U6];rw[e];rfl
theorem AvF:Hu N (Wy N sd)=some (Wy N sd):=rfl
theorem Apy (t:TrT) (ht:Hu N t=some (Wy N sd)) (hv:t.2.1=sd):La N t=some (Aa4 N sd,Wy N sd):=by unfold La GK;rw[Dz,hv,ne_nil (by rw[hs];decide)];dsimp only;rw[Bool.not_false,Bool.not_true,cond_false,ht];rfl
theorem ApR {m:Bs} (hm:m.length+64<N):KL N (Aa4 N sd) 0 m=some (Adv N sd m)/\(Adv N sd m).length=16:=by
 have hn:=h.n
 obtain⟨e1,e2⟩:=AeZ (N:=N) (l:=[[77],idP N sd,iU N sd,b4P 0,m]) ⟨by omega,h.m,by simp;omega,fun s hs'=>by
  have i1:=(id_eq h hs).2;have i2:=Ane h hs;simp only[List.mem_cons,List.not_mem_nil,or_false]at hs';rcases hs' with rfl | rfl | rfl | rfl | rfl
  ·simp;omega
  ·omega
  ·omega
  ·simp [b4P];omega
  ·exact hm⟩
 refine⟨?_,e2⟩;unfold KL;rw[Aq2,Dz];show Dk (Gy N [[77],idP N sd,iU N sd,b4P 0,m]) _=_;rw[e1];rfl
theorem Arn {m:Bs} (hm:m.length+64<N) (l:List (List Bs)) (ht:Hu N (l,sd,idP N sd,0)=some (Wy N sd)):Ny N (l,sd,idP N sd,0) 0 m=some (UK N sd m,0,Wy N sd):=by
 have hn:=h.n;have e1:=xP h hs l (idP N sd);have e2:=Apy h hs (l,sd,idP N sd,0) ht rfl;obtain⟨e3,e4⟩:=ApR h hs hm;have e5:=Atn h (id_eq h hs).2 hs (Int.le_refl 0) (by omega) e4;have hl:=sH h (id_eq h hs).2 hs 0 (Adv N sd m);unfold Ny GK;try simp -zeta only[Ap]
 rw[Dz,ne_nil (by rw[hs];decide)];dsimp only;rw[e1];simp (decide:=true) only[Bool.not_false,Bool.not_true,cond_false,cond_true,Option.isSome_some,Bool.true_or,Bool.or_true,Gs,Option.getD_some,Int.lt_irrefl,decide_false];rw[e2,Dz];dsimp only[Wy];rw[beq_self_eq_true,beq_self_eq_true,Gs,Gs];refine(EY _ rfl).trans ?_;rw[e3,Dz,e5,Dz];dsimp only;rw[show((0:Int) != 0)=false from rfl,cond_false,Aq2,Dz,EY _ (decide_eq_true (by rw[hl];simp [b4P]))];obtain⟨M,rfl⟩: ∃ M,N=M+10:=⟨N - 10,by omega⟩
 rfl
theorem Arj {m:Bs} (hm:m.length+64<N):Jn N (Al1 N sd) m=some (UK N sd m,0,Al2 N sd):=by
 have e1:=xP h hs [] (idP N sd);have e2:=Arn h hs hm [] (AvE h hs);unfold Jn PV HY;try simp -zeta only[Ap]
 dsimp only[Al1,sW,Dz,List.headD_cons];rw[ne_nil (by rw[hs];decide),Bool.false_and,cond_false,cond_false,e1,Dz];dsimp only;rw[show(i64.wrap (1 - 0))=1 from rfl,Dz];dsimp only;rw[show((1:Int)==0)=false from rfl,cond_false,List.headD_cons,e2,Dz];rfl
theorem Atm:JD N (Al2 N sd)=some (Aa4 N sd,Al2 N sd):=by
 have e:=Apy h hs (Wy N sd) (AvF h hs) rfl;unfold JD HY;try simp -zeta only[Ap]
 dsimp only[Al2,List.headD_cons];rw[ne_nil (by rw[hs];decide),Bool.false_and,Dz];dsimp only;rw[cond_false,List.headD_cons,e,Dz];dsimp only;rw[beq_self_eq_true,beq_self_eq_true,Gs,Gs];rfl
theorem Anz {m:Bs} (hm:m.length+64<N):Ry N (Aa4 N sd) m (UK N sd m)=some 0:=by
 have hn:=h.n;obtain⟨e3,e4⟩:=ApR h hs hm;have e5:=An0 h (id_eq h hs).2 hs (Int.le_refl 0) (by omega) e4;have hl:=sH h (id_eq h hs).2 hs 0 (Adv N sd m);have hk:=Ane h hs;have hi:=(id_eq h hs).2;have h4:(b4P 0).length=4:=rfl
 have hc:Kt N (Aa4 N sd)=some 0:=by
  unfold Kt Aa4;try simp -zeta only[Ap]
  try dsimp only
  rw[show((List.length (idP N sd):Int) != 16)=false by rw[hi];rfl,show((List.length (iU N sd):Int) != 16)=false by rw[hk];rfl];rfl
 have hsl:(UK N sd m).length=564:=by unfold UK;rw[List.length_append,hl,h4]
 have c1:D9 (UK N sd m) 0 4=b4P 0:=by unfold D9 UK;rw[List.take_append_of_le_length (by omega)];rfl
 have c2:D9 (UK N sd m) 4 564=jK N (idP N sd) sd 0 (Adv N sd m):=by unfold D9;rw[List.take_of_length_le (by omega)];unfold UK;exact List.drop_left' h4
 have hf:Wh N (UK N sd m)=some (0,true):=by
  unfold Wh;try simp -zeta only[Ap]
  rw[c1,hsl];obtain⟨M,rfl⟩: ∃ M,N=M+10:=⟨N - 10,by omega⟩
  rfl
 unfold Ry;try simp -zeta only[Ap]
 rw[hc,Dz,show((0:Int) != 0)=false from rfl,cond_false,hsl,hf,Dz];dsimp only[Aa4];rw[show((((564:Nat):Int)) != i64.wrap (564+i64.wrap (0*16)))=false from rfl,cond_false];refine(EY _ rfl).trans ?_;rw[decide_eq_false (by decide: ¬(0:Int)>=i64.wrap (1*2 ^ min (IntKind.u64.wrap 0).toNat 64)),cond_false];have e3':KL N (0,idP N sd,iU N sd) 0 m=_:=e3;rw[e3',Dz];refine(EY _ rfl).trans ?_;rw[c2,e5,Dz];dsimp only;rw[show((0:Int) != 0)=false from rfl,cond_false];refine(EY _ rfl).trans ?_;obtain⟨M,rfl⟩: ∃ M,N=M+10:=⟨N - 10,by omega⟩
 rw[MC];dsimp only[U6,U4];rw[decide_eq_false (by decide: ¬(0:Int)<0),cond_false];show(bif !(iU (M+10) sd==iU (M+10) sd)then _ else _)=_;rw[beq_self_eq_true];rfl
end
end Go.Proofs.YtfgdgdnlglejbaaGreatDoor.Pl
namespace Go.Proofs.YtfgdgdnlglejbaaGreatDoor.Pl
open IntKind (i64)
open Go Vm
set_option linter.unusedSectionVars false
section
variable {N:Nat} (h:Big N) {sd:Bs} (hs:sd.length=32)
include h hs
end
end Go.Proofs.YtfgdgdnlglejbaaGreatDoor.Pl
namespace Go.Proofs.YtfgdgdnlglejbaaGreatDoor.Pl
open IntKind (i64)
open Go Vm
def W32 (w:List Int):List Int:=(List.range 8).flatMap fun i=>[IntKind.u8.wrap ((w.getD i 0).fdiv 16777216),IntKind.u8.wrap ((w.getD i 0).fdiv 65536),IntKind.u8.wrap ((w.getD i 0).fdiv 256),IntKind.u8.wrap (w.getD i 0)]
def kF (N:Nat) (t6g:List Int):Option Bs :=
 D5 (X:=Int×List Int) (Y:=(List Int)) (U2 fun t76h l1028672h k8 x9 =>
 bif decide (t76h<(t6g.length:Int))then(chk (decide ((0:Int)<=t76h)) <|
 chk (decide (t76h<(t6g.length:Int))) <|
 chk (decide ((l1028672h.length+4)*2<=140737488355328)) <|
 let y56576:List Int:=l1028672h++([IntKind.u8.wrap ((t6g.getD t76h.toNat 0).fdiv (16777216)),IntKind.u8.wrap ((t6g.getD t76h.toNat 0).fdiv (65536)),IntKind.u8.wrap ((t6g.getD t76h.toNat 0).fdiv (256)),IntKind.u8.wrap (t6g.getD t76h.toNat 0)]:List Int)
 k8 (i64.wrap (t76h+(1:Int)),y56576))
 else(x9 l1028672h))
 N (0,([]:List Int)) (fun l1032768i =>
 chk (List.all l1032768i isByte) <|
 some (List.map Vm.byteOf l1032768i))
def Aak:List Int:=[1779033703,3144134277,1013904242,2773480762,1359893119,2600822924,528734635,1541459225]
def blk4 (a b c d:UInt8):Bs:=[115,101,101,100,a,b,c,d,128]++List.replicate 54 0++[64]
theorem AnD {α :Type} {b:Bool} {x y: α} (h:b=true):(bif b then x else y)=x:=by rw[h];rfl
theorem AnC {α :Type} {b:Bool} {x y: α} (h:b=false):(bif b then x else y)=y:=by rw[h];rfl
theorem Au5 {α β ρ :Type} (f: α -> β -> ρ) (a: α) (b: β):U2 f (a,b)=f a b:=rfl
theorem Atv {α ρ :Type} [Inhabited α] {x y:Option α} {f g: α ->Option ρ} (h:x=y) (hf: ∀ r,f r=g r):Dk x f=Dk y g:=by rw[h,funext hf]
theorem An3 {α β γ δ ρ :Type} (f: α -> β -> γ -> δ -> ρ) (a: α) (b: β) (k: γ) (x: δ):U2 f (a,b) k x=f a b k x:=rfl
theorem Au6 {α β ε γ δ ρ :Type} (f: α -> β -> ε -> γ -> δ -> ρ) (a: α) (b: β) (c: ε) (k: γ) (x: δ):U3 f (a,b,c) k x=f a b c k x:=rfl
def pd4:List Int:=[128]++List.replicate 54 0++[64]
theorem Awf (M:Nat) (a b c d:UInt8):fG (M+300) [[115,101,101,100],[a,b,c,d]]=Dk (QZ (M+300) Aak (blk4 a b c d)) (kF (M+300)):=by
 unfold fG;try simp -zeta only[Ap]
 generalize QZ (M+300)=R;refine((?h1: ∀ K:Bs->Option Bs,D5 _ (M+300) (([]:Bs),(0:Int)) K=K [115,101,101,100,a,b,c,d]) _).trans ?_
 case h1 =>
  intro K
  iterate 2
   refine(MC _ _ _ _).trans ?_;refine(An3 _ _ _ _ _).trans ?_;refine(AnD (by kernel_rfl)).trans ?_
   iterate 3 refine(EY _ (by kernel_rfl)).trans ?_
  refine(MC _ _ _ _).trans ?_;refine(An3 _ _ _ _ _).trans ?_;exact(AnC (by kernel_rfl)).trans rfl
 rw[YM];rw[show(i64.wrap (64 - (i64.wrap ((([115,101,101,100,a,b,c,d]:Bs).length:Int)+9)).tmod 64)==64)=false by kernel_rfl,cond_false];rw[show i64.wrap (64 - (i64.wrap ((([115,101,101,100,a,b,c,d]:Bs).length:Int)+9)).tmod 64)=47 by kernel_rfl];refine(Au5 _ _ _).trans ?_
 iterate 5 refine(EY _ (by kernel_rfl)).trans ?_
 refine((?h2: ∀ K:List Int×List Int->Option Bs,D5 _ (M+300) ((0:Int),Aak,_) K=K (Aak,pd4)) _).trans ?_
 case h2 =>
  intro K
  iterate 8
   refine(MC _ _ _ _).trans ?_;refine(Au6 _ _ _ _ _ _).trans ?_;refine(AnD (by kernel_rfl)).trans ?_
   iterate 4 refine(EY _ (by kernel_rfl)).trans ?_
  refine(MC _ _ _ _).trans ?_;refine(Au6 _ _ _ _ _ _).trans ?_;refine(AnC (by kernel_rfl)).trans ?_;exact congrArg (fun l=>K (Aak,l)) (of_decide_eq_true (by kernel_rfl))
 refine(Au5 _ _ _).trans ?_
 iterate 2 refine(EY _ (by kernel_rfl)).trans ?_
 refine((?h3: ∀ K:List Int->Option Bs,D5 _ (M+300) (Aak,(0:Int)) K=Dk (R Aak (blk4 a b c d)) K) _).trans ?_
 case h3 =>
  intro K;refine(MC _ _ _ _).trans ?_;refine(An3 _ _ _ _ _).trans ?_;refine(AnD (by kernel_rfl)).trans ?_
  iterate 3 refine(EY _ (by kernel_rfl)).trans ?_
  refine Atv (congrArg (R Aak) ?_) fun r=> ?_
  ·rfl
  ·refine(MC _ _ _ _).trans ?_;refine(An3 _ _ _ _ _).trans ?_;exact AnC (by kernel_rfl)
 rfl
theorem Avj (M:Nat) (a b c d:UInt8):((QZ (M+300) Aak (blk4 a b c d)).map List.length)=some 8:=by kernel_rfl
theorem kF8 (M:Nat) (a b c d e f g h:Int):kF (M+300) [a,b,c,d,e,f,g,h]=chk (List.all (W32 [a,b,c,d,e,f,g,h]) isByte) (some (List.map Vm.byteOf (W32 [a,b,c,d,e,f,g,h]))):=by kernel_rfl
theorem As3 (M:Nat) (p:Int): ∃ s,KZ (M+300) p=some s/\s.length=32:=by
 have e:rO (M+300) p=some (b4P p):=by
  unfold rO;try simp -zeta only[Ap]
  rw[EY _ (by simp [KW])];rfl
 unfold KZ;rw[e,Dz];obtain⟨a,b,c,d,hb⟩: ∃ a b c d,b4P p=[a,b,c,d]:=⟨_,_,_,_,rfl⟩
 rw[hb,Awf];obtain⟨w,hw,hl⟩:=Option.map_eq_some_iff.1 (Avj M a b c d);rw[hw,Dz]
 match w,hl with
 | [a,b,c,d,e,f,g,h],_ =>rw[kF8,EY _ (by simp [W32,KW,List.range_succ]),Dz];exact⟨_,rfl,by simp [W32,List.range_succ]⟩
abbrev Crt:Type:=Bs×Bs×Int×List (List Att)×List (List Att)×Int×Int×Int×Bs×Bs×Bool×Bool×Int×Int×List Bs×List Bs×List (Bs×Bs)×Int×Int×Int×List Gn×Bool×List Gn×List Gn×Bs×Bs×List Pt×List Pt×List Ex×Bs
structure Aux (se:Int) (is su:List (List Att)) (nb nf kh:Int) (ki kr:Bs) (x:Info):Prop where
 ne:is≠ []
 tt:nb<=nf
 se:1<=se/\se<=300
 is:okN is
 su:okN su
 nb:nb∈Rl
 nf:nf∈Rl
 kh:0<=kh/\kh<9
 ki:ki.length=16
 kr:kr.length=16
 x:OkI x
structure AjI (se:Int) (is z:List (List Att)) (nb nf kh:Int) (ki kr:Bs) (y:Info):Prop extends Aux se is z nb nf kh ki kr y where
 cs:y.2.1=true->z≠ []
def Arf:Crt->Prop
 | (_,_,se,is,su,nb,nf,kh,ki,kr,hb,ca,pl,us,pu,po,ma,re,im,ia,na,hc,pe,ex,sk,ak,pt,fr,un,_)=>AjI se is su nb nf kh ki kr (hb,ca,pl,us,pu,po,ma,re,im,ia,na,hc,pe,ex,sk,ak,pt,fr,un)
section
variable (N:Nat) (hN:1048700<N) {L:List Int} (hL:L.length<=9223372036854775807)
include hN hL
theorem ArT {d:List Int×Int} (hd:EF L d):Ends (fun r=>((0<=r.1.1/\r.1.1<9)/\r.1.2.1.length=16/\r.1.2.2.length=16)/\EF L r.2) (qK N d):=by
 unfold qK;try simp only[clR]
 refine D8 (nx N hL hd 50 (by omega) (by omega)) ?_;rintro ⟨r,e⟩ ⟨h0,h1,h2⟩;dsimp only at h0 h1 h2 ⊢;obtain⟨s,e2,hs⟩: ∃ s,KZ N r=some s/\s.length=32:=by have:=As3 (N - 300) r;rwa [show N - 300+300=N by omega]at this
 rw[e2,Dz];refine D8 (nx N hL h2 9 (by omega) (by omega)) ?_;rintro ⟨r,e⟩ ⟨h0,h1,h2⟩;dsimp only at h0 h1 h2 ⊢;refine DD (decide_eq_true (by omega)) (DD (decide_eq_true (by omega)) (DV ⟨⟨⟨h0,h1⟩,?_,?_⟩,h2⟩))
 ·dsimp only;unfold D9;rw[List.length_drop,List.length_take];omega
 ·dsimp only;unfold D9;rw[List.length_drop,List.length_take];omega
theorem ApG {d:List Int×Int} (hd:EF L d):Ends (fun r=>Arf r.1/\EF L r.2) (KY N d):=by
 unfold KY;try simp only[clR]
 refine D8 (nx N hL hd 300 (by omega) (by omega)) ?_;rintro ⟨se,d1⟩ ⟨s0,s1,hd⟩;dsimp only at s0 s1 hd ⊢;refine D8 (nx N hL hd 16 (by omega) (by omega)) ?_;rintro ⟨q,d1⟩ ⟨q0,q1,hd⟩;dsimp only at q0 q1 hd ⊢;have aut1: ∀ v,(∃ j:Nat,j<16/\v=aut j)->okN v/\v≠ []:=fun v h=>by obtain⟨j,hj,rfl⟩:=h;have A:=AjV (N:=N) (by omega) hj;exact⟨A.ok,A.ne⟩
 refine D8 (Aib (YQ N (by omega) q0 q1) aut1) fun is ⟨his,hne⟩=> ?_;refine D8 (Ahk N (by omega) hL hd) ?_;rintro ⟨su,d1⟩ ⟨hsu,hd⟩;dsimp only at hsu hd ⊢;refine D8 (Anu N hL hd) ?_;rintro ⟨nb,d1⟩ ⟨hnb,hd⟩;dsimp only at hnb hd ⊢;refine D8 (Anu N hL hd) ?_;rintro ⟨nf,d1⟩ ⟨hnf,hd⟩;dsimp only at hnf hd ⊢;refine D8 (ArT N hN hL hd) ?_;rintro ⟨⟨kh,ki,kr⟩,d1⟩ ⟨⟨hkh,hki,hkr⟩,hd⟩;dsimp only at hkh hki hkr hd ⊢;refine D8 (AtN N (by omega) hL hd) ?_;rintro ⟨⟨hb,ca,pl,us,pu,po,ma,re,im,ia,na,hc,pe,ex,sk,ak,pt,fr,un⟩,a,b⟩ ⟨hx,hd⟩;dsimp only at hd ⊢;rw[w64 (by omega) (by omega)];refine SY (P:=fun y=>EF L (y.1,y.2.1)/\Aux y.2.2.1 y.2.2.2.1 y.2.2.2.2.1 y.2.2.2.2.2.1 y.2.2.2.2.2.2.1 y.2.2.2.2.2.2.2.1 y.2.2.2.2.2.2.2.2.1 y.2.2.2.2.2.2.2.2.2.1 y.2.2.2.2.2.2.2.2.2.2) (fun j hj=>DI (fun ht=>hj _ ⟨hd,⟨hne,by have:=of_decide_eq_true ht;dsimp only;omega,by dsimp only;omega,his,hsu,hnf,hnb,hkh,hki,hkr,hx⟩⟩) (fun ht=>hj _ ⟨hd,⟨hne,by have:=of_decide_eq_false ht;dsimp only;omega,by dsimp only;omega,his,hsu,hnb,hnf,hkh,hki,hkr,hx⟩⟩)) ?_;clear hx his hsu hnb hnf hkh hki hkr hd hne;rintro ⟨a,b,se,is,su,nb,nf,kh,ki,kr,hb,ca,pl,us,pu,po,ma,re,im,ia,na,hc,pe,ex,sk,ak,pt,fr,un⟩ ⟨hd,hP⟩;dsimp only at hd hP;dsimp only[U29];try simp only[clR]
 refine DI (fun _=>D8 (Aib (YQ N (by omega) (k:=1) (by omega) (by omega)) aut1) fun q ⟨hq,hne⟩=>DV ⟨(show AjI _ _ _ _ _ _ _ _ _ from⟨{hP with su:=hq},fun _=>hne⟩),hd⟩) (fun hs=>DV ⟨(show AjI _ _ _ _ _ _ _ _ _ from⟨hP,fun hc he=> ?_⟩),hd⟩);dsimp only at hc;rw[hc,he]at hs;cases hs
end
end Go.Proofs.YtfgdgdnlglejbaaGreatDoor.Pl
namespace Go.Proofs.YtfgdgdnlglejbaaGreatDoor.Pl
open IntKind (i64)
open Go Vm
def shO (o:Option (Bs×Int)):Bool:=match o with
 | some r=>decide (r.1.length<=60)
 | none=>false
def shB (o:Option Bs):Bool:=match o with
 | some r=>decide (r.length<=60)
 | none=>false
theorem Aum {o:Option (Bs×Int)} (h:shO o=true):Ends (fun r=>r.1.length<=60) o:=by
 cases o with
 | none=>cases h
 | some r=>exact DV (of_decide_eq_true h)
theorem Anr {o:Option Bs} (h:shB o=true):Ends (fun r=>r.length<=60) o:=by
 cases o with
 | none=>cases h
 | some r=>exact DV (of_decide_eq_true h)
theorem Auq (M:Nat):Rl.all (fun t=>shO (IV (M+300) t))=true:=by kernel_rfl
theorem Aub (M:Nat):(List.range 301).all (fun k=>shB (FC (M+300) 2 (k:Int)))=true:=by kernel_rfl
theorem Atq (M:Nat):shB (Iq (M+300))=true:=by kernel_rfl
section
variable (N:Nat) (hN:1048700<N)
include hN
theorem AlB {t:Int} (h:t∈Rl):Ends (fun r=>r.1.length<=60) (IV N t):=by have:=List.all_eq_true.1 (Auq (N - 300)) t h;rw[show N - 300+300=N by omega]at this;exact Aum this
theorem Ani {n:Int} (h0:0<=n) (h1:n<=300):Ends (fun r=>r.length<=60) (FC N 2 n):=by
 have:=List.all_eq_true.1 (Aub (N - 300)) n.toNat (List.mem_range.2 (by omega))
 rw[show N - 300+300=N by omega,show((n.toNat:Nat):Int)=n by omega]at this;exact Anr this
theorem Agr:Ends (fun r=>r.length<=60) (Iq N):=by have:=Atq (N - 300);rw[show N - 300+300=N by omega]at this;exact Anr this
omit hN in
theorem xN (k:Int×Bs×Bs):Ends (fun _=>True) (MM N k):=by
 unfold MM;try simp -zeta only[Ap]
 generalize decide (k.1<0)=a;generalize decide (k.1>8)=b;generalize ((k.2.1.length:Int) != 16)=c;generalize ((k.2.2.length:Int) != 16)=d;cases a<;>cases b<;>cases c<;>cases d<;>exact⟨_,rfl,trivial⟩
omit hN in
theorem Auv {k:Int} (h0:0<=k) (h1:k<9):Ends (fun r=>r.length=1) (AdX N k):=by
 have:k=0\/k=1\/k=2\/k=3\/k=4\/k=5\/k=6\/k=7\/k=8:=by omega
 rcases this with rfl | rfl | rfl | rfl | rfl | rfl | rfl | rfl | rfl<;>exact⟨_,rfl,rfl⟩
theorem AtU {k:Int} {i r:Bs} (h0:0<=k) (h1:k<9) (hi:i.length=16) (hr:r.length=16):Ends (fun r=>r.1.length<=200) (OO N (k,i,r)):=by
 unfold OO;try simp only[clR]
 refine D8 (xN N _) fun v _=>DI (fun _=>DV (Nat.zero_le _)) (fun _=> ?_);refine D8 (Agr N hN) fun a ha=> ?_;refine D8 (P:=fun q=>q.length=33) ?_ fun q hq=> ?_
 ·unfold AaU;try simp -zeta only[Ap]
  try dsimp only
  refine D8 (Auv N h0 h1) fun b hb=>DD (decide_eq_true (by omega)) (DD (decide_eq_true (by rw[List.length_append];omega)) (DV ?_));rw[List.length_append,List.length_append];omega
 refine DD (decide_eq_true (by omega)) ?_;have w1:DR N 3 ([([0]:Bs)++q]:List Bs)=some (Sp.elem 3 (0::q)):=by have:=MN N 3 [([0]:Bs)++q] (by omega) (by omega) (by omega) (by simp) (by simp;omega);rwa [Ez]at this
 have l1:=Sp.Eb 3 (0::q);rw[List.length_cons]at l1;have w2:DR N 48 [a,Sp.elem 3 (0::q)]=some (Sp.elem 48 (a++Sp.elem 3 (0::q))):=by have:=MN N 48 [a,Sp.elem 3 (0::q)] (by omega) (by omega) (by omega) (by simp) (by rw[VW,List.length_append];omega);rwa [VW]at this
 have l2:=Sp.Eb 48 (a++Sp.elem 3 (0::q));rw[List.length_append]at l2;rw[w1,Dz,w2,Dz];exact DV (by dsimp only;omega)
theorem Anf {n:List (List Att)} (h:okN n):Ends (fun r=>r.1.length<=4493) (Hw N n):=by have hl:=Ab0 (N:=N) (by omega) h;rw[ZM (N:=N) (by omega) h];exact DV (by dsimp only;omega)
theorem Aiz {c:Crt} (hC:Arf c):Ends (fun _=>True) (OM N c):=by
 obtain⟨c0,c1,se,is,su,nb,nf,kh,ki,kr,hb,ca,pl,us,pu,po,ma,re,im,ia,na,hc,pe,ex,sk,ak,pt,fr,un,sg⟩:=c;have hC:AjI se is su nb nf kh ki kr (hb,ca,pl,us,pu,po,ma,re,im,ia,na,hc,pe,ex,sk,ak,pt,fr,un):=hC;unfold OM;try simp -zeta only[Ap]
 try dsimp only
 try simp only[clR]
 refine DI (fun _=>DV trivial) (fun _=>DI (fun _=>DV trivial) (fun _=> ?_));rw[Og (N:=N) (by omega) hC.is,Dz];refine DI (fun _=>DV trivial) (fun _=>DI (fun _=>DV trivial) (fun _=> ?_));rw[Og (N:=N) (by omega) hC.su,Dz];refine DI (fun _=>DV trivial) (fun _=>DI (fun _=>DV trivial) (fun _=> ?_));refine D8 (xN N _) fun v _=>DI (fun _=>DV trivial) (fun _=> ?_);rw[Anc (N:=N) (by omega) hC.x,Dz];exact DV trivial
theorem Aup {c:Crt} (hC:Arf c):Ends (fun r=>r.1.length<=131077) (O8 N c):=by
 refine D8 (Aiz N hN hC) fun v _=>DI (fun _=>DV (Nat.zero_le _)) (fun _=> ?_);obtain⟨c0,c1,se,is,su,nb,nf,kh,ki,kr,hb,ca,pl,us,pu,po,ma,re,im,ia,na,hc,pe,ex,sk,ak,pt,fr,un,sg⟩:=c;have hC:AjI se is su nb nf kh ki kr (hb,ca,pl,us,pu,po,ma,re,im,ia,na,hc,pe,ex,sk,ak,pt,fr,un):=hC;dsimp only;refine D8 (Anf N hN hC.is) fun a1 h1=> ?_;refine D8 (Anf N hN hC.su) fun a2 h2=> ?_;refine D8 (AlB N hN hC.nb) fun a3 h3=> ?_;refine D8 (AlB N hN hC.nf) fun a4 h4=> ?_;refine D8 (AtU N hN hC.kh.1 hC.kh.2 hC.ki hC.kr) fun a5 h5=> ?_;refine D8 (AgO N hN hC.x) fun a6 h6=> ?_;refine DI (fun _=>DV (Nat.zero_le _)) (fun _=> ?_);refine D8 (Ani N hN (n:=2) (by omega) (by omega)) fun a7 h7=> ?_;have w1:DR N 160 ([a7]:List Bs)=some (Sp.elem 160 a7):=by have:=MN N 160 [a7] (by omega) (by omega) (by omega) (by simp) (by rw[Ez];omega);rwa [Ez]at this
 have l1:=Sp.Eb 160 a7;rw[w1,Dz];refine D8 (Ani N hN (n:=se) (by have:=hC.se;omega) (by have:=hC.se;omega)) fun a8 h8=> ?_;refine D8 (Agr N hN) fun a9 h9=> ?_;have w2:DR N 48 [a3.1,a4.1]=some (Sp.elem 48 (a3.1++a4.1)):=by have:=MN N 48 [a3.1,a4.1] (by omega) (by omega) (by omega) (by simp) (by rw[VW,List.length_append];omega);rwa [VW]at this
 have l2:=Sp.Eb 48 (a3.1++a4.1);rw[List.length_append]at l2;rw[w2,Dz];exact D8 (zS N hN 48 [Sp.elem 160 a7,a8,a9,a1.1,Sp.elem 48 (a3.1++a4.1),a2.1,a5.1,a6.1] (by omega) (by omega) (by simp) (by simp only[List.flatten_cons,List.flatten_nil,List.length_append,List.length_nil];omega)) fun r hr=>DV hr
end
end Go.Proofs.YtfgdgdnlglejbaaGreatDoor.Pl
namespace Go.Proofs.YtfgdgdnlglejbaaGreatDoor.Pl
open IntKind (i64)
open Go Vm
theorem Avo (N:Nat) (s:Bs):Uz N s 0=some true:=rfl
theorem Asq (N:Nat) {s:Bs} (hs:s.length<=60000):PL N s 0=some (0::s,0):=by
 unfold PL;try simp -zeta only[Ap]
 rw[Avo];try simp only[clR]
 refine(EY _ rfl).trans ?_;refine(EY _ (decide_eq_true (by simp;omega))).trans rfl
theorem Art (M:Nat):Iy (M+300)=Iq (M+300):=by kernel_rfl
section
variable (N:Nat) (hN:1048700<N)
include hN
theorem Aba {x sig:Bs} (hx:x.length<=1000000) (hs:sig.length<=60000): ∃ v,H6 N x sig=some v/\Lh N x sig=some v:=by
 obtain⟨a,ha,hal⟩:=Agr N hN;have hk:Iy N=some a:=by have:=Art (N - 300);rw[show N - 300+300=N by omega]at this;rw[this,ha]
 have f3:Ej N false 3 [0::sig]=_:=Awg N 3 false [0::sig] (by omega) (by omega) (by omega) (by simp) (by rw[Ez,List.length_cons];omega);rw[Ez]at f3;have g3:Fb N 3 [[0],sig]=_:=Aem N 3 [[0],sig] (by omega) (by omega) (by show 2<N;omega) (by show 2<=_;omega) (by rw[VW,List.length_append,List.length_singleton];omega);rw[VW,bF (by rw[List.length_append,List.length_singleton];omega)]at g3;have f48:Ej N false 48 [x,a,Sp.elem 3 (0::sig)]=_:=AmN N 48 false [x,a,Sp.elem 3 (0::sig)] (by omega) (by omega) (by show 3<N;omega) (by show 3<=_;omega);have l3:=Sp.Eb 3 (0::sig);rw[List.length_cons]at l3;have g48:Fb N 48 [x,a,Sp.elem 3 (0::sig)]=_:=Aem N 48 [x,a,Sp.elem 3 (0::sig)] (by omega) (by omega) (by show 3<N;omega) (by show 3<=_;omega) (by rw[flat3,List.length_append,List.length_append];omega);unfold H6 Lh;rw[AeG N x 48 (by omega) (by omega),AsL N x 48 (by omega) (by omega),Dz,Dz];by_cases h:(AdI x 48).2=0
 ·rw[Akb h,cond_false,cond_false];have e1:Ie N false x sig=some ((I9 48 [x,a,Sp.elem 3 (0::sig)].flatten).getD [],(I9 48 [x,a,Sp.elem 3 (0::sig)].flatten).isNone,x,sig):=by unfold Ie;rw[hk,Dz,Asq N hs,Dz];have t:Eh N false (0::sig) 0=some (0::sig,false):=rfl;rw[t,Dz];dsimp only;rw[f3,Dz];unfold EN;dsimp only;rw[f48,Dz,Dz];rfl
  rw[e1,Dz,g3,Dz];rw[show(((Option.some (Sp.elem 3 ([0]++sig))).getD [],if(some (Sp.elem 3 ([0]++sig))).isNone=true then 2 else 0):Bs×Int).2=0 from rfl,show((0:Int) != 0)=false from rfl,cond_false,ha,Dz];show ∃ v,Dk (Gu N (I9 48 [x,a,Sp.elem 3 (0::sig)].flatten).isNone) _=some v/\Dk (Fb N 48 [x,a,Sp.elem 3 (0::sig)]) _=some v;rw[g48,Dz];unfold Gu;rw[Dz];cases I9 48 [x,a,Sp.elem 3 (0::sig)].flatten with
  | none=>exact⟨_,rfl,rfl⟩
  | some r=>exact⟨_,rfl,rfl⟩
 ·rw[YS h,cond_true,cond_true];exact⟨_,rfl,rfl⟩
theorem Aed {p q:Bs} {l:List Int} (hl:l.length<=9223372036854775807) (hw:Jb N=some true):JR N p q l=some true:=by
 unfold JR;try simp only[clR]
 cases hb:(decide ((p.length:Int)>300)||decide ((q.length:Int)>300))with
 | true=>rw[cond_true,hw];rfl
 | false =>
  rw[Bool.or_eq_false_iff,decide_eq_false_iff_not,decide_eq_false_iff_not]at hb;rw[cond_false];have hd:EF l (l,0):=⟨0,rfl,Nat.zero_le _⟩
  have hn:VC N l=some (l,0):=rfl;rw[hn,Dz];obtain⟨⟨c,d⟩,hc,hC,_⟩:=ApG N hN hl hd;rw[hc,Dz];obtain⟨⟨s,e⟩,hs,hS⟩:=Aup N hN hC;dsimp only at hS ⊢;rw[hs,Dz];dsimp only;rw[decide_eq_true (by omega),Gs];obtain⟨v1,a1,b1⟩:=Aba N hN (x:=p) (sig:=q) (by omega) (by omega);obtain⟨v2,a2,b2⟩:=Aba N hN (x:=s) (sig:=q) (by omega) (by omega);obtain⟨v3,a3,b3⟩:=Aba N hN (x:=s++p) (sig:=q) (by rw[List.length_append];omega) (by omega)
  have key:Ends (fun r=>r=true) (D5 (X:=Int×List Bs) (Y:=Unit) (U2 fun t38a l41984a k1 x2 =>
   bif decide (t38a<(3:Int))then(chk (decide ((0:Int)<=t38a)) <|
   chk (decide (t38a<(l41984a.length:Int))) <|
   chk (decide (t38a.toNat<l41984a.length)) <|
   Dk (H6 N (l41984a.getD t38a.toNat ([]:Bs)) q) fun r45 =>
   Dk (Lh N (l41984a.getD t38a.toNat ([]:Bs)) q) fun r51 =>
   bif !(r45.1==r51.1)||(r45.2 != r51.2)then(some false)
   else(k1 (i64.wrap (t38a+(1:Int)),l41984a)))
   else(x2 ()))
   N (0,([p,s,s++p]:List Bs)) (fun _=>Dk (Jb N) fun r63=>some r63)):=by
   refine F5 (fun x=>x=(0,[p,s,s++p])\/x=(1,[p,s,s++p])\/x=(2,[p,s,s++p])\/x=(3,[p,s,s++p])) (fun x=>(3 - x.1).toNat) ?_ N _ (Or.inl rfl) (by show 3<N;omega);have stp: ∀ {v:Bs×Int} (A:Option Bool),(bif !(v.1==v.1)||(v.2 != v.2)then some false else A)=A:=by intro v A;simp
   rintro x h k hk;rcases h with rfl | rfl | rfl | rfl
   ·show Ends _ (Dk (H6 N p q) fun r45=>Dk (Lh N p q) fun r51=>bif !(r45.1==r51.1)||(r45.2 != r51.2)then some false else k (1,[p,s,s++p]));rw[a1,Dz,b1,Dz,stp];exact hk _ (Or.inr (Or.inl rfl)) (by dsimp only;omega)
   ·show Ends _ (Dk (H6 N s q) fun r45=>Dk (Lh N s q) fun r51=>bif !(r45.1==r51.1)||(r45.2 != r51.2)then some false else k (2,[p,s,s++p]));rw[a2,Dz,b2,Dz,stp];exact hk _ (Or.inr (Or.inr (Or.inl rfl))) (by dsimp only;omega)
   ·show Ends _ (Dk (H6 N (s++p) q) fun r45=>Dk (Lh N (s++p) q) fun r51=>bif !(r45.1==r51.1)||(r45.2 != r51.2)then some false else k (3,[p,s,s++p]));rw[a3,Dz,b3,Dz,stp];exact hk _ (Or.inr (Or.inr (Or.inr rfl))) (by dsimp only;omega)
   ·show Ends _ (Dk (Jb N) fun r63=>some r63);rw[hw,Dz];exact DV rfl
  obtain⟨v,hv,rfl⟩:=key;exact hv
end
end Go.Proofs.YtfgdgdnlglejbaaGreatDoor.Pl
namespace Go.Proofs.YtfgdgdnlglejbaaGreatDoor.Pl
open IntKind (i64)
open Go Vm
abbrev CrT:Type:=Bs×Bs×Int×List RnT×List RnT×Int×Int×Int×Bs×Bs×Bool×Bool×Int×Int×List Bs×List Bs×List (Bs×Bs)×Int×Int×Int×List GnT×Bool×List GnT×List GnT×Bs×Bs×List PtT×List PtT×List (Bs×Bool×Bs)×Bs
def N0:Nat:=2097152
theorem Aka:Big N0:=⟨by decide,by decide⟩
def crR:CrT×List Int×Int:=(KY N0 ([],0)).getD default
def crA:CrT:=crR.1
theorem Atz:KY N0 ([],0)=some (crA,crR.2):=by kernel_rfl
def aX:Bs:=((MW N0 crA).getD default).1
theorem Auo:MW N0 crA=some (aX,0):=by kernel_rfl
theorem AsC:(decide (aX.length<=1000))=true:=by kernel_rfl
def sgF (f:Nat->UInt8):Bs:=(List.range 564).map f
def outA (f:Nat->UInt8):Bs:=((H6 N0 aX (sgF f)).getD default).1
theorem Aug (f:Nat->UInt8):H6 N0 aX (sgF f)=some (outA f,0):=by kernel_rfl
def AgC (f:Nat->UInt8):CrT:=((QO N0 (outA f)).getD default).1
theorem At3 (f:Nat->UInt8):QO N0 (outA f)=some (AgC f,0):=by kernel_rfl
theorem ArA (f:Nat->UInt8):(AgC f).1=outA f:=by kernel_rfl
theorem ArC (f:Nat->UInt8):(AgC f).2.1=aX:=by kernel_rfl
theorem ArB (f:Nat->UInt8):(AgC f).2.2.2.2.2.2.2.2.2.2.2.2.2.2.2.2.2.2.2.2.2.2.2.2.2.2.2.2.2=sgF f:=by kernel_rfl
theorem zero_eq:MW N0 (([]:Bs),([]:Bs),0,([]:List RnT),([]:List RnT),0,0,0,([]:Bs),([]:Bs),false,false,0,0,([]:List Bs),([]:List Bs),([]:List (Bs×Bs)),0,0,0,([]:List GnT),false,([]:List GnT),([]:List GnT),([]:Bs),([]:Bs),([]:List PtT),([]:List PtT),([]:List (Bs×Bool×Bs)),([]:Bs))=some ([],21):=by kernel_rfl
def sd1:Bs:=(KZ N0 1).getD []
theorem Avm:KZ N0 1=some sd1:=by kernel_rfl
theorem nR:sd1.length=32:=by kernel_rfl
theorem Avn {l:Bs} (h:l.length=564):sgF (fun i=>l.getD i 0)=l:=by
 unfold sgF;rw[<- h];apply List.ext_getElem
 ·simp
 ·intro i h1 h2;simp [List.getD_eq_getElem?_getD,h2]
theorem As5 {N:Nat} (h:Big N) {sd:Bs} (hs:sd.length=32) (m:Bs):(UK N sd m).length=564:=by unfold UK;rw[List.length_append,sH h (id_eq h hs).2 hs 0 (Adv N sd m)];rfl
def fA:Nat->UInt8:=fun i=>(UK N0 sd1 aX).getD i 0
theorem AsU:sgF fA=UK N0 sd1 aX:=Avn (As5 Aka nR aX)
theorem Ant:aX.length+64<N0:=by have:=of_decide_eq_true AsC;show _<2097152;omega
attribute [irreducible] N0 crA crR aX outA AgC sd1
theorem Ari:TJ N0 crA (Al1 N0 sd1)=some (outA fA,0,Al2 N0 sd1):=by
 have e1:=Arj Aka nR Ant;have e2:=Aug fA;rw[AsU]at e2;unfold TJ;try simp -zeta only[Ap]
 rw[Auo,Dz];dsimp only;rw[show((0:Int) != 0)=false from rfl,cond_false];have e1':Jn N0 (sd1,0,0,[sW N0 sd1]) aX=_:=e1;dsimp only[Al1,List.headD_cons];rw[e1',Dz];dsimp only;rw[show((0:Int) != 0)=false from rfl,cond_false,e2,Dz];rfl
theorem Ap1:QP N0 (AgC fA) (Aa4 N0 sd1)=some 0:=by
 unfold QP;try simp -zeta only[Ap]
 rw[ArC,ArB,AsU,Anz Aka nR Ant];rfl
theorem Ap6 {N:Nat} {sd out:Bs} {t0 t1:TrT} {c dec:CrT} {d:List Int×Int} {k:Int×Bs×Bs} (h1:KZ N 1=some sd) (h2:UL N sd 0=some (.inl ((sd,0,0,[t0]),0))) (h3:KY N ([],0)=some (c,d))
 (h4:TJ N c (sd,0,0,[t0])=some (out,0,(sd,0,1,[t1])))
 (h5:QO N out=some (dec,0)) (h6:MW N (([]:Bs),([]:Bs),0,([]:List RnT),([]:List RnT),0,0,0,([]:Bs),([]:Bs),false,false,0,0,([]:List Bs),([]:List Bs),([]:List (Bs×Bs)),0,0,0,([]:List GnT),false,([]:List GnT),([]:List GnT),([]:Bs),([]:Bs),([]:List PtT),([]:List PtT),([]:List (Bs×Bool×Bs)),([]:Bs))=some ([],21)) (h7:dec.1=out) (h8:JD N (sd,0,1,[t1])=some (k,(sd,0,1,[t1]))) (h9:QP N dec k=some 0):Jb N=some true:=by
 unfold Jb;try simp -zeta only[Ap]
 rw[h1,Dz,h2,AhP];dsimp only;simp (decide:=true) only[cond_true,cond_false,Gs,Bool.not_true,Bool.not_false,Bool.or_true,Bool.true_or,bne_self_eq_false];rw[show VC N []=some ([],0)from rfl,Dz,h3,Dz];dsimp only[List.headD_cons];rw[h4,Dz];dsimp only;rw[h5,Dz,h6,Dz];dsimp only[List.headD_cons];rw[h7];simp (decide:=true) only[cond_true,cond_false,Gs,Aha,beq_self_eq_true];rw[h8,Dz];dsimp only;rw[h9,Dz];rfl
theorem Arv:Jb N0=some true:=Ap6 Avm (Au0 Aka nR) Atz Ari (At3 fA) zero_eq (ArA fA) (Atm Aka nR) Ap1
unseal N0 in
theorem Ape (p q:Bs) (l:List Int) (hl:l.length<=9223372036854775807):JR 2097152 p q l=some true:=Aed 2097152 (by omega) hl Arv
end Go.Proofs.YtfgdgdnlglejbaaGreatDoor.Pl
namespace Go.Proofs.YtfgdgdnlglejbaaGreatDoor.Vm
open Go.ChangeShapes Go.WideShapes
def nobody:Own:=fun _ _=>none
def Asi:A->Prop
 | .int k n=>k.min<=n/\n<=k.max
 | .str s=>s.length<=9223372036854775807
 | _=>True
def okN:Nat->A->Prop
 | 0,_=>False
 | n+1,.sl l=>l.xs.length<=9223372036854775807/\ ∀ c∈l.es,∀ a∈c,okN n a
 | _+1,a=>Asi a
structure Opened (n:Nat) (w:World) (ks:List CK) (cs:List Value) (aa:List A):Prop where
 lc:cs.length=ks.length
 la:aa.length=ks.length
 rel: ∀ j,j<ks.length->D7 nobody w (cs.getD j undef) (aa.getD j .undef)
 made:((tyl ks).mk aa).1=true
 ok: ∀ a∈aa,okN n a
theorem AuW: ∀(n:Nat) (a:A),okN n a->okN (n+1) a:=by
 intro n
 induction n with
 | zero=>intro a h;exact h.elim
 | succ n ih =>intro a h;cases a<;>first | exact h | exact⟨h.1,fun c hc z hz=>ih z (h.2 c hc z hz)⟩
theorem Opened.up {n:Nat} {w:World} {ks:List CK} {cs:List Value} {aa:List A} (h:Opened n w ks cs aa):Opened (n+1) w ks cs aa:=⟨h.lc,h.la,h.rel,h.made,fun a ha=>AuW n a (h.ok a ha)⟩
theorem Aq3: ∀(a:List CK) {b:List CK} {x y:List A},((tyl a).mk x).1=true->((tyl b).mk y).1=true->((tyl (a++b)).mk (x++y)).1=true:=by
 intro a
 induction a with
 | nil =>
  intro b x y hx hy;cases x with
  | nil=>exact hy
  | cons _ _=>cases hx
 | cons k a ih =>
  intro b x y hx hy;cases k with
  | bool =>
   cases x with
   | nil=>cases hx
   | cons c x=>cases c<;>first | exact ih (x:=x) hx hy | cases hx
  | int k =>
   cases x with
   | nil=>cases hx
   | cons c x =>
    cases c<;>first
     | (simp only[tyl,Ty.mk,Bool.and_eq_true]at hx
        simp only[List.cons_append,tyl,Ty.mk,Bool.and_eq_true];exact⟨hx.1,ih hx.2 hy⟩)
     | cases hx
  | str =>
   cases x with
   | nil=>cases hx
   | cons c x=>cases c<;>first | exact ih (x:=x) hx hy | cases hx
  | sl e t =>
   cases x with
   | nil=>cases hx
   | cons c x =>
    cases c with
    | sl l =>
     simp only[tyl,Ty.mk]at hx;simp only[List.cons_append,tyl,Ty.mk];cases hc:l.cast t with
     | none=>rw[hc]at hx;cases hx
     | some xs=>rw[hc]at hx;exact ih (x:=x) hx hy
    | _=>cases hx
  | sln e t =>
   cases x with
   | nil=>cases hx
   | cons c x =>
    cases c with
    | sl l =>
     simp only[tyl,Ty.mk]at hx;simp only[List.cons_append,tyl,Ty.mk];cases hc:l.cast t with
     | none=>rw[hc]at hx;cases hx
     | some xs=>rw[hc]at hx;exact ih (x:=x) hx hy
    | _=>cases hx
  | ptr =>
   cases x with
   | nil=>cases hx
   | cons c x=>cases c<;>first | exact ih (x:=x) hx hy | cases hx
  | fn =>
   cases x with
   | nil=>cases hx
   | cons c x=>cases c<;>first | exact ih (x:=x) hx hy | cases hx
  | mp kt vt =>
   cases x with
   | nil=>cases hx
   | cons c x =>
    cases c with
    | ump l =>
     simp only[tyl,Ty.mk]at hx;simp only[List.cons_append,tyl,Ty.mk];cases hc:l.cast kt vt with
     | none=>rw[hc]at hx;cases hx
     | some xs=>rw[hc]at hx;exact ih (x:=x) hx hy
    | _=>cases hx
  | bx t =>
   cases x with
   | nil=>cases hx
   | cons c x =>
    cases c with
    | sl l =>
     simp only[tyl,Ty.mk]at hx;simp only[List.cons_append,tyl,Ty.mk];cases hc:l.cast t with
     | none=>rw[hc]at hx;cases hx
     | some xs=>rw[hc]at hx;exact ih (x:=x) hx hy
    | _=>cases hx
  | oth =>
   cases x with
   | nil=>cases hx
   | cons c x=>cases c<;>first | exact ih (x:=x) hx hy | cases hx
theorem Opened.nil {n:Nat} {w:World}:Opened n w [] [] []:=⟨rfl,rfl,fun j hj=>absurd hj (Nat.not_lt_zero j),rfl,fun a ha=>(by cases ha)⟩
theorem Opened.append {n:Nat} {w:World} {a b:List CK} {x y:List Value} {p q:List A} (h1:Opened n w a x p) (h2:Opened n w b y q):Opened n w (a++b) (x++y) (p++q):=by
 refine⟨by simp [h1.lc,h2.lc],by simp [h1.la,h2.la],fun j hj=> ?_,Aq3 a h1.made h2.made,fun z hz=> ?_⟩
 ·rw[List.length_append]at hj;by_cases h:j<a.length
  ·have:=h1.rel j h;rw[List.getD_eq_getElem?_getD,List.getElem?_append_left (by rw[h1.lc];exact h),<- List.getD_eq_getElem?_getD,List.getD_eq_getElem?_getD (l:=p++q),List.getElem?_append_left (by rw[h1.la];exact h),<- List.getD_eq_getElem?_getD];exact this
  ·have:=h2.rel (j - a.length) (by omega);rw[List.getD_eq_getElem?_getD,List.getElem?_append_right (by rw[h1.lc];omega),<- List.getD_eq_getElem?_getD,List.getD_eq_getElem?_getD (l:=p++q),List.getElem?_append_right (by rw[h1.la];omega),<- List.getD_eq_getElem?_getD,h1.lc,h1.la];exact this
 ·rcases List.mem_append.1 hz with hz | hz
  ·exact h1.ok z hz
  ·exact h2.ok z hz
theorem Opened.one {n:Nat} {w:World} {k:CK} {v:Value} {a:A} (hr:D7 nobody w v a) (hm:((tyl [k]).mk [a]).1=true) (ho:okN n a):Opened n w [k] [v] [a] :=
 ⟨rfl,rfl,fun j hj=>by
   have:j=0:=by simp at hj;omega
   subst this;exact hr,hm,fun z hz=>by rw[List.mem_singleton.1 hz];exact ho⟩
def VT (P:Program) (n t:Nat):Nat:=match Ib P n t with | some cs=>cs.length | none=>0
def Af5 (P:Program) (n:Nat):List Field->Nat->Bool
 | [],_=>true
 | f::r,o=>Nat.beq f.offset o&&Nat.beq (P.cellsOf f.type) (VT P n f.type)&&Af5 P n r (o+VT P n f.type)
def mV (P:Program):Nat->Nat->Bool
 | 0,_=>false
 | n+1,t=>match P.underlying t with
  | some .bool=>true
  | some (.int _)=>true
  | some .string=>true
  | some (.slice e)=>mV P n e&&Nat.beq (P.cellsOf e) (VT P n e)&&Nat.blt 0 (VT P n e)&&(match Ib P n e with | some cs=>cs.all CK.plain | none=>false)
  | some (.struct fs)=>Nat.beq (P.cellsOf t) (VT P (n+1) t)&&Af5 P n fs.toList 0&&fs.toList.all (fun f=>mV P n f.type)
  | _=>false
section
variable {H:Type} {enc:TypeId×Value->H} {P:Program} {w:World} {base:Nat} {spare:Nat->Bool} {held:Bool}
theorem yA {a:Addr} {n:Nat} {cs:List Value} (h:w.cells? base a n=some cs):cs.length=n/\ ∀ j,j<n->w.cell? (a.add j)=some (cs.getD j undef):=by
 unfold World.cells? at h;split at h
 ·have key: ∀(l:List Nat) (cs:List Value),l.mapM (fun i=>w.cell? (a.add i))=some cs->cs.length=l.length/\ ∀ j (hj:j<l.length),w.cell? (a.add l[j])=some (cs.getD j undef):=by
   intro l
   induction l with
   | nil=>grind
   | cons i l ih =>
    intro cs h;rw[List.mapM_cons]at h;cases h1:w.cell? (a.add i)with
    | none=>rw[h1]at h;cases h
    | some v =>
     rw[h1]at h;cases h2:l.mapM (fun i=>w.cell? (a.add i))with
     | none=>rw[h2]at h;cases h
     | some r =>
      rw[h2]at h;injection h with h;subst h;obtain⟨k1,k2⟩:=ih r h2;refine⟨by simp [k1],fun j hj=> ?_⟩;cases j with
      | zero=>exact h1
      | succ j=>grind
  all_goals grind
 ·cases h
theorem As9 {l:List Value} {o a b:Nat}:(l.drop o).take (a+b)=(l.drop o).take a++(l.drop (o+a)).take b:=by rw[List.take_add,List.drop_drop]
theorem sJ (e:Nat) (t:Ty) (xs:List t.Val):((tyl [.sl e t]).mk [.sl ⟨t,xs⟩]).1=true:=by simp only[tyl,Ty.mk];rw[Sl.WC];rfl
theorem AmJ (hspare: ∀ b,spare b=true): ∀(n:Nat) (t:TypeId) (ks:List CK) (fuel:Nat) (cs:List Value) (x:DataW H×List MemPlace),Ib P n t=some ks->mV P n t=true->DataW.trod enc P w base spare held fuel t cs=some x ->
 ∃ aa,Opened n w ks cs aa:=by
 intro n
 induction n with
 | zero=>intro t ks fuel cs x h;cases h
 | succ n ih =>
  intro t ks fuel cs x hck hok h;unfold Ib at hck;unfold mV at hok;cases hu:P.underlying t with
  | none=>rw[hu]at hck;cases hck
  | some d =>
   rw[hu]at hck hok;cases d with
   | bool =>injection hck with hck;subst hck;obtain⟨b,rfl,_⟩:=DataW.trod_bool hu h;exact⟨[.bool b],Opened.one (.bool b) rfl trivial⟩
   | int k =>
    injection hck with hck;subst hck;obtain⟨v,rfl,_,hw⟩:=DataW.trod_int hu h;have hk:Asi (.int k v):=by unfold Lit.wf at hw;rw[Bool.and_eq_true,decide_eq_true_eq,decide_eq_true_eq]at hw;exact hw
    exact⟨[.int k v],Opened.one (.int k v) (by cases k<;>rfl) hk⟩
   | string =>
    injection hck with hck;subst hck;obtain⟨v,rfl,_,hw⟩:=DataW.trod_string hu h
    have hk:Asi (.str v.data.toList):=by
     show v.data.toList.length<=_;have e:v.data.toList.length=v.size:=by rw[Array.length_toList];rfl
     have:maxLen=9223372036854775807:=rfl;omega
    exact⟨[.str v.data.toList],Opened.one (.str v) rfl hk⟩
   | slice e =>
    dsimp only at hck hok;simp only[Bool.and_eq_true]at hok;obtain⟨⟨⟨hoe,hce⟩,hc0⟩,hpl⟩:=hok;cases hke:Ib P n e with
    | none=>rw[hke]at hpl;cases hpl
    | some ke =>
     rw[hke]at hck hpl;dsimp only at hck hpl;rw[hpl]at hck;injection hck with hck;subst hck;have hlen:P.cellsOf e=ke.length:=by have:=Nat.eq_of_beq_eq_true hce;unfold VT at this;rw[hke]at this;exact this
     rcases DataW.trod_slice hu h with ⟨rfl,_⟩ | ⟨a,len,cap,elems,rest,m,_,rfl,_,hb,hl,hm,hel,hels,hsp,_⟩
     ·exact⟨[.sl ⟨tyl ke,[]⟩],Opened.one (.nil _) (sJ _ _ _) ⟨Nat.zero_le _,fun c hc=>(by cases hc)⟩⟩
     ·by_cases hcap:cap=0
      ·have hlen0:len=0:=by omega
       subst hcap;subst hlen0;exact⟨[.sl ⟨tyl ke,[]⟩],Opened.one (.sl0 a _) (sJ _ _ _) ⟨Nat.zero_le _,fun c hc=>(by cases hc)⟩⟩
      have hk0:0<P.cellsOf e:=by have h2:=Nat.eq_of_beq_eq_true hce;rw[h2];simpa using hc0
      have hread: ∃ u,w.cell? a=some u:=by
       by_cases h0:0<len
       ·have he:=hels 0 h0;rw[List.getElem?_eq_getElem (by omega:0<elems.length),Option.bind_eq_some_iff]at he;obtain⟨q,hq,_⟩:=he;obtain⟨_,k2⟩:=yA hq;have:=k2 0 hk0;rw[Nat.zero_mul]at this;exact⟨_,this⟩
       ·have hz:len=0:=by omega
        obtain⟨hr1,hr2⟩:=hsp (hspare _);have he:=hr2 0 (by omega);rw[List.getElem?_eq_getElem (by omega:0<rest.length),Option.bind_eq_some_iff]at he;obtain⟨q,hq,_⟩:=he;obtain⟨_,k2⟩:=yA hq;have:=k2 0 hk0;rw[hz,Nat.zero_mul]at this;exact⟨_,this⟩
      have hspot:a.spot=none:=by
       obtain⟨u,hu⟩:=hread;unfold World.cell? at hu;split at hu
       ·cases hs:a.spot with
        | none=>rfl
        | some z=>rw[hs]at hu;cases hu
       ·cases hu
      have ha:a=at' a.block a.off:=by obtain⟨b,o,sp⟩:=a;dsimp only at hspot;rw[hspot]
      have each: ∀ i,∃(q:List Value) (aa:List A),i<len->(∀ j,j<ke.length->w.cell? (at' a.block (a.off+(i*ke.length+j)))=some (q.getD j undef))/\Opened n w ke q aa:=by
       intro i;by_cases hi:i<len
       ·have he:=hels i hi;have hei:elems[i]? =some (elems[i]'(by omega)):=List.getElem?_eq_getElem (by omega);rw[hei,Option.bind_eq_some_iff]at he;obtain⟨q,hq,hq2⟩:=he;obtain⟨k1,k2⟩:=yA hq;rw[hlen]at k1 k2;obtain⟨aa,h1⟩:=ih e ke m q _ hke hoe hq2;refine⟨q,aa,fun _=>⟨fun j hj=> ?_,h1⟩⟩;have:=k2 j hj;rw[ha,KQ,KQ]at this;rw[<- this];congr 2;omega
       ·exact⟨[],[],fun h=>absurd h hi⟩
      obtain⟨q,hq⟩:=Classical.axiomOfChoice each;obtain⟨aa,haa⟩:=Classical.axiomOfChoice hq;let l:Sl:=⟨tyl ke,(List.range len).map fun i=>((tyl ke).mk (aa i)).2⟩
      have hes:l.es=(List.range len).map aa:=by show((List.range len).map fun i=>((tyl ke).mk (aa i)).2).map (tyl ke).cells=_;rw[List.map_map];refine List.map_congr_left fun i hi=> ?_;exact Ty.LH _ _ (haa i (List.mem_range.1 hi)).2.made
      have hesl:l.es.length=len:=by rw[hes,List.length_map,List.length_range]
      have hsz:l.sz=ke.length:=Qy ke;have hget: ∀ i,i<len->l.es.getD i []=aa i:=fun i hi=>by rw[hes,List.getD_eq_getElem?_getD,List.getElem?_map,List.getElem?_range hi];rfl
      have hrel:D7 nobody w (.slice (some a) len cap) (.sl l):=by
       rw[ha,<- hesl];refine D7.sl (fun i j=>(q i).getD j undef) (by rw[hesl];exact hl) (fun i j hi hj=> ?_) (fun i j hi hj=> ?_)
       ·rw[hsz]at hj ⊢;exact⟨rfl,(haa i (by rw[<- hesl];exact hi)).1 j hj⟩
       ·rw[hsz]at hj;have hi':i<len:=by rw[<- hesl];exact hi
        rw[hget i hi'];exact(haa i hi').2.rel j hj
      refine⟨[.sl l],Opened.one hrel (sJ _ _ _) ⟨?_,fun c hc z hz=> ?_⟩⟩
      ·show((List.range len).map _).length<=_;rw[List.length_map,List.length_range];have:maxLen=9223372036854775807:=rfl;omega
      ·rw[hes]at hc;obtain⟨i,hi,rfl⟩:=List.mem_map.1 hc;exact(haa i (List.mem_range.1 hi)).2.ok z hz
   | struct fs =>
    dsimp only at hck hok;simp only[Bool.and_eq_true]at hok;obtain⟨⟨hcl,hoff⟩,hall⟩:=hok;obtain⟨xs,m,_,_,hl,hxl,hxs⟩:=DataW.trod_struct hu h
    have fields: ∀(l:List Field) (o:Nat) (ks:List CK),l.foldr (fun f acc=>match Ib P n f.type,acc with | some a,some b=>some (a++b) | _,_=>none) (some [])=some ks->Af5 P n l o=true->(∀ f∈l,mV P n f.type=true) ->
     (∀ f∈l,∃ y,DataW.trod enc P w base spare held m f.type ((cs.drop f.offset).take (P.cellsOf f.type))=some y)-> ∃ aa,Opened n w ks ((cs.drop o).take ks.length) aa:=by
     intro l
     induction l with
     | nil =>intro o ks hk _ _ _;injection hk with hk;subst hk;exact⟨[],Opened.nil⟩
     | cons f r ihr =>
      intro o ks hk ho hf hy;rw[List.foldr_cons]at hk;cases ha:Ib P n f.type with
      | none=>rw[ha]at hk;cases hk
      | some a =>
       rw[ha]at hk;cases hb:r.foldr (fun f acc=>match Ib P n f.type,acc with | some a,some b=>some (a++b) | _,_=>none) (some [])with
       | none=>rw[hb]at hk;cases hk
       | some b =>
        rw[hb]at hk;injection hk with hk;subst hk;have hal:VT P n f.type=a.length:=by unfold VT;rw[ha]
        unfold Af5 at ho;simp only[Bool.and_eq_true]at ho;obtain⟨⟨h1,h2⟩,h3⟩:=ho;have h1:=Nat.eq_of_beq_eq_true h1;have h2:=Nat.eq_of_beq_eq_true h2;rw[hal]at h2 h3;obtain⟨y,hy1⟩:=hy f List.mem_cons_self;rw[h1,h2]at hy1;obtain⟨pa,p1⟩:=ih f.type a m _ y ha (hf f List.mem_cons_self) hy1;obtain⟨pb,q1⟩:=ihr (o+a.length) b hb h3 (fun g hg=>hf g (List.mem_cons_of_mem _ hg)) (fun g hg=>hy g (List.mem_cons_of_mem _ hg));refine⟨pa++pb,?_⟩;rw[List.length_append,As9];exact p1.append q1
    obtain⟨aa,h1⟩:=fields fs.toList 0 ks hck hoff (fun f hf=>List.all_eq_true.1 hall f hf) (fun f hf=>by
     obtain⟨i,hi⟩:=List.getElem?_of_mem hf;have hi':fs[i]? =some f:=by rw[<- Array.getElem?_toList];exact hi
     have:=hxs i f hi';have hlt:i<xs.length:=by rw[hxl];exact(Array.getElem?_eq_some_iff.1 hi').1
     rw[List.getElem?_eq_getElem hlt]at this;exact⟨_,this⟩)
    have hcs:(cs.drop 0).take ks.length=cs:=by
     rw[List.drop_zero];refine List.take_of_length_le ?_;have h3:=Nat.eq_of_beq_eq_true hcl;have h4:VT P (n+1) t=ks.length:=by unfold VT Ib;rw[hu];dsimp only;rw[hck]
     omega
    rw[hcs]at h1;exact⟨aa,h1.up⟩
   | _=>cases hok
theorem AnM {r:Reach} {b0:Nat} {u:TypeId} {cs:Array Value} (h:Cell.okWide P w r b0 u (.agg cs)):False:=by
 have h':Cell.ok P w r b0 u (.agg cs):=by unfold Cell.okWide at h;all_goals grind
 unfold Cell.ok at h';all_goals grind
def Au8 (P:Program) (t:TypeId):Bool:=match P.underlying t with
 | some (.struct _)=>true
 | some (.array _ _)=>true
 | _=>false
theorem open_cell {r:Reach} {b0 n:Nat} {t:TypeId} {v:Value} {d:DataW H} {ps:List MemPlace} {k:CK} (hck:Ib P n t=some [k]) (hspare: ∀ b,spare b=true) (hok:mV P n t=true) (ha:Au8 P t=false) (hval:Value.okWide P w r b0 t v) (hd:DataW.Trod enc P w base spare held t v d ps) :
 ∃ a,D7 nobody w v a/\((tyl [k]).mk [a]).1=true/\okN n a:=by
 have hc:Cell.okWide P w r b0 t v:=by unfold Value.okWide at hval;all_goals grind[Au8]
 have hcells:v.cells.toList=[v]:=by
  cases v with
  | agg cs=>exact(AnM hc).elim
  | _=>rfl
 obtain⟨fuel,h⟩:=hd;rw[hcells]at h;obtain⟨aa,h1⟩:=AmJ hspare n t [k] fuel [v] _ hck hok h;obtain⟨a,rfl⟩: ∃ a,aa=[a]:=List.length_eq_one_iff.1 h1.la;exact⟨a,h1.rel 0 (by show 0<1;omega),h1.made,h1.ok a List.mem_cons_self⟩
theorem Opened.ir {n:Nat} {ks:List CK} {cs:Array Value} {aa:List A} (h:Opened n w ks cs.toList aa) (id:Nat):IR nobody w id (.agg cs) (.agg aa):=by
 refine⟨cs,rfl,?_,fun j hj=>D7.ic ?_⟩
 ·rw[<- Array.length_toList,h.lc,h.la]
 ·have:=h.rel j (by rw[<- h.la];exact hj);all_goals simp_all[CK,IR,nobody]
theorem D7.ir {id:Nat} {v:Value} {a:A} (h:D7 nobody w v a):IR nobody w id v a:=by have:=h.ic (id:=id);cases h<;>exact this
end
end Go.Proofs.YtfgdgdnlglejbaaGreatDoor.Vm
namespace Go.Proofs.YtfgdgdnlglejbaaGreatDoor.Vm
open Go Go.Lib
abbrev tabs:List (String×DataW Unit):=[("math/bits.deBruijn32tab",Rows.laid_math_bits_deBruijn32tab),("math/bits.deBruijn64tab",Rows.laid_math_bits_deBruijn64tab),("internal/strconv.uint64pow10",Rows.laid_internal_strconv_uint64pow10),("unicode/utf8.acceptRanges",Rows.laid_unicode_utf8_acceptRanges),("certpath/date.lengths",Rows.laid_certpath_date_lengths),("unicode/utf8.first",Rows.laid_unicode_utf8_first)]
def Awc:DataW Unit->Value
 | .lit (.int k n)=>.int k n
 | _=>undef
def AhB:DataW Unit->List Value
 | .agg l=>l.map Awc
 | _=>[]
def Awe:DataW Unit->List Value
 | .agg l=>l.flatMap AhB
 | _=>[]
noncomputable def laidWorld (os:Os):World :=
 let w0:=World.holding Tryz.prog os ⟨#[],#[],[]⟩
 {w0 with heap:=(((((w0.heap.modify 2 fun
  | .cells _ t frozen=>.cells (AhB Rows.laid_internal_strconv_uint64pow10).toArray t frozen
  | o=>o).modify 3 fun
  | .cells _ t frozen=>.cells (AhB Rows.laid_unicode_utf8_first).toArray t frozen
  | o=>o).modify 4 fun
  | .cells _ t frozen=>.cells (Awe Rows.laid_unicode_utf8_acceptRanges).toArray t frozen
  | o=>o).modify 5 fun
  | .cells _ t frozen=>.cells (AhB Rows.laid_math_bits_deBruijn32tab).toArray t frozen
  | o=>o).modify 0 fun
  | .cells _ t frozen=>.cells (AhB Rows.laid_certpath_date_lengths).toArray t frozen
  | o=>o).modify 6 fun
  | .cells _ t frozen=>.cells (AhB Rows.laid_math_bits_deBruijn64tab).toArray t frozen
  | o=>o}
theorem laid_met (os:Os) (args:Array Value):laidMet Tryz.prog tabs ((laidWorld os).forCall (fun _ _=>0) ⟨#[],args,[]⟩).memory :=
 laidMet_of_run' 8 (by kernel_rfl) (by kernel_rfl)
set_option maxRecDepth 1000000 in
theorem AjS {W:World} (h:laidMet Tryz.prog tabs W) {nm:String} {D:DataW Unit} (hm:(nm,D)∈tabs) {g tA tE n:Nat} {k:IntKind} {f:Nat->Int} (hg0:Tryz.prog.globalNamed nm=some g) (ht0:(Tryz.prog.globals[g]?).map (·.type)=some tA) (hu:Tryz.prog.underlying tA=some (.array n tE)) (hu2:Tryz.prog.underlying tE=some (.int k)) (hc:Tryz.prog.cellsOf tE=1)
 (hds:D= .agg ((List.range n).map fun j=>.lit (.int k (f j)))) (j:Nat) (hj:j<n):W.cell? ⟨g,j,none⟩=some (.int k (f j)):=by
 obtain⟨g',t,cs,fuel,p,hg,ht,hvar,hd⟩:=laidMet.reads h (n:=nm) (d:=D) hm;obtain rfl:=Option.some.inj (hg0.symm.trans hg);obtain rfl:=Option.some.inj (ht0.symm.trans ht);rw[hds]at hd;obtain⟨fuel',d,q,h1,h2⟩:=array_elem hu hd j hj;rw[List.getElem?_map,List.getElem?_range hj]at h1;have h1:=Option.some.inj h1;subst h1;rw[hc,Nat.mul_one]at h2;obtain⟨m,h3,h4,_⟩:=DataW.trod_int hu2 h2;have hn:f j=m:=by have:=congrArg Prod.fst h4;injection this with this;injection this with _ this
 rw[World.var?_cell hg hvar j]
 have h5:(cs.toList.drop j)[0]? =some (.int k m):=by
  have:((cs.toList.drop j).take 1)[0]? =some (.int k m):=by rw[h3];rfl
  rwa [List.getElem?_take_of_lt (by omega)]at this
 rw[List.getElem?_drop,Nat.add_zero,Array.getElem?_toList]at h5;rw[h5,hn]
set_option maxRecDepth 1000000 in
theorem Asn {W:World} (h:laidMet Tryz.prog tabs W) (j:Nat) (hj:j<20):W.cell? ⟨2,j,none⟩=some (.int .u64 ((10 ^ j:Nat):Int)):=by
 have hds:(Rows.laid_internal_strconv_uint64pow10:DataW Unit)= .agg ((List.range 20).map fun j=>.lit (.int .u64 ((10 ^ j:Nat):Int))):=by kernel_rfl
 have hm:(("internal/strconv.uint64pow10",Rows.laid_internal_strconv_uint64pow10):String×DataW Unit)∈tabs:=List.mem_cons_of_mem _ (List.mem_cons_of_mem _ List.mem_cons_self);generalize (Rows.laid_internal_strconv_uint64pow10:DataW Unit)=D at hds hm;exact AjS h (nm:= "internal/strconv.uint64pow10") (D:=D) hm (g:=2) (tA:=413) (tE:=270) (n:=20) (k:=.u64) (f:=fun j=>((10 ^ j:Nat):Int)) (by kernel_rfl) (by kernel_rfl) (by kernel_rfl) (by kernel_rfl) (by kernel_rfl) hds j hj
set_option maxRecDepth 1000000 in
theorem ArV {W:World} (h:laidMet Tryz.prog tabs W) (j:Nat) (hj:j<12):W.cell? ⟨0,j,none⟩=some (.int .i64 (([31,28,31,30,31,30,31,31,30,31,30,31]:List Int).getD j 0)) :=
 AjS h (nm:= "certpath/date.lengths") (D:=Rows.laid_certpath_date_lengths) (List.mem_cons_of_mem _ (List.mem_cons_of_mem _ (List.mem_cons_of_mem _ (List.mem_cons_of_mem _ List.mem_cons_self)))) (g:=0) (tA:=320) (tE:=3) (n:=12) (k:=.i64) (f:=fun j=>([31,28,31,30,31,30,31,31,30,31,30,31]:List Int).getD j 0) (by kernel_rfl) (by kernel_rfl) (by kernel_rfl) (by kernel_rfl) (by kernel_rfl) (by kernel_rfl) j hj
theorem inv_of {W:World} (hs:W.ShapedOpen Tryz.prog) (hl:laidMet Tryz.prog tabs W):Inv nobody W:=by
 refine⟨fun g j p h=> ?_,fun g n h=> ?_⟩
 ·unfold XQ at h;split at h
  ·injection h with h;subst h;obtain⟨m,hm⟩:=cell_of_shapedOpen_int (P:=Tryz.prog) (g:=1) (t:=3) (zero:= #[.int .i64 0]) (k:=.i64) hs (of_decide_eq_true (by kernel_rfl)) (by kernel_rfl) rfl (by kernel_rfl) (by kernel_rfl) (by kernel_rfl);exact⟨rfl,_,hm,m,rfl⟩
  ·split at h
   ·rename_i hj;injection h with h;subst h;exact⟨rfl,_,Asn hl _ hj,rfl⟩
   ·cases h
  ·unfold Abi at h;split at h
   ·have h:(if j<12 then some (fun v=>v=Value.int .i64 (([31,28,31,30,31,30,31,31,30,31,30,31]:List Int).getD j 0))else none)=some p:=h;split at h
    ·rename_i hj;injection h with h;subst h;exact⟨rfl,_,ArV hl _ hj,rfl⟩
    ·cases h
   ·cases h
 ·unfold AsB at h;split at h
  ·injection h with h;subst h;obtain⟨cs,h1,h2,_⟩:=hs.1 2 (Array.replicate 20 (.int .u64 0)) 413 (of_decide_eq_true (by kernel_rfl)) (by kernel_rfl);exact⟨cs,_,_,h1,h2⟩
  ·cases h
section
variable {H:Type} {enc:TypeId×Value->H}
theorem Alv {a:Assume} {C:Checked} {os:Os} {f:FuncId} {fn:Func} {s:ChangeSpec} {conds:List PathCond} {apart fresh handsOn again:Bool} {X:World->Array Value->Prop}
 (hX: ∀(w w':World) (args:Array Value),w.heap=w'.heap->X w args->X w' args)
 (own:ownKnob C.prog.godebug=none) (started:os.Started) (noInit:C.prog.inits.idxOf? f=none) (hfn:C.prog.funcs[f]? =some fn)
 (witness: ∃(w:World) (tape:Tape) (i:Input),w.os=os/\(w.forCall tape i).Shaped C.prog/\i.vars=[]/\Input.okWide C.prog (w.forCall tape i) .any w.heap.size f i /\
   ((s.pre enc C.prog fn conds apart (w.forCall tape i).memory i.args/\X (w.forCall tape i).memory i.args)/\sizedMet enc C.prog fn (OpenSpec.ofChange s) apart (w.forCall tape i).memory i.args)/\a.holds C.prog (lone (Frame.enter C.prog f i.args .normal) [] (w.forCall tape i)))
 (contract: ∀(W:World) (base:Nat) (args:Array Value) (ds gs:List (DataW H)) (before:List MemPlace),
   (∀(j:Nat) t v,fn.params[j]? =some t->args[j]? =some v->Value.okWide C.prog W .any base t v) ->
   DataW.Whole enc C.prog fn.params.toList s.vars apart W args.toList ds gs before->W.ShapedOpen C.prog->X W args ->
   Calls C.prog f args W fun e W'=> ∃ v,e= .returned v/\s.post enc C.prog fn apart fresh handsOn again W args v W') :
 ReturnsInHanded a C os f .any (fun w args=>(s.pre enc C.prog fn conds apart w args/\X w args)/\sizedMet enc C.prog fn (OpenSpec.ofChange s) apart w args) (s.post enc C.prog fn apart fresh handsOn again):=by
 refine returnsInHanded_of_calls own started noInit witness ?_;intro w tape i _ hsh _ hok hpre _;obtain⟨_,_,_,fn',hfn',_,_,_,_,hval⟩:=hok;obtain rfl:=Option.some.inj (hfn'.symm.trans hfn);obtain⟨⟨⟨ds,gs,before,hw,_⟩,hx⟩,_⟩:=hpre;refine(contract (w.forCall tape i) w.heap.size i.args ds gs before hval (DataW.Whole.of_heap (w':=w.forCall tape i) (by rfl) hw) hsh (hX _ _ _ (by rfl) hx)).mono fun e W' ⟨v,he,hp⟩=> ?_;subst he;exact ChangeSpec.post_blind hp
end
