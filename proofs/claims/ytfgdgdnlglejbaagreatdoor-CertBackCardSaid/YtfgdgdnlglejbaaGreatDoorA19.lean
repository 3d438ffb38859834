import Derived.Test.YtfgdgdnlglejbaaGreatDoorA11
import Derived.Test.YtfgdgdnlglejbaaGreatDoorA18
import Derived.Sort.Walk0
set_option linter.all false
namespace Go.Proofs.YtfgdgdnlglejbaaGreatDoor.Pl
open IntKind (i64)
open Go Vm
def GG (l:Bs):Int×Bs×Bs:=((Sp.tag l:Int),Sp.content l,Sp.raw l)
def MV (l:Bs):(Int×Bs×Bs)×Bs×Int:=if Sp.err l=0 then(GG l,Sp.rest l,0)else((0,[],[]),[],Sp.err l)
theorem AqH {s:Bs} {p n:Nat} (hh:Sp.head s=(0,p,n)) (hp:p<=s.length):(if((s.length:Int) - p<n)then(some ((0,([]:Bs),([]:Bs)),([]:Bs),3):Option ((Int×Bs×Bs)×Bs×Int))else some ((((s.getD 0 0).toNat:Int),D7 s p (p+n),D7 s 0 (p+n)),D7 s (p+n) s.length,0))=some (MV s):=by
 have e1: ∀ a b,(D7 s a b)=(s.take b).drop a:=fun a b=>rfl;by_cases h:(s.length:Int) - p<n
 ·rw[if_pos h];have:Sp.rd s=(3,0,0):=by unfold Sp.rd;rw[hh,if_pos ⟨rfl,by show s.length - p<n;omega⟩]
  unfold MV Sp.err;rw[this];rfl
 ·rw[if_neg h];have hr:Sp.rd s=(0,p,n):=by unfold Sp.rd;rw[hh,if_neg (by intro hc;have:=hc.2;simp at this;omega)]
  have he:Sp.err s=0:=by unfold Sp.err;rw[hr]
  unfold MV;rw[if_pos he];unfold GG Sp.content Sp.raw Sp.rest;rw[hr,e1,e1,e1];congr 1;refine Prod.ext (Prod.ext ?_ (Prod.ext ?_ ?_)) (Prod.ext ?_ rfl)
  ·show((s.getD 0 0).toNat:Int)=((Sp.tag s:Nat):Int);unfold Sp.tag;cases s<;>rfl
  ·show(s.take (p+n)).drop p=(s.drop p).take n;rw[List.drop_take];congr 1;omega
  ·show(s.take (p+n)).drop 0=_;rw[List.drop_zero]
  ·show(s.take s.length).drop (p+n)=_;rw[List.take_length]
theorem take_snoc {α :Type} {l:List α} {i:Nat} (h:i<l.length):l.take (i+1)=l.take i++[l[i]]:=by rw[List.take_add_one,List.getElem?_eq_getElem h];rfl
theorem Al7 {l:Bs} {i:Nat} (h:i<l.length):Sp.beNat (l.take (i+1))=Sp.beNat (l.take i)*256+(l[i]).toNat:=by rw[take_snoc h,Sp.Al6]
theorem AjC {l:Bs} (i:Nat) (hl:l.length<=3):Sp.beNat (l.take i)<16777216:=by
 have h1:=Sp.ApD (l.take i);have h2:256 ^ (l.take i).length<=256 ^ 3:=Nat.pow_le_pow_right (by omega) (by rw[List.length_take];omega);have:(256:Nat) ^ 3=16777216:=by decide
 omega
theorem Aoc {ρ :Type} (N:Nat) (l:Bs) (hl:l.length<=3) (hN:4<N) (kx:Int->Option ρ) :
 Dz (X:=Int×Int×List Int) (Y:=Int) (U3 fun t7b t52b l45568b k2 x3 =>
  if t52b<((List.map (fun(b:UInt8)=>((b.toNat:Int))) l).length:Int)then if(0:Int)<=t52b then if t52b<(l45568b.length:Int)then if t52b.toNat<l45568b.length then
   k2 (DV .or .i64 (i64.wrap (t7b*(256))) (i64.wrap (l45568b.getD t52b.toNat 0)),i64.wrap (t52b+(1:Int)),l45568b)else none else none else none
  else x3 t7b) N (0,0,List.map (fun(b:UInt8)=>((b.toNat:Int))) l) kx=kx (Sp.beNat l):=by
 refine Sz (fun x=> ∃ i,i<=l.length/\x=((Sp.beNat (l.take i):Int),(i:Int),List.map (fun(b:UInt8)=>((b.toNat:Int))) l)) (fun x=>l.length - x.2.1.toNat) (fun _=>kx (Sp.beNat l)) ?_ N _ ⟨0,by omega,rfl⟩ (by show l.length - 0<N;omega);rintro x ⟨i,hi,rfl⟩ k hk;show(if(i:Int)<_ then _ else _)=_;rw[List.length_map];by_cases h:i<l.length
 ·dsimp only;rw[if_pos (by omega),if_pos (by omega),if_pos (by omega),Int.toNat_natCast,if_pos h];have hb:=(l[i]).toNat_lt;have hs:=AjC (l:=l) i hl;rw[show(List.map (fun(b:UInt8)=>((b.toNat:Int))) l).getD i 0=((l[i].toNat:Nat):Int) by simp [List.getD_eq_getElem?_getD,h]];rw[w64 (x:=((Sp.beNat (l.take i):Nat):Int)*256) (by omega) (by omega),w64 (x:=((l[i].toNat:Nat):Int)) (by omega) (by omega),w64 (x:=(i:Int)+1) (by omega) (by omega)];rw[show((Sp.beNat (l.take i):Nat):Int)*256=((Sp.beNat (l.take i)*256:Nat):Int) by omega,or8 _ _ (by omega) hb,<- Al7 h];exact hk _ ⟨i+1,h,rfl⟩ (by show l.length - ((i:Int)+1).toNat<l.length - (i:Int).toNat;omega)
 ·rw[if_neg (by omega)];rw[List.take_of_length_le (by omega)]
theorem Aqr (N:Nat) (k:Nat) (h1:1<=k) (h3:k<=3):zB N (k:Int)=some (Sp.leastOf k:Int):=by
 have:k=1\/k=2\/k=3:=by omega
 rcases this with rfl | rfl | rfl<;>rfl
set_option maxRecDepth 4000
theorem We (N:Nat) (s:Bs) (hN:4<N) (hs:s.length<=1099511627776):SS N s=some (MV s):=by
 unfold SS;try simp -zeta only[Ap]
 cases s with
 | nil=>rfl
 | cons a r =>
  have ha:=a.toNat_lt;have h0:((a::r:Bs)==([]:Bs))=false:=rfl;simp only[h0,cond_false,List.getD_cons_zero,List.length_cons,AhW,AeI,AeJ,AhQ];simp only[ArU,Ve,beq_iff_eq,decide_eq_true_eq,Bool.or_eq_true,Bool.and_eq_true];rw[w64 (by omega) (by omega),Arp _ ha];by_cases h31:a.toNat % 32=31
  ·have:Sp.err (a::r)=5:=by simp [Sp.err,Sp.rd,Sp.head,h31]
   unfold MV;rw[this,if_pos (by omega),if_pos (by omega)];rfl
  ·rw[if_pos (by omega),if_neg (by omega)];cases r with
   | nil =>
    have:Sp.err [a]=3:=by simp [Sp.err,Sp.rd,Sp.head,h31]
    unfold MV;rw[this,if_pos (by simp)];rfl
   | cons b c =>
    have hb:=b.toNat_lt;simp only[List.length_cons]at hs;simp only[List.getD_cons_succ,List.getD_cons_zero,List.length_cons];rw[w64 (x:=((b.toNat:Nat):Int)) (by omega) (by omega),if_neg (by omega),if_pos (by omega)];by_cases h6:b.toNat=128\/131<b.toNat
    ·have:Sp.err (a::b::c)=6:=by simp [Sp.err,Sp.rd,Sp.head,h31,h6,show ¬ b.toNat<128 by omega]
     unfold MV;rw[this,if_pos (by omega)];rfl
    ·rw[if_neg (by omega),Tt]
     have hend: ∀ p n:Nat,Sp.head (a::b::c)=(0,p,n)->p<=c.length+2->n<=131072->(if i64.wrap (((c.length+1+1:Nat):Int) - (p:Int))<(n:Int)then some ((0,([]:Bs),([]:Bs)),([]:Bs),3)
      else if(0:Int)<=(p:Int)then if(p:Int)<=i64.wrap ((p:Int)+(n:Int))then if i64.wrap ((p:Int)+(n:Int))<=((c.length+1+1:Nat):Int)then if(0:Int)<=i64.wrap ((p:Int)+(n:Int))then
       if i64.wrap ((p:Int)+(n:Int))<=((c.length+1+1:Nat):Int)then if(0:Int)<=i64.wrap ((p:Int)+(n:Int))then if i64.wrap ((p:Int)+(n:Int))<=((c.length+1+1:Nat):Int)then
       some ((((a.toNat:Nat):Int),D7 (a::b::c) (p:Int).toNat (i64.wrap ((p:Int)+(n:Int))).toNat,D7 (a::b::c) 0 (i64.wrap ((p:Int)+(n:Int))).toNat),D7 (a::b::c) (i64.wrap ((p:Int)+(n:Int))).toNat (c.length+1+1),0)
       else none else none else none else none else none else none else none:Option ((Int×Bs×Bs)×Bs×Int))=some (MV (a::b::c)):=by
      intro p n hh hp hn;have:=AqH (s:=a::b::c) hh (by simp;omega);rw[w64 (x:=((c.length+1+1:Nat):Int) - (p:Int)) (by omega) (by omega),w64 (x:=(p:Int)+(n:Int)) (by omega) (by omega)];rw[<- this];show(if((c.length+1+1:Nat):Int) - (p:Int)<(n:Int)then _ else _)=(if((c.length+1+1:Nat):Int) - (p:Int)<(n:Int)then _ else _);by_cases hlt:((c.length+1+1:Nat):Int) - (p:Int)<(n:Int)
      ·rw[if_pos hlt,if_pos hlt]
      ·rw[if_neg hlt,if_neg hlt,if_pos (by omega),if_pos (by omega),if_pos (by omega),if_pos (by omega),if_pos (by omega),if_pos (by omega),if_pos (by omega)];rw[show((p:Int)+(n:Int)).toNat=p+n by omega,Int.toNat_natCast];rfl
     by_cases h128:b.toNat<128
     ·rw[if_neg (by omega)];exact hend 2 b.toNat (by simp [Sp.head,h31,h128]) (by omega) (by omega)
     ·rw[if_pos (by omega)];obtain⟨k,hk⟩: ∃ k:Nat,b.toNat=128+k:=⟨b.toNat - 128,by omega⟩
      rw[w64 (x:=((b.toNat:Nat):Int) - 128) (by omega) (by omega),show((b.toNat:Nat):Int) - 128=(k:Int) by omega,w64 (x:=2+(k:Int)) (by omega) (by omega)];by_cases hlen:c.length<k
      ·rw[if_pos (by omega)];have:Sp.err (a::b::c)=3:=by simp [Sp.err,Sp.rd,Sp.head,h31,h128,h6,show b.toNat - 128=k by omega,hlen]
       unfold MV;rw[this];rfl
      ·have hcut:D7 (a::b::c) 2 ((2+(k:Int)).toNat)=c.take k:=by
        rw[show(2+(k:Int)).toNat=k+2 by omega];rfl
       have hlk:(c.take k).length=k:=by rw[List.length_take];omega
       rw[if_neg (by omega),if_pos (by omega),if_pos (by omega),hcut,if_pos (by omega)];rw[Aoc N (c.take k) (by omega) hN,Aqr N k (by omega) (by omega),Dn];by_cases hbad:Sp.beNat (c.take k)<Sp.leastOf k\/131072<Sp.beNat (c.take k)
       ·have:Sp.err (a::b::c)=6:=by simp [Sp.err,Sp.rd,Sp.head,h31,h128,h6,show b.toNat - 128=k by omega,hlen,hbad]
        unfold MV;rw[if_pos (by omega),this];rfl
       ·rw[if_neg (by omega)];have:=hend (2+k) (Sp.beNat (c.take k)) (by simp [Sp.head,h31,h128,h6,show b.toNat - 128=k by omega,hlen,hbad]) (by omega) (by omega);rw[show(((2+k:Nat)):Int)=2+(k:Int) by omega]at this;exact this
def fJ (s:Bs):(Int×Bs×Bs)×Int:=if Sp.NL s=0 then(GG s,0)else((0,[],[]),Sp.NL s)
theorem Agx {s:Bs} (h:Sp.NL s=0):Sp.err s=0/\Sp.rest s=[]:=by
 unfold Sp.NL at h;by_cases he:Sp.err s=0
 ·rw[if_neg (by simp [he])]at h;by_cases hr:Sp.rest s=[]
  ·exact⟨he,hr⟩
  ·rw[if_neg hr]at h;cases h
 ·rw[if_pos he]at h;exact absurd h he
theorem QQ (N:Nat) (s:Bs) (hN:4<N) (hs:s.length<=1099511627776):MI N s=some (fJ s):=by
 unfold MI;rw[We N s hN hs,Dn];unfold MV fJ Sp.NL;by_cases he:Sp.err s=0
 ·rw[if_pos he];by_cases hr:Sp.rest s=[]
  ·simp [he,hr,Ve]
  ·simp [he,hr,Ve]
 ·rw[if_neg he];simp [he,Ve]
theorem Ajp (s:Bs):Sp.tag s<256:=UInt8.toNat_lt _
def Ud (e:Int×Bs×Bs) (d:Nat):Int:=if e.1 / 32 % 2=1 then Sp.within (e.2.1.length+1) d e.2.1 else 0
theorem QD: ∀(f g d:Nat) (l:Bs),l.length<f->l.length<g->Sp.within f d l=Sp.within g d l:=by
 intro f
 induction f with
 | zero=>intro g d l h;omega
 | succ f ih =>
  intro g d l hf hg;cases g with
  | zero=>omega
  | succ g =>
   show(if l=[]then _ else _)=if l=[]then _ else _;by_cases hl:l=[]
   ·rw[if_pos hl,if_pos hl]
   ·rw[if_neg hl,if_neg hl];by_cases he:Sp.err l=0
    ·have h1:=Sp.TT l he;have h2:=Sp.Aad l he;rw[ih g (d+1) (Sp.content l) (by omega) (by omega),ih g d (Sp.rest l) (by omega) (by omega)]
    ·rw[if_pos he,if_pos he]
theorem Abm {B:Bs->(Bs->Option Int)->(Unit->Option Int)->Option Int} {kx:Unit->Option Int} (d L:Nat)
 (hB: ∀ x k,x≠ []->x.length<=L->B x k kx=if Sp.err x≠0 then some (Sp.err x)else if 16<=d then some 8 else if Ud (GG x) (d+1)≠0 then some (Ud (GG x) (d+1))else k (Sp.rest x))
 (hend: ∀ k,B [] k kx=some 0) (N:Nat) (x:Bs) (hx:x.length<=L) (hN:x.length<N):Dz B N x kx=some (Sp.within (x.length+1) d x):=by
 refine Sz (fun x=>x.length<=L) (fun x=>x.length) (fun x=>some (Sp.within (x.length+1) d x)) ?_ N x hx hN;intro x hx k hk;by_cases h0:x=[]
 ·subst h0;rw[hend];rfl
 ·rw[hB x k h0 hx];by_cases he:Sp.err x=0
  ·rw[if_neg (by simp [he])];by_cases hd:16<=d
   ·rw[if_pos hd,Sp.Ak5 _ _ _ h0 he hd]
   ·rw[if_neg hd];have h1:=Sp.TT x he;have h2:=Sp.Aad x he
    have hin:Ud (GG x) (d+1)=Sp.inner x.length (d+1) (Sp.tag x) (Sp.content x):=by
     unfold Ud Sp.inner Sp.cons GG;rw[QD _ x.length (d+1) (Sp.content x) (Nat.lt_succ_self _) h1];have:(((Sp.tag x:Nat):Int) / 32 % 2=1)↔(Sp.tag x / 32 % 2=1):=by omega
     simp [this]
    rw[hin];by_cases hi:Sp.inner x.length (d+1) (Sp.tag x) (Sp.content x)=0
    ·rw[if_neg (by simp [hi]),hk _ (by show(Sp.rest x).length<=L;omega) h2,Sp.Abn _ _ _ h0 he hd hi];rw[QD _ x.length d (Sp.rest x) (Nat.lt_succ_self _) h2]
    ·rw[if_pos hi,Sp.Anx _ _ _ h0 he hd hi]
  ·rw[if_pos he,Sp.Anz _ _ _ h0 he]
theorem Apr (N:Nat) (hN:4<N): ∀(m n:Nat),m<n-> ∀(e:Int×Bs×Bs) (d:Nat),d+m=16->0<=e.1->e.1<256->e.2.1.length<N->e.2.1.length<=1099511627776 ->
 O7 N n e (d:Int)=some (Ud e d):=by
 intro m
 induction m with
 | zero =>
  intro n hn e d hd h0 h1 h2 h3;obtain⟨n,rfl⟩: ∃ k,n=k+1:=⟨n - 1,by omega⟩
  show Na N (O7 N n) e d=_;unfold Na Ud;obtain⟨t,ht⟩: ∃ t:Nat,e.1=(t:Int):=⟨e.1.toNat,by omega⟩
  rw[ht,Arq t (by omega)];by_cases hc:t / 32 % 2=1
  ·rw[if_pos hc,if_pos (by omega)];refine Abm d e.2.1.length (fun x k hx hl=> ?_) (fun k=>rfl) N _ (Nat.le_refl _) h2;have:(x==([]:Bs))=false:=by cases x with | nil=>exact absurd rfl hx | cons _ _=>rfl
   dsimp only;rw[this,We N x hN (by omega),Dn];unfold MV;simp only[Ve,bne_iff_ne,decide_eq_true_eq,Bool.not_false];by_cases he:Sp.err x=0
   ·rw[if_pos he];simp only[he,ne_eq,not_true_eq_false,if_false,if_true];rw[if_pos (by omega),if_pos (by omega)]
   ·rw[if_neg he];simp [he]
  ·rw[if_neg hc,if_neg (by omega)];rfl
 | succ m ih =>
  intro n hn e d hd h0 h1 h2 h3;obtain⟨n,rfl⟩: ∃ k,n=k+1:=⟨n - 1,by omega⟩
  show Na N (O7 N n) e d=_;unfold Na Ud;obtain⟨t,ht⟩: ∃ t:Nat,e.1=(t:Int):=⟨e.1.toNat,by omega⟩
  rw[ht,Arq t (by omega)];by_cases hc:t / 32 % 2=1
  ·rw[if_pos hc,if_pos (by omega)];refine Abm d e.2.1.length (fun x k hx hl=> ?_) (fun k=>rfl) N _ (Nat.le_refl _) h2;have:(x==([]:Bs))=false:=by cases x with | nil=>exact absurd rfl hx | cons _ _=>rfl
   dsimp only;rw[this,We N x hN (by omega),Dn];unfold MV;simp only[Ve,bne_iff_ne,decide_eq_true_eq,Bool.not_false];by_cases he:Sp.err x=0
   ·rw[if_pos he];simp only[he,ne_eq,not_true_eq_false,if_false,if_true];have hcl:=Sp.TT x he;have htl:=Ajp x;rw[if_neg (by omega),if_neg (by omega),w64 (by omega) (by omega),show(d:Int)+1=((d+1:Nat):Int) by omega,ih n (by omega) (GG x) (d+1) (by omega) (by show(0:Int)<=((Sp.tag x:Nat):Int);omega) (by show((Sp.tag x:Nat):Int)<256;omega) (by show(Sp.content x).length<N;omega) (by show(Sp.content x).length<=_;omega),Dn]
   ·rw[if_neg he];simp [he]
  ·rw[if_neg hc,if_neg (by omega)];rfl
theorem Ams {s:Bs} (h:Sp.NL s=0):Ud (GG s) 1=Sp.chk s:=by
 unfold Sp.chk;rw[if_neg (by simp [h])];unfold Ud Sp.inner Sp.cons GG;have h1:=Sp.TT s (Agx h).1;rw[QD _ (s.length+1) 1 (Sp.content s) (Nat.lt_succ_self _) (by omega)];have:(((Sp.tag s:Nat):Int) / 32 % 2=1)↔(Sp.tag s / 32 % 2=1):=by omega
 simp [this]
theorem zA (N:Nat) (s:Bs) (hN:16<N) (hs:s.length<=1099511627776) (hl:s.length<N):MZ N s=some (Sp.chk s):=by
 unfold MZ;rw[QQ N s (by omega) hs,Dn];unfold fJ;by_cases h:Sp.NL s=0
 ·have h1:=Sp.TT s (Agx h).1;have h2:=Ajp s;rw[if_pos h,<- Ams h];have:=Apr N (by omega) 15 N (by omega) (GG s) 1 rfl (by show(0:Int)<=((Sp.tag s:Nat):Int);omega) (by show((Sp.tag s:Nat):Int)<256;omega) (by show(Sp.content s).length<N;omega) (by show(Sp.content s).length<=_;omega);show Dj (O7 N N (GG s) 1) _=_;rw[show(1:Int)=((1:Nat):Int)from rfl,this,Dn]
 ·rw[if_neg h];have:Sp.chk s=Sp.NL s:=by unfold Sp.chk;rw[if_pos h]
  simp [Ve,h,this]
end Go.Proofs.YtfgdgdnlglejbaaGreatDoor.Pl
namespace Go.Proofs.YtfgdgdnlglejbaaGreatDoor.Vm
open IntKind (i64)
theorem Ed {ρ :Type} {c:Bool} (k:Option ρ) (h:c=true):chk c k=k:=by rw[h];rfl
theorem ArH (c:UInt8):c.toNat<256:=UInt8.toNat_lt c
theorem getD_lt {α :Type} (l:List α) (i:Nat) (d: α) (h:i<l.length):l.getD i d=l[i]:=by rw[List.getD_eq_getElem?_getD,List.getElem?_eq_getElem h];rfl
open Go
theorem Ar1 {a b:Int} {q:Decidable (a<b)} (h:a<b): @decide (a<b) q=true:= @decide_eq_true _ q h
theorem AlV {a b:Int} {q:Decidable (a<b)} (h:b<=a): @decide (a<b) q=false:= @decide_eq_false _ q (by omega)
theorem Ar0 {a b:Int} {q:Decidable (a<=b)} (h:a<=b): @decide (a<=b) q=true:= @decide_eq_true _ q h
theorem AuU {a b:Int} {q:Decidable (a<=b)} (h:b<a): @decide (a<=b) q=false:= @decide_eq_false _ q (by omega)
theorem Arz {a b:Int} {q:Decidable (a>b)} (h:b<a): @decide (a>b) q=true:= @decide_eq_true _ q h
theorem Ary {a b:Int} {q:Decidable (a>b)} (h:a<=b): @decide (a>b) q=false:= @decide_eq_false _ q (by omega)
theorem AuT {a b:Int} {q:Decidable (a>=b)} (h:b<=a): @decide (a>=b) q=true:= @decide_eq_true _ q h
theorem AuS {a b:Int} {q:Decidable (a>=b)} (h:a<b): @decide (a>=b) q=false:= @decide_eq_false _ q (by omega)
theorem ArA {a b:Nat} {q:Decidable (a<b)} (h:a<b): @decide (a<b) q=true:= @decide_eq_true _ q h
theorem Avd {a b:Nat} {q:Decidable (a<b)} (h:b<=a): @decide (a<b) q=false:= @decide_eq_false _ q (by omega)
theorem AmG {a b:Nat} {q:Decidable (a<=b)} (h:a<=b): @decide (a<=b) q=true:= @decide_eq_true _ q h
theorem Avc {a b:Nat} {q:Decidable (a<=b)} (h:b<a): @decide (a<=b) q=false:= @decide_eq_false _ q (by omega)
theorem AnI {a b:Int} (h:a=b):(a==b)=true:=by subst h;exact beq_self_eq_true _
theorem TK {a b:Int} (h:a≠b):(a==b)=false:=beq_false_of_ne h
theorem gV {a b:Int} (h:a≠b):(a != b)=true:=by unfold bne;rw[TK h];rfl
theorem TL {a b:Int} (h:a=b):(a != b)=false:=by unfold bne;rw[AnI h];rfl
theorem toNat_add (a b:Nat):((a:Int)+(b:Int)).toNat=a+b:=by omega
theorem toNat_sub (a b:Nat):((a:Int) - (b:Int)).toNat=a - b:=by omega
theorem Anu (a:Nat):((a:Int)+1).toNat=a+1:=by omega
theorem Anv (a:Nat):((a:Int) - 1).toNat=a - 1:=by omega
theorem ES (a:Nat):((a:Int)+1)=((a+1:Nat):Int):=rfl
theorem getD_mem {α :Type} {l:List α} {i:Nat} (d: α) (h:i<l.length):l.getD i d∈l:=by rw[getD_lt l i d h];exact List.getElem_mem h
def Q7 {R S ρ :Type} (x:R ⊕ S) (ret:R->Option ρ) (k:S->Option ρ):Option ρ :=match x with
 | .inl r=>ret r
 | .inr s=>k s
theorem ArW {R S ρ :Type} (r:R) (ret:R->Option ρ) (k:S->Option ρ):Q7 (.inl r) ret k=ret r:=rfl
theorem AkL {R S ρ :Type} (s:S) (ret:R->Option ρ) (k:S->Option ρ):Q7 (.inr s) ret k=k s:=rfl
theorem MP {R S ρ :Type} (b:Bool) (x y:R ⊕ S) (ret:R->Option ρ) (k:S->Option ρ):Q7 (bif b then x else y) ret k=bif b then Q7 x ret k else Q7 y ret k:=by cases b<;>rfl
theorem AnV {R S ρ :Type} (b:Prop) [Decidable b] (x y:R ⊕ S) (ret:R->Option ρ) (k:S->Option ρ):Q7 (if b then x else y) ret k=if b then Q7 x ret k else Q7 y ret k:=by split<;>rfl
def P7 {E R S:Type} (step:E->S->R ⊕ S):List E->S->R ⊕ S
 | [],s=>.inr s
 | e::r,s=>match step e s with
  | .inl x=>.inl x
  | .inr s'=>P7 step r s'
theorem AoC {E R S:Type} (step:E->S->R ⊕ S) (s:S):P7 step [] s= .inr s:=rfl
theorem QH {E R S:Type} (step:E->S->R ⊕ S) (e:E) (l:List E) (s:S):P7 step (e::l) s=(step e s).elim Sum.inl (fun s'=>P7 step l s'):=by simp only[P7];cases step e s<;>rfl
theorem bY {X Y S E R ρ :Type} {B:X->(X->Option ρ)->(Y->Option ρ)->Option ρ} {kx:Y->Option ρ} (mk:Nat->S->X) (l:List E) (d:E) (I:Nat->S->Prop) (step:E->S->R ⊕ S) (ret:R->Option ρ) (fin:S->Option ρ)
 (h: ∀(i:Nat) (s:S),i<l.length->I i s-> ∀ k,B (mk i s) k kx=Q7 (step (l.getD i d) s) ret fun s'=>k (mk (i+1) s'))
 (hI: ∀(i:Nat) (s s':S),i<l.length->I i s->step (l.getD i d) s= .inr s'->I (i+1) s')
 (hend: ∀(s:S) (k:X->Option ρ),I l.length s->B (mk l.length s) k kx=fin s) (N:Nat) (s:S) (h0:I 0 s) (hN:l.length<N):Dz B N (mk 0 s) kx=Q7 (P7 step l s) ret fin:=by
 have key: ∀(n i:Nat) (s:S),I i s->i<=l.length->l.length - i<n->Dz B n (mk i s) kx=Q7 (P7 step (l.drop i) s) ret fin:=by
  intro n
  induction n with
  | zero=>intro i s _ _ h;omega
  | succ n ih =>
   intro i s hi hil hn;rw[Fa];by_cases hl:i<l.length
   ·rw[h i s hl hi,List.drop_eq_getElem_cons hl];have hs:=hI i s;rw[show l.getD i d=l[i]from getD_lt l i d hl]at *
    rw[QH];cases hst:step l[i] s with
    | inl x=>rfl
    | inr s'=>exact ih (i+1) _ (hs _ hl hi hst) (by omega) (by omega)
   ·have:i=l.length:=by omega
    subst this;rw[hend s _ hi,List.drop_length];rfl
 exact key N 0 s h0 (by omega) (by omega)
theorem Ag1 {X Y S E R ρ :Type} {B:X->(X->Option ρ)->(Y->Option ρ)->Option ρ} {kx:Y->Option ρ} (mk:Nat->S->X) (l:List E) (d:E) (step:E->S->R ⊕ S) (ret:R->Option ρ) (fin:S->Option ρ)
 (h: ∀(i:Nat) (s:S),i<l.length-> ∀ k,B (mk i s) k kx=Q7 (step (l.getD i d) s) ret fun s'=>k (mk (i+1) s'))
 (hend: ∀(s:S) (k:X->Option ρ),B (mk l.length s) k kx=fin s) (N:Nat) (s:S) (hN:l.length<N):Dz B N (mk 0 s) kx=Q7 (P7 step l s) ret fin :=
 bY mk l d (fun _ _=>True) step ret fin (fun i s hi _=>h i s hi) (fun _ _ _ _ _ _=>trivial) (fun s k _=>hend s k) N s trivial hN
theorem AqP {X Y E ρ :Type} {B:X->(X->Option ρ)->(Y->Option ρ)->Option ρ} {kx:Y->Option ρ} (mk:Nat->X) (out:Nat->Y) (l:List E) (d:E) (p:E->Bool)
 (h: ∀(i:Nat) (k:X->Option ρ),i<l.length->B (mk i) k kx=bif p (l.getD i d)then kx (out i)else k (mk (i+1)))
 (hend: ∀ k:X->Option ρ,B (mk l.length) k kx=kx (out l.length)) (N:Nat) (hN:l.length<N):Dz B N (mk 0) kx=kx (out (l.findIdx p)):=by
 have key: ∀(n i:Nat),i<=l.length->l.length - i<n->Dz B n (mk i) kx=kx (out (i+(l.drop i).findIdx p)):=by
  intro n
  induction n with
  | zero=>intro i _ h;omega
  | succ n ih =>
   intro i hi hn;rw[Fa];by_cases hl:i<l.length
   ·rw[h i _ hl,List.drop_eq_getElem_cons hl,List.findIdx_cons,show l.getD i d=l[i]from getD_lt l i d hl];cases p l[i]with
    | true=>rfl
    | false =>rw[cond_false,cond_false,ih (i+1) (by omega) (by omega)];congr 2;omega
   ·have:i=l.length:=by omega
    subst this;rw[hend,List.drop_length];rfl
 have:=key N 0 (Nat.zero_le _) (by omega);rwa [Nat.zero_add,List.drop_zero]at this
theorem AoB {E R:Type} (p:E->Bool) (r:R): ∀ l:List E,P7 (fun e (_:Unit)=>bif p e then .inl r else .inr ()) l ()=bif l.any p then .inl r else .inr ():=by
 intro l
 induction l with
 | nil=>rfl
 | cons e t ih =>
  rw[QH,List.any_cons];cases p e with
  | true=>rfl
  | false=>exact ih
theorem Akc {E:Type} (f:E->Int): ∀ l:List E,P7 (fun e (_:Unit)=>bif f e != 0 then .inl (f e)else .inr ()) l ()=bif Ig f l != 0 then .inl (Ig f l)else .inr ():=by
 intro l
 induction l with
 | nil=>rfl
 | cons e t ih =>
  rw[QH];unfold Ig;by_cases h:f e=0
  ·rw[h,show((0:Int) != 0)=false from rfl];exact ih
  ·rw[if_pos h,show(f e != 0)=true from bne_iff_ne.2 h];rfl
theorem AqD {n i:Nat} (h:i<n):(List.range n).getD i 0=i:=by rw[getD_lt _ _ _ (by rw[List.length_range];exact h),List.getElem_range]
section
variable {X Y E ρ :Type} {B:X->(X->Option ρ)->(Y->Option ρ)->Option ρ} {kx:Y->Option ρ}
theorem Aor (mk:Nat->X) (l:List E) (d:E) (f:E->Int) (ret:Int->Option ρ) (fin:Option ρ)
 (h: ∀ i,i<l.length-> ∀ k,B (mk i) k kx=bif f (l.getD i d) != 0 then ret (f (l.getD i d))else k (mk (i+1)))
 (hend: ∀ k,B (mk l.length) k kx=fin) (N:Nat) (hN:l.length<N):Dz B N (mk 0) kx=bif Ig f l != 0 then ret (Ig f l)else fin:=by
 refine Eq.trans (Ag1 (S:=Unit) (R:=Int) (mk:=fun i _=>mk i) l d (fun e _=>bif f e != 0 then .inl (f e)else .inr ()) ret (fun _=>fin) ?_ (fun _ k=>hend k) N () hN) ?_
 ·intro i _ hi k;rw[h i hi,MP];rfl
 ·rw[Akc,MP];rfl
theorem Amh (mk:Nat->X) (n:Nat) (f:Nat->Int) (ret:Int->Option ρ) (fin:Option ρ)
 (h: ∀ i,i<n-> ∀ k,B (mk i) k kx=bif f i != 0 then ret (f i)else k (mk (i+1)))
 (hend: ∀ k,B (mk n) k kx=fin) (N:Nat) (hN:n<N):Dz B N (mk 0) kx=bif Ig f (List.range n) != 0 then ret (Ig f (List.range n))else fin:=by
 refine Aor mk (List.range n) 0 f ret fin ?_ ?_ N (by rw[List.length_range];exact hN)
 ·intro i hi k;rw[List.length_range]at hi;rw[AqD hi];exact h i hi k
 ·intro k;rw[List.length_range];exact hend k
theorem AkE (mk:Nat->X) (l:List E) (d:E) (p:E->Bool) (x fin:Option ρ)
 (h: ∀ i,i<l.length-> ∀ k,B (mk i) k kx=bif p (l.getD i d)then x else k (mk (i+1)))
 (hend: ∀ k,B (mk l.length) k kx=fin) (N:Nat) (hN:l.length<N):Dz B N (mk 0) kx=bif l.any p then x else fin:=by
 refine Eq.trans (Ag1 (S:=Unit) (R:=Unit) (mk:=fun i _=>mk i) l d (fun e _=>bif p e then .inl ()else .inr ()) (fun _=>x) (fun _=>fin) ?_ (fun _ k=>hend k) N () hN) ?_
 ·intro i _ hi k;rw[h i hi,MP];rfl
 ·rw[AoB,MP];rfl
end
theorem Abu {α :Type} (b:Bool) (x y: α):(bif b then some x else some y)=some (bif b then x else y):=by cases b<;>rfl
theorem eP {E:Type} (f:E->Int) (x:E) (r:List E):Ig f (x::r)=bif f x != 0 then f x else Ig f r:=by
 show(if f x≠0 then f x else Ig f r)=_;by_cases h:f x=0
 ·rw[if_neg (fun hn=>hn h),h];rfl
 ·rw[if_pos h,show(f x != 0)=true from bne_iff_ne.2 h];rfl
theorem AnZ {α :Type} (l:List α) (i:Nat):D7 l 0 i=l.take i:=rfl
section
variable {X Y E A ρ :Type} {B:X->(X->Option ρ)->(Y->Option ρ)->Option ρ} {kx:Y->Option ρ}
theorem AmA (er:E->Int) (g:E->A): ∀(l:List E) (acc:List A),P7 (fun e (acc:List A)=>bif er e != 0 then Sum.inl (er e)else Sum.inr (acc++[g e])) l acc=bif Ig er l != 0 then .inl (Ig er l)else .inr (acc++l.map g):=by
 intro l
 induction l with
 | nil=>intro acc;rw[List.map_nil,List.append_nil];rfl
 | cons e r ih =>
  intro acc;rw[QH,eP];cases h:er e != 0 with
  | true=>rw[cond_true,cond_true,h];rfl
  | false =>rw[cond_false,cond_false];show P7 _ r (acc++[g e])=_;rw[ih,List.append_assoc];rfl
theorem Aqh (mk:Nat->List A->X) (l:List E) (d:E) (er:E->Int) (g:E->A) (ret:Int->Option ρ) (fin:List A->Option ρ)
 (h: ∀(i:Nat) (acc:List A),i<l.length->acc.length=i-> ∀ k,B (mk i acc) k kx=bif er (l.getD i d) != 0 then ret (er (l.getD i d))else k (mk (i+1) (acc++[g (l.getD i d)])))
 (hend: ∀(acc:List A) (k:X->Option ρ),acc.length=l.length->B (mk l.length acc) k kx=fin acc) (N:Nat) (hN:l.length<N):Dz B N (mk 0 []) kx=bif Ig er l != 0 then ret (Ig er l)else fin (l.map g):=by
 refine(bY (S:=List A) (R:=Int) mk l d (fun i acc=>acc.length=i) (fun e acc=>bif er e != 0 then .inl (er e)else .inr (acc++[g e])) ret fin ?_ ?_ (fun acc k ha=>hend acc k ha) N [] rfl hN).trans ?_
 ·intro i acc hi ha k;rw[h i acc hi ha,MP];rfl
 ·intro i acc acc' hi ha he;cases hb:er (l.getD i d) != 0 with
  | true=>rw[hb]at he;cases he
  | false =>rw[hb]at he;injection he with he;subst he;rw[List.length_append,ha];rfl
 ·rw[AmA,MP,List.nil_append];rfl
theorem AbK: ∀ l:List E,Ig (fun _=>(0:Int)) l=0:=by
 intro l
 induction l with
 | nil=>rfl
 | cons e r ih=>rw[eP];exact ih
theorem KH (mk:Nat->List A->X) (l:List E) (d:E) (g:E->A) (fin:List A->Option ρ)
 (h: ∀(i:Nat) (acc:List A),i<l.length->acc.length=i-> ∀ k,B (mk i acc) k kx=k (mk (i+1) (acc++[g (l.getD i d)])))
 (hend: ∀(acc:List A) (k:X->Option ρ),acc.length=l.length->B (mk l.length acc) k kx=fin acc) (N:Nat) (hN:l.length<N):Dz B N (mk 0 []) kx=fin (l.map g):=by
 refine(Aqh mk l d (fun _=>0) g (fun _=>none) fin (fun i acc hi ha k=>h i acc hi ha k) hend N hN).trans ?_;rw[AbK];rfl
theorem Agf (g:E->Bs) (l:List E) (d:E) {i:Nat} (h:i<l.length):((l.take i).map g).flatten++g (l.getD i d)=((l.take (i+1)).map g).flatten:=by rw[getD_lt l i d h,List.take_add_one,List.getElem?_eq_getElem h,List.map_append,List.flatten_append];simp
theorem Asj (g:E->Bs) (l:List E) (i:Nat):((l.take i).map g).flatten.length<=(l.map g).flatten.length:=by
 conv=>rhs;rw[<- List.take_append_drop i l,List.map_append,List.flatten_append,List.length_append]
 omega
theorem ApL (mk:Nat->Bs->X) (l:List E) (d:E) (er:E->Int) (g:E->Bs) (ret:Int->Option ρ) (fin:Bs->Option ρ)
 (h: ∀(i:Nat) (t:Bs),i<l.length->t.length+(g (l.getD i d)).length<=(l.map g).flatten.length-> ∀ k,B (mk i t) k kx=bif er (l.getD i d) != 0 then ret (er (l.getD i d))else k (mk (i+1) (t++g (l.getD i d))))
 (hend: ∀(t:Bs) (k:X->Option ρ),B (mk l.length t) k kx=fin t) (N:Nat) (hN:l.length<N):Dz B N (mk 0 []) kx=bif Ig er l != 0 then ret (Ig er l)else fin (l.map g).flatten:=by
 refine(bY (S:=Bs) (R:=Int) mk l d (fun i t=>t=((l.take i).map g).flatten) (fun e t=>bif er e != 0 then .inl (er e)else .inr (t++g e)) ret fin ?_ ?_ (fun t k _=>hend t k) N [] rfl hN).trans ?_
 ·intro i t hi ht k;rw[h i t hi ?_,MP]
  ·rfl
  ·rw[ht,<- List.length_append,Agf g l d hi];exact Asj g l (i+1)
 ·intro i t t' hi ht he;cases hb:er (l.getD i d) != 0 with
  | true=>rw[hb]at he;cases he
  | false =>rw[hb]at he;injection he with he;rw[<- he,ht,Agf g l d hi]
 ·have: ∀(l:List E) (t:Bs),P7 (fun e (t:Bs)=>bif er e != 0 then Sum.inl (er e)else Sum.inr (t++g e)) l t=bif Ig er l != 0 then .inl (Ig er l)else .inr (t++(l.map g).flatten):=by
   intro l
   induction l with
   | nil=>intro t;simp [AoC,Ig]
   | cons e r ih =>
    intro t;rw[QH,eP];cases h:er e != 0 with
    | true=>rw[cond_true,cond_true,h];rfl
    | false=>rw[cond_false,cond_false,List.map_cons,List.flatten_cons,<- List.append_assoc,<- ih];rfl
  rw[this,MP,List.nil_append];rfl
theorem Ae9 (mk:Nat->Bs->X) (l:List E) (d:E) (g:E->Bs) (fin:Bs->Option ρ)
 (h: ∀(i:Nat) (t:Bs),i<l.length->t.length+(g (l.getD i d)).length<=(l.map g).flatten.length-> ∀ k,B (mk i t) k kx=k (mk (i+1) (t++g (l.getD i d))))
 (hend: ∀(t:Bs) (k:X->Option ρ),B (mk l.length t) k kx=fin t) (N:Nat) (hN:l.length<N):Dz B N (mk 0 []) kx=fin (l.map g).flatten:=by
 refine(ApL mk l d (fun _=>0) g (fun _=>none) fin (fun i t hi ht k=>h i t hi ht k) hend N hN).trans ?_;rw[AbK];rfl
theorem Gs {g:E->Bs} {M:Nat}: ∀ {l:List E},(∀ e∈l,(g e).length<=M)->(l.map g).flatten.length<=M*l.length:=by
 intro l
 induction l with
 | nil=>intro _;simp
 | cons e r ih =>intro h;have h1:=h e List.mem_cons_self;have h2:=ih fun e he=>h e (List.mem_cons_of_mem _ he);rw[List.map_cons,List.flatten_cons,List.length_append,List.length_cons,Nat.mul_succ];omega
end
theorem Ah9 (x y:Bool):(x|| !y&& !x||y)=true:=by cases x<;>cases y<;>rfl
set_option linter.defProp false in
def DT:=And.intro @Yx (And.intro @Tt (And.intro @Gh (And.intro @Dn (And.intro @cond_true.{1} (And.intro @cond_false.{1} (And.intro @Ar1 (And.intro @AlV (And.intro @Ar0 (And.intro @AuU (And.intro @Arz (And.intro @Ary (And.intro @AuT (And.intro @AuS (And.intro @ArA (And.intro @Avd (And.intro @AmG (And.intro @Avc (And.intro @AnI (And.intro @TK (And.intro @gV (And.intro @TL (And.intro @w64 (And.intro @Int.toNat_natCast (And.intro @toNat_add (And.intro @toNat_sub (And.intro @Anu (And.intro @Anv (And.intro @Bool.true_or (And.intro @Bool.or_true (And.intro @Bool.false_or (And.intro @Bool.or_false (And.intro @Bool.true_and (And.intro @Bool.and_true (And.intro @Bool.false_and (And.intro @Bool.and_false (And.intro @Bool.not_true (And.intro @Bool.not_false (And.intro @Bool.not_not (And.intro @Bool.or_not_self (And.intro @Bool.not_or_self (And.intro @Bool.cond_self.{1} (And.intro @Bool.cond_true_left (And.intro @Bool.cond_false_left (And.intro @Bool.cond_true_right (And.intro @Bool.cond_false_right (And.intro @Bool.or_self (And.intro @Bool.and_self (And.intro @ArW (And.intro @AkL (And.intro @MP (And.intro @AnV (And.intro @U2.eq_1 (And.intro @U3.eq_1 (And.intro @U4.eq_1 (And.intro @U5.eq_1 (And.intro @U6.eq_1 (And.intro @U7.eq_1 (And.intro @U8.eq_1 (And.intro @U9.eq_1 (@U10.eq_1))))))))))))))))))))))))))))))))))))))))))))))))))))))))))))
end Go.Proofs.YtfgdgdnlglejbaaGreatDoor.Vm
namespace Go.Proofs.YtfgdgdnlglejbaaGreatDoor.Pl
open IntKind (i64)
open Go Vm
theorem Amb (s:Bs):(s==([]:Bs))=decide (s=[]):=by cases s<;>rfl
theorem Apb {α :Type} {s:List α} (h:s≠ []):0<s.length:=by cases s with | nil=>exact absurd rfl h | cons _ _=>simp
def O8 (t:Nat) (c:Bs):Option Bs:=if c.length<=131072 then some (Sp.elem t c)else none
theorem Agj: ∀(l:List Bs),([]:Bs).intercalate l=l.flatten
 | []=>rfl
 | [a]=>by simp [List.intercalate]
 | a::b::r=>by have:=Agj (b::r);simp only[List.intercalate,List.intersperse,List.flatten_cons]at this ⊢;simp [this]
theorem aN (n:Nat):Vm.byteOf (IntKind.u8.wrap (n:Int))=UInt8.ofNat n:=by rw[w8];unfold Vm.byteOf;rw[show((n:Int) % 256).toNat=n % 256 by omega];apply UInt8.toNat.inj;simp
theorem Aio (n k:Nat):(n:Int).fdiv (k:Int)=((n / k:Nat):Int):=by rw[Int.fdiv_eq_ediv_of_nonneg _ (by omega)];rfl
theorem head_eq {ρ :Type} (t n:Nat) (ht:t<256) (K:List Int->Option ρ) (K':Bs->Option ρ) (hK: ∀ l,List.all l isByte=true->l.length<=5->K l=K' (List.map Vm.byteOf l)) :
 (bif decide ((n:Int)<(128:Int))then K ([IntKind.u8.wrap (t:Int),IntKind.u8.wrap (n:Int)]:List Int)
   else bif decide ((n:Int)<(256:Int))then K ([IntKind.u8.wrap (t:Int),129,IntKind.u8.wrap (n:Int)]:List Int)
   else bif decide ((n:Int)<(65536:Int))then K ([IntKind.u8.wrap (t:Int),130,IntKind.u8.wrap ((n:Int).fdiv (256)),IntKind.u8.wrap (n:Int)]:List Int)
   else K ([IntKind.u8.wrap (t:Int),131,IntKind.u8.wrap ((n:Int).fdiv (65536)),IntKind.u8.wrap ((n:Int).fdiv (256)),IntKind.u8.wrap (n:Int)]:List Int))=K' (UInt8.ofNat t::Sp.JC n):=by
 have f1:=Aio n 256;have f2:=Aio n 65536;have g1: ∀ k:Nat,isByte (k:Int)=decide (k<256):=fun k=>by unfold isByte;simp;omega
 rw[show((256:Nat):Int)=256 from rfl]at f1;rw[show((65536:Nat):Int)=65536 from rfl]at f2;rw[f1,f2];unfold Sp.JC;simp only[PO];by_cases h1:n<128
 ·rw[if_pos (by omega),if_pos h1,hK _ (by simp [MQ]) (by simp)];simp only[List.map_cons,List.map_nil,aN]
 ·rw[if_neg (by omega),if_neg h1];by_cases h2:n<256
  ·rw[if_pos (by omega),if_pos h2,hK _ (by simp [MQ];decide) (by simp)];simp only[List.map_cons,List.map_nil,aN];rfl
  ·rw[if_neg (by omega),if_neg h2];by_cases h3:n<65536
   ·rw[if_pos (by omega),if_pos h3,hK _ (by simp [MQ];decide) (by simp)];simp only[List.map_cons,List.map_nil,aN];rfl
   ·rw[if_neg (by omega),if_neg h3,hK _ (by simp [MQ];decide) (by simp)];simp only[List.map_cons,List.map_nil,aN];rfl
theorem Ard {ρ :Type} (bad:Option ρ) (fin:Nat->Option ρ): ∀(l:List Bs) (s: {n:Nat // n<=131072}),
 zJ (fun(e:Bs) (s: {n:Nat // n<=131072}) (k: {n:Nat // n<=131072}->Option ρ)=>if h:s.1+e.length<=131072 then k ⟨s.1+e.length,h⟩else bad) (fun s=>fin s.1) l s=if s.1+l.flatten.length<=131072 then fin (s.1+l.flatten.length)else bad:=by
 intro l
 induction l with
 | nil=>intro s;have:=s.2;simp [zJ,this]
 | cons e r ih =>
  intro s;show(if h:s.1+e.length<=131072 then _ else bad)=_;rw[List.flatten_cons,List.length_append];by_cases h:s.1+e.length<=131072
  ·rw[dif_pos h,ih];dsimp only;rw[Nat.add_assoc]
  ·rw[dif_neg h,if_neg (by omega)]
theorem AqV {ρ :Type} (N:Nat) (l:List Bs) (hN:l.length<N) (hl:l.length<=1099511627776) (bad:Option ρ) (kx:Int->Option ρ) :
 Dz (X:=Int×Int) (Y:=Int) (U2 fun t6a t23a k1 x2 =>
  bif decide (t23a<(l.length:Int))then(Vm.chk (decide ((0:Int)<=t23a)) <|
  Vm.chk (decide (t23a<(l.length:Int))) <|
  let x31:Bool:=decide (((l.getD t23a.toNat ([]:Bs)).length:Int)>(i64.wrap ((131072:Int) - t6a)))
  bif x31 then bad
  else(k1 (i64.wrap (t6a+((l.getD t23a.toNat ([]:Bs)).length:Int)),i64.wrap (t23a+(1:Int)))))
  else(x2 t6a)) N (0,0) kx=if l.flatten.length<=131072 then kx (l.flatten.length:Int)else bad:=by
 refine Eq.trans (Amw (S:= {n:Nat // n<=131072}) (fun i s=>((s.1:Int),i)) l ([]:Bs) (fun e s k=>if h:s.1+e.length<=131072 then k ⟨s.1+e.length,h⟩else bad) (fun s=>(fun n:Nat=>kx (n:Int)) s.1) ?_ ?_ N ⟨0,by omega⟩ hN) ?_
 ·intro i s k hi;have hs:=s.2;show(bif decide ((i:Int)<(l.length:Int))then _ else _)=_;simp only[PO,YQ,Int.toNat_natCast];rw[if_pos (by omega),if_pos (by omega),if_pos (by omega),w64 (x:=131072 - ((s.1:Nat):Int)) (by omega) (by omega)];by_cases h:s.1+(l.getD i []).length<=131072
  ·rw[if_neg (by omega),dif_pos h,w64 (by omega) (by omega),w64 (by omega) (by omega)];rfl
  ·rw[if_pos (by omega),dif_neg h]
 ·intro s k;show(bif decide ((l.length:Int)<(l.length:Int))then _ else _)=_;simp only[PO];rw[if_neg (by omega)]
 ·refine(Ard bad (fun n:Nat=>kx (n:Int)) l ⟨0,by omega⟩).trans ?_;dsimp only;rw[Nat.zero_add]
theorem Abi (N t:Nat) (l:List Bs) (ht:t<256) (h31:t % 32≠31) (hN:l.length<N) (hl:l.length<=1099511627776):Ej N (t:Int) l=some ((O8 t l.flatten).getD [],if(O8 t l.flatten).isNone then 6 else 0):=by
 unfold Ej;try simp -zeta only[Ap]
 simp only[AhW,AeI,AeJ,AkH,AhV,AhQ,Arp t ht];rw[show(decide ((t:Int)<0)||decide ((t:Int)>255)||((t % 32:Nat):Int)==31)=false by simp;omega,cond_false];refine Eq.trans (AqV N l hN hl _ _) ?_;unfold O8;by_cases h:l.flatten.length<=131072
 ·rw[if_pos h,if_pos h,Tt];refine Eq.trans (head_eq t l.flatten.length ht (fun l1:List Int=>Vm.chk (List.all l1 isByte)<|Dj (strings_Join N l ([]:Bs)) fun r81=>Vm.chk (decide ((List.map Vm.byteOf l1).length+r81.length<=140737488355328))<|some ((List.map Vm.byteOf l1)++r81,(0:Int))) (fun h=>some (h++l.flatten,0)) (fun l' hl' hl5=> ?_)) rfl;rw[hl',Gh];unfold strings_Join;rw[Agj,decide_eq_true (show l.length<=140737488355328 by omega),decide_eq_true (show l.flatten.length<=140737488355328 by omega)];show Vm.chk (decide ((List.map Vm.byteOf l').length+l.flatten.length<=140737488355328)) _=_;rw[YQ,if_pos (by rw[List.length_map];omega)];rfl
 ·rw[if_neg h,if_neg h];rfl
theorem Ahf (N t:Nat) (l:List Bs) (ht:t<256) (h31:t % 32≠31) (hN:l.length<N) (hl:l.length<=1099511627776) (hs:l.flatten.length<=140737488355328):Uz N (t:Int) l=some ((O8 t l.flatten).getD [],if(O8 t l.flatten).isNone then 6 else 0):=by
 unfold Uz;try simp -zeta only[Ap]
 simp only[AhW,AeI,AeJ,AkH,AhV,AhQ];rw[show(decide ((t:Int)<0)||decide ((t:Int)>255)||(t:Int).tmod 32==31)=false by rw[Int.tmod_eq_emod_of_nonneg (by omega)];simp;omega,cond_false];refine Eq.trans (Sz (fun x=> ∃ i,i<=l.length/\x=((l.take i).flatten,(i:Int))) (fun x=>l.length - x.2.toNat) (fun _=>some ((O8 t l.flatten).getD [],if(O8 t l.flatten).isNone then 6 else 0)) ?_ N _ ⟨0,by omega,rfl⟩ (by show l.length - 0<N;omega)) rfl;rintro x ⟨i,hi,rfl⟩ k hk;show(bif decide ((i:Int)<(l.length:Int))then _ else _)=_;by_cases h:i<l.length
 ·simp only[PO,YQ,Int.toNat_natCast];have e:(l.take i).flatten++l.getD i []=(l.take (i+1)).flatten:=by rw[take_snoc h,List.flatten_append,show l.getD i []=l[i] by simp [List.getD_eq_getElem?_getD,h]];simp
  have hle:(l.take (i+1)).flatten.length<=l.flatten.length:=by
   conv=>rhs;rw[<- List.take_append_drop (i+1) l,List.flatten_append,List.length_append]
   omega
  have e2:(l.take i).flatten.length+(l.getD i []).length<=140737488355328:=by rw[<- List.length_append,e];omega
  rw[if_pos (by omega),if_pos (by omega),if_pos (by omega),if_pos e2,e,w64 (by omega) (by omega)];exact hk _ ⟨i+1,h,rfl⟩ (by show l.length - ((i:Int)+1).toNat<l.length - (i:Int).toNat;omega)
 ·have hil:i=l.length:=by omega
  subst hil;rw[PO,if_neg (by omega)];dsimp only;rw[List.take_length];unfold O8;by_cases h:l.flatten.length<=131072
  ·rw[if_pos h,PO,if_neg (by omega),Tt];have:=head_eq t l.flatten.length ht (fun l':List Int=>Vm.chk (List.all l' isByte)<|Vm.chk (decide ((List.map Vm.byteOf l').length+l.flatten.length<=140737488355328))<|some ((List.map Vm.byteOf l')++l.flatten,(0:Int))) (fun h=>some (h++l.flatten,0)) (fun l' hl' hl5=>by rw[hl',Gh,YQ,if_pos (by rw[List.length_map];omega)]);refine Eq.trans ?_ this;simp only[PO];by_cases h1:l.flatten.length<128
   ·rw[if_neg (by omega),if_neg (by omega),if_neg (by omega),if_pos (by omega)]
   ·by_cases h2:l.flatten.length<256
    ·rw[if_neg (by omega),if_neg (by omega),if_pos (by omega),if_neg (by omega),if_pos (by omega)]
    ·by_cases h3:l.flatten.length<65536
     ·rw[if_neg (by omega),if_pos (by omega),if_neg (by omega),if_neg (by omega),if_pos (by omega)]
     ·rw[if_pos (by omega),if_neg (by omega),if_neg (by omega),if_neg (by omega)]
  ·rw[if_neg h,PO,if_pos (by omega)];rfl
theorem AkA (N:Nat) (b:Bool) (s:Bs) (e:Int):Eh N b s e=some (s,b||decide (e≠0)):=by
 unfold Eh;try simp -zeta only[Ap]
 cases b<;>simp [Vm.chk,bne,BEq.beq,decide_not]
theorem AkB (N t:Nat) (b:Bool) (l:List Bs) (ht:t<256) (h31:t % 32≠31) (hN:l.length<N) (hl:l.length<=1099511627776):DD N b (t:Int) l=some ((O8 t l.flatten).getD [],b||(O8 t l.flatten).isNone):=by unfold DD;rw[Abi N t l ht h31 hN hl,Dn,AkA,Dn];cases O8 t l.flatten<;>simp
theorem uB (N:Nat) (b:Bool) (l:List Bs) (hN:l.length<N) (hl:l.length<=1099511627776):Eb N b l=some ((O8 48 l.flatten).getD [],b||(O8 48 l.flatten).isNone):=by unfold Eb;rw[show(48:Int)=((48:Nat):Int)from rfl,AkB N 48 b l (by omega) (by omega) hN hl,Dn]
abbrev El:=Int×Bs×Bs
def LW:Nat->Bs->List El->List El×Int
 | 0,_,a=>(a,0)
 | f+1,s,a=>if s=[]then(a,0)else if Sp.err s≠0 then([],Sp.err s)else LW f (Sp.rest s) (a++[GG s])
def QG (s:Bs):List El×Int:=LW (s.length+1) s []
theorem AdC: ∀(f g:Nat) (s:Bs) (a:List El),s.length<f->s.length<g->LW f s a=LW g s a:=by
 intro f
 induction f with
 | zero=>intro g s a h;omega
 | succ f ih =>
  intro g s a hf hg;cases g with
  | zero=>omega
  | succ g =>
   show(if s=[]then(a,(0:Int))else if Sp.err s≠0 then([],Sp.err s)else LW f (Sp.rest s) (a++[GG s]))=(if s=[]then(a,0)else if Sp.err s≠0 then([],Sp.err s)else LW g (Sp.rest s) (a++[GG s]));by_cases h:s=[]
   ·rw[if_pos h,if_pos h]
   ·rw[if_neg h,if_neg h];by_cases he:Sp.err s=0
    ·have:=Sp.Aad s he;rw[if_neg (by simp [he]),if_neg (by simp [he])];exact ih g _ _ (by omega) (by omega)
    ·rw[if_pos he,if_pos he]
def zM (M:Nat) (e:El):Prop:= ∃ t:Bs,Sp.err t=0/\e=GG t/\t.length<=M
structure Good (M:Nat) (l:List El):Prop where
 len:l.length<=M
 all: ∀ e∈l,zM M e
 Aup:(l.map (·.2.2)).flatten.length<=M
theorem zM.mono {M K:Nat} {e:El} (h:zM M e) (hk:M<=K):zM K e:=by obtain⟨t,h1,h2,h3⟩:=h;exact⟨t,h1,h2,by omega⟩
theorem zM.content {M:Nat} {e:El} (h:zM M e):e.2.1.length+2<=e.2.2.length/\e.2.2.length<=M/\0<=e.1/\e.1<256:=by obtain⟨t,h1,rfl,h3⟩:=h;have:=Sp.Aea t h1;have hr:=Sp.AmW t h1;have hc:=Sp.AeL t h1;have ht:=Ajp t;show(Sp.content t).length+2<=(Sp.raw t).length/\(Sp.raw t).length<=M/\0<=((Sp.tag t:Nat):Int)/\((Sp.tag t:Nat):Int)<256;omega
theorem Good.mono {M K:Nat} {l:List El} (h:Good M l) (hk:M<=K):Good K l:=⟨by have:=h.len;omega,fun e he=>(h.all e he).mono hk,by have:=h.Aup;omega⟩
theorem Good.tail {M:Nat} {e:El} {l:List El} (h:Good M (e::l)):Good M l:=⟨by have:=h.len;simp at this;omega,fun e he=>h.all e (List.mem_cons_of_mem _ he),by have:=h.Aup;rw[List.map_cons,List.flatten_cons,List.length_append]at this;omega⟩
theorem Ii (N:Nat) (s:Bs) (hN:4<N) (hs:s.length<=1099511627776) (hl:s.length<N):Ht N s=some (QG s):=by
 unfold Ht QG;try simp -zeta only[Ap]
 refine Sz (F:=fun x=>some (LW (x.1.length+1) x.1 x.2)) (fun x=>x.1.length+x.2.length<=s.length) (fun x=>x.1.length) ?_ N (s,[]) (by simp) hl;rintro ⟨t,a⟩ hI k hk;dsimp only at hI hk;dsimp only[U2];by_cases h:t=[]
 ·subst h;rfl
 ·have hp:=Apb h;rw[Amb,decide_eq_false h,Bool.not_false,cond_true];show(Dj (SS N t) _:Option (List El×Int))=some (if t=[]then(a,0)else if Sp.err t≠0 then([],Sp.err t)else LW t.length (Sp.rest t) (a++[GG t]));rw[if_neg h,We N t hN (by omega),Dn];by_cases he:Sp.err t=0
  ·have hr:MV t=(GG t,Sp.rest t,0):=by unfold MV;rw[if_pos he]
   have hlt:=Sp.Aad t he;rw[hr,if_neg (by simp [he])];show Vm.chk (decide ((a.length+1)*41<=140737488355328)) (k (Sp.rest t,a++[GG t]))=_;rw[YQ,if_pos (by omega),hk (Sp.rest t,a++[GG t]) (by simp;omega) hlt];exact congrArg some (AdC _ _ _ _ (by show(Sp.rest t).length<(Sp.rest t).length+1;omega) hlt)
  ·have hr:MV t=((0,[],[]),[],Sp.err t):=by unfold MV;rw[if_neg he]
   rw[hr,if_pos he];show(bif Sp.err t != 0 then some (([]:List El),Sp.err t)else _)=_;rw[show(Sp.err t != 0)=true by simp [he]];rfl
def Afj (l:List El) (t:Int):El×Bool×List El:=match l with
 | []=>((0,[],[]),false,[])
 | e::r=>if e.1=t then(e,true,r)else((0,[],[]),false,e::r)
theorem Asp {e:El} {r:List El} {t:Int} (h:e.1=t):Afj (e::r) t=(e,true,r):=by show(if e.1=t then(e,true,r)else((0,[],[]),false,e::r))=_;rw[if_pos h]
theorem Aso {e:El} {r:List El} {t:Int} (h: ¬ e.1=t):Afj (e::r) t=((0,[],[]),false,e::r):=by show(if e.1=t then(e,true,r)else((0,[],[]),false,e::r))=_;rw[if_neg h]
theorem tN (N:Nat) (l:List El) (t:Int):FQ N l t=some (Afj l t):=by
 cases l with
 | nil=>rfl
 | cons e r =>
  have h0:(((e::r).length:Int)==(0:Int))=false:=by simp;omega
  have h1:decide ((0:Int)<((e::r).length:Int))=true:=decide_eq_true (by simp only[List.length_cons];omega);have h2:decide ((1:Int)<=((e::r).length:Int))=true:=decide_eq_true (by simp only[List.length_cons];omega);unfold FQ;try simp -zeta only[Ap]
  rw[h0,h1,h2];show(bif (e.1 != t)then some (((0,[],[]):El),false,e::r)else some (e,true,D7 (e::r) 1 (e::r).length))=some (if e.1=t then(e,true,r)else((0,[],[]),false,e::r));have hc:D7 (e::r) 1 (e::r).length=r:=by show((e::r).take (e::r).length).drop 1=r;rw[List.take_length];rfl
  rw[hc];by_cases h:e.1=t
  ·rw[if_pos h,show(e.1 != t)=false by simp [h]];rfl
  ·rw[if_neg h,show(e.1 != t)=true by simp [h]];rfl
theorem N7 (N:Nat) (l:List El):EE N l=some (if l=[]then 0 else 4,l):=by
 cases l with
 | nil=>rfl
 | cons e r =>unfold EE;rw[PO,if_pos (by simp only[List.length_cons];omega),if_neg (by simp)]
def AmN (s:Bs) (t:Int):El×Int:=bif (fJ s).2 != 0 then((0,[],[]),(fJ s).2)else bif (fJ s).1.1 != t then((0,[],[]),5)else((fJ s).1,0)
theorem lZ (N:Nat) (s:Bs) (t:Int) (hN:1048578<N) (hs:s.length<=1048576):I8 N s t=some (AmN s t):=by
 unfold I8 AmN;try simp only[clR]
 rw[QQ N s (by omega) (by omega),Dn];simp only[Abu]
theorem u8n {n:Nat} (h:n<256):(UInt8.ofNat n).toNat=n:=by rw[UInt8.toNat_ofNat'];omega
theorem u8m (n:Nat):(UInt8.ofNat n).toNat=n % 256:=UInt8.toNat_ofNat'
theorem Aox (t n:Nat) (s:Bs) (ht:t<256) (h31:t % 32≠31) (hn:n<=131072):Sp.head (UInt8.ofNat t::(Sp.JC n++s))=(0,1+(Sp.JC n).length,n):=by
 have h1: ¬(UInt8.ofNat t).toNat % 32=31:=by rw[u8n ht];exact h31
 unfold Sp.JC;by_cases a1:n<128
 ·rw[if_pos a1];have e:=u8n (show n<256 by omega);unfold Sp.head;dsimp only[List.cons_append,List.nil_append];rw[if_neg h1,e,if_pos a1];rfl
 ·rw[if_neg a1];by_cases a2:n<256
  ·rw[if_pos a2];have e:=u8n a2;have hb:Sp.beNat (((UInt8.ofNat n)::s).take 1)=n:=by show 0*256+(UInt8.ofNat n).toNat=n;omega
   unfold Sp.head;dsimp only[List.cons_append,List.nil_append];rw[if_neg h1,if_neg (by decide),if_neg (by decide),show(129:UInt8).toNat - 128=1 from rfl];rw[hb,if_neg (by simp),if_neg (by rw[show Sp.leastOf 1=128 from rfl];omega)];rfl
  ·rw[if_neg a2];by_cases a3:n<65536
   ·rw[if_pos a3];have e1:=u8m (n / 256);have e2:=u8m n;have hb:Sp.beNat (((UInt8.ofNat (n / 256))::UInt8.ofNat n::s).take 2)=n:=by show(0*256+(UInt8.ofNat (n / 256)).toNat)*256+(UInt8.ofNat n).toNat=n;omega
    unfold Sp.head;dsimp only[List.cons_append,List.nil_append];rw[if_neg h1,if_neg (by decide),if_neg (by decide),show(130:UInt8).toNat - 128=2 from rfl];rw[hb,if_neg (by simp),if_neg (by rw[show Sp.leastOf 2=256 from rfl];omega)];rfl
   ·rw[if_neg a3];have e0:=u8m (n / 65536);have e1:=u8m (n / 256);have e2:=u8m n;have hb:Sp.beNat (((UInt8.ofNat (n / 65536))::(UInt8.ofNat (n / 256))::UInt8.ofNat n::s).take 3)=n:=by show((0*256+(UInt8.ofNat (n / 65536)).toNat)*256+(UInt8.ofNat (n / 256)).toNat)*256+(UInt8.ofNat n).toNat=n;omega
    unfold Sp.head;dsimp only[List.cons_append,List.nil_append];rw[if_neg h1,if_neg (by decide),if_neg (by decide),show(131:UInt8).toNat - 128=3 from rfl];rw[hb,if_neg (by simp),if_neg (by rw[show Sp.leastOf 3=65536 from rfl];omega)];rfl
section
variable (t:Nat) (c r:Bs) (ht:t<256) (h31:t % 32≠31) (hc:c.length<=131072)
include ht h31 hc
theorem AsC:Sp.rd (Sp.elem t c++r)=(0,1+(Sp.JC c.length).length,c.length):=by
 have h:Sp.elem t c++r=UInt8.ofNat t::(Sp.JC c.length++(c++r)):=by unfold Sp.elem;simp
 unfold Sp.rd;rw[h,Aox t c.length (c++r) ht h31 hc];rw[if_neg];rintro ⟨_,h2⟩;simp only[List.length_cons,List.length_append]at h2;omega
theorem yH:Sp.err (Sp.elem t c++r)=0/\GG (Sp.elem t c++r)=((t:Int),c,Sp.elem t c)/\Sp.rest (Sp.elem t c++r)=r:=by
 have h:=AsC t c r ht h31 hc;have hl:(Sp.elem t c).length=1+(Sp.JC c.length).length+c.length:=by unfold Sp.elem;simp;omega
 have hd:(Sp.elem t c++r).drop (1+(Sp.JC c.length).length)=c++r:=by
  have h2:Sp.elem t c++r=(UInt8.ofNat t::Sp.JC c.length)++(c++r):=by unfold Sp.elem;simp
  rw[h2];exact List.drop_left' (by simp;omega)
 refine⟨by unfold Sp.err;rw[h],?_,?_⟩
 ·unfold GG Sp.content Sp.raw;rw[h];dsimp only;rw[hd,List.take_left,<- hl,List.take_left];rw[show Sp.tag (Sp.elem t c++r)=t from u8n ht]
 ·unfold Sp.rest;rw[h];dsimp only;rw[<- hl,List.drop_left]
end
def Ea (t:Nat) (c:Bs):El:=((t:Int),c,Sp.elem t c)
theorem Zt (t:Nat) (c:Bs) (ht:t<256) (h31:t % 32≠31) (hc:c.length<=131072):fJ (Sp.elem t c)=(Ea t c,0):=by obtain⟨h1,h2,h3⟩:=yH t c [] ht h31 hc;rw[List.append_nil]at h1 h2 h3;unfold fJ Sp.NL;rw[h1,h3,if_pos (show(if(0:Int)≠0 then(0:Int)else if([]:Bs)=[]then 0 else 4)=0 from rfl),h2];rfl
theorem y9 (t:Nat) (c:Bs) (ht:t<256) (h31:t % 32≠31) (hc:c.length<=131072):AmN (Sp.elem t c) t=(Ea t c,0):=by unfold AmN;rw[Zt t c ht h31 hc];show(bif ((t:Int) != (t:Int))then((0,[],[]),(5:Int))else(Ea t c,0))=_;rw[show((t:Int) != (t:Int))=false by simp];rfl
structure Fine (p:Nat×Bs):Prop where
 lt:p.1<256
 low:p.1 % 32≠31
 len:p.2.length<=131072
end Go.Proofs.YtfgdgdnlglejbaaGreatDoor.Pl
namespace Go.Proofs.YtfgdgdnlglejbaaGreatDoor.Pl
open IntKind (i64)
open Go Vm
theorem FV {t:Nat} {c:Bs} (ht:t<256) (h31:t % 32≠31) (hc:c.length<=131072):Fine (t,c):=⟨ht,h31,hc⟩
def QW (d:Nat) (s:Bs):Prop:=Sp.within (s.length+1) d s=0
theorem Aq3 (d:Nat):QW d []:=Sp.An0 _ _
theorem Ak6: ∀(f d:Nat) (l:Bs),Sp.within f (d+1) l=0->Sp.within f d l=0:=by
 intro f
 induction f with
 | zero=>intro d l _;rfl
 | succ f ih =>
  intro d l h;unfold Sp.within at h ⊢;by_cases h1:l=[]
  ·rw[if_pos h1]
  ·rw[if_neg h1]at h ⊢;by_cases h2:Sp.err l≠0
   ·rw[if_pos h2]at h;exact absurd h h2
   ·rw[if_neg h2]at h ⊢;by_cases h3:16<=d+1
    ·rw[if_pos h3]at h;cases h
    ·rw[if_neg h3]at h;rw[if_neg (by omega)];by_cases h4:(if Sp.cons (Sp.tag l)=true then Sp.within f (d+1+1) (Sp.content l)else 0)=0
     ·have h5:(if Sp.cons (Sp.tag l)=true then Sp.within f (d+1) (Sp.content l)else 0)=0:=by
       by_cases hc:Sp.cons (Sp.tag l)=true
       ·rw[if_pos hc]at h4 ⊢;exact ih _ _ h4
       ·rw[if_neg hc]
      rw[if_neg (by simp [h4])]at h;rw[if_neg (by simp [h5])];exact ih _ _ h
     ·rw[if_pos h4]at h;exact absurd h h4
theorem AkV {d e:Nat} (h:d<=e) {s:Bs} (hs:QW e s):QW d s:=by
 obtain⟨k,rfl⟩: ∃ k,e=d+k:=⟨e - d,by omega⟩
 clear h
 induction k with
 | zero=>exact hs
 | succ k ih=>exact ih (Ak6 _ _ _ hs)
theorem Aic (t:Nat) (c r:Bs):Sp.elem t c++r≠ []:=by unfold Sp.elem;simp
theorem Yv (t:Nat) (c:Bs):c.length<(Sp.elem t c).length:=by unfold Sp.elem;simp;omega
theorem Ajf {t:Nat} {c r:Bs} (h:Fine (t,c)):Sp.err (Sp.elem t c++r)=0/\Sp.tag (Sp.elem t c++r)=t/\Sp.content (Sp.elem t c++r)=c/\Sp.rest (Sp.elem t c++r)=r:=by obtain⟨h1,h2,h3⟩:=yH t c r h.lt h.low h.len;unfold GG at h2;injection h2 with h4 h5;injection h5 with h5 h6;exact⟨h1,by exact_mod_cast h4,h5,h3⟩
theorem AoH {d t:Nat} {c r:Bs} (h:Fine (t,c)) (hd:d<16) (hc:Sp.cons t=true->QW (d+1) c) (hr:QW d r):QW d (Sp.elem t c++r):=by
 obtain⟨h1,h2,h3,h4⟩:=Ajf (r:=r) h;have hl:=Yv t c;have hlen:(Sp.elem t c++r).length=(Sp.elem t c).length+r.length:=List.length_append;unfold QW;rw[Sp.Abn _ d _ (Aic t c r) h1 (by omega),h4]
 ·rw[QD _ (r.length+1) d r (by omega) (by omega)];exact hr
 ·rw[h2,h3];unfold Sp.inner;by_cases hq:Sp.cons t=true
  ·rw[if_pos hq,QD _ (c.length+1) (d+1) c (by omega) (by omega)];exact hc hq
  ·rw[if_neg hq]
theorem AbB {t:Nat} {c:Bs} (h:Fine (t,c)) (hc:Sp.cons t=true->QW 1 c):Sp.chk (Sp.elem t c)=0:=by
 obtain⟨h1,h2,h3,h4⟩:=Ajf (r:=[]) h;rw[List.append_nil]at h1 h2 h3 h4;have hl:=Yv t c;have ho:Sp.NL (Sp.elem t c)=0:=by unfold Sp.NL;rw[h1,h4,if_neg (by decide),if_pos rfl]
 unfold Sp.chk;rw[ho,if_neg (by decide),h2,h3];unfold Sp.inner;by_cases hq:Sp.cons t=true
 ·rw[if_pos hq,QD _ (c.length+1) 1 c (by omega) (by omega)];exact hc hq
 ·rw[if_neg hq]
theorem Ao9: ∀(f:Nat) (s:Bs) (a:List El),LW f s a=if(LW f s []).2=0 then(a++(LW f s []).1,0)else([],(LW f s []).2):=by
 intro f
 induction f with
 | zero=>intro s a;show(a,(0:Int))=if(0:Int)=0 then(a++[],0)else _;rw[if_pos rfl,List.append_nil]
 | succ f ih =>
  intro s a;show(if s=[]then(a,(0:Int))else if Sp.err s≠0 then([],Sp.err s)else LW f (Sp.rest s) (a++[GG s]))=if(if s=[]then(([]:List El),(0:Int))else if Sp.err s≠0 then([],Sp.err s)else LW f (Sp.rest s) ([]++[GG s])).2=0 then(a++(if s=[]then(([]:List El),(0:Int))else if Sp.err s≠0 then([],Sp.err s)else LW f (Sp.rest s) ([]++[GG s])).1,0)else([],(if s=[]then(([]:List El),(0:Int))else if Sp.err s≠0 then([],Sp.err s)else LW f (Sp.rest s) ([]++[GG s])).2);by_cases h1:s=[]
  ·simp only[if_pos h1];rw[if_pos trivial,List.append_nil]
  ·simp only[if_neg h1];by_cases h2:Sp.err s=0
   ·have h2': ¬ Sp.err s≠0:=fun h=>h h2;simp only[if_neg h2'];rw[ih _ (a++[GG s]),ih _ ([]++[GG s])];by_cases h3:(LW f (Sp.rest s) []).2=0
    ·simp only[if_pos h3];simp
    ·simp only[if_neg h3]
   ·have h2':Sp.err s≠0:=h2;simp only[if_pos h2',if_neg h2]
structure Par (d:Nat) (x:Bs) (es:List El):Prop where
 rd: ∀ r fs,QG r=(fs,0)->QG (x++r)=(es++fs,0)
 ns: ∀ r,QW d r->QW d (x++r)
theorem Aqw:QG []=([],0):=rfl
theorem Par.list {d:Nat} {x:Bs} {es:List El} (h:Par d x es):QG x=(es,0):=by have:=h.rd [] [] Aqw;rwa [List.append_nil,List.append_nil]at this
theorem Par.nest {d:Nat} {x:Bs} {es:List El} (h:Par d x es):QW d x:=by have:=h.ns [] (Aq3 d);rwa [List.append_nil]at this
theorem zY (d:Nat):Par d [] []:=⟨fun _ _ h=>h,fun _ h=>h⟩
theorem GL {d:Nat} {x y:Bs} {es fs:List El} (h:Par d x es) (g:Par d y fs):Par d (x++y) (es++fs):=by
 refine⟨fun r gs hr=> ?_,fun r hr=> ?_⟩
 ·rw[List.append_assoc,List.append_assoc];exact h.rd _ _ (g.rd _ _ hr)
 ·rw[List.append_assoc];exact h.ns _ (g.ns _ hr)
theorem AiX {d t:Nat} {c:Bs} (h:Fine (t,c)) (hd:d<16) (hc:Sp.cons t=true->QW (d+1) c):Par d (Sp.elem t c) [Ea t c]:=by refine⟨fun r fs hr=> ?_,fun r hr=>AoH h hd hc hr⟩;obtain⟨h1,h2,h3⟩:=yH t c r h.lt h.low h.len;have hl:=Yv t c;have hlen:(Sp.elem t c++r).length=(Sp.elem t c).length+r.length:=List.length_append;unfold QG at hr ⊢;show(if Sp.elem t c++r=[]then(([]:List El),(0:Int))else if Sp.err (Sp.elem t c++r)≠0 then([],Sp.err (Sp.elem t c++r))else LW (Sp.elem t c++r).length (Sp.rest (Sp.elem t c++r)) ([]++[GG (Sp.elem t c++r)]))=_;rw[if_neg (Aic t c r),h1,if_neg (by decide),h2,h3,Ao9,AdC _ (r.length+1) r [] (by omega) (by omega),hr,if_pos rfl];rfl
theorem GM {d t:Nat} {c:Bs} (h:Fine (t,c)) (hd:d<16) (hc:QW (d+1) c):Par d (Sp.elem t c) [Ea t c]:=AiX h hd fun _=>hc
theorem JF {d t:Nat} {c:Bs} (h:Fine (t,c)) (hd:d<16) (hc:Sp.cons t=false):Par d (Sp.elem t c) [Ea t c]:=AiX h hd fun h=>by rw[hc]at h;cases h
theorem Af8 {d:Nat} {x:Bs} {es:List El} (b:Bool) (h:b=true->Par d x es):Par d (bif b then x else []) (bif b then es else []):=by
 cases b with
 | true=>exact h rfl
 | false=>exact zY d
theorem TA {α :Type} {d:Nat} {f: α ->Bs} {g: α ->El}: ∀ {l:List α},(∀ a∈l,Par d (f a) [g a])->Par d (l.map f).flatten (l.map g):=by
 intro l
 induction l with
 | nil=>intro _;exact zY d
 | cons a l ih =>intro h;rw[List.map_cons,List.map_cons,List.flatten_cons];exact GL (h a List.mem_cons_self) (ih fun b hb=>h b (List.mem_cons_of_mem _ hb))
theorem Ai1 {t:Nat} {c:Bs} {r:List El} {k:Int} (h:(t:Int)=k):Afj (Ea t c::r) k=(Ea t c,true,r):=Asp h
theorem Amq {t:Nat} {c:Bs} {r:List El} {k:Int} (h: ¬(t:Int)=k):Afj (Ea t c::r) k=((0,[],[]),false,Ea t c::r):=Aso h
theorem Ai0 (k:Int):Afj [] k=((0,[],[]),false,[]):=rfl
theorem el1 (t:Nat) (c:Bs):(Ea t c).1=(t:Int):=rfl
theorem el2 (t:Nat) (c:Bs):(Ea t c).2.1=c:=rfl
theorem el3 (t:Nat) (c:Bs):(Ea t c).2.2=Sp.elem t c:=rfl
section
variable {X Y ρ :Type} {B:X->(X->Option ρ)->(Y->Option ρ)->Option ρ} {kx:Y->Option ρ}
theorem GY (mk:Nat->X) (n:Nat) (fin:Option ρ) (h: ∀ i,i<n-> ∀ k,B (mk i) k kx=k (mk (i+1))) (hend: ∀ k,B (mk n) k kx=fin) (N:Nat) (hN:n<N):Dz B N (mk 0) kx=fin:=by refine(Amh mk n (fun _=>0) (fun _=>none) fin (fun i hi k=>h i hi k) hend N hN).trans ?_;rw[AbK];rfl
end
end Go.Proofs.YtfgdgdnlglejbaaGreatDoor.Pl
namespace Go.Proofs.YtfgdgdnlglejbaaGreatDoor.Pl
open IntKind (i64)
open Go Vm
def leB (a b:Bs):Bool:=Vm.bytesLess a b||a==b
theorem Ao8 (a b:Bs):leB a b=decide (a<=b):=by
 unfold leB Vm.bytesLess;rw[bytesLess_eq];by_cases h:a=b
 ·subst h;rw[beq_self_eq_true,Bool.or_true];exact(decide_eq_true (List.le_refl a)).symm
 ·rw[beq_false_of_ne h,Bool.or_false];by_cases h2:a<b
  ·rw[decide_eq_true h2,decide_eq_true (List.le_of_lt h2)]
  ·rw[decide_eq_false h2,decide_eq_false];intro h3;exact h (List.le_antisymm h3 (by simpa using h2))
def Qc (x:Bs):List Bs->List Bs
 | []=>[x]
 | y::r=>bif leB y x then y::Qc x r else x::y::r
theorem nM (x:Bs): ∀ s:List Bs,(Qc x s).Perm (x::s):=by
 intro s
 induction s with
 | nil=>exact List.Perm.refl _
 | cons y r ih =>
  show(bif leB y x then y::Qc x r else x::y::r).Perm _;cases leB y x with
  | true=>exact(List.Perm.cons y ih).trans (List.Perm.swap x y r)
  | false=>exact List.Perm.refl _
theorem Aqm (x:Bs): ∀ s:List Bs,s.Pairwise (fun a b=>a<=b)->(Qc x s).Pairwise (fun a b=>a<=b):=by
 intro s
 induction s with
 | nil=>intro _;exact List.pairwise_singleton _ _
 | cons y r ih =>
  intro h;rw[List.pairwise_cons]at h;show(bif leB y x then y::Qc x r else x::y::r).Pairwise _;cases hl:leB y x with
  | true =>
   rw[Ao8,decide_eq_true_eq]at hl;rw[cond_true,List.pairwise_cons];refine⟨fun z hz=> ?_,ih h.2⟩;rcases List.mem_cons.1 ((nM x r).mem_iff.1 hz)with rfl | hz
   ·exact hl
   ·exact h.1 z hz
  | false =>
   rw[Ao8,decide_eq_false_iff_not]at hl
   have hxy:x<=y:=by
    rcases List.le_total x y with h | h
    ·exact h
    ·exact absurd h hl
   rw[cond_false,List.pairwise_cons,List.pairwise_cons];refine⟨fun z hz=> ?_,h⟩;rcases List.mem_cons.1 hz with rfl | hz
   ·exact hxy
   ·exact List.le_trans hxy (h.1 z hz)
theorem Ais: ∀(l s:List Bs),s.Pairwise (fun a b=>a<=b)->(l.foldl (fun s x=>Qc x s) s).Pairwise (fun a b=>a<=b)/\(l.foldl (fun s x=>Qc x s) s).Perm (l++s):=by
 intro l
 induction l with
 | nil=>intro s h;exact⟨h,List.Perm.refl _⟩
 | cons x r ih =>intro s h;obtain⟨h1,h2⟩:=ih (Qc x s) (Aqm x s h);refine⟨h1,h2.trans ?_⟩;exact((nM x s).append_left r).trans List.perm_middle
theorem Acg (l:List Bs):(l.foldl (fun s x=>Qc x s) []).flatten=Rx l:=by
 unfold Rx;congr 1;obtain⟨h1,h2⟩:=Ais l [] List.Pairwise.nil;rw[List.append_nil]at h2;refine List.Perm.eq_of_pairwise (le:=fun a b=>a<=b) (fun a b _ _ h3 h4=>List.le_antisymm h3 h4) h1 ?_ (h2.trans (List.mergeSort_perm l _).symm)
 have:=List.pairwise_mergeSort (le:=fun x y:Bs=>decide (x<=y)) (fun a b c h3 h4=>by
  rw[decide_eq_true_eq]at *
  exact List.le_trans h3 h4) (fun a b=>by
  rw[Bool.or_eq_true,decide_eq_true_eq,decide_eq_true_eq];exact List.le_total a b) l
 exact this.imp (fun h=>by simpa using h)
theorem Asv (x:Bs): ∀ s:List Bs,s.take (s.findIdx fun y=> !leB y x)++x::s.drop (s.findIdx fun y=> !leB y x)=Qc x s:=by
 intro s
 induction s with
 | nil=>rfl
 | cons y r ih =>
  rw[List.findIdx_cons];show _=bif leB y x then y::Qc x r else x::y::r;cases leB y x with
  | true=>rw[Bool.not_true,cond_false,cond_true,List.take_succ_cons,List.drop_succ_cons,List.cons_append,ih]
  | false=>rfl
theorem AfC (N:Nat) (l:List Bs) (hN:1048578<N) (hl:l.length<=1048576) (hf:l.flatten.length<=1099511627776):fP N l=some (Rx l):=by
 unfold fP;try simp only[clR]
 refine(bY (S:=List Bs) (R:=Unit) (mk:=fun i s=>((i:Int),s)) l [] (fun i s=>s.length=i/\s=(l.take i).foldl (fun s x=>Qc x s) []) (fun x s=>.inr (Qc x s)) (fun _=>none) (fun s=>some s.flatten) ?_ ?_ ?_ N [] ⟨rfl,rfl⟩ (by omega)).trans ?_
 ·intro i s hi hI k;obtain⟨hs,_⟩:=hI;have hp:(Qc (l.getD i []) s).length=i+1:=by rw[(nM _ s).length_eq,List.length_cons,hs]
  simp (disch:=first | assumption | omega) only[DT];refine(AqP (mk:=fun j=>((j:Int),s)) (out:=fun j=>((j:Int),s)) s [] (fun y=> !leB y (l.getD i [])) ?_ ?_ N (by omega)).trans ?_
  ·intro j k hj;simp (disch:=first | assumption | omega) only[DT,ES];unfold leB;cases (Vm.bytesLess (s.getD j []) (l.getD i [])||s.getD j []==l.getD i [])<;>rfl
  ·intro k;simp (disch:=first | assumption | omega) only[DT]
  ·have hc:=Asv (l.getD i []) s;have hle:(s.findIdx fun y=> !leB y (l.getD i []))<=s.length:=List.findIdx_le_length;generalize (s.findIdx fun y=> !leB y (l.getD i []))=m at hc hle;have hc1:D7 s 0 m=s.take m:=rfl;have hc2:D7 s m s.length=s.drop m:=by unfold D7;rw[List.take_length]
   have hl1:(s.take m).length=m:=by rw[List.length_take];omega
   have hl2:(s.drop m).length=s.length - m:=List.length_drop ..;have hl3:(s.take m++[l.getD i []]).length=m+1:=by rw[List.length_append,hl1];rfl
   simp (disch:=first | assumption | omega) only[DT,hc1,hc2,hl1,hl2,hl3,ES];rw[List.append_assoc,List.singleton_append,hc]
 ·intro i s s' hi hI he;injection he with he;subst he;refine⟨by rw[(nM _ s).length_eq,List.length_cons,hI.1],?_⟩;rw[hI.2,List.take_add_one,List.getElem?_eq_getElem hi,List.foldl_append,getD_lt l i _ hi];rfl
 ·intro s k hI
  have hp:s.flatten.length<=1099511627776:=by
   have:=(Ais l [] List.Pairwise.nil).2;rw[List.append_nil]at this;have h2:=hI.2;rw[List.take_length]at h2;rw[<- h2]at this;have h3:=(this.map List.length).sum_nat
   rw[List.length_flatten]at hf ⊢;omega
  have hsl:=hI.1;simp (disch:=first | assumption | omega) only[DT];refine(Ae9 (mk:=fun i t=>(t,(i:Int),s)) s [] id some ?_ ?_ N (by omega)).trans ?_
  ·intro i t hi ht k;rw[List.map_id]at ht;have ht:t.length+(s.getD i []).length<=s.flatten.length:=ht;simp (disch:=first | assumption | omega) only[DT,ES];rfl
  ·intro t k;simp (disch:=first | assumption | omega) only[DT]
  ·rw[List.map_id]
 ·have: ∀(l s:List Bs),P7 (R:=Unit) (fun x (s:List Bs)=>.inr (Qc x s)) l s= .inr (l.foldl (fun s x=>Qc x s) s):=by
   intro l
   induction l with
   | nil=>intro s;rfl
   | cons x r ih=>intro s;rw[QH];exact ih _
  rw[this,AkL,Acg]
abbrev Att:Type:=Bs×Int×Bs
theorem Qv {t:Nat} {c:Bs} (h:c.length<=131072):O8 t c=some (Sp.elem t c):=by unfold O8;rw[if_pos h]
theorem SQ (N t:Nat) (l:List Bs) (ht:t<256) (h31:t % 32≠31) (hN:1048578<N) (hl:l.length<=1000) (hs:l.flatten.length<=131072):Ej N (t:Int) l=some (Sp.elem t l.flatten,0):=by rw[Abi N t l ht h31 (by omega) (by omega),Qv hs];rfl
theorem AmY (N t:Nat) (l:List Bs) (ht:t<256) (h31:t % 32≠31) (hN:1048578<N) (hl:l.length<=1000) (hs:l.flatten.length<=131072):FZ N (t:Int) l=some (Sp.elem t l.flatten):=by unfold FZ;rw[Ahf N t l ht h31 (by omega) (by omega) (by omega),Dn,Qv hs];rfl
theorem UN (N t:Nat) (b:Bool) (l:List Bs) (ht:t<256) (h31:t % 32≠31) (hN:1048578<N) (hl:l.length<=1000) (hs:l.flatten.length<=131072):DD N b (t:Int) l=some (Sp.elem t l.flatten,b):=by rw[AkB N t b l ht h31 (by omega) (by omega),Qv hs];simp
theorem EI (a:Bs): [a].flatten=a:=by simp
theorem Yh (a b:Bs): [a,b].flatten=a++b:=by simp
theorem flat3 (a b c:Bs): [a,b,c].flatten=a++(b++c):=by simp
theorem ofM {N:Nat} (hN:1048578<N): ∃ M,N=M+300:=⟨N - 300,by omega⟩
def VJ:List Att:=[([50,46,53,46,52,46,51],12,[65,110,110]),([50,46,53,46,52,46,51],19,[32,97,110,110]),([50,46,53,46,52,46,51],12,[103,114,195,182,195,159,101]),([50,46,53,46,52,46,54],19,[85,83]),([50,46,53,46,52,46,49,48],19,[69,120,97,109,112,108,101,32,32,67,111,114,112]),([50,46,53,46,52,46,49,48],12,[101,120,97,109,112,108,101,32,99,111,114,112]),([50,46,53,46,52,46,49,49],22,[97,44,98,43,99,61,100,92,101]),([48,46,57,46,50,51,52,50,46,49,57,50,48,48,51,48,48,46,49,48,48,46,49,46,50,53],22,[111,114,103]),([49,46,50,46,56,52,48,46,49,49,51,53,52,57,46,49,46,57,46,49],22,[97,110,110,64,101,120,97,109,112,108,101,46,111,114,103]),([49,46,50,46,56,52,48,46,49,49,51,53,52,57,46,49,46,57,46,49],22,[110,111,32,97,100,100,114,101,115,115]),([50,46,53,46,52,46,57,57],19,[120]),([50,46,53,46,52,46,55],12,[76])]
def Avx:List Att:=[[48],[49],[50],[51]].flatMap fun k=>[([50,46,53,46,52,46,49,48],19,[67,65,32]++k),([50,46,53,46,52,46,49,48],19,[32,99,97,32,32]++k)]
def Avj:Att:=([50,46,53,46,52,46,49,49],12,[85,110,105,116])
def Hz:List (List Att):=VJ.map (fun a=>[a])++(VJ.flatMap fun a=>(VJ.filter fun b=>a.1 != b.1).map fun b=>[a,b])++(Avj::Avx).map fun a=>[a]
def Aug (l:List Bs):Bs:=(l.foldl (fun s x=>Qc x s) []).flatten
def Vd (a:Att):Bs:=((I9 300 a).getD default).1
def KJ (r:List Att):Bs:=Aug (r.map Vd)
def Z7 (r:List Att):Bs:=Sp.elem 49 (KJ r)
def oU (r:List Att):List Att:=((FU 300 (Ea 49 (KJ r))).getD default).1
structure AuM (N:Nat) (r:List Att):Prop where
 chk:LU N r=some 0
 AqE:NQ N r=some 0
 Av2:SK N r=some (r.map Vd)
 att: ∀ a∈r,I9 N a=some (Vd a,0)
 dec:FU N (Ea 49 (KJ r))=some (oU r,0)
 inC:oU r∈Hz
 enc:KJ (oU r)=KJ r
 len:(KJ r).length<=200
 lens:(r.map Vd).flatten.length<=200
 p0:0<r.length
 p2:r.length<=2
 nest:QW 9 (KJ r)
def UA (M:Nat) (r:List Att):Bool :=
 LU (M+300) r==some 0&&(NQ (M+300) r==some 0&&(SK (M+300) r==some (r.map Vd)&&(r.all (fun a=>I9 (M+300) a==some (Vd a,0)) &&
 (FU (M+300) (Ea 49 (KJ r))==some (oU r,0)&&(Hz.contains (oU r)&&(KJ (oU r)==KJ r&&(decide ((KJ r).length<=200)&&(decide ((r.map Vd).flatten.length<=200)&&(decide (0<r.length)&&(decide (r.length<=2)&&(Sp.within ((KJ r).length+1) 9 (KJ r)==0)))))))))))
theorem Aly {α :Type} (p: α ->Bool) (l:List α) (n:Nat) (h: ∀ i,i<n->((l.drop (12*i)).take 12).all p=true) (hl:l.length<=12*n):l.all p=true:=by rw[List.all_eq_true];intro x hx;obtain⟨j,hj,rfl⟩:=List.getElem_of_mem hx;refine List.all_eq_true.1 (h (j / 12) (by omega)) _ ?_;rw[List.mem_iff_getElem];refine⟨j % 12,by rw[List.length_take,List.length_drop];omega,?_⟩;rw[List.getElem_take,List.getElem_drop];congr 1;omega
theorem ck0 (M:Nat):((Hz.drop (12*0)).take 12).all (UA M)=true:=by kernel_rfl
theorem ck1 (M:Nat):((Hz.drop (12*1)).take 12).all (UA M)=true:=by kernel_rfl
theorem ck2 (M:Nat):((Hz.drop (12*2)).take 12).all (UA M)=true:=by kernel_rfl
theorem ck3 (M:Nat):((Hz.drop (12*3)).take 12).all (UA M)=true:=by kernel_rfl
theorem ck4 (M:Nat):((Hz.drop (12*4)).take 12).all (UA M)=true:=by kernel_rfl
theorem ck5 (M:Nat):((Hz.drop (12*5)).take 12).all (UA M)=true:=by kernel_rfl
theorem ck6 (M:Nat):((Hz.drop (12*6)).take 12).all (UA M)=true:=by kernel_rfl
theorem ck7 (M:Nat):((Hz.drop (12*7)).take 12).all (UA M)=true:=by kernel_rfl
theorem ck8 (M:Nat):((Hz.drop (12*8)).take 12).all (UA M)=true:=by kernel_rfl
theorem ck9 (M:Nat):((Hz.drop (12*9)).take 12).all (UA M)=true:=by kernel_rfl
theorem Avy (M:Nat):((Hz.drop (12*10)).take 12).all (UA M)=true:=by kernel_rfl
theorem Avz (M:Nat):((Hz.drop (12*11)).take 12).all (UA M)=true:=by kernel_rfl
theorem AqG:Hz.length<=144:=of_decide_eq_true (by kernel_rfl)
theorem AsD (M:Nat):Hz.all (UA M)=true:=by
 refine Aly _ _ 12 (fun i hi=> ?_) AqG
 match i,hi with
 | 0,_=>exact ck0 M
 | 1,_=>exact ck1 M
 | 2,_=>exact ck2 M
 | 3,_=>exact ck3 M
 | 4,_=>exact ck4 M
 | 5,_=>exact ck5 M
 | 6,_=>exact ck6 M
 | 7,_=>exact ck7 M
 | 8,_=>exact ck8 M
 | 9,_=>exact ck9 M
 | 10,_=>exact Avy M
 | 11,_=>exact Avz M
theorem Qm {N:Nat} (hN:1048578<N) {r:List Att} (h:r∈Hz):AuM N r:=by obtain⟨M,rfl⟩:=ofM hN;have h:=List.all_eq_true.1 (AsD M) r h;unfold UA at h;simp only[Bool.and_eq_true,beq_iff_eq,List.all_eq_true,decide_eq_true_eq,List.contains_iff_mem]at h;obtain⟨h1,h2,h3,h4,h5,h6,h7,h8,h9,h10,h11,h12⟩:=h;exact⟨h1,h2,h3,h4,h5,h6,h7,h8,h9,h10,h11,h12⟩
theorem AqF {N:Nat} (hN:1048578<N) {r:List Att} (h:r∈Hz):(Z7 r).length<=205:=by have:=(Qm hN h).len;have:=Sp.DF 49 (KJ r);unfold Z7;omega
def okN (n:List (List Att)):Prop:=n.length<=3/\ ∀ r∈n,r∈Hz
def nmC (n:List (List Att)):List (List Att):=n.map oU
def nmB (n:List (List Att)):Bs:=(n.map Z7).flatten
def nmT (n:List (List Att)):Bs:=Sp.elem 48 (nmB n)
section
variable {N:Nat} (hN:1048578<N) {n:List (List Att)} (hn:okN n)
include hN hn
theorem zU:okN (nmC n):=⟨by unfold nmC;rw[List.length_map];exact hn.1,fun r hr=>by obtain⟨x,hx,rfl⟩:=List.mem_map.1 hr;exact(Qm hN (hn.2 x hx)).inC⟩
theorem Ah4:nmB (nmC n)=nmB n:=by unfold nmB nmC;rw[List.map_map];congr 1;exact List.map_congr_left fun r hr=>by show Sp.elem 49 _=Sp.elem 49 _;rw[(Qm hN (hn.2 r hr)).enc]
theorem kD:(nmB n).length<=615:=by have:=Gs (g:=Z7) (M:=205) (l:=n) fun r hr=>AqF hN (hn.2 r hr);have:=hn.1;unfold nmB;omega
theorem kE:(nmT n).length<=620:=by have:=kD hN hn;have:=Sp.DF 48 (nmB n);unfold nmT;omega
theorem AoL:Par 8 (nmB n) (n.map fun r=>Ea 49 (KJ r)):=TA fun r hr=>GM (FV (by decide) (by decide) (by have:=(Qm hN (hn.2 r hr)).len;omega)) (by decide) (Qm hN (hn.2 r hr)).nest
theorem AkW:Fine (48,nmB n):=(FV (by decide) (by decide) (by have:=kD hN hn;omega))
theorem KX:Hf N n=some 0:=by
 have h3:=hn.1;unfold Hf;try simp only[clR]
 simp (disch:=first | assumption | omega) only[DT];refine GY (fun i=>(i:Int)) n.length _ ?_ ?_ N (by omega)
 ·intro i hi k;have h:=(Qm hN (hn.2 _ (getD_mem [] hi))).chk;simp (disch:=first | assumption | omega) only[DT,h,ES];try rfl
 ·intro k;simp (disch:=first | assumption | omega) only[DT]
theorem fH:PE N n=some 0:=by
 have h3:=hn.1;unfold PE;try simp only[clR]
 simp (disch:=first | assumption | omega) only[DT];refine GY (fun i=>(i:Int)) n.length _ ?_ ?_ N (by omega)
 ·intro i hi k;have h:=Qm hN (hn.2 _ (getD_mem [] hi));have h1:=h.AqE;have h2:=h.p0;have h3:=h.p2;simp (disch:=first | assumption | omega) only[DT,h1,ES];try rfl
 ·intro k;simp (disch:=first | assumption | omega) only[DT]
theorem VT:NI N n=some (nmT n,0):=by
 have h3:=hn.1;have hl:=kD hN hn;unfold NI;try simp only[clR]
 rw[KX hN hn,Dn,show((0:Int) != 0)=false from rfl,cond_false];refine(KH (mk:=fun i acc=>((i:Int),acc)) n [] Z7 (fun l=>Dj (Ej N 48 l) fun r62=>some (r62.fst,r62.snd)) ?_ ?_ N (by omega)).trans ?_
 ·intro i acc hi hacc k;have h:=Qm hN (hn.2 _ (getD_mem [] hi));dsimp only[U2];rw[Int.toNat_natCast];generalize n.getD i []=r at *
  have p0:=h.p0;have p2:=h.p2;simp (disch:=first | assumption | omega) only[DT];refine(KH (mk:=fun j a=>((j:Int),a,acc)) r ([],0,[]) Vd (fun l=>Dj (Qu N l) fun r48=>Dj (Ej N 49 [r48]) fun r50=>bif r50.snd != 0 then some ([],r50.snd)else chk (decide ((acc.length+1)*17<=140737488355328)) (k ((i:Int)+1,acc++[r50.fst]))) ?_ ?_ N (by omega)).trans ?_
  ·intro j a hj ha k;have he:=h.att _ (getD_mem ([],0,[]) hj);simp (disch:=first | assumption | omega) only[DT,he,ES]
  ·intro a k ha;simp (disch:=first | assumption | omega) only[DT]
  ·have hlen:=h.len;have hlens:=h.lens;have e:Rx (r.map Vd)=KJ r:=(Acg _).symm;have w:Ej N 49 [Rx (r.map Vd)]=_:=SQ N 49 [Rx (r.map Vd)] (by omega) (by omega) hN (by simp) (by rw[EI,e];omega);rw[EI,e]at w;unfold Qu;rw[ArA (by rw[List.length_map];omega),AmG (by rw[List.length_map];omega),AmG (by omega)];simp only[Bool.and_self,cond_true,Dn];rw[e,w,Dn];simp (disch:=first | assumption | omega) only[DT,ES];try rfl
 ·intro acc k ha;simp (disch:=first | assumption | omega) only[DT]
 ·have w:Ej N 48 (n.map Z7)=_:=SQ N 48 (n.map Z7) (by omega) (by omega) hN (by rw[List.length_map];omega) (by unfold nmB at hl;omega);rw[w,Dn];rfl
theorem xZ:SI N n=some (nmT n,0):=by
 have h3:=hn.1;have hl:=kD hN hn;unfold SI;try simp only[clR]
 rw[fH hN hn,Dn,show((0:Int) != 0)=false from rfl,cond_false];refine(Ae9 (mk:=fun i t=>(t,(i:Int))) n [] Z7 (fun t=>Dj (FZ N 48 [t]) fun r30=>some (r30,0)) ?_ ?_ N (by omega)).trans ?_
 ·intro i t hi ht k;have h:=Qm hN (hn.2 _ (getD_mem [] hi));have hlen:=h.len;have hlens:=h.lens;have p2:=h.p2;have hat:=h.Av2;have e:Rx ((n.getD i []).map Vd)=KJ (n.getD i []):=(Acg _).symm;have hor:=AfC N ((n.getD i []).map Vd) hN (by rw[List.length_map];omega) (by omega);rw[e]at hor;have w:FZ N 49 [KJ (n.getD i [])]=_:=AmY N 49 [KJ (n.getD i [])] (by omega) (by omega) hN (by simp) (by rw[EI];omega);rw[EI]at w;have hw:Sp.elem 49 (KJ (n.getD i []))=Z7 (n.getD i []):=rfl;unfold nmB at hl;simp (disch:=first | assumption | omega) only[DT,hat,hor,w,hw,ES]
 ·intro t k;simp (disch:=first | assumption | omega) only[DT]
 ·have w:FZ N 48 [(n.map Z7).flatten]=_:=AmY N 48 [(n.map Z7).flatten] (by omega) (by omega) hN (by simp) (by rw[EI];unfold nmB at hl;omega);rw[w,Dn,EI];rfl
theorem fG:PW N (nmT n)=some (nmC n,0):=by
 have h3:=hn.1;have hl:=kD hN hn;have hT:=kE hN hn;have hF:=AkW hN hn;have h1:=Zt 48 (nmB n) (by decide) (by decide) hF.len;have h2:=(AoL hN hn).list;have hC:=zU hN hn;unfold PW;try simp only[clR]
 rw[QQ N _ (by omega) (by omega),show fJ (nmT n)=_ from h1,Dn];have h4:=Ii N (nmB n) (by omega) (by omega) (by omega);rw[h2]at h4;dsimp only[Ea];simp (disch:=first | assumption | omega) only[DT,h4];refine(KH (mk:=fun i acc=>((i:Int),acc)) (n.map fun r=>Ea 49 (KJ r)) (0,[],[]) (fun e=>((FU N e).getD default).1) (fun acc=>Dj (Hf N acc) fun r60=>bif r60 != 0 then some ([],r60)else some (acc,0)) ?_ ?_ N (by rw[List.length_map];omega)).trans ?_
 ·intro i acc hi ha k;rw[List.length_map]at hi;have hr:=(Qm hN (hn.2 _ (getD_mem [] hi))).dec;have hg:(n.map fun r=>Ea 49 (KJ r)).getD i (0,[],[])=Ea 49 (KJ (n.getD i [])):=by rw[getD_lt _ _ _ (by rw[List.length_map];exact hi),List.getElem_map,getD_lt n i [] hi]
  have hlm:(n.map fun r=>Ea 49 (KJ r)).length=n.length:=List.length_map _;simp (disch:=first | assumption | omega) only[DT,hg,hlm,hr,ES,Option.getD_some];try rfl
 ·intro acc k ha;simp (disch:=first | assumption | omega) only[DT]
 ·have e:(n.map fun r=>Ea 49 (KJ r)).map (fun e=>((FU N e).getD default).1)=nmC n:=by
   rw[List.map_map];exact List.map_congr_left fun r hr=>by show((FU N _).getD default).1=_;rw[(Qm hN (hn.2 r hr)).dec];rfl
  rw[e,KX hN hC];rfl
end
