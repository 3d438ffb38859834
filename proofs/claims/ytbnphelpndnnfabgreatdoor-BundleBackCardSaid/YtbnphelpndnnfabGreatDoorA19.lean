import Derived.Test.YtbnphelpndnnfabGreatDoorA14
import Derived.Test.YtbnphelpndnnfabGreatDoorA18
import Derived.KernelRfl
set_option linter.all false
namespace Go.Proofs.YtbnphelpndnnfabGreatDoor.Pl
open IntKind (i64)
open Go Vm
def Hl (l:Bs):Int×Bs×Bs:=((Sp.tag l:Int),Sp.content l,Sp.raw l)
def JO (l:Bs):(Int×Bs×Bs)×Bs×Int:=if Sp.err l=0 then(Hl l,Sp.rest l,0)else((0,[],[]),[],Sp.err l)
theorem Ap6 {s:Bs} {p n:Nat} (hh:Sp.head s=(0,p,n)) (hp:p<=s.length):(if((s.length:Int) - p<n)then(some ((0,([]:Bs),([]:Bs)),([]:Bs),3):Option ((Int×Bs×Bs)×Bs×Int))else some ((((s.getD 0 0).toNat:Int),D9 s p (p+n),D9 s 0 (p+n)),D9 s (p+n) s.length,0))=some (JO s):=by
  have e1: ∀ a b,(D9 s a b)=(s.take b).drop a:=fun a b=>rfl
  by_cases h:(s.length:Int) - p<n
  ·rw[if_pos h]
   have:Sp.rd s=(3,0,0):=by unfold Sp.rd;rw[hh,if_pos ⟨rfl,by show s.length - p<n;omega⟩]
   unfold JO Sp.err;rw[this];rfl
  ·rw[if_neg h]
   have hr:Sp.rd s=(0,p,n):=by unfold Sp.rd;rw[hh,if_neg (by intro hc;have:=hc.2;simp at this;omega)]
   have he:Sp.err s=0:=by unfold Sp.err;rw[hr]
   unfold JO
   rw[if_pos he]
   unfold Hl Sp.content Sp.raw Sp.rest
   rw[hr,e1,e1,e1]
   congr 1
   refine Prod.ext (Prod.ext ?_ (Prod.ext ?_ ?_)) (Prod.ext ?_ rfl)
   ·show((s.getD 0 0).toNat:Int)=((Sp.tag s:Nat):Int)
    unfold Sp.tag;cases s<;>rfl
   ·show(s.take (p+n)).drop p=(s.drop p).take n
    rw[List.drop_take];congr 1;omega
   ·show(s.take (p+n)).drop 0=_
    rw[List.drop_zero]
   ·show(s.take s.length).drop (p+n)=_
    rw[List.take_length]
theorem take_snoc {α :Type} {l:List α} {i:Nat} (h:i<l.length):l.take (i+1)=l.take i++[l[i]]:=by
  rw[List.take_add_one,List.getElem?_eq_getElem h];rfl
theorem AlL {l:Bs} {i:Nat} (h:i<l.length):Sp.beNat (l.take (i+1))=Sp.beNat (l.take i)*256+(l[i]).toNat:=by
  rw[take_snoc h,Sp.AlK]
theorem Akv {l:Bs} (i:Nat) (hl:l.length<=3):Sp.beNat (l.take i)<16777216:=by
  have h1:=Sp.AoR (l.take i)
  have h2:256 ^ (l.take i).length<=256 ^ 3:=Nat.pow_le_pow_right (by omega) (by rw[List.length_take];omega)
  have:(256:Nat) ^ 3=16777216:=by decide
  omega
theorem AnK {ρ :Type} (N:Nat) (l:Bs) (hl:l.length<=3) (hN:4<N) (kx:Int->Option ρ) :
    Dx (X:=Int×Int×List Int) (Y:=Int) (U3 fun t7b t52b l45568b k2 x3 =>
     if t52b<((List.map (fun(b:UInt8)=>((b.toNat:Int))) l).length:Int)then if(0:Int)<=t52b then if t52b<(l45568b.length:Int)then if t52b.toNat<l45568b.length then
       k2 (Ee .or .i64 (i64.wrap (t7b*(256))) (i64.wrap (l45568b.getD t52b.toNat 0)),i64.wrap (t52b+(1:Int)),l45568b)else none else none else none
     else x3 t7b) N (0,0,List.map (fun(b:UInt8)=>((b.toNat:Int))) l) kx=kx (Sp.beNat l):=by
  refine lF (fun x=> ∃ i,i<=l.length/\x=((Sp.beNat (l.take i):Int),(i:Int),List.map (fun(b:UInt8)=>((b.toNat:Int))) l)) (fun x=>l.length - x.2.1.toNat) (fun _=>kx (Sp.beNat l)) ?_ N _ ⟨0,by omega,rfl⟩ (by show l.length - 0<N;omega)
  rintro x ⟨i,hi,rfl⟩ k hk
  show(if(i:Int)<_ then _ else _)=_
  rw[List.length_map]
  by_cases h:i<l.length
  ·dsimp only
   rw[if_pos (by omega),if_pos (by omega),if_pos (by omega),Int.toNat_natCast,if_pos h]
   have hb:=(l[i]).toNat_lt
   have hs:=Akv (l:=l) i hl
   rw[show(List.map (fun(b:UInt8)=>((b.toNat:Int))) l).getD i 0=((l[i].toNat:Nat):Int) by simp [List.getD_eq_getElem?_getD,h]]
   rw[w64 (x:=((Sp.beNat (l.take i):Nat):Int)*256) (by omega) (by omega),w64 (x:=((l[i].toNat:Nat):Int)) (by omega) (by omega),w64 (x:=(i:Int)+1) (by omega) (by omega)]
   rw[show((Sp.beNat (l.take i):Nat):Int)*256=((Sp.beNat (l.take i)*256:Nat):Int) by omega,or8 _ _ (by omega) hb,<- AlL h]
   exact hk _ ⟨i+1,h,rfl⟩ (by show l.length - ((i:Int)+1).toNat<l.length - (i:Int).toNat;omega)
  ·rw[if_neg (by omega)]
   rw[List.take_of_length_le (by omega)]
theorem Apr (N:Nat) (k:Nat) (h1:1<=k) (h3:k<=3):zM N (k:Int)=some (Sp.leastOf k:Int):=by
  have:k=1\/k=2\/k=3:=by omega
  rcases this with rfl | rfl | rfl<;>rfl
set_option maxRecDepth 4000
theorem U1 (N:Nat) (s:Bs) (hN:4<N) (hs:s.length<=1099511627776):Ql N s=some (JO s):=by
  unfold Ql;try simp -zeta only[Ap]
  cases s with
  | nil=>rfl
  | cons a r =>
    have ha:=a.toNat_lt
    have h0:((a::r:Bs)==([]:Bs))=false:=rfl
    simp only[h0,cond_false,List.getD_cons_zero,List.length_cons,Ai8,zS,Afl,Ai1]
    simp only[Aqi,Ig,beq_iff_eq,decide_eq_true_eq,Bool.or_eq_true,Bool.and_eq_true]
    rw[w64 (by omega) (by omega),ApQ _ ha]
    by_cases h31:a.toNat % 32=31
    ·have:Sp.err (a::r)=5:=by simp [Sp.err,Sp.rd,Sp.head,h31]
     unfold JO
     rw[this,if_pos (by omega),if_pos (by omega)]
     rfl
    ·rw[if_pos (by omega),if_neg (by omega)]
     cases r with
     | nil =>
       have:Sp.err [a]=3:=by simp [Sp.err,Sp.rd,Sp.head,h31]
       unfold JO
       rw[this,if_pos (by simp)]
       rfl
     | cons b c =>
       have hb:=b.toNat_lt
       simp only[List.length_cons]at hs
       simp only[List.getD_cons_succ,List.getD_cons_zero,List.length_cons]
       rw[w64 (x:=((b.toNat:Nat):Int)) (by omega) (by omega),if_neg (by omega),if_pos (by omega)]
       by_cases h6:b.toNat=128\/131<b.toNat
       ·have:Sp.err (a::b::c)=6:=by simp [Sp.err,Sp.rd,Sp.head,h31,h6,show ¬ b.toNat<128 by omega]
        unfold JO
        rw[this,if_pos (by omega)]
        rfl
       ·rw[if_neg (by omega),AfL]
        have hend: ∀ p n:Nat,Sp.head (a::b::c)=(0,p,n)->p<=c.length+2->n<=131072->(if i64.wrap (((c.length+1+1:Nat):Int) - (p:Int))<(n:Int)then some ((0,([]:Bs),([]:Bs)),([]:Bs),3)
            else if(0:Int)<=(p:Int)then if(p:Int)<=i64.wrap ((p:Int)+(n:Int))then if i64.wrap ((p:Int)+(n:Int))<=((c.length+1+1:Nat):Int)then if(0:Int)<=i64.wrap ((p:Int)+(n:Int))then
              if i64.wrap ((p:Int)+(n:Int))<=((c.length+1+1:Nat):Int)then if(0:Int)<=i64.wrap ((p:Int)+(n:Int))then if i64.wrap ((p:Int)+(n:Int))<=((c.length+1+1:Nat):Int)then
              some ((((a.toNat:Nat):Int),D9 (a::b::c) (p:Int).toNat (i64.wrap ((p:Int)+(n:Int))).toNat,D9 (a::b::c) 0 (i64.wrap ((p:Int)+(n:Int))).toNat),D9 (a::b::c) (i64.wrap ((p:Int)+(n:Int))).toNat (c.length+1+1),0)
              else none else none else none else none else none else none else none:Option ((Int×Bs×Bs)×Bs×Int))=some (JO (a::b::c)):=by
          intro p n hh hp hn
          have:=Ap6 (s:=a::b::c) hh (by simp;omega)
          rw[w64 (x:=((c.length+1+1:Nat):Int) - (p:Int)) (by omega) (by omega),w64 (x:=(p:Int)+(n:Int)) (by omega) (by omega)]
          rw[<- this]
          show(if((c.length+1+1:Nat):Int) - (p:Int)<(n:Int)then _ else _)=(if((c.length+1+1:Nat):Int) - (p:Int)<(n:Int)then _ else _)
          by_cases hlt:((c.length+1+1:Nat):Int) - (p:Int)<(n:Int)
          ·rw[if_pos hlt,if_pos hlt]
          ·rw[if_neg hlt,if_neg hlt,if_pos (by omega),if_pos (by omega),if_pos (by omega),if_pos (by omega),if_pos (by omega),if_pos (by omega),if_pos (by omega)]
           rw[show((p:Int)+(n:Int)).toNat=p+n by omega,Int.toNat_natCast]
           rfl
        by_cases h128:b.toNat<128
        ·rw[if_neg (by omega)]
         exact hend 2 b.toNat (by simp [Sp.head,h31,h128]) (by omega) (by omega)
        ·rw[if_pos (by omega)]
         obtain⟨k,hk⟩: ∃ k:Nat,b.toNat=128+k:=⟨b.toNat - 128,by omega⟩
         rw[w64 (x:=((b.toNat:Nat):Int) - 128) (by omega) (by omega),show((b.toNat:Nat):Int) - 128=(k:Int) by omega,w64 (x:=2+(k:Int)) (by omega) (by omega)]
         by_cases hlen:c.length<k
         ·rw[if_pos (by omega)]
          have:Sp.err (a::b::c)=3:=by simp [Sp.err,Sp.rd,Sp.head,h31,h128,h6,show b.toNat - 128=k by omega,hlen]
          unfold JO
          rw[this]
          rfl
         ·have hcut:D9 (a::b::c) 2 ((2+(k:Int)).toNat)=c.take k:=by
            rw[show(2+(k:Int)).toNat=k+2 by omega];rfl
          have hlk:(c.take k).length=k:=by rw[List.length_take];omega
          rw[if_neg (by omega),if_pos (by omega),if_pos (by omega),hcut,if_pos (by omega)]
          rw[AnK N (c.take k) (by omega) hN,Apr N k (by omega) (by omega),DL]
          by_cases hbad:Sp.beNat (c.take k)<Sp.leastOf k\/131072<Sp.beNat (c.take k)
          ·have:Sp.err (a::b::c)=6:=by simp [Sp.err,Sp.rd,Sp.head,h31,h128,h6,show b.toNat - 128=k by omega,hlen,hbad]
           unfold JO
           rw[if_pos (by omega),this]
           rfl
          ·rw[if_neg (by omega)]
           have:=hend (2+k) (Sp.beNat (c.take k)) (by simp [Sp.head,h31,h128,h6,show b.toNat - 128=k by omega,hlen,hbad]) (by omega) (by omega)
           rw[show(((2+k:Nat)):Int)=2+(k:Int) by omega]at this
           exact this
def N8 (s:Bs):(Int×Bs×Bs)×Int:=if Sp.N7 s=0 then(Hl s,0)else((0,[],[]),Sp.N7 s)
theorem xU {s:Bs} (h:Sp.N7 s=0):Sp.err s=0/\Sp.rest s=[]:=by
  unfold Sp.N7 at h
  by_cases he:Sp.err s=0
  ·rw[if_neg (by simp [he])]at h
   by_cases hr:Sp.rest s=[]
   ·exact⟨he,hr⟩
   ·rw[if_neg hr]at h;cases h
  ·rw[if_pos he]at h;exact absurd h he
theorem o5 (N:Nat) (s:Bs) (hN:4<N) (hs:s.length<=1099511627776):KZ N s=some (N8 s):=by
  unfold KZ
  rw[U1 N s hN hs,DL]
  unfold JO N8 Sp.N7
  by_cases he:Sp.err s=0
  ·rw[if_pos he]
   by_cases hr:Sp.rest s=[]
   ·simp [he,hr,Ig]
   ·simp [he,hr,Ig]
  ·rw[if_neg he]
   simp [he,Ig]
theorem Akg (s:Bs):Sp.tag s<256:=UInt8.toNat_lt _
def Rf (e:Int×Bs×Bs) (d:Nat):Int:=if e.1 / 32 % 2=1 then Sp.within (e.2.1.length+1) d e.2.1 else 0
theorem l7: ∀(f g d:Nat) (l:Bs),l.length<f->l.length<g->Sp.within f d l=Sp.within g d l:=by
  intro f
  induction f with
  | zero=>intro g d l h;omega
  | succ f ih =>
    intro g d l hf hg
    cases g with
    | zero=>omega
    | succ g =>
      show(if l=[]then _ else _)=if l=[]then _ else _
      by_cases hl:l=[]
      ·rw[if_pos hl,if_pos hl]
      ·rw[if_neg hl,if_neg hl]
       by_cases he:Sp.err l=0
       ·have h1:=Sp.NP l he
        have h2:=Sp.Aah l he
        rw[ih g (d+1) (Sp.content l) (by omega) (by omega),ih g d (Sp.rest l) (by omega) (by omega)]
       ·rw[if_pos he,if_pos he]
theorem AbF {B:Bs->(Bs->Option Int)->(Unit->Option Int)->Option Int} {kx:Unit->Option Int} (d L:Nat)
    (hB: ∀ x k,x≠ []->x.length<=L->B x k kx=if Sp.err x≠0 then some (Sp.err x)else if 16<=d then some 8 else if Rf (Hl x) (d+1)≠0 then some (Rf (Hl x) (d+1))else k (Sp.rest x))
    (hend: ∀ k,B [] k kx=some 0) (N:Nat) (x:Bs) (hx:x.length<=L) (hN:x.length<N):Dx B N x kx=some (Sp.within (x.length+1) d x):=by
  refine lF (fun x=>x.length<=L) (fun x=>x.length) (fun x=>some (Sp.within (x.length+1) d x)) ?_ N x hx hN
  intro x hx k hk
  by_cases h0:x=[]
  ·subst h0;rw[hend];rfl
  ·rw[hB x k h0 hx]
   by_cases he:Sp.err x=0
   ·rw[if_neg (by simp [he])]
    by_cases hd:16<=d
    ·rw[if_pos hd,Sp.Alm _ _ _ h0 he hd]
    ·rw[if_neg hd]
     have h1:=Sp.NP x he
     have h2:=Sp.Aah x he
     have hin:Rf (Hl x) (d+1)=Sp.inner x.length (d+1) (Sp.tag x) (Sp.content x):=by
       unfold Rf Sp.inner Sp.cons Hl
       rw[l7 _ x.length (d+1) (Sp.content x) (Nat.lt_succ_self _) h1]
       have:(((Sp.tag x:Nat):Int) / 32 % 2=1)↔(Sp.tag x / 32 % 2=1):=by omega
       simp [this]
     rw[hin]
     by_cases hi:Sp.inner x.length (d+1) (Sp.tag x) (Sp.content x)=0
     ·rw[if_neg (by simp [hi]),hk _ (by show(Sp.rest x).length<=L;omega) h2,Sp.Aln _ _ _ h0 he hd hi]
      rw[l7 _ x.length d (Sp.rest x) (Nat.lt_succ_self _) h2]
     ·rw[if_pos hi,Sp.Anq _ _ _ h0 he hd hi]
   ·rw[if_pos he,Sp.Anr _ _ _ h0 he]
theorem AoI (N:Nat) (hN:4<N): ∀(m n:Nat),m<n-> ∀(e:Int×Bs×Bs) (d:Nat),d+m=16->0<=e.1->e.1<256->e.2.1.length<N->e.2.1.length<=1099511627776 ->
    LJ N n e (d:Int)=some (Rf e d):=by
  intro m
  induction m with
  | zero =>
    intro n hn e d hd h0 h1 h2 h3
    obtain⟨n,rfl⟩: ∃ k,n=k+1:=⟨n - 1,by omega⟩
    show Ko N (LJ N n) e d=_
    unfold Ko Rf
    obtain⟨t,ht⟩: ∃ t:Nat,e.1=(t:Int):=⟨e.1.toNat,by omega⟩
    rw[ht,ApR t (by omega)]
    by_cases hc:t / 32 % 2=1
    ·rw[if_pos hc,if_pos (by omega)]
     refine AbF d e.2.1.length (fun x k hx hl=> ?_) (fun k=>rfl) N _ (Nat.le_refl _) h2
     have:(x==([]:Bs))=false:=by cases x with | nil=>exact absurd rfl hx | cons _ _=>rfl
     dsimp only
     rw[this,U1 N x hN (by omega),DL]
     unfold JO
     simp only[Ig,bne_iff_ne,decide_eq_true_eq,Bool.not_false]
     by_cases he:Sp.err x=0
     ·rw[if_pos he]
      simp only[he,ne_eq,not_true_eq_false,if_false,if_true]
      rw[if_pos (by omega),if_pos (by omega)]
     ·rw[if_neg he]
      simp [he]
    ·rw[if_neg hc,if_neg (by omega)];rfl
  | succ m ih =>
    intro n hn e d hd h0 h1 h2 h3
    obtain⟨n,rfl⟩: ∃ k,n=k+1:=⟨n - 1,by omega⟩
    show Ko N (LJ N n) e d=_
    unfold Ko Rf
    obtain⟨t,ht⟩: ∃ t:Nat,e.1=(t:Int):=⟨e.1.toNat,by omega⟩
    rw[ht,ApR t (by omega)]
    by_cases hc:t / 32 % 2=1
    ·rw[if_pos hc,if_pos (by omega)]
     refine AbF d e.2.1.length (fun x k hx hl=> ?_) (fun k=>rfl) N _ (Nat.le_refl _) h2
     have:(x==([]:Bs))=false:=by cases x with | nil=>exact absurd rfl hx | cons _ _=>rfl
     dsimp only
     rw[this,U1 N x hN (by omega),DL]
     unfold JO
     simp only[Ig,bne_iff_ne,decide_eq_true_eq,Bool.not_false]
     by_cases he:Sp.err x=0
     ·rw[if_pos he]
      simp only[he,ne_eq,not_true_eq_false,if_false,if_true]
      have hcl:=Sp.NP x he
      have htl:=Akg x
      rw[if_neg (by omega),if_neg (by omega),w64 (by omega) (by omega),show(d:Int)+1=((d+1:Nat):Int) by omega,ih n (by omega) (Hl x) (d+1) (by omega) (by show(0:Int)<=((Sp.tag x:Nat):Int);omega) (by show((Sp.tag x:Nat):Int)<256;omega) (by show(Sp.content x).length<N;omega) (by show(Sp.content x).length<=_;omega),DL]
     ·rw[if_neg he]
      simp [he]
    ·rw[if_neg hc,if_neg (by omega)];rfl
theorem Am4 {s:Bs} (h:Sp.N7 s=0):Rf (Hl s) 1=Sp.chk s:=by
  unfold Sp.chk
  rw[if_neg (by simp [h])]
  unfold Rf Sp.inner Sp.cons Hl
  have h1:=Sp.NP s (xU h).1
  rw[l7 _ (s.length+1) 1 (Sp.content s) (Nat.lt_succ_self _) (by omega)]
  have:(((Sp.tag s:Nat):Int) / 32 % 2=1)↔(Sp.tag s / 32 % 2=1):=by omega
  simp [this]
theorem Akk (N:Nat) (s:Bs) (hN:16<N) (hs:s.length<=1099511627776) (hl:s.length<N):NJ N s=some (Sp.chk s):=by
  unfold NJ
  rw[o5 N s (by omega) hs,DL]
  unfold N8
  by_cases h:Sp.N7 s=0
  ·have h1:=Sp.NP s (xU h).1
   have h2:=Akg s
   rw[if_pos h,<- Am4 h]
   have:=AoI N (by omega) 15 N (by omega) (Hl s) 1 rfl (by show(0:Int)<=((Sp.tag s:Nat):Int);omega) (by show((Sp.tag s:Nat):Int)<256;omega) (by show(Sp.content s).length<N;omega) (by show(Sp.content s).length<=_;omega)
   show Di (LJ N N (Hl s) 1) _=_
   rw[show(1:Int)=((1:Nat):Int)from rfl,this,DL]
  ·rw[if_neg h]
   have:Sp.chk s=Sp.N7 s:=by unfold Sp.chk;rw[if_pos h]
   simp [Ig,h,this]
end Go.Proofs.YtbnphelpndnnfabGreatDoor.Pl
namespace Go.Proofs.YtbnphelpndnnfabGreatDoor.Vm
open IntKind (i64)
theorem getD_lt {α :Type} (l:List α) (i:Nat) (d: α) (h:i<l.length):l.getD i d=l[i]:=by rw[List.getD_eq_getElem?_getD,List.getElem?_eq_getElem h];rfl
open Go
theorem Zv {a b:Int} {q:Decidable (a<b)} (h:a<b): @decide (a<b) q=true:= @decide_eq_true _ q h
theorem Zu {a b:Int} {q:Decidable (a<b)} (h:b<=a): @decide (a<b) q=false:= @decide_eq_false _ q (by omega)
theorem Zt {a b:Int} {q:Decidable (a<=b)} (h:a<=b): @decide (a<=b) q=true:= @decide_eq_true _ q h
theorem AqL {a b:Int} (h:a≠b):(a==b)=false:=beq_false_of_ne h
theorem getD_mem {α :Type} {l:List α} {i:Nat} (d: α) (h:i<l.length):l.getD i d∈l:=by rw[getD_lt l i d h];exact List.getElem_mem h
def Zk {R S ρ :Type} (x:R ⊕ S) (ret:R->Option ρ) (k:S->Option ρ):Option ρ :=match x with
  | .inl r=>ret r
  | .inr s=>k s
theorem Zl {R S ρ :Type} (b:Bool) (x y:R ⊕ S) (ret:R->Option ρ) (k:S->Option ρ):Zk (bif b then x else y) ret k=bif b then Zk x ret k else Zk y ret k:=by cases b<;>rfl
def Ut {E R S:Type} (step:E->S->R ⊕ S):List E->S->R ⊕ S
  | [],s=>.inr s
  | e::r,s=>match step e s with
    | .inl x=>.inl x
    | .inr s'=>Ut step r s'
theorem lI {E R S:Type} (step:E->S->R ⊕ S) (e:E) (l:List E) (s:S):Ut step (e::l) s=(step e s).elim Sum.inl (fun s'=>Ut step l s'):=by
  simp only[Ut]
  cases step e s<;>rfl
theorem AgT {X Y S E R ρ :Type} {B:X->(X->Option ρ)->(Y->Option ρ)->Option ρ} {kx:Y->Option ρ} (mk:Nat->S->X) (l:List E) (d:E) (I:Nat->S->Prop) (step:E->S->R ⊕ S) (ret:R->Option ρ) (fin:S->Option ρ)
    (h: ∀(i:Nat) (s:S),i<l.length->I i s-> ∀ k,B (mk i s) k kx=Zk (step (l.getD i d) s) ret fun s'=>k (mk (i+1) s'))
    (hI: ∀(i:Nat) (s s':S),i<l.length->I i s->step (l.getD i d) s= .inr s'->I (i+1) s')
    (hend: ∀(s:S) (k:X->Option ρ),I l.length s->B (mk l.length s) k kx=fin s) (N:Nat) (s:S) (h0:I 0 s) (hN:l.length<N):Dx B N (mk 0 s) kx=Zk (Ut step l s) ret fin:=by
  have key: ∀(n i:Nat) (s:S),I i s->i<=l.length->l.length - i<n->Dx B n (mk i s) kx=Zk (Ut step (l.drop i) s) ret fin:=by
    intro n
    induction n with
    | zero=>intro i s _ _ h;omega
    | succ n ih =>
      intro i s hi hil hn
      rw[AfJ]
      by_cases hl:i<l.length
      ·rw[h i s hl hi,List.drop_eq_getElem_cons hl]
       have hs:=hI i s
       rw[show l.getD i d=l[i]from getD_lt l i d hl]at *
       rw[lI]
       cases hst:step l[i] s with
       | inl x=>rfl
       | inr s'=>exact ih (i+1) _ (hs _ hl hi hst) (by omega) (by omega)
      ·have:i=l.length:=by omega
       subst this
       rw[hend s _ hi,List.drop_length];rfl
  exact key N 0 s h0 (by omega) (by omega)
theorem Ao9 {X Y S E R ρ :Type} {B:X->(X->Option ρ)->(Y->Option ρ)->Option ρ} {kx:Y->Option ρ} (mk:Nat->S->X) (l:List E) (d:E) (step:E->S->R ⊕ S) (ret:R->Option ρ) (fin:S->Option ρ)
    (h: ∀(i:Nat) (s:S),i<l.length-> ∀ k,B (mk i s) k kx=Zk (step (l.getD i d) s) ret fun s'=>k (mk (i+1) s'))
    (hend: ∀(s:S) (k:X->Option ρ),B (mk l.length s) k kx=fin s) (N:Nat) (s:S) (hN:l.length<N):Dx B N (mk 0 s) kx=Zk (Ut step l s) ret fin :=
  AgT mk l d (fun _ _=>True) step ret fin (fun i s hi _=>h i s hi) (fun _ _ _ _ _ _=>trivial) (fun s k _=>hend s k) N s trivial hN
theorem AkK {E:Type} (f:E->Int): ∀ l:List E,Ut (fun e (_:Unit)=>bif f e != 0 then .inl (f e)else .inr ()) l ()=bif EE f l != 0 then .inl (EE f l)else .inr ():=by
  intro l
  induction l with
  | nil=>rfl
  | cons e t ih =>
    rw[lI]
    unfold EE
    by_cases h:f e=0
    ·rw[h,show((0:Int) != 0)=false from rfl]
     exact ih
    ·rw[if_pos h,show(f e != 0)=true from bne_iff_ne.2 h];rfl
theorem Ap5 {n i:Nat} (h:i<n):(List.range n).getD i 0=i:=by
  rw[getD_lt _ _ _ (by rw[List.length_range];exact h),List.getElem_range]
section
variable {X Y E ρ :Type} {B:X->(X->Option ρ)->(Y->Option ρ)->Option ρ} {kx:Y->Option ρ}
theorem AnZ (mk:Nat->X) (l:List E) (d:E) (f:E->Int) (ret:Int->Option ρ) (fin:Option ρ)
    (h: ∀ i,i<l.length-> ∀ k,B (mk i) k kx=bif f (l.getD i d) != 0 then ret (f (l.getD i d))else k (mk (i+1)))
    (hend: ∀ k,B (mk l.length) k kx=fin) (N:Nat) (hN:l.length<N):Dx B N (mk 0) kx=bif EE f l != 0 then ret (EE f l)else fin:=by
  refine Eq.trans (Ao9 (S:=Unit) (R:=Int) (mk:=fun i _=>mk i) l d (fun e _=>bif f e != 0 then .inl (f e)else .inr ()) ret (fun _=>fin) ?_ (fun _ k=>hend k) N () hN) ?_
  ·intro i _ hi k
   rw[h i hi,Zl];rfl
  ·rw[AkK,Zl];rfl
theorem Amv (mk:Nat->X) (n:Nat) (f:Nat->Int) (ret:Int->Option ρ) (fin:Option ρ)
    (h: ∀ i,i<n-> ∀ k,B (mk i) k kx=bif f i != 0 then ret (f i)else k (mk (i+1)))
    (hend: ∀ k,B (mk n) k kx=fin) (N:Nat) (hN:n<N):Dx B N (mk 0) kx=bif EE f (List.range n) != 0 then ret (EE f (List.range n))else fin:=by
  refine AnZ mk (List.range n) 0 f ret fin ?_ ?_ N (by rw[List.length_range];exact hN)
  ·intro i hi k
   rw[List.length_range]at hi
   rw[Ap5 hi];exact h i hi k
  ·intro k;rw[List.length_range];exact hend k
end
theorem Abg {E:Type} (f:E->Int) (x:E) (r:List E):EE f (x::r)=bif f x != 0 then f x else EE f r:=by
  show(if f x≠0 then f x else EE f r)=_
  by_cases h:f x=0
  ·rw[if_neg (fun hn=>hn h),h];rfl
  ·rw[if_pos h,show(f x != 0)=true from bne_iff_ne.2 h];rfl
section
variable {X Y E A ρ :Type} {B:X->(X->Option ρ)->(Y->Option ρ)->Option ρ} {kx:Y->Option ρ}
theorem AmI (er:E->Int) (g:E->A): ∀(l:List E) (acc:List A),Ut (fun e (acc:List A)=>bif er e != 0 then Sum.inl (er e)else Sum.inr (acc++[g e])) l acc=bif EE er l != 0 then .inl (EE er l)else .inr (acc++l.map g):=by
  intro l
  induction l with
  | nil=>intro acc;rw[List.map_nil,List.append_nil];rfl
  | cons e r ih =>
    intro acc
    rw[lI,Abg]
    cases h:er e != 0 with
    | true=>rw[cond_true,cond_true,h];rfl
    | false =>
      rw[cond_false,cond_false]
      show Ut _ r (acc++[g e])=_
      rw[ih,List.append_assoc];rfl
theorem Apk (mk:Nat->List A->X) (l:List E) (d:E) (er:E->Int) (g:E->A) (ret:Int->Option ρ) (fin:List A->Option ρ)
    (h: ∀(i:Nat) (acc:List A),i<l.length->acc.length=i-> ∀ k,B (mk i acc) k kx=bif er (l.getD i d) != 0 then ret (er (l.getD i d))else k (mk (i+1) (acc++[g (l.getD i d)])))
    (hend: ∀(acc:List A) (k:X->Option ρ),acc.length=l.length->B (mk l.length acc) k kx=fin acc) (N:Nat) (hN:l.length<N):Dx B N (mk 0 []) kx=bif EE er l != 0 then ret (EE er l)else fin (l.map g):=by
  refine(AgT (S:=List A) (R:=Int) mk l d (fun i acc=>acc.length=i) (fun e acc=>bif er e != 0 then .inl (er e)else .inr (acc++[g e])) ret fin ?_ ?_ (fun acc k ha=>hend acc k ha) N [] rfl hN).trans ?_
  ·intro i acc hi ha k
   rw[h i acc hi ha,Zl];rfl
  ·intro i acc acc' hi ha he
   cases hb:er (l.getD i d) != 0 with
   | true=>rw[hb]at he;cases he
   | false =>
     rw[hb]at he;injection he with he;subst he
     rw[List.length_append,ha];rfl
  ·rw[AmI,Zl,List.nil_append];rfl
theorem AiY: ∀ l:List E,EE (fun _=>(0:Int)) l=0:=by
  intro l
  induction l with
  | nil=>rfl
  | cons e r ih=>rw[Abg];exact ih
theorem Acr (mk:Nat->List A->X) (l:List E) (d:E) (g:E->A) (fin:List A->Option ρ)
    (h: ∀(i:Nat) (acc:List A),i<l.length->acc.length=i-> ∀ k,B (mk i acc) k kx=k (mk (i+1) (acc++[g (l.getD i d)])))
    (hend: ∀(acc:List A) (k:X->Option ρ),acc.length=l.length->B (mk l.length acc) k kx=fin acc) (N:Nat) (hN:l.length<N):Dx B N (mk 0 []) kx=fin (l.map g):=by
  refine(Apk mk l d (fun _=>0) g (fun _=>none) fin (fun i acc hi ha k=>h i acc hi ha k) hend N hN).trans ?_
  rw[AiY];rfl
theorem zW (g:E->Bs) (l:List E) (i:Nat):((l.take i).map g).flatten.length<=(l.map g).flatten.length:=by
  conv=>rhs;rw[<- List.take_append_drop i l,List.map_append,List.flatten_append,List.length_append]
  omega
end
end Go.Proofs.YtbnphelpndnnfabGreatDoor.Vm
namespace Go.Proofs.YtbnphelpndnnfabGreatDoor.Pl
open IntKind (i64)
open Go Vm
theorem kR (s:Bs):(s==([]:Bs))=decide (s=[]):=by cases s<;>rfl
theorem AgS {α :Type} {s:List α} (h:s≠ []):0<s.length:=by cases s with | nil=>exact absurd rfl h | cons _ _=>simp
def SL (t:Nat) (c:Bs):Option Bs:=if c.length<=131072 then some (Sp.elem t c)else none
theorem AgH: ∀(l:List Bs),([]:Bs).intercalate l=l.flatten
  | []=>rfl
  | [a]=>by simp [List.intercalate]
  | a::b::r=>by
    have:=AgH (b::r)
    simp only[List.intercalate,List.intersperse,List.flatten_cons]at this ⊢
    simp [this]
theorem UE (n:Nat):Vm.byteOf (IntKind.u8.wrap (n:Int))=UInt8.ofNat n:=by
  rw[w8]
  unfold Vm.byteOf
  rw[show((n:Int) % 256).toNat=n % 256 by omega]
  apply UInt8.toNat.inj
  simp
theorem AiU (n k:Nat):(n:Int).fdiv (k:Int)=((n / k:Nat):Int):=by
  rw[Int.fdiv_eq_ediv_of_nonneg _ (by omega)];rfl
theorem head_eq {ρ :Type} (t n:Nat) (ht:t<256) (K:List Int->Option ρ) (K':Bs->Option ρ) (hK: ∀ l,List.all l isByte=true->l.length<=5->K l=K' (List.map Vm.byteOf l)) :
    (bif decide ((n:Int)<(128:Int))then K ([IntKind.u8.wrap (t:Int),IntKind.u8.wrap (n:Int)]:List Int)
      else bif decide ((n:Int)<(256:Int))then K ([IntKind.u8.wrap (t:Int),129,IntKind.u8.wrap (n:Int)]:List Int)
      else bif decide ((n:Int)<(65536:Int))then K ([IntKind.u8.wrap (t:Int),130,IntKind.u8.wrap ((n:Int).fdiv (256)),IntKind.u8.wrap (n:Int)]:List Int)
      else K ([IntKind.u8.wrap (t:Int),131,IntKind.u8.wrap ((n:Int).fdiv (65536)),IntKind.u8.wrap ((n:Int).fdiv (256)),IntKind.u8.wrap (n:Int)]:List Int))=K' (UInt8.ofNat t::Sp.Il n):=by
  have f1:=AiU n 256
  have f2:=AiU n 65536
  have g1: ∀ k:Nat,isByte (k:Int)=decide (k<256):=fun k=>by unfold isByte;simp;omega
  rw[show((256:Nat):Int)=256 from rfl]at f1
  rw[show((65536:Nat):Int)=65536 from rfl]at f2
  rw[f1,f2]
  unfold Sp.Il
  simp only[F9]
  by_cases h1:n<128
  ·rw[if_pos (by omega),if_pos h1,hK _ (by simp [UU]) (by simp)]
   simp only[List.map_cons,List.map_nil,UE]
  ·rw[if_neg (by omega),if_neg h1]
   by_cases h2:n<256
   ·rw[if_pos (by omega),if_pos h2,hK _ (by simp [UU];decide) (by simp)]
    simp only[List.map_cons,List.map_nil,UE];rfl
   ·rw[if_neg (by omega),if_neg h2]
    by_cases h3:n<65536
    ·rw[if_pos (by omega),if_pos h3,hK _ (by simp [UU];decide) (by simp)]
     simp only[List.map_cons,List.map_nil,UE];rfl
    ·rw[if_neg (by omega),if_neg h3,hK _ (by simp [UU];decide) (by simp)]
     simp only[List.map_cons,List.map_nil,UE];rfl
theorem ApI {ρ :Type} (bad:Option ρ) (fin:Nat->Option ρ): ∀(l:List Bs) (s: {n:Nat // n<=131072}),
    kM (fun(e:Bs) (s: {n:Nat // n<=131072}) (k: {n:Nat // n<=131072}->Option ρ)=>if h:s.1+e.length<=131072 then k ⟨s.1+e.length,h⟩else bad) (fun s=>fin s.1) l s=if s.1+l.flatten.length<=131072 then fin (s.1+l.flatten.length)else bad:=by
  intro l
  induction l with
  | nil=>intro s;have:=s.2;simp [kM,this]
  | cons e r ih =>
    intro s
    show(if h:s.1+e.length<=131072 then _ else bad)=_
    rw[List.flatten_cons,List.length_append]
    by_cases h:s.1+e.length<=131072
    ·rw[dif_pos h,ih]
     dsimp only
     rw[Nat.add_assoc]
    ·rw[dif_neg h,if_neg (by omega)]
theorem ApE {ρ :Type} (N:Nat) (l:List Bs) (hN:l.length<N) (hl:l.length<=1099511627776) (bad:Option ρ) (kx:Int->Option ρ) :
    Dx (X:=Int×Int) (Y:=Int) (U2 fun t6a t23a k1 x2 =>
     bif decide (t23a<(l.length:Int))then(Vm.chk (decide ((0:Int)<=t23a)) <|
     Vm.chk (decide (t23a<(l.length:Int))) <|
     let x31:Bool:=decide (((l.getD t23a.toNat ([]:Bs)).length:Int)>(i64.wrap ((131072:Int) - t6a)))
     bif x31 then bad
     else(k1 (i64.wrap (t6a+((l.getD t23a.toNat ([]:Bs)).length:Int)),i64.wrap (t23a+(1:Int)))))
     else(x2 t6a)) N (0,0) kx=if l.flatten.length<=131072 then kx (l.flatten.length:Int)else bad:=by
  refine Eq.trans (Ri (S:= {n:Nat // n<=131072}) (fun i s=>((s.1:Int),i)) l ([]:Bs) (fun e s k=>if h:s.1+e.length<=131072 then k ⟨s.1+e.length,h⟩else bad) (fun s=>(fun n:Nat=>kx (n:Int)) s.1) ?_ ?_ N ⟨0,by omega⟩ hN) ?_
  ·intro i s k hi
   have hs:=s.2
   show(bif decide ((i:Int)<(l.length:Int))then _ else _)=_
   simp only[F9,EU,Int.toNat_natCast]
   rw[if_pos (by omega),if_pos (by omega),if_pos (by omega),w64 (x:=131072 - ((s.1:Nat):Int)) (by omega) (by omega)]
   by_cases h:s.1+(l.getD i []).length<=131072
   ·rw[if_neg (by omega),dif_pos h,w64 (by omega) (by omega),w64 (by omega) (by omega)]
    rfl
   ·rw[if_pos (by omega),dif_neg h]
  ·intro s k
   show(bif decide ((l.length:Int)<(l.length:Int))then _ else _)=_
   simp only[F9]
   rw[if_neg (by omega)]
  ·refine(ApI bad (fun n:Nat=>kx (n:Int)) l ⟨0,by omega⟩).trans ?_
   dsimp only
   rw[Nat.zero_add]
theorem Ali (N t:Nat) (l:List Bs) (ht:t<256) (h31:t % 32≠31) (hN:l.length<N) (hl:l.length<=1099511627776):FH N (t:Int) l=some ((SL t l.flatten).getD [],if(SL t l.flatten).isNone then 6 else 0):=by
  unfold FH;try simp -zeta only[Ap]
  simp only[Ai8,zS,Afl,Als,Aca,Ai1,ApQ t ht]
  rw[show(decide ((t:Int)<0)||decide ((t:Int)>255)||((t % 32:Nat):Int)==31)=false by simp;omega,cond_false]
  refine Eq.trans (ApE N l hN hl _ _) ?_
  unfold SL
  by_cases h:l.flatten.length<=131072
  ·rw[if_pos h,if_pos h,AfL]
   refine Eq.trans (head_eq t l.flatten.length ht (fun l1:List Int=>Vm.chk (List.all l1 isByte)<|Di (strings_Join N l ([]:Bs)) fun r81=>Vm.chk (decide ((List.map Vm.byteOf l1).length+r81.length<=140737488355328))<|some ((List.map Vm.byteOf l1)++r81,(0:Int))) (fun h=>some (h++l.flatten,0)) (fun l' hl' hl5=> ?_)) rfl
   rw[hl',EK]
   unfold strings_Join
   rw[AgH,decide_eq_true (show l.length<=140737488355328 by omega),decide_eq_true (show l.flatten.length<=140737488355328 by omega)]
   show Vm.chk (decide ((List.map Vm.byteOf l').length+l.flatten.length<=140737488355328)) _=_
   rw[EU,if_pos (by rw[List.length_map];omega)]
   rfl
  ·rw[if_neg h,if_neg h];rfl
theorem Aqc (N:Nat) (b:Bool) (s:Bs) (e:Int):Ep N b s e=some (s,b||decide (e≠0)):=by
  unfold Ep;try simp -zeta only[Ap]
  cases b<;>simp [Vm.chk,bne,BEq.beq,decide_not]
theorem Alp (N t:Nat) (b:Bool) (l:List Bs) (ht:t<256) (h31:t % 32≠31) (hN:l.length<N) (hl:l.length<=1099511627776):E5 N b (t:Int) l=some ((SL t l.flatten).getD [],b||(SL t l.flatten).isNone):=by
  unfold E5
  rw[Ali N t l ht h31 hN hl,DL,Aqc,DL]
  cases SL t l.flatten<;>simp
theorem Anu (N:Nat) (b:Bool) (l:List Bs) (hN:l.length<N) (hl:l.length<=1099511627776):EF N b l=some ((SL 48 l.flatten).getD [],b||(SL 48 l.flatten).isNone):=by
  unfold EF
  rw[show(48:Int)=((48:Nat):Int)from rfl,Alp N 48 b l (by omega) (by omega) hN hl,DL]
abbrev El:=Int×Bs×Bs
def Ur:Nat->Bs->List El->List El×Int
  | 0,_,a=>(a,0)
  | f+1,s,a=>if s=[]then(a,0)else if Sp.err s≠0 then([],Sp.err s)else Ur f (Sp.rest s) (a++[Hl s])
def JL (s:Bs):List El×Int:=Ur (s.length+1) s []
theorem AmF: ∀(f g:Nat) (s:Bs) (a:List El),s.length<f->s.length<g->Ur f s a=Ur g s a:=by
  intro f
  induction f with
  | zero=>intro g s a h;omega
  | succ f ih =>
    intro g s a hf hg
    cases g with
    | zero=>omega
    | succ g =>
      show(if s=[]then(a,(0:Int))else if Sp.err s≠0 then([],Sp.err s)else Ur f (Sp.rest s) (a++[Hl s]))=(if s=[]then(a,0)else if Sp.err s≠0 then([],Sp.err s)else Ur g (Sp.rest s) (a++[Hl s]))
      by_cases h:s=[]
      ·rw[if_pos h,if_pos h]
      ·rw[if_neg h,if_neg h]
       by_cases he:Sp.err s=0
       ·have:=Sp.Aah s he
        rw[if_neg (by simp [he]),if_neg (by simp [he])]
        exact ih g _ _ (by omega) (by omega)
       ·rw[if_pos he,if_pos he]
def zX (M:Nat) (e:El):Prop:= ∃ t:Bs,Sp.err t=0/\e=Hl t/\t.length<=M
structure Good (M:Nat) (l:List El):Prop where
  len:l.length<=M
  all: ∀ e∈l,zX M e
  Arx:(l.map (·.2.2)).flatten.length<=M
theorem zX.mono {M K:Nat} {e:El} (h:zX M e) (hk:M<=K):zX K e:=by
  obtain⟨t,h1,h2,h3⟩:=h;exact⟨t,h1,h2,by omega⟩
theorem zX.content {M:Nat} {e:El} (h:zX M e):e.2.1.length+2<=e.2.2.length/\e.2.2.length<=M/\0<=e.1/\e.1<256:=by
  obtain⟨t,h1,rfl,h3⟩:=h
  have:=Sp.Aag t h1
  have hr:=Sp.Ae5 t h1
  have hc:=Sp.Afn t h1
  have ht:=Akg t
  show(Sp.content t).length+2<=(Sp.raw t).length/\(Sp.raw t).length<=M/\0<=((Sp.tag t:Nat):Int)/\((Sp.tag t:Nat):Int)<256
  omega
theorem Good.mono {M K:Nat} {l:List El} (h:Good M l) (hk:M<=K):Good K l:=⟨by have:=h.len;omega,fun e he=>(h.all e he).mono hk,by have:=h.Arx;omega⟩
theorem Good.tail {M:Nat} {e:El} {l:List El} (h:Good M (e::l)):Good M l:=⟨by have:=h.len;simp at this;omega,fun e he=>h.all e (List.mem_cons_of_mem _ he),by have:=h.Arx;rw[List.map_cons,List.flatten_cons,List.length_append]at this;omega⟩
theorem AbC (N:Nat) (s:Bs) (hN:4<N) (hs:s.length<=1099511627776) (hl:s.length<N):Gh N s=some (JL s):=by
  unfold Gh JL;try simp -zeta only[Ap]
  refine lF (F:=fun x=>some (Ur (x.1.length+1) x.1 x.2)) (fun x=>x.1.length+x.2.length<=s.length) (fun x=>x.1.length) ?_ N (s,[]) (by simp) hl
  rintro ⟨t,a⟩ hI k hk
  dsimp only at hI hk
  dsimp only[U2]
  by_cases h:t=[]
  ·subst h;rfl
  ·have hp:=AgS h
   rw[kR,decide_eq_false h,Bool.not_false,cond_true]
   show(Di (Ql N t) _:Option (List El×Int))=some (if t=[]then(a,0)else if Sp.err t≠0 then([],Sp.err t)else Ur t.length (Sp.rest t) (a++[Hl t]))
   rw[if_neg h,U1 N t hN (by omega),DL]
   by_cases he:Sp.err t=0
   ·have hr:JO t=(Hl t,Sp.rest t,0):=by unfold JO;rw[if_pos he]
    have hlt:=Sp.Aah t he
    rw[hr,if_neg (by simp [he])]
    show Vm.chk (decide ((a.length+1)*41<=140737488355328)) (k (Sp.rest t,a++[Hl t]))=_
    rw[EU,if_pos (by omega),hk (Sp.rest t,a++[Hl t]) (by simp;omega) hlt]
    exact congrArg some (AmF _ _ _ _ (by show(Sp.rest t).length<(Sp.rest t).length+1;omega) hlt)
   ·have hr:JO t=((0,[],[]),[],Sp.err t):=by unfold JO;rw[if_neg he]
    rw[hr,if_pos he]
    show(bif Sp.err t != 0 then some (([]:List El),Sp.err t)else _)=_
    rw[show(Sp.err t != 0)=true by simp [he]];rfl
def Ajg (l:List El) (t:Int):El×Bool×List El:=match l with
  | []=>((0,[],[]),false,[])
  | e::r=>if e.1=t then(e,true,r)else((0,[],[]),false,e::r)
theorem Aqs {e:El} {r:List El} {t:Int} (h:e.1=t):Ajg (e::r) t=(e,true,r):=by
  show(if e.1=t then(e,true,r)else((0,[],[]),false,e::r))=_
  rw[if_pos h]
theorem Aqr {e:El} {r:List El} {t:Int} (h: ¬ e.1=t):Ajg (e::r) t=((0,[],[]),false,e::r):=by
  show(if e.1=t then(e,true,r)else((0,[],[]),false,e::r))=_
  rw[if_neg h]
theorem Ant (N:Nat) (l:List El) (t:Int):Es N l t=some (Ajg l t):=by
  cases l with
  | nil=>rfl
  | cons e r =>
    have h0:(((e::r).length:Int)==(0:Int))=false:=by simp;omega
    have h1:decide ((0:Int)<((e::r).length:Int))=true:=decide_eq_true (by simp only[List.length_cons];omega)
    have h2:decide ((1:Int)<=((e::r).length:Int))=true:=decide_eq_true (by simp only[List.length_cons];omega)
    unfold Es;try simp -zeta only[Ap]
    rw[h0,h1,h2]
    show(bif (e.1 != t)then some (((0,[],[]):El),false,e::r)else some (e,true,D9 (e::r) 1 (e::r).length))=some (if e.1=t then(e,true,r)else((0,[],[]),false,e::r))
    have hc:D9 (e::r) 1 (e::r).length=r:=by
      show((e::r).take (e::r).length).drop 1=r
      rw[List.take_length];rfl
    rw[hc]
    by_cases h:e.1=t
    ·rw[if_pos h,show(e.1 != t)=false by simp [h]];rfl
    ·rw[if_neg h,show(e.1 != t)=true by simp [h]];rfl
theorem Alo (N:Nat) (l:List El):DV N l=some (if l=[]then 0 else 4,l):=by
  cases l with
  | nil=>rfl
  | cons e r =>
    unfold DV
    rw[F9,if_pos (by simp only[List.length_cons];omega),if_neg (by simp)]
theorem Ai2 (x:Int):(x != (0:Int))=decide (x≠0):=by by_cases h:x=0<;>simp [h]
def AmT (s:Bs) (t:Int):(List El×Int) ⊕ (Unit×Int) :=
  if(N8 s).2≠0 then .inr ((),(N8 s).2)else if(N8 s).1.1≠t then .inr ((),5)else
  if(JL (N8 s).1.2.1).2≠0 then .inr ((),(JL (N8 s).1.2.1).2)else .inl ((JL (N8 s).1.2.1).1,0)
theorem AkT (s:Bs):(N8 s).1.2.1.length<=s.length/\(N8 s).1.2.2.length<=s.length:=by
  unfold N8
  split
  ·rename_i h
   have he:=(xU h).1
   have:=Sp.NP s he
   have hr:=Sp.Ae5 s he
   have:=Sp.Aag s he
   show(Sp.content s).length<=_/\(Sp.raw s).length<=_
   omega
  ·simp
theorem Aqb (N:Nat) (s:Bs) (t:Int) (hN:4<N) (hs:s.length<=1099511627776) (hl:s.length<N):Hg N s t=some (AmT s t):=by
  have hc:=AkT s
  unfold Hg JD AmT
  rw[o5 N s hN hs]
  simp only[DL]
  generalize N8 s=o at hc ⊢
  by_cases h1:o.2=0
  ·rw[if_neg (by simp [h1]),Ai2,decide_eq_false (by simp [h1]),cond_false]
   by_cases h2:o.1.1=t
   ·rw[if_neg (by simp [h2]),show(o.1.1 != t)=false by rw[h2];simp]
    unfold Jw
    simp only[cond_false,DL]
    rw[AbC N _ hN (by omega) (by omega)]
    simp only[DL]
    by_cases h3:(JL o.1.2.1).2=0
    ·rw[if_neg (by simp [h3]),Ai2 (JL o.1.2.1).2,decide_eq_false (by simp [h3])];rfl
    ·rw[if_pos h3,Ai2 (JL o.1.2.1).2,decide_eq_true h3]
     rfl
   ·rw[if_pos h2,show(o.1.1 != t)=true from bne_iff_ne.2 h2];rfl
  ·rw[if_pos h1,Ai2,decide_eq_true h1,cond_true,DL,Ai2,decide_eq_true h1];rfl
theorem u8n {n:Nat} (h:n<256):(UInt8.ofNat n).toNat=n:=by
  rw[UInt8.toNat_ofNat'];omega
theorem u8m (n:Nat):(UInt8.ofNat n).toNat=n % 256:=UInt8.toNat_ofNat'
theorem Aog (t n:Nat) (s:Bs) (ht:t<256) (h31:t % 32≠31) (hn:n<=131072):Sp.head (UInt8.ofNat t::(Sp.Il n++s))=(0,1+(Sp.Il n).length,n):=by
  have h1: ¬(UInt8.ofNat t).toNat % 32=31:=by rw[u8n ht];exact h31
  unfold Sp.Il
  by_cases a1:n<128
  ·rw[if_pos a1]
   have e:=u8n (show n<256 by omega)
   unfold Sp.head
   dsimp only[List.cons_append,List.nil_append]
   rw[if_neg h1,e,if_pos a1];rfl
  ·rw[if_neg a1]
   by_cases a2:n<256
   ·rw[if_pos a2]
    have e:=u8n a2
    have hb:Sp.beNat (((UInt8.ofNat n)::s).take 1)=n:=by show 0*256+(UInt8.ofNat n).toNat=n;omega
    unfold Sp.head
    dsimp only[List.cons_append,List.nil_append]
    rw[if_neg h1,if_neg (by decide),if_neg (by decide),show(129:UInt8).toNat - 128=1 from rfl]
    rw[hb,if_neg (by simp),if_neg (by rw[show Sp.leastOf 1=128 from rfl];omega)];rfl
   ·rw[if_neg a2]
    by_cases a3:n<65536
    ·rw[if_pos a3]
     have e1:=u8m (n / 256)
     have e2:=u8m n
     have hb:Sp.beNat (((UInt8.ofNat (n / 256))::UInt8.ofNat n::s).take 2)=n:=by
       show(0*256+(UInt8.ofNat (n / 256)).toNat)*256+(UInt8.ofNat n).toNat=n;omega
     unfold Sp.head
     dsimp only[List.cons_append,List.nil_append]
     rw[if_neg h1,if_neg (by decide),if_neg (by decide),show(130:UInt8).toNat - 128=2 from rfl]
     rw[hb,if_neg (by simp),if_neg (by rw[show Sp.leastOf 2=256 from rfl];omega)];rfl
    ·rw[if_neg a3]
     have e0:=u8m (n / 65536)
     have e1:=u8m (n / 256)
     have e2:=u8m n
     have hb:Sp.beNat (((UInt8.ofNat (n / 65536))::(UInt8.ofNat (n / 256))::UInt8.ofNat n::s).take 3)=n:=by
       show((0*256+(UInt8.ofNat (n / 65536)).toNat)*256+(UInt8.ofNat (n / 256)).toNat)*256+(UInt8.ofNat n).toNat=n;omega
     unfold Sp.head
     dsimp only[List.cons_append,List.nil_append]
     rw[if_neg h1,if_neg (by decide),if_neg (by decide),show(131:UInt8).toNat - 128=3 from rfl]
     rw[hb,if_neg (by simp),if_neg (by rw[show Sp.leastOf 3=65536 from rfl];omega)];rfl
section
variable (t:Nat) (c r:Bs) (ht:t<256) (h31:t % 32≠31) (hc:c.length<=131072)
include ht h31 hc
theorem Aq2:Sp.rd (Sp.elem t c++r)=(0,1+(Sp.Il c.length).length,c.length):=by
  have h:Sp.elem t c++r=UInt8.ofNat t::(Sp.Il c.length++(c++r)):=by unfold Sp.elem;simp
  unfold Sp.rd
  rw[h,Aog t c.length (c++r) ht h31 hc]
  rw[if_neg]
  rintro ⟨_,h2⟩
  simp only[List.length_cons,List.length_append]at h2
  omega
theorem AgU:Sp.err (Sp.elem t c++r)=0/\Hl (Sp.elem t c++r)=((t:Int),c,Sp.elem t c)/\Sp.rest (Sp.elem t c++r)=r:=by
  have h:=Aq2 t c r ht h31 hc
  have hl:(Sp.elem t c).length=1+(Sp.Il c.length).length+c.length:=by unfold Sp.elem;simp;omega
  have hd:(Sp.elem t c++r).drop (1+(Sp.Il c.length).length)=c++r:=by
    have h2:Sp.elem t c++r=(UInt8.ofNat t::Sp.Il c.length)++(c++r):=by unfold Sp.elem;simp
    rw[h2];exact List.drop_left' (by simp;omega)
  refine⟨by unfold Sp.err;rw[h],?_,?_⟩
  ·unfold Hl Sp.content Sp.raw
   rw[h]
   dsimp only
   rw[hd,List.take_left,<- hl,List.take_left]
   rw[show Sp.tag (Sp.elem t c++r)=t from u8n ht]
  ·unfold Sp.rest
   rw[h]
   dsimp only
   rw[<- hl,List.drop_left]
end
def Np (t:Nat) (c:Bs):El:=((t:Int),c,Sp.elem t c)
theorem Ac1 (t:Nat) (c:Bs) (ht:t<256) (h31:t % 32≠31) (hc:c.length<=131072):N8 (Sp.elem t c)=(Np t c,0):=by
  obtain⟨h1,h2,h3⟩:=AgU t c [] ht h31 hc
  rw[List.append_nil]at h1 h2 h3
  unfold N8 Sp.N7
  rw[h1,h3,if_pos (show(if(0:Int)≠0 then(0:Int)else if([]:Bs)=[]then 0 else 4)=0 from rfl),h2];rfl
structure Fine (p:Nat×Bs):Prop where
  lt:p.1<256
  low:p.1 % 32≠31
  len:p.2.length<=131072
theorem AkI: ∀(l:List (Nat×Bs)) (f:Nat) (a:List El),(∀ p∈l,Fine p)->l.length<f->Ur f (l.map fun p=>Sp.elem p.1 p.2).flatten a=(a++l.map fun p=>Np p.1 p.2,0):=by
  intro l
  induction l with
  | nil =>
    intro f a _ h
    obtain⟨g,rfl⟩: ∃ g,f=g+1:=⟨f - 1,by simp at h;omega⟩
    show(if([]:Bs)=[]then(a,(0:Int))else _)=_
    rw[if_pos rfl];simp
  | cons p l ih =>
    intro f a h hf
    obtain⟨g,rfl⟩: ∃ g,f=g+1:=⟨f - 1,by simp at hf;omega⟩
    have hp:=h p List.mem_cons_self
    obtain⟨h1,h2,h3⟩:=AgU p.1 p.2 (l.map fun p=>Sp.elem p.1 p.2).flatten hp.lt hp.low hp.len
    rw[List.map_cons,List.flatten_cons]
    show(if _=[]then(a,(0:Int))else if Sp.err _≠0 then([],Sp.err _)else Ur g (Sp.rest _) (a++[Hl _]))=_
    rw[if_neg (by unfold Sp.elem;simp),h1,if_neg (by decide),h2,h3,ih g _ (fun q hq=>h q (List.mem_cons_of_mem _ hq)) (by simp at hf;omega)]
    simp [Np]
theorem Aeh (l:List (Nat×Bs)) (h: ∀ p∈l,Fine p):JL (l.map fun p=>Sp.elem p.1 p.2).flatten=(l.map fun p=>Np p.1 p.2,0):=by
  have hl:l.length<=(l.map fun p=>Sp.elem p.1 p.2).flatten.length:=by
    induction l with
    | nil=>exact Nat.zero_le _
    | cons p l ih =>
      have:=ih fun q hq=>h q (List.mem_cons_of_mem _ hq)
      rw[List.map_cons,List.flatten_cons,List.length_append,List.length_cons]
      have:1<=(Sp.elem p.1 p.2).length:=by unfold Sp.elem;simp
      omega
  unfold JL
  rw[AkI l _ [] h (by omega)];rfl
end Go.Proofs.YtbnphelpndnnfabGreatDoor.Pl
namespace Go.Proofs.YtbnphelpndnnfabGreatDoor.Pl
open IntKind (i64)
open Go Vm
theorem Aif {t:Nat} {c:Bs} (ht:t<256) (h31:t % 32≠31) (hc:c.length<=131072):Fine (t,c):=⟨ht,h31,hc⟩
def AqC (d:Nat) (s:Bs):Prop:=Sp.within (s.length+1) d s=0
theorem AiL (t:Nat) (c r:Bs):Sp.elem t c++r≠ []:=by unfold Sp.elem;simp
theorem Aql (t:Nat) (c:Bs):c.length<(Sp.elem t c).length:=by unfold Sp.elem;simp;omega
structure Par (d:Nat) (x:Bs) (es:List El):Prop where
  rd: ∀ r fs,JL r=(fs,0)->JL (x++r)=(es++fs,0)
  ns: ∀ r,AqC d r->AqC d (x++r)
theorem Ark {t:Nat} {c:Bs} {r:List El} {k:Int} (h:(t:Int)=k):Ajg (Np t c::r) k=(Np t c,true,r):=Aqs h
section
variable {X Y ρ :Type} {B:X->(X->Option ρ)->(Y->Option ρ)->Option ρ} {kx:Y->Option ρ}
theorem AjG (mk:Nat->X) (n:Nat) (fin:Option ρ) (h: ∀ i,i<n-> ∀ k,B (mk i) k kx=k (mk (i+1))) (hend: ∀ k,B (mk n) k kx=fin) (N:Nat) (hN:n<N):Dx B N (mk 0) kx=fin:=by
  refine(Amv mk n (fun _=>0) (fun _=>none) fin (fun i hi k=>h i hi k) hend N hN).trans ?_
  rw[AiY];rfl
end
end Go.Proofs.YtbnphelpndnnfabGreatDoor.Pl
namespace Go.Proofs.YtbnphelpndnnfabGreatDoor.Pl
open IntKind (i64)
open Go Vm
theorem AqZ {s:Bs} (h:Sp.chk s=0):s≠ []:=by
  intro e;subst e;revert h;decide
theorem Akf (s:Bs):((s.getD 0 0).toNat)=Sp.tag s:=by unfold Sp.tag;cases s<;>rfl
theorem aN (N:Nat) (s:Bs) (hN:16<N) (hs:s.length<=1099511627776) (hl:s.length<N):Ha N s=some (Sp.GU s):=by
  unfold Ha Sp.GU;try simp -zeta only[Ap]
  rw[Akk N s hN hs hl,DL]
  by_cases h:Sp.chk s=0
  ·have:=AgS (AqZ h)
   by_cases ht:Sp.tag s=48
   ·have hti:((Sp.tag s:Nat):Int)=48:=by omega
    simp only[h,EU,Ig,Akf,ht]
    rw[if_neg (by decide),if_pos (by omega),if_neg (by decide)]
    rfl
   ·have hti:((Sp.tag s:Nat):Int)≠48:=by omega
    simp only[h,EU,Ig,Akf,bne_iff_ne]
    rw[if_neg (by simp),if_pos (by omega),if_pos hti,if_neg (by simp),if_neg ht]
  ·simp [Ig,h]
def VM (s:Bs):Int:=if s=[]then 0 else Sp.GU s
def Ry (p:Bs×Bs):Int:=if p.1=[]/\p.2=[]then 7 else EE VM [p.1,p.2]
abbrev Ej:=List Bs×List Bs×List (Bs×Bs)
def Jl (b:Ej):Int :=
  if(64<b.1.length\/64<b.2.1.length)\/64<b.2.2.length then 2
  else if EE (EE Sp.GU) [b.1,b.2.1]≠0 then EE (EE Sp.GU) [b.1,b.2.1]else EE Ry b.2.2
def Ack (N:Nat) (s:Bs):Prop:=s.length<=1099511627776/\s.length<N
structure Fit (N:Nat) (b:Ej):Prop where
  c: ∀ s∈b.1,Ack N s
  l: ∀ s∈b.2.1,Ack N s
  p: ∀ q∈b.2.2,Ack N q.1/\Ack N q.2
theorem Aof {ρ :Type} (one:Bs->Option Int) (N:Nat) (f r:Bs) (hN:64<N) (hf:one f=some (Sp.GU f)) (hr:one r=some (Sp.GU r)) (ret:Int->Option ρ) (fin:Option ρ) :
    Dx (X:=Int×List Bs) (Y:=Unit) (U2 fun t20a l37376a k1 x2 =>
     bif decide (t20a<(2:Int))then(Vm.chk (decide ((0:Int)<=t20a)) <|
     Vm.chk (decide (t20a<(l37376a.length:Int))) <|
     Vm.chk (decide (t20a.toNat<l37376a.length)) <|
     bif ((l37376a.getD t20a.toNat ([]:Bs))==([]:Bs))then(k1 (i64.wrap (t20a+(1:Int)),l37376a))
     else(Di (one (l37376a.getD t20a.toNat ([]:Bs))) fun r27 =>
     bif (r27 != (0:Int))then(ret r27)
     else(k1 (i64.wrap (t20a+(1:Int)),l37376a))))
     else(x2 ())) N (0,([f,r]:List Bs)) (fun _=>fin)=if EE VM [f,r]≠0 then ret (EE VM [f,r])else fin:=by
  rw[Ri (S:=Unit) (fun i _=>(i,([f,r]:List Bs))) [f,r] ([]:Bs) (fun e _ k=>if VM e≠0 then ret (VM e)else k ()) (fun _=>fin) ?_ (fun _ _=>rfl) N () (by simp;omega)]
  ·exact Ul VM ret _ _ _ _ (fun _ _ _ _=>rfl)
  ·intro i s k hi
   have hi':i<2:=hi
   show(bif decide ((i:Int)<2)then _ else _)=_
   simp only[EU,F9,Int.toNat_natCast,kR]
   rw[if_pos (by omega),if_pos (by omega),if_pos (by show(i:Int)<2;omega),if_pos (by show i<2;omega),w64 (by omega) (by omega)]
   have he:([f,r]:List Bs).getD i []=f\/([f,r]:List Bs).getD i []=r:=by
     have:i=0\/i=1:=by omega
     rcases this with rfl | rfl
     ·left;rfl
     ·right;rfl
   generalize ([f,r]:List Bs).getD i []=e at he
   have ho:one e=some (Sp.GU e):=by rcases he with rfl | rfl<;>assumption
   unfold VM
   by_cases h0:e=[]
   ·rw[if_pos h0,if_pos h0];rfl
   ·rw[if_neg h0,if_neg h0,ho,DL]
    simp only[Ig,bne_iff_ne]
theorem Ai7 (N:Nat) (p:Bs×Bs) (hN:64<N) (h1:Ack N p.1) (h2:Ack N p.2):Lh N p=some (Ry p):=by
  unfold Lh;try simp -zeta only[Ap]
  simp only[zS,Aca,An9]
  rw[Aof (Ha N) N p.1 p.2 hN (aN N _ (by omega) h1.1 h1.2) (aN N _ (by omega) h2.1 h2.2) (fun r=>some r) (some 0)]
  simp only[Aqh]
  simp only[Ig,Bool.and_eq_true,beq_iff_eq]
  unfold Ry
  by_cases h:p.1=[]/\p.2=[]
  ·rw[if_pos h,if_pos h]
  ·rw[if_neg h,if_neg h]
   by_cases hz:EE VM [p.1,p.2]=0
   ·simp [hz]
   ·rw[if_pos hz]
theorem Aqy {ρ :Type} (one:Bs->Option Int) (N:Nat) {X:Type} (mk:Int->X) (l:List Bs) (hN:l.length<N) (hl:l.length<=64) (ho: ∀ s∈l,one s=some (Sp.GU s)) (ret:Int->Option ρ) (fin:Option ρ) {Y:Type} {B:X->(X->Option ρ)->(Y->Option ρ)->Option ρ} {kx:Y->Option ρ}
    (hB: ∀(i:Nat) k,i<l.length->B (mk i) k kx=Di (one (l.getD i [])) fun r=>bif (r != (0:Int))then ret r else k (mk (i64.wrap ((i:Int)+1)))) (hend: ∀ k,B (mk (l.length:Int)) k kx=fin) :
    Dx B N (mk 0) kx=if EE Sp.GU l≠0 then ret (EE Sp.GU l)else fin:=by
  rw[Ri (S:=Unit) (fun i _=>mk i) l ([]:Bs) (fun e _ k=>if Sp.GU e≠0 then ret (Sp.GU e)else k ()) (fun _=>fin) ?_ (fun _ k=>hend k) N () hN]
  ·exact Ul Sp.GU ret _ _ _ _ (fun _ _ _ _=>rfl)
  ·intro i s k hi
   dsimp only
   rw[hB i k hi,ho _ (by rw[List.getD_eq_getElem?_getD,List.getElem?_eq_getElem hi];exact List.getElem_mem hi),DL,w64 (by omega) (by omega)]
   simp only[Ig,bne_iff_ne]
theorem AbG (N:Nat) (b:Ej) (hN:64<N) (hb:Fit N b):I8 N b=some (Jl b):=by
  obtain⟨c,l,p⟩:=b
  unfold I8;try simp -zeta only[Ap]
  simp only[Ai8,zS,Afl,Als,Aca,Ai1]
  unfold Jl
  by_cases hm:(64<c.length\/64<l.length)\/64<p.length
  ·rw[if_pos hm]
   simp only[Ig,Bool.or_eq_true,decide_eq_true_eq]
   rw[if_pos (by omega)]
  ·rw[if_neg hm]
   rw[show(decide ((c.length:Int)>64)||decide ((l.length:Int)>64)||decide ((p.length:Int)>64))=false by simp;omega,cond_false]
   have hfit: ∀ e∈([c,l]:List (List Bs)),∀ s∈e,Ack N s:=by
     intro e he s hs
     rcases List.mem_cons.1 he with rfl | he
     ·exact hb.c s hs
     ·rcases List.mem_cons.1 he with rfl | he
      ·exact hb.l s hs
      ·cases he
   have hlen: ∀ e∈([c,l]:List (List Bs)),e.length<=64:=by
     intro e he
     rcases List.mem_cons.1 he with rfl | he
     ·omega
     ·rcases List.mem_cons.1 he with rfl | he
      ·omega
      ·cases he
   rw[Ri (S:=Unit) (fun i _=>(i,c,l,p,([c,l]:List (List Bs)))) [c,l] ([]:List Bs) (fun e _ k=>if EE Sp.GU e≠0 then some (EE Sp.GU e)else k ()) (fun _=>some (EE Ry p)) ?_ ?_ N () (by simp;omega)]
   ·rw[Ul (EE Sp.GU) (fun r=>some r) _ _ _ _ (fun _ _ _ _=>rfl)]
    dsimp only
    split<;>rfl
   ·intro i _ k hi
    have hi':i<2:=hi
    have hmem:=getD_mem ([]:List Bs) (show i<([c,l]:List (List Bs)).length from hi)
    show(bif decide ((i:Int)<2)then _ else _)=_
    simp only[EU,F9,Int.toNat_natCast]
    rw[if_pos (by omega),if_pos (by omega),if_pos (by show(i:Int)<2;omega),if_pos (by show i<2;omega)]
    rw[Aqy (Ha N) N (fun t=>(t,c,l,p,([c,l]:List (List Bs)))) (([c,l]:List (List Bs)).getD i []) (by have:=hlen _ hmem;omega) (hlen _ hmem) (fun s hs=>aN N s (by omega) (hfit _ hmem s hs).1 (hfit _ hmem s hs).2) (fun r=>some r) (k ((i:Int)+1,c,l,p,([c,l]:List (List Bs))))]
    ·intro j k' hj
     show(if(j:Int)<((([c,l]:List (List Bs)).getD i []).length:Int)then _ else _)=_
     rw[if_pos (by omega),if_pos (by omega),if_pos (by omega),Int.toNat_natCast]
    ·intro k'
     show(if((([c,l]:List (List Bs)).getD i []).length:Int)<((([c,l]:List (List Bs)).getD i []).length:Int)then _ else _)=_
     rw[if_neg (by omega)]
     show k (i64.wrap ((i:Int)+1),c,l,p,_)=_
     rw[w64 (by omega) (by omega)]
   ·intro _ k
    show Dx _ N 0 _=_
    rw[Ri (S:=Unit) (fun i _=>i) p (([]:Bs),([]:Bs)) (fun e _ k=>if Ry e≠0 then some (Ry e)else k ()) (fun _=>some 0) ?_ ?_ N () (by omega)]
    ·rw[Ul Ry (fun r=>some r) _ _ _ _ (fun _ _ _ _=>rfl)]
     by_cases hz:EE Ry p=0
     ·simp [hz]
     ·rw[if_pos hz]
    ·intro i _ k hi
     simp only[EU,F9,Int.toNat_natCast]
     have hm:=getD_mem (([]:Bs),([]:Bs)) hi
     rw[if_pos (by omega),if_pos (by omega),if_pos (by omega),Ai7 N _ hN (hb.p _ hm).1 (hb.p _ hm).2,DL,w64 (by omega) (by omega)]
     simp only[Ig,bne_iff_ne]
    ·intro _ k
     simp only[F9]
     rw[if_neg (by omega)]
def few (n:Nat) (l:List Bs):Prop:=l.length<=n/\ ∀ s∈l,s.length<=3000
def Asa (n:Nat) (l:List (Bs×Bs)):Prop:=l.length<=n/\ ∀ q∈l,q.1.length<=3000/\q.2.length<=3000
theorem AiV {n m:Nat} {l:List Bs} (h:few n l) (hm:n<=m):few m l:=⟨Nat.le_trans h.1 hm,h.2⟩
structure Small (n:Nat) (b:Ej):Prop where
  c:few n b.1
  l:few n b.2.1
  p:Asa n b.2.2
theorem Small.fit {n:Nat} {b:Ej} (h:Small n b):Fit 2097152 b :=
  ⟨fun s hs=>⟨by have:=h.c.2 s hs;omega,by have:=h.c.2 s hs;omega⟩,fun s hs=>⟨by have:=h.l.2 s hs;omega,by have:=h.l.2 s hs;omega⟩,
    fun q hq=>⟨⟨by have:=(h.p.2 q hq).1;omega,by have:=(h.p.2 q hq).1;omega⟩,by have:=(h.p.2 q hq).2;omega,by have:=(h.p.2 q hq).2;omega⟩⟩
theorem dB (N:Nat) (l:List Bs) (hN:l.length<N) (hl:l.length<=1099511627776):Ht N l l=some true:=by
  unfold Ht;try simp -zeta only[Ap]
  rw[show((l.length:Int) != (l.length:Int))=false by simp,cond_false]
  refine Rj (fun x=> ∃ i:Nat,x=(i:Int)/\i<=l.length) (fun x=>l.length - x.toNat) (fun o=>o=some true) ?_ N _ ⟨0,rfl,by omega⟩ (by show l.length - 0<N;omega)
  rintro x ⟨i,rfl,hi⟩ k hk
  rw[F9]
  by_cases h:i<l.length
  ·rw[if_pos (by omega),show decide ((0:Int)<=(i:Int))=true from decide_eq_true (by omega),show decide ((i:Int)<(l.length:Int))=true from decide_eq_true (by omega),EK,EK,EK,EK,show((l.getD (i:Int).toNat ([]:Bs))==(l.getD (i:Int).toNat ([]:Bs)))=true by simp,Bool.not_true,cond_false,w64 (by omega) (by omega)]
   exact hk _ ⟨i+1,by omega,by omega⟩ (by show l.length - ((i:Int)+1).toNat<l.length - (i:Int).toNat;omega)
  ·rw[if_neg (by omega)]
theorem Ahb (N:Nat) (z:Ej) (hN:z.1.length<N/\z.2.1.length<N/\z.2.2.length<N) (hl:z.1.length<=1099511627776/\z.2.1.length<=1099511627776/\z.2.2.length<=1099511627776):Ip N z z=some true:=by
  unfold Ip;try simp -zeta only[Ap]
  rw[show((z.2.2.length:Int) != (z.2.2.length:Int))=false by simp,cond_false]
  refine Rj (fun x=> ∃ i:Nat,x=((i:Int),z.1,z.2.1,z.2.2,z.1,z.2.1,z.2.2)/\i<=z.2.2.length) (fun x=>z.2.2.length - x.1.toNat) (fun o=>o=some true) ?_ N _ ⟨0,rfl,by omega⟩ (by show z.2.2.length - 0<N;omega)
  rintro x ⟨i,rfl,hi⟩ k hk
  dsimp only[U7]
  rw[F9]
  by_cases h:i<z.2.2.length
  ·rw[if_pos (by omega),show decide ((0:Int)<=(i:Int))=true from decide_eq_true (by omega),show decide ((i:Int)<(z.2.2.length:Int))=true from decide_eq_true (by omega),EK,EK,EK,EK]
   generalize z.2.2.getD (i:Int).toNat (([]:Bs),([]:Bs))=e
   rw[show(!((e.1==e.1)&&((e.2==e.2)&&true)))=false by simp,cond_false,w64 (by omega) (by omega)]
   exact hk _ ⟨i+1,by rw[show((i+1:Nat):Int)=(i:Int)+1 by omega],by omega⟩ (by show z.2.2.length - ((i:Int)+1).toNat<z.2.2.length - (i:Int).toNat;omega)
  ·rw[if_neg (by omega)]
   dsimp only[U6]
   rw[dB N z.1 hN.1 hl.1,DL,dB N z.2.1 hN.2.1 hl.2.1]
   rfl
def app {α :Type} [DecidableEq α] (acc:List α) (x: α):List α :=if x∈acc then acc else acc++[x]
def dd {α :Type} [DecidableEq α] (acc l:List α):List α :=l.foldl app acc
theorem Anz {α :Type} [DecidableEq α] {acc:List α} (h:acc.Nodup) (x: α):(app acc x).Nodup:=by
  unfold app
  split
  ·exact h
  ·rename_i hx
   rw[List.nodup_append]
   exact⟨h,by simp,fun a ha b hb=>by rw[List.mem_singleton.1 hb];exact fun e=>hx (e▸ha)⟩
theorem AiG {α :Type} [DecidableEq α]: ∀(l:List α) {acc:List α},acc.Nodup->(dd acc l).Nodup:=by
  intro l
  induction l with
  | nil=>intro acc h;exact h
  | cons x l ih=>intro acc h;exact ih (Anz h x)
theorem Aqj {α :Type} [DecidableEq α]: ∀(l acc:List α),(acc++l).Nodup->dd acc l=acc++l:=by
  intro l
  induction l with
  | nil=>intro acc _;simp [dd]
  | cons x l ih =>
    intro acc h
    have hx:x∉acc:=fun hm=>by
      rw[List.nodup_append]at h
      exact h.2.2 x hm x List.mem_cons_self rfl
    show dd (app acc x) l=_
    unfold app
    rw[if_neg hx,ih (acc++[x]) (by simpa using h)]
    simp
theorem Ag8 {α :Type} [DecidableEq α] (c l:List α) (h:c.Nodup):dd [] (c++l)=dd c l:=by
  show(c++l).foldl app []=_
  rw[List.foldl_append]
  have:=Aqj c [] (by simpa using h)
  rw[show c.foldl app []=c from this];rfl
theorem Aqf {α :Type} [DecidableEq α] {acc:List α} {x y: α} (h:y∈app acc x):y∈acc\/y=x:=by
  unfold app at h
  split at h
  ·exact .inl h
  ·rcases List.mem_append.1 h with h | h
   ·exact .inl h
   ·exact .inr (List.mem_singleton.1 h)
theorem zQ {α :Type} [DecidableEq α] (acc:List α) (x: α):(app acc x).length<=acc.length+1:=by unfold app;split<;>simp
theorem vT {α :Type} [DecidableEq α]: ∀(l:List α) {acc:List α} {y: α},y∈dd acc l->y∈acc\/y∈l:=by
  intro l
  induction l with
  | nil=>intro acc y h;exact .inl h
  | cons x l ih =>
    intro acc y h
    rcases ih (show y∈dd (app acc x) l from h)with h | h
    ·rcases Aqf h with h | h
     ·exact .inl h
     ·exact .inr (h▸List.mem_cons_self)
    ·exact .inr (List.mem_cons_of_mem _ h)
theorem fM {α :Type} [DecidableEq α]: ∀(l acc:List α),(dd acc l).length<=acc.length+l.length:=by
  intro l
  induction l with
  | nil=>intro acc;exact Nat.le_refl _
  | cons x l ih =>
    intro acc
    have h1:=ih (app acc x)
    have h2:=zQ acc x
    show(dd (app acc x) l).length<=_
    simp only[List.length_cons];omega
theorem NZ {X Y S E ρ :Type} {B:X->(X->Option ρ)->(Y->Option ρ)->Option ρ} {kx:Y->Option ρ} (mk:Int->S->X) (l:List E) (d:E) (f:S->E->S) (fin:S->Option ρ) (I:Nat->S->Prop)
    (h: ∀(i:Nat) (s:S) (k:X->Option ρ),i<l.length->I i s->B (mk (i:Int) s) k kx=k (mk ((i:Int)+1) (f s (l.getD i d)))/\I (i+1) (f s (l.getD i d)))
    (hend: ∀(s:S) (k:X->Option ρ),I l.length s->B (mk (l.length:Int) s) k kx=fin s) (N:Nat) (s:S) (h0:I 0 s) (hN:l.length<N):Dx B N (mk 0 s) kx=fin (l.foldl f s):=by
  have key: ∀(n i:Nat) (s:S),I i s->i<=l.length->l.length - i<n->Dx B n (mk (i:Int) s) kx=fin ((l.drop i).foldl f s):=by
    intro n
    induction n with
    | zero=>intro i s _ _ h;omega
    | succ n ih =>
      intro i s hI hi hn
      rw[AfJ]
      by_cases hl:i<l.length
      ·obtain⟨h1,h2⟩:=h i s (fun x'=>Dx B n x' kx) hl hI
       rw[h1,List.drop_eq_getElem_cons hl]
       show _=fin ((l.drop (i+1)).foldl f (f s l[i]))
       rw[show l.getD i d=l[i] by simp [List.getD_eq_getElem?_getD,hl]]at h2 ⊢
       exact ih (i+1) _ h2 (by omega) (by omega)
      ·have:i=l.length:=by omega
       subst this
       rw[hend s _ hI,List.drop_length];rfl
  exact key N 0 s h0 (by omega) (by omega)
abbrev PT:Ty:=.str (.str .nil)
def ones (l:List (Bs×Bs)):List ((Bs×Bs)×Bool):=l.map (fun p=>(p,true))
theorem AgX (a b:Bs×Bs):Ty.same PT a b=decide (a=b):=by
  obtain⟨a1,a2⟩:=a
  obtain⟨b1,b2⟩:=b
  show((a1==b1)&&((a2==b2)&&true))=_
  rw[Bool.eq_iff_iff]
  simp
theorem Aot (k:Bs×Bs): ∀ l:List (Bs×Bs),(ML PT k (ones l)).getD false=decide (k∈l):=by
  intro l
  induction l with
  | nil=>rfl
  | cons p l ih =>
    show(bif Ty.same PT k p then some true else ML PT k (ones l)).getD false=_
    rw[AgX]
    by_cases h:k=p
    ·simp [h]
    ·rw[decide_eq_false h,cond_false,ih]
     simp [h]
theorem Aov (k:Bs×Bs): ∀ l:List (Bs×Bs),k∉l->Qb PT k true (ones l)=ones (l++[k]):=by
  intro l
  induction l with
  | nil=>intro _;rfl
  | cons p l ih =>
    intro h
    have h1: ¬ k=p:=fun e=>h (e▸List.mem_cons_self)
    show(bif Ty.same PT k p then(p,true)::ones l else(p,true)::Qb PT k true (ones l))=_
    rw[AgX,decide_eq_false h1,cond_false,ih (fun hm=>h (List.mem_cons_of_mem _ hm))]
    rfl
theorem kU (N:Nat) (l:List (Bs×Bs)) (a b:Bs):FY N (ones l) a b=some (decide ((a,b)∉l),ones (app l (a,b))):=by
  unfold FY
  rw[show(ML (.str (.str .nil)) (a,b) (ones l)).getD false=decide ((a,b)∈l)from Aot (a,b) l]
  unfold app
  by_cases h:(a,b)∈l
  ·rw[decide_eq_true h,cond_true,if_pos h];simp [h]
  ·rw[decide_eq_false h,cond_false,if_neg h,show Qb (.str (.str .nil)) (a,b) true (ones l)=_ from Aov (a,b) l h];simp [h]
def SK (l:List Bs):List (Bs×Bs):=l.map (fun s=>(s,([]:Bs)))
theorem Nv (s:Bs) (l:List Bs):((s,([]:Bs))∈SK l)↔s∈l:=by
  unfold SK
  rw[List.mem_map]
  exact⟨fun⟨x,hx,he⟩=>by injection he with he;rw[<- he];exact hx,fun h=>⟨s,h,rfl⟩⟩
theorem AbI (l:List Bs) (s:Bs):app (SK l) (s,[])=SK (app l s):=by
  unfold app
  by_cases h:s∈l
  ·rw[if_pos ((Nv s l).2 h),if_pos h]
  ·rw[if_neg (fun hm=>h ((Nv s l).1 hm)),if_neg h]
   simp [SK]
theorem Aba (N:Nat) (l more:List Bs) (hN:(l++more).length<N) (hl:(l++more).length<=1000000):JJ N l more=some (dd [] (l++more)):=by
  unfold JJ;try simp -zeta only[Ap]
  have hln:=hl
  rw[List.length_append]at hln
  rw[EU,if_pos (by omega),EU,if_pos (by omega)]
  refine NZ (S:=List Bs) (fun i s=>(i,ones (SK s),l++more,s)) (l++more) [] app (fun s=>some s) (fun i s=>s.length<=i) ?_ ?_ N [] (by simp) hN
  ·intro i s k hi hI
   dsimp only[U4]
   rw[F9,if_pos (by omega),EU,if_pos (by omega),EU,if_pos (by omega),EU,if_pos (by rw[Int.toNat_natCast];exact hi),Int.toNat_natCast,kU,DL]
   dsimp only
   refine⟨?_,by have:=zQ s ((l++more).getD i []);omega⟩
   rw[AbI,w64 (by omega) (by omega)]
   generalize (l++more).getD i []=x
   by_cases h:x∈s
   ·rw[show decide ((x,([]:Bs))∉SK s)=false by simp [Nv,h],cond_false]
    unfold app;rw[if_pos h]
   ·rw[show decide ((x,([]:Bs))∉SK s)=true by simp [Nv,h],cond_true,EU,if_pos (by omega)]
    unfold app;rw[if_neg h]
  ·intro s k _
   dsimp only[U4]
   rw[F9,if_neg (by omega)]
def mg (z b:Ej):Ej:=(dd z.1 b.1,dd z.2.1 b.2.1,dd z.2.2 b.2.2)
def mgs (l:List Ej):Ej:=l.foldl mg ([],[],[])
def Aj4 (l:List Ej):Ej×Int:=if Jl (mgs l)≠0 then(([],[],[]),Jl (mgs l))else(mgs l,0)
structure Inv (n:Nat) (z:Ej):Prop where
  s:Small n z
  c:z.1.Nodup
  l:z.2.1.Nodup
theorem Inv.step {n:Nat} {z b:Ej} (h:Inv n z) (hb:Small 100 b):Inv (n+100) (mg z b):=by
  have key: ∀ {n:Nat} {x y:List Bs},few n x->few 100 y->few (n+100) (dd x y):=by
    intro n x y hx hy
    refine⟨by have:=fM y x;have:=hx.1;have:=hy.1;omega,fun s hs=> ?_⟩
    rcases vT y hs with h | h
    ·exact hx.2 s h
    ·exact hy.2 s h
  refine⟨⟨key h.s.c hb.c,key h.s.l hb.l,by have:=fM b.2.2 z.2.2;have:=h.s.p.1;have:=hb.p.1;show(dd _ _).length<=_;omega,fun s hs=> ?_⟩,AiG _ h.c,AiG _ h.l⟩
  rcases vT b.2.2 hs with h' | h'
  ·exact h.s.p.2 s h'
  ·exact hb.p.2 s h'
theorem Inv.zero:Inv 0 (([],[],[]):Ej):=⟨⟨⟨by simp,fun _ h=>by cases h⟩,⟨by simp,fun _ h=>by cases h⟩,⟨by simp,fun _ h=>by cases h⟩⟩,by simp,by simp⟩
theorem Inv.all: ∀(l:List Ej) {n:Nat} {z:Ej},Inv n z->(∀ b∈l,Small 100 b)->Inv (n+100*l.length) (l.foldl mg z):=by
  intro l
  induction l with
  | nil=>intro n z h _;exact h
  | cons b l ih =>
    intro n z h hb
    have:=ih (h.step (hb b List.mem_cons_self)) (fun c hc=>hb c (List.mem_cons_of_mem _ hc))
    rw[show n+100*(b::l).length=n+100+100*l.length by simp only[List.length_cons];omega]
    exact this
theorem Am0 {l:List Ej} (hl: ∀ b∈l,Small 100 b) {i:Nat} (hi:i<l.length):Small 100 (l.getD i (([]:List Bs),([]:List Bs),([]:List (Bs×Bs)))):=hl _ (getD_mem _ hi)
theorem AoK (N:Nat) (hN:N=2097152) (l:List Ej) (hlen:l.length<=1000) (hl: ∀ b∈l,Small 100 b):KH N l=some (Aj4 l):=by
  have hinv:=Inv.all l Inv.zero hl
  unfold KH;try simp -zeta only[Ap]
  refine Eq.trans (NZ (S:=Ej) (fun i z=>(i,z.1,z.2.1,ones z.2.2,z.2.2)) l (([]:List Bs),([]:List Bs),([]:List (Bs×Bs))) mg (fun z=>if Jl z≠0 then some ((([]:List Bs),([]:List Bs),([]:List (Bs×Bs))),Jl z)else some (z,0)) (fun i z=>Inv (100*i) z/\i<=1000) ?_ ?_ N (([],[],[]):Ej) ⟨Inv.zero,by omega⟩ (by omega)) ?_
  ·intro i z k hi ⟨hI,hi2⟩
   have hb:=Am0 hl hi
   dsimp only[U5]
   rw[F9,if_pos (by omega),EU,if_pos (by omega),EU,if_pos (by omega),Int.toNat_natCast]
   generalize l.getD i (([]:List Bs),([]:List Bs),([]:List (Bs×Bs)))=b at hb ⊢
   have b1:=hb.c.1;have b2:=hb.l.1;have b3:=hb.p.1
   have z1:=hI.s.c.1;have z2:=hI.s.l.1;have z3:=hI.s.p.1
   rw[Aba N z.1 b.1 (by rw[List.length_append];omega) (by rw[List.length_append];omega),DL,Ag8 _ _ hI.c,Aba N z.2.1 b.2.1 (by rw[List.length_append];omega) (by rw[List.length_append];omega),DL,Ag8 _ _ hI.l]
   refine⟨?_,⟨by rw[show 100*(i+1)=100*i+100 by omega];exact hI.step hb,by omega⟩⟩
   refine NZ (S:=List (Bs×Bs)) (fun j s=>(j,dd z.1 b.1,dd z.2.1 b.2.1,ones s,s)) b.2.2 (([]:Bs),([]:Bs)) app (fun s=>k ((i:Int)+1,dd z.1 b.1,dd z.2.1 b.2.1,ones s,s)) (fun j s=>s.length<=100*i+j) ?_ ?_ N z.2.2 (by omega) (by omega)
   ·intro j s k' hj hI'
    dsimp only[U5]
    rw[F9,if_pos (by omega),EU,if_pos (by omega),EU,if_pos (by omega),Int.toNat_natCast,kU,DL]
    dsimp only
    refine⟨?_,by have:=zQ s (b.2.2.getD j (([]:Bs),([]:Bs)));omega⟩
    rw[w64 (by omega) (by omega)]
    generalize b.2.2.getD j (([]:Bs),([]:Bs))=x
    by_cases h:x∈s
    ·rw[show decide ((x.1,x.2)∉s)=false by simp [h],cond_false]
     show k' (_,_,_,ones (app s x),s)=_
     unfold app;rw[if_pos h]
    ·rw[show decide ((x.1,x.2)∉s)=true by simp [h],cond_true,EU,if_pos (by omega)]
     show k' (_,_,_,ones (app s x),s++[x])=_
     unfold app;rw[if_neg h]
   ·intro s k' _
    dsimp only[U5]
    rw[F9,if_neg (by omega)]
    dsimp only[U4]
    rw[w64 (by omega) (by omega)]
  ·intro z k ⟨hI,hi2⟩
   dsimp only[U5]
   rw[F9,if_neg (by omega)]
   dsimp only[U3]
   have hfit:Fit N z:=by rw[hN];exact hI.s.fit
   have hck:=AbG N z (by omega) hfit
   rw[show I8 N (z.1,z.2.1,z.2.2)=some (Jl z)from hck,DL]
   by_cases h:Jl z=0
   ·rw[h];rfl
   ·rw[show(Jl z != (0:Int))=true by simpa using h,cond_true,if_pos h]
  ·show(if Jl (mgs l)≠0 then _ else _)=_
   unfold Aj4
   split<;>rfl
def OV (L:List Int) (d:List Int×Int):Prop:= ∃ k:Nat,d=(L,(k:Int))/\k<=L.length
theorem Oe (N:Nat) {L:List Int} (hL:L.length<=9223372036854775807) {d:List Int×Int} (hd:OV L d) (n:Nat) (hn:0<n) (hn':n<2147483648) :
    ∃(r:Nat) (d':List Int×Int),Dz N d (n:Int)=some ((r:Int),d')/\r<n/\OV L d':=by
  obtain⟨k,rfl,hk⟩:=hd
  unfold Dz;try simp -zeta only[Ap]
  try dsimp only
  by_cases h:k<L.length
  ·rw[F9,if_neg (by omega),w64 (x:=(k:Int)+1) (by omega) (by omega),w64 (x:=(k:Int)+1 - 1) (by omega) (by omega),EU,if_pos (by omega),EU,if_pos (by omega)]
   generalize L.getD _ _=x
   have hne:((n:Int) != 0)=true:=by simp;omega
   rw[hne,EK,EK]
   have h1:=Int.tmod_lt_of_pos x (show(0:Int)<(n:Int) by omega)
   have h2: -(n:Int)<x.tmod (n:Int):=Int.lt_tmod_of_pos x (by omega)
   rw[w64 (x:=x.tmod (n:Int)+(n:Int)) (by omega) (by omega)]
   have h3:0<=(x.tmod (n:Int)+(n:Int)).tmod (n:Int):=Int.tmod_nonneg _ (by omega)
   have h4:=Int.tmod_lt_of_pos (x.tmod (n:Int)+(n:Int)) (show(0:Int)<(n:Int) by omega)
   refine⟨((x.tmod (n:Int)+(n:Int)).tmod (n:Int)).toNat,(L,(k:Int)+1),?_,by omega,⟨k+1,by rw[show((k+1:Nat):Int)=(k:Int)+1 by omega],h⟩⟩
   rw[Int.toNat_of_nonneg h3]
  ·rw[F9,if_pos (by omega)]
   exact⟨0,_,rfl,hn,k,rfl,hk⟩
def listItem (k:Int):Option Bs:=Di (PZ 2097152 ([k]:List Int)) fun r18=>Di (xJ 2097152 r18) fun r19=>Di (Rk 2097152 r19.1) fun r20=>some r20
def He (k j:Int):Option Bs:=Di (PZ 2097152 ([k,j]:List Int)) fun r26=>Di (xI 2097152 r26) fun r27=>Di (bH 2097152 r27.1) fun r28=>some r28
def itC (s:Bs):Bs:=(N8 s).1.2.1
def Amd {α :Type} (o:Option (α ×Int)) (raw: α ->Bs) (s:Bs):Bool:=match o with | some r=>r.2 != 0||raw r.1==s | none=>false
def Apo (s:Bs):Bool:=s==Sp.elem 48 (itC s)&&(decide (s.length<=3000)&&(Sp.GU s==0&&(Amd (Iu 2097152 s) (fun r=>r.1) s&&Amd (NQ 2097152 s) (fun r=>r.1) s)))
theorem Afz {α :Type} {raw: α ->Bs} {o:Option (α ×Int)} {s:Bs} (h:Amd o raw s=true): ∃ r,o=some r/\(r.2=0->raw r.1=s):=by
  cases o with
  | none=>cases h
  | some r =>
    refine⟨r,rfl,fun h0=> ?_⟩
    unfold Amd at h
    dsimp only at h
    rw[h0]at h
    exact eq_of_beq h
structure Itm (s:Bs):Prop where
  eq:s=Sp.elem 48 (itC s)
  len:s.length<=3000
  err:Sp.GU s=0
  c: ∃ r,Iu 2097152 s=some r/\(r.2=0->r.1.1=s)
  l: ∃ r,NQ 2097152 s=some r/\(r.2=0->r.1.1=s)
theorem Aeb {s:Bs} (h:Apo s=true):Itm s:=by
  unfold Apo at h
  simp only[Bool.and_eq_true,decide_eq_true_eq]at h
  obtain⟨h1,h2,h3,h4,h5⟩:=h
  exact⟨eq_of_beq h1,h2,eq_of_beq h3,Afz h4,Afz h5⟩
def okO (o:Option Bs):Bool:=match o with | some s=>Apo s | none=>false
theorem IY {o:Option Bs} (h:okO o=true): ∃ s,o=some s/\Itm s:=by
  cases o with
  | none=>cases h
  | some s=>exact⟨s,rfl,Aeb h⟩
theorem AoZ: ∃ r,Iu 2097152 []=some r/\(r.2=0->r.1.1=[]):=Afz (o:=Iu 2097152 []) (raw:=fun r=>r.1) (by kernel_rfl)
theorem ApH (k:Nat) (hk:k<3):Itm [48,3,2,1,UInt8.ofNat k]:=by
  have:k=0\/k=1\/k=2:=by omega
  rcases this with rfl | rfl | rfl
  ·exact Aeb (by kernel_rfl)
  ·exact Aeb (by kernel_rfl)
  ·exact Aeb (by kernel_rfl)
theorem ArH:okO (listItem 0)=true:=by kernel_rfl
theorem ArI:okO (listItem 1)=true:=by kernel_rfl
theorem ArJ:okO (listItem 2)=true:=by kernel_rfl
theorem ArK:okO (listItem 3)=true:=by kernel_rfl
theorem AqN:okO (He 0 0)=true:=by kernel_rfl
theorem AqO:okO (He 0 1)=true:=by kernel_rfl
theorem AqP:okO (He 0 2)=true:=by kernel_rfl
theorem AqQ:okO (He 1 0)=true:=by kernel_rfl
theorem AqR:okO (He 1 1)=true:=by kernel_rfl
theorem AqS:okO (He 1 2)=true:=by kernel_rfl
theorem AqT:okO (He 2 0)=true:=by kernel_rfl
theorem AqU:okO (He 2 1)=true:=by kernel_rfl
theorem AqV:okO (He 2 2)=true:=by kernel_rfl
theorem AqW:okO (He 3 0)=true:=by kernel_rfl
theorem AqX:okO (He 3 1)=true:=by kernel_rfl
theorem AqY:okO (He 3 2)=true:=by kernel_rfl
theorem list_item (k:Nat) (hk:k<4): ∃ s,listItem (k:Int)=some s/\Itm s:=by
  have:k=0\/k=1\/k=2\/k=3:=by omega
  rcases this with rfl | rfl | rfl | rfl
  ·exact IY ArH
  ·exact IY ArI
  ·exact IY ArJ
  ·exact IY ArK
theorem An7 (k j:Nat) (hk:k<4) (hj:j<3): ∃ s,He (k:Int) (j:Int)=some s/\Itm s:=by
  have h1:k=0\/k=1\/k=2\/k=3:=by omega
  have h2:j=0\/j=1\/j=2:=by omega
  rcases h1 with rfl | rfl | rfl | rfl<;>rcases h2 with rfl | rfl | rfl
  ·exact IY AqN
  ·exact IY AqO
  ·exact IY AqP
  ·exact IY AqQ
  ·exact IY AqR
  ·exact IY AqS
  ·exact IY AqT
  ·exact IY AqU
  ·exact IY AqV
  ·exact IY AqW
  ·exact IY AqX
  ·exact IY AqY
