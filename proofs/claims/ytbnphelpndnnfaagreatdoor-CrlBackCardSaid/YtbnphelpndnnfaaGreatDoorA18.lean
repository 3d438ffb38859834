import Derived.Test.YtbnphelpndnnfaaGreatDoorA13
import Derived.Test.YtbnphelpndnnfaaGreatDoorA17
import Derived.Sort.Walk0
set_option linter.all false
namespace Go.Proofs.YtbnphelpndnnfaaGreatDoor.Pl
open IntKind (i64)
open Go Vm
def Ej (l:Bs):Int×Bs×Bs:=((Sp.tag l:Int),Sp.content l,Sp.raw l)
def H8 (l:Bs):(Int×Bs×Bs)×Bs×Int:=if Sp.err l=0 then(Ej l,Sp.rest l,0)else((0,[],[]),[],Sp.err l)
theorem AaG {s:Bs} {p n:Nat} (hh:Sp.head s=(0,p,n)) (hp:p<=s.length):(if((s.length:Int) - p<n)then(some ((0,([]:Bs),([]:Bs)),([]:Bs),3):Option ((Int×Bs×Bs)×Bs×Int))else some ((((s.getD 0 0).toNat:Int),cutL s p (p+n),cutL s 0 (p+n)),cutL s (p+n) s.length,0))=some (H8 s):=by
  have e1: ∀ a b,(cutL s a b)=(s.take b).drop a:=fun a b=>rfl
  by_cases h:(s.length:Int) - p<n
  ·rw[if_pos h]
   have:Sp.rd s=(3,0,0):=by unfold Sp.rd;rw[hh,if_pos ⟨rfl,by show s.length - p<n;omega⟩]
   unfold H8 Sp.err;rw[this];rfl
  ·rw[if_neg h]
   have hr:Sp.rd s=(0,p,n):=by unfold Sp.rd;rw[hh,if_neg (by intro hc;have:=hc.2;simp at this;omega)]
   have he:Sp.err s=0:=by unfold Sp.err;rw[hr]
   unfold H8
   rw[if_pos he]
   unfold Ej Sp.content Sp.raw Sp.rest
   rw[hr,e1,e1,e1]
   congr 1
   refine Prod.ext (Prod.ext ?_ (Prod.ext ?_ ?_)) (Prod.ext ?_ rfl)
   ·show((s.getD 0 0).toNat:Int)=((Sp.tag s:Nat):Int)
    unfold Sp.tag;cases s<;>rfl
   ·show(s.take (p+n)).drop p=(s.drop p).take n
    rw[List.drop_take];congr 1;omega
   ·show(s.take (p+n)).drop 0=_
    rw[List.drop_zero]
   ·show(s.take s.length).drop (p+n)=_
    rw[List.take_length]
theorem take_snoc {α :Type} {l:List α} {i:Nat} (h:i<l.length):l.take (i+1)=l.take i++[l[i]]:=by
  rw[List.take_add_one,List.getElem?_eq_getElem h];rfl
theorem uN {l:Bs} {i:Nat} (h:i<l.length):Sp.beNat (l.take (i+1))=Sp.beNat (l.take i)*256+(l[i]).toNat:=by
  rw[take_snoc h,Sp.uM]
theorem qF {l:Bs} (i:Nat) (hl:l.length<=3):Sp.beNat (l.take i)<16777216:=by
  have h1:=Sp.Aae (l.take i)
  have h2:256 ^ (l.take i).length<=256 ^ 3:=Nat.pow_le_pow_right (by omega) (by rw[List.length_take];omega)
  have:(256:Nat) ^ 3=16777216:=by decide
  omega
theorem xZ {ρ :Type} (N:Nat) (l:Bs) (hl:l.length<=3) (hN:4<N) (kx:Int->Option ρ) :
    iterG (X:=Int×Int×List Int) (Y:=Int) (U3 fun t7b t52b l45568b k2 x3 =>
      if t52b<((List.map (fun(b:UInt8)=>((b.toNat:Int))) l).length:Int)then if(0:Int)<=t52b then if t52b<(l45568b.length:Int)then if t52b.toNat<l45568b.length then
        k2 (bitsI .or .i64 (i64.wrap (t7b*(256))) (i64.wrap (l45568b.getD t52b.toNat 0)),i64.wrap (t52b+(1:Int)),l45568b)else none else none else none
      else x3 t7b) N (0,0,List.map (fun(b:UInt8)=>((b.toNat:Int))) l) kx=kx (Sp.beNat l):=by
  refine Lj (fun x=> ∃ i,i<=l.length/\x=((Sp.beNat (l.take i):Int),(i:Int),List.map (fun(b:UInt8)=>((b.toNat:Int))) l)) (fun x=>l.length - x.2.1.toNat) (fun _=>kx (Sp.beNat l)) ?_ N _ ⟨0,by omega,rfl⟩ (by show l.length - 0<N;omega)
  rintro x ⟨i,hi,rfl⟩ k hk
  show(if(i:Int)<_ then _ else _)=_
  rw[List.length_map]
  by_cases h:i<l.length
  ·dsimp only
   rw[if_pos (by omega),if_pos (by omega),if_pos (by omega),Int.toNat_natCast,if_pos h]
   have hb:=(l[i]).toNat_lt
   have hs:=qF (l:=l) i hl
   rw[show(List.map (fun(b:UInt8)=>((b.toNat:Int))) l).getD i 0=((l[i].toNat:Nat):Int) by simp [List.getD_eq_getElem?_getD,h]]
   rw[w64 (x:=((Sp.beNat (l.take i):Nat):Int)*256) (by omega) (by omega),w64 (x:=((l[i].toNat:Nat):Int)) (by omega) (by omega),w64 (x:=(i:Int)+1) (by omega) (by omega)]
   rw[show((Sp.beNat (l.take i):Nat):Int)*256=((Sp.beNat (l.take i)*256:Nat):Int) by omega,or8 _ _ (by omega) hb,<- uN h]
   exact hk _ ⟨i+1,h,rfl⟩ (by show l.length - ((i:Int)+1).toNat<l.length - (i:Int).toNat;omega)
  ·rw[if_neg (by omega)]
   rw[List.take_of_length_le (by omega)]
theorem Aa3 (N:Nat) (k:Nat) (h1:1<=k) (h3:k<=3):XK N (k:Int)=some (Sp.leastOf k:Int):=by
  have:k=1\/k=2\/k=3:=by omega
  rcases this with rfl | rfl | rfl<;>rfl
set_option maxRecDepth 4000
theorem O6 (N:Nat) (s:Bs) (hN:4<N) (hs:s.length<=1099511627776):Ls N s=some (H8 s):=by
  unfold Ls;try simp -zeta only[Ap]
  cases s with
  | nil=>rfl
  | cons a r =>
    have ha:=a.toNat_lt
    have h0:((a::r:Bs)==([]:Bs))=false:=rfl
    simp only[h0,cond_false,List.getD_cons_zero,List.length_cons,nD,NK,dY,mW]
    simp only[Abw,NI,beq_iff_eq,decide_eq_true_eq,Bool.or_eq_true,Bool.and_eq_true]
    rw[w64 (by omega) (by omega),Abe _ ha]
    by_cases h31:a.toNat % 32=31
    ·have:Sp.err (a::r)=5:=by simp [Sp.err,Sp.rd,Sp.head,h31]
     unfold H8
     rw[this,if_pos (by omega),if_pos (by omega)]
     rfl
    ·rw[if_pos (by omega),if_neg (by omega)]
     cases r with
     | nil =>
       have:Sp.err [a]=3:=by simp [Sp.err,Sp.rd,Sp.head,h31]
       unfold H8
       rw[this,if_pos (by simp)]
       rfl
     | cons b c =>
       have hb:=b.toNat_lt
       simp only[List.length_cons]at hs
       simp only[List.getD_cons_succ,List.getD_cons_zero,List.length_cons]
       rw[w64 (x:=((b.toNat:Nat):Int)) (by omega) (by omega),if_neg (by omega),if_pos (by omega)]
       by_cases h6:b.toNat=128\/131<b.toNat
       ·have:Sp.err (a::b::c)=6:=by simp [Sp.err,Sp.rd,Sp.head,h31,h6,show ¬ b.toNat<128 by omega]
        unfold H8
        rw[this,if_pos (by omega)]
        rfl
       ·rw[if_neg (by omega),Hg]
        have hend: ∀ p n:Nat,Sp.head (a::b::c)=(0,p,n)->p<=c.length+2->n<=131072->(if i64.wrap (((c.length+1+1:Nat):Int) - (p:Int))<(n:Int)then some ((0,([]:Bs),([]:Bs)),([]:Bs),3)
            else if(0:Int)<=(p:Int)then if(p:Int)<=i64.wrap ((p:Int)+(n:Int))then if i64.wrap ((p:Int)+(n:Int))<=((c.length+1+1:Nat):Int)then if(0:Int)<=i64.wrap ((p:Int)+(n:Int))then
              if i64.wrap ((p:Int)+(n:Int))<=((c.length+1+1:Nat):Int)then if(0:Int)<=i64.wrap ((p:Int)+(n:Int))then if i64.wrap ((p:Int)+(n:Int))<=((c.length+1+1:Nat):Int)then
              some ((((a.toNat:Nat):Int),cutL (a::b::c) (p:Int).toNat (i64.wrap ((p:Int)+(n:Int))).toNat,cutL (a::b::c) 0 (i64.wrap ((p:Int)+(n:Int))).toNat),cutL (a::b::c) (i64.wrap ((p:Int)+(n:Int))).toNat (c.length+1+1),0)
              else none else none else none else none else none else none else none:Option ((Int×Bs×Bs)×Bs×Int))=some (H8 (a::b::c)):=by
          intro p n hh hp hn
          have:=AaG (s:=a::b::c) hh (by simp;omega)
          rw[w64 (x:=((c.length+1+1:Nat):Int) - (p:Int)) (by omega) (by omega),w64 (x:=(p:Int)+(n:Int)) (by omega) (by omega)]
          rw[<- this]
          show(if((c.length+1+1:Nat):Int) - (p:Int)<(n:Int)then _ else _)=(if((c.length+1+1:Nat):Int) - (p:Int)<(n:Int)then _ else _)
          by_cases hlt:((c.length+1+1:Nat):Int) - (p:Int)<(n:Int)
          ·rw[if_pos hlt,if_pos hlt]
          ·rw[if_neg hlt,if_neg hlt,if_pos (by omega),if_pos (by omega),if_pos (by omega),if_pos (by omega),if_pos (by omega),if_pos (by omega),if_pos (by omega)]
           rw[show((p:Int)+(n:Int)).toNat=p+n by omega,Int.toNat_natCast]
           rfl
        by_cases h128:b.toNat<128
        ·rw[if_neg (by omega)]
         exact hend 2 b.toNat (by simp [Sp.head,h31,h128]) (by omega) (by omega)
        ·rw[if_pos (by omega)]
         obtain⟨k,hk⟩: ∃ k:Nat,b.toNat=128+k:=⟨b.toNat - 128,by omega⟩
         rw[w64 (x:=((b.toNat:Nat):Int) - 128) (by omega) (by omega),show((b.toNat:Nat):Int) - 128=(k:Int) by omega,w64 (x:=2+(k:Int)) (by omega) (by omega)]
         by_cases hlen:c.length<k
         ·rw[if_pos (by omega)]
          have:Sp.err (a::b::c)=3:=by simp [Sp.err,Sp.rd,Sp.head,h31,h128,h6,show b.toNat - 128=k by omega,hlen]
          unfold H8
          rw[this]
          rfl
         ·have hcut:cutL (a::b::c) 2 ((2+(k:Int)).toNat)=c.take k:=by
            rw[show(2+(k:Int)).toNat=k+2 by omega];rfl
          have hlk:(c.take k).length=k:=by rw[List.length_take];omega
          rw[if_neg (by omega),if_pos (by omega),if_pos (by omega),hcut,if_pos (by omega)]
          rw[xZ N (c.take k) (by omega) hN,Aa3 N k (by omega) (by omega),CW]
          by_cases hbad:Sp.beNat (c.take k)<Sp.leastOf k\/131072<Sp.beNat (c.take k)
          ·have:Sp.err (a::b::c)=6:=by simp [Sp.err,Sp.rd,Sp.head,h31,h128,h6,show b.toNat - 128=k by omega,hlen,hbad]
           unfold H8
           rw[if_pos (by omega),this]
           rfl
          ·rw[if_neg (by omega)]
           have:=hend (2+k) (Sp.beNat (c.take k)) (by simp [Sp.head,h31,h128,h6,show b.toNat - 128=k by omega,hlen,hbad]) (by omega) (by omega)
           rw[show(((2+k:Nat)):Int)=2+(k:Int) by omega]at this
           exact this
def TD (s:Bs):(Int×Bs×Bs)×Int:=if Sp.Iw s=0 then(Ej s,0)else((0,[],[]),Sp.Iw s)
theorem jV {s:Bs} (h:Sp.Iw s=0):Sp.err s=0/\Sp.rest s=[]:=by
  unfold Sp.Iw at h
  by_cases he:Sp.err s=0
  ·rw[if_neg (by simp [he])]at h
   by_cases hr:Sp.rest s=[]
   ·exact⟨he,hr⟩
   ·rw[if_neg hr]at h;cases h
  ·rw[if_pos he]at h;exact absurd h he
theorem N9 (N:Nat) (s:Bs) (hN:4<N) (hs:s.length<=1099511627776):Ko N s=some (TD s):=by
  unfold Ko
  rw[O6 N s hN hs,CW]
  unfold H8 TD Sp.Iw
  by_cases he:Sp.err s=0
  ·rw[if_pos he]
   by_cases hr:Sp.rest s=[]
   ·simp [he,hr,NI]
   ·simp [he,hr,NI]
  ·rw[if_neg he]
   simp [he,NI]
theorem pK (s:Bs):Sp.tag s<256:=UInt8.toNat_lt _
def MN (e:Int×Bs×Bs) (d:Nat):Int:=if e.1 / 32 % 2=1 then Sp.within (e.2.1.length+1) d e.2.1 else 0
theorem JV: ∀(f g d:Nat) (l:Bs),l.length<f->l.length<g->Sp.within f d l=Sp.within g d l:=by
  intro f
  induction f with
  | zero=>intro g d l h;omega
  | succ f ih =>
    intro g d l hf hg
    cases g with
    | zero=>omega
    | succ g =>
      show(if l=[]then _ else _)=if l=[]then _ else _
      by_cases hl:l=[]
      ·rw[if_pos hl,if_pos hl]
      ·rw[if_neg hl,if_neg hl]
       by_cases he:Sp.err l=0
       ·have h1:=Sp.Md l he
        have h2:=Sp.XT l he
        rw[ih g (d+1) (Sp.content l) (by omega) (by omega),ih g d (Sp.rest l) (by omega) (by omega)]
       ·rw[if_pos he,if_pos he]
theorem YR {B:Bs->(Bs->Option Int)->(Unit->Option Int)->Option Int} {kx:Unit->Option Int} (d L:Nat)
    (hB: ∀ x k,x≠ []->x.length<=L->B x k kx=if Sp.err x≠0 then some (Sp.err x)else if 16<=d then some 8 else if MN (Ej x) (d+1)≠0 then some (MN (Ej x) (d+1))else k (Sp.rest x))
    (hend: ∀ k,B [] k kx=some 0) (N:Nat) (x:Bs) (hx:x.length<=L) (hN:x.length<N):iterG B N x kx=some (Sp.within (x.length+1) d x):=by
  refine Lj (fun x=>x.length<=L) (fun x=>x.length) (fun x=>some (Sp.within (x.length+1) d x)) ?_ N x hx hN
  intro x hx k hk
  by_cases h0:x=[]
  ·subst h0;rw[hend];rfl
  ·rw[hB x k h0 hx]
   by_cases he:Sp.err x=0
   ·rw[if_neg (by simp [he])]
    by_cases hd:16<=d
    ·rw[if_pos hd,Sp.rX _ _ _ h0 he hd]
    ·rw[if_neg hd]
     have h1:=Sp.Md x he
     have h2:=Sp.XT x he
     have hin:MN (Ej x) (d+1)=Sp.inner x.length (d+1) (Sp.tag x) (Sp.content x):=by
       unfold MN Sp.inner Sp.cons Ej
       rw[JV _ x.length (d+1) (Sp.content x) (Nat.lt_succ_self _) h1]
       have:(((Sp.tag x:Nat):Int) / 32 % 2=1)↔(Sp.tag x / 32 % 2=1):=by omega
       simp [this]
     rw[hin]
     by_cases hi:Sp.inner x.length (d+1) (Sp.tag x) (Sp.content x)=0
     ·rw[if_neg (by simp [hi]),hk _ (by show(Sp.rest x).length<=L;omega) h2,Sp.YS _ _ _ h0 he hd hi]
      rw[JV _ x.length d (Sp.rest x) (Nat.lt_succ_self _) h2]
     ·rw[if_pos hi,Sp.wW _ _ _ h0 he hd hi]
   ·rw[if_pos he,Sp.wY _ _ _ h0 he]
theorem zN (N:Nat) (hN:4<N): ∀(m n:Nat),m<n-> ∀(e:Int×Bs×Bs) (d:Nat),d+m=16->0<=e.1->e.1<256->e.2.1.length<N->e.2.1.length<=1099511627776 ->
    IU N n e (d:Int)=some (MN e d):=by
  intro m
  induction m with
  | zero =>
    intro n hn e d hd h0 h1 h2 h3
    obtain⟨n,rfl⟩: ∃ k,n=k+1:=⟨n - 1,by omega⟩
    show Ia N (IU N n) e d=_
    unfold Ia MN
    obtain⟨t,ht⟩: ∃ t:Nat,e.1=(t:Int):=⟨e.1.toNat,by omega⟩
    rw[ht,Abf t (by omega)]
    by_cases hc:t / 32 % 2=1
    ·rw[if_pos hc,if_pos (by omega)]
     refine YR d e.2.1.length (fun x k hx hl=> ?_) (fun k=>rfl) N _ (Nat.le_refl _) h2
     have:(x==([]:Bs))=false:=by cases x with | nil=>exact absurd rfl hx | cons _ _=>rfl
     dsimp only
     rw[this,O6 N x hN (by omega),CW]
     unfold H8
     simp only[NI,bne_iff_ne,decide_eq_true_eq,Bool.not_false]
     by_cases he:Sp.err x=0
     ·rw[if_pos he]
      simp only[he,ne_eq,not_true_eq_false,if_false,if_true]
      rw[if_pos (by omega),if_pos (by omega)]
     ·rw[if_neg he]
      simp [he]
    ·rw[if_neg hc,if_neg (by omega)];rfl
  | succ m ih =>
    intro n hn e d hd h0 h1 h2 h3
    obtain⟨n,rfl⟩: ∃ k,n=k+1:=⟨n - 1,by omega⟩
    show Ia N (IU N n) e d=_
    unfold Ia MN
    obtain⟨t,ht⟩: ∃ t:Nat,e.1=(t:Int):=⟨e.1.toNat,by omega⟩
    rw[ht,Abf t (by omega)]
    by_cases hc:t / 32 % 2=1
    ·rw[if_pos hc,if_pos (by omega)]
     refine YR d e.2.1.length (fun x k hx hl=> ?_) (fun k=>rfl) N _ (Nat.le_refl _) h2
     have:(x==([]:Bs))=false:=by cases x with | nil=>exact absurd rfl hx | cons _ _=>rfl
     dsimp only
     rw[this,O6 N x hN (by omega),CW]
     unfold H8
     simp only[NI,bne_iff_ne,decide_eq_true_eq,Bool.not_false]
     by_cases he:Sp.err x=0
     ·rw[if_pos he]
      simp only[he,ne_eq,not_true_eq_false,if_false,if_true]
      have hcl:=Sp.Md x he
      have htl:=pK x
      rw[if_neg (by omega),if_neg (by omega),w64 (by omega) (by omega),show(d:Int)+1=((d+1:Nat):Int) by omega,ih n (by omega) (Ej x) (d+1) (by omega) (by show(0:Int)<=((Sp.tag x:Nat):Int);omega) (by show((Sp.tag x:Nat):Int)<256;omega) (by show(Sp.content x).length<N;omega) (by show(Sp.content x).length<=_;omega),CW]
     ·rw[if_neg he]
      simp [he]
    ·rw[if_neg hc,if_neg (by omega)];rfl
theorem vN {s:Bs} (h:Sp.Iw s=0):MN (Ej s) 1=Sp.chk s:=by
  unfold Sp.chk
  rw[if_neg (by simp [h])]
  unfold MN Sp.inner Sp.cons Ej
  have h1:=Sp.Md s (jV h).1
  rw[JV _ (s.length+1) 1 (Sp.content s) (Nat.lt_succ_self _) (by omega)]
  have:(((Sp.tag s:Nat):Int) / 32 % 2=1)↔(Sp.tag s / 32 % 2=1):=by omega
  simp [this]
theorem pR (N:Nat) (s:Bs) (hN:16<N) (hs:s.length<=1099511627776) (hl:s.length<N):OZ N s=some (Sp.chk s):=by
  unfold OZ
  rw[N9 N s (by omega) hs,CW]
  unfold TD
  by_cases h:Sp.Iw s=0
  ·have h1:=Sp.Md s (jV h).1
   have h2:=pK s
   rw[if_pos h,<- vN h]
   have:=zN N (by omega) 15 N (by omega) (Ej s) 1 rfl (by show(0:Int)<=((Sp.tag s:Nat):Int);omega) (by show((Sp.tag s:Nat):Int)<256;omega) (by show(Sp.content s).length<N;omega) (by show(Sp.content s).length<=_;omega)
   show callO (IU N N (Ej s) 1) _=_
   rw[show(1:Int)=((1:Nat):Int)from rfl,this,CW]
  ·rw[if_neg h]
   have:Sp.chk s=Sp.Iw s:=by unfold Sp.chk;rw[if_pos h]
   simp [NI,h,this]
end Go.Proofs.YtbnphelpndnnfaaGreatDoor.Pl
namespace Go.Proofs.YtbnphelpndnnfaaGreatDoor.Vm
open IntKind (i64)
theorem Dv {ρ :Type} {c:Bool} (k:Option ρ) (h:c=true):chk c k=k:=by rw[h];rfl
theorem Abp (c:UInt8):c.toNat<256:=UInt8.toNat_lt c
theorem getD_lt {α :Type} (l:List α) (i:Nat) (d: α) (h:i<l.length):l.getD i d=l[i]:=by rw[List.getD_eq_getElem?_getD,List.getElem?_eq_getElem h];rfl
def iT {E S ρ :Type} (step:E->S->Option ρ ⊕ S) (fin:S->Option ρ):List E->S->Option ρ
  | [],s=>fin s
  | e::r,s=>match step e s with
    | .inl x=>x
    | .inr s'=>iT step fin r s'
def zL {X S ρ :Type} (b:(X->Option ρ)->Option ρ) (nx:S->X) (I:S->Prop):Option ρ ⊕ S->Prop
  | .inl x=> ∀ k,b k=x
  | .inr s'=>(∀ k,b k=k (nx s'))/\I s'
theorem jP {X Y S E ρ :Type} {B:X->(X->Option ρ)->(Y->Option ρ)->Option ρ} {kx:Y->Option ρ} (mk:Int->S->X) (l:List E) (d:E) (I:Nat->S->Prop) (step:E->S->Option ρ ⊕ S) (fin:S->Option ρ)
    (h: ∀(i:Nat) (s:S),i<l.length->I i s->zL (fun k=>B (mk (i:Int) s) k kx) (mk ((i:Int)+1)) (I (i+1)) (step (l.getD i d) s))
    (hend: ∀(s:S) (k:X->Option ρ),I l.length s->B (mk (l.length:Int) s) k kx=fin s) (N:Nat) (s:S) (h0:I 0 s) (hN:l.length<N):iterG B N (mk 0 s) kx=iT step fin l s:=by
  have key: ∀(n i:Nat) (s:S),I i s->i<=l.length->l.length - i<n->iterG B n (mk (i:Int) s) kx=iT step fin (l.drop i) s:=by
    intro n
    induction n with
    | zero=>intro i s _ _ h;omega
    | succ n ih =>
      intro i s hI hi hn
      rw[DW]
      by_cases hl:i<l.length
      ·have h1:=h i s hl hI
       rw[List.drop_eq_getElem_cons hl]
       show _=(match step l[i] s with | .inl x=>x | .inr s'=>iT step fin (l.drop (i+1)) s')
       rw[show l.getD i d=l[i] by simp [List.getD_eq_getElem?_getD,hl]]at h1
       cases hs:step l[i] s with
       | inl x=>rw[hs]at h1;exact h1 _
       | inr s' =>
         rw[hs]at h1
         obtain⟨h2,h3⟩:=h1
         exact(h2 _).trans (ih (i+1) _ h3 (by omega) (by omega))
      ·have:i=l.length:=by omega
       subst this
       rw[hend s _ hI,List.drop_length];rfl
  exact key N 0 s h0 (by omega) (by omega)
open Go
theorem aH {a b:Int} {q:Decidable (a<b)} (h:a<b): @decide (a<b) q=true:= @decide_eq_true _ q h
theorem XM {a b:Int} {q:Decidable (a<b)} (h:b<=a): @decide (a<b) q=false:= @decide_eq_false _ q (by omega)
theorem aG {a b:Int} {q:Decidable (a<=b)} (h:a<=b): @decide (a<=b) q=true:= @decide_eq_true _ q h
theorem Adf {a b:Int} {q:Decidable (a<=b)} (h:b<a): @decide (a<=b) q=false:= @decide_eq_false _ q (by omega)
theorem uY {a b:Int} {q:Decidable (a>b)} (h:b<a): @decide (a>b) q=true:= @decide_eq_true _ q h
theorem Abi {a b:Int} {q:Decidable (a>b)} (h:a<=b): @decide (a>b) q=false:= @decide_eq_false _ q (by omega)
theorem Abh {a b:Int} {q:Decidable (a>=b)} (h:b<=a): @decide (a>=b) q=true:= @decide_eq_true _ q h
theorem Abg {a b:Int} {q:Decidable (a>=b)} (h:a<b): @decide (a>=b) q=false:= @decide_eq_false _ q (by omega)
theorem Abk {a b:Nat} {q:Decidable (a<b)} (h:a<b): @decide (a<b) q=true:= @decide_eq_true _ q h
theorem Adn {a b:Nat} {q:Decidable (a<b)} (h:b<=a): @decide (a<b) q=false:= @decide_eq_false _ q (by omega)
theorem lZ {a b:Nat} {q:Decidable (a<=b)} (h:a<=b): @decide (a<=b) q=true:= @decide_eq_true _ q h
theorem Adm {a b:Nat} {q:Decidable (a<=b)} (h:b<a): @decide (a<=b) q=false:= @decide_eq_false _ q (by omega)
theorem xN {a b:Int} (h:a=b):(a==b)=true:=by subst h;exact beq_self_eq_true _
theorem Qm {a b:Int} (h:a≠b):(a==b)=false:=beq_false_of_ne h
theorem Qn {a b:Int} (h:a≠b):(a != b)=true:=by unfold bne;rw[Qm h];rfl
theorem TR {a b:Int} (h:a=b):(a != b)=false:=by unfold bne;rw[xN h];rfl
theorem toNat_add (a b:Nat):((a:Int)+(b:Int)).toNat=a+b:=by omega
theorem toNat_sub (a b:Nat):((a:Int) - (b:Int)).toNat=a - b:=by omega
theorem wU (a:Nat):((a:Int)+1).toNat=a+1:=by omega
theorem wV (a:Nat):((a:Int) - 1).toNat=a - 1:=by omega
theorem D7 (a:Nat):((a:Int)+1)=((a+1:Nat):Int):=rfl
theorem getD_mem {α :Type} {l:List α} {i:Nat} (d: α) (h:i<l.length):l.getD i d∈l:=by rw[getD_lt l i d h];exact List.getElem_mem h
def JO {R S ρ :Type} (x:R ⊕ S) (ret:R->Option ρ) (k:S->Option ρ):Option ρ :=match x with
  | .inl r=>ret r
  | .inr s=>k s
theorem Abx {R S ρ :Type} (r:R) (ret:R->Option ρ) (k:S->Option ρ):JO (.inl r) ret k=ret r:=rfl
theorem sQ {R S ρ :Type} (s:S) (ret:R->Option ρ) (k:S->Option ρ):JO (.inr s) ret k=k s:=rfl
theorem J4 {R S ρ :Type} (b:Bool) (x y:R ⊕ S) (ret:R->Option ρ) (k:S->Option ρ):JO (bif b then x else y) ret k=bif b then JO x ret k else JO y ret k:=by cases b<;>rfl
theorem xR {R S ρ :Type} (b:Prop) [Decidable b] (x y:R ⊕ S) (ret:R->Option ρ) (k:S->Option ρ):JO (if b then x else y) ret k=if b then JO x ret k else JO y ret k:=by split<;>rfl
def JW {E R S:Type} (step:E->S->R ⊕ S):List E->S->R ⊕ S
  | [],s=>.inr s
  | e::r,s=>match step e s with
    | .inl x=>.inl x
    | .inr s'=>JW step r s'
theorem yL {E R S:Type} (step:E->S->R ⊕ S) (s:S):JW step [] s= .inr s:=rfl
theorem MP {E R S:Type} (step:E->S->R ⊕ S) (e:E) (l:List E) (s:S):JW step (e::l) s=(step e s).elim Sum.inl (fun s'=>JW step l s'):=by
  simp only[JW]
  cases step e s<;>rfl
theorem S9 {X Y S E R ρ :Type} {B:X->(X->Option ρ)->(Y->Option ρ)->Option ρ} {kx:Y->Option ρ} (mk:Nat->S->X) (l:List E) (d:E) (I:Nat->S->Prop) (step:E->S->R ⊕ S) (ret:R->Option ρ) (fin:S->Option ρ)
    (h: ∀(i:Nat) (s:S),i<l.length->I i s-> ∀ k,B (mk i s) k kx=JO (step (l.getD i d) s) ret fun s'=>k (mk (i+1) s'))
    (hI: ∀(i:Nat) (s s':S),i<l.length->I i s->step (l.getD i d) s= .inr s'->I (i+1) s')
    (hend: ∀(s:S) (k:X->Option ρ),I l.length s->B (mk l.length s) k kx=fin s) (N:Nat) (s:S) (h0:I 0 s) (hN:l.length<N):iterG B N (mk 0 s) kx=JO (JW step l s) ret fin:=by
  have key: ∀(n i:Nat) (s:S),I i s->i<=l.length->l.length - i<n->iterG B n (mk i s) kx=JO (JW step (l.drop i) s) ret fin:=by
    intro n
    induction n with
    | zero=>intro i s _ _ h;omega
    | succ n ih =>
      intro i s hi hil hn
      rw[DW]
      by_cases hl:i<l.length
      ·rw[h i s hl hi,List.drop_eq_getElem_cons hl]
       have hs:=hI i s
       rw[show l.getD i d=l[i]from getD_lt l i d hl]at *
       rw[MP]
       cases hst:step l[i] s with
       | inl x=>rfl
       | inr s'=>exact ih (i+1) _ (hs _ hl hi hst) (by omega) (by omega)
      ·have:i=l.length:=by omega
       subst this
       rw[hend s _ hi,List.drop_length];rfl
  exact key N 0 s h0 (by omega) (by omega)
theorem zJ {X Y S E R ρ :Type} {B:X->(X->Option ρ)->(Y->Option ρ)->Option ρ} {kx:Y->Option ρ} (mk:Nat->S->X) (l:List E) (d:E) (step:E->S->R ⊕ S) (ret:R->Option ρ) (fin:S->Option ρ)
    (h: ∀(i:Nat) (s:S),i<l.length-> ∀ k,B (mk i s) k kx=JO (step (l.getD i d) s) ret fun s'=>k (mk (i+1) s'))
    (hend: ∀(s:S) (k:X->Option ρ),B (mk l.length s) k kx=fin s) (N:Nat) (s:S) (hN:l.length<N):iterG B N (mk 0 s) kx=JO (JW step l s) ret fin :=
  S9 mk l d (fun _ _=>True) step ret fin (fun i s hi _=>h i s hi) (fun _ _ _ _ _ _=>trivial) (fun s k _=>hend s k) N s trivial hN
theorem AaL {X Y E ρ :Type} {B:X->(X->Option ρ)->(Y->Option ρ)->Option ρ} {kx:Y->Option ρ} (mk:Nat->X) (out:Nat->Y) (l:List E) (d:E) (p:E->Bool)
    (h: ∀(i:Nat) (k:X->Option ρ),i<l.length->B (mk i) k kx=bif p (l.getD i d)then kx (out i)else k (mk (i+1)))
    (hend: ∀ k:X->Option ρ,B (mk l.length) k kx=kx (out l.length)) (N:Nat) (hN:l.length<N):iterG B N (mk 0) kx=kx (out (l.findIdx p)):=by
  have key: ∀(n i:Nat),i<=l.length->l.length - i<n->iterG B n (mk i) kx=kx (out (i+(l.drop i).findIdx p)):=by
    intro n
    induction n with
    | zero=>intro i _ h;omega
    | succ n ih =>
      intro i hi hn
      rw[DW]
      by_cases hl:i<l.length
      ·rw[h i _ hl,List.drop_eq_getElem_cons hl,List.findIdx_cons,show l.getD i d=l[i]from getD_lt l i d hl]
       cases p l[i]with
       | true=>rfl
       | false =>
         rw[cond_false,cond_false,ih (i+1) (by omega) (by omega)]
         congr 2;omega
      ·have:i=l.length:=by omega
       subst this
       rw[hend,List.drop_length];rfl
  have:=key N 0 (Nat.zero_le _) (by omega)
  rwa [Nat.zero_add,List.drop_zero]at this
theorem qV {E:Type} (f:E->Int): ∀ l:List E,JW (fun e (_:Unit)=>bif f e != 0 then .inl (f e)else .inr ()) l ()=bif EP f l != 0 then .inl (EP f l)else .inr ():=by
  intro l
  induction l with
  | nil=>rfl
  | cons e t ih =>
    rw[MP]
    unfold EP
    by_cases h:f e=0
    ·rw[h,show((0:Int) != 0)=false from rfl]
     exact ih
    ·rw[if_pos h,show(f e != 0)=true from bne_iff_ne.2 h];rfl
theorem Z7 {n i:Nat} (h:i<n):(List.range n).getD i 0=i:=by
  rw[getD_lt _ _ _ (by rw[List.length_range];exact h),List.getElem_range]
section
variable {X Y E ρ :Type} {B:X->(X->Option ρ)->(Y->Option ρ)->Option ρ} {kx:Y->Option ρ}
theorem yB (mk:Nat->X) (l:List E) (d:E) (f:E->Int) (ret:Int->Option ρ) (fin:Option ρ)
    (h: ∀ i,i<l.length-> ∀ k,B (mk i) k kx=bif f (l.getD i d) != 0 then ret (f (l.getD i d))else k (mk (i+1)))
    (hend: ∀ k,B (mk l.length) k kx=fin) (N:Nat) (hN:l.length<N):iterG B N (mk 0) kx=bif EP f l != 0 then ret (EP f l)else fin:=by
  refine Eq.trans (zJ (S:=Unit) (R:=Int) (mk:=fun i _=>mk i) l d (fun e _=>bif f e != 0 then .inl (f e)else .inr ()) ret (fun _=>fin) ?_ (fun _ k=>hend k) N () hN) ?_
  ·intro i _ hi k
   rw[h i hi,J4];rfl
  ·rw[qV,J4];rfl
theorem vH (mk:Nat->X) (n:Nat) (f:Nat->Int) (ret:Int->Option ρ) (fin:Option ρ)
    (h: ∀ i,i<n-> ∀ k,B (mk i) k kx=bif f i != 0 then ret (f i)else k (mk (i+1)))
    (hend: ∀ k,B (mk n) k kx=fin) (N:Nat) (hN:n<N):iterG B N (mk 0) kx=bif EP f (List.range n) != 0 then ret (EP f (List.range n))else fin:=by
  refine yB mk (List.range n) 0 f ret fin ?_ ?_ N (by rw[List.length_range];exact hN)
  ·intro i hi k
   rw[List.length_range]at hi
   rw[Z7 hi];exact h i hi k
  ·intro k;rw[List.length_range];exact hend k
end
theorem mX {α :Type} (b:Bool) (x y: α):(bif b then some x else some y)=some (bif b then x else y):=by cases b<;>rfl
theorem Tm {E:Type} (f:E->Int) (x:E) (r:List E):EP f (x::r)=bif f x != 0 then f x else EP f r:=by
  show(if f x≠0 then f x else EP f r)=_
  by_cases h:f x=0
  ·rw[if_neg (fun hn=>hn h),h];rfl
  ·rw[if_pos h,show(f x != 0)=true from bne_iff_ne.2 h];rfl
theorem zM {α :Type} (l:List α) (d: α) {i j:Nat} (h:j<i):(l.take i).getD j d=l.getD j d:=by
  rw[List.getD_eq_getElem?_getD,List.getElem?_take,if_pos h,<- List.getD_eq_getElem?_getD]
theorem xW {α :Type} (l:List α) (i:Nat):cutL l 0 i=l.take i:=rfl
section
variable {X Y E A ρ :Type} {B:X->(X->Option ρ)->(Y->Option ρ)->Option ρ} {kx:Y->Option ρ}
theorem vS (er:E->Int) (g:E->A): ∀(l:List E) (acc:List A),JW (fun e (acc:List A)=>bif er e != 0 then Sum.inl (er e)else Sum.inr (acc++[g e])) l acc=bif EP er l != 0 then .inl (EP er l)else .inr (acc++l.map g):=by
  intro l
  induction l with
  | nil=>intro acc;rw[List.map_nil,List.append_nil];rfl
  | cons e r ih =>
    intro acc
    rw[MP,Tm]
    cases h:er e != 0 with
    | true=>rw[cond_true,cond_true,h];rfl
    | false =>
      rw[cond_false,cond_false]
      show JW _ r (acc++[g e])=_
      rw[ih,List.append_assoc];rfl
theorem Aax (mk:Nat->List A->X) (l:List E) (d:E) (er:E->Int) (g:E->A) (ret:Int->Option ρ) (fin:List A->Option ρ)
    (h: ∀(i:Nat) (acc:List A),i<l.length->acc.length=i-> ∀ k,B (mk i acc) k kx=bif er (l.getD i d) != 0 then ret (er (l.getD i d))else k (mk (i+1) (acc++[g (l.getD i d)])))
    (hend: ∀(acc:List A) (k:X->Option ρ),acc.length=l.length->B (mk l.length acc) k kx=fin acc) (N:Nat) (hN:l.length<N):iterG B N (mk 0 []) kx=bif EP er l != 0 then ret (EP er l)else fin (l.map g):=by
  refine(S9 (S:=List A) (R:=Int) mk l d (fun i acc=>acc.length=i) (fun e acc=>bif er e != 0 then .inl (er e)else .inr (acc++[g e])) ret fin ?_ ?_ (fun acc k ha=>hend acc k ha) N [] rfl hN).trans ?_
  ·intro i acc hi ha k
   rw[h i acc hi ha,J4];rfl
  ·intro i acc acc' hi ha he
   cases hb:er (l.getD i d) != 0 with
   | true=>rw[hb]at he;cases he
   | false =>
     rw[hb]at he;injection he with he;subst he
     rw[List.length_append,ha];rfl
  ·rw[vS,J4,List.nil_append];rfl
theorem Zf: ∀ l:List E,EP (fun _=>(0:Int)) l=0:=by
  intro l
  induction l with
  | nil=>rfl
  | cons e r ih=>rw[Tm];exact ih
theorem JE (mk:Nat->List A->X) (l:List E) (d:E) (g:E->A) (fin:List A->Option ρ)
    (h: ∀(i:Nat) (acc:List A),i<l.length->acc.length=i-> ∀ k,B (mk i acc) k kx=k (mk (i+1) (acc++[g (l.getD i d)])))
    (hend: ∀(acc:List A) (k:X->Option ρ),acc.length=l.length->B (mk l.length acc) k kx=fin acc) (N:Nat) (hN:l.length<N):iterG B N (mk 0 []) kx=fin (l.map g):=by
  refine(Aax mk l d (fun _=>0) g (fun _=>none) fin (fun i acc hi ha k=>h i acc hi ha k) hend N hN).trans ?_
  rw[Zf];rfl
theorem jK (g:E->Bs) (l:List E) (d:E) {i:Nat} (h:i<l.length):((l.take i).map g).flatten++g (l.getD i d)=((l.take (i+1)).map g).flatten:=by
  rw[getD_lt l i d h,List.take_add_one,List.getElem?_eq_getElem h,List.map_append,List.flatten_append]
  simp
theorem Ab5 (g:E->Bs) (l:List E) (i:Nat):((l.take i).map g).flatten.length<=(l.map g).flatten.length:=by
  conv=>rhs;rw[<- List.take_append_drop i l,List.map_append,List.flatten_append,List.length_append]
  omega
theorem Aaf (mk:Nat->Bs->X) (l:List E) (d:E) (er:E->Int) (g:E->Bs) (ret:Int->Option ρ) (fin:Bs->Option ρ)
    (h: ∀(i:Nat) (t:Bs),i<l.length->t.length+(g (l.getD i d)).length<=(l.map g).flatten.length-> ∀ k,B (mk i t) k kx=bif er (l.getD i d) != 0 then ret (er (l.getD i d))else k (mk (i+1) (t++g (l.getD i d))))
    (hend: ∀(t:Bs) (k:X->Option ρ),B (mk l.length t) k kx=fin t) (N:Nat) (hN:l.length<N):iterG B N (mk 0 []) kx=bif EP er l != 0 then ret (EP er l)else fin (l.map g).flatten:=by
  refine(S9 (S:=Bs) (R:=Int) mk l d (fun i t=>t=((l.take i).map g).flatten) (fun e t=>bif er e != 0 then .inl (er e)else .inr (t++g e)) ret fin ?_ ?_ (fun t k _=>hend t k) N [] rfl hN).trans ?_
  ·intro i t hi ht k
   rw[h i t hi ?_,J4]
   ·rfl
   ·rw[ht,<- List.length_append,jK g l d hi]
    exact Ab5 g l (i+1)
  ·intro i t t' hi ht he
   cases hb:er (l.getD i d) != 0 with
   | true=>rw[hb]at he;cases he
   | false =>
     rw[hb]at he;injection he with he
     rw[<- he,ht,jK g l d hi]
  ·have: ∀(l:List E) (t:Bs),JW (fun e (t:Bs)=>bif er e != 0 then Sum.inl (er e)else Sum.inr (t++g e)) l t=bif EP er l != 0 then .inl (EP er l)else .inr (t++(l.map g).flatten):=by
     intro l
     induction l with
     | nil=>intro t;simp [yL,EP]
     | cons e r ih =>
       intro t
       rw[MP,Tm]
       cases h:er e != 0 with
       | true=>rw[cond_true,cond_true,h];rfl
       | false=>rw[cond_false,cond_false,List.map_cons,List.flatten_cons,<- List.append_assoc,<- ih];rfl
   rw[this,J4,List.nil_append];rfl
theorem dW (mk:Nat->Bs->X) (l:List E) (d:E) (g:E->Bs) (fin:Bs->Option ρ)
    (h: ∀(i:Nat) (t:Bs),i<l.length->t.length+(g (l.getD i d)).length<=(l.map g).flatten.length-> ∀ k,B (mk i t) k kx=k (mk (i+1) (t++g (l.getD i d))))
    (hend: ∀(t:Bs) (k:X->Option ρ),B (mk l.length t) k kx=fin t) (N:Nat) (hN:l.length<N):iterG B N (mk 0 []) kx=fin (l.map g).flatten:=by
  refine(Aaf mk l d (fun _=>0) g (fun _=>none) fin (fun i t hi ht k=>h i t hi ht k) hend N hN).trans ?_
  rw[Zf];rfl
theorem KJ {g:E->Bs} {M:Nat}: ∀ {l:List E},(∀ e∈l,(g e).length<=M)->(l.map g).flatten.length<=M*l.length:=by
  intro l
  induction l with
  | nil=>intro _;simp
  | cons e r ih =>
    intro h
    have h1:=h e List.mem_cons_self
    have h2:=ih fun e he=>h e (List.mem_cons_of_mem _ he)
    rw[List.map_cons,List.flatten_cons,List.length_append,List.length_cons,Nat.mul_succ]
    omega
end
theorem mF (x y:Bool):(x|| !y&& !x||y)=true:=by cases x<;>cases y<;>rfl
set_option linter.defProp false in
def Dj:=And.intro @letB_eq (And.intro @Hg (And.intro @DY (And.intro @CW (And.intro @cond_true.{1} (And.intro @cond_false.{1} (And.intro @aH (And.intro @XM (And.intro @aG (And.intro @Adf (And.intro @uY (And.intro @Abi (And.intro @Abh (And.intro @Abg (And.intro @Abk (And.intro @Adn (And.intro @lZ (And.intro @Adm (And.intro @xN (And.intro @Qm (And.intro @Qn (And.intro @TR (And.intro @w64 (And.intro @Int.toNat_natCast (And.intro @toNat_add (And.intro @toNat_sub (And.intro @wU (And.intro @wV (And.intro @Bool.true_or (And.intro @Bool.or_true (And.intro @Bool.false_or (And.intro @Bool.or_false (And.intro @Bool.true_and (And.intro @Bool.and_true (And.intro @Bool.false_and (And.intro @Bool.and_false (And.intro @Bool.not_true (And.intro @Bool.not_false (And.intro @Bool.not_not (And.intro @Bool.or_not_self (And.intro @Bool.not_or_self (And.intro @Bool.cond_self.{1} (And.intro @Bool.cond_true_left (And.intro @Bool.cond_false_left (And.intro @Bool.cond_true_right (And.intro @Bool.cond_false_right (And.intro @Bool.or_self (And.intro @Bool.and_self (And.intro @Abx (And.intro @sQ (And.intro @J4 (And.intro @xR (And.intro @U2.eq_1 (And.intro @U3.eq_1 (And.intro @U4.eq_1 (And.intro @U5.eq_1 (And.intro @U6.eq_1 (And.intro @U7.eq_1 (And.intro @U8.eq_1 (And.intro @U9.eq_1 (@U10.eq_1))))))))))))))))))))))))))))))))))))))))))))))))))))))))))))
end Go.Proofs.YtbnphelpndnnfaaGreatDoor.Vm
namespace Go.Proofs.YtbnphelpndnnfaaGreatDoor.Pl
open IntKind (i64)
open Go Vm
theorem vF (s:Bs):(s==([]:Bs))=decide (s=[]):=by cases s<;>rfl
theorem zC {α :Type} {s:List α} (h:s≠ []):0<s.length:=by cases s with | nil=>exact absurd rfl h | cons _ _=>simp
def IV (t:Nat) (c:Bs):Option Bs:=if c.length<=131072 then some (Sp.elem t c)else none
theorem jO: ∀(l:List Bs),([]:Bs).intercalate l=l.flatten
  | []=>rfl
  | [a]=>by simp [List.intercalate]
  | a::b::r=>by
    have:=jO (b::r)
    simp only[List.intercalate,List.intersperse,List.flatten_cons]at this ⊢
    simp [this]
theorem Ry (n:Nat):Vm.byteOf (IntKind.u8.wrap (n:Int))=UInt8.ofNat n:=by
  rw[w8]
  unfold Vm.byteOf
  rw[show((n:Int) % 256).toNat=n % 256 by omega]
  apply UInt8.toNat.inj
  simp
theorem nV (n k:Nat):(n:Int).fdiv (k:Int)=((n / k:Nat):Int):=by
  rw[Int.fdiv_eq_ediv_of_nonneg _ (by omega)];rfl
theorem head_eq {ρ :Type} (t n:Nat) (ht:t<256) (K:List Int->Option ρ) (K':Bs->Option ρ) (hK: ∀ l,List.all l isByte=true->l.length<=5->K l=K' (List.map Vm.byteOf l)) :
    (bif decide ((n:Int)<(128:Int))then K ([IntKind.u8.wrap (t:Int),IntKind.u8.wrap (n:Int)]:List Int)
      else bif decide ((n:Int)<(256:Int))then K ([IntKind.u8.wrap (t:Int),129,IntKind.u8.wrap (n:Int)]:List Int)
      else bif decide ((n:Int)<(65536:Int))then K ([IntKind.u8.wrap (t:Int),130,IntKind.u8.wrap ((n:Int).fdiv (256)),IntKind.u8.wrap (n:Int)]:List Int)
      else K ([IntKind.u8.wrap (t:Int),131,IntKind.u8.wrap ((n:Int).fdiv (65536)),IntKind.u8.wrap ((n:Int).fdiv (256)),IntKind.u8.wrap (n:Int)]:List Int))=K' (UInt8.ofNat t::Sp.FH n):=by
  have f1:=nV n 256
  have f2:=nV n 65536
  have g1: ∀ k:Nat,isByte (k:Int)=decide (k<256):=fun k=>by unfold isByte;simp;omega
  rw[show((256:Nat):Int)=256 from rfl]at f1
  rw[show((65536:Nat):Int)=65536 from rfl]at f2
  rw[f1,f2]
  unfold Sp.FH
  simp only[Jy]
  by_cases h1:n<128
  ·rw[if_pos (by omega),if_pos h1,hK _ (by simp [H6]) (by simp)]
   simp only[List.map_cons,List.map_nil,Ry]
  ·rw[if_neg (by omega),if_neg h1]
   by_cases h2:n<256
   ·rw[if_pos (by omega),if_pos h2,hK _ (by simp [H6];decide) (by simp)]
    simp only[List.map_cons,List.map_nil,Ry];rfl
   ·rw[if_neg (by omega),if_neg h2]
    by_cases h3:n<65536
    ·rw[if_pos (by omega),if_pos h3,hK _ (by simp [H6];decide) (by simp)]
     simp only[List.map_cons,List.map_nil,Ry];rfl
    ·rw[if_neg (by omega),if_neg h3,hK _ (by simp [H6];decide) (by simp)]
     simp only[List.map_cons,List.map_nil,Ry];rfl
theorem AaY {ρ :Type} (bad:Option ρ) (fin:Nat->Option ρ): ∀(l:List Bs) (s: {n:Nat // n<=131072}),
    XN (fun(e:Bs) (s: {n:Nat // n<=131072}) (k: {n:Nat // n<=131072}->Option ρ)=>if h:s.1+e.length<=131072 then k ⟨s.1+e.length,h⟩else bad) (fun s=>fin s.1) l s=if s.1+l.flatten.length<=131072 then fin (s.1+l.flatten.length)else bad:=by
  intro l
  induction l with
  | nil=>intro s;have:=s.2;simp [XN,this]
  | cons e r ih =>
    intro s
    show(if h:s.1+e.length<=131072 then _ else bad)=_
    rw[List.flatten_cons,List.length_append]
    by_cases h:s.1+e.length<=131072
    ·rw[dif_pos h,ih]
     dsimp only
     rw[Nat.add_assoc]
    ·rw[dif_neg h,if_neg (by omega)]
theorem AaS {ρ :Type} (N:Nat) (l:List Bs) (hN:l.length<N) (hl:l.length<=1099511627776) (bad:Option ρ) (kx:Int->Option ρ) :
    iterG (X:=Int×Int) (Y:=Int) (U2 fun t6a t23a k1 x2 =>
      bif decide (t23a<(l.length:Int))then(Vm.chk (decide ((0:Int)<=t23a)) <|
      Vm.chk (decide (t23a<(l.length:Int))) <|
      let x31:Bool:=decide (((l.getD t23a.toNat ([]:Bs)).length:Int)>(i64.wrap ((131072:Int) - t6a)))
      bif x31 then bad
      else(k1 (i64.wrap (t6a+((l.getD t23a.toNat ([]:Bs)).length:Int)),i64.wrap (t23a+(1:Int)))))
      else(x2 t6a)) N (0,0) kx=if l.flatten.length<=131072 then kx (l.flatten.length:Int)else bad:=by
  refine Eq.trans (vO (S:= {n:Nat // n<=131072}) (fun i s=>((s.1:Int),i)) l ([]:Bs) (fun e s k=>if h:s.1+e.length<=131072 then k ⟨s.1+e.length,h⟩else bad) (fun s=>(fun n:Nat=>kx (n:Int)) s.1) ?_ ?_ N ⟨0,by omega⟩ hN) ?_
  ·intro i s k hi
   have hs:=s.2
   show(bif decide ((i:Int)<(l.length:Int))then _ else _)=_
   simp only[Jy,Qp,Int.toNat_natCast]
   rw[if_pos (by omega),if_pos (by omega),if_pos (by omega),w64 (x:=131072 - ((s.1:Nat):Int)) (by omega) (by omega)]
   by_cases h:s.1+(l.getD i []).length<=131072
   ·rw[if_neg (by omega),dif_pos h,w64 (by omega) (by omega),w64 (by omega) (by omega)]
    rfl
   ·rw[if_pos (by omega),dif_neg h]
  ·intro s k
   show(bif decide ((l.length:Int)<(l.length:Int))then _ else _)=_
   simp only[Jy]
   rw[if_neg (by omega)]
  ·refine(AaY bad (fun n:Nat=>kx (n:Int)) l ⟨0,by omega⟩).trans ?_
   dsimp only
   rw[Nat.zero_add]
theorem YP (N t:Nat) (l:List Bs) (ht:t<256) (h31:t % 32≠31) (hN:l.length<N) (hl:l.length<=1099511627776):Dz N (t:Int) l=some ((IV t l.flatten).getD [],if(IV t l.flatten).isNone then 6 else 0):=by
  unfold Dz;try simp -zeta only[Ap]
  simp only[nD,NK,dY,sO,I7,mW,Abe t ht]
  rw[show(decide ((t:Int)<0)||decide ((t:Int)>255)||((t % 32:Nat):Int)==31)=false by simp;omega,cond_false]
  refine Eq.trans (AaS N l hN hl _ _) ?_
  unfold IV
  by_cases h:l.flatten.length<=131072
  ·rw[if_pos h,if_pos h,Hg]
   refine Eq.trans (head_eq t l.flatten.length ht (fun l1:List Int=>Vm.chk (List.all l1 isByte)<|callO (strings_Join N l ([]:Bs)) fun r81=>Vm.chk (decide ((List.map Vm.byteOf l1).length+r81.length<=140737488355328))<|some ((List.map Vm.byteOf l1)++r81,(0:Int))) (fun h=>some (h++l.flatten,0)) (fun l' hl' hl5=> ?_)) rfl
   rw[hl',DY]
   unfold strings_Join
   rw[jO,decide_eq_true (show l.length<=140737488355328 by omega),decide_eq_true (show l.flatten.length<=140737488355328 by omega)]
   show Vm.chk (decide ((List.map Vm.byteOf l').length+l.flatten.length<=140737488355328)) _=_
   rw[Qp,if_pos (by rw[List.length_map];omega)]
   rfl
  ·rw[if_neg h,if_neg h];rfl
theorem lL (N t:Nat) (l:List Bs) (ht:t<256) (h31:t % 32≠31) (hN:l.length<N) (hl:l.length<=1099511627776) (hs:l.flatten.length<=140737488355328):Nr N (t:Int) l=some ((IV t l.flatten).getD [],if(IV t l.flatten).isNone then 6 else 0):=by
  unfold Nr;try simp -zeta only[Ap]
  simp only[nD,NK,dY,sO,I7,mW]
  rw[show(decide ((t:Int)<0)||decide ((t:Int)>255)||(t:Int).tmod 32==31)=false by rw[Int.tmod_eq_emod_of_nonneg (by omega)];simp;omega,cond_false]
  refine Eq.trans (Lj (fun x=> ∃ i,i<=l.length/\x=((l.take i).flatten,(i:Int))) (fun x=>l.length - x.2.toNat) (fun _=>some ((IV t l.flatten).getD [],if(IV t l.flatten).isNone then 6 else 0)) ?_ N _ ⟨0,by omega,rfl⟩ (by show l.length - 0<N;omega)) rfl
  rintro x ⟨i,hi,rfl⟩ k hk
  show(bif decide ((i:Int)<(l.length:Int))then _ else _)=_
  by_cases h:i<l.length
  ·simp only[Jy,Qp,Int.toNat_natCast]
   have e:(l.take i).flatten++l.getD i []=(l.take (i+1)).flatten:=by
     rw[take_snoc h,List.flatten_append,show l.getD i []=l[i] by simp [List.getD_eq_getElem?_getD,h]]
     simp
   have hle:(l.take (i+1)).flatten.length<=l.flatten.length:=by
     conv=>rhs;rw[<- List.take_append_drop (i+1) l,List.flatten_append,List.length_append]
     omega
   have e2:(l.take i).flatten.length+(l.getD i []).length<=140737488355328:=by rw[<- List.length_append,e];omega
   rw[if_pos (by omega),if_pos (by omega),if_pos (by omega),if_pos e2,e,w64 (by omega) (by omega)]
   exact hk _ ⟨i+1,h,rfl⟩ (by show l.length - ((i:Int)+1).toNat<l.length - (i:Int).toNat;omega)
  ·have hil:i=l.length:=by omega
   subst hil
   rw[Jy,if_neg (by omega)]
   dsimp only
   rw[List.take_length]
   unfold IV
   by_cases h:l.flatten.length<=131072
   ·rw[if_pos h,Jy,if_neg (by omega),Hg]
    have:=head_eq t l.flatten.length ht (fun l':List Int=>Vm.chk (List.all l' isByte)<|Vm.chk (decide ((List.map Vm.byteOf l').length+l.flatten.length<=140737488355328))<|some ((List.map Vm.byteOf l')++l.flatten,(0:Int))) (fun h=>some (h++l.flatten,0)) (fun l' hl' hl5=>by
      rw[hl',DY,Qp,if_pos (by rw[List.length_map];omega)])
    refine Eq.trans ?_ this
    simp only[Jy]
    by_cases h1:l.flatten.length<128
    ·rw[if_neg (by omega),if_neg (by omega),if_neg (by omega),if_pos (by omega)]
    ·by_cases h2:l.flatten.length<256
     ·rw[if_neg (by omega),if_neg (by omega),if_pos (by omega),if_neg (by omega),if_pos (by omega)]
     ·by_cases h3:l.flatten.length<65536
      ·rw[if_neg (by omega),if_pos (by omega),if_neg (by omega),if_neg (by omega),if_pos (by omega)]
      ·rw[if_pos (by omega),if_neg (by omega),if_neg (by omega),if_neg (by omega)]
   ·rw[if_neg h,Jy,if_pos (by omega)];rfl
theorem sG (N:Nat) (b:Bool) (s:Bs) (e:Int):Dn N b s e=some (s,b||decide (e≠0)):=by
  unfold Dn;try simp -zeta only[Ap]
  cases b<;>simp [Vm.chk,bne,BEq.beq,decide_not]
theorem sH (N t:Nat) (b:Bool) (l:List Bs) (ht:t<256) (h31:t % 32≠31) (hN:l.length<N) (hl:l.length<=1099511627776):Dh N b (t:Int) l=some ((IV t l.flatten).getD [],b||(IV t l.flatten).isNone):=by
  unfold Dh
  rw[YP N t l ht h31 hN hl,CW,sG,CW]
  cases IV t l.flatten<;>simp
theorem LW (N:Nat) (b:Bool) (l:List Bs) (hN:l.length<N) (hl:l.length<=1099511627776):Dq N b l=some ((IV 48 l.flatten).getD [],b||(IV 48 l.flatten).isNone):=by
  unfold Dq
  rw[show(48:Int)=((48:Nat):Int)from rfl,sH N 48 b l (by omega) (by omega) hN hl,CW]
abbrev El:=Int×Bs×Bs
def GV:Nat->Bs->List El->List El×Int
  | 0,_,a=>(a,0)
  | f+1,s,a=>if s=[]then(a,0)else if Sp.err s≠0 then([],Sp.err s)else GV f (Sp.rest s) (a++[Ej s])
def MO (s:Bs):List El×Int:=GV (s.length+1) s []
theorem bM: ∀(f g:Nat) (s:Bs) (a:List El),s.length<f->s.length<g->GV f s a=GV g s a:=by
  intro f
  induction f with
  | zero=>intro g s a h;omega
  | succ f ih =>
    intro g s a hf hg
    cases g with
    | zero=>omega
    | succ g =>
      show(if s=[]then(a,(0:Int))else if Sp.err s≠0 then([],Sp.err s)else GV f (Sp.rest s) (a++[Ej s]))=(if s=[]then(a,0)else if Sp.err s≠0 then([],Sp.err s)else GV g (Sp.rest s) (a++[Ej s]))
      by_cases h:s=[]
      ·rw[if_pos h,if_pos h]
      ·rw[if_neg h,if_neg h]
       by_cases he:Sp.err s=0
       ·have:=Sp.XT s he
        rw[if_neg (by simp [he]),if_neg (by simp [he])]
        exact ih g _ _ (by omega) (by omega)
       ·rw[if_pos he,if_pos he]
def XQ (M:Nat) (e:El):Prop:= ∃ t:Bs,Sp.err t=0/\e=Ej t/\t.length<=M
structure Good (M:Nat) (l:List El):Prop where
  len:l.length<=M
  all: ∀ e∈l,XQ M e
  AcE:(l.map (·.2.2)).flatten.length<=M
theorem XQ.mono {M K:Nat} {e:El} (h:XQ M e) (hk:M<=K):XQ K e:=by
  obtain⟨t,h1,h2,h3⟩:=h;exact⟨t,h1,h2,by omega⟩
theorem XQ.content {M:Nat} {e:El} (h:XQ M e):e.2.1.length+2<=e.2.2.length/\e.2.2.length<=M/\0<=e.1/\e.1<256:=by
  obtain⟨t,h1,rfl,h3⟩:=h
  have:=Sp.dB t h1
  have hr:=Sp.wH t h1
  have hc:=Sp.dZ t h1
  have ht:=pK t
  show(Sp.content t).length+2<=(Sp.raw t).length/\(Sp.raw t).length<=M/\0<=((Sp.tag t:Nat):Int)/\((Sp.tag t:Nat):Int)<256
  omega
theorem Good.mono {M K:Nat} {l:List El} (h:Good M l) (hk:M<=K):Good K l:=⟨by have:=h.len;omega,fun e he=>(h.all e he).mono hk,by have:=h.AcE;omega⟩
theorem Good.tail {M:Nat} {e:El} {l:List El} (h:Good M (e::l)):Good M l:=⟨by have:=h.len;simp at this;omega,fun e he=>h.all e (List.mem_cons_of_mem _ he),by have:=h.AcE;rw[List.map_cons,List.flatten_cons,List.length_append]at this;omega⟩
theorem G6 (N:Nat) (s:Bs) (hN:4<N) (hs:s.length<=1099511627776) (hl:s.length<N):Gm N s=some (MO s):=by
  unfold Gm MO;try simp -zeta only[Ap]
  refine Lj (F:=fun x=>some (GV (x.1.length+1) x.1 x.2)) (fun x=>x.1.length+x.2.length<=s.length) (fun x=>x.1.length) ?_ N (s,[]) (by simp) hl
  rintro ⟨t,a⟩ hI k hk
  dsimp only at hI hk
  dsimp only[U2]
  by_cases h:t=[]
  ·subst h;rfl
  ·have hp:=zC h
   rw[vF,decide_eq_false h,Bool.not_false,cond_true]
   show(callO (Ls N t) _:Option (List El×Int))=some (if t=[]then(a,0)else if Sp.err t≠0 then([],Sp.err t)else GV t.length (Sp.rest t) (a++[Ej t]))
   rw[if_neg h,O6 N t hN (by omega),CW]
   by_cases he:Sp.err t=0
   ·have hr:H8 t=(Ej t,Sp.rest t,0):=by unfold H8;rw[if_pos he]
    have hlt:=Sp.XT t he
    rw[hr,if_neg (by simp [he])]
    show Vm.chk (decide ((a.length+1)*41<=140737488355328)) (k (Sp.rest t,a++[Ej t]))=_
    rw[Qp,if_pos (by omega),hk (Sp.rest t,a++[Ej t]) (by simp;omega) hlt]
    exact congrArg some (bM _ _ _ _ (by show(Sp.rest t).length<(Sp.rest t).length+1;omega) hlt)
   ·have hr:H8 t=((0,[],[]),[],Sp.err t):=by unfold H8;rw[if_neg he]
    rw[hr,if_pos he]
    show(bif Sp.err t != 0 then some (([]:List El),Sp.err t)else _)=_
    rw[show(Sp.err t != 0)=true by simp [he]];rfl
def Vf (l:List El) (t:Int):El×Bool×List El:=match l with
  | []=>((0,[],[]),false,[])
  | e::r=>if e.1=t then(e,true,r)else((0,[],[]),false,e::r)
theorem fZ {e:El} {r:List El} {t:Int} (h:e.1=t):Vf (e::r) t=(e,true,r):=by
  show(if e.1=t then(e,true,r)else((0,[],[]),false,e::r))=_
  rw[if_pos h]
theorem fV {e:El} {r:List El} {t:Int} (h: ¬ e.1=t):Vf (e::r) t=((0,[],[]),false,e::r):=by
  show(if e.1=t then(e,true,r)else((0,[],[]),false,e::r))=_
  rw[if_neg h]
theorem LV (N:Nat) (l:List El) (t:Int):D5 N l t=some (Vf l t):=by
  cases l with
  | nil=>rfl
  | cons e r =>
    have h0:(((e::r).length:Int)==(0:Int))=false:=by simp;omega
    have h1:decide ((0:Int)<((e::r).length:Int))=true:=decide_eq_true (by simp only[List.length_cons];omega)
    have h2:decide ((1:Int)<=((e::r).length:Int))=true:=decide_eq_true (by simp only[List.length_cons];omega)
    unfold D5;try simp -zeta only[Ap]
    rw[h0,h1,h2]
    show(bif (e.1 != t)then some (((0,[],[]):El),false,e::r)else some (e,true,cutL (e::r) 1 (e::r).length))=some (if e.1=t then(e,true,r)else((0,[],[]),false,e::r))
    have hc:cutL (e::r) 1 (e::r).length=r:=by
      show((e::r).take (e::r).length).drop 1=r
      rw[List.take_length];rfl
    rw[hc]
    by_cases h:e.1=t
    ·rw[if_pos h,show(e.1 != t)=false by simp [h]];rfl
    ·rw[if_neg h,show(e.1 != t)=true by simp [h]];rfl
theorem Jb (N:Nat) (l:List El):DZ N l=some (if l=[]then 0 else 4,l):=by
  cases l with
  | nil=>rfl
  | cons e r =>
    unfold DZ
    rw[Jy,if_pos (by simp only[List.length_cons];omega),if_neg (by simp)]
def vZ (s:Bs) (t:Int):El×Int:=bif (TD s).2 != 0 then((0,[],[]),(TD s).2)else bif (TD s).1.1 != t then((0,[],[]),5)else((TD s).1,0)
theorem JR (N:Nat) (s:Bs) (t:Int) (hN:1048578<N) (hs:s.length<=1048576):Ep N s t=some (vZ s t):=by
  unfold Ep vZ
  try simp only[clR]
  rw[N9 N s (by omega) (by omega),CW]
  simp only[mX]
theorem u8n {n:Nat} (h:n<256):(UInt8.ofNat n).toNat=n:=by
  rw[UInt8.toNat_ofNat'];omega
theorem u8m (n:Nat):(UInt8.ofNat n).toNat=n % 256:=UInt8.toNat_ofNat'
theorem yF (t n:Nat) (s:Bs) (ht:t<256) (h31:t % 32≠31) (hn:n<=131072):Sp.head (UInt8.ofNat t::(Sp.FH n++s))=(0,1+(Sp.FH n).length,n):=by
  have h1: ¬(UInt8.ofNat t).toNat % 32=31:=by rw[u8n ht];exact h31
  unfold Sp.FH
  by_cases a1:n<128
  ·rw[if_pos a1]
   have e:=u8n (show n<256 by omega)
   unfold Sp.head
   dsimp only[List.cons_append,List.nil_append]
   rw[if_neg h1,e,if_pos a1];rfl
  ·rw[if_neg a1]
   by_cases a2:n<256
   ·rw[if_pos a2]
    have e:=u8n a2
    have hb:Sp.beNat (((UInt8.ofNat n)::s).take 1)=n:=by show 0*256+(UInt8.ofNat n).toNat=n;omega
    unfold Sp.head
    dsimp only[List.cons_append,List.nil_append]
    rw[if_neg h1,if_neg (by decide),if_neg (by decide),show(129:UInt8).toNat - 128=1 from rfl]
    rw[hb,if_neg (by simp),if_neg (by rw[show Sp.leastOf 1=128 from rfl];omega)];rfl
   ·rw[if_neg a2]
    by_cases a3:n<65536
    ·rw[if_pos a3]
     have e1:=u8m (n / 256)
     have e2:=u8m n
     have hb:Sp.beNat (((UInt8.ofNat (n / 256))::UInt8.ofNat n::s).take 2)=n:=by
       show(0*256+(UInt8.ofNat (n / 256)).toNat)*256+(UInt8.ofNat n).toNat=n;omega
     unfold Sp.head
     dsimp only[List.cons_append,List.nil_append]
     rw[if_neg h1,if_neg (by decide),if_neg (by decide),show(130:UInt8).toNat - 128=2 from rfl]
     rw[hb,if_neg (by simp),if_neg (by rw[show Sp.leastOf 2=256 from rfl];omega)];rfl
    ·rw[if_neg a3]
     have e0:=u8m (n / 65536)
     have e1:=u8m (n / 256)
     have e2:=u8m n
     have hb:Sp.beNat (((UInt8.ofNat (n / 65536))::(UInt8.ofNat (n / 256))::UInt8.ofNat n::s).take 3)=n:=by
       show((0*256+(UInt8.ofNat (n / 65536)).toNat)*256+(UInt8.ofNat (n / 256)).toNat)*256+(UInt8.ofNat n).toNat=n;omega
     unfold Sp.head
     dsimp only[List.cons_append,List.nil_append]
     rw[if_neg h1,if_neg (by decide),if_neg (by decide),show(131:UInt8).toNat - 128=3 from rfl]
     rw[hb,if_neg (by simp),if_neg (by rw[show Sp.leastOf 3=65536 from rfl];omega)];rfl
section
variable (t:Nat) (c r:Bs) (ht:t<256) (h31:t % 32≠31) (hc:c.length<=131072)
include ht h31 hc
theorem AbS:Sp.rd (Sp.elem t c++r)=(0,1+(Sp.FH c.length).length,c.length):=by
  have h:Sp.elem t c++r=UInt8.ofNat t::(Sp.FH c.length++(c++r)):=by unfold Sp.elem;simp
  unfold Sp.rd
  rw[h,yF t c.length (c++r) ht h31 hc]
  rw[if_neg]
  rintro ⟨_,h2⟩
  simp only[List.length_cons,List.length_append]at h2
  omega
theorem X9:Sp.err (Sp.elem t c++r)=0/\Ej (Sp.elem t c++r)=((t:Int),c,Sp.elem t c)/\Sp.rest (Sp.elem t c++r)=r:=by
  have h:=AbS t c r ht h31 hc
  have hl:(Sp.elem t c).length=1+(Sp.FH c.length).length+c.length:=by unfold Sp.elem;simp;omega
  have hd:(Sp.elem t c++r).drop (1+(Sp.FH c.length).length)=c++r:=by
    have h2:Sp.elem t c++r=(UInt8.ofNat t::Sp.FH c.length)++(c++r):=by unfold Sp.elem;simp
    rw[h2];exact List.drop_left' (by simp;omega)
  refine⟨by unfold Sp.err;rw[h],?_,?_⟩
  ·unfold Ej Sp.content Sp.raw
   rw[h]
   dsimp only
   rw[hd,List.take_left,<- hl,List.take_left]
   rw[show Sp.tag (Sp.elem t c++r)=t from u8n ht]
  ·unfold Sp.rest
   rw[h]
   dsimp only
   rw[<- hl,List.drop_left]
end
def Dp (t:Nat) (c:Bs):El:=((t:Int),c,Sp.elem t c)
theorem Vu (t:Nat) (c:Bs) (ht:t<256) (h31:t % 32≠31) (hc:c.length<=131072):TD (Sp.elem t c)=(Dp t c,0):=by
  obtain⟨h1,h2,h3⟩:=X9 t c [] ht h31 hc
  rw[List.append_nil]at h1 h2 h3
  unfold TD Sp.Iw
  rw[h1,h3,if_pos (show(if(0:Int)≠0 then(0:Int)else if([]:Bs)=[]then 0 else 4)=0 from rfl),h2];rfl
theorem LK (t:Nat) (c:Bs) (ht:t<256) (h31:t % 32≠31) (hc:c.length<=131072):vZ (Sp.elem t c) t=(Dp t c,0):=by
  unfold vZ
  rw[Vu t c ht h31 hc]
  show(bif ((t:Int) != (t:Int))then((0,[],[]),(5:Int))else(Dp t c,0))=_
  rw[show((t:Int) != (t:Int))=false by simp];rfl
structure Fine (p:Nat×Bs):Prop where
  lt:p.1<256
  low:p.1 % 32≠31
  len:p.2.length<=131072
end Go.Proofs.YtbnphelpndnnfaaGreatDoor.Pl
namespace Go.Proofs.YtbnphelpndnnfaaGreatDoor.Pl
open IntKind (i64)
open Go Vm
theorem Fb {t:Nat} {c:Bs} (ht:t<256) (h31:t % 32≠31) (hc:c.length<=131072):Fine (t,c):=⟨ht,h31,hc⟩
def Jw (d:Nat) (s:Bs):Prop:=Sp.within (s.length+1) d s=0
theorem Aa7 (d:Nat):Jw d []:=Sp.wZ _ _
theorem rY: ∀(f d:Nat) (l:Bs),Sp.within f (d+1) l=0->Sp.within f d l=0:=by
  intro f
  induction f with
  | zero=>intro d l _;rfl
  | succ f ih =>
    intro d l h
    unfold Sp.within at h ⊢
    by_cases h1:l=[]
    ·rw[if_pos h1]
    ·rw[if_neg h1]at h ⊢
     by_cases h2:Sp.err l≠0
     ·rw[if_pos h2]at h;exact absurd h h2
     ·rw[if_neg h2]at h ⊢
      by_cases h3:16<=d+1
      ·rw[if_pos h3]at h;cases h
      ·rw[if_neg h3]at h;rw[if_neg (by omega)]
       by_cases h4:(if Sp.cons (Sp.tag l)=true then Sp.within f (d+1+1) (Sp.content l)else 0)=0
       ·have h5:(if Sp.cons (Sp.tag l)=true then Sp.within f (d+1) (Sp.content l)else 0)=0:=by
          by_cases hc:Sp.cons (Sp.tag l)=true
          ·rw[if_pos hc]at h4 ⊢;exact ih _ _ h4
          ·rw[if_neg hc]
        rw[if_neg (by simp [h4])]at h
        rw[if_neg (by simp [h5])]
        exact ih _ _ h
       ·rw[if_pos h4]at h;exact absurd h h4
theorem gZ {d e:Nat} (h:d<=e) {s:Bs} (hs:Jw e s):Jw d s:=by
  obtain⟨k,rfl⟩: ∃ k,e=d+k:=⟨e - d,by omega⟩
  clear h
  induction k with
  | zero=>exact hs
  | succ k ih=>exact ih (rY _ _ _ hs)
theorem nN (t:Nat) (c r:Bs):Sp.elem t c++r≠ []:=by unfold Sp.elem;simp
theorem fK (t:Nat) (c:Bs):c.length<(Sp.elem t c).length:=by unfold Sp.elem;simp;omega
theorem oV {t:Nat} {c r:Bs} (h:Fine (t,c)):Sp.err (Sp.elem t c++r)=0/\Sp.tag (Sp.elem t c++r)=t/\Sp.content (Sp.elem t c++r)=c/\Sp.rest (Sp.elem t c++r)=r:=by
  obtain⟨h1,h2,h3⟩:=X9 t c r h.lt h.low h.len
  unfold Ej at h2
  injection h2 with h4 h5
  injection h5 with h5 h6
  exact⟨h1,by exact_mod_cast h4,h5,h3⟩
theorem yP {d t:Nat} {c r:Bs} (h:Fine (t,c)) (hd:d<16) (hc:Sp.cons t=true->Jw (d+1) c) (hr:Jw d r):Jw d (Sp.elem t c++r):=by
  obtain⟨h1,h2,h3,h4⟩:=oV (r:=r) h
  have hl:=fK t c
  have hlen:(Sp.elem t c++r).length=(Sp.elem t c).length+r.length:=List.length_append
  unfold Jw
  rw[Sp.YS _ d _ (nN t c r) h1 (by omega),h4]
  ·rw[JV _ (r.length+1) d r (by omega) (by omega)];exact hr
  ·rw[h2,h3]
   unfold Sp.inner
   by_cases hq:Sp.cons t=true
   ·rw[if_pos hq,JV _ (c.length+1) (d+1) c (by omega) (by omega)];exact hc hq
   ·rw[if_neg hq]
theorem NJ {t:Nat} {c:Bs} (h:Fine (t,c)) (hc:Sp.cons t=true->Jw 1 c):Sp.chk (Sp.elem t c)=0:=by
  obtain⟨h1,h2,h3,h4⟩:=oV (r:=[]) h
  rw[List.append_nil]at h1 h2 h3 h4
  have hl:=fK t c
  have ho:Sp.Iw (Sp.elem t c)=0:=by unfold Sp.Iw;rw[h1,h4,if_neg (by decide),if_pos rfl]
  unfold Sp.chk
  rw[ho,if_neg (by decide),h2,h3]
  unfold Sp.inner
  by_cases hq:Sp.cons t=true
  ·rw[if_pos hq,JV _ (c.length+1) 1 c (by omega) (by omega)];exact hc hq
  ·rw[if_neg hq]
theorem yK: ∀(f:Nat) (s:Bs) (a:List El),GV f s a=if(GV f s []).2=0 then(a++(GV f s []).1,0)else([],(GV f s []).2):=by
  intro f
  induction f with
  | zero=>intro s a;show(a,(0:Int))=if(0:Int)=0 then(a++[],0)else _;rw[if_pos rfl,List.append_nil]
  | succ f ih =>
    intro s a
    show(if s=[]then(a,(0:Int))else if Sp.err s≠0 then([],Sp.err s)else GV f (Sp.rest s) (a++[Ej s]))=if(if s=[]then(([]:List El),(0:Int))else if Sp.err s≠0 then([],Sp.err s)else GV f (Sp.rest s) ([]++[Ej s])).2=0 then(a++(if s=[]then(([]:List El),(0:Int))else if Sp.err s≠0 then([],Sp.err s)else GV f (Sp.rest s) ([]++[Ej s])).1,0)else([],(if s=[]then(([]:List El),(0:Int))else if Sp.err s≠0 then([],Sp.err s)else GV f (Sp.rest s) ([]++[Ej s])).2)
    by_cases h1:s=[]
    ·simp only[if_pos h1];rw[if_pos trivial,List.append_nil]
    ·simp only[if_neg h1]
     by_cases h2:Sp.err s=0
     ·have h2': ¬ Sp.err s≠0:=fun h=>h h2
      simp only[if_neg h2']
      rw[ih _ (a++[Ej s]),ih _ ([]++[Ej s])]
      by_cases h3:(GV f (Sp.rest s) []).2=0
      ·simp only[if_pos h3];simp
      ·simp only[if_neg h3]
     ·have h2':Sp.err s≠0:=h2
      simp only[if_pos h2',if_neg h2]
structure Par (d:Nat) (x:Bs) (es:List El):Prop where
  rd: ∀ r fs,MO r=(fs,0)->MO (x++r)=(es++fs,0)
  ns: ∀ r,Jw d r->Jw d (x++r)
theorem Aa5:MO []=([],0):=rfl
theorem Par.list {d:Nat} {x:Bs} {es:List El} (h:Par d x es):MO x=(es,0):=by
  have:=h.rd [] [] Aa5
  rwa [List.append_nil,List.append_nil]at this
theorem Par.nest {d:Nat} {x:Bs} {es:List El} (h:Par d x es):Jw d x:=by
  have:=h.ns [] (Aa7 d)
  rwa [List.append_nil]at this
theorem tN (d:Nat):Par d [] []:=⟨fun _ _ h=>h,fun _ h=>h⟩
theorem E8 {d:Nat} {x y:Bs} {es fs:List El} (h:Par d x es) (g:Par d y fs):Par d (x++y) (es++fs):=by
  refine⟨fun r gs hr=> ?_,fun r hr=> ?_⟩
  ·rw[List.append_assoc,List.append_assoc];exact h.rd _ _ (g.rd _ _ hr)
  ·rw[List.append_assoc];exact h.ns _ (g.ns _ hr)
theorem oO {d t:Nat} {c:Bs} (h:Fine (t,c)) (hd:d<16) (hc:Sp.cons t=true->Jw (d+1) c):Par d (Sp.elem t c) [Dp t c]:=by
  refine⟨fun r fs hr=> ?_,fun r hr=>yP h hd hc hr⟩
  obtain⟨h1,h2,h3⟩:=X9 t c r h.lt h.low h.len
  have hl:=fK t c
  have hlen:(Sp.elem t c++r).length=(Sp.elem t c).length+r.length:=List.length_append
  unfold MO at hr ⊢
  show(if Sp.elem t c++r=[]then(([]:List El),(0:Int))else if Sp.err (Sp.elem t c++r)≠0 then([],Sp.err (Sp.elem t c++r))else GV (Sp.elem t c++r).length (Sp.rest (Sp.elem t c++r)) ([]++[Ej (Sp.elem t c++r)]))=_
  rw[if_neg (nN t c r),h1,if_neg (by decide),h2,h3,yK,bM _ (r.length+1) r [] (by omega) (by omega),hr,if_pos rfl]
  rfl
theorem EK {d t:Nat} {c:Bs} (h:Fine (t,c)) (hd:d<16) (hc:Jw (d+1) c):Par d (Sp.elem t c) [Dp t c]:=oO h hd fun _=>hc
theorem Ih {d t:Nat} {c:Bs} (h:Fine (t,c)) (hd:d<16) (hc:Sp.cons t=false):Par d (Sp.elem t c) [Dp t c]:=oO h hd fun h=>by rw[hc]at h;cases h
theorem Oe {d:Nat} {x:Bs} {es:List El} (b:Bool) (h:b=true->Par d x es):Par d (bif b then x else []) (bif b then es else []):=by
  cases b with
  | true=>exact h rfl
  | false=>exact tN d
theorem Qj {α :Type} {d:Nat} {f: α ->Bs} {g: α ->El}: ∀ {l:List α},(∀ a∈l,Par d (f a) [g a])->Par d (l.map f).flatten (l.map g):=by
  intro l
  induction l with
  | nil=>intro _;exact tN d
  | cons a l ih =>
    intro h
    rw[List.map_cons,List.map_cons,List.flatten_cons]
    exact E8 (h a List.mem_cons_self) (ih fun b hb=>h b (List.mem_cons_of_mem _ hb))
theorem o8 {t:Nat} {c:Bs} {r:List El} {k:Int} (h:(t:Int)=k):Vf (Dp t c::r) k=(Dp t c,true,r):=fZ h
theorem vK {t:Nat} {c:Bs} {r:List El} {k:Int} (h: ¬(t:Int)=k):Vf (Dp t c::r) k=((0,[],[]),false,Dp t c::r):=fV h
theorem vM (k:Int):Vf [] k=((0,[],[]),false,[]):=rfl
theorem el1 (t:Nat) (c:Bs):(Dp t c).1=(t:Int):=rfl
theorem el2 (t:Nat) (c:Bs):(Dp t c).2.1=c:=rfl
theorem el3 (t:Nat) (c:Bs):(Dp t c).2.2=Sp.elem t c:=rfl
section
variable {X Y ρ :Type} {B:X->(X->Option ρ)->(Y->Option ρ)->Option ρ} {kx:Y->Option ρ}
theorem Ew (mk:Nat->X) (n:Nat) (fin:Option ρ) (h: ∀ i,i<n-> ∀ k,B (mk i) k kx=k (mk (i+1))) (hend: ∀ k,B (mk n) k kx=fin) (N:Nat) (hN:n<N):iterG B N (mk 0) kx=fin:=by
  refine(vH mk n (fun _=>0) (fun _=>none) fin (fun i hi k=>h i hi k) hend N hN).trans ?_
  rw[Zf];rfl
end
theorem nX {β :Type} (f:Nat->Bool) (g:Nat-> β) (d: β): ∀(l:List Nat),iT (fun i (_:Unit)=>if f i then(.inl (some (g i)):Option β ⊕ Unit)else .inr ()) (fun _=>some d) l ()=some (match l.find? f with | some i=>g i | none=>d):=by
  intro l
  induction l with
  | nil=>rfl
  | cons e r ih =>
    unfold iT
    rw[List.find?_cons]
    cases h:f e with
    | true=>rfl
    | false=>exact ih
theorem YL {X β :Type} {b:(X->Option β)->Option β} {nx:Unit->X} {I:Unit->Prop} {c:Bool} {v: β} (hI:I ()) (h: ∀ k,b k=if c then some v else k (nx ())):zL b nx I (if c then(.inl (some v):Option β ⊕ Unit)else .inr ()):=by
  cases c with
  | true=>exact h
  | false=>exact⟨h,hI⟩
end Go.Proofs.YtbnphelpndnnfaaGreatDoor.Pl
namespace Go.Proofs.YtbnphelpndnnfaaGreatDoor.Pl
open IntKind (i64)
open Go Vm
def leB (a b:Bs):Bool:=Vm.bytesLess a b||a==b
theorem yJ (a b:Bs):leB a b=decide (a<=b):=by
  unfold leB Vm.bytesLess
  rw[bytesLess_eq]
  by_cases h:a=b
  ·subst h
   rw[beq_self_eq_true,Bool.or_true]
   exact(decide_eq_true (List.le_refl a)).symm
  ·rw[beq_false_of_ne h,Bool.or_false]
   by_cases h2:a<b
   ·rw[decide_eq_true h2,decide_eq_true (List.le_of_lt h2)]
   ·rw[decide_eq_false h2,decide_eq_false]
    intro h3
    exact h (List.le_antisymm h3 (by simpa using h2))
def JC (x:Bs):List Bs->List Bs
  | []=>[x]
  | y::r=>bif leB y x then y::JC x r else x::y::r
theorem Vs (x:Bs): ∀ s:List Bs,(JC x s).Perm (x::s):=by
  intro s
  induction s with
  | nil=>exact List.Perm.refl _
  | cons y r ih =>
    show(bif leB y x then y::JC x r else x::y::r).Perm _
    cases leB y x with
    | true=>exact(List.Perm.cons y ih).trans (List.Perm.swap x y r)
    | false=>exact List.Perm.refl _
theorem Aa0 (x:Bs): ∀ s:List Bs,s.Pairwise (fun a b=>a<=b)->(JC x s).Pairwise (fun a b=>a<=b):=by
  intro s
  induction s with
  | nil=>intro _;exact List.pairwise_singleton _ _
  | cons y r ih =>
    intro h
    rw[List.pairwise_cons]at h
    show(bif leB y x then y::JC x r else x::y::r).Pairwise _
    cases hl:leB y x with
    | true =>
      rw[yJ,decide_eq_true_eq]at hl
      rw[cond_true,List.pairwise_cons]
      refine⟨fun z hz=> ?_,ih h.2⟩
      rcases List.mem_cons.1 ((Vs x r).mem_iff.1 hz)with rfl | hz
      ·exact hl
      ·exact h.1 z hz
    | false =>
      rw[yJ,decide_eq_false_iff_not]at hl
      have hxy:x<=y:=by
        rcases List.le_total x y with h | h
        ·exact h
        ·exact absurd h hl
      rw[cond_false,List.pairwise_cons,List.pairwise_cons]
      refine⟨fun z hz=> ?_,h⟩
      rcases List.mem_cons.1 hz with rfl | hz
      ·exact hxy
      ·exact List.le_trans hxy (h.1 z hz)
theorem nZ: ∀(l s:List Bs),s.Pairwise (fun a b=>a<=b)->(l.foldl (fun s x=>JC x s) s).Pairwise (fun a b=>a<=b)/\(l.foldl (fun s x=>JC x s) s).Perm (l++s):=by
  intro l
  induction l with
  | nil=>intro s h;exact⟨h,List.Perm.refl _⟩
  | cons x r ih =>
    intro s h
    obtain⟨h1,h2⟩:=ih (JC x s) (Aa0 x s h)
    refine⟨h1,h2.trans ?_⟩
    exact((Vs x s).append_left r).trans List.perm_middle
theorem Zx (l:List Bs):(l.foldl (fun s x=>JC x s) []).flatten=KO l:=by
  unfold KO
  congr 1
  obtain⟨h1,h2⟩:=nZ l [] List.Pairwise.nil
  rw[List.append_nil]at h2
  refine List.Perm.eq_of_pairwise (le:=fun a b=>a<=b) (fun a b _ _ h3 h4=>List.le_antisymm h3 h4) h1 ?_ (h2.trans (List.mergeSort_perm l _).symm)
  have:=List.pairwise_mergeSort (le:=fun x y:Bs=>decide (x<=y)) (fun a b c h3 h4=>by
    rw[decide_eq_true_eq]at *
    exact List.le_trans h3 h4) (fun a b=>by
    rw[Bool.or_eq_true,decide_eq_true_eq,decide_eq_true_eq]
    exact List.le_total a b) l
  exact this.imp (fun h=>by simpa using h)
theorem AbH (x:Bs): ∀ s:List Bs,s.take (s.findIdx fun y=> !leB y x)++x::s.drop (s.findIdx fun y=> !leB y x)=JC x s:=by
  intro s
  induction s with
  | nil=>rfl
  | cons y r ih =>
    rw[List.findIdx_cons]
    show _=bif leB y x then y::JC x r else x::y::r
    cases leB y x with
    | true=>rw[Bool.not_true,cond_false,cond_true,List.take_succ_cons,List.drop_succ_cons,List.cons_append,ih]
    | false=>rfl
theorem iM (N:Nat) (l:List Bs) (hN:1048578<N) (hl:l.length<=1048576) (hf:l.flatten.length<=1099511627776):TJ N l=some (KO l):=by
  unfold TJ
  try simp only[clR]
  refine(S9 (S:=List Bs) (R:=Unit) (mk:=fun i s=>((i:Int),s)) l [] (fun i s=>s.length=i/\s=(l.take i).foldl (fun s x=>JC x s) []) (fun x s=>.inr (JC x s)) (fun _=>none) (fun s=>some s.flatten) ?_ ?_ ?_ N [] ⟨rfl,rfl⟩ (by omega)).trans ?_
  ·intro i s hi hI k
   obtain⟨hs,_⟩:=hI
   have hp:(JC (l.getD i []) s).length=i+1:=by rw[(Vs _ s).length_eq,List.length_cons,hs]
   simp (disch:=first | assumption | omega) only[Dj]
   refine(AaL (mk:=fun j=>((j:Int),s)) (out:=fun j=>((j:Int),s)) s [] (fun y=> !leB y (l.getD i [])) ?_ ?_ N (by omega)).trans ?_
   ·intro j k hj
    simp (disch:=first | assumption | omega) only[Dj,D7]
    unfold leB
    cases (Vm.bytesLess (s.getD j []) (l.getD i [])||s.getD j []==l.getD i [])<;>rfl
   ·intro k
    simp (disch:=first | assumption | omega) only[Dj]
   ·have hc:=AbH (l.getD i []) s
    have hle:(s.findIdx fun y=> !leB y (l.getD i []))<=s.length:=List.findIdx_le_length
    generalize (s.findIdx fun y=> !leB y (l.getD i []))=m at hc hle
    have hc1:cutL s 0 m=s.take m:=rfl
    have hc2:cutL s m s.length=s.drop m:=by unfold cutL;rw[List.take_length]
    have hl1:(s.take m).length=m:=by rw[List.length_take];omega
    have hl2:(s.drop m).length=s.length - m:=List.length_drop ..
    have hl3:(s.take m++[l.getD i []]).length=m+1:=by rw[List.length_append,hl1];rfl
    simp (disch:=first | assumption | omega) only[Dj,hc1,hc2,hl1,hl2,hl3,D7]
    rw[List.append_assoc,List.singleton_append,hc]
  ·intro i s s' hi hI he
   injection he with he
   subst he
   refine⟨by rw[(Vs _ s).length_eq,List.length_cons,hI.1],?_⟩
   rw[hI.2,List.take_add_one,List.getElem?_eq_getElem hi,List.foldl_append,getD_lt l i _ hi];rfl
  ·intro s k hI
   have hp:s.flatten.length<=1099511627776:=by
     have:=(nZ l [] List.Pairwise.nil).2
     rw[List.append_nil]at this
     have h2:=hI.2
     rw[List.take_length]at h2
     rw[<- h2]at this
     have h3:=(this.map List.length).sum_nat
     rw[List.length_flatten]at hf ⊢
     omega
   have hsl:=hI.1
   simp (disch:=first | assumption | omega) only[Dj]
   refine(dW (mk:=fun i t=>(t,(i:Int),s)) s [] id some ?_ ?_ N (by omega)).trans ?_
   ·intro i t hi ht k
    rw[List.map_id]at ht
    have ht:t.length+(s.getD i []).length<=s.flatten.length:=ht
    simp (disch:=first | assumption | omega) only[Dj,D7]
    rfl
   ·intro t k
    simp (disch:=first | assumption | omega) only[Dj]
   ·rw[List.map_id]
  ·have: ∀(l s:List Bs),JW (R:=Unit) (fun x (s:List Bs)=>.inr (JC x s)) l s= .inr (l.foldl (fun s x=>JC x s) s):=by
     intro l
     induction l with
     | nil=>intro s;rfl
     | cons x r ih=>intro s;rw[MP];exact ih _
   rw[this,sQ,Zx]
