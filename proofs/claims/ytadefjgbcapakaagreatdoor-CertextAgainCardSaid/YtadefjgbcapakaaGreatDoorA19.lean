import Derived.Test.YtadefjgbcapakaaGreatDoorA15
import Derived.Test.YtadefjgbcapakaaGreatDoorA18
set_option linter.all false
namespace Go.Proofs.YtadefjgbcapakaaGreatDoor.Pl
open IntKind (i64)
open Go Vm
def E5 (l:Bs):Int×Bs×Bs:=((Sp.tag l:Int),Sp.content l,Sp.raw l)
def Iw (l:Bs):(Int×Bs×Bs)×Bs×Int:=if Sp.err l=0 then(E5 l,Sp.rest l,0)else((0,[],[]),[],Sp.err l)
theorem AlL {s:Bs} {p n:Nat} (hh:Sp.head s=(0,p,n)) (hp:p<=s.length):(if((s.length:Int) - p<n)then(some ((0,([]:Bs),([]:Bs)),([]:Bs),3):Option ((Int×Bs×Bs)×Bs×Int))else some ((((s.getD 0 0).toNat:Int),AA s p (p+n),AA s 0 (p+n)),AA s (p+n) s.length,0))=some (Iw s):=by
  have e1: ∀ a b,(AA s a b)=(s.take b).drop a:=fun a b=>rfl
  by_cases h:(s.length:Int) - p<n
  ·rw[if_pos h]
   have:Sp.rd s=(3,0,0):=by unfold Sp.rd;rw[hh,if_pos ⟨rfl,by show s.length - p<n;omega⟩]
   unfold Iw Sp.err;rw[this];rfl
  ·rw[if_neg h]
   have hr:Sp.rd s=(0,p,n):=by unfold Sp.rd;rw[hh,if_neg (by intro hc;have:=hc.2;simp at this;omega)]
   have he:Sp.err s=0:=by unfold Sp.err;rw[hr]
   unfold Iw
   rw[if_pos he]
   unfold E5 Sp.content Sp.raw Sp.rest
   rw[hr,e1,e1,e1]
   congr 1
   refine Prod.ext (Prod.ext ?_ (Prod.ext ?_ ?_)) (Prod.ext ?_ rfl)
   ·show((s.getD 0 0).toNat:Int)=((Sp.tag s:Nat):Int)
    unfold Sp.tag;cases s<;>rfl
   ·show(s.take (p+n)).drop p=(s.drop p).take n
    rw[List.drop_take];congr 1;omega
   ·show(s.take (p+n)).drop 0=_
    rw[List.drop_zero]
   ·show(s.take s.length).drop (p+n)=_
    rw[List.take_length]
theorem take_snoc {α :Type} {l:List α} {i:Nat} (h:i<l.length):l.take (i+1)=l.take i++[l[i]]:=by
  rw[List.take_add_one,List.getElem?_eq_getElem h];rfl
theorem AfZ {l:Bs} {i:Nat} (h:i<l.length):Sp.beNat (l.take (i+1))=Sp.beNat (l.take i)*256+(l[i]).toNat:=by
  rw[take_snoc h,Sp.AfY]
theorem Aex {l:Bs} (i:Nat) (hl:l.length<=3):Sp.beNat (l.take i)<16777216:=by
  have h1:=Sp.AkD (l.take i)
  have h2:256 ^ (l.take i).length<=256 ^ 3:=Nat.pow_le_pow_right (by omega) (by rw[List.length_take];omega)
  have:(256:Nat) ^ 3=16777216:=by decide
  omega
theorem Ai2 {ρ :Type} (N:Nat) (l:Bs) (hl:l.length<=3) (hN:4<N) (kx:Int->Option ρ) :
    Ap (X:=Int×Int×List Int) (Y:=Int) (U3 fun t7b t52b l45568b k2 x3 =>
     if t52b<((List.map (fun(b:UInt8)=>((b.toNat:Int))) l).length:Int)then if(0:Int)<=t52b then if t52b<(l45568b.length:Int)then if t52b.toNat<l45568b.length then
       k2 (Bi .or .i64 (i64.wrap (t7b*(256))) (i64.wrap (l45568b.getD t52b.toNat 0)),i64.wrap (t52b+(1:Int)),l45568b)else none else none else none
     else x3 t7b) N (0,0,List.map (fun(b:UInt8)=>((b.toNat:Int))) l) kx=kx (Sp.beNat l):=by
  refine IB (fun x=> ∃ i,i<=l.length/\x=((Sp.beNat (l.take i):Int),(i:Int),List.map (fun(b:UInt8)=>((b.toNat:Int))) l)) (fun x=>l.length - x.2.1.toNat) (fun _=>kx (Sp.beNat l)) ?_ N _ ⟨0,by omega,rfl⟩ (by show l.length - 0<N;omega)
  rintro x ⟨i,hi,rfl⟩ k hk
  show(if(i:Int)<_ then _ else _)=_
  rw[List.length_map]
  by_cases h:i<l.length
  ·dsimp only
   rw[if_pos (by omega),if_pos (by omega),if_pos (by omega),Int.toNat_natCast,if_pos h]
   have hb:=(l[i]).toNat_lt
   have hs:=Aex (l:=l) i hl
   rw[show(List.map (fun(b:UInt8)=>((b.toNat:Int))) l).getD i 0=((l[i].toNat:Nat):Int) by simp [List.getD_eq_getElem?_getD,h]]
   rw[w64 (x:=((Sp.beNat (l.take i):Nat):Int)*256) (by omega) (by omega),w64 (x:=((l[i].toNat:Nat):Int)) (by omega) (by omega),w64 (x:=(i:Int)+1) (by omega) (by omega)]
   rw[show((Sp.beNat (l.take i):Nat):Int)*256=((Sp.beNat (l.take i)*256:Nat):Int) by omega,or8 _ _ (by omega) hb,<- AfZ h]
   exact hk _ ⟨i+1,h,rfl⟩ (by show l.length - ((i:Int)+1).toNat<l.length - (i:Int).toNat;omega)
  ·rw[if_neg (by omega)]
   rw[List.take_of_length_le (by omega)]
theorem Alv (N:Nat) (k:Nat) (h1:1<=k) (h3:k<=3):iE N (k:Int)=some (Sp.leastOf k:Int):=by
  have:k=1\/k=2\/k=3:=by omega
  rcases this with rfl | rfl | rfl<;>rfl
set_option maxRecDepth 4000
theorem Qx (N:Nat) (s:Bs) (hN:4<N) (hs:s.length<=1099511627776):NH N s=some (Iw s):=by
  unfold NH
  cases s with
  | nil=>rfl
  | cons a r =>
    have ha:=a.toNat_lt
    have h0:((a::r:Bs)==([]:Bs))=false:=rfl
    simp only[h0,cond_false,List.getD_cons_zero,List.length_cons,Air,Aft,Afu,Aim]
    simp only[AmI,PG,beq_iff_eq,decide_eq_true_eq,Bool.or_eq_true,Bool.and_eq_true]
    rw[w64 (by omega) (by omega),Amr _ ha]
    by_cases h31:a.toNat % 32=31
    ·have:Sp.err (a::r)=5:=by simp [Sp.err,Sp.rd,Sp.head,h31]
     unfold Iw
     rw[this,if_pos (by omega),if_pos (by omega)]
     rfl
    ·rw[if_pos (by omega),if_neg (by omega)]
     cases r with
     | nil =>
       have:Sp.err [a]=3:=by simp [Sp.err,Sp.rd,Sp.head,h31]
       unfold Iw
       rw[this,if_pos (by simp)]
       rfl
     | cons b c =>
       have hb:=b.toNat_lt
       simp only[List.length_cons]at hs
       simp only[List.getD_cons_succ,List.getD_cons_zero,List.length_cons]
       rw[w64 (x:=((b.toNat:Nat):Int)) (by omega) (by omega),if_neg (by omega),if_pos (by omega)]
       by_cases h6:b.toNat=128\/131<b.toNat
       ·have:Sp.err (a::b::c)=6:=by simp [Sp.err,Sp.rd,Sp.head,h31,h6,show ¬ b.toNat<128 by omega]
        unfold Iw
        rw[this,if_pos (by omega)]
        rfl
       ·rw[if_neg (by omega),SV]
        have hend: ∀ p n:Nat,Sp.head (a::b::c)=(0,p,n)->p<=c.length+2->n<=131072->(if i64.wrap (((c.length+1+1:Nat):Int) - (p:Int))<(n:Int)then some ((0,([]:Bs),([]:Bs)),([]:Bs),3)
            else if(0:Int)<=(p:Int)then if(p:Int)<=i64.wrap ((p:Int)+(n:Int))then if i64.wrap ((p:Int)+(n:Int))<=((c.length+1+1:Nat):Int)then if(0:Int)<=i64.wrap ((p:Int)+(n:Int))then
              if i64.wrap ((p:Int)+(n:Int))<=((c.length+1+1:Nat):Int)then if(0:Int)<=i64.wrap ((p:Int)+(n:Int))then if i64.wrap ((p:Int)+(n:Int))<=((c.length+1+1:Nat):Int)then
              some ((((a.toNat:Nat):Int),AA (a::b::c) (p:Int).toNat (i64.wrap ((p:Int)+(n:Int))).toNat,AA (a::b::c) 0 (i64.wrap ((p:Int)+(n:Int))).toNat),AA (a::b::c) (i64.wrap ((p:Int)+(n:Int))).toNat (c.length+1+1),0)
              else none else none else none else none else none else none else none:Option ((Int×Bs×Bs)×Bs×Int))=some (Iw (a::b::c)):=by
          intro p n hh hp hn
          have:=AlL (s:=a::b::c) hh (by simp;omega)
          rw[w64 (x:=((c.length+1+1:Nat):Int) - (p:Int)) (by omega) (by omega),w64 (x:=(p:Int)+(n:Int)) (by omega) (by omega)]
          rw[<- this]
          show(if((c.length+1+1:Nat):Int) - (p:Int)<(n:Int)then _ else _)=(if((c.length+1+1:Nat):Int) - (p:Int)<(n:Int)then _ else _)
          by_cases hlt:((c.length+1+1:Nat):Int) - (p:Int)<(n:Int)
          ·rw[if_pos hlt,if_pos hlt]
          ·rw[if_neg hlt,if_neg hlt,if_pos (by omega),if_pos (by omega),if_pos (by omega),if_pos (by omega),if_pos (by omega),if_pos (by omega),if_pos (by omega)]
           rw[show((p:Int)+(n:Int)).toNat=p+n by omega,Int.toNat_natCast]
           rfl
        by_cases h128:b.toNat<128
        ·rw[if_neg (by omega)]
         exact hend 2 b.toNat (by simp [Sp.head,h31,h128]) (by omega) (by omega)
        ·rw[if_pos (by omega)]
         obtain⟨k,hk⟩: ∃ k:Nat,b.toNat=128+k:=⟨b.toNat - 128,by omega⟩
         rw[w64 (x:=((b.toNat:Nat):Int) - 128) (by omega) (by omega),show((b.toNat:Nat):Int) - 128=(k:Int) by omega,w64 (x:=2+(k:Int)) (by omega) (by omega)]
         by_cases hlen:c.length<k
         ·rw[if_pos (by omega)]
          have:Sp.err (a::b::c)=3:=by simp [Sp.err,Sp.rd,Sp.head,h31,h128,h6,show b.toNat - 128=k by omega,hlen]
          unfold Iw
          rw[this]
          rfl
         ·have hcut:AA (a::b::c) 2 ((2+(k:Int)).toNat)=c.take k:=by
            rw[show(2+(k:Int)).toNat=k+2 by omega];rfl
          have hlk:(c.take k).length=k:=by rw[List.length_take];omega
          rw[if_neg (by omega),if_pos (by omega),if_pos (by omega),hcut,if_pos (by omega)]
          rw[Ai2 N (c.take k) (by omega) hN,Alv N k (by omega) (by omega),Ae]
          by_cases hbad:Sp.beNat (c.take k)<Sp.leastOf k\/131072<Sp.beNat (c.take k)
          ·have:Sp.err (a::b::c)=6:=by simp [Sp.err,Sp.rd,Sp.head,h31,h128,h6,show b.toNat - 128=k by omega,hlen,hbad]
           unfold Iw
           rw[if_pos (by omega),this]
           rfl
          ·rw[if_neg (by omega)]
           have:=hend (2+k) (Sp.beNat (c.take k)) (by simp [Sp.head,h31,h128,h6,show b.toNat - 128=k by omega,hlen,hbad]) (by omega) (by omega)
           rw[show(((2+k:Nat)):Int)=2+(k:Int) by omega]at this
           exact this
def Cf (s:Bs):(Int×Bs×Bs)×Int:=if Sp.Le s=0 then(E5 s,0)else((0,[],[]),Sp.Le s)
theorem fQ {s:Bs} (h:Sp.Le s=0):Sp.err s=0/\Sp.rest s=[]:=by
  unfold Sp.Le at h
  by_cases he:Sp.err s=0
  ·rw[if_neg (by simp [he])]at h
   by_cases hr:Sp.rest s=[]
   ·exact⟨he,hr⟩
   ·rw[if_neg hr]at h;cases h
  ·rw[if_pos he]at h;exact absurd h he
theorem Pq (N:Nat) (s:Bs) (hN:4<N) (hs:s.length<=1099511627776):NZ N s=some (Cf s):=by
  unfold NZ
  rw[Qx N s hN hs,Ae]
  unfold Iw Cf Sp.Le
  by_cases he:Sp.err s=0
  ·rw[if_pos he]
   by_cases hr:Sp.rest s=[]
   ·simp [he,hr,PG]
   ·simp [he,hr,PG]
  ·rw[if_neg he]
   simp [he,PG]
theorem Aeh (s:Bs):Sp.tag s<256:=UInt8.toNat_lt _
def OA (e:Int×Bs×Bs) (d:Nat):Int:=if e.1 / 32 % 2=1 then Sp.within (e.2.1.length+1) d e.2.1 else 0
theorem YK: ∀(f g d:Nat) (l:Bs),l.length<f->l.length<g->Sp.within f d l=Sp.within g d l:=by
  intro f
  induction f with
  | zero=>intro g d l h;omega
  | succ f ih =>
    intro g d l hf hg
    cases g with
    | zero=>omega
    | succ g =>
      show(if l=[]then _ else _)=if l=[]then _ else _
      by_cases hl:l=[]
      ·rw[if_pos hl,if_pos hl]
      ·rw[if_neg hl,if_neg hl]
       by_cases he:Sp.err l=0
       ·have h1:=Sp.Lu l he
        have h2:=Sp.Ya l he
        rw[ih g (d+1) (Sp.content l) (by omega) (by omega),ih g d (Sp.rest l) (by omega) (by omega)]
       ·rw[if_pos he,if_pos he]
theorem mD {B:Bs->(Bs->Option Int)->(Unit->Option Int)->Option Int} {kx:Unit->Option Int} (d L:Nat)
    (hB: ∀ x k,x≠ []->x.length<=L->B x k kx=if Sp.err x≠0 then some (Sp.err x)else if 16<=d then some 8 else if OA (E5 x) (d+1)≠0 then some (OA (E5 x) (d+1))else k (Sp.rest x))
    (hend: ∀ k,B [] k kx=some 0) (N:Nat) (x:Bs) (hx:x.length<=L) (hN:x.length<N):Ap B N x kx=some (Sp.within (x.length+1) d x):=by
  refine IB (fun x=>x.length<=L) (fun x=>x.length) (fun x=>some (Sp.within (x.length+1) d x)) ?_ N x hx hN
  intro x hx k hk
  by_cases h0:x=[]
  ·subst h0;rw[hend];rfl
  ·rw[hB x k h0 hx]
   by_cases he:Sp.err x=0
   ·rw[if_neg (by simp [he])]
    by_cases hd:16<=d
    ·rw[if_pos hd,Sp.Afm _ _ _ h0 he hd]
    ·rw[if_neg hd]
     have h1:=Sp.Lu x he
     have h2:=Sp.Ya x he
     have hin:OA (E5 x) (d+1)=Sp.inner x.length (d+1) (Sp.tag x) (Sp.content x):=by
       unfold OA Sp.inner Sp.cons E5
       rw[YK _ x.length (d+1) (Sp.content x) (Nat.lt_succ_self _) h1]
       have:(((Sp.tag x:Nat):Int) / 32 % 2=1)↔(Sp.tag x / 32 % 2=1):=by omega
       simp [this]
     rw[hin]
     by_cases hi:Sp.inner x.length (d+1) (Sp.tag x) (Sp.content x)=0
     ·rw[if_neg (by simp [hi]),hk _ (by show(Sp.rest x).length<=L;omega) h2,Sp.Afn _ _ _ h0 he hd hi]
      rw[YK _ x.length d (Sp.rest x) (Nat.lt_succ_self _) h2]
     ·rw[if_pos hi,Sp.Aia _ _ _ h0 he hd hi]
   ·rw[if_pos he,Sp.Aib _ _ _ h0 he]
theorem Akv (N:Nat) (hN:4<N): ∀(m n:Nat),m<n-> ∀(e:Int×Bs×Bs) (d:Nat),d+m=16->0<=e.1->e.1<256->e.2.1.length<N->e.2.1.length<=1099511627776 ->
    JB N n e (d:Int)=some (OA e d):=by
  intro m
  induction m with
  | zero =>
    intro n hn e d hd h0 h1 h2 h3
    obtain⟨n,rfl⟩: ∃ k,n=k+1:=⟨n - 1,by omega⟩
    show I5 N (JB N n) e d=_
    unfold I5 OA
    obtain⟨t,ht⟩: ∃ t:Nat,e.1=(t:Int):=⟨e.1.toNat,by omega⟩
    rw[ht,Ams t (by omega)]
    by_cases hc:t / 32 % 2=1
    ·rw[if_pos hc,if_pos (by omega)]
     refine mD d e.2.1.length (fun x k hx hl=> ?_) (fun k=>rfl) N _ (Nat.le_refl _) h2
     have:(x==([]:Bs))=false:=by cases x with | nil=>exact absurd rfl hx | cons _ _=>rfl
     dsimp only
     rw[this,Qx N x hN (by omega),Ae]
     unfold Iw
     simp only[PG,bne_iff_ne,decide_eq_true_eq,Bool.not_false]
     by_cases he:Sp.err x=0
     ·rw[if_pos he]
      simp only[he,ne_eq,not_true_eq_false,if_false,if_true]
      rw[if_pos (by omega),if_pos (by omega)]
     ·rw[if_neg he]
      simp [he]
    ·rw[if_neg hc,if_neg (by omega)];rfl
  | succ m ih =>
    intro n hn e d hd h0 h1 h2 h3
    obtain⟨n,rfl⟩: ∃ k,n=k+1:=⟨n - 1,by omega⟩
    show I5 N (JB N n) e d=_
    unfold I5 OA
    obtain⟨t,ht⟩: ∃ t:Nat,e.1=(t:Int):=⟨e.1.toNat,by omega⟩
    rw[ht,Ams t (by omega)]
    by_cases hc:t / 32 % 2=1
    ·rw[if_pos hc,if_pos (by omega)]
     refine mD d e.2.1.length (fun x k hx hl=> ?_) (fun k=>rfl) N _ (Nat.le_refl _) h2
     have:(x==([]:Bs))=false:=by cases x with | nil=>exact absurd rfl hx | cons _ _=>rfl
     dsimp only
     rw[this,Qx N x hN (by omega),Ae]
     unfold Iw
     simp only[PG,bne_iff_ne,decide_eq_true_eq,Bool.not_false]
     by_cases he:Sp.err x=0
     ·rw[if_pos he]
      simp only[he,ne_eq,not_true_eq_false,if_false,if_true]
      have hcl:=Sp.Lu x he
      have htl:=Aeh x
      rw[if_neg (by omega),if_neg (by omega),w64 (by omega) (by omega),show(d:Int)+1=((d+1:Nat):Int) by omega,ih n (by omega) (E5 x) (d+1) (by omega) (by show(0:Int)<=((Sp.tag x:Nat):Int);omega) (by show((Sp.tag x:Nat):Int)<256;omega) (by show(Sp.content x).length<N;omega) (by show(Sp.content x).length<=_;omega),Ae]
     ·rw[if_neg he]
      simp [he]
    ·rw[if_neg hc,if_neg (by omega)];rfl
theorem AgN {s:Bs} (h:Sp.Le s=0):OA (E5 s) 1=Sp.chk s:=by
  unfold Sp.chk
  rw[if_neg (by simp [h])]
  unfold OA Sp.inner Sp.cons E5
  have h1:=Sp.Lu s (fQ h).1
  rw[YK _ (s.length+1) 1 (Sp.content s) (Nat.lt_succ_self _) (by omega)]
  have:(((Sp.tag s:Nat):Int) / 32 % 2=1)↔(Sp.tag s / 32 % 2=1):=by omega
  simp [this]
theorem Ael (N:Nat) (s:Bs) (hN:16<N) (hs:s.length<=1099511627776) (hl:s.length<N):Iz N s=some (Sp.chk s):=by
  unfold Iz
  rw[Pq N s (by omega) hs,Ae]
  unfold Cf
  by_cases h:Sp.Le s=0
  ·have h1:=Sp.Lu s (fQ h).1
   have h2:=Aeh s
   rw[if_pos h,<- AgN h]
   have:=Akv N (by omega) 15 N (by omega) (E5 s) 1 rfl (by show(0:Int)<=((Sp.tag s:Nat):Int);omega) (by show((Sp.tag s:Nat):Int)<256;omega) (by show(Sp.content s).length<N;omega) (by show(Sp.content s).length<=_;omega)
   show Ac (JB N N (E5 s) 1) _=_
   rw[show(1:Int)=((1:Nat):Int)from rfl,this,Ae]
  ·rw[if_neg h]
   have:Sp.chk s=Sp.Le s:=by unfold Sp.chk;rw[if_pos h]
   simp [PG,h,this]
end Go.Proofs.YtadefjgbcapakaaGreatDoor.Pl
namespace Go.Proofs.YtadefjgbcapakaaGreatDoor.Vm
open IntKind (i64)
theorem Zu (c:UInt8):c.toNat<256:=UInt8.toNat_lt c
theorem getD_lt {α :Type} (l:List α) (i:Nat) (d: α) (h:i<l.length):l.getD i d=l[i]:=by rw[List.getD_eq_getElem?_getD,List.getElem?_eq_getElem h];rfl
theorem Afr {α :Type} {p: α ->Bool} {l:List α} (h:l.all p=true) {i:Nat} (hi:i<l.length):p l[i]=true:=List.all_eq_true.1 h _ (List.getElem_mem hi)
def IG {E S ρ :Type} (step:E->S->Option ρ ⊕ S) (fin:S->Option ρ):List E->S->Option ρ
  | [],s=>fin s
  | e::r,s=>match step e s with
    | .inl x=>x
    | .inr s'=>IG step fin r s'
def gX {X S ρ :Type} (b:(X->Option ρ)->Option ρ) (nx:S->X) (I:S->Prop):Option ρ ⊕ S->Prop
  | .inl x=> ∀ k,b k=x
  | .inr s'=>(∀ k,b k=k (nx s'))/\I s'
theorem fB {X Y S E ρ :Type} {B:X->(X->Option ρ)->(Y->Option ρ)->Option ρ} {kx:Y->Option ρ} (mk:Int->S->X) (l:List E) (d:E) (I:Nat->S->Prop) (step:E->S->Option ρ ⊕ S) (fin:S->Option ρ)
    (h: ∀(i:Nat) (s:S),i<l.length->I i s->gX (fun k=>B (mk (i:Int) s) k kx) (mk ((i:Int)+1)) (I (i+1)) (step (l.getD i d) s))
    (hend: ∀(s:S) (k:X->Option ρ),I l.length s->B (mk (l.length:Int) s) k kx=fin s) (N:Nat) (s:S) (h0:I 0 s) (hN:l.length<N):Ap B N (mk 0 s) kx=IG step fin l s:=by
  have key: ∀(n i:Nat) (s:S),I i s->i<=l.length->l.length - i<n->Ap B n (mk (i:Int) s) kx=IG step fin (l.drop i) s:=by
    intro n
    induction n with
    | zero=>intro i s _ _ h;omega
    | succ n ih =>
      intro i s hI hi hn
      rw[Ie]
      by_cases hl:i<l.length
      ·have h1:=h i s hl hI
       rw[List.drop_eq_getElem_cons hl]
       show _=(match step l[i] s with | .inl x=>x | .inr s'=>IG step fin (l.drop (i+1)) s')
       rw[show l.getD i d=l[i] by simp [List.getD_eq_getElem?_getD,hl]]at h1
       cases hs:step l[i] s with
       | inl x=>rw[hs]at h1;exact h1 _
       | inr s' =>
         rw[hs]at h1
         obtain⟨h2,h3⟩:=h1
         exact(h2 _).trans (ih (i+1) _ h3 (by omega) (by omega))
      ·have:i=l.length:=by omega
       subst this
       rw[hend s _ hI,List.drop_length];rfl
  exact key N 0 s h0 (by omega) (by omega)
theorem J4 {X Y S E ρ :Type} {B:X->(X->Option ρ)->(Y->Option ρ)->Option ρ} {kx:Y->Option ρ} (mk:Int->S->X) (out:S->Y) (l:List E) (d:E) (I:Nat->S->Prop) (step:E->S->Option ρ ⊕ S)
    (h: ∀(i:Nat) (s:S),i<l.length->I i s->gX (fun k=>B (mk (i:Int) s) k kx) (mk ((i:Int)+1)) (I (i+1)) (step (l.getD i d) s))
    (hend: ∀(s:S) (k:X->Option ρ),I l.length s->B (mk (l.length:Int) s) k kx=kx (out s)) (N:Nat) (s:S) (h0:I 0 s) (hN:l.length<N):Ap B N (mk 0 s) kx=IG step (fun s=>kx (out s)) l s :=
  fB mk l d I step _ h hend N s h0 hN
def H7 {α β :Type} (f: α ->Option β):List α ->Option (List β)
  | []=>some []
  | a::r=>match f a,H7 f r with
    | some b,some t=>some (b::t)
    | _,_=>none
def SH {E β S ρ :Type} (f:E->Option β) (g:S-> β ->S) (bad:Option ρ) (e:E) (s:S):Option ρ ⊕ S:=(f e).elim (.inl bad) (fun b=>.inr (g s b))
theorem Aef {X E β S ρ :Type} {f:E->Option β} {g:S-> β ->S} {bad:Option ρ} {e:E} {s:S} {b:(X->Option ρ)->Option ρ} {nx:S->X} {I:S->Prop} (h1:f e=none-> ∀ k,b k=bad) (h2: ∀ v,f e=some v->(∀ k,b k=k (nx (g s v)))/\I (g s v)):gX b nx I (SH f g bad e s):=by
  unfold SH
  cases h:f e with
  | none=>exact h1 h
  | some v=>exact h2 v h
theorem AdZ {E β S ρ :Type} (f:E->Option β) (g:S-> β ->S) (bad:Option ρ) (fin:S->Option ρ): ∀(l:List E) (s:S),IG (SH f g bad) fin l s=(H7 f l).elim bad (fun bs=>fin (bs.foldl g s)):=by
  intro l
  induction l with
  | nil=>intro s;rfl
  | cons e r ih =>
    intro s
    have h1:SH f g bad e s=(f e).elim (.inl bad) (fun b=>.inr (g s b)):=rfl
    unfold IG H7
    rw[h1]
    cases f e with
    | none=>rfl
    | some b =>
      show IG (SH f g bad) fin r (g s b)=_
      rw[ih]
      cases H7 f r<;>rfl
theorem AaA {α β :Type} (h: α -> β): ∀(l:List α) (a:List β),l.foldl (fun a x=>a++[h x]) a=a++l.map h:=by
  intro l
  induction l with
  | nil=>intro a;simp
  | cons x r ih=>intro a;rw[List.foldl_cons,ih];simp
theorem pR {α β :Type} {f: α ->Option β}: ∀ {l:List α} {r:List β},H7 f l=some r->r.length=l.length:=by
  intro l
  induction l with
  | nil=>intro r h;injection h with h;subst h;rfl
  | cons a t ih =>
    intro r h
    unfold H7 at h
    split at h
    ·rename_i b q h1 h2
     injection h with h;subst h
     simp [ih h2]
    ·cases h
open Go
theorem Ag0 {a b:Int} {q:Decidable (a<b)} (h:a<b): @decide (a<b) q=true:= @decide_eq_true _ q h
theorem sF {a b:Int} {q:Decidable (a<b)} (h:b<=a): @decide (a<b) q=false:= @decide_eq_false _ q (by omega)
theorem sD {a b:Int} {q:Decidable (a<=b)} (h:a<=b): @decide (a<=b) q=true:= @decide_eq_true _ q h
theorem Amw {a b:Int} {q:Decidable (a<=b)} (h:b<a): @decide (a<=b) q=false:= @decide_eq_false _ q (by omega)
theorem Apl {a b:Int} {q:Decidable (a>b)} (h:b<a): @decide (a>b) q=true:= @decide_eq_true _ q h
theorem Amv {a b:Int} {q:Decidable (a>b)} (h:a<=b): @decide (a>b) q=false:= @decide_eq_false _ q (by omega)
theorem Apk {a b:Int} {q:Decidable (a>=b)} (h:b<=a): @decide (a>=b) q=true:= @decide_eq_true _ q h
theorem Apj {a b:Int} {q:Decidable (a>=b)} (h:a<b): @decide (a>=b) q=false:= @decide_eq_false _ q (by omega)
theorem Aho {a b:Nat} {q:Decidable (a<b)} (h:a<b): @decide (a<b) q=true:= @decide_eq_true _ q h
theorem Aps {a b:Nat} {q:Decidable (a<b)} (h:b<=a): @decide (a<b) q=false:= @decide_eq_false _ q (by omega)
theorem vF {a b:Nat} {q:Decidable (a<=b)} (h:a<=b): @decide (a<=b) q=true:= @decide_eq_true _ q h
theorem Ahn {a b:Nat} {q:Decidable (a<=b)} (h:b<a): @decide (a<=b) q=false:= @decide_eq_false _ q (by omega)
theorem MJ {a b:Int} (h:a=b):(a==b)=true:=by subst h;exact beq_self_eq_true _
theorem Og {a b:Int} (h:a≠b):(a==b)=false:=beq_false_of_ne h
theorem AcC {a b:Int} (h:a≠b):(a != b)=true:=by unfold bne;rw[Og h];rfl
theorem rD {a b:Int} (h:a=b):(a != b)=false:=by unfold bne;rw[MJ h];rfl
theorem toNat_add (a b:Nat):((a:Int)+(b:Int)).toNat=a+b:=by omega
theorem toNat_sub (a b:Nat):((a:Int) - (b:Int)).toNat=a - b:=by omega
theorem AhW (a:Nat):((a:Int)+1).toNat=a+1:=by omega
theorem AhX (a:Nat):((a:Int) - 1).toNat=a - 1:=by omega
theorem BU (a:Nat):((a:Int)+1)=((a+1:Nat):Int):=rfl
theorem Alq {α :Type} (a: α):(some a).isSome=true:=rfl
theorem getD_mem {α :Type} {l:List α} {i:Nat} (d: α) (h:i<l.length):l.getD i d∈l:=by rw[getD_lt l i d h];exact List.getElem_mem h
def IK {R S ρ :Type} (x:R ⊕ S) (ret:R->Option ρ) (k:S->Option ρ):Option ρ :=match x with
  | .inl r=>ret r
  | .inr s=>k s
theorem AmK {R S ρ :Type} (r:R) (ret:R->Option ρ) (k:S->Option ρ):IK (.inl r) ret k=ret r:=rfl
theorem yF {R S ρ :Type} (s:S) (ret:R->Option ρ) (k:S->Option ρ):IK (.inr s) ret k=k s:=rfl
theorem GN {R S ρ :Type} (b:Bool) (x y:R ⊕ S) (ret:R->Option ρ) (k:S->Option ρ):IK (bif b then x else y) ret k=bif b then IK x ret k else IK y ret k:=by cases b<;>rfl
theorem Aiy {R S ρ :Type} (b:Prop) [Decidable b] (x y:R ⊕ S) (ret:R->Option ρ) (k:S->Option ρ):IK (if b then x else y) ret k=if b then IK x ret k else IK y ret k:=by split<;>rfl
theorem Agq {R S ρ :Type} (x:R ⊕ S) (f:R-> ρ) (g:S-> ρ):IK x (fun r=>some (f r)) (fun s=>some (g s))=some (x.elim f g):=by cases x<;>rfl
def FC {E R S:Type} (step:E->S->R ⊕ S):List E->S->R ⊕ S
  | [],s=>.inr s
  | e::r,s=>match step e s with
    | .inl x=>.inl x
    | .inr s'=>FC step r s'
theorem Aj4 {E R S:Type} (step:E->S->R ⊕ S) (s:S):FC step [] s= .inr s:=rfl
theorem Fh {E R S:Type} (step:E->S->R ⊕ S) (e:E) (l:List E) (s:S):FC step (e::l) s=(step e s).elim Sum.inl (fun s'=>FC step l s'):=by
  simp only[FC]
  cases step e s<;>rfl
theorem NW {X Y S E R ρ :Type} {B:X->(X->Option ρ)->(Y->Option ρ)->Option ρ} {kx:Y->Option ρ} (mk:Nat->S->X) (l:List E) (d:E) (I:Nat->S->Prop) (step:E->S->R ⊕ S) (ret:R->Option ρ) (fin:S->Option ρ)
    (h: ∀(i:Nat) (s:S),i<l.length->I i s-> ∀ k,B (mk i s) k kx=IK (step (l.getD i d) s) ret fun s'=>k (mk (i+1) s'))
    (hI: ∀(i:Nat) (s s':S),i<l.length->I i s->step (l.getD i d) s= .inr s'->I (i+1) s')
    (hend: ∀(s:S) (k:X->Option ρ),I l.length s->B (mk l.length s) k kx=fin s) (N:Nat) (s:S) (h0:I 0 s) (hN:l.length<N):Ap B N (mk 0 s) kx=IK (FC step l s) ret fin:=by
  have key: ∀(n i:Nat) (s:S),I i s->i<=l.length->l.length - i<n->Ap B n (mk i s) kx=IK (FC step (l.drop i) s) ret fin:=by
    intro n
    induction n with
    | zero=>intro i s _ _ h;omega
    | succ n ih =>
      intro i s hi hil hn
      rw[Ie]
      by_cases hl:i<l.length
      ·rw[h i s hl hi,List.drop_eq_getElem_cons hl]
       have hs:=hI i s
       rw[show l.getD i d=l[i]from getD_lt l i d hl]at *
       rw[Fh]
       cases hst:step l[i] s with
       | inl x=>rfl
       | inr s'=>exact ih (i+1) _ (hs _ hl hi hst) (by omega) (by omega)
      ·have:i=l.length:=by omega
       subst this
       rw[hend s _ hi,List.drop_length];rfl
  exact key N 0 s h0 (by omega) (by omega)
theorem NV {X Y S E R ρ :Type} {B:X->(X->Option ρ)->(Y->Option ρ)->Option ρ} {kx:Y->Option ρ} (mk:Nat->S->X) (l:List E) (d:E) (step:E->S->R ⊕ S) (ret:R->Option ρ) (fin:S->Option ρ)
    (h: ∀(i:Nat) (s:S),i<l.length-> ∀ k,B (mk i s) k kx=IK (step (l.getD i d) s) ret fun s'=>k (mk (i+1) s'))
    (hend: ∀(s:S) (k:X->Option ρ),B (mk l.length s) k kx=fin s) (N:Nat) (s:S) (hN:l.length<N):Ap B N (mk 0 s) kx=IK (FC step l s) ret fin :=
  NW mk l d (fun _ _=>True) step ret fin (fun i s hi _=>h i s hi) (fun _ _ _ _ _ _=>trivial) (fun s k _=>hend s k) N s trivial hN
theorem AlZ {X Y S E R ρ :Type} {B:X->(X->Option ρ)->(Y->Option ρ)->Option ρ} {kx:Y->Option ρ} (mk:List E->S->X) (I:List E->S->Prop) (step:E->S->R ⊕ S) (ret:R->Option ρ) (fin:S->Option ρ)
    (h: ∀(e:E) (r:List E) (s:S),I (e::r) s-> ∀ k,B (mk (e::r) s) k kx=IK (step e s) ret fun s'=>k (mk r s'))
    (hI: ∀(e:E) (r:List E) (s s':S),I (e::r) s->step e s= .inr s'->I r s')
    (hend: ∀(s:S) (k:X->Option ρ),I [] s->B (mk [] s) k kx=fin s): ∀(N:Nat) (l:List E) (s:S),I l s->l.length<N->Ap B N (mk l s) kx=IK (FC step l s) ret fin:=by
  intro N
  induction N with
  | zero=>intro l s _ h;omega
  | succ N ih =>
    intro l s hi hn
    rw[Ie]
    cases l with
    | nil=>rw[hend s _ hi];rfl
    | cons e r =>
      rw[h e r s hi,Fh]
      cases hst:step e s with
      | inl x=>rfl
      | inr s'=>exact ih r s' (hI e r s s' hi hst) (by simp at hn;omega)
theorem Aj2 {E R:Type} (p:E->Bool) (r:R): ∀ l:List E,FC (fun e (_:Unit)=>bif p e then .inr ()else .inl r) l ()=bif l.all p then .inr ()else .inl r:=by
  intro l
  induction l with
  | nil=>rfl
  | cons e t ih =>
    rw[Fh,List.all_cons]
    cases p e with
    | true=>exact ih
    | false=>rfl
theorem Aj3 {E R:Type} (p:E->Bool) (r:R): ∀ l:List E,FC (fun e (_:Unit)=>bif p e then .inl r else .inr ()) l ()=bif l.any p then .inl r else .inr ():=by
  intro l
  induction l with
  | nil=>rfl
  | cons e t ih =>
    rw[Fh,List.any_cons]
    cases p e with
    | true=>rfl
    | false=>exact ih
theorem AeD {E:Type} (f:E->Int): ∀ l:List E,FC (fun e (_:Unit)=>bif f e != 0 then .inl (f e)else .inr ()) l ()=bif AU f l != 0 then .inl (AU f l)else .inr ():=by
  intro l
  induction l with
  | nil=>rfl
  | cons e t ih =>
    rw[Fh]
    unfold AU
    by_cases h:f e=0
    ·rw[h,show((0:Int) != 0)=false from rfl]
     exact ih
    ·rw[if_pos h,show(f e != 0)=true from bne_iff_ne.2 h];rfl
theorem Zd {n i:Nat} (h:i<n):(List.range n).getD i 0=i:=by
  rw[getD_lt _ _ _ (by rw[List.length_range];exact h),List.getElem_range]
section
variable {X Y E ρ :Type} {B:X->(X->Option ρ)->(Y->Option ρ)->Option ρ} {kx:Y->Option ρ}
theorem QC (mk:Nat->X) (l:List E) (d:E) (f:E->Int) (ret:Int->Option ρ) (fin:Option ρ)
    (h: ∀ i,i<l.length-> ∀ k,B (mk i) k kx=bif f (l.getD i d) != 0 then ret (f (l.getD i d))else k (mk (i+1)))
    (hend: ∀ k,B (mk l.length) k kx=fin) (N:Nat) (hN:l.length<N):Ap B N (mk 0) kx=bif AU f l != 0 then ret (AU f l)else fin:=by
  refine Eq.trans (NV (S:=Unit) (R:=Int) (mk:=fun i _=>mk i) l d (fun e _=>bif f e != 0 then .inl (f e)else .inr ()) ret (fun _=>fin) ?_ (fun _ k=>hend k) N () hN) ?_
  ·intro i _ hi k
   rw[h i hi,GN];rfl
  ·rw[AeD,GN];rfl
theorem YD (mk:Nat->X) (n:Nat) (f:Nat->Int) (ret:Int->Option ρ) (fin:Option ρ)
    (h: ∀ i,i<n-> ∀ k,B (mk i) k kx=bif f i != 0 then ret (f i)else k (mk (i+1)))
    (hend: ∀ k,B (mk n) k kx=fin) (N:Nat) (hN:n<N):Ap B N (mk 0) kx=bif AU f (List.range n) != 0 then ret (AU f (List.range n))else fin:=by
  refine QC mk (List.range n) 0 f ret fin ?_ ?_ N (by rw[List.length_range];exact hN)
  ·intro i hi k
   rw[List.length_range]at hi
   rw[Zd hi];exact h i hi k
  ·intro k;rw[List.length_range];exact hend k
theorem SN (mk:Nat->X) (l:List E) (d:E) (p:E->Bool) (x fin:Option ρ)
    (h: ∀ i,i<l.length-> ∀ k,B (mk i) k kx=bif p (l.getD i d)then x else k (mk (i+1)))
    (hend: ∀ k,B (mk l.length) k kx=fin) (N:Nat) (hN:l.length<N):Ap B N (mk 0) kx=bif l.any p then x else fin:=by
  refine Eq.trans (NV (S:=Unit) (R:=Unit) (mk:=fun i _=>mk i) l d (fun e _=>bif p e then .inl ()else .inr ()) (fun _=>x) (fun _=>fin) ?_ (fun _ k=>hend k) N () hN) ?_
  ·intro i _ hi k
   rw[h i hi,GN];rfl
  ·rw[Aj3,GN];rfl
end
theorem first_some (e:Int):(bif e != 0 then some e else some 0)=some e:=by
  by_cases h:e=0
  ·subst h;rfl
  ·rw[show(e != 0)=true from bne_iff_ne.2 h];rfl
theorem Bh {α :Type} (b:Bool) (x y: α):(bif b then some x else some y)=some (bif b then x else y):=by cases b<;>rfl
theorem Abr {E:Type} (f:E->Int): ∀ a b:List E,AU f (a++b)=bif AU f a != 0 then AU f a else AU f b:=by
  intro a
  induction a with
  | nil=>intro b;rfl
  | cons x r ih =>
    intro b
    show(if f x≠0 then f x else AU f (r++b))=bif (if f x≠0 then f x else AU f r) != 0 then(if f x≠0 then f x else AU f r)else AU f b
    by_cases h:f x=0
    ·rw[if_neg (fun hn=>hn h),if_neg (fun hn=>hn h)];exact ih b
    ·rw[if_pos h,if_pos h,show(f x != 0)=true from bne_iff_ne.2 h];rfl
theorem JU {E:Type} (f:E->Int) (x:E) (r:List E):AU f (x::r)=bif f x != 0 then f x else AU f r:=by
  show(if f x≠0 then f x else AU f r)=_
  by_cases h:f x=0
  ·rw[if_neg (fun hn=>hn h),h];rfl
  ·rw[if_pos h,show(f x != 0)=true from bne_iff_ne.2 h];rfl
theorem dE {α :Type} (l:List α) (i:Nat):AA l 0 i=l.take i:=rfl
section
variable {X Y E A ρ :Type} {B:X->(X->Option ρ)->(Y->Option ρ)->Option ρ} {kx:Y->Option ρ}
theorem uQ (er:E->Int) (g:E->A): ∀(l:List E) (acc:List A),FC (fun e (acc:List A)=>bif er e != 0 then Sum.inl (er e)else Sum.inr (acc++[g e])) l acc=bif AU er l != 0 then .inl (AU er l)else .inr (acc++l.map g):=by
  intro l
  induction l with
  | nil=>intro acc;rw[List.map_nil,List.append_nil];rfl
  | cons e r ih =>
    intro acc
    rw[Fh,JU]
    cases h:er e != 0 with
    | true=>rw[cond_true,cond_true,h];rfl
    | false =>
      rw[cond_false,cond_false]
      show FC _ r (acc++[g e])=_
      rw[ih,List.append_assoc];rfl
theorem YF (mk:Nat->List A->X) (l:List E) (d:E) (er:E->Int) (g:E->A) (ret:Int->Option ρ) (fin:List A->Option ρ)
    (h: ∀(i:Nat) (acc:List A),i<l.length->acc.length=i-> ∀ k,B (mk i acc) k kx=bif er (l.getD i d) != 0 then ret (er (l.getD i d))else k (mk (i+1) (acc++[g (l.getD i d)])))
    (hend: ∀(acc:List A) (k:X->Option ρ),acc.length=l.length->B (mk l.length acc) k kx=fin acc) (N:Nat) (hN:l.length<N):Ap B N (mk 0 []) kx=bif AU er l != 0 then ret (AU er l)else fin (l.map g):=by
  refine(NW (S:=List A) (R:=Int) mk l d (fun i acc=>acc.length=i) (fun e acc=>bif er e != 0 then .inl (er e)else .inr (acc++[g e])) ret fin ?_ ?_ (fun acc k ha=>hend acc k ha) N [] rfl hN).trans ?_
  ·intro i acc hi ha k
   rw[h i acc hi ha,GN];rfl
  ·intro i acc acc' hi ha he
   cases hb:er (l.getD i d) != 0 with
   | true=>rw[hb]at he;cases he
   | false =>
     rw[hb]at he;injection he with he;subst he
     rw[List.length_append,ha];rfl
  ·rw[uQ,GN,List.nil_append];rfl
theorem Alb: ∀ l:List E,AU (fun _=>(0:Int)) l=0:=by
  intro l
  induction l with
  | nil=>rfl
  | cons e r ih=>rw[JU];exact ih
theorem Lc (mk:Nat->List A->X) (l:List E) (d:E) (g:E->A) (fin:List A->Option ρ)
    (h: ∀(i:Nat) (acc:List A),i<l.length->acc.length=i-> ∀ k,B (mk i acc) k kx=k (mk (i+1) (acc++[g (l.getD i d)])))
    (hend: ∀(acc:List A) (k:X->Option ρ),acc.length=l.length->B (mk l.length acc) k kx=fin acc) (N:Nat) (hN:l.length<N):Ap B N (mk 0 []) kx=fin (l.map g):=by
  refine(YF mk l d (fun _=>0) g (fun _=>none) fin (fun i acc hi ha k=>h i acc hi ha k) hend N hN).trans ?_
  rw[Alb];rfl
theorem Aa9 (g:E->Bs) (l:List E) (d:E) {i:Nat} (h:i<l.length):((l.take i).map g).flatten++g (l.getD i d)=((l.take (i+1)).map g).flatten:=by
  rw[getD_lt l i d h,List.take_add_one,List.getElem?_eq_getElem h,List.map_append,List.flatten_append]
  simp
theorem AmU (g:E->Bs) (l:List E) (i:Nat):((l.take i).map g).flatten.length<=(l.map g).flatten.length:=by
  conv=>rhs;rw[<- List.take_append_drop i l,List.map_append,List.flatten_append,List.length_append]
  omega
theorem AkM (mk:Nat->Bs->X) (l:List E) (d:E) (er:E->Int) (g:E->Bs) (ret:Int->Option ρ) (fin:Bs->Option ρ)
    (h: ∀(i:Nat) (t:Bs),i<l.length->t.length+(g (l.getD i d)).length<=(l.map g).flatten.length-> ∀ k,B (mk i t) k kx=bif er (l.getD i d) != 0 then ret (er (l.getD i d))else k (mk (i+1) (t++g (l.getD i d))))
    (hend: ∀(t:Bs) (k:X->Option ρ),B (mk l.length t) k kx=fin t) (N:Nat) (hN:l.length<N):Ap B N (mk 0 []) kx=bif AU er l != 0 then ret (AU er l)else fin (l.map g).flatten:=by
  refine(NW (S:=Bs) (R:=Int) mk l d (fun i t=>t=((l.take i).map g).flatten) (fun e t=>bif er e != 0 then .inl (er e)else .inr (t++g e)) ret fin ?_ ?_ (fun t k _=>hend t k) N [] rfl hN).trans ?_
  ·intro i t hi ht k
   rw[h i t hi ?_,GN]
   ·rfl
   ·rw[ht,<- List.length_append,Aa9 g l d hi]
    exact AmU g l (i+1)
  ·intro i t t' hi ht he
   cases hb:er (l.getD i d) != 0 with
   | true=>rw[hb]at he;cases he
   | false =>
     rw[hb]at he;injection he with he
     rw[<- he,ht,Aa9 g l d hi]
  ·have: ∀(l:List E) (t:Bs),FC (fun e (t:Bs)=>bif er e != 0 then Sum.inl (er e)else Sum.inr (t++g e)) l t=bif AU er l != 0 then .inl (AU er l)else .inr (t++(l.map g).flatten):=by
     intro l
     induction l with
     | nil=>intro t;simp [Aj4,AU]
     | cons e r ih =>
       intro t
       rw[Fh,JU]
       cases h:er e != 0 with
       | true=>rw[cond_true,cond_true,h];rfl
       | false=>rw[cond_false,cond_false,List.map_cons,List.flatten_cons,<- List.append_assoc,<- ih];rfl
   rw[this,GN,List.nil_append];rfl
theorem NU {f:E->Int}: ∀ {l:List E},AU f l=0-> ∀ e∈l,f e=0:=by
  intro l
  induction l with
  | nil=>intro _ e he;cases he
  | cons x r ih =>
    intro h e he
    rw[JU]at h
    cases hx:f x != 0 with
    | true=>rw[hx]at h;rw[show f x=0 from h]at hx;cases hx
    | false =>
      rw[hx]at h
      rcases List.mem_cons.1 he with rfl | he
      ·simpa using hx
      ·exact ih h e he
theorem Dy {g:E->Bs} {M:Nat}: ∀ {l:List E},(∀ e∈l,(g e).length<=M)->(l.map g).flatten.length<=M*l.length:=by
  intro l
  induction l with
  | nil=>intro _;simp
  | cons e r ih =>
    intro h
    have h1:=h e List.mem_cons_self
    have h2:=ih fun e he=>h e (List.mem_cons_of_mem _ he)
    rw[List.map_cons,List.flatten_cons,List.length_append,List.length_cons,Nat.mul_succ]
    omega
end
theorem Ap2 (x y:Bool):(!x|| !y&&x||y)=true:=by cases x<;>cases y<;>rfl
theorem Acy (x y:Bool):(x|| !y&& !x||y)=true:=by cases x<;>cases y<;>rfl
theorem BR {α :Type} {c:Bool} {a x y: α} (h:c=false->x=y):(bif c then a else x)=bif c then a else y:=by
  cases c with
  | true=>rfl
  | false=>exact h rfl
set_option linter.defProp false in
def A7:=And.intro @zQ (And.intro @SV (And.intro @AP (And.intro @Ae (And.intro @cond_true.{1} (And.intro @cond_false.{1} (And.intro @Ag0 (And.intro @sF (And.intro @sD (And.intro @Amw (And.intro @Apl (And.intro @Amv (And.intro @Apk (And.intro @Apj (And.intro @Aho (And.intro @Aps (And.intro @vF (And.intro @Ahn (And.intro @MJ (And.intro @Og (And.intro @AcC (And.intro @rD (And.intro @w64 (And.intro @Int.toNat_natCast (And.intro @toNat_add (And.intro @toNat_sub (And.intro @AhW (And.intro @AhX (And.intro @Bool.true_or (And.intro @Bool.or_true (And.intro @Bool.false_or (And.intro @Bool.or_false (And.intro @Bool.true_and (And.intro @Bool.and_true (And.intro @Bool.false_and (And.intro @Bool.and_false (And.intro @Bool.not_true (And.intro @Bool.not_false (And.intro @Bool.not_not (And.intro @Bool.or_not_self (And.intro @Bool.not_or_self (And.intro @Bool.cond_self.{1} (And.intro @Bool.cond_true_left (And.intro @Bool.cond_false_left (And.intro @Bool.cond_true_right (And.intro @Bool.cond_false_right (And.intro @Bool.or_self (And.intro @Bool.and_self (And.intro @AmK (And.intro @yF (And.intro @GN (And.intro @Aiy (And.intro @U2.eq_1 (And.intro @U3.eq_1 (And.intro @U4.eq_1 (And.intro @U5.eq_1 (And.intro @U6.eq_1 (And.intro @U7.eq_1 (And.intro @U8.eq_1 (And.intro @U9.eq_1 (@U10.eq_1))))))))))))))))))))))))))))))))))))))))))))))))))))))))))))
end Go.Proofs.YtadefjgbcapakaaGreatDoor.Vm
namespace Go.Proofs.YtadefjgbcapakaaGreatDoor.Pl
open IntKind (i64)
open Go Vm
theorem Ag5 (s:Bs):(s==([]:Bs))=decide (s=[]):=by cases s<;>rfl
theorem AjR {α :Type} {s:List α} (h:s≠ []):0<s.length:=by cases s with | nil=>exact absurd rfl h | cons _ _=>simp
def JD (t:Nat) (c:Bs):Option Bs:=if c.length<=131072 then some (Sp.elem t c)else none
theorem AaD: ∀(l:List Bs),([]:Bs).intercalate l=l.flatten
  | []=>rfl
  | [a]=>by simp [List.intercalate]
  | a::b::r=>by
    have:=AaD (b::r)
    simp only[List.intercalate,List.intersperse,List.flatten_cons]at this ⊢
    simp [this]
theorem Vf (n:Nat):Vm.byteOf (IntKind.u8.wrap (n:Int))=UInt8.ofNat n:=by
  rw[w8]
  unfold Vm.byteOf
  rw[show((n:Int) % 256).toNat=n % 256 by omega]
  apply UInt8.toNat.inj
  simp
theorem AcR (n k:Nat):(n:Int).fdiv (k:Int)=((n / k:Nat):Int):=by
  rw[Int.fdiv_eq_ediv_of_nonneg _ (by omega)];rfl
theorem head_eq {ρ :Type} (t n:Nat) (ht:t<256) (K:List Int->Option ρ) (K':Bs->Option ρ) (hK: ∀ l,List.all l isByte=true->l.length<=5->K l=K' (List.map Vm.byteOf l)) :
    (bif decide ((n:Int)<(128:Int))then K ([IntKind.u8.wrap (t:Int),IntKind.u8.wrap (n:Int)]:List Int)
      else bif decide ((n:Int)<(256:Int))then K ([IntKind.u8.wrap (t:Int),129,IntKind.u8.wrap (n:Int)]:List Int)
      else bif decide ((n:Int)<(65536:Int))then K ([IntKind.u8.wrap (t:Int),130,IntKind.u8.wrap ((n:Int).fdiv (256)),IntKind.u8.wrap (n:Int)]:List Int)
      else K ([IntKind.u8.wrap (t:Int),131,IntKind.u8.wrap ((n:Int).fdiv (65536)),IntKind.u8.wrap ((n:Int).fdiv (256)),IntKind.u8.wrap (n:Int)]:List Int))=K' (UInt8.ofNat t::Sp.FV n):=by
  have f1:=AcR n 256
  have f2:=AcR n 65536
  have g1: ∀ k:Nat,isByte (k:Int)=decide (k<256):=fun k=>by unfold isByte;simp;omega
  rw[show((256:Nat):Int)=256 from rfl]at f1
  rw[show((65536:Nat):Int)=65536 from rfl]at f2
  rw[f1,f2]
  unfold Sp.FV
  simp only[WU]
  by_cases h1:n<128
  ·rw[if_pos (by omega),if_pos h1,hK _ (by simp [Vs]) (by simp)]
   simp only[List.map_cons,List.map_nil,Vf]
  ·rw[if_neg (by omega),if_neg h1]
   by_cases h2:n<256
   ·rw[if_pos (by omega),if_pos h2,hK _ (by simp [Vs];decide) (by simp)]
    simp only[List.map_cons,List.map_nil,Vf];rfl
   ·rw[if_neg (by omega),if_neg h2]
    by_cases h3:n<65536
    ·rw[if_pos (by omega),if_pos h3,hK _ (by simp [Vs];decide) (by simp)]
     simp only[List.map_cons,List.map_nil,Vf];rfl
    ·rw[if_neg (by omega),if_neg h3,hK _ (by simp [Vs];decide) (by simp)]
     simp only[List.map_cons,List.map_nil,Vf];rfl
theorem Amc {ρ :Type} (bad:Option ρ) (fin:Nat->Option ρ): ∀(l:List Bs) (s: {n:Nat // n<=131072}),
    iQ (fun(e:Bs) (s: {n:Nat // n<=131072}) (k: {n:Nat // n<=131072}->Option ρ)=>if h:s.1+e.length<=131072 then k ⟨s.1+e.length,h⟩else bad) (fun s=>fin s.1) l s=if s.1+l.flatten.length<=131072 then fin (s.1+l.flatten.length)else bad:=by
  intro l
  induction l with
  | nil=>intro s;have:=s.2;simp [iQ,this]
  | cons e r ih =>
    intro s
    show(if h:s.1+e.length<=131072 then _ else bad)=_
    rw[List.flatten_cons,List.length_append]
    by_cases h:s.1+e.length<=131072
    ·rw[dif_pos h,ih]
     dsimp only
     rw[Nat.add_assoc]
    ·rw[dif_neg h,if_neg (by omega)]
theorem AlX {ρ :Type} (N:Nat) (l:List Bs) (hN:l.length<N) (hl:l.length<=1099511627776) (bad:Option ρ) (kx:Int->Option ρ) :
    Ap (X:=Int×Int) (Y:=Int) (U2 fun t6a t23a k1 x2 =>
     bif decide (t23a<(l.length:Int))then(Vm.chk (decide ((0:Int)<=t23a)) <|
     Vm.chk (decide (t23a<(l.length:Int))) <|
     let x31:Bool:=decide (((l.getD t23a.toNat ([]:Bs)).length:Int)>(i64.wrap ((131072:Int) - t6a)))
     bif x31 then bad
     else(k1 (i64.wrap (t6a+((l.getD t23a.toNat ([]:Bs)).length:Int)),i64.wrap (t23a+(1:Int)))))
     else(x2 t6a)) N (0,0) kx=if l.flatten.length<=131072 then kx (l.flatten.length:Int)else bad:=by
  refine Eq.trans (AgS (S:= {n:Nat // n<=131072}) (fun i s=>((s.1:Int),i)) l ([]:Bs) (fun e s k=>if h:s.1+e.length<=131072 then k ⟨s.1+e.length,h⟩else bad) (fun s=>(fun n:Nat=>kx (n:Int)) s.1) ?_ ?_ N ⟨0,by omega⟩ hN) ?_
  ·intro i s k hi
   have hs:=s.2
   show(bif decide ((i:Int)<(l.length:Int))then _ else _)=_
   simp only[WU,dC,Int.toNat_natCast]
   rw[if_pos (by omega),if_pos (by omega),if_pos (by omega),w64 (x:=131072 - ((s.1:Nat):Int)) (by omega) (by omega)]
   by_cases h:s.1+(l.getD i []).length<=131072
   ·rw[if_neg (by omega),dif_pos h,w64 (by omega) (by omega),w64 (by omega) (by omega)]
    rfl
   ·rw[if_pos (by omega),dif_neg h]
  ·intro s k
   show(bif decide ((l.length:Int)<(l.length:Int))then _ else _)=_
   simp only[WU]
   rw[if_neg (by omega)]
  ·refine(Amc bad (fun n:Nat=>kx (n:Int)) l ⟨0,by omega⟩).trans ?_
   dsimp only
   rw[Nat.zero_add]
theorem WO (N t:Nat) (l:List Bs) (ht:t<256) (h31:t % 32≠31) (hN:l.length<N) (hl:l.length<=1099511627776):Cb N (t:Int) l=some ((JD t l.flatten).getD [],if(JD t l.flatten).isNone then 6 else 0):=by
  unfold Cb
  simp only[Air,Aft,Afu,AmH,AkN,Aim,Amr t ht]
  rw[show(decide ((t:Int)<0)||decide ((t:Int)>255)||((t % 32:Nat):Int)==31)=false by simp;omega,cond_false]
  refine Eq.trans (AlX N l hN hl _ _) ?_
  unfold JD
  by_cases h:l.flatten.length<=131072
  ·rw[if_pos h,if_pos h,SV]
   refine Eq.trans (head_eq t l.flatten.length ht (fun l1:List Int=>Vm.chk (List.all l1 isByte)<|Ac (strings_Join N l ([]:Bs)) fun r81=>Vm.chk (decide ((List.map Vm.byteOf l1).length+r81.length<=140737488355328))<|some ((List.map Vm.byteOf l1)++r81,(0:Int))) (fun h=>some (h++l.flatten,0)) (fun l' hl' hl5=> ?_)) rfl
   rw[hl',AP]
   unfold strings_Join
   rw[AaD,decide_eq_true (show l.length<=140737488355328 by omega),decide_eq_true (show l.flatten.length<=140737488355328 by omega)]
   show Vm.chk (decide ((List.map Vm.byteOf l').length+l.flatten.length<=140737488355328)) _=_
   rw[dC,if_pos (by rw[List.length_map];omega)]
   rfl
  ·rw[if_neg h,if_neg h];rfl
theorem JR (N:Nat) (b:Bool) (s:Bs) (e:Int):BK N b s e=some (s,b||decide (e≠0)):=by
  unfold BK
  cases b<;>simp [Vm.chk,bne,BEq.beq,decide_not]
theorem Afp (N t:Nat) (b:Bool) (l:List Bs) (ht:t<256) (h31:t % 32≠31) (hN:l.length<N) (hl:l.length<=1099511627776):Aj N b (t:Int) l=some ((JD t l.flatten).getD [],b||(JD t l.flatten).isNone):=by
  unfold Aj
  rw[WO N t l ht h31 hN hl,Ae,JR,Ae]
  cases JD t l.flatten<;>simp
theorem AnJ (N:Nat) (b:Bool) (l:List Bs) (hN:l.length<N) (hl:l.length<=1099511627776):AZ N b l=some ((JD 48 l.flatten).getD [],b||(JD 48 l.flatten).isNone):=by
  unfold AZ
  rw[show(48:Int)=((48:Nat):Int)from rfl,Afp N 48 b l (by omega) (by omega) hN hl,Ae]
abbrev El:=Int×Bs×Bs
def Nh:Nat->Bs->List El->List El×Int
  | 0,_,a=>(a,0)
  | f+1,s,a=>if s=[]then(a,0)else if Sp.err s≠0 then([],Sp.err s)else Nh f (Sp.rest s) (a++[E5 s])
def AV (s:Bs):List El×Int:=Nh (s.length+1) s []
theorem AgY: ∀(f g:Nat) (s:Bs) (a:List El),s.length<f->s.length<g->Nh f s a=Nh g s a:=by
  intro f
  induction f with
  | zero=>intro g s a h;omega
  | succ f ih =>
    intro g s a hf hg
    cases g with
    | zero=>omega
    | succ g =>
      show(if s=[]then(a,(0:Int))else if Sp.err s≠0 then([],Sp.err s)else Nh f (Sp.rest s) (a++[E5 s]))=(if s=[]then(a,0)else if Sp.err s≠0 then([],Sp.err s)else Nh g (Sp.rest s) (a++[E5 s]))
      by_cases h:s=[]
      ·rw[if_pos h,if_pos h]
      ·rw[if_neg h,if_neg h]
       by_cases he:Sp.err s=0
       ·have:=Sp.Ya s he
        rw[if_neg (by simp [he]),if_neg (by simp [he])]
        exact ih g _ _ (by omega) (by omega)
       ·rw[if_pos he,if_pos he]
def Qm (M:Nat) (e:El):Prop:= ∃ t:Bs,Sp.err t=0/\e=E5 t/\t.length<=M
structure Good (M:Nat) (l:List El):Prop where
  len:l.length<=M
  all: ∀ e∈l,Qm M e
  Ao0:(l.map (·.2.2)).flatten.length<=M
theorem Qm.mono {M K:Nat} {e:El} (h:Qm M e) (hk:M<=K):Qm K e:=by
  obtain⟨t,h1,h2,h3⟩:=h;exact⟨t,h1,h2,by omega⟩
theorem Qm.content {M:Nat} {e:El} (h:Qm M e):e.2.1.length+2<=e.2.2.length/\e.2.2.length<=M/\0<=e.1/\e.1<256:=by
  obtain⟨t,h1,rfl,h3⟩:=h
  have:=Sp.jB t h1
  have hr:=Sp.wH t h1
  have hc:=Sp.yG t h1
  have ht:=Aeh t
  show(Sp.content t).length+2<=(Sp.raw t).length/\(Sp.raw t).length<=M/\0<=((Sp.tag t:Nat):Int)/\((Sp.tag t:Nat):Int)<256
  omega
theorem AlK {s:Bs}:Sp.raw s++Sp.rest s=s:=List.take_append_drop _ _
theorem AgZ (M:Nat): ∀(f:Nat) (s:Bs) (a:List El),s.length<=M->Good M a->(a.map (·.2.2)).flatten.length+s.length<=M->a.length+s.length<=M->Good M (Nh f s a).1:=by
  intro f
  induction f with
  | zero=>intro s a _ h _ _;exact h
  | succ f ih =>
    intro s a hs ha hr hl
    show Good M (if s=[]then(a,(0:Int))else if Sp.err s≠0 then([],Sp.err s)else Nh f (Sp.rest s) (a++[E5 s])).1
    by_cases h:s=[]
    ·rw[if_pos h];exact ha
    ·rw[if_neg h]
     by_cases he:Sp.err s=0
     ·rw[if_neg (by simp [he])]
      have h1:=Sp.Ya s he
      have h2:(Sp.raw s).length+(Sp.rest s).length=s.length:=by rw[<- List.length_append,AlK]
      have hq:((a++[E5 s]).map (·.2.2)).flatten.length=(a.map (·.2.2)).flatten.length+(Sp.raw s).length:=by
        rw[List.map_append,List.flatten_append,List.length_append];congr 1;show(Sp.raw s++[]).length=_;rw[List.append_nil]
      refine ih _ _ (by omega) ⟨by simp;omega,?_,by omega⟩ (by omega) (by simp;omega)
      intro e he'
      rcases List.mem_append.1 he' with h' | h'
      ·exact ha.all e h'
      ·rw[List.mem_singleton.1 h'];exact⟨s,he,rfl,hs⟩
     ·rw[if_pos he];exact⟨by simp,by simp,by simp⟩
theorem Dt (s:Bs):Good s.length (AV s).1:=AgZ _ _ _ _ (Nat.le_refl _) ⟨by simp,by simp,by simp⟩ (by simp) (by simp)
theorem Good.mono {M K:Nat} {l:List El} (h:Good M l) (hk:M<=K):Good K l:=⟨by have:=h.len;omega,fun e he=>(h.all e he).mono hk,by have:=h.Ao0;omega⟩
theorem Good.tail {M:Nat} {e:El} {l:List El} (h:Good M (e::l)):Good M l:=⟨by have:=h.len;simp at this;omega,fun e he=>h.all e (List.mem_cons_of_mem _ he),by have:=h.Ao0;rw[List.map_cons,List.flatten_cons,List.length_append]at this;omega⟩
theorem DZ (N:Nat) (s:Bs) (hN:4<N) (hs:s.length<=1099511627776) (hl:s.length<N):DR N s=some (AV s):=by
  unfold DR AV
  refine IB (F:=fun x=>some (Nh (x.1.length+1) x.1 x.2)) (fun x=>x.1.length+x.2.length<=s.length) (fun x=>x.1.length) ?_ N (s,[]) (by simp) hl
  rintro ⟨t,a⟩ hI k hk
  dsimp only at hI hk
  dsimp only[U2]
  by_cases h:t=[]
  ·subst h;rfl
  ·have hp:=AjR h
   rw[Ag5,decide_eq_false h,Bool.not_false,cond_true]
   show(Ac (NH N t) _:Option (List El×Int))=some (if t=[]then(a,0)else if Sp.err t≠0 then([],Sp.err t)else Nh t.length (Sp.rest t) (a++[E5 t]))
   rw[if_neg h,Qx N t hN (by omega),Ae]
   by_cases he:Sp.err t=0
   ·have hr:Iw t=(E5 t,Sp.rest t,0):=by unfold Iw;rw[if_pos he]
    have hlt:=Sp.Ya t he
    rw[hr,if_neg (by simp [he])]
    show Vm.chk (decide ((a.length+1)*41<=140737488355328)) (k (Sp.rest t,a++[E5 t]))=_
    rw[dC,if_pos (by omega),hk (Sp.rest t,a++[E5 t]) (by simp;omega) hlt]
    exact congrArg some (AgY _ _ _ _ (by show(Sp.rest t).length<(Sp.rest t).length+1;omega) hlt)
   ·have hr:Iw t=((0,[],[]),[],Sp.err t):=by unfold Iw;rw[if_neg he]
    rw[hr,if_pos he]
    show(bif Sp.err t != 0 then some (([]:List El),Sp.err t)else _)=_
    rw[show(Sp.err t != 0)=true by simp [he]];rfl
def Be (l:List El) (t:Int):El×Bool×List El:=match l with
  | []=>((0,[],[]),false,[])
  | e::r=>if e.1=t then(e,true,r)else((0,[],[]),false,e::r)
theorem Af8 {e:El} {r:List El} {t:Int} (h:e.1=t):Be (e::r) t=(e,true,r):=by
  show(if e.1=t then(e,true,r)else((0,[],[]),false,e::r))=_
  rw[if_pos h]
theorem Af7 {e:El} {r:List El} {t:Int} (h: ¬ e.1=t):Be (e::r) t=((0,[],[]),false,e::r):=by
  show(if e.1=t then(e,true,r)else((0,[],[]),false,e::r))=_
  rw[if_neg h]
theorem WR (N:Nat) (l:List El) (t:Int):Ce N l t=some (Be l t):=by
  cases l with
  | nil=>rfl
  | cons e r =>
    have h0:(((e::r).length:Int)==(0:Int))=false:=by simp;omega
    have h1:decide ((0:Int)<((e::r).length:Int))=true:=decide_eq_true (by simp only[List.length_cons];omega)
    have h2:decide ((1:Int)<=((e::r).length:Int))=true:=decide_eq_true (by simp only[List.length_cons];omega)
    unfold Ce
    rw[h0,h1,h2]
    show(bif (e.1 != t)then some (((0,[],[]):El),false,e::r)else some (e,true,AA (e::r) 1 (e::r).length))=some (if e.1=t then(e,true,r)else((0,[],[]),false,e::r))
    have hc:AA (e::r) 1 (e::r).length=r:=by
      show((e::r).take (e::r).length).drop 1=r
      rw[List.take_length];rfl
    rw[hc]
    by_cases h:e.1=t
    ·rw[if_pos h,show(e.1 != t)=false by simp [h]];rfl
    ·rw[if_neg h,show(e.1 != t)=true by simp [h]];rfl
theorem Afo (N:Nat) (l:List El):BP N l=some (if l=[]then 0 else 4,l):=by
  cases l with
  | nil=>rfl
  | cons e r =>
    unfold BP
    rw[WU,if_pos (by simp only[List.length_cons];omega),if_neg (by simp)]
theorem PX {M:Nat} {l:List El} (h:Good M l) (t:Int):Good M (Be l t).2.2/\((Be l t).2.1=true->Qm M (Be l t).1):=by
  cases l with
  | nil=>exact⟨h,fun h=>by cases h⟩
  | cons e r =>
    by_cases he:e.1=t
    ·rw[Af8 he];exact⟨h.tail,fun _=>h.all e List.mem_cons_self⟩
    ·rw[Af7 he];exact⟨h,fun h=>by cases h⟩
theorem AcB (x:Int):(x != (0:Int))=decide (x≠0):=by by_cases h:x=0<;>simp [h]
def Ahy (s:Bs) (t:Int):(List El×Int) ⊕ (Unit×Int) :=
  if(Cf s).2≠0 then .inr ((),(Cf s).2)else if(Cf s).1.1≠t then .inr ((),5)else
  if(AV (Cf s).1.2.1).2≠0 then .inr ((),(AV (Cf s).1.2.1).2)else .inl ((AV (Cf s).1.2.1).1,0)
theorem MQ (s:Bs):(Cf s).1.2.1.length<=s.length/\(Cf s).1.2.2.length<=s.length:=by
  unfold Cf
  split
  ·rename_i h
   have he:=(fQ h).1
   have:=Sp.Lu s he
   have hr:=Sp.wH s he
   have:=Sp.jB s he
   show(Sp.content s).length<=_/\(Sp.raw s).length<=_
   omega
  ·simp
theorem Am9 (N:Nat) (s:Bs) (t:Int) (hN:4<N) (hs:s.length<=1099511627776) (hl:s.length<N):Ju N s t=some (Ahy s t):=by
  have hc:=MQ s
  unfold Ju IY Ahy
  rw[Pq N s hN hs]
  simp only[Ae]
  generalize Cf s=o at hc ⊢
  by_cases h1:o.2=0
  ·rw[if_neg (by simp [h1]),AcB,decide_eq_false (by simp [h1]),cond_false]
   by_cases h2:o.1.1=t
   ·rw[if_neg (by simp [h2]),show(o.1.1 != t)=false by rw[h2];simp]
    unfold Hl
    simp only[cond_false,Ae]
    rw[DZ N _ hN (by omega) (by omega)]
    simp only[Ae]
    by_cases h3:(AV o.1.2.1).2=0
    ·rw[if_neg (by simp [h3]),AcB (AV o.1.2.1).2,decide_eq_false (by simp [h3])];rfl
    ·rw[if_pos h3,AcB (AV o.1.2.1).2,decide_eq_true h3]
     rfl
   ·rw[if_pos h2,show(o.1.1 != t)=true from bne_iff_ne.2 h2];rfl
  ·rw[if_pos h1,AcB,decide_eq_true h1,cond_true,Ae,AcB,decide_eq_true h1];rfl
def C9 (s:Bs) (t:Int):El×Int:=bif (Cf s).2 != 0 then((0,[],[]),(Cf s).2)else bif (Cf s).1.1 != t then((0,[],[]),5)else((Cf s).1,0)
theorem L8 (N:Nat) (s:Bs) (t:Int) (hN:1048578<N) (hs:s.length<=1048576):IY N s t=some (C9 s t):=by
  unfold IY C9
  try simp only[clR]
  rw[Pq N s (by omega) (by omega),Ae]
  simp only[Bh]
theorem Qd (s:Bs) (t:Int):(C9 s t).1.2.1.length<=s.length:=by
  have hc:=MQ s
  unfold C9
  cases (Cf s).2 != 0 with
  | true=>show 0<=_;omega
  | false=>cases (Cf s).1.1 != t with
    | true=>show 0<=_;omega
    | false=>exact hc.1
theorem u8n {n:Nat} (h:n<256):(UInt8.ofNat n).toNat=n:=by
  rw[UInt8.toNat_ofNat'];omega
theorem u8m (n:Nat):(UInt8.ofNat n).toNat=n % 256:=UInt8.toNat_ofNat'
theorem Aje (t n:Nat) (s:Bs) (ht:t<256) (h31:t % 32≠31) (hn:n<=131072):Sp.head (UInt8.ofNat t::(Sp.FV n++s))=(0,1+(Sp.FV n).length,n):=by
  have h1: ¬(UInt8.ofNat t).toNat % 32=31:=by rw[u8n ht];exact h31
  unfold Sp.FV
  by_cases a1:n<128
  ·rw[if_pos a1]
   have e:=u8n (show n<256 by omega)
   unfold Sp.head
   dsimp only[List.cons_append,List.nil_append]
   rw[if_neg h1,e,if_pos a1];rfl
  ·rw[if_neg a1]
   by_cases a2:n<256
   ·rw[if_pos a2]
    have e:=u8n a2
    have hb:Sp.beNat (((UInt8.ofNat n)::s).take 1)=n:=by show 0*256+(UInt8.ofNat n).toNat=n;omega
    unfold Sp.head
    dsimp only[List.cons_append,List.nil_append]
    rw[if_neg h1,if_neg (by decide),if_neg (by decide),show(129:UInt8).toNat - 128=1 from rfl]
    rw[hb,if_neg (by simp),if_neg (by rw[show Sp.leastOf 1=128 from rfl];omega)];rfl
   ·rw[if_neg a2]
    by_cases a3:n<65536
    ·rw[if_pos a3]
     have e1:=u8m (n / 256)
     have e2:=u8m n
     have hb:Sp.beNat (((UInt8.ofNat (n / 256))::UInt8.ofNat n::s).take 2)=n:=by
       show(0*256+(UInt8.ofNat (n / 256)).toNat)*256+(UInt8.ofNat n).toNat=n;omega
     unfold Sp.head
     dsimp only[List.cons_append,List.nil_append]
     rw[if_neg h1,if_neg (by decide),if_neg (by decide),show(130:UInt8).toNat - 128=2 from rfl]
     rw[hb,if_neg (by simp),if_neg (by rw[show Sp.leastOf 2=256 from rfl];omega)];rfl
    ·rw[if_neg a3]
     have e0:=u8m (n / 65536)
     have e1:=u8m (n / 256)
     have e2:=u8m n
     have hb:Sp.beNat (((UInt8.ofNat (n / 65536))::(UInt8.ofNat (n / 256))::UInt8.ofNat n::s).take 3)=n:=by
       show((0*256+(UInt8.ofNat (n / 65536)).toNat)*256+(UInt8.ofNat (n / 256)).toNat)*256+(UInt8.ofNat n).toNat=n;omega
     unfold Sp.head
     dsimp only[List.cons_append,List.nil_append]
     rw[if_neg h1,if_neg (by decide),if_neg (by decide),show(131:UInt8).toNat - 128=3 from rfl]
     rw[hb,if_neg (by simp),if_neg (by rw[show Sp.leastOf 3=65536 from rfl];omega)];rfl
section
variable (t:Nat) (c r:Bs) (ht:t<256) (h31:t % 32≠31) (hc:c.length<=131072)
include ht h31 hc
theorem Anp:Sp.rd (Sp.elem t c++r)=(0,1+(Sp.FV c.length).length,c.length):=by
  have h:Sp.elem t c++r=UInt8.ofNat t::(Sp.FV c.length++(c++r)):=by unfold Sp.elem;simp
  unfold Sp.rd
  rw[h,Aje t c.length (c++r) ht h31 hc]
  rw[if_neg]
  rintro ⟨_,h2⟩
  simp only[List.length_cons,List.length_append]at h2
  omega
theorem AaX:Sp.err (Sp.elem t c++r)=0/\E5 (Sp.elem t c++r)=((t:Int),c,Sp.elem t c)/\Sp.rest (Sp.elem t c++r)=r:=by
  have h:=Anp t c r ht h31 hc
  have hl:(Sp.elem t c).length=1+(Sp.FV c.length).length+c.length:=by unfold Sp.elem;simp;omega
  have hd:(Sp.elem t c++r).drop (1+(Sp.FV c.length).length)=c++r:=by
    have h2:Sp.elem t c++r=(UInt8.ofNat t::Sp.FV c.length)++(c++r):=by unfold Sp.elem;simp
    rw[h2];exact List.drop_left' (by simp;omega)
  refine⟨by unfold Sp.err;rw[h],?_,?_⟩
  ·unfold E5 Sp.content Sp.raw
   rw[h]
   dsimp only
   rw[hd,List.take_left,<- hl,List.take_left]
   rw[show Sp.tag (Sp.elem t c++r)=t from u8n ht]
  ·unfold Sp.rest
   rw[h]
   dsimp only
   rw[<- hl,List.drop_left]
end
def A8 (t:Nat) (c:Bs):El:=((t:Int),c,Sp.elem t c)
theorem qA (t:Nat) (c:Bs) (ht:t<256) (h31:t % 32≠31) (hc:c.length<=131072):Cf (Sp.elem t c)=(A8 t c,0):=by
  obtain⟨h1,h2,h3⟩:=AaX t c [] ht h31 hc
  rw[List.append_nil]at h1 h2 h3
  unfold Cf Sp.Le
  rw[h1,h3,if_pos (show(if(0:Int)≠0 then(0:Int)else if([]:Bs)=[]then 0 else 4)=0 from rfl),h2];rfl
theorem V7 (t:Nat) (c:Bs) (ht:t<256) (h31:t % 32≠31) (hc:c.length<=131072):C9 (Sp.elem t c) t=(A8 t c,0):=by
  unfold C9
  rw[qA t c ht h31 hc]
  show(bif ((t:Int) != (t:Int))then((0,[],[]),(5:Int))else(A8 t c,0))=_
  rw[show((t:Int) != (t:Int))=false by simp];rfl
structure Fine (p:Nat×Bs):Prop where
  lt:p.1<256
  low:p.1 % 32≠31
  len:p.2.length<=131072
theorem AeB: ∀(l:List (Nat×Bs)) (f:Nat) (a:List El),(∀ p∈l,Fine p)->l.length<f->Nh f (l.map fun p=>Sp.elem p.1 p.2).flatten a=(a++l.map fun p=>A8 p.1 p.2,0):=by
  intro l
  induction l with
  | nil =>
    intro f a _ h
    obtain⟨g,rfl⟩: ∃ g,f=g+1:=⟨f - 1,by simp at h;omega⟩
    show(if([]:Bs)=[]then(a,(0:Int))else _)=_
    rw[if_pos rfl];simp
  | cons p l ih =>
    intro f a h hf
    obtain⟨g,rfl⟩: ∃ g,f=g+1:=⟨f - 1,by simp at hf;omega⟩
    have hp:=h p List.mem_cons_self
    obtain⟨h1,h2,h3⟩:=AaX p.1 p.2 (l.map fun p=>Sp.elem p.1 p.2).flatten hp.lt hp.low hp.len
    rw[List.map_cons,List.flatten_cons]
    show(if _=[]then(a,(0:Int))else if Sp.err _≠0 then([],Sp.err _)else Nh g (Sp.rest _) (a++[E5 _]))=_
    rw[if_neg (by unfold Sp.elem;simp),h1,if_neg (by decide),h2,h3,ih g _ (fun q hq=>h q (List.mem_cons_of_mem _ hq)) (by simp at hf;omega)]
    simp [A8]
theorem E8 (l:List (Nat×Bs)) (h: ∀ p∈l,Fine p):AV (l.map fun p=>Sp.elem p.1 p.2).flatten=(l.map fun p=>A8 p.1 p.2,0):=by
  have hl:l.length<=(l.map fun p=>Sp.elem p.1 p.2).flatten.length:=by
    induction l with
    | nil=>exact Nat.zero_le _
    | cons p l ih =>
      have:=ih fun q hq=>h q (List.mem_cons_of_mem _ hq)
      rw[List.map_cons,List.flatten_cons,List.length_append,List.length_cons]
      have:1<=(Sp.elem p.1 p.2).length:=by unfold Sp.elem;simp
      omega
  unfold AV
  rw[AeB l _ [] h (by omega)];rfl
