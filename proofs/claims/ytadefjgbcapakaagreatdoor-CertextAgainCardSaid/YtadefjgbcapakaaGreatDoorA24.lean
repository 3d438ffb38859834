import Derived.Test.YtadefjgbcapakaaGreatDoorA23
set_option linter.all false
namespace Go.Proofs.YtadefjgbcapakaaGreatDoor.Pl
open IntKind (i64)
open Go Vm
theorem Anl (a b:Nat) (hb:b<256):(a*256) ||| b=a*256+b:=by
  rw[show a*256=a <<< 8 by rw[Nat.shiftLeft_eq],<- Nat.shiftLeft_add_eq_or_of_lt (by omega:b<2 ^ 8)]
theorem ori (x b:Int) (h1: -36028797018963968<=x) (h2:x<36028797018963968) (h3:0<=b) (h4:b<256):Bi .or .i64 (i64.wrap (x*256)) (i64.wrap b)=x*256+b:=by
  rw[w64 (by omega) (by omega),w64 (by omega) (by omega)]
  have e1:(BitVec.ofInt 64 (x*256)).toNat=((x*256) % 18446744073709551616).toNat:=by simp [BitVec.toNat_ofInt]
  have e2:(BitVec.ofInt 64 b).toNat=b.toNat:=by rw[BitVec.toNat_ofInt];omega
  show i64.wrap (((BitVec.ofInt 64 (x*256)) ||| (BitVec.ofInt 64 b)).toNat:Int)=_
  rw[BitVec.toNat_or,e1,e2,show((x*256) % 18446744073709551616).toNat=(x % 72057594037927936).toNat*256 by omega,Anl _ _ (by omega),IntKind.wrap_i64]
  omega
theorem Ape: ∀(l:Bs) (k:Nat) (v:Int),k+l.length<=7-> -(128*256 ^ k)<=v->v<128*256 ^ k ->
    l.foldl (fun acc b=>Bi .or .i64 (i64.wrap (acc*256)) (i64.wrap (b.toNat:Int))) v=Sp.be v l:=by
  intro l
  induction l with
  | nil=>intro k v _ _ _;rfl
  | cons b r ih =>
    intro k v hk h1 h2
    simp only[List.length_cons]at hk
    have hb:=b.toNat_lt
    have hp:=Sp.AjS (show k<=6 by omega)
    have h6:(256:Int) ^ 6=281474976710656:=by decide
    rw[List.foldl_cons,ori _ _ (by omega) (by omega) (by omega) (by omega),Sp.AmF]
    have hs:(256:Int) ^ (k+1)=256 ^ k*256:=Int.pow_succ ..
    exact ih (k+1) _ (by omega) (by omega) (by omega)
theorem Ag9 {S:Type} (g:S->UInt8->S) (l:Bs) (a:S):(List.range l.length).foldl (fun s i=>g s (l.getD i 0)) a=l.foldl g a:=by
  have e:(List.range l.length).map (fun i=>l.getD i 0)=l:=by
    apply List.ext_getElem (by simp)
    intro i h1 h2
    simp [List.getD_eq_getElem?_getD,h2]
  conv=>rhs;rw[<- e,List.foldl_map]
theorem Ao6 (a:UInt8):i64.wrap (IntKind.i8.wrap (a.toNat:Int))=Sp.qK a:=by
  have: ∀ a:Fin 256,i64.wrap (IntKind.i8.wrap (a.val:Int))=if a.val<128 then(a.val:Int)else(a.val:Int) - 256:=by decide +kernel
  exact this ⟨a.toNat,a.toNat_lt⟩
theorem AaW (N:Nat) (a:UInt8) (r:Bs) (hN:16<N) (hr:r.length<=7):Ap (X:=Int×Int) (Y:=Int) (U2 fun t4a t43a k11 x12 =>
    bif decide (t43a<(i64.wrap (((a::r).length:Int) - (1:Int))))then(chk (decide ((0:Int)<=i64.wrap (t43a+(1:Int)))) <|
    chk (decide (i64.wrap (t43a+(1:Int))<((a::r).length:Int))) <|
    k11 (Bi .or .i64 (i64.wrap (t4a*(256))) (i64.wrap (((a::r).getD ((i64.wrap (t43a+(1:Int))).toNat) 0).toNat:Int)),i64.wrap (t43a+(1:Int))))
    else(x12 t4a))
    N (i64.wrap (IntKind.i8.wrap (a.toNat:Int)),0) (fun t4b=>some (t4b,0))=some (Sp.be (Sp.qK a) r,(0:Int)):=by
  have hl:((a::r).length:Int)=(r.length:Int)+1:=by simp
  refine(YE (fun i acc=>(acc,(i:Int))) r.length (fun i acc=>Bi .or .i64 (i64.wrap (acc*256)) (i64.wrap ((r.getD i 0).toNat:Int))) (fun acc=>some (acc,0)) ?_ ?_ N _ (by omega)).trans ?_
  ·intro i acc hi k
   dsimp only[U2]
   rw[hl]
   have e:(((i:Int)+1)).toNat=i+1:=by omega
   simp (disch:=first | assumption | omega) only[A7,e,List.getD_cons_succ]
   rfl
  ·intro acc k
   dsimp only[U2]
   rw[hl]
   simp (disch:=first | assumption | omega) only[A7]
  ·have:=Ao6 a
   rw[this,Ag9 (fun acc b=>Bi .or .i64 (i64.wrap (acc*256)) (i64.wrap (b.toNat:Int)))]
   have hs:=Sp.AhE a
   rw[Ape r 0 _ (by omega) (by omega) (by omega)]
theorem bad_eq (a b:UInt8) (r:Bs):Sp.qZ (a::b::r)=((((a.toNat:Int)==0)&&decide ((b.toNat:Int)<128))||(((a.toNat:Int)==255)&& !decide ((b.toNat:Int)<128))):=by
  have e1:((a.toNat:Int)==0)=decide (a.toNat=0):=by rw[Bool.eq_iff_iff];simp
  have e2:((a.toNat:Int)==255)=decide (a.toNat=255):=by rw[Bool.eq_iff_iff];simp;omega
  have e3:decide ((b.toNat:Int)<128)=decide (b.toNat<128):=by rw[Bool.eq_iff_iff];simp;omega
  rw[e1,e2,e3]
  show(_||_&&decide (128<=b.toNat))=_
  rw[show decide (128<=b.toNat)= !decide (b.toNat<128) by rw[Bool.eq_iff_iff];simp]
theorem vX (N:Nat) (s:Bs) (hN:16<N) (hs:s.length<=1048576):Lh N s=some (Sp.integer s):=by
  match s with
  | []=>rfl
  | [a] =>
    have hlo:=AaW N a [] hN (by simp)
    have d1:decide (([a].length:Int)>1)=false:=by simp
    have d2:decide ((0:Int)<([a].length:Int))=true:=by simp
    have d4:decide (([a].length:Int)>8)=false:=by simp
    have e1:([a]==([]:Bs))=false:=by simp
    unfold Lh
    have hi:Sp.integer [a]=(Sp.be (Sp.qK a) [],0):=by simp [Sp.integer,Sp.qZ,Sp.Ajl]
    rw[hi]
    have d3:decide ((1:Int)<([a].length:Int))=false:=by simp
    simp only[List.getD_cons_zero,d1,d2,d3,d4,e1]
    generalize ((a.toNat:Int)==0)=X
    generalize ((a.toNat:Int)==255)=Z
    cases X<;>cases Z<;>exact Eq.trans (by kernel_rfl) hlo
  | a::b::r =>
    have e1:((a::b::r)==([]:Bs))=false:=rfl
    have hl:((a::b::r).length:Int)=(r.length:Int)+2:=by simp;omega
    have hg:decide ((b.toNat:Int)>=128)= !decide ((b.toNat:Int)<128):=by rw[Bool.eq_iff_iff];simp
    unfold Lh
    simp only[e1,hg,List.getD_cons_zero,List.getD_cons_succ]
    have hlo:=AaW N a (b::r) hN
    unfold Sp.integer
    rw[bad_eq]
    have d1:decide (((a::b::r).length:Int)>1)=true:=decide_eq_true (by omega)
    have d2:decide ((0:Int)<((a::b::r).length:Int))=true:=decide_eq_true (by omega)
    have d3:decide ((1:Int)<((a::b::r).length:Int))=true:=decide_eq_true (by omega)
    simp only[d1,d2,d3]
    generalize ((a.toNat:Int)==0)=X
    generalize decide ((b.toNat:Int)<128)=Y
    generalize ((a.toNat:Int)==255)=Z
    by_cases h8:(a::b::r).length<=8
    ·have hlo:=hlo (by simpa using h8)
     have d4:decide (((a::b::r).length:Int)>8)=false:=decide_eq_false (by omega)
     have d5: ¬ 8<(a::b::r).length:=by omega
     rw[d4,if_neg d5]
     cases X<;>cases Y<;>cases Z<;>first | rfl | exact hlo
    ·have d4:decide (((a::b::r).length:Int)>8)=true:=decide_eq_true (by omega)
     have d5:8<(a::b::r).length:=by omega
     rw[d4,if_pos d5]
     cases X<;>cases Y<;>cases Z<;>rfl
def Cj (l:List El) (t:Int):El×Int×List El:=match l with
  | []=>((0,[],[]),3,[])
  | e::r=>bif e.1 != t then((0,[],[]),5,e::r)else(e,0,r)
theorem ApL (e:El) (r:List El):AA (e::r) 1 (e::r).length=r:=by
  show((e::r).take (e::r).length).drop 1=r
  rw[List.take_length];rfl
theorem xJ (N:Nat) (l:List El) (t:Int):Fe N l t=some (Cj l t):=by
  cases l with
  | nil=>rfl
  | cons e r =>
    have h1:decide (((e::r).length:Int)>(0:Int))=true:=decide_eq_true (by simp only[List.length_cons];omega)
    have h2:decide ((0:Int)<((e::r).length:Int))=true:=decide_eq_true (by simp only[List.length_cons];omega)
    have h3:decide ((1:Int)<=((e::r).length:Int))=true:=decide_eq_true (by simp only[List.length_cons];omega)
    have h4:(((e::r).length:Int)==(0:Int))=false:=by simp;omega
    unfold Fe LC Cj
    rw[h1,h3,h4,ApL]
    show(bif e.1 != t then some (((0,[],[]):El),(5:Int),e::r)else some (e,(0:Int),r))=_
    rw[Bh]
theorem AaK {M:Nat} {l:List El} (h:Good M l) (t:Int):Good M (Cj l t).2.2/\((Cj l t).2.1=0->Qm M (Cj l t).1):=by
  cases l with
  | nil=>exact⟨h,fun h=>by cases h⟩
  | cons e r =>
    unfold Cj
    dsimp only
    cases e.1 != t with
    | true=>exact⟨h,fun h=>by cases h⟩
    | false=>exact⟨h.tail,fun _=>h.all e List.mem_cons_self⟩
def Vj (l:List El):Int:=if l=[]then 0 else 4
def Dn (s:Bs):List El×Int:=bif (C9 s 48).2 != 0 then([],(C9 s 48).2)else AV (C9 s 48).1.2.1
theorem Abc (s:Bs) (hs:s.length<=1048576):Good 1048576 (Dn s).1:=by
  have hl:=Qd s 48
  unfold Dn
  cases (C9 s 48).2 != 0 with
  | true=>exact(Dt []).mono (by simp)
  | false=>exact(Dt _).mono (by omega)
theorem aP {ρ :Type} (N:Nat) (s:Bs) (hN:1048578<N) (hs:s.length<=1048576) (k:List El×Int->Option ρ) (l:Unit×Int->Option ρ) :
    Hw (Ju N s 48) k l=bif (Dn s).2 != 0 then l ((),(Dn s).2)else k ((Dn s).1,0):=by
  have hlo:=Qd s 48
  unfold Ju Hl Dn
  rw[L8 N s 48 hN hs,Ae]
  cases h:(C9 s 48).2 != 0 with
  | true=>rw[cond_true,Ij,cond_true,h,cond_true]
  | false =>
    rw[cond_false,cond_false,DZ N _ (by omega) (by omega) (by omega),Ae]
    cases h2:(AV (C9 s 48).1.2.1).2 != 0 with
    | true=>rw[cond_true,Ij,Ij,cond_true]
    | false=>rw[cond_false,Q3,Q3,cond_false]
def CQ (s:Bs):List El×Int:=bif (Dn s).2 != 0 then([],(Dn s).2)else bif (Dn s).1.isEmpty then([],7)else((Dn s).1,0)
theorem Vt {ρ :Type} (N:Nat) (s:Bs) (hN:1048578<N) (hs:s.length<=1048576) (k:List El×Int->Option ρ) (l:Unit×Int->Option ρ) :
    Hw (Hg N s) k l=bif (CQ s).2 != 0 then l ((),(CQ s).2)else k ((CQ s).1,0):=by
  unfold Hg CQ
  rw[aP N s hN hs]
  cases h:(Dn s).2 != 0 with
  | true=>simp only[h,cond_true,Ij]
  | false =>
    unfold Dh
    simp only[cond_false,bne_self_eq_false,Ae,len0]
    cases h2:(Dn s).1.isEmpty with
    | true=>rfl
    | false=>rfl
def iK (s:Bs):Bool×Int:=bif s==[0]then(false,0)else bif s==[255]then(true,0)else(false,7)
theorem vW (N:Nat) (s:Bs):OO N s=some (iK s):=by
  unfold OO iK
  simp only[Bh]
def WB (s:Bs):Int×Int:=bif (Sp.integer s).2 != 0 then(0,(Sp.integer s).2)else bif decide ((Sp.integer s).1<0)||decide ((Sp.integer s).1>64)then(0,1)else((Sp.integer s).1,0)
theorem number_eq (N:Nat) (s:Bs) (hN:1048578<N) (hs:s.length<=1048576):EK N s=some (WB s):=by
  unfold EK WB
  try simp only[clR]
  rw[vX N s (by omega) hs,Ae]
  simp only[Bh]
def Vk (l:List El) (t:Int):Bool×Int:=bif !(Be l t).2.1 then(false,0)else bif (iK (Be l t).1.2.1).2 != 0 then(false,(iK (Be l t).1.2.1).2)else bif !(iK (Be l t).1.2.1).1 then(false,7)else(true,0)
theorem Aie (N:Nat) (l:List El) (t:Int):Kz N l t=some ((Vk l t).1,(Vk l t).2,(Be l t).2.2):=by
  unfold Kz Vk
  try simp only[clR]
  rw[WR,Ae]
  cases h:(Be l t).2.1 with
  | false=>rfl
  | true =>
    rw[Bool.not_true,cond_false,cond_false,vW,Ae]
    unfold iK
    cases (Be l t).1.2.1==[0]with
    | true=>rfl
    | false=>cases (Be l t).1.2.1==[255]<;>rfl
theorem oM {l:List El} (hg:Good 1048576 l) (t:Int) (h:(Be l t).2.1=true):(Be l t).1.2.1.length<=1048576:=by have:=((PX hg t).2 h).content;omega
def OB (l:List El) (t:Int):Int×Int:=bif !(Be l t).2.1 then(-1,0)else WB (Be l t).1.2.1
def idD (l:List El):Bs×Int:=bif (Cj l 6).2.1 != 0 then([],(Cj l 6).2.1)else JG (Oq (Cj l 6).1.2.1)
theorem YH (N:Nat) (l:List El) (hN:1048578<N) (hg:Good 1048576 l):Ib N l=some ((idD l).1,(idD l).2,(Cj l 6).2.2):=by
  unfold Ib idD
  rw[xJ,Ae]
  cases h:(Cj l 6).2.1 != 0 with
  | true=>rfl
  | false =>
    have h0:(Cj l 6).2.1=0:=by simpa using h
    have:=((AaK hg 6).2 h0).content
    rw[cond_false,cond_false,Np N _ (by omega) (by omega) (by omega),Ae]
section
variable {X Y ρ E A:Type} {B:X->(X->Option ρ)->(Y->Option ρ)->Option ρ} {kx:Y->Option ρ}
theorem AcU (f:E->Int) (e:E) (r:List E):AU f (e::r)=bif f e != 0 then f e else AU f r:=by
  show(if f e≠0 then _ else _)=_
  by_cases h:f e=0
  ·rw[if_neg (by simp [h]),h];rfl
  ·rw[if_pos h,show(f e != 0)=true from bne_iff_ne.2 h];rfl
theorem Abh (mk:List E->List A->X) (I:List E->Prop) (er:E->Int) (g:E->A) (ret:Int->List A->Option ρ) (fin:List A->Option ρ)
    (h: ∀ e r acc,I (e::r)->acc.length<=1048576-> ∀ k,B (mk (e::r) acc) k kx=bif er e != 0 then ret (er e) acc else k (mk r (acc++[g e])))
    (hI: ∀ e r,I (e::r)->I r) (h0: ∀ acc k,B (mk [] acc) k kx=fin acc) :
    ∀(N:Nat) (l:List E) (acc:List A),I l->l.length<N->acc.length+l.length<=1048576-> ∃ a,Ap B N (mk l acc) kx=bif AU er l != 0 then ret (AU er l) a else fin (acc++l.map g):=by
  intro N
  induction N with
  | zero=>intro l acc _ h;omega
  | succ N ih =>
    intro l acc hi hn ha
    rw[Ie]
    cases l with
    | nil=>exact⟨acc,by rw[h0];simp [AU]⟩
    | cons e r =>
      simp only[List.length_cons]at hn ha
      rw[h e r acc hi (by omega),AcU]
      cases hb:er e != 0 with
      | true=>exact⟨acc,by rw[cond_true,cond_true,hb,cond_true]⟩
      | false =>
        obtain⟨a,ha'⟩:=ih r (acc++[g e]) (hI e r hi) (by omega) (by simp;omega)
        exact⟨a,by rw[cond_false,cond_false,ha'];simp⟩
theorem AhI (mk:List E->List A->Int->X) (I:List E->Prop) (er:E->Int) (g:E->A) (fin:List A->Int->Option ρ)
    (h: ∀ e r acc,I (e::r)->acc.length<=1048576-> ∀ k,∃ q,B (mk (e::r) acc 0) k kx=k (mk q (acc++[g e]) (er e))/\(er e=0->q=r))
    (hx: ∀ q acc err,err≠0-> ∀ k,B (mk q acc err) k kx=fin acc err)
    (hI: ∀ e r,I (e::r)->I r) (h0: ∀ acc k,B (mk [] acc 0) k kx=fin acc 0) :
    ∀(N:Nat) (l:List E) (acc:List A),I l->l.length+1<N->acc.length+l.length<=1048576-> ∃ a,Ap B N (mk l acc 0) kx=fin a (AU er l)/\(AU er l=0->a=acc++l.map g):=by
  intro N
  induction N with
  | zero=>intro l acc _ h;omega
  | succ N ih =>
    intro l acc hi hn ha
    rw[Ie]
    cases l with
    | nil=>exact⟨acc,by rw[h0];rfl,by simp⟩
    | cons e r =>
      simp only[List.length_cons]at hn ha
      obtain⟨q,h1,h2⟩:=h e r acc hi (by omega) (fun x'=>Ap B N x' kx)
      rw[h1,AcU]
      by_cases he:er e=0
      ·rw[h2 he,he]
       obtain⟨a,h3,h4⟩:=ih r (acc++[g e]) (hI e r hi) (by omega) (by simp;omega)
       exact⟨a,h3,fun h=>by rw[h4 h];simp⟩
      ·rw[show(er e != 0)=true from bne_iff_ne.2 he,cond_true]
       obtain⟨M,rfl⟩: ∃ M,N=M+1:=⟨N - 1,by omega⟩
       exact⟨acc++[g e],by rw[Ie,hx _ _ _ he],fun h=>absurd h he⟩
end
def WC (e:El):Bs×Int:=bif e.1 != 6 then([],5)else JG (Oq e.2.1)
theorem Alh (e:El) (r:List El):idD (e::r)=WC e:=by
  unfold idD WC Cj
  dsimp only
  cases e.1 != 6<;>rfl
def Am1 (l:List El):Int:=AU (fun e=>(WC e).2) l
def Ahx (l:List El):List Bs:=l.map (fun e=>(WC e).1)
def elL (e:El):List El×Int:=bif e.1 != 48 then([],5)else AV e.2.1
def Ji (e:El):Bs×Int:=bif (elL e).2 != 0 then([],(elL e).2)else bif (idD (elL e).1).2 != 0 then([],(idD (elL e).1).2)else((idD (elL e).1).1,Vj (Cj (elL e).1 6).2.2)
def MI (e:El):(Bs×Bs)×Int:=bif (elL e).2 != 0 then(([],[]),(elL e).2)else bif (idD (elL e).1).2 != 0 then(([],[]),(idD (elL e).1).2)else
  bif (idD (Cj (elL e).1 6).2.2).2 != 0 then(([],[]),(idD (Cj (elL e).1 6).2.2).2)else(((idD (elL e).1).1,(idD (Cj (elL e).1 6).2.2).1),Vj (Cj (Cj (elL e).1 6).2.2 6).2.2)
theorem oC {M:Nat} {e:El} (he:Qm 1048576 e) (hM:1048576<=M):Good M (elL e).1:=by
  have:=he.content
  unfold elL
  cases e.1 != 48 with
  | true=>exact(Dt []).mono (by simp)
  | false=>exact(Dt _).mono (by omega)
theorem kW {ρ :Type} (N:Nat) (e:El) (r:List El) (hN:1048578<N) (he:Qm 1048576 e) :
    ∃ q,∀(k:List El×Int×List El->Option ρ) (l:Unit×Int×List El->Option ρ),Hw (DJ N (e::r)) k l=bif (elL e).2 != 0 then l ((),(elL e).2,q)else k ((elL e).1,0,r):=by
  have hc:=he.content
  unfold DJ Hl elL
  rw[xJ,Ae]
  unfold Cj
  dsimp only
  cases h:e.1 != 48 with
  | true=>exact⟨_,fun _ _=>rfl⟩
  | false =>
    simp only[cond_false,bne_self_eq_false]
    rw[DZ N _ (by omega) (by omega) (by omega),Ae]
    cases h2:(AV e.2.1).2 != 0 with
    | true=>exact⟨r,fun k l=>by simp only[cond_true,Ij]⟩
    | false=>exact⟨r,fun k l=>by simp only[cond_false,Q3]⟩
theorem SS (N:Nat) (l:List El):BP N l=some (Vj l,l):=Afo N l
end Go.Proofs.YtadefjgbcapakaaGreatDoor.Pl
namespace Go.Proofs.YtadefjgbcapakaaGreatDoor.Pl
open IntKind (i64)
open Go Vm
def Gives (e:Int) (u:Info) (o:Option (Int×Info)):Prop:= ∃ j,o=some (e,j)/\(e=0->j=u)
theorem Gives.run {A:Type} {e:Int} {u:Info} {o:Option (Int×Info)} {F:A->Option (Int×Info)} (h: ∃ a,o=F a) (h2: ∀ a,Gives e u (F a)):Gives e u o:=by
  obtain⟨a,rfl⟩:=h
  exact h2 a
theorem Gives.ApZ {A:Type} {e:Int} {u:Info} {o:Option (Int×Info)} {F:A->Option (Int×Info)} {P:A->Prop} (h: ∃ a,o=F a/\P a) (h2: ∀ a,P a->Gives e u (F a)):Gives e u o:=by
  obtain⟨a,rfl,h⟩:=h
  exact h2 a h
theorem Gives.err {e:Int} {u j:Info} (h:(e != 0)=true):Gives e u (some (e,j)):=⟨j,rfl,fun h'=>by rw[h']at h;cases h⟩
theorem Gives.ok {e:Int} {u:Info}:Gives e u (some (e,u)):=⟨u,rfl,fun _=>rfl⟩
theorem left_eq (N:Nat) (l:List El):Dh N l=some ((l.length:Int),l):=rfl
theorem qC (e:El) (r:List El):decide (((e::r).length:Int)>0)=true:=decide_eq_true (by simp only[List.length_cons];omega)
theorem Vz (s:Bs) (hs:s.length<=1048576):Good 1048576 (CQ s).1:=by
  unfold CQ
  have h0:Good 1048576 ([]:List El):=(Dt []).mono (by simp)
  cases (Dn s).2 != 0 with
  | true=>exact h0
  | false=>cases (Dn s).1.isEmpty with
    | true=>exact h0
    | false=>exact Abc s hs
def Qu {A:Type} (row:El->A×Int) (s:Bs):Int:=bif (CQ s).2 != 0 then(CQ s).2 else AU (fun e=>(row e).2) (CQ s).1
def Qv {A:Type} (row:El->A×Int) (s:Bs):List A:=(CQ s).1.map (fun e=>(row e).1)
theorem bw {ρ :Type} {n:Nat} (h:n<=140737488355328) (k:Option ρ):chk (decide (n<=140737488355328)) k=k:=by rw[decide_eq_true h];rfl
theorem Ad2 {E A:Type} (f:E->A) (l:List E) (d:E) (d':A) {i:Nat} (h:i<l.length):(l.map f).getD i d'=f (l.getD i d):=by
  simp [List.getD_eq_getElem?_getD,h]
theorem AeS (N:Nat) (s:Bs) (hN:1048578<N) (hs:s.length<=1048576) (hb ca:Bool) (pl us:Int) (pu po:List Bs) (ma:List (Bs×Bs)) (re im ia:Int) (na:List Gn) (hc:Bool) (pe ex:List Gn) (sk ak:Bs) (pt fr:List Pt) (un:List Ex) (hpo:po=[]) :
    Gives (Qu Ji s) (hb,ca,pl,us,pu,Qv Ji s,ma,re,im,ia,na,hc,pe,ex,sk,ak,pt,fr,un) (DL N s (hb,ca,pl,us,pu,po,ma,re,im,ia,na,hc,pe,ex,sk,ak,pt,fr,un)):=by
  obtain⟨M,rfl⟩: ∃ M,N=M+4:=⟨N - 4,by omega⟩
  have hgl:=Vz s hs
  have hll:=hgl.len
  subst hpo
  unfold DL
  have key:Gives (Qu Ji s) (hb,ca,pl,us,pu,Qv Ji s,ma,re,im,ia,na,hc,pe,ex,sk,ak,pt,fr,un) (Jq (M+4) s 1 (hb,ca,pl,us,pu,[],ma,re,im,ia,na,hc,pe,ex,sk,ak,pt,fr,un)):=by
    unfold Jq Qu Qv
    rw[Vt _ s hN hs]
    cases h:(CQ s).2 != 0 with
    | true=>simp only[cond_true,h];exact Gives.err h
    | false =>
      simp only[cond_false,bne_self_eq_false]
      refine Gives.run (Abh (mk:=fun l acc=>(hb,ca,pl,us,re,im,ia,na,hc,pe,ex,sk,ak,pt,fr,l,un,ma,acc,pu)) (Good 1048576) (fun e=>(Ji e).2) (fun e=>(Ji e).1)
        (fun e acc=>some (e,(hb,ca,pl,us,pu,acc,ma,re,im,ia,na,hc,pe,ex,sk,ak,pt,fr,un))) (fun acc=>some (0,(hb,ca,pl,us,pu,acc,ma,re,im,ia,na,hc,pe,ex,sk,ak,pt,fr,un))) ?_ (fun _ _ h=>h.tail) ?_ _ _ [] hgl (by omega) (by simpa using hll)) ?_
      ·intro e r acc hg ha k
       have he:=hg.all e List.mem_cons_self
       obtain⟨q,hq⟩:=kW (ρ :=Int×Info) (M+4) e r hN he
       have hid:=YH (M+4) (elL e).1 hN (oC he (Nat.le_refl _))
       dsimp only[U20]
       simp only[left_eq,Ae,qC,cond_true]
       rw[hq]
       unfold Ji
       cases h2:(elL e).2 != 0 with
       | true=>simp only[cond_true,h2]
       | false =>
         simp only[cond_false,bne_self_eq_false]
         rw[Ie]
         dsimp only[U22]
         rw[show decide ((([]:List Bs).length:Int)<1)=true from rfl,cond_true,hid,Ae]
         dsimp only
         cases h3:(idD (elL e).1).2 != 0 with
         | true=>simp only[cond_true,h3]
         | false =>
           simp only[cond_false,List.nil_append]
           rw[bw (by decide),Ie]
           dsimp only[U22]
           rw[show decide ((([(idD (elL e).1).1]:List Bs).length:Int)<1)=false from rfl,cond_false]
           simp only[SS,Ae]
           cases h4:Vj (Cj (elL e).1 6).2.2 != 0 with
           | true=>simp only[cond_true]
           | false =>
             rw[cond_false,cond_false]
             show Ac (chk (decide ((0:Int)<(([(idD (elL e).1).1]:List Bs).length:Int)))<|chk (decide ((acc.length+1)*17<=140737488355328))<|some _) _=_
             rw[show decide ((0:Int)<(([(idD (elL e).1).1]:List Bs).length:Int))=true from rfl,AP,bw (by omega)]
             rfl
      ·intro acc k
       dsimp only[U20]
       simp only[left_eq,Ae]
       rfl
      ·intro a
       cases h5:AU (fun e=>(Ji e).2) (CQ s).1 != 0 with
       | true=>exact Gives.err h5
       | false =>
         have h6:AU (fun e=>(Ji e).2) (CQ s).1=0:=by simpa using h5
         rw[h6,cond_false,List.nil_append]
         exact Gives.ok
  obtain⟨j,hj,hj2⟩:=key
  rw[hj]
  exact⟨j,rfl,hj2⟩
theorem AeM (N:Nat) (s:Bs) (hN:1048578<N) (hs:s.length<=1048576) (hb ca:Bool) (pl us:Int) (pu po:List Bs) (ma:List (Bs×Bs)) (re im ia:Int) (na:List Gn) (hc:Bool) (pe ex:List Gn) (sk ak:Bs) (pt fr:List Pt) (un:List Ex) (hma:ma=[]) :
    Gives (Qu MI s) (hb,ca,pl,us,pu,po,Qv MI s,re,im,ia,na,hc,pe,ex,sk,ak,pt,fr,un) (DK N s (hb,ca,pl,us,pu,po,ma,re,im,ia,na,hc,pe,ex,sk,ak,pt,fr,un)):=by
  obtain⟨M,rfl⟩: ∃ M,N=M+4:=⟨N - 4,by omega⟩
  have hgl:=Vz s hs
  have hll:=hgl.len
  subst hma
  unfold DK
  have key:Gives (Qu MI s) (hb,ca,pl,us,pu,po,Qv MI s,re,im,ia,na,hc,pe,ex,sk,ak,pt,fr,un) (Jr (M+4) s 2 (hb,ca,pl,us,pu,po,[],re,im,ia,na,hc,pe,ex,sk,ak,pt,fr,un)):=by
    unfold Jr Qu Qv
    rw[Vt _ s hN hs]
    cases h:(CQ s).2 != 0 with
    | true=>simp only[cond_true,h];exact Gives.err h
    | false =>
      simp only[cond_false,bne_self_eq_false]
      refine Gives.run (Abh (mk:=fun l acc=>(hb,ca,pl,us,re,im,ia,na,hc,pe,ex,sk,ak,pt,fr,l,un,acc,po,pu)) (Good 1048576) (fun e=>(MI e).2) (fun e=>(MI e).1)
        (fun e acc=>some (e,(hb,ca,pl,us,pu,po,acc,re,im,ia,na,hc,pe,ex,sk,ak,pt,fr,un))) (fun acc=>some (0,(hb,ca,pl,us,pu,po,acc,re,im,ia,na,hc,pe,ex,sk,ak,pt,fr,un))) ?_ (fun _ _ h=>h.tail) ?_ _ _ [] hgl (by omega) (by simpa using hll)) ?_
      ·intro e r acc hg ha k
       have he:=hg.all e List.mem_cons_self
       obtain⟨q,hq⟩:=kW (ρ :=Int×Info) (M+4) e r hN he
       have hid:=YH (M+4) (elL e).1 hN (oC he (Nat.le_refl _))
       dsimp only[U20]
       simp only[left_eq,Ae,qC,cond_true]
       rw[hq]
       unfold MI
       cases h2:(elL e).2 != 0 with
       | true=>simp only[cond_true,h2]
       | false =>
         simp only[cond_false,bne_self_eq_false]
         rw[Ie]
         dsimp only[U22]
         rw[show decide ((([]:List Bs).length:Int)<2)=true from rfl,cond_true,hid,Ae]
         dsimp only
         cases h3:(idD (elL e).1).2 != 0 with
         | true=>simp only[cond_true,h3]
         | false =>
           have hid2:=YH (M+4) (Cj (elL e).1 6).2.2 hN (AaK (oC he (Nat.le_refl _)) 6).1
           simp only[cond_false,List.nil_append]
           rw[bw (by decide),Ie]
           dsimp only[U22]
           rw[show decide ((([(idD (elL e).1).1]:List Bs).length:Int)<2)=true from rfl,cond_true,hid2,Ae]
           dsimp only
           cases h31:(idD (Cj (elL e).1 6).2.2).2 != 0 with
           | true=>simp only[cond_true,h31]
           | false =>
             simp only[cond_false,List.cons_append,List.nil_append]
             rw[bw (by simp),Ie]
             dsimp only[U22]
             rw[show decide ((([(idD (elL e).1).1,(idD (Cj (elL e).1 6).2.2).1]:List Bs).length:Int)<2)=false from rfl,cond_false]
             simp only[SS,Ae]
             cases h4:Vj (Cj (Cj (elL e).1 6).2.2 6).2.2 != 0 with
             | true=>simp only[cond_true]
             | false =>
               rw[cond_false,cond_false]
               show Ac (chk (decide ((0:Int)<(([(idD (elL e).1).1,(idD (Cj (elL e).1 6).2.2).1]:List Bs).length:Int)))<|chk (decide ((1:Int)<(([(idD (elL e).1).1,(idD (Cj (elL e).1 6).2.2).1]:List Bs).length:Int)))<|chk (decide ((acc.length+1)*33<=140737488355328))<|some _) _=_
               rw[show decide ((0:Int)<(([(idD (elL e).1).1,(idD (Cj (elL e).1 6).2.2).1]:List Bs).length:Int))=true from rfl,show decide ((1:Int)<(([(idD (elL e).1).1,(idD (Cj (elL e).1 6).2.2).1]:List Bs).length:Int))=true from rfl,AP,AP,bw (by omega)]
               rfl
      ·intro acc k
       dsimp only[U20]
       simp only[left_eq,Ae]
       rfl
      ·intro a
       cases h5:AU (fun e=>(MI e).2) (CQ s).1 != 0 with
       | true=>exact Gives.err h5
       | false =>
         have h6:AU (fun e=>(MI e).2) (CQ s).1=0:=by simpa using h5
         rw[h6,cond_false,List.nil_append]
         exact Gives.ok
  obtain⟨j,hj,hj2⟩:=key
  rw[hj]
  exact⟨j,rfl,hj2⟩
def Acv (s:Bs):Int:=bif (CQ s).2 != 0 then(CQ s).2 else Am1 (CQ s).1
theorem AmJ {α :Type} {b:Bool} {x y: α} (h:b=true):(bif b then x else y)=x:=by rw[h];rfl
theorem AeU (N:Nat) (s:Bs) (hN:1048578<N) (hs:s.length<=1048576) (hb ca:Bool) (pl us:Int) (pu po:List Bs) (ma:List (Bs×Bs)) (re im ia:Int) (na:List Gn) (hc:Bool) (pe ex:List Gn) (sk ak:Bs) (pt fr:List Pt) (un:List Ex) (hpu:pu=[]) :
    Gives (Acv s) (hb,ca,pl,us,Ahx (CQ s).1,po,ma,re,im,ia,na,hc,pe,ex,sk,ak,pt,fr,un) (DN N s (hb,ca,pl,us,pu,po,ma,re,im,ia,na,hc,pe,ex,sk,ak,pt,fr,un)):=by
  have hgl:=Vz s hs
  have hll:=hgl.len
  subst hpu
  unfold DN Acv
  rw[Vt _ s hN hs]
  cases h:(CQ s).2 != 0 with
  | true =>
    have h0:((CQ s).2==0)=false:=by simpa using h
    simp only[cond_true,h0]
    exact Gives.err h
  | false =>
    simp only[cond_false]
    refine Gives.ApZ (AhI (mk:=fun l acc err=>(err,hb,ca,pl,us,re,im,ia,na,hc,pe,ex,sk,ak,pt,fr,po,ma,un,l,acc)) (Good 1048576) (fun e=>(WC e).2) (fun e=>(WC e).1)
      (fun acc err=>some (err,(hb,ca,pl,us,acc,po,ma,re,im,ia,na,hc,pe,ex,sk,ak,pt,fr,un))) ?_ ?_ (fun _ _ h=>h.tail) ?_ (N+1) (CQ s).1 [] hgl (by omega) (by simpa using hll)) ?_
    ·intro e r acc hg ha k
     have hid:=YH N (e::r) hN hg
     rw[Alh]at hid
     refine⟨(Cj (e::r) 6).2.2,?_,fun h0=> ?_⟩
     ·dsimp only[U21]
      simp only[left_eq,Option.isSome_some,Option.getD_some,qC,beq_self_eq_true,Bool.true_or,AP,cond_true,hid,Ae]
      rw[bw (by omega)]
      exact AmJ (decide_eq_true (by simp only[List.length_cons];omega))
     ·unfold WC at h0
      unfold Cj
      dsimp only
      cases hb:e.1 != 6 with
      | true=>rw[hb]at h0;cases h0
      | false=>rfl
    ·intro q acc err he k
     have h0:(err==0)=false:=by simpa using he
     dsimp only[U21]
     simp only[left_eq,Option.isSome_some,Option.getD_some,h0,Bool.true_or,Bool.false_or,Bool.not_false,AP,cond_false]
     rfl
    ·intro acc k
     dsimp only[U21]
     simp only[left_eq,Option.isSome_some,Option.getD_some,beq_self_eq_true,Bool.true_or,AP,cond_true]
     rfl
    ·intro a ha
     refine⟨_,rfl,fun h0=> ?_⟩
     rw[ha h0];rfl
section
variable (N:Nat) (s:Bs) (hN:1048578<N) (hs:s.length<=1048576) (hb ca:Bool) (pl us:Int) (pu po:List Bs) (ma:List (Bs×Bs)) (re im ia:Int) (na:List Gn) (hc:Bool) (pe ex:List Gn) (sk ak:Bs) (pt fr:List Pt) (un:List Ex)
include hN hs
def Ak9 (s:Bs):Int:=bif (Dn s).2 != 0 then(Dn s).2 else bif (Vk (Dn s).1 1).2 != 0 then(Vk (Dn s).1 1).2 else
  bif (OB (Be (Dn s).1 1).2.2 2).2 != 0 then(OB (Be (Dn s).1 1).2.2 2).2 else Vj (Be (Be (Dn s).1 1).2.2 2).2.2
theorem AkB (hpl:pl= -1):Gives (Ak9 s) (true,(Vk (Dn s).1 1).1,(OB (Be (Dn s).1 1).2.2 2).1,us,pu,po,ma,re,im,ia,na,hc,pe,ex,sk,ak,pt,fr,un) (EE N s (hb,ca,pl,us,pu,po,ma,re,im,ia,na,hc,pe,ex,sk,ak,pt,fr,un)):=by
  subst hpl
  have hg:=Abc s hs
  unfold EE Ak9
  rw[aP N s hN hs]
  cases h:(Dn s).2 != 0 with
  | true=>simp only[cond_true,h];exact Gives.err h
  | false =>
    simp only[cond_false,bne_self_eq_false,Aie,Ae]
    cases h1:(Vk (Dn s).1 1).2 != 0 with
    | true=>exact Gives.err h1
    | false =>
      simp only[cond_false,WR,Ae]
      have hg1:=(PX hg 1).1
      unfold OB
      cases h2:(Be (Be (Dn s).1 1).2.2 2).2.1 with
      | false =>
        simp only[Bool.not_false,cond_true,cond_false,SS,Ae,bne_self_eq_false]
        exact Gives.ok
      | true =>
        simp only[Bool.not_true,cond_true,cond_false,number_eq N _ hN (oM hg1 2 h2),Ae]
        cases h3:(WB (Be (Be (Dn s).1 1).2.2 2).1.2.1).2 != 0 with
        | true=>exact Gives.err h3
        | false=>simp only[cond_false,SS,Ae];exact Gives.ok
def cU (s:Bs):Bs:=(C9 s 3).1.2.1
def Amj (s:Bs):Int:=bif (C9 s 3).2 != 0 then(C9 s 3).2 else bif (flP (cU s)).2 != 0 then(flP (cU s)).2 else bif (flP (cU s)).1==0 then 7 else 0
theorem Amh:Gives (Amj s) (hb,ca,pl,(flP (cU s)).1,pu,po,ma,re,im,ia,na,hc,pe,ex,sk,ak,pt,fr,un) (EF N s (hb,ca,pl,us,pu,po,ma,re,im,ia,na,hc,pe,ex,sk,ak,pt,fr,un)):=by
  have hl:=Qd s 3
  unfold EF Amj cU
  rw[L8 N s 3 hN hs,Ae]
  cases h:(C9 s 3).2 != 0 with
  | true=>simp only[cond_true];exact Gives.err h
  | false =>
    simp only[cond_false,Z7 N _ hN (show(C9 s 3).1.2.1.length<=1048576 by omega),Ae]
    cases h1:(flP (C9 s 3).1.2.1).2 != 0 with
    | true=>exact Gives.err h1
    | false=>cases h2:(flP (C9 s 3).1.2.1).1==0 with
      | true=>exact Gives.err rfl
      | false=>exact Gives.ok
def Alk (s:Bs):Int:=bif (C9 s 2).2 != 0 then(C9 s 2).2 else(WB (C9 s 2).1.2.1).2
theorem AgM:Gives (Alk s) (hb,ca,pl,us,pu,po,ma,re,im,(WB (C9 s 2).1.2.1).1,na,hc,pe,ex,sk,ak,pt,fr,un) (DU N s (hb,ca,pl,us,pu,po,ma,re,im,ia,na,hc,pe,ex,sk,ak,pt,fr,un)):=by
  have hl:=Qd s 2
  unfold DU Alk
  rw[L8 N s 2 hN hs,Ae]
  cases h:(C9 s 2).2 != 0 with
  | true=>simp only[cond_true];exact Gives.err h
  | false =>
    simp only[cond_false,number_eq N _ hN (show(C9 s 2).1.2.1.length<=1048576 by omega),Ae]
    exact Gives.ok
def AhL (s:Bs):Int:=bif (C9 s 4).2 != 0 then(C9 s 4).2 else bif (C9 s 4).1.2.1==[]then 7 else 0
theorem AhM:Gives (AhL s) (hb,ca,pl,us,pu,po,ma,re,im,ia,na,hc,pe,ex,(C9 s 4).1.2.1,ak,pt,fr,un) (DV N s (hb,ca,pl,us,pu,po,ma,re,im,ia,na,hc,pe,ex,sk,ak,pt,fr,un)):=by
  unfold DV IU AhL
  rw[L8 N s 4 hN hs,Ae]
  cases h:(C9 s 4).2 != 0 with
  | true=>simp only[cond_true];exact Gives.err h
  | false =>
    simp only[cond_false]
    cases h1:(C9 s 4).1.2.1==[]with
    | true=>exact Gives.err rfl
    | false=>exact Gives.ok
def Ak7 (s:Bs):Int:=bif (Dn s).2 != 0 then(Dn s).2 else bif (Cj (Dn s).1 128).2.1 != 0 then(Cj (Dn s).1 128).2.1 else bif (Cj (Dn s).1 128).1.2.1==[]then 7 else Vj (Cj (Dn s).1 128).2.2
theorem Ac6:Gives (Ak7 s) (hb,ca,pl,us,pu,po,ma,re,im,ia,na,hc,pe,ex,sk,(Cj (Dn s).1 128).1.2.1,pt,fr,un) (DC N s (hb,ca,pl,us,pu,po,ma,re,im,ia,na,hc,pe,ex,sk,ak,pt,fr,un)):=by
  unfold DC IU Ak7
  rw[aP N s hN hs]
  cases h:(Dn s).2 != 0 with
  | true=>simp only[cond_true,h];exact Gives.err h
  | false =>
    simp only[cond_false,bne_self_eq_false,xJ,Ae]
    cases h1:(Cj (Dn s).1 128).2.1 != 0 with
    | true=>exact Gives.err h1
    | false =>
      simp only[cond_false]
      cases h2:(Cj (Dn s).1 128).1.2.1==[]with
      | true=>exact Gives.err rfl
      | false=>simp only[cond_false,Ae,bne_self_eq_false,SS];exact Gives.ok
def Al0 (s:Bs):Int:=bif (CQ s).2 != 0 then(CQ s).2 else bif (OB (CQ s).1 128).2 != 0 then(OB (CQ s).1 128).2 else
  bif (OB (Be (CQ s).1 128).2.2 129).2 != 0 then(OB (Be (CQ s).1 128).2.2 129).2 else Vj (Be (Be (CQ s).1 128).2.2 129).2.2
theorem Aj0 (hre:re= -1) (him:im= -1):Gives (Al0 s) (hb,ca,pl,us,pu,po,ma,(OB (CQ s).1 128).1,(OB (Be (CQ s).1 128).2.2 129).1,ia,na,hc,pe,ex,sk,ak,pt,fr,un) (Eh N s (hb,ca,pl,us,pu,po,ma,re,im,ia,na,hc,pe,ex,sk,ak,pt,fr,un)):=by
  subst hre;subst him
  have hg:=Vz s hs
  have hg1:=(PX hg 128).1
  unfold Eh Al0
  rw[Vt N s hN hs]
  cases h:(CQ s).2 != 0 with
  | true=>simp only[cond_true,h];exact Gives.err h
  | false =>
    simp only[cond_false,bne_self_eq_false,WR,Ae,SS]
    have num1:=fun h2=>number_eq N _ hN (oM hg 128 h2)
    have num2:=fun h2=>number_eq N _ hN (oM hg1 129 h2)
    unfold OB
    cases h1:(Be (CQ s).1 128).2.1 with
    | false =>
      simp only[Bool.not_false,cond_true,cond_false,bne_self_eq_false]
      cases h2:(Be (Be (CQ s).1 128).2.2 129).2.1 with
      | false=>simp only[Bool.not_false,cond_true,cond_false,bne_self_eq_false];exact Gives.ok
      | true =>
        simp only[Bool.not_true,cond_true,cond_false,num2 h2,Ae]
        cases h3:(WB (Be (Be (CQ s).1 128).2.2 129).1.2.1).2 != 0 with
        | true=>exact Gives.err h3
        | false=>exact Gives.ok
    | true =>
      simp only[Bool.not_true,cond_true,cond_false,num1 h1,Ae]
      cases h4:(WB (Be (CQ s).1 128).1.2.1).2 != 0 with
      | true=>exact Gives.err h4
      | false =>
        simp only[cond_false]
        cases h2:(Be (Be (CQ s).1 128).2.2 129).2.1 with
        | false=>simp only[Bool.not_false,cond_true,cond_false,bne_self_eq_false];exact Gives.ok
        | true =>
          simp only[Bool.not_true,cond_true,cond_false,num2 h2,Ae]
          cases h3:(WB (Be (Be (CQ s).1 128).2.2 129).1.2.1).2 != 0 with
          | true=>exact Gives.err h3
          | false=>exact Gives.ok
end
end Go.Proofs.YtadefjgbcapakaaGreatDoor.Pl
namespace Go.Proofs.YtadefjgbcapakaaGreatDoor.Pl
open IntKind (i64)
open Go Vm
theorem sS {t:Nat} {c:Bs} (h:c.length<=131072):yV t c=(Sp.elem t c,0):=by
  unfold yV JD
  rw[if_pos h];rfl
structure WE (l:List Pt):Prop where
  ne:l≠ []
  len:l.length<=3
  all: ∀ p∈l,okP p
def psB (l:List Pt):Bs:=Sp.elem 48 (l.map Ef).flatten
theorem AjU {l:List Pt} (h:l.length<=3) (ha: ∀ p∈l,ptI p=0):FY l=0:=by
  unfold FY
  rw[decide_eq_false (by omega),cond_false]
  exact JJ ha
structure ApB (l:List Pt):Prop where
  i0:FY l=0
  i1:FY (l.map ptK)=0
  w0:J7 l=(psB l,0)
  w1:J7 (l.map ptK)=(psB l,0)
  rd:Ah6 (psB l)=(l.map ptK,0)
  len:(psB l).length<=6100
theorem Ut {l:List Pt} (h:WE l):ApB l:=by
  have i0:=AjU h.len fun p hp=>(OV (h.all p hp)).i0
  have i1:FY (l.map ptK)=0:=AjU (by rw[List.length_map];exact h.len) fun q hq=>by
    obtain⟨p,hp,rfl⟩:=List.mem_map.1 hq
    exact(OV (h.all p hp)).i1
  have hl:(l.map Ef).flatten.length<=6015:=by
    have:=Dy (g:=Ef) (M:=2005) (l:=l) fun p hp=>by
      have h1:=(OV (h.all p hp)).len
      have:=Sp.Ar 48 (ptC p)
      show(Sp.elem 48 (ptC p)).length<=_;omega
    have:=h.len
    omega
  have he:(l.map ptK).map Ef=l.map Ef:=by
    rw[List.map_map]
    exact List.map_congr_left fun p hp=>(OV (h.all p hp)).enc
  have n0:l.isEmpty=false:=by cases l with | nil=>exact absurd rfl h.ne | cons a r=>rfl
  have n1:(l.map ptK).isEmpty=false:=by cases l with | nil=>exact absurd rfl h.ne | cons a r=>rfl
  refine⟨i0,i1,?_,?_,?_,?_⟩
  ·unfold J7
   rw[n0,i0,sS (by omega)];rfl
  ·unfold J7
   rw[n1,i1,he,sS (by omega)];rfl
  ·have h2:=E8 (l.map fun p=>(48,ptC p)) (fun q hq=>by
     obtain⟨p,hp,rfl⟩:=List.mem_map.1 hq
     exact Nb 48 _ (by decide) (by decide) (by have:=(OV (h.all p hp)).len;omega))
   rw[List.map_map,List.map_map]at h2
   have h2:AV (l.map Ef).flatten=(l.map fun p=>A8 48 (ptC p),0):=h2
   have o:C9 (psB l) 48=(A8 48 (l.map Ef).flatten,0):=V7 48 _ (by decide) (by decide) (by omega)
   unfold Ah6
   rw[o]
   show(bif (AV (l.map Ef).flatten).2 != 0 then _ else psD (AV (l.map Ef).flatten).1)=_
   rw[h2]
   show psD (l.map fun p=>A8 48 (ptC p))=_
   have e3:AU (fun e=>(elD e).2) (l.map fun p=>A8 48 (ptC p))=0:=JJ fun e he=>by
     obtain⟨p,hp,rfl⟩:=List.mem_map.1 he
     rw[(OV (h.all p hp)).rd]
   have e4:(l.map fun p=>A8 48 (ptC p)).map (fun e=>(elD e).1)=l.map ptK:=by
     rw[List.map_map]
     exact List.map_congr_left fun p hp=>by show(elD _).1=_;rw[(OV (h.all p hp)).rd]
   unfold psD
   rw[e3,e4,i1,show(l.map fun p=>A8 48 (ptC p)).isEmpty=false by cases l with | nil=>exact absurd rfl h.ne | cons a r=>rfl]
   rfl
  ·have:=Sp.Ar 48 (l.map Ef).flatten
   unfold psB;omega
structure okS (s:St2):Prop where
  l0:s.1.length<=3
  l1:s.2.length<=3
  ne:s.1≠ []\/s.2≠ []
  a0: ∀ g∈s.1,okG true g
  a1: ∀ g∈s.2,okG true g
def stK (s:St2):St2:=(s.1.map gnK,s.2.map gnK)
def sbB (s:St2):Bs:=Sp.elem 48 (BQ 160 s.1++BQ 161 s.2)
theorem jF {l:List Gn} (h: ∀ g∈l,okG true g) (h3:l.length<=3):(l.map En).flatten.length<=1890:=by
  have:=Dy (g:=En) (M:=630) (l:=l) fun g hg=>by
    have:=dU (h g hg)
    have:=Sp.Ar 48 (Cc g)
    unfold En;omega
  omega
theorem AjP (t:Nat) {l:List Gn} (h: ∀ g∈l,okG true g) (h3:l.length<=3):(BQ t l).length<=1895:=by
  have:=jF h h3
  have:=Sp.Ar t (l.map En).flatten
  unfold BQ
  cases l.isEmpty with
  | true=>exact Nat.zero_le _
  | false=>rw[cond_false];omega
theorem AjO (t:Nat) {l:List Gn} (h: ∀ g∈l,okG true g):BQ t (l.map gnK)=BQ t l:=by
  have e:(l.map gnK).map En=l.map En:=by
    rw[List.map_map]
    exact List.map_congr_left fun g hg=>by show Sp.elem 48 (Cc (gnK g))=_;rw[(EP (h g hg)).enc];rfl
  unfold BQ
  rw[e]
  cases l<;>rfl
theorem Am5 {s:St2} (h0:s.1.length<=3) (h1:s.2.length<=3) (hn:s.1≠ []\/s.2≠ []) (a0: ∀ g∈s.1,CY g true=0) (a1: ∀ g∈s.2,CY g true=0):Qh s=0:=by
  unfold Qh
  have e:(s.1.isEmpty&&s.2.isEmpty)=false:=by
    rcases hn with h | h
    ·cases hs:s.1 with
     | nil=>exact absurd hs h
     | cons a r=>rfl
    ·cases hs:s.2 with
     | nil=>exact absurd hs h
     | cons a r=>exact Bool.and_false _
  rw[e,decide_eq_false (by omega),decide_eq_false (by omega)]
  show AU _ _=0
  exact JJ fun g hg=>by
    rcases List.mem_append.1 hg with hg | hg
    ·exact a0 g hg
    ·exact a1 g hg
theorem Ot (N:Nat) (l:List Gn) (hN:1048578<N) (h: ∀ g∈l,okG true g) (h0:l≠ []) (h3:l.length<=3):BG N (l.map En).flatten=some (l.map gnK,0):=by
  have hl:=jF h h3
  have h2:=E8 (l.map fun g=>(48,Cc g)) (fun q hq=>by
    obtain⟨g,hg,rfl⟩:=List.mem_map.1 hq
    exact Nb 48 _ (by decide) (by decide) (by have:=dU (h g hg);omega))
  rw[List.map_map,List.map_map]at h2
  have h2:AV (l.map En).flatten=(l.map fun g=>A8 48 (Cc g),0):=h2
  unfold BG
  rw[DZ N _ (by omega) (by omega) (by omega),Ae,h2]
  dsimp only
  rw[show((0:Int) != 0)=false from rfl,cond_false,len0,show(l.map fun g=>A8 48 (Cc g)).isEmpty=false by cases l with | nil=>exact absurd rfl h0 | cons a r=>rfl,cond_false]
  refine(Lc (mk:=fun i acc=>((i:Int),acc)) l (0,[],[]) gnK (fun acc=>some (acc,0)) ?_ ?_ N (by omega)).trans rfl
  ·intro i acc hi ha k
   have hm:=Ad2 (fun g=>A8 48 (Cc g)) l (0,[],[]) (0,[],[]) hi
   have hg:=h _ (getD_mem ((0,[],[]):Gn) hi)
   have hb:=dU hg
   have G:=EP hg
   generalize l.getD i (0,[],[])=g at *
   have h5:=E8 [gnT g] (fun q hq=>by rw[List.mem_singleton.1 hq];exact G.fine)
   have h5:AV (Cc g++[])=([A8 (gnT g).1 (gnT g).2],0):=by rw[tC];exact h5
   rw[List.append_nil]at h5
   have hL:DR N (A8 48 (Cc g)).2.1=some ([A8 (gnT g).1 (gnT g).2],0):=(DZ N (Cc g) (by omega) (by omega) (by omega)).trans (by rw[h5])
   have hD:=Vo N (A8 (gnT g).1 (gnT g).2) true hN (by have:=G.len;show(gnT g).2.length<=_;omega)
   rw[G.rd]at hD
   dsimp only[U2]
   simp (disch:=first | assumption | omega) only[A7,List.length_map,hm,hL]
   show(bif ((48:Nat):Int) != 48 then _ else _)=_
   rw[show(((48:Nat):Int) != 48)=false from rfl,cond_false]
   rw[show((([A8 (gnT g).1 (gnT g).2]:List El).length:Int)==0)=false from rfl,cond_false,show decide ((0:Int)<(([A8 (gnT g).1 (gnT g).2]:List El).length:Int))=true from rfl,AP]
   show Ac (Je N (A8 (gnT g).1 (gnT g).2) true) _=_
   rw[hD,Ae]
   rfl
  ·intro acc k ha
   dsimp only[U2]
   simp (disch:=first | assumption | omega) only[A7,List.length_map]
section
variable (N:Nat) (s c A A':Bs) (P P':List Gn) (h1:NZ N s=some (A8 48 c,0))
include h1
theorem Apg (h2:DR N c=some ([A8 160 A],0)) (h3:BG N A=some (P,0)) (h4:Du N (P,[])=some 0):Ed N s=some ((P,[]),0):=by
  have h2':DR N (A8 48 c).2.1=some ([A8 160 A],0):=h2
  have h3':BG N (([A8 160 A]:List El).getD 0 (0,[],[])).2.1=some (P,0):=h3
  unfold Ed
  simp only[h1,h2',h3',h4,Ae,AP,cond_true,cond_false,Bool.or_not_self,Bool.not_true,Bool.not_false,Bool.true_or,Bool.or_true,show((0:Int) != 0)=false from rfl,show((A8 48 c).1 != 48)=false from rfl,show((([A8 160 A]:List El).getD 0 (0,[],[])).1 != 160)=false from rfl,show AA ([A8 160 A]:List El) 1 ([A8 160 A]:List El).length=[]from rfl,show((([A8 160 A]:List El).length:Int)==0)=false from rfl,show decide ((0:Int)<(([A8 160 A]:List El).length:Int))=true from rfl,show decide ((1:Int)<=(([A8 160 A]:List El).length:Int))=true from rfl,show decide ((([A8 160 A]:List El).length:Int)>0)=true from rfl,show((([]:List El).length:Int)==0)=true from rfl,show decide ((0:Int)<(([]:List El).length:Int))=false from rfl,show decide ((1:Int)<=(([]:List El).length:Int))=false from rfl,show decide ((([]:List El).length:Int)>0)=false from rfl]
theorem Aph (h2:DR N c=some ([A8 161 A],0)) (h3:BG N A=some (P,0)) (h4:Du N ([],P)=some 0):Ed N s=some (([],P),0):=by
  have h2':DR N (A8 48 c).2.1=some ([A8 161 A],0):=h2
  have h3':BG N (([A8 161 A]:List El).getD 0 (0,[],[])).2.1=some (P,0):=h3
  unfold Ed
  simp only[h1,h2',h3',h4,Ae,AP,cond_true,cond_false,Bool.or_not_self,Bool.not_true,Bool.not_false,Bool.true_or,Bool.or_true,show((0:Int) != 0)=false from rfl,show((A8 48 c).1 != 48)=false from rfl,show((([A8 161 A]:List El).getD 0 (0,[],[])).1 != 160)=true from rfl,show((([A8 161 A]:List El).getD 0 (0,[],[])).1 != 161)=false from rfl,show AA ([A8 161 A]:List El) 1 ([A8 161 A]:List El).length=[]from rfl,show((([A8 161 A]:List El).length:Int)==0)=false from rfl,show decide ((0:Int)<(([A8 161 A]:List El).length:Int))=true from rfl,show decide ((1:Int)<=(([A8 161 A]:List El).length:Int))=true from rfl,show decide ((([A8 161 A]:List El).length:Int)>0)=true from rfl,show((([]:List El).length:Int)==0)=true from rfl,show decide ((0:Int)<(([]:List El).length:Int))=false from rfl,show decide ((1:Int)<=(([]:List El).length:Int))=false from rfl,show decide ((([]:List El).length:Int)>0)=false from rfl]
theorem Api (h2:DR N c=some ([A8 160 A,A8 161 A'],0)) (h3:BG N A=some (P,0)) (h5:BG N A'=some (P',0)) (h4:Du N (P,P')=some 0):Ed N s=some ((P,P'),0):=by
  have h2':DR N (A8 48 c).2.1=some ([A8 160 A,A8 161 A'],0):=h2
  have h3':BG N (([A8 160 A,A8 161 A']:List El).getD 0 (0,[],[])).2.1=some (P,0):=h3
  have h5':BG N (([A8 161 A']:List El).getD 0 (0,[],[])).2.1=some (P',0):=h5
  unfold Ed
  simp only[h1,h2',h3',h5',h4,Ae,AP,cond_true,cond_false,Bool.or_not_self,Bool.not_true,Bool.not_false,Bool.true_or,Bool.or_true,show((0:Int) != 0)=false from rfl,show((A8 48 c).1 != 48)=false from rfl,show((([A8 160 A,A8 161 A']:List El).getD 0 (0,[],[])).1 != 160)=false from rfl,show((([A8 161 A']:List El).getD 0 (0,[],[])).1 != 161)=false from rfl,show AA ([A8 160 A,A8 161 A']:List El) 1 ([A8 160 A,A8 161 A']:List El).length=[A8 161 A']from rfl,show AA ([A8 161 A']:List El) 1 ([A8 161 A']:List El).length=[]from rfl,show((([A8 160 A,A8 161 A']:List El).length:Int)==0)=false from rfl,show decide ((0:Int)<(([A8 160 A,A8 161 A']:List El).length:Int))=true from rfl,show decide ((1:Int)<=(([A8 160 A,A8 161 A']:List El).length:Int))=true from rfl,show decide ((([A8 160 A,A8 161 A']:List El).length:Int)>0)=true from rfl,show((([A8 161 A']:List El).length:Int)==0)=false from rfl,show decide ((0:Int)<(([A8 161 A']:List El).length:Int))=true from rfl,show decide ((1:Int)<=(([A8 161 A']:List El).length:Int))=true from rfl,show decide ((([A8 161 A']:List El).length:Int)>0)=true from rfl,show((([]:List El).length:Int)==0)=true from rfl,show decide ((0:Int)<(([]:List El).length:Int))=false from rfl,show decide ((1:Int)<=(([]:List El).length:Int))=false from rfl,show decide ((([]:List El).length:Int)>0)=false from rfl]
end
structure ApI (N:Nat) (s:St2):Prop where
  i0:Qh s=0
  i1:Qh (stK s)=0
  w0:Pj s=(sbB s,0)
  w1:Pj (stK s)=(sbB s,0)
  rd:Ed N (sbB s)=some (stK s,0)
  len:(sbB s).length<=3800
theorem wR (N:Nat) {s:St2} (hN:1048578<N) (h:okS s):ApI N s:=by
  have i0:=Am5 h.l0 h.l1 h.ne (fun g hg=>(EP (h.a0 g hg)).i0) (fun g hg=>(EP (h.a1 g hg)).i0)
  have i1:Qh (stK s)=0:=Am5 (s:=stK s) (by unfold stK;rw[List.length_map];exact h.l0) (by unfold stK;rw[List.length_map];exact h.l1)
    (h.ne.imp (fun h' h''=>h' (List.map_eq_nil_iff.1 h'')) (fun h' h''=>h' (List.map_eq_nil_iff.1 h'')))
    (fun q hq=>by obtain⟨g,hg,rfl⟩:=List.mem_map.1 hq;exact(EP (h.a0 g hg)).i1) (fun q hq=>by obtain⟨g,hg,rfl⟩:=List.mem_map.1 hq;exact(EP (h.a1 g hg)).i1)
  have hl0:=AjP 160 h.a0 h.l0
  have hl1:=AjP 161 h.a1 h.l1
  have hl:(BQ 160 s.1++BQ 161 s.2).length<=3790:=by rw[List.length_append];omega
  have hK:BQ 160 (stK s).1++BQ 161 (stK s).2=BQ 160 s.1++BQ 161 s.2:=by
    show BQ 160 (s.1.map gnK)++BQ 161 (s.2.map gnK)=_
    rw[AjO 160 h.a0,AjO 161 h.a1]
  refine⟨i0,i1,?_,?_,?_,?_⟩
  ·unfold Pj
   rw[i0,sS (by omega)];rfl
  ·unfold Pj
   rw[i1,hK,sS (by omega)];rfl
  ·have o:=qA 48 _ (by decide) (by decide) (show(BQ 160 s.1++BQ 161 s.2).length<=131072 by omega)
   have o2:=(Pq N (sbB s) (by omega) (by have:=Sp.Ar 48 (BQ 160 s.1++BQ 161 s.2);unfold sbB;omega)).trans (congrArg some o)
   have ck:=NF N (stK s) hN (fun q hq=>by obtain⟨g,hg,rfl⟩:=List.mem_map.1 hq;exact(EP (h.a0 g hg)).s1) (fun q hq=>by obtain⟨g,hg,rfl⟩:=List.mem_map.1 hq;exact(EP (h.a1 g hg)).s1)
   rw[i1]at ck
   have t0:=jF h.a0 h.l0
   have t1:=jF h.a1 h.l1
   have f0:=Nb 160 (s.1.map En).flatten (by decide) (by decide) (by omega)
   have f1:=Nb 161 (s.2.map En).flatten (by decide) (by decide) (by omega)
   have dl:=fun hc:(BQ 160 s.1++BQ 161 s.2).length<=1048576=>DZ N (BQ 160 s.1++BQ 161 s.2) (by omega) (by omega) (by omega)
   have dl:=dl (by omega)
   by_cases e0:s.1=[]
   ·have e1:s.2≠ []:=h.ne.resolve_left fun h'=>h' e0
    have n1:s.2.isEmpty=false:=by cases hs:s.2 with | nil=>exact absurd hs e1 | cons a r=>rfl
    have hc:BQ 160 s.1++BQ 161 s.2=([(161,(s.2.map En).flatten)].map fun p=>Sp.elem p.1 p.2).flatten:=by
      unfold BQ;rw[e0,n1];simp
    have le:=E8 [(161,(s.2.map En).flatten)] (fun q hq=>by rw[List.mem_singleton.1 hq];exact f1)
    rw[<- hc]at le
    rw[le]at dl
    have hk:stK s=([],s.2.map gnK):=by unfold stK;rw[e0];rfl
    rw[hk]at ck ⊢
    exact Aph N _ _ _ _ o2 dl (Ot N s.2 hN h.a1 e1 h.l1) ck
   ·have n0:s.1.isEmpty=false:=by cases hs:s.1 with | nil=>exact absurd hs e0 | cons a r=>rfl
    by_cases e1:s.2=[]
    ·have hc:BQ 160 s.1++BQ 161 s.2=([(160,(s.1.map En).flatten)].map fun p=>Sp.elem p.1 p.2).flatten:=by
       unfold BQ;rw[e1,n0];simp
     have le:=E8 [(160,(s.1.map En).flatten)] (fun q hq=>by rw[List.mem_singleton.1 hq];exact f0)
     rw[<- hc]at le
     rw[le]at dl
     have hk:stK s=(s.1.map gnK,[]):=by unfold stK;rw[e1];rfl
     rw[hk]at ck ⊢
     exact Apg N _ _ _ _ o2 dl (Ot N s.1 hN h.a0 e0 h.l0) ck
    ·have n1:s.2.isEmpty=false:=by cases hs:s.2 with | nil=>exact absurd hs e1 | cons a r=>rfl
     have hc:BQ 160 s.1++BQ 161 s.2=([(160,(s.1.map En).flatten),(161,(s.2.map En).flatten)].map fun p=>Sp.elem p.1 p.2).flatten:=by
       unfold BQ;rw[n0,n1];simp
     have le:=E8 [(160,(s.1.map En).flatten),(161,(s.2.map En).flatten)] (fun q hq=>by
       rcases List.mem_cons.1 hq with rfl | hq
       ·exact f0
       ·rw[List.mem_singleton.1 hq];exact f1)
     rw[<- hc]at le
     rw[le]at dl
     exact Api N _ _ _ _ _ _ o2 dl (Ot N s.1 hN h.a0 e0 h.l0) (Ot N s.2 hN h.a1 e1 h.l1) ck
  ·have:=Sp.Ar 48 (BQ 160 s.1++BQ 161 s.2)
   unfold sbB;omega
end Go.Proofs.YtadefjgbcapakaaGreatDoor.Pl
namespace Go.Proofs.YtadefjgbcapakaaGreatDoor.Pl
open IntKind (i64)
open Go Vm
structure AnI (pl us re im ia:Int) (pu po:List Bs) (ma:List (Bs×Bs)) (na:List Gn) (hc:Bool) (s:St2) (sk ak:Bs) (pt fr:List Pt):Prop where
  sp:spI pl=true/\spI re=true/\spI im=true/\spI ia=true
  us:0<=us/\us<512
  pu:pu.length<=8/\ ∀ s∈pu,EI s=true
  po:po.length<=8/\ ∀ s∈po,EI s=true
  ma:ma.length<=8/\ ∀ m∈ma,EI m.1=true/\EI m.2=true
  na:na.length<=16/\AU (fun g=>CY g false) na=0
  con:Y7 hc s=0
  sk:sk.length<=32
  ak:ak.length<=32
  pt:FY pt=0
  fr:FY fr=0
theorem Ad6 {α :Type} {l:List α} {x: α} (d: α) (h:x∈l): ∃ i,i<l.length/\l.getD i d=x:=by
  obtain⟨i,hi,he⟩:=List.mem_iff_getElem.1 h
  exact⟨i,hi,by rw[getD_lt l i d hi];exact he⟩
theorem Af9 {l:List Bs} (h:Wv l 8=0):l.length<=8/\ ∀ s∈l,EI s=true:=by
  unfold Wv at h
  cases h1:decide ((l.length:Int)>8)with
  | true=>rw[h1]at h;cases h
  | false =>
    rw[h1,cond_false]at h
    have:=of_decide_eq_false h1
    refine⟨by omega,fun s hs=> ?_⟩
    obtain⟨i,hi,rfl⟩:=Ad6 [] hs
    have hi0:=NU h i (List.mem_range.2 hi)
    unfold idI at hi0
    cases hv:EI (l.getD i [])with
    | true=>rfl
    | false=>rw[hv]at hi0;cases hi0
theorem Anf {l:List (Bs×Bs)} (h:fM l=0):l.length<=8/\ ∀ m∈l,EI m.1=true/\EI m.2=true:=by
  unfold fM at h
  cases h1:decide (8<l.length)with
  | true=>rw[h1]at h;cases h
  | false =>
    rw[h1,cond_false]at h
    have:=of_decide_eq_false h1
    refine⟨by omega,fun s hs=> ?_⟩
    obtain⟨i,hi,rfl⟩:=Ad6 ([],[]) hs
    have hi0:=NU h i (List.mem_range.2 hi)
    unfold mpI at hi0
    cases hv:EI (l.getD i ([],[])).1<;>cases hv2:EI (l.getD i ([],[])).2<;>rw[hv,hv2]at hi0<;>first | exact⟨rfl,rfl⟩ | cases hi0
theorem AcA {b:Bool} {x y:Int} (h:(bif b then x else y)=0) (hx:x≠0):b=false/\y=0:=by
  cases b with
  | true=>exact absurd h hx
  | false=>exact⟨rfl,h⟩
theorem mM {e y:Int} (h:(bif e != 0 then e else y)=0):e=0/\y=0:=by
  by_cases he:e=0
  ·subst he;exact⟨rfl,h⟩
  ·rw[show(e != 0)=true from bne_iff_ne.2 he]at h;exact absurd h he
theorem Alj {hb ca:Bool} {pl us:Int} {pu po:List Bs} {ma:List (Bs×Bs)} {re im ia:Int} {na:List Gn} {hc:Bool} {pe ex:List Gn} {sk ak:Bs} {pt fr:List Pt} {un:List Ex} (h:J3 (hb,ca,pl,us,pu,po,ma,re,im,ia,na,hc,pe,ex,sk,ak,pt,fr,un)=0) :
    AnI pl us re im ia pu po ma na hc (pe,ex) sk ak pt fr/\(ca=true->hb=true)/\(pl≠ -1->ca=true)/\Aay un=0/\un.length+(oN (hb,ca,pl,us,pu,po,ma,re,im,ia,na,hc,pe,ex,sk,ak,pt,fr,un)).count true<=24:=by
  unfold J3 at h
  dsimp only at h
  obtain⟨h1,h⟩:=AcA h (by decide)
  obtain⟨h2,h⟩:=AcA h (by decide)
  obtain⟨h3,h⟩:=mM h
  obtain⟨h4,h⟩:=mM h
  obtain⟨h5,h⟩:=mM h
  obtain⟨h6,h⟩:=AcA h (by decide)
  obtain⟨h7,h⟩:=mM h
  obtain⟨h8,h⟩:=mM h
  obtain⟨h9,h⟩:=AcA h (by decide)
  obtain⟨h10,h⟩:=mM h
  obtain⟨h11,h⟩:=mM h
  obtain⟨h12,h⟩:=AcA h (by decide)
  simp only[Bool.or_eq_false_iff,Bool.not_eq_false',decide_eq_false_iff_not]at h2 h9 h6 h12
  obtain⟨⟨⟨⟨⟨g1,g2⟩,g3⟩,g4⟩,g5⟩,g6⟩:=h2
  refine⟨⟨⟨g1,g2,g3,g4⟩,by omega,Af9 h3,Af9 h4,Anf h5,⟨by omega,h7⟩,h8,by omega,by omega,h10,h11⟩,?_,?_,h,by omega⟩
  ·intro hca
   subst hca
   cases hb with
   | true=>rfl
   | false=>cases h1
  ·intro hpl
   rw[show(pl != -1)=true from bne_iff_ne.2 hpl]at h1
   cases ca with
   | true=>rfl
   | false=>simp at h1
def BJ (s:Bs):Bs:=Sp.elem 6 (FX s)
def KL (ca:Bool) (pl:Int):Bs:=Sp.elem 48 ((bif ca then Sp.elem 1 [255]else [])++(bif pl != -1 then Sp.elem 2 (inB pl)else []))
def Ub (l:List Bs):Bs:=Sp.elem 48 (l.map BJ).flatten
def Ur (l:List Bs):Bs:=Sp.elem 48 (l.map fun s=>Sp.elem 48 (BJ s)).flatten
def Uf (l:List (Bs×Bs)):Bs:=Sp.elem 48 (l.map fun m=>Sp.elem 48 (BJ m.1++BJ m.2)).flatten
def YP (re im:Int):Bs:=Sp.elem 48 ((bif re != -1 then Sp.elem 128 (inB re)else [])++(bif im != -1 then Sp.elem 129 (inB im)else []))
def Em:Info->List (Bool×Bool×Ex)
  | (hb,ca,pl,us,pu,po,ma,re,im,ia,na,hc,pe,ex,sk,ak,pt,fr,_) =>
    [(hb,false,[50,46,53,46,50,57,46,49,57],true,KL ca pl),
     (us != 0,false,[50,46,53,46,50,57,46,49,53],true,Sp.elem 3 (flB us)),
     (decide (((pu.length:Nat):Int)>0),false,[50,46,53,46,50,57,46,51,55],false,Ub pu),
     (decide (((po.length:Nat):Int)>0),false,[50,46,53,46,50,57,46,51,50],false,Ur po),
     (decide (((ma.length:Nat):Int)>0),false,[50,46,53,46,50,57,46,51,51],true,Uf ma),
     (re != -1||im != -1,false,[50,46,53,46,50,57,46,51,54],true,YP re im),
     (ia != -1,false,[50,46,53,46,50,57,46,53,52],true,Sp.elem 2 (inB ia)),
     (decide (((na.length:Nat):Int)>0),false,[50,46,53,46,50,57,46,49,55],false,Sp.elem 48 (BD na)),
     (hc,(Pj (pe,ex)).2 != 0,[50,46,53,46,50,57,46,51,48],true,(Pj (pe,ex)).1),
     (!(sk==[]),false,[50,46,53,46,50,57,46,49,52],false,Sp.elem 4 sk),
     (!(ak==[]),false,[50,46,53,46,50,57,46,51,53],false,Sp.elem 48 (Sp.elem 128 ak)),
     (decide (((pt.length:Nat):Int)>0),(J7 pt).2 != 0,[50,46,53,46,50,57,46,51,49],false,(J7 pt).1),
     (decide (((fr.length:Nat):Int)>0),(J7 fr).2 != 0,[50,46,53,46,50,57,46,52,54],false,(J7 fr).1)]
abbrev noX:Bool×Bool×Ex:=(false,false,[],false,[])
def O6 (r:Bool×Bool×Ex):List Ex:=bif r.1 then [r.2.2]else []
def mJ (r:Bool×Bool×Ex):Bool:=r.1&&r.2.1
def encI (x:Info):List Ex×Int:=bif J3 x != 0 then([],J3 x)else bif (Em x).any mJ then([],2)else((Em x).flatMap O6++x.2.2.2.2.2.2.2.2.2.2.2.2.2.2.2.2.2.2,0)
section
variable (N:Nat) (hN:1048578<N)
include hN
theorem Aid (b:Bool) {n:Int} (h:spI n=true):Jc N b n=some (Sp.elem 2 (inB n),b):=by
  obtain⟨h1,_,h3⟩:=MX N n hN h
  have w:Aj N b 2 [inB n]=_:=NI N 2 b [inB n] (by omega) (by omega) hN (by simp) (by rw[CU];omega)
  rw[CU]at w
  unfold Jc
  rw[h1,Ae,w,Ae]
theorem Am7 (b v:Bool):Ip N b 1 v=some (bif v then Sp.elem 1 [255]else [],b):=by
  unfold Ip
  cases v with
  | false=>rfl
  | true =>
    have w:Aj N b 1 [[255]]=_:=NI N 1 b [[255]] (by omega) (by omega) hN (by simp) (by simp)
    show Ac (Aj N b 1 [[255]]) _=_
    rw[w,Ae];rfl
theorem AmY {n:Int} (h:spI n=true):(inB n).length<=2:=(MX N n hN h).2.2
theorem AeV (b:Bool) (x:Info) (h:spI x.2.2.1=true):FO N b x=some (KL x.2.1 x.2.2.1,b):=by
  obtain⟨hb,ca,pl,us,pu,po,ma,re,im,ia,na,hc,pe,ex,sk,ak,pt,fr,un⟩:=x
  have h:spI pl=true:=h
  have hi:=AmY N hN h
  have he:=Sp.Ar 2 (inB pl)
  unfold FO
  try simp only[clR]
  simp only[GL]
  have fin: ∀ t:Bs,t.length<=10->(Ac (Ip N b 1 ca) fun r17=>Ac (AZ N r17.snd [r17.fst,t]) fun r20=>some (r20.fst,r20.snd))=some (Sp.elem 48 ((bif ca then Sp.elem 1 [255]else [])++t),b):=by
    intro t ht
    rw[Am7 N hN,Ae]
    dsimp only
    unfold AZ
    have hl:((bif ca then Sp.elem 1 [255]else []):Bs).length<=10:=by cases ca<;>decide
    have w:Aj N b 48 [bif ca then Sp.elem 1 [255]else [],t]=_:=NI N 48 b [bif ca then Sp.elem 1 [255]else [],t] (by omega) (by omega) hN (by simp) (by rw[Sj,List.length_append];omega)
    rw[w,Ae,Ae,Sj]
  unfold KL
  cases hp:pl != -1 with
  | true =>
    rw[cond_true,cond_true,Aid N hN b h,Ae]
    exact fin (Sp.elem 2 (inB pl)) (by omega)
  | false=>exact fin [] (by simp)
theorem AeX (b:Bool) (x:Info) (h:0<=x.2.2.2.1/\x.2.2.2.1<512):FQ N b x=some (Sp.elem 3 (flB x.2.2.2.1),b):=by
  have hl:=yX h
  unfold FQ
  rw[(VH N _ hN h.1 h.2).1,Ae,JR,Ae]
  have w:Aj N b 3 [flB x.2.2.2.1]=_:=NI N 3 b [flB x.2.2.2.1] (by omega) (by omega) hN (by simp) (by rw[CU];omega)
  rw[CU]at w
  show Ac (Aj N (b||false) 3 [flB x.2.2.2.1]) _=_
  rw[Bool.or_false,w,Ae]
theorem Zb (b:Bool) {s:Bs} (hs:FK s) (h:EI s=true):Gy N b s=some (BJ s,b):=by
  obtain⟨o1,o2⟩:=iW h
  unfold Gy
  rw[Zz N s (by omega) hs,o1,Ae,JR,Ae]
  have w:Aj N b 6 [FX s]=_:=NI N 6 b [FX s] (by omega) (by omega) hN (by simp) (by rw[CU];omega)
  rw[CU]at w
  show Ac (Aj N (b||false) 6 [FX s]) _=_
  rw[Bool.or_false,w,Ae];rfl
omit hN in
theorem NC {s:Bs} (h:EI s=true):(BJ s).length<=65:=by
  have:=(iW h).2
  have:=Sp.Ar 6 (FX s)
  unfold BJ;omega
theorem gV (b:Bool) (l:List Bs) (hl:l.length<=1000) (hs:l.flatten.length<=131072):AZ N b l=some (Sp.elem 48 l.flatten,b):=by
  unfold AZ
  have w:Aj N b 48 l=_:=NI N 48 b l (by omega) (by omega) hN hl hs
  rw[w,Ae]
theorem Aal (b:Bool) (x:Info) (hs: ∀ s∈x.2.2.2.2.1,FK s) (h:x.2.2.2.2.1.length<=8/\ ∀ s∈x.2.2.2.2.1,EI s=true):Et N b x=some (Ub x.2.2.2.2.1,b):=by
  unfold Et Ub
  try simp only[clR]
  generalize x.2.2.2.2.1=l at *
  have hl:=Dy (g:=BJ) (M:=65) (l:=l) (fun s hm=>NC (h.2 s hm))
  refine(Lc (mk:=fun i a=>((i:Int),b,a)) l [] BJ (fun a=>Ac (AZ N b a) fun r=>some (r.1,r.2)) ?_ ?_ N (by omega)).trans ?_
  ·intro i a hi ha k
   have hp:=Zb N hN b (hs _ (getD_mem [] hi)) (h.2 _ (getD_mem [] hi))
   simp (disch:=first | assumption | omega) only[A7,hp,BU]
  ·intro a k ha
   simp (disch:=first | assumption | omega) only[A7]
  ·rw[gV N hN b _ (by rw[List.length_map];omega) (by omega),Ae]
theorem Aak (b:Bool) (x:Info) (hs: ∀ s∈x.2.2.2.2.2.1,FK s) (h:x.2.2.2.2.2.1.length<=8/\ ∀ s∈x.2.2.2.2.2.1,EI s=true):Es N b x=some (Ur x.2.2.2.2.2.1,b):=by
  unfold Es Ur
  try simp only[clR]
  generalize x.2.2.2.2.2.1=l at *
  have hl:=Dy (g:=fun s=>Sp.elem 48 (BJ s)) (M:=70) (l:=l) (fun s hm=>by have:=NC (h.2 s hm);have:=Sp.Ar 48 (BJ s);omega)
  refine(Lc (mk:=fun i a=>((i:Int),b,a)) l [] (fun s=>Sp.elem 48 (BJ s)) (fun a=>Ac (AZ N b a) fun r=>some (r.1,r.2)) ?_ ?_ N (by omega)).trans ?_
  ·intro i a hi ha k
   have hv:=h.2 _ (getD_mem [] hi)
   have hp:=Zb N hN b (hs _ (getD_mem [] hi)) hv
   have hq:=gV N hN b [BJ (l.getD i [])] (by simp) (by rw[CU];have:=NC hv;omega)
   rw[CU]at hq
   simp (disch:=first | assumption | omega) only[A7,hp,hq,BU]
  ·intro a k ha
   simp (disch:=first | assumption | omega) only[A7]
  ·rw[gV N hN b _ (by rw[List.length_map];omega) (by omega),Ae]
theorem Aaj (b:Bool) (x:Info) (hs: ∀ s∈x.2.2.2.2.2.2.1,Aeb s) (h:x.2.2.2.2.2.2.1.length<=8/\ ∀ m∈x.2.2.2.2.2.2.1,EI m.1=true/\EI m.2=true):Ep N b x=some (Uf x.2.2.2.2.2.2.1,b):=by
  unfold Ep Uf
  try simp only[clR]
  generalize x.2.2.2.2.2.2.1=l at *
  have hl:=Dy (g:=fun m:Bs×Bs=>Sp.elem 48 (BJ m.1++BJ m.2)) (M:=135) (l:=l) (fun m hm=>by have:=NC (h.2 m hm).1;have:=NC (h.2 m hm).2;have:=Sp.Ar 48 (BJ m.1++BJ m.2);rw[List.length_append]at this;omega)
  refine(Lc (mk:=fun i a=>((i:Int),b,a)) l ([],[]) (fun m=>Sp.elem 48 (BJ m.1++BJ m.2)) (fun a=>Ac (AZ N b a) fun r=>some (r.1,r.2)) ?_ ?_ N (by omega)).trans ?_
  ·intro i a hi ha k
   have hv:=h.2 _ (getD_mem ([],[]) hi)
   have hsm:=hs _ (getD_mem ([],[]) hi)
   have hp:=Zb N hN b hsm.1 hv.1
   have hp2:=Zb N hN b hsm.2 hv.2
   have hq:=gV N hN b [BJ (l.getD i ([],[])).1,BJ (l.getD i ([],[])).2] (by simp) (by rw[Sj,List.length_append];have:=NC hv.1;have:=NC hv.2;omega)
   rw[Sj]at hq
   simp (disch:=first | assumption | omega) only[A7,hp,hp2,hq,BU]
  ·intro a k ha
   simp (disch:=first | assumption | omega) only[A7]
  ·rw[gV N hN b _ (by rw[List.length_map];omega) (by omega),Ae]
end
