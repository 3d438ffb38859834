import Derived.Test.YtadefjgbcapakaaGreatDoorA22
set_option linter.all false
namespace Go.Proofs.YtadefjgbcapakaaGreatDoor.Pl
open IntKind (i64)
open Go Vm
theorem Aos (a b:Nat) (hb:b<256):(a*256) ||| b=a*256+b:=by
  rw[show a*256=a <<< 8 by rw[Nat.shiftLeft_eq],<- Nat.shiftLeft_add_eq_or_of_lt (by omega:b<2 ^ 8)]
theorem ori (x b:Int) (h1: -36028797018963968<=x) (h2:x<36028797018963968) (h3:0<=b) (h4:b<256):Bi .or .i64 (i64.wrap (x*256)) (i64.wrap b)=x*256+b:=by
  rw[w64 (by omega) (by omega),w64 (by omega) (by omega)]
  have e1:(BitVec.ofInt 64 (x*256)).toNat=((x*256) % 18446744073709551616).toNat:=by simp [BitVec.toNat_ofInt]
  have e2:(BitVec.ofInt 64 b).toNat=b.toNat:=by rw[BitVec.toNat_ofInt];omega
  show i64.wrap (((BitVec.ofInt 64 (x*256)) ||| (BitVec.ofInt 64 b)).toNat:Int)=_
  rw[BitVec.toNat_or,e1,e2,show((x*256) % 18446744073709551616).toNat=(x % 72057594037927936).toNat*256 by omega,Aos _ _ (by omega),IntKind.wrap_i64]
  omega
theorem Aqj: ∀(l:Bs) (k:Nat) (v:Int),k+l.length<=7-> -(128*256 ^ k)<=v->v<128*256 ^ k ->
    l.foldl (fun acc b=>Bi .or .i64 (i64.wrap (acc*256)) (i64.wrap (b.toNat:Int))) v=Sp.be v l:=by
  intro l
  induction l with
  | nil=>intro k v _ _ _;rfl
  | cons b r ih =>
    intro k v hk h1 h2
    simp only[List.length_cons]at hk
    have hb:=b.toNat_lt
    have hp:=Sp.AkR (show k<=6 by omega)
    have h6:(256:Int) ^ 6=281474976710656:=by decide
    rw[List.foldl_cons,ori _ _ (by omega) (by omega) (by omega) (by omega),Sp.AnK]
    have hs:(256:Int) ^ (k+1)=256 ^ k*256:=Int.pow_succ ..
    exact ih (k+1) _ (by omega) (by omega) (by omega)
theorem Ah8 {S:Type} (g:S->UInt8->S) (l:Bs) (a:S):(List.range l.length).foldl (fun s i=>g s (l.getD i 0)) a=l.foldl g a:=by
  have e:(List.range l.length).map (fun i=>l.getD i 0)=l:=by
    apply List.ext_getElem (by simp)
    intro i h1 h2
    simp [List.getD_eq_getElem?_getD,h2]
  conv=>rhs;rw[<- e,List.foldl_map]
theorem ApB (a:UInt8):i64.wrap (IntKind.i8.wrap (a.toNat:Int))=Sp.uD a:=by
  have: ∀ a:Fin 256,i64.wrap (IntKind.i8.wrap (a.val:Int))=if a.val<128 then(a.val:Int)else(a.val:Int) - 256:=by decide +kernel
  exact this ⟨a.toNat,a.toNat_lt⟩
theorem AbS (N:Nat) (a:UInt8) (r:Bs) (hN:16<N) (hr:r.length<=7):Am (X:=Int×Int) (Y:=Int) (U2 fun t4a t43a k11 x12 =>
    bif decide (t43a<(i64.wrap (((a::r).length:Int) - (1:Int))))then(chk (decide ((0:Int)<=i64.wrap (t43a+(1:Int)))) <|
    chk (decide (i64.wrap (t43a+(1:Int))<((a::r).length:Int))) <|
    k11 (Bi .or .i64 (i64.wrap (t4a*(256))) (i64.wrap (((a::r).getD ((i64.wrap (t43a+(1:Int))).toNat) 0).toNat:Int)),i64.wrap (t43a+(1:Int))))
    else(x12 t4a))
    N (i64.wrap (IntKind.i8.wrap (a.toNat:Int)),0) (fun t4b=>some (t4b,0))=some (Sp.be (Sp.uD a) r,(0:Int)):=by
  have hl:((a::r).length:Int)=(r.length:Int)+1:=by simp
  refine(Uz (fun i acc=>(acc,(i:Int))) r.length (fun i acc=>Bi .or .i64 (i64.wrap (acc*256)) (i64.wrap ((r.getD i 0).toNat:Int))) (fun acc=>some (acc,0)) ?_ ?_ N _ (by omega)).trans ?_
  ·intro i acc hi k
   dsimp only[U2]
   rw[hl]
   have e:(((i:Int)+1)).toNat=i+1:=by omega
   simp (disch:=first | assumption | omega) only[Aq,e,List.getD_cons_succ]
   rfl
  ·intro acc k
   dsimp only[U2]
   rw[hl]
   simp (disch:=first | assumption | omega) only[Aq]
  ·have:=ApB a
   rw[this,Ah8 (fun acc b=>Bi .or .i64 (i64.wrap (acc*256)) (i64.wrap (b.toNat:Int)))]
   have hs:=Sp.AiE a
   rw[Aqj r 0 _ (by omega) (by omega) (by omega)]
theorem bad_eq (a b:UInt8) (r:Bs):Sp.uU (a::b::r)=((((a.toNat:Int)==0)&&decide ((b.toNat:Int)<128))||(((a.toNat:Int)==255)&& !decide ((b.toNat:Int)<128))):=by
  have e1:((a.toNat:Int)==0)=decide (a.toNat=0):=by rw[Bool.eq_iff_iff];simp
  have e2:((a.toNat:Int)==255)=decide (a.toNat=255):=by rw[Bool.eq_iff_iff];simp;omega
  have e3:decide ((b.toNat:Int)<128)=decide (b.toNat<128):=by rw[Bool.eq_iff_iff];simp;omega
  rw[e1,e2,e3]
  show(_||_&&decide (128<=b.toNat))=_
  rw[show decide (128<=b.toNat)= !decide (b.toNat<128) by rw[Bool.eq_iff_iff];simp]
theorem yH (N:Nat) (s:Bs) (hN:16<N) (hs:s.length<=1048576):LD N s=some (Sp.integer s):=by
  match s with
  | []=>rfl
  | [a] =>
    have hlo:=AbS N a [] hN (by simp)
    have d1:decide (([a].length:Int)>1)=false:=by simp
    have d2:decide ((0:Int)<([a].length:Int))=true:=by simp
    have d4:decide (([a].length:Int)>8)=false:=by simp
    have e1:([a]==([]:Bs))=false:=by simp
    unfold LD
    have hi:Sp.integer [a]=(Sp.be (Sp.uD a) [],0):=by simp [Sp.integer,Sp.uU,Sp.Akk]
    rw[hi]
    have d3:decide ((1:Int)<([a].length:Int))=false:=by simp
    simp only[List.getD_cons_zero,d1,d2,d3,d4,e1]
    generalize ((a.toNat:Int)==0)=X
    generalize ((a.toNat:Int)==255)=Z
    cases X<;>cases Z<;>exact Eq.trans (by kernel_rfl) hlo
  | a::b::r =>
    have e1:((a::b::r)==([]:Bs))=false:=rfl
    have hl:((a::b::r).length:Int)=(r.length:Int)+2:=by simp;omega
    have hg:decide ((b.toNat:Int)>=128)= !decide ((b.toNat:Int)<128):=by rw[Bool.eq_iff_iff];simp
    unfold LD
    simp only[e1,hg,List.getD_cons_zero,List.getD_cons_succ]
    have hlo:=AbS N a (b::r) hN
    unfold Sp.integer
    rw[bad_eq]
    have d1:decide (((a::b::r).length:Int)>1)=true:=decide_eq_true (by omega)
    have d2:decide ((0:Int)<((a::b::r).length:Int))=true:=decide_eq_true (by omega)
    have d3:decide ((1:Int)<((a::b::r).length:Int))=true:=decide_eq_true (by omega)
    simp only[d1,d2,d3]
    generalize ((a.toNat:Int)==0)=X
    generalize decide ((b.toNat:Int)<128)=Y
    generalize ((a.toNat:Int)==255)=Z
    by_cases h8:(a::b::r).length<=8
    ·have hlo:=hlo (by simpa using h8)
     have d4:decide (((a::b::r).length:Int)>8)=false:=decide_eq_false (by omega)
     have d5: ¬ 8<(a::b::r).length:=by omega
     rw[d4,if_neg d5]
     cases X<;>cases Y<;>cases Z<;>first | rfl | exact hlo
    ·have d4:decide (((a::b::r).length:Int)>8)=true:=decide_eq_true (by omega)
     have d5:8<(a::b::r).length:=by omega
     rw[d4,if_pos d5]
     cases X<;>cases Y<;>cases Z<;>rfl
def Cj (l:List El) (t:Int):El×Int×List El:=match l with
  | []=>((0,[],[]),3,[])
  | e::r=>bif e.1 != t then((0,[],[]),5,e::r)else(e,0,r)
theorem AqM (e:El) (r:List El):AB (e::r) 1 (e::r).length=r:=by
  show((e::r).take (e::r).length).drop 1=r
  rw[List.take_length];rfl
theorem zT (N:Nat) (l:List El) (t:Int):Fv N l t=some (Cj l t):=by
  cases l with
  | nil=>rfl
  | cons e r =>
    have h1:decide (((e::r).length:Int)>(0:Int))=true:=decide_eq_true (by simp only[List.length_cons];omega)
    have h2:decide ((0:Int)<((e::r).length:Int))=true:=decide_eq_true (by simp only[List.length_cons];omega)
    have h3:decide ((1:Int)<=((e::r).length:Int))=true:=decide_eq_true (by simp only[List.length_cons];omega)
    have h4:(((e::r).length:Int)==(0:Int))=false:=by simp;omega
    unfold Fv Mc Cj
    rw[h1,h3,h4,AqM]
    show(bif e.1 != t then some (((0,[],[]):El),(5:Int),e::r)else some (e,(0:Int),r))=_
    rw[Bh]
theorem AbH {M:Nat} {l:List El} (h:Good M l) (t:Int):Good M (Cj l t).2.2/\((Cj l t).2.1=0->QH M (Cj l t).1):=by
  cases l with
  | nil=>exact⟨h,fun h=>by cases h⟩
  | cons e r =>
    unfold Cj
    dsimp only
    cases e.1 != t with
    | true=>exact⟨h,fun h=>by cases h⟩
    | false=>exact⟨h.tail,fun _=>h.all e List.mem_cons_self⟩
def VI (l:List El):Int:=if l=[]then 0 else 4
def Dq (s:Bs):List El×Int:=bif (C9 s 48).2 != 0 then([],(C9 s 48).2)else AV (C9 s 48).1.2.1
theorem AbY (s:Bs) (hs:s.length<=1048576):Good 1048576 (Dq s).1:=by
  have hl:=Q8 s 48
  unfold Dq
  cases (C9 s 48).2 != 0 with
  | true=>exact(Dv []).mono (by simp)
  | false=>exact(Dv _).mono (by omega)
theorem dP {ρ :Type} (N:Nat) (s:Bs) (hN:1048578<N) (hs:s.length<=1048576) (k:List El×Int->Option ρ) (l:Unit×Int->Option ρ) :
    Ik (JF N s 48) k l=bif (Dq s).2 != 0 then l ((),(Dq s).2)else k ((Dq s).1,0):=by
  have hlo:=Q8 s 48
  unfold JF Ib Dq
  rw[LY N s 48 hN hs,Ae]
  cases h:(C9 s 48).2 != 0 with
  | true=>rw[cond_true,IG,cond_true,h,cond_true]
  | false =>
    rw[cond_false,cond_false,Eb N _ (by omega) (by omega) (by omega),Ae]
    cases h2:(AV (C9 s 48).1.2.1).2 != 0 with
    | true=>rw[cond_true,IG,IG,cond_true]
    | false=>rw[cond_false,QV,QV,cond_false]
def CS (s:Bs):List El×Int:=bif (Dq s).2 != 0 then([],(Dq s).2)else bif (Dq s).1.isEmpty then([],7)else((Dq s).1,0)
theorem VQ {ρ :Type} (N:Nat) (s:Bs) (hN:1048578<N) (hs:s.length<=1048576) (k:List El×Int->Option ρ) (l:Unit×Int->Option ρ) :
    Ik (Ia N s) k l=bif (CS s).2 != 0 then l ((),(CS s).2)else k ((CS s).1,0):=by
  unfold Ia CS
  rw[dP N s hN hs]
  cases h:(Dq s).2 != 0 with
  | true=>simp only[h,cond_true,IG]
  | false =>
    unfold Di
    simp only[cond_false,bne_self_eq_false,Ae,len0]
    cases h2:(Dq s).1.isEmpty with
    | true=>rfl
    | false=>rfl
def kM (s:Bs):Bool×Int:=bif s==[0]then(false,0)else bif s==[255]then(true,0)else(false,7)
theorem yG (N:Nat) (s:Bs):P6 N s=some (kM s):=by
  unfold P6 kM
  simp only[Bh]
def Xj (s:Bs):Int×Int:=bif (Sp.integer s).2 != 0 then(0,(Sp.integer s).2)else bif decide ((Sp.integer s).1<0)||decide ((Sp.integer s).1>64)then(0,1)else((Sp.integer s).1,0)
theorem number_eq (N:Nat) (s:Bs) (hN:1048578<N) (hs:s.length<=1048576):EW N s=some (Xj s):=by
  unfold EW Xj
  try simp only[clR]
  rw[yH N s (by omega) hs,Ae]
  simp only[Bh]
def VJ (l:List El) (t:Int):Bool×Int:=bif !(Be l t).2.1 then(false,0)else bif (kM (Be l t).1.2.1).2 != 0 then(false,(kM (Be l t).1.2.1).2)else bif !(kM (Be l t).1.2.1).1 then(false,7)else(true,0)
theorem Ajf (N:Nat) (l:List El) (t:Int):KQ N l t=some ((VJ l t).1,(VJ l t).2,(Be l t).2.2):=by
  unfold KQ VJ
  try simp only[clR]
  rw[Xx,Ae]
  cases h:(Be l t).2.1 with
  | false=>rfl
  | true =>
    rw[Bool.not_true,cond_false,cond_false,yG,Ae]
    unfold kM
    cases (Be l t).1.2.1==[0]with
    | true=>rfl
    | false=>cases (Be l t).1.2.1==[255]<;>rfl
theorem rM {l:List El} (hg:Good 1048576 l) (t:Int) (h:(Be l t).2.1=true):(Be l t).1.2.1.length<=1048576:=by have:=((Qy hg t).2 h).content;omega
def Ph (l:List El) (t:Int):Int×Int:=bif !(Be l t).2.1 then(-1,0)else Xj (Be l t).1.2.1
def idD (l:List El):Bs×Int:=bif (Cj l 6).2.1 != 0 then([],(Cj l 6).2.1)else JY (OJ (Cj l 6).1.2.1)
theorem Zo (N:Nat) (l:List El) (hN:1048578<N) (hg:Good 1048576 l):I7 N l=some ((idD l).1,(idD l).2,(Cj l 6).2.2):=by
  unfold I7 idD
  rw[zT,Ae]
  cases h:(Cj l 6).2.1 != 0 with
  | true=>rfl
  | false =>
    have h0:(Cj l 6).2.1=0:=by simpa using h
    have:=((AbH hg 6).2 h0).content
    rw[cond_false,cond_false,NJ N _ (by omega) (by omega) (by omega),Ae]
section
variable {X Y ρ E A:Type} {B:X->(X->Option ρ)->(Y->Option ρ)->Option ρ} {kx:Y->Option ρ}
theorem AdT (f:E->Int) (e:E) (r:List E):AU f (e::r)=bif f e != 0 then f e else AU f r:=by
  show(if f e≠0 then _ else _)=_
  by_cases h:f e=0
  ·rw[if_neg (by simp [h]),h];rfl
  ·rw[if_pos h,show(f e != 0)=true from bne_iff_ne.2 h];rfl
theorem Ace (mk:List E->List A->X) (I:List E->Prop) (er:E->Int) (g:E->A) (ret:Int->List A->Option ρ) (fin:List A->Option ρ)
    (h: ∀ e r acc,I (e::r)->acc.length<=1048576-> ∀ k,B (mk (e::r) acc) k kx=bif er e != 0 then ret (er e) acc else k (mk r (acc++[g e])))
    (hI: ∀ e r,I (e::r)->I r) (h0: ∀ acc k,B (mk [] acc) k kx=fin acc) :
    ∀(N:Nat) (l:List E) (acc:List A),I l->l.length<N->acc.length+l.length<=1048576-> ∃ a,Am B N (mk l acc) kx=bif AU er l != 0 then ret (AU er l) a else fin (acc++l.map g):=by
  intro N
  induction N with
  | zero=>intro l acc _ h;omega
  | succ N ih =>
    intro l acc hi hn ha
    rw[I9]
    cases l with
    | nil=>exact⟨acc,by rw[h0];simp [AU]⟩
    | cons e r =>
      simp only[List.length_cons]at hn ha
      rw[h e r acc hi (by omega),AdT]
      cases hb:er e != 0 with
      | true=>exact⟨acc,by rw[cond_true,cond_true,hb,cond_true]⟩
      | false =>
        obtain⟨a,ha'⟩:=ih r (acc++[g e]) (hI e r hi) (by omega) (by simp;omega)
        exact⟨a,by rw[cond_false,cond_false,ha'];simp⟩
theorem AiI (mk:List E->List A->Int->X) (I:List E->Prop) (er:E->Int) (g:E->A) (fin:List A->Int->Option ρ)
    (h: ∀ e r acc,I (e::r)->acc.length<=1048576-> ∀ k,∃ q,B (mk (e::r) acc 0) k kx=k (mk q (acc++[g e]) (er e))/\(er e=0->q=r))
    (hx: ∀ q acc err,err≠0-> ∀ k,B (mk q acc err) k kx=fin acc err)
    (hI: ∀ e r,I (e::r)->I r) (h0: ∀ acc k,B (mk [] acc 0) k kx=fin acc 0) :
    ∀(N:Nat) (l:List E) (acc:List A),I l->l.length+1<N->acc.length+l.length<=1048576-> ∃ a,Am B N (mk l acc 0) kx=fin a (AU er l)/\(AU er l=0->a=acc++l.map g):=by
  intro N
  induction N with
  | zero=>intro l acc _ h;omega
  | succ N ih =>
    intro l acc hi hn ha
    rw[I9]
    cases l with
    | nil=>exact⟨acc,by rw[h0];rfl,by simp⟩
    | cons e r =>
      simp only[List.length_cons]at hn ha
      obtain⟨q,h1,h2⟩:=h e r acc hi (by omega) (fun x'=>Am B N x' kx)
      rw[h1,AdT]
      by_cases he:er e=0
      ·rw[h2 he,he]
       obtain⟨a,h3,h4⟩:=ih r (acc++[g e]) (hI e r hi) (by omega) (by simp;omega)
       exact⟨a,h3,fun h=>by rw[h4 h];simp⟩
      ·rw[show(er e != 0)=true from bne_iff_ne.2 he,cond_true]
       obtain⟨M,rfl⟩: ∃ M,N=M+1:=⟨N - 1,by omega⟩
       exact⟨acc++[g e],by rw[I9,hx _ _ _ he],fun h=>absurd h he⟩
end
def Xk (e:El):Bs×Int:=bif e.1 != 6 then([],5)else JY (OJ e.2.1)
theorem Amm (e:El) (r:List El):idD (e::r)=Xk e:=by
  unfold idD Xk Cj
  dsimp only
  cases e.1 != 6<;>rfl
def An7 (l:List El):Int:=AU (fun e=>(Xk e).2) l
def Aix (l:List El):List Bs:=l.map (fun e=>(Xk e).1)
def elL (e:El):List El×Int:=bif e.1 != 48 then([],5)else AV e.2.1
def J3 (e:El):Bs×Int:=bif (elL e).2 != 0 then([],(elL e).2)else bif (idD (elL e).1).2 != 0 then([],(idD (elL e).1).2)else((idD (elL e).1).1,VI (Cj (elL e).1 6).2.2)
def MZ (e:El):(Bs×Bs)×Int:=bif (elL e).2 != 0 then(([],[]),(elL e).2)else bif (idD (elL e).1).2 != 0 then(([],[]),(idD (elL e).1).2)else
  bif (idD (Cj (elL e).1 6).2.2).2 != 0 then(([],[]),(idD (Cj (elL e).1 6).2.2).2)else(((idD (elL e).1).1,(idD (Cj (elL e).1 6).2.2).1),VI (Cj (Cj (elL e).1 6).2.2 6).2.2)
theorem qZ {M:Nat} {e:El} (he:QH 1048576 e) (hM:1048576<=M):Good M (elL e).1:=by
  have:=he.content
  unfold elL
  cases e.1 != 48 with
  | true=>exact(Dv []).mono (by simp)
  | false=>exact(Dv _).mono (by omega)
theorem nT {ρ :Type} (N:Nat) (e:El) (r:List El) (hN:1048578<N) (he:QH 1048576 e) :
    ∃ q,∀(k:List El×Int×List El->Option ρ) (l:Unit×Int×List El->Option ρ),Ik (DL N (e::r)) k l=bif (elL e).2 != 0 then l ((),(elL e).2,q)else k ((elL e).1,0,r):=by
  have hc:=he.content
  unfold DL Ib elL
  rw[zT,Ae]
  unfold Cj
  dsimp only
  cases h:e.1 != 48 with
  | true=>exact⟨_,fun _ _=>rfl⟩
  | false =>
    simp only[cond_false,bne_self_eq_false]
    rw[Eb N _ (by omega) (by omega) (by omega),Ae]
    cases h2:(AV e.2.1).2 != 0 with
    | true=>exact⟨r,fun k l=>by simp only[cond_true,IG]⟩
    | false=>exact⟨r,fun k l=>by simp only[cond_false,QV]⟩
theorem TL (N:Nat) (l:List El):BQ N l=some (VI l,l):=Ago N l
end Go.Proofs.YtadefjgbcapakaaGreatDoor.Pl
namespace Go.Proofs.YtadefjgbcapakaaGreatDoor.Pl
open IntKind (i64)
open Go Vm
def Gives (e:Int) (u:Info) (o:Option (Int×Info)):Prop:= ∃ j,o=some (e,j)/\(e=0->j=u)
theorem Gives.run {A:Type} {e:Int} {u:Info} {o:Option (Int×Info)} {F:A->Option (Int×Info)} (h: ∃ a,o=F a) (h2: ∀ a,Gives e u (F a)):Gives e u o:=by
  obtain⟨a,rfl⟩:=h
  exact h2 a
theorem Gives.Ara {A:Type} {e:Int} {u:Info} {o:Option (Int×Info)} {F:A->Option (Int×Info)} {P:A->Prop} (h: ∃ a,o=F a/\P a) (h2: ∀ a,P a->Gives e u (F a)):Gives e u o:=by
  obtain⟨a,rfl,h⟩:=h
  exact h2 a h
theorem Gives.err {e:Int} {u j:Info} (h:(e != 0)=true):Gives e u (some (e,j)):=⟨j,rfl,fun h'=>by rw[h']at h;cases h⟩
theorem Gives.ok {e:Int} {u:Info}:Gives e u (some (e,u)):=⟨u,rfl,fun _=>rfl⟩
theorem left_eq (N:Nat) (l:List El):Di N l=some ((l.length:Int),l):=rfl
theorem tC (e:El) (r:List El):decide (((e::r).length:Int)>0)=true:=decide_eq_true (by simp only[List.length_cons];omega)
theorem VV (s:Bs) (hs:s.length<=1048576):Good 1048576 (CS s).1:=by
  unfold CS
  have h0:Good 1048576 ([]:List El):=(Dv []).mono (by simp)
  cases (Dq s).2 != 0 with
  | true=>exact h0
  | false=>cases (Dq s).1.isEmpty with
    | true=>exact h0
    | false=>exact AbY s hs
def QP {A:Type} (row:El->A×Int) (s:Bs):Int:=bif (CS s).2 != 0 then(CS s).2 else AU (fun e=>(row e).2) (CS s).1
def QQ {A:Type} (row:El->A×Int) (s:Bs):List A:=(CS s).1.map (fun e=>(row e).1)
theorem bw {ρ :Type} {n:Nat} (h:n<=140737488355328) (k:Option ρ):chk (decide (n<=140737488355328)) k=k:=by rw[decide_eq_true h];rfl
theorem UI {E A:Type} (f:E->A) (l:List E) (d:E) (d':A) {i:Nat} (h:i<l.length):(l.map f).getD i d'=f (l.getD i d):=by
  simp [List.getD_eq_getElem?_getD,h]
theorem AfS (N:Nat) (s:Bs) (hN:1048578<N) (hs:s.length<=1048576) (hb ca:Bool) (pl us:Int) (pu po:List Bs) (ma:List (Bs×Bs)) (re im ia:Int) (na:List Gn) (hc:Bool) (pe ex:List Gn) (sk ak:Bs) (pt fr:List Pt) (un:List Ex) (hpo:po=[]) :
    Gives (QP J3 s) (hb,ca,pl,us,pu,QQ J3 s,ma,re,im,ia,na,hc,pe,ex,sk,ak,pt,fr,un) (DR N s (hb,ca,pl,us,pu,po,ma,re,im,ia,na,hc,pe,ex,sk,ak,pt,fr,un)):=by
  obtain⟨M,rfl⟩: ∃ M,N=M+4:=⟨N - 4,by omega⟩
  have hgl:=VV s hs
  have hll:=hgl.len
  subst hpo
  unfold DR
  have key:Gives (QP J3 s) (hb,ca,pl,us,pu,QQ J3 s,ma,re,im,ia,na,hc,pe,ex,sk,ak,pt,fr,un) (JB (M+4) s 1 (hb,ca,pl,us,pu,[],ma,re,im,ia,na,hc,pe,ex,sk,ak,pt,fr,un)):=by
    unfold JB QP QQ
    rw[VQ _ s hN hs]
    cases h:(CS s).2 != 0 with
    | true=>simp only[cond_true,h];exact Gives.err h
    | false =>
      simp only[cond_false,bne_self_eq_false]
      refine Gives.run (Ace (mk:=fun l acc=>(hb,ca,pl,us,re,im,ia,na,hc,pe,ex,sk,ak,pt,fr,l,un,ma,acc,pu)) (Good 1048576) (fun e=>(J3 e).2) (fun e=>(J3 e).1)
        (fun e acc=>some (e,(hb,ca,pl,us,pu,acc,ma,re,im,ia,na,hc,pe,ex,sk,ak,pt,fr,un))) (fun acc=>some (0,(hb,ca,pl,us,pu,acc,ma,re,im,ia,na,hc,pe,ex,sk,ak,pt,fr,un))) ?_ (fun _ _ h=>h.tail) ?_ _ _ [] hgl (by omega) (by simpa using hll)) ?_
      ·intro e r acc hg ha k
       have he:=hg.all e List.mem_cons_self
       obtain⟨q,hq⟩:=nT (ρ :=Int×Info) (M+4) e r hN he
       have hid:=Zo (M+4) (elL e).1 hN (qZ he (Nat.le_refl _))
       dsimp only[U20]
       simp only[left_eq,Ae,tC,cond_true]
       rw[hq]
       unfold J3
       cases h2:(elL e).2 != 0 with
       | true=>simp only[cond_true,h2]
       | false =>
         simp only[cond_false,bne_self_eq_false]
         rw[I9]
         dsimp only[U22]
         rw[show decide ((([]:List Bs).length:Int)<1)=true from rfl,cond_true,hid,Ae]
         dsimp only
         cases h3:(idD (elL e).1).2 != 0 with
         | true=>simp only[cond_true,h3]
         | false =>
           simp only[cond_false,List.nil_append]
           rw[bw (by decide),I9]
           dsimp only[U22]
           rw[show decide ((([(idD (elL e).1).1]:List Bs).length:Int)<1)=false from rfl,cond_false]
           simp only[TL,Ae]
           cases h4:VI (Cj (elL e).1 6).2.2 != 0 with
           | true=>simp only[cond_true]
           | false =>
             rw[cond_false,cond_false]
             show Ac (chk (decide ((0:Int)<(([(idD (elL e).1).1]:List Bs).length:Int)))<|chk (decide ((acc.length+1)*17<=140737488355328))<|some _) _=_
             rw[show decide ((0:Int)<(([(idD (elL e).1).1]:List Bs).length:Int))=true from rfl,A8,bw (by omega)]
             rfl
      ·intro acc k
       dsimp only[U20]
       simp only[left_eq,Ae]
       rfl
      ·intro a
       cases h5:AU (fun e=>(J3 e).2) (CS s).1 != 0 with
       | true=>exact Gives.err h5
       | false =>
         have h6:AU (fun e=>(J3 e).2) (CS s).1=0:=by simpa using h5
         rw[h6,cond_false,List.nil_append]
         exact Gives.ok
  obtain⟨j,hj,hj2⟩:=key
  rw[hj]
  exact⟨j,rfl,hj2⟩
theorem AfM (N:Nat) (s:Bs) (hN:1048578<N) (hs:s.length<=1048576) (hb ca:Bool) (pl us:Int) (pu po:List Bs) (ma:List (Bs×Bs)) (re im ia:Int) (na:List Gn) (hc:Bool) (pe ex:List Gn) (sk ak:Bs) (pt fr:List Pt) (un:List Ex) (hma:ma=[]) :
    Gives (QP MZ s) (hb,ca,pl,us,pu,po,QQ MZ s,re,im,ia,na,hc,pe,ex,sk,ak,pt,fr,un) (DN N s (hb,ca,pl,us,pu,po,ma,re,im,ia,na,hc,pe,ex,sk,ak,pt,fr,un)):=by
  obtain⟨M,rfl⟩: ∃ M,N=M+4:=⟨N - 4,by omega⟩
  have hgl:=VV s hs
  have hll:=hgl.len
  subst hma
  unfold DN
  have key:Gives (QP MZ s) (hb,ca,pl,us,pu,po,QQ MZ s,re,im,ia,na,hc,pe,ex,sk,ak,pt,fr,un) (JC (M+4) s 2 (hb,ca,pl,us,pu,po,[],re,im,ia,na,hc,pe,ex,sk,ak,pt,fr,un)):=by
    unfold JC QP QQ
    rw[VQ _ s hN hs]
    cases h:(CS s).2 != 0 with
    | true=>simp only[cond_true,h];exact Gives.err h
    | false =>
      simp only[cond_false,bne_self_eq_false]
      refine Gives.run (Ace (mk:=fun l acc=>(hb,ca,pl,us,re,im,ia,na,hc,pe,ex,sk,ak,pt,fr,l,un,acc,po,pu)) (Good 1048576) (fun e=>(MZ e).2) (fun e=>(MZ e).1)
        (fun e acc=>some (e,(hb,ca,pl,us,pu,po,acc,re,im,ia,na,hc,pe,ex,sk,ak,pt,fr,un))) (fun acc=>some (0,(hb,ca,pl,us,pu,po,acc,re,im,ia,na,hc,pe,ex,sk,ak,pt,fr,un))) ?_ (fun _ _ h=>h.tail) ?_ _ _ [] hgl (by omega) (by simpa using hll)) ?_
      ·intro e r acc hg ha k
       have he:=hg.all e List.mem_cons_self
       obtain⟨q,hq⟩:=nT (ρ :=Int×Info) (M+4) e r hN he
       have hid:=Zo (M+4) (elL e).1 hN (qZ he (Nat.le_refl _))
       dsimp only[U20]
       simp only[left_eq,Ae,tC,cond_true]
       rw[hq]
       unfold MZ
       cases h2:(elL e).2 != 0 with
       | true=>simp only[cond_true,h2]
       | false =>
         simp only[cond_false,bne_self_eq_false]
         rw[I9]
         dsimp only[U22]
         rw[show decide ((([]:List Bs).length:Int)<2)=true from rfl,cond_true,hid,Ae]
         dsimp only
         cases h3:(idD (elL e).1).2 != 0 with
         | true=>simp only[cond_true,h3]
         | false =>
           have hid2:=Zo (M+4) (Cj (elL e).1 6).2.2 hN (AbH (qZ he (Nat.le_refl _)) 6).1
           simp only[cond_false,List.nil_append]
           rw[bw (by decide),I9]
           dsimp only[U22]
           rw[show decide ((([(idD (elL e).1).1]:List Bs).length:Int)<2)=true from rfl,cond_true,hid2,Ae]
           dsimp only
           cases h31:(idD (Cj (elL e).1 6).2.2).2 != 0 with
           | true=>simp only[cond_true,h31]
           | false =>
             simp only[cond_false,List.cons_append,List.nil_append]
             rw[bw (by simp),I9]
             dsimp only[U22]
             rw[show decide ((([(idD (elL e).1).1,(idD (Cj (elL e).1 6).2.2).1]:List Bs).length:Int)<2)=false from rfl,cond_false]
             simp only[TL,Ae]
             cases h4:VI (Cj (Cj (elL e).1 6).2.2 6).2.2 != 0 with
             | true=>simp only[cond_true]
             | false =>
               rw[cond_false,cond_false]
               show Ac (chk (decide ((0:Int)<(([(idD (elL e).1).1,(idD (Cj (elL e).1 6).2.2).1]:List Bs).length:Int)))<|chk (decide ((1:Int)<(([(idD (elL e).1).1,(idD (Cj (elL e).1 6).2.2).1]:List Bs).length:Int)))<|chk (decide ((acc.length+1)*33<=140737488355328))<|some _) _=_
               rw[show decide ((0:Int)<(([(idD (elL e).1).1,(idD (Cj (elL e).1 6).2.2).1]:List Bs).length:Int))=true from rfl,show decide ((1:Int)<(([(idD (elL e).1).1,(idD (Cj (elL e).1 6).2.2).1]:List Bs).length:Int))=true from rfl,A8,A8,bw (by omega)]
               rfl
      ·intro acc k
       dsimp only[U20]
       simp only[left_eq,Ae]
       rfl
      ·intro a
       cases h5:AU (fun e=>(MZ e).2) (CS s).1 != 0 with
       | true=>exact Gives.err h5
       | false =>
         have h6:AU (fun e=>(MZ e).2) (CS s).1=0:=by simpa using h5
         rw[h6,cond_false,List.nil_append]
         exact Gives.ok
  obtain⟨j,hj,hj2⟩:=key
  rw[hj]
  exact⟨j,rfl,hj2⟩
def Adu (s:Bs):Int:=bif (CS s).2 != 0 then(CS s).2 else An7 (CS s).1
theorem AnO {α :Type} {b:Bool} {x y: α} (h:b=true):(bif b then x else y)=x:=by rw[h];rfl
theorem AfU (N:Nat) (s:Bs) (hN:1048578<N) (hs:s.length<=1048576) (hb ca:Bool) (pl us:Int) (pu po:List Bs) (ma:List (Bs×Bs)) (re im ia:Int) (na:List Gn) (hc:Bool) (pe ex:List Gn) (sk ak:Bs) (pt fr:List Pt) (un:List Ex) (hpu:pu=[]) :
    Gives (Adu s) (hb,ca,pl,us,Aix (CS s).1,po,ma,re,im,ia,na,hc,pe,ex,sk,ak,pt,fr,un) (DT N s (hb,ca,pl,us,pu,po,ma,re,im,ia,na,hc,pe,ex,sk,ak,pt,fr,un)):=by
  have hgl:=VV s hs
  have hll:=hgl.len
  subst hpu
  unfold DT Adu
  rw[VQ _ s hN hs]
  cases h:(CS s).2 != 0 with
  | true =>
    have h0:((CS s).2==0)=false:=by simpa using h
    simp only[cond_true,h0]
    exact Gives.err h
  | false =>
    simp only[cond_false]
    refine Gives.Ara (AiI (mk:=fun l acc err=>(err,hb,ca,pl,us,re,im,ia,na,hc,pe,ex,sk,ak,pt,fr,po,ma,un,l,acc)) (Good 1048576) (fun e=>(Xk e).2) (fun e=>(Xk e).1)
      (fun acc err=>some (err,(hb,ca,pl,us,acc,po,ma,re,im,ia,na,hc,pe,ex,sk,ak,pt,fr,un))) ?_ ?_ (fun _ _ h=>h.tail) ?_ (N+1) (CS s).1 [] hgl (by omega) (by simpa using hll)) ?_
    ·intro e r acc hg ha k
     have hid:=Zo N (e::r) hN hg
     rw[Amm]at hid
     refine⟨(Cj (e::r) 6).2.2,?_,fun h0=> ?_⟩
     ·dsimp only[U21]
      simp only[left_eq,Option.isSome_some,Option.getD_some,tC,beq_self_eq_true,Bool.true_or,A8,cond_true,hid,Ae]
      rw[bw (by omega)]
      exact AnO (decide_eq_true (by simp only[List.length_cons];omega))
     ·unfold Xk at h0
      unfold Cj
      dsimp only
      cases hb:e.1 != 6 with
      | true=>rw[hb]at h0;cases h0
      | false=>rfl
    ·intro q acc err he k
     have h0:(err==0)=false:=by simpa using he
     dsimp only[U21]
     simp only[left_eq,Option.isSome_some,Option.getD_some,h0,Bool.true_or,Bool.false_or,Bool.not_false,A8,cond_false]
     rfl
    ·intro acc k
     dsimp only[U21]
     simp only[left_eq,Option.isSome_some,Option.getD_some,beq_self_eq_true,Bool.true_or,A8,cond_true]
     rfl
    ·intro a ha
     refine⟨_,rfl,fun h0=> ?_⟩
     rw[ha h0];rfl
section
variable (N:Nat) (s:Bs) (hN:1048578<N) (hs:s.length<=1048576) (hb ca:Bool) (pl us:Int) (pu po:List Bs) (ma:List (Bs×Bs)) (re im ia:Int) (na:List Gn) (hc:Bool) (pe ex:List Gn) (sk ak:Bs) (pt fr:List Pt) (un:List Ex)
include hN hs
def AlD (s:Bs):Int:=bif (Dq s).2 != 0 then(Dq s).2 else bif (VJ (Dq s).1 1).2 != 0 then(VJ (Dq s).1 1).2 else
  bif (Ph (Be (Dq s).1 1).2.2 2).2 != 0 then(Ph (Be (Dq s).1 1).2.2 2).2 else VI (Be (Be (Dq s).1 1).2.2 2).2.2
theorem AlF (hpl:pl= -1):Gives (AlD s) (true,(VJ (Dq s).1 1).1,(Ph (Be (Dq s).1 1).2.2 2).1,us,pu,po,ma,re,im,ia,na,hc,pe,ex,sk,ak,pt,fr,un) (EO N s (hb,ca,pl,us,pu,po,ma,re,im,ia,na,hc,pe,ex,sk,ak,pt,fr,un)):=by
  subst hpl
  have hg:=AbY s hs
  unfold EO AlD
  rw[dP N s hN hs]
  cases h:(Dq s).2 != 0 with
  | true=>simp only[cond_true,h];exact Gives.err h
  | false =>
    simp only[cond_false,bne_self_eq_false,Ajf,Ae]
    cases h1:(VJ (Dq s).1 1).2 != 0 with
    | true=>exact Gives.err h1
    | false =>
      simp only[cond_false,Xx,Ae]
      have hg1:=(Qy hg 1).1
      unfold Ph
      cases h2:(Be (Be (Dq s).1 1).2.2 2).2.1 with
      | false =>
        simp only[Bool.not_false,cond_true,cond_false,TL,Ae,bne_self_eq_false]
        exact Gives.ok
      | true =>
        simp only[Bool.not_true,cond_true,cond_false,number_eq N _ hN (rM hg1 2 h2),Ae]
        cases h3:(Xj (Be (Be (Dq s).1 1).2.2 2).1.2.1).2 != 0 with
        | true=>exact Gives.err h3
        | false=>simp only[cond_false,TL,Ae];exact Gives.ok
def cU (s:Bs):Bs:=(C9 s 3).1.2.1
def Anm (s:Bs):Int:=bif (C9 s 3).2 != 0 then(C9 s 3).2 else bif (flP (cU s)).2 != 0 then(flP (cU s)).2 else bif (flP (cU s)).1==0 then 7 else 0
theorem Ank:Gives (Anm s) (hb,ca,pl,(flP (cU s)).1,pu,po,ma,re,im,ia,na,hc,pe,ex,sk,ak,pt,fr,un) (EP N s (hb,ca,pl,us,pu,po,ma,re,im,ia,na,hc,pe,ex,sk,ak,pt,fr,un)):=by
  have hl:=Q8 s 3
  unfold EP Anm cU
  rw[LY N s 3 hN hs,Ae]
  cases h:(C9 s 3).2 != 0 with
  | true=>simp only[cond_true];exact Gives.err h
  | false =>
    simp only[cond_false,aK N _ hN (show(C9 s 3).1.2.1.length<=1048576 by omega),Ae]
    cases h1:(flP (C9 s 3).1.2.1).2 != 0 with
    | true=>exact Gives.err h1
    | false=>cases h2:(flP (C9 s 3).1.2.1).1==0 with
      | true=>exact Gives.err rfl
      | false=>exact Gives.ok
def Amq (s:Bs):Int:=bif (C9 s 2).2 != 0 then(C9 s 2).2 else(Xj (C9 s 2).1.2.1).2
theorem AhL:Gives (Amq s) (hb,ca,pl,us,pu,po,ma,re,im,(Xj (C9 s 2).1.2.1).1,na,hc,pe,ex,sk,ak,pt,fr,un) (DW N s (hb,ca,pl,us,pu,po,ma,re,im,ia,na,hc,pe,ex,sk,ak,pt,fr,un)):=by
  have hl:=Q8 s 2
  unfold DW Amq
  rw[LY N s 2 hN hs,Ae]
  cases h:(C9 s 2).2 != 0 with
  | true=>simp only[cond_true];exact Gives.err h
  | false =>
    simp only[cond_false,number_eq N _ hN (show(C9 s 2).1.2.1.length<=1048576 by omega),Ae]
    exact Gives.ok
def AiL (s:Bs):Int:=bif (C9 s 4).2 != 0 then(C9 s 4).2 else bif (C9 s 4).1.2.1==[]then 7 else 0
theorem AiM:Gives (AiL s) (hb,ca,pl,us,pu,po,ma,re,im,ia,na,hc,pe,ex,(C9 s 4).1.2.1,ak,pt,fr,un) (DX N s (hb,ca,pl,us,pu,po,ma,re,im,ia,na,hc,pe,ex,sk,ak,pt,fr,un)):=by
  unfold DX Jl AiL
  rw[LY N s 4 hN hs,Ae]
  cases h:(C9 s 4).2 != 0 with
  | true=>simp only[cond_true];exact Gives.err h
  | false =>
    simp only[cond_false]
    cases h1:(C9 s 4).1.2.1==[]with
    | true=>exact Gives.err rfl
    | false=>exact Gives.ok
def AlA (s:Bs):Int:=bif (Dq s).2 != 0 then(Dq s).2 else bif (Cj (Dq s).1 128).2.1 != 0 then(Cj (Dq s).1 128).2.1 else bif (Cj (Dq s).1 128).1.2.1==[]then 7 else VI (Cj (Dq s).1 128).2.2
theorem Ad6:Gives (AlA s) (hb,ca,pl,us,pu,po,ma,re,im,ia,na,hc,pe,ex,sk,(Cj (Dq s).1 128).1.2.1,pt,fr,un) (DF N s (hb,ca,pl,us,pu,po,ma,re,im,ia,na,hc,pe,ex,sk,ak,pt,fr,un)):=by
  unfold DF Jl AlA
  rw[dP N s hN hs]
  cases h:(Dq s).2 != 0 with
  | true=>simp only[cond_true,h];exact Gives.err h
  | false =>
    simp only[cond_false,bne_self_eq_false,zT,Ae]
    cases h1:(Cj (Dq s).1 128).2.1 != 0 with
    | true=>exact Gives.err h1
    | false =>
      simp only[cond_false]
      cases h2:(Cj (Dq s).1 128).1.2.1==[]with
      | true=>exact Gives.err rfl
      | false=>simp only[cond_false,Ae,bne_self_eq_false,TL];exact Gives.ok
def Am2 (s:Bs):Int:=bif (CS s).2 != 0 then(CS s).2 else bif (Ph (CS s).1 128).2 != 0 then(Ph (CS s).1 128).2 else
  bif (Ph (Be (CS s).1 128).2.2 129).2 != 0 then(Ph (Be (CS s).1 128).2.2 129).2 else VI (Be (Be (CS s).1 128).2.2 129).2.2
theorem Akz (hre:re= -1) (him:im= -1):Gives (Am2 s) (hb,ca,pl,us,pu,po,ma,(Ph (CS s).1 128).1,(Ph (Be (CS s).1 128).2.2 129).1,ia,na,hc,pe,ex,sk,ak,pt,fr,un) (Et N s (hb,ca,pl,us,pu,po,ma,re,im,ia,na,hc,pe,ex,sk,ak,pt,fr,un)):=by
  subst hre;subst him
  have hg:=VV s hs
  have hg1:=(Qy hg 128).1
  unfold Et Am2
  rw[VQ N s hN hs]
  cases h:(CS s).2 != 0 with
  | true=>simp only[cond_true,h];exact Gives.err h
  | false =>
    simp only[cond_false,bne_self_eq_false,Xx,Ae,TL]
    have num1:=fun h2=>number_eq N _ hN (rM hg 128 h2)
    have num2:=fun h2=>number_eq N _ hN (rM hg1 129 h2)
    unfold Ph
    cases h1:(Be (CS s).1 128).2.1 with
    | false =>
      simp only[Bool.not_false,cond_true,cond_false,bne_self_eq_false]
      cases h2:(Be (Be (CS s).1 128).2.2 129).2.1 with
      | false=>simp only[Bool.not_false,cond_true,cond_false,bne_self_eq_false];exact Gives.ok
      | true =>
        simp only[Bool.not_true,cond_true,cond_false,num2 h2,Ae]
        cases h3:(Xj (Be (Be (CS s).1 128).2.2 129).1.2.1).2 != 0 with
        | true=>exact Gives.err h3
        | false=>exact Gives.ok
    | true =>
      simp only[Bool.not_true,cond_true,cond_false,num1 h1,Ae]
      cases h4:(Xj (Be (CS s).1 128).1.2.1).2 != 0 with
      | true=>exact Gives.err h4
      | false =>
        simp only[cond_false]
        cases h2:(Be (Be (CS s).1 128).2.2 129).2.1 with
        | false=>simp only[Bool.not_false,cond_true,cond_false,bne_self_eq_false];exact Gives.ok
        | true =>
          simp only[Bool.not_true,cond_true,cond_false,num2 h2,Ae]
          cases h3:(Xj (Be (Be (CS s).1 128).2.2 129).1.2.1).2 != 0 with
          | true=>exact Gives.err h3
          | false=>exact Gives.ok
end
end Go.Proofs.YtadefjgbcapakaaGreatDoor.Pl
namespace Go.Proofs.YtadefjgbcapakaaGreatDoor.Pl
open IntKind (i64)
open Go Vm
theorem wB {t:Nat} {c:Bs} (h:c.length<=131072):Aa4 t c=(Sp.elem t c,0):=by
  unfold Aa4 JV
  rw[if_pos h];rfl
structure UR (l:List Pt):Prop where
  ne:l≠ []
  len:l.length<=3
  all: ∀ p∈l,okP p
def psB (l:List Pt):Bs:=Sp.elem 48 (l.map Ep).flatten
theorem AkT {l:List Pt} (h:l.length<=3) (ha: ∀ p∈l,ptI p=0):Gm l=0:=by
  unfold Gm
  rw[decide_eq_false (by omega),cond_false]
  exact Kq ha
structure AqC (l:List Pt):Prop where
  i0:Gm l=0
  i1:Gm (l.map ptK)=0
  w0:JP l=(psB l,0)
  w1:JP (l.map ptK)=(psB l,0)
  rd:Ai6 (psB l)=(l.map ptK,0)
  len:(psB l).length<=6100
theorem PD {l:List Pt} (h:UR l):AqC l:=by
  have i0:=AkT h.len fun p hp=>(MJ (h.all p hp)).i0
  have i1:Gm (l.map ptK)=0:=AkT (by rw[List.length_map];exact h.len) fun q hq=>by
    obtain⟨p,hp,rfl⟩:=List.mem_map.1 hq
    exact(MJ (h.all p hp)).i1
  have hl:(l.map Ep).flatten.length<=6015:=by
    have:=D5 (g:=Ep) (M:=2005) (l:=l) fun p hp=>by
      have h1:=(MJ (h.all p hp)).len
      have:=Sp.Aw 48 (ptC p)
      show(Sp.elem 48 (ptC p)).length<=_;omega
    have:=h.len
    omega
  have he:(l.map ptK).map Ep=l.map Ep:=by
    rw[List.map_map]
    exact List.map_congr_left fun p hp=>(MJ (h.all p hp)).enc
  have n0:l.isEmpty=false:=by cases l with | nil=>exact absurd rfl h.ne | cons a r=>rfl
  have n1:(l.map ptK).isEmpty=false:=by cases l with | nil=>exact absurd rfl h.ne | cons a r=>rfl
  refine⟨i0,i1,?_,?_,?_,?_⟩
  ·unfold JP
   rw[n0,i0,wB (by omega)];rfl
  ·unfold JP
   rw[n1,i1,he,wB (by omega)];rfl
  ·have h2:=EL (l.map fun p=>(48,ptC p)) (fun q hq=>by
     obtain⟨p,hp,rfl⟩:=List.mem_map.1 hq
     exact NC 48 _ (by decide) (by decide) (by have:=(MJ (h.all p hp)).len;omega))
   rw[List.map_map,List.map_map]at h2
   have h2:AV (l.map Ep).flatten=(l.map fun p=>AA 48 (ptC p),0):=h2
   have o:C9 (psB l) 48=(AA 48 (l.map Ep).flatten,0):=We 48 _ (by decide) (by decide) (by omega)
   unfold Ai6
   rw[o]
   show(bif (AV (l.map Ep).flatten).2 != 0 then _ else psD (AV (l.map Ep).flatten).1)=_
   rw[h2]
   show psD (l.map fun p=>AA 48 (ptC p))=_
   have e3:AU (fun e=>(elD e).2) (l.map fun p=>AA 48 (ptC p))=0:=Kq fun e he=>by
     obtain⟨p,hp,rfl⟩:=List.mem_map.1 he
     rw[(MJ (h.all p hp)).rd]
   have e4:(l.map fun p=>AA 48 (ptC p)).map (fun e=>(elD e).1)=l.map ptK:=by
     rw[List.map_map]
     exact List.map_congr_left fun p hp=>by show(elD _).1=_;rw[(MJ (h.all p hp)).rd]
   unfold psD
   rw[e3,e4,i1,show(l.map fun p=>AA 48 (ptC p)).isEmpty=false by cases l with | nil=>exact absurd rfl h.ne | cons a r=>rfl]
   rfl
  ·have:=Sp.Aw 48 (l.map Ep).flatten
   unfold psB;omega
structure okS (s:St2):Prop where
  l0:s.1.length<=3
  l1:s.2.length<=3
  ne:s.1≠ []\/s.2≠ []
  a0: ∀ g∈s.1,okG true g
  a1: ∀ g∈s.2,okG true g
def stK (s:St2):St2:=(s.1.map gnK,s.2.map gnK)
def sbB (s:St2):Bs:=Sp.elem 48 (BR 160 s.1++BR 161 s.2)
theorem lI {l:List Gn} (h: ∀ g∈l,okG true g) (h3:l.length<=3):(l.map E5).flatten.length<=1890:=by
  have:=D5 (g:=E5) (M:=630) (l:=l) fun g hg=>by
    have:=iF (h g hg)
    have:=Sp.Aw 48 (Cc g)
    unfold E5;omega
  omega
theorem AkO (t:Nat) {l:List Gn} (h: ∀ g∈l,okG true g) (h3:l.length<=3):(BR t l).length<=1895:=by
  have:=lI h h3
  have:=Sp.Aw t (l.map E5).flatten
  unfold BR
  cases l.isEmpty with
  | true=>exact Nat.zero_le _
  | false=>rw[cond_false];omega
theorem AkN (t:Nat) {l:List Gn} (h: ∀ g∈l,okG true g):BR t (l.map gnK)=BR t l:=by
  have e:(l.map gnK).map E5=l.map E5:=by
    rw[List.map_map]
    exact List.map_congr_left fun g hg=>by show Sp.elem 48 (Cc (gnK g))=_;rw[(EK (h g hg)).enc];rfl
  unfold BR
  rw[e]
  cases l<;>rfl
theorem AnA {s:St2} (h0:s.1.length<=3) (h1:s.2.length<=3) (hn:s.1≠ []\/s.2≠ []) (a0: ∀ g∈s.1,CZ g true=0) (a1: ∀ g∈s.2,CZ g true=0):QC s=0:=by
  unfold QC
  have e:(s.1.isEmpty&&s.2.isEmpty)=false:=by
    rcases hn with h | h
    ·cases hs:s.1 with
     | nil=>exact absurd hs h
     | cons a r=>rfl
    ·cases hs:s.2 with
     | nil=>exact absurd hs h
     | cons a r=>exact Bool.and_false _
  rw[e,decide_eq_false (by omega),decide_eq_false (by omega)]
  show AU _ _=0
  exact Kq fun g hg=>by
    rcases List.mem_append.1 hg with hg | hg
    ·exact a0 g hg
    ·exact a1 g hg
theorem OL (N:Nat) (l:List Gn) (hN:1048578<N) (h: ∀ g∈l,okG true g) (h0:l≠ []) (h3:l.length<=3):BG N (l.map E5).flatten=some (l.map gnK,0):=by
  have hl:=lI h h3
  have h2:=EL (l.map fun g=>(48,Cc g)) (fun q hq=>by
    obtain⟨g,hg,rfl⟩:=List.mem_map.1 hq
    exact NC 48 _ (by decide) (by decide) (by have:=iF (h g hg);omega))
  rw[List.map_map,List.map_map]at h2
  have h2:AV (l.map E5).flatten=(l.map fun g=>AA 48 (Cc g),0):=h2
  unfold BG
  rw[Eb N _ (by omega) (by omega) (by omega),Ae,h2]
  dsimp only
  rw[show((0:Int) != 0)=false from rfl,cond_false,len0,show(l.map fun g=>AA 48 (Cc g)).isEmpty=false by cases l with | nil=>exact absurd rfl h0 | cons a r=>rfl,cond_false]
  refine(L8 (mk:=fun i acc=>((i:Int),acc)) l (0,[],[]) gnK (fun acc=>some (acc,0)) ?_ ?_ N (by omega)).trans rfl
  ·intro i acc hi ha k
   have hm:=UI (fun g=>AA 48 (Cc g)) l (0,[],[]) (0,[],[]) hi
   have hg:=h _ (getD_mem ((0,[],[]):Gn) hi)
   have hb:=iF hg
   have G:=EK hg
   generalize l.getD i (0,[],[])=g at *
   have h5:=EL [gnT g] (fun q hq=>by rw[List.mem_singleton.1 hq];exact G.fine)
   have h5:AV (Cc g++[])=([AA (gnT g).1 (gnT g).2],0):=by rw[wH];exact h5
   rw[List.append_nil]at h5
   have hL:DU N (AA 48 (Cc g)).2.1=some ([AA (gnT g).1 (gnT g).2],0):=(Eb N (Cc g) (by omega) (by omega) (by omega)).trans (by rw[h5])
   have hD:=VL N (AA (gnT g).1 (gnT g).2) true hN (by have:=G.len;show(gnT g).2.length<=_;omega)
   rw[G.rd]at hD
   dsimp only[U2]
   simp (disch:=first | assumption | omega) only[Aq,List.length_map,hm,hL]
   show(bif ((48:Nat):Int) != 48 then _ else _)=_
   rw[show(((48:Nat):Int) != 48)=false from rfl,cond_false]
   rw[show((([AA (gnT g).1 (gnT g).2]:List El).length:Int)==0)=false from rfl,cond_false,show decide ((0:Int)<(([AA (gnT g).1 (gnT g).2]:List El).length:Int))=true from rfl,A8]
   show Ac (Jv N (AA (gnT g).1 (gnT g).2) true) _=_
   rw[hD,Ae]
   rfl
  ·intro acc k ha
   dsimp only[U2]
   simp (disch:=first | assumption | omega) only[Aq,List.length_map]
section
variable (N:Nat) (s c A A':Bs) (P P':List Gn) (h1:O6 N s=some (AA 48 c,0))
include h1
theorem Aql (h2:DU N c=some ([AA 160 A],0)) (h3:BG N A=some (P,0)) (h4:Dw N (P,[])=some 0):En N s=some ((P,[]),0):=by
  have h2':DU N (AA 48 c).2.1=some ([AA 160 A],0):=h2
  have h3':BG N (([AA 160 A]:List El).getD 0 (0,[],[])).2.1=some (P,0):=h3
  unfold En
  simp only[h1,h2',h3',h4,Ae,A8,cond_true,cond_false,Bool.or_not_self,Bool.not_true,Bool.not_false,Bool.true_or,Bool.or_true,show((0:Int) != 0)=false from rfl,show((AA 48 c).1 != 48)=false from rfl,show((([AA 160 A]:List El).getD 0 (0,[],[])).1 != 160)=false from rfl,show AB ([AA 160 A]:List El) 1 ([AA 160 A]:List El).length=[]from rfl,show((([AA 160 A]:List El).length:Int)==0)=false from rfl,show decide ((0:Int)<(([AA 160 A]:List El).length:Int))=true from rfl,show decide ((1:Int)<=(([AA 160 A]:List El).length:Int))=true from rfl,show decide ((([AA 160 A]:List El).length:Int)>0)=true from rfl,show((([]:List El).length:Int)==0)=true from rfl,show decide ((0:Int)<(([]:List El).length:Int))=false from rfl,show decide ((1:Int)<=(([]:List El).length:Int))=false from rfl,show decide ((([]:List El).length:Int)>0)=false from rfl]
theorem Aqm (h2:DU N c=some ([AA 161 A],0)) (h3:BG N A=some (P,0)) (h4:Dw N ([],P)=some 0):En N s=some (([],P),0):=by
  have h2':DU N (AA 48 c).2.1=some ([AA 161 A],0):=h2
  have h3':BG N (([AA 161 A]:List El).getD 0 (0,[],[])).2.1=some (P,0):=h3
  unfold En
  simp only[h1,h2',h3',h4,Ae,A8,cond_true,cond_false,Bool.or_not_self,Bool.not_true,Bool.not_false,Bool.true_or,Bool.or_true,show((0:Int) != 0)=false from rfl,show((AA 48 c).1 != 48)=false from rfl,show((([AA 161 A]:List El).getD 0 (0,[],[])).1 != 160)=true from rfl,show((([AA 161 A]:List El).getD 0 (0,[],[])).1 != 161)=false from rfl,show AB ([AA 161 A]:List El) 1 ([AA 161 A]:List El).length=[]from rfl,show((([AA 161 A]:List El).length:Int)==0)=false from rfl,show decide ((0:Int)<(([AA 161 A]:List El).length:Int))=true from rfl,show decide ((1:Int)<=(([AA 161 A]:List El).length:Int))=true from rfl,show decide ((([AA 161 A]:List El).length:Int)>0)=true from rfl,show((([]:List El).length:Int)==0)=true from rfl,show decide ((0:Int)<(([]:List El).length:Int))=false from rfl,show decide ((1:Int)<=(([]:List El).length:Int))=false from rfl,show decide ((([]:List El).length:Int)>0)=false from rfl]
theorem Aqn (h2:DU N c=some ([AA 160 A,AA 161 A'],0)) (h3:BG N A=some (P,0)) (h5:BG N A'=some (P',0)) (h4:Dw N (P,P')=some 0):En N s=some ((P,P'),0):=by
  have h2':DU N (AA 48 c).2.1=some ([AA 160 A,AA 161 A'],0):=h2
  have h3':BG N (([AA 160 A,AA 161 A']:List El).getD 0 (0,[],[])).2.1=some (P,0):=h3
  have h5':BG N (([AA 161 A']:List El).getD 0 (0,[],[])).2.1=some (P',0):=h5
  unfold En
  simp only[h1,h2',h3',h5',h4,Ae,A8,cond_true,cond_false,Bool.or_not_self,Bool.not_true,Bool.not_false,Bool.true_or,Bool.or_true,show((0:Int) != 0)=false from rfl,show((AA 48 c).1 != 48)=false from rfl,show((([AA 160 A,AA 161 A']:List El).getD 0 (0,[],[])).1 != 160)=false from rfl,show((([AA 161 A']:List El).getD 0 (0,[],[])).1 != 161)=false from rfl,show AB ([AA 160 A,AA 161 A']:List El) 1 ([AA 160 A,AA 161 A']:List El).length=[AA 161 A']from rfl,show AB ([AA 161 A']:List El) 1 ([AA 161 A']:List El).length=[]from rfl,show((([AA 160 A,AA 161 A']:List El).length:Int)==0)=false from rfl,show decide ((0:Int)<(([AA 160 A,AA 161 A']:List El).length:Int))=true from rfl,show decide ((1:Int)<=(([AA 160 A,AA 161 A']:List El).length:Int))=true from rfl,show decide ((([AA 160 A,AA 161 A']:List El).length:Int)>0)=true from rfl,show((([AA 161 A']:List El).length:Int)==0)=false from rfl,show decide ((0:Int)<(([AA 161 A']:List El).length:Int))=true from rfl,show decide ((1:Int)<=(([AA 161 A']:List El).length:Int))=true from rfl,show decide ((([AA 161 A']:List El).length:Int)>0)=true from rfl,show((([]:List El).length:Int)==0)=true from rfl,show decide ((0:Int)<(([]:List El).length:Int))=false from rfl,show decide ((1:Int)<=(([]:List El).length:Int))=false from rfl,show decide ((([]:List El).length:Int)>0)=false from rfl]
end
structure AqJ (N:Nat) (s:St2):Prop where
  i0:QC s=0
  i1:QC (stK s)=0
  w0:PO s=(sbB s,0)
  w1:PO (stK s)=(sbB s,0)
  rd:En N (sbB s)=some (stK s,0)
  len:(sbB s).length<=3800
theorem yZ (N:Nat) {s:St2} (hN:1048578<N) (h:okS s):AqJ N s:=by
  have i0:=AnA h.l0 h.l1 h.ne (fun g hg=>(EK (h.a0 g hg)).i0) (fun g hg=>(EK (h.a1 g hg)).i0)
  have i1:QC (stK s)=0:=AnA (s:=stK s) (by unfold stK;rw[List.length_map];exact h.l0) (by unfold stK;rw[List.length_map];exact h.l1)
    (h.ne.imp (fun h' h''=>h' (List.map_eq_nil_iff.1 h'')) (fun h' h''=>h' (List.map_eq_nil_iff.1 h'')))
    (fun q hq=>by obtain⟨g,hg,rfl⟩:=List.mem_map.1 hq;exact(EK (h.a0 g hg)).i1) (fun q hq=>by obtain⟨g,hg,rfl⟩:=List.mem_map.1 hq;exact(EK (h.a1 g hg)).i1)
  have hl0:=AkO 160 h.a0 h.l0
  have hl1:=AkO 161 h.a1 h.l1
  have hl:(BR 160 s.1++BR 161 s.2).length<=3790:=by rw[List.length_append];omega
  have hK:BR 160 (stK s).1++BR 161 (stK s).2=BR 160 s.1++BR 161 s.2:=by
    show BR 160 (s.1.map gnK)++BR 161 (s.2.map gnK)=_
    rw[AkN 160 h.a0,AkN 161 h.a1]
  refine⟨i0,i1,?_,?_,?_,?_⟩
  ·unfold PO
   rw[i0,wB (by omega)];rfl
  ·unfold PO
   rw[i1,hK,wB (by omega)];rfl
  ·have o:=sW 48 _ (by decide) (by decide) (show(BR 160 s.1++BR 161 s.2).length<=131072 by omega)
   have o2:=(PS N (sbB s) (by omega) (by have:=Sp.Aw 48 (BR 160 s.1++BR 161 s.2);unfold sbB;omega)).trans (congrArg some o)
   have ck:=Ob N (stK s) hN (fun q hq=>by obtain⟨g,hg,rfl⟩:=List.mem_map.1 hq;exact(EK (h.a0 g hg)).s1) (fun q hq=>by obtain⟨g,hg,rfl⟩:=List.mem_map.1 hq;exact(EK (h.a1 g hg)).s1)
   rw[i1]at ck
   have t0:=lI h.a0 h.l0
   have t1:=lI h.a1 h.l1
   have f0:=NC 160 (s.1.map E5).flatten (by decide) (by decide) (by omega)
   have f1:=NC 161 (s.2.map E5).flatten (by decide) (by decide) (by omega)
   have dl:=fun hc:(BR 160 s.1++BR 161 s.2).length<=1048576=>Eb N (BR 160 s.1++BR 161 s.2) (by omega) (by omega) (by omega)
   have dl:=dl (by omega)
   by_cases e0:s.1=[]
   ·have e1:s.2≠ []:=h.ne.resolve_left fun h'=>h' e0
    have n1:s.2.isEmpty=false:=by cases hs:s.2 with | nil=>exact absurd hs e1 | cons a r=>rfl
    have hc:BR 160 s.1++BR 161 s.2=([(161,(s.2.map E5).flatten)].map fun p=>Sp.elem p.1 p.2).flatten:=by
      unfold BR;rw[e0,n1];simp
    have le:=EL [(161,(s.2.map E5).flatten)] (fun q hq=>by rw[List.mem_singleton.1 hq];exact f1)
    rw[<- hc]at le
    rw[le]at dl
    have hk:stK s=([],s.2.map gnK):=by unfold stK;rw[e0];rfl
    rw[hk]at ck ⊢
    exact Aqm N _ _ _ _ o2 dl (OL N s.2 hN h.a1 e1 h.l1) ck
   ·have n0:s.1.isEmpty=false:=by cases hs:s.1 with | nil=>exact absurd hs e0 | cons a r=>rfl
    by_cases e1:s.2=[]
    ·have hc:BR 160 s.1++BR 161 s.2=([(160,(s.1.map E5).flatten)].map fun p=>Sp.elem p.1 p.2).flatten:=by
       unfold BR;rw[e1,n0];simp
     have le:=EL [(160,(s.1.map E5).flatten)] (fun q hq=>by rw[List.mem_singleton.1 hq];exact f0)
     rw[<- hc]at le
     rw[le]at dl
     have hk:stK s=(s.1.map gnK,[]):=by unfold stK;rw[e1];rfl
     rw[hk]at ck ⊢
     exact Aql N _ _ _ _ o2 dl (OL N s.1 hN h.a0 e0 h.l0) ck
    ·have n1:s.2.isEmpty=false:=by cases hs:s.2 with | nil=>exact absurd hs e1 | cons a r=>rfl
     have hc:BR 160 s.1++BR 161 s.2=([(160,(s.1.map E5).flatten),(161,(s.2.map E5).flatten)].map fun p=>Sp.elem p.1 p.2).flatten:=by
       unfold BR;rw[n0,n1];simp
     have le:=EL [(160,(s.1.map E5).flatten),(161,(s.2.map E5).flatten)] (fun q hq=>by
       rcases List.mem_cons.1 hq with rfl | hq
       ·exact f0
       ·rw[List.mem_singleton.1 hq];exact f1)
     rw[<- hc]at le
     rw[le]at dl
     exact Aqn N _ _ _ _ _ _ o2 dl (OL N s.1 hN h.a0 e0 h.l0) (OL N s.2 hN h.a1 e1 h.l1) ck
  ·have:=Sp.Aw 48 (BR 160 s.1++BR 161 s.2)
   unfold sbB;omega
end Go.Proofs.YtadefjgbcapakaaGreatDoor.Pl
namespace Go.Proofs.YtadefjgbcapakaaGreatDoor.Pl
open IntKind (i64)
open Go Vm
structure AoO (pl us re im ia:Int) (pu po:List Bs) (ma:List (Bs×Bs)) (na:List Gn) (hc:Bool) (s:St2) (sk ak:Bs) (pt fr:List Pt):Prop where
  sp:spI pl=true/\spI re=true/\spI im=true/\spI ia=true
  us:0<=us/\us<512
  pu:pu.length<=8/\ ∀ s∈pu,ET s=true
  po:po.length<=8/\ ∀ s∈po,ET s=true
  ma:ma.length<=8/\ ∀ m∈ma,ET m.1=true/\ET m.2=true
  na:na.length<=16/\AU (fun g=>CZ g false) na=0
  con:Zf hc s=0
  sk:sk.length<=32
  ak:ak.length<=32
  pt:Gm pt=0
  fr:Gm fr=0
theorem Ae4 {α :Type} {l:List α} {x: α} (d: α) (h:x∈l): ∃ i,i<l.length/\l.getD i d=x:=by
  obtain⟨i,hi,he⟩:=List.mem_iff_getElem.1 h
  exact⟨i,hi,by rw[getD_lt l i d hi];exact he⟩
theorem Ag9 {l:List Bs} (h:Xd l 8=0):l.length<=8/\ ∀ s∈l,ET s=true:=by
  unfold Xd at h
  cases h1:decide ((l.length:Int)>8)with
  | true=>rw[h1]at h;cases h
  | false =>
    rw[h1,cond_false]at h
    have:=of_decide_eq_false h1
    refine⟨by omega,fun s hs=> ?_⟩
    obtain⟨i,hi,rfl⟩:=Ae4 [] hs
    have hi0:=Ov h i (List.mem_range.2 hi)
    unfold idI at hi0
    cases hv:ET (l.getD i [])with
    | true=>rfl
    | false=>rw[hv]at hi0;cases hi0
theorem Aom {l:List (Bs×Bs)} (h:jF l=0):l.length<=8/\ ∀ m∈l,ET m.1=true/\ET m.2=true:=by
  unfold jF at h
  cases h1:decide (8<l.length)with
  | true=>rw[h1]at h;cases h
  | false =>
    rw[h1,cond_false]at h
    have:=of_decide_eq_false h1
    refine⟨by omega,fun s hs=> ?_⟩
    obtain⟨i,hi,rfl⟩:=Ae4 ([],[]) hs
    have hi0:=Ov h i (List.mem_range.2 hi)
    unfold mpI at hi0
    cases hv:ET (l.getD i ([],[])).1<;>cases hv2:ET (l.getD i ([],[])).2<;>rw[hv,hv2]at hi0<;>first | exact⟨rfl,rfl⟩ | cases hi0
theorem AdA {b:Bool} {x y:Int} (h:(bif b then x else y)=0) (hx:x≠0):b=false/\y=0:=by
  cases b with
  | true=>exact absurd h hx
  | false=>exact⟨rfl,h⟩
theorem pI {e y:Int} (h:(bif e != 0 then e else y)=0):e=0/\y=0:=by
  by_cases he:e=0
  ·subst he;exact⟨rfl,h⟩
  ·rw[show(e != 0)=true from bne_iff_ne.2 he]at h;exact absurd h he
theorem Amo {hb ca:Bool} {pl us:Int} {pu po:List Bs} {ma:List (Bs×Bs)} {re im ia:Int} {na:List Gn} {hc:Bool} {pe ex:List Gn} {sk ak:Bs} {pt fr:List Pt} {un:List Ex} (h:JK (hb,ca,pl,us,pu,po,ma,re,im,ia,na,hc,pe,ex,sk,ak,pt,fr,un)=0) :
    AoO pl us re im ia pu po ma na hc (pe,ex) sk ak pt fr/\(ca=true->hb=true)/\(pl≠ -1->ca=true)/\Abu un=0/\un.length+(rO (hb,ca,pl,us,pu,po,ma,re,im,ia,na,hc,pe,ex,sk,ak,pt,fr,un)).count true<=24:=by
  unfold JK at h
  dsimp only at h
  obtain⟨h1,h⟩:=AdA h (by decide)
  obtain⟨h2,h⟩:=AdA h (by decide)
  obtain⟨h3,h⟩:=pI h
  obtain⟨h4,h⟩:=pI h
  obtain⟨h5,h⟩:=pI h
  obtain⟨h6,h⟩:=AdA h (by decide)
  obtain⟨h7,h⟩:=pI h
  obtain⟨h8,h⟩:=pI h
  obtain⟨h9,h⟩:=AdA h (by decide)
  obtain⟨h10,h⟩:=pI h
  obtain⟨h11,h⟩:=pI h
  obtain⟨h12,h⟩:=AdA h (by decide)
  simp only[Bool.or_eq_false_iff,Bool.not_eq_false',decide_eq_false_iff_not]at h2 h9 h6 h12
  obtain⟨⟨⟨⟨⟨g1,g2⟩,g3⟩,g4⟩,g5⟩,g6⟩:=h2
  refine⟨⟨⟨g1,g2,g3,g4⟩,by omega,Ag9 h3,Ag9 h4,Aom h5,⟨by omega,h7⟩,h8,by omega,by omega,h10,h11⟩,?_,?_,h,by omega⟩
  ·intro hca
   subst hca
   cases hb with
   | true=>rfl
   | false=>cases h1
  ·intro hpl
   rw[show(pl != -1)=true from bne_iff_ne.2 hpl]at h1
   cases ca with
   | true=>rfl
   | false=>simp at h1
def BK (s:Bs):Bs:=Sp.elem 6 (Gl s)
def Ld (ca:Bool) (pl:Int):Bs:=Sp.elem 48 ((bif ca then Sp.elem 1 [255]else [])++(bif pl != -1 then Sp.elem 2 (inB pl)else []))
def UD (l:List Bs):Bs:=Sp.elem 48 (l.map BK).flatten
def UW (l:List Bs):Bs:=Sp.elem 48 (l.map fun s=>Sp.elem 48 (BK s)).flatten
def UH (l:List (Bs×Bs)):Bs:=Sp.elem 48 (l.map fun m=>Sp.elem 48 (BK m.1++BK m.2)).flatten
def Zw (re im:Int):Bs:=Sp.elem 48 ((bif re != -1 then Sp.elem 128 (inB re)else [])++(bif im != -1 then Sp.elem 129 (inB im)else []))
def Ez:Info->List (Bool×Bool×Ex)
  | (hb,ca,pl,us,pu,po,ma,re,im,ia,na,hc,pe,ex,sk,ak,pt,fr,_) =>
    [(hb,false,[50,46,53,46,50,57,46,49,57],true,Ld ca pl),
     (us != 0,false,[50,46,53,46,50,57,46,49,53],true,Sp.elem 3 (flB us)),
     (decide (((pu.length:Nat):Int)>0),false,[50,46,53,46,50,57,46,51,55],false,UD pu),
     (decide (((po.length:Nat):Int)>0),false,[50,46,53,46,50,57,46,51,50],false,UW po),
     (decide (((ma.length:Nat):Int)>0),false,[50,46,53,46,50,57,46,51,51],true,UH ma),
     (re != -1||im != -1,false,[50,46,53,46,50,57,46,51,54],true,Zw re im),
     (ia != -1,false,[50,46,53,46,50,57,46,53,52],true,Sp.elem 2 (inB ia)),
     (decide (((na.length:Nat):Int)>0),false,[50,46,53,46,50,57,46,49,55],false,Sp.elem 48 (BD na)),
     (hc,(PO (pe,ex)).2 != 0,[50,46,53,46,50,57,46,51,48],true,(PO (pe,ex)).1),
     (!(sk==[]),false,[50,46,53,46,50,57,46,49,52],false,Sp.elem 4 sk),
     (!(ak==[]),false,[50,46,53,46,50,57,46,51,53],false,Sp.elem 48 (Sp.elem 128 ak)),
     (decide (((pt.length:Nat):Int)>0),(JP pt).2 != 0,[50,46,53,46,50,57,46,51,49],false,(JP pt).1),
     (decide (((fr.length:Nat):Int)>0),(JP fr).2 != 0,[50,46,53,46,50,57,46,52,54],false,(JP fr).1)]
abbrev noX:Bool×Bool×Ex:=(false,false,[],false,[])
def OW (r:Bool×Bool×Ex):List Ex:=bif r.1 then [r.2.2]else []
def pG (r:Bool×Bool×Ex):Bool:=r.1&&r.2.1
def encI (x:Info):List Ex×Int:=bif JK x != 0 then([],JK x)else bif (Ez x).any pG then([],2)else((Ez x).flatMap OW++x.2.2.2.2.2.2.2.2.2.2.2.2.2.2.2.2.2.2,0)
section
variable (N:Nat) (hN:1048578<N)
include hN
theorem Aje (b:Bool) {n:Int} (h:spI n=true):Jt N b n=some (Sp.elem 2 (inB n),b):=by
  obtain⟨h1,_,h3⟩:=N7 N n hN h
  have w:Ak N b 2 [inB n]=_:=Oh N 2 b [inB n] (by omega) (by omega) hN (by simp) (by rw[CV];omega)
  rw[CV]at w
  unfold Jt
  rw[h1,Ae,w,Ae]
theorem AnC (b v:Bool):IL N b 1 v=some (bif v then Sp.elem 1 [255]else [],b):=by
  unfold IL
  cases v with
  | false=>rfl
  | true =>
    have w:Ak N b 1 [[255]]=_:=Oh N 1 b [[255]] (by omega) (by omega) hN (by simp) (by simp)
    show Ac (Ak N b 1 [[255]]) _=_
    rw[w,Ae];rfl
theorem Aog {n:Int} (h:spI n=true):(inB n).length<=2:=(N7 N n hN h).2.2
theorem AfV (b:Bool) (x:Info) (h:spI x.2.2.1=true):FX N b x=some (Ld x.2.1 x.2.2.1,b):=by
  obtain⟨hb,ca,pl,us,pu,po,ma,re,im,ia,na,hc,pe,ex,sk,ak,pt,fr,un⟩:=x
  have h:spI pl=true:=h
  have hi:=Aog N hN h
  have he:=Sp.Aw 2 (inB pl)
  unfold FX
  try simp only[clR]
  simp only[Ho]
  have fin: ∀ t:Bs,t.length<=10->(Ac (IL N b 1 ca) fun r17=>Ac (AZ N r17.snd [r17.fst,t]) fun r20=>some (r20.fst,r20.snd))=some (Sp.elem 48 ((bif ca then Sp.elem 1 [255]else [])++t),b):=by
    intro t ht
    rw[AnC N hN,Ae]
    dsimp only
    unfold AZ
    have hl:((bif ca then Sp.elem 1 [255]else []):Bs).length<=10:=by cases ca<;>decide
    have w:Ak N b 48 [bif ca then Sp.elem 1 [255]else [],t]=_:=Oh N 48 b [bif ca then Sp.elem 1 [255]else [],t] (by omega) (by omega) hN (by simp) (by rw[Tj,List.length_append];omega)
    rw[w,Ae,Ae,Tj]
  unfold Ld
  cases hp:pl != -1 with
  | true =>
    rw[cond_true,cond_true,Aje N hN b h,Ae]
    exact fin (Sp.elem 2 (inB pl)) (by omega)
  | false=>exact fin [] (by simp)
theorem AfX (b:Bool) (x:Info) (h:0<=x.2.2.2.1/\x.2.2.2.1<512):FZ N b x=some (Sp.elem 3 (flB x.2.2.2.1),b):=by
  have hl:=Aa5 h
  unfold FZ
  rw[(Wv N _ hN h.1 h.2).1,Ae,Kz,Ae]
  have w:Ak N b 3 [flB x.2.2.2.1]=_:=Oh N 3 b [flB x.2.2.2.1] (by omega) (by omega) hN (by simp) (by rw[CV];omega)
  rw[CV]at w
  show Ac (Ak N (b||false) 3 [flB x.2.2.2.1]) _=_
  rw[Bool.or_false,w,Ae]
theorem ZB (b:Bool) {s:Bs} (hs:FV s) (h:ET s=true):GK N b s=some (BK s,b):=by
  obtain⟨o1,o2⟩:=kZ h
  unfold GK
  rw[aH N s (by omega) hs,o1,Ae,Kz,Ae]
  have w:Ak N b 6 [Gl s]=_:=Oh N 6 b [Gl s] (by omega) (by omega) hN (by simp) (by rw[CV];omega)
  rw[CV]at w
  show Ac (Ak N (b||false) 6 [Gl s]) _=_
  rw[Bool.or_false,w,Ae];rfl
omit hN in
theorem NY {s:Bs} (h:ET s=true):(BK s).length<=65:=by
  have:=(kZ h).2
  have:=Sp.Aw 6 (Gl s)
  unfold BK;omega
theorem jW (b:Bool) (l:List Bs) (hl:l.length<=1000) (hs:l.flatten.length<=131072):AZ N b l=some (Sp.elem 48 l.flatten,b):=by
  unfold AZ
  have w:Ak N b 48 l=_:=Oh N 48 b l (by omega) (by omega) hN hl hs
  rw[w,Ae]
theorem Abf (b:Bool) (x:Info) (hs: ∀ s∈x.2.2.2.2.1,FV s) (h:x.2.2.2.2.1.length<=8/\ ∀ s∈x.2.2.2.2.1,ET s=true):EE N b x=some (UD x.2.2.2.2.1,b):=by
  unfold EE UD
  try simp only[clR]
  generalize x.2.2.2.2.1=l at *
  have hl:=D5 (g:=BK) (M:=65) (l:=l) (fun s hm=>NY (h.2 s hm))
  refine(L8 (mk:=fun i a=>((i:Int),b,a)) l [] BK (fun a=>Ac (AZ N b a) fun r=>some (r.1,r.2)) ?_ ?_ N (by omega)).trans ?_
  ·intro i a hi ha k
   have hp:=ZB N hN b (hs _ (getD_mem [] hi)) (h.2 _ (getD_mem [] hi))
   simp (disch:=first | assumption | omega) only[Aq,hp,BJ]
  ·intro a k ha
   simp (disch:=first | assumption | omega) only[Aq]
  ·rw[jW N hN b _ (by rw[List.length_map];omega) (by omega),Ae]
theorem Abe (b:Bool) (x:Info) (hs: ∀ s∈x.2.2.2.2.2.1,FV s) (h:x.2.2.2.2.2.1.length<=8/\ ∀ s∈x.2.2.2.2.2.1,ET s=true):ED N b x=some (UW x.2.2.2.2.2.1,b):=by
  unfold ED UW
  try simp only[clR]
  generalize x.2.2.2.2.2.1=l at *
  have hl:=D5 (g:=fun s=>Sp.elem 48 (BK s)) (M:=70) (l:=l) (fun s hm=>by have:=NY (h.2 s hm);have:=Sp.Aw 48 (BK s);omega)
  refine(L8 (mk:=fun i a=>((i:Int),b,a)) l [] (fun s=>Sp.elem 48 (BK s)) (fun a=>Ac (AZ N b a) fun r=>some (r.1,r.2)) ?_ ?_ N (by omega)).trans ?_
  ·intro i a hi ha k
   have hv:=h.2 _ (getD_mem [] hi)
   have hp:=ZB N hN b (hs _ (getD_mem [] hi)) hv
   have hq:=jW N hN b [BK (l.getD i [])] (by simp) (by rw[CV];have:=NY hv;omega)
   rw[CV]at hq
   simp (disch:=first | assumption | omega) only[Aq,hp,hq,BJ]
  ·intro a k ha
   simp (disch:=first | assumption | omega) only[Aq]
  ·rw[jW N hN b _ (by rw[List.length_map];omega) (by omega),Ae]
theorem Abd (b:Bool) (x:Info) (hs: ∀ s∈x.2.2.2.2.2.2.1,AeZ s) (h:x.2.2.2.2.2.2.1.length<=8/\ ∀ m∈x.2.2.2.2.2.2.1,ET m.1=true/\ET m.2=true):EC N b x=some (UH x.2.2.2.2.2.2.1,b):=by
  unfold EC UH
  try simp only[clR]
  generalize x.2.2.2.2.2.2.1=l at *
  have hl:=D5 (g:=fun m:Bs×Bs=>Sp.elem 48 (BK m.1++BK m.2)) (M:=135) (l:=l) (fun m hm=>by have:=NY (h.2 m hm).1;have:=NY (h.2 m hm).2;have:=Sp.Aw 48 (BK m.1++BK m.2);rw[List.length_append]at this;omega)
  refine(L8 (mk:=fun i a=>((i:Int),b,a)) l ([],[]) (fun m=>Sp.elem 48 (BK m.1++BK m.2)) (fun a=>Ac (AZ N b a) fun r=>some (r.1,r.2)) ?_ ?_ N (by omega)).trans ?_
  ·intro i a hi ha k
   have hv:=h.2 _ (getD_mem ([],[]) hi)
   have hsm:=hs _ (getD_mem ([],[]) hi)
   have hp:=ZB N hN b hsm.1 hv.1
   have hp2:=ZB N hN b hsm.2 hv.2
   have hq:=jW N hN b [BK (l.getD i ([],[])).1,BK (l.getD i ([],[])).2] (by simp) (by rw[Tj,List.length_append];have:=NY hv.1;have:=NY hv.2;omega)
   rw[Tj]at hq
   simp (disch:=first | assumption | omega) only[Aq,hp,hp2,hq,BJ]
  ·intro a k ha
   simp (disch:=first | assumption | omega) only[Aq]
  ·rw[jW N hN b _ (by rw[List.length_map];omega) (by omega),Ae]
end
