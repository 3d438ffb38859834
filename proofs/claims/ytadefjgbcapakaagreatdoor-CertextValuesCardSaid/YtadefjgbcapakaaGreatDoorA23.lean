import Derived.Test.YtadefjgbcapakaaGreatDoorA22
set_option linter.all false
namespace Go.Proofs.YtadefjgbcapakaaGreatDoor.Pl
open IntKind (i64)
open Go Vm
theorem wrap_u64 (x:Int):IntKind.u64.wrap x=x % 18446744073709551616:=by
  simp [IntKind.wrap,IntKind.bits,IntKind.signed]
theorem Aai (a b:Nat) (hb:b<256):(a*256) ||| b=a*256+b:=by
  rw[show a*256=a <<< 8 by rw[Nat.shiftLeft_eq],<- Nat.shiftLeft_add_eq_or_of_lt (by omega:b<2 ^ 8)]
theorem ori (x b:Int) (h1: -36028797018963968<=x) (h2:x<36028797018963968) (h3:0<=b) (h4:b<256):Bg .or .i64 (i64.wrap (x*256)) (i64.wrap b)=x*256+b:=by
  rw[w64 (by omega) (by omega),w64 (by omega) (by omega)]
  have e1:(BitVec.ofInt 64 (x*256)).toNat=((x*256) % 18446744073709551616).toNat:=by simp [BitVec.toNat_ofInt]
  have e2:(BitVec.ofInt 64 b).toNat=b.toNat:=by rw[BitVec.toNat_ofInt];omega
  show i64.wrap (((BitVec.ofInt 64 (x*256)) ||| (BitVec.ofInt 64 b)).toNat:Int)=_
  rw[BitVec.toNat_or,e1,e2,show((x*256) % 18446744073709551616).toNat=(x % 72057594037927936).toNat*256 by omega,Aai _ _ (by omega),IntKind.wrap_i64]
  omega
theorem oru (x b:Int) (h3:0<=b) (h4:b<256):Bg .or .u64 (IntKind.u64.wrap (x*256)) (IntKind.u64.wrap b)=(x*256+b) % 18446744073709551616:=by
  rw[wrap_u64,wrap_u64]
  have e1:(BitVec.ofInt 64 ((x*256) % 18446744073709551616)).toNat=((x*256) % 18446744073709551616).toNat:=by rw[BitVec.toNat_ofInt];omega
  have e2:(BitVec.ofInt 64 (b % 18446744073709551616)).toNat=b.toNat:=by rw[BitVec.toNat_ofInt];omega
  show IntKind.u64.wrap (((BitVec.ofInt 64 ((x*256) % 18446744073709551616)) ||| (BitVec.ofInt 64 (b % 18446744073709551616))).toNat:Int)=_
  rw[BitVec.toNat_or,e1,e2,show((x*256) % 18446744073709551616).toNat=(x % 72057594037927936).toNat*256 by omega,Aai _ _ (by omega),wrap_u64]
  omega
theorem Aha: ∀(l:Bs) (k:Nat) (v:Int),k+l.length<=7-> -(128*256 ^ k)<=v->v<128*256 ^ k ->
    l.foldl (fun acc b=>Bg .or .i64 (i64.wrap (acc*256)) (i64.wrap (b.toNat:Int))) v=Sp.be v l:=by
  intro l
  induction l with
  | nil=>intro k v _ _ _;rfl
  | cons b r ih =>
    intro k v hk h1 h2
    simp only[List.length_cons]at hk
    have hb:=b.toNat_lt
    have hp:=Sp.nV (show k<=6 by omega)
    have h6:(256:Int) ^ 6=281474976710656:=by decide
    rw[List.foldl_cons,ori _ _ (by omega) (by omega) (by omega) (by omega),Sp.Yx]
    have hs:(256:Int) ^ (k+1)=256 ^ k*256:=Int.pow_succ ..
    exact ih (k+1) _ (by omega) (by omega) (by omega)
theorem Agr: ∀(l:Bs) (v w:Int),v=w % 18446744073709551616 ->
    l.foldl (fun acc b=>Bg .or .u64 (IntKind.u64.wrap (acc*256)) (IntKind.u64.wrap (b.toNat:Int))) v=Sp.be w l % 18446744073709551616:=by
  intro l
  induction l with
  | nil=>intro v w h;exact h
  | cons b r ih =>
    intro v w h
    have hb:=b.toNat_lt
    rw[List.foldl_cons,oru _ _ (by omega) (by omega),Sp.Yx]
    exact ih _ _ (by omega)
theorem fE {S:Type} (g:S->UInt8->S) (l:Bs) (a:S):(List.range l.length).foldl (fun s i=>g s (l.getD i 0)) a=l.foldl g a:=by
  have e:(List.range l.length).map (fun i=>l.getD i 0)=l:=by
    apply List.ext_getElem (by simp)
    intro i h1 h2
    simp [List.getD_eq_getElem?_getD,h2]
  conv=>rhs;rw[<- e,List.foldl_map]
theorem AgL (a:UInt8):i64.wrap (IntKind.i8.wrap (a.toNat:Int))=Sp.Lm a:=by
  have: ∀ a:Fin 256,i64.wrap (IntKind.i8.wrap (a.val:Int))=if a.val<128 then(a.val:Int)else(a.val:Int) - 256:=by decide +kernel
  exact this ⟨a.toNat,a.toNat_lt⟩
theorem nX (N:Nat) (a:UInt8) (r:Bs) (hN:16<N) (hr:r.length<=7):Ar (X:=Int×Int) (Y:=Int) (U2 fun t4a t43a k11 x12 =>
    bif decide (t43a<(i64.wrap (((a::r).length:Int) - (1:Int))))then(chk (decide ((0:Int)<=i64.wrap (t43a+(1:Int)))) <|
    chk (decide (i64.wrap (t43a+(1:Int))<((a::r).length:Int))) <|
    k11 (Bg .or .i64 (i64.wrap (t4a*(256))) (i64.wrap (((a::r).getD ((i64.wrap (t43a+(1:Int))).toNat) 0).toNat:Int)),i64.wrap (t43a+(1:Int))))
    else(x12 t4a))
    N (i64.wrap (IntKind.i8.wrap (a.toNat:Int)),0) (fun t4b=>some (t4b,0))=some (Sp.be (Sp.Lm a) r,(0:Int)):=by
  have hl:((a::r).length:Int)=(r.length:Int)+1:=by simp
  refine(MI (fun i acc=>(acc,(i:Int))) r.length (fun i acc=>Bg .or .i64 (i64.wrap (acc*256)) (i64.wrap ((r.getD i 0).toNat:Int))) (fun acc=>some (acc,0)) ?_ ?_ N _ (by omega)).trans ?_
  ·intro i acc hi k
   dsimp only[U2]
   rw[hl]
   have e:(((i:Int)+1)).toNat=i+1:=by omega
   simp (disch:=first | assumption | omega) only[AU,e,List.getD_cons_succ]
   rfl
  ·intro acc k
   dsimp only[U2]
   rw[hl]
   simp (disch:=first | assumption | omega) only[AU]
  ·have:=AgL a
   rw[this,fE (fun acc b=>Bg .or .i64 (i64.wrap (acc*256)) (i64.wrap (b.toNat:Int)))]
   have hs:=Sp.Vl a
   rw[Aha r 0 _ (by omega) (by omega) (by omega)]
theorem bad_eq (a b:UInt8) (r:Bs):Sp.WE (a::b::r)=((((a.toNat:Int)==0)&&decide ((b.toNat:Int)<128))||(((a.toNat:Int)==255)&& !decide ((b.toNat:Int)<128))):=by
  have e1:((a.toNat:Int)==0)=decide (a.toNat=0):=by rw[Bool.eq_iff_iff];simp
  have e2:((a.toNat:Int)==255)=decide (a.toNat=255):=by rw[Bool.eq_iff_iff];simp;omega
  have e3:decide ((b.toNat:Int)<128)=decide (b.toNat<128):=by rw[Bool.eq_iff_iff];simp;omega
  rw[e1,e2,e3]
  show(_||_&&decide (128<=b.toNat))=_
  rw[show decide (128<=b.toNat)= !decide (b.toNat<128) by rw[Bool.eq_iff_iff];simp]
theorem iJ (N:Nat) (s:Bs) (hN:16<N) (hs:s.length<=1048576):II N s=some (Sp.integer s):=by
  match s with
  | []=>rfl
  | [a] =>
    have hlo:=nX N a [] hN (by simp)
    have d1:decide (([a].length:Int)>1)=false:=by simp
    have d2:decide ((0:Int)<([a].length:Int))=true:=by simp
    have d4:decide (([a].length:Int)>8)=false:=by simp
    have e1:([a]==([]:Bs))=false:=by simp
    unfold II
    have hi:Sp.integer [a]=(Sp.be (Sp.Lm a) [],0):=by simp [Sp.integer,Sp.WE,Sp.uQ]
    rw[hi]
    have d3:decide ((1:Int)<([a].length:Int))=false:=by simp
    simp only[List.getD_cons_zero,d1,d2,d3,d4,e1]
    generalize ((a.toNat:Int)==0)=X
    generalize ((a.toNat:Int)==255)=Z
    cases X<;>cases Z<;>exact Eq.trans (by kernel_rfl) hlo
  | a::b::r =>
    have e1:((a::b::r)==([]:Bs))=false:=rfl
    have hl:((a::b::r).length:Int)=(r.length:Int)+2:=by simp;omega
    have hg:decide ((b.toNat:Int)>=128)= !decide ((b.toNat:Int)<128):=by rw[Bool.eq_iff_iff];simp
    unfold II
    simp only[e1,hg,List.getD_cons_zero,List.getD_cons_succ]
    have hlo:=nX N a (b::r) hN
    unfold Sp.integer
    rw[bad_eq]
    have d1:decide (((a::b::r).length:Int)>1)=true:=decide_eq_true (by omega)
    have d2:decide ((0:Int)<((a::b::r).length:Int))=true:=decide_eq_true (by omega)
    have d3:decide ((1:Int)<((a::b::r).length:Int))=true:=decide_eq_true (by omega)
    simp only[d1,d2,d3]
    generalize ((a.toNat:Int)==0)=X
    generalize decide ((b.toNat:Int)<128)=Y
    generalize ((a.toNat:Int)==255)=Z
    by_cases h8:(a::b::r).length<=8
    ·have hlo:=hlo (by simpa using h8)
     have d4:decide (((a::b::r).length:Int)>8)=false:=decide_eq_false (by omega)
     have d5: ¬ 8<(a::b::r).length:=by omega
     rw[d4,if_neg d5]
     cases X<;>cases Y<;>cases Z<;>first | rfl | exact hlo
    ·have d4:decide (((a::b::r).length:Int)>8)=true:=decide_eq_true (by omega)
     have d5:8<(a::b::r).length:=by omega
     rw[d4,if_pos d5]
     cases X<;>cases Y<;>cases Z<;>rfl
theorem wZ (N:Nat) (s:Bs) (t:Int) (hN:16<N) (hr:s.length<=8):Ar (X:=Int×Int) (Y:=Int) (U2 fun t4b t5b k12 x13 =>
    bif decide (t5b<(s.length:Int))then(chk (decide ((0:Int)<=t5b)) <|
    chk (decide (t5b<(s.length:Int))) <|
    let x52:Int:=Bg .or .u64 (IntKind.u64.wrap (t4b*(256))) (IntKind.u64.wrap ((s.getD t5b.toNat 0).toNat:Int))
    k12 (x52,i64.wrap (t5b+(1:Int))))
    else(x13 t4b))
    N (t,0) (fun t4c=>some (i64.wrap t4c,0))=some (i64.wrap (s.foldl (fun acc b=>Bg .or .u64 (IntKind.u64.wrap (acc*256)) (IntKind.u64.wrap (b.toNat:Int))) t),(0:Int)):=by
  refine(MI (fun i acc=>(acc,(i:Int))) s.length (fun i acc=>Bg .or .u64 (IntKind.u64.wrap (acc*256)) (IntKind.u64.wrap ((s.getD i 0).toNat:Int))) (fun acc=>some (i64.wrap acc,0)) ?_ ?_ N _ (by omega)).trans ?_
  ·intro i acc hi k
   dsimp only[U2]
   simp (disch:=first | assumption | omega) only[AU]
   rfl
  ·intro acc k
   dsimp only[U2]
   simp (disch:=first | assumption | omega) only[AU]
  ·rw[fE (fun acc b=>Bg .or .u64 (IntKind.u64.wrap (acc*256)) (IntKind.u64.wrap (b.toNat:Int)))]
theorem AfV (a:UInt8) (r:Bs) (hr:r.length<=7):i64.wrap ((a::r).foldl (fun acc b=>Bg .or .u64 (IntKind.u64.wrap (acc*256)) (IntKind.u64.wrap (b.toNat:Int))) (bif decide ((a.toNat:Int)>=128)then 18446744073709551615 else 0))=Sp.be (Sp.Lm a) r:=by
  have hl:=a.toNat_lt
  have e: ∀ w:Int,((bif decide ((a.toNat:Int)>=128)then 18446744073709551615 else 0:Int))=w % 18446744073709551616->w*256+(a.toNat:Int)=Sp.Lm a->i64.wrap ((a::r).foldl (fun acc b=>Bg .or .u64 (IntKind.u64.wrap (acc*256)) (IntKind.u64.wrap (b.toNat:Int))) (bif decide ((a.toNat:Int)>=128)then 18446744073709551615 else 0))=Sp.be (Sp.Lm a) r:=by
    intro w h1 h2
    rw[Agr _ _ w h1,Sp.Yx,h2]
    have:=Sp.Ac3 r hr _ (Sp.Vl a).1 (Sp.Vl a).2
    rw[IntKind.wrap_i64];omega
  by_cases h:(a.toNat:Int)>=128
  ·exact e (-1) (by rw[decide_eq_true h];rfl) (by unfold Sp.Lm;rw[if_neg (by omega)];omega)
  ·exact e 0 (by rw[decide_eq_false h];rfl) (by unfold Sp.Lm;rw[if_pos (by omega)];omega)
theorem Aal (N:Nat) (a:UInt8) (r:Bs) (hN:16<N) (hr:r.length<=7) (f:Int->Option (Int×Int)) (hf: ∀ t,f t=Ar (X:=Int×Int) (Y:=Int) (U2 fun t4b t5b k12 x13 =>
    bif decide (t5b<((a::r).length:Int))then(chk (decide ((0:Int)<=t5b)) <|
    chk (decide (t5b<((a::r).length:Int))) <|
    let x52:Int:=Bg .or .u64 (IntKind.u64.wrap (t4b*(256))) (IntKind.u64.wrap (((a::r).getD t5b.toNat 0).toNat:Int))
    k12 (x52,i64.wrap (t5b+(1:Int))))
    else(x13 t4b))
    N (t,0) (fun t4c=>some (i64.wrap t4c,0))):(bif decide ((a.toNat:Int)>=128)then f 18446744073709551615 else f 0)=some (Sp.be (Sp.Lm a) r,(0:Int)):=by
  have:=AfV a r hr
  cases h:decide ((a.toNat:Int)>=128)with
  | true=>rw[h]at this;show f _=_;rw[hf,wZ N _ _ hN (by simp;omega)];exact congrArg (fun x=>some (x,0)) this
  | false=>rw[h]at this;show f _=_;rw[hf,wZ N _ _ hN (by simp;omega)];exact congrArg (fun x=>some (x,0)) this
theorem cO (N:Nat) (s:Bs) (hN:16<N) (hs:s.length<=1048576):H8 N s=some (Sp.integer s):=by
  match s with
  | []=>rfl
  | [a] =>
    have hlo:=Aal N a [] hN (by simp) _ (fun _=>rfl)
    have d1:decide (([a].length:Int)>1)=false:=by simp
    have d2:decide ((0:Int)<([a].length:Int))=true:=by simp
    have d4:decide (([a].length:Int)>8)=false:=by simp
    have e1:(([a].length:Int)==0)=false:=by simp
    unfold H8
    have hi:Sp.integer [a]=(Sp.be (Sp.Lm a) [],0):=by simp [Sp.integer,Sp.WE,Sp.uQ]
    rw[hi]
    have d3:decide ((1:Int)<([a].length:Int))=false:=by simp
    simp only[List.getD_cons_zero,d1,d2,d3,d4,e1]
    generalize ((a.toNat:Int)==0)=X
    generalize ((a.toNat:Int)==255)=Z
    cases X<;>cases Z<;>exact Eq.trans (by kernel_rfl) hlo
  | a::b::r =>
    have hl:((a::b::r).length:Int)=(r.length:Int)+2:=by simp;omega
    have hg:decide ((b.toNat:Int)>=128)= !decide ((b.toNat:Int)<128):=by rw[Bool.eq_iff_iff];simp
    unfold H8
    have e1:(((a::b::r).length:Int)==0)=false:=beq_eq_false_iff_ne.2 (by omega)
    simp only[e1,hg,List.getD_cons_zero,List.getD_cons_succ]
    have hlo:=Aal N a (b::r) hN
    unfold Sp.integer
    rw[bad_eq]
    have d1:decide (((a::b::r).length:Int)>1)=true:=decide_eq_true (by omega)
    have d2:decide ((0:Int)<((a::b::r).length:Int))=true:=decide_eq_true (by omega)
    have d3:decide ((1:Int)<((a::b::r).length:Int))=true:=decide_eq_true (by omega)
    simp only[d1,d2,d3]
    generalize ((a.toNat:Int)==0)=X
    generalize decide ((b.toNat:Int)<128)=Y
    generalize ((a.toNat:Int)==255)=Z
    by_cases h8:(a::b::r).length<=8
    ·have hlo:=hlo (by simpa using h8) _ (fun _=>rfl)
     have d4:decide (((a::b::r).length:Int)>8)=false:=decide_eq_false (by omega)
     have d5: ¬ 8<(a::b::r).length:=by omega
     rw[d4,if_neg d5]
     cases X<;>cases Y<;>cases Z<;>first | rfl | (rw [Tv];exact hlo)
    ·have d4:decide (((a::b::r).length:Int)>8)=true:=decide_eq_true (by omega)
     have d5:8<(a::b::r).length:=by omega
     rw[d4,if_pos d5]
     cases X<;>cases Y<;>cases Z<;>rfl
def AP (l:List El) (t:Int):El×Int×List El:=match l with
  | []=>((0,[],[]),3,[])
  | e::r=>bif e.1 != t then((0,[],[]),5,e::r)else(e,0,r)
theorem Ah5 (e:El) (r:List El):AV (e::r) 1 (e::r).length=r:=by
  show((e::r).take (e::r).length).drop 1=r
  rw[List.take_length];rfl
theorem jV (N:Nat) (l:List El) (t:Int):E8 N l t=some (AP l t):=by
  cases l with
  | nil=>rfl
  | cons e r =>
    have h1:decide (((e::r).length:Int)>(0:Int))=true:=decide_eq_true (by simp only[List.length_cons];omega)
    have h2:decide ((0:Int)<((e::r).length:Int))=true:=decide_eq_true (by simp only[List.length_cons];omega)
    have h3:decide ((1:Int)<=((e::r).length:Int))=true:=decide_eq_true (by simp only[List.length_cons];omega)
    have h4:(((e::r).length:Int)==(0:Int))=false:=by simp;omega
    unfold E8 MG AP
    rw[h1,h3,h4,Ah5]
    show(bif e.1 != t then some (((0,[],[]):El),(5:Int),e::r)else some (e,(0:Int),r))=_
    rw[AZ]
theorem sJ (N:Nat) (es l:List El) (x:List El×Int) (hx:At es l x) (hl:es.length<=1099511627776) (t:Int) (ht:0<=t) :
    ∃ y,Ee N x t=some ((AP l t).1,(AP l t).2.1,y)/\At es (AP l t).2.2 y:=by
  obtain⟨i,rfl,hi,hd⟩:=hx
  unfold Ee
  have ht':decide (t>=(0:Int))=true:=decide_eq_true (by omega)
  by_cases h:i=es.length
  ·have hl0:l=[]:=by rw[<- hd,h,List.drop_length]
   subst hl0
   have h0:decide ((i:Int)>=(es.length:Int))=true:=decide_eq_true (by omega)
   dsimp only
   rw[h0]
   exact⟨(es,(i:Int)),rfl,i,rfl,hi,hd⟩
  ·have h0:decide ((i:Int)>=(es.length:Int))=false:=decide_eq_false (by omega)
   have h1:decide ((0:Int)<=(i:Int))=true:=decide_eq_true (by omega)
   have h2:decide ((i:Int)<(es.length:Int))=true:=decide_eq_true (by omega)
   have hg:es.drop i=es.getD i (0,[],[])::es.drop (i+1):=by
     rw[List.drop_eq_getElem_cons (by omega)];congr 1
     simp [List.getD_eq_getElem?_getD,show i<es.length by omega]
   dsimp only
   rw[h0,h1,h2,ht',w64 (x:=(i:Int)+1) (by omega) (by omega),Int.toNat_natCast]
   rw[<- hd,hg]
   show ∃ y,(bif ((es.getD i (0,[],[])).1 != t)then some (((0,[],[]):El),(5:Int),(es,(i:Int)))else some (es.getD i (0,[],[]),(0:Int),(es,(i:Int)+1)))=some ((AP _ t).1,(AP _ t).2.1,y)/\At es (AP _ t).2.2 y
   unfold AP
   dsimp only
   cases hb:(es.getD i (0,[],[])).1 != t with
   | true=>exact⟨_,rfl,i,rfl,hi,hg⟩
   | false=>exact⟨_,rfl,i+1,by simp,by omega,rfl⟩
theorem QO {M:Nat} {l:List El} (h:Good M l) (t:Int):Good M (AP l t).2.2/\((AP l t).2.1=0->KA M (AP l t).1):=by
  cases l with
  | nil=>exact⟨h,fun h=>by cases h⟩
  | cons e r =>
    unfold AP
    dsimp only
    cases e.1 != t with
    | true=>exact⟨h,fun h=>by cases h⟩
    | false=>exact⟨h.tail,fun _=>h.all e List.mem_cons_self⟩
def BV (s:Bs) (t:Int):El×Int:=bif (Ig s).2 != 0 then((0,[],[]),(Ig s).2)else bif (Ig s).1.1 != t then((0,[],[]),5)else((Ig s).1,0)
def Kw (l:List El):Int:=if l=[]then 0 else 4
def AQ (s:Bs):List El×Int:=bif (BV s 48).2 != 0 then([],(BV s 48).2)else OM (BV s 48).1.2.1
theorem AfR (s:Bs) (t:Int):((BV s t).2 != 0)=false->((BV s t).1.1 != t)=false:=by
  unfold BV
  cases hb:(Ig s).2 != 0 with
  | true=>intro h;exact absurd h (by show ¬((Ig s).2 != 0)=false;rw[hb];decide)
  | false =>
    cases h:(Ig s).1.1 != t with
    | true=>intro h;cases h
    | false=>intro _;exact h
theorem OH (N:Nat) (s:Bs) (t:Int) (hN:1048578<N) (hs:s.length<=1048576):MC N s t=some (BV s t):=by
  unfold MC BV
  try simp only[clR]
  rw[jM N s (by omega) (by omega),Af]
  simp only[AZ]
theorem Vu (N:Nat) (s:Bs) (t:Int) (hN:1048578<N) (hs:s.length<=1048576):ET N s t=some (BV s t):=by
  unfold ET BV
  try simp only[clR]
  rw[XI N s (by omega) (by omega),Af]
  simp only[AZ]
theorem JE (s:Bs) (t:Int):(BV s t).1.2.1.length<=s.length:=by
  have hc:=yO s
  unfold BV
  cases (Ig s).2 != 0 with
  | true=>show 0<=_;omega
  | false=>cases (Ig s).1.1 != t with
    | true=>show 0<=_;omega
    | false=>exact hc.1
theorem GV (s:Bs) (hs:s.length<=1048576):Good 1048576 (AQ s).1:=by
  have hl:=JE s 48
  unfold AQ
  cases (BV s 48).2 != 0 with
  | true=>exact(KE []).mono (by simp)
  | false=>exact(KE _).mono (by omega)
theorem WA {ρ :Type} (N:Nat) (s:Bs) (hN:1048578<N) (hs:s.length<=1048576) (k:List El×Int->Option ρ) (l:Unit×Int->Option ρ) :
    Gp (MF N s 48) k l=bif (AQ s).2 != 0 then l ((),(AQ s).2)else k ((AQ s).1,0):=by
  have hlo:=JE s 48
  unfold MF IB AQ
  rw[OH N s 48 hN hs,Af]
  cases h:(BV s 48).2 != 0 with
  | true=>rw[cond_true,Np,cond_true,h,cond_true]
  | false =>
    rw[cond_false,cond_false,ZF N _ (by omega) (by omega) (by omega),Af]
    cases h2:(OM (BV s 48).1.2.1).2 != 0 with
    | true=>rw[cond_true,Np,Np,cond_true]
    | false=>rw[cond_false,WN,WN,cond_false]
theorem MM (N:Nat) (s:Bs) (hN:1048578<N) (hs:s.length<=1048576):FX N s=some (((AQ s).1,0),(AQ s).2):=by
  have hlo:=JE s 48
  have ht:=AfR s 48
  unfold FX Jg AQ
  rw[Vu N s 48 hN hs,Af]
  cases h:(BV s 48).2 != 0 with
  | true=>rfl
  | false =>
    rw[cond_false,cond_false,ht h,cond_false,V4 N _ (by omega) (by omega) (by omega)]
    rfl
def BJ (s:Bs):List El×Int:=bif (AQ s).2 != 0 then([],(AQ s).2)else bif (AQ s).1.isEmpty then([],7)else((AQ s).1,0)
theorem QL {ρ :Type} (N:Nat) (s:Bs) (hN:1048578<N) (hs:s.length<=1048576) (k:List El×Int->Option ρ) (l:Unit×Int->Option ρ) :
    Gp (Fb N s) k l=bif (BJ s).2 != 0 then l ((),(BJ s).2)else k ((BJ s).1,0):=by
  unfold Fb BJ
  rw[WA N s hN hs]
  cases h:(AQ s).2 != 0 with
  | true=>simp only[h,cond_true,Np]
  | false =>
    unfold Du
    simp only[cond_false,bne_self_eq_false,Af,len0]
    cases h2:(AQ s).1.isEmpty with
    | true=>rfl
    | false=>rfl
def MP (s:Bs):Bool×Int:=bif s==[0]then(false,0)else bif s==[255]then(true,0)else(false,7)
theorem iH (N:Nat) (s:Bs):KO N s=some (MP s):=by
  unfold KO MP
  simp only[AZ]
theorem bY (N:Nat) (s:Bs):J6 N s=some (MP s):=by
  unfold J6 MP
  by_cases h:s=[0]
  ·subst h;rfl
  ·rw[show(s==[0])=false from beq_false_of_ne h]
   cases s==[255]<;>rfl
def NY (s:Bs):Int×Int:=bif (Sp.integer s).2 != 0 then(0,(Sp.integer s).2)else bif decide ((Sp.integer s).1<0)||decide ((Sp.integer s).1>64)then(0,1)else((Sp.integer s).1,0)
theorem number_eq (N:Nat) (s:Bs) (hN:1048578<N) (hs:s.length<=1048576):DJ N s=some (NY s):=by
  unfold DJ NY
  try simp only[clR]
  rw[iJ N s (by omega) hs,Af]
  simp only[AZ]
theorem xG (N:Nat) (s:Bs) (hN:1048578<N) (hs:s.length<=1048576):Jz N s=some (NY s):=by
  unfold Jz NY
  try simp only[clR]
  rw[cO N s (by omega) hs,Af]
  simp only[AZ]
def J3 (l:List El) (t:Int):Bool×Int:=bif !(BB l t).2.1 then(false,0)else bif (MP (BB l t).1.2.1).2 != 0 then(false,(MP (BB l t).1.2.1).2)else bif !(MP (BB l t).1.2.1).1 then(false,7)else(true,0)
theorem Af8 (N:Nat) (l:List El) (t:Int):Il N l t=some ((J3 l t).1,(J3 l t).2,(BB l t).2.2):=by
  unfold Il J3
  try simp only[clR]
  rw[sG,Af]
  cases h:(BB l t).2.1 with
  | false=>rfl
  | true =>
    rw[Bool.not_true,cond_false,cond_false,iH,Af]
    unfold MP
    cases (BB l t).1.2.1==[0]with
    | true=>rfl
    | false=>cases (BB l t).1.2.1==[255]<;>rfl
theorem Aei (N:Nat) (es l:List El) (x:List El×Int) (hx:At es l x) (hl:es.length<=1099511627776) (t:Int) :
    ∃ y,OY N x t=some ((J3 l t).1,(J3 l t).2,y)/\At es (BB l t).2.2 y:=by
  obtain⟨y,h1,h2⟩:=Acv N es l x hx hl t
  refine⟨y,?_,h2⟩
  unfold OY J3
  rw[h1,Af]
  dsimp only
  cases h:(BB l t).2.1 with
  | false=>rfl
  | true =>
    rw[Bool.not_true,cond_false,cond_false,bY,Af]
    cases (MP (BB l t).1.2.1).2 != 0 with
    | true=>rfl
    | false=>cases (MP (BB l t).1.2.1).1<;>rfl
theorem Uy {l:List El} (hg:Good 1048576 l) (t:Int) (h:(BB l t).2.1=true):(BB l t).1.2.1.length<=1048576:=by have:=((Qa hg t).2 h).content;omega
def G8 (l:List El) (t:Int):Int×Int:=bif !(BB l t).2.1 then(-1,0)else NY (BB l t).1.2.1
theorem bJ (N:Nat) (es l:List El) (x:List El×Int) (hN:1048578<N) (hx:At es l x) (hl:es.length<=1099511627776) (hg:Good 1048576 l) (t:Int) :
    ∃ y,Ia N x t=some ((G8 l t).1,(G8 l t).2,y)/\At es (BB l t).2.2 y:=by
  obtain⟨y,h1,h2⟩:=Acv N es l x hx hl t
  refine⟨y,?_,h2⟩
  unfold Ia G8
  rw[h1,Af]
  dsimp only
  cases h:(BB l t).2.1 with
  | false=>rfl
  | true =>
    rw[Bool.not_true,cond_false,cond_false,xG N _ hN (Uy hg t h),Af]
def idD (l:List El):Bs×Int:=bif (AP l 6).2.1 != 0 then([],(AP l 6).2.1)else IA (Me (AP l 6).1.2.1)
theorem Ux (N:Nat) (l:List El) (hN:1048578<N) (hg:Good 1048576 l):FD N l=some ((idD l).1,(idD l).2,(AP l 6).2.2):=by
  unfold FD idD
  rw[jV,Af]
  cases h:(AP l 6).2.1 != 0 with
  | true=>rfl
  | false =>
    have h0:(AP l 6).2.1=0:=by simpa using h
    have:=((QO hg 6).2 h0).content
    rw[cond_false,cond_false,oM N _ (by omega) (by omega) (by omega),Af]
section
variable {X Y ρ E A:Type} {B:X->(X->Option ρ)->(Y->Option ρ)->Option ρ} {kx:Y->Option ρ}
theorem uJ (f:E->Int) (e:E) (r:List E):BD f (e::r)=bif f e != 0 then f e else BD f r:=by
  show(if f e≠0 then _ else _)=_
  by_cases h:f e=0
  ·rw[if_neg (by simp [h]),h];rfl
  ·rw[if_pos h,show(f e != 0)=true from bne_iff_ne.2 h];rfl
theorem o8 (mk:List E->List A->X) (I:List E->Prop) (er:E->Int) (g:E->A) (ret:Int->List A->Option ρ) (fin:List A->Option ρ)
    (h: ∀ e r acc,I (e::r)->acc.length<=1048576-> ∀ k,B (mk (e::r) acc) k kx=bif er e != 0 then ret (er e) acc else k (mk r (acc++[g e])))
    (hI: ∀ e r,I (e::r)->I r) (h0: ∀ acc k,B (mk [] acc) k kx=fin acc) :
    ∀(N:Nat) (l:List E) (acc:List A),I l->l.length<N->acc.length+l.length<=1048576-> ∃ a,Ar B N (mk l acc) kx=bif BD er l != 0 then ret (BD er l) a else fin (acc++l.map g):=by
  intro N
  induction N with
  | zero=>intro l acc _ h;omega
  | succ N ih =>
    intro l acc hi hn ha
    rw[CY]
    cases l with
    | nil=>exact⟨acc,by rw[h0];simp [BD]⟩
    | cons e r =>
      simp only[List.length_cons]at hn ha
      rw[h e r acc hi (by omega),uJ]
      cases hb:er e != 0 with
      | true=>exact⟨acc,by rw[cond_true,cond_true,hb,cond_true]⟩
      | false =>
        obtain⟨a,ha'⟩:=ih r (acc++[g e]) (hI e r hi) (by omega) (by simp;omega)
        exact⟨a,by rw[cond_false,cond_false,ha'];simp⟩
theorem AbR (mk:List E->List A->Int->X) (I:List E->Prop) (er:E->Int) (g:E->A) (fin:List A->Int->Option ρ)
    (h: ∀ e r acc,I (e::r)->acc.length<=1048576-> ∀ k,∃ q,B (mk (e::r) acc 0) k kx=k (mk q (acc++[g e]) (er e))/\(er e=0->q=r))
    (hx: ∀ q acc err,err≠0-> ∀ k,B (mk q acc err) k kx=fin acc err)
    (hI: ∀ e r,I (e::r)->I r) (h0: ∀ acc k,B (mk [] acc 0) k kx=fin acc 0) :
    ∀(N:Nat) (l:List E) (acc:List A),I l->l.length+1<N->acc.length+l.length<=1048576-> ∃ a,Ar B N (mk l acc 0) kx=fin a (BD er l)/\(BD er l=0->a=acc++l.map g):=by
  intro N
  induction N with
  | zero=>intro l acc _ h;omega
  | succ N ih =>
    intro l acc hi hn ha
    rw[CY]
    cases l with
    | nil=>exact⟨acc,by rw[h0];rfl,by simp⟩
    | cons e r =>
      simp only[List.length_cons]at hn ha
      obtain⟨q,h1,h2⟩:=h e r acc hi (by omega) (fun x'=>Ar B N x' kx)
      rw[h1,uJ]
      by_cases he:er e=0
      ·rw[h2 he,he]
       obtain⟨a,h3,h4⟩:=ih r (acc++[g e]) (hI e r hi) (by omega) (by simp;omega)
       exact⟨a,h3,fun h=>by rw[h4 h];simp⟩
      ·rw[show(er e != 0)=true from bne_iff_ne.2 he,cond_true]
       obtain⟨M,rfl⟩: ∃ M,N=M+1:=⟨N - 1,by omega⟩
       exact⟨acc++[g e],by rw[CY,hx _ _ _ he],fun h=>absurd h he⟩
end
def NZ (e:El):Bs×Int:=bif e.1 != 6 then([],5)else IA (Me e.2.1)
theorem AeE (e:El) (r:List El):idD (e::r)=NZ e:=by
  unfold idD NZ AP
  dsimp only
  cases e.1 != 6<;>rfl
def gZ (l:List El):Int:=BD (fun e=>(NZ e).2) l
def AbA (l:List El):List Bs:=l.map (fun e=>(NZ e).1)
theorem l9 (N:Nat) (l:List El) (hN:1048578<N) (hg:Good 1048576 l):Gv N l=some (bif gZ l != 0 then([],gZ l)else(AbA l,0)):=by
  have hl:=hg.len
  unfold Gv
  refine(Uw (mk:=fun i acc=>((i:Int),acc)) l (0,[],[]) (fun e=>(NZ e).2) (fun e=>(NZ e).1) (fun e=>some ([],e)) (fun acc=>some (acc,0)) ?_ ?_ N (by omega)).trans ?_
  ·intro i acc hi ha k
   have hc:=(hg.all _ (getD_mem ((0,[],[]):El) hi)).content
   have hd:=NF N (l.getD i (0,[],[])).2.1 (by omega) (by omega) (by omega)
   unfold NZ
   dsimp only[U2]
   simp (disch:=first | assumption | omega) only[AU,hd,CO]
   cases (l.getD i (0,[],[])).1 != 6 with
   | true=>rfl
   | false=>simp only[cond_false]
  ·intro acc k ha
   dsimp only[U2]
   simp (disch:=first | assumption | omega) only[AU]
  ·exact(AZ _ _ _)
def elL (e:El):List El×Int:=bif e.1 != 48 then([],5)else OM e.2.1
def CW (e:El):Bs×Int:=bif (elL e).2 != 0 then([],(elL e).2)else bif (idD (elL e).1).2 != 0 then([],(idD (elL e).1).2)else((idD (elL e).1).1,Kw (AP (elL e).1 6).2.2)
def Dt (e:El):(Bs×Bs)×Int:=bif (elL e).2 != 0 then(([],[]),(elL e).2)else bif (idD (elL e).1).2 != 0 then(([],[]),(idD (elL e).1).2)else
  bif (idD (AP (elL e).1 6).2.2).2 != 0 then(([],[]),(idD (AP (elL e).1 6).2.2).2)else(((idD (elL e).1).1,(idD (AP (elL e).1 6).2.2).1),Kw (AP (AP (elL e).1 6).2.2 6).2.2)
theorem PX {M:Nat} {e:El} (he:KA 1048576 e) (hM:1048576<=M):Good M (elL e).1:=by
  have:=he.content
  unfold elL
  cases e.1 != 48 with
  | true=>exact(KE []).mono (by simp)
  | false=>exact(KE _).mono (by omega)
theorem Zn {ρ :Type} (N:Nat) (e:El) (r:List El) (hN:1048578<N) (he:KA 1048576 e) :
    ∃ q,∀(k:List El×Int×List El->Option ρ) (l:Unit×Int×List El->Option ρ),Gp (EF N (e::r)) k l=bif (elL e).2 != 0 then l ((),(elL e).2,q)else k ((elL e).1,0,r):=by
  have hc:=he.content
  unfold EF IB elL
  rw[jV,Af]
  unfold AP
  dsimp only
  cases h:e.1 != 48 with
  | true=>exact⟨_,fun _ _=>rfl⟩
  | false =>
    simp only[cond_false,bne_self_eq_false]
    rw[ZF N _ (by omega) (by omega) (by omega),Af]
    cases h2:(OM e.2.1).2 != 0 with
    | true=>exact⟨r,fun k l=>by simp only[cond_true,Np]⟩
    | false=>exact⟨r,fun k l=>by simp only[cond_false,WN]⟩
theorem Py (N:Nat) (l:List El):BF N l=some (Kw l,l):=Af6 N l
theorem rend_eq {N:Nat} {es l:List El} {x:List El×Int} (h:At es l x):Dh N x=some (Kw l,x):=Agk N es l x h
end Go.Proofs.YtadefjgbcapakaaGreatDoor.Pl
namespace Go.Proofs.YtadefjgbcapakaaGreatDoor.Pl
open IntKind (i64)
open Go Vm
def Gives (e:Int) (u:Info) (o:Option (Int×Info)):Prop:= ∃ j,o=some (e,j)/\(e=0->j=u)
theorem Gives.run {A:Type} {e:Int} {u:Info} {o:Option (Int×Info)} {F:A->Option (Int×Info)} (h: ∃ a,o=F a) (h2: ∀ a,Gives e u (F a)):Gives e u o:=by
  obtain⟨a,rfl⟩:=h
  exact h2 a
theorem Gives.AhB {A:Type} {e:Int} {u:Info} {o:Option (Int×Info)} {F:A->Option (Int×Info)} {P:A->Prop} (h: ∃ a,o=F a/\P a) (h2: ∀ a,P a->Gives e u (F a)):Gives e u o:=by
  obtain⟨a,rfl,h⟩:=h
  exact h2 a h
theorem Gives.err {e:Int} {u j:Info} (h:(e != 0)=true):Gives e u (some (e,j)):=⟨j,rfl,fun h'=>by rw[h']at h;cases h⟩
theorem Gives.ok {e:Int} {u:Info}:Gives e u (some (e,u)):=⟨u,rfl,fun _=>rfl⟩
theorem left_eq (N:Nat) (l:List El):Du N l=some ((l.length:Int),l):=rfl
theorem bV (e:El) (r:List El):decide (((e::r).length:Int)>0)=true:=decide_eq_true (by simp only[List.length_cons];omega)
theorem Df (s:Bs) (hs:s.length<=1048576):Good 1048576 (BJ s).1:=by
  unfold BJ
  have h0:Good 1048576 ([]:List El):=(KE []).mono (by simp)
  cases (AQ s).2 != 0 with
  | true=>exact h0
  | false=>cases (AQ s).1.isEmpty with
    | true=>exact h0
    | false=>exact GV s hs
def CZ {A:Type} (row:El->A×Int) (s:Bs):Int:=bif (BJ s).2 != 0 then(BJ s).2 else BD (fun e=>(row e).2) (BJ s).1
def ED {A:Type} (row:El->A×Int) (s:Bs):List A:=(BJ s).1.map (fun e=>(row e).1)
theorem bw {ρ :Type} {n:Nat} (h:n<=140737488355328) (k:Option ρ):chk (decide (n<=140737488355328)) k=k:=by rw[decide_eq_true h];rfl
theorem Z9 (N:Nat) (s:Bs) (hN:1048578<N) (hs:s.length<=1048576) (hb ca:Bool) (pl us:Int) (pu po:List Bs) (ma:List (Bs×Bs)) (re im ia:Int) (na:List Gn) (hc:Bool) (pe ex:List Gn) (sk ak:Bs) (pt fr:List Pt) (un:List Ex) (hpo:po=[]) :
    Gives (CZ CW s) (hb,ca,pl,us,pu,ED CW s,ma,re,im,ia,na,hc,pe,ex,sk,ak,pt,fr,un) (CS N s (hb,ca,pl,us,pu,po,ma,re,im,ia,na,hc,pe,ex,sk,ak,pt,fr,un)):=by
  obtain⟨M,rfl⟩: ∃ M,N=M+4:=⟨N - 4,by omega⟩
  have hgl:=Df s hs
  have hll:=hgl.len
  subst hpo
  unfold CS
  have key:Gives (CZ CW s) (hb,ca,pl,us,pu,ED CW s,ma,re,im,ia,na,hc,pe,ex,sk,ak,pt,fr,un) (GX (M+4) s 1 (hb,ca,pl,us,pu,[],ma,re,im,ia,na,hc,pe,ex,sk,ak,pt,fr,un)):=by
    unfold GX CZ ED
    rw[QL _ s hN hs]
    cases h:(BJ s).2 != 0 with
    | true=>simp only[cond_true,h];exact Gives.err h
    | false =>
      simp only[cond_false,bne_self_eq_false]
      refine Gives.run (o8 (mk:=fun l acc=>(hb,ca,pl,us,re,im,ia,na,hc,pe,ex,sk,ak,pt,fr,l,un,ma,acc,pu)) (Good 1048576) (fun e=>(CW e).2) (fun e=>(CW e).1)
        (fun e acc=>some (e,(hb,ca,pl,us,pu,acc,ma,re,im,ia,na,hc,pe,ex,sk,ak,pt,fr,un))) (fun acc=>some (0,(hb,ca,pl,us,pu,acc,ma,re,im,ia,na,hc,pe,ex,sk,ak,pt,fr,un))) ?_ (fun _ _ h=>h.tail) ?_ _ _ [] hgl (by omega) (by simpa using hll)) ?_
      ·intro e r acc hg ha k
       have he:=hg.all e List.mem_cons_self
       obtain⟨q,hq⟩:=Zn (ρ :=Int×Info) (M+4) e r hN he
       have hid:=Ux (M+4) (elL e).1 hN (PX he (Nat.le_refl _))
       dsimp only[U20]
       simp only[left_eq,Af,bV,cond_true]
       rw[hq]
       unfold CW
       cases h2:(elL e).2 != 0 with
       | true=>simp only[cond_true,h2]
       | false =>
         simp only[cond_false,bne_self_eq_false]
         rw[CY]
         dsimp only[U22]
         rw[show decide ((([]:List Bs).length:Int)<1)=true from rfl,cond_true,hid,Af]
         dsimp only
         cases h3:(idD (elL e).1).2 != 0 with
         | true=>simp only[cond_true,h3]
         | false =>
           simp only[cond_false,List.nil_append]
           rw[bw (by decide),CY]
           dsimp only[U22]
           rw[show decide ((([(idD (elL e).1).1]:List Bs).length:Int)<1)=false from rfl,cond_false]
           simp only[Py,Af]
           cases h4:Kw (AP (elL e).1 6).2.2 != 0 with
           | true=>simp only[cond_true]
           | false =>
             rw[cond_false,cond_false]
             show Ae (chk (decide ((0:Int)<(([(idD (elL e).1).1]:List Bs).length:Int)))<|chk (decide ((acc.length+1)*17<=140737488355328))<|some _) _=_
             rw[show decide ((0:Int)<(([(idD (elL e).1).1]:List Bs).length:Int))=true from rfl,AY,bw (by omega)]
             rfl
      ·intro acc k
       dsimp only[U20]
       simp only[left_eq,Af]
       rfl
      ·intro a
       cases h5:BD (fun e=>(CW e).2) (BJ s).1 != 0 with
       | true=>exact Gives.err h5
       | false =>
         have h6:BD (fun e=>(CW e).2) (BJ s).1=0:=by simpa using h5
         rw[h6,cond_false,List.nil_append]
         exact Gives.ok
  obtain⟨j,hj,hj2⟩:=key
  rw[hj]
  exact⟨j,rfl,hj2⟩
theorem Z4 (N:Nat) (s:Bs) (hN:1048578<N) (hs:s.length<=1048576) (hb ca:Bool) (pl us:Int) (pu po:List Bs) (ma:List (Bs×Bs)) (re im ia:Int) (na:List Gn) (hc:Bool) (pe ex:List Gn) (sk ak:Bs) (pt fr:List Pt) (un:List Ex) (hma:ma=[]) :
    Gives (CZ Dt s) (hb,ca,pl,us,pu,po,ED Dt s,re,im,ia,na,hc,pe,ex,sk,ak,pt,fr,un) (CQ N s (hb,ca,pl,us,pu,po,ma,re,im,ia,na,hc,pe,ex,sk,ak,pt,fr,un)):=by
  obtain⟨M,rfl⟩: ∃ M,N=M+4:=⟨N - 4,by omega⟩
  have hgl:=Df s hs
  have hll:=hgl.len
  subst hma
  unfold CQ
  have key:Gives (CZ Dt s) (hb,ca,pl,us,pu,po,ED Dt s,re,im,ia,na,hc,pe,ex,sk,ak,pt,fr,un) (GY (M+4) s 2 (hb,ca,pl,us,pu,po,[],re,im,ia,na,hc,pe,ex,sk,ak,pt,fr,un)):=by
    unfold GY CZ ED
    rw[QL _ s hN hs]
    cases h:(BJ s).2 != 0 with
    | true=>simp only[cond_true,h];exact Gives.err h
    | false =>
      simp only[cond_false,bne_self_eq_false]
      refine Gives.run (o8 (mk:=fun l acc=>(hb,ca,pl,us,re,im,ia,na,hc,pe,ex,sk,ak,pt,fr,l,un,acc,po,pu)) (Good 1048576) (fun e=>(Dt e).2) (fun e=>(Dt e).1)
        (fun e acc=>some (e,(hb,ca,pl,us,pu,po,acc,re,im,ia,na,hc,pe,ex,sk,ak,pt,fr,un))) (fun acc=>some (0,(hb,ca,pl,us,pu,po,acc,re,im,ia,na,hc,pe,ex,sk,ak,pt,fr,un))) ?_ (fun _ _ h=>h.tail) ?_ _ _ [] hgl (by omega) (by simpa using hll)) ?_
      ·intro e r acc hg ha k
       have he:=hg.all e List.mem_cons_self
       obtain⟨q,hq⟩:=Zn (ρ :=Int×Info) (M+4) e r hN he
       have hid:=Ux (M+4) (elL e).1 hN (PX he (Nat.le_refl _))
       dsimp only[U20]
       simp only[left_eq,Af,bV,cond_true]
       rw[hq]
       unfold Dt
       cases h2:(elL e).2 != 0 with
       | true=>simp only[cond_true,h2]
       | false =>
         simp only[cond_false,bne_self_eq_false]
         rw[CY]
         dsimp only[U22]
         rw[show decide ((([]:List Bs).length:Int)<2)=true from rfl,cond_true,hid,Af]
         dsimp only
         cases h3:(idD (elL e).1).2 != 0 with
         | true=>simp only[cond_true,h3]
         | false =>
           have hid2:=Ux (M+4) (AP (elL e).1 6).2.2 hN (QO (PX he (Nat.le_refl _)) 6).1
           simp only[cond_false,List.nil_append]
           rw[bw (by decide),CY]
           dsimp only[U22]
           rw[show decide ((([(idD (elL e).1).1]:List Bs).length:Int)<2)=true from rfl,cond_true,hid2,Af]
           dsimp only
           cases h31:(idD (AP (elL e).1 6).2.2).2 != 0 with
           | true=>simp only[cond_true,h31]
           | false =>
             simp only[cond_false,List.cons_append,List.nil_append]
             rw[bw (by simp),CY]
             dsimp only[U22]
             rw[show decide ((([(idD (elL e).1).1,(idD (AP (elL e).1 6).2.2).1]:List Bs).length:Int)<2)=false from rfl,cond_false]
             simp only[Py,Af]
             cases h4:Kw (AP (AP (elL e).1 6).2.2 6).2.2 != 0 with
             | true=>simp only[cond_true]
             | false =>
               rw[cond_false,cond_false]
               show Ae (chk (decide ((0:Int)<(([(idD (elL e).1).1,(idD (AP (elL e).1 6).2.2).1]:List Bs).length:Int)))<|chk (decide ((1:Int)<(([(idD (elL e).1).1,(idD (AP (elL e).1 6).2.2).1]:List Bs).length:Int)))<|chk (decide ((acc.length+1)*33<=140737488355328))<|some _) _=_
               rw[show decide ((0:Int)<(([(idD (elL e).1).1,(idD (AP (elL e).1 6).2.2).1]:List Bs).length:Int))=true from rfl,show decide ((1:Int)<(([(idD (elL e).1).1,(idD (AP (elL e).1 6).2.2).1]:List Bs).length:Int))=true from rfl,AY,AY,bw (by omega)]
               rfl
      ·intro acc k
       dsimp only[U20]
       simp only[left_eq,Af]
       rfl
      ·intro a
       cases h5:BD (fun e=>(Dt e).2) (BJ s).1 != 0 with
       | true=>exact Gives.err h5
       | false =>
         have h6:BD (fun e=>(Dt e).2) (BJ s).1=0:=by simpa using h5
         rw[h6,cond_false,List.nil_append]
         exact Gives.ok
  obtain⟨j,hj,hj2⟩:=key
  rw[hj]
  exact⟨j,rfl,hj2⟩
def rQ (s:Bs):Int:=bif (BJ s).2 != 0 then(BJ s).2 else gZ (BJ s).1
theorem AfE {α :Type} {b:Bool} {x y: α} (h:b=true):(bif b then x else y)=x:=by rw[h];rfl
theorem ZC (N:Nat) (s:Bs) (hN:1048578<N) (hs:s.length<=1048576) (hb ca:Bool) (pl us:Int) (pu po:List Bs) (ma:List (Bs×Bs)) (re im ia:Int) (na:List Gn) (hc:Bool) (pe ex:List Gn) (sk ak:Bs) (pt fr:List Pt) (un:List Ex) (hpu:pu=[]) :
    Gives (rQ s) (hb,ca,pl,us,AbA (BJ s).1,po,ma,re,im,ia,na,hc,pe,ex,sk,ak,pt,fr,un) (CU N s (hb,ca,pl,us,pu,po,ma,re,im,ia,na,hc,pe,ex,sk,ak,pt,fr,un)):=by
  have hgl:=Df s hs
  have hll:=hgl.len
  subst hpu
  unfold CU rQ
  rw[QL _ s hN hs]
  cases h:(BJ s).2 != 0 with
  | true =>
    have h0:((BJ s).2==0)=false:=by simpa using h
    simp only[cond_true,h0]
    exact Gives.err h
  | false =>
    simp only[cond_false]
    refine Gives.AhB (AbR (mk:=fun l acc err=>(err,hb,ca,pl,us,re,im,ia,na,hc,pe,ex,sk,ak,pt,fr,po,ma,un,l,acc)) (Good 1048576) (fun e=>(NZ e).2) (fun e=>(NZ e).1)
      (fun acc err=>some (err,(hb,ca,pl,us,acc,po,ma,re,im,ia,na,hc,pe,ex,sk,ak,pt,fr,un))) ?_ ?_ (fun _ _ h=>h.tail) ?_ (N+1) (BJ s).1 [] hgl (by omega) (by simpa using hll)) ?_
    ·intro e r acc hg ha k
     have hid:=Ux N (e::r) hN hg
     rw[AeE]at hid
     refine⟨(AP (e::r) 6).2.2,?_,fun h0=> ?_⟩
     ·dsimp only[U21]
      simp only[left_eq,Option.isSome_some,Option.getD_some,bV,beq_self_eq_true,Bool.true_or,AY,cond_true,hid,Af]
      rw[bw (by omega)]
      exact AfE (decide_eq_true (by simp only[List.length_cons];omega))
     ·unfold NZ at h0
      unfold AP
      dsimp only
      cases hb:e.1 != 6 with
      | true=>rw[hb]at h0;cases h0
      | false=>rfl
    ·intro q acc err he k
     have h0:(err==0)=false:=by simpa using he
     dsimp only[U21]
     simp only[left_eq,Option.isSome_some,Option.getD_some,h0,Bool.true_or,Bool.false_or,Bool.not_false,AY,cond_false]
     rfl
    ·intro acc k
     dsimp only[U21]
     simp only[left_eq,Option.isSome_some,Option.getD_some,beq_self_eq_true,Bool.true_or,AY,cond_true]
     rfl
    ·intro a ha
     refine⟨_,rfl,fun h0=> ?_⟩
     rw[ha h0];rfl
section
variable (N:Nat) (s:Bs) (hN:1048578<N) (hs:s.length<=1048576) (hb ca:Bool) (pl us:Int) (pu po:List Bs) (ma:List (Bs×Bs)) (re im ia:Int) (na:List Gn) (hc:Bool) (pe ex:List Gn) (sk ak:Bs) (pt fr:List Pt) (un:List Ex)
include hN hs
def Aay (s:Bs):Int:=bif (AQ s).2 != 0 then(AQ s).2 else bif (J3 (AQ s).1 1).2 != 0 then(J3 (AQ s).1 1).2 else
  bif (G8 (BB (AQ s).1 1).2.2 2).2 != 0 then(G8 (BB (AQ s).1 1).2.2 2).2 else Kw (BB (BB (AQ s).1 1).2.2 2).2.2
theorem Aeo (hpl:pl= -1):Gives (Aay s) (true,(J3 (AQ s).1 1).1,(G8 (BB (AQ s).1 1).2.2 2).1,us,pu,po,ma,re,im,ia,na,hc,pe,ex,sk,ak,pt,fr,un) (En N s (hb,ca,pl,us,pu,po,ma,re,im,ia,na,hc,pe,ex,sk,ak,pt,fr,un)):=by
  subst hpl
  have hg:=GV s hs
  unfold En Aay
  rw[WA N s hN hs]
  cases h:(AQ s).2 != 0 with
  | true=>simp only[cond_true,h];exact Gives.err h
  | false =>
    simp only[cond_false,bne_self_eq_false,Af8,Af]
    cases h1:(J3 (AQ s).1 1).2 != 0 with
    | true=>exact Gives.err h1
    | false =>
      simp only[cond_false,sG,Af]
      have hg1:=(Qa hg 1).1
      unfold G8
      cases h2:(BB (BB (AQ s).1 1).2.2 2).2.1 with
      | false =>
        simp only[Bool.not_false,cond_true,cond_false,Py,Af,bne_self_eq_false]
        exact Gives.ok
      | true =>
        simp only[Bool.not_true,cond_true,cond_false,number_eq N _ hN (Uy hg1 2 h2),Af]
        cases h3:(NY (BB (BB (AQ s).1 1).2.2 2).1.2.1).2 != 0 with
        | true=>exact Gives.err h3
        | false=>simp only[cond_false,Py,Af];exact Gives.ok
theorem AdP (c:Bool):Gives (Aay s) (true,(J3 (AQ s).1 1).1,(G8 (BB (AQ s).1 1).2.2 2).1,us,pu,po,ma,re,im,ia,na,hc,pe,ex,sk,ak,pt,fr,un)
    (Bh N (hb,ca,pl,us,pu,po,ma,re,im,ia,na,hc,pe,ex,sk,ak,pt,fr,un) ([50,46,53,46,50,57,46,49,57],c,s)):=by
  have hg:=GV s hs
  have hl:=hg.len
  unfold Bh Aay
  simp (decide:=true) only[cond_true,cond_false,MM N s hN hs,Af]
  cases h:(AQ s).2 != 0 with
  | true=>simp only[cond_true];exact Gives.err h
  | false =>
    simp only[cond_false]
    obtain⟨y,hy,ha⟩:=Aei N (AQ s).1 (AQ s).1 ((AQ s).1,0) ⟨0,rfl,Nat.zero_le _,rfl⟩ (by omega) 1
    rw[hy,Af]
    dsimp only
    cases h1:(J3 (AQ s).1 1).2 != 0 with
    | true=>exact Gives.err h1
    | false =>
      obtain⟨z,hz,hz2⟩:=bJ N (AQ s).1 (BB (AQ s).1 1).2.2 y hN ha (by omega) (Qa hg 1).1 2
      simp only[cond_false,hz,Af]
      cases h3:(G8 (BB (AQ s).1 1).2.2 2).2 != 0 with
      | true=>exact Gives.err h3
      | false=>simp only[cond_false,rend_eq hz2,Af];exact Gives.ok
def cU (s:Bs):Bs:=(BV s 3).1.2.1
def Acp (s:Bs):Int:=bif (BV s 3).2 != 0 then(BV s 3).2 else bif (flP (cU s)).2 != 0 then(flP (cU s)).2 else bif (flP (cU s)).1==0 then 7 else 0
theorem Aft:Gives (Acp s) (hb,ca,pl,(flP (cU s)).1,pu,po,ma,re,im,ia,na,hc,pe,ex,sk,ak,pt,fr,un) (Eo N s (hb,ca,pl,us,pu,po,ma,re,im,ia,na,hc,pe,ex,sk,ak,pt,fr,un)):=by
  have hl:=JE s 3
  unfold Eo Acp cU
  rw[OH N s 3 hN hs,Af]
  cases h:(BV s 3).2 != 0 with
  | true=>simp only[cond_true];exact Gives.err h
  | false =>
    simp only[cond_false,oV N _ hN (show(BV s 3).1.2.1.length<=1048576 by omega),Af]
    cases h1:(flP (BV s 3).1.2.1).2 != 0 with
    | true=>exact Gives.err h1
    | false=>cases h2:(flP (BV s 3).1.2.1).1==0 with
      | true=>exact Gives.err rfl
      | false=>exact Gives.ok
theorem AdV (c:Bool):Gives (Acp s) (hb,ca,pl,(flP (cU s)).1,pu,po,ma,re,im,ia,na,hc,pe,ex,sk,ak,pt,fr,un) (Bh N (hb,ca,pl,us,pu,po,ma,re,im,ia,na,hc,pe,ex,sk,ak,pt,fr,un) ([50,46,53,46,50,57,46,49,53],c,s)):=by
  have hl:=JE s 3
  unfold Bh Acp cU
  simp (decide:=true) only[cond_true,cond_false,Vu N s 3 hN hs,Af]
  cases h:(BV s 3).2 != 0 with
  | true=>simp only[cond_true];exact Gives.err h
  | false =>
    unfold Ve
    simp only[cond_false,lX N _ hN (show(BV s 3).1.2.1.length<=1048576 by omega),Af]
    cases h1:(flP (BV s 3).1.2.1).2 != 0 with
    | true=>exact Gives.err h1
    | false=>cases h2:(flP (BV s 3).1.2.1).1==0 with
      | true=>exact Gives.err rfl
      | false=>exact Gives.ok
def AaX (s:Bs):Int:=bif (BV s 2).2 != 0 then(BV s 2).2 else(NY (BV s 2).1.2.1).2
theorem AaY:Gives (AaX s) (hb,ca,pl,us,pu,po,ma,re,im,(NY (BV s 2).1.2.1).1,na,hc,pe,ex,sk,ak,pt,fr,un) (DF N s (hb,ca,pl,us,pu,po,ma,re,im,ia,na,hc,pe,ex,sk,ak,pt,fr,un)):=by
  have hl:=JE s 2
  unfold DF AaX
  rw[OH N s 2 hN hs,Af]
  cases h:(BV s 2).2 != 0 with
  | true=>simp only[cond_true];exact Gives.err h
  | false =>
    simp only[cond_false,number_eq N _ hN (show(BV s 2).1.2.1.length<=1048576 by omega),Af]
    exact Gives.ok
theorem yT (c:Bool):Gives (AaX s) (hb,ca,pl,us,pu,po,ma,re,im,(NY (BV s 2).1.2.1).1,na,hc,pe,ex,sk,ak,pt,fr,un) (Bh N (hb,ca,pl,us,pu,po,ma,re,im,ia,na,hc,pe,ex,sk,ak,pt,fr,un) ([50,46,53,46,50,57,46,53,52],c,s)):=by
  have hl:=JE s 2
  unfold Bh AaX
  simp (decide:=true) only[cond_true,cond_false,Vu N s 2 hN hs,Af]
  cases h:(BV s 2).2 != 0 with
  | true=>simp only[cond_true];exact Gives.err h
  | false =>
    simp only[cond_false,xG N _ hN (show(BV s 2).1.2.1.length<=1048576 by omega),Af]
    exact Gives.ok
def rV (s:Bs):Int:=bif (BV s 4).2 != 0 then(BV s 4).2 else bif (BV s 4).1.2.1==[]then 7 else 0
theorem AbU:Gives (rV s) (hb,ca,pl,us,pu,po,ma,re,im,ia,na,hc,pe,ex,(BV s 4).1.2.1,ak,pt,fr,un) (DI N s (hb,ca,pl,us,pu,po,ma,re,im,ia,na,hc,pe,ex,sk,ak,pt,fr,un)):=by
  unfold DI Gz rV
  rw[OH N s 4 hN hs,Af]
  cases h:(BV s 4).2 != 0 with
  | true=>simp only[cond_true];exact Gives.err h
  | false =>
    simp only[cond_false]
    cases h1:(BV s 4).1.2.1==[]with
    | true=>exact Gives.err rfl
    | false=>exact Gives.ok
theorem yU (c:Bool):Gives (rV s) (hb,ca,pl,us,pu,po,ma,re,im,ia,na,hc,pe,ex,(BV s 4).1.2.1,ak,pt,fr,un) (Bh N (hb,ca,pl,us,pu,po,ma,re,im,ia,na,hc,pe,ex,sk,ak,pt,fr,un) ([50,46,53,46,50,57,46,49,52],c,s)):=by
  unfold Bh rV
  simp (decide:=true) only[cond_true,cond_false,Vu N s 4 hN hs,Af]
  cases h:(BV s 4).2 != 0 with
  | true=>simp only[cond_true];exact Gives.err h
  | false =>
    simp only[cond_false]
    cases h1:(BV s 4).1.2.1==[]with
    | true=>exact Gives.err rfl
    | false=>exact Gives.ok
def Aav (s:Bs):Int:=bif (AQ s).2 != 0 then(AQ s).2 else bif (AP (AQ s).1 128).2.1 != 0 then(AP (AQ s).1 128).2.1 else bif (AP (AQ s).1 128).1.2.1==[]then 7 else Kw (AP (AQ s).1 128).2.2
theorem sS:Gives (Aav s) (hb,ca,pl,us,pu,po,ma,re,im,ia,na,hc,pe,ex,sk,(AP (AQ s).1 128).1.2.1,pt,fr,un) (Dk N s (hb,ca,pl,us,pu,po,ma,re,im,ia,na,hc,pe,ex,sk,ak,pt,fr,un)):=by
  unfold Dk Gz Aav
  rw[WA N s hN hs]
  cases h:(AQ s).2 != 0 with
  | true=>simp only[cond_true,h];exact Gives.err h
  | false =>
    simp only[cond_false,bne_self_eq_false,jV,Af]
    cases h1:(AP (AQ s).1 128).2.1 != 0 with
    | true=>exact Gives.err h1
    | false =>
      simp only[cond_false]
      cases h2:(AP (AQ s).1 128).1.2.1==[]with
      | true=>exact Gives.err rfl
      | false=>simp only[cond_false,Af,bne_self_eq_false,Py];exact Gives.ok
theorem pG (c:Bool):Gives (Aav s) (hb,ca,pl,us,pu,po,ma,re,im,ia,na,hc,pe,ex,sk,(AP (AQ s).1 128).1.2.1,pt,fr,un) (Bh N (hb,ca,pl,us,pu,po,ma,re,im,ia,na,hc,pe,ex,sk,ak,pt,fr,un) ([50,46,53,46,50,57,46,51,53],c,s)):=by
  have hl:=(GV s hs).len
  unfold Bh IM Aav
  simp (decide:=true) only[cond_true,cond_false,MM N s hN hs,Af]
  cases h:(AQ s).2 != 0 with
  | true=>simp only[cond_true,Af];exact Gives.err h
  | false =>
    obtain⟨y,hy,ha⟩:=sJ N (AQ s).1 (AQ s).1 ((AQ s).1,0) ⟨0,rfl,Nat.zero_le _,rfl⟩ (by omega) 128 (by omega)
    simp only[cond_false,hy,Af]
    cases h1:(AP (AQ s).1 128).2.1 != 0 with
    | true=>exact Gives.err h1
    | false =>
      simp only[cond_false]
      cases h2:(AP (AQ s).1 128).1.2.1==[]with
      | true=>exact Gives.err rfl
      | false=>simp only[cond_false,rend_eq ha,Af];exact Gives.ok
def Abg (s:Bs):Int:=bif (BJ s).2 != 0 then(BJ s).2 else bif (G8 (BJ s).1 128).2 != 0 then(G8 (BJ s).1 128).2 else
  bif (G8 (BB (BJ s).1 128).2.2 129).2 != 0 then(G8 (BB (BJ s).1 128).2.2 129).2 else Kw (BB (BB (BJ s).1 128).2.2 129).2.2
theorem Adx (hre:re= -1) (him:im= -1):Gives (Abg s) (hb,ca,pl,us,pu,po,ma,(G8 (BJ s).1 128).1,(G8 (BB (BJ s).1 128).2.2 129).1,ia,na,hc,pe,ex,sk,ak,pt,fr,un) (Ec N s (hb,ca,pl,us,pu,po,ma,re,im,ia,na,hc,pe,ex,sk,ak,pt,fr,un)):=by
  subst hre;subst him
  have hg:=Df s hs
  have hg1:=(Qa hg 128).1
  unfold Ec Abg
  rw[QL N s hN hs]
  cases h:(BJ s).2 != 0 with
  | true=>simp only[cond_true,h];exact Gives.err h
  | false =>
    simp only[cond_false,bne_self_eq_false,sG,Af,Py]
    have num1:=fun h2=>number_eq N _ hN (Uy hg 128 h2)
    have num2:=fun h2=>number_eq N _ hN (Uy hg1 129 h2)
    unfold G8
    cases h1:(BB (BJ s).1 128).2.1 with
    | false =>
      simp only[Bool.not_false,cond_true,cond_false,bne_self_eq_false]
      cases h2:(BB (BB (BJ s).1 128).2.2 129).2.1 with
      | false=>simp only[Bool.not_false,cond_true,cond_false,bne_self_eq_false];exact Gives.ok
      | true =>
        simp only[Bool.not_true,cond_true,cond_false,num2 h2,Af]
        cases h3:(NY (BB (BB (BJ s).1 128).2.2 129).1.2.1).2 != 0 with
        | true=>exact Gives.err h3
        | false=>exact Gives.ok
    | true =>
      simp only[Bool.not_true,cond_true,cond_false,num1 h1,Af]
      cases h4:(NY (BB (BJ s).1 128).1.2.1).2 != 0 with
      | true=>exact Gives.err h4
      | false =>
        simp only[cond_false]
        cases h2:(BB (BB (BJ s).1 128).2.2 129).2.1 with
        | false=>simp only[Bool.not_false,cond_true,cond_false,bne_self_eq_false];exact Gives.ok
        | true =>
          simp only[Bool.not_true,cond_true,cond_false,num2 h2,Af]
          cases h3:(NY (BB (BB (BJ s).1 128).2.2 129).1.2.1).2 != 0 with
          | true=>exact Gives.err h3
          | false=>exact Gives.ok
theorem AbK (c:Bool):Gives (Abg s) (hb,ca,pl,us,pu,po,ma,(G8 (BJ s).1 128).1,(G8 (BB (BJ s).1 128).2.2 129).1,ia,na,hc,pe,ex,sk,ak,pt,fr,un) (Bh N (hb,ca,pl,us,pu,po,ma,re,im,ia,na,hc,pe,ex,sk,ak,pt,fr,un) ([50,46,53,46,50,57,46,51,54],c,s)):=by
  have hg0:=GV s hs
  have hl:=hg0.len
  have hg:=Df s hs
  unfold Bh Abg
  simp (decide:=true) only[cond_true,cond_false,MM N s hN hs,Af,len0]
  have hn:BJ s=bif (AQ s).2 != 0 then([],(AQ s).2)else bif (AQ s).1.isEmpty then([],7)else((AQ s).1,0):=rfl
  cases h:(AQ s).2 != 0 with
  | true=>rw[h]at hn;rw[hn];simp only[cond_true,h];exact Gives.err h
  | false =>
    rw[h]at hn
    simp only[cond_false]at hn ⊢
    cases h1:(AQ s).1.isEmpty with
    | true=>rw[h1]at hn;rw[hn];exact Gives.err rfl
    | false =>
      rw[h1]at hn;rw[hn]
      simp only[cond_false,bne_self_eq_false]
      obtain⟨y,hy,ha⟩:=bJ N (AQ s).1 (AQ s).1 ((AQ s).1,0) hN ⟨0,rfl,Nat.zero_le _,rfl⟩ (by omega) hg0 128
      obtain⟨z,hz,hz2⟩:=bJ N (AQ s).1 (BB (AQ s).1 128).2.2 y hN ha (by omega) (Qa hg0 128).1 129
      simp only[hy,Af]
      cases h2:(G8 (AQ s).1 128).2 != 0 with
      | true=>exact Gives.err h2
      | false =>
        simp only[cond_false,hz,Af]
        cases h3:(G8 (BB (AQ s).1 128).2.2 129).2 != 0 with
        | true=>exact Gives.err h3
        | false=>simp only[cond_false,rend_eq hz2,Af];exact Gives.ok
theorem Yg (c:Bool):Gives (rQ s) (hb,ca,pl,us,AbA (BJ s).1,po,ma,re,im,ia,na,hc,pe,ex,sk,ak,pt,fr,un) (Bh N (hb,ca,pl,us,pu,po,ma,re,im,ia,na,hc,pe,ex,sk,ak,pt,fr,un) ([50,46,53,46,50,57,46,51,55],c,s)):=by
  have hg0:=GV s hs
  unfold Bh rQ
  simp (decide:=true) only[cond_true,cond_false,MM N s hN hs,Af,len0]
  have hn:BJ s=bif (AQ s).2 != 0 then([],(AQ s).2)else bif (AQ s).1.isEmpty then([],7)else((AQ s).1,0):=rfl
  cases h:(AQ s).2 != 0 with
  | true=>rw[h]at hn;rw[hn];simp only[cond_true,h];exact Gives.err h
  | false =>
    rw[h]at hn
    simp only[cond_false]at hn ⊢
    cases h1:(AQ s).1.isEmpty with
    | true=>rw[h1]at hn;rw[hn];exact Gives.err rfl
    | false =>
      rw[h1]at hn;rw[hn]
      simp only[cond_false,bne_self_eq_false,l9 N _ hN hg0,Af]
      cases h2:gZ (AQ s).1 != 0 with
      | true=>exact Gives.err h2
      | false =>
        have h3:gZ (AQ s).1=0:=by simpa using h2
        rw[h3];exact Gives.ok
end
