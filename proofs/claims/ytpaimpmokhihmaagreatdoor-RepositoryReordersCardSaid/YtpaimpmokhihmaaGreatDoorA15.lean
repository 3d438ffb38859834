import Derived.Test.YtpaimpmokhihmaaGreatDoorA13
import Derived.Below
set_option linter.all false
namespace Go.Proofs.YtpaimpmokhihmaaGreatDoor.Vm
open Classical
noncomputable def allH {α :Type} (l:List Bool) (r:Option α):Option α :=
 (fun(_:Nat)=>List.rec (motive:=fun _=>Option α) r (fun c _ ih=>Bool.rec (motive:=fun _=>Option α) none ih c) l) mO
theorem XF {α :Type}: ∀(l:List Bool) (r:Option α),allH l r=allT l r:=by
 intro l
 induction l with
 | nil=>intro r;rfl
 | cons c cs ih=>intro r;cases c<;>first | rfl | exact ih r
noncomputable def dC {α β :Type} (l:List α):(List α -> β)-> β :=
 (fun(_:Nat)=>List.rec (motive:=fun _=>(List α -> β)-> β) (fun k=>k []) (fun a _ ih k=>ih (fun l'=>k (a::l'))) l) mO
def dD {α β :Type}: ∀(l:List α) (k:List α -> β),dC l k=k l:=by
 intro l
 induction l with
 | nil=>intro k;rfl
 | cons a r ih=>simp_all[dC]
noncomputable def dE {β :Type} (st:St) (k:St-> β): β :=dC st.tmps fun tm=>dC st.Jm fun ob=>k ⟨tm,ob⟩
def dF {β :Type} (st:St) (k:St-> β):dE st k=k st:=by unfold dE;rw[dD,dD]
def Adj {ρ :Type} (v:A) (k:A->Option ρ):Option ρ :=match v with
 | .bool b=>Jo b fun b=>k (.bool b)
 | .cnd g (.bool b)=>Jo b fun b=>k (.cnd g (.bool b))
 | v=>k v
def Agc {ρ :Type} (v:A) (k:A->Option ρ):Adj v k=k v:=by unfold Adj;split<;>rfl
def bnd (C:Ctx) (o:Oper):Bool:=match o.dst with
 | some d=>has C.binds d
 | none=>false
noncomputable def goV {α :Type} (C:Ctx) (o:Oper) (st:St) (δ :Dl) (k:St->Option α):Option α :=match bnd C o with
 | true=>Adj δ.val fun v=>dE (apply st o {δ with val:=v}) k
 | false=>dE (apply st o δ) k
theorem Aff {α :Type} (C:Ctx) (o:Oper) (st:St) (δ :Dl) (k:St->Option α):goV C o st δ k=k (apply st o δ):=by
 unfold goV;cases bnd C o with
 | true=>exact(Agc _ _).trans (dF _ _)
 | false=>exact dF _ _
noncomputable def opsE {α :Type} (C:Ctx) (ops l:List Oper):St->(St->Option α)->Option α :=
 (fun(_:Nat)=>List.rec (motive:=fun _=>St->(St->Option α)->Option α) (fun st K=>K st) (fun o _ ih st K=>match UX C o with
   | none=>allH (JU C ops o st).ok (goV C o st (JU C ops o st) fun st'=>ih st' K)
   | some (f,q)=>match rW o st q with
    | true=>allH (JU (C.put f q.1) ops o st).ok (ih (apply st o (JU (C.put f q.1) ops o st)) K)
    | false=>allH (JU (C.put f q.2.1) ops o st).ok (ih (apply st o (JU (C.put f q.2.1) ops o st)) K)) l) mO
def Ahq {α :Type} (C:Ctx) (ops:List Oper): ∀(l:List Oper) (st:St) (K:St->Option α),opsE C ops l st K=QI C ops l st K:=by
 intro l
 induction l with
 | nil=>intro st K;rfl
 | cons o r ih =>
  intro st K
  show(match UX C o with
   | none=>allH (JU C ops o st).ok (goV C o st (JU C ops o st) fun st'=>opsE C ops r st' K)
   | some (f,q)=>match rW o st q with
    | true=>allH (JU (C.put f q.1) ops o st).ok (opsE C ops r (apply st o (JU (C.put f q.1) ops o st)) K)
    | false=>allH (JU (C.put f q.2.1) ops o st).ok (opsE C ops r (apply st o (JU (C.put f q.2.1) ops o st)) K))=_
  unfold QI;cases UX C o with
  | none=>grind[XF,Aff]
  | some q =>obtain⟨f,q⟩:=q;dsimp only;cases rW o st q<;>(dsimp only[cond_true,cond_false];rw[XF,ih])
noncomputable def Aef {α :Type} (C:Ctx) (ops l:List Oper):St->(St->Option α)->Option α :=
 (fun(_:Nat)=>List.rec (motive:=fun _=>St->(St->Option α)->Option α) (fun st K=>K st) (fun o _ ih st K=>allH (JU C ops o st).ok (goV C o st (JU C ops o st) fun st'=>ih st' K)) l) mO
def Ahp {α :Type} (C:Ctx) (ops:List Oper): ∀(l:List Oper) (st:St) (K:St->Option α),Aef C ops l st K=QJ C ops l st K:=by
 intro l
 induction l with
 | nil=>intro st K;rfl
 | cons o r ih =>intro st K;show allH _ (goV C o st _ fun st'=>Aef C ops r st' K)=allT _ (QJ C ops r _ K);rw[XF,Aff,ih]
noncomputable def oQ (C:Ctx) (ops:List Oper):List Oper->List (List Nat)->St->List KE
 | [],_,_=>[]
 | o::r,acc,st=>match JU C ops o st,(Rw o).flatMap (fun e=>e::acc.getD e [])with
  | δ,an=>⟨o,δ,KL o st (JP o st),oneOf C o.op (JP o st),an⟩::dE (apply st o δ) fun st'=>oQ C ops r (acc++[an]) st'
def Afc (C:Ctx) (ops:List Oper): ∀(l:List Oper) (acc:List (List Nat)) (st:St),oQ C ops l acc st=PD C ops l acc st:=by
 intro l
 induction l with
 | nil=>intro acc st;rfl
 | cons o r ih =>intro acc st;unfold oQ PD;dsimp only;rw[dF,ih]
noncomputable def Adg:List Oper->List Nat->List Nat
 | [],_=>[]
 | o::r,acc=>(Rw o).foldr (fun e m=>((2 ^ e) ||| acc.getD e 0) ||| m) 0::dC (acc++[(Rw o).foldr (fun e m=>((2 ^ e) ||| acc.getD e 0) ||| m) 0]) fun acc'=>Adg r acc'
def qJ (ops:List Oper) (i:Nat) (x:KE):List KE->List Nat->Bool
 | [],_=>true
 | y::r,b=>(P6 y.news x.says&&P6 y.news x.keys&&((b.headD 0).testBit i||indep ops x y))&&qJ ops i x r b.tail
def qI (ops:List Oper):Nat->List KE->List Nat->Bool
 | _,[],_=>true
 | i,x::r,b=>qJ ops i x r b.tail&&qI ops (i+1) r b.tail
def iP:List KE->List Nat->Prop
 | [],_=>True
 | y::r,b=>(∀ i,has y.anc i=(b.headD 0).testBit i)/\iP r b.tail
theorem Af8 (ops:List Oper) (i:Nat) (x:KE): ∀(r:List KE) (b:List Nat),iP r b->qJ ops i x r b=r.all (TV ops i x):=by
 intro r
 induction r with
 | nil=>intro b _;rfl
 | cons y r ih=>grind[qJ,iP,TV]
def Af7 (ops:List Oper): ∀(r:List KE) (i:Nat) (b:List Nat),iP r b->qI ops i r b=Vx ops i r:=by
 intro r
 induction r with
 | nil=>intro i b _;rfl
 | cons x r ih=>grind[qI,Vx,Af8,iP]
def nC (acc:List (List Nat)) (accB:List Nat) (h: ∀ e i,has (acc.getD e []) i=(accB.getD e 0).testBit i) (i:Nat): ∀ es:List Nat,has (es.flatMap fun e=>e::acc.getD e []) i=(es.foldr (fun e m=>((2 ^ e) ||| accB.getD e 0) ||| m) 0).testBit i:=by
 intro es
 induction es with
 | nil=>grind[has]
 | cons e r ih =>
  rw[Gy,List.foldr_cons,Nat.testBit_or,Nat.testBit_or,Nat.testBit_two_pow,<- ih,<- h e i]
  have hb:Nat.beq i e=decide (e=i):=by
   by_cases hh:e=i
   .simp_all[has]
   .rw[Ef hh];apply Bool.eq_false_iff.2;intro h;exact hh (Dk h).symm
  all_goals grind[has]
def Aeo (C:Ctx) (ops:List Oper): ∀(l:List Oper) (acc:List (List Nat)) (accB:List Nat) (st:St),acc.length=accB.length->(∀ e i,has (acc.getD e []) i=(accB.getD e 0).testBit i)->iP (PD C ops l acc st) (Adg l accB):=by
 intro l
 induction l with
 | nil=>intro acc accB st _ _;trivial
 | cons o r ih =>
  intro acc accB st hl h;unfold PD Adg;dsimp only;rw[dD];refine⟨fun i=>nC acc accB h i _,ih _ _ _ (by simp [hl]) fun e i=> ?_⟩;rcases G5 e acc.length with he | he | he
  .rw[Di,Di,DV he,DV (by omega),<- Di,<- Di];exact h e i
  .rw[Di,Di,Eb (by omega),Eb (by omega),show e - acc.length=0 by omega,show e - accB.length=0 by omega];exact nC acc accB h i _
  .rw[Di,Di,DN (by simp;omega),DN (by simp;omega)];show false=Nat.testBit 0 i;rw[GG]
noncomputable def uG (C:Ctx) (ops:List Oper) (st:St):Bool :=
 match oQ C ops ops [] st with
 | fs=>ordered ops&&qI ops 0 fs (Adg ops [])&&(fs.flatMap KE.news).all st.fresh&&sorted st.Jm
def Ad0 (C:Ctx) (ops:List Oper) (st:St):uG C ops st=Pj C ops st:=by unfold uG Pj;rw[Afc];dsimp only;rw[Af7 _ _ _ _ (Aeo C ops ops [] [] st rfl fun e i=>by show false=Nat.testBit 0 i;rw[GG])]
def Yb {ρ :Type} (C:Ctx) (key:Nat) (st:St) (K:St->Option ρ):Option ρ :=
 match norm C key st with
 | (ok,st')=>match ok with
  | true=>K st'
  | false=>none
theorem qB {ρ :Type} (C:Ctx) (key:Nat) (st:St) (K:St->Option ρ):Yb C key st K=Pm C key st K:=by unfold Yb Pm;generalize norm C key st=q;obtain⟨ok,st'⟩:=q;cases ok<;>rfl
def RF {ρ :Type} (C:Ctx) (kind:Nat) (c:Code) (st:St) (K:St->Option ρ):Option ρ :=
 match KZ c with
 | some n=>Yb C (4*n+kind) st K
 | none=>(fun(_:Nat)=>K st) mO
def VR {ρ :Type} (C:Ctx) (kind:Nat) (c:Code) (st:St) (K:St->Option ρ):RF C kind c st K=meet C kind c st K:=by grind[RF,meet,KZ,qB]
inductive HK where
 | b | i (k:IntKind) | s | l (t:Ty) | ln (t:Ty) | n | m (kt vt:Ty)
def HK.T:HK->Type
 | .b=>Bool
 | .i _=>Int
 | .s=>List UInt8
 | .l t=>List t.Val
 | .ln t=>List t.Val
 | .n=>Nat
 | .m kt vt=>List (kt.Val×vt.Val)
def HK.enc:(h:HK)->h.T->A
 | .b,v=>.bool v
 | .i k,v=>.int k v
 | .s,v=>.str v
 | .l t,v=>.sl ⟨t,v⟩
 | .ln t,v=>.sln ⟨t,v⟩
 | .n,v=>.fn v
 | .m kt vt,v=>.ump ⟨kt,vt,v⟩
def Aha:A->Nat | .fn n=>n | _=>0
def isFn:A->Bool | .fn _=>true | _=>false
def HK.is:HK->A->Bool
 | .b,a=>a.isB
 | .i k,a=>a.isI k
 | .s,a=>a.isS
 | .l t,a=>a.lK t
 | .ln t,a=>a.YO t
 | .n,a=>isFn a
 | .m kt vt,a=>a.WZ kt vt
def HK.dec:(h:HK)->A->h.T
 | .b,a=>a.toB
 | .i _,a=>a.toI
 | .s,a=>a.toS
 | .l t,a=>(a.toL.cast t).getD []
 | .ln t,a=>(a.toL.cast t).getD []
 | .n,a=>Aha a
 | .m kt vt,a=>(a.toM.cast kt vt).getD []
def HK.uJ {h:HK} {a:A} (ha:h.is a=true):h.enc (h.dec a)=a:=by
 cases h with
 | b=>cases a<;>first | rfl | cases ha
 | i k =>
  cases a<;>first
   | (rename_i k' n;have:=A.NL (show A.kEq k k'=true from ha);subst this;rfl)
   | cases ha
 | s=>cases a<;>first | rfl | cases ha
 | l t =>
  cases a<;>first
   | (rename_i l
      have e:l.t=t:=Ea ha;obtain⟨t',xs⟩:=l;dsimp only at e;subst e;show A.sl ⟨t',((Sl.cast ⟨t',xs⟩ t').getD [])⟩=_;rw[Sl.TL];rfl)
   | cases ha
 | ln t =>
  cases a<;>first
   | (rename_i l
      have e:l.t=t:=Ea ha;obtain⟨t',xs⟩:=l;dsimp only at e;subst e;show A.sln ⟨t',((Sl.cast ⟨t',xs⟩ t').getD [])⟩=_;rw[Sl.TL];rfl)
   | cases ha
 | n=>cases a<;>first | rfl | cases ha
 | m kt vt =>obtain⟨l,rfl,h1,h2⟩:=VL (show A.WZ kt vt a=true from ha);obtain⟨k,v,xs⟩:=l;dsimp only at h1 h2;subst h1;subst h2;show A.ump ⟨k,v,((Mp.cast ⟨k,v,xs⟩ k v).getD [])⟩=_;rw[Mp.TL];rfl
def pr2 (α β :Type):List HK->Type
 | []=> α
 | _::_=> α × β
def HV:List HK->Type
 | []=>Unit
 | h::r=>pr2 h.T (HV r) r
def hdH (h:HK):(r:List HK)->pr2 h.T (HV r) r->h.T
 | [],v=>v
 | _::_,v=>v.1
def tlH (h:HK):(r:List HK)->pr2 h.T (HV r) r->HV r
 | [],_=>()
 | _::_,v=>v.2
def mkH (h:HK):(r:List HK)->h.T->HV r->pr2 h.T (HV r) r
 | [],a,_=>a
 | _::_,a,b=>(a,b)
def AhK (h:HK) (r:List HK) (a:h.T) (b:HV r):hdH h r (mkH h r a b)=a:=by cases r<;>rfl
def Aij (h:HK) (r:List HK) (a:h.T) (b:HV r):tlH h r (mkH h r a b)=b:=by cases r<;>rfl
def HV.enc:(hs:List HK)->HV hs->List A
 | [],_=>[]
 | h::r,v=>h.enc (hdH h r v)::HV.enc r (tlH h r v)
def HV.dec:(hs:List HK)->List A->HV hs
 | [],_=>()
 | h::r,xs=>mkH h r (h.dec (xs.headD .undef)) (HV.dec r xs.tail)
def HV.Is:List HK->List A->Prop
 | [],[]=>True
 | h::r,x::xs=>h.is x=true/\HV.Is r xs
 | _,_=>False
def HV.uJ: ∀(hs:List HK) (xs:List A),HV.Is hs xs->HV.enc hs (HV.dec hs xs)=xs:=by
 intro hs
 induction hs with
 | nil=>intro xs h;cases xs with | nil=>rfl | cons _ _=>cases h
 | cons h r ih =>
  intro xs hx;cases xs with
  | nil=>cases hx
  | cons x xs =>show h.enc (hdH h r (mkH h r (h.dec x) (HV.dec r xs)))::HV.enc r (tlH h r (mkH h r (h.dec x) (HV.dec r xs)))=_;rw[AhK,Aij,HK.uJ hx.1,ih xs hx.2]
def HV.Is.append: ∀ {hs hs':List HK} {xs ys:List A},HV.Is hs xs->HV.Is hs' ys->HV.Is (hs++hs') (xs++ys):=by
 intro hs
 induction hs with
 | nil=>intro hs' xs ys h h';cases xs with | nil=>exact h' | cons _ _=>cases h
 | cons h r ih=>intro hs' xs ys hx h';cases xs with | nil=>cases hx | cons x xs=>exact⟨hx.1,ih hx.2 h'⟩
def HV.Is.length: ∀ {hs:List HK} {xs:List A},HV.Is hs xs->xs.length=hs.length:=by
 intro hs
 induction hs with
 | nil=>intro xs h;cases xs with | nil=>rfl | cons _ _=>cases h
 | cons h r ih=>intro xs hx;cases xs with | nil=>cases hx | cons x xs=>simp [ih hx.2]
inductive Pc where
 | h (k:HK) | oe (o off:Nat) | c (a:A)
inductive Pt where
 | i | c (p:Pc) | agg (l:List Pc) | elt (l:List Pc)
inductive Po where
 | box (l:List Pc) | arr (e:Nat) (frz:Bool) (t:Ty) | KO (e:Nat) (frz:Bool) (t:Ty) | mp (kt vt:Ty)
structure Spe where
 ts:List (Nat×Pt)
 os:List (Nat×Po)
def Py:A->Bool | .undef=>true | _=>false
def Qr (a:A):Bool:=a.ids.isEmpty&& !(XZ a)
def same:A->A->Bool
 | .undef,.undef=>true
 | .KD,.KD=>true
 | .KQ,.KQ=>true
 | .bool a,.bool b=>a==b
 | .int k a,.int k' b=>A.kEq k k'&&a==b
 | .str a,.str b=>a==b
 | .sl l,.sl l'=>decide (l.t=l'.t)&&(l.xs.isEmpty&&l'.xs.isEmpty)
 | .ptr o p,.ptr o' p'=>Nat.beq o o'&&Nat.beq p p'
 | .own o,.own o'=>Nat.beq o o'
 | .KG o i p,.KG o' i' p'=>Nat.beq o o'&&(Nat.beq i i'&&Nat.beq p p')
 | .fn f,.fn f'=>Nat.beq f f'
 | .clo f o,.clo f' o'=>Nat.beq f f'&&Nat.beq o o'
 | .bsl o n,.bsl o' n'=>Nat.beq o o'&&Nat.beq n n'
 | .osl o n,.osl o' n'=>Nat.beq o o'&&Nat.beq n n'
 | _,_=>false
def same_eq {a b:A} (h:same a b=true):a=b:=by
 unfold same at h;split at h
 .rfl
 .rfl
 .rfl
 .rw[ER h]
 .grind[A.NL]
 .rw[ER h]
 .rename_i l l';simp only[Dn,Eh,FO]at h;obtain⟨t,xs⟩:=l;obtain⟨t',xs'⟩:=l';all_goals grind[same]
 all_goals simp_all[same]
namespace Pc
def hs:Pc->List HK
 | .h k=>[k]
 | .oe _ _=>[.n]
 | .c _=>[]
def nh:Pc->Nat
 | .c _=>0
 | _=>1
def emb:Pc->List A->A
 | .h _,xs=>xs.headD .undef
 | .oe o off,xs=>.KG o (Aha (xs.headD .undef)) off
 | .c a,_=>a
def un:Pc->A->List A
 | .h _,a=>[a]
 | .oe _ _,.KG _ i _=>[.fn i]
 | .oe _ _,_=>[.fn 0]
 | .c _,_=>[]
def fits:Pc->A->List Bool
 | .h k,a=>[k.is a]
 | .oe o off,.KG o' _ off'=>[Nat.beq o o',Nat.beq off off']
 | .oe _ _,_=>[false]
 | .c x,a=>[same x a]
def PN {p:Pc} {a:A} (h:Jv (p.fits a)) (r:List A):p.emb (p.un a++r)=a/\(p.un a++r).drop p.nh=r/\HV.Is p.hs (p.un a):=by
 cases p with
 | h k=>exact⟨rfl,rfl,h.cons.1,trivial⟩
 | oe o off =>
  cases a<;>first
   | (have h1:=h.cons.1;have h2:=h.cons.2.cons.1
      rw[Dk h1,Dk h2];exact⟨rfl,rfl,rfl,trivial⟩)
   | exact absurd h.cons.1 (by decide)
 | c x=>exact⟨same_eq h.cons.1,rfl,trivial⟩
end Pc
def hsC:List Pc->List HK
 | []=>[]
 | p::r=>p.hs++hsC r
def nhC:List Pc->Nat
 | []=>0
 | p::r=>p.nh+nhC r
def uH:List Pc->List A->List A
 | [],_=>[]
 | p::r,xs=>p.emb xs::uH r (xs.drop p.nh)
def unC:List Pc->List A->List A
 | p::r,a::aa=>p.un a++unC r aa
 | _,_=>[]
def oP:List Pc->List A->List Bool
 | [],[]=>[]
 | p::r,a::aa=>p.fits a++oP r aa
 | _,_=>[false]
def uI: ∀(l:List Pc) (aa:List A),Jv (oP l aa)-> ∀ r,uH l (unC l aa++r)=aa/\(unC l aa++r).drop (nhC l)=r/\HV.Is (hsC l) (unC l aa):=by
 intro l
 induction l with
 | nil=>intro aa h r;cases aa with | nil=>exact⟨rfl,rfl,trivial⟩ | cons _ _=>exact absurd h.cons.1 (by decide)
 | cons p l ih =>
  intro aa h r;cases aa with
  | nil=>exact absurd h.cons.1 (by decide)
  | cons a aa =>
   obtain⟨h1,h2⟩:=h.append;obtain⟨e1,e2,e3⟩:=p.PN h1 (unC l aa++r);obtain⟨f1,f2,f3⟩:=ih aa h2 r;refine⟨?_,?_,e3.append f3⟩
   .grind[unC,uH,drop]
   .show((p.un a++unC l aa)++r).drop (p.nh+nhC l)=_;rw[EU,<- Fb,e2,f2]
namespace Pt
def hs:Pt->List HK
 | .i=>[]
 | .c p=>p.hs
 | .agg l=>hsC l
 | .elt l=>hsC l
def nh:Pt->Nat
 | .i=>0
 | .c p=>p.nh
 | .agg l=>nhC l
 | .elt l=>nhC l
def emb:Pt->A->List A->A
 | .i,b,_=>b
 | .c p,_,xs=>p.emb xs
 | .agg l,_,xs=>.agg (uH l xs)
 | .elt l,_,xs=>.elt (uH l xs)
def un:Pt->A->List A
 | .i,_=>[]
 | .c p,a=>p.un a
 | .agg l,.agg cs=>unC l cs
 | .elt l,.elt cs=>unC l cs
 | _,_=>[]
def fits:Pt->A->A->List Bool
 | .i,b,a=>[Qr b,!(Py a)]
 | .c p,_,a=>p.fits a
 | .agg l,_,.agg cs=>oP l cs
 | .elt l,_,.elt cs=>oP l cs
 | _,_,_=>[false]
def isI:Pt->Bool | .i=>true | _=>false
def PN {p:Pt} {b a:A} (h:Jv (p.fits b a)) (hi:p= .i->Qr b=true->Py a=false->a=b) (r:List A):p.emb b (p.un a++r)=a/\(p.un a++r).drop p.nh=r/\HV.Is p.hs (p.un a):=by
 cases p with
 | i =>refine⟨(hi rfl h.cons.1 ?_).symm,rfl,trivial⟩;have:=h.cons.2.cons.1;simpa using this
 | c p=>exact p.PN h r
 | agg l =>
  cases a<;>first
   | (obtain⟨h1,h2,h3⟩:=uI l _ h r;exact⟨congrArg A.agg h1,h2,h3⟩)
   | exact absurd h.cons.1 (by decide)
 | elt l =>
  cases a<;>first
   | (obtain⟨h1,h2,h3⟩:=uI l _ h r;exact⟨congrArg A.elt h1,h2,h3⟩)
   | exact absurd h.cons.1 (by decide)
end Pt
def hsT:List (Nat×Pt)->List HK
 | []=>[]
 | (_,p)::r=>p.hs++hsT r
def nhT:List (Nat×Pt)->Nat
 | []=>0
 | (_,p)::r=>p.nh+nhT r
def YA:List A->Nat->List (Nat×Pt)->List A->List A
 | [],_,_,_=>[]
 | _::bs,i,[],xs=>.undef::YA bs (i+1) [] xs
 | b::bs,i,(j,p)::ts,xs=>bif Nat.beq i j then p.emb b xs::YA bs (i+1) ts (xs.drop p.nh)else .undef::YA bs (i+1) ((j,p)::ts) xs
def unT:List A->Nat->List (Nat×Pt)->List A
 | [],_,_=>[]
 | _::_,_,[]=>[]
 | a::aa,i,(j,p)::ts=>bif Nat.beq i j then p.un a++unT aa (i+1) ts else unT aa (i+1) ((j,p)::ts)
def fitsT:List A->List A->Nat->List (Nat×Pt)->List Bool
 | [],[],_,[]=>[]
 | _::bs,a::aa,i,[]=>Py a::fitsT bs aa (i+1) []
 | b::bs,a::aa,i,(j,p)::ts=>bif Nat.beq i j then p.fits b a++fitsT bs aa (i+1) ts else Py a::fitsT bs aa (i+1) ((j,p)::ts)
 | _,_,_,_=>[false]
def pV {a:A} (h:Py a=true):a= .undef:=by cases a<;>first | rfl | cases h
def Ahi: ∀(bs aa:List A) (i:Nat) (ts:List (Nat×Pt)),Jv (fitsT bs aa i ts)->(∀ t,((t,Pt.i):Nat×Pt)∈ts->i<=t->Qr (bs.getD (t - i) .undef)=true->Py (aa.getD (t - i) .undef)=false->aa.getD (t - i) .undef=bs.getD (t - i) .undef) ->
 ∀ r,YA bs i ts (unT aa i ts++r)=aa/\(unT aa i ts++r).drop (nhT ts)=r/\HV.Is (hsT ts) (unT aa i ts):=by
 intro bs
 induction bs with
 | nil =>
  intro aa i ts h _ r;cases aa with
  | nil=>cases ts with | nil=>exact⟨rfl,rfl,trivial⟩ | cons _ _=>exact absurd h.cons.1 (by decide)
  | cons _ _=>exact absurd h.cons.1 (by decide)
 | cons b bs ih =>
  intro aa i ts h hi r;have hstep: ∀ ts':List (Nat×Pt),(∀ t,(t,Pt.i)∈ts'->((t,Pt.i):Nat×Pt)∈ts)-> ∀(a:A) (as':List A),aa=a::as'-> ∀ t,(t,Pt.i)∈ts'->i+1<=t->Qr (bs.getD (t - (i+1)) .undef)=true->Py (as'.getD (t - (i+1)) .undef)=false->as'.getD (t - (i+1)) .undef=bs.getD (t - (i+1)) .undef:=by all_goals grind[Pt,Jv,fitsT,Qr,Py,YA]
  cases aa with
  | nil=>cases ts<;>exact absurd h.cons.1 (by decide)
  | cons a aa =>
   cases ts with
   | nil =>
    have h':Jv (Py a::fitsT bs aa (i+1) []):=h;obtain⟨f1,f2,f3⟩:=ih aa (i+1) [] h'.cons.2 (fun t ht=>by cases ht) r;have hu:=pV h'.cons.1;refine⟨?_,rfl,trivial⟩;show A.undef::YA bs (i+1) [] ([]++r)=a::aa;have e0:unT aa (i+1) []=[]:=by cases aa<;>rfl
    rw[e0]at f1;rw[hu,f1]
   | cons q ts =>
    obtain⟨j,p⟩:=q;have h':Jv (bif Nat.beq i j then p.fits b a++fitsT bs aa (i+1) ts else Py a::fitsT bs aa (i+1) ((j,p)::ts)):=h;cases hb:Nat.beq i j with
    | true =>
     rw[hb]at h';obtain⟨h1,h2⟩:=Jv.append h';have hij:=Dk hb;subst hij;obtain⟨e1,e2,e3⟩:=Pt.PN h1 (fun hp hpl hu=>by have:=hi i (by rw[<- hp];exact Dp) (DR _);rw[Nat.sub_self]at this;exact this hpl hu) (unT aa (i+1) ts++r);obtain⟨f1,f2,f3⟩:=ih aa (i+1) ts h2 (hstep ts (fun t ht=>Dq _ ht) a aa rfl) r;have u0:unT (a::aa) i ((i,p)::ts)=p.un a++unT aa (i+1) ts:=by show(bif Nat.beq i i then _ else _)=_;rw[hb];rfl
     refine⟨?_,?_,?_⟩
     .rw[u0];show(bif Nat.beq i i then _ else _)=_;rw[hb];show p.emb b ((p.un a++unT aa (i+1) ts)++r)::YA bs (i+1) ts (((p.un a++unT aa (i+1) ts)++r).drop p.nh)=_;rw[EU,e1,e2,f1]
     .rw[u0];show((p.un a++unT aa (i+1) ts)++r).drop (p.nh+nhT ts)=_;rw[EU,<- Fb,e2,f2]
     .rw[u0];exact e3.append f3
    | false =>
     rw[hb]at h';obtain⟨f1,f2,f3⟩:=ih aa (i+1) ((j,p)::ts) h'.cons.2 (hstep _ (fun t ht=>ht) a aa rfl) r;have hu:=pV h'.cons.1;have u0:unT (a::aa) i ((j,p)::ts)=unT aa (i+1) ((j,p)::ts):=by show(bif Nat.beq i j then _ else _)=_;rw[hb];rfl
     refine⟨?_,?_,?_⟩
     .rw[u0];show(bif Nat.beq i j then _ else _)=_;rw[hb];show A.undef::YA bs (i+1) ((j,p)::ts) (unT aa (i+1) ((j,p)::ts)++r)=_;rw[hu,f1]
     .rw[u0];exact f2
     .rw[u0];exact f3
namespace Po
def hs:Po->List HK
 | .box l=>hsC l
 | .arr _ _ t=>[.l t]
 | .KO _ _ _=>[]
 | .mp kt vt=>[.m kt vt]
def nh:Po->Nat
 | .box l=>nhC l
 | .arr _ _ _=>1
 | .KO _ _ _=>0
 | .mp _ _=>1
def emb:Po->List A->Obj
 | .box l,xs=>.box (uH l xs)
 | .arr e f _,xs=>.arr e f (xs.headD .undef).toL
 | .KO e f t,_=>.arr e f ⟨t,[]⟩
 | .mp _ _,xs=>.mp (xs.headD .undef).toM
def un:Po->Obj->List A
 | .box l,.box cs=>unC l cs
 | .arr _ _ _,.arr _ _ l=>[.sl l]
 | .mp _ _,.mp l=>[.ump l]
 | _,_=>[]
def fits:Po->Obj->List Bool
 | .box l,.box cs=>oP l cs
 | .arr e f t,.arr e' f' l=>[Nat.beq e e',f==f',decide (l.t=t)]
 | .KO e f t,.arr e' f' l=>[Nat.beq e e',f==f',decide (l.t=t),l.xs.isEmpty]
 | .mp kt vt,.mp l=>[A.WZ kt vt (.ump l)]
 | _,_=>[false]
def PN {p:Po} {x:Obj} (h:Jv (p.fits x)) (r:List A):p.emb (p.un x++r)=x/\(p.un x++r).drop p.nh=r/\HV.Is p.hs (p.un x):=by
 cases p with
 | box l =>
  cases x with
  | box cs=>obtain⟨h1,h2,h3⟩:=uI l cs h r;exact⟨congrArg Obj.box h1,h2,h3⟩
  | arr _ _ _=>exact absurd h.cons.1 (by decide)
  | mp _=>exact absurd h.cons.1 (by decide)
 | mp kt vt =>
  cases x with
  | box cs=>exact absurd h.cons.1 (by decide)
  | arr _ _ _=>exact absurd h.cons.1 (by decide)
  | mp l=>exact⟨rfl,rfl,h.cons.1,trivial⟩
 | arr e f t =>
  cases x with
  | box cs=>exact absurd h.cons.1 (by decide)
  | mp _=>exact absurd h.cons.1 (by decide)
  | arr e' f' l =>have h1:=Dk h.cons.1;have h2:=ER h.cons.2.cons.1;have h3:=h.cons.2.cons.2.cons.1;subst h1;subst h2;exact⟨rfl,rfl,h3,trivial⟩
 | KO e f t =>
  cases x with
  | box cs=>exact absurd h.cons.1 (by decide)
  | mp _=>exact absurd h.cons.1 (by decide)
  | arr e' f' l =>have h1:=Dk h.cons.1;have h2:=ER h.cons.2.cons.1;have h3:=Ea h.cons.2.cons.2.cons.1;have h4:=FO.1 h.cons.2.cons.2.cons.2.cons.1;obtain⟨t',xs⟩:=l;dsimp only at h3 h4;subst h1;subst h2;subst h3;subst h4;exact⟨rfl,rfl,trivial⟩
end Po
def hsO:List (Nat×Po)->List HK
 | []=>[]
 | (_,p)::r=>p.hs++hsO r
def Ad2:List (Nat×Po)->List A->List (Nat×Obj)
 | [],_=>[]
 | (n,p)::r,xs=>(n,p.emb xs)::Ad2 r (xs.drop p.nh)
def unO:List (Nat×Po)->List (Nat×Obj)->List A
 | (_,p)::r,(_,x)::l=>p.un x++unO r l
 | _,_=>[]
def zZ:List (Nat×Po)->List (Nat×Obj)->List Bool
 | [],[]=>[]
 | (n,p)::r,(k,x)::l=>Nat.beq n k::p.fits x++zZ r l
 | _,_=>[false]
def Ahh: ∀(os:List (Nat×Po)) (l:List (Nat×Obj)),Jv (zZ os l)->Ad2 os (unO os l)=l/\HV.Is (hsO os) (unO os l):=by
 intro os
 induction os with
 | nil=>intro l h;cases l with | nil=>exact⟨rfl,trivial⟩ | cons _ _=>exact absurd h.cons.1 (by decide)
 | cons q os ih =>
  intro l h;cases l with
  | nil=>exact absurd h.cons.1 (by decide)
  | cons y l =>obtain⟨n,p⟩:=q;obtain⟨k,x⟩:=y;have h':Jv ((Nat.beq n k::p.fits x)++zZ os l):=h;obtain⟨h1,h2⟩:=h'.append;have hn:=Dk h1.cons.1;subst hn;obtain⟨e1,e2,e3⟩:=p.PN h1.cons.2 (unO os l);obtain⟨f1,f3⟩:=ih l h2;refine⟨?_,e3.append f3⟩;all_goals grind[unO,Ad2,drop]
namespace Spe
def hs (sh:Spe):List HK:=hsT sh.ts++hsO sh.os
def emb (sh:Spe) (b:St) (v:HV sh.hs):St:=⟨YA b.tmps 0 sh.ts (HV.enc sh.hs v),Ad2 sh.os ((HV.enc sh.hs v).drop (nhT sh.ts))⟩
def un (sh:Spe) (st:St):HV sh.hs:=HV.dec sh.hs (unT st.tmps 0 sh.ts++unO sh.os st.Jm)
def fits (sh:Spe) (b st:St):List Bool:=fitsT b.tmps st.tmps 0 sh.ts++zZ sh.os st.Jm
noncomputable def enter {ρ :Type} (sh:Spe) (b st:St) (j:HV sh.hs->Option ρ):Option ρ :=allH (sh.fits b st) (j (sh.un st))
def okI (sh:Spe) (W:List Nat):Bool:=sh.ts.all fun q=> !(q.2.isI)|| !(has W q.1)
end Spe
def xb:Pc:=.h .b
def x64:Pc:=.h (.i .i64)
def x8:Pc:=.h (.i .u8)
def xs:Pc:=.h .s
def xl (t:Ty):Pc:=.h (.l t)
def xo (o:Nat):Pc:=.c (.own o)
def x0:Pc:=.c .KD
def R (W:List Nat) (st st':St):Prop:= ∀ t,t∉W->Qr (st.tmps.getD t .undef)=true->st'.tmps.getD t .undef=st.tmps.getD t .undef\/st'.tmps.getD t .undef= .undef
def R.refl (W:List Nat) (st:St):R W st st:=fun _ _ _=>.inl rfl
def R.trans {W:List Nat} {a b c:St} (h1:R W a b) (h2:R W b c):R W a c:=by
 intro t ht hp;rcases h1 t ht hp with e | e
 .grind[R]
 .rcases h2 t ht (by rw[e];rfl)with e' | e';all_goals grind[R]
def R.mono {W W':List Nat} {a b:St} (h:R W a b) (hs: ∀ t∈W,t∈W'):R W' a b:=fun t ht hp=>h t (fun h'=>ht (hs t h')) hp
def R.of_eq {W:List Nat} {a b:St} (h:a.tmps=b.tmps):R W a b:=fun _ _ _=>.inl (by rw[h])
def R.none {W:List Nat} {a b:St} (h:R [] a b):R W a b:=h.mono (fun _ h=>by cases h)
def Spe.PN {sh:Spe} {W:List Nat} {b st:St} (h:Jv (sh.fits b st)) (hi:sh.okI W=true) (hr:R W b st):sh.emb b (sh.un st)=st:=by
 obtain⟨h1,h2⟩:=h.append;obtain⟨f1,f3⟩:=Ahh _ _ h2
 obtain⟨e1,e2,e3⟩:=Ahi _ _ 0 _ h1 (fun t ht _ hp hu=>by
  rw[Nat.sub_zero]at hp hu ⊢;have hw:t∉W:=by have:=DK.1 hi _ ht;intro hm;rw[show has W t=true by simp only[has,EX];exact⟨t,hm,by simp⟩]at this;cases this
  rcases hr t hw hp with e | e
  .exact e
  .rw[e]at hu;cases hu) (unO sh.os st.Jm)
 unfold Spe.emb Spe.un;rw[HV.uJ _ _ (show HV.Is sh.hs _ from e3.append f3),e1,e2,f1]
theorem lH (l:List A) (d t:Nat) (v:A) (h:t≠d):(l.set d v).getD t .undef=l.getD t .undef:=by grind
def AiB: ∀(l:List (Option Nat×Nat×Ty)) (st:St),R [] st (pzs l st):=by
 intro l
 induction l with
 | nil=>intro st;exact R.refl _ _
 | cons q r ih =>
  intro st;obtain⟨b,t,ty⟩:=q;have hset: ∀(v:A) (Jm:List (Nat×Obj)),Qr (st.tmps.getD t .undef)=false->R [] st {tmps:=st.tmps.set t v,Jm:=Jm}:=by intro v Jm hp k _ hk;all_goals grind[lH]
  cases b with
  | none =>
   unfold pzs;split
   .rename_i e;exact(hset _ _ (by rw[e];rfl)).trans (ih _)
   .rename_i o e;split
    .exact(hset _ _ (by rw[e];rfl)).trans (ih _)
    .exact ih _
   .exact ih _
  | some b =>
   unfold pzs;split
   .split
    .split
     .refine R.trans ?_ (ih _);exact R.of_eq rfl
     .exact ih _
    .exact ih _
   .exact ih _
def getD_drop (keep:List Nat): ∀(l:List A) (i t:Nat),(drop keep l i).getD t .undef=l.getD t .undef\/(drop keep l i).getD t .undef= .undef:=by
 intro l
 induction l with
 | nil=>intro i t;exact .inl rfl
 | cons a l ih =>
  intro i t;cases t with
  | zero=>grind[has,drop]
  | succ t=>exact ih (i+1) t
def Ael {f t:Nat} {a:A} (h:Qr a=true):MC f t a=a:=by
 unfold Qr at h;rw[Dn,FO]at h;have h1:=h.1;cases a with
 | ptr o off=>cases h1
 | own o=>cases h1
 | clo _ _=>cases h1
 | bsl _ _=>cases h1
 | osl _ _=>cases h1
 | KG o i off=>cases h1
 | agg cs =>
  have h2:cs.flatMap A.Ls=[]:=h1;rw[FP]at h2;show A.agg (cs.map _)=A.agg cs;congr 1
  conv=>rhs;rw[<- F7 cs]
  refine Ew fun c hc=> ?_;have:=h2 c hc;cases c<;>first | rfl | cases this
 | _=>rfl
def Aid: ∀(l:List (Nat×Nat)) (st:St),R [] st (gG st l).2:=by
 intro l
 induction l with
 | nil=>intro st;exact R.refl _ _
 | cons q r ih =>
  intro st;obtain⟨f,t⟩:=q;unfold gG;cases hx:Jr st.Jm f with
  | none=>exact ih st
  | some x =>
   have h1:R [] st {tmps:=st.tmps.map (MC f t),Jm:=(KI (OB st.Jm f) t x).map (fun p=>(p.1,gB f t p.2))}:=by
    intro k _ hk;left;show(st.tmps.map (MC f t)).getD k .undef=_;rw[Di,DW];rw[Di]at hk ⊢;cases hs:st.tmps[k]? with
    | none=>rfl
    | some a =>rw[hs]at hk;exact Ael hk
   exact h1.trans (ih _)
theorem Acv (id:Nat): ∀(ts:List Nat) (l:List A) (k:Nat),k∉ts->(gQ id ts l).getD k .undef=l.getD k .undef:=by
 intro ts
 induction ts with
 | nil=>intro l k _;rfl
 | cons t r ih=>grind[gQ,lH]
def AhW: ∀(l:List (List Nat×Nat×Ty×Nat)) (st:St),(owns l st).1=true->R [] st (owns l st).2:=by
 intro l
 induction l with
 | nil=>intro st _;exact R.refl _ _
 | cons q r ih =>
  intro st h;obtain⟨ts,e,ty,id⟩:=q;unfold owns at h ⊢;cases ha:ts.any (fun t=>XZ (st.tmps.getD t .undef))with
  | false=>rw[ha]at h;exact ih st h
  | true =>rw[ha]at h;dsimp only[cond_true]at h ⊢;simp only[Dn]at h;refine R.trans ?_ (ih _ h.2);intro k _ hk;all_goals grind[Acv,Qr]
theorem AhR {C:Ctx} {key:Nat} {st:St} (h:(norm C key st).1=true):R [] st (norm C key st).2:=by
 unfold norm at h ⊢;split at h
 .exact R.refl _ _
 .rename_i n hn;dsimp only at h ⊢;simp only[Dn]at h;have h1:R [] st (pzs n.pz st):=AiB _ _;have h2:R [] (pzs n.pz st) {tmps:=drop n.keep (pzs n.pz st).tmps 0,Jm:=(pzs n.pz st).Jm.filter (fun p=>has (reached (drop n.keep (pzs n.pz st).tmps 0) (pzs n.pz st).Jm) p.1)}:=fun t _ _=>getD_drop _ _ _ _;exact((h1.trans h2).trans (Aid _ _)).trans ((AhW _ _ h.2).trans (R.of_eq rfl))
def YB {ρ :Type} {sh:Spe} {b st:St} {j:HV sh.hs->Option ρ} {v: ρ} (h:sh.enter b st j=some v):Jv (sh.fits b st)/\j (sh.un st)=some v:=by unfold Spe.enter at h;rw[XF]at h;exact PL h
theorem Abe {ρ :Type} {C:Ctx} {key:Nat} {st:St} {K:St->Option ρ} {v: ρ} (h:Pm C key st K=some v): ∃ st',R [] st st'/\K st'=some v/\ ∀ K':St->Option ρ,Pm C key st K'=K' st':=by
 unfold Pm at h;cases hn:(norm C key st).1 with
 | false =>
  have e:norm C key st=(false,(norm C key st).2):=by rw[<- hn]
  rw[e]at h;cases h
 | true =>
  have e:norm C key st=(true,(norm C key st).2):=by rw[<- hn]
  all_goals grind[AhR,Pm]
def dW {ρ :Type} {C:Ctx} {kind:Nat} {c:Code} {st:St} {K:St->Option ρ} {v: ρ} (h:meet C kind c st K=some v): ∃ st',R [] st st'/\K st'=some v/\ ∀ K':St->Option ρ,meet C kind c st K'=K' st':=by
 unfold meet at h;cases hf:KZ c with
 | none=>rw[hf]at h;exact⟨st,R.refl _ _,h,fun K'=>by unfold meet;rw[hf]⟩
 | some n=>grind[Abe,meet]
structure Lk where
 j:List (Nat×Spe)
 l:List (Nat×Spe×List (Nat×Spe))
def AdR {α :Type}:List (Nat× α)->Nat->Option α
 | [],_=>none
 | (k,x)::r,n=>bif Nat.beq k n then some x else AdR r n
def pX (L:Lk) (b:Code):Option Spe:=match KZ b with
 | some n=>AdR L.j (4*n+1)
 | none=>none
def qA (L:Lk) (c:Code):Option (Spe×List (Nat×Spe)):=match KZ c with
 | some n=>AdR L.l (4*n+2)
 | none=>none
def YT:List (Nat×Spe)->Type
 | []=>Unit
 | [(_,sh)]=>HV sh.hs
 | (_,sh)::q::r=>HV sh.hs ⊕ YT (q::r)
noncomputable def bZ {ρ :Type}:(ex:List (Nat×Spe))->Nat->St->St->(YT ex->Option ρ)->Option ρ
 | [],_,_,_,_=>none
 | [(i,sh)],id,b,st,kx=>match Nat.beq i id with
  | true=>sh.enter b st kx
  | false=>none
 | (i,sh)::q::r,id,b,st,kx=>match Nat.beq i id with
  | true=>sh.enter b st (fun v=>kx (.inl v))
  | false=>bZ (q::r) id b st (fun y=>kx (.inr y))
noncomputable def oJ {ρ :Type}:(ex:List (Nat×Spe))->St->(Ex->St->Option ρ)->YT ex->Option ρ
 | [],_,_=>fun _=>none
 | [(i,sh)],b,K=>fun v=>K (.exit i) (sh.emb b v)
 | (i,sh)::q::r,b,K=>Sum.elim (fun v=>K (.exit i) (sh.emb b v)) (oJ (q::r) b K)
noncomputable def iO {ρ :Type} (mt:St->(St->Option ρ)->Option ρ) (body:St->(Ex->St->Option ρ)->Option ρ) (n:Nat):St->(Ex->St->Option ρ)->Option ρ :=
 (fun(_:Nat)=>Nat.rec (motive:=fun _=>St->(Ex->St->Option ρ)->Option ρ) (fun _ _=>none) (fun _ ih st K=>body st fun
   | .normal,st'=>mt st' fun st''=>ih st'' K
   | .exit id,st'=>K (.exit id) st') n) mO
noncomputable def exe {ρ :Type} (C:Ctx) (N:Nat) (L:Lk) (fin:St->Option ρ):Code->St->(Ex->St->Option ρ)->Option ρ
 | .skip,st,K=>K .normal st
 | .region id ops false,st,K=>split C id ops.toList st fun C=>opsE C ops.toList ops.toList st fun st'=>K .normal st'
 | .region id ops true,st,K=>split C id ops.toList st fun C=>match uG C ops.toList st with
  | true=>Aef C ops.toList ops.toList st fun st'=>K .normal st'
  | false=>none
 | .seq a b,st,K=>match pX L b with
  | some sh=>Kw (fun j=>exe C N L fin a st fun
   | .normal,st'=>RF C 1 b st' fun st''=>sh.enter st st'' j
   | .exit id,st'=>K (.exit id) st') (fun x=>exe C N L fin b (sh.emb st x) K)
  | none=>exe C N L fin a st fun
   | .normal,st'=>RF C 1 b st' fun st''=>exe C N L fin b st'' K
   | .exit id,st'=>K (.exit id) st'
 | .cond c a b,st,K=>match Kq st.tmps c with
  | .bool t=>match t with
   | true=>exe C N L fin a st K
   | false=>exe C N L fin b st K
  | .cnd g (.bool t)=>match g with
   | true=>match t with
    | true=>exe C N L fin a st K
    | false=>exe C N L fin b st K
   | false=>none
  | _=>none
 | .block id c,st,K=>exe C N L fin c st fun
  | .exit j,st'=>match Nat.beq j id with
   | true=>K .normal st'
   | false=>K (.exit j) st'
  | .normal,st'=>K .normal st'
 | .loop c,st,K=>RF C 2 c st fun b=>match qA L c with
  | some (h,ex)=>match (h.fits b b).all id with
   | true=>Jw (fun x k kx=>exe C N L fin c (h.emb b x) fun
    | .normal,st'=>RF C 2 c st' fun st''=>h.enter b st'' k
    | .exit id,st'=>bZ ex id b st' kx) N (h.un b) (oJ ex b K)
   | false=>iO (RF C 2 c) (exe C N L fin c) N b K
  | none=>iO (RF C 2 c) (exe C N L fin c) N b K
 | .scope c,st,K=>exe C N L fin c st K
 | .exit id,st,K=>Yb C (4*id+3) st fun st'=>K (.exit id) st'
 | .label _,st,K=>K .normal st
 | .ret,st,_=>fin st
 | _,_,_=>none
def writes:Code->List Nat
 | .region _ ops _=>ops.toList.filterMap (·.dst)
 | .seq a b=>writes a++writes b
 | .cond _ a b=>writes a++writes b
 | .block _ c=>writes c
 | .loop c=>writes c
 | .scope c=>writes c
 | _=>[]
def okJ (W:List Nat):Option Spe->Bool
 | some sh=>sh.okI W
 | none=>true
def okX (W:List Nat):Option (Spe×List (Nat×Spe))->Bool
 | some (h,ex)=>h.okI W&&ex.all (fun q=>q.2.okI W)
 | none=>true
def okL (L:Lk):Code->Bool
 | .seq a b=>okL L a&&okL L b&&okJ (writes a) (pX L b)
 | .cond _ a b=>okL L a&&okL L b
 | .block _ c=>okL L c
 | .scope c=>okL L c
 | .loop c=>okL L c&&okX (writes c) (qA L c)
 | _=>true
def AiA (st:St) (o:Oper) (δ :Dl):R (TB o) st (apply st o δ):=by
 intro t ht _;left;show(put st.tmps o.dst δ.val).getD t .undef=_;cases hd:o.dst with
 | none=>rfl
 | some d =>refine lH _ _ _ _ fun e=>ht ?_;simp [TB,hd,e]
def Ae6 {α :Type} {l:List Bool} {x y:Option α} {v: α} (h:allT l x=some v) (hy:x=some v->y=some v):allT l y=some v:=by
 induction l with
 | nil=>exact hy h
 | cons c cs ih=>grind[allT]
def AfB {st st':St} {o:Oper} {δ :Dl} {r:List Oper} (hr:R (r.filterMap (·.dst)) (apply st o δ) st'):R ((o::r).filterMap (·.dst)) st st' :=
 ((AiA st o δ).mono (fun t ht=>by
    cases hd:o.dst with
    | none=>simp [TB,hd]at ht
    | some d=>simp [TB,hd]at ht;simp [hd,ht])).trans (hr.mono (fun t ht=>by
    cases hd:o.dst with
    | none=>simpa [hd]using ht
    | some d=>simp only[List.filterMap_cons,hd];exact Dq _ ht))
def AhV {ρ :Type} {C:Ctx} {ops:List Oper} {v: ρ}: ∀(l:List Oper) (st:St) (K K':St->Option ρ),(∀ st',R (l.filterMap (·.dst)) st st'->K st'=some v->K' st'=some v)->QJ C ops l st K=some v->QJ C ops l st K'=some v:=by
 intro l
 induction l with
 | nil=>intro st K K' hK h;exact hK st (R.refl _ _) h
 | cons o r ih =>intro st K K' hK h;have h':allT (JU C ops o st).ok (QJ C ops r (apply st o (JU C ops o st)) K)=some v:=h;show allT (JU C ops o st).ok (QJ C ops r (apply st o (JU C ops o st)) K')=some v;exact Ae6 h' (ih _ K K' fun st' hr=>hK st' (AfB hr))
def Ai9 {ρ :Type} {C:Ctx} {ops:List Oper} {v: ρ}: ∀(l:List Oper) (st:St) (K K':St->Option ρ),(∀ st',R (l.filterMap (·.dst)) st st'->K st'=some v->K' st'=some v)->QI C ops l st K=some v->QI C ops l st K'=some v:=by
 intro l
 induction l with
 | nil=>intro st K K' hK h;exact hK st (R.refl _ _) h
 | cons o r ih =>
  intro st K K' hK h;have one: ∀ C':Ctx,allT (JU C' ops o st).ok (QI C ops r (apply st o (JU C' ops o st)) K)=some v->allT (JU C' ops o st).ok (QI C ops r (apply st o (JU C' ops o st)) K')=some v:=fun C' h'=>Ae6 h' (ih _ K K' fun st' hr=>hK st' (AfB hr));unfold QI at h ⊢;cases ha:UX C o with
  | none=>rw[ha]at h;exact one C h
  | some q =>
   obtain⟨f,q⟩:=q;rw[ha]at h;dsimp only at h ⊢;cases hb:rW o st q with
   | true=>rw[hb]at h;exact one _ h
   | false=>rw[hb]at h;exact one _ h
def Ad5 {ρ :Type} {W:List Nat} {b st:St} {K:Ex->St->Option ρ} {v: ρ} {id:Nat} (hr:R W b st): ∀(ex:List (Nat×Spe)),ex.all (fun q=>q.2.okI W)=true->bZ ex id b st (oJ ex b K)=some v->K (.exit id) st=some v:=by
 have one: ∀(i:Nat) (sh:Spe),sh.okI W=true->Nat.beq i id=true->sh.enter b st (fun v=>K (.exit i) (sh.emb b v))=some v->K (.exit id) st=some v:=by intro i sh ho hb h;obtain⟨h1,h2⟩:=YB h;rw[Spe.PN h1 ho hr,Dk hb]at h2;exact h2
 intro ex
 induction ex with
 | nil=>intro _ h;cases h
 | cons q r ih =>
  intro ho h;obtain⟨i,sh⟩:=q;simp only[List.all_cons,Dn]at ho;cases r with
  | nil =>
   have h':(match Nat.beq i id with | true=>sh.enter b st (fun v=>K (.exit i) (sh.emb b v)) | false=>none)=some v:=h;cases hb:Nat.beq i id with
   | true=>rw[hb]at h';exact one i sh ho.1 hb h'
   | false=>rw[hb]at h';cases h'
  | cons q r =>
   have h':(match Nat.beq i id with | true=>sh.enter b st (fun v=>K (.exit i) (sh.emb b v)) | false=>bZ (q::r) id b st (oJ (q::r) b K))=some v:=h;cases hb:Nat.beq i id with
   | true=>rw[hb]at h';exact one i sh ho.1 hb h'
   | false =>rw[hb]at h';exact ih (by simpa using ho.2) h'
theorem Afa {ρ :Type} {C:Ctx} {N:Nat} {L:Lk} {fin:St->Option ρ} {v: ρ}: ∀(c:Code),okL L c=true-> ∀(st:St) (K K':Ex->St->Option ρ),(∀ e st',R (writes c) st st'->K e st'=some v->K' e st'=some v)->exe C N L fin c st K=some v->exec C N fin c st K'=some v:=by
 intro c
 induction c with
 | skip=>intro _ st K K' hK h;exact hK _ _ (R.refl _ _) h
 | label l=>intro _ st K K' hK h;exact hK _ _ (R.refl _ _) h
 | ret=>intro _ st K K' hK h;exact h
 | exit id =>intro _ st K K' hK h;obtain⟨st',h1,h2,h3⟩:=Abe ((qB _ _ _ _).symm.trans (show Yb C (4*id+3) st (fun st'=>K (.exit id) st')=some v from h));show Pm C (4*id+3) st (fun st'=>K' (.exit id) st')=some v;rw[h3];exact hK _ _ h1.none h2
 | region id ops d =>
  intro _ st K K' hK h;cases d with
  | false=>exact(Vp h).2 _ fun C h=>Ai9 ops.toList st _ _ (fun st' hr hk=>hK .normal st' hr hk) ((Ahq _ _ _ _ _).symm.trans h)
  | true =>
   refine(Vp h).2 _ fun C h=> ?_;have h':(match Pj C ops.toList st with | true=>Aef C ops.toList ops.toList st (fun st'=>K .normal st') | false=>none)=some v:=by rw[<- Ad0];exact h
   show(bif Pj C ops.toList st then QJ C ops.toList ops.toList st (fun st'=>K' .normal st')else none)=some v;cases hd:Pj C ops.toList st with
   | false=>rw[hd]at h';cases h'
   | true=>rw[hd]at h';exact AhV ops.toList st _ _ (fun st' hr hk=>hK .normal st' hr hk) ((Ahp _ _ _ _ _).symm.trans h')
 | seq x y ihx ihy =>
  intro ho st K K' hK h;have ho':(okL L x&&okL L y&&okJ (writes x) (pX L y))=true:=ho;simp only[Dn]at ho';have hxy: ∀ {e:Ex} {st1 st2:St},R (writes x) st st1->R (writes y) st1 st2->R (writes (.seq x y)) st st2:=fun h1 h2=>(h1.mono (fun t ht=>Dx _ ht)).trans (h2.mono (fun t ht=>Dy _ ht));simp only[exe]at h;show exec C N fin x st _=some v;cases hj:pX L y with
  | none =>
   rw[hj]at h;refine ihx ho'.1.1 st _ _ (fun e st1 hr hk=> ?_) h;cases e with
   | normal =>obtain⟨st2,h1,h2,h3⟩:=dW ((VR _ _ _ _ _).symm.trans hk);show meet C 1 y st1 _=some v;rw[h3];exact ihy ho'.1.2 st2 _ _ (fun e st3 hr' hk'=>hK e st3 (hxy (e:=e) (hr.trans h1.none) hr') hk') h2
   | exit id=>exact hK _ _ (hr.mono (fun t ht=>Dx _ ht)) hk
  | some sh =>
   rw[hj]at h ho';refine ihx ho'.1.1 st _ _ (fun e st1 hr hk=> ?_) (show exe C N L fin x st _=some v from h);cases e with
   | normal =>obtain⟨st2,h1,h2,h3⟩:=dW ((VR _ _ _ _ _).symm.trans hk);show meet C 1 y st1 _=some v;rw[h3];obtain⟨h4,h5⟩:=YB h2;rw[Spe.PN h4 ho'.2 (hr.trans h1.none)]at h5;exact ihy ho'.1.2 st2 _ _ (fun e st3 hr' hk'=>hK e st3 (hxy (e:=e) (hr.trans h1.none) hr') hk') h5
   | exit id=>exact hK _ _ (hr.mono (fun t ht=>Dx _ ht)) hk
 | cond o x y ihx ihy =>
  intro ho st K K' hK h;have ho':(okL L x&&okL L y)=true:=ho;simp only[Dn]at ho'
  have key: ∀ t:Bool,(match t with | true=>exe C N L fin x st K | false=>exe C N L fin y st K)=some v->(bif t then exec C N fin x st K' else exec C N fin y st K')=some v:=by
   intro t ht;cases t with
   | true=>exact ihx ho'.1 st K K' (fun e st' hr=>hK e st' (hr.mono (fun t ht=>Dx _ ht))) ht
   | false=>exact ihy ho'.2 st K K' (fun e st' hr=>hK e st' (hr.mono (fun t ht=>Dy _ ht))) ht
  simp only[exe]at h;simp only[exec];cases he:Kq st.tmps o with
  | bool t=>rw[he]at h;exact key t h
  | cnd g y' =>
   rw[he]at h;cases y' with
   | bool t =>
    cases g with
    | false=>cases h
    | true=>exact key t h
   | _=>cases h
  | _=>rw[he]at h;cases h
 | block id c ih =>
  intro ho st K K' hK h;refine ih ho st _ _ (fun e st' hr hk=> ?_) h;cases e with
  | normal=>exact hK _ _ hr hk
  | exit j =>
   dsimp only at hk ⊢;cases hb:Nat.beq j id with
   | true=>rw[hb]at hk;exact hK _ _ hr hk
   | false=>rw[hb]at hk;exact hK _ _ hr hk
 | loop c ih =>
  intro ho st K K' hK h;have ho':(okL L c&&okX (writes c) (qA L c))=true:=ho;simp only[Dn]at ho';simp only[exe]at h;obtain⟨b,h1,h2,h3⟩:=dW ((VR _ _ _ _ _).symm.trans h);show meet C 2 c st _=some v;rw[h3]
  have roll:iO (RF C 2 c) (exe C N L fin c) N b K=some v->rounds (meet C 2 c) (exec C N fin c) N b K'=some v:=by
   have key: ∀(n:Nat) (st1:St),R (writes c) b st1->iO (RF C 2 c) (exe C N L fin c) n st1 K=some v->rounds (meet C 2 c) (exec C N fin c) n st1 K'=some v:=by
    intro n
    induction n with
    | zero=>intro st1 _ h;cases h
    | succ n ihn =>
     intro st1 hr1 h;refine ih ho'.1 st1 _ _ (fun e st2 hr2 hk=> ?_) h;cases e with
     | normal =>obtain⟨st3,k1,k2,k3⟩:=dW ((VR _ _ _ _ _).symm.trans hk);show meet C 2 c st2 _=some v;rw[k3];exact ihn st3 ((hr1.trans hr2).trans k1.none) k2
     | exit id=>exact hK _ _ ((h1.none.trans hr1).trans hr2) hk
   exact key N b (R.refl _ _)
  cases hl:qA L c with
  | none=>rw[hl]at h2;exact roll h2
  | some q =>
   obtain⟨hd,ex⟩:=q;rw[hl]at h2 ho';dsimp only at h2;cases hfit:(hd.fits b b).all id with
   | false=>rw[hfit]at h2;exact roll h2
   | true =>
   rw[hfit]at h2;have h4:Jv (hd.fits b b):=fun c hc=>DK.1 hfit c hc;have h5:=h2;have ho2:(hd.okI (writes c)&&ex.all (fun q=>q.2.okI (writes c)))=true:=ho'.2;simp only[Dn]at ho2
   have key: ∀(n:Nat) (st1:St),R (writes c) b st1->hd.emb b (hd.un st1)=st1->Jw (fun x k kx=>exe C N L fin c (hd.emb b x) fun
    | .normal,st'=>RF C 2 c st' fun st''=>hd.enter b st'' k
    | .exit id,st'=>bZ ex id b st' kx) n (hd.un st1) (oJ ex b K)=some v->rounds (meet C 2 c) (exec C N fin c) n st1 K'=some v:=by
    intro n
    induction n with
    | zero=>intro st1 _ _ h;cases h
    | succ n ihn =>
     intro st1 hr1 he h;simp only[Jw]at h;rw[he]at h;refine ih ho'.1 st1 _ _ (fun e st2 hr2 hk=> ?_) h;cases e with
     | normal =>obtain⟨st3,k1,k2,k3⟩:=dW ((VR _ _ _ _ _).symm.trans hk);show meet C 2 c st2 _=some v;rw[k3];obtain⟨k4,k5⟩:=YB k2;have hr3:=(hr1.trans hr2).trans k1.none;exact ihn st3 hr3 (Spe.PN k4 ho2.1 hr3) k5
     | exit id =>exact hK _ _ ((h1.none.trans hr1).trans hr2) (Ad5 (hr1.trans hr2) ex ho2.2 hk)
   exact key N b (R.refl _ _) (Spe.PN h4 ho2.1 (R.refl _ _)) h5
 | scope c ih=>intro ho st K K' hK h;exact ih ho st K K' hK h
 | _=>intro _ st K K' hK h;cases h
def AgN:ResultVar->Nat×Option Nat
 | .tmp t=>(t,none)
 | .cell a t=>(a,some t)
structure Inf where
 Jp:List Sh
 Jz:List Sh
 gs:List (Nat×Sig)
 ns:List (Nat×Nrm)
 L:Lk
def TK (fn:Func):Code:=fn.body.getD .skip
def Oa (fn:Func):List (Nat×Option Nat):=fn.results.toList.map AgN
noncomputable def Aen {ρ :Type} (N:Nat) (C:Ctx) (L:Lk) (Jp:List Sh) (fn:Func) (fin:St->Option ρ) (a:ShT Jp):Option ρ :=
 allH ((Ko 0 256 Jp (encs Jp a) 0).1++[nodup ((Ko 0 256 Jp (encs Jp a) 0).2.2.map (·.1)),!(has ((Ko 0 256 Jp (encs Jp a) 0).2.2.map (·.1)) 255)])
  (exe C N L fin (TK fn) (iH Jp (encs Jp a) fn.ntmps) (fun
    | .normal,st=>fin st
    | .exit _,_=>none))
noncomputable def AbH (N:Nat) (C:Ctx) (L:Lk) (Jp Jz:List Sh) (fn:Func) (a:ShT Jp):Option (ShT (La Jp Jz)):=Aen N C L Jp fn (Us C Jp Jz (Oa fn)) a
theorem Aht (r:ResultVar):rv (AgN r)=r:=by cases r<;>rfl
def iK (fn:Func):fn.results=((Oa fn).map rv).toArray:=by grind[Oa,rv,AgN,Aht]
theorem Ahe {α :Type} {l:List Bool} {x:Option α} (h:Jv l):allT l x=x:=by
 induction l with
 | nil=>rfl
 | cons c cs ih=>simp_all[Jv,allT]
def VF (L:Lk) (fn:Func):Bool:=fn.body.isSome&&(!(fn.name== "runtime.NumGoroutine")&&okL L (TK fn))
def gK {ρ :Type} {N:Nat} {C:Ctx} {L:Lk} {Jp:List Sh} {fn:Func} {fin:St->Option ρ} {a:ShT Jp} {r: ρ} (hn:okL L (TK fn)=true) (h:Aen N C L Jp fn fin a=some r):runK C N Jp fn.ntmps (TK fn) fin (encs Jp a)=some r:=by grind[PL,XF,allH,runK,Ahe,Afa,Sh,ShT,okL,TK,Aen,encs]
def dB {L:Lk} {fn:Func} (hn:VF L fn=true):fn.body=some (TK fn)/\(fn.name== "runtime.NumGoroutine")=false/\okL L (TK fn)=true:=by unfold VF at hn;simp only[Dn,Eo]at hn;obtain⟨code,hc⟩:=Ei.1 hn.1;exact⟨by unfold TK;rw[hc];rfl,hn.2⟩
def O9 {P:Program} {C:Ctx} {L:Lk} {N:Nat} (hC:Md P C) {f:FuncId} {fn:Func} {Jp Jz:List Sh} {g:ShT Jp->Option (ShT (La Jp Jz))} (hf:P.funcs[f]? =some fn:=by kernel_rfl) (hn:VF L fn=true:=by kernel_rfl)
 (hF: ∀ a,AbH N C L Jp Jz fn a=g a:=by intro a;kernel_rfl):Spec P f (Sig.of Jp Jz g):=by
 obtain⟨hb,h1,h2⟩:=dB hn;exact Sv (fin:=Us C Jp Jz (Oa fn)) hC N hf hb h1 (iK fn) (fun a o h=>⟨o,gK h2 ((hF a).trans h),fun st h=>h⟩)
def gU {P:Program} {C:Ctx} (hC:Md P C) {f:FuncId} {fn:Func} {Jp Jz:List Sh} (hf:P.funcs[f]? =some fn:=by kernel_rfl) (hn:VF ⟨[],[]⟩ fn=true:=by kernel_rfl):Spec P f (Sig.of Jp Jz fun _=>none):=by obtain⟨hb,h1,h2⟩:=dB hn;exact Sv (fin:=Us C Jp Jz (Oa fn)) hC 0 hf hb h1 (iK fn) (fun a o h=>by cases h)
def AhQ (C:Ctx) (r1:List Sh) (outs:List (Nat×Option Nat)) (st:St):Bool:=(r1.zip outs).any fun q=>(match q.1 with | .box _=>true | _=>false)&&(lU C st q.2).2.VK
noncomputable def AaE (C:Ctx) (Jp r1 r2:List Sh) (outs:List (Nat×Option Nat)) (st:St):Option (ShT (La Jp r1) ⊕ ShT (La Jp r2)) :=
 match AhQ C r1 outs st with
 | true=>(Us C Jp r2 outs st).map .inr
 | false=>(Us C Jp r1 outs st).map .inl
noncomputable def AgC (N:Nat) (C:Ctx) (L:Lk) (Jp r1 r2:List Sh) (fn:Func) (a:ShT Jp):Option (ShT (La Jp r1) ⊕ ShT (La Jp r2)):=Aen N C L Jp fn (AaE C Jp r1 r2 (Oa fn)) a
noncomputable def Alt.of (Jp r1 r2:List Sh) (g:ShT Jp->Option (ShT (La Jp r1) ⊕ ShT (La Jp r2))):Alt :=
 (Sig.of Jp r1 (fun a=>AhI (g a)),Sig.of Jp r2 (fun a=>AhJ (g a)),fun xs=>match Rq Jp xs with
   | some a=>AhN (g a)
   | none=>true)
def Yv {P:Program} {C:Ctx} {L:Lk} {N:Nat} (hC:Md P C) {f:FuncId} {fn:Func} {Jp r1 r2:List Sh} {g:ShT Jp->Option (ShT (La Jp r1) ⊕ ShT (La Jp r2))} (hf:P.funcs[f]? =some fn) (hn:VF L fn=true)
 (hF: ∀ a,AgC N C L Jp r1 r2 fn a=g a):Spec P f (Alt.of Jp r1 r2 g).1/\Spec P f (Alt.of Jp r1 r2 g).2.1:=by
 obtain⟨hb,h1,h2⟩:=dB hn;constructor
 .refine Sv (fin:=AaE C Jp r1 r2 (Oa fn)) hC N hf hb h1 (iK fn) (fun a o h=>⟨.inl o,gK h2 ((hF a).trans ?_),fun st h=> ?_⟩)
  .cases hg:g a with
   | none=>rw[hg]at h;cases h
   | some r=>rw[hg]at h;cases r with | inl x=>injection h with h;rw[h] | inr x=>cases h
  .unfold AaE at h;split at h
   .cases hq:Us C Jp r2 (Oa fn) st with
    | none=>rw[hq]at h;cases h
    | some r=>rw[hq]at h;injection h with h;cases h
   .cases hq:Us C Jp r1 (Oa fn) st with
    | none=>rw[hq]at h;cases h
    | some r=>grind[Sh,ShT,La,VF,AgC,Spec]
 .refine Sv (fin:=AaE C Jp r1 r2 (Oa fn)) hC N hf hb h1 (iK fn) (fun a o h=>⟨.inr o,gK h2 ((hF a).trans ?_),fun st h=> ?_⟩)
  .cases hg:g a with
   | none=>rw[hg]at h;cases h
   | some r=>rw[hg]at h;cases r with | inr x=>injection h with h;rw[h] | inl x=>cases h
  .unfold AaE at h;split at h
   .cases hq:Us C Jp r2 (Oa fn) st with
    | none=>rw[hq]at h;cases h
    | some r=>grind[Sh,ShT,La,VF,AgC,Spec]
   .cases hq:Us C Jp r1 (Oa fn) st with
    | none=>rw[hq]at h;cases h
    | some r=>rw[hq]at h;injection h with h;cases h
end Go.Proofs.YtpaimpmokhihmaaGreatDoor.Vm
namespace Go.Proofs.YtpaimpmokhihmaaGreatDoor.Vm
structure Kn (P:Program) where
 f:Nat
 S:Sig
 h:Spec P f S
noncomputable def ksp {P:Program} (ks:List (Kn P)):List (Nat×Sig):=ks.map fun k=>(k.f,k.S)
def Rz {P:Program}: ∀ ks:List (Kn P),iF P (ksp ks)
 | []=>trivial
 | k::r=>⟨k.h,Rz r⟩
noncomputable def kn {P:Program} (f:Nat) (Jp Jz:List Sh) (g:ShT Jp->Option (ShT (La Jp Jz))) (ks:List (Kn P)) (ns:List (Nat×Nrm)) (L:Lk) (fn:Func) (N:Nat) (aa:List (Nat×Alt):=[]) (dd:List (Nat×(Nat->Sig)):=[]) (cc bb:List Nat:=[]) (ss:List (Nat×Nat×Nat×List Nat):=[]) (kk:List (Nat×List (Nat×Nat)):=[]) (hA:rU P aa:=by trivial) (hD:kV P dd:=by trivial) (hf:P.funcs[f]? =some fn:=by kernel_rfl) (hn:VF L fn=true:=by kernel_rfl) (hF: ∀ a,AbH N (ctx P (ksp ks) ns aa dd cc bb ss kk) L Jp Jz fn a=g a:=by intro a;kernel_rfl):Kn P :=
 ⟨f,.of Jp Jz g,O9 (OG (Rz ks) hA hD) hf hn hF⟩
open Go.RowKit
def Moves.below {T:Nat->Prop} {w w':World} (h:Moves (fun _ _=>none) T w w'):Below w.heap.size w w' :=
 ⟨h.os,h.tape,h.output,h.size,fun b hb=>by
   rcases h.blk b hb with e | ⟨c,c',e,fr,_,_,_,_,k,o,_,ho,_⟩ | ⟨_,_,_,_,o,_,_,ho,_⟩
   .exact e
   .cases ho
   .cases ho⟩
def Sig.AhS {Jp Jz:List Sh} {f:ShT Jp->Option (ShT (La Jp Jz))} {xs:List A} {a:ShT Jp} {o:ShT (La Jp Jz)} (hd:Rq Jp xs=some a) (hf:f a=some o):(Sig.of Jp Jz f).F xs=some (encs (La Jp Jz) o):=by unfold Sig.F Sig.of;dsimp only;rw[hd];dsimp only;rw[hf];rfl
def Afq {P:Program} {f:FuncId} {sg:Sig} (h:Spec P f sg) {xs:List A} {vs:Array Value} {W:World} (hF:sg.F xs=some [.bool true]) (hress:sg.Jz=[.cell false .bool]) (hv:vs.size=xs.length) (hl:xs.length=sg.Jp.length) (h100:xs.length<=100)
 (hx: ∀ j,j<xs.length->IR (fun _ _=>none) W (256*j) (vs.getD j undef) (xs.getD j .undef)) (hI:Inv (fun _ _=>none) W):Calls P f vs W fun e w'=>e= .returned (.bool true)/\Below W.heap.size W w':=by
 refine(h.2 (fun _ _=>none) W vs xs _ hI hv hl h100 hx hF).mono fun e w' hq=> ?_;obtain⟨v,O',he,hc⟩:=hq;obtain⟨us,h1,h2,h3⟩:=hc.res;rw[hress]at h1;have h1':us.size=1:=h1;have h4:Jt O' w' (us.getD 0 undef) (.bool true):=h3 0 (by omega);have h5:us.getD 0 undef= .bool true:=by generalize us.getD 0 undef=z at h4;cases h4;rfl
 have h6:v= .bool true:=by rw[h2,dif_pos h1',<- h5];simp [Dj,h1']
 exact⟨by rw[he,h6],hc.moves.below⟩
end Go.Proofs.YtpaimpmokhihmaaGreatDoor.Vm
