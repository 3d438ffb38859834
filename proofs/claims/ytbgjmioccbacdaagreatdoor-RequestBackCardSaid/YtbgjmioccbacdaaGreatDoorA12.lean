import Derived.Test.YtbgjmioccbacdaaGreatDoorA10
import Derived.Test.YtbgjmioccbacdaaGreatDoorProg
import Derived.Defers
import Derived.BigQuiet
import Derived.Lib.Walk
import Derived.Outline
set_option linter.all false
namespace Go.Proofs.YtbgjmioccbacdaaGreatDoor.Vm
open Classical
noncomputable def allH {α :Type} (l:List Bool) (r:Option α):Option α :=
 (fun(_:Nat)=>List.rec (motive:=fun _=>Option α) r (fun c _ ih=>Bool.rec (motive:=fun _=>Option α) none ih c) l) Ab6
theorem XT {α :Type}: ∀(l:List Bool) (r:Option α),allH l r=allT l r:=by
 intro l
 induction l with
 | nil=>intro r;rfl
 | cons c cs ih=>intro r;cases c<;>first | rfl | exact ih r
noncomputable def uX {α β :Type} (l:List α):(List α -> β)-> β :=
 (fun(_:Nat)=>List.rec (motive:=fun _=>(List α -> β)-> β) (fun k=>k []) (fun a _ ih k=>ih (fun l'=>k (a::l'))) l) Ab6
def uY {α β :Type}: ∀(l:List α) (k:List α -> β),uX l k=k l:=by
 intro l
 induction l with
 | nil=>intro k;rfl
 | cons a r ih=>simp_all[uX]
noncomputable def uZ {β :Type} (st:St) (k:St-> β): β :=uX st.tmps fun tm=>uX st.Jp fun ob=>k ⟨tm,ob⟩
def vC {β :Type} (st:St) (k:St-> β):uZ st k=k st:=by unfold uZ;rw[uY,uY]
def Ak1 {ρ :Type} (v:A) (k:A->Option ρ):Option ρ :=match v with
 | .bool b=>Jy b fun b=>k (.bool b)
 | .cnd g (.bool b)=>Jy b fun b=>k (.cnd g (.bool b))
 | v=>k v
def Ape {ρ :Type} (v:A) (k:A->Option ρ):Ak1 v k=k v:=by unfold Ak1;split<;>rfl
def bnd (C:Ctx) (o:Oper):Bool:=match o.dst with
 | some d=>has C.binds d
 | none=>false
noncomputable def goV {α :Type} (C:Ctx) (o:Oper) (st:St) (δ :Dl) (k:St->Option α):Option α :=match bnd C o with
 | true=>Ak1 δ.val fun v=>uZ (apply st o {δ with val:=v}) k
 | false=>uZ (apply st o δ) k
theorem Ahh {α :Type} (C:Ctx) (o:Oper) (st:St) (δ :Dl) (k:St->Option α):goV C o st δ k=k (apply st o δ):=by
 unfold goV;cases bnd C o with
 | true=>exact(Ape _ _).trans (vC _ _)
 | false=>exact vC _ _
noncomputable def opsE {α :Type} (C:Ctx) (ops l:List Oper):St->(St->Option α)->Option α :=
 (fun(_:Nat)=>List.rec (motive:=fun _=>St->(St->Option α)->Option α) (fun st K=>K st) (fun o _ ih st K=>match Zw C o with
   | none=>allH (KE C ops o st).ok (goV C o st (KE C ops o st) fun st'=>ih st' K)
   | some (f,q)=>match Ad5 o st q with
    | true=>allH (KE (C.put f q.1) ops o st).ok (ih (apply st o (KE (C.put f q.1) ops o st)) K)
    | false=>allH (KE (C.put f q.2.1) ops o st).ok (ih (apply st o (KE (C.put f q.2.1) ops o st)) K)) l) Ab6
def AjY {α :Type} (C:Ctx) (ops:List Oper): ∀(l:List Oper) (st:St) (K:St->Option α),opsE C ops l st K=VD C ops l st K:=by
 intro l
 induction l with
 | nil=>intro st K;rfl
 | cons o r ih =>
  intro st K
  show(match Zw C o with
   | none=>allH (KE C ops o st).ok (goV C o st (KE C ops o st) fun st'=>opsE C ops r st' K)
   | some (f,q)=>match Ad5 o st q with
    | true=>allH (KE (C.put f q.1) ops o st).ok (opsE C ops r (apply st o (KE (C.put f q.1) ops o st)) K)
    | false=>allH (KE (C.put f q.2.1) ops o st).ok (opsE C ops r (apply st o (KE (C.put f q.2.1) ops o st)) K))=_
  unfold VD;cases Zw C o with
  | none=>grind[XT,Ahh]
  | some q =>obtain⟨f,q⟩:=q;dsimp only;cases Ad5 o st q<;>(dsimp only[cond_true,cond_false];rw[XT,ih])
noncomputable def AlN {α :Type} (C:Ctx) (ops l:List Oper) (st:St) (K:St->Option α):Option α :=
 match aP l with
 | some e=>ZT C e.cs st fun st=>allH (yE C e (MH e.v st)).ok (goV C e.o (MH e.v st) (yE C e (MH e.v st)) fun st'=>opsE C ops e.rest st' K)
 | none=>opsE C ops l st K
def ApS {α :Type} (C:Ctx) (ops l:List Oper) (st:St) (K:St->Option α):AlN C ops l st K=oK C ops l st K:=by
 unfold AlN oK;cases aP l with
 | none=>exact AjY C ops l st K
 | some e =>dsimp only;congr 1;funext st;rw[XT,Ahh];congr 1;exact AjY C ops e.rest _ K
noncomputable def AlP {α :Type} (C:Ctx) (ops l:List Oper):St->(St->Option α)->Option α :=
 (fun(_:Nat)=>List.rec (motive:=fun _=>St->(St->Option α)->Option α) (fun st K=>K st) (fun o _ ih st K=>allH (KE C ops o st).ok (goV C o st (KE C ops o st) fun st'=>ih st' K)) l) Ab6
def Asd {α :Type} (C:Ctx) (ops:List Oper): ∀(l:List Oper) (st:St) (K:St->Option α),AlP C ops l st K=VE C ops l st K:=by
 intro l
 induction l with
 | nil=>intro st K;rfl
 | cons o r ih =>intro st K;show allH _ (goV C o st _ fun st'=>AlP C ops r st' K)=allT _ (VE C ops r _ K);rw[XT,Ahh,ih]
noncomputable def Acn (C:Ctx) (ops:List Oper):List Oper->List (List Nat)->St->List Lm
 | [],_,_=>[]
 | o::r,acc,st=>match KE C ops o st,(Xo o).flatMap (fun e=>e::acc.getD e [])with
  | δ,an=>⟨o,δ,LH o st (Kz o st),oneOf C o.op (Kz o st),an⟩::uZ (apply st o δ) fun st'=>Acn C ops r (acc++[an]) st'
def An2 (C:Ctx) (ops:List Oper): ∀(l:List Oper) (acc:List (List Nat)) (st:St),Acn C ops l acc st=Uw C ops l acc st:=by
 intro l
 induction l with
 | nil=>intro acc st;rfl
 | cons o r ih =>intro acc st;unfold Acn Uw;dsimp only;rw[vC,ih]
noncomputable def Aku:List Oper->List Nat->List Nat
 | [],_=>[]
 | o::r,acc=>(Xo o).foldr (fun e m=>((2 ^ e) ||| acc.getD e 0) ||| m) 0::uX (acc++[(Xo o).foldr (fun e m=>((2 ^ e) ||| acc.getD e 0) ||| m) 0]) fun acc'=>Aku r acc'
def AcU (ops:List Oper) (i:Nat) (x:Lm):List Lm->List Nat->Bool
 | [],_=>true
 | y::r,b=>(Uo y.news x.says&&Uo y.news x.keys&&((b.headD 0).testBit i||indep ops x y))&&AcU ops i x r b.tail
def AcT (ops:List Oper):Nat->List Lm->List Nat->Bool
 | _,[],_=>true
 | i,x::r,b=>AcU ops i x r b.tail&&AcT ops (i+1) r b.tail
def yU:List Lm->List Nat->Prop
 | [],_=>True
 | y::r,b=>(∀ i,has y.anc i=(b.headD 0).testBit i)/\yU r b.tail
theorem Aoo (ops:List Oper) (i:Nat) (x:Lm): ∀(r:List Lm) (b:List Nat),yU r b->AcU ops i x r b=r.all (YU ops i x):=by
 intro r
 induction r with
 | nil=>intro b _;rfl
 | cons y r ih=>grind[AcU,yU,YU]
def Aon (ops:List Oper): ∀(r:List Lm) (i:Nat) (b:List Nat),yU r b->AcT ops i r b=ZR ops i r:=by
 intro r
 induction r with
 | nil=>intro i b _;rfl
 | cons x r ih=>grind[AcT,ZR,Aoo,yU]
def AbM (acc:List (List Nat)) (accB:List Nat) (h: ∀ e i,has (acc.getD e []) i=(accB.getD e 0).testBit i) (i:Nat): ∀ es:List Nat,has (es.flatMap fun e=>e::acc.getD e []) i=(es.foldr (fun e m=>((2 ^ e) ||| accB.getD e 0) ||| m) 0).testBit i:=by
 intro es
 induction es with
 | nil=>grind[has]
 | cons e r ih =>
  rw[FD,List.foldr_cons,Nat.testBit_or,Nat.testBit_or,Nat.testBit_two_pow,<- ih,<- h e i]
  have hb:Nat.beq i e=decide (e=i):=by
   by_cases hh:e=i
   .simp_all[has]
   .rw[DV hh];apply Bool.eq_false_iff.2;intro h;exact hh (Dp h).symm
  all_goals grind[has]
def Amg (C:Ctx) (ops:List Oper): ∀(l:List Oper) (acc:List (List Nat)) (accB:List Nat) (st:St),acc.length=accB.length->(∀ e i,has (acc.getD e []) i=(accB.getD e 0).testBit i)->yU (Uw C ops l acc st) (Aku l accB):=by
 intro l
 induction l with
 | nil=>intro acc accB st _ _;trivial
 | cons o r ih =>
  intro acc accB st hl h;unfold Uw Aku;dsimp only;rw[uY];refine⟨fun i=>AbM acc accB h i _,ih _ _ _ (by simp [hl]) fun e i=> ?_⟩;rcases Nat.lt_trichotomy e acc.length with he | he | he
  .rw[Dj,Dj,Em he,Em (by omega),<- Dj,<- Dj];exact h e i
  .rw[Dj,Dj,E5 (by omega),E5 (by omega),show e - acc.length=0 by omega,show e - accB.length=0 by omega];exact AbM acc accB h i _
  .rw[Dj,Dj,DZ (by simp;omega),DZ (by simp;omega)];show false=Nat.testBit 0 i;rw[IL]
noncomputable def AdS (C:Ctx) (ops:List Oper) (st:St):Bool :=
 match Acn C ops ops [] st with
 | fs=>ordered ops&&AcT ops 0 fs (Aku ops [])&&(fs.flatMap Lm.news).all st.fresh&&sorted st.Jp
def AkN (C:Ctx) (ops:List Oper) (st:St):AdS C ops st=Tu C ops st:=by unfold AdS Tu;rw[An2];dsimp only;rw[Aon _ _ _ _ (Amg C ops ops [] [] st rfl fun e i=>by show false=Nat.testBit 0 i;rw[IL])]
def kX {ρ :Type} (C:Ctx) (key:Nat) (st:St) (K:St->Option ρ):Option ρ :=
 match norm C key st with
 | (ok,st')=>match ok with
  | true=>K st'
  | false=>none
theorem AcI {ρ :Type} (C:Ctx) (key:Nat) (st:St) (K:St->Option ρ):kX C key st K=Ue C key st K:=by unfold kX Ue;generalize norm C key st=q;obtain⟨ok,st'⟩:=q;cases ok<;>rfl
def Xx {ρ :Type} (C:Ctx) (kind:Nat) (c:Code) (st:St) (K:St->Option ρ):Option ρ :=
 match MJ c with
 | some n=>kX C (4*n+kind) st K
 | none=>(fun(_:Nat)=>K st) Ab6
def bI {ρ :Type} (C:Ctx) (kind:Nat) (c:Code) (st:St) (K:St->Option ρ):Xx C kind c st K=meet C kind c st K:=by grind[Xx,meet,MJ,AcI]
inductive HK where
 | b | i (k:IntKind) | s | l (t:Ty) | ln (t:Ty) | n | m (kt vt:Ty)
def HK.T:HK->Type
 | .b=>Bool
 | .i _=>Int
 | .s=>List UInt8
 | .l t=>List t.Val
 | .ln t=>List t.Val
 | .n=>Nat
 | .m kt vt=>List (kt.Val×vt.Val)
def HK.enc:(h:HK)->h.T->A
 | .b,v=>.bool v
 | .i k,v=>.int k v
 | .s,v=>.str v
 | .l t,v=>.sl ⟨t,v⟩
 | .ln t,v=>.sln ⟨t,v⟩
 | .n,v=>.fn v
 | .m kt vt,v=>.ump ⟨kt,vt,v⟩
def AqS:A->Nat | .fn n=>n | _=>0
def isFn:A->Bool | .fn _=>true | _=>false
def HK.is:HK->A->Bool
 | .b,a=>a.isB
 | .i k,a=>a.isI k
 | .s,a=>a.isS
 | .l t,a=>a.AaU t
 | .ln t,a=>a.nZ t
 | .n,a=>isFn a
 | .m kt vt,a=>a.dZ kt vt
def HK.dec:(h:HK)->A->h.T
 | .b,a=>a.toB
 | .i _,a=>a.toI
 | .s,a=>a.toS
 | .l t,a=>(a.toL.cast t).getD []
 | .ln t,a=>(a.toL.cast t).getD []
 | .n,a=>AqS a
 | .m kt vt,a=>(a.toM.cast kt vt).getD []
def HK.AdV {h:HK} {a:A} (ha:h.is a=true):h.enc (h.dec a)=a:=by
 cases h with
 | b=>cases a<;>first | rfl | cases ha
 | i k =>
  cases a<;>first
   | (rename_i k' n;have:=A.Rq (show A.kEq k k'=true from ha);subst this;rfl)
   | cases ha
 | s=>cases a<;>first | rfl | cases ha
 | l t =>
  cases a<;>first
   | (rename_i l
      have e:l.t=t:=D5 ha;obtain⟨t',xs⟩:=l;dsimp only at e;subst e;show A.sl ⟨t',((Sl.cast ⟨t',xs⟩ t').getD [])⟩=_;rw[Sl.YD];rfl)
   | cases ha
 | ln t =>
  cases a<;>first
   | (rename_i l
      have e:l.t=t:=D5 ha;obtain⟨t',xs⟩:=l;dsimp only at e;subst e;show A.sln ⟨t',((Sl.cast ⟨t',xs⟩ t').getD [])⟩=_;rw[Sl.YD];rfl)
   | cases ha
 | n=>cases a<;>first | rfl | cases ha
 | m kt vt =>obtain⟨l,rfl,h1,h2⟩:=bG (show A.dZ kt vt a=true from ha);obtain⟨k,v,xs⟩:=l;dsimp only at h1 h2;subst h1;subst h2;show A.ump ⟨k,v,((Mp.cast ⟨k,v,xs⟩ k v).getD [])⟩=_;rw[Mp.YD];rfl
def pr2 (α β :Type):List HK->Type
 | []=> α
 | _::_=> α × β
def HV:List HK->Type
 | []=>Unit
 | h::r=>pr2 h.T (HV r) r
def hdH (h:HK):(r:List HK)->pr2 h.T (HV r) r->h.T
 | [],v=>v
 | _::_,v=>v.1
def tlH (h:HK):(r:List HK)->pr2 h.T (HV r) r->HV r
 | [],_=>()
 | _::_,v=>v.2
def mkH (h:HK):(r:List HK)->h.T->HV r->pr2 h.T (HV r) r
 | [],a,_=>a
 | _::_,a,b=>(a,b)
def Ati (h:HK) (r:List HK) (a:h.T) (b:HV r):hdH h r (mkH h r a b)=a:=by cases r<;>rfl
def Aui (h:HK) (r:List HK) (a:h.T) (b:HV r):tlH h r (mkH h r a b)=b:=by cases r<;>rfl
def HV.enc:(hs:List HK)->HV hs->List A
 | [],_=>[]
 | h::r,v=>h.enc (hdH h r v)::HV.enc r (tlH h r v)
def HV.dec:(hs:List HK)->List A->HV hs
 | [],_=>()
 | h::r,xs=>mkH h r (h.dec (xs.headD .undef)) (HV.dec r xs.tail)
def HV.Is:List HK->List A->Prop
 | [],[]=>True
 | h::r,x::xs=>h.is x=true/\HV.Is r xs
 | _,_=>False
def HV.AdV: ∀(hs:List HK) (xs:List A),HV.Is hs xs->HV.enc hs (HV.dec hs xs)=xs:=by
 intro hs
 induction hs with
 | nil=>intro xs h;cases xs with | nil=>rfl | cons _ _=>cases h
 | cons h r ih =>
  intro xs hx;cases xs with
  | nil=>cases hx
  | cons x xs =>show h.enc (hdH h r (mkH h r (h.dec x) (HV.dec r xs)))::HV.enc r (tlH h r (mkH h r (h.dec x) (HV.dec r xs)))=_;rw[Ati,Aui,HK.AdV hx.1,ih xs hx.2]
def HV.Is.append: ∀ {hs hs':List HK} {xs ys:List A},HV.Is hs xs->HV.Is hs' ys->HV.Is (hs++hs') (xs++ys):=by
 intro hs
 induction hs with
 | nil=>intro hs' xs ys h h';cases xs with | nil=>exact h' | cons _ _=>cases h
 | cons h r ih=>intro hs' xs ys hx h';cases xs with | nil=>cases hx | cons x xs=>exact⟨hx.1,ih hx.2 h'⟩
def HV.Is.length: ∀ {hs:List HK} {xs:List A},HV.Is hs xs->xs.length=hs.length:=by
 intro hs
 induction hs with
 | nil=>intro xs h;cases xs with | nil=>rfl | cons _ _=>cases h
 | cons h r ih=>intro xs hx;cases xs with | nil=>cases hx | cons x xs=>simp [ih hx.2]
inductive Pc where
 | h (k:HK) | oe (o off:Nat) | c (a:A)
inductive Pt where
 | i | c (p:Pc) | agg (l:List Pc) | elt (l:List Pc)
inductive Po where
 | box (l:List Pc) | arr (e:Nat) (frz:Bool) (t:Ty) | JX (e:Nat) (frz:Bool) (t:Ty) | mp (kt vt:Ty)
structure Spe where
 ts:List (Nat×Pt)
 os:List (Nat×Po)
def Uk:A->Bool | .undef=>true | _=>false
def VK (a:A):Bool:=a.ids.isEmpty&& !(kS a)
def same:A->A->Bool
 | .undef,.undef=>true
 | .Lj,.Lj=>true
 | .LP,.LP=>true
 | .bool a,.bool b=>a==b
 | .int k a,.int k' b=>A.kEq k k'&&a==b
 | .str a,.str b=>a==b
 | .sl l,.sl l'=>decide (l.t=l'.t)&&(l.xs.isEmpty&&l'.xs.isEmpty)
 | .ptr o p,.ptr o' p'=>Nat.beq o o'&&Nat.beq p p'
 | .own o,.own o'=>Nat.beq o o'
 | .Kq o i p,.Kq o' i' p'=>Nat.beq o o'&&(Nat.beq i i'&&Nat.beq p p')
 | .fn f,.fn f'=>Nat.beq f f'
 | .clo f o,.clo f' o'=>Nat.beq f f'&&Nat.beq o o'
 | .bsl o n,.bsl o' n'=>Nat.beq o o'&&Nat.beq n n'
 | .osl o n,.osl o' n'=>Nat.beq o o'&&Nat.beq n n'
 | _,_=>false
def same_eq {a b:A} (h:same a b=true):a=b:=by
 unfold same at h;split at h
 .rfl
 .rfl
 .rfl
 .rw[FY h]
 .grind[A.Rq]
 .rw[FY h]
 .rename_i l l';simp only[Dq,DJ,Fg]at h;obtain⟨t,xs⟩:=l;obtain⟨t',xs'⟩:=l';all_goals grind[same]
 all_goals simp_all[same]
namespace Pc
def hs:Pc->List HK
 | .h k=>[k]
 | .oe _ _=>[.n]
 | .c _=>[]
def nh:Pc->Nat
 | .c _=>0
 | _=>1
def emb:Pc->List A->A
 | .h _,xs=>xs.headD .undef
 | .oe o off,xs=>.Kq o (AqS (xs.headD .undef)) off
 | .c a,_=>a
def un:Pc->A->List A
 | .h _,a=>[a]
 | .oe _ _,.Kq _ i _=>[.fn i]
 | .oe _ _,_=>[.fn 0]
 | .c _,_=>[]
def fits:Pc->A->List Bool
 | .h k,a=>[k.is a]
 | .oe o off,.Kq o' _ off'=>[Nat.beq o o',Nat.beq off off']
 | .oe _ _,_=>[false]
 | .c x,a=>[same x a]
def UF {p:Pc} {a:A} (h:J5 (p.fits a)) (r:List A):p.emb (p.un a++r)=a/\(p.un a++r).drop p.nh=r/\HV.Is p.hs (p.un a):=by
 cases p with
 | h k=>exact⟨rfl,rfl,h.cons.1,trivial⟩
 | oe o off =>
  cases a<;>first
   | (have h1:=h.cons.1;have h2:=h.cons.2.cons.1
      rw[Dp h1,Dp h2];exact⟨rfl,rfl,rfl,trivial⟩)
   | exact absurd h.cons.1 (by decide)
 | c x=>exact⟨same_eq h.cons.1,rfl,trivial⟩
end Pc
def hsC:List Pc->List HK
 | []=>[]
 | p::r=>p.hs++hsC r
def nhC:List Pc->Nat
 | []=>0
 | p::r=>p.nh+nhC r
def AdT:List Pc->List A->List A
 | [],_=>[]
 | p::r,xs=>p.emb xs::AdT r (xs.drop p.nh)
def unC:List Pc->List A->List A
 | p::r,a::aa=>p.un a++unC r aa
 | _,_=>[]
def Acl:List Pc->List A->List Bool
 | [],[]=>[]
 | p::r,a::aa=>p.fits a++Acl r aa
 | _,_=>[false]
def AdU: ∀(l:List Pc) (aa:List A),J5 (Acl l aa)-> ∀ r,AdT l (unC l aa++r)=aa/\(unC l aa++r).drop (nhC l)=r/\HV.Is (hsC l) (unC l aa):=by
 intro l
 induction l with
 | nil=>intro aa h r;cases aa with | nil=>exact⟨rfl,rfl,trivial⟩ | cons _ _=>exact absurd h.cons.1 (by decide)
 | cons p l ih =>
  intro aa h r;cases aa with
  | nil=>exact absurd h.cons.1 (by decide)
  | cons a aa =>
   obtain⟨h1,h2⟩:=h.append;obtain⟨e1,e2,e3⟩:=p.UF h1 (unC l aa++r);obtain⟨f1,f2,f3⟩:=ih aa h2 r;refine⟨?_,?_,e3.append f3⟩
   .grind[unC,AdT,drop]
   .show((p.un a++unC l aa)++r).drop (p.nh+nhC l)=_;rw[Eg,<- Gx,e2,f2]
namespace Pt
def hs:Pt->List HK
 | .i=>[]
 | .c p=>p.hs
 | .agg l=>hsC l
 | .elt l=>hsC l
def nh:Pt->Nat
 | .i=>0
 | .c p=>p.nh
 | .agg l=>nhC l
 | .elt l=>nhC l
def emb:Pt->A->List A->A
 | .i,b,_=>b
 | .c p,_,xs=>p.emb xs
 | .agg l,_,xs=>.agg (AdT l xs)
 | .elt l,_,xs=>.elt (AdT l xs)
def un:Pt->A->List A
 | .i,_=>[]
 | .c p,a=>p.un a
 | .agg l,.agg cs=>unC l cs
 | .elt l,.elt cs=>unC l cs
 | _,_=>[]
def fits:Pt->A->A->List Bool
 | .i,b,a=>[VK b,!(Uk a)]
 | .c p,_,a=>p.fits a
 | .agg l,_,.agg cs=>Acl l cs
 | .elt l,_,.elt cs=>Acl l cs
 | _,_,_=>[false]
def isI:Pt->Bool | .i=>true | _=>false
def UF {p:Pt} {b a:A} (h:J5 (p.fits b a)) (hi:p= .i->VK b=true->Uk a=false->a=b) (r:List A):p.emb b (p.un a++r)=a/\(p.un a++r).drop p.nh=r/\HV.Is p.hs (p.un a):=by
 cases p with
 | i =>refine⟨(hi rfl h.cons.1 ?_).symm,rfl,trivial⟩;have:=h.cons.2.cons.1;simpa using this
 | c p=>exact p.UF h r
 | agg l =>
  cases a<;>first
   | (obtain⟨h1,h2,h3⟩:=AdU l _ h r;exact⟨congrArg A.agg h1,h2,h3⟩)
   | exact absurd h.cons.1 (by decide)
 | elt l =>
  cases a<;>first
   | (obtain⟨h1,h2,h3⟩:=AdU l _ h r;exact⟨congrArg A.elt h1,h2,h3⟩)
   | exact absurd h.cons.1 (by decide)
end Pt
def hsT:List (Nat×Pt)->List HK
 | []=>[]
 | (_,p)::r=>p.hs++hsT r
def nhT:List (Nat×Pt)->Nat
 | []=>0
 | (_,p)::r=>p.nh+nhT r
def nG:List A->Nat->List (Nat×Pt)->List A->List A
 | [],_,_,_=>[]
 | _::bs,i,[],xs=>.undef::nG bs (i+1) [] xs
 | b::bs,i,(j,p)::ts,xs=>bif Nat.beq i j then p.emb b xs::nG bs (i+1) ts (xs.drop p.nh)else .undef::nG bs (i+1) ((j,p)::ts) xs
def unT:List A->Nat->List (Nat×Pt)->List A
 | [],_,_=>[]
 | _::_,_,[]=>[]
 | a::aa,i,(j,p)::ts=>bif Nat.beq i j then p.un a++unT aa (i+1) ts else unT aa (i+1) ((j,p)::ts)
def fitsT:List A->List A->Nat->List (Nat×Pt)->List Bool
 | [],[],_,[]=>[]
 | _::bs,a::aa,i,[]=>Uk a::fitsT bs aa (i+1) []
 | b::bs,a::aa,i,(j,p)::ts=>bif Nat.beq i j then p.fits b a++fitsT bs aa (i+1) ts else Uk a::fitsT bs aa (i+1) ((j,p)::ts)
 | _,_,_,_=>[false]
def Ac4 {a:A} (h:Uk a=true):a= .undef:=by cases a<;>first | rfl | cases h
def ArA: ∀(bs aa:List A) (i:Nat) (ts:List (Nat×Pt)),J5 (fitsT bs aa i ts)->(∀ t,((t,Pt.i):Nat×Pt)∈ts->i<=t->VK (bs.getD (t - i) .undef)=true->Uk (aa.getD (t - i) .undef)=false->aa.getD (t - i) .undef=bs.getD (t - i) .undef) ->
 ∀ r,nG bs i ts (unT aa i ts++r)=aa/\(unT aa i ts++r).drop (nhT ts)=r/\HV.Is (hsT ts) (unT aa i ts):=by
 intro bs
 induction bs with
 | nil =>
  intro aa i ts h _ r;cases aa with
  | nil=>cases ts with | nil=>exact⟨rfl,rfl,trivial⟩ | cons _ _=>exact absurd h.cons.1 (by decide)
  | cons _ _=>exact absurd h.cons.1 (by decide)
 | cons b bs ih =>
  intro aa i ts h hi r;have hstep: ∀ ts':List (Nat×Pt),(∀ t,(t,Pt.i)∈ts'->((t,Pt.i):Nat×Pt)∈ts)-> ∀(a:A) (as':List A),aa=a::as'-> ∀ t,(t,Pt.i)∈ts'->i+1<=t->VK (bs.getD (t - (i+1)) .undef)=true->Uk (as'.getD (t - (i+1)) .undef)=false->as'.getD (t - (i+1)) .undef=bs.getD (t - (i+1)) .undef:=by all_goals grind[Pt,J5,fitsT,VK,Uk,nG]
  cases aa with
  | nil=>cases ts<;>exact absurd h.cons.1 (by decide)
  | cons a aa =>
   cases ts with
   | nil =>
    have h':J5 (Uk a::fitsT bs aa (i+1) []):=h;obtain⟨f1,f2,f3⟩:=ih aa (i+1) [] h'.cons.2 (fun t ht=>by cases ht) r;have hu:=Ac4 h'.cons.1;refine⟨?_,rfl,trivial⟩;show A.undef::nG bs (i+1) [] ([]++r)=a::aa;have e0:unT aa (i+1) []=[]:=by cases aa<;>rfl
    rw[e0]at f1;rw[hu,f1]
   | cons q ts =>
    obtain⟨j,p⟩:=q;have h':J5 (bif Nat.beq i j then p.fits b a++fitsT bs aa (i+1) ts else Uk a::fitsT bs aa (i+1) ((j,p)::ts)):=h;cases hb:Nat.beq i j with
    | true =>
     rw[hb]at h';obtain⟨h1,h2⟩:=J5.append h';have hij:=Dp hb;subst hij;obtain⟨e1,e2,e3⟩:=Pt.UF h1 (fun hp hpl hu=>by have:=hi i (by rw[<- hp];exact Du) (DW _);rw[Nat.sub_self]at this;exact this hpl hu) (unT aa (i+1) ts++r);obtain⟨f1,f2,f3⟩:=ih aa (i+1) ts h2 (hstep ts (fun t ht=>Dy _ ht) a aa rfl) r;have u0:unT (a::aa) i ((i,p)::ts)=p.un a++unT aa (i+1) ts:=by show(bif Nat.beq i i then _ else _)=_;rw[hb];rfl
     refine⟨?_,?_,?_⟩
     .rw[u0];show(bif Nat.beq i i then _ else _)=_;rw[hb];show p.emb b ((p.un a++unT aa (i+1) ts)++r)::nG bs (i+1) ts (((p.un a++unT aa (i+1) ts)++r).drop p.nh)=_;rw[Eg,e1,e2,f1]
     .rw[u0];show((p.un a++unT aa (i+1) ts)++r).drop (p.nh+nhT ts)=_;rw[Eg,<- Gx,e2,f2]
     .rw[u0];exact e3.append f3
    | false =>
     rw[hb]at h';obtain⟨f1,f2,f3⟩:=ih aa (i+1) ((j,p)::ts) h'.cons.2 (hstep _ (fun t ht=>ht) a aa rfl) r;have hu:=Ac4 h'.cons.1;have u0:unT (a::aa) i ((j,p)::ts)=unT aa (i+1) ((j,p)::ts):=by show(bif Nat.beq i j then _ else _)=_;rw[hb];rfl
     refine⟨?_,?_,?_⟩
     .rw[u0];show(bif Nat.beq i j then _ else _)=_;rw[hb];show A.undef::nG bs (i+1) ((j,p)::ts) (unT aa (i+1) ((j,p)::ts)++r)=_;rw[hu,f1]
     .rw[u0];exact f2
     .rw[u0];exact f3
namespace Po
def hs:Po->List HK
 | .box l=>hsC l
 | .arr _ _ t=>[.l t]
 | .JX _ _ _=>[]
 | .mp kt vt=>[.m kt vt]
def nh:Po->Nat
 | .box l=>nhC l
 | .arr _ _ _=>1
 | .JX _ _ _=>0
 | .mp _ _=>1
def emb:Po->List A->Obj
 | .box l,xs=>.box (AdT l xs)
 | .arr e f _,xs=>.arr e f (xs.headD .undef).toL
 | .JX e f t,_=>.arr e f ⟨t,[]⟩
 | .mp _ _,xs=>.mp (xs.headD .undef).toM
def un:Po->Obj->List A
 | .box l,.box cs=>unC l cs
 | .arr _ _ _,.arr _ _ l=>[.sl l]
 | .mp _ _,.mp l=>[.ump l]
 | _,_=>[]
def fits:Po->Obj->List Bool
 | .box l,.box cs=>Acl l cs
 | .arr e f t,.arr e' f' l=>[Nat.beq e e',f==f',decide (l.t=t)]
 | .JX e f t,.arr e' f' l=>[Nat.beq e e',f==f',decide (l.t=t),l.xs.isEmpty]
 | .mp kt vt,.mp l=>[A.dZ kt vt (.ump l)]
 | _,_=>[false]
def UF {p:Po} {x:Obj} (h:J5 (p.fits x)) (r:List A):p.emb (p.un x++r)=x/\(p.un x++r).drop p.nh=r/\HV.Is p.hs (p.un x):=by
 cases p with
 | box l =>
  cases x with
  | box cs=>obtain⟨h1,h2,h3⟩:=AdU l cs h r;exact⟨congrArg Obj.box h1,h2,h3⟩
  | arr _ _ _=>exact absurd h.cons.1 (by decide)
  | mp _=>exact absurd h.cons.1 (by decide)
 | mp kt vt =>
  cases x with
  | box cs=>exact absurd h.cons.1 (by decide)
  | arr _ _ _=>exact absurd h.cons.1 (by decide)
  | mp l=>exact⟨rfl,rfl,h.cons.1,trivial⟩
 | arr e f t =>
  cases x with
  | box cs=>exact absurd h.cons.1 (by decide)
  | mp _=>exact absurd h.cons.1 (by decide)
  | arr e' f' l =>have h1:=Dp h.cons.1;have h2:=FY h.cons.2.cons.1;have h3:=h.cons.2.cons.2.cons.1;subst h1;subst h2;exact⟨rfl,rfl,h3,trivial⟩
 | JX e f t =>
  cases x with
  | box cs=>exact absurd h.cons.1 (by decide)
  | mp _=>exact absurd h.cons.1 (by decide)
  | arr e' f' l =>have h1:=Dp h.cons.1;have h2:=FY h.cons.2.cons.1;have h3:=D5 h.cons.2.cons.2.cons.1;have h4:=Fg.1 h.cons.2.cons.2.cons.2.cons.1;obtain⟨t',xs⟩:=l;dsimp only at h3 h4;subst h1;subst h2;subst h3;subst h4;exact⟨rfl,rfl,trivial⟩
end Po
def hsO:List (Nat×Po)->List HK
 | []=>[]
 | (_,p)::r=>p.hs++hsO r
def AkO:List (Nat×Po)->List A->List (Nat×Obj)
 | [],_=>[]
 | (n,p)::r,xs=>(n,p.emb xs)::AkO r (xs.drop p.nh)
def unO:List (Nat×Po)->List (Nat×Obj)->List A
 | (_,p)::r,(_,x)::l=>p.un x++unO r l
 | _,_=>[]
def Agp:List (Nat×Po)->List (Nat×Obj)->List Bool
 | [],[]=>[]
 | (n,p)::r,(k,x)::l=>Nat.beq n k::p.fits x++Agp r l
 | _,_=>[false]
def Ar9: ∀(os:List (Nat×Po)) (l:List (Nat×Obj)),J5 (Agp os l)->AkO os (unO os l)=l/\HV.Is (hsO os) (unO os l):=by
 intro os
 induction os with
 | nil=>intro l h;cases l with | nil=>exact⟨rfl,trivial⟩ | cons _ _=>exact absurd h.cons.1 (by decide)
 | cons q os ih =>
  intro l h;cases l with
  | nil=>exact absurd h.cons.1 (by decide)
  | cons y l =>obtain⟨n,p⟩:=q;obtain⟨k,x⟩:=y;have h':J5 ((Nat.beq n k::p.fits x)++Agp os l):=h;obtain⟨h1,h2⟩:=h'.append;have hn:=Dp h1.cons.1;subst hn;obtain⟨e1,e2,e3⟩:=p.UF h1.cons.2 (unO os l);obtain⟨f1,f3⟩:=ih l h2;refine⟨?_,e3.append f3⟩;all_goals grind[unO,AkO,drop]
namespace Spe
def hs (sh:Spe):List HK:=hsT sh.ts++hsO sh.os
def emb (sh:Spe) (b:St) (v:HV sh.hs):St:=⟨nG b.tmps 0 sh.ts (HV.enc sh.hs v),AkO sh.os ((HV.enc sh.hs v).drop (nhT sh.ts))⟩
def un (sh:Spe) (st:St):HV sh.hs:=HV.dec sh.hs (unT st.tmps 0 sh.ts++unO sh.os st.Jp)
def fits (sh:Spe) (b st:St):List Bool:=fitsT b.tmps st.tmps 0 sh.ts++Agp sh.os st.Jp
noncomputable def enter {ρ :Type} (sh:Spe) (b st:St) (j:HV sh.hs->Option ρ):Option ρ :=allH (sh.fits b st) (j (sh.un st))
def okI (sh:Spe) (W:List Nat):Bool:=sh.ts.all fun q=> !(q.2.isI)|| !(has W q.1)
end Spe
def xb:Pc:=.h .b
def x64:Pc:=.h (.i .i64)
def x8:Pc:=.h (.i .u8)
def xi (k:IntKind):Pc:=.h (.i k)
def xs:Pc:=.h .s
def xl (t:Ty):Pc:=.h (.l t)
def xo (o:Nat):Pc:=.c (.own o)
def x0:Pc:=.c .Lj
def R (W:List Nat) (st st':St):Prop:= ∀ t,t∉W->VK (st.tmps.getD t .undef)=true->st'.tmps.getD t .undef=st.tmps.getD t .undef\/st'.tmps.getD t .undef= .undef
def R.refl (W:List Nat) (st:St):R W st st:=fun _ _ _=>.inl rfl
def R.trans {W:List Nat} {a b c:St} (h1:R W a b) (h2:R W b c):R W a c:=by
 intro t ht hp;rcases h1 t ht hp with e | e
 .grind[R]
 .rcases h2 t ht (by rw[e];rfl)with e' | e';all_goals grind[R]
def R.mono {W W':List Nat} {a b:St} (h:R W a b) (hs: ∀ t∈W,t∈W'):R W' a b:=fun t ht hp=>h t (fun h'=>ht (hs t h')) hp
def R.of_eq {W:List Nat} {a b:St} (h:a.tmps=b.tmps):R W a b:=fun _ _ _=>.inl (by rw[h])
def R.none {W:List Nat} {a b:St} (h:R [] a b):R W a b:=h.mono (fun _ h=>by cases h)
def Spe.UF {sh:Spe} {W:List Nat} {b st:St} (h:J5 (sh.fits b st)) (hi:sh.okI W=true) (hr:R W b st):sh.emb b (sh.un st)=st:=by
 obtain⟨h1,h2⟩:=h.append;obtain⟨f1,f3⟩:=Ar9 _ _ h2
 obtain⟨e1,e2,e3⟩:=ArA _ _ 0 _ h1 (fun t ht _ hp hu=>by
  rw[Nat.sub_zero]at hp hu ⊢;have hw:t∉W:=by have:=D7.1 hi _ ht;intro hm;rw[show has W t=true by simp only[has,Fz];exact⟨t,hm,by simp⟩]at this;cases this
  rcases hr t hw hp with e | e
  .exact e
  .rw[e]at hu;cases hu) (unO sh.os st.Jp)
 unfold Spe.emb Spe.un;rw[HV.AdV _ _ (show HV.Is sh.hs _ from e3.append f3),e1,e2,f1]
theorem Ws (l:List A) (d t:Nat) (v:A) (h:t≠d):(l.set d v).getD t .undef=l.getD t .undef:=by grind
def AuB: ∀(l:List (Option Nat×Nat×Ty)) (st:St),R [] st (pzs l st):=by
 intro l
 induction l with
 | nil=>intro st;exact R.refl _ _
 | cons q r ih =>
  intro st;obtain⟨b,t,ty⟩:=q;have hset: ∀(v:A) (Jp:List (Nat×Obj)),VK (st.tmps.getD t .undef)=false->R [] st {tmps:=st.tmps.set t v,Jp:=Jp}:=by intro v Jp hp k _ hk;all_goals grind[Ws]
  cases b with
  | none =>
   unfold pzs;split
   .rename_i e;exact(hset _ _ (by rw[e];rfl)).trans (ih _)
   .rename_i o e;split
    .exact(hset _ _ (by rw[e];rfl)).trans (ih _)
    .exact ih _
   .exact ih _
  | some b =>
   unfold pzs;split
   .split
    .split
     .refine R.trans ?_ (ih _);exact R.of_eq rfl
     .exact ih _
    .exact ih _
   .exact ih _
def getD_drop (keep:List Nat): ∀(l:List A) (i t:Nat),(drop keep l i).getD t .undef=l.getD t .undef\/(drop keep l i).getD t .undef= .undef:=by
 intro l
 induction l with
 | nil=>intro i t;exact .inl rfl
 | cons a l ih =>
  intro i t;cases t with
  | zero=>grind[has,drop]
  | succ t=>exact ih (i+1) t
def Ama {f t:Nat} {a:A} (h:VK a=true):OI f t a=a:=by
 unfold VK at h;rw[Dq,Fg]at h;have h1:=h.1;cases a with
 | ptr o off=>cases h1
 | own o=>cases h1
 | clo _ _=>cases h1
 | bsl _ _=>cases h1
 | osl _ _=>cases h1
 | Kq o i off=>cases h1
 | agg cs =>
  have h2:cs.flatMap A.Nc=[]:=h1;rw[Hr]at h2;show A.agg (cs.map _)=A.agg cs;congr 1
  conv=>rhs;rw[<- Gq cs]
  refine Ej fun c hc=> ?_;have:=h2 c hc;cases c<;>first | rfl | cases this
 | _=>rfl
def AtX: ∀(l:List (Nat×Nat)) (st:St),R [] st (xM st l).2:=by
 intro l
 induction l with
 | nil=>intro st;exact R.refl _ _
 | cons q r ih =>
  intro st;obtain⟨f,t⟩:=q;unfold xM;cases hx:Jv st.Jp f with
  | none=>exact ih st
  | some x =>
   have h1:R [] st {tmps:=st.tmps.map (OI f t),Jp:=(L9 (SX st.Jp f) t x).map (fun p=>(p.1,xK f t p.2))}:=by
    intro k _ hk;left;show(st.tmps.map (OI f t)).getD k .undef=_;rw[Dj,Ed];rw[Dj]at hk ⊢;cases hs:st.tmps[k]? with
    | none=>rfl
    | some a =>rw[hs]at hk;exact Ama hk
   exact h1.trans (ih _)
theorem AiL (id:Nat): ∀(ts:List Nat) (l:List A) (k:Nat),k∉ts->(xP id ts l).getD k .undef=l.getD k .undef:=by
 intro ts
 induction ts with
 | nil=>intro l k _;rfl
 | cons t r ih=>grind[xP,Ws]
def At7: ∀(l:List (List Nat×Nat×Ty×Nat)) (st:St),(owns l st).1=true->R [] st (owns l st).2:=by
 intro l
 induction l with
 | nil=>intro st _;exact R.refl _ _
 | cons q r ih =>
  intro st h;obtain⟨ts,e,ty,id⟩:=q;unfold owns at h ⊢;cases ha:ts.any (fun t=>kS (st.tmps.getD t .undef))with
  | false=>rw[ha]at h;exact ih st h
  | true =>rw[ha]at h;dsimp only[cond_true]at h ⊢;simp only[Dq]at h;refine R.trans ?_ (ih _ h.2);intro k _ hk;all_goals grind[AiL,VK]
theorem Aty {C:Ctx} {key:Nat} {st:St} (h:(norm C key st).1=true):R [] st (norm C key st).2:=by
 unfold norm at h ⊢;split at h
 .exact R.refl _ _
 .rename_i n hn;dsimp only at h ⊢;simp only[Dq]at h;have h1:R [] st (pzs n.pz st):=AuB _ _;have h2:R [] (pzs n.pz st) {tmps:=drop n.keep (pzs n.pz st).tmps 0,Jp:=(pzs n.pz st).Jp.filter (fun p=>has (reached (drop n.keep (pzs n.pz st).tmps 0) (pzs n.pz st).Jp) p.1)}:=fun t _ _=>getD_drop _ _ _ _;exact((h1.trans h2).trans (AtX _ _)).trans ((At7 _ _ h.2).trans (R.of_eq rfl))
def nH {ρ :Type} {sh:Spe} {b st:St} {j:HV sh.hs->Option ρ} {v: ρ} (h:sh.enter b st j=some v):J5 (sh.fits b st)/\j (sh.un st)=some v:=by unfold Spe.enter at h;rw[XT]at h;exact QP h
theorem AhB {ρ :Type} {C:Ctx} {key:Nat} {st:St} {K:St->Option ρ} {v: ρ} (h:Ue C key st K=some v): ∃ st',R [] st st'/\K st'=some v/\ ∀ K':St->Option ρ,Ue C key st K'=K' st':=by
 unfold Ue at h;cases hn:(norm C key st).1 with
 | false =>
  have e:norm C key st=(false,(norm C key st).2):=by rw[<- hn]
  rw[e]at h;cases h
 | true =>
  have e:norm C key st=(true,(norm C key st).2):=by rw[<- hn]
  all_goals grind[Aty,Ue]
def wF {ρ :Type} {C:Ctx} {kind:Nat} {c:Code} {st:St} {K:St->Option ρ} {v: ρ} (h:meet C kind c st K=some v): ∃ st',R [] st st'/\K st'=some v/\ ∀ K':St->Option ρ,meet C kind c st K'=K' st':=by
 unfold meet at h;cases hf:MJ c with
 | none=>rw[hf]at h;exact⟨st,R.refl _ _,h,fun K'=>by unfold meet;rw[hf]⟩
 | some n=>grind[AhB,meet]
structure Lk where
 j:List (Nat×Spe)
 l:List (Nat×Spe×List (Nat×Spe))
def Al4 {α :Type}:List (Nat× α)->Nat->Option α
 | [],_=>none
 | (k,x)::r,n=>bif Nat.beq k n then some x else Al4 r n
def Ac6 (L:Lk) (b:Code):Option Spe:=match MJ b with
 | some n=>Al4 L.j (4*n+1)
 | none=>none
def AcC (L:Lk) (c:Code):Option (Spe×List (Nat×Spe)):=match MJ c with
 | some n=>Al4 L.l (4*n+2)
 | none=>none
def YT:List (Nat×Spe)->Type
 | []=>Unit
 | [(_,sh)]=>HV sh.hs
 | (_,sh)::q::r=>HV sh.hs ⊕ YT (q::r)
noncomputable def uV {ρ :Type}:(ex:List (Nat×Spe))->Nat->St->St->(YT ex->Option ρ)->Option ρ
 | [],_,_,_,_=>none
 | [(i,sh)],id,b,st,kx=>match Nat.beq i id with
  | true=>sh.enter b st kx
  | false=>none
 | (i,sh)::q::r,id,b,st,kx=>match Nat.beq i id with
  | true=>sh.enter b st (fun v=>kx (.inl v))
  | false=>uV (q::r) id b st (fun y=>kx (.inr y))
noncomputable def Acf {ρ :Type}:(ex:List (Nat×Spe))->St->(Ex->St->Option ρ)->YT ex->Option ρ
 | [],_,_=>fun _=>none
 | [(i,sh)],b,K=>fun v=>K (.exit i) (sh.emb b v)
 | (i,sh)::q::r,b,K=>Sum.elim (fun v=>K (.exit i) (sh.emb b v)) (Acf (q::r) b K)
noncomputable def yT {ρ :Type} (mt:St->(St->Option ρ)->Option ρ) (body:St->(Ex->St->Option ρ)->Option ρ) (n:Nat):St->(Ex->St->Option ρ)->Option ρ :=
 (fun(_:Nat)=>Nat.rec (motive:=fun _=>St->(Ex->St->Option ρ)->Option ρ) (fun _ _=>none) (fun _ ih st K=>body st fun
   | .normal,st'=>mt st' fun st''=>ih st'' K
   | .exit id,st'=>K (.exit id) st') n) Ab6
noncomputable def exe {ρ :Type} (C:Ctx) (N:Nat) (L:Lk) (fin:St->Option ρ):Code->St->(Ex->St->Option ρ)->Option ρ
 | .skip,st,K=>K .normal st
 | .region id ops false,st,K=>split C id ops.toList st fun C=>AlN C ops.toList ops.toList st fun st'=>K .normal st'
 | .region id ops true,st,K=>split C id ops.toList st fun C=>match AdS C ops.toList st with
  | true=>AlP C ops.toList ops.toList st fun st'=>K .normal st'
  | false=>none
 | .seq a b,st,K=>match Ac6 L b with
  | some sh=>Ou (fun j=>exe C N L fin a st fun
   | .normal,st'=>Xx C 1 b st' fun st''=>sh.enter st st'' j
   | .exit id,st'=>K (.exit id) st') (fun x=>exe C N L fin b (sh.emb st x) K)
  | none=>exe C N L fin a st fun
   | .normal,st'=>Xx C 1 b st' fun st''=>exe C N L fin b st'' K
   | .exit id,st'=>K (.exit id) st'
 | .cond c a b,st,K=>match KP st.tmps c with
  | .bool t=>match t with
   | true=>exe C N L fin a st K
   | false=>exe C N L fin b st K
  | .cnd g (.bool t)=>match g with
   | true=>match t with
    | true=>exe C N L fin a st K
    | false=>exe C N L fin b st K
   | false=>none
  | _=>none
 | .block id c,st,K=>exe C N L fin c st fun
  | .exit j,st'=>match Nat.beq j id with
   | true=>K .normal st'
   | false=>K (.exit j) st'
  | .normal,st'=>K .normal st'
 | .loop c,st,K=>Xx C 2 c st fun b=>match AcC L c with
  | some (h,ex)=>match (h.fits b b).all id with
   | true=>J4 (fun x k kx=>exe C N L fin c (h.emb b x) fun
    | .normal,st'=>Xx C 2 c st' fun st''=>h.enter b st'' k
    | .exit id,st'=>uV ex id b st' kx) N (h.un b) (Acf ex b K)
   | false=>yT (Xx C 2 c) (exe C N L fin c) N b K
  | none=>yT (Xx C 2 c) (exe C N L fin c) N b K
 | .scope c,st,K=>exe C N L fin c st K
 | .exit id,st,K=>kX C (4*id+3) st fun st'=>K (.exit id) st'
 | .label _,st,K=>K .normal st
 | .ret,st,_=>fin st
 | _,_,_=>none
def writes:Code->List Nat
 | .region _ ops _=>ops.toList.filterMap (·.dst)
 | .seq a b=>writes a++writes b
 | .cond _ a b=>writes a++writes b
 | .block _ c=>writes c
 | .loop c=>writes c
 | .scope c=>writes c
 | _=>[]
def okJ (W:List Nat):Option Spe->Bool
 | some sh=>sh.okI W
 | none=>true
def okX (W:List Nat):Option (Spe×List (Nat×Spe))->Bool
 | some (h,ex)=>h.okI W&&ex.all (fun q=>q.2.okI W)
 | none=>true
def okL (L:Lk):Code->Bool
 | .seq a b=>okL L a&&okL L b&&okJ (writes a) (Ac6 L b)
 | .cond _ a b=>okL L a&&okL L b
 | .block _ c=>okL L c
 | .scope c=>okL L c
 | .loop c=>okL L c&&okX (writes c) (AcC L c)
 | _=>true
def AuA (st:St) (o:Oper) (δ :Dl):R (Y1 o) st (apply st o δ):=by
 intro t ht _;left;show(put st.tmps o.dst δ.val).getD t .undef=_;cases hd:o.dst with
 | none=>rfl
 | some d =>refine Ws _ _ _ _ fun e=>ht ?_;simp [Y1,hd,e]
def AbF {α :Type} {l:List Bool} {x y:Option α} {v: α} (h:allT l x=some v) (hy:x=some v->y=some v):allT l y=some v:=by
 induction l with
 | nil=>exact hy h
 | cons c cs ih=>grind[allT]
def Aou {st st':St} {o:Oper} {δ :Dl} {r:List Oper} (hr:R (r.filterMap (·.dst)) (apply st o δ) st'):R ((o::r).filterMap (·.dst)) st st' :=
 ((AuA st o δ).mono (fun t ht=>by
    cases hd:o.dst with
    | none=>simp [Y1,hd]at ht
    | some d=>simp [Y1,hd]at ht;simp [hd,ht])).trans (hr.mono (fun t ht=>by
    cases hd:o.dst with
    | none=>simpa [hd]using ht
    | some d=>simp only[List.filterMap_cons,hd];exact Dy _ ht))
def At5 {ρ :Type} {C:Ctx} {ops:List Oper} {v: ρ}: ∀(l:List Oper) (st:St) (K K':St->Option ρ),(∀ st',R (l.filterMap (·.dst)) st st'->K st'=some v->K' st'=some v)->VE C ops l st K=some v->VE C ops l st K'=some v:=by
 intro l
 induction l with
 | nil=>intro st K K' hK h;exact hK st (R.refl _ _) h
 | cons o r ih =>intro st K K' hK h;have h':allT (KE C ops o st).ok (VE C ops r (apply st o (KE C ops o st)) K)=some v:=h;show allT (KE C ops o st).ok (VE C ops r (apply st o (KE C ops o st)) K')=some v;exact AbF h' (ih _ K K' fun st' hr=>hK st' (Aou hr))
def AqY {ρ :Type} {C:Ctx} {ops:List Oper} {v: ρ}: ∀(l:List Oper) (st:St) (K K':St->Option ρ),(∀ st',R (l.filterMap (·.dst)) st st'->K st'=some v->K' st'=some v)->VD C ops l st K=some v->VD C ops l st K'=some v:=by
 intro l
 induction l with
 | nil=>intro st K K' hK h;exact hK st (R.refl _ _) h
 | cons o r ih =>
  intro st K K' hK h;have one: ∀ C':Ctx,allT (KE C' ops o st).ok (VD C ops r (apply st o (KE C' ops o st)) K)=some v->allT (KE C' ops o st).ok (VD C ops r (apply st o (KE C' ops o st)) K')=some v:=fun C' h'=>AbF h' (ih _ K K' fun st' hr=>hK st' (Aou hr));unfold VD at h ⊢;cases ha:Zw C o with
  | none=>rw[ha]at h;exact one C h
  | some q =>
   obtain⟨f,q⟩:=q;rw[ha]at h;dsimp only at h ⊢;cases hb:Ad5 o st q with
   | true=>rw[hb]at h;exact one _ h
   | false=>rw[hb]at h;exact one _ h
def Aoy {ρ :Type} {C:Ctx} {v: ρ}: ∀(cs:List Clo) (st:St) (K K':St->Option ρ),(∀ st',R (PW cs) st st'->K st'=some v->K' st'=some v)->ZT C cs st K=some v->ZT C cs st K'=some v:=by
 intro cs
 induction cs with
 | nil=>intro st K K' hK h;exact hK st (R.refl _ _) h
 | cons c cs ih =>intro st K K' hK h;refine AbF h (ih _ K K' fun st' hr=>hK st' ?_);intro t ht hp;have ht:t∉c.t::c.u::PW cs:=ht;simp only[Dz,not_or]at ht;have e:(MH c.u {st with tmps:=st.tmps.set c.t (jZ C st c).val}).tmps.getD t .undef=st.tmps.getD t .undef:=(Ws _ _ _ _ ht.2.1).trans (Ws _ _ _ _ ht.1);have:=hr t ht.2.2 (by rw[e];exact hp);rwa [e]at this
def At4 {ρ :Type} {C:Ctx} {ops:List Oper} {v: ρ} (l:List Oper) (st:St) (K K':St->Option ρ) (hK: ∀ st',R (l.filterMap (·.dst)) st st'->K st'=some v->K' st'=some v) (h:oK C ops l st K=some v):oK C ops l st K'=some v:=by
 unfold oK at h ⊢;cases he:aP l with
 | none=>rw[he]at h;exact AqY l st K K' hK h
 | some e =>
  rw[he]at h;dsimp only at h ⊢;obtain⟨h1,h2,h3,_⟩:=Aaa he;obtain⟨_,_,_,_,_,_,q3,_⟩:=nD h3
  have hdst: ∀ t,t∉l.filterMap (·.dst)->t∉PW e.cs/\t≠e.v/\e.o.dst≠some t/\t∉e.rest.filterMap (·.dst):=by
   intro t ht;rw[h1]at ht;simp only[List.filterMap_append,DU,not_or,List.filterMap_cons,q3]at ht;refine⟨fun hm=>ht.1 ?_,fun e'=> ?_,fun e'=> ?_,fun hm=> ?_⟩
   .obtain⟨c,hc,hm⟩:=DX.1 hm;obtain⟨_,_,_,_,g3,g4,_⟩:=uN (h2 c hc);simp only[Dz,ED,FN]at hm;rcases hm with rfl | rfl
    .exact Gw.2 ⟨c.o,DX.2 ⟨c,hc,by simp⟩,g3⟩
    .exact Gw.2 ⟨c.q,DX.2 ⟨c,hc,by simp⟩,g4⟩
   .exact ht.2 (by rw[e'];exact Du)
   .refine ht.2 (Dy _ ?_);rw[e'];exact Du
   .refine ht.2 (Dy _ ?_);cases hd:e.o.dst with
    | none=>exact hm
    | some d=>exact Dy _ hm
  refine Aoy e.cs st _ _ (fun st1 hr1 h=>AbF h (AqY e.rest _ K K' fun st' hr=>hK st' ?_)) h;intro t ht hp;obtain⟨d1,d2,d3,d4⟩:=hdst t ht
  have e1:(apply (MH e.v st1) e.o (yE C e (MH e.v st1))).tmps.getD t .undef=st1.tmps.getD t .undef:=by
   refine Hm ?_ (Ws st1.tmps e.v t .undef d2);show(put (MH e.v st1).tmps e.o.dst _).getD t .undef=(MH e.v st1).tmps.getD t .undef;cases hd:e.o.dst with
   | none=>rfl
   | some d=>exact Ws _ _ _ _ fun e'=>d3 (by rw[hd,e'])
  rcases hr1 t d1 hp with h' | h'
  .have:=hr t d4 (by rw[e1,h'];exact hp);rw[e1,h']at this;exact this
  .have:=hr t d4 (by rw[e1,h'];rfl);rw[e1,h']at this;exact .inr (by rcases this with h | h<;>exact h)
def AkS {ρ :Type} {W:List Nat} {b st:St} {K:Ex->St->Option ρ} {v: ρ} {id:Nat} (hr:R W b st): ∀(ex:List (Nat×Spe)),ex.all (fun q=>q.2.okI W)=true->uV ex id b st (Acf ex b K)=some v->K (.exit id) st=some v:=by
 have one: ∀(i:Nat) (sh:Spe),sh.okI W=true->Nat.beq i id=true->sh.enter b st (fun v=>K (.exit i) (sh.emb b v))=some v->K (.exit id) st=some v:=by intro i sh ho hb h;obtain⟨h1,h2⟩:=nH h;rw[Spe.UF h1 ho hr,Dp hb]at h2;exact h2
 intro ex
 induction ex with
 | nil=>intro _ h;cases h
 | cons q r ih =>
  intro ho h;obtain⟨i,sh⟩:=q;simp only[List.all_cons,Dq]at ho;cases r with
  | nil =>
   have h':(match Nat.beq i id with | true=>sh.enter b st (fun v=>K (.exit i) (sh.emb b v)) | false=>none)=some v:=h;cases hb:Nat.beq i id with
   | true=>rw[hb]at h';exact one i sh ho.1 hb h'
   | false=>rw[hb]at h';cases h'
  | cons q r =>
   have h':(match Nat.beq i id with | true=>sh.enter b st (fun v=>K (.exit i) (sh.emb b v)) | false=>uV (q::r) id b st (Acf (q::r) b K))=some v:=h;cases hb:Nat.beq i id with
   | true=>rw[hb]at h';exact one i sh ho.1 hb h'
   | false =>rw[hb]at h';exact ih (by simpa using ho.2) h'
theorem AeX {ρ :Type} {C:Ctx} {N:Nat} {L:Lk} {fin:St->Option ρ} {v: ρ}: ∀(c:Code),okL L c=true-> ∀(st:St) (K K':Ex->St->Option ρ),(∀ e st',R (writes c) st st'->K e st'=some v->K' e st'=some v)->exe C N L fin c st K=some v->exec C N fin c st K'=some v:=by
 intro c
 induction c with
 | skip=>intro _ st K K' hK h;exact hK _ _ (R.refl _ _) h
 | label l=>intro _ st K K' hK h;exact hK _ _ (R.refl _ _) h
 | ret=>intro _ st K K' hK h;exact h
 | exit id =>intro _ st K K' hK h;obtain⟨st',h1,h2,h3⟩:=AhB ((AcI _ _ _ _).symm.trans (show kX C (4*id+3) st (fun st'=>K (.exit id) st')=some v from h));show Ue C (4*id+3) st (fun st'=>K' (.exit id) st')=some v;rw[h3];exact hK _ _ h1.none h2
 | region id ops d =>
  intro _ st K K' hK h;cases d with
  | false=>exact(ZJ h).2 _ fun C h=>At4 ops.toList st _ _ (fun st' hr hk=>hK .normal st' hr hk) ((ApS _ _ _ _ _).symm.trans h)
  | true =>
   refine(ZJ h).2 _ fun C h=> ?_;have h':(match Tu C ops.toList st with | true=>AlP C ops.toList ops.toList st (fun st'=>K .normal st') | false=>none)=some v:=by rw[<- AkN];exact h
   show(bif Tu C ops.toList st then VE C ops.toList ops.toList st (fun st'=>K' .normal st')else none)=some v;cases hd:Tu C ops.toList st with
   | false=>rw[hd]at h';cases h'
   | true=>rw[hd]at h';exact At5 ops.toList st _ _ (fun st' hr hk=>hK .normal st' hr hk) ((Asd _ _ _ _ _).symm.trans h')
 | seq x y ihx ihy =>
  intro ho st K K' hK h;have ho':(okL L x&&okL L y&&okJ (writes x) (Ac6 L y))=true:=ho;simp only[Dq]at ho';have hxy: ∀ {e:Ex} {st1 st2:St},R (writes x) st st1->R (writes y) st1 st2->R (writes (.seq x y)) st st2:=fun h1 h2=>(h1.mono (fun t ht=>DD _ ht)).trans (h2.mono (fun t ht=>DC _ ht));simp only[exe]at h;show exec C N fin x st _=some v;cases hj:Ac6 L y with
  | none =>
   rw[hj]at h;refine ihx ho'.1.1 st _ _ (fun e st1 hr hk=> ?_) h;cases e with
   | normal =>obtain⟨st2,h1,h2,h3⟩:=wF ((bI _ _ _ _ _).symm.trans hk);show meet C 1 y st1 _=some v;rw[h3];exact ihy ho'.1.2 st2 _ _ (fun e st3 hr' hk'=>hK e st3 (hxy (e:=e) (hr.trans h1.none) hr') hk') h2
   | exit id=>exact hK _ _ (hr.mono (fun t ht=>DD _ ht)) hk
  | some sh =>
   rw[hj]at h ho';refine ihx ho'.1.1 st _ _ (fun e st1 hr hk=> ?_) (show exe C N L fin x st _=some v from h);cases e with
   | normal =>obtain⟨st2,h1,h2,h3⟩:=wF ((bI _ _ _ _ _).symm.trans hk);show meet C 1 y st1 _=some v;rw[h3];obtain⟨h4,h5⟩:=nH h2;rw[Spe.UF h4 ho'.2 (hr.trans h1.none)]at h5;exact ihy ho'.1.2 st2 _ _ (fun e st3 hr' hk'=>hK e st3 (hxy (e:=e) (hr.trans h1.none) hr') hk') h5
   | exit id=>exact hK _ _ (hr.mono (fun t ht=>DD _ ht)) hk
 | cond o x y ihx ihy =>
  intro ho st K K' hK h;have ho':(okL L x&&okL L y)=true:=ho;simp only[Dq]at ho'
  have key: ∀ t:Bool,(match t with | true=>exe C N L fin x st K | false=>exe C N L fin y st K)=some v->(bif t then exec C N fin x st K' else exec C N fin y st K')=some v:=by
   intro t ht;cases t with
   | true=>exact ihx ho'.1 st K K' (fun e st' hr=>hK e st' (hr.mono (fun t ht=>DD _ ht))) ht
   | false=>exact ihy ho'.2 st K K' (fun e st' hr=>hK e st' (hr.mono (fun t ht=>DC _ ht))) ht
  simp only[exe]at h;simp only[exec];cases he:KP st.tmps o with
  | bool t=>rw[he]at h;exact key t h
  | cnd g y' =>
   rw[he]at h;cases y' with
   | bool t =>
    cases g with
    | false=>cases h
    | true=>exact key t h
   | _=>cases h
  | _=>rw[he]at h;cases h
 | block id c ih =>
  intro ho st K K' hK h;refine ih ho st _ _ (fun e st' hr hk=> ?_) h;cases e with
  | normal=>exact hK _ _ hr hk
  | exit j =>
   dsimp only at hk ⊢;cases hb:Nat.beq j id with
   | true=>rw[hb]at hk;exact hK _ _ hr hk
   | false=>rw[hb]at hk;exact hK _ _ hr hk
 | loop c ih =>
  intro ho st K K' hK h;have ho':(okL L c&&okX (writes c) (AcC L c))=true:=ho;simp only[Dq]at ho';simp only[exe]at h;obtain⟨b,h1,h2,h3⟩:=wF ((bI _ _ _ _ _).symm.trans h);show meet C 2 c st _=some v;rw[h3]
  have roll:yT (Xx C 2 c) (exe C N L fin c) N b K=some v->rounds (meet C 2 c) (exec C N fin c) N b K'=some v:=by
   have key: ∀(n:Nat) (st1:St),R (writes c) b st1->yT (Xx C 2 c) (exe C N L fin c) n st1 K=some v->rounds (meet C 2 c) (exec C N fin c) n st1 K'=some v:=by
    intro n
    induction n with
    | zero=>intro st1 _ h;cases h
    | succ n ihn =>
     intro st1 hr1 h;refine ih ho'.1 st1 _ _ (fun e st2 hr2 hk=> ?_) h;cases e with
     | normal =>obtain⟨st3,k1,k2,k3⟩:=wF ((bI _ _ _ _ _).symm.trans hk);show meet C 2 c st2 _=some v;rw[k3];exact ihn st3 ((hr1.trans hr2).trans k1.none) k2
     | exit id=>exact hK _ _ ((h1.none.trans hr1).trans hr2) hk
   exact key N b (R.refl _ _)
  cases hl:AcC L c with
  | none=>rw[hl]at h2;exact roll h2
  | some q =>
   obtain⟨hd,ex⟩:=q;rw[hl]at h2 ho';dsimp only at h2;cases hfit:(hd.fits b b).all id with
   | false=>rw[hfit]at h2;exact roll h2
   | true =>
   rw[hfit]at h2;have h4:J5 (hd.fits b b):=fun c hc=>D7.1 hfit c hc;have h5:=h2;have ho2:(hd.okI (writes c)&&ex.all (fun q=>q.2.okI (writes c)))=true:=ho'.2;simp only[Dq]at ho2
   have key: ∀(n:Nat) (st1:St),R (writes c) b st1->hd.emb b (hd.un st1)=st1->J4 (fun x k kx=>exe C N L fin c (hd.emb b x) fun
    | .normal,st'=>Xx C 2 c st' fun st''=>hd.enter b st'' k
    | .exit id,st'=>uV ex id b st' kx) n (hd.un st1) (Acf ex b K)=some v->rounds (meet C 2 c) (exec C N fin c) n st1 K'=some v:=by
    intro n
    induction n with
    | zero=>intro st1 _ _ h;cases h
    | succ n ihn =>
     intro st1 hr1 he h;simp only[J4]at h;rw[he]at h;refine ih ho'.1 st1 _ _ (fun e st2 hr2 hk=> ?_) h;cases e with
     | normal =>obtain⟨st3,k1,k2,k3⟩:=wF ((bI _ _ _ _ _).symm.trans hk);show meet C 2 c st2 _=some v;rw[k3];obtain⟨k4,k5⟩:=nH k2;have hr3:=(hr1.trans hr2).trans k1.none;exact ihn st3 hr3 (Spe.UF k4 ho2.1 hr3) k5
     | exit id =>exact hK _ _ ((h1.none.trans hr1).trans hr2) (AkS (hr1.trans hr2) ex ho2.2 hk)
   exact key N b (R.refl _ _) (Spe.UF h4 ho2.1 (R.refl _ _)) h5
 | scope c ih=>intro ho st K K' hK h;exact ih ho st K K' hK h
 | _=>intro _ st K K' hK h;cases h
def Aq0:ResultVar->Nat×Option Nat
 | .tmp t=>(t,none)
 | .cell a t=>(a,some t)
structure Inf where
 Js:List Sh
 J7:List Sh
 gs:List (Nat×Sig)
 ns:List (Nat×Nrm)
 L:Lk
def Xc (fn:Func):Code:=fn.body.getD .skip
def Q3 (fn:Func):List (Nat×Option Nat):=fn.results.toList.map Aq0
noncomputable def Ame {ρ :Type} (N:Nat) (C:Ctx) (L:Lk) (Js:List Sh) (fn:Func) (fin:St->Option ρ) (a:ShT Js):Option ρ :=
 allH ((KA 0 256 Js (encs Js a) 0).1++[nodup ((KA 0 256 Js (encs Js a) 0).2.2.map (·.1)),!(has ((KA 0 256 Js (encs Js a) 0).2.2.map (·.1)) 255)])
  (exe C N L fin (Xc fn) (ZM Js (encs Js a) fn.ntmps) (fun
    | .normal,st=>fin st
    | .exit _,_=>none))
noncomputable def Amd (N:Nat) (C:Ctx) (L:Lk) (Js J7:List Sh) (fn:Func) (a:ShT Js):Option (ShT (Lr Js J7)):=Ame N C L Js fn (Xp C Js J7 (Q3 fn)) a
theorem Asr (r:ResultVar):rv (Aq0 r)=r:=by cases r<;>rfl
def lG (fn:Func):fn.results=((Q3 fn).map rv).toArray:=by grind[Q3,rv,Aq0,Asr]
theorem Arp {α :Type} {l:List Bool} {x:Option α} (h:J5 l):allT l x=x:=by
 induction l with
 | nil=>rfl
 | cons c cs ih=>simp_all[J5,allT]
def aU (L:Lk) (fn:Func):Bool:=fn.body.isSome&&(!(fn.name== "runtime.NumGoroutine")&&okL L (Xc fn))
def xN {ρ :Type} {N:Nat} {C:Ctx} {L:Lk} {Js:List Sh} {fn:Func} {fin:St->Option ρ} {a:ShT Js} {r: ρ} (hn:okL L (Xc fn)=true) (h:Ame N C L Js fn fin a=some r):runK C N Js fn.ntmps (Xc fn) fin (encs Js a)=some r:=by grind[QP,XT,allH,runK,Arp,AeX,Sh,ShT,okL,Xc,Ame,encs]
def dV {L:Lk} {fn:Func} (hn:aU L fn=true):fn.body=some (Xc fn)/\(fn.name== "runtime.NumGoroutine")=false/\okL L (Xc fn)=true:=by unfold aU at hn;simp only[Dq,Ef]at hn;obtain⟨code,hc⟩:=Ez.1 hn.1;exact⟨by unfold Xc;rw[hc];rfl,hn.2⟩
def VN {P:Program} {C:Ctx} {L:Lk} {N:Nat} (hC:MV P C) {f:FuncId} {fn:Func} {Js J7:List Sh} {g:ShT Js->Option (ShT (Lr Js J7))} (hf:P.funcs[f]? =some fn:=by kernel_rfl) (hn:aU L fn=true:=by kernel_rfl)
 (hF: ∀ a,Amd N C L Js J7 fn a=g a:=by intro a;kernel_rfl):Spec P f (Sig.of Js J7 g):=by
 obtain⟨hb,h1,h2⟩:=dV hn;exact XJ (fin:=Xp C Js J7 (Q3 fn)) hC N hf hb h1 (lG fn) (fun a o h=>⟨o,xN h2 ((hF a).trans h),fun st h=>h⟩)
def Afs {P:Program} {C:Ctx} (hC:MV P C) {f:FuncId} {fn:Func} {Js J7:List Sh} (hf:P.funcs[f]? =some fn:=by kernel_rfl) (hn:aU ⟨[],[]⟩ fn=true:=by kernel_rfl):Spec P f (Sig.of Js J7 fun _=>none):=by obtain⟨hb,h1,h2⟩:=dV hn;exact XJ (fin:=Xp C Js J7 (Q3 fn)) hC 0 hf hb h1 (lG fn) (fun a o h=>by cases h)
def Atx (C:Ctx) (r1:List Sh) (outs:List (Nat×Option Nat)) (st:St):Bool:=(r1.zip outs).any fun q=>(match q.1 with | .box _=>true | _=>false)&&(Abk C st q.2).2.bF
noncomputable def Ahd (C:Ctx) (Js r1 r2:List Sh) (outs:List (Nat×Option Nat)) (st:St):Option (ShT (Lr Js r1) ⊕ ShT (Lr Js r2)) :=
 match Atx C r1 outs st with
 | true=>(Xp C Js r2 outs st).map .inr
 | false=>(Xp C Js r1 outs st).map .inl
noncomputable def Aqh (N:Nat) (C:Ctx) (L:Lk) (Js r1 r2:List Sh) (fn:Func) (a:ShT Js):Option (ShT (Lr Js r1) ⊕ ShT (Lr Js r2)):=Ame N C L Js fn (Ahd C Js r1 r2 (Q3 fn)) a
noncomputable def Alt.of (Js r1 r2:List Sh) (g:ShT Js->Option (ShT (Lr Js r1) ⊕ ShT (Lr Js r2))):Alt :=
 (Sig.of Js r1 (fun a=>Ate (g a)),Sig.of Js r2 (fun a=>Atf (g a)),fun xs=>match Wn Js xs with
   | some a=>Atn (g a)
   | none=>true)
def TE {P:Program} {C:Ctx} {L:Lk} {N:Nat} (hC:MV P C) {f:FuncId} {fn:Func} {Js r1 r2:List Sh} {g:ShT Js->Option (ShT (Lr Js r1) ⊕ ShT (Lr Js r2))} (hf:P.funcs[f]? =some fn) (hn:aU L fn=true)
 (hF: ∀ a,Aqh N C L Js r1 r2 fn a=g a):Spec P f (Alt.of Js r1 r2 g).1/\Spec P f (Alt.of Js r1 r2 g).2.1:=by
 obtain⟨hb,h1,h2⟩:=dV hn;constructor
 .refine XJ (fin:=Ahd C Js r1 r2 (Q3 fn)) hC N hf hb h1 (lG fn) (fun a o h=>⟨.inl o,xN h2 ((hF a).trans ?_),fun st h=> ?_⟩)
  .cases hg:g a with
   | none=>rw[hg]at h;cases h
   | some r=>rw[hg]at h;cases r with | inl x=>injection h with h;rw[h] | inr x=>cases h
  .unfold Ahd at h;split at h
   .cases hq:Xp C Js r2 (Q3 fn) st with
    | none=>rw[hq]at h;cases h
    | some r=>rw[hq]at h;injection h with h;cases h
   .cases hq:Xp C Js r1 (Q3 fn) st with
    | none=>rw[hq]at h;cases h
    | some r=>grind[Sh,ShT,Lr,aU,Aqh,Spec]
 .refine XJ (fin:=Ahd C Js r1 r2 (Q3 fn)) hC N hf hb h1 (lG fn) (fun a o h=>⟨.inr o,xN h2 ((hF a).trans ?_),fun st h=> ?_⟩)
  .cases hg:g a with
   | none=>rw[hg]at h;cases h
   | some r=>rw[hg]at h;cases r with | inr x=>injection h with h;rw[h] | inl x=>cases h
  .unfold Ahd at h;split at h
   .cases hq:Xp C Js r2 (Q3 fn) st with
    | none=>rw[hq]at h;cases h
    | some r=>grind[Sh,ShT,Lr,aU,Aqh,Spec]
   .cases hq:Xp C Js r1 (Q3 fn) st with
    | none=>rw[hq]at h;cases h
    | some r=>rw[hq]at h;injection h with h;cases h
end Go.Proofs.YtbgjmioccbacdaaGreatDoor.Vm
namespace Go.Proofs.YtbgjmioccbacdaaGreatDoor.Vm
open Classical
def Akv (b:Bool) (av:List A):A:=bif b then .agg av else av.getD 1 .undef
def Anr (b:Bool) (Js:List Sh) (xs:List A) (n:Nat):St:= {tmps:=Akv b (KA 0 256 Js xs 0).2.1::List.replicate (n - 1) .undef,Jp:=JC [] (KA 0 256 Js xs 0).2.2}
def AuX:Sh->Bool | .box _=>true | _=>false
noncomputable def Avb (b:Bool) (N:Nat) (C:Ctx) (L:Lk) (Js J7:List Sh) (fn:Func) (a:ShT Js):Option (ShT (Lr Js J7)) :=
 allH ((KA 0 256 Js (encs Js a) 0).1++[nodup ((KA 0 256 Js (encs Js a) 0).2.2.map (·.1)),!(has ((KA 0 256 Js (encs Js a) 0).2.2.map (·.1)) 255),Nat.beq Js.length 2,Js.all AuX])
  (exe C N L (Xp C Js J7 (Q3 fn)) (Xc fn) (Anr b Js (encs Js a) fn.ntmps) (fun
    | .normal,st=>Xp C Js J7 (Q3 fn) st
    | .exit _,_=>none))
def Qq {P:Program} {C:Ctx} {L:Lk} {N:Nat} (hC:MV P C) {f:FuncId} {fn:Func} {b:Bool} {Js J7:List Sh} {g:ShT Js->Option (ShT (Lr Js J7))} (hf:P.funcs[f]? =some fn) (hn:aU L fn=true)
 (hF: ∀ a,Avb b N C L Js J7 fn a=g a):WY P f b (Sig.of Js J7 g):=by
 obtain⟨hb,h1,h2⟩:=dV hn;refine⟨enters hf (by rw[hb];rfl) h1,fun O w vs xs rs hI hv hl h100 hx hrs=> ?_⟩;obtain⟨a,o,e1,e2,e3⟩:=Sig.Yp hrs;subst e1;subst e3;have h:=(hF a).trans e2;obtain⟨hok,h⟩:=QP ((XT _ _).symm.trans (show allH _ _=some o from h));obtain⟨hok1,hok2⟩:=hok.append;obtain⟨hnd,hok2⟩:=hok2.cons;obtain⟨h255,hok2⟩:=hok2.cons;obtain⟨hp2,hok2⟩:=hok2.cons;have hp2:=Dp hp2;have hbox:=hok2.cons.1;rw[Ef]at h255;have hl':(encs Js a).length=Js.length:=hl;have S:=AeV (n:=2) hI hv hl' hx hok1 hnd h255;have h:=AeX _ h2 _ _ _ (fun e st' _ hk=>hk) h;have hv2:vs.size=2:=by rw[hv,hl',hp2]
 have has:(KA 0 256 Js (encs Js a) 0).2.1=[.ptr 0 0,.ptr 256 0]:=by
  clear S h hrs e2 h255 hnd hok hok1 hx hv hl hl' h100;generalize encs Js a=ys
  match Js,hp2,hbox with
  | [.box k0,.box k1],_,_=>rfl
 have sz:(ZM Js (encs Js a) 2).tmps=[.ptr 0 0,.ptr 256 0]:=by show(KA 0 256 Js (encs Js a) 0).2.1++List.replicate (2 - Js.length) A.undef=_;rw[has,hp2];rfl
 have t0: ∀ j,j<2->J8 O (ZM Js (encs Js a) 2).Jp (fun o=>Nq w (innerS w (Js.getD (o / 256) (.agg [])) (vs.getD (o / 256) undef)) (o % 256)) w (vs.getD j undef) (([.ptr 0 0,.ptr 256 0]:List A).getD j .undef):=by
  intro j hj;have this:=S.tmps j (by rw[sz];exact hj);have e1:(vs++Array.replicate (2 - vs.size) undef).getD j undef=vs.getD j undef:=by simp [hv2]
  rw[sz]at this;have this:J8 O _ _ w ((vs++Array.replicate (2 - vs.size) undef).getD j undef) _:=this;rw[e1]at this;exact this
 have one:(Uu b vs).size=1:=by cases b<;>rfl
 refine Adk (sg:=Sig.of Js J7 g) (o:=o) (st0:=Anr b Js (encs Js a) fn.ntmps) hC N (fun {_} hC' {_ _ _ _ _ _} id ops _ _ _ _ _ K hS hd hx=>Acb hC' id ops K hS hd hx) hf hb (lG fn) hl h100 hx hok1 ⟨rfl,?_,fun t ht=> ?_,S.Jp,S.frame,S.own,S.ids,S.less,S.root,S.VA,S.inv⟩ h (fun st h=>AeY h)
 .show(Uu b vs++Array.replicate (fn.ntmps - (Uu b vs).size) undef).size=(Akv b (KA 0 256 Js (encs Js a) 0).2.1::List.replicate (fn.ntmps - 1) A.undef).length;simp [one];omega
 .show J8 O _ _ w ((Uu b vs++Array.replicate (fn.ntmps - (Uu b vs).size) undef).getD t undef) ((Akv b (KA 0 256 Js (encs Js a) 0).2.1::List.replicate (fn.ntmps - 1) A.undef).getD t .undef);cases t with
  | succ t =>
   have:(Akv b (KA 0 256 Js (encs Js a) 0).2.1::List.replicate (fn.ntmps - 1) A.undef).getD (t+1) .undef= .undef:=by rw[Ir,Dj,Hu];split<;>rfl
   rw[this];trivial
  | zero =>
   rw[EH,has];cases b with
   | false =>
    have e1:(Uu false vs++Array.replicate (fn.ntmps - (Uu false vs).size) undef).getD 0 undef=vs.getD 1 undef:=by show(#[vs.getD 1 undef]++_:Array Value).getD 0 undef=_;rw[Dn,E8 (by simp)];rfl
    rw[e1];exact t0 1 (by omega)
   | true =>
    have e1:(Uu true vs++Array.replicate (fn.ntmps - (Uu true vs).size) undef).getD 0 undef= .agg vs:=by show(#[Value.agg vs]++_:Array Value).getD 0 undef=_;rw[Dn,E8 (by simp)];rfl
    rw[e1];refine⟨vs,rfl,hv2,fun j hj=> ?_⟩;have hj:j<2:=hj;have:=t0 j hj;have hj':j=0\/j=1:=by omega
    rcases hj' with rfl | rfl<;>exact this
open Go.RowKit
set_option maxHeartbeats 4000000 in
set_option maxRecDepth 100000 in
def Ano {w:World} {vs:Array Value} {b n:Nat} {fs:List (Nat×Bool)} (hn:fs.length=n) (hn1:n<=1000)
 {I:Nat->World->Prop} {R:Ending->World->Prop} (h0:I 0 w)
 (hcell: ∀ i w' p,fs[i]? =some p->I i w'->w'.cell? (at' b i)=some (AmO p vs))
 (hent: ∀ p∈fs,∀ args w,(callFunc p.1 args).run Tryz.prog w= .ok (.enter p.1 args) w)
 (hcall: ∀ i w' p,fs[i]? =some p->I i w'->Calls Tryz.prog p.1 (Uu p.2 vs) w' fun e w''=> ∃ x:Int,e= .returned (.int .i64 x)/\(x≠0->R (.returned (.int .i64 x)) w'')/\(x=0->I (i+1) w''))
 (hend: ∀ w',I n w'->R (.returned (.int .i64 0)) w') :
 Calls Tryz.prog 29 #[.slice (some (at' b 0)) n n] w R:=by
 go_enter Tryz.func29,Tryz.ntmps29
 go_wp2
 go_loopw [8] (fun i wr=> ∃ k:Nat,k<=n/\i= .int .i64 k/\I k wr) (fun i _=>n - (intOf i).toNat)
 case atStart=>exact⟨0,EF _,rfl,h0⟩
 case round =>
  obtain⟨k,hk,rfl,hI⟩:=hrel;rcases Ec k n with hkn | hkn
  .have hp:fs[k]? =some (fs[k]'(by omega)):=D9 _;generalize fs[k]'(by omega)=p at hp;have hc:wr.cell? (at' b k)=some (.func (.func p.1) (Uu p.2 vs) #[]):=hcell k wr p hp hI;have he:=hent p (FB hp);have hC:=hcall k wr p hp hI;clear hcell hcall hent
   go_wp2_with (first | (with_reducible refine hC.mono ?_;rintro e w2 ⟨x,rfl,hx1,hx2⟩) | go_in)
   .rename_i h;exact Gp.1 h
   .rename_i h;exact⟨⟨k+1,by omega,by rw[Int.natCast_add];rfl,hx2 (by simpa using h)⟩,by simp [intOf];omega⟩
  .obtain rfl:k=n:=by omega
   go_wp2
   exact hI
structure Mid (O:Own) (w:World) (vs:Array Value) (ps:List Sh) (O':Own) (w':World) (ys:List A):Prop where
 moves:Moves O (fun o=>o≠255) w w'
 less: ∀ b k,b<w.heap.size->O' b k≠none->O b k≠none
 VA: ∀ b k,b<w.heap.size->O b k=some 255->O' b k=some 255
 len:ys.length=ps.length
 each: ∀ j,j<ys.length->IR O' w' (256*j) (vs.getD j undef) (ys.getD j .undef)
def Mid.inv {O O':Own} {w w':World} {vs:Array Value} {ps:List Sh} {ys:List A} (h:Mid O w vs ps O' w' ys) (hI:Inv O w):Inv O' w':=by
 refine⟨fun g j p ht=> ?_,fun g n ht=> ?_⟩
 .obtain⟨h1,v,h2,h3⟩:=hI.1 g j p ht;have hb:=cell_lt h2;refine⟨?_,v,?_,h3⟩
  .cases h':O' g j with
   | none=>rfl
   | some o=>exact absurd h1 (h.less g j hb (by rw[h'];simp))
  .rw[h.moves.cell hb (fun o ho=>by rw[h1]at ho;cases ho)];exact h2
 .obtain⟨c,e,fr,h1,h2⟩:=hI.2 g n ht;have hg:g<w.heap.size:=(DT.1 h1).1;rcases h.moves.blk g hg with he | ⟨d,d',e',fr',k1,k2,k3,_⟩ | ⟨es,ck,es',ck',o,k1,_⟩
  .exact⟨c,e,fr,by rw[he];exact h1,h2⟩
  .rw[h1]at k1;injection k1 with k1;injection k1 with q1 q2 q3;subst q1;exact⟨d',e',fr',k2,k3.trans h2⟩
  .rw[h1]at k1;injection k1 with k1;cases k1
abbrev Two (k0 k1:List (Bool×CK)):Type:=(tyl (k0.map (·.2))).Val×(tyl (k1.map (·.2))).Val
instance {k0 k1:List (Bool×CK)}:Inhabited (Two k0 k1):=⟨(Ty.zero _,Ty.zero _)⟩
def aJ {T:Type} [Inhabited T]:List (T->Option (Int×T))->T->Option (Int×T)
 | [],a=>some (0,a)
 | g::r,a=>Jq (g a) fun p=>bif p.1 != 0 then some p else aJ r p.2
def AiA {T:Type} [Inhabited T] {g:T->Option (Int×T)} {r:List (T->Option (Int×T))} {a:T} {o:Int×T} (h:aJ (g::r) a=some o): ∃ e a',g a=some (e,a')/\(e≠0->o=(e,a'))/\(e=0->aJ r a'=some o):=by
 simp only[aJ]at h;cases hg:g a with
 | none=>rw[hg]at h;cases h
 | some p =>
  obtain⟨e,a'⟩:=p;rw[hg]at h;have h:(bif e != 0 then some (e,a')else aJ r a')=some o:=h;refine⟨e,a',rfl,fun he=> ?_,fun he=> ?_⟩
  .rw[Gp.2 he]at h;injection h with h;exact h.symm
  .subst he;exact h
def sgT (k0 k1:List (Bool×CK)) (g:Two k0 k1->Option (Int×Two k0 k1)):Sig:=.of [.box k0,.box k1] [.cell false (.int .i64)] g
def AuH {Js J7:List Sh} {f:ShT Js->Option (ShT (Lr Js J7))} {a:ShT Js} {o:ShT (Lr Js J7)} (hd:Wn Js (encs Js a)=some a) (h:f a=some o):(Sig.of Js J7 f).F (encs Js a)=some (encs (Lr Js J7) o):=by unfold Sig.F Sig.of;dsimp only;rw[hd];dsimp only;rw[h];rfl
def Aki {k0 k1:List (Bool×CK)}:List ((Nat×Bool)×(Two k0 k1->Option (Int×Two k0 k1)))->Prop
 | []=>True
 | q::r=>WY Tryz.prog q.1.1 q.1.2 (sgT k0 k1 q.2)/\Aki r
def Aki.mem {k0 k1:List (Bool×CK)}: ∀ {l:List ((Nat×Bool)×(Two k0 k1->Option (Int×Two k0 k1)))},Aki l-> ∀ q∈l,WY Tryz.prog q.1.1 q.1.2 (sgT k0 k1 q.2):=by
 intro l
 induction l with
 | nil=>intro _ q hq;cases hq
 | cons p r ih =>
  intro h q hq;rcases Dz.1 hq with rfl | hq
  .exact h.1
  .exact ih h.2 q hq
def AjO {k0 k1:List (Bool×CK)} (hde: ∀ a,Wn [.box k0,.box k1] (encs [.box k0,.box k1] a)=some a) (l:List ((Nat×Bool)×(Two k0 k1->Option (Int×Two k0 k1)))) (hsp:Aki l) (hl:l.length<=1000:=by exact DI rfl) :
 iW Tryz.prog 29 (l.map (·.1)) (sgT k0 k1 (aJ (l.map (·.2)))):=by
 have hsp:=hsp.mem;have hent: ∀ args w,(callFunc 29 args).run Tryz.prog w= .ok (.enter 29 args) w:=enters (fn:=Tryz.f29) (by kernel_rfl) (by kernel_rfl) (by kernel_rfl);refine⟨hent,fun O w vs xs rs b hI hv hx h100 hir hcell hF=> ?_⟩;obtain⟨a,o,e1,e2,e3⟩:=Sig.Yp hF;subst e1;subst e3;have hlen: ∀ a:Two k0 k1,(encs [.box k0,.box k1] a).length=2:=fun _=>rfl;have hF2: ∀(g:Two k0 k1->Option (Int×Two k0 k1)) (a:Two k0 k1) (r:Int×Two k0 k1),g a=some r->(sgT k0 k1 g).F (encs [.box k0,.box k1] a)=some (encs (Lr [.box k0,.box k1] [.cell false (.int .i64)]) r):=fun g a r h=>AuH (hde a) h;let I:Nat->World->Prop:=fun k w'=> ∃ O' a',Mid O w vs [.box k0,.box k1] O' w' (encs [.box k0,.box k1] a')/\aJ (T:=Two k0 k1) ((l.drop k).map (·.2)) a'=some o;refine Ano (vs:=vs) (I:=I) rfl (by simpa using hl) ⟨O,a,⟨Moves.refl _ _ _,fun _ _ _ h=>h,fun _ _ _ h=>h,rfl,hir⟩,e2⟩ (fun i w' p hp hIi=> ?_) (fun p hp=> ?_) (fun i w' p hp hIi=> ?_) (fun w' hIn=> ?_)
 .obtain⟨O',a',hM,_⟩:=hIi;obtain⟨h1,h2⟩:=hcell i p hp;rw[hM.moves.cell (cell_lt h2) (fun o ho=>by rw[h1]at ho;cases ho)];exact h2
 .obtain⟨q,hq,rfl⟩:=DF.1 hp;exact(hsp q hq).1
 .obtain⟨O',a',hM,hch⟩:=hIi;rw[Ed]at hp;cases hq:l[i]? with
  | none=>rw[hq]at hp;cases hp
  | some q =>
   rw[hq]at hp;injection hp with hp;subst hp
   have hi:i<l.length:=by
    rcases Ec i l.length with h | h
    .exact h
    .rw[DZ h]at hq;cases hq
   have hd:l.drop i=q::l.drop (i+1):=by rw[Et hi];congr 1;rw[D9 hi]at hq;injection hq
   rw[hd]at hch;obtain⟨e,a2,g1,g2,g3⟩:=AiA hch;refine((hsp q (FB hq)).2 O' w' vs (encs [.box k0,.box k1] a') _ (hM.inv hI) (show vs.size=2 from hv) rfl (show 2<=100 by omega) hM.each (hF2 _ _ _ g1)).mono ?_;rintro en w2 ⟨v,O2,rfl,hc⟩;obtain⟨us,u1,u2,u3⟩:=hc.res;have u1:us.size=1:=u1;have hM2:Moves O (fun o=>o≠255) w w2:=hM.moves.Ao9 hc.moves (fun b k o hb ho hne=>by have h1:=hM.less b k hb (by rw[ho];simp);obtain⟨o0,ho0⟩:=Option.ne_none_iff_exists'.1 h1;refine⟨o0,ho0,fun e=> ?_⟩;rw[e]at ho0;rw[hM.VA b k hb ho0]at ho;injection ho with ho;exact hne ho.symm) (fun h=>h rfl);have hless: ∀ b k,b<w.heap.size->O2 b k≠none->O b k≠none:=fun b k hb h=>hM.less b k hb (hc.less b k (ES hb hM.moves.size) h);have hjunk: ∀ b k,b<w.heap.size->O b k=some 255->O2 b k=some 255:=fun b k hb h=>hc.VA b k (ES hb hM.moves.size) (hM.VA b k hb h);have hb0:=hc.boxes 0 0 rfl;have hb1:=hc.boxes 1 1 rfl
   have hv:v= .int .i64 e:=by
    have h9:Jw O2 w2 (us.getD 0 undef) (.int .i64 e):=u3 0 (by omega);rw[u2,GZ u1];have e':us[0]=us.getD 0 undef:=by simp [Dn,u1]
    rw[e'];generalize us.getD 0 undef=u at h9;cases h9;rfl
   refine⟨e,by rw[hv],fun he=> ?_,fun he=> ?_⟩
   .rw[g2 he]
    exact⟨_,O2,rfl,hM2,hless,hjunk,rfl,⟨us,u1,by rw[<- hv];exact u2,u3⟩,fun j i hj=>by
     have hj':([0,1]:List Nat)[j]? =some i:=hj
     match j,hj' with
     | 0,h=>injection h with h;subst h;exact hb0
     | 1,h=>injection h with h;subst h;exact hb1⟩
   .refine⟨O2,a2,⟨hM2,hless,hjunk,rfl,fun j hj=> ?_⟩,g3 he⟩;have hj:j<2:=hj;have:j=0\/j=1:=by omega
    rcases this with rfl | rfl
    .exact hb0
    .exact hb1
 .obtain⟨O',a',hM,hch⟩:=hIn;rw[show l.drop (l.map (·.1)).length=[] by simp]at hch;injection hch with hch;subst hch;refine⟨_,O',rfl,hM.moves,hM.less,hM.VA,rfl,⟨#[.int .i64 0],rfl,rfl,fun k hk=> ?_⟩,fun j i hj=> ?_⟩
  .have hk:k<1:=hk;have:k=0:=by omega
   subst this;exact Jw.int _ _
  .have hj':([0,1]:List Nat)[j]? =some i:=hj
   match j,hj' with
   | 0,h=>injection h with h;subst h;exact hM.each 0 (show 0<2 by omega)
   | 1,h=>injection h with h;subst h;exact hM.each 1 (show 1<2 by omega)
structure Kn (P:Program) where
 f:Nat
 S:Sig
 h:Spec P f S
noncomputable def ksp {P:Program} (ks:List (Kn P)):List (Nat×Sig):=ks.map fun k=>(k.f,k.S)
def NM {P:Program}: ∀ ks:List (Kn P),yA P (ksp ks)
 | []=>trivial
 | k::r=>⟨k.h,NM r⟩
end Go.Proofs.YtbgjmioccbacdaaGreatDoor.Vm
