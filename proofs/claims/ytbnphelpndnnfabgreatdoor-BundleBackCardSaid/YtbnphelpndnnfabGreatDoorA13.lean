import Derived.Test.YtbnphelpndnnfabGreatDoorA11
set_option linter.all false
namespace Go.Proofs.YtbnphelpndnnfabGreatDoor.Vm
open Classical
noncomputable def allH {α :Type} (l:List Bool) (r:Option α):Option α :=
  (fun(_:Nat)=>List.rec (motive:=fun _=>Option α) r (fun c _ ih=>Bool.rec (motive:=fun _=>Option α) none ih c) l) AcN
theorem dC {α :Type}: ∀(l:List Bool) (r:Option α),allH l r=allT l r:=by
  intro l
  induction l with
  | nil=>intro r;rfl
  | cons c cs ih=>intro r;cases c<;>first | rfl | exact ih r
noncomputable def wH {α β :Type} (l:List α):(List α -> β)-> β :=
  (fun(_:Nat)=>List.rec (motive:=fun _=>(List α -> β)-> β) (fun k=>k []) (fun a _ ih k=>ih (fun l'=>k (a::l'))) l) AcN
theorem wI {α β :Type}: ∀(l:List α) (k:List α -> β),wH l k=k l:=by
  intro l
  induction l with
  | nil=>intro k;rfl
  | cons a r ih=>simp_all[wH]
noncomputable def wJ {β :Type} (st:St) (k:St-> β): β :=wH st.tmps fun tm=>wH st.Dj fun ob=>k ⟨tm,ob⟩
theorem wK {β :Type} (st:St) (k:St-> β):wJ st k=k st:=by
  unfold wJ
  rw[wI,wI]
def AlN {ρ :Type} (v:A) (k:A->Option ρ):Option ρ :=match v with
  | .bool b=>Du b fun b=>k (.bool b)
  | .cnd g (.bool b)=>Du b fun b=>k (.cnd g (.bool b))
  | v=>k v
theorem AoV {ρ :Type} (v:A) (k:A->Option ρ):AlN v k=k v:=by
  unfold AlN
  split<;>rfl
def bnd (C:Ctx) (o:Oper):Bool:=match o.dst with
  | some d=>has C.binds d
  | none=>false
noncomputable def goV {α :Type} (C:Ctx) (o:Oper) (st:St) (δ :Dl) (k:St->Option α):Option α :=match bnd C o with
  | true=>AlN δ.val fun v=>wJ (apply st o {δ with val:=v}) k
  | false=>wJ (apply st o δ) k
theorem Aoe {α :Type} (C:Ctx) (o:Oper) (st:St) (δ :Dl) (k:St->Option α):goV C o st δ k=k (apply st o δ):=by
  unfold goV
  cases bnd C o with
  | true=>exact(AoV _ _).trans (wK _ _)
  | false=>exact wK _ _
noncomputable def opsE {α :Type} (C:Ctx) (ops l:List Oper):St->(St->Option α)->Option α :=
  (fun(_:Nat)=>List.rec (motive:=fun _=>St->(St->Option α)->Option α) (fun st K=>K st) (fun o _ ih st K=>match WV C o with
    | none=>allH (Ew C ops o st).ok (goV C o st (Ew C ops o st) fun st'=>ih st' K)
    | some (f,q)=>match AeX o st q with
      | true=>allH (Ew (C.put f q.1) ops o st).ok (ih (apply st o (Ew (C.put f q.1) ops o st)) K)
      | false=>allH (Ew (C.put f q.2.1) ops o st).ok (ih (apply st o (Ew (C.put f q.2.1) ops o st)) K)) l) AcN
theorem Aq0 {α :Type} (C:Ctx) (ops:List Oper): ∀(l:List Oper) (st:St) (K:St->Option α),opsE C ops l st K=Qc C ops l st K:=by
  intro l
  induction l with
  | nil=>intro st K;rfl
  | cons o r ih =>
    intro st K
    show(match WV C o with
      | none=>allH (Ew C ops o st).ok (goV C o st (Ew C ops o st) fun st'=>opsE C ops r st' K)
      | some (f,q)=>match AeX o st q with
        | true=>allH (Ew (C.put f q.1) ops o st).ok (opsE C ops r (apply st o (Ew (C.put f q.1) ops o st)) K)
        | false=>allH (Ew (C.put f q.2.1) ops o st).ok (opsE C ops r (apply st o (Ew (C.put f q.2.1) ops o st)) K))=_
    unfold Qc
    cases WV C o with
    | none=>grind[dC,Aoe]
    | some q =>
      obtain⟨f,q⟩:=q
      dsimp only
      cases AeX o st q<;>(dsimp only[cond_true,cond_false];rw[dC,ih])
noncomputable def AmU {α :Type} (C:Ctx) (ops l:List Oper):St->(St->Option α)->Option α :=
  (fun(_:Nat)=>List.rec (motive:=fun _=>St->(St->Option α)->Option α) (fun st K=>K st) (fun o _ ih st K=>allH (Ew C ops o st).ok (goV C o st (Ew C ops o st) fun st'=>ih st' K)) l) AcN
theorem Aqz {α :Type} (C:Ctx) (ops:List Oper): ∀(l:List Oper) (st:St) (K:St->Option α),AmU C ops l st K=Qd C ops l st K:=by
  intro l
  induction l with
  | nil=>intro st K;rfl
  | cons o r ih =>
    intro st K
    show allH _ (goV C o st _ fun st'=>AmU C ops r st' K)=allT _ (Qd C ops r _ K)
    rw[dC,Aoe,ih]
noncomputable def AdI (C:Ctx) (ops:List Oper):List Oper->List (List Nat)->St->List EW
  | [],_,_=>[]
  | o::r,acc,st=>match Ew C ops o st,(QU o).flatMap (fun e=>e::acc.getD e [])with
    | δ,an=>⟨o,δ,Fh o st (En o st),oneOf C o.op (En o st),an⟩::wJ (apply st o δ) fun st'=>AdI C ops r (acc++[an]) st'
theorem Aob (C:Ctx) (ops:List Oper): ∀(l:List Oper) (acc:List (List Nat)) (st:St),AdI C ops l acc st=MR C ops l acc st:=by
  intro l
  induction l with
  | nil=>intro acc st;rfl
  | cons o r ih =>
    intro acc st
    unfold AdI MR
    dsimp only
    rw[wK,ih]
noncomputable def AlE:List Oper->List Nat->List Nat
  | [],_=>[]
  | o::r,acc=>(QU o).foldr (fun e m=>((2 ^ e) ||| acc.getD e 0) ||| m) 0::wH (acc++[(QU o).foldr (fun e m=>((2 ^ e) ||| acc.getD e 0) ||| m) 0]) fun acc'=>AlE r acc'
def Aeu (ops:List Oper) (i:Nat) (x:EW):List EW->List Nat->Bool
  | [],_=>true
  | y::r,b=>(MI y.news x.says&&MI y.news x.keys&&((b.headD 0).testBit i||indep ops x y))&&Aeu ops i x r b.tail
def Aet (ops:List Oper):Nat->List EW->List Nat->Bool
  | _,[],_=>true
  | i,x::r,b=>Aeu ops i x r b.tail&&Aet ops (i+1) r b.tail
def Aaj:List EW->List Nat->Prop
  | [],_=>True
  | y::r,b=>(∀ i,has y.anc i=(b.headD 0).testBit i)/\Aaj r b.tail
theorem Ao5 (ops:List Oper) (i:Nat) (x:EW): ∀(r:List EW) (b:List Nat),Aaj r b->Aeu ops i x r b=r.all (UX ops i x):=by
  intro r
  induction r with
  | nil=>intro b _;rfl
  | cons y r ih=>grind[Aeu,Aaj,UX]
theorem Ao4 (ops:List Oper): ∀(r:List EW) (i:Nat) (b:List Nat),Aaj r b->Aet ops i r b=Xw ops i r:=by
  intro r
  induction r with
  | nil=>intro i b _;rfl
  | cons x r ih=>grind[Aet,Xw,Ao5,Aaj]
theorem AcY (acc:List (List Nat)) (accB:List Nat) (h: ∀ e i,has (acc.getD e []) i=(accB.getD e 0).testBit i) (i:Nat): ∀ es:List Nat,has (es.flatMap fun e=>e::acc.getD e []) i=(es.foldr (fun e m=>((2 ^ e) ||| accB.getD e 0) ||| m) 0).testBit i:=by
  intro es
  induction es with
  | nil=>grind[has]
  | cons e r ih =>
    rw[List.flatMap_cons,List.foldr_cons,Nat.testBit_or,Nat.testBit_or,Nat.testBit_two_pow,<- ih,<- h e i]
    have hb:Nat.beq i e=decide (e=i):=by
      by_cases hh:e=i
      ·simp_all[has]
      ·rw[decide_eq_false hh]
       apply Bool.eq_false_iff.2
       intro h
       exact hh (Nat.eq_of_beq_eq_true h).symm
    all_goals grind[has]
theorem Anc (C:Ctx) (ops:List Oper): ∀(l:List Oper) (acc:List (List Nat)) (accB:List Nat) (st:St),acc.length=accB.length->(∀ e i,has (acc.getD e []) i=(accB.getD e 0).testBit i)->Aaj (MR C ops l acc st) (AlE l accB):=by
  intro l
  induction l with
  | nil=>intro acc accB st _ _;trivial
  | cons o r ih =>
    intro acc accB st hl h
    unfold MR AlE
    dsimp only
    rw[wI]
    refine⟨fun i=>AcY acc accB h i _,ih _ _ _ (by simp [hl]) fun e i=> ?_⟩
    rcases Nat.lt_trichotomy e acc.length with he | he | he
    ·rw[List.getD_eq_getElem?_getD,List.getD_eq_getElem?_getD,List.getElem?_append_left he,List.getElem?_append_left (by omega),<- List.getD_eq_getElem?_getD,<- List.getD_eq_getElem?_getD]
     exact h e i
    ·rw[List.getD_eq_getElem?_getD,List.getD_eq_getElem?_getD,List.getElem?_append_right (by omega),List.getElem?_append_right (by omega),show e - acc.length=0 by omega,show e - accB.length=0 by omega]
     exact AcY acc accB h i _
    ·rw[List.getD_eq_getElem?_getD,List.getD_eq_getElem?_getD,List.getElem?_eq_none (by simp;omega),List.getElem?_eq_none (by simp;omega)]
     show false=Nat.testBit 0 i
     rw[Nat.zero_testBit]
noncomputable def Af6 (C:Ctx) (ops:List Oper) (st:St):Bool :=
  match AdI C ops ops [] st with
  | fs=>ordered ops&&Aet ops 0 fs (AlE ops [])&&(fs.flatMap EW.news).all st.fresh&&sorted st.Dj
theorem Amk (C:Ctx) (ops:List Oper) (st:St):Af6 C ops st=LM C ops st:=by
  unfold Af6 LM
  rw[Aob]
  dsimp only
  rw[Ao4 _ _ _ _ (Anc C ops ops [] [] st rfl fun e i=>by show false=Nat.testBit 0 i;rw[Nat.zero_testBit])]
def gY {ρ :Type} (C:Ctx) (key:Nat) (st:St) (K:St->Option ρ):Option ρ :=
  match norm C key st with
  | (ok,st')=>match ok with
    | true=>K st'
    | false=>none
theorem Aem {ρ :Type} (C:Ctx) (key:Nat) (st:St) (K:St->Option ρ):gY C key st K=LP C key st K:=by
  unfold gY LP
  generalize norm C key st=q
  obtain⟨ok,st'⟩:=q
  cases ok<;>rfl
def Rl {ρ :Type} (C:Ctx) (kind:Nat) (c:Code) (st:St) (K:St->Option ρ):Option ρ :=
  match F8 c with
  | some n=>gY C (4*n+kind) st K
  | none=>(fun(_:Nat)=>K st) AcN
theorem Yn {ρ :Type} (C:Ctx) (kind:Nat) (c:Code) (st:St) (K:St->Option ρ):Rl C kind c st K=meet C kind c st K:=by grind[Rl,meet,F8,Aem]
inductive HK where
  | b | i (k:IntKind) | s | l (t:Ty) | ln (t:Ty) | n | m (kt vt:Ty)
def HK.T:HK->Type
  | .b=>Bool
  | .i _=>Int
  | .s=>List UInt8
  | .l t=>List t.Val
  | .ln t=>List t.Val
  | .n=>Nat
  | .m kt vt=>List (kt.Val×vt.Val)
def HK.enc:(h:HK)->h.T->A
  | .b,v=>.bool v
  | .i k,v=>.int k v
  | .s,v=>.str v
  | .l t,v=>.sl ⟨t,v⟩
  | .ln t,v=>.sln ⟨t,v⟩
  | .n,v=>.fn v
  | .m kt vt,v=>.ump ⟨kt,vt,v⟩
def ApY:A->Nat | .fn n=>n | _=>0
def isFn:A->Bool | .fn _=>true | _=>false
def HK.is:HK->A->Bool
  | .b,a=>a.isB
  | .i k,a=>a.isI k
  | .s,a=>a.isS
  | .l t,a=>a.AfI t
  | .ln t,a=>a.zZ t
  | .n,a=>isFn a
  | .m kt vt,a=>a.l9 kt vt
def HK.dec:(h:HK)->A->h.T
  | .b,a=>a.toB
  | .i _,a=>a.toI
  | .s,a=>a.toS
  | .l t,a=>(a.toL.cast t).getD []
  | .ln t,a=>(a.toL.cast t).getD []
  | .n,a=>ApY a
  | .m kt vt,a=>(a.toM.cast kt vt).getD []
theorem HK.Af9 {h:HK} {a:A} (ha:h.is a=true):h.enc (h.dec a)=a:=by
  cases h with
  | b=>cases a<;>first | rfl | cases ha
  | i k =>
    cases a<;>first
      | (rename_i k' n;have:=A.J3 (show A.kEq k k'=true from ha);subst this;rfl)
      | cases ha
  | s=>cases a<;>first | rfl | cases ha
  | l t =>
    cases a<;>first
      | (rename_i l
         have e:l.t=t:=of_decide_eq_true ha
         obtain⟨t',xs⟩:=l
         dsimp only at e
         subst e
         show A.sl ⟨t',((Sl.cast ⟨t',xs⟩ t').getD [])⟩=_
         rw[Sl.UF];rfl)
      | cases ha
  | ln t =>
    cases a<;>first
      | (rename_i l
         have e:l.t=t:=of_decide_eq_true ha
         obtain⟨t',xs⟩:=l
         dsimp only at e
         subst e
         show A.sln ⟨t',((Sl.cast ⟨t',xs⟩ t').getD [])⟩=_
         rw[Sl.UF];rfl)
      | cases ha
  | n=>cases a<;>first | rfl | cases ha
  | m kt vt =>
    obtain⟨l,rfl,h1,h2⟩:=lC (show A.l9 kt vt a=true from ha)
    obtain⟨k,v,xs⟩:=l
    dsimp only at h1 h2
    subst h1;subst h2
    show A.ump ⟨k,v,((Mp.cast ⟨k,v,xs⟩ k v).getD [])⟩=_
    rw[Mp.UF];rfl
def pr2 (α β :Type):List HK->Type
  | []=> α
  | _::_=> α × β
def HV:List HK->Type
  | []=>Unit
  | h::r=>pr2 h.T (HV r) r
def hdH (h:HK):(r:List HK)->pr2 h.T (HV r) r->h.T
  | [],v=>v
  | _::_,v=>v.1
def tlH (h:HK):(r:List HK)->pr2 h.T (HV r) r->HV r
  | [],_=>()
  | _::_,v=>v.2
def mkH (h:HK):(r:List HK)->h.T->HV r->pr2 h.T (HV r) r
  | [],a,_=>a
  | _::_,a,b=>(a,b)
theorem Ari (h:HK) (r:List HK) (a:h.T) (b:HV r):hdH h r (mkH h r a b)=a:=by cases r<;>rfl
theorem Ar8 (h:HK) (r:List HK) (a:h.T) (b:HV r):tlH h r (mkH h r a b)=b:=by cases r<;>rfl
def HV.enc:(hs:List HK)->HV hs->List A
  | [],_=>[]
  | h::r,v=>h.enc (hdH h r v)::HV.enc r (tlH h r v)
def HV.dec:(hs:List HK)->List A->HV hs
  | [],_=>()
  | h::r,xs=>mkH h r (h.dec (xs.headD .undef)) (HV.dec r xs.tail)
def HV.Is:List HK->List A->Prop
  | [],[]=>True
  | h::r,x::xs=>h.is x=true/\HV.Is r xs
  | _,_=>False
theorem HV.Af9: ∀(hs:List HK) (xs:List A),HV.Is hs xs->HV.enc hs (HV.dec hs xs)=xs:=by
  intro hs
  induction hs with
  | nil=>intro xs h;cases xs with | nil=>rfl | cons _ _=>cases h
  | cons h r ih =>
    intro xs hx
    cases xs with
    | nil=>cases hx
    | cons x xs =>
      show h.enc (hdH h r (mkH h r (h.dec x) (HV.dec r xs)))::HV.enc r (tlH h r (mkH h r (h.dec x) (HV.dec r xs)))=_
      rw[Ari,Ar8,HK.Af9 hx.1,ih xs hx.2]
theorem HV.Is.append: ∀ {hs hs':List HK} {xs ys:List A},HV.Is hs xs->HV.Is hs' ys->HV.Is (hs++hs') (xs++ys):=by
  intro hs
  induction hs with
  | nil=>intro hs' xs ys h h';cases xs with | nil=>exact h' | cons _ _=>cases h
  | cons h r ih=>intro hs' xs ys hx h';cases xs with | nil=>cases hx | cons x xs=>exact⟨hx.1,ih hx.2 h'⟩
theorem HV.Is.length: ∀ {hs:List HK} {xs:List A},HV.Is hs xs->xs.length=hs.length:=by
  intro hs
  induction hs with
  | nil=>intro xs h;cases xs with | nil=>rfl | cons _ _=>cases h
  | cons h r ih=>intro xs hx;cases xs with | nil=>cases hx | cons x xs=>simp [ih hx.2]
inductive Pc where
  | h (k:HK) | oe (o off:Nat) | c (a:A)
inductive Pt where
  | i | c (p:Pc) | agg (l:List Pc) | elt (l:List Pc)
inductive Po where
  | box (l:List Pc) | arr (e:Nat) (frz:Bool) (t:Ty) | D5 (e:Nat) (frz:Bool) (t:Ty) | mp (kt vt:Ty)
structure Spe where
  ts:List (Nat×Pt)
  os:List (Nat×Po)
def LZ:A->Bool | .undef=>true | _=>false
def OY (a:A):Bool:=a.ids.isEmpty&& !(gK a)
def same:A->A->Bool
  | .undef,.undef=>true
  | .ER,.ER=>true
  | .Fj,.Fj=>true
  | .bool a,.bool b=>a==b
  | .int k a,.int k' b=>A.kEq k k'&&a==b
  | .str a,.str b=>a==b
  | .sl l,.sl l'=>decide (l.t=l'.t)&&(l.xs.isEmpty&&l'.xs.isEmpty)
  | .ptr o p,.ptr o' p'=>Nat.beq o o'&&Nat.beq p p'
  | .own o,.own o'=>Nat.beq o o'
  | .EN o i p,.EN o' i' p'=>Nat.beq o o'&&(Nat.beq i i'&&Nat.beq p p')
  | .fn f,.fn f'=>Nat.beq f f'
  | .clo f o,.clo f' o'=>Nat.beq f f'&&Nat.beq o o'
  | .bsl o n,.bsl o' n'=>Nat.beq o o'&&Nat.beq n n'
  | .osl o n,.osl o' n'=>Nat.beq o o'&&Nat.beq n n'
  | _,_=>false
theorem same_eq {a b:A} (h:same a b=true):a=b:=by
  unfold same at h
  split at h
  ·rfl
  ·rfl
  ·rfl
  ·rw[eq_of_beq h]
  ·grind[A.J3]
  ·rw[eq_of_beq h]
  ·rename_i l l'
   simp only[Bool.and_eq_true,decide_eq_true_eq,List.isEmpty_iff]at h
   obtain⟨t,xs⟩:=l
   obtain⟨t',xs'⟩:=l'
   all_goals grind[same]
  all_goals simp_all[same]
namespace Pc
def hs:Pc->List HK
  | .h k=>[k]
  | .oe _ _=>[.n]
  | .c _=>[]
def nh:Pc->Nat
  | .c _=>0
  | _=>1
def emb:Pc->List A->A
  | .h _,xs=>xs.headD .undef
  | .oe o off,xs=>.EN o (ApY (xs.headD .undef)) off
  | .c a,_=>a
def un:Pc->A->List A
  | .h _,a=>[a]
  | .oe _ _,.EN _ i _=>[.fn i]
  | .oe _ _,_=>[.fn 0]
  | .c _,_=>[]
def fits:Pc->A->List Bool
  | .h k,a=>[k.is a]
  | .oe o off,.EN o' _ off'=>[Nat.beq o o',Nat.beq off off']
  | .oe _ _,_=>[false]
  | .c x,a=>[same x a]
theorem Nq {p:Pc} {a:A} (h:D7 (p.fits a)) (r:List A):p.emb (p.un a++r)=a/\(p.un a++r).drop p.nh=r/\HV.Is p.hs (p.un a):=by
  cases p with
  | h k=>exact⟨rfl,rfl,h.cons.1,trivial⟩
  | oe o off =>
    cases a<;>first
      | (have h1:=h.cons.1;have h2:=h.cons.2.cons.1
         rw[Nat.eq_of_beq_eq_true h1,Nat.eq_of_beq_eq_true h2]
         exact⟨rfl,rfl,rfl,trivial⟩)
      | exact absurd h.cons.1 (by decide)
  | c x=>exact⟨same_eq h.cons.1,rfl,trivial⟩
end Pc
def hsC:List Pc->List HK
  | []=>[]
  | p::r=>p.hs++hsC r
def nhC:List Pc->Nat
  | []=>0
  | p::r=>p.nh+nhC r
def Af7:List Pc->List A->List A
  | [],_=>[]
  | p::r,xs=>p.emb xs::Af7 r (xs.drop p.nh)
def unC:List Pc->List A->List A
  | p::r,a::aa=>p.un a++unC r aa
  | _,_=>[]
def AdG:List Pc->List A->List Bool
  | [],[]=>[]
  | p::r,a::aa=>p.fits a++AdG r aa
  | _,_=>[false]
theorem Af8: ∀(l:List Pc) (aa:List A),D7 (AdG l aa)-> ∀ r,Af7 l (unC l aa++r)=aa/\(unC l aa++r).drop (nhC l)=r/\HV.Is (hsC l) (unC l aa):=by
  intro l
  induction l with
  | nil=>intro aa h r;cases aa with | nil=>exact⟨rfl,rfl,trivial⟩ | cons _ _=>exact absurd h.cons.1 (by decide)
  | cons p l ih =>
    intro aa h r
    cases aa with
    | nil=>exact absurd h.cons.1 (by decide)
    | cons a aa =>
      obtain⟨h1,h2⟩:=h.append
      obtain⟨e1,e2,e3⟩:=p.Nq h1 (unC l aa++r)
      obtain⟨f1,f2,f3⟩:=ih aa h2 r
      refine⟨?_,?_,e3.append f3⟩
      ·grind[unC,Af7,drop]
      ·show((p.un a++unC l aa)++r).drop (p.nh+nhC l)=_
       rw[List.append_assoc,<- List.drop_drop,e2,f2]
namespace Pt
def hs:Pt->List HK
  | .i=>[]
  | .c p=>p.hs
  | .agg l=>hsC l
  | .elt l=>hsC l
def nh:Pt->Nat
  | .i=>0
  | .c p=>p.nh
  | .agg l=>nhC l
  | .elt l=>nhC l
def emb:Pt->A->List A->A
  | .i,b,_=>b
  | .c p,_,xs=>p.emb xs
  | .agg l,_,xs=>.agg (Af7 l xs)
  | .elt l,_,xs=>.elt (Af7 l xs)
def un:Pt->A->List A
  | .i,_=>[]
  | .c p,a=>p.un a
  | .agg l,.agg cs=>unC l cs
  | .elt l,.elt cs=>unC l cs
  | _,_=>[]
def fits:Pt->A->A->List Bool
  | .i,b,a=>[OY b,!(LZ a)]
  | .c p,_,a=>p.fits a
  | .agg l,_,.agg cs=>AdG l cs
  | .elt l,_,.elt cs=>AdG l cs
  | _,_,_=>[false]
def isI:Pt->Bool | .i=>true | _=>false
theorem Nq {p:Pt} {b a:A} (h:D7 (p.fits b a)) (hi:p= .i->OY b=true->LZ a=false->a=b) (r:List A):p.emb b (p.un a++r)=a/\(p.un a++r).drop p.nh=r/\HV.Is p.hs (p.un a):=by
  cases p with
  | i =>
    refine⟨(hi rfl h.cons.1 ?_).symm,rfl,trivial⟩
    have:=h.cons.2.cons.1
    simpa using this
  | c p=>exact p.Nq h r
  | agg l =>
    cases a<;>first
      | (obtain⟨h1,h2,h3⟩:=Af8 l _ h r;exact⟨congrArg A.agg h1,h2,h3⟩)
      | exact absurd h.cons.1 (by decide)
  | elt l =>
    cases a<;>first
      | (obtain⟨h1,h2,h3⟩:=Af8 l _ h r;exact⟨congrArg A.elt h1,h2,h3⟩)
      | exact absurd h.cons.1 (by decide)
end Pt
def hsT:List (Nat×Pt)->List HK
  | []=>[]
  | (_,p)::r=>p.hs++hsT r
def nhT:List (Nat×Pt)->Nat
  | []=>0
  | (_,p)::r=>p.nh+nhT r
def kN:List A->Nat->List (Nat×Pt)->List A->List A
  | [],_,_,_=>[]
  | _::bs,i,[],xs=>.undef::kN bs (i+1) [] xs
  | b::bs,i,(j,p)::ts,xs=>bif Nat.beq i j then p.emb b xs::kN bs (i+1) ts (xs.drop p.nh)else .undef::kN bs (i+1) ((j,p)::ts) xs
def unT:List A->Nat->List (Nat×Pt)->List A
  | [],_,_=>[]
  | _::_,_,[]=>[]
  | a::aa,i,(j,p)::ts=>bif Nat.beq i j then p.un a++unT aa (i+1) ts else unT aa (i+1) ((j,p)::ts)
def fitsT:List A->List A->Nat->List (Nat×Pt)->List Bool
  | [],[],_,[]=>[]
  | _::bs,a::aa,i,[]=>LZ a::fitsT bs aa (i+1) []
  | b::bs,a::aa,i,(j,p)::ts=>bif Nat.beq i j then p.fits b a++fitsT bs aa (i+1) ts else LZ a::fitsT bs aa (i+1) ((j,p)::ts)
  | _,_,_,_=>[false]
theorem AdZ {a:A} (h:LZ a=true):a= .undef:=by cases a<;>first | rfl | cases h
theorem Aqn: ∀(bs aa:List A) (i:Nat) (ts:List (Nat×Pt)),D7 (fitsT bs aa i ts)->(∀ t,((t,Pt.i):Nat×Pt)∈ts->i<=t->OY (bs.getD (t - i) .undef)=true->LZ (aa.getD (t - i) .undef)=false->aa.getD (t - i) .undef=bs.getD (t - i) .undef) ->
    ∀ r,kN bs i ts (unT aa i ts++r)=aa/\(unT aa i ts++r).drop (nhT ts)=r/\HV.Is (hsT ts) (unT aa i ts):=by
  intro bs
  induction bs with
  | nil =>
    intro aa i ts h _ r
    cases aa with
    | nil=>cases ts with | nil=>exact⟨rfl,rfl,trivial⟩ | cons _ _=>exact absurd h.cons.1 (by decide)
    | cons _ _=>exact absurd h.cons.1 (by decide)
  | cons b bs ih =>
    intro aa i ts h hi r
    have hstep: ∀ ts':List (Nat×Pt),(∀ t,(t,Pt.i)∈ts'->((t,Pt.i):Nat×Pt)∈ts)-> ∀(a:A) (as':List A),aa=a::as'-> ∀ t,(t,Pt.i)∈ts'->i+1<=t->OY (bs.getD (t - (i+1)) .undef)=true->LZ (as'.getD (t - (i+1)) .undef)=false->as'.getD (t - (i+1)) .undef=bs.getD (t - (i+1)) .undef:=by
      all_goals grind[Pt,D7,fitsT,OY,LZ,kN]
    cases aa with
    | nil=>cases ts<;>exact absurd h.cons.1 (by decide)
    | cons a aa =>
      cases ts with
      | nil =>
        have h':D7 (LZ a::fitsT bs aa (i+1) []):=h
        obtain⟨f1,f2,f3⟩:=ih aa (i+1) [] h'.cons.2 (fun t ht=>by cases ht) r
        have hu:=AdZ h'.cons.1
        refine⟨?_,rfl,trivial⟩
        show A.undef::kN bs (i+1) [] ([]++r)=a::aa
        have e0:unT aa (i+1) []=[]:=by cases aa<;>rfl
        rw[e0]at f1
        rw[hu,f1]
      | cons q ts =>
        obtain⟨j,p⟩:=q
        have h':D7 (bif Nat.beq i j then p.fits b a++fitsT bs aa (i+1) ts else LZ a::fitsT bs aa (i+1) ((j,p)::ts)):=h
        cases hb:Nat.beq i j with
        | true =>
          rw[hb]at h'
          obtain⟨h1,h2⟩:=D7.append h'
          have hij:=Nat.eq_of_beq_eq_true hb
          subst hij
          obtain⟨e1,e2,e3⟩:=Pt.Nq h1 (fun hp hpl hu=>by
            have:=hi i (by rw[<- hp];exact List.mem_cons_self) (Nat.le_refl _)
            rw[Nat.sub_self]at this
            exact this hpl hu) (unT aa (i+1) ts++r)
          obtain⟨f1,f2,f3⟩:=ih aa (i+1) ts h2 (hstep ts (fun t ht=>List.mem_cons_of_mem _ ht) a aa rfl) r
          have u0:unT (a::aa) i ((i,p)::ts)=p.un a++unT aa (i+1) ts:=by
            show(bif Nat.beq i i then _ else _)=_
            rw[hb];rfl
          refine⟨?_,?_,?_⟩
          ·rw[u0]
           show(bif Nat.beq i i then _ else _)=_
           rw[hb]
           show p.emb b ((p.un a++unT aa (i+1) ts)++r)::kN bs (i+1) ts (((p.un a++unT aa (i+1) ts)++r).drop p.nh)=_
           rw[List.append_assoc,e1,e2,f1]
          ·rw[u0]
           show((p.un a++unT aa (i+1) ts)++r).drop (p.nh+nhT ts)=_
           rw[List.append_assoc,<- List.drop_drop,e2,f2]
          ·rw[u0];exact e3.append f3
        | false =>
          rw[hb]at h'
          obtain⟨f1,f2,f3⟩:=ih aa (i+1) ((j,p)::ts) h'.cons.2 (hstep _ (fun t ht=>ht) a aa rfl) r
          have hu:=AdZ h'.cons.1
          have u0:unT (a::aa) i ((j,p)::ts)=unT aa (i+1) ((j,p)::ts):=by
            show(bif Nat.beq i j then _ else _)=_
            rw[hb];rfl
          refine⟨?_,?_,?_⟩
          ·rw[u0]
           show(bif Nat.beq i j then _ else _)=_
           rw[hb]
           show A.undef::kN bs (i+1) ((j,p)::ts) (unT aa (i+1) ((j,p)::ts)++r)=_
           rw[hu,f1]
          ·rw[u0];exact f2
          ·rw[u0];exact f3
namespace Po
def hs:Po->List HK
  | .box l=>hsC l
  | .arr _ _ t=>[.l t]
  | .D5 _ _ _=>[]
  | .mp kt vt=>[.m kt vt]
def nh:Po->Nat
  | .box l=>nhC l
  | .arr _ _ _=>1
  | .D5 _ _ _=>0
  | .mp _ _=>1
def emb:Po->List A->Obj
  | .box l,xs=>.box (Af7 l xs)
  | .arr e f _,xs=>.arr e f (xs.headD .undef).toL
  | .D5 e f t,_=>.arr e f ⟨t,[]⟩
  | .mp _ _,xs=>.mp (xs.headD .undef).toM
def un:Po->Obj->List A
  | .box l,.box cs=>unC l cs
  | .arr _ _ _,.arr _ _ l=>[.sl l]
  | .mp _ _,.mp l=>[.ump l]
  | _,_=>[]
def fits:Po->Obj->List Bool
  | .box l,.box cs=>AdG l cs
  | .arr e f t,.arr e' f' l=>[Nat.beq e e',f==f',decide (l.t=t)]
  | .D5 e f t,.arr e' f' l=>[Nat.beq e e',f==f',decide (l.t=t),l.xs.isEmpty]
  | .mp kt vt,.mp l=>[A.l9 kt vt (.ump l)]
  | _,_=>[false]
theorem Nq {p:Po} {x:Obj} (h:D7 (p.fits x)) (r:List A):p.emb (p.un x++r)=x/\(p.un x++r).drop p.nh=r/\HV.Is p.hs (p.un x):=by
  cases p with
  | box l =>
    cases x with
    | box cs=>obtain⟨h1,h2,h3⟩:=Af8 l cs h r;exact⟨congrArg Obj.box h1,h2,h3⟩
    | arr _ _ _=>exact absurd h.cons.1 (by decide)
    | mp _=>exact absurd h.cons.1 (by decide)
  | mp kt vt =>
    cases x with
    | box cs=>exact absurd h.cons.1 (by decide)
    | arr _ _ _=>exact absurd h.cons.1 (by decide)
    | mp l=>exact⟨rfl,rfl,h.cons.1,trivial⟩
  | arr e f t =>
    cases x with
    | box cs=>exact absurd h.cons.1 (by decide)
    | mp _=>exact absurd h.cons.1 (by decide)
    | arr e' f' l =>
      have h1:=Nat.eq_of_beq_eq_true h.cons.1
      have h2:=eq_of_beq h.cons.2.cons.1
      have h3:=h.cons.2.cons.2.cons.1
      subst h1;subst h2
      exact⟨rfl,rfl,h3,trivial⟩
  | D5 e f t =>
    cases x with
    | box cs=>exact absurd h.cons.1 (by decide)
    | mp _=>exact absurd h.cons.1 (by decide)
    | arr e' f' l =>
      have h1:=Nat.eq_of_beq_eq_true h.cons.1
      have h2:=eq_of_beq h.cons.2.cons.1
      have h3:=of_decide_eq_true h.cons.2.cons.2.cons.1
      have h4:=List.isEmpty_iff.1 h.cons.2.cons.2.cons.2.cons.1
      obtain⟨t',xs⟩:=l
      dsimp only at h3 h4
      subst h1;subst h2;subst h3;subst h4
      exact⟨rfl,rfl,trivial⟩
end Po
def hsO:List (Nat×Po)->List HK
  | []=>[]
  | (_,p)::r=>p.hs++hsO r
def Amm:List (Nat×Po)->List A->List (Nat×Obj)
  | [],_=>[]
  | (n,p)::r,xs=>(n,p.emb xs)::Amm r (xs.drop p.nh)
def unO:List (Nat×Po)->List (Nat×Obj)->List A
  | (_,p)::r,(_,x)::l=>p.un x++unO r l
  | _,_=>[]
def Aih:List (Nat×Po)->List (Nat×Obj)->List Bool
  | [],[]=>[]
  | (n,p)::r,(k,x)::l=>Nat.beq n k::p.fits x++Aih r l
  | _,_=>[false]
theorem Aqm: ∀(os:List (Nat×Po)) (l:List (Nat×Obj)),D7 (Aih os l)->Amm os (unO os l)=l/\HV.Is (hsO os) (unO os l):=by
  intro os
  induction os with
  | nil=>intro l h;cases l with | nil=>exact⟨rfl,trivial⟩ | cons _ _=>exact absurd h.cons.1 (by decide)
  | cons q os ih =>
    intro l h
    cases l with
    | nil=>exact absurd h.cons.1 (by decide)
    | cons y l =>
      obtain⟨n,p⟩:=q
      obtain⟨k,x⟩:=y
      have h':D7 ((Nat.beq n k::p.fits x)++Aih os l):=h
      obtain⟨h1,h2⟩:=h'.append
      have hn:=Nat.eq_of_beq_eq_true h1.cons.1
      subst hn
      obtain⟨e1,e2,e3⟩:=p.Nq h1.cons.2 (unO os l)
      obtain⟨f1,f3⟩:=ih l h2
      refine⟨?_,e3.append f3⟩
      all_goals grind[unO,Amm,drop]
namespace Spe
def hs (sh:Spe):List HK:=hsT sh.ts++hsO sh.os
def emb (sh:Spe) (b:St) (v:HV sh.hs):St:=⟨kN b.tmps 0 sh.ts (HV.enc sh.hs v),Amm sh.os ((HV.enc sh.hs v).drop (nhT sh.ts))⟩
def un (sh:Spe) (st:St):HV sh.hs:=HV.dec sh.hs (unT st.tmps 0 sh.ts++unO sh.os st.Dj)
def fits (sh:Spe) (b st:St):List Bool:=fitsT b.tmps st.tmps 0 sh.ts++Aih sh.os st.Dj
noncomputable def enter {ρ :Type} (sh:Spe) (b st:St) (j:HV sh.hs->Option ρ):Option ρ :=allH (sh.fits b st) (j (sh.un st))
def okI (sh:Spe) (W:List Nat):Bool:=sh.ts.all fun q=> !(q.2.isI)|| !(has W q.1)
end Spe
def xb:Pc:=.h .b
def x64:Pc:=.h (.i .i64)
def x8:Pc:=.h (.i .u8)
def xi (k:IntKind):Pc:=.h (.i k)
def xs:Pc:=.h .s
def xl (t:Ty):Pc:=.h (.l t)
def xo (o:Nat):Pc:=.c (.own o)
def x0:Pc:=.c .ER
def R (W:List Nat) (st st':St):Prop:= ∀ t,t∉W->OY (st.tmps.getD t .undef)=true->st'.tmps.getD t .undef=st.tmps.getD t .undef\/st'.tmps.getD t .undef= .undef
theorem R.refl (W:List Nat) (st:St):R W st st:=fun _ _ _=>.inl rfl
theorem R.trans {W:List Nat} {a b c:St} (h1:R W a b) (h2:R W b c):R W a c:=by
  intro t ht hp
  rcases h1 t ht hp with e | e
  ·grind[R]
  ·rcases h2 t ht (by rw[e];rfl)with e' | e'
   all_goals grind[R]
theorem R.mono {W W':List Nat} {a b:St} (h:R W a b) (hs: ∀ t∈W,t∈W'):R W' a b:=fun t ht hp=>h t (fun h'=>ht (hs t h')) hp
theorem R.of_eq {W:List Nat} {a b:St} (h:a.tmps=b.tmps):R W a b:=fun _ _ _=>.inl (by rw[h])
theorem R.none {W:List Nat} {a b:St} (h:R [] a b):R W a b:=h.mono (fun _ h=>by cases h)
theorem Spe.Nq {sh:Spe} {W:List Nat} {b st:St} (h:D7 (sh.fits b st)) (hi:sh.okI W=true) (hr:R W b st):sh.emb b (sh.un st)=st:=by
  obtain⟨h1,h2⟩:=h.append
  obtain⟨f1,f3⟩:=Aqm _ _ h2
  obtain⟨e1,e2,e3⟩:=Aqn _ _ 0 _ h1 (fun t ht _ hp hu=>by
    rw[Nat.sub_zero]at hp hu ⊢
    have hw:t∉W:=by
      have:=List.all_eq_true.1 hi _ ht
      intro hm
      rw[show has W t=true by simp only[has,List.any_eq_true];exact⟨t,hm,by simp⟩]at this
      cases this
    rcases hr t hw hp with e | e
    ·exact e
    ·rw[e]at hu;cases hu) (unO sh.os st.Dj)
  unfold Spe.emb Spe.un
  rw[HV.Af9 _ _ (show HV.Is sh.hs _ from e3.append f3),e1,e2,f1]
theorem Acm (l:List A) (d t:Nat) (v:A) (h:t≠d):(l.set d v).getD t .undef=l.getD t .undef:=by grind
theorem ArN: ∀(l:List (Option Nat×Nat×Ty)) (st:St),R [] st (pzs l st):=by
  intro l
  induction l with
  | nil=>intro st;exact R.refl _ _
  | cons q r ih =>
    intro st
    obtain⟨b,t,ty⟩:=q
    have hset: ∀(v:A) (Dj:List (Nat×Obj)),OY (st.tmps.getD t .undef)=false->R [] st {tmps:=st.tmps.set t v,Dj:=Dj}:=by
      intro v Dj hp k _ hk
      all_goals grind[Acm]
    cases b with
    | none =>
      unfold pzs
      split
      ·rename_i e
       exact(hset _ _ (by rw[e];rfl)).trans (ih _)
      ·rename_i o e
       split
       ·exact(hset _ _ (by rw[e];rfl)).trans (ih _)
       ·exact ih _
      ·exact ih _
    | some b =>
      unfold pzs
      split
      ·split
       ·split
        ·refine R.trans ?_ (ih _);exact R.of_eq rfl
        ·exact ih _
       ·exact ih _
      ·exact ih _
theorem getD_drop (keep:List Nat): ∀(l:List A) (i t:Nat),(drop keep l i).getD t .undef=l.getD t .undef\/(drop keep l i).getD t .undef= .undef:=by
  intro l
  induction l with
  | nil=>intro i t;exact .inl rfl
  | cons a l ih =>
    intro i t
    cases t with
    | zero=>grind[has,drop]
    | succ t=>exact ih (i+1) t
theorem AmZ {f t:Nat} {a:A} (h:OY a=true):GY f t a=a:=by
  unfold OY at h
  rw[Bool.and_eq_true,List.isEmpty_iff]at h
  have h1:=h.1
  cases a with
  | ptr o off=>cases h1
  | own o=>cases h1
  | clo _ _=>cases h1
  | bsl _ _=>cases h1
  | osl _ _=>cases h1
  | EN o i off=>cases h1
  | agg cs =>
    have h2:cs.flatMap A.FN=[]:=h1
    rw[List.flatMap_eq_nil_iff]at h2
    show A.agg (cs.map _)=A.agg cs
    congr 1
    conv=>rhs;rw[<- List.map_id cs]
    refine List.map_congr_left fun c hc=> ?_
    have:=h2 c hc
    cases c<;>first | rfl | cases this
  | _=>rfl
theorem Ar2: ∀(l:List (Nat×Nat)) (st:St),R [] st (yY st l).2:=by
  intro l
  induction l with
  | nil=>intro st;exact R.refl _ _
  | cons q r ih =>
    intro st
    obtain⟨f,t⟩:=q
    unfold yY
    cases hx:Dy st.Dj f with
    | none=>exact ih st
    | some x =>
      have h1:R [] st {tmps:=st.tmps.map (GY f t),Dj:=(EZ (KD st.Dj f) t x).map (fun p=>(p.1,yX f t p.2))}:=by
        intro k _ hk
        left
        show(st.tmps.map (GY f t)).getD k .undef=_
        rw[List.getD_eq_getElem?_getD,List.getElem?_map]
        rw[List.getD_eq_getElem?_getD]at hk ⊢
        cases hs:st.tmps[k]? with
        | none=>rfl
        | some a =>
          rw[hs]at hk
          exact AmZ hk
      exact h1.trans (ih _)
theorem AkA (id:Nat): ∀(ts:List Nat) (l:List A) (k:Nat),k∉ts->(zA id ts l).getD k .undef=l.getD k .undef:=by
  intro ts
  induction ts with
  | nil=>intro l k _;rfl
  | cons t r ih=>grind[zA,Acm]
theorem Art: ∀(l:List (List Nat×Nat×Ty×Nat)) (st:St),(owns l st).1=true->R [] st (owns l st).2:=by
  intro l
  induction l with
  | nil=>intro st _;exact R.refl _ _
  | cons q r ih =>
    intro st h
    obtain⟨ts,e,ty,id⟩:=q
    unfold owns at h ⊢
    cases ha:ts.any (fun t=>gK (st.tmps.getD t .undef))with
    | false=>rw[ha]at h;exact ih st h
    | true =>
      rw[ha]at h
      dsimp only[cond_true]at h ⊢
      simp only[Bool.and_eq_true]at h
      refine R.trans ?_ (ih _ h.2)
      intro k _ hk
      all_goals grind[AkA,OY]
theorem Arp {C:Ctx} {key:Nat} {st:St} (h:(norm C key st).1=true):R [] st (norm C key st).2:=by
  unfold norm at h ⊢
  split at h
  ·exact R.refl _ _
  ·rename_i n hn
   dsimp only at h ⊢
   simp only[Bool.and_eq_true]at h
   have h1:R [] st (pzs n.pz st):=ArN _ _
   have h2:R [] (pzs n.pz st) {tmps:=drop n.keep (pzs n.pz st).tmps 0,Dj:=(pzs n.pz st).Dj.filter (fun p=>has (reached (drop n.keep (pzs n.pz st).tmps 0) (pzs n.pz st).Dj) p.1)}:=fun t _ _=>getD_drop _ _ _ _
   exact((h1.trans h2).trans (Ar2 _ _)).trans ((Art _ _ h.2).trans (R.of_eq rfl))
theorem kP {ρ :Type} {sh:Spe} {b st:St} {j:HV sh.hs->Option ρ} {v: ρ} (h:sh.enter b st j=some v):D7 (sh.fits b st)/\j (sh.un st)=some v:=by
  unfold Spe.enter at h
  rw[dC]at h
  exact MZ h
theorem Aj1 {ρ :Type} {C:Ctx} {key:Nat} {st:St} {K:St->Option ρ} {v: ρ} (h:LP C key st K=some v): ∃ st',R [] st st'/\K st'=some v/\ ∀ K':St->Option ρ,LP C key st K'=K' st':=by
  unfold LP at h
  cases hn:(norm C key st).1 with
  | false =>
    have e:norm C key st=(false,(norm C key st).2):=by rw[<- hn]
    rw[e]at h;cases h
  | true =>
    have e:norm C key st=(true,(norm C key st).2):=by rw[<- hn]
    all_goals grind[Arp,LP]
theorem xP {ρ :Type} {C:Ctx} {kind:Nat} {c:Code} {st:St} {K:St->Option ρ} {v: ρ} (h:meet C kind c st K=some v): ∃ st',R [] st st'/\K st'=some v/\ ∀ K':St->Option ρ,meet C kind c st K'=K' st':=by
  unfold meet at h
  cases hf:F8 c with
  | none=>rw[hf]at h;exact⟨st,R.refl _ _,h,fun K'=>by unfold meet;rw[hf]⟩
  | some n=>grind[Aj1,meet]
structure Lk where
  j:List (Nat×Spe)
  l:List (Nat×Spe×List (Nat×Spe))
def AmG {α :Type}:List (Nat× α)->Nat->Option α
  | [],_=>none
  | (k,x)::r,n=>bif Nat.beq k n then some x else AmG r n
def Aec (L:Lk) (b:Code):Option Spe:=match F8 b with
  | some n=>AmG L.j (4*n+1)
  | none=>none
def Aei (L:Lk) (c:Code):Option (Spe×List (Nat×Spe)):=match F8 c with
  | some n=>AmG L.l (4*n+2)
  | none=>none
def YT:List (Nat×Spe)->Type
  | []=>Unit
  | [(_,sh)]=>HV sh.hs
  | (_,sh)::q::r=>HV sh.hs ⊕ YT (q::r)
noncomputable def vY {ρ :Type}:(ex:List (Nat×Spe))->Nat->St->St->(YT ex->Option ρ)->Option ρ
  | [],_,_,_,_=>none
  | [(i,sh)],id,b,st,kx=>match Nat.beq i id with
    | true=>sh.enter b st kx
    | false=>none
  | (i,sh)::q::r,id,b,st,kx=>match Nat.beq i id with
    | true=>sh.enter b st (fun v=>kx (.inl v))
    | false=>vY (q::r) id b st (fun y=>kx (.inr y))
noncomputable def AdB {ρ :Type}:(ex:List (Nat×Spe))->St->(Ex->St->Option ρ)->YT ex->Option ρ
  | [],_,_=>fun _=>none
  | [(i,sh)],b,K=>fun v=>K (.exit i) (sh.emb b v)
  | (i,sh)::q::r,b,K=>Sum.elim (fun v=>K (.exit i) (sh.emb b v)) (AdB (q::r) b K)
noncomputable def Aai {ρ :Type} (mt:St->(St->Option ρ)->Option ρ) (body:St->(Ex->St->Option ρ)->Option ρ) (n:Nat):St->(Ex->St->Option ρ)->Option ρ :=
  (fun(_:Nat)=>Nat.rec (motive:=fun _=>St->(Ex->St->Option ρ)->Option ρ) (fun _ _=>none) (fun _ ih st K=>body st fun
    | .normal,st'=>mt st' fun st''=>ih st'' K
    | .exit id,st'=>K (.exit id) st') n) AcN
noncomputable def exe {ρ :Type} (C:Ctx) (N:Nat) (L:Lk) (fin:St->Option ρ):Code->St->(Ex->St->Option ρ)->Option ρ
  | .skip,st,K=>K .normal st
  | .region id ops false,st,K=>split C id ops.toList st fun C=>opsE C ops.toList ops.toList st fun st'=>K .normal st'
  | .region id ops true,st,K=>split C id ops.toList st fun C=>match Af6 C ops.toList st with
    | true=>AmU C ops.toList ops.toList st fun st'=>K .normal st'
    | false=>none
  | .seq a b,st,K=>match Aec L b with
    | some sh=>Ea (fun j=>exe C N L fin a st fun
        | .normal,st'=>Rl C 1 b st' fun st''=>sh.enter st st'' j
        | .exit id,st'=>K (.exit id) st') (fun x=>exe C N L fin b (sh.emb st x) K)
    | none=>exe C N L fin a st fun
        | .normal,st'=>Rl C 1 b st' fun st''=>exe C N L fin b st'' K
        | .exit id,st'=>K (.exit id) st'
  | .cond c a b,st,K=>match EH st.tmps c with
    | .bool t=>match t with
      | true=>exe C N L fin a st K
      | false=>exe C N L fin b st K
    | .cnd g (.bool t)=>match g with
      | true=>match t with
        | true=>exe C N L fin a st K
        | false=>exe C N L fin b st K
      | false=>none
    | _=>none
  | .block id c,st,K=>exe C N L fin c st fun
    | .exit j,st'=>match Nat.beq j id with
      | true=>K .normal st'
      | false=>K (.exit j) st'
    | .normal,st'=>K .normal st'
  | .loop c,st,K=>Rl C 2 c st fun b=>match Aei L c with
    | some (h,ex)=>match (h.fits b b).all id with
      | true=>Dx (fun x k kx=>exe C N L fin c (h.emb b x) fun
        | .normal,st'=>Rl C 2 c st' fun st''=>h.enter b st'' k
        | .exit id,st'=>vY ex id b st' kx) N (h.un b) (AdB ex b K)
      | false=>Aai (Rl C 2 c) (exe C N L fin c) N b K
    | none=>Aai (Rl C 2 c) (exe C N L fin c) N b K
  | .scope c,st,K=>exe C N L fin c st K
  | .exit id,st,K=>gY C (4*id+3) st fun st'=>K (.exit id) st'
  | .label _,st,K=>K .normal st
  | .ret,st,_=>fin st
  | _,_,_=>none
def writes:Code->List Nat
  | .region _ ops _=>ops.toList.filterMap (·.dst)
  | .seq a b=>writes a++writes b
  | .cond _ a b=>writes a++writes b
  | .block _ c=>writes c
  | .loop c=>writes c
  | .scope c=>writes c
  | _=>[]
def okJ (W:List Nat):Option Spe->Bool
  | some sh=>sh.okI W
  | none=>true
def okX (W:List Nat):Option (Spe×List (Nat×Spe))->Bool
  | some (h,ex)=>h.okI W&&ex.all (fun q=>q.2.okI W)
  | none=>true
def okL (L:Lk):Code->Bool
  | .seq a b=>okL L a&&okL L b&&okJ (writes a) (Aec L b)
  | .cond _ a b=>okL L a&&okL L b
  | .block _ c=>okL L c
  | .scope c=>okL L c
  | .loop c=>okL L c&&okX (writes c) (Aei L c)
  | _=>true
theorem ArM (st:St) (o:Oper) (δ :Dl):R (Uk o) st (apply st o δ):=by
  intro t ht _
  left
  show(put st.tmps o.dst δ.val).getD t .undef=_
  cases hd:o.dst with
  | none=>rfl
  | some d =>
    refine Acm _ _ _ _ fun e=>ht ?_
    simp [Uk,hd,e]
theorem Anw {α :Type} {l:List Bool} {x y:Option α} {v: α} (h:allT l x=some v) (hy:x=some v->y=some v):allT l y=some v:=by
  induction l with
  | nil=>exact hy h
  | cons c cs ih=>grind[allT]
theorem Ao7 {st st':St} {o:Oper} {δ :Dl} {r:List Oper} (hr:R (r.filterMap (·.dst)) (apply st o δ) st'):R ((o::r).filterMap (·.dst)) st st' :=
  ((ArM st o δ).mono (fun t ht=>by
     cases hd:o.dst with
     | none=>simp [Uk,hd]at ht
     | some d=>simp [Uk,hd]at ht;simp [hd,ht])).trans (hr.mono (fun t ht=>by
     cases hd:o.dst with
     | none=>simpa [hd]using ht
     | some d=>simp only[List.filterMap_cons,hd];exact List.mem_cons_of_mem _ ht))
theorem Ars {ρ :Type} {C:Ctx} {ops:List Oper} {v: ρ}: ∀(l:List Oper) (st:St) (K K':St->Option ρ),(∀ st',R (l.filterMap (·.dst)) st st'->K st'=some v->K' st'=some v)->Qd C ops l st K=some v->Qd C ops l st K'=some v:=by
  intro l
  induction l with
  | nil=>intro st K K' hK h;exact hK st (R.refl _ _) h
  | cons o r ih =>
    intro st K K' hK h
    have h':allT (Ew C ops o st).ok (Qd C ops r (apply st o (Ew C ops o st)) K)=some v:=h
    show allT (Ew C ops o st).ok (Qd C ops r (apply st o (Ew C ops o st)) K')=some v
    exact Anw h' (ih _ K K' fun st' hr=>hK st' (Ao7 hr))
theorem ArL {ρ :Type} {C:Ctx} {ops:List Oper} {v: ρ}: ∀(l:List Oper) (st:St) (K K':St->Option ρ),(∀ st',R (l.filterMap (·.dst)) st st'->K st'=some v->K' st'=some v)->Qc C ops l st K=some v->Qc C ops l st K'=some v:=by
  intro l
  induction l with
  | nil=>intro st K K' hK h;exact hK st (R.refl _ _) h
  | cons o r ih =>
    intro st K K' hK h
    have one: ∀ C':Ctx,allT (Ew C' ops o st).ok (Qc C ops r (apply st o (Ew C' ops o st)) K)=some v->allT (Ew C' ops o st).ok (Qc C ops r (apply st o (Ew C' ops o st)) K')=some v:=fun C' h'=>Anw h' (ih _ K K' fun st' hr=>hK st' (Ao7 hr))
    unfold Qc at h ⊢
    cases ha:WV C o with
    | none=>rw[ha]at h;exact one C h
    | some q =>
      obtain⟨f,q⟩:=q
      rw[ha]at h
      dsimp only at h ⊢
      cases hb:AeX o st q with
      | true=>rw[hb]at h;exact one _ h
      | false=>rw[hb]at h;exact one _ h
theorem Amr {ρ :Type} {W:List Nat} {b st:St} {K:Ex->St->Option ρ} {v: ρ} {id:Nat} (hr:R W b st): ∀(ex:List (Nat×Spe)),ex.all (fun q=>q.2.okI W)=true->vY ex id b st (AdB ex b K)=some v->K (.exit id) st=some v:=by
  have one: ∀(i:Nat) (sh:Spe),sh.okI W=true->Nat.beq i id=true->sh.enter b st (fun v=>K (.exit i) (sh.emb b v))=some v->K (.exit id) st=some v:=by
    intro i sh ho hb h
    obtain⟨h1,h2⟩:=kP h
    rw[Spe.Nq h1 ho hr,Nat.eq_of_beq_eq_true hb]at h2
    exact h2
  intro ex
  induction ex with
  | nil=>intro _ h;cases h
  | cons q r ih =>
    intro ho h
    obtain⟨i,sh⟩:=q
    simp only[List.all_cons,Bool.and_eq_true]at ho
    cases r with
    | nil =>
      have h':(match Nat.beq i id with | true=>sh.enter b st (fun v=>K (.exit i) (sh.emb b v)) | false=>none)=some v:=h
      cases hb:Nat.beq i id with
      | true=>rw[hb]at h';exact one i sh ho.1 hb h'
      | false=>rw[hb]at h';cases h'
    | cons q r =>
      have h':(match Nat.beq i id with | true=>sh.enter b st (fun v=>K (.exit i) (sh.emb b v)) | false=>vY (q::r) id b st (AdB (q::r) b K))=some v:=h
      cases hb:Nat.beq i id with
      | true=>rw[hb]at h';exact one i sh ho.1 hb h'
      | false =>
        rw[hb]at h'
        exact ih (by simpa using ho.2) h'
theorem AnV {ρ :Type} {C:Ctx} {N:Nat} {L:Lk} {fin:St->Option ρ} {v: ρ}: ∀(c:Code),okL L c=true-> ∀(st:St) (K K':Ex->St->Option ρ),(∀ e st',R (writes c) st st'->K e st'=some v->K' e st'=some v)->exe C N L fin c st K=some v->exec C N fin c st K'=some v:=by
  intro c
  induction c with
  | skip=>intro _ st K K' hK h;exact hK _ _ (R.refl _ _) h
  | label l=>intro _ st K K' hK h;exact hK _ _ (R.refl _ _) h
  | ret=>intro _ st K K' hK h;exact h
  | exit id =>
    intro _ st K K' hK h
    obtain⟨st',h1,h2,h3⟩:=Aj1 ((Aem _ _ _ _).symm.trans (show gY C (4*id+3) st (fun st'=>K (.exit id) st')=some v from h))
    show LP C (4*id+3) st (fun st'=>K' (.exit id) st')=some v
    rw[h3]
    exact hK _ _ h1.none h2
  | region id ops d =>
    intro _ st K K' hK h
    cases d with
    | false=>exact(Xp h).2 _ fun C h=>ArL ops.toList st _ _ (fun st' hr hk=>hK .normal st' hr hk) ((Aq0 _ _ _ _ _).symm.trans h)
    | true =>
      refine(Xp h).2 _ fun C h=> ?_
      have h':(match LM C ops.toList st with | true=>AmU C ops.toList ops.toList st (fun st'=>K .normal st') | false=>none)=some v:=by rw[<- Amk];exact h
      show(bif LM C ops.toList st then Qd C ops.toList ops.toList st (fun st'=>K' .normal st')else none)=some v
      cases hd:LM C ops.toList st with
      | false=>rw[hd]at h';cases h'
      | true=>rw[hd]at h';exact Ars ops.toList st _ _ (fun st' hr hk=>hK .normal st' hr hk) ((Aqz _ _ _ _ _).symm.trans h')
  | seq x y ihx ihy =>
    intro ho st K K' hK h
    have ho':(okL L x&&okL L y&&okJ (writes x) (Aec L y))=true:=ho
    simp only[Bool.and_eq_true]at ho'
    have hxy: ∀ {e:Ex} {st1 st2:St},R (writes x) st st1->R (writes y) st1 st2->R (writes (.seq x y)) st st2:=fun h1 h2=>(h1.mono (fun t ht=>List.mem_append_left _ ht)).trans (h2.mono (fun t ht=>List.mem_append_right _ ht))
    simp only[exe]at h
    show exec C N fin x st _=some v
    cases hj:Aec L y with
    | none =>
      rw[hj]at h
      refine ihx ho'.1.1 st _ _ (fun e st1 hr hk=> ?_) h
      cases e with
      | normal =>
        obtain⟨st2,h1,h2,h3⟩:=xP ((Yn _ _ _ _ _).symm.trans hk)
        show meet C 1 y st1 _=some v
        rw[h3]
        exact ihy ho'.1.2 st2 _ _ (fun e st3 hr' hk'=>hK e st3 (hxy (e:=e) (hr.trans h1.none) hr') hk') h2
      | exit id=>exact hK _ _ (hr.mono (fun t ht=>List.mem_append_left _ ht)) hk
    | some sh =>
      rw[hj]at h ho'
      refine ihx ho'.1.1 st _ _ (fun e st1 hr hk=> ?_) (show exe C N L fin x st _=some v from h)
      cases e with
      | normal =>
        obtain⟨st2,h1,h2,h3⟩:=xP ((Yn _ _ _ _ _).symm.trans hk)
        show meet C 1 y st1 _=some v
        rw[h3]
        obtain⟨h4,h5⟩:=kP h2
        rw[Spe.Nq h4 ho'.2 (hr.trans h1.none)]at h5
        exact ihy ho'.1.2 st2 _ _ (fun e st3 hr' hk'=>hK e st3 (hxy (e:=e) (hr.trans h1.none) hr') hk') h5
      | exit id=>exact hK _ _ (hr.mono (fun t ht=>List.mem_append_left _ ht)) hk
  | cond o x y ihx ihy =>
    intro ho st K K' hK h
    have ho':(okL L x&&okL L y)=true:=ho
    simp only[Bool.and_eq_true]at ho'
    have key: ∀ t:Bool,(match t with | true=>exe C N L fin x st K | false=>exe C N L fin y st K)=some v->(bif t then exec C N fin x st K' else exec C N fin y st K')=some v:=by
      intro t ht
      cases t with
      | true=>exact ihx ho'.1 st K K' (fun e st' hr=>hK e st' (hr.mono (fun t ht=>List.mem_append_left _ ht))) ht
      | false=>exact ihy ho'.2 st K K' (fun e st' hr=>hK e st' (hr.mono (fun t ht=>List.mem_append_right _ ht))) ht
    simp only[exe]at h
    simp only[exec]
    cases he:EH st.tmps o with
    | bool t=>rw[he]at h;exact key t h
    | cnd g y' =>
      rw[he]at h
      cases y' with
      | bool t =>
        cases g with
        | false=>cases h
        | true=>exact key t h
      | _=>cases h
    | _=>rw[he]at h;cases h
  | block id c ih =>
    intro ho st K K' hK h
    refine ih ho st _ _ (fun e st' hr hk=> ?_) h
    cases e with
    | normal=>exact hK _ _ hr hk
    | exit j =>
      dsimp only at hk ⊢
      cases hb:Nat.beq j id with
      | true=>rw[hb]at hk;exact hK _ _ hr hk
      | false=>rw[hb]at hk;exact hK _ _ hr hk
  | loop c ih =>
    intro ho st K K' hK h
    have ho':(okL L c&&okX (writes c) (Aei L c))=true:=ho
    simp only[Bool.and_eq_true]at ho'
    simp only[exe]at h
    obtain⟨b,h1,h2,h3⟩:=xP ((Yn _ _ _ _ _).symm.trans h)
    show meet C 2 c st _=some v
    rw[h3]
    have roll:Aai (Rl C 2 c) (exe C N L fin c) N b K=some v->rounds (meet C 2 c) (exec C N fin c) N b K'=some v:=by
      have key: ∀(n:Nat) (st1:St),R (writes c) b st1->Aai (Rl C 2 c) (exe C N L fin c) n st1 K=some v->rounds (meet C 2 c) (exec C N fin c) n st1 K'=some v:=by
        intro n
        induction n with
        | zero=>intro st1 _ h;cases h
        | succ n ihn =>
          intro st1 hr1 h
          refine ih ho'.1 st1 _ _ (fun e st2 hr2 hk=> ?_) h
          cases e with
          | normal =>
            obtain⟨st3,k1,k2,k3⟩:=xP ((Yn _ _ _ _ _).symm.trans hk)
            show meet C 2 c st2 _=some v
            rw[k3]
            exact ihn st3 ((hr1.trans hr2).trans k1.none) k2
          | exit id=>exact hK _ _ ((h1.none.trans hr1).trans hr2) hk
      exact key N b (R.refl _ _)
    cases hl:Aei L c with
    | none=>rw[hl]at h2;exact roll h2
    | some q =>
      obtain⟨hd,ex⟩:=q
      rw[hl]at h2 ho'
      dsimp only at h2
      cases hfit:(hd.fits b b).all id with
      | false=>rw[hfit]at h2;exact roll h2
      | true =>
      rw[hfit]at h2
      have h4:D7 (hd.fits b b):=fun c hc=>List.all_eq_true.1 hfit c hc
      have h5:=h2
      have ho2:(hd.okI (writes c)&&ex.all (fun q=>q.2.okI (writes c)))=true:=ho'.2
      simp only[Bool.and_eq_true]at ho2
      have key: ∀(n:Nat) (st1:St),R (writes c) b st1->hd.emb b (hd.un st1)=st1->Dx (fun x k kx=>exe C N L fin c (hd.emb b x) fun
          | .normal,st'=>Rl C 2 c st' fun st''=>hd.enter b st'' k
          | .exit id,st'=>vY ex id b st' kx) n (hd.un st1) (AdB ex b K)=some v->rounds (meet C 2 c) (exec C N fin c) n st1 K'=some v:=by
        intro n
        induction n with
        | zero=>intro st1 _ _ h;cases h
        | succ n ihn =>
          intro st1 hr1 he h
          simp only[Dx]at h
          rw[he]at h
          refine ih ho'.1 st1 _ _ (fun e st2 hr2 hk=> ?_) h
          cases e with
          | normal =>
            obtain⟨st3,k1,k2,k3⟩:=xP ((Yn _ _ _ _ _).symm.trans hk)
            show meet C 2 c st2 _=some v
            rw[k3]
            obtain⟨k4,k5⟩:=kP k2
            have hr3:=(hr1.trans hr2).trans k1.none
            exact ihn st3 hr3 (Spe.Nq k4 ho2.1 hr3) k5
          | exit id =>
            exact hK _ _ ((h1.none.trans hr1).trans hr2) (Amr (hr1.trans hr2) ex ho2.2 hk)
      exact key N b (R.refl _ _) (Spe.Nq h4 ho2.1 (R.refl _ _)) h5
  | scope c ih=>intro ho st K K' hK h;exact ih ho st K K' hK h
  | _=>intro _ st K K' hK h;cases h
def ApK:ResultVar->Nat×Option Nat
  | .tmp t=>(t,none)
  | .cell a t=>(a,some t)
structure Inf where
  Dv:List Sh
  DI:List Sh
  gs:List (Nat×Sig)
  ns:List (Nat×Nrm)
  L:Lk
def UA (fn:Func):Code:=fn.body.getD .skip
def JF (fn:Func):List (Nat×Option Nat):=fn.results.toList.map ApK
noncomputable def Anb {ρ :Type} (N:Nat) (C:Ctx) (L:Lk) (Dv:List Sh) (fn:Func) (fin:St->Option ρ) (a:ShT Dv):Option ρ :=
  allH ((EG 0 256 Dv (encs Dv a) 0).1++[nodup ((EG 0 256 Dv (encs Dv a) 0).2.2.map (·.1)),!(has ((EG 0 256 Dv (encs Dv a) 0).2.2.map (·.1)) 255)])
    (exe C N L fin (UA fn) (zV Dv (encs Dv a) fn.ntmps) (fun
      | .normal,st=>fin st
      | .exit _,_=>none))
noncomputable def Ar3 (N:Nat) (C:Ctx) (L:Lk) (Dv DI:List Sh) (fn:Func) (a:ShT Dv):Option (ShT (FO Dv DI)):=Anb N C L Dv fn (VD C Dv DI (JF fn)) a
theorem Aq4 (r:ResultVar):rv (ApK r)=r:=by cases r<;>rfl
theorem Aad (fn:Func):fn.results=((JF fn).map rv).toArray:=by grind[JF,rv,ApK,Aq4]
theorem Aqe {α :Type} {l:List Bool} {x:Option α} (h:D7 l):allT l x=x:=by
  induction l with
  | nil=>rfl
  | cons c cs ih=>simp_all[D7,allT]
def wF (L:Lk) (fn:Func):Bool:=fn.body.isSome&&(!(fn.name== "runtime.NumGoroutine")&&okL L (UA fn))
theorem yZ {ρ :Type} {N:Nat} {C:Ctx} {L:Lk} {Dv:List Sh} {fn:Func} {fin:St->Option ρ} {a:ShT Dv} {r: ρ} (hn:okL L (UA fn)=true) (h:Anb N C L Dv fn fin a=some r):runK C N Dv fn.ntmps (UA fn) fin (encs Dv a)=some r:=by grind[MZ,dC,allH,runK,Aqe,AnV,Sh,ShT,okL,UA,Anb,encs]
theorem wG {L:Lk} {fn:Func} (hn:wF L fn=true):fn.body=some (UA fn)/\(fn.name== "runtime.NumGoroutine")=false/\okL L (UA fn)=true:=by
  unfold wF at hn
  simp only[Bool.and_eq_true,Bool.not_eq_true']at hn
  obtain⟨code,hc⟩:=Option.isSome_iff_exists.1 hn.1
  exact⟨by unfold UA;rw[hc];rfl,hn.2⟩
theorem I5 {P:Program} {C:Ctx} {L:Lk} {N:Nat} (hC:GV P C) {f:FuncId} {fn:Func} {Dv DI:List Sh} {g:ShT Dv->Option (ShT (FO Dv DI))} (hf:P.funcs[f]? =some fn:=by kernel_rfl) (hn:wF L fn=true:=by kernel_rfl)
    (hF: ∀ a,Ar3 N C L Dv DI fn a=g a:=by intro a;kernel_rfl):Spec P f (Sig.of Dv DI g):=by
  obtain⟨hb,h1,h2⟩:=wG hn
  exact SE (fin:=VD C Dv DI (JF fn)) hC N hf hb h1 (Aad fn) (fun a o h=>⟨o,yZ h2 ((hF a).trans h),fun st h=>h⟩)
theorem zB {P:Program} {C:Ctx} (hC:GV P C) {f:FuncId} {fn:Func} {Dv DI:List Sh} (hf:P.funcs[f]? =some fn) (hn:wF ⟨[],[]⟩ fn=true):Spec P f (Sig.of Dv DI fun _=>none):=by
  obtain⟨hb,h1,h2⟩:=wG hn
  exact SE (fin:=VD C Dv DI (JF fn)) hC 0 hf hb h1 (Aad fn) (fun a o h=>by cases h)
def Aro (C:Ctx) (r1:List Sh) (outs:List (Nat×Option Nat)) (st:St):Bool:=(r1.zip outs).any fun q=>(match q.1 with | .box _=>true | _=>false)&&(Ac2 C st q.2).2.gJ
noncomputable def AiX (C:Ctx) (Dv r1 r2:List Sh) (outs:List (Nat×Option Nat)) (st:St):Option (ShT (FO Dv r1) ⊕ ShT (FO Dv r2)) :=
  match Aro C r1 outs st with
  | true=>(VD C Dv r2 outs st).map .inr
  | false=>(VD C Dv r1 outs st).map .inl
noncomputable def Ap8 (N:Nat) (C:Ctx) (L:Lk) (Dv r1 r2:List Sh) (fn:Func) (a:ShT Dv):Option (ShT (FO Dv r1) ⊕ ShT (FO Dv r2)):=Anb N C L Dv fn (AiX C Dv r1 r2 (JF fn)) a
noncomputable def Alt.of (Dv r1 r2:List Sh) (g:ShT Dv->Option (ShT (FO Dv r1) ⊕ ShT (FO Dv r2))):Alt :=
  (Sig.of Dv r1 (fun a=>Arf (g a)),Sig.of Dv r2 (fun a=>Arh (g a)),fun xs=>match TS Dv xs with
    | some a=>Arm (g a)
    | none=>true)
theorem WW {P:Program} {C:Ctx} {L:Lk} {N:Nat} (hC:GV P C) {f:FuncId} {fn:Func} {Dv r1 r2:List Sh} {g:ShT Dv->Option (ShT (FO Dv r1) ⊕ ShT (FO Dv r2))} (hf:P.funcs[f]? =some fn) (hn:wF L fn=true)
    (hF: ∀ a,Ap8 N C L Dv r1 r2 fn a=g a):Spec P f (Alt.of Dv r1 r2 g).1/\Spec P f (Alt.of Dv r1 r2 g).2.1:=by
  obtain⟨hb,h1,h2⟩:=wG hn
  constructor
  ·refine SE (fin:=AiX C Dv r1 r2 (JF fn)) hC N hf hb h1 (Aad fn) (fun a o h=>⟨.inl o,yZ h2 ((hF a).trans ?_),fun st h=> ?_⟩)
   ·cases hg:g a with
    | none=>rw[hg]at h;cases h
    | some r=>rw[hg]at h;cases r with | inl x=>injection h with h;rw[h] | inr x=>cases h
   ·unfold AiX at h
    split at h
    ·cases hq:VD C Dv r2 (JF fn) st with
     | none=>rw[hq]at h;cases h
     | some r=>rw[hq]at h;injection h with h;cases h
    ·cases hq:VD C Dv r1 (JF fn) st with
     | none=>rw[hq]at h;cases h
     | some r=>grind[Sh,ShT,FO,wF,Ap8,Spec]
  ·refine SE (fin:=AiX C Dv r1 r2 (JF fn)) hC N hf hb h1 (Aad fn) (fun a o h=>⟨.inr o,yZ h2 ((hF a).trans ?_),fun st h=> ?_⟩)
   ·cases hg:g a with
    | none=>rw[hg]at h;cases h
    | some r=>rw[hg]at h;cases r with | inr x=>injection h with h;rw[h] | inl x=>cases h
   ·unfold AiX at h
    split at h
    ·cases hq:VD C Dv r2 (JF fn) st with
     | none=>rw[hq]at h;cases h
     | some r=>grind[Sh,ShT,FO,wF,Ap8,Spec]
    ·cases hq:VD C Dv r1 (JF fn) st with
     | none=>rw[hq]at h;cases h
     | some r=>rw[hq]at h;injection h with h;cases h
end Go.Proofs.YtbnphelpndnnfabGreatDoor.Vm
namespace Go.Proofs.YtbnphelpndnnfabGreatDoor.Vm
open Go.Proofs
abbrev Tq0:Ty:=(.str (.int .i64 (.str .nil)))
abbrev Tq1:Ty:=(.int .i64 (.str (.sl 120 (.sl 119 Tq0 .nil) .nil)))
abbrev Tq2:Ty:=(.sl 170 Tq1 (.int .i64 (.bool (.sl 120 (.sl 119 Tq0 .nil) .nil))))
abbrev Tq3:Ty:=(.int .i64 (.int .i64 (.int .i64 (.int .i64 (.sl 120 (.sl 119 Tq0 .nil) .nil)))))
abbrev Tq4:Ty:=(.str (.bool (.str .nil)))
abbrev Tq5:Ty:=(.int .i64 (.str (.str .nil)))
abbrev Tq6:Ty:=(.sl 9 (.str .nil) (.sl 9 (.str .nil) (.sl 32 (.str (.str .nil)) .nil)))
abbrev Tq7:Ty:=(.str (.int .i64 (.fn (.fn (.fn .nil)))))
abbrev Tq8:Ty:=(.str (.str (.int .i64 (.sl 120 (.sl 119 Tq0 .nil) (.sl 120 (.sl 119 Tq0 .nil) (.int .i64 (.int .i64 (.int .i64 (.str (.str (.bool (.bool (.int .i64 (.int .i64 (.sl 9 (.str .nil) (.sl 9 (.str .nil) (.sl 288 (.str (.str .nil)) (.int .i64 (.int .i64 (.int .i64 (.sl 170 Tq1 (.bool (.sl 170 Tq1 (.sl 170 Tq1 (.str (.str (.sl 230 Tq2 (.sl 230 Tq2 (.sl 220 Tq4 (.str .nil))))))))))))))))))))))))))))))
abbrev Tq9:Ty:=(.str (.str (.sl 120 (.sl 119 Tq0 .nil) (.int .i64 (.int .i64 (.int .i64 (.int .i64 (.str (.bool (.sl 170 Tq1 (.bool (.bool (.int .i64 (.bool (.sl 230 Tq2 (.sl 159 Tq3 (.str .nil)))))))))))))))))
noncomputable def Sq0:Sh:=.cell false (.sl 3 (.int .i64 .nil))
noncomputable def Sq1:Sh:=.box [(false,(.sl 3 (.int .i64 .nil))),(false,(.int .i64))]
noncomputable def Sq2:Sh:=.agg [(false,(.sl 120 (.sl 119 Tq0 .nil)))]
noncomputable def Sq3:Sh:=.agg [(false,(.sl 170 Tq1)),(false,.bool),(false,.bool),(false,(.int .i64)),(false,.bool)]
noncomputable def Sq4:Sh:=.cell false (.sl 9 (.str .nil))
noncomputable def Sq5:Sh:=.agg [(false,(.int .i64)),(false,.str),(false,(.sl 120 (.sl 119 Tq0 .nil)))]
noncomputable def Sq6:Sh:=.agg [(false,.str),(false,.str),(false,(.sl 120 (.sl 119 Tq0 .nil))),(false,(.int .i64)),(false,(.int .i64)),(false,(.int .i64)),(false,(.int .i64)),(false,.str),(false,.bool),(false,(.sl 170 Tq1)),(false,.bool),(false,.bool),(false,(.int .i64)),(false,.bool),(false,(.sl 230 Tq2)),(false,(.sl 159 Tq3)),(false,.str)]
noncomputable def Sq7:Sh:=.agg [(false,.str),(false,(.int .i64)),(false,.str)]
noncomputable def Sq8:Sh:=.agg [(false,(.int .i64)),(false,(.int .i64)),(false,(.int .i64)),(false,(.int .i64)),(false,(.int .i64)),(false,(.int .i64))]
noncomputable def Sq9:Sh:=.agg [(false,.str),(false,.bool),(false,.str)]
noncomputable def Ie:Sh:=.agg [(false,(.int .i64)),(false,.str),(false,.str)]
noncomputable def AlB:Sh:=.agg [(false,(.int .i64)),(false,(.int .i64)),(false,(.int .i64)),(false,(.int .i64)),(false,(.sl 120 (.sl 119 Tq0 .nil)))]
noncomputable def AoL:Sh:=.cell false (.sl 288 (.str (.str .nil)))
noncomputable def Aiu:Sh:=.agg [(false,(.sl 170 Tq1)),(false,(.sl 170 Tq1))]
noncomputable def Jd:Sh:=.agg [(false,.bool),(false,.bool),(false,(.int .i64)),(false,(.int .i64)),(false,(.sl 9 (.str .nil))),(false,(.sl 9 (.str .nil))),(false,(.sl 288 (.str (.str .nil)))),(false,(.int .i64)),(false,(.int .i64)),(false,(.int .i64)),(false,(.sl 170 Tq1)),(false,.bool),(false,(.sl 170 Tq1)),(false,(.sl 170 Tq1)),(false,.str),(false,.str),(false,(.sl 230 Tq2)),(false,(.sl 230 Tq2)),(false,(.sl 220 Tq4))]
noncomputable def AeV:Sh:=.agg [(false,.str),(false,.str),(false,(.int .i64)),(false,(.sl 120 (.sl 119 Tq0 .nil))),(false,(.sl 120 (.sl 119 Tq0 .nil))),(false,(.int .i64)),(false,(.int .i64)),(false,(.int .i64)),(false,.str),(false,.str),(false,.bool),(false,.bool),(false,(.int .i64)),(false,(.int .i64)),(false,(.sl 9 (.str .nil))),(false,(.sl 9 (.str .nil))),(false,(.sl 288 (.str (.str .nil)))),(false,(.int .i64)),(false,(.int .i64)),(false,(.int .i64)),(false,(.sl 170 Tq1)),(false,.bool),(false,(.sl 170 Tq1)),(false,(.sl 170 Tq1)),(false,.str),(false,.str),(false,(.sl 230 Tq2)),(false,(.sl 230 Tq2)),(false,(.sl 220 Tq4)),(false,.str)]
noncomputable def AqD:Sh:=.cell false (.sl 340 (.int .u32 .nil))
noncomputable def jI:Sh:=.agg [(false,(.sl 9 (.str .nil))),(false,(.sl 9 (.str .nil))),(false,(.sl 32 (.str (.str .nil))))]
noncomputable def AqE:Sh:=.agg [(false,.str),(false,.str)]
noncomputable def H6:Sh:=.box [(false,(.sl 134 Tq5))]
noncomputable def ArQ:Sh:=.map (.str (.str .nil)) (.bool .nil)
noncomputable def ArR:Sh:=.cell false (.sln 3 (.int .i64 .nil))
noncomputable def AlC:Sh:=.box [(false,(.int .i64)),(false,.str),(false,.str)]
noncomputable def ArS:Sh:=.agg [(false,.bool),(false,.bool),(false,(.int .i64)),(false,(.int .i64)),(true,(.sl 9 (.str .nil))),(true,(.sl 9 (.str .nil))),(true,(.sl 288 (.str (.str .nil)))),(false,(.int .i64)),(false,(.int .i64)),(false,(.int .i64)),(false,(.sl 170 Tq1)),(false,.bool),(false,(.sl 170 Tq1)),(false,(.sl 170 Tq1)),(false,.str),(false,.str),(false,(.sl 230 Tq2)),(false,(.sl 230 Tq2)),(true,(.sl 220 Tq4))]
noncomputable def ArT:Sh:=.map (.str .nil) (.int .i64 .nil)
noncomputable def AqF:Sh:=.agg [(false,(.sl 170 Tq1)),(false,(.int .i64)),(false,.bool),(false,(.sl 120 (.sl 119 Tq0 .nil)))]
noncomputable def ArU:Sh:=.agg [(false,.str),(false,(.int .i64)),(false,.fn),(false,.fn),(false,.fn)]
noncomputable def O5:Sh:=.box [(false,.bool),(false,.bool),(false,(.int .i64)),(false,(.int .i64)),(true,(.sl 9 (.str .nil))),(true,(.sl 9 (.str .nil))),(true,(.sl 288 (.str (.str .nil)))),(false,(.int .i64)),(false,(.int .i64)),(false,(.int .i64)),(false,(.sl 170 Tq1)),(false,.bool),(false,(.sl 170 Tq1)),(false,(.sl 170 Tq1)),(false,.str),(false,.str),(false,(.sl 230 Tq2)),(false,(.sl 230 Tq2)),(true,(.sl 220 Tq4))]
noncomputable def AeW:Sh:=.clo 0 [(false,.bool),(false,.bool),(false,(.int .i64)),(false,(.int .i64)),(true,(.sl 9 (.str .nil))),(true,(.sl 9 (.str .nil))),(true,(.sl 288 (.str (.str .nil)))),(false,(.int .i64)),(false,(.int .i64)),(false,(.int .i64)),(false,(.sl 170 Tq1)),(false,.bool),(false,(.sl 170 Tq1)),(false,(.sl 170 Tq1)),(false,.str),(false,.str),(false,(.sl 230 Tq2)),(false,(.sl 230 Tq2)),(true,(.sl 220 Tq4))]
noncomputable def ArV:Sh:=.clo 345 [(false,.bool),(false,.bool),(false,(.int .i64)),(false,(.int .i64)),(true,(.sl 9 (.str .nil))),(true,(.sl 9 (.str .nil))),(true,(.sl 288 (.str (.str .nil)))),(false,(.int .i64)),(false,(.int .i64)),(false,(.int .i64)),(false,(.sl 170 Tq1)),(false,.bool),(false,(.sl 170 Tq1)),(false,(.sl 170 Tq1)),(false,.str),(false,.str),(false,(.sl 230 Tq2)),(false,(.sl 230 Tq2)),(true,(.sl 220 Tq4))]
noncomputable def ArW:Sh:=.clo 346 [(false,.bool),(false,.bool),(false,(.int .i64)),(false,(.int .i64)),(true,(.sl 9 (.str .nil))),(true,(.sl 9 (.str .nil))),(true,(.sl 288 (.str (.str .nil)))),(false,(.int .i64)),(false,(.int .i64)),(false,(.int .i64)),(false,(.sl 170 Tq1)),(false,.bool),(false,(.sl 170 Tq1)),(false,(.sl 170 Tq1)),(false,.str),(false,.str),(false,(.sl 230 Tq2)),(false,(.sl 230 Tq2)),(true,(.sl 220 Tq4))]
noncomputable def ArX:Sh:=.box [(false,.str),(false,.str),(false,(.int .i64)),(false,(.sl 120 (.sl 119 Tq0 .nil))),(false,(.sl 120 (.sl 119 Tq0 .nil))),(false,(.int .i64)),(false,(.int .i64)),(false,(.int .i64)),(false,.str),(false,.str),(false,.bool),(false,.bool),(false,(.int .i64)),(false,(.int .i64)),(false,(.sl 9 (.str .nil))),(false,(.sl 9 (.str .nil))),(false,(.sl 288 (.str (.str .nil)))),(false,(.int .i64)),(false,(.int .i64)),(false,(.int .i64)),(false,(.sl 170 Tq1)),(false,.bool),(false,(.sl 170 Tq1)),(false,(.sl 170 Tq1)),(false,.str),(false,.str),(false,(.sl 230 Tq2)),(false,(.sl 230 Tq2)),(false,(.sl 220 Tq4)),(false,.str)]
noncomputable def ArY:Sh:=.box [(false,(.int .i64)),(false,(.int .i64)),(false,(.int .i64)),(false,(.int .i64)),(false,(.sl 120 (.sl 119 Tq0 .nil)))]
noncomputable def AoM:Sh:=.box [(false,.str),(false,.str),(false,(.sl 120 (.sl 119 Tq0 .nil))),(false,(.int .i64)),(false,(.int .i64)),(false,(.int .i64)),(false,(.int .i64)),(false,.str),(false,.bool),(false,(.sl 170 Tq1)),(false,.bool),(false,.bool),(false,(.int .i64)),(false,.bool),(false,(.sl 230 Tq2)),(false,(.sl 159 Tq3)),(false,.str)]
noncomputable def AqG:Sh:=.cell true (.sln 5 (.int .u8 .nil))
noncomputable def AqH:Sh:=.cell true (.sl 5 (.int .u8 .nil))
noncomputable abbrev Dn (k:FuncId) (S:Sig):Prop:=Spec Tryz.prog k S
noncomputable abbrev Dq (gs:List (Nat×Sig)) (ns:List (Nat×Nrm)) (aa:List (Nat×Alt):=[]) (dd:List (Nat×(Nat->Sig)):=[]) (cc:List Nat:=[]) (bb:List Nat:=[]) (ss:List (Nat×Nat×Nat×List Nat):=[]) (kk:List (Nat×List (Nat×Nat)):=[]):Ctx:=ctx Tryz.prog gs ns aa dd cc bb ss kk
theorem Dt {f:FuncId} {Dv DI:List Sh} {g:ShT Dv->Option (ShT (FO Dv DI))} (C:Ctx) (L:Lk) (fn:Func) (N:Nat) (hC:GV Tryz.prog C) (hf:Tryz.prog.funcs[f]? =some fn:=by kernel_rfl) (hn:wF L fn=true:=by kernel_rfl) (hF: ∀ a,Ar3 N C L Dv DI fn a=g a:=by intro a;kernel_rfl):Spec Tryz.prog f (Sig.of Dv DI g):=I5 hC hf hn hF
noncomputable def Dw:Sh:=.cell false .str
noncomputable def Dp:Sh:=.cell false (.int .i64)
noncomputable def DJ:Sh:=.cell false .bool
noncomputable def Aq:Ty:=.str .nil
noncomputable def Ar:Ty:=.sl 119 Tq0 .nil
noncomputable def Au:Ty:=.int .i64 .nil
noncomputable def Aw:Ty:=.int .u8 .nil
noncomputable def Az:Ty:=.int .u32 .nil
noncomputable def A7:Ty:=.bool .nil
noncomputable def A8:Pc:=.c (.int .i64 0)
noncomputable def AA:Pc:=.c (.str ([]:Bs))
noncomputable def AB:Pc:=.c (.bool false)
noncomputable def AL:Pc:=.c (.ptr 33280 0)
noncomputable def AO:Pc:=.c (.ptr 33024 0)
noncomputable def AP:Pc:=.c (.ptr 33536 0)
noncomputable def AQ:Pc:=.c (.ptr 0 0)
noncomputable def AU:Pc:=.c (.ptr 33792 0)
noncomputable def AV:Pc:=.c (.ptr 34048 0)
noncomputable def AX:Pc:=.c (.ptr 37120 0)
noncomputable def AY:Pc:=.c (.ptr 34304 0)
noncomputable def AZ:Pc:=.c (.ptr 34816 0)
noncomputable def Ba:Pc:=.c (.ptr 34560 0)
noncomputable def Bc:Pc:=.c (.ptr 38144 0)
noncomputable def Bd:Pc:=.c (.ptr 36864 0)
noncomputable def Be:Pc:=.c (.ptr 39936 0)
noncomputable def Bf:Pc:=xl Tq1
noncomputable def Bg:Pc:=xl Tq2
noncomputable def Bh:Pc:=xl Aq
noncomputable def Bi:Pc:=xl Ar
noncomputable def Bj:Pc:=xl Au
noncomputable def Bl:Pc:=xl Tq5
noncomputable def Bo:Pc:=xl Tq4
noncomputable def Bq:Pc:=xi .u32
noncomputable def Bv:Pc:=xl Tq3
noncomputable def Bz:List Pc:=[xb,xb,x64,x64,Bh,Bh,(xl (.str Aq)),x64,x64,x64,Bf,xb,Bf,Bf,xs,xs,Bg,Bg,Bo]
noncomputable def BA:List Pc:=[xs,xs,Bi,x64,x64,x64,x64,xs,xb,Bf,xb,xb,x64,xb,Bg,Bv,xs]
noncomputable def BB:List Pc:=[AA,AA,(xo 33283),A8,A8,A8,A8,AA,AB,(xo 33290),AB,AB,A8,AB,(xo 33295),(xo 33296),AA]
noncomputable def BC:List Pc:=[AB,AB,A8,A8,(xo 33285),(xo 33286),(xo 33287),A8,A8,A8,(xo 33291),AB,(xo 33293),(xo 33294),AA,AA,(xo 33297),(xo 33298),(xo 33299)]
noncomputable def BD:List Pc:=[(xo 33281),(xo 33282),(xo 33283)]
noncomputable def BF:List Pc:=[Bj,x64]
noncomputable def BG:List Pc:=[xb,xb,x64,x64,(xo 1000048),(xo 1000032),(xo 1000016),x64,x64,x64,Bf,xb,Bf,Bf,xs,xs,Bg,Bg,(xo 1000000)]
noncomputable def BH:List Pc:=[x64,x64,x64,x64,Bi]
noncomputable def BI:List Pc:=[Bh,Bh,(xl (.str Aq))]
noncomputable def BJ:List Pc:=[xb,xb,x64,x64,(xo 1012336),(xo 1012320),(xo 1012304),x64,x64,x64,Bf,xb,Bf,Bf,xs,xs,Bg,Bg,(xo 1012288)]
noncomputable def BK:List Pc:=[xb,xb,x64,x64,(xo 1004160),(xo 1004144),(xo 1004128),x64,x64,x64,Bf,xb,Bf,Bf,xs,xs,Bg,Bg,(xo 1004112)]
noncomputable def BL:List Pc:=[xb,xb,x64,x64,(xo 1008256),(xo 1008240),(xo 1008224),x64,x64,x64,Bf,xb,Bf,Bf,xs,xs,Bg,Bg,(xo 1008208)]
noncomputable def BM:List Pc:=[A8,AA,AA]
noncomputable def BN:List Pc:=[xb,xb,x64,x64,(xo 5),(xo 6),(xo 7),x64,x64,x64,Bf,xb,Bf,Bf,xs,xs,Bg,Bg,(xo 19)]
noncomputable def BO:List Pc:=[A8,A8,A8,A8,A8,A8]
noncomputable def BP:List Pc:=[(xo 33281)]
noncomputable def BQ:List Pc:=[AA,A8,(.c (.fn 0)),(.c (.fn 0)),(.c (.fn 0))]
noncomputable def BR:List Pc:=[(xo 33281),(xo 33282)]
noncomputable def BU:List Pc:=[(xo 33281),A8,AB,(xo 33284)]
noncomputable def BV:List Pc:=[(xo 33793),A8,AB,(xo 33796)]
noncomputable def BZ:List Pc:=[x64,x64,x64,x64,x64,x64]
noncomputable def Cb:List Pc:=[A8,A8,A8,A8,(xo 33797)]
noncomputable def Cc:List Pc:=[A8,A8,A8,A8,(xo 34409)]
noncomputable def Ce:List Pc:=[Bf,x64,xb,Bi]
