import Derived.Test.YtfgdgdnlglejbaaGreatDoorA9
set_option linter.all false
namespace Go.Proofs.YtfgdgdnlglejbaaGreatDoor.Vm
open Classical
noncomputable def allH {α :Type} (l:List Bool) (r:Option α):Option α :=
 (fun(_:Nat)=>List.rec (motive:=fun _=>Option α) r (fun c _ ih=>Bool.rec (motive:=fun _=>Option α) none ih c) l) Aeh
theorem jR {α :Type}: ∀(l:List Bool) (r:Option α),allH l r=allT l r:=by
 intro l
 induction l with
 | nil=>intro r;rfl
 | cons c cs ih=>intro r;cases c<;>first | rfl | exact ih r
noncomputable def zV {α β :Type} (l:List α):(List α -> β)-> β :=
 (fun(_:Nat)=>List.rec (motive:=fun _=>(List α -> β)-> β) (fun k=>k []) (fun a _ ih k=>ih (fun l'=>k (a::l'))) l) Aeh
theorem zW {α β :Type}: ∀(l:List α) (k:List α -> β),zV l k=k l:=by
 intro l
 induction l with
 | nil=>intro k;rfl
 | cons a r ih=>simp_all[zV]
noncomputable def zX {β :Type} (st:St) (k:St-> β): β :=zV st.tmps fun tm=>zV st.Dn fun ob=>k ⟨tm,ob⟩
theorem zY {β :Type} (st:St) (k:St-> β):zX st k=k st:=by unfold zX;rw[zW,zW]
def AnF {ρ :Type} (v:A) (k:A->Option ρ):Option ρ :=match v with
 | .bool b=>Dy b fun b=>k (.bool b)
 | .cnd g (.bool b)=>Dy b fun b=>k (.cnd g (.bool b))
 | v=>k v
theorem Ar1 {ρ :Type} (v:A) (k:A->Option ρ):AnF v k=k v:=by unfold AnF;split<;>rfl
def bnd (C:Ctx) (o:Oper):Bool:=match o.dst with
 | some d=>has C.binds d
 | none=>false
noncomputable def goV {α :Type} (C:Ctx) (o:Oper) (st:St) (δ :Dl) (k:St->Option α):Option α :=match bnd C o with
 | true=>AnF δ.val fun v=>zX (apply st o {δ with val:=v}) k
 | false=>zX (apply st o δ) k
theorem Aqj {α :Type} (C:Ctx) (o:Oper) (st:St) (δ :Dl) (k:St->Option α):goV C o st δ k=k (apply st o δ):=by
 unfold goV;cases bnd C o with
 | true=>exact(Ar1 _ _).trans (zY _ _)
 | false=>exact zY _ _
noncomputable def opsE {α :Type} (C:Ctx) (ops l:List Oper):St->(St->Option α)->Option α :=
 (fun(_:Nat)=>List.rec (motive:=fun _=>St->(St->Option α)->Option α) (fun st K=>K st) (fun o _ ih st K=>match Y0 C o with
   | none=>allH (E8 C ops o st).ok (goV C o st (E8 C ops o st) fun st'=>ih st' K)
   | some (f,q)=>match Ags o st q with
    | true=>allH (E8 (C.put f q.1) ops o st).ok (ih (apply st o (E8 (C.put f q.1) ops o st)) K)
    | false=>allH (E8 (C.put f q.2.1) ops o st).ok (ih (apply st o (E8 (C.put f q.2.1) ops o st)) K)) l) Aeh
theorem Auf {α :Type} (C:Ctx) (ops:List Oper): ∀(l:List Oper) (st:St) (K:St->Option α),opsE C ops l st K=Sz C ops l st K:=by
 intro l
 induction l with
 | nil=>intro st K;rfl
 | cons o r ih =>
  intro st K
  show(match Y0 C o with
   | none=>allH (E8 C ops o st).ok (goV C o st (E8 C ops o st) fun st'=>opsE C ops r st' K)
   | some (f,q)=>match Ags o st q with
    | true=>allH (E8 (C.put f q.1) ops o st).ok (opsE C ops r (apply st o (E8 (C.put f q.1) ops o st)) K)
    | false=>allH (E8 (C.put f q.2.1) ops o st).ok (opsE C ops r (apply st o (E8 (C.put f q.2.1) ops o st)) K))=_
  unfold Sz;cases Y0 C o with
  | none=>grind[jR,Aqj]
  | some q =>obtain⟨f,q⟩:=q;dsimp only;cases Ags o st q<;>(dsimp only[cond_true,cond_false];rw[jR,ih])
noncomputable def AoP {α :Type} (C:Ctx) (ops l:List Oper):St->(St->Option α)->Option α :=
 (fun(_:Nat)=>List.rec (motive:=fun _=>St->(St->Option α)->Option α) (fun st K=>K st) (fun o _ ih st K=>allH (E8 C ops o st).ok (goV C o st (E8 C ops o st) fun st'=>ih st' K)) l) Aeh
theorem Aue {α :Type} (C:Ctx) (ops:List Oper): ∀(l:List Oper) (st:St) (K:St->Option α),AoP C ops l st K=S9 C ops l st K:=by
 intro l
 induction l with
 | nil=>intro st K;rfl
 | cons o r ih =>intro st K;show allH _ (goV C o st _ fun st'=>AoP C ops r st' K)=allT _ (S9 C ops r _ K);rw[jR,Aqj,ih]
noncomputable def AeV (C:Ctx) (ops:List Oper):List Oper->List (List Nat)->St->List Fq
 | [],_,_=>[]
 | o::r,acc,st=>match E8 C ops o st,(TU o).flatMap (fun e=>e::acc.getD e [])with
  | δ,an=>⟨o,δ,FH o st (Ew o st),oneOf C o.op (Ew o st),an⟩::zX (apply st o δ) fun st'=>AeV C ops r (acc++[an]) st'
theorem Aqg (C:Ctx) (ops:List Oper): ∀(l:List Oper) (acc:List (List Nat)) (st:St),AeV C ops l acc st=OG C ops l acc st:=by
 intro l
 induction l with
 | nil=>intro acc st;rfl
 | cons o r ih =>intro acc st;unfold AeV OG;dsimp only;rw[zY,ih]
noncomputable def An6:List Oper->List Nat->List Nat
 | [],_=>[]
 | o::r,acc=>(TU o).foldr (fun e m=>((2 ^ e) ||| acc.getD e 0) ||| m) 0::zV (acc++[(TU o).foldr (fun e m=>((2 ^ e) ||| acc.getD e 0) ||| m) 0]) fun acc'=>An6 r acc'
def AfA (ops:List Oper) (i:Nat) (x:Fq):List Fq->List Nat->Bool
 | [],_=>true
 | y::r,b=>(O5 y.news x.says&&O5 y.news x.keys&&((b.headD 0).testBit i||indep ops x y))&&AfA ops i x r b.tail
def Af9 (ops:List Oper):Nat->List Fq->List Nat->Bool
 | _,[],_=>true
 | i,x::r,b=>AfA ops i x r b.tail&&Af9 ops (i+1) r b.tail
def AbA:List Fq->List Nat->Prop
 | [],_=>True
 | y::r,b=>(∀ i,has y.anc i=(b.headD 0).testBit i)/\AbA r b.tail
theorem AqI (ops:List Oper) (i:Nat) (x:Fq): ∀(r:List Fq) (b:List Nat),AbA r b->AfA ops i x r b=r.all (WZ ops i x):=by
 intro r
 induction r with
 | nil=>intro b _;rfl
 | cons y r ih=>grind[AfA,AbA,WZ]
theorem AqH (ops:List Oper): ∀(r:List Fq) (i:Nat) (b:List Nat),AbA r b->Af9 ops i r b=YP ops i r:=by
 intro r
 induction r with
 | nil=>intro i b _;rfl
 | cons x r ih=>grind[Af9,YP,AqI,AbA]
theorem Aew (acc:List (List Nat)) (accB:List Nat) (h: ∀ e i,has (acc.getD e []) i=(accB.getD e 0).testBit i) (i:Nat): ∀ es:List Nat,has (es.flatMap fun e=>e::acc.getD e []) i=(es.foldr (fun e m=>((2 ^ e) ||| accB.getD e 0) ||| m) 0).testBit i:=by
 intro es
 induction es with
 | nil=>grind[has]
 | cons e r ih =>
  rw[List.flatMap_cons,List.foldr_cons,Nat.testBit_or,Nat.testBit_or,Nat.testBit_two_pow,<- ih,<- h e i]
  have hb:Nat.beq i e=decide (e=i):=by
   by_cases hh:e=i
   ·simp_all[has]
   ·rw[decide_eq_false hh];apply Bool.eq_false_iff.2;intro h;exact hh (Nat.eq_of_beq_eq_true h).symm
  all_goals grind[has]
theorem Apd (C:Ctx) (ops:List Oper): ∀(l:List Oper) (acc:List (List Nat)) (accB:List Nat) (st:St),acc.length=accB.length->(∀ e i,has (acc.getD e []) i=(accB.getD e 0).testBit i)->AbA (OG C ops l acc st) (An6 l accB):=by
 intro l
 induction l with
 | nil=>intro acc accB st _ _;trivial
 | cons o r ih =>
  intro acc accB st hl h;unfold OG An6;dsimp only;rw[zW];refine⟨fun i=>Aew acc accB h i _,ih _ _ _ (by simp [hl]) fun e i=> ?_⟩;rcases Nat.lt_trichotomy e acc.length with he | he | he
  ·rw[List.getD_eq_getElem?_getD,List.getD_eq_getElem?_getD,List.getElem?_append_left he,List.getElem?_append_left (by omega),<- List.getD_eq_getElem?_getD,<- List.getD_eq_getElem?_getD];exact h e i
  ·rw[List.getD_eq_getElem?_getD,List.getD_eq_getElem?_getD,List.getElem?_append_right (by omega),List.getElem?_append_right (by omega),show e - acc.length=0 by omega,show e - accB.length=0 by omega];exact Aew acc accB h i _
  ·rw[List.getD_eq_getElem?_getD,List.getD_eq_getElem?_getD,List.getElem?_eq_none (by simp;omega),List.getElem?_eq_none (by simp;omega)];show false=Nat.testBit 0 i;rw[Nat.zero_testBit]
noncomputable def AgJ (C:Ctx) (ops:List Oper) (st:St):Bool :=
 match AeV C ops ops [] st with
 | fs=>ordered ops&&Af9 ops 0 fs (An6 ops [])&&(fs.flatMap Fq.news).all st.fresh&&sorted st.Dn
theorem Aoa (C:Ctx) (ops:List Oper) (st:St):AgJ C ops st=NQ C ops st:=by unfold AgJ NQ;rw[Aqg];dsimp only;rw[AqH _ _ _ _ (Apd C ops ops [] [] st rfl fun e i=>by show false=Nat.testBit 0 i;rw[Nat.zero_testBit])]
def mG {ρ :Type} (C:Ctx) (key:Nat) (st:St) (K:St->Option ρ):Option ρ :=
 match norm C key st with
 | (ok,st')=>match ok with
  | true=>K st'
  | false=>none
theorem Af0 {ρ :Type} (C:Ctx) (key:Nat) (st:St) (K:St->Option ρ):mG C key st K=NU C key st K:=by unfold mG NU;generalize norm C key st=q;obtain⟨ok,st'⟩:=q;cases ok<;>rfl
def Uf {ρ :Type} (C:Ctx) (kind:Nat) (c:Code) (st:St) (K:St->Option ρ):Option ρ :=
 match Gh c with
 | some n=>mG C (4*n+kind) st K
 | none=>(fun(_:Nat)=>K st) Aeh
theorem ZI {ρ :Type} (C:Ctx) (kind:Nat) (c:Code) (st:St) (K:St->Option ρ):Uf C kind c st K=meet C kind c st K:=by grind[Uf,meet,Gh,Af0]
inductive HK where
 | b | i (k:IntKind) | s | l (t:Ty) | ln (t:Ty) | n | m (kt vt:Ty)
def HK.T:HK->Type
 | .b=>Bool
 | .i _=>Int
 | .s=>List UInt8
 | .l t=>List t.Val
 | .ln t=>List t.Val
 | .n=>Nat
 | .m kt vt=>List (kt.Val×vt.Val)
def HK.enc:(h:HK)->h.T->A
 | .b,v=>.bool v
 | .i k,v=>.int k v
 | .s,v=>.str v
 | .l t,v=>.sl ⟨t,v⟩
 | .ln t,v=>.sln ⟨t,v⟩
 | .n,v=>.fn v
 | .m kt vt,v=>.ump ⟨kt,vt,v⟩
def AsZ:A->Nat | .fn n=>n | _=>0
def isFn:A->Bool | .fn _=>true | _=>false
def HK.is:HK->A->Bool
 | .b,a=>a.isB
 | .i k,a=>a.isI k
 | .s,a=>a.isS
 | .l t,a=>a.AgY t
 | .ln t,a=>a.Aby t
 | .n,a=>isFn a
 | .m kt vt,a=>a.qF kt vt
def HK.dec:(h:HK)->A->h.T
 | .b,a=>a.toB
 | .i _,a=>a.toI
 | .s,a=>a.toS
 | .l t,a=>(a.toL.cast t).getD []
 | .ln t,a=>(a.toL.cast t).getD []
 | .n,a=>AsZ a
 | .m kt vt,a=>(a.toM.cast kt vt).getD []
theorem HK.AgM {h:HK} {a:A} (ha:h.is a=true):h.enc (h.dec a)=a:=by
 cases h with
 | b=>cases a<;>first | rfl | cases ha
 | i k =>
  cases a<;>first
   | (rename_i k' n;have:=A.Ko (show A.kEq k k'=true from ha);subst this;rfl)
   | cases ha
 | s=>cases a<;>first | rfl | cases ha
 | l t =>
  cases a<;>first
   | (rename_i l
      have e:l.t=t:=of_decide_eq_true ha;obtain⟨t',xs⟩:=l;dsimp only at e;subst e;show A.sl ⟨t',((Sl.cast ⟨t',xs⟩ t').getD [])⟩=_;rw[Sl.WC];rfl)
   | cases ha
 | ln t =>
  cases a<;>first
   | (rename_i l
      have e:l.t=t:=of_decide_eq_true ha;obtain⟨t',xs⟩:=l;dsimp only at e;subst e;show A.sln ⟨t',((Sl.cast ⟨t',xs⟩ t').getD [])⟩=_;rw[Sl.WC];rfl)
   | cases ha
 | n=>cases a<;>first | rfl | cases ha
 | m kt vt =>obtain⟨l,rfl,h1,h2⟩:=qG (show A.qF kt vt a=true from ha);obtain⟨k,v,xs⟩:=l;dsimp only at h1 h2;subst h1;subst h2;show A.ump ⟨k,v,((Mp.cast ⟨k,v,xs⟩ k v).getD [])⟩=_;rw[Mp.WC];rfl
def pr2 (α β :Type):List HK->Type
 | []=> α
 | _::_=> α × β
def HV:List HK->Type
 | []=>Unit
 | h::r=>pr2 h.T (HV r) r
def hdH (h:HK):(r:List HK)->pr2 h.T (HV r) r->h.T
 | [],v=>v
 | _::_,v=>v.1
def tlH (h:HK):(r:List HK)->pr2 h.T (HV r) r->HV r
 | [],_=>()
 | _::_,v=>v.2
def mkH (h:HK):(r:List HK)->h.T->HV r->pr2 h.T (HV r) r
 | [],a,_=>a
 | _::_,a,b=>(a,b)
theorem AuK (h:HK) (r:List HK) (a:h.T) (b:HV r):hdH h r (mkH h r a b)=a:=by cases r<;>rfl
theorem Avs (h:HK) (r:List HK) (a:h.T) (b:HV r):tlH h r (mkH h r a b)=b:=by cases r<;>rfl
def HV.enc:(hs:List HK)->HV hs->List A
 | [],_=>[]
 | h::r,v=>h.enc (hdH h r v)::HV.enc r (tlH h r v)
def HV.dec:(hs:List HK)->List A->HV hs
 | [],_=>()
 | h::r,xs=>mkH h r (h.dec (xs.headD .undef)) (HV.dec r xs.tail)
def HV.Is:List HK->List A->Prop
 | [],[]=>True
 | h::r,x::xs=>h.is x=true/\HV.Is r xs
 | _,_=>False
theorem HV.AgM: ∀(hs:List HK) (xs:List A),HV.Is hs xs->HV.enc hs (HV.dec hs xs)=xs:=by
 intro hs
 induction hs with
 | nil=>intro xs h;cases xs with | nil=>rfl | cons _ _=>cases h
 | cons h r ih =>
  intro xs hx;cases xs with
  | nil=>cases hx
  | cons x xs =>show h.enc (hdH h r (mkH h r (h.dec x) (HV.dec r xs)))::HV.enc r (tlH h r (mkH h r (h.dec x) (HV.dec r xs)))=_;rw[AuK,Avs,HK.AgM hx.1,ih xs hx.2]
theorem HV.Is.append: ∀ {hs hs':List HK} {xs ys:List A},HV.Is hs xs->HV.Is hs' ys->HV.Is (hs++hs') (xs++ys):=by
 intro hs
 induction hs with
 | nil=>intro hs' xs ys h h';cases xs with | nil=>exact h' | cons _ _=>cases h
 | cons h r ih=>intro hs' xs ys hx h';cases xs with | nil=>cases hx | cons x xs=>exact⟨hx.1,ih hx.2 h'⟩
theorem HV.Is.length: ∀ {hs:List HK} {xs:List A},HV.Is hs xs->xs.length=hs.length:=by
 intro hs
 induction hs with
 | nil=>intro xs h;cases xs with | nil=>rfl | cons _ _=>cases h
 | cons h r ih=>intro xs hx;cases xs with | nil=>cases hx | cons x xs=>simp [ih hx.2]
inductive Pc where
 | h (k:HK) | oe (o off:Nat) | c (a:A)
inductive Pt where
 | i | c (p:Pc) | agg (l:List Pc) | elt (l:List Pc)
inductive Po where
 | box (l:List Pc) | arr (e:Nat) (frz:Bool) (t:Ty) | Ed (e:Nat) (frz:Bool) (t:Ty) | mp (kt vt:Ty)
structure Spe where
 ts:List (Nat×Pt)
 os:List (Nat×Po)
def Ob:A->Bool | .undef=>true | _=>false
def QV (a:A):Bool:=a.ids.isEmpty&& !(lV a)
def same:A->A->Bool
 | .undef,.undef=>true
 | .Fh,.Fh=>true
 | .FP,.FP=>true
 | .bool a,.bool b=>a==b
 | .int k a,.int k' b=>A.kEq k k'&&a==b
 | .str a,.str b=>a==b
 | .sl l,.sl l'=>decide (l.t=l'.t)&&(l.xs.isEmpty&&l'.xs.isEmpty)
 | .ptr o p,.ptr o' p'=>Nat.beq o o'&&Nat.beq p p'
 | .own o,.own o'=>Nat.beq o o'
 | .Eg o i p,.Eg o' i' p'=>Nat.beq o o'&&(Nat.beq i i'&&Nat.beq p p')
 | .fn f,.fn f'=>Nat.beq f f'
 | .clo f o,.clo f' o'=>Nat.beq f f'&&Nat.beq o o'
 | .bsl o n,.bsl o' n'=>Nat.beq o o'&&Nat.beq n n'
 | .osl o n,.osl o' n'=>Nat.beq o o'&&Nat.beq n n'
 | _,_=>false
theorem same_eq {a b:A} (h:same a b=true):a=b:=by
 unfold same at h;split at h
 ·rfl
 ·rfl
 ·rfl
 ·rw[eq_of_beq h]
 ·grind[A.Ko]
 ·rw[eq_of_beq h]
 ·rename_i l l';simp only[Bool.and_eq_true,decide_eq_true_eq,List.isEmpty_iff]at h;obtain⟨t,xs⟩:=l;obtain⟨t',xs'⟩:=l';all_goals grind[same]
 all_goals simp_all[same]
namespace Pc
def hs:Pc->List HK
 | .h k=>[k]
 | .oe _ _=>[.n]
 | .c _=>[]
def nh:Pc->Nat
 | .c _=>0
 | _=>1
def emb:Pc->List A->A
 | .h _,xs=>xs.headD .undef
 | .oe o off,xs=>.Eg o (AsZ (xs.headD .undef)) off
 | .c a,_=>a
def un:Pc->A->List A
 | .h _,a=>[a]
 | .oe _ _,.Eg _ i _=>[.fn i]
 | .oe _ _,_=>[.fn 0]
 | .c _,_=>[]
def fits:Pc->A->List Bool
 | .h k,a=>[k.is a]
 | .oe o off,.Eg o' _ off'=>[Nat.beq o o',Nat.beq off off']
 | .oe _ _,_=>[false]
 | .c x,a=>[same x a]
theorem P6 {p:Pc} {a:A} (h:DC (p.fits a)) (r:List A):p.emb (p.un a++r)=a/\(p.un a++r).drop p.nh=r/\HV.Is p.hs (p.un a):=by
 cases p with
 | h k=>exact⟨rfl,rfl,h.cons.1,trivial⟩
 | oe o off =>
  cases a<;>first
   | (have h1:=h.cons.1;have h2:=h.cons.2.cons.1
      rw[Nat.eq_of_beq_eq_true h1,Nat.eq_of_beq_eq_true h2];exact⟨rfl,rfl,rfl,trivial⟩)
   | exact absurd h.cons.1 (by decide)
 | c x=>exact⟨same_eq h.cons.1,rfl,trivial⟩
end Pc
def hsC:List Pc->List HK
 | []=>[]
 | p::r=>p.hs++hsC r
def nhC:List Pc->Nat
 | []=>0
 | p::r=>p.nh+nhC r
def AgK:List Pc->List A->List A
 | [],_=>[]
 | p::r,xs=>p.emb xs::AgK r (xs.drop p.nh)
def unC:List Pc->List A->List A
 | p::r,a::aa=>p.un a++unC r aa
 | _,_=>[]
def AeT:List Pc->List A->List Bool
 | [],[]=>[]
 | p::r,a::aa=>p.fits a++AeT r aa
 | _,_=>[false]
theorem AgL: ∀(l:List Pc) (aa:List A),DC (AeT l aa)-> ∀ r,AgK l (unC l aa++r)=aa/\(unC l aa++r).drop (nhC l)=r/\HV.Is (hsC l) (unC l aa):=by
 intro l
 induction l with
 | nil=>intro aa h r;cases aa with | nil=>exact⟨rfl,rfl,trivial⟩ | cons _ _=>exact absurd h.cons.1 (by decide)
 | cons p l ih =>
  intro aa h r;cases aa with
  | nil=>exact absurd h.cons.1 (by decide)
  | cons a aa =>
   obtain⟨h1,h2⟩:=h.append;obtain⟨e1,e2,e3⟩:=p.P6 h1 (unC l aa++r);obtain⟨f1,f2,f3⟩:=ih aa h2 r;refine⟨?_,?_,e3.append f3⟩
   ·grind[unC,AgK,drop]
   ·show((p.un a++unC l aa)++r).drop (p.nh+nhC l)=_;rw[List.append_assoc,<- List.drop_drop,e2,f2]
namespace Pt
def hs:Pt->List HK
 | .i=>[]
 | .c p=>p.hs
 | .agg l=>hsC l
 | .elt l=>hsC l
def nh:Pt->Nat
 | .i=>0
 | .c p=>p.nh
 | .agg l=>nhC l
 | .elt l=>nhC l
def emb:Pt->A->List A->A
 | .i,b,_=>b
 | .c p,_,xs=>p.emb xs
 | .agg l,_,xs=>.agg (AgK l xs)
 | .elt l,_,xs=>.elt (AgK l xs)
def un:Pt->A->List A
 | .i,_=>[]
 | .c p,a=>p.un a
 | .agg l,.agg cs=>unC l cs
 | .elt l,.elt cs=>unC l cs
 | _,_=>[]
def fits:Pt->A->A->List Bool
 | .i,b,a=>[QV b,!(Ob a)]
 | .c p,_,a=>p.fits a
 | .agg l,_,.agg cs=>AeT l cs
 | .elt l,_,.elt cs=>AeT l cs
 | _,_,_=>[false]
def isI:Pt->Bool | .i=>true | _=>false
theorem P6 {p:Pt} {b a:A} (h:DC (p.fits b a)) (hi:p= .i->QV b=true->Ob a=false->a=b) (r:List A):p.emb b (p.un a++r)=a/\(p.un a++r).drop p.nh=r/\HV.Is p.hs (p.un a):=by
 cases p with
 | i =>refine⟨(hi rfl h.cons.1 ?_).symm,rfl,trivial⟩;have:=h.cons.2.cons.1;simpa using this
 | c p=>exact p.P6 h r
 | agg l =>
  cases a<;>first
   | (obtain⟨h1,h2,h3⟩:=AgL l _ h r;exact⟨congrArg A.agg h1,h2,h3⟩)
   | exact absurd h.cons.1 (by decide)
 | elt l =>
  cases a<;>first
   | (obtain⟨h1,h2,h3⟩:=AgL l _ h r;exact⟨congrArg A.elt h1,h2,h3⟩)
   | exact absurd h.cons.1 (by decide)
end Pt
def hsT:List (Nat×Pt)->List HK
 | []=>[]
 | (_,p)::r=>p.hs++hsT r
def nhT:List (Nat×Pt)->Nat
 | []=>0
 | (_,p)::r=>p.nh+nhT r
def pG:List A->Nat->List (Nat×Pt)->List A->List A
 | [],_,_,_=>[]
 | _::bs,i,[],xs=>.undef::pG bs (i+1) [] xs
 | b::bs,i,(j,p)::ts,xs=>bif Nat.beq i j then p.emb b xs::pG bs (i+1) ts (xs.drop p.nh)else .undef::pG bs (i+1) ((j,p)::ts) xs
def unT:List A->Nat->List (Nat×Pt)->List A
 | [],_,_=>[]
 | _::_,_,[]=>[]
 | a::aa,i,(j,p)::ts=>bif Nat.beq i j then p.un a++unT aa (i+1) ts else unT aa (i+1) ((j,p)::ts)
def fitsT:List A->List A->Nat->List (Nat×Pt)->List Bool
 | [],[],_,[]=>[]
 | _::bs,a::aa,i,[]=>Ob a::fitsT bs aa (i+1) []
 | b::bs,a::aa,i,(j,p)::ts=>bif Nat.beq i j then p.fits b a++fitsT bs aa (i+1) ts else Ob a::fitsT bs aa (i+1) ((j,p)::ts)
 | _,_,_,_=>[false]
theorem Afq {a:A} (h:Ob a=true):a= .undef:=by cases a<;>first | rfl | cases h
theorem At6: ∀(bs aa:List A) (i:Nat) (ts:List (Nat×Pt)),DC (fitsT bs aa i ts)->(∀ t,((t,Pt.i):Nat×Pt)∈ts->i<=t->QV (bs.getD (t - i) .undef)=true->Ob (aa.getD (t - i) .undef)=false->aa.getD (t - i) .undef=bs.getD (t - i) .undef) ->
 ∀ r,pG bs i ts (unT aa i ts++r)=aa/\(unT aa i ts++r).drop (nhT ts)=r/\HV.Is (hsT ts) (unT aa i ts):=by
 intro bs
 induction bs with
 | nil =>
  intro aa i ts h _ r;cases aa with
  | nil=>cases ts with | nil=>exact⟨rfl,rfl,trivial⟩ | cons _ _=>exact absurd h.cons.1 (by decide)
  | cons _ _=>exact absurd h.cons.1 (by decide)
 | cons b bs ih =>
  intro aa i ts h hi r;have hstep: ∀ ts':List (Nat×Pt),(∀ t,(t,Pt.i)∈ts'->((t,Pt.i):Nat×Pt)∈ts)-> ∀(a:A) (as':List A),aa=a::as'-> ∀ t,(t,Pt.i)∈ts'->i+1<=t->QV (bs.getD (t - (i+1)) .undef)=true->Ob (as'.getD (t - (i+1)) .undef)=false->as'.getD (t - (i+1)) .undef=bs.getD (t - (i+1)) .undef:=by all_goals grind[Pt,DC,fitsT,QV,Ob,pG]
  cases aa with
  | nil=>cases ts<;>exact absurd h.cons.1 (by decide)
  | cons a aa =>
   cases ts with
   | nil =>
    have h':DC (Ob a::fitsT bs aa (i+1) []):=h;obtain⟨f1,f2,f3⟩:=ih aa (i+1) [] h'.cons.2 (fun t ht=>by cases ht) r;have hu:=Afq h'.cons.1;refine⟨?_,rfl,trivial⟩;show A.undef::pG bs (i+1) [] ([]++r)=a::aa;have e0:unT aa (i+1) []=[]:=by cases aa<;>rfl
    rw[e0]at f1;rw[hu,f1]
   | cons q ts =>
    obtain⟨j,p⟩:=q;have h':DC (bif Nat.beq i j then p.fits b a++fitsT bs aa (i+1) ts else Ob a::fitsT bs aa (i+1) ((j,p)::ts)):=h;cases hb:Nat.beq i j with
    | true =>
     rw[hb]at h';obtain⟨h1,h2⟩:=DC.append h';have hij:=Nat.eq_of_beq_eq_true hb;subst hij;obtain⟨e1,e2,e3⟩:=Pt.P6 h1 (fun hp hpl hu=>by have:=hi i (by rw[<- hp];exact List.mem_cons_self) (Nat.le_refl _);rw[Nat.sub_self]at this;exact this hpl hu) (unT aa (i+1) ts++r);obtain⟨f1,f2,f3⟩:=ih aa (i+1) ts h2 (hstep ts (fun t ht=>List.mem_cons_of_mem _ ht) a aa rfl) r;have u0:unT (a::aa) i ((i,p)::ts)=p.un a++unT aa (i+1) ts:=by show(bif Nat.beq i i then _ else _)=_;rw[hb];rfl
     refine⟨?_,?_,?_⟩
     ·rw[u0];show(bif Nat.beq i i then _ else _)=_;rw[hb];show p.emb b ((p.un a++unT aa (i+1) ts)++r)::pG bs (i+1) ts (((p.un a++unT aa (i+1) ts)++r).drop p.nh)=_;rw[List.append_assoc,e1,e2,f1]
     ·rw[u0];show((p.un a++unT aa (i+1) ts)++r).drop (p.nh+nhT ts)=_;rw[List.append_assoc,<- List.drop_drop,e2,f2]
     ·rw[u0];exact e3.append f3
    | false =>
     rw[hb]at h';obtain⟨f1,f2,f3⟩:=ih aa (i+1) ((j,p)::ts) h'.cons.2 (hstep _ (fun t ht=>ht) a aa rfl) r;have hu:=Afq h'.cons.1;have u0:unT (a::aa) i ((j,p)::ts)=unT aa (i+1) ((j,p)::ts):=by show(bif Nat.beq i j then _ else _)=_;rw[hb];rfl
     refine⟨?_,?_,?_⟩
     ·rw[u0];show(bif Nat.beq i j then _ else _)=_;rw[hb];show A.undef::pG bs (i+1) ((j,p)::ts) (unT aa (i+1) ((j,p)::ts)++r)=_;rw[hu,f1]
     ·rw[u0];exact f2
     ·rw[u0];exact f3
namespace Po
def hs:Po->List HK
 | .box l=>hsC l
 | .arr _ _ t=>[.l t]
 | .Ed _ _ _=>[]
 | .mp kt vt=>[.m kt vt]
def nh:Po->Nat
 | .box l=>nhC l
 | .arr _ _ _=>1
 | .Ed _ _ _=>0
 | .mp _ _=>1
def emb:Po->List A->Obj
 | .box l,xs=>.box (AgK l xs)
 | .arr e f _,xs=>.arr e f (xs.headD .undef).toL
 | .Ed e f t,_=>.arr e f ⟨t,[]⟩
 | .mp _ _,xs=>.mp (xs.headD .undef).toM
def un:Po->Obj->List A
 | .box l,.box cs=>unC l cs
 | .arr _ _ _,.arr _ _ l=>[.sl l]
 | .mp _ _,.mp l=>[.ump l]
 | _,_=>[]
def fits:Po->Obj->List Bool
 | .box l,.box cs=>AeT l cs
 | .arr e f t,.arr e' f' l=>[Nat.beq e e',f==f',decide (l.t=t)]
 | .Ed e f t,.arr e' f' l=>[Nat.beq e e',f==f',decide (l.t=t),l.xs.isEmpty]
 | .mp kt vt,.mp l=>[A.qF kt vt (.ump l)]
 | _,_=>[false]
theorem P6 {p:Po} {x:Obj} (h:DC (p.fits x)) (r:List A):p.emb (p.un x++r)=x/\(p.un x++r).drop p.nh=r/\HV.Is p.hs (p.un x):=by
 cases p with
 | box l =>
  cases x with
  | box cs=>obtain⟨h1,h2,h3⟩:=AgL l cs h r;exact⟨congrArg Obj.box h1,h2,h3⟩
  | arr _ _ _=>exact absurd h.cons.1 (by decide)
  | mp _=>exact absurd h.cons.1 (by decide)
 | mp kt vt =>
  cases x with
  | box cs=>exact absurd h.cons.1 (by decide)
  | arr _ _ _=>exact absurd h.cons.1 (by decide)
  | mp l=>exact⟨rfl,rfl,h.cons.1,trivial⟩
 | arr e f t =>
  cases x with
  | box cs=>exact absurd h.cons.1 (by decide)
  | mp _=>exact absurd h.cons.1 (by decide)
  | arr e' f' l =>have h1:=Nat.eq_of_beq_eq_true h.cons.1;have h2:=eq_of_beq h.cons.2.cons.1;have h3:=h.cons.2.cons.2.cons.1;subst h1;subst h2;exact⟨rfl,rfl,h3,trivial⟩
 | Ed e f t =>
  cases x with
  | box cs=>exact absurd h.cons.1 (by decide)
  | mp _=>exact absurd h.cons.1 (by decide)
  | arr e' f' l =>have h1:=Nat.eq_of_beq_eq_true h.cons.1;have h2:=eq_of_beq h.cons.2.cons.1;have h3:=of_decide_eq_true h.cons.2.cons.2.cons.1;have h4:=List.isEmpty_iff.1 h.cons.2.cons.2.cons.2.cons.1;obtain⟨t',xs⟩:=l;dsimp only at h3 h4;subst h1;subst h2;subst h3;subst h4;exact⟨rfl,rfl,trivial⟩
end Po
def hsO:List (Nat×Po)->List HK
 | []=>[]
 | (_,p)::r=>p.hs++hsO r
def Aoc:List (Nat×Po)->List A->List (Nat×Obj)
 | [],_=>[]
 | (n,p)::r,xs=>(n,p.emb xs)::Aoc r (xs.drop p.nh)
def unO:List (Nat×Po)->List (Nat×Obj)->List A
 | (_,p)::r,(_,x)::l=>p.un x++unO r l
 | _,_=>[]
def Aj6:List (Nat×Po)->List (Nat×Obj)->List Bool
 | [],[]=>[]
 | (n,p)::r,(k,x)::l=>Nat.beq n k::p.fits x++Aj6 r l
 | _,_=>[false]
theorem At5: ∀(os:List (Nat×Po)) (l:List (Nat×Obj)),DC (Aj6 os l)->Aoc os (unO os l)=l/\HV.Is (hsO os) (unO os l):=by
 intro os
 induction os with
 | nil=>intro l h;cases l with | nil=>exact⟨rfl,trivial⟩ | cons _ _=>exact absurd h.cons.1 (by decide)
 | cons q os ih =>
  intro l h;cases l with
  | nil=>exact absurd h.cons.1 (by decide)
  | cons y l =>obtain⟨n,p⟩:=q;obtain⟨k,x⟩:=y;have h':DC ((Nat.beq n k::p.fits x)++Aj6 os l):=h;obtain⟨h1,h2⟩:=h'.append;have hn:=Nat.eq_of_beq_eq_true h1.cons.1;subst hn;obtain⟨e1,e2,e3⟩:=p.P6 h1.cons.2 (unO os l);obtain⟨f1,f3⟩:=ih l h2;refine⟨?_,e3.append f3⟩;all_goals grind[unO,Aoc,drop]
namespace Spe
def hs (sh:Spe):List HK:=hsT sh.ts++hsO sh.os
def emb (sh:Spe) (b:St) (v:HV sh.hs):St:=⟨pG b.tmps 0 sh.ts (HV.enc sh.hs v),Aoc sh.os ((HV.enc sh.hs v).drop (nhT sh.ts))⟩
def un (sh:Spe) (st:St):HV sh.hs:=HV.dec sh.hs (unT st.tmps 0 sh.ts++unO sh.os st.Dn)
def fits (sh:Spe) (b st:St):List Bool:=fitsT b.tmps st.tmps 0 sh.ts++Aj6 sh.os st.Dn
noncomputable def enter {ρ :Type} (sh:Spe) (b st:St) (j:HV sh.hs->Option ρ):Option ρ :=allH (sh.fits b st) (j (sh.un st))
def okI (sh:Spe) (W:List Nat):Bool:=sh.ts.all fun q=> !(q.2.isI)|| !(has W q.1)
end Spe
def xb:Pc:=.h .b
def x64:Pc:=.h (.i .i64)
def x8:Pc:=.h (.i .u8)
def xi (k:IntKind):Pc:=.h (.i k)
def xs:Pc:=.h .s
def xl (t:Ty):Pc:=.h (.l t)
def xo (o:Nat):Pc:=.c (.own o)
def x0:Pc:=.c .Fh
def R (W:List Nat) (st st':St):Prop:= ∀ t,t∉W->QV (st.tmps.getD t .undef)=true->st'.tmps.getD t .undef=st.tmps.getD t .undef\/st'.tmps.getD t .undef= .undef
theorem R.refl (W:List Nat) (st:St):R W st st:=fun _ _ _=>.inl rfl
theorem R.trans {W:List Nat} {a b c:St} (h1:R W a b) (h2:R W b c):R W a c:=by
 intro t ht hp;rcases h1 t ht hp with e | e
 ·grind[R]
 ·rcases h2 t ht (by rw[e];rfl)with e' | e';all_goals grind[R]
theorem R.mono {W W':List Nat} {a b:St} (h:R W a b) (hs: ∀ t∈W,t∈W'):R W' a b:=fun t ht hp=>h t (fun h'=>ht (hs t h')) hp
theorem R.of_eq {W:List Nat} {a b:St} (h:a.tmps=b.tmps):R W a b:=fun _ _ _=>.inl (by rw[h])
theorem R.none {W:List Nat} {a b:St} (h:R [] a b):R W a b:=h.mono (fun _ h=>by cases h)
theorem Spe.P6 {sh:Spe} {W:List Nat} {b st:St} (h:DC (sh.fits b st)) (hi:sh.okI W=true) (hr:R W b st):sh.emb b (sh.un st)=st:=by
 obtain⟨h1,h2⟩:=h.append;obtain⟨f1,f3⟩:=At5 _ _ h2
 obtain⟨e1,e2,e3⟩:=At6 _ _ 0 _ h1 (fun t ht _ hp hu=>by
  rw[Nat.sub_zero]at hp hu ⊢;have hw:t∉W:=by have:=List.all_eq_true.1 hi _ ht;intro hm;rw[show has W t=true by simp only[has,List.any_eq_true];exact⟨t,hm,by simp⟩]at this;cases this
  rcases hr t hw hp with e | e
  ·exact e
  ·rw[e]at hu;cases hu) (unO sh.os st.Dn)
 unfold Spe.emb Spe.un;rw[HV.AgM _ _ (show HV.Is sh.hs _ from e3.append f3),e1,e2,f1]
theorem Ad1 (l:List A) (d t:Nat) (v:A) (h:t≠d):(l.set d v).getD t .undef=l.getD t .undef:=by grind
theorem AvL: ∀(l:List (Option Nat×Nat×Ty)) (st:St),R [] st (pzs l st):=by
 intro l
 induction l with
 | nil=>intro st;exact R.refl _ _
 | cons q r ih =>
  intro st;obtain⟨b,t,ty⟩:=q;have hset: ∀(v:A) (Dn:List (Nat×Obj)),QV (st.tmps.getD t .undef)=false->R [] st {tmps:=st.tmps.set t v,Dn:=Dn}:=by intro v Dn hp k _ hk;all_goals grind[Ad1]
  cases b with
  | none =>
   unfold pzs;split
   ·rename_i e;exact(hset _ _ (by rw[e];rfl)).trans (ih _)
   ·rename_i o e;split
    ·exact(hset _ _ (by rw[e];rfl)).trans (ih _)
    ·exact ih _
   ·exact ih _
  | some b =>
   unfold pzs;split
   ·split
    ·split
     ·refine R.trans ?_ (ih _);exact R.of_eq rfl
     ·exact ih _
    ·exact ih _
   ·exact ih _
theorem getD_drop (keep:List Nat): ∀(l:List A) (i t:Nat),(drop keep l i).getD t .undef=l.getD t .undef\/(drop keep l i).getD t .undef= .undef:=by
 intro l
 induction l with
 | nil=>intro i t;exact .inl rfl
 | cons a l ih =>
  intro i t;cases t with
  | zero=>grind[has,drop]
  | succ t=>exact ih (i+1) t
theorem AoZ {f t:Nat} {a:A} (h:QV a=true):Ic f t a=a:=by
 unfold QV at h;rw[Bool.and_eq_true,List.isEmpty_iff]at h;have h1:=h.1;cases a with
 | ptr o off=>cases h1
 | own o=>cases h1
 | clo _ _=>cases h1
 | bsl _ _=>cases h1
 | osl _ _=>cases h1
 | Eg o i off=>cases h1
 | agg cs =>
  have h2:cs.flatMap A.Gz=[]:=h1;rw[List.flatMap_eq_nil_iff]at h2;show A.agg (cs.map _)=A.agg cs;congr 1
  conv=>rhs;rw[<- List.map_id cs]
  refine List.map_congr_left fun c hc=> ?_;have:=h2 c hc;cases c<;>first | rfl | cases this
 | _=>rfl
theorem Avi: ∀(l:List (Nat×Nat)) (st:St),R [] st (AaY st l).2:=by
 intro l
 induction l with
 | nil=>intro st;exact R.refl _ _
 | cons q r ih =>
  intro st;obtain⟨f,t⟩:=q;unfold AaY;cases hx:D6 st.Dn f with
  | none=>exact ih st
  | some x =>
   have h1:R [] st {tmps:=st.tmps.map (Ic f t),Dn:=(F7 (LV st.Dn f) t x).map (fun p=>(p.1,AaX f t p.2))}:=by
    intro k _ hk;left;show(st.tmps.map (Ic f t)).getD k .undef=_;rw[List.getD_eq_getElem?_getD,List.getElem?_map];rw[List.getD_eq_getElem?_getD]at hk ⊢;cases hs:st.tmps[k]? with
    | none=>rfl
    | some a =>rw[hs]at hk;exact AoZ hk
   exact h1.trans (ih _)
theorem Ame (id:Nat): ∀(ts:List Nat) (l:List A) (k:Nat),k∉ts->(Abb id ts l).getD k .undef=l.getD k .undef:=by
 intro ts
 induction ts with
 | nil=>intro l k _;rfl
 | cons t r ih=>grind[Abb,Ad1]
theorem Ava: ∀(l:List (List Nat×Nat×Ty×Nat)) (st:St),(owns l st).1=true->R [] st (owns l st).2:=by
 intro l
 induction l with
 | nil=>intro st _;exact R.refl _ _
 | cons q r ih =>
  intro st h;obtain⟨ts,e,ty,id⟩:=q;unfold owns at h ⊢;cases ha:ts.any (fun t=>lV (st.tmps.getD t .undef))with
  | false=>rw[ha]at h;exact ih st h
  | true =>rw[ha]at h;dsimp only[cond_true]at h ⊢;simp only[Bool.and_eq_true]at h;refine R.trans ?_ (ih _ h.2);intro k _ hk;all_goals grind[Ame,QV]
theorem AuU {C:Ctx} {key:Nat} {st:St} (h:(norm C key st).1=true):R [] st (norm C key st).2:=by
 unfold norm at h ⊢;split at h
 ·exact R.refl _ _
 ·rename_i n hn;dsimp only at h ⊢;simp only[Bool.and_eq_true]at h;have h1:R [] st (pzs n.pz st):=AvL _ _;have h2:R [] (pzs n.pz st) {tmps:=drop n.keep (pzs n.pz st).tmps 0,Dn:=(pzs n.pz st).Dn.filter (fun p=>has (reached (drop n.keep (pzs n.pz st).tmps 0) (pzs n.pz st).Dn) p.1)}:=fun t _ _=>getD_drop _ _ _ _;exact((h1.trans h2).trans (Avi _ _)).trans ((Ava _ _ h.2).trans (R.of_eq rfl))
theorem pI {ρ :Type} {sh:Spe} {b st:St} {j:HV sh.hs->Option ρ} {v: ρ} (h:sh.enter b st j=some v):DC (sh.fits b st)/\j (sh.un st)=some v:=by unfold Spe.enter at h;rw[jR]at h;exact OX h
theorem AkM {ρ :Type} {C:Ctx} {key:Nat} {st:St} {K:St->Option ρ} {v: ρ} (h:NU C key st K=some v): ∃ st',R [] st st'/\K st'=some v/\ ∀ K':St->Option ρ,NU C key st K'=K' st':=by
 unfold NU at h;cases hn:(norm C key st).1 with
 | false =>
  have e:norm C key st=(false,(norm C key st).2):=by rw[<- hn]
  rw[e]at h;cases h
 | true =>
  have e:norm C key st=(true,(norm C key st).2):=by rw[<- hn]
  all_goals grind[AuU,NU]
theorem Aau {ρ :Type} {C:Ctx} {kind:Nat} {c:Code} {st:St} {K:St->Option ρ} {v: ρ} (h:meet C kind c st K=some v): ∃ st',R [] st st'/\K st'=some v/\ ∀ K':St->Option ρ,meet C kind c st K'=K' st':=by
 unfold meet at h;cases hf:Gh c with
 | none=>rw[hf]at h;exact⟨st,R.refl _ _,h,fun K'=>by unfold meet;rw[hf]⟩
 | some n=>grind[AkM,meet]
structure Lk where
 j:List (Nat×Spe)
 l:List (Nat×Spe×List (Nat×Spe))
def AoA {α :Type}:List (Nat× α)->Nat->Option α
 | [],_=>none
 | (k,x)::r,n=>bif Nat.beq k n then some x else AoA r n
def Afs (L:Lk) (b:Code):Option Spe:=match Gh b with
 | some n=>AoA L.j (4*n+1)
 | none=>none
def Afw (L:Lk) (c:Code):Option (Spe×List (Nat×Spe)):=match Gh c with
 | some n=>AoA L.l (4*n+2)
 | none=>none
def YT:List (Nat×Spe)->Type
 | []=>Unit
 | [(_,sh)]=>HV sh.hs
 | (_,sh)::q::r=>HV sh.hs ⊕ YT (q::r)
noncomputable def zK {ρ :Type}:(ex:List (Nat×Spe))->Nat->St->St->(YT ex->Option ρ)->Option ρ
 | [],_,_,_,_=>none
 | [(i,sh)],id,b,st,kx=>match Nat.beq i id with
  | true=>sh.enter b st kx
  | false=>none
 | (i,sh)::q::r,id,b,st,kx=>match Nat.beq i id with
  | true=>sh.enter b st (fun v=>kx (.inl v))
  | false=>zK (q::r) id b st (fun y=>kx (.inr y))
noncomputable def AeL {ρ :Type}:(ex:List (Nat×Spe))->St->(Ex->St->Option ρ)->YT ex->Option ρ
 | [],_,_=>fun _=>none
 | [(i,sh)],b,K=>fun v=>K (.exit i) (sh.emb b v)
 | (i,sh)::q::r,b,K=>Sum.elim (fun v=>K (.exit i) (sh.emb b v)) (AeL (q::r) b K)
noncomputable def Ab8 {ρ :Type} (mt:St->(St->Option ρ)->Option ρ) (body:St->(Ex->St->Option ρ)->Option ρ) (n:Nat):St->(Ex->St->Option ρ)->Option ρ :=
 (fun(_:Nat)=>Nat.rec (motive:=fun _=>St->(Ex->St->Option ρ)->Option ρ) (fun _ _=>none) (fun _ ih st K=>body st fun
   | .normal,st'=>mt st' fun st''=>ih st'' K
   | .exit id,st'=>K (.exit id) st') n) Aeh
noncomputable def exe {ρ :Type} (C:Ctx) (N:Nat) (L:Lk) (fin:St->Option ρ):Code->St->(Ex->St->Option ρ)->Option ρ
 | .skip,st,K=>K .normal st
 | .region id ops false,st,K=>split C id ops.toList st fun C=>opsE C ops.toList ops.toList st fun st'=>K .normal st'
 | .region id ops true,st,K=>split C id ops.toList st fun C=>match AgJ C ops.toList st with
  | true=>AoP C ops.toList ops.toList st fun st'=>K .normal st'
  | false=>none
 | .seq a b,st,K=>match Afs L b with
  | some sh=>EJ (fun j=>exe C N L fin a st fun
   | .normal,st'=>Uf C 1 b st' fun st''=>sh.enter st st'' j
   | .exit id,st'=>K (.exit id) st') (fun x=>exe C N L fin b (sh.emb st x) K)
  | none=>exe C N L fin a st fun
   | .normal,st'=>Uf C 1 b st' fun st''=>exe C N L fin b st'' K
   | .exit id,st'=>K (.exit id) st'
 | .cond c a b,st,K=>match ET st.tmps c with
  | .bool t=>match t with
   | true=>exe C N L fin a st K
   | false=>exe C N L fin b st K
  | .cnd g (.bool t)=>match g with
   | true=>match t with
    | true=>exe C N L fin a st K
    | false=>exe C N L fin b st K
   | false=>none
  | _=>none
 | .block id c,st,K=>exe C N L fin c st fun
  | .exit j,st'=>match Nat.beq j id with
   | true=>K .normal st'
   | false=>K (.exit j) st'
  | .normal,st'=>K .normal st'
 | .loop c,st,K=>Uf C 2 c st fun b=>match Afw L c with
  | some (h,ex)=>match (h.fits b b).all id with
   | true=>D5 (fun x k kx=>exe C N L fin c (h.emb b x) fun
    | .normal,st'=>Uf C 2 c st' fun st''=>h.enter b st'' k
    | .exit id,st'=>zK ex id b st' kx) N (h.un b) (AeL ex b K)
   | false=>Ab8 (Uf C 2 c) (exe C N L fin c) N b K
  | none=>Ab8 (Uf C 2 c) (exe C N L fin c) N b K
 | .scope c,st,K=>exe C N L fin c st K
 | .exit id,st,K=>mG C (4*id+3) st fun st'=>K (.exit id) st'
 | .label _,st,K=>K .normal st
 | .ret,st,_=>fin st
 | _,_,_=>none
def writes:Code->List Nat
 | .region _ ops _=>ops.toList.filterMap (·.dst)
 | .seq a b=>writes a++writes b
 | .cond _ a b=>writes a++writes b
 | .block _ c=>writes c
 | .loop c=>writes c
 | .scope c=>writes c
 | _=>[]
def okJ (W:List Nat):Option Spe->Bool
 | some sh=>sh.okI W
 | none=>true
def okX (W:List Nat):Option (Spe×List (Nat×Spe))->Bool
 | some (h,ex)=>h.okI W&&ex.all (fun q=>q.2.okI W)
 | none=>true
def okL (L:Lk):Code->Bool
 | .seq a b=>okL L a&&okL L b&&okJ (writes a) (Afs L b)
 | .cond _ a b=>okL L a&&okL L b
 | .block _ c=>okL L c
 | .scope c=>okL L c
 | .loop c=>okL L c&&okX (writes c) (Afw L c)
 | _=>true
theorem AvK (st:St) (o:Oper) (δ :Dl):R (VV o) st (apply st o δ):=by
 intro t ht _;left;show(put st.tmps o.dst δ.val).getD t .undef=_;cases hd:o.dst with
 | none=>rfl
 | some d =>refine Ad1 _ _ _ _ fun e=>ht ?_;simp [VV,hd,e]
theorem Ap3 {α :Type} {l:List Bool} {x y:Option α} {v: α} (h:allT l x=some v) (hy:x=some v->y=some v):allT l y=some v:=by
 induction l with
 | nil=>exact hy h
 | cons c cs ih=>grind[allT]
theorem AqN {st st':St} {o:Oper} {δ :Dl} {r:List Oper} (hr:R (r.filterMap (·.dst)) (apply st o δ) st'):R ((o::r).filterMap (·.dst)) st st' :=
 ((AvK st o δ).mono (fun t ht=>by
    cases hd:o.dst with
    | none=>simp [VV,hd]at ht
    | some d=>simp [VV,hd]at ht;simp [hd,ht])).trans (hr.mono (fun t ht=>by
    cases hd:o.dst with
    | none=>simpa [hd]using ht
    | some d=>simp only[List.filterMap_cons,hd];exact List.mem_cons_of_mem _ ht))
theorem AuY {ρ :Type} {C:Ctx} {ops:List Oper} {v: ρ}: ∀(l:List Oper) (st:St) (K K':St->Option ρ),(∀ st',R (l.filterMap (·.dst)) st st'->K st'=some v->K' st'=some v)->S9 C ops l st K=some v->S9 C ops l st K'=some v:=by
 intro l
 induction l with
 | nil=>intro st K K' hK h;exact hK st (R.refl _ _) h
 | cons o r ih =>intro st K K' hK h;have h':allT (E8 C ops o st).ok (S9 C ops r (apply st o (E8 C ops o st)) K)=some v:=h;show allT (E8 C ops o st).ok (S9 C ops r (apply st o (E8 C ops o st)) K')=some v;exact Ap3 h' (ih _ K K' fun st' hr=>hK st' (AqN hr))
theorem AvJ {ρ :Type} {C:Ctx} {ops:List Oper} {v: ρ}: ∀(l:List Oper) (st:St) (K K':St->Option ρ),(∀ st',R (l.filterMap (·.dst)) st st'->K st'=some v->K' st'=some v)->Sz C ops l st K=some v->Sz C ops l st K'=some v:=by
 intro l
 induction l with
 | nil=>intro st K K' hK h;exact hK st (R.refl _ _) h
 | cons o r ih =>
  intro st K K' hK h;have one: ∀ C':Ctx,allT (E8 C' ops o st).ok (Sz C ops r (apply st o (E8 C' ops o st)) K)=some v->allT (E8 C' ops o st).ok (Sz C ops r (apply st o (E8 C' ops o st)) K')=some v:=fun C' h'=>Ap3 h' (ih _ K K' fun st' hr=>hK st' (AqN hr));unfold Sz at h ⊢;cases ha:Y0 C o with
  | none=>rw[ha]at h;exact one C h
  | some q =>
   obtain⟨f,q⟩:=q;rw[ha]at h;dsimp only at h ⊢;cases hb:Ags o st q with
   | true=>rw[hb]at h;exact one _ h
   | false=>rw[hb]at h;exact one _ h
theorem Aoh {ρ :Type} {W:List Nat} {b st:St} {K:Ex->St->Option ρ} {v: ρ} {id:Nat} (hr:R W b st): ∀(ex:List (Nat×Spe)),ex.all (fun q=>q.2.okI W)=true->zK ex id b st (AeL ex b K)=some v->K (.exit id) st=some v:=by
 have one: ∀(i:Nat) (sh:Spe),sh.okI W=true->Nat.beq i id=true->sh.enter b st (fun v=>K (.exit i) (sh.emb b v))=some v->K (.exit id) st=some v:=by intro i sh ho hb h;obtain⟨h1,h2⟩:=pI h;rw[Spe.P6 h1 ho hr,Nat.eq_of_beq_eq_true hb]at h2;exact h2
 intro ex
 induction ex with
 | nil=>intro _ h;cases h
 | cons q r ih =>
  intro ho h;obtain⟨i,sh⟩:=q;simp only[List.all_cons,Bool.and_eq_true]at ho;cases r with
  | nil =>
   have h':(match Nat.beq i id with | true=>sh.enter b st (fun v=>K (.exit i) (sh.emb b v)) | false=>none)=some v:=h;cases hb:Nat.beq i id with
   | true=>rw[hb]at h';exact one i sh ho.1 hb h'
   | false=>rw[hb]at h';cases h'
  | cons q r =>
   have h':(match Nat.beq i id with | true=>sh.enter b st (fun v=>K (.exit i) (sh.emb b v)) | false=>zK (q::r) id b st (AeL (q::r) b K))=some v:=h;cases hb:Nat.beq i id with
   | true=>rw[hb]at h';exact one i sh ho.1 hb h'
   | false =>rw[hb]at h';exact ih (by simpa using ho.2) h'
theorem Aqd {ρ :Type} {C:Ctx} {N:Nat} {L:Lk} {fin:St->Option ρ} {v: ρ}: ∀(c:Code),okL L c=true-> ∀(st:St) (K K':Ex->St->Option ρ),(∀ e st',R (writes c) st st'->K e st'=some v->K' e st'=some v)->exe C N L fin c st K=some v->exec C N fin c st K'=some v:=by
 intro c
 induction c with
 | skip=>intro _ st K K' hK h;exact hK _ _ (R.refl _ _) h
 | label l=>intro _ st K K' hK h;exact hK _ _ (R.refl _ _) h
 | ret=>intro _ st K K' hK h;exact h
 | exit id =>intro _ st K K' hK h;obtain⟨st',h1,h2,h3⟩:=AkM ((Af0 _ _ _ _).symm.trans (show mG C (4*id+3) st (fun st'=>K (.exit id) st')=some v from h));show NU C (4*id+3) st (fun st'=>K' (.exit id) st')=some v;rw[h3];exact hK _ _ h1.none h2
 | region id ops d =>
  intro _ st K K' hK h;cases d with
  | false=>exact(YI h).2 _ fun C h=>AvJ ops.toList st _ _ (fun st' hr hk=>hK .normal st' hr hk) ((Auf _ _ _ _ _).symm.trans h)
  | true =>
   refine(YI h).2 _ fun C h=> ?_;have h':(match NQ C ops.toList st with | true=>AoP C ops.toList ops.toList st (fun st'=>K .normal st') | false=>none)=some v:=by rw[<- Aoa];exact h
   show(bif NQ C ops.toList st then S9 C ops.toList ops.toList st (fun st'=>K' .normal st')else none)=some v;cases hd:NQ C ops.toList st with
   | false=>rw[hd]at h';cases h'
   | true=>rw[hd]at h';exact AuY ops.toList st _ _ (fun st' hr hk=>hK .normal st' hr hk) ((Aue _ _ _ _ _).symm.trans h')
 | seq x y ihx ihy =>
  intro ho st K K' hK h;have ho':(okL L x&&okL L y&&okJ (writes x) (Afs L y))=true:=ho;simp only[Bool.and_eq_true]at ho';have hxy: ∀ {e:Ex} {st1 st2:St},R (writes x) st st1->R (writes y) st1 st2->R (writes (.seq x y)) st st2:=fun h1 h2=>(h1.mono (fun t ht=>List.mem_append_left _ ht)).trans (h2.mono (fun t ht=>List.mem_append_right _ ht));simp only[exe]at h;show exec C N fin x st _=some v;cases hj:Afs L y with
  | none =>
   rw[hj]at h;refine ihx ho'.1.1 st _ _ (fun e st1 hr hk=> ?_) h;cases e with
   | normal =>obtain⟨st2,h1,h2,h3⟩:=Aau ((ZI _ _ _ _ _).symm.trans hk);show meet C 1 y st1 _=some v;rw[h3];exact ihy ho'.1.2 st2 _ _ (fun e st3 hr' hk'=>hK e st3 (hxy (e:=e) (hr.trans h1.none) hr') hk') h2
   | exit id=>exact hK _ _ (hr.mono (fun t ht=>List.mem_append_left _ ht)) hk
  | some sh =>
   rw[hj]at h ho';refine ihx ho'.1.1 st _ _ (fun e st1 hr hk=> ?_) (show exe C N L fin x st _=some v from h);cases e with
   | normal =>obtain⟨st2,h1,h2,h3⟩:=Aau ((ZI _ _ _ _ _).symm.trans hk);show meet C 1 y st1 _=some v;rw[h3];obtain⟨h4,h5⟩:=pI h2;rw[Spe.P6 h4 ho'.2 (hr.trans h1.none)]at h5;exact ihy ho'.1.2 st2 _ _ (fun e st3 hr' hk'=>hK e st3 (hxy (e:=e) (hr.trans h1.none) hr') hk') h5
   | exit id=>exact hK _ _ (hr.mono (fun t ht=>List.mem_append_left _ ht)) hk
 | cond o x y ihx ihy =>
  intro ho st K K' hK h;have ho':(okL L x&&okL L y)=true:=ho;simp only[Bool.and_eq_true]at ho'
  have key: ∀ t:Bool,(match t with | true=>exe C N L fin x st K | false=>exe C N L fin y st K)=some v->(bif t then exec C N fin x st K' else exec C N fin y st K')=some v:=by
   intro t ht;cases t with
   | true=>exact ihx ho'.1 st K K' (fun e st' hr=>hK e st' (hr.mono (fun t ht=>List.mem_append_left _ ht))) ht
   | false=>exact ihy ho'.2 st K K' (fun e st' hr=>hK e st' (hr.mono (fun t ht=>List.mem_append_right _ ht))) ht
  simp only[exe]at h;simp only[exec];cases he:ET st.tmps o with
  | bool t=>rw[he]at h;exact key t h
  | cnd g y' =>
   rw[he]at h;cases y' with
   | bool t =>
    cases g with
    | false=>cases h
    | true=>exact key t h
   | _=>cases h
  | _=>rw[he]at h;cases h
 | block id c ih =>
  intro ho st K K' hK h;refine ih ho st _ _ (fun e st' hr hk=> ?_) h;cases e with
  | normal=>exact hK _ _ hr hk
  | exit j =>
   dsimp only at hk ⊢;cases hb:Nat.beq j id with
   | true=>rw[hb]at hk;exact hK _ _ hr hk
   | false=>rw[hb]at hk;exact hK _ _ hr hk
 | loop c ih =>
  intro ho st K K' hK h;have ho':(okL L c&&okX (writes c) (Afw L c))=true:=ho;simp only[Bool.and_eq_true]at ho';simp only[exe]at h;obtain⟨b,h1,h2,h3⟩:=Aau ((ZI _ _ _ _ _).symm.trans h);show meet C 2 c st _=some v;rw[h3]
  have roll:Ab8 (Uf C 2 c) (exe C N L fin c) N b K=some v->rounds (meet C 2 c) (exec C N fin c) N b K'=some v:=by
   have key: ∀(n:Nat) (st1:St),R (writes c) b st1->Ab8 (Uf C 2 c) (exe C N L fin c) n st1 K=some v->rounds (meet C 2 c) (exec C N fin c) n st1 K'=some v:=by
    intro n
    induction n with
    | zero=>intro st1 _ h;cases h
    | succ n ihn =>
     intro st1 hr1 h;refine ih ho'.1 st1 _ _ (fun e st2 hr2 hk=> ?_) h;cases e with
     | normal =>obtain⟨st3,k1,k2,k3⟩:=Aau ((ZI _ _ _ _ _).symm.trans hk);show meet C 2 c st2 _=some v;rw[k3];exact ihn st3 ((hr1.trans hr2).trans k1.none) k2
     | exit id=>exact hK _ _ ((h1.none.trans hr1).trans hr2) hk
   exact key N b (R.refl _ _)
  cases hl:Afw L c with
  | none=>rw[hl]at h2;exact roll h2
  | some q =>
   obtain⟨hd,ex⟩:=q;rw[hl]at h2 ho';dsimp only at h2;cases hfit:(hd.fits b b).all id with
   | false=>rw[hfit]at h2;exact roll h2
   | true =>
   rw[hfit]at h2;have h4:DC (hd.fits b b):=fun c hc=>List.all_eq_true.1 hfit c hc;have h5:=h2;have ho2:(hd.okI (writes c)&&ex.all (fun q=>q.2.okI (writes c)))=true:=ho'.2;simp only[Bool.and_eq_true]at ho2
   have key: ∀(n:Nat) (st1:St),R (writes c) b st1->hd.emb b (hd.un st1)=st1->D5 (fun x k kx=>exe C N L fin c (hd.emb b x) fun
    | .normal,st'=>Uf C 2 c st' fun st''=>hd.enter b st'' k
    | .exit id,st'=>zK ex id b st' kx) n (hd.un st1) (AeL ex b K)=some v->rounds (meet C 2 c) (exec C N fin c) n st1 K'=some v:=by
    intro n
    induction n with
    | zero=>intro st1 _ _ h;cases h
    | succ n ihn =>
     intro st1 hr1 he h;simp only[D5]at h;rw[he]at h;refine ih ho'.1 st1 _ _ (fun e st2 hr2 hk=> ?_) h;cases e with
     | normal =>obtain⟨st3,k1,k2,k3⟩:=Aau ((ZI _ _ _ _ _).symm.trans hk);show meet C 2 c st2 _=some v;rw[k3];obtain⟨k4,k5⟩:=pI k2;have hr3:=(hr1.trans hr2).trans k1.none;exact ihn st3 hr3 (Spe.P6 k4 ho2.1 hr3) k5
     | exit id =>exact hK _ _ ((h1.none.trans hr1).trans hr2) (Aoh (hr1.trans hr2) ex ho2.2 hk)
   exact key N b (R.refl _ _) (Spe.P6 h4 ho2.1 (R.refl _ _)) h5
 | scope c ih=>intro ho st K K' hK h;exact ih ho st K K' hK h
 | _=>intro _ st K K' hK h;cases h
def AsG:ResultVar->Nat×Option Nat
 | .tmp t=>(t,none)
 | .cell a t=>(a,some t)
structure Inf where
 Dx:List Sh
 DL:List Sh
 gs:List (Nat×Sig)
 ns:List (Nat×Nrm)
 L:Lk
def WB (fn:Func):Code:=fn.body.getD .skip
def KO (fn:Func):List (Nat×Option Nat):=fn.results.toList.map AsG
noncomputable def Apb {ρ :Type} (N:Nat) (C:Ctx) (L:Lk) (Dx:List Sh) (fn:Func) (fin:St->Option ρ) (a:ShT Dx):Option ρ :=
 allH ((EP 0 256 Dx (encs Dx a) 0).1++[nodup ((EP 0 256 Dx (encs Dx a) 0).2.2.map (·.1)),!(has ((EP 0 256 Dx (encs Dx a) 0).2.2.map (·.1)) 255)])
  (exe C N L fin (WB fn) (Abv Dx (encs Dx a) fn.ntmps) (fun
    | .normal,st=>fin st
    | .exit _,_=>none))
noncomputable def Avl (N:Nat) (C:Ctx) (L:Lk) (Dx DL:List Sh) (fn:Func) (a:ShT Dx):Option (ShT (FU Dx DL)):=Apb N C L Dx fn (X0 C Dx DL (KO fn)) a
theorem Aul (r:ResultVar):rv (AsG r)=r:=by cases r<;>rfl
theorem Ab2 (fn:Func):fn.results=((KO fn).map rv).toArray:=by grind[KO,rv,AsG,Aul]
theorem Ats {α :Type} {l:List Bool} {x:Option α} (h:DC l):allT l x=x:=by
 induction l with
 | nil=>rfl
 | cons c cs ih=>simp_all[DC,allT]
def zT (L:Lk) (fn:Func):Bool:=fn.body.isSome&&(!(fn.name== "runtime.NumGoroutine")&&okL L (WB fn))
theorem AaZ {ρ :Type} {N:Nat} {C:Ctx} {L:Lk} {Dx:List Sh} {fn:Func} {fin:St->Option ρ} {a:ShT Dx} {r: ρ} (hn:okL L (WB fn)=true) (h:Apb N C L Dx fn fin a=some r):runK C N Dx fn.ntmps (WB fn) fin (encs Dx a)=some r:=by grind[OX,jR,allH,runK,Ats,Aqd,Sh,ShT,okL,WB,Apb,encs]
theorem zU {L:Lk} {fn:Func} (hn:zT L fn=true):fn.body=some (WB fn)/\(fn.name== "runtime.NumGoroutine")=false/\okL L (WB fn)=true:=by unfold zT at hn;simp only[Bool.and_eq_true,Bool.not_eq_true']at hn;obtain⟨code,hc⟩:=Option.isSome_iff_exists.1 hn.1;exact⟨by unfold WB;rw[hc];rfl,hn.2⟩
theorem Jf {P:Program} {C:Ctx} {L:Lk} {N:Nat} (hC:Ia P C) {f:FuncId} {fn:Func} {Dx DL:List Sh} {g:ShT Dx->Option (ShT (FU Dx DL))} (hf:P.funcs[f]? =some fn:=by kernel_rfl) (hn:zT L fn=true:=by kernel_rfl)
 (hF: ∀ a,Avl N C L Dx DL fn a=g a:=by intro a;kernel_rfl):Spec P f (Sig.of Dx DL g):=by
 obtain⟨hb,h1,h2⟩:=zU hn;exact UO (fin:=X0 C Dx DL (KO fn)) hC N hf hb h1 (Ab2 fn) (fun a o h=>⟨o,AaZ h2 ((hF a).trans h),fun st h=>h⟩)
theorem Abd {P:Program} {C:Ctx} (hC:Ia P C) {f:FuncId} {fn:Func} {Dx DL:List Sh} (hf:P.funcs[f]? =some fn) (hn:zT ⟨[],[]⟩ fn=true):Spec P f (Sig.of Dx DL fun _=>none):=by obtain⟨hb,h1,h2⟩:=zU hn;exact UO (fin:=X0 C Dx DL (KO fn)) hC 0 hf hb h1 (Ab2 fn) (fun a o h=>by cases h)
def AuT (C:Ctx) (r1:List Sh) (outs:List (Nat×Option Nat)) (st:St):Bool:=(r1.zip outs).any fun q=>(match q.1 with | .box _=>true | _=>false)&&(AdM C st q.2).2.lU
noncomputable def Akx (C:Ctx) (Dx r1 r2:List Sh) (outs:List (Nat×Option Nat)) (st:St):Option (ShT (FU Dx r1) ⊕ ShT (FU Dx r2)) :=
 match AuT C r1 outs st with
 | true=>(X0 C Dx r2 outs st).map .inr
 | false=>(X0 C Dx r1 outs st).map .inl
noncomputable def Asy (N:Nat) (C:Ctx) (L:Lk) (Dx r1 r2:List Sh) (fn:Func) (a:ShT Dx):Option (ShT (FU Dx r1) ⊕ ShT (FU Dx r2)):=Apb N C L Dx fn (Akx C Dx r1 r2 (KO fn)) a
noncomputable def Alt.of (Dx r1 r2:List Sh) (g:ShT Dx->Option (ShT (FU Dx r1) ⊕ ShT (FU Dx r2))):Alt :=
 (Sig.of Dx r1 (fun a=>AuH (g a)),Sig.of Dx r2 (fun a=>AuI (g a)),fun xs=>match Mc Dx xs with
   | some a=>AuQ (g a)
   | none=>true)
theorem MS {P:Program} {C:Ctx} {L:Lk} {N:Nat} (hC:Ia P C) {f:FuncId} {fn:Func} {Dx r1 r2:List Sh} {g:ShT Dx->Option (ShT (FU Dx r1) ⊕ ShT (FU Dx r2))} (hf:P.funcs[f]? =some fn) (hn:zT L fn=true)
 (hF: ∀ a,Asy N C L Dx r1 r2 fn a=g a):Spec P f (Alt.of Dx r1 r2 g).1/\Spec P f (Alt.of Dx r1 r2 g).2.1:=by
 obtain⟨hb,h1,h2⟩:=zU hn;constructor
 ·refine UO (fin:=Akx C Dx r1 r2 (KO fn)) hC N hf hb h1 (Ab2 fn) (fun a o h=>⟨.inl o,AaZ h2 ((hF a).trans ?_),fun st h=> ?_⟩)
  ·cases hg:g a with
   | none=>rw[hg]at h;cases h
   | some r=>rw[hg]at h;cases r with | inl x=>injection h with h;rw[h] | inr x=>cases h
  ·unfold Akx at h;split at h
   ·cases hq:X0 C Dx r2 (KO fn) st with
    | none=>rw[hq]at h;cases h
    | some r=>rw[hq]at h;injection h with h;cases h
   ·cases hq:X0 C Dx r1 (KO fn) st with
    | none=>rw[hq]at h;cases h
    | some r=>grind[Sh,ShT,FU,zT,Asy,Spec]
 ·refine UO (fin:=Akx C Dx r1 r2 (KO fn)) hC N hf hb h1 (Ab2 fn) (fun a o h=>⟨.inr o,AaZ h2 ((hF a).trans ?_),fun st h=> ?_⟩)
  ·cases hg:g a with
   | none=>rw[hg]at h;cases h
   | some r=>rw[hg]at h;cases r with | inr x=>injection h with h;rw[h] | inl x=>cases h
  ·unfold Akx at h;split at h
   ·cases hq:X0 C Dx r2 (KO fn) st with
    | none=>rw[hq]at h;cases h
    | some r=>grind[Sh,ShT,FU,zT,Asy,Spec]
   ·cases hq:X0 C Dx r1 (KO fn) st with
    | none=>rw[hq]at h;cases h
    | some r=>rw[hq]at h;injection h with h;cases h
end Go.Proofs.YtfgdgdnlglejbaaGreatDoor.Vm
namespace Go.Proofs.YtfgdgdnlglejbaaGreatDoor.Vm
open Go.Proofs
abbrev Tq0:Ty:=(.str (.int .i64 (.str .nil)))
abbrev Tq1:Ty:=(.int .i64 (.str (.sl 144 (.sl 143 Tq0 .nil) .nil)))
abbrev Tq2:Ty:=(.sl 84 Tq1 (.int .i64 (.bool (.sl 144 (.sl 143 Tq0 .nil) .nil))))
abbrev Tq4:Ty:=(.str (.bool (.str .nil)))
abbrev Tq5:Ty:=(.int .i64 (.str (.str .nil)))
abbrev Tq6:Ty:=(.str (.int .i64 (.fn (.fn (.fn .nil)))))
abbrev Tq7:Ty:=(.sl 39 (.sl 9 (.str .nil) .nil) (.str (.str (.int .i64 .nil))))
noncomputable def Sq0:Sh:=.cell false (.sln 3 (.int .i64 .nil))
noncomputable def Sq1:Sh:=.agg [(false,(.sl 144 (.sl 143 Tq0 .nil)))]
noncomputable def Sq2:Sh:=.agg [(false,(.int .i64)),(false,.str),(false,(.sl 144 (.sl 143 Tq0 .nil)))]
noncomputable def Sq4:Sh:=.agg [(false,(.sl 84 Tq1)),(false,(.int .i64)),(false,.bool),(false,(.sl 144 (.sl 143 Tq0 .nil)))]
noncomputable def Sq5:Sh:=.agg [(false,.str),(false,(.int .i64)),(false,.str)]
noncomputable def Sq6:Sh:=.cell false (.sl 9 (.str .nil))
noncomputable def Sq7:Sh:=.agg [(false,(.int .i64)),(false,(.int .i64)),(false,(.int .i64)),(false,(.int .i64)),(false,(.int .i64)),(false,(.int .i64))]
noncomputable def Sq8:Sh:=.cell true (.sln 5 (.int .u8 .nil))
noncomputable def Sq9:Sh:=.map (.str .nil) (.int .i64 .nil)
noncomputable def G9:Sh:=.agg [(false,(.int .i64)),(false,.str),(false,.str)]
noncomputable def Au2:Sh:=.cell true (.sl 5 (.int .u8 .nil))
noncomputable def An1:Sh:=.agg [(false,.str),(false,.bool),(false,.str)]
noncomputable def Lp:Sh:=.box [(false,(.sl 89 Tq5))]
noncomputable def AjM:Sh:=.cell false (.sl 3 (.int .i64 .nil))
noncomputable def Ark:Sh:=.box [(false,(.int .u32)),(false,(.int .u32)),(false,(.int .u32)),(false,(.int .u32)),(false,(.int .u32)),(false,(.int .u32)),(false,(.int .u32)),(false,(.int .u32)),(false,(.sl 5 (.int .u8 .nil))),(false,(.int .i64))]
noncomputable def Arl:Sh:=.agg [(false,(.int .u32)),(false,(.int .u32)),(false,(.int .u32)),(false,(.int .u32)),(false,(.int .u32)),(false,(.int .u32)),(false,(.int .u32)),(false,(.int .u32))]
noncomputable def AvQ:Sh:=.agg [(false,(.int .u32)),(false,(.int .u32)),(false,(.int .u32)),(false,(.int .u32)),(false,(.int .u32)),(false,(.int .u32)),(false,(.int .u32)),(false,(.int .u32)),(false,(.int .u32)),(false,(.int .u32)),(false,(.int .u32)),(false,(.int .u32)),(false,(.int .u32)),(false,(.int .u32)),(false,(.int .u32)),(false,(.int .u32)),(false,(.int .u32)),(false,(.int .u32)),(false,(.int .u32)),(false,(.int .u32)),(false,(.int .u32)),(false,(.int .u32)),(false,(.int .u32)),(false,(.int .u32)),(false,(.int .u32)),(false,(.int .u32)),(false,(.int .u32)),(false,(.int .u32)),(false,(.int .u32)),(false,(.int .u32)),(false,(.int .u32)),(false,(.int .u32)),(false,(.int .u32)),(false,(.int .u32)),(false,(.int .u32)),(false,(.int .u32)),(false,(.int .u32)),(false,(.int .u32)),(false,(.int .u32)),(false,(.int .u32)),(false,(.int .u32)),(false,(.int .u32)),(false,(.int .u32)),(false,(.int .u32)),(false,(.int .u32)),(false,(.int .u32)),(false,(.int .u32)),(false,(.int .u32)),(false,(.int .u32)),(false,(.int .u32)),(false,(.int .u32)),(false,(.int .u32)),(false,(.int .u32)),(false,(.int .u32)),(false,(.int .u32)),(false,(.int .u32)),(false,(.int .u32)),(false,(.int .u32)),(false,(.int .u32)),(false,(.int .u32)),(false,(.int .u32)),(false,(.int .u32)),(false,(.int .u32)),(false,(.int .u32))]
noncomputable def AvR:Sh:=.cell false (.sl 5 (.int .u8 .nil))
noncomputable def Agn:Sh:=.box [(false,(.sln 39 (.sl 9 (.str .nil) .nil))),(false,.str),(false,.str),(false,(.int .i64))]
noncomputable def AcW:Sh:=.box [(false,.str),(false,(.int .i64)),(false,(.int .i64)),(true,(.bx Tq7))]
noncomputable def Au3:Sh:=.cell false (.sl 203 (.int .u32 .nil))
noncomputable def AvS:Sh:=.agg [(false,(.sl 39 (.sl 9 (.str .nil) .nil)))]
noncomputable def TD:Sh:=.box [(false,(.sl 3 (.int .i64 .nil))),(false,(.int .i64))]
noncomputable def FW:Sh:=.agg [(false,.bool),(false,.bool),(false,(.int .i64)),(false,(.int .i64)),(false,(.sl 9 (.str .nil))),(false,(.sl 9 (.str .nil))),(false,(.sl 267 (.str (.str .nil)))),(false,(.int .i64)),(false,(.int .i64)),(false,(.int .i64)),(false,(.sl 84 Tq1)),(false,.bool),(false,(.sl 84 Tq1)),(false,(.sl 84 Tq1)),(false,.str),(false,.str),(false,(.sl 153 Tq2)),(false,(.sl 153 Tq2)),(false,(.sl 176 Tq4))]
noncomputable def Arm:Sh:=.cell false (.sl 267 (.str (.str .nil)))
noncomputable def Ago:Sh:=.agg [(false,(.sl 84 Tq1)),(false,(.sl 84 Tq1))]
noncomputable def AcX:Sh:=.agg [(false,.str),(false,.str),(false,(.int .i64)),(false,(.sl 144 (.sl 143 Tq0 .nil))),(false,(.sl 144 (.sl 143 Tq0 .nil))),(false,(.int .i64)),(false,(.int .i64)),(false,(.int .i64)),(false,.str),(false,.str),(false,.bool),(false,.bool),(false,(.int .i64)),(false,(.int .i64)),(false,(.sl 9 (.str .nil))),(false,(.sl 9 (.str .nil))),(false,(.sl 267 (.str (.str .nil)))),(false,(.int .i64)),(false,(.int .i64)),(false,(.int .i64)),(false,(.sl 84 Tq1)),(false,.bool),(false,(.sl 84 Tq1)),(false,(.sl 84 Tq1)),(false,.str),(false,.str),(false,(.sl 153 Tq2)),(false,(.sl 153 Tq2)),(false,(.sl 176 Tq4)),(false,.str)]
noncomputable def AvT:Sh:=.agg [(false,.str),(false,(.int .i64)),(false,.fn),(false,.fn),(false,.fn)]
noncomputable def Au4:Sh:=.box [(false,.str),(false,.str),(false,(.int .i64)),(false,(.sl 144 (.sl 143 Tq0 .nil))),(false,(.sl 144 (.sl 143 Tq0 .nil))),(false,(.int .i64)),(false,(.int .i64)),(false,(.int .i64)),(false,.str),(false,.str),(false,.bool),(false,.bool),(false,(.int .i64)),(false,(.int .i64)),(false,(.sl 9 (.str .nil))),(false,(.sl 9 (.str .nil))),(false,(.sl 267 (.str (.str .nil)))),(false,(.int .i64)),(false,(.int .i64)),(false,(.int .i64)),(false,(.sl 84 Tq1)),(false,.bool),(false,(.sl 84 Tq1)),(false,(.sl 84 Tq1)),(false,.str),(false,.str),(false,(.sl 153 Tq2)),(false,(.sl 153 Tq2)),(false,(.sl 176 Tq4)),(false,.str)]
noncomputable def An2:Sh:=.box [(false,(.int .i64)),(false,.str),(false,.str)]
noncomputable def AvU:Sh:=.agg [(false,.bool),(false,.bool),(false,(.int .i64)),(false,(.int .i64)),(true,(.sl 9 (.str .nil))),(true,(.sl 9 (.str .nil))),(true,(.sl 267 (.str (.str .nil)))),(false,(.int .i64)),(false,(.int .i64)),(false,(.int .i64)),(false,(.sl 84 Tq1)),(false,.bool),(false,(.sl 84 Tq1)),(false,(.sl 84 Tq1)),(false,.str),(false,.str),(false,(.sl 153 Tq2)),(false,(.sl 153 Tq2)),(true,(.sl 176 Tq4))]
noncomputable def Q9:Sh:=.box [(false,.bool),(false,.bool),(false,(.int .i64)),(false,(.int .i64)),(true,(.sl 9 (.str .nil))),(true,(.sl 9 (.str .nil))),(true,(.sl 267 (.str (.str .nil)))),(false,(.int .i64)),(false,(.int .i64)),(false,(.int .i64)),(false,(.sl 84 Tq1)),(false,.bool),(false,(.sl 84 Tq1)),(false,(.sl 84 Tq1)),(false,.str),(false,.str),(false,(.sl 153 Tq2)),(false,(.sl 153 Tq2)),(true,(.sl 176 Tq4))]
noncomputable def Agp:Sh:=.clo 0 [(false,.bool),(false,.bool),(false,(.int .i64)),(false,(.int .i64)),(true,(.sl 9 (.str .nil))),(true,(.sl 9 (.str .nil))),(true,(.sl 267 (.str (.str .nil)))),(false,(.int .i64)),(false,(.int .i64)),(false,(.int .i64)),(false,(.sl 84 Tq1)),(false,.bool),(false,(.sl 84 Tq1)),(false,(.sl 84 Tq1)),(false,.str),(false,.str),(false,(.sl 153 Tq2)),(false,(.sl 153 Tq2)),(true,(.sl 176 Tq4))]
noncomputable def AvV:Sh:=.clo 396 [(false,.bool),(false,.bool),(false,(.int .i64)),(false,(.int .i64)),(true,(.sl 9 (.str .nil))),(true,(.sl 9 (.str .nil))),(true,(.sl 267 (.str (.str .nil)))),(false,(.int .i64)),(false,(.int .i64)),(false,(.int .i64)),(false,(.sl 84 Tq1)),(false,.bool),(false,(.sl 84 Tq1)),(false,(.sl 84 Tq1)),(false,.str),(false,.str),(false,(.sl 153 Tq2)),(false,(.sl 153 Tq2)),(true,(.sl 176 Tq4))]
noncomputable def AvW:Sh:=.clo 397 [(false,.bool),(false,.bool),(false,(.int .i64)),(false,(.int .i64)),(true,(.sl 9 (.str .nil))),(true,(.sl 9 (.str .nil))),(true,(.sl 267 (.str (.str .nil)))),(false,(.int .i64)),(false,(.int .i64)),(false,(.int .i64)),(false,(.sl 84 Tq1)),(false,.bool),(false,(.sl 84 Tq1)),(false,(.sl 84 Tq1)),(false,.str),(false,.str),(false,(.sl 153 Tq2)),(false,(.sl 153 Tq2)),(true,(.sl 176 Tq4))]
noncomputable abbrev Dq (k:FuncId) (S:Sig):Prop:=Spec Tryz.prog k S
noncomputable abbrev Dt (gs:List (Nat×Sig)) (ns:List (Nat×Nrm)) (aa:List (Nat×Alt):=[]) (dd:List (Nat×(Nat->Sig)):=[]) (cc:List Nat:=[]) (bb:List Nat:=[]) (ss:List (Nat×Nat×Nat×List Nat):=[]) (kk:List (Nat×List (Nat×Nat)):=[]):Ctx:=ctx Tryz.prog gs ns aa dd cc bb ss kk
theorem Du {f:FuncId} {Dx DL:List Sh} {g:ShT Dx->Option (ShT (FU Dx DL))} (C:Ctx) (L:Lk) (fn:Func) (N:Nat) (hC:Ia Tryz.prog C) (hf:Tryz.prog.funcs[f]? =some fn:=by kernel_rfl) (hn:zT L fn=true:=by kernel_rfl) (hF: ∀ a,Avl N C L Dx DL fn a=g a:=by intro a;kernel_rfl):Spec Tryz.prog f (Sig.of Dx DL g):=Jf hC hf hn hF
noncomputable def Dw:Sh:=.cell false .str
noncomputable def Dv:Sh:=.cell false (.int .i64)
noncomputable def Ea:Sh:=.cell false .bool
noncomputable def Aq:Ty:=.str .nil
noncomputable def Ar:Ty:=.int .u8 .nil
noncomputable def Au:Ty:=.int .i64 .nil
noncomputable def Aw:Ty:=.int .u32 .nil
noncomputable def Az:Ty:=.sl 143 Tq0 .nil
noncomputable def AA:Pc:=.c (.int .i64 0)
noncomputable def AB:Pc:=.c (.str ([]:Bs))
noncomputable def AL:Pc:=.c (.ptr 33280 0)
noncomputable def AO:Pc:=.c (.ptr 0 0)
noncomputable def AP:Pc:=.c (.ptr 33024 0)
noncomputable def AQ:Pc:=.c (.bool false)
noncomputable def AU:Pc:=.c (.ptr 33792 0)
noncomputable def AV:Pc:=.c (.ptr 33536 0)
noncomputable def AX:Pc:=.c (.ptr 34048 0)
noncomputable def AY:Pc:=.c (.ptr 37120 0)
noncomputable def AZ:Pc:=.c (.ptr 34816 0)
noncomputable def Ba:Pc:=.c (.ptr 38144 0)
noncomputable def Bc:Pc:=.c (.ptr 34304 0)
noncomputable def Bd:Pc:=.c (.ptr 39936 0)
noncomputable def Be:Pc:=xl Tq1
noncomputable def Bf:Pc:=xi .u32
noncomputable def Bg:Pc:=xl Tq2
noncomputable def Bh:Pc:=xl Aq
noncomputable def Bi:Pc:=xl Tq4
noncomputable def Bj:Pc:=xl Au
noncomputable def Bl:Pc:=xl Tq5
noncomputable def Bo:Pc:=xl Ar
noncomputable def Bq:Pc:=xl Az
noncomputable def Bv:List Pc:=[xb,xb,x64,x64,Bh,Bh,(xl (.str Aq)),x64,x64,x64,Be,xb,Be,Be,xs,xs,Bg,Bg,Bi]
noncomputable def Bz:List Pc:=[AQ,AQ,AA,AA,(xo 33285),(xo 33286),(xo 33287),AA,AA,AA,(xo 33291),AQ,(xo 33293),(xo 33294),AB,AB,(xo 33297),(xo 33298),(xo 33299)]
noncomputable def BA:List Pc:=[Bf,Bf,Bf,Bf,Bf,Bf,Bf,Bf,Bo,x64]
noncomputable def BB:List Pc:=[xb,xb,x64,x64,(xo 1000048),(xo 1000032),(xo 1000016),x64,x64,x64,Be,xb,Be,Be,xs,xs,Bg,Bg,(xo 1000000)]
noncomputable def BC:List Pc:=[xb,xb,x64,x64,(xo 1012336),(xo 1012320),(xo 1012304),x64,x64,x64,Be,xb,Be,Be,xs,xs,Bg,Bg,(xo 1012288)]
noncomputable def BD:List Pc:=[xb,xb,x64,x64,(xo 1004160),(xo 1004144),(xo 1004128),x64,x64,x64,Be,xb,Be,Be,xs,xs,Bg,Bg,(xo 1004112)]
noncomputable def BF:List Pc:=[xb,xb,x64,x64,(xo 1008256),(xo 1008240),(xo 1008224),x64,x64,x64,Be,xb,Be,Be,xs,xs,Bg,Bg,(xo 1008208)]
noncomputable def BG:List Pc:=[Bj,x64]
noncomputable def BH:List Pc:=[AA,AB,AB]
noncomputable def BI:List Pc:=[xb,xb,x64,x64,(xo 5),(xo 6),(xo 7),x64,x64,x64,Be,xb,Be,Be,xs,xs,Bg,Bg,(xo 19)]
noncomputable def BJ:List Pc:=[AA,AA,AA,AA,AA,AA]
noncomputable def BK:List Pc:=[(.h (.ln (.sl 9 Aq .nil))),xs,xs,x64]
noncomputable def BL:List Pc:=[AB,AA,(.c (.fn 0)),(.c (.fn 0)),(.c (.fn 0))]
noncomputable def BM:List Pc:=[(xo 33281),(xo 33282)]
noncomputable def BN:List Pc:=[(xo 33281),AA,AQ,(xo 33284)]
noncomputable def BO:List Pc:=[(xo 33793),AA,AQ,(xo 33796)]
noncomputable def BP:List Pc:=[(xo 33281)]
noncomputable def BQ:List Pc:=[x64,x64,x64,x64,x64,x64]
noncomputable def BR:List Pc:=[Be,x64,xb,Bq]
noncomputable def BU:List Pc:=[x64,xs,xs]
