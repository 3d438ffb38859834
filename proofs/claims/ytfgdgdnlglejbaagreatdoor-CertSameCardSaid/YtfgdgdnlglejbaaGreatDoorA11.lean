import Derived.Test.YtfgdgdnlglejbaaGreatDoorA8
import Derived.Test.YtfgdgdnlglejbaaGreatDoorProg
set_option linter.all false
namespace Go.Proofs.YtfgdgdnlglejbaaGreatDoor.Vm
open Classical
noncomputable def allH {α :Type} (l:List Bool) (r:Option α):Option α :=
 (fun(_:Nat)=>List.rec (motive:=fun _=>Option α) r (fun c _ ih=>Bool.rec (motive:=fun _=>Option α) none ih c) l) AjJ
theorem Aag {α :Type}: ∀(l:List Bool) (r:Option α),allH l r=allT l r:=by
 intro l
 induction l with
 | nil=>intro r;rfl
 | cons c cs ih=>intro r;cases c<;>first | rfl | exact ih r
noncomputable def Afu {α β :Type} (l:List α):(List α -> β)-> β :=
 (fun(_:Nat)=>List.rec (motive:=fun _=>(List α -> β)-> β) (fun k=>k []) (fun a _ ih k=>ih (fun l'=>k (a::l'))) l) AjJ
def Afv {α β :Type}: ∀(l:List α) (k:List α -> β),Afu l k=k l:=by
 intro l
 induction l with
 | nil=>intro k;rfl
 | cons a r ih=>simp_all[Afu]
noncomputable def Afw {β :Type} (st:St) (k:St-> β): β :=Afu st.tmps fun tm=>Afu st.Ju fun ob=>k ⟨tm,ob⟩
def Afx {β :Type} (st:St) (k:St-> β):Afw st k=k st:=by unfold Afw;rw[Afv,Afv]
def AtN {ρ :Type} (v:A) (k:A->Option ρ):Option ρ :=match v with
 | .bool b=>J5 b fun b=>k (.bool b)
 | .cnd g (.bool b)=>J5 b fun b=>k (.cnd g (.bool b))
 | v=>k v
def AxP {ρ :Type} (v:A) (k:A->Option ρ):AtN v k=k v:=by unfold AtN;split<;>rfl
def bnd (C:Ctx) (o:Oper):Bool:=match o.dst with
 | some d=>has C.binds d
 | none=>false
noncomputable def goV {α :Type} (C:Ctx) (o:Oper) (st:St) (δ :Dl) (k:St->Option α):Option α :=match bnd C o with
 | true=>AtN δ.val fun v=>Afw (apply st o {δ with val:=v}) k
 | false=>Afw (apply st o δ) k
theorem Aw2 {α :Type} (C:Ctx) (o:Oper) (st:St) (δ :Dl) (k:St->Option α):goV C o st δ k=k (apply st o δ):=by
 unfold goV;cases bnd C o with
 | true=>exact(AxP _ _).trans (Afx _ _)
 | false=>exact Afx _ _
noncomputable def opsE {α :Type} (C:Ctx) (ops l:List Oper):St->(St->Option α)->Option α :=
 (fun(_:Nat)=>List.rec (motive:=fun _=>St->(St->Option α)->Option α) (fun st K=>K st) (fun o _ ih st K=>match nR C o with
   | none=>allH (KJ C ops o st).ok (goV C o st (KJ C ops o st) fun st'=>ih st' K)
   | some (f,q)=>match Ama o st q with
    | true=>allH (KJ (C.put f q.1) ops o st).ok (ih (apply st o (KJ (C.put f q.1) ops o st)) K)
    | false=>allH (KJ (C.put f q.2.1) ops o st).ok (ih (apply st o (KJ (C.put f q.2.1) ops o st)) K)) l) AjJ
def A0G {α :Type} (C:Ctx) (ops:List Oper): ∀(l:List Oper) (st:St) (K:St->Option α),opsE C ops l st K=YM C ops l st K:=by
 intro l
 induction l with
 | nil=>intro st K;rfl
 | cons o r ih =>
  intro st K
  show(match nR C o with
   | none=>allH (KJ C ops o st).ok (goV C o st (KJ C ops o st) fun st'=>opsE C ops r st' K)
   | some (f,q)=>match Ama o st q with
    | true=>allH (KJ (C.put f q.1) ops o st).ok (opsE C ops r (apply st o (KJ (C.put f q.1) ops o st)) K)
    | false=>allH (KJ (C.put f q.2.1) ops o st).ok (opsE C ops r (apply st o (KJ (C.put f q.2.1) ops o st)) K))=_
  unfold YM;cases nR C o with
  | none=>grind[Aag,Aw2]
  | some q =>obtain⟨f,q⟩:=q;dsimp only;cases Ama o st q<;>(dsimp only[cond_true,cond_false];rw[Aag,ih])
noncomputable def Ava {α :Type} (C:Ctx) (ops l:List Oper):St->(St->Option α)->Option α :=
 (fun(_:Nat)=>List.rec (motive:=fun _=>St->(St->Option α)->Option α) (fun st K=>K st) (fun o _ ih st K=>allH (KJ C ops o st).ok (goV C o st (KJ C ops o st) fun st'=>ih st' K)) l) AjJ
def A0F {α :Type} (C:Ctx) (ops:List Oper): ∀(l:List Oper) (st:St) (K:St->Option α),Ava C ops l st K=YN C ops l st K:=by
 intro l
 induction l with
 | nil=>intro st K;rfl
 | cons o r ih =>intro st K;show allH _ (goV C o st _ fun st'=>Ava C ops r st' K)=allT _ (YN C ops r _ K);rw[Aag,Aw2,ih]
noncomputable def AkA (C:Ctx) (ops:List Oper):List Oper->List (List Nat)->St->List LQ
 | [],_,_=>[]
 | o::r,acc,st=>match KJ C ops o st,(ZC o).flatMap (fun e=>e::acc.getD e [])with
  | δ,an=>⟨o,δ,MG o st (KF o st),oneOf C o.op (KF o st),an⟩::Afw (apply st o δ) fun st'=>AkA C ops r (acc++[an]) st'
def Awz (C:Ctx) (ops:List Oper): ∀(l:List Oper) (acc:List (List Nat)) (st:St),AkA C ops l acc st=VR C ops l acc st:=by
 intro l
 induction l with
 | nil=>intro acc st;rfl
 | cons o r ih =>intro acc st;unfold AkA VR;dsimp only;rw[Afx,ih]
noncomputable def AtA:List Oper->List Nat->List Nat
 | [],_=>[]
 | o::r,acc=>(ZC o).foldr (fun e m=>((2 ^ e) ||| acc.getD e 0) ||| m) 0::Afu (acc++[(ZC o).foldr (fun e m=>((2 ^ e) ||| acc.getD e 0) ||| m) 0]) fun acc'=>AtA r acc'
def Alv (ops:List Oper) (i:Nat) (x:LQ):List LQ->List Nat->Bool
 | [],_=>true
 | y::r,b=>(VG y.news x.says&&VG y.news x.keys&&((b.headD 0).testBit i||indep ops x y))&&Alv ops i x r b.tail
def Alu (ops:List Oper):Nat->List LQ->List Nat->Bool
 | _,[],_=>true
 | i,x::r,b=>Alv ops i x r b.tail&&Alu ops (i+1) r b.tail
def Ahp:List LQ->List Nat->Prop
 | [],_=>True
 | y::r,b=>(∀ i,has y.anc i=(b.headD 0).testBit i)/\Ahp r b.tail
theorem Axh (ops:List Oper) (i:Nat) (x:LQ): ∀(r:List LQ) (b:List Nat),Ahp r b->Alv ops i x r b=r.all (jC ops i x):=by
 intro r
 induction r with
 | nil=>intro b _;rfl
 | cons y r ih=>grind[Alv,Ahp,jC]
def Axg (ops:List Oper): ∀(r:List LQ) (i:Nat) (b:List Nat),Ahp r b->Alu ops i r b=pF ops i r:=by
 intro r
 induction r with
 | nil=>intro i b _;rfl
 | cons x r ih=>grind[Alu,pF,Axh,Ahp]
def Aka (acc:List (List Nat)) (accB:List Nat) (h: ∀ e i,has (acc.getD e []) i=(accB.getD e 0).testBit i) (i:Nat): ∀ es:List Nat,has (es.flatMap fun e=>e::acc.getD e []) i=(es.foldr (fun e m=>((2 ^ e) ||| accB.getD e 0) ||| m) 0).testBit i:=by
 intro es
 induction es with
 | nil=>grind[has]
 | cons e r ih =>
  rw[FW,List.foldr_cons,Nat.testBit_or,Nat.testBit_or,Nat.testBit_two_pow,<- ih,<- h e i]
  have hb:Nat.beq i e=decide (e=i):=by
   by_cases hh:e=i
   .simp_all[has]
   .rw[DN hh];apply Bool.eq_false_iff.2;intro h;exact hh (Dx h).symm
  all_goals grind[has]
def Avp (C:Ctx) (ops:List Oper): ∀(l:List Oper) (acc:List (List Nat)) (accB:List Nat) (st:St),acc.length=accB.length->(∀ e i,has (acc.getD e []) i=(accB.getD e 0).testBit i)->Ahp (VR C ops l acc st) (AtA l accB):=by
 intro l
 induction l with
 | nil=>intro acc accB st _ _;trivial
 | cons o r ih =>
  intro acc accB st hl h;unfold VR AtA;dsimp only;rw[Afv];refine⟨fun i=>Aka acc accB h i _,ih _ _ _ (by simp [hl]) fun e i=> ?_⟩;rcases Nat.lt_trichotomy e acc.length with he | he | he
  .rw[Dn,Dn,Ep he,Ep (by omega),<- Dn,<- Dn];exact h e i
  .rw[Dn,Dn,ED (by omega),ED (by omega),show e - acc.length=0 by omega,show e - accB.length=0 by omega];exact Aka acc accB h i _
  .rw[Dn,Dn,Ec (by simp;omega),Ec (by simp;omega)];show false=Nat.testBit 0 i;rw[IZ]
noncomputable def Am1 (C:Ctx) (ops:List Oper) (st:St):Bool :=
 match AkA C ops ops [] st with
 | fs=>ordered ops&&Alu ops 0 fs (AtA ops [])&&(fs.flatMap LQ.news).all st.fresh&&sorted st.Ju
def Aun (C:Ctx) (ops:List Oper) (st:St):Am1 C ops st=Vp C ops st:=by unfold Am1 Vp;rw[Awz];dsimp only;rw[Axg _ _ _ _ (Avp C ops ops [] [] st rfl fun e i=>by show false=Nat.testBit 0 i;rw[IZ])]
def AaY {ρ :Type} (C:Ctx) (key:Nat) (st:St) (K:St->Option ρ):Option ρ :=
 match norm C key st with
 | (ok,st')=>match ok with
  | true=>K st'
  | false=>none
theorem Alh {ρ :Type} (C:Ctx) (key:Nat) (st:St) (K:St->Option ρ):AaY C key st K=Vt C key st K:=by unfold AaY Vt;generalize norm C key st=q;obtain⟨ok,st'⟩:=q;cases ok<;>rfl
def ZL {ρ :Type} (C:Ctx) (kind:Nat) (c:Code) (st:St) (K:St->Option ρ):Option ρ :=
 match Nb c with
 | some n=>AaY C (4*n+kind) st K
 | none=>(fun(_:Nat)=>K st) AjJ
def rU {ρ :Type} (C:Ctx) (kind:Nat) (c:Code) (st:St) (K:St->Option ρ):ZL C kind c st K=meet C kind c st K:=by grind[ZL,meet,Nb,Alh]
inductive HK where
 | b | i (k:IntKind) | s | l (t:Ty) | ln (t:Ty) | n | m (kt vt:Ty)
def HK.T:HK->Type
 | .b=>Bool
 | .i _=>Int
 | .s=>List UInt8
 | .l t=>List t.Val
 | .ln t=>List t.Val
 | .n=>Nat
 | .m kt vt=>List (kt.Val×vt.Val)
def HK.enc:(h:HK)->h.T->A
 | .b,v=>.bool v
 | .i k,v=>.int k v
 | .s,v=>.str v
 | .l t,v=>.sl ⟨t,v⟩
 | .ln t,v=>.sln ⟨t,v⟩
 | .n,v=>.fn v
 | .m kt vt,v=>.ump ⟨kt,vt,v⟩
def AzE:A->Nat | .fn n=>n | _=>0
def isFn:A->Bool | .fn _=>true | _=>false
def HK.is:HK->A->Bool
 | .b,a=>a.isB
 | .i k,a=>a.isI k
 | .s,a=>a.isS
 | .l t,a=>a.AmH t
 | .ln t,a=>a.Aha t
 | .n,a=>isFn a
 | .m kt vt,a=>a.Acr kt vt
def HK.dec:(h:HK)->A->h.T
 | .b,a=>a.toB
 | .i _,a=>a.toI
 | .s,a=>a.toS
 | .l t,a=>(a.toL.cast t).getD []
 | .ln t,a=>(a.toL.cast t).getD []
 | .n,a=>AzE a
 | .m kt vt,a=>(a.toM.cast kt vt).getD []
def HK.Am4 {h:HK} {a:A} (ha:h.is a=true):h.enc (h.dec a)=a:=by
 cases h with
 | b=>cases a<;>first | rfl | cases ha
 | i k =>
  cases a<;>first
   | (rename_i k' n;have:=A.RX (show A.kEq k k'=true from ha);subst this;rfl)
   | cases ha
 | s=>cases a<;>first | rfl | cases ha
 | l t =>
  cases a<;>first
   | (rename_i l
      have e:l.t=t:=D6 ha;obtain⟨t',xs⟩:=l;dsimp only at e;subst e;show A.sl ⟨t',((Sl.cast ⟨t',xs⟩ t').getD [])⟩=_;rw[Sl.iC];rfl)
   | cases ha
 | ln t =>
  cases a<;>first
   | (rename_i l
      have e:l.t=t:=D6 ha;obtain⟨t',xs⟩:=l;dsimp only at e;subst e;show A.sln ⟨t',((Sl.cast ⟨t',xs⟩ t').getD [])⟩=_;rw[Sl.iC];rfl)
   | cases ha
 | n=>cases a<;>first | rfl | cases ha
 | m kt vt =>obtain⟨l,rfl,h1,h2⟩:=Acs (show A.Acr kt vt a=true from ha);obtain⟨k,v,xs⟩:=l;dsimp only at h1 h2;subst h1;subst h2;show A.ump ⟨k,v,((Mp.cast ⟨k,v,xs⟩ k v).getD [])⟩=_;rw[Mp.iC];rfl
def pr2 (α β :Type):List HK->Type
 | []=> α
 | _::_=> α × β
def HV:List HK->Type
 | []=>Unit
 | h::r=>pr2 h.T (HV r) r
def hdH (h:HK):(r:List HK)->pr2 h.T (HV r) r->h.T
 | [],v=>v
 | _::_,v=>v.1
def tlH (h:HK):(r:List HK)->pr2 h.T (HV r) r->HV r
 | [],_=>()
 | _::_,v=>v.2
def mkH (h:HK):(r:List HK)->h.T->HV r->pr2 h.T (HV r) r
 | [],a,_=>a
 | _::_,a,b=>(a,b)
def A18 (h:HK) (r:List HK) (a:h.T) (b:HV r):hdH h r (mkH h r a b)=a:=by cases r<;>rfl
def A2p (h:HK) (r:List HK) (a:h.T) (b:HV r):tlH h r (mkH h r a b)=b:=by cases r<;>rfl
def HV.enc:(hs:List HK)->HV hs->List A
 | [],_=>[]
 | h::r,v=>h.enc (hdH h r v)::HV.enc r (tlH h r v)
def HV.dec:(hs:List HK)->List A->HV hs
 | [],_=>()
 | h::r,xs=>mkH h r (h.dec (xs.headD .undef)) (HV.dec r xs.tail)
def HV.Is:List HK->List A->Prop
 | [],[]=>True
 | h::r,x::xs=>h.is x=true/\HV.Is r xs
 | _,_=>False
def HV.Am4: ∀(hs:List HK) (xs:List A),HV.Is hs xs->HV.enc hs (HV.dec hs xs)=xs:=by
 intro hs
 induction hs with
 | nil=>intro xs h;cases xs with | nil=>rfl | cons _ _=>cases h
 | cons h r ih =>
  intro xs hx;cases xs with
  | nil=>cases hx
  | cons x xs =>show h.enc (hdH h r (mkH h r (h.dec x) (HV.dec r xs)))::HV.enc r (tlH h r (mkH h r (h.dec x) (HV.dec r xs)))=_;rw[A18,A2p,HK.Am4 hx.1,ih xs hx.2]
def HV.Is.append: ∀ {hs hs':List HK} {xs ys:List A},HV.Is hs xs->HV.Is hs' ys->HV.Is (hs++hs') (xs++ys):=by
 intro hs
 induction hs with
 | nil=>intro hs' xs ys h h';cases xs with | nil=>exact h' | cons _ _=>cases h
 | cons h r ih=>intro hs' xs ys hx h';cases xs with | nil=>cases hx | cons x xs=>exact⟨hx.1,ih hx.2 h'⟩
def HV.Is.length: ∀ {hs:List HK} {xs:List A},HV.Is hs xs->xs.length=hs.length:=by
 intro hs
 induction hs with
 | nil=>intro xs h;cases xs with | nil=>rfl | cons _ _=>cases h
 | cons h r ih=>intro xs hx;cases xs with | nil=>cases hx | cons x xs=>simp [ih hx.2]
inductive Pc where
 | h (k:HK) | oe (o off:Nat) | c (a:A)
inductive Pt where
 | i | c (p:Pc) | agg (l:List Pc) | elt (l:List Pc)
inductive Po where
 | box (l:List Pc) | arr (e:Nat) (frz:Bool) (t:Ty) | JZ (e:Nat) (frz:Bool) (t:Ty) | mp (kt vt:Ty)
structure Spe where
 ts:List (Nat×Pt)
 os:List (Nat×Po)
def V3:A->Bool | .undef=>true | _=>false
def Yg (a:A):Bool:=a.ids.isEmpty&& !(AaS a)
def same:A->A->Bool
 | .undef,.undef=>true
 | .LJ,.LJ=>true
 | .MO,.MO=>true
 | .bool a,.bool b=>a==b
 | .int k a,.int k' b=>A.kEq k k'&&a==b
 | .str a,.str b=>a==b
 | .sl l,.sl l'=>decide (l.t=l'.t)&&(l.xs.isEmpty&&l'.xs.isEmpty)
 | .ptr o p,.ptr o' p'=>Nat.beq o o'&&Nat.beq p p'
 | .own o,.own o'=>Nat.beq o o'
 | .Kr o i p,.Kr o' i' p'=>Nat.beq o o'&&(Nat.beq i i'&&Nat.beq p p')
 | .fn f,.fn f'=>Nat.beq f f'
 | .clo f o,.clo f' o'=>Nat.beq f f'&&Nat.beq o o'
 | .bsl o n,.bsl o' n'=>Nat.beq o o'&&Nat.beq n n'
 | .osl o n,.osl o' n'=>Nat.beq o o'&&Nat.beq n n'
 | _,_=>false
def same_eq {a b:A} (h:same a b=true):a=b:=by
 unfold same at h;split at h
 .rfl
 .rfl
 .rfl
 .rw[Gj h]
 .grind[A.RX]
 .rw[Gj h]
 .rename_i l l';simp only[Dw,DK,Fe]at h;obtain⟨t,xs⟩:=l;obtain⟨t',xs'⟩:=l';all_goals grind[same]
 all_goals simp_all[same]
namespace Pc
def hs:Pc->List HK
 | .h k=>[k]
 | .oe _ _=>[.n]
 | .c _=>[]
def nh:Pc->Nat
 | .c _=>0
 | _=>1
def emb:Pc->List A->A
 | .h _,xs=>xs.headD .undef
 | .oe o off,xs=>.Kr o (AzE (xs.headD .undef)) off
 | .c a,_=>a
def un:Pc->A->List A
 | .h _,a=>[a]
 | .oe _ _,.Kr _ i _=>[.fn i]
 | .oe _ _,_=>[.fn 0]
 | .c _,_=>[]
def fits:Pc->A->List Bool
 | .h k,a=>[k.is a]
 | .oe o off,.Kr o' _ off'=>[Nat.beq o o',Nat.beq off off']
 | .oe _ _,_=>[false]
 | .c x,a=>[same x a]
def WC {p:Pc} {a:A} (h:JD (p.fits a)) (r:List A):p.emb (p.un a++r)=a/\(p.un a++r).drop p.nh=r/\HV.Is p.hs (p.un a):=by
 cases p with
 | h k=>exact⟨rfl,rfl,h.cons.1,trivial⟩
 | oe o off =>
  cases a<;>first
   | (have h1:=h.cons.1;have h2:=h.cons.2.cons.1
      rw[Dx h1,Dx h2];exact⟨rfl,rfl,rfl,trivial⟩)
   | exact absurd h.cons.1 (by decide)
 | c x=>exact⟨same_eq h.cons.1,rfl,trivial⟩
end Pc
def hsC:List Pc->List HK
 | []=>[]
 | p::r=>p.hs++hsC r
def nhC:List Pc->Nat
 | []=>0
 | p::r=>p.nh+nhC r
def Am2:List Pc->List A->List A
 | [],_=>[]
 | p::r,xs=>p.emb xs::Am2 r (xs.drop p.nh)
def unC:List Pc->List A->List A
 | p::r,a::aa=>p.un a++unC r aa
 | _,_=>[]
def Ak8:List Pc->List A->List Bool
 | [],[]=>[]
 | p::r,a::aa=>p.fits a++Ak8 r aa
 | _,_=>[false]
def Am3: ∀(l:List Pc) (aa:List A),JD (Ak8 l aa)-> ∀ r,Am2 l (unC l aa++r)=aa/\(unC l aa++r).drop (nhC l)=r/\HV.Is (hsC l) (unC l aa):=by
 intro l
 induction l with
 | nil=>intro aa h r;cases aa with | nil=>exact⟨rfl,rfl,trivial⟩ | cons _ _=>exact absurd h.cons.1 (by decide)
 | cons p l ih =>
  intro aa h r;cases aa with
  | nil=>exact absurd h.cons.1 (by decide)
  | cons a aa =>
   obtain⟨h1,h2⟩:=h.append;obtain⟨e1,e2,e3⟩:=p.WC h1 (unC l aa++r);obtain⟨f1,f2,f3⟩:=ih aa h2 r;refine⟨?_,?_,e3.append f3⟩
   .grind[unC,Am2,drop]
   .show((p.un a++unC l aa)++r).drop (p.nh+nhC l)=_;rw[Ed,<- Gz,e2,f2]
namespace Pt
def hs:Pt->List HK
 | .i=>[]
 | .c p=>p.hs
 | .agg l=>hsC l
 | .elt l=>hsC l
def nh:Pt->Nat
 | .i=>0
 | .c p=>p.nh
 | .agg l=>nhC l
 | .elt l=>nhC l
def emb:Pt->A->List A->A
 | .i,b,_=>b
 | .c p,_,xs=>p.emb xs
 | .agg l,_,xs=>.agg (Am2 l xs)
 | .elt l,_,xs=>.elt (Am2 l xs)
def un:Pt->A->List A
 | .i,_=>[]
 | .c p,a=>p.un a
 | .agg l,.agg cs=>unC l cs
 | .elt l,.elt cs=>unC l cs
 | _,_=>[]
def fits:Pt->A->A->List Bool
 | .i,b,a=>[Yg b,!(V3 a)]
 | .c p,_,a=>p.fits a
 | .agg l,_,.agg cs=>Ak8 l cs
 | .elt l,_,.elt cs=>Ak8 l cs
 | _,_,_=>[false]
def isI:Pt->Bool | .i=>true | _=>false
def WC {p:Pt} {b a:A} (h:JD (p.fits b a)) (hi:p= .i->Yg b=true->V3 a=false->a=b) (r:List A):p.emb b (p.un a++r)=a/\(p.un a++r).drop p.nh=r/\HV.Is p.hs (p.un a):=by
 cases p with
 | i =>refine⟨(hi rfl h.cons.1 ?_).symm,rfl,trivial⟩;have:=h.cons.2.cons.1;simpa using this
 | c p=>exact p.WC h r
 | agg l =>
  cases a<;>first
   | (obtain⟨h1,h2,h3⟩:=Am3 l _ h r;exact⟨congrArg A.agg h1,h2,h3⟩)
   | exact absurd h.cons.1 (by decide)
 | elt l =>
  cases a<;>first
   | (obtain⟨h1,h2,h3⟩:=Am3 l _ h r;exact⟨congrArg A.elt h1,h2,h3⟩)
   | exact absurd h.cons.1 (by decide)
end Pt
def hsT:List (Nat×Pt)->List HK
 | []=>[]
 | (_,p)::r=>p.hs++hsT r
def nhT:List (Nat×Pt)->Nat
 | []=>0
 | (_,p)::r=>p.nh+nhT r
def AbY:List A->Nat->List (Nat×Pt)->List A->List A
 | [],_,_,_=>[]
 | _::bs,i,[],xs=>.undef::AbY bs (i+1) [] xs
 | b::bs,i,(j,p)::ts,xs=>bif Nat.beq i j then p.emb b xs::AbY bs (i+1) ts (xs.drop p.nh)else .undef::AbY bs (i+1) ((j,p)::ts) xs
def unT:List A->Nat->List (Nat×Pt)->List A
 | [],_,_=>[]
 | _::_,_,[]=>[]
 | a::aa,i,(j,p)::ts=>bif Nat.beq i j then p.un a++unT aa (i+1) ts else unT aa (i+1) ((j,p)::ts)
def fitsT:List A->List A->Nat->List (Nat×Pt)->List Bool
 | [],[],_,[]=>[]
 | _::bs,a::aa,i,[]=>V3 a::fitsT bs aa (i+1) []
 | b::bs,a::aa,i,(j,p)::ts=>bif Nat.beq i j then p.fits b a++fitsT bs aa (i+1) ts else V3 a::fitsT bs aa (i+1) ((j,p)::ts)
 | _,_,_,_=>[false]
def AkX {a:A} (h:V3 a=true):a= .undef:=by cases a<;>first | rfl | cases h
def A0m: ∀(bs aa:List A) (i:Nat) (ts:List (Nat×Pt)),JD (fitsT bs aa i ts)->(∀ t,((t,Pt.i):Nat×Pt)∈ts->i<=t->Yg (bs.getD (t - i) .undef)=true->V3 (aa.getD (t - i) .undef)=false->aa.getD (t - i) .undef=bs.getD (t - i) .undef) ->
 ∀ r,AbY bs i ts (unT aa i ts++r)=aa/\(unT aa i ts++r).drop (nhT ts)=r/\HV.Is (hsT ts) (unT aa i ts):=by
 intro bs
 induction bs with
 | nil =>
  intro aa i ts h _ r;cases aa with
  | nil=>cases ts with | nil=>exact⟨rfl,rfl,trivial⟩ | cons _ _=>exact absurd h.cons.1 (by decide)
  | cons _ _=>exact absurd h.cons.1 (by decide)
 | cons b bs ih =>
  intro aa i ts h hi r;have hstep: ∀ ts':List (Nat×Pt),(∀ t,(t,Pt.i)∈ts'->((t,Pt.i):Nat×Pt)∈ts)-> ∀(a:A) (as':List A),aa=a::as'-> ∀ t,(t,Pt.i)∈ts'->i+1<=t->Yg (bs.getD (t - (i+1)) .undef)=true->V3 (as'.getD (t - (i+1)) .undef)=false->as'.getD (t - (i+1)) .undef=bs.getD (t - (i+1)) .undef:=by all_goals grind[Pt,JD,fitsT,Yg,V3,AbY]
  cases aa with
  | nil=>cases ts<;>exact absurd h.cons.1 (by decide)
  | cons a aa =>
   cases ts with
   | nil =>
    have h':JD (V3 a::fitsT bs aa (i+1) []):=h;obtain⟨f1,f2,f3⟩:=ih aa (i+1) [] h'.cons.2 (fun t ht=>by cases ht) r;have hu:=AkX h'.cons.1;refine⟨?_,rfl,trivial⟩;show A.undef::AbY bs (i+1) [] ([]++r)=a::aa;have e0:unT aa (i+1) []=[]:=by cases aa<;>rfl
    rw[e0]at f1;rw[hu,f1]
   | cons q ts =>
    obtain⟨j,p⟩:=q;have h':JD (bif Nat.beq i j then p.fits b a++fitsT bs aa (i+1) ts else V3 a::fitsT bs aa (i+1) ((j,p)::ts)):=h;cases hb:Nat.beq i j with
    | true =>
     rw[hb]at h';obtain⟨h1,h2⟩:=JD.append h';have hij:=Dx hb;subst hij;obtain⟨e1,e2,e3⟩:=Pt.WC h1 (fun hp hpl hu=>by have:=hi i (by rw[<- hp];exact Dy) (DW _);rw[Nat.sub_self]at this;exact this hpl hu) (unT aa (i+1) ts++r);obtain⟨f1,f2,f3⟩:=ih aa (i+1) ts h2 (hstep ts (fun t ht=>D5 _ ht) a aa rfl) r;have u0:unT (a::aa) i ((i,p)::ts)=p.un a++unT aa (i+1) ts:=by show(bif Nat.beq i i then _ else _)=_;rw[hb];rfl
     refine⟨?_,?_,?_⟩
     .rw[u0];show(bif Nat.beq i i then _ else _)=_;rw[hb];show p.emb b ((p.un a++unT aa (i+1) ts)++r)::AbY bs (i+1) ts (((p.un a++unT aa (i+1) ts)++r).drop p.nh)=_;rw[Ed,e1,e2,f1]
     .rw[u0];show((p.un a++unT aa (i+1) ts)++r).drop (p.nh+nhT ts)=_;rw[Ed,<- Gz,e2,f2]
     .rw[u0];exact e3.append f3
    | false =>
     rw[hb]at h';obtain⟨f1,f2,f3⟩:=ih aa (i+1) ((j,p)::ts) h'.cons.2 (hstep _ (fun t ht=>ht) a aa rfl) r;have hu:=AkX h'.cons.1;have u0:unT (a::aa) i ((j,p)::ts)=unT aa (i+1) ((j,p)::ts):=by show(bif Nat.beq i j then _ else _)=_;rw[hb];rfl
     refine⟨?_,?_,?_⟩
     .rw[u0];show(bif Nat.beq i j then _ else _)=_;rw[hb];show A.undef::AbY bs (i+1) ((j,p)::ts) (unT aa (i+1) ((j,p)::ts)++r)=_;rw[hu,f1]
     .rw[u0];exact f2
     .rw[u0];exact f3
namespace Po
def hs:Po->List HK
 | .box l=>hsC l
 | .arr _ _ t=>[.l t]
 | .JZ _ _ _=>[]
 | .mp kt vt=>[.m kt vt]
def nh:Po->Nat
 | .box l=>nhC l
 | .arr _ _ _=>1
 | .JZ _ _ _=>0
 | .mp _ _=>1
def emb:Po->List A->Obj
 | .box l,xs=>.box (Am2 l xs)
 | .arr e f _,xs=>.arr e f (xs.headD .undef).toL
 | .JZ e f t,_=>.arr e f ⟨t,[]⟩
 | .mp _ _,xs=>.mp (xs.headD .undef).toM
def un:Po->Obj->List A
 | .box l,.box cs=>unC l cs
 | .arr _ _ _,.arr _ _ l=>[.sl l]
 | .mp _ _,.mp l=>[.ump l]
 | _,_=>[]
def fits:Po->Obj->List Bool
 | .box l,.box cs=>Ak8 l cs
 | .arr e f t,.arr e' f' l=>[Nat.beq e e',f==f',decide (l.t=t)]
 | .JZ e f t,.arr e' f' l=>[Nat.beq e e',f==f',decide (l.t=t),l.xs.isEmpty]
 | .mp kt vt,.mp l=>[A.Acr kt vt (.ump l)]
 | _,_=>[false]
def WC {p:Po} {x:Obj} (h:JD (p.fits x)) (r:List A):p.emb (p.un x++r)=x/\(p.un x++r).drop p.nh=r/\HV.Is p.hs (p.un x):=by
 cases p with
 | box l =>
  cases x with
  | box cs=>obtain⟨h1,h2,h3⟩:=Am3 l cs h r;exact⟨congrArg Obj.box h1,h2,h3⟩
  | arr _ _ _=>exact absurd h.cons.1 (by decide)
  | mp _=>exact absurd h.cons.1 (by decide)
 | mp kt vt =>
  cases x with
  | box cs=>exact absurd h.cons.1 (by decide)
  | arr _ _ _=>exact absurd h.cons.1 (by decide)
  | mp l=>exact⟨rfl,rfl,h.cons.1,trivial⟩
 | arr e f t =>
  cases x with
  | box cs=>exact absurd h.cons.1 (by decide)
  | mp _=>exact absurd h.cons.1 (by decide)
  | arr e' f' l =>have h1:=Dx h.cons.1;have h2:=Gj h.cons.2.cons.1;have h3:=h.cons.2.cons.2.cons.1;subst h1;subst h2;exact⟨rfl,rfl,h3,trivial⟩
 | JZ e f t =>
  cases x with
  | box cs=>exact absurd h.cons.1 (by decide)
  | mp _=>exact absurd h.cons.1 (by decide)
  | arr e' f' l =>have h1:=Dx h.cons.1;have h2:=Gj h.cons.2.cons.1;have h3:=D6 h.cons.2.cons.2.cons.1;have h4:=Fe.1 h.cons.2.cons.2.cons.2.cons.1;obtain⟨t',xs⟩:=l;dsimp only at h3 h4;subst h1;subst h2;subst h3;subst h4;exact⟨rfl,rfl,trivial⟩
end Po
def hsO:List (Nat×Po)->List HK
 | []=>[]
 | (_,p)::r=>p.hs++hsO r
def Aup:List (Nat×Po)->List A->List (Nat×Obj)
 | [],_=>[]
 | (n,p)::r,xs=>(n,p.emb xs)::Aup r (xs.drop p.nh)
def unO:List (Nat×Po)->List (Nat×Obj)->List A
 | (_,p)::r,(_,x)::l=>p.un x++unO r l
 | _,_=>[]
def Apx:List (Nat×Po)->List (Nat×Obj)->List Bool
 | [],[]=>[]
 | (n,p)::r,(k,x)::l=>Nat.beq n k::p.fits x++Apx r l
 | _,_=>[false]
def A0l: ∀(os:List (Nat×Po)) (l:List (Nat×Obj)),JD (Apx os l)->Aup os (unO os l)=l/\HV.Is (hsO os) (unO os l):=by
 intro os
 induction os with
 | nil=>intro l h;cases l with | nil=>exact⟨rfl,trivial⟩ | cons _ _=>exact absurd h.cons.1 (by decide)
 | cons q os ih =>
  intro l h;cases l with
  | nil=>exact absurd h.cons.1 (by decide)
  | cons y l =>obtain⟨n,p⟩:=q;obtain⟨k,x⟩:=y;have h':JD ((Nat.beq n k::p.fits x)++Apx os l):=h;obtain⟨h1,h2⟩:=h'.append;have hn:=Dx h1.cons.1;subst hn;obtain⟨e1,e2,e3⟩:=p.WC h1.cons.2 (unO os l);obtain⟨f1,f3⟩:=ih l h2;refine⟨?_,e3.append f3⟩;all_goals grind[unO,Aup,drop]
namespace Spe
def hs (sh:Spe):List HK:=hsT sh.ts++hsO sh.os
def emb (sh:Spe) (b:St) (v:HV sh.hs):St:=⟨AbY b.tmps 0 sh.ts (HV.enc sh.hs v),Aup sh.os ((HV.enc sh.hs v).drop (nhT sh.ts))⟩
def un (sh:Spe) (st:St):HV sh.hs:=HV.dec sh.hs (unT st.tmps 0 sh.ts++unO sh.os st.Ju)
def fits (sh:Spe) (b st:St):List Bool:=fitsT b.tmps st.tmps 0 sh.ts++Apx sh.os st.Ju
noncomputable def enter {ρ :Type} (sh:Spe) (b st:St) (j:HV sh.hs->Option ρ):Option ρ :=allH (sh.fits b st) (j (sh.un st))
def okI (sh:Spe) (W:List Nat):Bool:=sh.ts.all fun q=> !(q.2.isI)|| !(has W q.1)
end Spe
def xb:Pc:=.h .b
def x64:Pc:=.h (.i .i64)
def x8:Pc:=.h (.i .u8)
def xi (k:IntKind):Pc:=.h (.i k)
def xs:Pc:=.h .s
def xl (t:Ty):Pc:=.h (.l t)
def xo (o:Nat):Pc:=.c (.own o)
def x0:Pc:=.c .LJ
def R (W:List Nat) (st st':St):Prop:= ∀ t,t∉W->Yg (st.tmps.getD t .undef)=true->st'.tmps.getD t .undef=st.tmps.getD t .undef\/st'.tmps.getD t .undef= .undef
def R.refl (W:List Nat) (st:St):R W st st:=fun _ _ _=>.inl rfl
def R.trans {W:List Nat} {a b c:St} (h1:R W a b) (h2:R W b c):R W a c:=by
 intro t ht hp;rcases h1 t ht hp with e | e
 .grind[R]
 .rcases h2 t ht (by rw[e];rfl)with e' | e';all_goals grind[R]
def R.mono {W W':List Nat} {a b:St} (h:R W a b) (hs: ∀ t∈W,t∈W'):R W' a b:=fun t ht hp=>h t (fun h'=>ht (hs t h')) hp
def R.of_eq {W:List Nat} {a b:St} (h:a.tmps=b.tmps):R W a b:=fun _ _ _=>.inl (by rw[h])
def R.none {W:List Nat} {a b:St} (h:R [] a b):R W a b:=h.mono (fun _ h=>by cases h)
def Spe.WC {sh:Spe} {W:List Nat} {b st:St} (h:JD (sh.fits b st)) (hi:sh.okI W=true) (hr:R W b st):sh.emb b (sh.un st)=st:=by
 obtain⟨h1,h2⟩:=h.append;obtain⟨f1,f3⟩:=A0l _ _ h2
 obtain⟨e1,e2,e3⟩:=A0m _ _ 0 _ h1 (fun t ht _ hp hu=>by
  rw[Nat.sub_zero]at hp hu ⊢;have hw:t∉W:=by have:=D7.1 hi _ ht;intro hm;rw[show has W t=true by simp only[has,FB];exact⟨t,hm,by simp⟩]at this;cases this
  rcases hr t hw hp with e | e
  .exact e
  .rw[e]at hu;cases hu) (unO sh.os st.Ju)
 unfold Spe.emb Spe.un;rw[HV.Am4 _ _ (show HV.Is sh.hs _ from e3.append f3),e1,e2,f1]
theorem Ajg (l:List A) (d t:Nat) (v:A) (h:t≠d):(l.set d v).getD t .undef=l.getD t .undef:=by grind
def A2P: ∀(l:List (Option Nat×Nat×Ty)) (st:St),R [] st (pzs l st):=by
 intro l
 induction l with
 | nil=>intro st;exact R.refl _ _
 | cons q r ih =>
  intro st;obtain⟨b,t,ty⟩:=q;have hset: ∀(v:A) (Ju:List (Nat×Obj)),Yg (st.tmps.getD t .undef)=false->R [] st {tmps:=st.tmps.set t v,Ju:=Ju}:=by intro v Ju hp k _ hk;all_goals grind[Ajg]
  cases b with
  | none =>
   unfold pzs;split
   .rename_i e;exact(hset _ _ (by rw[e];rfl)).trans (ih _)
   .rename_i o e;split
    .exact(hset _ _ (by rw[e];rfl)).trans (ih _)
    .exact ih _
   .exact ih _
  | some b =>
   unfold pzs;split
   .split
    .split
     .refine R.trans ?_ (ih _);exact R.of_eq rfl
     .exact ih _
    .exact ih _
   .exact ih _
def getD_drop (keep:List Nat): ∀(l:List A) (i t:Nat),(drop keep l i).getD t .undef=l.getD t .undef\/(drop keep l i).getD t .undef= .undef:=by
 intro l
 induction l with
 | nil=>intro i t;exact .inl rfl
 | cons a l ih =>
  intro i t;cases t with
  | zero=>grind[has,drop]
  | succ t=>exact ih (i+1) t
def Avk {f t:Nat} {a:A} (h:Yg a=true):OV f t a=a:=by
 unfold Yg at h;rw[Dw,Fe]at h;have h1:=h.1;cases a with
 | ptr o off=>cases h1
 | own o=>cases h1
 | clo _ _=>cases h1
 | bsl _ _=>cases h1
 | osl _ _=>cases h1
 | Kr o i off=>cases h1
 | agg cs =>
  have h2:cs.flatMap A.Nz=[]:=h1;rw[Hz]at h2;show A.agg (cs.map _)=A.agg cs;congr 1
  conv=>rhs;rw[<- FY cs]
  refine Ea fun c hc=> ?_;have:=h2 c hc;cases c<;>first | rfl | cases this
 | _=>rfl
def A2d: ∀(l:List (Nat×Nat)) (st:St),R [] st (Ag3 st l).2:=by
 intro l
 induction l with
 | nil=>intro st;exact R.refl _ _
 | cons q r ih =>
  intro st;obtain⟨f,t⟩:=q;unfold Ag3;cases hx:J9 st.Ju f with
  | none=>exact ih st
  | some x =>
   have h1:R [] st {tmps:=st.tmps.map (OV f t),Ju:=(Md (TZ st.Ju f) t x).map (fun p=>(p.1,Ag2 f t p.2))}:=by
    intro k _ hk;left;show(st.tmps.map (OV f t)).getD k .undef=_;rw[Dn,Eu];rw[Dn]at hk ⊢;cases hs:st.tmps[k]? with
    | none=>rfl
    | some a =>rw[hs]at hk;exact Avk hk
   exact h1.trans (ih _)
theorem ArX (id:Nat): ∀(ts:List Nat) (l:List A) (k:Nat),k∉ts->(Ag6 id ts l).getD k .undef=l.getD k .undef:=by
 intro ts
 induction ts with
 | nil=>intro l k _;rfl
 | cons t r ih=>grind[Ag6,Ajg]
def A1S: ∀(l:List (List Nat×Nat×Ty×Nat)) (st:St),(owns l st).1=true->R [] st (owns l st).2:=by
 intro l
 induction l with
 | nil=>intro st _;exact R.refl _ _
 | cons q r ih =>
  intro st h;obtain⟨ts,e,ty,id⟩:=q;unfold owns at h ⊢;cases ha:ts.any (fun t=>AaS (st.tmps.getD t .undef))with
  | false=>rw[ha]at h;exact ih st h
  | true =>rw[ha]at h;dsimp only[cond_true]at h ⊢;simp only[Dw]at h;refine R.trans ?_ (ih _ h.2);intro k _ hk;all_goals grind[ArX,Yg]
theorem A1M {C:Ctx} {key:Nat} {st:St} (h:(norm C key st).1=true):R [] st (norm C key st).2:=by
 unfold norm at h ⊢;split at h
 .exact R.refl _ _
 .rename_i n hn;dsimp only at h ⊢;simp only[Dw]at h;have h1:R [] st (pzs n.pz st):=A2P _ _;have h2:R [] (pzs n.pz st) {tmps:=drop n.keep (pzs n.pz st).tmps 0,Ju:=(pzs n.pz st).Ju.filter (fun p=>has (reached (drop n.keep (pzs n.pz st).tmps 0) (pzs n.pz st).Ju) p.1)}:=fun t _ _=>getD_drop _ _ _ _;exact((h1.trans h2).trans (A2d _ _)).trans ((A1S _ _ h.2).trans (R.of_eq rfl))
def AbZ {ρ :Type} {sh:Spe} {b st:St} {j:HV sh.hs->Option ρ} {v: ρ} (h:sh.enter b st j=some v):JD (sh.fits b st)/\j (sh.un st)=some v:=by unfold Spe.enter at h;rw[Aag]at h;exact Wp h
theorem AqF {ρ :Type} {C:Ctx} {key:Nat} {st:St} {K:St->Option ρ} {v: ρ} (h:Vt C key st K=some v): ∃ st',R [] st st'/\K st'=some v/\ ∀ K':St->Option ρ,Vt C key st K'=K' st':=by
 unfold Vt at h;cases hn:(norm C key st).1 with
 | false =>
  have e:norm C key st=(false,(norm C key st).2):=by rw[<- hn]
  rw[e]at h;cases h
 | true =>
  have e:norm C key st=(true,(norm C key st).2):=by rw[<- hn]
  all_goals grind[A1M,Vt]
def AfK {ρ :Type} {C:Ctx} {kind:Nat} {c:Code} {st:St} {K:St->Option ρ} {v: ρ} (h:meet C kind c st K=some v): ∃ st',R [] st st'/\K st'=some v/\ ∀ K':St->Option ρ,meet C kind c st K'=K' st':=by
 unfold meet at h;cases hf:Nb c with
 | none=>rw[hf]at h;exact⟨st,R.refl _ _,h,fun K'=>by unfold meet;rw[hf]⟩
 | some n=>grind[AqF,meet]
structure Lk where
 j:List (Nat×Spe)
 l:List (Nat×Spe×List (Nat×Spe))
def AuL {α :Type}:List (Nat× α)->Nat->Option α
 | [],_=>none
 | (k,x)::r,n=>bif Nat.beq k n then some x else AuL r n
def AkZ (L:Lk) (b:Code):Option Spe:=match Nb b with
 | some n=>AuL L.j (4*n+1)
 | none=>none
def Ald (L:Lk) (c:Code):Option (Spe×List (Nat×Spe)):=match Nb c with
 | some n=>AuL L.l (4*n+2)
 | none=>none
def YT:List (Nat×Spe)->Type
 | []=>Unit
 | [(_,sh)]=>HV sh.hs
 | (_,sh)::q::r=>HV sh.hs ⊕ YT (q::r)
noncomputable def Afn {ρ :Type}:(ex:List (Nat×Spe))->Nat->St->St->(YT ex->Option ρ)->Option ρ
 | [],_,_,_,_=>none
 | [(i,sh)],id,b,st,kx=>match Nat.beq i id with
  | true=>sh.enter b st kx
  | false=>none
 | (i,sh)::q::r,id,b,st,kx=>match Nat.beq i id with
  | true=>sh.enter b st (fun v=>kx (.inl v))
  | false=>Afn (q::r) id b st (fun y=>kx (.inr y))
noncomputable def Ak1 {ρ :Type}:(ex:List (Nat×Spe))->St->(Ex->St->Option ρ)->YT ex->Option ρ
 | [],_,_=>fun _=>none
 | [(i,sh)],b,K=>fun v=>K (.exit i) (sh.emb b v)
 | (i,sh)::q::r,b,K=>Sum.elim (fun v=>K (.exit i) (sh.emb b v)) (Ak1 (q::r) b K)
noncomputable def Aho {ρ :Type} (mt:St->(St->Option ρ)->Option ρ) (body:St->(Ex->St->Option ρ)->Option ρ) (n:Nat):St->(Ex->St->Option ρ)->Option ρ :=
 (fun(_:Nat)=>Nat.rec (motive:=fun _=>St->(Ex->St->Option ρ)->Option ρ) (fun _ _=>none) (fun _ ih st K=>body st fun
   | .normal,st'=>mt st' fun st''=>ih st'' K
   | .exit id,st'=>K (.exit id) st') n) AjJ
noncomputable def exe {ρ :Type} (C:Ctx) (N:Nat) (L:Lk) (fin:St->Option ρ):Code->St->(Ex->St->Option ρ)->Option ρ
 | .skip,st,K=>K .normal st
 | .region id ops false,st,K=>split C id ops.toList st fun C=>opsE C ops.toList ops.toList st fun st'=>K .normal st'
 | .region id ops true,st,K=>split C id ops.toList st fun C=>match Am1 C ops.toList st with
  | true=>Ava C ops.toList ops.toList st fun st'=>K .normal st'
  | false=>none
 | .seq a b,st,K=>match AkZ L b with
  | some sh=>KY (fun j=>exe C N L fin a st fun
   | .normal,st'=>ZL C 1 b st' fun st''=>sh.enter st st'' j
   | .exit id,st'=>K (.exit id) st') (fun x=>exe C N L fin b (sh.emb st x) K)
  | none=>exe C N L fin a st fun
   | .normal,st'=>ZL C 1 b st' fun st''=>exe C N L fin b st'' K
   | .exit id,st'=>K (.exit id) st'
 | .cond c a b,st,K=>match Lp st.tmps c with
  | .bool t=>match t with
   | true=>exe C N L fin a st K
   | false=>exe C N L fin b st K
  | .cnd g (.bool t)=>match g with
   | true=>match t with
    | true=>exe C N L fin a st K
    | false=>exe C N L fin b st K
   | false=>none
  | _=>none
 | .block id c,st,K=>exe C N L fin c st fun
  | .exit j,st'=>match Nat.beq j id with
   | true=>K .normal st'
   | false=>K (.exit j) st'
  | .normal,st'=>K .normal st'
 | .loop c,st,K=>ZL C 2 c st fun b=>match Ald L c with
  | some (h,ex)=>match (h.fits b b).all id with
   | true=>J8 (fun x k kx=>exe C N L fin c (h.emb b x) fun
    | .normal,st'=>ZL C 2 c st' fun st''=>h.enter b st'' k
    | .exit id,st'=>Afn ex id b st' kx) N (h.un b) (Ak1 ex b K)
   | false=>Aho (ZL C 2 c) (exe C N L fin c) N b K
  | none=>Aho (ZL C 2 c) (exe C N L fin c) N b K
 | .scope c,st,K=>exe C N L fin c st K
 | .exit id,st,K=>AaY C (4*id+3) st fun st'=>K (.exit id) st'
 | .label _,st,K=>K .normal st
 | .ret,st,_=>fin st
 | _,_,_=>none
def writes:Code->List Nat
 | .region _ ops _=>ops.toList.filterMap (·.dst)
 | .seq a b=>writes a++writes b
 | .cond _ a b=>writes a++writes b
 | .block _ c=>writes c
 | .loop c=>writes c
 | .scope c=>writes c
 | _=>[]
def okJ (W:List Nat):Option Spe->Bool
 | some sh=>sh.okI W
 | none=>true
def okX (W:List Nat):Option (Spe×List (Nat×Spe))->Bool
 | some (h,ex)=>h.okI W&&ex.all (fun q=>q.2.okI W)
 | none=>true
def okL (L:Lk):Code->Bool
 | .seq a b=>okL L a&&okL L b&&okJ (writes a) (AkZ L b)
 | .cond _ a b=>okL L a&&okL L b
 | .block _ c=>okL L c
 | .scope c=>okL L c
 | .loop c=>okL L c&&okX (writes c) (Ald L c)
 | _=>true
def A2O (st:St) (o:Oper) (δ :Dl):R (fK o) st (apply st o δ):=by
 intro t ht _;left;show(put st.tmps o.dst δ.val).getD t .undef=_;cases hd:o.dst with
 | none=>rfl
 | some d =>refine Ajg _ _ _ _ fun e=>ht ?_;simp [fK,hd,e]
def AvI {α :Type} {l:List Bool} {x y:Option α} {v: α} (h:allT l x=some v) (hy:x=some v->y=some v):allT l y=some v:=by
 induction l with
 | nil=>exact hy h
 | cons c cs ih=>grind[allT]
def Axo {st st':St} {o:Oper} {δ :Dl} {r:List Oper} (hr:R (r.filterMap (·.dst)) (apply st o δ) st'):R ((o::r).filterMap (·.dst)) st st' :=
 ((A2O st o δ).mono (fun t ht=>by
    cases hd:o.dst with
    | none=>simp [fK,hd]at ht
    | some d=>simp [fK,hd]at ht;simp [hd,ht])).trans (hr.mono (fun t ht=>by
    cases hd:o.dst with
    | none=>simpa [hd]using ht
    | some d=>simp only[List.filterMap_cons,hd];exact D5 _ ht))
def A1Q {ρ :Type} {C:Ctx} {ops:List Oper} {v: ρ}: ∀(l:List Oper) (st:St) (K K':St->Option ρ),(∀ st',R (l.filterMap (·.dst)) st st'->K st'=some v->K' st'=some v)->YN C ops l st K=some v->YN C ops l st K'=some v:=by
 intro l
 induction l with
 | nil=>intro st K K' hK h;exact hK st (R.refl _ _) h
 | cons o r ih =>intro st K K' hK h;have h':allT (KJ C ops o st).ok (YN C ops r (apply st o (KJ C ops o st)) K)=some v:=h;show allT (KJ C ops o st).ok (YN C ops r (apply st o (KJ C ops o st)) K')=some v;exact AvI h' (ih _ K K' fun st' hr=>hK st' (Axo hr))
def A2M {ρ :Type} {C:Ctx} {ops:List Oper} {v: ρ}: ∀(l:List Oper) (st:St) (K K':St->Option ρ),(∀ st',R (l.filterMap (·.dst)) st st'->K st'=some v->K' st'=some v)->YM C ops l st K=some v->YM C ops l st K'=some v:=by
 intro l
 induction l with
 | nil=>intro st K K' hK h;exact hK st (R.refl _ _) h
 | cons o r ih =>
  intro st K K' hK h;have one: ∀ C':Ctx,allT (KJ C' ops o st).ok (YM C ops r (apply st o (KJ C' ops o st)) K)=some v->allT (KJ C' ops o st).ok (YM C ops r (apply st o (KJ C' ops o st)) K')=some v:=fun C' h'=>AvI h' (ih _ K K' fun st' hr=>hK st' (Axo hr));unfold YM at h ⊢;cases ha:nR C o with
  | none=>rw[ha]at h;exact one C h
  | some q =>
   obtain⟨f,q⟩:=q;rw[ha]at h;dsimp only at h ⊢;cases hb:Ama o st q with
   | true=>rw[hb]at h;exact one _ h
   | false=>rw[hb]at h;exact one _ h
def Aut {ρ :Type} {W:List Nat} {b st:St} {K:Ex->St->Option ρ} {v: ρ} {id:Nat} (hr:R W b st): ∀(ex:List (Nat×Spe)),ex.all (fun q=>q.2.okI W)=true->Afn ex id b st (Ak1 ex b K)=some v->K (.exit id) st=some v:=by
 have one: ∀(i:Nat) (sh:Spe),sh.okI W=true->Nat.beq i id=true->sh.enter b st (fun v=>K (.exit i) (sh.emb b v))=some v->K (.exit id) st=some v:=by intro i sh ho hb h;obtain⟨h1,h2⟩:=AbZ h;rw[Spe.WC h1 ho hr,Dx hb]at h2;exact h2
 intro ex
 induction ex with
 | nil=>intro _ h;cases h
 | cons q r ih =>
  intro ho h;obtain⟨i,sh⟩:=q;simp only[List.all_cons,Dw]at ho;cases r with
  | nil =>
   have h':(match Nat.beq i id with | true=>sh.enter b st (fun v=>K (.exit i) (sh.emb b v)) | false=>none)=some v:=h;cases hb:Nat.beq i id with
   | true=>rw[hb]at h';exact one i sh ho.1 hb h'
   | false=>rw[hb]at h';cases h'
  | cons q r =>
   have h':(match Nat.beq i id with | true=>sh.enter b st (fun v=>K (.exit i) (sh.emb b v)) | false=>Afn (q::r) id b st (Ak1 (q::r) b K))=some v:=h;cases hb:Nat.beq i id with
   | true=>rw[hb]at h';exact one i sh ho.1 hb h'
   | false =>rw[hb]at h';exact ih (by simpa using ho.2) h'
theorem Awv {ρ :Type} {C:Ctx} {N:Nat} {L:Lk} {fin:St->Option ρ} {v: ρ}: ∀(c:Code),okL L c=true-> ∀(st:St) (K K':Ex->St->Option ρ),(∀ e st',R (writes c) st st'->K e st'=some v->K' e st'=some v)->exe C N L fin c st K=some v->exec C N fin c st K'=some v:=by
 intro c
 induction c with
 | skip=>intro _ st K K' hK h;exact hK _ _ (R.refl _ _) h
 | label l=>intro _ st K K' hK h;exact hK _ _ (R.refl _ _) h
 | ret=>intro _ st K K' hK h;exact h
 | exit id =>intro _ st K K' hK h;obtain⟨st',h1,h2,h3⟩:=AqF ((Alh _ _ _ _).symm.trans (show AaY C (4*id+3) st (fun st'=>K (.exit id) st')=some v from h));show Vt C (4*id+3) st (fun st'=>K' (.exit id) st')=some v;rw[h3];exact hK _ _ h1.none h2
 | region id ops d =>
  intro _ st K K' hK h;cases d with
  | false=>exact(oL h).2 _ fun C h=>A2M ops.toList st _ _ (fun st' hr hk=>hK .normal st' hr hk) ((A0G _ _ _ _ _).symm.trans h)
  | true =>
   refine(oL h).2 _ fun C h=> ?_;have h':(match Vp C ops.toList st with | true=>Ava C ops.toList ops.toList st (fun st'=>K .normal st') | false=>none)=some v:=by rw[<- Aun];exact h
   show(bif Vp C ops.toList st then YN C ops.toList ops.toList st (fun st'=>K' .normal st')else none)=some v;cases hd:Vp C ops.toList st with
   | false=>rw[hd]at h';cases h'
   | true=>rw[hd]at h';exact A1Q ops.toList st _ _ (fun st' hr hk=>hK .normal st' hr hk) ((A0F _ _ _ _ _).symm.trans h')
 | seq x y ihx ihy =>
  intro ho st K K' hK h;have ho':(okL L x&&okL L y&&okJ (writes x) (AkZ L y))=true:=ho;simp only[Dw]at ho';have hxy: ∀ {e:Ex} {st1 st2:St},R (writes x) st st1->R (writes y) st1 st2->R (writes (.seq x y)) st st2:=fun h1 h2=>(h1.mono (fun t ht=>DF _ ht)).trans (h2.mono (fun t ht=>DD _ ht));simp only[exe]at h;show exec C N fin x st _=some v;cases hj:AkZ L y with
  | none =>
   rw[hj]at h;refine ihx ho'.1.1 st _ _ (fun e st1 hr hk=> ?_) h;cases e with
   | normal =>obtain⟨st2,h1,h2,h3⟩:=AfK ((rU _ _ _ _ _).symm.trans hk);show meet C 1 y st1 _=some v;rw[h3];exact ihy ho'.1.2 st2 _ _ (fun e st3 hr' hk'=>hK e st3 (hxy (e:=e) (hr.trans h1.none) hr') hk') h2
   | exit id=>exact hK _ _ (hr.mono (fun t ht=>DF _ ht)) hk
  | some sh =>
   rw[hj]at h ho';refine ihx ho'.1.1 st _ _ (fun e st1 hr hk=> ?_) (show exe C N L fin x st _=some v from h);cases e with
   | normal =>obtain⟨st2,h1,h2,h3⟩:=AfK ((rU _ _ _ _ _).symm.trans hk);show meet C 1 y st1 _=some v;rw[h3];obtain⟨h4,h5⟩:=AbZ h2;rw[Spe.WC h4 ho'.2 (hr.trans h1.none)]at h5;exact ihy ho'.1.2 st2 _ _ (fun e st3 hr' hk'=>hK e st3 (hxy (e:=e) (hr.trans h1.none) hr') hk') h5
   | exit id=>exact hK _ _ (hr.mono (fun t ht=>DF _ ht)) hk
 | cond o x y ihx ihy =>
  intro ho st K K' hK h;have ho':(okL L x&&okL L y)=true:=ho;simp only[Dw]at ho'
  have key: ∀ t:Bool,(match t with | true=>exe C N L fin x st K | false=>exe C N L fin y st K)=some v->(bif t then exec C N fin x st K' else exec C N fin y st K')=some v:=by
   intro t ht;cases t with
   | true=>exact ihx ho'.1 st K K' (fun e st' hr=>hK e st' (hr.mono (fun t ht=>DF _ ht))) ht
   | false=>exact ihy ho'.2 st K K' (fun e st' hr=>hK e st' (hr.mono (fun t ht=>DD _ ht))) ht
  simp only[exe]at h;simp only[exec];cases he:Lp st.tmps o with
  | bool t=>rw[he]at h;exact key t h
  | cnd g y' =>
   rw[he]at h;cases y' with
   | bool t =>
    cases g with
    | false=>cases h
    | true=>exact key t h
   | _=>cases h
  | _=>rw[he]at h;cases h
 | block id c ih =>
  intro ho st K K' hK h;refine ih ho st _ _ (fun e st' hr hk=> ?_) h;cases e with
  | normal=>exact hK _ _ hr hk
  | exit j =>
   dsimp only at hk ⊢;cases hb:Nat.beq j id with
   | true=>rw[hb]at hk;exact hK _ _ hr hk
   | false=>rw[hb]at hk;exact hK _ _ hr hk
 | loop c ih =>
  intro ho st K K' hK h;have ho':(okL L c&&okX (writes c) (Ald L c))=true:=ho;simp only[Dw]at ho';simp only[exe]at h;obtain⟨b,h1,h2,h3⟩:=AfK ((rU _ _ _ _ _).symm.trans h);show meet C 2 c st _=some v;rw[h3]
  have roll:Aho (ZL C 2 c) (exe C N L fin c) N b K=some v->rounds (meet C 2 c) (exec C N fin c) N b K'=some v:=by
   have key: ∀(n:Nat) (st1:St),R (writes c) b st1->Aho (ZL C 2 c) (exe C N L fin c) n st1 K=some v->rounds (meet C 2 c) (exec C N fin c) n st1 K'=some v:=by
    intro n
    induction n with
    | zero=>intro st1 _ h;cases h
    | succ n ihn =>
     intro st1 hr1 h;refine ih ho'.1 st1 _ _ (fun e st2 hr2 hk=> ?_) h;cases e with
     | normal =>obtain⟨st3,k1,k2,k3⟩:=AfK ((rU _ _ _ _ _).symm.trans hk);show meet C 2 c st2 _=some v;rw[k3];exact ihn st3 ((hr1.trans hr2).trans k1.none) k2
     | exit id=>exact hK _ _ ((h1.none.trans hr1).trans hr2) hk
   exact key N b (R.refl _ _)
  cases hl:Ald L c with
  | none=>rw[hl]at h2;exact roll h2
  | some q =>
   obtain⟨hd,ex⟩:=q;rw[hl]at h2 ho';dsimp only at h2;cases hfit:(hd.fits b b).all id with
   | false=>rw[hfit]at h2;exact roll h2
   | true =>
   rw[hfit]at h2;have h4:JD (hd.fits b b):=fun c hc=>D7.1 hfit c hc;have h5:=h2;have ho2:(hd.okI (writes c)&&ex.all (fun q=>q.2.okI (writes c)))=true:=ho'.2;simp only[Dw]at ho2
   have key: ∀(n:Nat) (st1:St),R (writes c) b st1->hd.emb b (hd.un st1)=st1->J8 (fun x k kx=>exe C N L fin c (hd.emb b x) fun
    | .normal,st'=>ZL C 2 c st' fun st''=>hd.enter b st'' k
    | .exit id,st'=>Afn ex id b st' kx) n (hd.un st1) (Ak1 ex b K)=some v->rounds (meet C 2 c) (exec C N fin c) n st1 K'=some v:=by
    intro n
    induction n with
    | zero=>intro st1 _ _ h;cases h
    | succ n ihn =>
     intro st1 hr1 he h;simp only[J8]at h;rw[he]at h;refine ih ho'.1 st1 _ _ (fun e st2 hr2 hk=> ?_) h;cases e with
     | normal =>obtain⟨st3,k1,k2,k3⟩:=AfK ((rU _ _ _ _ _).symm.trans hk);show meet C 2 c st2 _=some v;rw[k3];obtain⟨k4,k5⟩:=AbZ k2;have hr3:=(hr1.trans hr2).trans k1.none;exact ihn st3 hr3 (Spe.WC k4 ho2.1 hr3) k5
     | exit id =>exact hK _ _ ((h1.none.trans hr1).trans hr2) (Aut (hr1.trans hr2) ex ho2.2 hk)
   exact key N b (R.refl _ _) (Spe.WC h4 ho2.1 (R.refl _ _)) h5
 | scope c ih=>intro ho st K K' hK h;exact ih ho st K K' hK h
 | _=>intro _ st K K' hK h;cases h
def Azp:ResultVar->Nat×Option Nat
 | .tmp t=>(t,none)
 | .cell a t=>(a,some t)
structure Inf where
 J6:List Sh
 JJ:List Sh
 gs:List (Nat×Sig)
 ns:List (Nat×Nrm)
 L:Lk
def gZ (fn:Func):Code:=fn.body.getD .skip
def SS (fn:Func):List (Nat×Option Nat):=fn.results.toList.map Azp
noncomputable def Avm {ρ :Type} (N:Nat) (C:Ctx) (L:Lk) (J6:List Sh) (fn:Func) (fin:St->Option ρ) (a:ShT J6):Option ρ :=
 allH ((Le 0 256 J6 (encs J6 a) 0).1++[nodup ((Le 0 256 J6 (encs J6 a) 0).2.2.map (·.1)),!(has ((Le 0 256 J6 (encs J6 a) 0).2.2.map (·.1)) 255)])
  (exe C N L fin (gZ fn) (AgV J6 (encs J6 a) fn.ntmps) (fun
    | .normal,st=>fin st
    | .exit _,_=>none))
noncomputable def A2g (N:Nat) (C:Ctx) (L:Lk) (J6 JJ:List Sh) (fn:Func) (a:ShT J6):Option (ShT (MV J6 JJ)):=Avm N C L J6 fn (kK C J6 JJ (SS fn)) a
theorem A0O (r:ResultVar):rv (Azp r)=r:=by cases r<;>rfl
def Ahi (fn:Func):fn.results=((SS fn).map rv).toArray:=by grind[SS,rv,Azp,A0O]
theorem AzY {α :Type} {l:List Bool} {x:Option α} (h:JD l):allT l x=x:=by
 induction l with
 | nil=>rfl
 | cons c cs ih=>simp_all[JD,allT]
def Afs (L:Lk) (fn:Func):Bool:=fn.body.isSome&&(!(fn.name== "runtime.NumGoroutine")&&okL L (gZ fn))
def Ag5 {ρ :Type} {N:Nat} {C:Ctx} {L:Lk} {J6:List Sh} {fn:Func} {fin:St->Option ρ} {a:ShT J6} {r: ρ} (hn:okL L (gZ fn)=true) (h:Avm N C L J6 fn fin a=some r):runK C N J6 fn.ntmps (gZ fn) fin (encs J6 a)=some r:=by grind[Wp,Aag,allH,runK,AzY,Awv,Sh,ShT,okL,gZ,Avm,encs]
def Aft {L:Lk} {fn:Func} (hn:Afs L fn=true):fn.body=some (gZ fn)/\(fn.name== "runtime.NumGoroutine")=false/\okL L (gZ fn)=true:=by unfold Afs at hn;simp only[Dw,E5]at hn;obtain⟨code,hc⟩:=EM.1 hn.1;exact⟨by unfold gZ;rw[hc];rfl,hn.2⟩
def Qq {P:Program} {C:Ctx} {L:Lk} {N:Nat} (hC:OT P C) {f:FuncId} {fn:Func} {J6 JJ:List Sh} {g:ShT J6->Option (ShT (MV J6 JJ))} (hf:P.funcs[f]? =some fn:=by kernel_rfl) (hn:Afs L fn=true:=by kernel_rfl)
 (hF: ∀ a,A2g N C L J6 JJ fn a=g a:=by intro a;kernel_rfl):Spec P f (Sig.of J6 JJ g):=by
 obtain⟨hb,h1,h2⟩:=Aft hn;exact bD (fin:=kK C J6 JJ (SS fn)) hC N hf hb h1 (Ahi fn) (fun a o h=>⟨o,Ag5 h2 ((hF a).trans h),fun st h=>h⟩)
def Ag9 {P:Program} {C:Ctx} (hC:OT P C) {f:FuncId} {fn:Func} {J6 JJ:List Sh} (hf:P.funcs[f]? =some fn) (hn:Afs ⟨[],[]⟩ fn=true):Spec P f (Sig.of J6 JJ fun _=>none):=by obtain⟨hb,h1,h2⟩:=Aft hn;exact bD (fin:=kK C J6 JJ (SS fn)) hC 0 hf hb h1 (Ahi fn) (fun a o h=>by cases h)
def A1L (C:Ctx) (r1:List Sh) (outs:List (Nat×Option Nat)) (st:St):Bool:=(r1.zip outs).any fun q=>(match q.1 with | .box _=>true | _=>false)&&(Aj1 C st q.2).2.AaR
noncomputable def Aqp (C:Ctx) (J6 r1 r2:List Sh) (outs:List (Nat×Option Nat)) (st:St):Option (ShT (MV J6 r1) ⊕ ShT (MV J6 r2)) :=
 match A1L C r1 outs st with
 | true=>(kK C J6 r2 outs st).map .inr
 | false=>(kK C J6 r1 outs st).map .inl
noncomputable def AyS (N:Nat) (C:Ctx) (L:Lk) (J6 r1 r2:List Sh) (fn:Func) (a:ShT J6):Option (ShT (MV J6 r1) ⊕ ShT (MV J6 r2)):=Avm N C L J6 fn (Aqp C J6 r1 r2 (SS fn)) a
noncomputable def Alt.of (J6 r1 r2:List Sh) (g:ShT J6->Option (ShT (MV J6 r1) ⊕ ShT (MV J6 r2))):Alt :=
 (Sig.of J6 r1 (fun a=>A15 (g a)),Sig.of J6 r2 (fun a=>A16 (g a)),fun xs=>match Uf J6 xs with
   | some a=>A1D (g a)
   | none=>true)
def Uy {P:Program} {C:Ctx} {L:Lk} {N:Nat} (hC:OT P C) {f:FuncId} {fn:Func} {J6 r1 r2:List Sh} {g:ShT J6->Option (ShT (MV J6 r1) ⊕ ShT (MV J6 r2))} (hf:P.funcs[f]? =some fn) (hn:Afs L fn=true)
 (hF: ∀ a,AyS N C L J6 r1 r2 fn a=g a):Spec P f (Alt.of J6 r1 r2 g).1/\Spec P f (Alt.of J6 r1 r2 g).2.1:=by
 obtain⟨hb,h1,h2⟩:=Aft hn;constructor
 .refine bD (fin:=Aqp C J6 r1 r2 (SS fn)) hC N hf hb h1 (Ahi fn) (fun a o h=>⟨.inl o,Ag5 h2 ((hF a).trans ?_),fun st h=> ?_⟩)
  .cases hg:g a with
   | none=>rw[hg]at h;cases h
   | some r=>rw[hg]at h;cases r with | inl x=>injection h with h;rw[h] | inr x=>cases h
  .unfold Aqp at h;split at h
   .cases hq:kK C J6 r2 (SS fn) st with
    | none=>rw[hq]at h;cases h
    | some r=>rw[hq]at h;injection h with h;cases h
   .cases hq:kK C J6 r1 (SS fn) st with
    | none=>rw[hq]at h;cases h
    | some r=>grind[Sh,ShT,MV,Afs,AyS,Spec]
 .refine bD (fin:=Aqp C J6 r1 r2 (SS fn)) hC N hf hb h1 (Ahi fn) (fun a o h=>⟨.inr o,Ag5 h2 ((hF a).trans ?_),fun st h=> ?_⟩)
  .cases hg:g a with
   | none=>rw[hg]at h;cases h
   | some r=>rw[hg]at h;cases r with | inr x=>injection h with h;rw[h] | inl x=>cases h
  .unfold Aqp at h;split at h
   .cases hq:kK C J6 r2 (SS fn) st with
    | none=>rw[hq]at h;cases h
    | some r=>grind[Sh,ShT,MV,Afs,AyS,Spec]
   .cases hq:kK C J6 r1 (SS fn) st with
    | none=>rw[hq]at h;cases h
    | some r=>rw[hq]at h;injection h with h;cases h
end Go.Proofs.YtfgdgdnlglejbaaGreatDoor.Vm
namespace Go.Proofs.YtfgdgdnlglejbaaGreatDoor.Vm
open Go.Proofs
abbrev Tq0:Ty:=(.str (.int .i64 (.str .nil)))
abbrev Tq1:Ty:=(.int .i64 (.str (.sl 144 (.sl 143 Tq0 .nil) .nil)))
abbrev Tq2:Ty:=(.sl 84 Tq1 (.int .i64 (.bool (.sl 144 (.sl 143 Tq0 .nil) .nil))))
abbrev Tq4:Ty:=(.str (.bool (.str .nil)))
abbrev Tq5:Ty:=(.int .i64 (.str (.str .nil)))
abbrev Tq6:Ty:=(.str (.int .i64 (.fn (.fn (.fn .nil)))))
abbrev Tq7:Ty:=(.sl 39 (.sl 9 (.str .nil) .nil) (.str (.str (.int .i64 .nil))))
noncomputable def Sq0:Sh:=.cell false (.sln 3 (.int .i64 .nil))
noncomputable def Sq1:Sh:=.agg [(false,(.sl 144 (.sl 143 Tq0 .nil)))]
noncomputable def Sq2:Sh:=.agg [(false,(.int .i64)),(false,.str),(false,(.sl 144 (.sl 143 Tq0 .nil)))]
noncomputable def Sq4:Sh:=.agg [(false,(.sl 84 Tq1)),(false,(.int .i64)),(false,.bool),(false,(.sl 144 (.sl 143 Tq0 .nil)))]
noncomputable def Sq5:Sh:=.agg [(false,.str),(false,(.int .i64)),(false,.str)]
noncomputable def Sq6:Sh:=.cell false (.sl 9 (.str .nil))
noncomputable def Sq7:Sh:=.agg [(false,(.int .i64)),(false,(.int .i64)),(false,(.int .i64)),(false,(.int .i64)),(false,(.int .i64)),(false,(.int .i64))]
noncomputable def Sq8:Sh:=.cell true (.sln 5 (.int .u8 .nil))
noncomputable def Sq9:Sh:=.map (.str .nil) (.int .i64 .nil)
noncomputable def NL:Sh:=.agg [(false,(.int .i64)),(false,.str),(false,.str)]
noncomputable def A1j:Sh:=.cell true (.sl 5 (.int .u8 .nil))
noncomputable def At5:Sh:=.agg [(false,.str),(false,.bool),(false,.str)]
noncomputable def TD:Sh:=.box [(false,(.sl 89 Tq5))]
noncomputable def ApE:Sh:=.cell false (.sl 3 (.int .i64 .nil))
noncomputable def AxB:Sh:=.box [(false,(.int .u32)),(false,(.int .u32)),(false,(.int .u32)),(false,(.int .u32)),(false,(.int .u32)),(false,(.int .u32)),(false,(.int .u32)),(false,(.int .u32)),(false,(.sl 5 (.int .u8 .nil))),(false,(.int .i64))]
noncomputable def AxC:Sh:=.agg [(false,(.int .u32)),(false,(.int .u32)),(false,(.int .u32)),(false,(.int .u32)),(false,(.int .u32)),(false,(.int .u32)),(false,(.int .u32)),(false,(.int .u32))]
noncomputable def A2V:Sh:=.agg [(false,(.int .u32)),(false,(.int .u32)),(false,(.int .u32)),(false,(.int .u32)),(false,(.int .u32)),(false,(.int .u32)),(false,(.int .u32)),(false,(.int .u32)),(false,(.int .u32)),(false,(.int .u32)),(false,(.int .u32)),(false,(.int .u32)),(false,(.int .u32)),(false,(.int .u32)),(false,(.int .u32)),(false,(.int .u32)),(false,(.int .u32)),(false,(.int .u32)),(false,(.int .u32)),(false,(.int .u32)),(false,(.int .u32)),(false,(.int .u32)),(false,(.int .u32)),(false,(.int .u32)),(false,(.int .u32)),(false,(.int .u32)),(false,(.int .u32)),(false,(.int .u32)),(false,(.int .u32)),(false,(.int .u32)),(false,(.int .u32)),(false,(.int .u32)),(false,(.int .u32)),(false,(.int .u32)),(false,(.int .u32)),(false,(.int .u32)),(false,(.int .u32)),(false,(.int .u32)),(false,(.int .u32)),(false,(.int .u32)),(false,(.int .u32)),(false,(.int .u32)),(false,(.int .u32)),(false,(.int .u32)),(false,(.int .u32)),(false,(.int .u32)),(false,(.int .u32)),(false,(.int .u32)),(false,(.int .u32)),(false,(.int .u32)),(false,(.int .u32)),(false,(.int .u32)),(false,(.int .u32)),(false,(.int .u32)),(false,(.int .u32)),(false,(.int .u32)),(false,(.int .u32)),(false,(.int .u32)),(false,(.int .u32)),(false,(.int .u32)),(false,(.int .u32)),(false,(.int .u32)),(false,(.int .u32)),(false,(.int .u32))]
noncomputable def A2W:Sh:=.cell false (.sl 5 (.int .u8 .nil))
noncomputable def AlX:Sh:=.box [(false,(.sln 39 (.sl 9 (.str .nil) .nil))),(false,.str),(false,.str),(false,(.int .i64))]
noncomputable def AiA:Sh:=.box [(false,.str),(false,(.int .i64)),(false,(.int .i64)),(true,(.bx Tq7))]
noncomputable def A1k:Sh:=.cell false (.sl 203 (.int .u32 .nil))
noncomputable def A2X:Sh:=.agg [(false,(.sl 39 (.sl 9 (.str .nil) .nil)))]
noncomputable def Zv:Sh:=.box [(false,(.sl 3 (.int .i64 .nil))),(false,(.int .i64))]
noncomputable def MP:Sh:=.agg [(false,.bool),(false,.bool),(false,(.int .i64)),(false,(.int .i64)),(false,(.sl 9 (.str .nil))),(false,(.sl 9 (.str .nil))),(false,(.sl 267 (.str (.str .nil)))),(false,(.int .i64)),(false,(.int .i64)),(false,(.int .i64)),(false,(.sl 84 Tq1)),(false,.bool),(false,(.sl 84 Tq1)),(false,(.sl 84 Tq1)),(false,.str),(false,.str),(false,(.sl 153 Tq2)),(false,(.sl 153 Tq2)),(false,(.sl 176 Tq4))]
noncomputable def ApF:Sh:=.cell false (.sl 267 (.str (.str .nil)))
noncomputable def Ae7:Sh:=.agg [(false,(.sl 84 Tq1)),(false,(.sl 84 Tq1))]
noncomputable def AbA:Sh:=.agg [(false,.str),(false,.str),(false,(.int .i64)),(false,(.sl 144 (.sl 143 Tq0 .nil))),(false,(.sl 144 (.sl 143 Tq0 .nil))),(false,(.int .i64)),(false,(.int .i64)),(false,(.int .i64)),(false,.str),(false,.str),(false,.bool),(false,.bool),(false,(.int .i64)),(false,(.int .i64)),(false,(.sl 9 (.str .nil))),(false,(.sl 9 (.str .nil))),(false,(.sl 267 (.str (.str .nil)))),(false,(.int .i64)),(false,(.int .i64)),(false,(.int .i64)),(false,(.sl 84 Tq1)),(false,.bool),(false,(.sl 84 Tq1)),(false,(.sl 84 Tq1)),(false,.str),(false,.str),(false,(.sl 153 Tq2)),(false,(.sl 153 Tq2)),(false,(.sl 176 Tq4)),(false,.str)]
noncomputable def A2Y:Sh:=.agg [(false,.str),(false,(.int .i64)),(false,.fn),(false,.fn),(false,.fn)]
noncomputable def A1l:Sh:=.box [(false,.str),(false,.str),(false,(.int .i64)),(false,(.sl 144 (.sl 143 Tq0 .nil))),(false,(.sl 144 (.sl 143 Tq0 .nil))),(false,(.int .i64)),(false,(.int .i64)),(false,(.int .i64)),(false,.str),(false,.str),(false,.bool),(false,.bool),(false,(.int .i64)),(false,(.int .i64)),(false,(.sl 9 (.str .nil))),(false,(.sl 9 (.str .nil))),(false,(.sl 267 (.str (.str .nil)))),(false,(.int .i64)),(false,(.int .i64)),(false,(.int .i64)),(false,(.sl 84 Tq1)),(false,.bool),(false,(.sl 84 Tq1)),(false,(.sl 84 Tq1)),(false,.str),(false,.str),(false,(.sl 153 Tq2)),(false,(.sl 153 Tq2)),(false,(.sl 176 Tq4)),(false,.str)]
noncomputable def At6:Sh:=.box [(false,(.int .i64)),(false,.str),(false,.str)]
noncomputable def A2Z:Sh:=.agg [(false,.bool),(false,.bool),(false,(.int .i64)),(false,(.int .i64)),(true,(.sl 9 (.str .nil))),(true,(.sl 9 (.str .nil))),(true,(.sl 267 (.str (.str .nil)))),(false,(.int .i64)),(false,(.int .i64)),(false,(.int .i64)),(false,(.sl 84 Tq1)),(false,.bool),(false,(.sl 84 Tq1)),(false,(.sl 84 Tq1)),(false,.str),(false,.str),(false,(.sl 153 Tq2)),(false,(.sl 153 Tq2)),(true,(.sl 176 Tq4))]
noncomputable def XL:Sh:=.box [(false,.bool),(false,.bool),(false,(.int .i64)),(false,(.int .i64)),(true,(.sl 9 (.str .nil))),(true,(.sl 9 (.str .nil))),(true,(.sl 267 (.str (.str .nil)))),(false,(.int .i64)),(false,(.int .i64)),(false,(.int .i64)),(false,(.sl 84 Tq1)),(false,.bool),(false,(.sl 84 Tq1)),(false,(.sl 84 Tq1)),(false,.str),(false,.str),(false,(.sl 153 Tq2)),(false,(.sl 153 Tq2)),(true,(.sl 176 Tq4))]
noncomputable def AlY:Sh:=.clo 0 [(false,.bool),(false,.bool),(false,(.int .i64)),(false,(.int .i64)),(true,(.sl 9 (.str .nil))),(true,(.sl 9 (.str .nil))),(true,(.sl 267 (.str (.str .nil)))),(false,(.int .i64)),(false,(.int .i64)),(false,(.int .i64)),(false,(.sl 84 Tq1)),(false,.bool),(false,(.sl 84 Tq1)),(false,(.sl 84 Tq1)),(false,.str),(false,.str),(false,(.sl 153 Tq2)),(false,(.sl 153 Tq2)),(true,(.sl 176 Tq4))]
noncomputable def A3a:Sh:=.clo 396 [(false,.bool),(false,.bool),(false,(.int .i64)),(false,(.int .i64)),(true,(.sl 9 (.str .nil))),(true,(.sl 9 (.str .nil))),(true,(.sl 267 (.str (.str .nil)))),(false,(.int .i64)),(false,(.int .i64)),(false,(.int .i64)),(false,(.sl 84 Tq1)),(false,.bool),(false,(.sl 84 Tq1)),(false,(.sl 84 Tq1)),(false,.str),(false,.str),(false,(.sl 153 Tq2)),(false,(.sl 153 Tq2)),(true,(.sl 176 Tq4))]
noncomputable def A3b:Sh:=.clo 397 [(false,.bool),(false,.bool),(false,(.int .i64)),(false,(.int .i64)),(true,(.sl 9 (.str .nil))),(true,(.sl 9 (.str .nil))),(true,(.sl 267 (.str (.str .nil)))),(false,(.int .i64)),(false,(.int .i64)),(false,(.int .i64)),(false,(.sl 84 Tq1)),(false,.bool),(false,(.sl 84 Tq1)),(false,(.sl 84 Tq1)),(false,.str),(false,.str),(false,(.sl 153 Tq2)),(false,(.sl 153 Tq2)),(true,(.sl 176 Tq4))]
noncomputable abbrev Jw (k:FuncId) (S:Sig):Prop:=Spec Tryz.prog k S
noncomputable abbrev Jz (gs:List (Nat×Sig)) (ns:List (Nat×Nrm)) (aa:List (Nat×Alt):=[]) (dd:List (Nat×(Nat->Sig)):=[]) (cc:List Nat:=[]) (bb:List Nat:=[]) (ss:List (Nat×Nat×Nat×List Nat):=[]) (kk:List (Nat×List (Nat×Nat)):=[]):Ctx:=ctx Tryz.prog gs ns aa dd cc bb ss kk
def J3 {f:FuncId} {J6 JJ:List Sh} {g:ShT J6->Option (ShT (MV J6 JJ))} (C:Ctx) (L:Lk) (fn:Func) (N:Nat) (hC:OT Tryz.prog C) (hf:Tryz.prog.funcs[f]? =some fn:=by kernel_rfl) (hn:Afs L fn=true:=by kernel_rfl) (hF: ∀ a,A2g N C L J6 JJ fn a=g a:=by intro a;kernel_rfl):Spec Tryz.prog f (Sig.of J6 JJ g):=Qq hC hf hn hF
noncomputable def J7:Sh:=.cell false .str
noncomputable def J4:Sh:=.cell false (.int .i64)
noncomputable def JS:Sh:=.cell false .bool
noncomputable def Aq:Ty:=.str .nil
noncomputable def Ar:Ty:=.int .u8 .nil
noncomputable def Au:Ty:=.int .i64 .nil
noncomputable def Aw:Ty:=.sl 143 Tq0 .nil
noncomputable def Az:Ty:=.int .u32 .nil
noncomputable def AA:Pc:=.c (.int .i64 0)
noncomputable def AB:Pc:=.c (.str ([]:Bs))
noncomputable def AL:Pc:=.c (.ptr 33280 0)
noncomputable def AO:Pc:=.c (.ptr 0 0)
noncomputable def AP:Pc:=.c (.ptr 33024 0)
noncomputable def AQ:Pc:=.c (.bool false)
noncomputable def AU:Pc:=.c (.ptr 33792 0)
noncomputable def AV:Pc:=.c (.ptr 33536 0)
noncomputable def AX:Pc:=.c (.ptr 34048 0)
noncomputable def AY:Pc:=.c (.ptr 37120 0)
noncomputable def AZ:Pc:=.c (.ptr 34816 0)
noncomputable def Ba:Pc:=.c (.ptr 38144 0)
noncomputable def Bc:Pc:=.c (.ptr 34304 0)
noncomputable def Bd:Pc:=.c (.ptr 39936 0)
noncomputable def Be:Pc:=xl Tq1
noncomputable def Bf:Pc:=xi .u32
noncomputable def Bg:Pc:=xl Tq2
noncomputable def Bh:Pc:=xl Aq
noncomputable def Bi:Pc:=xl Tq4
noncomputable def Bj:Pc:=xl Au
noncomputable def Bl:Pc:=xl Tq5
noncomputable def Bo:Pc:=xl Aw
noncomputable def Bq:Pc:=xl Ar
noncomputable def Bv:List Pc:=[xb,xb,x64,x64,Bh,Bh,(xl (.str Aq)),x64,x64,x64,Be,xb,Be,Be,xs,xs,Bg,Bg,Bi]
noncomputable def Bz:List Pc:=[AQ,AQ,AA,AA,(xo 33285),(xo 33286),(xo 33287),AA,AA,AA,(xo 33291),AQ,(xo 33293),(xo 33294),AB,AB,(xo 33297),(xo 33298),(xo 33299)]
noncomputable def BA:List Pc:=[Bf,Bf,Bf,Bf,Bf,Bf,Bf,Bf,Bq,x64]
noncomputable def BB:List Pc:=[xb,xb,x64,x64,(xo 1000048),(xo 1000032),(xo 1000016),x64,x64,x64,Be,xb,Be,Be,xs,xs,Bg,Bg,(xo 1000000)]
noncomputable def BC:List Pc:=[xb,xb,x64,x64,(xo 1012336),(xo 1012320),(xo 1012304),x64,x64,x64,Be,xb,Be,Be,xs,xs,Bg,Bg,(xo 1012288)]
noncomputable def BD:List Pc:=[xb,xb,x64,x64,(xo 1004160),(xo 1004144),(xo 1004128),x64,x64,x64,Be,xb,Be,Be,xs,xs,Bg,Bg,(xo 1004112)]
noncomputable def BF:List Pc:=[xb,xb,x64,x64,(xo 1008256),(xo 1008240),(xo 1008224),x64,x64,x64,Be,xb,Be,Be,xs,xs,Bg,Bg,(xo 1008208)]
noncomputable def BG:List Pc:=[Bj,x64]
noncomputable def BH:List Pc:=[AA,AB,AB]
noncomputable def BI:List Pc:=[xb,xb,x64,x64,(xo 5),(xo 6),(xo 7),x64,x64,x64,Be,xb,Be,Be,xs,xs,Bg,Bg,(xo 19)]
noncomputable def BJ:List Pc:=[AA,AA,AA,AA,AA,AA]
noncomputable def BK:List Pc:=[(.h (.ln (.sl 9 Aq .nil))),xs,xs,x64]
noncomputable def BL:List Pc:=[AB,AA,(.c (.fn 0)),(.c (.fn 0)),(.c (.fn 0))]
noncomputable def BM:List Pc:=[(xo 33281),(xo 33282)]
noncomputable def BN:List Pc:=[(xo 33281),AA,AQ,(xo 33284)]
noncomputable def BO:List Pc:=[(xo 33793),AA,AQ,(xo 33796)]
noncomputable def BP:List Pc:=[(xo 33281)]
noncomputable def BQ:List Pc:=[x64,x64,x64,x64,x64,x64]
noncomputable def BR:List Pc:=[Be,x64,xb,Bo]
noncomputable def BU:List Pc:=[x64,xs,xs]
end Go.Proofs.YtfgdgdnlglejbaaGreatDoor.Vm
