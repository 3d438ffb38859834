import Derived.Test.YtehkhflpjkokeaaGreatDoorA9
import Derived.Lib.Walk
import Derived.Laws.RangeString
import Derived.Laws.RangeAny
import Derived.LoopTactic
import Derived.BigGuardPart
set_option linter.all false
namespace Go.Proofs.YtehkhflpjkokeaaGreatDoor
open Go.RowKit Vm
def aS (w:World) (s:ByteArray) (pos:Nat):Below w.heap.size w (w.iter s pos):=Below.alloc (Below.refl _ _) (DN _) _
def AoL (s:ByteArray) (i:Nat):1<=(Utf8.decode s i).2:=by
 unfold Utf8.decode;dsimp only;repeat' split
 all_goals (first | exact DN _ | (show 1<=_;omega))
def Awd (s:ByteArray) (b pos:Nat) (h: ¬ pos<s.size):SV s b pos=true:=by
 cases b with
 | zero=>rfl
 | succ b=>unfold SV;rw[Dk h]
def AuB (s:ByteArray) (b pos:Nat) (h:pos<s.size):SV s (b+1) pos=if(Utf8.decode s pos).1<32\/(Utf8.decode s pos).1=127 then false else if(Utf8.decode s pos).1=65533/\Lib.hasPrefix (s.data.toList.drop pos) [239,191,189]=false then false else SV s b (pos+(Utf8.decode s pos).2):=by show(if pos<s.size then _ else _)=_;rw[Dp h]
set_option maxHeartbeats 1000000 in
set_option maxRecDepth 1000000 in
def AuC (s:ByteArray) (w:World) (R:Bool) (hR:SV s s.size 0=R) (hs:s.size<4294967281) :
 Calls Tryz.prog 208 #[.string s] w fun e w'=>e= .returned (.bool R)/\Below w.heap.size w w':=by
 go_enter Tryz.func208,Tryz.ntmps208
 go_wp2
 go_loopw [] (fun w'=> ∃(pos b:Nat),w'=w.iter s pos/\SV s b pos=R/\s.size<=pos+b) (fun w'=>s.size - w'.iterPos w.heap.size)
 case atStart=>exact⟨0,s.size,rfl,hR,by omega⟩
 case round =>
  obtain⟨pos,b,rfl,hc,hb⟩:=hrel;by_cases hp:pos<s.size
  .have hnx: ∀ ty,(Instr.next (.pointer (some ⟨w.heap.size,0,none⟩)) true ty).run Tryz.prog (w.iter s pos)=_:=fun ty=>run_next_any w s pos ty hp;have hwd:=AoL s pos;cases b with
   | zero=>omega
   | succ b =>
    rw[AuB s b pos hp]at hc;have hpx:=fun w=>Tryz.strings_HasPrefix (s.extract pos s.size) ⟨#[239,191,189]⟩ w;generalize h4:Lib.hasPrefix (s.extract pos s.size).data.toList ((⟨#[239,191,189]⟩:ByteArray)).data.toList=B at hpx;generalize Utf8.decode s pos=D at hnx hwd hc;obtain⟨c,k⟩:=D;dsimp only at hnx hwd hc;obtain⟨C,hC⟩: ∃ C:Int,(c:Int)=C:=⟨_,rfl⟩
    rw[hC]at hnx;by_cases h1:c<32
    .have t1:C<32:=by omega
     rw[Dp (Or.inl h1)]at hc;subst hc;clear h1 hC hR
     go_wp2
     go_ret
     exact⟨rfl,aS _ _ _⟩
    .have t1:32<=C:=by omega
     by_cases h2:c=127
     .have t2:(C==127)=true:=by simp;omega
      rw[Dp (Or.inr h2)]at hc;subst hc;clear h1 h2 hC hR
      go_wp2
      all_goals try (exfalso;omega)
      go_ret
      exact⟨rfl,aS _ _ _⟩
     .have t2:(C==127)=false:=by simp;omega
      rw[Ay9]at hc;by_cases h3:c=65533
      .have t3:(C==65533)=true:=by simp;omega
       cases B with
       | false =>
        rw[Dp ⟨h3,by rw[<- Lib.extract_to_end];exact h4⟩]at hc;subst hc;clear h1 h2 h3 h4 hC hR
        go_wp2_with (go_at_call 259;refine(hpx _).mono ?_;rintro e w' ⟨rfl,rfl⟩)
        all_goals try (exfalso;omega)
        go_ret
        exact⟨rfl,aS _ _ _⟩
       | true =>
        rw[Dk (fun h=>by have h5:=h.2;rw[<- Lib.extract_to_end]at h5;exact absurd (h4.symm.trans h5) (by decide))]at hc;clear h1 h2 h3 hC
        go_wp2_with (go_at_call 259;refine(hpx _).mono ?_;rintro e w' ⟨rfl,rfl⟩)
        all_goals try (exfalso;omega)
        go_roundw
        case rel=>exact⟨pos+k,b,rfl,hc,by omega⟩
        case measure =>simp;omega
      .have t3:(C==65533)=false:=by simp;omega
       rw[Dk (fun h=>h3 h.1)]at hc;clear h1 h2 h3 hC
       go_wp2
       all_goals try (exfalso;omega)
       go_roundw
       case rel=>exact⟨pos+k,b,rfl,hc,by omega⟩
       case measure =>simp;omega
  .have hnx: ∀ ty,(Instr.next (.pointer (some ⟨w.heap.size,0,none⟩)) true ty).run Tryz.prog (w.iter s pos)=_:=fun ty=>run_next_end w s pos ty hp
   go_wp2
   go_ret
   rw[Awd s b pos hp]at hc;rw[<- hc];exact⟨rfl,aS _ _ _⟩
end Go.Proofs.YtehkhflpjkokeaaGreatDoor
namespace Go.Proofs.YtehkhflpjkokeaaGreatDoor.Vm
open Go.Proofs Go.RowKit
noncomputable def Afo (N:Nat):Sig:=.of [.cell false .str] [.cell false .bool] (fun a=>tC N a)
def Aje (N:Nat):Spec Tryz.prog 208 (Afo N) :=
 UH rfl rfl (enters (fn:=Tryz.f208) (by kernel_rfl) (by kernel_rfl) (by decide)) fun O w (a:Bs) (o:Bool) hI h=>by
  have h:(bif decide (List.length a<4294967281)then some (Aqx a)else none)=some o:=h;cases hc:decide (List.length a<4294967281)with
  | false=>rw[hc]at h;cases h
  | true =>
  rw[hc]at h;injection h with h;exact(AuC ⟨List.toArray a⟩ w o h (D9 hc)).mono fun e w' hq=>hq
end Go.Proofs.YtehkhflpjkokeaaGreatDoor.Vm
namespace Go.Proofs.YtehkhflpjkokeaaGreatDoor.Vm
open Classical
noncomputable def allH {α :Type} (l:List Bool) (r:Option α):Option α :=
 (fun(_:Nat)=>List.rec (motive:=fun _=>Option α) r (fun c _ ih=>Bool.rec (motive:=fun _=>Option α) none ih c) l) Adr
theorem lN {α :Type}: ∀(l:List Bool) (r:Option α),allH l r=allT l r:=by
 intro l
 induction l with
 | nil=>intro r;rfl
 | cons c cs ih=>intro r;cases c<;>first | rfl | exact ih r
noncomputable def yG {α β :Type} (l:List α):(List α -> β)-> β :=
 (fun(_:Nat)=>List.rec (motive:=fun _=>(List α -> β)-> β) (fun k=>k []) (fun a _ ih k=>ih (fun l'=>k (a::l'))) l) Adr
def yH {α β :Type}: ∀(l:List α) (k:List α -> β),yG l k=k l:=by
 intro l
 induction l with
 | nil=>intro k;rfl
 | cons a r ih=>simp_all[yG]
noncomputable def yI {β :Type} (st:St) (k:St-> β): β :=yG st.tmps fun tm=>yG st.Jp fun ob=>k ⟨tm,ob⟩
def yJ {β :Type} (st:St) (k:St-> β):yI st k=k st:=by unfold yI;rw[yH,yH]
def Ao2 {ρ :Type} (v:A) (k:A->Option ρ):Option ρ :=match v with
 | .bool b=>Ju b fun b=>k (.bool b)
 | .cnd g (.bool b)=>Ju b fun b=>k (.cnd g (.bool b))
 | v=>k v
def Ate {ρ :Type} (v:A) (k:A->Option ρ):Ao2 v k=k v:=by unfold Ao2;split<;>rfl
def bnd (C:Ctx) (o:Oper):Bool:=match o.dst with
 | some d=>has C.binds d
 | none=>false
noncomputable def goV {α :Type} (C:Ctx) (o:Oper) (st:St) (δ :Dl) (k:St->Option α):Option α :=match bnd C o with
 | true=>Ao2 δ.val fun v=>yI (apply st o {δ with val:=v}) k
 | false=>yI (apply st o δ) k
theorem Arz {α :Type} (C:Ctx) (o:Oper) (st:St) (δ :Dl) (k:St->Option α):goV C o st δ k=k (apply st o δ):=by
 unfold goV;cases bnd C o with
 | true=>exact(Ate _ _).trans (yJ _ _)
 | false=>exact yJ _ _
noncomputable def opsE {α :Type} (C:Ctx) (ops l:List Oper):St->(St->Option α)->Option α :=
 (fun(_:Nat)=>List.rec (motive:=fun _=>St->(St->Option α)->Option α) (fun st K=>K st) (fun o _ ih st K=>match aP C o with
   | none=>allH (KF C ops o st).ok (goV C o st (KF C ops o st) fun st'=>ih st' K)
   | some (f,q)=>match Af1 o st q with
    | true=>allH (KF (C.put f q.1) ops o st).ok (ih (apply st o (KF (C.put f q.1) ops o st)) K)
    | false=>allH (KF (C.put f q.2.1) ops o st).ok (ih (apply st o (KF (C.put f q.2.1) ops o st)) K)) l) Adr
def AvE {α :Type} (C:Ctx) (ops:List Oper): ∀(l:List Oper) (st:St) (K:St->Option α),opsE C ops l st K=WC C ops l st K:=by
 intro l
 induction l with
 | nil=>intro st K;rfl
 | cons o r ih =>
  intro st K
  show(match aP C o with
   | none=>allH (KF C ops o st).ok (goV C o st (KF C ops o st) fun st'=>opsE C ops r st' K)
   | some (f,q)=>match Af1 o st q with
    | true=>allH (KF (C.put f q.1) ops o st).ok (opsE C ops r (apply st o (KF (C.put f q.1) ops o st)) K)
    | false=>allH (KF (C.put f q.2.1) ops o st).ok (opsE C ops r (apply st o (KF (C.put f q.2.1) ops o st)) K))=_
  unfold WC;cases aP C o with
  | none=>grind[lN,Arz]
  | some q =>obtain⟨f,q⟩:=q;dsimp only;cases Af1 o st q<;>(dsimp only[cond_true,cond_false];rw[lN,ih])
noncomputable def ApK {α :Type} (C:Ctx) (ops l:List Oper):St->(St->Option α)->Option α :=
 (fun(_:Nat)=>List.rec (motive:=fun _=>St->(St->Option α)->Option α) (fun st K=>K st) (fun o _ ih st K=>allH (KF C ops o st).ok (goV C o st (KF C ops o st) fun st'=>ih st' K)) l) Adr
def AvD {α :Type} (C:Ctx) (ops:List Oper): ∀(l:List Oper) (st:St) (K:St->Option α),ApK C ops l st K=WE C ops l st K:=by
 intro l
 induction l with
 | nil=>intro st K;rfl
 | cons o r ih =>intro st K;show allH _ (goV C o st _ fun st'=>ApK C ops r st' K)=allT _ (WE C ops r _ K);rw[lN,Arz,ih]
noncomputable def Aej (C:Ctx) (ops:List Oper):List Oper->List (List Nat)->St->List Le
 | [],_,_=>[]
 | o::r,acc,st=>match KF C ops o st,(Xr o).flatMap (fun e=>e::acc.getD e [])with
  | δ,an=>⟨o,δ,Lm o st (KC o st),oneOf C o.op (KC o st),an⟩::yI (apply st o δ) fun st'=>Aej C ops r (acc++[an]) st'
def Arv (C:Ctx) (ops:List Oper): ∀(l:List Oper) (acc:List (List Nat)) (st:St),Aej C ops l acc st=Us C ops l acc st:=by
 intro l
 induction l with
 | nil=>intro acc st;rfl
 | cons o r ih =>intro acc st;unfold Aej Us;dsimp only;rw[yJ,ih]
noncomputable def Aov:List Oper->List Nat->List Nat
 | [],_=>[]
 | o::r,acc=>(Xr o).foldr (fun e m=>((2 ^ e) ||| acc.getD e 0) ||| m) 0::yG (acc++[(Xr o).foldr (fun e m=>((2 ^ e) ||| acc.getD e 0) ||| m) 0]) fun acc'=>Aov r acc'
def AeP (ops:List Oper) (i:Nat) (x:Le):List Le->List Nat->Bool
 | [],_=>true
 | y::r,b=>(Uj y.news x.says&&Uj y.news x.keys&&((b.headD 0).testBit i||indep ops x y))&&AeP ops i x r b.tail
def AeO (ops:List Oper):Nat->List Le->List Nat->Bool
 | _,[],_=>true
 | i,x::r,b=>AeP ops i x r b.tail&&AeO ops (i+1) r b.tail
def Abl:List Le->List Nat->Prop
 | [],_=>True
 | y::r,b=>(∀ i,has y.anc i=(b.headD 0).testBit i)/\Abl r b.tail
theorem Asg (ops:List Oper) (i:Nat) (x:Le): ∀(r:List Le) (b:List Nat),Abl r b->AeP ops i x r b=r.all (Zn ops i x):=by
 intro r
 induction r with
 | nil=>intro b _;rfl
 | cons y r ih=>grind[AeP,Abl,Zn]
def Asf (ops:List Oper): ∀(r:List Le) (i:Nat) (b:List Nat),Abl r b->AeO ops i r b=dB ops i r:=by
 intro r
 induction r with
 | nil=>intro i b _;rfl
 | cons x r ih=>grind[AeO,dB,Asg,Abl]
def Ad5 (acc:List (List Nat)) (accB:List Nat) (h: ∀ e i,has (acc.getD e []) i=(accB.getD e 0).testBit i) (i:Nat): ∀ es:List Nat,has (es.flatMap fun e=>e::acc.getD e []) i=(es.foldr (fun e m=>((2 ^ e) ||| accB.getD e 0) ||| m) 0).testBit i:=by
 intro es
 induction es with
 | nil=>grind[has]
 | cons e r ih =>
  rw[H6,List.foldr_cons,Nat.testBit_or,Nat.testBit_or,Nat.testBit_two_pow,<- ih,<- h e i]
  have hb:Nat.beq i e=decide (e=i):=by
   by_cases hh:e=i
   .simp_all[has]
   .rw[Dn hh];apply Gm.2;intro h;exact hh (Dy h).symm
  all_goals grind[has]
def Aqd (C:Ctx) (ops:List Oper): ∀(l:List Oper) (acc:List (List Nat)) (accB:List Nat) (st:St),acc.length=accB.length->(∀ e i,has (acc.getD e []) i=(accB.getD e 0).testBit i)->Abl (Us C ops l acc st) (Aov l accB):=by
 intro l
 induction l with
 | nil=>intro acc accB st _ _;trivial
 | cons o r ih =>
  intro acc accB st hl h;unfold Us Aov;dsimp only;rw[yH];refine⟨fun i=>Ad5 acc accB h i _,ih _ _ _ (by simp [hl]) fun e i=> ?_⟩;rcases Nat.lt_trichotomy e acc.length with he | he | he
  .rw[Dj,Dj,Eu he,Eu (by omega),<- Dj,<- Dj];exact h e i
  .rw[Dj,Dj,EC (by omega),EC (by omega),show e - acc.length=0 by omega,show e - accB.length=0 by omega];exact Ad5 acc accB h i _
  .rw[Dj,Dj,Ei (by simp;omega),Ei (by simp;omega)];show false=Nat.testBit 0 i;rw[Nat.zero_testBit]
noncomputable def Agb (C:Ctx) (ops:List Oper) (st:St):Bool :=
 match Aej C ops ops [] st with
 | fs=>ordered ops&&AeO ops 0 fs (Aov ops [])&&(fs.flatMap Le.news).all st.fresh&&sorted st.Jp
def AoN (C:Ctx) (ops:List Oper) (st:St):Agb C ops st=TT C ops st:=by unfold Agb TT;rw[Arv];dsimp only;rw[Asf _ _ _ _ (Aqd C ops ops [] [] st rfl fun e i=>by show false=Nat.testBit 0 i;rw[Nat.zero_testBit])]
def nM {ρ :Type} (C:Ctx) (key:Nat) (st:St) (K:St->Option ρ):Option ρ :=
 match norm C key st with
 | (ok,st')=>match ok with
  | true=>K st'
  | false=>none
theorem AeD {ρ :Type} (C:Ctx) (key:Nat) (st:St) (K:St->Option ρ):nM C key st K=TW C key st K:=by unfold nM TW;generalize norm C key st=q;obtain⟨ok,st'⟩:=q;cases ok<;>rfl
def X3 {ρ :Type} (C:Ctx) (kind:Nat) (c:Code) (st:St) (K:St->Option ρ):Option ρ :=
 match LK c with
 | some n=>nM C (4*n+kind) st K
 | none=>(fun(_:Nat)=>K st) Adr
def fD {ρ :Type} (C:Ctx) (kind:Nat) (c:Code) (st:St) (K:St->Option ρ):X3 C kind c st K=meet C kind c st K:=by grind[X3,meet,LK,AeD]
inductive HK where
 | b | i (k:IntKind) | s | l (t:Ty) | ln (t:Ty) | n | m (kt vt:Ty)
def HK.T:HK->Type
 | .b=>Bool
 | .i _=>Int
 | .s=>List UInt8
 | .l t=>List t.Val
 | .ln t=>List t.Val
 | .n=>Nat
 | .m kt vt=>List (kt.Val×vt.Val)
def HK.enc:(h:HK)->h.T->A
 | .b,v=>.bool v
 | .i k,v=>.int k v
 | .s,v=>.str v
 | .l t,v=>.sl ⟨t,v⟩
 | .ln t,v=>.sln ⟨t,v⟩
 | .n,v=>.fn v
 | .m kt vt,v=>.ump ⟨kt,vt,v⟩
def AuW:A->Nat | .fn n=>n | _=>0
def isFn:A->Bool | .fn _=>true | _=>false
def HK.is:HK->A->Bool
 | .b,a=>a.isB
 | .i k,a=>a.isI k
 | .s,a=>a.isS
 | .l t,a=>a.AcG t
 | .ln t,a=>a.qU t
 | .n,a=>isFn a
 | .m kt vt,a=>a.jC kt vt
def HK.dec:(h:HK)->A->h.T
 | .b,a=>a.toB
 | .i _,a=>a.toI
 | .s,a=>a.toS
 | .l t,a=>(a.toL.cast t).getD []
 | .ln t,a=>(a.toL.cast t).getD []
 | .n,a=>AuW a
 | .m kt vt,a=>(a.toM.cast kt vt).getD []
def HK.Agf {h:HK} {a:A} (ha:h.is a=true):h.enc (h.dec a)=a:=by
 cases h with
 | b=>cases a<;>first | rfl | cases ha
 | i k =>
  cases a<;>first
   | (rename_i k' n;have:=A.Qk (show A.kEq k k'=true from ha);subst this;rfl)
   | cases ha
 | s=>cases a<;>first | rfl | cases ha
 | l t =>
  cases a<;>first
   | (rename_i l
      have e:l.t=t:=D9 ha;obtain⟨t',xs⟩:=l;dsimp only at e;subst e;show A.sl ⟨t',((Sl.cast ⟨t',xs⟩ t').getD [])⟩=_;rw[Sl.YZ];rfl)
   | cases ha
 | ln t =>
  cases a<;>first
   | (rename_i l
      have e:l.t=t:=D9 ha;obtain⟨t',xs⟩:=l;dsimp only at e;subst e;show A.sln ⟨t',((Sl.cast ⟨t',xs⟩ t').getD [])⟩=_;rw[Sl.YZ];rfl)
   | cases ha
 | n=>cases a<;>first | rfl | cases ha
 | m kt vt =>obtain⟨l,rfl,h1,h2⟩:=eU (show A.jC kt vt a=true from ha);obtain⟨k,v,xs⟩:=l;dsimp only at h1 h2;subst h1;subst h2;show A.ump ⟨k,v,((Mp.cast ⟨k,v,xs⟩ k v).getD [])⟩=_;rw[Mp.YZ];rfl
def pr2 (α β :Type):List HK->Type
 | []=> α
 | _::_=> α × β
def HV:List HK->Type
 | []=>Unit
 | h::r=>pr2 h.T (HV r) r
def hdH (h:HK):(r:List HK)->pr2 h.T (HV r) r->h.T
 | [],v=>v
 | _::_,v=>v.1
def tlH (h:HK):(r:List HK)->pr2 h.T (HV r) r->HV r
 | [],_=>()
 | _::_,v=>v.2
def mkH (h:HK):(r:List HK)->h.T->HV r->pr2 h.T (HV r) r
 | [],a,_=>a
 | _::_,a,b=>(a,b)
def Awz (h:HK) (r:List HK) (a:h.T) (b:HV r):hdH h r (mkH h r a b)=a:=by cases r<;>rfl
def AwZ (h:HK) (r:List HK) (a:h.T) (b:HV r):tlH h r (mkH h r a b)=b:=by cases r<;>rfl
def HV.enc:(hs:List HK)->HV hs->List A
 | [],_=>[]
 | h::r,v=>h.enc (hdH h r v)::HV.enc r (tlH h r v)
def HV.dec:(hs:List HK)->List A->HV hs
 | [],_=>()
 | h::r,xs=>mkH h r (h.dec (xs.headD .undef)) (HV.dec r xs.tail)
def HV.Is:List HK->List A->Prop
 | [],[]=>True
 | h::r,x::xs=>h.is x=true/\HV.Is r xs
 | _,_=>False
def HV.Agf: ∀(hs:List HK) (xs:List A),HV.Is hs xs->HV.enc hs (HV.dec hs xs)=xs:=by
 intro hs
 induction hs with
 | nil=>intro xs h;cases xs with | nil=>rfl | cons _ _=>cases h
 | cons h r ih =>
  intro xs hx;cases xs with
  | nil=>cases hx
  | cons x xs =>show h.enc (hdH h r (mkH h r (h.dec x) (HV.dec r xs)))::HV.enc r (tlH h r (mkH h r (h.dec x) (HV.dec r xs)))=_;rw[Awz,AwZ,HK.Agf hx.1,ih xs hx.2]
def HV.Is.append: ∀ {hs hs':List HK} {xs ys:List A},HV.Is hs xs->HV.Is hs' ys->HV.Is (hs++hs') (xs++ys):=by
 intro hs
 induction hs with
 | nil=>intro hs' xs ys h h';cases xs with | nil=>exact h' | cons _ _=>cases h
 | cons h r ih=>intro hs' xs ys hx h';cases xs with | nil=>cases hx | cons x xs=>exact⟨hx.1,ih hx.2 h'⟩
def HV.Is.length: ∀ {hs:List HK} {xs:List A},HV.Is hs xs->xs.length=hs.length:=by
 intro hs
 induction hs with
 | nil=>intro xs h;cases xs with | nil=>rfl | cons _ _=>cases h
 | cons h r ih=>intro xs hx;cases xs with | nil=>cases hx | cons x xs=>simp [ih hx.2]
inductive Pc where
 | h (k:HK) | oe (o off:Nat) | c (a:A)
inductive Pt where
 | i | c (p:Pc) | agg (l:List Pc) | elt (l:List Pc)
inductive Po where
 | box (l:List Pc) | arr (e:Nat) (frz:Bool) (t:Ty) | JS (e:Nat) (frz:Bool) (t:Ty) | mp (kt vt:Ty)
structure Spe where
 ts:List (Nat×Pt)
 os:List (Nat×Po)
def Ue:A->Bool | .undef=>true | _=>false
def VP (a:A):Bool:=a.ids.isEmpty&& !(nI a)
def same:A->A->Bool
 | .undef,.undef=>true
 | .La,.La=>true
 | .Lt,.Lt=>true
 | .bool a,.bool b=>a==b
 | .int k a,.int k' b=>A.kEq k k'&&a==b
 | .str a,.str b=>a==b
 | .sl l,.sl l'=>decide (l.t=l'.t)&&(l.xs.isEmpty&&l'.xs.isEmpty)
 | .ptr o p,.ptr o' p'=>Nat.beq o o'&&Nat.beq p p'
 | .own o,.own o'=>Nat.beq o o'
 | .Kq o i p,.Kq o' i' p'=>Nat.beq o o'&&(Nat.beq i i'&&Nat.beq p p')
 | .fn f,.fn f'=>Nat.beq f f'
 | .clo f o,.clo f' o'=>Nat.beq f f'&&Nat.beq o o'
 | .bsl o n,.bsl o' n'=>Nat.beq o o'&&Nat.beq n n'
 | .osl o n,.osl o' n'=>Nat.beq o o'&&Nat.beq n n'
 | _,_=>false
def same_eq {a b:A} (h:same a b=true):a=b:=by
 unfold same at h;split at h
 .rfl
 .rfl
 .rfl
 .rw[Gh h]
 .grind[A.Qk]
 .rw[Gh h]
 .rename_i l l';simp only[Du,Dz,Gz]at h;obtain⟨t,xs⟩:=l;obtain⟨t',xs'⟩:=l';all_goals grind[same]
 all_goals simp_all[same]
namespace Pc
def hs:Pc->List HK
 | .h k=>[k]
 | .oe _ _=>[.n]
 | .c _=>[]
def nh:Pc->Nat
 | .c _=>0
 | _=>1
def emb:Pc->List A->A
 | .h _,xs=>xs.headD .undef
 | .oe o off,xs=>.Kq o (AuW (xs.headD .undef)) off
 | .c a,_=>a
def un:Pc->A->List A
 | .h _,a=>[a]
 | .oe _ _,.Kq _ i _=>[.fn i]
 | .oe _ _,_=>[.fn 0]
 | .c _,_=>[]
def fits:Pc->A->List Bool
 | .h k,a=>[k.is a]
 | .oe o off,.Kq o' _ off'=>[Nat.beq o o',Nat.beq off off']
 | .oe _ _,_=>[false]
 | .c x,a=>[same x a]
def UF {p:Pc} {a:A} (h:J5 (p.fits a)) (r:List A):p.emb (p.un a++r)=a/\(p.un a++r).drop p.nh=r/\HV.Is p.hs (p.un a):=by
 cases p with
 | h k=>exact⟨rfl,rfl,h.cons.1,trivial⟩
 | oe o off =>
  cases a<;>first
   | (have h1:=h.cons.1;have h2:=h.cons.2.cons.1
      rw[Dy h1,Dy h2];exact⟨rfl,rfl,rfl,trivial⟩)
   | exact absurd h.cons.1 (by decide)
 | c x=>exact⟨same_eq h.cons.1,rfl,trivial⟩
end Pc
def hsC:List Pc->List HK
 | []=>[]
 | p::r=>p.hs++hsC r
def nhC:List Pc->Nat
 | []=>0
 | p::r=>p.nh+nhC r
def Agc:List Pc->List A->List A
 | [],_=>[]
 | p::r,xs=>p.emb xs::Agc r (xs.drop p.nh)
def unC:List Pc->List A->List A
 | p::r,a::aa=>p.un a++unC r aa
 | _,_=>[]
def Aef:List Pc->List A->List Bool
 | [],[]=>[]
 | p::r,a::aa=>p.fits a++Aef r aa
 | _,_=>[false]
def Agd: ∀(l:List Pc) (aa:List A),J5 (Aef l aa)-> ∀ r,Agc l (unC l aa++r)=aa/\(unC l aa++r).drop (nhC l)=r/\HV.Is (hsC l) (unC l aa):=by
 intro l
 induction l with
 | nil=>intro aa h r;cases aa with | nil=>exact⟨rfl,rfl,trivial⟩ | cons _ _=>exact absurd h.cons.1 (by decide)
 | cons p l ih =>
  intro aa h r;cases aa with
  | nil=>exact absurd h.cons.1 (by decide)
  | cons a aa =>
   obtain⟨h1,h2⟩:=h.append;obtain⟨e1,e2,e3⟩:=p.UF h1 (unC l aa++r);obtain⟨f1,f2,f3⟩:=ih aa h2 r;refine⟨?_,?_,e3.append f3⟩
   .grind[unC,Agc,drop]
   .show((p.un a++unC l aa)++r).drop (p.nh+nhC l)=_;rw[Ej,<- FN,e2,f2]
namespace Pt
def hs:Pt->List HK
 | .i=>[]
 | .c p=>p.hs
 | .agg l=>hsC l
 | .elt l=>hsC l
def nh:Pt->Nat
 | .i=>0
 | .c p=>p.nh
 | .agg l=>nhC l
 | .elt l=>nhC l
def emb:Pt->A->List A->A
 | .i,b,_=>b
 | .c p,_,xs=>p.emb xs
 | .agg l,_,xs=>.agg (Agc l xs)
 | .elt l,_,xs=>.elt (Agc l xs)
def un:Pt->A->List A
 | .i,_=>[]
 | .c p,a=>p.un a
 | .agg l,.agg cs=>unC l cs
 | .elt l,.elt cs=>unC l cs
 | _,_=>[]
def fits:Pt->A->A->List Bool
 | .i,b,a=>[VP b,!(Ue a)]
 | .c p,_,a=>p.fits a
 | .agg l,_,.agg cs=>Aef l cs
 | .elt l,_,.elt cs=>Aef l cs
 | _,_,_=>[false]
def isI:Pt->Bool | .i=>true | _=>false
def UF {p:Pt} {b a:A} (h:J5 (p.fits b a)) (hi:p= .i->VP b=true->Ue a=false->a=b) (r:List A):p.emb b (p.un a++r)=a/\(p.un a++r).drop p.nh=r/\HV.Is p.hs (p.un a):=by
 cases p with
 | i =>refine⟨(hi rfl h.cons.1 ?_).symm,rfl,trivial⟩;have:=h.cons.2.cons.1;simpa using this
 | c p=>exact p.UF h r
 | agg l =>
  cases a<;>first
   | (obtain⟨h1,h2,h3⟩:=Agd l _ h r;exact⟨congrArg A.agg h1,h2,h3⟩)
   | exact absurd h.cons.1 (by decide)
 | elt l =>
  cases a<;>first
   | (obtain⟨h1,h2,h3⟩:=Agd l _ h r;exact⟨congrArg A.elt h1,h2,h3⟩)
   | exact absurd h.cons.1 (by decide)
end Pt
def hsT:List (Nat×Pt)->List HK
 | []=>[]
 | (_,p)::r=>p.hs++hsT r
def nhT:List (Nat×Pt)->Nat
 | []=>0
 | (_,p)::r=>p.nh+nhT r
def qF:List A->Nat->List (Nat×Pt)->List A->List A
 | [],_,_,_=>[]
 | _::bs,i,[],xs=>.undef::qF bs (i+1) [] xs
 | b::bs,i,(j,p)::ts,xs=>bif Nat.beq i j then p.emb b xs::qF bs (i+1) ts (xs.drop p.nh)else .undef::qF bs (i+1) ((j,p)::ts) xs
def unT:List A->Nat->List (Nat×Pt)->List A
 | [],_,_=>[]
 | _::_,_,[]=>[]
 | a::aa,i,(j,p)::ts=>bif Nat.beq i j then p.un a++unT aa (i+1) ts else unT aa (i+1) ((j,p)::ts)
def fitsT:List A->List A->Nat->List (Nat×Pt)->List Bool
 | [],[],_,[]=>[]
 | _::bs,a::aa,i,[]=>Ue a::fitsT bs aa (i+1) []
 | b::bs,a::aa,i,(j,p)::ts=>bif Nat.beq i j then p.fits b a++fitsT bs aa (i+1) ts else Ue a::fitsT bs aa (i+1) ((j,p)::ts)
 | _,_,_,_=>[false]
def Ae1 {a:A} (h:Ue a=true):a= .undef:=by cases a<;>first | rfl | cases h
def Avw: ∀(bs aa:List A) (i:Nat) (ts:List (Nat×Pt)),J5 (fitsT bs aa i ts)->(∀ t,((t,Pt.i):Nat×Pt)∈ts->i<=t->VP (bs.getD (t - i) .undef)=true->Ue (aa.getD (t - i) .undef)=false->aa.getD (t - i) .undef=bs.getD (t - i) .undef) ->
 ∀ r,qF bs i ts (unT aa i ts++r)=aa/\(unT aa i ts++r).drop (nhT ts)=r/\HV.Is (hsT ts) (unT aa i ts):=by
 intro bs
 induction bs with
 | nil =>
  intro aa i ts h _ r;cases aa with
  | nil=>cases ts with | nil=>exact⟨rfl,rfl,trivial⟩ | cons _ _=>exact absurd h.cons.1 (by decide)
  | cons _ _=>exact absurd h.cons.1 (by decide)
 | cons b bs ih =>
  intro aa i ts h hi r;have hstep: ∀ ts':List (Nat×Pt),(∀ t,(t,Pt.i)∈ts'->((t,Pt.i):Nat×Pt)∈ts)-> ∀(a:A) (as':List A),aa=a::as'-> ∀ t,(t,Pt.i)∈ts'->i+1<=t->VP (bs.getD (t - (i+1)) .undef)=true->Ue (as'.getD (t - (i+1)) .undef)=false->as'.getD (t - (i+1)) .undef=bs.getD (t - (i+1)) .undef:=by all_goals grind[Pt,J5,fitsT,VP,Ue,qF]
  cases aa with
  | nil=>cases ts<;>exact absurd h.cons.1 (by decide)
  | cons a aa =>
   cases ts with
   | nil =>
    have h':J5 (Ue a::fitsT bs aa (i+1) []):=h;obtain⟨f1,f2,f3⟩:=ih aa (i+1) [] h'.cons.2 (fun t ht=>by cases ht) r;have hu:=Ae1 h'.cons.1;refine⟨?_,rfl,trivial⟩;show A.undef::qF bs (i+1) [] ([]++r)=a::aa;have e0:unT aa (i+1) []=[]:=by cases aa<;>rfl
    rw[e0]at f1;rw[hu,f1]
   | cons q ts =>
    obtain⟨j,p⟩:=q;have h':J5 (bif Nat.beq i j then p.fits b a++fitsT bs aa (i+1) ts else Ue a::fitsT bs aa (i+1) ((j,p)::ts)):=h;cases hb:Nat.beq i j with
    | true =>
     rw[hb]at h';obtain⟨h1,h2⟩:=J5.append h';have hij:=Dy hb;subst hij;obtain⟨e1,e2,e3⟩:=Pt.UF h1 (fun hp hpl hu=>by have:=hi i (by rw[<- hp];exact Dv) (DN _);rw[Hg]at this;exact this hpl hu) (unT aa (i+1) ts++r);obtain⟨f1,f2,f3⟩:=ih aa (i+1) ts h2 (hstep ts (fun t ht=>Dw _ ht) a aa rfl) r;have u0:unT (a::aa) i ((i,p)::ts)=p.un a++unT aa (i+1) ts:=by show(bif Nat.beq i i then _ else _)=_;rw[hb];rfl
     refine⟨?_,?_,?_⟩
     .rw[u0];show(bif Nat.beq i i then _ else _)=_;rw[hb];show p.emb b ((p.un a++unT aa (i+1) ts)++r)::qF bs (i+1) ts (((p.un a++unT aa (i+1) ts)++r).drop p.nh)=_;rw[Ej,e1,e2,f1]
     .rw[u0];show((p.un a++unT aa (i+1) ts)++r).drop (p.nh+nhT ts)=_;rw[Ej,<- FN,e2,f2]
     .rw[u0];exact e3.append f3
    | false =>
     rw[hb]at h';obtain⟨f1,f2,f3⟩:=ih aa (i+1) ((j,p)::ts) h'.cons.2 (hstep _ (fun t ht=>ht) a aa rfl) r;have hu:=Ae1 h'.cons.1;have u0:unT (a::aa) i ((j,p)::ts)=unT aa (i+1) ((j,p)::ts):=by show(bif Nat.beq i j then _ else _)=_;rw[hb];rfl
     refine⟨?_,?_,?_⟩
     .rw[u0];show(bif Nat.beq i j then _ else _)=_;rw[hb];show A.undef::qF bs (i+1) ((j,p)::ts) (unT aa (i+1) ((j,p)::ts)++r)=_;rw[hu,f1]
     .rw[u0];exact f2
     .rw[u0];exact f3
namespace Po
def hs:Po->List HK
 | .box l=>hsC l
 | .arr _ _ t=>[.l t]
 | .JS _ _ _=>[]
 | .mp kt vt=>[.m kt vt]
def nh:Po->Nat
 | .box l=>nhC l
 | .arr _ _ _=>1
 | .JS _ _ _=>0
 | .mp _ _=>1
def emb:Po->List A->Obj
 | .box l,xs=>.box (Agc l xs)
 | .arr e f _,xs=>.arr e f (xs.headD .undef).toL
 | .JS e f t,_=>.arr e f ⟨t,[]⟩
 | .mp _ _,xs=>.mp (xs.headD .undef).toM
def un:Po->Obj->List A
 | .box l,.box cs=>unC l cs
 | .arr _ _ _,.arr _ _ l=>[.sl l]
 | .mp _ _,.mp l=>[.ump l]
 | _,_=>[]
def fits:Po->Obj->List Bool
 | .box l,.box cs=>Aef l cs
 | .arr e f t,.arr e' f' l=>[Nat.beq e e',f==f',decide (l.t=t)]
 | .JS e f t,.arr e' f' l=>[Nat.beq e e',f==f',decide (l.t=t),l.xs.isEmpty]
 | .mp kt vt,.mp l=>[A.jC kt vt (.ump l)]
 | _,_=>[false]
def UF {p:Po} {x:Obj} (h:J5 (p.fits x)) (r:List A):p.emb (p.un x++r)=x/\(p.un x++r).drop p.nh=r/\HV.Is p.hs (p.un x):=by
 cases p with
 | box l =>
  cases x with
  | box cs=>obtain⟨h1,h2,h3⟩:=Agd l cs h r;exact⟨congrArg Obj.box h1,h2,h3⟩
  | arr _ _ _=>exact absurd h.cons.1 (by decide)
  | mp _=>exact absurd h.cons.1 (by decide)
 | mp kt vt =>
  cases x with
  | box cs=>exact absurd h.cons.1 (by decide)
  | arr _ _ _=>exact absurd h.cons.1 (by decide)
  | mp l=>exact⟨rfl,rfl,h.cons.1,trivial⟩
 | arr e f t =>
  cases x with
  | box cs=>exact absurd h.cons.1 (by decide)
  | mp _=>exact absurd h.cons.1 (by decide)
  | arr e' f' l =>have h1:=Dy h.cons.1;have h2:=Gh h.cons.2.cons.1;have h3:=h.cons.2.cons.2.cons.1;subst h1;subst h2;exact⟨rfl,rfl,h3,trivial⟩
 | JS e f t =>
  cases x with
  | box cs=>exact absurd h.cons.1 (by decide)
  | mp _=>exact absurd h.cons.1 (by decide)
  | arr e' f' l =>have h1:=Dy h.cons.1;have h2:=Gh h.cons.2.cons.1;have h3:=D9 h.cons.2.cons.2.cons.1;have h4:=Gz.1 h.cons.2.cons.2.cons.2.cons.1;obtain⟨t',xs⟩:=l;dsimp only at h3 h4;subst h1;subst h2;subst h3;subst h4;exact⟨rfl,rfl,trivial⟩
end Po
def hsO:List (Nat×Po)->List HK
 | []=>[]
 | (_,p)::r=>p.hs++hsO r
def AoP:List (Nat×Po)->List A->List (Nat×Obj)
 | [],_=>[]
 | (n,p)::r,xs=>(n,p.emb xs)::AoP r (xs.drop p.nh)
def unO:List (Nat×Po)->List (Nat×Obj)->List A
 | (_,p)::r,(_,x)::l=>p.un x++unO r l
 | _,_=>[]
def Ajt:List (Nat×Po)->List (Nat×Obj)->List Bool
 | [],[]=>[]
 | (n,p)::r,(k,x)::l=>Nat.beq n k::p.fits x++Ajt r l
 | _,_=>[false]
def Avv: ∀(os:List (Nat×Po)) (l:List (Nat×Obj)),J5 (Ajt os l)->AoP os (unO os l)=l/\HV.Is (hsO os) (unO os l):=by
 intro os
 induction os with
 | nil=>intro l h;cases l with | nil=>exact⟨rfl,trivial⟩ | cons _ _=>exact absurd h.cons.1 (by decide)
 | cons q os ih =>
  intro l h;cases l with
  | nil=>exact absurd h.cons.1 (by decide)
  | cons y l =>obtain⟨n,p⟩:=q;obtain⟨k,x⟩:=y;have h':J5 ((Nat.beq n k::p.fits x)++Ajt os l):=h;obtain⟨h1,h2⟩:=h'.append;have hn:=Dy h1.cons.1;subst hn;obtain⟨e1,e2,e3⟩:=p.UF h1.cons.2 (unO os l);obtain⟨f1,f3⟩:=ih l h2;refine⟨?_,e3.append f3⟩;all_goals grind[unO,AoP,drop]
namespace Spe
def hs (sh:Spe):List HK:=hsT sh.ts++hsO sh.os
def emb (sh:Spe) (b:St) (v:HV sh.hs):St:=⟨qF b.tmps 0 sh.ts (HV.enc sh.hs v),AoP sh.os ((HV.enc sh.hs v).drop (nhT sh.ts))⟩
def un (sh:Spe) (st:St):HV sh.hs:=HV.dec sh.hs (unT st.tmps 0 sh.ts++unO sh.os st.Jp)
def fits (sh:Spe) (b st:St):List Bool:=fitsT b.tmps st.tmps 0 sh.ts++Ajt sh.os st.Jp
noncomputable def enter {ρ :Type} (sh:Spe) (b st:St) (j:HV sh.hs->Option ρ):Option ρ :=allH (sh.fits b st) (j (sh.un st))
def okI (sh:Spe) (W:List Nat):Bool:=sh.ts.all fun q=> !(q.2.isI)|| !(has W q.1)
end Spe
def xb:Pc:=.h .b
def x64:Pc:=.h (.i .i64)
def x8:Pc:=.h (.i .u8)
def xi (k:IntKind):Pc:=.h (.i k)
def xs:Pc:=.h .s
def xl (t:Ty):Pc:=.h (.l t)
def xo (o:Nat):Pc:=.c (.own o)
def x0:Pc:=.c .La
def R (W:List Nat) (st st':St):Prop:= ∀ t,t∉W->VP (st.tmps.getD t .undef)=true->st'.tmps.getD t .undef=st.tmps.getD t .undef\/st'.tmps.getD t .undef= .undef
def R.refl (W:List Nat) (st:St):R W st st:=fun _ _ _=>.inl rfl
def R.trans {W:List Nat} {a b c:St} (h1:R W a b) (h2:R W b c):R W a c:=by
 intro t ht hp;rcases h1 t ht hp with e | e
 .grind[R]
 .rcases h2 t ht (by rw[e];rfl)with e' | e';all_goals grind[R]
def R.mono {W W':List Nat} {a b:St} (h:R W a b) (hs: ∀ t∈W,t∈W'):R W' a b:=fun t ht hp=>h t (fun h'=>ht (hs t h')) hp
def R.of_eq {W:List Nat} {a b:St} (h:a.tmps=b.tmps):R W a b:=fun _ _ _=>.inl (by rw[h])
def R.none {W:List Nat} {a b:St} (h:R [] a b):R W a b:=h.mono (fun _ h=>by cases h)
def Spe.UF {sh:Spe} {W:List Nat} {b st:St} (h:J5 (sh.fits b st)) (hi:sh.okI W=true) (hr:R W b st):sh.emb b (sh.un st)=st:=by
 obtain⟨h1,h2⟩:=h.append;obtain⟨f1,f3⟩:=Avv _ _ h2
 obtain⟨e1,e2,e3⟩:=Avw _ _ 0 _ h1 (fun t ht _ hp hu=>by
  rw[Nat.sub_zero]at hp hu ⊢;have hw:t∉W:=by have:=DD.1 hi _ ht;intro hm;rw[show has W t=true by simp only[has,Gy];exact⟨t,hm,by simp⟩]at this;cases this
  rcases hr t hw hp with e | e
  .exact e
  .rw[e]at hu;cases hu) (unO sh.os st.Jp)
 unfold Spe.emb Spe.un;rw[HV.Agf _ _ (show HV.Is sh.hs _ from e3.append f3),e1,e2,f1]
theorem AcA (l:List A) (d t:Nat) (v:A) (h:t≠d):(l.set d v).getD t .undef=l.getD t .undef:=by grind
def Ax2: ∀(l:List (Option Nat×Nat×Ty)) (st:St),R [] st (pzs l st):=by
 intro l
 induction l with
 | nil=>intro st;exact R.refl _ _
 | cons q r ih =>
  intro st;obtain⟨b,t,ty⟩:=q;have hset: ∀(v:A) (Jp:List (Nat×Obj)),VP (st.tmps.getD t .undef)=false->R [] st {tmps:=st.tmps.set t v,Jp:=Jp}:=by intro v Jp hp k _ hk;all_goals grind[AcA]
  cases b with
  | none =>
   unfold pzs;split
   .rename_i e;exact(hset _ _ (by rw[e];rfl)).trans (ih _)
   .rename_i o e;split
    .exact(hset _ _ (by rw[e];rfl)).trans (ih _)
    .exact ih _
   .exact ih _
  | some b =>
   unfold pzs;split
   .split
    .split
     .refine R.trans ?_ (ih _);exact R.of_eq rfl
     .exact ih _
    .exact ih _
   .exact ih _
def getD_drop (keep:List Nat): ∀(l:List A) (i t:Nat),(drop keep l i).getD t .undef=l.getD t .undef\/(drop keep l i).getD t .undef= .undef:=by
 intro l
 induction l with
 | nil=>intro i t;exact .inl rfl
 | cons a l ih =>
  intro i t;cases t with
  | zero=>grind[has,drop]
  | succ t=>exact ih (i+1) t
def ApW {f t:Nat} {a:A} (h:VP a=true):NZ f t a=a:=by
 unfold VP at h;rw[Du,Gz]at h;have h1:=h.1;cases a with
 | ptr o off=>cases h1
 | own o=>cases h1
 | clo _ _=>cases h1
 | bsl _ _=>cases h1
 | osl _ _=>cases h1
 | Kq o i off=>cases h1
 | agg cs =>
  have h2:cs.flatMap A.MP=[]:=h1;rw[Iw]at h2;show A.agg (cs.map _)=A.agg cs;congr 1
  conv=>rhs;rw[<- Gw cs]
  refine ED fun c hc=> ?_;have:=h2 c hc;cases c<;>first | rfl | cases this
 | _=>rfl
def AwP: ∀(l:List (Nat×Nat)) (st:St),R [] st (Aa7 st l).2:=by
 intro l
 induction l with
 | nil=>intro st;exact R.refl _ _
 | cons q r ih =>
  intro st;obtain⟨f,t⟩:=q;unfold Aa7;cases hx:Jy st.Jp f with
  | none=>exact ih st
  | some x =>
   have h1:R [] st {tmps:=st.tmps.map (NZ f t),Jp:=(Lj (Sj st.Jp f) t x).map (fun p=>(p.1,Aa6 f t p.2))}:=by
    intro k _ hk;left;show(st.tmps.map (NZ f t)).getD k .undef=_;rw[Dj,EF];rw[Dj]at hk ⊢;cases hs:st.tmps[k]? with
    | none=>rfl
    | some a =>rw[hs]at hk;exact ApW hk
   exact h1.trans (ih _)
theorem AmE (id:Nat): ∀(ts:List Nat) (l:List A) (k:Nat),k∉ts->(Aa9 id ts l).getD k .undef=l.getD k .undef:=by
 intro ts
 induction ts with
 | nil=>intro l k _;rfl
 | cons t r ih=>grind[Aa9,AcA]
def AwE: ∀(l:List (List Nat×Nat×Ty×Nat)) (st:St),(owns l st).1=true->R [] st (owns l st).2:=by
 intro l
 induction l with
 | nil=>intro st _;exact R.refl _ _
 | cons q r ih =>
  intro st h;obtain⟨ts,e,ty,id⟩:=q;unfold owns at h ⊢;cases ha:ts.any (fun t=>nI (st.tmps.getD t .undef))with
  | false=>rw[ha]at h;exact ih st h
  | true =>rw[ha]at h;dsimp only[cond_true]at h ⊢;simp only[Du]at h;refine R.trans ?_ (ih _ h.2);intro k _ hk;all_goals grind[AmE,VP]
theorem AwB {C:Ctx} {key:Nat} {st:St} (h:(norm C key st).1=true):R [] st (norm C key st).2:=by
 unfold norm at h ⊢;split at h
 .exact R.refl _ _
 .rename_i n hn;dsimp only at h ⊢;simp only[Du]at h;have h1:R [] st (pzs n.pz st):=Ax2 _ _;have h2:R [] (pzs n.pz st) {tmps:=drop n.keep (pzs n.pz st).tmps 0,Jp:=(pzs n.pz st).Jp.filter (fun p=>has (reached (drop n.keep (pzs n.pz st).tmps 0) (pzs n.pz st).Jp) p.1)}:=fun t _ _=>getD_drop _ _ _ _;exact((h1.trans h2).trans (AwP _ _)).trans ((AwE _ _ h.2).trans (R.of_eq rfl))
def qG {ρ :Type} {sh:Spe} {b st:St} {j:HV sh.hs->Option ρ} {v: ρ} (h:sh.enter b st j=some v):J5 (sh.fits b st)/\j (sh.un st)=some v:=by unfold Spe.enter at h;rw[lN]at h;exact U0 h
theorem Alb {ρ :Type} {C:Ctx} {key:Nat} {st:St} {K:St->Option ρ} {v: ρ} (h:TW C key st K=some v): ∃ st',R [] st st'/\K st'=some v/\ ∀ K':St->Option ρ,TW C key st K'=K' st':=by
 unfold TW at h;cases hn:(norm C key st).1 with
 | false =>
  have e:norm C key st=(false,(norm C key st).2):=by rw[<- hn]
  rw[e]at h;cases h
 | true =>
  have e:norm C key st=(true,(norm C key st).2):=by rw[<- hn]
  all_goals grind[AwB,TW]
def zQ {ρ :Type} {C:Ctx} {kind:Nat} {c:Code} {st:St} {K:St->Option ρ} {v: ρ} (h:meet C kind c st K=some v): ∃ st',R [] st st'/\K st'=some v/\ ∀ K':St->Option ρ,meet C kind c st K'=K' st':=by
 unfold meet at h;cases hf:LK c with
 | none=>rw[hf]at h;exact⟨st,R.refl _ _,h,fun K'=>by unfold meet;rw[hf]⟩
 | some n=>grind[Alb,meet]
structure Lk where
 j:List (Nat×Spe)
 l:List (Nat×Spe×List (Nat×Spe))
def Ap1 {α :Type}:List (Nat× α)->Nat->Option α
 | [],_=>none
 | (k,x)::r,n=>bif Nat.beq k n then some x else Ap1 r n
def Ae3 (L:Lk) (b:Code):Option Spe:=match LK b with
 | some n=>Ap1 L.j (4*n+1)
 | none=>none
def AeA (L:Lk) (c:Code):Option (Spe×List (Nat×Spe)):=match LK c with
 | some n=>Ap1 L.l (4*n+2)
 | none=>none
def YT:List (Nat×Spe)->Type
 | []=>Unit
 | [(_,sh)]=>HV sh.hs
 | (_,sh)::q::r=>HV sh.hs ⊕ YT (q::r)
noncomputable def yC {ρ :Type}:(ex:List (Nat×Spe))->Nat->St->St->(YT ex->Option ρ)->Option ρ
 | [],_,_,_,_=>none
 | [(i,sh)],id,b,st,kx=>match Nat.beq i id with
  | true=>sh.enter b st kx
  | false=>none
 | (i,sh)::q::r,id,b,st,kx=>match Nat.beq i id with
  | true=>sh.enter b st (fun v=>kx (.inl v))
  | false=>yC (q::r) id b st (fun y=>kx (.inr y))
noncomputable def AdZ {ρ :Type}:(ex:List (Nat×Spe))->St->(Ex->St->Option ρ)->YT ex->Option ρ
 | [],_,_=>fun _=>none
 | [(i,sh)],b,K=>fun v=>K (.exit i) (sh.emb b v)
 | (i,sh)::q::r,b,K=>Sum.elim (fun v=>K (.exit i) (sh.emb b v)) (AdZ (q::r) b K)
noncomputable def Abk {ρ :Type} (mt:St->(St->Option ρ)->Option ρ) (body:St->(Ex->St->Option ρ)->Option ρ) (n:Nat):St->(Ex->St->Option ρ)->Option ρ :=
 (fun(_:Nat)=>Nat.rec (motive:=fun _=>St->(Ex->St->Option ρ)->Option ρ) (fun _ _=>none) (fun _ ih st K=>body st fun
   | .normal,st'=>mt st' fun st''=>ih st'' K
   | .exit id,st'=>K (.exit id) st') n) Adr
noncomputable def exe {ρ :Type} (C:Ctx) (N:Nat) (L:Lk) (fin:St->Option ρ):Code->St->(Ex->St->Option ρ)->Option ρ
 | .skip,st,K=>K .normal st
 | .region id ops false,st,K=>split C id ops.toList st fun C=>opsE C ops.toList ops.toList st fun st'=>K .normal st'
 | .region id ops true,st,K=>split C id ops.toList st fun C=>match Agb C ops.toList st with
  | true=>ApK C ops.toList ops.toList st fun st'=>K .normal st'
  | false=>none
 | .seq a b,st,K=>match Ae3 L b with
  | some sh=>JX (fun j=>exe C N L fin a st fun
   | .normal,st'=>X3 C 1 b st' fun st''=>sh.enter st st'' j
   | .exit id,st'=>K (.exit id) st') (fun x=>exe C N L fin b (sh.emb st x) K)
  | none=>exe C N L fin a st fun
   | .normal,st'=>X3 C 1 b st' fun st''=>exe C N L fin b st'' K
   | .exit id,st'=>K (.exit id) st'
 | .cond c a b,st,K=>match KN st.tmps c with
  | .bool t=>match t with
   | true=>exe C N L fin a st K
   | false=>exe C N L fin b st K
  | .cnd g (.bool t)=>match g with
   | true=>match t with
    | true=>exe C N L fin a st K
    | false=>exe C N L fin b st K
   | false=>none
  | _=>none
 | .block id c,st,K=>exe C N L fin c st fun
  | .exit j,st'=>match Nat.beq j id with
   | true=>K .normal st'
   | false=>K (.exit j) st'
  | .normal,st'=>K .normal st'
 | .loop c,st,K=>X3 C 2 c st fun b=>match AeA L c with
  | some (h,ex)=>match (h.fits b b).all id with
   | true=>Jz (fun x k kx=>exe C N L fin c (h.emb b x) fun
    | .normal,st'=>X3 C 2 c st' fun st''=>h.enter b st'' k
    | .exit id,st'=>yC ex id b st' kx) N (h.un b) (AdZ ex b K)
   | false=>Abk (X3 C 2 c) (exe C N L fin c) N b K
  | none=>Abk (X3 C 2 c) (exe C N L fin c) N b K
 | .scope c,st,K=>exe C N L fin c st K
 | .exit id,st,K=>nM C (4*id+3) st fun st'=>K (.exit id) st'
 | .label _,st,K=>K .normal st
 | .ret,st,_=>fin st
 | _,_,_=>none
def writes:Code->List Nat
 | .region _ ops _=>ops.toList.filterMap (·.dst)
 | .seq a b=>writes a++writes b
 | .cond _ a b=>writes a++writes b
 | .block _ c=>writes c
 | .loop c=>writes c
 | .scope c=>writes c
 | _=>[]
def okJ (W:List Nat):Option Spe->Bool
 | some sh=>sh.okI W
 | none=>true
def okX (W:List Nat):Option (Spe×List (Nat×Spe))->Bool
 | some (h,ex)=>h.okI W&&ex.all (fun q=>q.2.okI W)
 | none=>true
def okL (L:Lk):Code->Bool
 | .seq a b=>okL L a&&okL L b&&okJ (writes a) (Ae3 L b)
 | .cond _ a b=>okL L a&&okL L b
 | .block _ c=>okL L c
 | .scope c=>okL L c
 | .loop c=>okL L c&&okX (writes c) (AeA L c)
 | _=>true
def Ax1 (st:St) (o:Oper) (δ :Dl):R (Y9 o) st (apply st o δ):=by
 intro t ht _;left;show(put st.tmps o.dst δ.val).getD t .undef=_;cases hd:o.dst with
 | none=>rfl
 | some d =>refine AcA _ _ _ _ fun e=>ht ?_;simp [Y9,hd,e]
def Aq8 {α :Type} {l:List Bool} {x y:Option α} {v: α} (h:allT l x=some v) (hy:x=some v->y=some v):allT l y=some v:=by
 induction l with
 | nil=>exact hy h
 | cons c cs ih=>grind[allT]
def Asl {st st':St} {o:Oper} {δ :Dl} {r:List Oper} (hr:R (r.filterMap (·.dst)) (apply st o δ) st'):R ((o::r).filterMap (·.dst)) st st' :=
 ((Ax1 st o δ).mono (fun t ht=>by
    cases hd:o.dst with
    | none=>simp [Y9,hd]at ht
    | some d=>simp [Y9,hd]at ht;simp [hd,ht])).trans (hr.mono (fun t ht=>by
    cases hd:o.dst with
    | none=>simpa [hd]using ht
    | some d=>simp only[List.filterMap_cons,hd];exact Dw _ ht))
def AwD {ρ :Type} {C:Ctx} {ops:List Oper} {v: ρ}: ∀(l:List Oper) (st:St) (K K':St->Option ρ),(∀ st',R (l.filterMap (·.dst)) st st'->K st'=some v->K' st'=some v)->WE C ops l st K=some v->WE C ops l st K'=some v:=by
 intro l
 induction l with
 | nil=>intro st K K' hK h;exact hK st (R.refl _ _) h
 | cons o r ih =>intro st K K' hK h;have h':allT (KF C ops o st).ok (WE C ops r (apply st o (KF C ops o st)) K)=some v:=h;show allT (KF C ops o st).ok (WE C ops r (apply st o (KF C ops o st)) K')=some v;exact Aq8 h' (ih _ K K' fun st' hr=>hK st' (Asl hr))
def Axz {ρ :Type} {C:Ctx} {ops:List Oper} {v: ρ}: ∀(l:List Oper) (st:St) (K K':St->Option ρ),(∀ st',R (l.filterMap (·.dst)) st st'->K st'=some v->K' st'=some v)->WC C ops l st K=some v->WC C ops l st K'=some v:=by
 intro l
 induction l with
 | nil=>intro st K K' hK h;exact hK st (R.refl _ _) h
 | cons o r ih =>
  intro st K K' hK h;have one: ∀ C':Ctx,allT (KF C' ops o st).ok (WC C ops r (apply st o (KF C' ops o st)) K)=some v->allT (KF C' ops o st).ok (WC C ops r (apply st o (KF C' ops o st)) K')=some v:=fun C' h'=>Aq8 h' (ih _ K K' fun st' hr=>hK st' (Asl hr));unfold WC at h ⊢;cases ha:aP C o with
  | none=>rw[ha]at h;exact one C h
  | some q =>
   obtain⟨f,q⟩:=q;rw[ha]at h;dsimp only at h ⊢;cases hb:Af1 o st q with
   | true=>rw[hb]at h;exact one _ h
   | false=>rw[hb]at h;exact one _ h
def AoS {ρ :Type} {W:List Nat} {b st:St} {K:Ex->St->Option ρ} {v: ρ} {id:Nat} (hr:R W b st): ∀(ex:List (Nat×Spe)),ex.all (fun q=>q.2.okI W)=true->yC ex id b st (AdZ ex b K)=some v->K (.exit id) st=some v:=by
 have one: ∀(i:Nat) (sh:Spe),sh.okI W=true->Nat.beq i id=true->sh.enter b st (fun v=>K (.exit i) (sh.emb b v))=some v->K (.exit id) st=some v:=by intro i sh ho hb h;obtain⟨h1,h2⟩:=qG h;rw[Spe.UF h1 ho hr,Dy hb]at h2;exact h2
 intro ex
 induction ex with
 | nil=>intro _ h;cases h
 | cons q r ih =>
  intro ho h;obtain⟨i,sh⟩:=q;simp only[List.all_cons,Du]at ho;cases r with
  | nil =>
   have h':(match Nat.beq i id with | true=>sh.enter b st (fun v=>K (.exit i) (sh.emb b v)) | false=>none)=some v:=h;cases hb:Nat.beq i id with
   | true=>rw[hb]at h';exact one i sh ho.1 hb h'
   | false=>rw[hb]at h';cases h'
  | cons q r =>
   have h':(match Nat.beq i id with | true=>sh.enter b st (fun v=>K (.exit i) (sh.emb b v)) | false=>yC (q::r) id b st (AdZ (q::r) b K))=some v:=h;cases hb:Nat.beq i id with
   | true=>rw[hb]at h';exact one i sh ho.1 hb h'
   | false =>rw[hb]at h';exact ih (by simpa using ho.2) h'
theorem Aro {ρ :Type} {C:Ctx} {N:Nat} {L:Lk} {fin:St->Option ρ} {v: ρ}: ∀(c:Code),okL L c=true-> ∀(st:St) (K K':Ex->St->Option ρ),(∀ e st',R (writes c) st st'->K e st'=some v->K' e st'=some v)->exe C N L fin c st K=some v->exec C N fin c st K'=some v:=by
 intro c
 induction c with
 | skip=>intro _ st K K' hK h;exact hK _ _ (R.refl _ _) h
 | label l=>intro _ st K K' hK h;exact hK _ _ (R.refl _ _) h
 | ret=>intro _ st K K' hK h;exact h
 | exit id =>intro _ st K K' hK h;obtain⟨st',h1,h2,h3⟩:=Alb ((AeD _ _ _ _).symm.trans (show nM C (4*id+3) st (fun st'=>K (.exit id) st')=some v from h));show TW C (4*id+3) st (fun st'=>K' (.exit id) st')=some v;rw[h3];exact hK _ _ h1.none h2
 | region id ops d =>
  intro _ st K K' hK h;cases d with
  | false=>exact(bQ h).2 _ fun C h=>Axz ops.toList st _ _ (fun st' hr hk=>hK .normal st' hr hk) ((AvE _ _ _ _ _).symm.trans h)
  | true =>
   refine(bQ h).2 _ fun C h=> ?_;have h':(match TT C ops.toList st with | true=>ApK C ops.toList ops.toList st (fun st'=>K .normal st') | false=>none)=some v:=by rw[<- AoN];exact h
   show(bif TT C ops.toList st then WE C ops.toList ops.toList st (fun st'=>K' .normal st')else none)=some v;cases hd:TT C ops.toList st with
   | false=>rw[hd]at h';cases h'
   | true=>rw[hd]at h';exact AwD ops.toList st _ _ (fun st' hr hk=>hK .normal st' hr hk) ((AvD _ _ _ _ _).symm.trans h')
 | seq x y ihx ihy =>
  intro ho st K K' hK h;have ho':(okL L x&&okL L y&&okJ (writes x) (Ae3 L y))=true:=ho;simp only[Du]at ho';have hxy: ∀ {e:Ex} {st1 st2:St},R (writes x) st st1->R (writes y) st1 st2->R (writes (.seq x y)) st st2:=fun h1 h2=>(h1.mono (fun t ht=>DL _ ht)).trans (h2.mono (fun t ht=>DI _ ht));simp only[exe]at h;show exec C N fin x st _=some v;cases hj:Ae3 L y with
  | none =>
   rw[hj]at h;refine ihx ho'.1.1 st _ _ (fun e st1 hr hk=> ?_) h;cases e with
   | normal =>obtain⟨st2,h1,h2,h3⟩:=zQ ((fD _ _ _ _ _).symm.trans hk);show meet C 1 y st1 _=some v;rw[h3];exact ihy ho'.1.2 st2 _ _ (fun e st3 hr' hk'=>hK e st3 (hxy (e:=e) (hr.trans h1.none) hr') hk') h2
   | exit id=>exact hK _ _ (hr.mono (fun t ht=>DL _ ht)) hk
  | some sh =>
   rw[hj]at h ho';refine ihx ho'.1.1 st _ _ (fun e st1 hr hk=> ?_) (show exe C N L fin x st _=some v from h);cases e with
   | normal =>obtain⟨st2,h1,h2,h3⟩:=zQ ((fD _ _ _ _ _).symm.trans hk);show meet C 1 y st1 _=some v;rw[h3];obtain⟨h4,h5⟩:=qG h2;rw[Spe.UF h4 ho'.2 (hr.trans h1.none)]at h5;exact ihy ho'.1.2 st2 _ _ (fun e st3 hr' hk'=>hK e st3 (hxy (e:=e) (hr.trans h1.none) hr') hk') h5
   | exit id=>exact hK _ _ (hr.mono (fun t ht=>DL _ ht)) hk
 | cond o x y ihx ihy =>
  intro ho st K K' hK h;have ho':(okL L x&&okL L y)=true:=ho;simp only[Du]at ho'
  have key: ∀ t:Bool,(match t with | true=>exe C N L fin x st K | false=>exe C N L fin y st K)=some v->(bif t then exec C N fin x st K' else exec C N fin y st K')=some v:=by
   intro t ht;cases t with
   | true=>exact ihx ho'.1 st K K' (fun e st' hr=>hK e st' (hr.mono (fun t ht=>DL _ ht))) ht
   | false=>exact ihy ho'.2 st K K' (fun e st' hr=>hK e st' (hr.mono (fun t ht=>DI _ ht))) ht
  simp only[exe]at h;simp only[exec];cases he:KN st.tmps o with
  | bool t=>rw[he]at h;exact key t h
  | cnd g y' =>
   rw[he]at h;cases y' with
   | bool t =>
    cases g with
    | false=>cases h
    | true=>exact key t h
   | _=>cases h
  | _=>rw[he]at h;cases h
 | block id c ih =>
  intro ho st K K' hK h;refine ih ho st _ _ (fun e st' hr hk=> ?_) h;cases e with
  | normal=>exact hK _ _ hr hk
  | exit j =>
   dsimp only at hk ⊢;cases hb:Nat.beq j id with
   | true=>rw[hb]at hk;exact hK _ _ hr hk
   | false=>rw[hb]at hk;exact hK _ _ hr hk
 | loop c ih =>
  intro ho st K K' hK h;have ho':(okL L c&&okX (writes c) (AeA L c))=true:=ho;simp only[Du]at ho';simp only[exe]at h;obtain⟨b,h1,h2,h3⟩:=zQ ((fD _ _ _ _ _).symm.trans h);show meet C 2 c st _=some v;rw[h3]
  have roll:Abk (X3 C 2 c) (exe C N L fin c) N b K=some v->rounds (meet C 2 c) (exec C N fin c) N b K'=some v:=by
   have key: ∀(n:Nat) (st1:St),R (writes c) b st1->Abk (X3 C 2 c) (exe C N L fin c) n st1 K=some v->rounds (meet C 2 c) (exec C N fin c) n st1 K'=some v:=by
    intro n
    induction n with
    | zero=>intro st1 _ h;cases h
    | succ n ihn =>
     intro st1 hr1 h;refine ih ho'.1 st1 _ _ (fun e st2 hr2 hk=> ?_) h;cases e with
     | normal =>obtain⟨st3,k1,k2,k3⟩:=zQ ((fD _ _ _ _ _).symm.trans hk);show meet C 2 c st2 _=some v;rw[k3];exact ihn st3 ((hr1.trans hr2).trans k1.none) k2
     | exit id=>exact hK _ _ ((h1.none.trans hr1).trans hr2) hk
   exact key N b (R.refl _ _)
  cases hl:AeA L c with
  | none=>rw[hl]at h2;exact roll h2
  | some q =>
   obtain⟨hd,ex⟩:=q;rw[hl]at h2 ho';dsimp only at h2;cases hfit:(hd.fits b b).all id with
   | false=>rw[hfit]at h2;exact roll h2
   | true =>
   rw[hfit]at h2;have h4:J5 (hd.fits b b):=fun c hc=>DD.1 hfit c hc;have h5:=h2;have ho2:(hd.okI (writes c)&&ex.all (fun q=>q.2.okI (writes c)))=true:=ho'.2;simp only[Du]at ho2
   have key: ∀(n:Nat) (st1:St),R (writes c) b st1->hd.emb b (hd.un st1)=st1->Jz (fun x k kx=>exe C N L fin c (hd.emb b x) fun
    | .normal,st'=>X3 C 2 c st' fun st''=>hd.enter b st'' k
    | .exit id,st'=>yC ex id b st' kx) n (hd.un st1) (AdZ ex b K)=some v->rounds (meet C 2 c) (exec C N fin c) n st1 K'=some v:=by
    intro n
    induction n with
    | zero=>intro st1 _ _ h;cases h
    | succ n ihn =>
     intro st1 hr1 he h;simp only[Jz]at h;rw[he]at h;refine ih ho'.1 st1 _ _ (fun e st2 hr2 hk=> ?_) h;cases e with
     | normal =>obtain⟨st3,k1,k2,k3⟩:=zQ ((fD _ _ _ _ _).symm.trans hk);show meet C 2 c st2 _=some v;rw[k3];obtain⟨k4,k5⟩:=qG k2;have hr3:=(hr1.trans hr2).trans k1.none;exact ihn st3 hr3 (Spe.UF k4 ho2.1 hr3) k5
     | exit id =>exact hK _ _ ((h1.none.trans hr1).trans hr2) (AoS (hr1.trans hr2) ex ho2.2 hk)
   exact key N b (R.refl _ _) (Spe.UF h4 ho2.1 (R.refl _ _)) h5
 | scope c ih=>intro ho st K K' hK h;exact ih ho st K K' hK h
 | _=>intro _ st K K' hK h;cases h
def AuA:ResultVar->Nat×Option Nat
 | .tmp t=>(t,none)
 | .cell a t=>(a,some t)
structure Inf where
 Js:List Sh
 JA:List Sh
 gs:List (Nat×Sig)
 ns:List (Nat×Nrm)
 L:Lk
def YY (fn:Func):Code:=fn.body.getD .skip
def QF (fn:Func):List (Nat×Option Nat):=fn.results.toList.map AuA
noncomputable def Aqb {ρ :Type} (N:Nat) (C:Ctx) (L:Lk) (Js:List Sh) (fn:Func) (fin:St->Option ρ) (a:ShT Js):Option ρ :=
 allH ((KL 0 256 Js (encs Js a) 0).1++[nodup ((KL 0 256 Js (encs Js a) 0).2.2.map (·.1)),!(has ((KL 0 256 Js (encs Js a) 0).2.2.map (·.1)) 255)])
  (exe C N L fin (YY fn) (AaW Js (encs Js a) fn.ntmps) (fun
    | .normal,st=>fin st
    | .exit _,_=>none))
noncomputable def Aqa (N:Nat) (C:Ctx) (L:Lk) (Js JA:List Sh) (fn:Func) (a:ShT Js):Option (ShT (L8 Js JA)):=Aqb N C L Js fn (ZF C Js JA (QF fn)) a
theorem AvR (r:ResultVar):rv (AuA r)=r:=by cases r<;>rfl
def Abf (fn:Func):fn.results=((QF fn).map rv).toArray:=by grind[QF,rv,AuA,AvR]
theorem Avk {α :Type} {l:List Bool} {x:Option α} (h:J5 l):allT l x=x:=by
 induction l with
 | nil=>rfl
 | cons c cs ih=>simp_all[J5,allT]
def kP (L:Lk) (fn:Func):Bool:=fn.body.isSome&&(!(fn.name== "runtime.NumGoroutine")&&okL L (YY fn))
def Aa8 {ρ :Type} {N:Nat} {C:Ctx} {L:Lk} {Js:List Sh} {fn:Func} {fin:St->Option ρ} {a:ShT Js} {r: ρ} (hn:okL L (YY fn)=true) (h:Aqb N C L Js fn fin a=some r):runK C N Js fn.ntmps (YY fn) fin (encs Js a)=some r:=by grind[U0,lN,allH,runK,Avk,Aro,Sh,ShT,okL,YY,Aqb,encs]
def yF {L:Lk} {fn:Func} (hn:kP L fn=true):fn.body=some (YY fn)/\(fn.name== "runtime.NumGoroutine")=false/\okL L (YY fn)=true:=by unfold kP at hn;simp only[Du,EY]at hn;obtain⟨code,hc⟩:=EU.1 hn.1;exact⟨by unfold YY;rw[hc];rfl,hn.2⟩
def Ug {P:Program} {C:Ctx} {L:Lk} {N:Nat} (hC:NY P C) {f:FuncId} {fn:Func} {Js JA:List Sh} {g:ShT Js->Option (ShT (L8 Js JA))} (hf:P.funcs[f]? =some fn:=by kernel_rfl) (hn:kP L fn=true:=by kernel_rfl)
 (hF: ∀ a,Aqa N C L Js JA fn a=g a:=by intro a;kernel_rfl):Spec P f (Sig.of Js JA g):=by
 obtain⟨hb,h1,h2⟩:=yF hn;exact XU (fin:=ZF C Js JA (QF fn)) hC N hf hb h1 (Abf fn) (fun a o h=>⟨o,Aa8 h2 ((hF a).trans h),fun st h=>h⟩)
def AaB {P:Program} {C:Ctx} (hC:NY P C) {f:FuncId} {fn:Func} {Js JA:List Sh} (hf:P.funcs[f]? =some fn:=by kernel_rfl) (hn:kP ⟨[],[]⟩ fn=true:=by kernel_rfl):Spec P f (Sig.of Js JA fun _=>none):=by obtain⟨hb,h1,h2⟩:=yF hn;exact XU (fin:=ZF C Js JA (QF fn)) hC 0 hf hb h1 (Abf fn) (fun a o h=>by cases h)
def Aw7 (C:Ctx) (r1:List Sh) (outs:List (Nat×Option Nat)) (st:St):Bool:=(r1.zip outs).any fun q=>(match q.1 with | .box _=>true | _=>false)&&(AcY C st q.2).2.eQ
noncomputable def Xt (C:Ctx) (Js r1 r2:List Sh) (outs:List (Nat×Option Nat)) (st:St):Option (ShT (L8 Js r1) ⊕ ShT (L8 Js r2)) :=
 match Aw7 C r1 outs st with
 | true=>(ZF C Js r2 outs st).map .inr
 | false=>(ZF C Js r1 outs st).map .inl
noncomputable def Aus (N:Nat) (C:Ctx) (L:Lk) (Js r1 r2:List Sh) (fn:Func) (a:ShT Js):Option (ShT (L8 Js r1) ⊕ ShT (L8 Js r2)):=Aqb N C L Js fn (Xt C Js r1 r2 (QF fn)) a
noncomputable def Alt.of (Js r1 r2:List Sh) (g:ShT Js->Option (ShT (L8 Js r1) ⊕ ShT (L8 Js r2))):Alt :=
 (Sig.of Js r1 (fun a=>Awx (g a)),Sig.of Js r2 (fun a=>Awy (g a)),fun xs=>match Yi Js xs with
   | some a=>Aw2 (g a)
   | none=>true)
def Vf {P:Program} {C:Ctx} {L:Lk} {N:Nat} (hC:NY P C) {f:FuncId} {fn:Func} {Js r1 r2:List Sh} {g:ShT Js->Option (ShT (L8 Js r1) ⊕ ShT (L8 Js r2))} (hf:P.funcs[f]? =some fn) (hn:kP L fn=true)
 (hF: ∀ a,Aus N C L Js r1 r2 fn a=g a):Spec P f (Alt.of Js r1 r2 g).1/\Spec P f (Alt.of Js r1 r2 g).2.1:=by
 obtain⟨hb,h1,h2⟩:=yF hn;constructor
 .refine XU (fin:=Xt C Js r1 r2 (QF fn)) hC N hf hb h1 (Abf fn) (fun a o h=>⟨.inl o,Aa8 h2 ((hF a).trans ?_),fun st h=> ?_⟩)
  .cases hg:g a with
   | none=>rw[hg]at h;cases h
   | some r=>rw[hg]at h;cases r with | inl x=>injection h with h;rw[h] | inr x=>cases h
  .unfold Xt at h;split at h
   .cases hq:ZF C Js r2 (QF fn) st with
    | none=>rw[hq]at h;cases h
    | some r=>rw[hq]at h;injection h with h;cases h
   .cases hq:ZF C Js r1 (QF fn) st with
    | none=>rw[hq]at h;cases h
    | some r=>grind[Sh,ShT,L8,kP,Aus,Spec]
 .refine XU (fin:=Xt C Js r1 r2 (QF fn)) hC N hf hb h1 (Abf fn) (fun a o h=>⟨.inr o,Aa8 h2 ((hF a).trans ?_),fun st h=> ?_⟩)
  .cases hg:g a with
   | none=>rw[hg]at h;cases h
   | some r=>rw[hg]at h;cases r with | inr x=>injection h with h;rw[h] | inl x=>cases h
  .unfold Xt at h;split at h
   .cases hq:ZF C Js r2 (QF fn) st with
    | none=>rw[hq]at h;cases h
    | some r=>grind[Sh,ShT,L8,kP,Aus,Spec]
   .cases hq:ZF C Js r1 (QF fn) st with
    | none=>rw[hq]at h;cases h
    | some r=>rw[hq]at h;injection h with h;cases h
end Go.Proofs.YtehkhflpjkokeaaGreatDoor.Vm
namespace Go.Proofs.YtehkhflpjkokeaaGreatDoor.Vm
structure Kn (P:Program) where
 f:Nat
 S:Sig
 h:Spec P f S
noncomputable def ksp {P:Program} (ks:List (Kn P)):List (Nat×Sig):=ks.map fun k=>(k.f,k.S)
def Q4 {P:Program}: ∀ ks:List (Kn P),AaM P (ksp ks)
 | []=>trivial
 | k::r=>⟨k.h,Q4 r⟩
open Go.Proofs
abbrev Tq0:Ty:=(.str (.int .i64 (.str .nil)))
abbrev Tq1:Ty:=(.int .i64 (.str (.sl 94 (.sl 96 Tq0 .nil) .nil)))
abbrev Tq2:Ty:=(.sl 98 Tq1 (.int .i64 (.bool (.sl 94 (.sl 96 Tq0 .nil) .nil))))
abbrev Tq3:Ty:=(.int .i64 (.int .i64 (.int .i64 (.int .i64 (.sl 94 (.sl 96 Tq0 .nil) .nil)))))
abbrev Tq4:Ty:=(.str (.bool (.str .nil)))
abbrev Tq5:Ty:=(.int .i64 (.str (.str .nil)))
abbrev Tq6:Ty:=(.str (.str (.sl 94 (.sl 96 Tq0 .nil) (.int .i64 (.int .i64 (.int .i64 (.int .i64 (.str (.bool (.sl 98 Tq1 (.bool (.bool (.int .i64 (.bool (.sl 100 Tq2 (.sl 48 Tq3 (.str .nil)))))))))))))))))
abbrev Tq7:Ty:=(.sl 73 (.sl 9 (.str .nil) .nil) (.str (.str (.int .i64 .nil))))
noncomputable def Sq0:Sh:=.agg [(false,(.sl 94 (.sl 96 Tq0 .nil)))]
noncomputable def Sq1:Sh:=.agg [(false,.str),(false,.str),(false,(.sl 94 (.sl 96 Tq0 .nil))),(false,(.int .i64)),(false,(.int .i64)),(false,(.int .i64)),(false,(.int .i64)),(false,.str),(false,.bool),(false,(.sl 98 Tq1)),(false,.bool),(false,.bool),(false,(.int .i64)),(false,.bool),(false,(.sl 100 Tq2)),(false,(.sl 48 Tq3)),(false,.str)]
noncomputable def Sq2:Sh:=.box [(false,(.int .u32)),(false,(.int .u32)),(false,(.int .u32)),(false,(.int .u32)),(false,(.int .u32)),(false,(.int .u32)),(false,(.int .u32)),(false,(.int .u32)),(false,(.sl 5 (.int .u8 .nil))),(false,(.int .i64))]
noncomputable def Sq3:Sh:=.agg [(false,(.int .u32)),(false,(.int .u32)),(false,(.int .u32)),(false,(.int .u32)),(false,(.int .u32)),(false,(.int .u32)),(false,(.int .u32)),(false,(.int .u32))]
noncomputable def Sq4:Sh:=.agg [(false,(.int .u32)),(false,(.int .u32)),(false,(.int .u32)),(false,(.int .u32)),(false,(.int .u32)),(false,(.int .u32)),(false,(.int .u32)),(false,(.int .u32)),(false,(.int .u32)),(false,(.int .u32)),(false,(.int .u32)),(false,(.int .u32)),(false,(.int .u32)),(false,(.int .u32)),(false,(.int .u32)),(false,(.int .u32)),(false,(.int .u32)),(false,(.int .u32)),(false,(.int .u32)),(false,(.int .u32)),(false,(.int .u32)),(false,(.int .u32)),(false,(.int .u32)),(false,(.int .u32)),(false,(.int .u32)),(false,(.int .u32)),(false,(.int .u32)),(false,(.int .u32)),(false,(.int .u32)),(false,(.int .u32)),(false,(.int .u32)),(false,(.int .u32)),(false,(.int .u32)),(false,(.int .u32)),(false,(.int .u32)),(false,(.int .u32)),(false,(.int .u32)),(false,(.int .u32)),(false,(.int .u32)),(false,(.int .u32)),(false,(.int .u32)),(false,(.int .u32)),(false,(.int .u32)),(false,(.int .u32)),(false,(.int .u32)),(false,(.int .u32)),(false,(.int .u32)),(false,(.int .u32)),(false,(.int .u32)),(false,(.int .u32)),(false,(.int .u32)),(false,(.int .u32)),(false,(.int .u32)),(false,(.int .u32)),(false,(.int .u32)),(false,(.int .u32)),(false,(.int .u32)),(false,(.int .u32)),(false,(.int .u32)),(false,(.int .u32)),(false,(.int .u32)),(false,(.int .u32)),(false,(.int .u32)),(false,(.int .u32))]
noncomputable def Sq5:Sh:=.cell false (.sl 5 (.int .u8 .nil))
noncomputable def Sq6:Sh:=.cell false (.sl 9 (.str .nil))
noncomputable def Sq7:Sh:=.box [(false,(.sln 73 (.sl 9 (.str .nil) .nil))),(false,.str),(false,.str),(false,(.int .i64))]
noncomputable def Sq8:Sh:=.box [(false,.str),(false,(.int .i64)),(false,(.int .i64)),(true,(.bx Tq7))]
noncomputable def Sq9:Sh:=.cell false (.sl 156 (.int .u32 .nil))
noncomputable def Ax6:Sh:=.cell false (.sln 3 (.int .i64 .nil))
noncomputable def Afz:Sh:=.agg [(false,(.int .i64)),(false,.str),(false,(.sl 94 (.sl 96 Tq0 .nil)))]
noncomputable def Awi:Sh:=.agg [(false,(.sl 98 Tq1)),(false,(.int .i64)),(false,.bool),(false,(.sl 94 (.sl 96 Tq0 .nil)))]
noncomputable def AjA:Sh:=.agg [(false,.str),(false,(.int .i64)),(false,.str)]
noncomputable def Aop:Sh:=.agg [(false,(.int .i64)),(false,(.int .i64)),(false,(.int .i64)),(false,(.int .i64)),(false,(.int .i64)),(false,(.int .i64))]
noncomputable def Awj:Sh:=.cell true (.sln 5 (.int .u8 .nil))
noncomputable def Ax7:Sh:=.map (.str .nil) (.int .i64 .nil)
noncomputable def RG:Sh:=.agg [(false,(.int .i64)),(false,.str),(false,.str)]
noncomputable def Awk:Sh:=.cell true (.sl 5 (.int .u8 .nil))
noncomputable def AjB:Sh:=.agg [(false,.str),(false,.bool),(false,.str)]
noncomputable def AjC:Sh:=.agg [(false,(.int .i64)),(false,(.int .i64)),(false,(.int .i64)),(false,(.int .i64)),(false,(.sl 94 (.sl 96 Tq0 .nil)))]
noncomputable def AsI:Sh:=.agg [(false,(.sl 98 Tq1)),(false,.bool),(false,.bool),(false,(.int .i64)),(false,.bool)]
noncomputable def Ax8:Sh:=.agg [(false,(.sl 73 (.sl 9 (.str .nil) .nil)))]
noncomputable def AjD:Sh:=.cell false (.sl 3 (.int .i64 .nil))
noncomputable def VA:Sh:=.box [(false,(.sl 108 Tq5))]
noncomputable def Ax9:Sh:=.box [(false,(.int .i64)),(false,(.int .i64)),(false,(.int .i64)),(false,(.int .i64)),(false,(.sl 94 (.sl 96 Tq0 .nil)))]
noncomputable def AsJ:Sh:=.box [(false,.str),(false,.str),(false,(.sl 94 (.sl 96 Tq0 .nil))),(false,(.int .i64)),(false,(.int .i64)),(false,(.int .i64)),(false,(.int .i64)),(false,.str),(false,.bool),(false,(.sl 98 Tq1)),(false,.bool),(false,.bool),(false,(.int .i64)),(false,.bool),(false,(.sl 100 Tq2)),(false,(.sl 48 Tq3)),(false,.str)]
noncomputable def oU:Sh:=.box [(false,(.sl 3 (.int .i64 .nil))),(false,(.int .i64))]
noncomputable def AxA:Sh:=.agg [(false,.str),(false,.str),(false,(.sl 94 (.sl 96 Tq0 .nil))),(false,(.int .i64)),(false,(.int .i64)),(false,(.int .i64)),(false,(.int .i64)),(false,.str),(false,.bool),(false,(.sl 98 Tq1)),(false,.bool),(false,.bool),(false,(.int .i64)),(false,.bool),(false,(.sl 100 Tq2)),(true,(.sln 48 Tq3)),(false,.str)]
noncomputable abbrev lL (k:FuncId) (S:Sig):Prop:=Spec Tryz.prog k S
noncomputable abbrev AaS (gs:List (Nat×Sig)) (ns:List (Nat×Nrm)) (aa:List (Nat×Alt):=[]) (dd:List (Nat×(Nat->Sig)):=[]) (cc:List Nat:=[]) (bb:List Nat:=[]) (ss:List (Nat×Nat×Nat×List Nat):=[]) (kk:List (Nat×List (Nat×Nat)):=[]):Ctx:=ctx Tryz.prog gs ns aa dd cc bb ss kk
def AaX {f:FuncId} {Js JA:List Sh} {g:ShT Js->Option (ShT (L8 Js JA))} (C:Ctx) (L:Lk) (fn:Func) (N:Nat) (hC:NY Tryz.prog C) (hf:Tryz.prog.funcs[f]? =some fn:=by kernel_rfl) (hn:kP L fn=true:=by kernel_rfl) (hF: ∀ a,Aqa N C L Js JA fn a=g a:=by intro a;kernel_rfl):Spec Tryz.prog f (Sig.of Js JA g):=Ug hC hf hn hF
noncomputable def JF (f:Nat) (Js JA:List Sh) (g:ShT Js->Option (ShT (L8 Js JA))) (ks:List (Kn Tryz.prog)) (ns:List (Nat×Nrm)) (L:Lk) (fn:Func) (N:Nat) (aa:List (Nat×Alt):=[]) (dd:List (Nat×(Nat->Sig)):=[]) (cc bb:List Nat:=[]) (ss:List (Nat×Nat×Nat×List Nat):=[]) (kk:List (Nat×List (Nat×Nat)):=[]) (hA:Aj2 Tryz.prog aa:=by trivial) (hD:Afw Tryz.prog dd:=by trivial) (hf:Tryz.prog.funcs[f]? =some fn:=by kernel_rfl) (hn:kP L fn=true:=by kernel_rfl) (hF: ∀ a,Aqa N (ctx Tryz.prog (ksp ks) ns aa dd cc bb ss kk) L Js JA fn a=g a:=by intro a;kernel_rfl):Kn Tryz.prog:=⟨f,.of Js JA g,Ug (NQ (Q4 ks) hA hD) hf hn hF⟩
noncomputable def JH (f:Nat) (Js JA:List Sh) (g:ShT Js->Option (ShT (L8 Js JA))) (ks:List (Kn Tryz.prog)) (fn:Func) (N:Nat) (hf:Tryz.prog.funcs[f]? =some fn:=by kernel_rfl) (hn:kP ⟨[],[]⟩ fn=true:=by kernel_rfl) (hF: ∀ a,Aqa N (ctx Tryz.prog (ksp ks) []) ⟨[],[]⟩ Js JA fn a=g a:=by intro a;kernel_rfl):Kn Tryz.prog:=⟨f,.of Js JA g,Ug (NQ (Q4 ks)) hf hn hF⟩
noncomputable def Jw:Sh:=.cell false .str
noncomputable def Jt:Sh:=.cell false (.int .i64)
noncomputable def JM:Sh:=.cell false .bool
noncomputable def Aq:Ty:=.sl 96 Tq0 .nil
noncomputable def Ar:Ty:=.int .u8 .nil
noncomputable def Au:Ty:=.str .nil
noncomputable def Aw:Ty:=.int .i64 .nil
noncomputable def Az:Ty:=.int .u32 .nil
noncomputable def A7:Pc:=.c (.int .i64 0)
noncomputable def A8:Pc:=.c (.str ([]:Bs))
noncomputable def AA:Pc:=.c (.bool false)
noncomputable def AB:Pc:=.c (.ptr 33280 0)
noncomputable def AL:Pc:=.c (.ptr 0 0)
noncomputable def AO:Pc:=.c (.ptr 33536 0)
noncomputable def AP:Pc:=.c (.ptr 33792 0)
noncomputable def AQ:Pc:=.c (.ptr 34048 0)
noncomputable def AU:Pc:=.c (.ptr 33024 0)
noncomputable def AV:Pc:=.c (.ptr 34304 0)
noncomputable def AX:Pc:=.c (.ptr 34816 0)
noncomputable def AY:Pc:=.c (.ptr 34560 0)
noncomputable def AZ:Pc:=.c (.ptr 38144 0)
noncomputable def Ba:Pc:=xi .u32
noncomputable def Bc:Pc:=xl Aq
noncomputable def Bd:Pc:=xl Tq1
noncomputable def Be:Pc:=xl Tq2
noncomputable def Bf:Pc:=xl Tq3
noncomputable def Bg:Pc:=xl Ar
noncomputable def Bh:Pc:=xl Aw
noncomputable def Bi:Pc:=xl Tq5
noncomputable def Bj:List Pc:=[xs,xs,Bc,x64,x64,x64,x64,xs,xb,Bd,xb,xb,x64,xb,Be,Bf,xs]
noncomputable def Bl:List Pc:=[A8,A8,(xo 33283),A7,A7,A7,A7,A8,AA,(xo 33290),AA,AA,A7,AA,(xo 33295),(xo 33296),A8]
noncomputable def Bo:List Pc:=[Ba,Ba,Ba,Ba,Ba,Ba,Ba,Ba,Bg,x64]
noncomputable def Bq:List Pc:=[x64,x64,x64,x64,Bc]
noncomputable def Bv:List Pc:=[A7,A7,A7,A7,A7,A7]
noncomputable def Bz:List Pc:=[(.h (.ln (.sl 9 Au .nil))),xs,xs,x64]
noncomputable def BA:List Pc:=[Bh,x64]
noncomputable def BB:List Pc:=[A7,A8,A8]
noncomputable def BC:List Pc:=[(xo 33281)]
noncomputable def BD:List Pc:=[(xo 33281),A7,AA,(xo 33284)]
noncomputable def BF:List Pc:=[(xo 33793),A7,AA,(xo 33796)]
noncomputable def BG:List Pc:=[x64,x64,x64,x64,x64,x64]
noncomputable def BH:List Pc:=[A7,A7,A7,A7,(xo 33797)]
noncomputable def BI:List Pc:=[A7,A7,A7,A7,(xo 34409)]
noncomputable def BJ:List Pc:=[Bd,x64,xb,Bc]
def AxN:=1000000
def AxO:=1004096
def AxP:=1008192
def AxQ:=33280
def AxR:=1012288
def AxS:=33536
def AxT:=33792
def AxU:=34048
def AxV:=34304
def AxW:=1016384
def AxX:=1028672
def AxY:=1020480
def AxZ:=1004112
def Aya:=33281
def Ayb:=34816
def Ayc:=33024
def Ayd:=33652
def Aye:=40192
def Ayf:=1032768
def Ayg:=1008208
def Ayh:=33793
def Ayi:=39424
def Ayj:=33283
def Ayk:=33290
def Ayl:=33295
def Aym:=33296
def Ayn:=35584
def Ayo:=41984
def Ayp:=43264
def Ayq:=33651
def Ayr:=1012304
def Ays:=1024576
abbrev AyH (n:Nat) (l:List Nat):Nat×Nrm:=(n,⟨l,[],[],[],[]⟩)
abbrev AyJ:=List (Nat×Nrm)
abbrev AyK:Lk:=⟨[],[]⟩
end Go.Proofs.YtehkhflpjkokeaaGreatDoor.Vm
