import Derived.Test.YtacidcemomccpaaGreatDoorA8
import Derived.Lib.Walk
import Derived.Laws.RangeString
import Derived.Laws.RangeAny
import Derived.LoopTactic
import Derived.BigGuardPart
import Derived.Defers
set_option linter.all false
namespace Go.Proofs.YtacidcemomccpaaGreatDoor.Vm
open Go.Proofs Go.RowKit
def AvC {O:Own} {w:World} {bs:List ByteArray} {t:TypeId} {l:List Bs} (hl:bs.map (·.data.toList)=l) :
 J5 (λb k=>if b<w.heap.size then O b k else none) (w.alloc (.cells (bs.map Value.string).toArray t)) (.slice (some ⟨w.heap.size,0,none⟩) bs.length bs.length) (.sl ⟨.str .nil,l⟩):=by
 have hll:l.length=bs.length:=by rw[<- hl,D5]
 have hget: ∀ i (h:i<bs.length),l.getD i []=bs[i].data.toList:=by intro i h;rw[<- hl];simp [Dn,h]
 have hes0:(⟨.str .nil,l⟩:Sl).es=l.map (λs:Bs=>[A.str s]):=rfl;have hsz:(⟨.str .nil,l⟩:Sl).sz=1:=rfl;generalize (⟨.str .nil,l⟩:Sl)=L at *
 have hlen:L.es.length=bs.length:=by rw[hes0,D5,hll]
 have hb:(w.alloc (.cells (bs.map Value.string).toArray t)).heap[w.heap.size]? =some (.cells (bs.map Value.string).toArray t (0,0)):=AdP _ _;have hcell: ∀ i,(w.alloc (.cells (bs.map Value.string).toArray t)).cell? (at' w.heap.size i)=(bs.map Value.string).toArray[i]? :=by intro i;simp only[World.cell?,hb];rfl
 have h:=J5.sl (O:=λb k=>if b<w.heap.size then O b k else none) (w:=w.alloc (.cells (bs.map Value.string).toArray t)) (b:=w.heap.size) (off:=0) (cap:=bs.length) (l:=L) (λi _=>.string (bs.getD i ByteArray.empty)) (by rw[hlen];exact DD _)
  (λi j hi hj=>by
    rw[hlen]at hi;rw[hsz]at hj;have hj0:j=0:=by omega
    subst hj0;refine⟨Dt (IZ _),?_⟩;have e:0+(i*L.sz+0)=i:=by rw[hsz];omega
    rw[e,hcell];simp [Dn,hi])
  (λi j hi hj=>by
    rw[hlen]at hi;rw[hsz]at hj;have hj0:j=0:=by omega
    subst hj0;have e1:(L.es.getD i []).getD 0 .undef= .str (l.getD i []):=by rw[hes0];simp [Dn,show i<l.length by omega]
    rw[e1,hget i hi];simp only[Dn,D8 hi,Option.getD_some];exact J5.str (bs[i]))
 rw[hlen]at h;exact h
def Asl {O:Own} {w:World} {vs:Array Value} {sg:Sig} {bs:List ByteArray} {t e:TypeId} {l:List Bs} (hp:sg.Jt.all Sh.flat=true) (hr:sg.J7=[.cell false (.sl e (.str .nil))]) (hl:bs.map (·.data.toList)=l) :
 Came O w vs sg [.sl ⟨.str .nil,l⟩] (.slice (some ⟨w.heap.size,0,none⟩) bs.length bs.length) (λb k=>if b<w.heap.size then O b k else none) (w.alloc (.cells (bs.map Value.string).toArray t)):=by
 have hix:Le sg.Jt 0=[]:=AeP _ _ hp;refine⟨Moves.push _,λb k hb h=>by rwa [Du hb]at h,λb k hb h=>by rwa [Du hb],by rw[hix,hr];rfl,⟨#[.slice (some ⟨w.heap.size,0,none⟩) bs.length bs.length],by rw[hr];rfl,rfl,λk hk=> ?_⟩,λj i hj=> ?_⟩
 .have hk0:k=0:=by simp at hk;omega
  subst hk0;exact AvC hl
 .rw[hix]at hj;cases hj
noncomputable def V8 (N:Nat):Sig:=.of [.cell false .str,.cell false .str] [.cell false (.sl 9 (.str .nil))] (λa=>strings_Split N a.1 a.2)
def dA (N:Nat):Spec Tryz.prog 308 (V8 N):=by
 refine⟨enters (fn:=Tryz.f308) (by kernel_rfl) (by kernel_rfl) (by decide),λO w vs xs rs hI hv hl _ hx hrs=> ?_⟩;obtain⟨a,o,h1,h2,h3⟩:=Sig.XR (Jt:=[.cell false .str,.cell false .str]) (J7:=[.cell false (.sl 9 (.str .nil))]) (f:=λa=>strings_Split N a.1 a.2) hrs;subst h1;obtain⟨s,c⟩:=a;have hvs:=Aib (aZ [.cell false .str,.cell false .str] (s,c) rfl) hv hx;rw[hvs];have h2':(bif decide (List.length s<4294967281)&&decide (1<=List.length c)then some (Lib.split s c)else none)=some o:=h2;cases hc:(decide (List.length s<4294967281)&&decide (1<=List.length c))with
 | false=>rw[hc]at h2';cases h2'
 | true =>rw[hc]at h2';injection h2' with h2';subst h2';rw[Dw,D6,D6]at hc;obtain⟨_,v,hm,m,rfl⟩:=hI.1 0 0 _ rfl;have hlen:=Lib.splitB_all ⟨List.toArray c⟩ hc.2 0 _ ⟨List.toArray s⟩ rfl;refine(Tryz.strings_Split ⟨List.toArray s⟩ ⟨List.toArray c⟩ m w hc.1 hm hc.2).mono λe w' hq=> ?_;obtain⟨he,hw⟩:=hq;subst hw;rw[<- hlen]at he;refine⟨_,λb k=>if b<w.heap.size then O b k else none,he,?_⟩;have h3':rs=[.sl ⟨.str .nil,Lib.split s c⟩]:=h3;rw[h3'];exact Asl (O:=O) (w:=w) (e:=9) (sg:=V8 N) rfl rfl (by rw[Lib.splitB_data];rfl)
noncomputable def YV (N:Nat):Sig:=.of [.cell false .str,.cell false .str] [.cell false .str] (λa=>strings_TrimPrefix N a.1 a.2)
def lG (N:Nat):Spec Tryz.prog 349 (YV N) :=
 VG rfl rfl (enters (fn:=Tryz.f349) (by kernel_rfl) (by kernel_rfl) (by decide)) λO w (a:Bs×Bs) (o:Bs) hI h=>by obtain⟨s,c⟩:=a;have h:some (Lib.trimPrefix s c)=some o:=h;injection h with h;subst h;refine(Tryz.strings_TrimPrefix ⟨List.toArray s⟩ ⟨List.toArray c⟩ w).mono λe w' hq=> ?_;obtain⟨h1,h2⟩:=hq;subst h2;exact⟨h1,Below.refl _ _⟩
end Go.Proofs.YtacidcemomccpaaGreatDoor.Vm
namespace Go.Proofs.YtacidcemomccpaaGreatDoor
open Go.RowKit Vm
def fF (w:World) (s:ByteArray) (pos:Nat):Below w.heap.size w (w.iter s pos):=Below.alloc (Below.refl _ _) (DD _) _
def ApV (s:ByteArray) (i:Nat):1<=(Utf8.decode s i).2:=by
 unfold Utf8.decode;dsimp only;repeat' split
 all_goals (first | exact DD _ | (show 1<=_;omega))
def Axz (s:ByteArray) (b pos:Nat) (h: ¬ pos<s.size):Uf s b pos=true:=by
 cases b with
 | zero=>rfl
 | succ b=>unfold Uf;rw[Dt h]
def AvM (s:ByteArray) (b pos:Nat) (h:pos<s.size):Uf s (b+1) pos=if(Utf8.decode s pos).1<32\/(Utf8.decode s pos).1=127 then false else if(Utf8.decode s pos).1=65533/\Lib.hasPrefix (s.data.toList.drop pos) [239,191,189]=false then false else Uf s b (pos+(Utf8.decode s pos).2):=by show(if pos<s.size then _ else _)=_;rw[Du h]
set_option maxHeartbeats 1000000 in
set_option maxRecDepth 1000000 in
def AvN (s:ByteArray) (w:World) (R:Bool) (hR:Uf s s.size 0=R) (hs:s.size<4294967281) :
 Calls Tryz.prog 263 #[.string s] w λe w'=>e= .returned (.bool R)/\Below w.heap.size w w':=by
 go_enter Tryz.func263,Tryz.ntmps263
 go_wp2
 go_loopw [] (λw'=> ∃(pos b:Nat),w'=w.iter s pos/\Uf s b pos=R/\s.size<=pos+b) (λw'=>s.size - w'.iterPos w.heap.size)
 case atStart=>exact⟨0,s.size,rfl,hR,by omega⟩
 case round =>
  obtain⟨pos,b,rfl,hc,hb⟩:=hrel;by_cases hp:pos<s.size
  .have hnx: ∀ ty,(Instr.next (.pointer (some ⟨w.heap.size,0,none⟩)) true ty).run Tryz.prog (w.iter s pos)=_:=λty=>run_next_any w s pos ty hp;have hwd:=ApV s pos;cases b with
   | zero=>omega
   | succ b =>
    rw[AvM s b pos hp]at hc;have hpx:=λw=>Tryz.strings_HasPrefix (s.extract pos s.size) ⟨#[239,191,189]⟩ w;generalize h4:Lib.hasPrefix (s.extract pos s.size).data.toList ((⟨#[239,191,189]⟩:ByteArray)).data.toList=B at hpx;generalize Utf8.decode s pos=D at hnx hwd hc;obtain⟨c,k⟩:=D;dsimp only at hnx hwd hc;obtain⟨C,hC⟩: ∃ C:Int,(c:Int)=C:=⟨_,rfl⟩
    rw[hC]at hnx;by_cases h1:c<32
    .have t1:C<32:=by omega
     rw[Du (Or.inl h1)]at hc;subst hc;clear h1 hC hR
     go_wp2
     go_ret
     exact⟨rfl,fF _ _ _⟩
    .have t1:32<=C:=by omega
     by_cases h2:c=127
     .have t2:(C==127)=true:=by simp;omega
      rw[Du (Or.inr h2)]at hc;subst hc;clear h1 h2 hC hR
      go_wp2
      all_goals try (exfalso;omega)
      go_ret
      exact⟨rfl,fF _ _ _⟩
     .have t2:(C==127)=false:=by simp;omega
      rw[A0g]at hc;by_cases h3:c=65533
      .have t3:(C==65533)=true:=by simp;omega
       cases B with
       | false =>
        rw[Du ⟨h3,by rw[<- Lib.extract_to_end];exact h4⟩]at hc;subst hc;clear h1 h2 h3 h4 hC hR
        go_wp2_with (go_at_call 314;refine(hpx _).mono ?_;rintro e w' ⟨rfl,rfl⟩)
        all_goals try (exfalso;omega)
        go_ret
        exact⟨rfl,fF _ _ _⟩
       | true =>
        rw[Dt (λh=>by have h5:=h.2;rw[<- Lib.extract_to_end]at h5;exact absurd (h4.symm.trans h5) (by decide))]at hc;clear h1 h2 h3 hC
        go_wp2_with (go_at_call 314;refine(hpx _).mono ?_;rintro e w' ⟨rfl,rfl⟩)
        all_goals try (exfalso;omega)
        go_roundw
        case rel=>exact⟨pos+k,b,rfl,hc,by omega⟩
        case measure =>simp;omega
      .have t3:(C==65533)=false:=by simp;omega
       rw[Dt (λh=>h3 h.1)]at hc;clear h1 h2 h3 hC
       go_wp2
       all_goals try (exfalso;omega)
       go_roundw
       case rel=>exact⟨pos+k,b,rfl,hc,by omega⟩
       case measure =>simp;omega
  .have hnx: ∀ ty,(Instr.next (.pointer (some ⟨w.heap.size,0,none⟩)) true ty).run Tryz.prog (w.iter s pos)=_:=λty=>run_next_end w s pos ty hp
   go_wp2
   go_ret
   rw[Axz s b pos hp]at hc;rw[<- hc];exact⟨rfl,fF _ _ _⟩
end Go.Proofs.YtacidcemomccpaaGreatDoor
namespace Go.Proofs.YtacidcemomccpaaGreatDoor.Vm
open Go.Proofs Go.RowKit
noncomputable def Agv (N:Nat):Sig:=.of [.cell false .str] [.cell false .bool] (λa=>xE N a)
def Ako (N:Nat):Spec Tryz.prog 263 (Agv N) :=
 VG rfl rfl (enters (fn:=Tryz.f263) (by kernel_rfl) (by kernel_rfl) (by decide)) λO w (a:Bs) (o:Bool) hI h=>by
  have h:(bif decide (List.length a<4294967281)then some (ArB a)else none)=some o:=h;cases hc:decide (List.length a<4294967281)with
  | false=>rw[hc]at h;cases h
  | true =>
  rw[hc]at h;injection h with h;exact(AvN ⟨List.toArray a⟩ w o h (DC hc)).mono λe w' hq=>hq
end Go.Proofs.YtacidcemomccpaaGreatDoor.Vm
namespace Go.Proofs.YtacidcemomccpaaGreatDoor.Vm
open Classical
noncomputable def allH {α :Type} (l:List Bool) (r:Option α):Option α :=
 (fun(_:Nat)=>List.rec (motive:=λ_=>Option α) r (λc _ ih=>Bool.rec (motive:=λ_=>Option α) none ih c) l) Ae8
theorem Zd {α :Type}: ∀(l:List Bool) (r:Option α),allH l r=allT l r:=by
 intro l
 induction l with
 | nil=>intro r;rfl
 | cons c cs ih=>intro r;cases c<;>first | rfl | exact ih r
noncomputable def Aap {α β :Type} (l:List α):(List α -> β)-> β :=
 (fun(_:Nat)=>List.rec (motive:=λ_=>(List α -> β)-> β) (λk=>k []) (λa _ ih k=>ih (λl'=>k (a::l'))) l) Ae8
def Aaq {α β :Type}: ∀(l:List α) (k:List α -> β),Aap l k=k l:=by
 intro l
 induction l with
 | nil=>intro k;rfl
 | cons a r ih=>simp_all[Aap]
noncomputable def Aar {β :Type} (st:St) (k:St-> β): β :=Aap st.tmps λtm=>Aap st.Jr λob=>k ⟨tm,ob⟩
def Aas {β :Type} (st:St) (k:St-> β):Aar st k=k st:=by unfold Aar;rw[Aaq,Aaq]
def Ap9 {ρ :Type} (v:A) (k:A->Option ρ):Option ρ :=match v with
 | .bool b=>Jv b λb=>k (.bool b)
 | .cnd g (.bool b)=>Jv b λb=>k (.cnd g (.bool b))
 | v=>k v
def Auy {ρ :Type} (v:A) (k:A->Option ρ):Ap9 v k=k v:=by unfold Ap9;split<;>rfl
def bnd (C:Ctx) (o:Oper):Bool:=match o.dst with
 | some d=>has C.binds d
 | none=>false
noncomputable def goV {α :Type} (C:Ctx) (o:Oper) (st:St) (δ :Dl) (k:St->Option α):Option α :=match bnd C o with
 | true=>Ap9 δ.val λv=>Aar (apply st o {δ with val:=v}) k
 | false=>Aar (apply st o δ) k
theorem AlC {α :Type} (C:Ctx) (o:Oper) (st:St) (δ :Dl) (k:St->Option α):goV C o st δ k=k (apply st o δ):=by
 unfold goV;cases bnd C o with
 | true=>exact(Auy _ _).trans (Aas _ _)
 | false=>exact Aas _ _
noncomputable def opsE {α :Type} (C:Ctx) (ops l:List Oper):St->(St->Option α)->Option α :=
 (fun(_:Nat)=>List.rec (motive:=λ_=>St->(St->Option α)->Option α) (λst K=>K st) (λo _ ih st K=>match fD C o with
   | none=>allH (KI C ops o st).ok (goV C o st (KI C ops o st) λst'=>ih st' K)
   | some (f,q)=>match Ag7 o st q with
    | true=>allH (KI (C.put f q.1) ops o st).ok (ih (apply st o (KI (C.put f q.1) ops o st)) K)
    | false=>allH (KI (C.put f q.2.1) ops o st).ok (ih (apply st o (KI (C.put f q.2.1) ops o st)) K)) l) Ae8
def AoX {α :Type} (C:Ctx) (ops:List Oper): ∀(l:List Oper) (st:St) (K:St->Option α),opsE C ops l st K=WU C ops l st K:=by
 intro l
 induction l with
 | nil=>intro st K;rfl
 | cons o r ih =>
  intro st K
  show(match fD C o with
   | none=>allH (KI C ops o st).ok (goV C o st (KI C ops o st) λst'=>opsE C ops r st' K)
   | some (f,q)=>match Ag7 o st q with
    | true=>allH (KI (C.put f q.1) ops o st).ok (opsE C ops r (apply st o (KI (C.put f q.1) ops o st)) K)
    | false=>allH (KI (C.put f q.2.1) ops o st).ok (opsE C ops r (apply st o (KI (C.put f q.2.1) ops o st)) K))=_
  unfold WU;cases fD C o with
  | none=>grind[Zd,AlC]
  | some q =>obtain⟨f,q⟩:=q;dsimp only;cases Ag7 o st q<;>(dsimp only[cond_true,cond_false];rw[Zd,ih])
noncomputable def AqU {α :Type} (C:Ctx) (ops l:List Oper) (st:St) (K:St->Option α):Option α :=
 match jJ l with
 | some e=>iJ C e.cs st λst=>allH (AbU C e (MH e.v st)).ok (goV C e.o (MH e.v st) (AbU C e (MH e.v st)) λst'=>opsE C ops e.rest st' K)
 | none=>opsE C ops l st K
def Avk {α :Type} (C:Ctx) (ops l:List Oper) (st:St) (K:St->Option α):AqU C ops l st K=vT C ops l st K:=by
 unfold AqU vT;cases jJ l with
 | none=>exact AoX C ops l st K
 | some e =>dsimp only;congr 1;funext st;rw[Zd,AlC];congr 1;exact AoX C ops e.rest _ K
noncomputable def AqW {α :Type} (C:Ctx) (ops l:List Oper):St->(St->Option α)->Option α :=
 (fun(_:Nat)=>List.rec (motive:=λ_=>St->(St->Option α)->Option α) (λst K=>K st) (λo _ ih st K=>allH (KI C ops o st).ok (goV C o st (KI C ops o st) λst'=>ih st' K)) l) Ae8
def AwZ {α :Type} (C:Ctx) (ops:List Oper): ∀(l:List Oper) (st:St) (K:St->Option α),AqW C ops l st K=WV C ops l st K:=by
 intro l
 induction l with
 | nil=>intro st K;rfl
 | cons o r ih =>intro st K;show allH _ (goV C o st _ λst'=>AqW C ops r st' K)=allT _ (WV C ops r _ K);rw[Zd,AlC,ih]
noncomputable def Afq (C:Ctx) (ops:List Oper):List Oper->List (List Nat)->St->List L6
 | [],_,_=>[]
 | o::r,acc,st=>match KI C ops o st,(Yr o).flatMap (λe=>e::acc.getD e [])with
  | δ,an=>⟨o,δ,LH o st (KD o st),oneOf C o.op (KD o st),an⟩::Aar (apply st o δ) λst'=>Afq C ops r (acc++[an]) st'
def AsC (C:Ctx) (ops:List Oper): ∀(l:List Oper) (acc:List (List Nat)) (st:St),Afq C ops l acc st=Vy C ops l acc st:=by
 intro l
 induction l with
 | nil=>intro acc st;rfl
 | cons o r ih =>intro acc st;unfold Afq Vy;dsimp only;rw[Aas,ih]
noncomputable def Ap2:List Oper->List Nat->List Nat
 | [],_=>[]
 | o::r,acc=>(Yr o).foldr (λe m=>((2 ^ e) ||| acc.getD e 0) ||| m) 0::Aap (acc++[(Yr o).foldr (λe m=>((2 ^ e) ||| acc.getD e 0) ||| m) 0]) λacc'=>Ap2 r acc'
def AfW (ops:List Oper) (i:Nat) (x:L6):List L6->List Nat->Bool
 | [],_=>true
 | y::r,b=>(Vp y.news x.says&&Vp y.news x.keys&&((b.headD 0).testBit i||indep ops x y))&&AfW ops i x r b.tail
def AfV (ops:List Oper):Nat->List L6->List Nat->Bool
 | _,[],_=>true
 | i,x::r,b=>AfW ops i x r b.tail&&AfV ops (i+1) r b.tail
def Acj:List L6->List Nat->Prop
 | [],_=>True
 | y::r,b=>(∀ i,has y.anc i=(b.headD 0).testBit i)/\Acj r b.tail
theorem Ats (ops:List Oper) (i:Nat) (x:L6): ∀(r:List L6) (b:List Nat),Acj r b->AfW ops i x r b=r.all (bT ops i x):=by
 intro r
 induction r with
 | nil=>intro b _;rfl
 | cons y r ih=>grind[AfW,Acj,bT]
def Atr (ops:List Oper): ∀(r:List L6) (i:Nat) (b:List Nat),Acj r b->AfV ops i r b=iI ops i r:=by
 intro r
 induction r with
 | nil=>intro i b _;rfl
 | cons x r ih=>grind[AfV,iI,Ats,Acj]
def AeN (acc:List (List Nat)) (accB:List Nat) (h: ∀ e i,has (acc.getD e []) i=(accB.getD e 0).testBit i) (i:Nat): ∀ es:List Nat,has (es.flatMap λe=>e::acc.getD e []) i=(es.foldr (λe m=>((2 ^ e) ||| accB.getD e 0) ||| m) 0).testBit i:=by
 intro es
 induction es with
 | nil=>grind[has]
 | cons e r ih =>
  rw[Fq,List.foldr_cons,Nat.testBit_or,Nat.testBit_or,Nat.testBit_two_pow,<- ih,<- h e i]
  have hb:Nat.beq i e=decide (e=i):=by
   by_cases hh:e=i
   .simp_all[has]
   .rw[Dq hh];apply Gl.2;intro h;exact hh (Dx h).symm
  all_goals grind[has]
def Arm (C:Ctx) (ops:List Oper): ∀(l:List Oper) (acc:List (List Nat)) (accB:List Nat) (st:St),acc.length=accB.length->(∀ e i,has (acc.getD e []) i=(accB.getD e 0).testBit i)->Acj (Vy C ops l acc st) (Ap2 l accB):=by
 intro l
 induction l with
 | nil=>intro acc accB st _ _;trivial
 | cons o r ih =>
  intro acc accB st hl h;unfold Vy Ap2;dsimp only;rw[Aaq];refine⟨λi=>AeN acc accB h i _,ih _ _ _ (by simp [hl]) λe i=> ?_⟩;rcases Nat.lt_trichotomy e acc.length with he | he | he
  .rw[Dn,Dn,Ez he,Ez (by omega),<- Dn,<- Dn];exact h e i
  .rw[Dn,Dn,EI (by omega),EI (by omega),show e - acc.length=0 by omega,show e - accB.length=0 by omega];exact AeN acc accB h i _
  .rw[Dn,Dn,Ed (by simp;omega),Ed (by simp;omega)];show false=Nat.testBit 0 i;rw[Nat.zero_testBit]
noncomputable def AgY (C:Ctx) (ops:List Oper) (st:St):Bool :=
 match Afq C ops ops [] st with
 | fs=>ordered ops&&AfV ops 0 fs (Ap2 ops [])&&(fs.flatMap L6.news).all st.fresh&&sorted st.Jr
def ApZ (C:Ctx) (ops:List Oper) (st:St):AgY C ops st=TN C ops st:=by unfold AgY TN;rw[AsC];dsimp only;rw[Atr _ _ _ _ (Arm C ops ops [] [] st rfl λe i=>by show false=Nat.testBit 0 i;rw[Nat.zero_testBit])]
def qZ {ρ :Type} (C:Ctx) (key:Nat) (st:St) (K:St->Option ρ):Option ρ :=
 match norm C key st with
 | (ok,st')=>match ok with
  | true=>K st'
  | false=>none
theorem AfK {ρ :Type} (C:Ctx) (key:Nat) (st:St) (K:St->Option ρ):qZ C key st K=UR C key st K:=by unfold qZ UR;generalize norm C key st=q;obtain⟨ok,st'⟩:=q;cases ok<;>rfl
def Y5 {ρ :Type} (C:Ctx) (kind:Nat) (c:Code) (st:St) (K:St->Option ρ):Option ρ :=
 match MI c with
 | some n=>qZ C (4*n+kind) st K
 | none=>(fun(_:Nat)=>K st) Ae8
def jW {ρ :Type} (C:Ctx) (kind:Nat) (c:Code) (st:St) (K:St->Option ρ):Y5 C kind c st K=meet C kind c st K:=by grind[Y5,meet,MI,AfK]
inductive HK where
 | b | i (k:IntKind) | s | l (t:Ty) | ln (t:Ty) | n | m (kt vt:Ty)
def HK.T:HK->Type
 | .b=>Bool
 | .i _=>Int
 | .s=>List UInt8
 | .l t=>List t.Val
 | .ln t=>List t.Val
 | .n=>Nat
 | .m kt vt=>List (kt.Val×vt.Val)
def HK.enc:(h:HK)->h.T->A
 | .b,v=>.bool v
 | .i k,v=>.int k v
 | .s,v=>.str v
 | .l t,v=>.sl ⟨t,v⟩
 | .ln t,v=>.sln ⟨t,v⟩
 | .n,v=>.fn v
 | .m kt vt,v=>.ump ⟨kt,vt,v⟩
def Awn:A->Nat | .fn n=>n | _=>0
def isFn:A->Bool | .fn _=>true | _=>false
def HK.is:HK->A->Bool
 | .b,a=>a.isB
 | .i k,a=>a.isI k
 | .s,a=>a.isS
 | .l t,a=>a.Ahp t
 | .ln t,a=>a.Aca t
 | .n,a=>isFn a
 | .m kt vt,a=>a.uY kt vt
def HK.dec:(h:HK)->A->h.T
 | .b,a=>a.toB
 | .i _,a=>a.toI
 | .s,a=>a.toS
 | .l t,a=>(a.toL.cast t).getD []
 | .ln t,a=>(a.toL.cast t).getD []
 | .n,a=>Awn a
 | .m kt vt,a=>(a.toM.cast kt vt).getD []
def HK.Ahb {h:HK} {a:A} (ha:h.is a=true):h.enc (h.dec a)=a:=by
 cases h with
 | b=>cases a<;>first | rfl | cases ha
 | i k =>
  cases a<;>first
   | (rename_i k' n;have:=A.Rf (show A.kEq k k'=true from ha);subst this;rfl)
   | cases ha
 | s=>cases a<;>first | rfl | cases ha
 | l t =>
  cases a<;>first
   | (rename_i l
      have e:l.t=t:=DC ha;obtain⟨t',xs⟩:=l;dsimp only at e;subst e;show A.sl ⟨t',((Sl.cast ⟨t',xs⟩ t').getD [])⟩=_;rw[Sl.aU];rfl)
   | cases ha
 | ln t =>
  cases a<;>first
   | (rename_i l
      have e:l.t=t:=DC ha;obtain⟨t',xs⟩:=l;dsimp only at e;subst e;show A.sln ⟨t',((Sl.cast ⟨t',xs⟩ t').getD [])⟩=_;rw[Sl.aU];rfl)
   | cases ha
 | n=>cases a<;>first | rfl | cases ha
 | m kt vt =>obtain⟨l,rfl,h1,h2⟩:=uZ (show A.uY kt vt a=true from ha);obtain⟨k,v,xs⟩:=l;dsimp only at h1 h2;subst h1;subst h2;show A.ump ⟨k,v,((Mp.cast ⟨k,v,xs⟩ k v).getD [])⟩=_;rw[Mp.aU];rfl
def pr2 (α β :Type):List HK->Type
 | []=> α
 | _::_=> α × β
def HV:List HK->Type
 | []=>Unit
 | h::r=>pr2 h.T (HV r) r
def hdH (h:HK):(r:List HK)->pr2 h.T (HV r) r->h.T
 | [],v=>v
 | _::_,v=>v.1
def tlH (h:HK):(r:List HK)->pr2 h.T (HV r) r->HV r
 | [],_=>()
 | _::_,v=>v.2
def mkH (h:HK):(r:List HK)->h.T->HV r->pr2 h.T (HV r) r
 | [],a,_=>a
 | _::_,a,b=>(a,b)
def AxO (h:HK) (r:List HK) (a:h.T) (b:HV r):hdH h r (mkH h r a b)=a:=by cases r<;>rfl
def Ayz (h:HK) (r:List HK) (a:h.T) (b:HV r):tlH h r (mkH h r a b)=b:=by cases r<;>rfl
def HV.enc:(hs:List HK)->HV hs->List A
 | [],_=>[]
 | h::r,v=>h.enc (hdH h r v)::HV.enc r (tlH h r v)
def HV.dec:(hs:List HK)->List A->HV hs
 | [],_=>()
 | h::r,xs=>mkH h r (h.dec (xs.headD .undef)) (HV.dec r xs.tail)
def HV.Is:List HK->List A->Prop
 | [],[]=>True
 | h::r,x::xs=>h.is x=true/\HV.Is r xs
 | _,_=>False
def HV.Ahb: ∀(hs:List HK) (xs:List A),HV.Is hs xs->HV.enc hs (HV.dec hs xs)=xs:=by
 intro hs
 induction hs with
 | nil=>intro xs h;cases xs with | nil=>rfl | cons _ _=>cases h
 | cons h r ih =>
  intro xs hx;cases xs with
  | nil=>cases hx
  | cons x xs =>show h.enc (hdH h r (mkH h r (h.dec x) (HV.dec r xs)))::HV.enc r (tlH h r (mkH h r (h.dec x) (HV.dec r xs)))=_;rw[AxO,Ayz,HK.Ahb hx.1,ih xs hx.2]
def HV.Is.append: ∀ {hs hs':List HK} {xs ys:List A},HV.Is hs xs->HV.Is hs' ys->HV.Is (hs++hs') (xs++ys):=by
 intro hs
 induction hs with
 | nil=>intro hs' xs ys h h';cases xs with | nil=>exact h' | cons _ _=>cases h
 | cons h r ih=>intro hs' xs ys hx h';cases xs with | nil=>cases hx | cons x xs=>exact⟨hx.1,ih hx.2 h'⟩
def HV.Is.length: ∀ {hs:List HK} {xs:List A},HV.Is hs xs->xs.length=hs.length:=by
 intro hs
 induction hs with
 | nil=>intro xs h;cases xs with | nil=>rfl | cons _ _=>cases h
 | cons h r ih=>intro xs hx;cases xs with | nil=>cases hx | cons x xs=>simp [ih hx.2]
inductive Pc where
 | h (k:HK) | oe (o off:Nat) | c (a:A)
inductive Pt where
 | i | c (p:Pc) | agg (l:List Pc) | elt (l:List Pc)
inductive Po where
 | box (l:List Pc) | arr (e:Nat) (frz:Bool) (t:Ty) | Lr (e:Nat) (frz:Bool) (t:Ty) | mp (kt vt:Ty)
structure Spe where
 ts:List (Nat×Pt)
 os:List (Nat×Po)
def Vd:A->Bool | .undef=>true | _=>false
def Xf (a:A):Bool:=a.ids.isEmpty&& !(qU a)
def same:A->A->Bool
 | .undef,.undef=>true
 | .Lt,.Lt=>true
 | .Mc,.Mc=>true
 | .bool a,.bool b=>a==b
 | .int k a,.int k' b=>A.kEq k k'&&a==b
 | .str a,.str b=>a==b
 | .sl l,.sl l'=>decide (l.t=l'.t)&&(l.xs.isEmpty&&l'.xs.isEmpty)
 | .ptr o p,.ptr o' p'=>Nat.beq o o'&&Nat.beq p p'
 | .own o,.own o'=>Nat.beq o o'
 | .Ku o i p,.Ku o' i' p'=>Nat.beq o o'&&(Nat.beq i i'&&Nat.beq p p')
 | .fn f,.fn f'=>Nat.beq f f'
 | .clo f o,.clo f' o'=>Nat.beq f f'&&Nat.beq o o'
 | .bsl o n,.bsl o' n'=>Nat.beq o o'&&Nat.beq n n'
 | .osl o n,.osl o' n'=>Nat.beq o o'&&Nat.beq n n'
 | _,_=>false
def same_eq {a b:A} (h:same a b=true):a=b:=by
 unfold same at h;split at h
 .rfl
 .rfl
 .rfl
 .rw[Gu h]
 .grind[A.Rf]
 .rw[Gu h]
 .rename_i l l';simp only[Dw,D6,G9]at h;obtain⟨t,xs⟩:=l;obtain⟨t',xs'⟩:=l';all_goals grind[same]
 all_goals simp_all[same]
namespace Pc
def hs:Pc->List HK
 | .h k=>[k]
 | .oe _ _=>[.n]
 | .c _=>[]
def nh:Pc->Nat
 | .c _=>0
 | _=>1
def emb:Pc->List A->A
 | .h _,xs=>xs.headD .undef
 | .oe o off,xs=>.Ku o (Awn (xs.headD .undef)) off
 | .c a,_=>a
def un:Pc->A->List A
 | .h _,a=>[a]
 | .oe _ _,.Ku _ i _=>[.fn i]
 | .oe _ _,_=>[.fn 0]
 | .c _,_=>[]
def fits:Pc->A->List Bool
 | .h k,a=>[k.is a]
 | .oe o off,.Ku o' _ off'=>[Nat.beq o o',Nat.beq off off']
 | .oe _ _,_=>[false]
 | .c x,a=>[same x a]
def VE {p:Pc} {a:A} (h:J6 (p.fits a)) (r:List A):p.emb (p.un a++r)=a/\(p.un a++r).drop p.nh=r/\HV.Is p.hs (p.un a):=by
 cases p with
 | h k=>exact⟨rfl,rfl,h.cons.1,trivial⟩
 | oe o off =>
  cases a<;>first
   | (have h1:=h.cons.1;have h2:=h.cons.2.cons.1
      rw[Dx h1,Dx h2];exact⟨rfl,rfl,rfl,trivial⟩)
   | exact absurd h.cons.1 (by decide)
 | c x=>exact⟨same_eq h.cons.1,rfl,trivial⟩
end Pc
def hsC:List Pc->List HK
 | []=>[]
 | p::r=>p.hs++hsC r
def nhC:List Pc->Nat
 | []=>0
 | p::r=>p.nh+nhC r
def AgZ:List Pc->List A->List A
 | [],_=>[]
 | p::r,xs=>p.emb xs::AgZ r (xs.drop p.nh)
def unC:List Pc->List A->List A
 | p::r,a::aa=>p.un a++unC r aa
 | _,_=>[]
def Afo:List Pc->List A->List Bool
 | [],[]=>[]
 | p::r,a::aa=>p.fits a++Afo r aa
 | _,_=>[false]
def Aha: ∀(l:List Pc) (aa:List A),J6 (Afo l aa)-> ∀ r,AgZ l (unC l aa++r)=aa/\(unC l aa++r).drop (nhC l)=r/\HV.Is (hsC l) (unC l aa):=by
 intro l
 induction l with
 | nil=>intro aa h r;cases aa with | nil=>exact⟨rfl,rfl,trivial⟩ | cons _ _=>exact absurd h.cons.1 (by decide)
 | cons p l ih =>
  intro aa h r;cases aa with
  | nil=>exact absurd h.cons.1 (by decide)
  | cons a aa =>
   obtain⟨h1,h2⟩:=h.append;obtain⟨e1,e2,e3⟩:=p.VE h1 (unC l aa++r);obtain⟨f1,f2,f3⟩:=ih aa h2 r;refine⟨?_,?_,e3.append f3⟩
   .grind[unC,AgZ,drop]
   .show((p.un a++unC l aa)++r).drop (p.nh+nhC l)=_;rw[Ea,<- Fj,e2,f2]
namespace Pt
def hs:Pt->List HK
 | .i=>[]
 | .c p=>p.hs
 | .agg l=>hsC l
 | .elt l=>hsC l
def nh:Pt->Nat
 | .i=>0
 | .c p=>p.nh
 | .agg l=>nhC l
 | .elt l=>nhC l
def emb:Pt->A->List A->A
 | .i,b,_=>b
 | .c p,_,xs=>p.emb xs
 | .agg l,_,xs=>.agg (AgZ l xs)
 | .elt l,_,xs=>.elt (AgZ l xs)
def un:Pt->A->List A
 | .i,_=>[]
 | .c p,a=>p.un a
 | .agg l,.agg cs=>unC l cs
 | .elt l,.elt cs=>unC l cs
 | _,_=>[]
def fits:Pt->A->A->List Bool
 | .i,b,a=>[Xf b,!(Vd a)]
 | .c p,_,a=>p.fits a
 | .agg l,_,.agg cs=>Afo l cs
 | .elt l,_,.elt cs=>Afo l cs
 | _,_,_=>[false]
def isI:Pt->Bool | .i=>true | _=>false
def VE {p:Pt} {b a:A} (h:J6 (p.fits b a)) (hi:p= .i->Xf b=true->Vd a=false->a=b) (r:List A):p.emb b (p.un a++r)=a/\(p.un a++r).drop p.nh=r/\HV.Is p.hs (p.un a):=by
 cases p with
 | i =>refine⟨(hi rfl h.cons.1 ?_).symm,rfl,trivial⟩;have:=h.cons.2.cons.1;simpa using this
 | c p=>exact p.VE h r
 | agg l =>
  cases a<;>first
   | (obtain⟨h1,h2,h3⟩:=Aha l _ h r;exact⟨congrArg A.agg h1,h2,h3⟩)
   | exact absurd h.cons.1 (by decide)
 | elt l =>
  cases a<;>first
   | (obtain⟨h1,h2,h3⟩:=Aha l _ h r;exact⟨congrArg A.elt h1,h2,h3⟩)
   | exact absurd h.cons.1 (by decide)
end Pt
def hsT:List (Nat×Pt)->List HK
 | []=>[]
 | (_,p)::r=>p.hs++hsT r
def nhT:List (Nat×Pt)->Nat
 | []=>0
 | (_,p)::r=>p.nh+nhT r
def uI:List A->Nat->List (Nat×Pt)->List A->List A
 | [],_,_,_=>[]
 | _::bs,i,[],xs=>.undef::uI bs (i+1) [] xs
 | b::bs,i,(j,p)::ts,xs=>bif Nat.beq i j then p.emb b xs::uI bs (i+1) ts (xs.drop p.nh)else .undef::uI bs (i+1) ((j,p)::ts) xs
def unT:List A->Nat->List (Nat×Pt)->List A
 | [],_,_=>[]
 | _::_,_,[]=>[]
 | a::aa,i,(j,p)::ts=>bif Nat.beq i j then p.un a++unT aa (i+1) ts else unT aa (i+1) ((j,p)::ts)
def fitsT:List A->List A->Nat->List (Nat×Pt)->List Bool
 | [],[],_,[]=>[]
 | _::bs,a::aa,i,[]=>Vd a::fitsT bs aa (i+1) []
 | b::bs,a::aa,i,(j,p)::ts=>bif Nat.beq i j then p.fits b a++fitsT bs aa (i+1) ts else Vd a::fitsT bs aa (i+1) ((j,p)::ts)
 | _,_,_,_=>[false]
def Af6 {a:A} (h:Vd a=true):a= .undef:=by cases a<;>first | rfl | cases h
def AwJ: ∀(bs aa:List A) (i:Nat) (ts:List (Nat×Pt)),J6 (fitsT bs aa i ts)->(∀ t,((t,Pt.i):Nat×Pt)∈ts->i<=t->Xf (bs.getD (t - i) .undef)=true->Vd (aa.getD (t - i) .undef)=false->aa.getD (t - i) .undef=bs.getD (t - i) .undef) ->
 ∀ r,uI bs i ts (unT aa i ts++r)=aa/\(unT aa i ts++r).drop (nhT ts)=r/\HV.Is (hsT ts) (unT aa i ts):=by
 intro bs
 induction bs with
 | nil =>
  intro aa i ts h _ r;cases aa with
  | nil=>cases ts with | nil=>exact⟨rfl,rfl,trivial⟩ | cons _ _=>exact absurd h.cons.1 (by decide)
  | cons _ _=>exact absurd h.cons.1 (by decide)
 | cons b bs ih =>
  intro aa i ts h hi r;have hstep: ∀ ts':List (Nat×Pt),(∀ t,(t,Pt.i)∈ts'->((t,Pt.i):Nat×Pt)∈ts)-> ∀(a:A) (as':List A),aa=a::as'-> ∀ t,(t,Pt.i)∈ts'->i+1<=t->Xf (bs.getD (t - (i+1)) .undef)=true->Vd (as'.getD (t - (i+1)) .undef)=false->as'.getD (t - (i+1)) .undef=bs.getD (t - (i+1)) .undef:=by all_goals grind[Pt,J6,fitsT,Xf,Vd,uI]
  cases aa with
  | nil=>cases ts<;>exact absurd h.cons.1 (by decide)
  | cons a aa =>
   cases ts with
   | nil =>
    have h':J6 (Vd a::fitsT bs aa (i+1) []):=h;obtain⟨f1,f2,f3⟩:=ih aa (i+1) [] h'.cons.2 (λt ht=>by cases ht) r;have hu:=Af6 h'.cons.1;refine⟨?_,rfl,trivial⟩;show A.undef::uI bs (i+1) [] ([]++r)=a::aa;have e0:unT aa (i+1) []=[]:=by cases aa<;>rfl
    rw[e0]at f1;rw[hu,f1]
   | cons q ts =>
    obtain⟨j,p⟩:=q;have h':J6 (bif Nat.beq i j then p.fits b a++fitsT bs aa (i+1) ts else Vd a::fitsT bs aa (i+1) ((j,p)::ts)):=h;cases hb:Nat.beq i j with
    | true =>
     rw[hb]at h';obtain⟨h1,h2⟩:=J6.append h';have hij:=Dx hb;subst hij;obtain⟨e1,e2,e3⟩:=Pt.VE h1 (λhp hpl hu=>by have:=hi i (by rw[<- hp];exact Dy) (DD _);rw[Ip]at this;exact this hpl hu) (unT aa (i+1) ts++r);obtain⟨f1,f2,f3⟩:=ih aa (i+1) ts h2 (hstep ts (λt ht=>Dz _ ht) a aa rfl) r;have u0:unT (a::aa) i ((i,p)::ts)=p.un a++unT aa (i+1) ts:=by show(bif Nat.beq i i then _ else _)=_;rw[hb];rfl
     refine⟨?_,?_,?_⟩
     .rw[u0];show(bif Nat.beq i i then _ else _)=_;rw[hb];show p.emb b ((p.un a++unT aa (i+1) ts)++r)::uI bs (i+1) ts (((p.un a++unT aa (i+1) ts)++r).drop p.nh)=_;rw[Ea,e1,e2,f1]
     .rw[u0];show((p.un a++unT aa (i+1) ts)++r).drop (p.nh+nhT ts)=_;rw[Ea,<- Fj,e2,f2]
     .rw[u0];exact e3.append f3
    | false =>
     rw[hb]at h';obtain⟨f1,f2,f3⟩:=ih aa (i+1) ((j,p)::ts) h'.cons.2 (hstep _ (λt ht=>ht) a aa rfl) r;have hu:=Af6 h'.cons.1;have u0:unT (a::aa) i ((j,p)::ts)=unT aa (i+1) ((j,p)::ts):=by show(bif Nat.beq i j then _ else _)=_;rw[hb];rfl
     refine⟨?_,?_,?_⟩
     .rw[u0];show(bif Nat.beq i j then _ else _)=_;rw[hb];show A.undef::uI bs (i+1) ((j,p)::ts) (unT aa (i+1) ((j,p)::ts)++r)=_;rw[hu,f1]
     .rw[u0];exact f2
     .rw[u0];exact f3
namespace Po
def hs:Po->List HK
 | .box l=>hsC l
 | .arr _ _ t=>[.l t]
 | .Lr _ _ _=>[]
 | .mp kt vt=>[.m kt vt]
def nh:Po->Nat
 | .box l=>nhC l
 | .arr _ _ _=>1
 | .Lr _ _ _=>0
 | .mp _ _=>1
def emb:Po->List A->Obj
 | .box l,xs=>.box (AgZ l xs)
 | .arr e f _,xs=>.arr e f (xs.headD .undef).toL
 | .Lr e f t,_=>.arr e f ⟨t,[]⟩
 | .mp _ _,xs=>.mp (xs.headD .undef).toM
def un:Po->Obj->List A
 | .box l,.box cs=>unC l cs
 | .arr _ _ _,.arr _ _ l=>[.sl l]
 | .mp _ _,.mp l=>[.ump l]
 | _,_=>[]
def fits:Po->Obj->List Bool
 | .box l,.box cs=>Afo l cs
 | .arr e f t,.arr e' f' l=>[Nat.beq e e',f==f',decide (l.t=t)]
 | .Lr e f t,.arr e' f' l=>[Nat.beq e e',f==f',decide (l.t=t),l.xs.isEmpty]
 | .mp kt vt,.mp l=>[A.uY kt vt (.ump l)]
 | _,_=>[false]
def VE {p:Po} {x:Obj} (h:J6 (p.fits x)) (r:List A):p.emb (p.un x++r)=x/\(p.un x++r).drop p.nh=r/\HV.Is p.hs (p.un x):=by
 cases p with
 | box l =>
  cases x with
  | box cs=>obtain⟨h1,h2,h3⟩:=Aha l cs h r;exact⟨congrArg Obj.box h1,h2,h3⟩
  | arr _ _ _=>exact absurd h.cons.1 (by decide)
  | mp _=>exact absurd h.cons.1 (by decide)
 | mp kt vt =>
  cases x with
  | box cs=>exact absurd h.cons.1 (by decide)
  | arr _ _ _=>exact absurd h.cons.1 (by decide)
  | mp l=>exact⟨rfl,rfl,h.cons.1,trivial⟩
 | arr e f t =>
  cases x with
  | box cs=>exact absurd h.cons.1 (by decide)
  | mp _=>exact absurd h.cons.1 (by decide)
  | arr e' f' l =>have h1:=Dx h.cons.1;have h2:=Gu h.cons.2.cons.1;have h3:=h.cons.2.cons.2.cons.1;subst h1;subst h2;exact⟨rfl,rfl,h3,trivial⟩
 | Lr e f t =>
  cases x with
  | box cs=>exact absurd h.cons.1 (by decide)
  | mp _=>exact absurd h.cons.1 (by decide)
  | arr e' f' l =>have h1:=Dx h.cons.1;have h2:=Gu h.cons.2.cons.1;have h3:=DC h.cons.2.cons.2.cons.1;have h4:=G9.1 h.cons.2.cons.2.cons.2.cons.1;obtain⟨t',xs⟩:=l;dsimp only at h3 h4;subst h1;subst h2;subst h3;subst h4;exact⟨rfl,rfl,trivial⟩
end Po
def hsO:List (Nat×Po)->List HK
 | []=>[]
 | (_,p)::r=>p.hs++hsO r
def Aqa:List (Nat×Po)->List A->List (Nat×Obj)
 | [],_=>[]
 | (n,p)::r,xs=>(n,p.emb xs)::Aqa r (xs.drop p.nh)
def unO:List (Nat×Po)->List (Nat×Obj)->List A
 | (_,p)::r,(_,x)::l=>p.un x++unO r l
 | _,_=>[]
def Ak2:List (Nat×Po)->List (Nat×Obj)->List Bool
 | [],[]=>[]
 | (n,p)::r,(k,x)::l=>Nat.beq n k::p.fits x++Ak2 r l
 | _,_=>[false]
def AwI: ∀(os:List (Nat×Po)) (l:List (Nat×Obj)),J6 (Ak2 os l)->Aqa os (unO os l)=l/\HV.Is (hsO os) (unO os l):=by
 intro os
 induction os with
 | nil=>intro l h;cases l with | nil=>exact⟨rfl,trivial⟩ | cons _ _=>exact absurd h.cons.1 (by decide)
 | cons q os ih =>
  intro l h;cases l with
  | nil=>exact absurd h.cons.1 (by decide)
  | cons y l =>obtain⟨n,p⟩:=q;obtain⟨k,x⟩:=y;have h':J6 ((Nat.beq n k::p.fits x)++Ak2 os l):=h;obtain⟨h1,h2⟩:=h'.append;have hn:=Dx h1.cons.1;subst hn;obtain⟨e1,e2,e3⟩:=p.VE h1.cons.2 (unO os l);obtain⟨f1,f3⟩:=ih l h2;refine⟨?_,e3.append f3⟩;all_goals grind[unO,Aqa,drop]
namespace Spe
def hs (sh:Spe):List HK:=hsT sh.ts++hsO sh.os
def emb (sh:Spe) (b:St) (v:HV sh.hs):St:=⟨uI b.tmps 0 sh.ts (HV.enc sh.hs v),Aqa sh.os ((HV.enc sh.hs v).drop (nhT sh.ts))⟩
def un (sh:Spe) (st:St):HV sh.hs:=HV.dec sh.hs (unT st.tmps 0 sh.ts++unO sh.os st.Jr)
def fits (sh:Spe) (b st:St):List Bool:=fitsT b.tmps st.tmps 0 sh.ts++Ak2 sh.os st.Jr
noncomputable def enter {ρ :Type} (sh:Spe) (b st:St) (j:HV sh.hs->Option ρ):Option ρ :=allH (sh.fits b st) (j (sh.un st))
def okI (sh:Spe) (W:List Nat):Bool:=sh.ts.all λq=> !(q.2.isI)|| !(has W q.1)
end Spe
def xb:Pc:=.h .b
def x64:Pc:=.h (.i .i64)
def x8:Pc:=.h (.i .u8)
def xi (k:IntKind):Pc:=.h (.i k)
def xs:Pc:=.h .s
def xl (t:Ty):Pc:=.h (.l t)
def xo (o:Nat):Pc:=.c (.own o)
def x0:Pc:=.c .Lt
def R (W:List Nat) (st st':St):Prop:= ∀ t,t∉W->Xf (st.tmps.getD t .undef)=true->st'.tmps.getD t .undef=st.tmps.getD t .undef\/st'.tmps.getD t .undef= .undef
def R.refl (W:List Nat) (st:St):R W st st:=λ_ _ _=>.inl rfl
def R.trans {W:List Nat} {a b c:St} (h1:R W a b) (h2:R W b c):R W a c:=by
 intro t ht hp;rcases h1 t ht hp with e | e
 .grind[R]
 .rcases h2 t ht (by rw[e];rfl)with e' | e';all_goals grind[R]
def R.mono {W W':List Nat} {a b:St} (h:R W a b) (hs: ∀ t∈W,t∈W'):R W' a b:=λt ht hp=>h t (λh'=>ht (hs t h')) hp
def R.of_eq {W:List Nat} {a b:St} (h:a.tmps=b.tmps):R W a b:=λ_ _ _=>.inl (by rw[h])
def R.none {W:List Nat} {a b:St} (h:R [] a b):R W a b:=h.mono (λ_ h=>by cases h)
def Spe.VE {sh:Spe} {W:List Nat} {b st:St} (h:J6 (sh.fits b st)) (hi:sh.okI W=true) (hr:R W b st):sh.emb b (sh.un st)=st:=by
 obtain⟨h1,h2⟩:=h.append;obtain⟨f1,f3⟩:=AwI _ _ h2
 obtain⟨e1,e2,e3⟩:=AwJ _ _ 0 _ h1 (λt ht _ hp hu=>by
  rw[Nat.sub_zero]at hp hu ⊢;have hw:t∉W:=by have:=DI.1 hi _ ht;intro hm;rw[show has W t=true by simp only[has,FZ];exact⟨t,hm,by simp⟩]at this;cases this
  rcases hr t hw hp with e | e
  .exact e
  .rw[e]at hu;cases hu) (unO sh.os st.Jr)
 unfold Spe.emb Spe.un;rw[HV.Ahb _ _ (show HV.Is sh.hs _ from e3.append f3),e1,e2,f1]
theorem X6 (l:List A) (d t:Nat) (v:A) (h:t≠d):(l.set d v).getD t .undef=l.getD t .undef:=by grind
def AyQ: ∀(l:List (Option Nat×Nat×Ty)) (st:St),R [] st (pzs l st):=by
 intro l
 induction l with
 | nil=>intro st;exact R.refl _ _
 | cons q r ih =>
  intro st;obtain⟨b,t,ty⟩:=q;have hset: ∀(v:A) (Jr:List (Nat×Obj)),Xf (st.tmps.getD t .undef)=false->R [] st {tmps:=st.tmps.set t v,Jr:=Jr}:=by intro v Jr hp k _ hk;all_goals grind[X6]
  cases b with
  | none =>
   unfold pzs;split
   .rename_i e;exact(hset _ _ (by rw[e];rfl)).trans (ih _)
   .rename_i o e;split
    .exact(hset _ _ (by rw[e];rfl)).trans (ih _)
    .exact ih _
   .exact ih _
  | some b =>
   unfold pzs;split
   .split
    .split
     .refine R.trans ?_ (ih _);exact R.of_eq rfl
     .exact ih _
    .exact ih _
   .exact ih _
def getD_drop (keep:List Nat): ∀(l:List A) (i t:Nat),(drop keep l i).getD t .undef=l.getD t .undef\/(drop keep l i).getD t .undef= .undef:=by
 intro l
 induction l with
 | nil=>intro i t;exact .inl rfl
 | cons a l ih =>
  intro i t;cases t with
  | zero=>grind[has,drop]
  | succ t=>exact ih (i+1) t
def Ari {f t:Nat} {a:A} (h:Xf a=true):O7 f t a=a:=by
 unfold Xf at h;rw[Dw,G9]at h;have h1:=h.1;cases a with
 | ptr o off=>cases h1
 | own o=>cases h1
 | clo _ _=>cases h1
 | bsl _ _=>cases h1
 | osl _ _=>cases h1
 | Ku o i off=>cases h1
 | agg cs =>
  have h2:cs.flatMap A.Nu=[]:=h1;rw[Iu]at h2;show A.agg (cs.map _)=A.agg cs;congr 1
  conv=>rhs;rw[<- Gf cs]
  refine Eu λc hc=> ?_;have:=h2 c hc;cases c<;>first | rfl | cases this
 | _=>rfl
def Ays: ∀(l:List (Nat×Nat)) (st:St),R [] st (Ab3 st l).2:=by
 intro l
 induction l with
 | nil=>intro st;exact R.refl _ _
 | cons q r ih =>
  intro st;obtain⟨f,t⟩:=q;unfold Ab3;cases hx:J3 st.Jr f with
  | none=>exact ih st
  | some x =>
   have h1:R [] st {tmps:=st.tmps.map (O7 f t),Jr:=(Ns (TE st.Jr f) t x).map (λp=>(p.1,Ab2 f t p.2))}:=by
    intro k _ hk;left;show(st.tmps.map (O7 f t)).getD k .undef=_;rw[Dn,Ep];rw[Dn]at hk ⊢;cases hs:st.tmps[k]? with
    | none=>rfl
    | some a =>rw[hs]at hk;exact Ari hk
   exact h1.trans (ih _)
theorem An8 (id:Nat): ∀(ts:List Nat) (l:List A) (k:Nat),k∉ts->(Ab7 id ts l).getD k .undef=l.getD k .undef:=by
 intro ts
 induction ts with
 | nil=>intro l k _;rfl
 | cons t r ih=>grind[Ab7,X6]
def Ayg: ∀(l:List (List Nat×Nat×Ty×Nat)) (st:St),(owns l st).1=true->R [] st (owns l st).2:=by
 intro l
 induction l with
 | nil=>intro st _;exact R.refl _ _
 | cons q r ih =>
  intro st h;obtain⟨ts,e,ty,id⟩:=q;unfold owns at h ⊢;cases ha:ts.any (λt=>qU (st.tmps.getD t .undef))with
  | false=>rw[ha]at h;exact ih st h
  | true =>rw[ha]at h;dsimp only[cond_true]at h ⊢;simp only[Dw]at h;refine R.trans ?_ (ih _ h.2);intro k _ hk;all_goals grind[An8,Xf]
theorem Ayb {C:Ctx} {key:Nat} {st:St} (h:(norm C key st).1=true):R [] st (norm C key st).2:=by
 unfold norm at h ⊢;split at h
 .exact R.refl _ _
 .rename_i n hn;dsimp only at h ⊢;simp only[Dw]at h;have h1:R [] st (pzs n.pz st):=AyQ _ _;have h2:R [] (pzs n.pz st) {tmps:=drop n.keep (pzs n.pz st).tmps 0,Jr:=(pzs n.pz st).Jr.filter (λp=>has (reached (drop n.keep (pzs n.pz st).tmps 0) (pzs n.pz st).Jr) p.1)}:=λt _ _=>getD_drop _ _ _ _;exact((h1.trans h2).trans (Ays _ _)).trans ((Ayg _ _ h.2).trans (R.of_eq rfl))
def uK {ρ :Type} {sh:Spe} {b st:St} {j:HV sh.hs->Option ρ} {v: ρ} (h:sh.enter b st j=some v):J6 (sh.fits b st)/\j (sh.un st)=some v:=by unfold Spe.enter at h;rw[Zd]at h;exact QJ h
theorem Ame {ρ :Type} {C:Ctx} {key:Nat} {st:St} {K:St->Option ρ} {v: ρ} (h:UR C key st K=some v): ∃ st',R [] st st'/\K st'=some v/\ ∀ K':St->Option ρ,UR C key st K'=K' st':=by
 unfold UR at h;cases hn:(norm C key st).1 with
 | false =>
  have e:norm C key st=(false,(norm C key st).2):=by rw[<- hn]
  rw[e]at h;cases h
 | true =>
  have e:norm C key st=(true,(norm C key st).2):=by rw[<- hn]
  all_goals grind[Ayb,UR]
def AaH {ρ :Type} {C:Ctx} {kind:Nat} {c:Code} {st:St} {K:St->Option ρ} {v: ρ} (h:meet C kind c st K=some v): ∃ st',R [] st st'/\K st'=some v/\ ∀ K':St->Option ρ,meet C kind c st K'=K' st':=by
 unfold meet at h;cases hf:MI c with
 | none=>rw[hf]at h;exact⟨st,R.refl _ _,h,λK'=>by unfold meet;rw[hf]⟩
 | some n=>grind[Ame,meet]
structure Lk where
 j:List (Nat×Spe)
 l:List (Nat×Spe×List (Nat×Spe))
def Aq8 {α :Type}:List (Nat× α)->Nat->Option α
 | [],_=>none
 | (k,x)::r,n=>bif Nat.beq k n then some x else Aq8 r n
def Af8 (L:Lk) (b:Code):Option Spe:=match MI b with
 | some n=>Aq8 L.j (4*n+1)
 | none=>none
def AfC (L:Lk) (c:Code):Option (Spe×List (Nat×Spe)):=match MI c with
 | some n=>Aq8 L.l (4*n+2)
 | none=>none
def YT:List (Nat×Spe)->Type
 | []=>Unit
 | [(_,sh)]=>HV sh.hs
 | (_,sh)::q::r=>HV sh.hs ⊕ YT (q::r)
noncomputable def Aan {ρ :Type}:(ex:List (Nat×Spe))->Nat->St->St->(YT ex->Option ρ)->Option ρ
 | [],_,_,_,_=>none
 | [(i,sh)],id,b,st,kx=>match Nat.beq i id with
  | true=>sh.enter b st kx
  | false=>none
 | (i,sh)::q::r,id,b,st,kx=>match Nat.beq i id with
  | true=>sh.enter b st (λv=>kx (.inl v))
  | false=>Aan (q::r) id b st (λy=>kx (.inr y))
noncomputable def Afk {ρ :Type}:(ex:List (Nat×Spe))->St->(Ex->St->Option ρ)->YT ex->Option ρ
 | [],_,_=>λ_=>none
 | [(i,sh)],b,K=>λv=>K (.exit i) (sh.emb b v)
 | (i,sh)::q::r,b,K=>Sum.elim (λv=>K (.exit i) (sh.emb b v)) (Afk (q::r) b K)
noncomputable def Aci {ρ :Type} (mt:St->(St->Option ρ)->Option ρ) (body:St->(Ex->St->Option ρ)->Option ρ) (n:Nat):St->(Ex->St->Option ρ)->Option ρ :=
 (fun(_:Nat)=>Nat.rec (motive:=λ_=>St->(Ex->St->Option ρ)->Option ρ) (λ_ _=>none) (λ_ ih st K=>body st fun
   | .normal,st'=>mt st' λst''=>ih st'' K
   | .exit id,st'=>K (.exit id) st') n) Ae8
noncomputable def exe {ρ :Type} (C:Ctx) (N:Nat) (L:Lk) (fin:St->Option ρ):Code->St->(Ex->St->Option ρ)->Option ρ
 | .skip,st,K=>K .normal st
 | .region id ops false,st,K=>split C id ops.toList st λC=>AqU C ops.toList ops.toList st λst'=>K .normal st'
 | .region id ops true,st,K=>split C id ops.toList st λC=>match AgY C ops.toList st with
  | true=>AqW C ops.toList ops.toList st λst'=>K .normal st'
  | false=>none
 | .seq a b,st,K=>match Af8 L b with
  | some sh=>Ld (λj=>exe C N L fin a st fun
   | .normal,st'=>Y5 C 1 b st' λst''=>sh.enter st st'' j
   | .exit id,st'=>K (.exit id) st') (λx=>exe C N L fin b (sh.emb st x) K)
  | none=>exe C N L fin a st fun
   | .normal,st'=>Y5 C 1 b st' λst''=>exe C N L fin b st'' K
   | .exit id,st'=>K (.exit id) st'
 | .cond c a b,st,K=>match KZ st.tmps c with
  | .bool t=>match t with
   | true=>exe C N L fin a st K
   | false=>exe C N L fin b st K
  | .cnd g (.bool t)=>match g with
   | true=>match t with
    | true=>exe C N L fin a st K
    | false=>exe C N L fin b st K
   | false=>none
  | _=>none
 | .block id c,st,K=>exe C N L fin c st fun
  | .exit j,st'=>match Nat.beq j id with
   | true=>K .normal st'
   | false=>K (.exit j) st'
  | .normal,st'=>K .normal st'
 | .loop c,st,K=>Y5 C 2 c st λb=>match AfC L c with
  | some (h,ex)=>match (h.fits b b).all id with
   | true=>Jy (λx k kx=>exe C N L fin c (h.emb b x) fun
    | .normal,st'=>Y5 C 2 c st' λst''=>h.enter b st'' k
    | .exit id,st'=>Aan ex id b st' kx) N (h.un b) (Afk ex b K)
   | false=>Aci (Y5 C 2 c) (exe C N L fin c) N b K
  | none=>Aci (Y5 C 2 c) (exe C N L fin c) N b K
 | .scope c,st,K=>exe C N L fin c st K
 | .exit id,st,K=>qZ C (4*id+3) st λst'=>K (.exit id) st'
 | .label _,st,K=>K .normal st
 | .ret,st,_=>fin st
 | _,_,_=>none
def writes:Code->List Nat
 | .region _ ops _=>ops.toList.filterMap (·.dst)
 | .seq a b=>writes a++writes b
 | .cond _ a b=>writes a++writes b
 | .block _ c=>writes c
 | .loop c=>writes c
 | .scope c=>writes c
 | _=>[]
def okJ (W:List Nat):Option Spe->Bool
 | some sh=>sh.okI W
 | none=>true
def okX (W:List Nat):Option (Spe×List (Nat×Spe))->Bool
 | some (h,ex)=>h.okI W&&ex.all (λq=>q.2.okI W)
 | none=>true
def okL (L:Lk):Code->Bool
 | .seq a b=>okL L a&&okL L b&&okJ (writes a) (Af8 L b)
 | .cond _ a b=>okL L a&&okL L b
 | .block _ c=>okL L c
 | .scope c=>okL L c
 | .loop c=>okL L c&&okX (writes c) (AfC L c)
 | _=>true
def AyP (st:St) (o:Oper) (δ :Dl):R (ZQ o) st (apply st o δ):=by
 intro t ht _;left;show(put st.tmps o.dst δ.val).getD t .undef=_;cases hd:o.dst with
 | none=>rfl
 | some d =>refine X6 _ _ _ _ λe=>ht ?_;simp [ZQ,hd,e]
def AeD {α :Type} {l:List Bool} {x y:Option α} {v: α} (h:allT l x=some v) (hy:x=some v->y=some v):allT l y=some v:=by
 induction l with
 | nil=>exact hy h
 | cons c cs ih=>grind[allT]
def Atw {st st':St} {o:Oper} {δ :Dl} {r:List Oper} (hr:R (r.filterMap (·.dst)) (apply st o δ) st'):R ((o::r).filterMap (·.dst)) st st' :=
 ((AyP st o δ).mono (λt ht=>by
    cases hd:o.dst with
    | none=>simp [ZQ,hd]at ht
    | some d=>simp [ZQ,hd]at ht;simp [hd,ht])).trans (hr.mono (λt ht=>by
    cases hd:o.dst with
    | none=>simpa [hd]using ht
    | some d=>simp only[List.filterMap_cons,hd];exact Dz _ ht))
def Ayf {ρ :Type} {C:Ctx} {ops:List Oper} {v: ρ}: ∀(l:List Oper) (st:St) (K K':St->Option ρ),(∀ st',R (l.filterMap (·.dst)) st st'->K st'=some v->K' st'=some v)->WV C ops l st K=some v->WV C ops l st K'=some v:=by
 intro l
 induction l with
 | nil=>intro st K K' hK h;exact hK st (R.refl _ _) h
 | cons o r ih =>intro st K K' hK h;have h':allT (KI C ops o st).ok (WV C ops r (apply st o (KI C ops o st)) K)=some v:=h;show allT (KI C ops o st).ok (WV C ops r (apply st o (KI C ops o st)) K')=some v;exact AeD h' (ih _ K K' λst' hr=>hK st' (Atw hr))
def Awp {ρ :Type} {C:Ctx} {ops:List Oper} {v: ρ}: ∀(l:List Oper) (st:St) (K K':St->Option ρ),(∀ st',R (l.filterMap (·.dst)) st st'->K st'=some v->K' st'=some v)->WU C ops l st K=some v->WU C ops l st K'=some v:=by
 intro l
 induction l with
 | nil=>intro st K K' hK h;exact hK st (R.refl _ _) h
 | cons o r ih =>
  intro st K K' hK h;have one: ∀ C':Ctx,allT (KI C' ops o st).ok (WU C ops r (apply st o (KI C' ops o st)) K)=some v->allT (KI C' ops o st).ok (WU C ops r (apply st o (KI C' ops o st)) K')=some v:=λC' h'=>AeD h' (ih _ K K' λst' hr=>hK st' (Atw hr));unfold WU at h ⊢;cases ha:fD C o with
  | none=>rw[ha]at h;exact one C h
  | some q =>
   obtain⟨f,q⟩:=q;rw[ha]at h;dsimp only at h ⊢;cases hb:Ag7 o st q with
   | true=>rw[hb]at h;exact one _ h
   | false=>rw[hb]at h;exact one _ h
def At3 {ρ :Type} {C:Ctx} {v: ρ}: ∀(cs:List Clo) (st:St) (K K':St->Option ρ),(∀ st',R (P7 cs) st st'->K st'=some v->K' st'=some v)->iJ C cs st K=some v->iJ C cs st K'=some v:=by
 intro cs
 induction cs with
 | nil=>intro st K K' hK h;exact hK st (R.refl _ _) h
 | cons c cs ih =>intro st K K' hK h;refine AeD h (ih _ K K' λst' hr=>hK st' ?_);intro t ht hp;have ht:t∉c.t::c.u::P7 cs:=ht;simp only[D7,not_or]at ht;have e:(MH c.u {st with tmps:=st.tmps.set c.t (qJ C st c).val}).tmps.getD t .undef=st.tmps.getD t .undef:=(X6 _ _ _ _ ht.2.1).trans (X6 _ _ _ _ ht.1);have:=hr t ht.2.2 (by rw[e];exact hp);rwa [e]at this
def Aye {ρ :Type} {C:Ctx} {ops:List Oper} {v: ρ} (l:List Oper) (st:St) (K K':St->Option ρ) (hK: ∀ st',R (l.filterMap (·.dst)) st st'->K st'=some v->K' st'=some v) (h:vT C ops l st K=some v):vT C ops l st K'=some v:=by
 unfold vT at h ⊢;cases he:jJ l with
 | none=>rw[he]at h;exact Awp l st K K' hK h
 | some e =>
  rw[he]at h;dsimp only at h ⊢;obtain⟨h1,h2,h3,_⟩:=AcZ he;obtain⟨_,_,_,_,_,_,q3,_⟩:=uH h3
  have hdst: ∀ t,t∉l.filterMap (·.dst)->t∉P7 e.cs/\t≠e.v/\e.o.dst≠some t/\t∉e.rest.filterMap (·.dst):=by
   intro t ht;rw[h1]at ht;simp only[List.filterMap_append,DN,not_or,List.filterMap_cons,q3]at ht;refine⟨λhm=>ht.1 ?_,λe'=> ?_,λe'=> ?_,λhm=> ?_⟩
   .obtain⟨c,hc,hm⟩:=Eg.1 hm;obtain⟨_,_,_,_,g3,g4,_⟩:=Aad (h2 c hc);simp only[D7,Fe,GN]at hm;rcases hm with rfl | rfl
    .exact GM.2 ⟨c.o,Eg.2 ⟨c,hc,by simp⟩,g3⟩
    .exact GM.2 ⟨c.q,Eg.2 ⟨c,hc,by simp⟩,g4⟩
   .exact ht.2 (by rw[e'];exact Dy)
   .refine ht.2 (Dz _ ?_);rw[e'];exact Dy
   .refine ht.2 (Dz _ ?_);cases hd:e.o.dst with
    | none=>exact hm
    | some d=>exact Dz _ hm
  refine At3 e.cs st _ _ (λst1 hr1 h=>AeD h (Awp e.rest _ K K' λst' hr=>hK st' ?_)) h;intro t ht hp;obtain⟨d1,d2,d3,d4⟩:=hdst t ht
  have e1:(apply (MH e.v st1) e.o (AbU C e (MH e.v st1))).tmps.getD t .undef=st1.tmps.getD t .undef:=by
   refine Ey ?_ (X6 st1.tmps e.v t .undef d2);show(put (MH e.v st1).tmps e.o.dst _).getD t .undef=(MH e.v st1).tmps.getD t .undef;cases hd:e.o.dst with
   | none=>rfl
   | some d=>exact X6 _ _ _ _ λe'=>d3 (by rw[hd,e'])
  rcases hr1 t d1 hp with h' | h'
  .have:=hr t d4 (by rw[e1,h'];exact hp);rw[e1,h']at this;exact this
  .have:=hr t d4 (by rw[e1,h'];rfl);rw[e1,h']at this;exact .inr (by rcases this with h | h<;>exact h)
def Aqd {ρ :Type} {W:List Nat} {b st:St} {K:Ex->St->Option ρ} {v: ρ} {id:Nat} (hr:R W b st): ∀(ex:List (Nat×Spe)),ex.all (λq=>q.2.okI W)=true->Aan ex id b st (Afk ex b K)=some v->K (.exit id) st=some v:=by
 have one: ∀(i:Nat) (sh:Spe),sh.okI W=true->Nat.beq i id=true->sh.enter b st (λv=>K (.exit i) (sh.emb b v))=some v->K (.exit id) st=some v:=by intro i sh ho hb h;obtain⟨h1,h2⟩:=uK h;rw[Spe.VE h1 ho hr,Dx hb]at h2;exact h2
 intro ex
 induction ex with
 | nil=>intro _ h;cases h
 | cons q r ih =>
  intro ho h;obtain⟨i,sh⟩:=q;simp only[List.all_cons,Dw]at ho;cases r with
  | nil =>
   have h':(match Nat.beq i id with | true=>sh.enter b st (λv=>K (.exit i) (sh.emb b v)) | false=>none)=some v:=h;cases hb:Nat.beq i id with
   | true=>rw[hb]at h';exact one i sh ho.1 hb h'
   | false=>rw[hb]at h';cases h'
  | cons q r =>
   have h':(match Nat.beq i id with | true=>sh.enter b st (λv=>K (.exit i) (sh.emb b v)) | false=>Aan (q::r) id b st (Afk (q::r) b K))=some v:=h;cases hb:Nat.beq i id with
   | true=>rw[hb]at h';exact one i sh ho.1 hb h'
   | false =>rw[hb]at h';exact ih (by simpa using ho.2) h'
theorem Aix {ρ :Type} {C:Ctx} {N:Nat} {L:Lk} {fin:St->Option ρ} {v: ρ}: ∀(c:Code),okL L c=true-> ∀(st:St) (K K':Ex->St->Option ρ),(∀ e st',R (writes c) st st'->K e st'=some v->K' e st'=some v)->exe C N L fin c st K=some v->exec C N fin c st K'=some v:=by
 intro c
 induction c with
 | skip=>intro _ st K K' hK h;exact hK _ _ (R.refl _ _) h
 | label l=>intro _ st K K' hK h;exact hK _ _ (R.refl _ _) h
 | ret=>intro _ st K K' hK h;exact h
 | exit id =>intro _ st K K' hK h;obtain⟨st',h1,h2,h3⟩:=Ame ((AfK _ _ _ _).symm.trans (show qZ C (4*id+3) st (λst'=>K (.exit id) st')=some v from h));show UR C (4*id+3) st (λst'=>K' (.exit id) st')=some v;rw[h3];exact hK _ _ h1.none h2
 | region id ops d =>
  intro _ st K K' hK h;cases d with
  | false=>exact(gV h).2 _ λC h=>Aye ops.toList st _ _ (λst' hr hk=>hK .normal st' hr hk) ((Avk _ _ _ _ _).symm.trans h)
  | true =>
   refine(gV h).2 _ λC h=> ?_;have h':(match TN C ops.toList st with | true=>AqW C ops.toList ops.toList st (λst'=>K .normal st') | false=>none)=some v:=by rw[<- ApZ];exact h
   show(bif TN C ops.toList st then WV C ops.toList ops.toList st (λst'=>K' .normal st')else none)=some v;cases hd:TN C ops.toList st with
   | false=>rw[hd]at h';cases h'
   | true=>rw[hd]at h';exact Ayf ops.toList st _ _ (λst' hr hk=>hK .normal st' hr hk) ((AwZ _ _ _ _ _).symm.trans h')
 | seq x y ihx ihy =>
  intro ho st K K' hK h;have ho':(okL L x&&okL L y&&okJ (writes x) (Af8 L y))=true:=ho;simp only[Dw]at ho';have hxy: ∀ {e:Ex} {st1 st2:St},R (writes x) st st1->R (writes y) st1 st2->R (writes (.seq x y)) st st2:=λh1 h2=>(h1.mono (λt ht=>DJ _ ht)).trans (h2.mono (λt ht=>DF _ ht));simp only[exe]at h;show exec C N fin x st _=some v;cases hj:Af8 L y with
  | none =>
   rw[hj]at h;refine ihx ho'.1.1 st _ _ (λe st1 hr hk=> ?_) h;cases e with
   | normal =>obtain⟨st2,h1,h2,h3⟩:=AaH ((jW _ _ _ _ _).symm.trans hk);show meet C 1 y st1 _=some v;rw[h3];exact ihy ho'.1.2 st2 _ _ (λe st3 hr' hk'=>hK e st3 (hxy (e:=e) (hr.trans h1.none) hr') hk') h2
   | exit id=>exact hK _ _ (hr.mono (λt ht=>DJ _ ht)) hk
  | some sh =>
   rw[hj]at h ho';refine ihx ho'.1.1 st _ _ (λe st1 hr hk=> ?_) (show exe C N L fin x st _=some v from h);cases e with
   | normal =>obtain⟨st2,h1,h2,h3⟩:=AaH ((jW _ _ _ _ _).symm.trans hk);show meet C 1 y st1 _=some v;rw[h3];obtain⟨h4,h5⟩:=uK h2;rw[Spe.VE h4 ho'.2 (hr.trans h1.none)]at h5;exact ihy ho'.1.2 st2 _ _ (λe st3 hr' hk'=>hK e st3 (hxy (e:=e) (hr.trans h1.none) hr') hk') h5
   | exit id=>exact hK _ _ (hr.mono (λt ht=>DJ _ ht)) hk
 | cond o x y ihx ihy =>
  intro ho st K K' hK h;have ho':(okL L x&&okL L y)=true:=ho;simp only[Dw]at ho'
  have key: ∀ t:Bool,(match t with | true=>exe C N L fin x st K | false=>exe C N L fin y st K)=some v->(bif t then exec C N fin x st K' else exec C N fin y st K')=some v:=by
   intro t ht;cases t with
   | true=>exact ihx ho'.1 st K K' (λe st' hr=>hK e st' (hr.mono (λt ht=>DJ _ ht))) ht
   | false=>exact ihy ho'.2 st K K' (λe st' hr=>hK e st' (hr.mono (λt ht=>DF _ ht))) ht
  simp only[exe]at h;simp only[exec];cases he:KZ st.tmps o with
  | bool t=>rw[he]at h;exact key t h
  | cnd g y' =>
   rw[he]at h;cases y' with
   | bool t =>
    cases g with
    | false=>cases h
    | true=>exact key t h
   | _=>cases h
  | _=>rw[he]at h;cases h
 | block id c ih =>
  intro ho st K K' hK h;refine ih ho st _ _ (λe st' hr hk=> ?_) h;cases e with
  | normal=>exact hK _ _ hr hk
  | exit j =>
   dsimp only at hk ⊢;cases hb:Nat.beq j id with
   | true=>rw[hb]at hk;exact hK _ _ hr hk
   | false=>rw[hb]at hk;exact hK _ _ hr hk
 | loop c ih =>
  intro ho st K K' hK h;have ho':(okL L c&&okX (writes c) (AfC L c))=true:=ho;simp only[Dw]at ho';simp only[exe]at h;obtain⟨b,h1,h2,h3⟩:=AaH ((jW _ _ _ _ _).symm.trans h);show meet C 2 c st _=some v;rw[h3]
  have roll:Aci (Y5 C 2 c) (exe C N L fin c) N b K=some v->rounds (meet C 2 c) (exec C N fin c) N b K'=some v:=by
   have key: ∀(n:Nat) (st1:St),R (writes c) b st1->Aci (Y5 C 2 c) (exe C N L fin c) n st1 K=some v->rounds (meet C 2 c) (exec C N fin c) n st1 K'=some v:=by
    intro n
    induction n with
    | zero=>intro st1 _ h;cases h
    | succ n ihn =>
     intro st1 hr1 h;refine ih ho'.1 st1 _ _ (λe st2 hr2 hk=> ?_) h;cases e with
     | normal =>obtain⟨st3,k1,k2,k3⟩:=AaH ((jW _ _ _ _ _).symm.trans hk);show meet C 2 c st2 _=some v;rw[k3];exact ihn st3 ((hr1.trans hr2).trans k1.none) k2
     | exit id=>exact hK _ _ ((h1.none.trans hr1).trans hr2) hk
   exact key N b (R.refl _ _)
  cases hl:AfC L c with
  | none=>rw[hl]at h2;exact roll h2
  | some q =>
   obtain⟨hd,ex⟩:=q;rw[hl]at h2 ho';dsimp only at h2;cases hfit:(hd.fits b b).all id with
   | false=>rw[hfit]at h2;exact roll h2
   | true =>
   rw[hfit]at h2;have h4:J6 (hd.fits b b):=λc hc=>DI.1 hfit c hc;have h5:=h2;have ho2:(hd.okI (writes c)&&ex.all (λq=>q.2.okI (writes c)))=true:=ho'.2;simp only[Dw]at ho2
   have key: ∀(n:Nat) (st1:St),R (writes c) b st1->hd.emb b (hd.un st1)=st1->Jy (λx k kx=>exe C N L fin c (hd.emb b x) fun
    | .normal,st'=>Y5 C 2 c st' λst''=>hd.enter b st'' k
    | .exit id,st'=>Aan ex id b st' kx) n (hd.un st1) (Afk ex b K)=some v->rounds (meet C 2 c) (exec C N fin c) n st1 K'=some v:=by
    intro n
    induction n with
    | zero=>intro st1 _ _ h;cases h
    | succ n ihn =>
     intro st1 hr1 he h;simp only[Jy]at h;rw[he]at h;refine ih ho'.1 st1 _ _ (λe st2 hr2 hk=> ?_) h;cases e with
     | normal =>obtain⟨st3,k1,k2,k3⟩:=AaH ((jW _ _ _ _ _).symm.trans hk);show meet C 2 c st2 _=some v;rw[k3];obtain⟨k4,k5⟩:=uK k2;have hr3:=(hr1.trans hr2).trans k1.none;exact ihn st3 hr3 (Spe.VE k4 ho2.1 hr3) k5
     | exit id =>exact hK _ _ ((h1.none.trans hr1).trans hr2) (Aqd (hr1.trans hr2) ex ho2.2 hk)
   exact key N b (R.refl _ _) (Spe.VE h4 ho2.1 (R.refl _ _)) h5
 | scope c ih=>intro ho st K K' hK h;exact ih ho st K K' hK h
 | _=>intro _ st K K' hK h;cases h
def AvL:ResultVar->Nat×Option Nat
 | .tmp t=>(t,none)
 | .cell a t=>(a,some t)
structure Inf where
 Jt:List Sh
 J7:List Sh
 gs:List (Nat×Sig)
 ns:List (Nat×Nrm)
 L:Lk
def Yh (fn:Func):Code:=fn.body.getD .skip
def Qr (fn:Func):List (Nat×Option Nat):=fn.results.toList.map AvL
noncomputable def Arl {ρ :Type} (N:Nat) (C:Ctx) (L:Lk) (Jt:List Sh) (fn:Func) (fin:St->Option ρ) (a:ShT Jt):Option ρ :=
 allH ((KG 0 256 Jt (encs Jt a) 0).1++[nodup ((KG 0 256 Jt (encs Jt a) 0).2.2.map (·.1)),!(has ((KG 0 256 Jt (encs Jt a) 0).2.2.map (·.1)) 255)])
  (exe C N L fin (Yh fn) (gZ Jt (encs Jt a) fn.ntmps) (fun
    | .normal,st=>fin st
    | .exit _,_=>none))
noncomputable def Ark (N:Nat) (C:Ctx) (L:Lk) (Jt J7:List Sh) (fn:Func) (a:ShT Jt):Option (ShT (KY Jt J7)):=Arl N C L Jt fn (Yx C Jt J7 (Qr fn)) a
theorem Axm (r:ResultVar):rv (AvL r)=r:=by cases r<;>rfl
def rG (fn:Func):fn.results=((Qr fn).map rv).toArray:=by grind[Qr,rv,AvL,Axm]
theorem Aw3 {α :Type} {l:List Bool} {x:Option α} (h:J6 l):allT l x=x:=by
 induction l with
 | nil=>rfl
 | cons c cs ih=>simp_all[J6,allT]
def jO (L:Lk) (fn:Func):Bool:=fn.body.isSome&&(!(fn.name== "runtime.NumGoroutine")&&okL L (Yh fn))
def Ab5 {ρ :Type} {N:Nat} {C:Ctx} {L:Lk} {Jt:List Sh} {fn:Func} {fin:St->Option ρ} {a:ShT Jt} {r: ρ} (hn:okL L (Yh fn)=true) (h:Arl N C L Jt fn fin a=some r):runK C N Jt fn.ntmps (Yh fn) fin (encs Jt a)=some r:=by grind[QJ,Zd,allH,runK,Aw3,Aix,Sh,ShT,okL,Yh,Arl,encs]
def lT {L:Lk} {fn:Func} (hn:jO L fn=true):fn.body=some (Yh fn)/\(fn.name== "runtime.NumGoroutine")=false/\okL L (Yh fn)=true:=by unfold jO at hn;simp only[Dw,EH]at hn;obtain⟨code,hc⟩:=EG.1 hn.1;exact⟨by unfold Yh;rw[hc];rfl,hn.2⟩
def Vk {P:Program} {C:Ctx} {L:Lk} {N:Nat} (hC:MX P C) {f:FuncId} {fn:Func} {Jt J7:List Sh} {g:ShT Jt->Option (ShT (KY Jt J7))} (hf:P.funcs[f]? =some fn:=by kernel_rfl) (hn:jO L fn=true:=by kernel_rfl)
 (hF: ∀ a,Ark N C L Jt J7 fn a=g a:=by intro a;kernel_rfl):Spec P f (Sig.of Jt J7 g):=by
 obtain⟨hb,h1,h2⟩:=lT hn;exact YS (fin:=Yx C Jt J7 (Qr fn)) hC N hf hb h1 (rG fn) (λa o h=>⟨o,Ab5 h2 ((hF a).trans h),λst h=>h⟩)
def AbA {P:Program} {C:Ctx} (hC:MX P C) {f:FuncId} {fn:Func} {Jt J7:List Sh} (hf:P.funcs[f]? =some fn:=by kernel_rfl) (hn:jO ⟨[],[]⟩ fn=true:=by kernel_rfl):Spec P f (Sig.of Jt J7 λ_=>none):=by obtain⟨hb,h1,h2⟩:=lT hn;exact YS (fin:=Yx C Jt J7 (Qr fn)) hC 0 hf hb h1 (rG fn) (λa o h=>by cases h)
def AxY (C:Ctx) (r1:List Sh) (outs:List (Nat×Option Nat)) (st:St):Bool:=(r1.zip outs).any λq=>(match q.1 with | .box _=>true | _=>false)&&(Aeo C st q.2).2.qR
noncomputable def Yw (C:Ctx) (Jt r1 r2:List Sh) (outs:List (Nat×Option Nat)) (st:St):Option (ShT (KY Jt r1) ⊕ ShT (KY Jt r2)) :=
 match AxY C r1 outs st with
 | true=>(Yx C Jt r2 outs st).map .inr
 | false=>(Yx C Jt r1 outs st).map .inl
noncomputable def Avy (N:Nat) (C:Ctx) (L:Lk) (Jt r1 r2:List Sh) (fn:Func) (a:ShT Jt):Option (ShT (KY Jt r1) ⊕ ShT (KY Jt r2)):=Arl N C L Jt fn (Yw C Jt r1 r2 (Qr fn)) a
noncomputable def Alt.of (Jt r1 r2:List Sh) (g:ShT Jt->Option (ShT (KY Jt r1) ⊕ ShT (KY Jt r2))):Alt :=
 (Sig.of Jt r1 (λa=>AxM (g a)),Sig.of Jt r2 (λa=>AxN (g a)),λxs=>match WQ Jt xs with
   | some a=>AxR (g a)
   | none=>true)
def Yf {P:Program} {C:Ctx} {L:Lk} {N:Nat} (hC:MX P C) {f:FuncId} {fn:Func} {Jt r1 r2:List Sh} {g:ShT Jt->Option (ShT (KY Jt r1) ⊕ ShT (KY Jt r2))} (hf:P.funcs[f]? =some fn) (hn:jO L fn=true)
 (hF: ∀ a,Avy N C L Jt r1 r2 fn a=g a):Spec P f (Alt.of Jt r1 r2 g).1/\Spec P f (Alt.of Jt r1 r2 g).2.1:=by
 obtain⟨hb,h1,h2⟩:=lT hn;constructor
 .refine YS (fin:=Yw C Jt r1 r2 (Qr fn)) hC N hf hb h1 (rG fn) (λa o h=>⟨.inl o,Ab5 h2 ((hF a).trans ?_),λst h=> ?_⟩)
  .cases hg:g a with
   | none=>rw[hg]at h;cases h
   | some r=>rw[hg]at h;cases r with | inl x=>injection h with h;rw[h] | inr x=>cases h
  .unfold Yw at h;split at h
   .cases hq:Yx C Jt r2 (Qr fn) st with
    | none=>rw[hq]at h;cases h
    | some r=>rw[hq]at h;injection h with h;cases h
   .cases hq:Yx C Jt r1 (Qr fn) st with
    | none=>rw[hq]at h;cases h
    | some r=>grind[Sh,ShT,KY,jO,Avy,Spec]
 .refine YS (fin:=Yw C Jt r1 r2 (Qr fn)) hC N hf hb h1 (rG fn) (λa o h=>⟨.inr o,Ab5 h2 ((hF a).trans ?_),λst h=> ?_⟩)
  .cases hg:g a with
   | none=>rw[hg]at h;cases h
   | some r=>rw[hg]at h;cases r with | inr x=>injection h with h;rw[h] | inl x=>cases h
  .unfold Yw at h;split at h
   .cases hq:Yx C Jt r2 (Qr fn) st with
    | none=>rw[hq]at h;cases h
    | some r=>grind[Sh,ShT,KY,jO,Avy,Spec]
   .cases hq:Yx C Jt r1 (Qr fn) st with
    | none=>rw[hq]at h;cases h
    | some r=>rw[hq]at h;injection h with h;cases h
end Go.Proofs.YtacidcemomccpaaGreatDoor.Vm
namespace Go.Proofs.YtacidcemomccpaaGreatDoor.Vm
open Classical
def Ap4 (b:Bool) (av:List A):A:=bif b then .agg av else av.getD 1 .undef
def As4 (b:Bool) (Jt:List Sh) (xs:List A) (n:Nat):St:= {tmps:=Ap4 b (KG 0 256 Jt xs 0).2.1::List.replicate (n - 1) .undef,Jr:=JH [] (KG 0 256 Jt xs 0).2.2}
def Azf:Sh->Bool | .box _=>true | _=>false
noncomputable def Azl (b:Bool) (N:Nat) (C:Ctx) (L:Lk) (Jt J7:List Sh) (fn:Func) (a:ShT Jt):Option (ShT (KY Jt J7)) :=
 allH ((KG 0 256 Jt (encs Jt a) 0).1++[nodup ((KG 0 256 Jt (encs Jt a) 0).2.2.map (·.1)),!(has ((KG 0 256 Jt (encs Jt a) 0).2.2.map (·.1)) 255),Nat.beq Jt.length 2,Jt.all Azf])
  (exe C N L (Yx C Jt J7 (Qr fn)) (Yh fn) (As4 b Jt (encs Jt a) fn.ntmps) (fun
    | .normal,st=>Yx C Jt J7 (Qr fn) st
    | .exit _,_=>none))
def Qh {P:Program} {C:Ctx} {L:Lk} {N:Nat} (hC:MX P C) {f:FuncId} {fn:Func} {b:Bool} {Jt J7:List Sh} {g:ShT Jt->Option (ShT (KY Jt J7))} (hf:P.funcs[f]? =some fn) (hn:jO L fn=true)
 (hF: ∀ a,Azl b N C L Jt J7 fn a=g a):Yd P f b (Sig.of Jt J7 g):=by
 obtain⟨hb,h1,h2⟩:=lT hn;refine⟨enters hf (by rw[hb];rfl) h1,λO w vs xs rs hI hv hl h100 hx hrs=> ?_⟩;obtain⟨a,o,e1,e2,e3⟩:=Sig.XR hrs;subst e1;subst e3;have h:=(hF a).trans e2;obtain⟨hok,h⟩:=QJ ((Zd _ _).symm.trans (show allH _ _=some o from h));obtain⟨hok1,hok2⟩:=hok.append;obtain⟨hnd,hok2⟩:=hok2.cons;obtain⟨h255,hok2⟩:=hok2.cons;obtain⟨hp2,hok2⟩:=hok2.cons;have hp2:=Dx hp2;have hbox:=hok2.cons.1;rw[EH]at h255;have hl':(encs Jt a).length=Jt.length:=hl;have S:=Aiw (n:=2) hI hv hl' hx hok1 hnd h255;have h:=Aix _ h2 _ _ _ (λe st' _ hk=>hk) h;have hv2:vs.size=2:=by rw[hv,hl',hp2]
 have has:(KG 0 256 Jt (encs Jt a) 0).2.1=[.ptr 0 0,.ptr 256 0]:=by
  clear S h hrs e2 h255 hnd hok hok1 hx hv hl hl' h100;generalize encs Jt a=ys
  match Jt,hp2,hbox with
  | [.box k0,.box k1],_,_=>rfl
 have sz:(gZ Jt (encs Jt a) 2).tmps=[.ptr 0 0,.ptr 256 0]:=by show(KG 0 256 Jt (encs Jt a) 0).2.1++List.replicate (2 - Jt.length) A.undef=_;rw[has,hp2];rfl
 have t0: ∀ j,j<2->JC O (gZ Jt (encs Jt a) 2).Jr (λo=>N7 w (innerS w (Jt.getD (o / 256) (.agg [])) (vs.getD (o / 256) undef)) (o % 256)) w (vs.getD j undef) (([.ptr 0 0,.ptr 256 0]:List A).getD j .undef):=by
  intro j hj;have this:=S.tmps j (by rw[sz];exact hj);have e1:(vs++Array.replicate (2 - vs.size) undef).getD j undef=vs.getD j undef:=by simp [hv2]
  rw[sz]at this;have this:JC O _ _ w ((vs++Array.replicate (2 - vs.size) undef).getD j undef) _:=this;rw[e1]at this;exact this
 have one:(Vu b vs).size=1:=by cases b<;>rfl
 refine Agr (sg:=Sig.of Jt J7 g) (o:=o) (st0:=As4 b Jt (encs Jt a) fn.ntmps) hC N (λ{_} hC' {_ _ _ _ _ _} id ops _ _ _ _ _ K hS hd hx=>Afi hC' id ops K hS hd hx) hf hb (rG fn) hl h100 hx hok1 ⟨rfl,?_,λt ht=> ?_,S.Jr,S.frame,S.own,S.ids,S.less,S.root,S.WS,S.inv⟩ h (λst h=>Aiy h)
 .show(Vu b vs++Array.replicate (fn.ntmps - (Vu b vs).size) undef).size=(Ap4 b (KG 0 256 Jt (encs Jt a) 0).2.1::List.replicate (fn.ntmps - 1) A.undef).length;simp [one];omega
 .show JC O _ _ w ((Vu b vs++Array.replicate (fn.ntmps - (Vu b vs).size) undef).getD t undef) ((Ap4 b (KG 0 256 Jt (encs Jt a) 0).2.1::List.replicate (fn.ntmps - 1) A.undef).getD t .undef);cases t with
  | succ t =>
   have:(Ap4 b (KG 0 256 Jt (encs Jt a) 0).2.1::List.replicate (fn.ntmps - 1) A.undef).getD (t+1) .undef= .undef:=by rw[HY,Dn,Iw];split<;>rfl
   rw[this];trivial
  | zero =>
   rw[FW,has];cases b with
   | false =>
    have e1:(Vu false vs++Array.replicate (fn.ntmps - (Vu false vs).size) undef).getD 0 undef=vs.getD 1 undef:=by show(#[vs.getD 1 undef]++_:Array Value).getD 0 undef=_;rw[Dv,EJ (by simp)];rfl
    rw[e1];exact t0 1 (by omega)
   | true =>
    have e1:(Vu true vs++Array.replicate (fn.ntmps - (Vu true vs).size) undef).getD 0 undef= .agg vs:=by show(#[Value.agg vs]++_:Array Value).getD 0 undef=_;rw[Dv,EJ (by simp)];rfl
    rw[e1];refine⟨vs,rfl,hv2,λj hj=> ?_⟩;have hj:j<2:=hj;have:=t0 j hj;have hj':j=0\/j=1:=by omega
    rcases hj' with rfl | rfl<;>exact this
open Go.RowKit
set_option maxHeartbeats 4000000 in
set_option maxRecDepth 100000 in
def As1 {w:World} {vs:Array Value} {b n:Nat} {fs:List (Nat×Bool)} (hn:fs.length=n) (hn1:n<=1000)
 {I:Nat->World->Prop} {R:Ending->World->Prop} (h0:I 0 w)
 (hcell: ∀ i w' p,fs[i]? =some p->I i w'->w'.cell? (at' b i)=some (Asb p vs))
 (hent: ∀ p∈fs,∀ args w,(callFunc p.1 args).run Tryz.prog w= .ok (.enter p.1 args) w)
 (hcall: ∀ i w' p,fs[i]? =some p->I i w'->Calls Tryz.prog p.1 (Vu p.2 vs) w' λe w''=> ∃ x:Int,e= .returned (.int .i64 x)/\(x≠0->R (.returned (.int .i64 x)) w'')/\(x=0->I (i+1) w''))
 (hend: ∀ w',I n w'->R (.returned (.int .i64 0)) w') :
 Calls Tryz.prog 59 #[.slice (some (at' b 0)) n n] w R:=by
 go_enter Tryz.func59,Tryz.ntmps59
 go_wp2
 go_loopw [8] (λi wr=> ∃ k:Nat,k<=n/\i= .int .i64 k/\I k wr) (λi _=>n - (intOf i).toNat)
 case atStart=>exact⟨0,Eb _,rfl,h0⟩
 case round =>
  obtain⟨k,hk,rfl,hI⟩:=hrel;rcases Eh k n with hkn | hkn
  .have hp:fs[k]? =some (fs[k]'(by omega)):=D8 _;generalize fs[k]'(by omega)=p at hp;have hc:wr.cell? (at' b k)=some (.func (.func p.1) (Vu p.2 vs) #[]):=hcell k wr p hp hI;have he:=hent p (FQ hp);have hC:=hcall k wr p hp hI;clear hcell hcall hent
   go_wp2_with (first | (with_reducible refine hC.mono ?_;rintro e w2 ⟨x,rfl,hx1,hx2⟩) | go_in)
   .rename_i h;exact EM.1 h
   .rename_i h;exact⟨⟨k+1,by omega,by rw[Int.natCast_add];rfl,hx2 (by simpa using h)⟩,by simp [intOf];omega⟩
  .obtain rfl:k=n:=by omega
   go_wp2
   exact hI
structure Mid (O:Own) (w:World) (vs:Array Value) (ps:List Sh) (O':Own) (w':World) (ys:List A):Prop where
 moves:Moves O (λo=>o≠255) w w'
 less: ∀ b k,b<w.heap.size->O' b k≠none->O b k≠none
 WS: ∀ b k,b<w.heap.size->O b k=some 255->O' b k=some 255
 len:ys.length=ps.length
 each: ∀ j,j<ys.length->IR O' w' (256*j) (vs.getD j undef) (ys.getD j .undef)
def Mid.inv {O O':Own} {w w':World} {vs:Array Value} {ps:List Sh} {ys:List A} (h:Mid O w vs ps O' w' ys) (hI:Inv O w):Inv O' w':=by
 refine⟨λg j p ht=> ?_,λg n ht=> ?_⟩
 .obtain⟨h1,v,h2,h3⟩:=hI.1 g j p ht;have hb:=cell_lt h2;refine⟨?_,v,?_,h3⟩
  .cases h':O' g j with
   | none=>rfl
   | some o=>exact absurd h1 (h.less g j hb (by rw[h'];simp))
  .rw[h.moves.cell hb (λo ho=>by rw[h1]at ho;cases ho)];exact h2
 .obtain⟨c,e,fr,h1,h2⟩:=hI.2 g n ht;have hg:g<w.heap.size:=(DX.1 h1).1;rcases h.moves.blk g hg with he | ⟨d,d',e',fr',k1,k2,k3,_⟩ | ⟨es,ck,es',ck',o,k1,_⟩
  .exact⟨c,e,fr,by rw[he];exact h1,h2⟩
  .rw[h1]at k1;injection k1 with k1;injection k1 with q1 q2 q3;subst q1;exact⟨d',e',fr',k2,k3.trans h2⟩
  .rw[h1]at k1;injection k1 with k1;cases k1
abbrev Two (k0 k1:List (Bool×CK)):Type:=(tyl (k0.map (·.2))).Val×(tyl (k1.map (·.2))).Val
instance {k0 k1:List (Bool×CK)}:Inhabited (Two k0 k1):=⟨(Ty.zero _,Ty.zero _)⟩
def jB {T:Type} [Inhabited T]:List (T->Option (Int×T))->T->Option (Int×T)
 | [],a=>some (0,a)
 | g::r,a=>Jq (g a) λp=>bif p.1 != 0 then some p else jB r p.2
def Anz {T:Type} [Inhabited T] {g:T->Option (Int×T)} {r:List (T->Option (Int×T))} {a:T} {o:Int×T} (h:jB (g::r) a=some o): ∃ e a',g a=some (e,a')/\(e≠0->o=(e,a'))/\(e=0->jB r a'=some o):=by
 simp only[jB]at h;cases hg:g a with
 | none=>rw[hg]at h;cases h
 | some p =>
  obtain⟨e,a'⟩:=p;rw[hg]at h;have h:(bif e != 0 then some (e,a')else jB r a')=some o:=h;refine⟨e,a',rfl,λhe=> ?_,λhe=> ?_⟩
  .rw[EM.2 he]at h;injection h with h;exact h.symm
  .subst he;exact h
def sgT (k0 k1:List (Bool×CK)) (g:Two k0 k1->Option (Int×Two k0 k1)):Sig:=.of [.box k0,.box k1] [.cell false (.int .i64)] g
def AyU {Jt J7:List Sh} {f:ShT Jt->Option (ShT (KY Jt J7))} {a:ShT Jt} {o:ShT (KY Jt J7)} (hd:WQ Jt (encs Jt a)=some a) (h:f a=some o):(Sig.of Jt J7 f).F (encs Jt a)=some (encs (KY Jt J7) o):=by unfold Sig.F Sig.of;dsimp only;rw[hd];dsimp only;rw[h];rfl
def Apn {k0 k1:List (Bool×CK)}:List ((Nat×Bool)×(Two k0 k1->Option (Int×Two k0 k1)))->Prop
 | []=>True
 | q::r=>Yd Tryz.prog q.1.1 q.1.2 (sgT k0 k1 q.2)/\Apn r
def Apn.mem {k0 k1:List (Bool×CK)}: ∀ {l:List ((Nat×Bool)×(Two k0 k1->Option (Int×Two k0 k1)))},Apn l-> ∀ q∈l,Yd Tryz.prog q.1.1 q.1.2 (sgT k0 k1 q.2):=by
 intro l
 induction l with
 | nil=>intro _ q hq;cases hq
 | cons p r ih =>
  intro h q hq;rcases D7.1 hq with rfl | hq
  .exact h.1
  .exact ih h.2 q hq
def AoL {k0 k1:List (Bool×CK)} (hde: ∀ a,WQ [.box k0,.box k1] (encs [.box k0,.box k1] a)=some a) (l:List ((Nat×Bool)×(Two k0 k1->Option (Int×Two k0 k1)))) (hsp:Apn l) (hl:l.length<=1000:=by exact DR rfl) :
 pF Tryz.prog 59 (l.map (·.1)) (sgT k0 k1 (jB (l.map (·.2)))):=by
 have hsp:=hsp.mem;have hent: ∀ args w,(callFunc 59 args).run Tryz.prog w= .ok (.enter 59 args) w:=enters (fn:=Tryz.f59) (by kernel_rfl) (by kernel_rfl) (by kernel_rfl);refine⟨hent,λO w vs xs rs b hI hv hx h100 hir hcell hF=> ?_⟩;obtain⟨a,o,e1,e2,e3⟩:=Sig.XR hF;subst e1;subst e3;have hlen: ∀ a:Two k0 k1,(encs [.box k0,.box k1] a).length=2:=λ_=>rfl;have hF2: ∀(g:Two k0 k1->Option (Int×Two k0 k1)) (a:Two k0 k1) (r:Int×Two k0 k1),g a=some r->(sgT k0 k1 g).F (encs [.box k0,.box k1] a)=some (encs (KY [.box k0,.box k1] [.cell false (.int .i64)]) r):=λg a r h=>AyU (hde a) h;let I:Nat->World->Prop:=λk w'=> ∃ O' a',Mid O w vs [.box k0,.box k1] O' w' (encs [.box k0,.box k1] a')/\jB (T:=Two k0 k1) ((l.drop k).map (·.2)) a'=some o;refine As1 (vs:=vs) (I:=I) rfl (by simpa using hl) ⟨O,a,⟨Moves.refl _ _ _,λ_ _ _ h=>h,λ_ _ _ h=>h,rfl,hir⟩,e2⟩ (λi w' p hp hIi=> ?_) (λp hp=> ?_) (λi w' p hp hIi=> ?_) (λw' hIn=> ?_)
 .obtain⟨O',a',hM,_⟩:=hIi;obtain⟨h1,h2⟩:=hcell i p hp;rw[hM.moves.cell (cell_lt h2) (λo ho=>by rw[h1]at ho;cases ho)];exact h2
 .obtain⟨q,hq,rfl⟩:=DK.1 hp;exact(hsp q hq).1
 .obtain⟨O',a',hM,hch⟩:=hIi;rw[Ep]at hp;cases hq:l[i]? with
  | none=>rw[hq]at hp;cases hp
  | some q =>
   rw[hq]at hp;injection hp with hp;subst hp
   have hi:i<l.length:=by
    rcases Eh i l.length with h | h
    .exact h
    .rw[Ed h]at hq;cases hq
   have hd:l.drop i=q::l.drop (i+1):=by rw[EN hi];congr 1;rw[D8 hi]at hq;injection hq
   rw[hd]at hch;obtain⟨e,a2,g1,g2,g3⟩:=Anz hch;refine((hsp q (FQ hq)).2 O' w' vs (encs [.box k0,.box k1] a') _ (hM.inv hI) (show vs.size=2 from hv) rfl (show 2<=100 by omega) hM.each (hF2 _ _ _ g1)).mono ?_;rintro en w2 ⟨v,O2,rfl,hc⟩;obtain⟨us,u1,u2,u3⟩:=hc.res;have u1:us.size=1:=u1;have hM2:Moves O (λo=>o≠255) w w2:=hM.moves.AtN hc.moves (λb k o hb ho hne=>by have h1:=hM.less b k hb (by rw[ho];simp);obtain⟨o0,ho0⟩:=Option.ne_none_iff_exists'.1 h1;refine⟨o0,ho0,λe=> ?_⟩;rw[e]at ho0;rw[hM.WS b k hb ho0]at ho;injection ho with ho;exact hne ho.symm) (λh=>h rfl);have hless: ∀ b k,b<w.heap.size->O2 b k≠none->O b k≠none:=λb k hb h=>hM.less b k hb (hc.less b k (EX hb hM.moves.size) h);have hjunk: ∀ b k,b<w.heap.size->O b k=some 255->O2 b k=some 255:=λb k hb h=>hc.WS b k (EX hb hM.moves.size) (hM.WS b k hb h);have hb0:=hc.boxes 0 0 rfl;have hb1:=hc.boxes 1 1 rfl
   have hv:v= .int .i64 e:=by
    have h9:J5 O2 w2 (us.getD 0 undef) (.int .i64 e):=u3 0 (by omega);rw[u2,IG u1];have e':us[0]=us.getD 0 undef:=by simp [Dv,u1]
    rw[e'];generalize us.getD 0 undef=u at h9;cases h9;rfl
   refine⟨e,by rw[hv],λhe=> ?_,λhe=> ?_⟩
   .rw[g2 he]
    exact⟨_,O2,rfl,hM2,hless,hjunk,rfl,⟨us,u1,by rw[<- hv];exact u2,u3⟩,λj i hj=>by
     have hj':([0,1]:List Nat)[j]? =some i:=hj
     match j,hj' with
     | 0,h=>injection h with h;subst h;exact hb0
     | 1,h=>injection h with h;subst h;exact hb1⟩
   .refine⟨O2,a2,⟨hM2,hless,hjunk,rfl,λj hj=> ?_⟩,g3 he⟩;have hj:j<2:=hj;have:j=0\/j=1:=by omega
    rcases this with rfl | rfl
    .exact hb0
    .exact hb1
 .obtain⟨O',a',hM,hch⟩:=hIn;rw[show l.drop (l.map (·.1)).length=[] by simp]at hch;injection hch with hch;subst hch;refine⟨_,O',rfl,hM.moves,hM.less,hM.WS,rfl,⟨#[.int .i64 0],rfl,rfl,λk hk=> ?_⟩,λj i hj=> ?_⟩
  .have hk:k<1:=hk;have:k=0:=by omega
   subst this;exact J5.int _ _
  .have hj':([0,1]:List Nat)[j]? =some i:=hj
   match j,hj' with
   | 0,h=>injection h with h;subst h;exact hM.each 0 (show 0<2 by omega)
   | 1,h=>injection h with h;subst h;exact hM.each 1 (show 1<2 by omega)
structure Kn (P:Program) where
 f:Nat
 S:Sig
 h:Spec P f S
noncomputable def ksp {P:Program} (ks:List (Kn P)):List (Nat×Sig):=ks.map λk=>(k.f,k.S)
def Oe {P:Program}: ∀ ks:List (Kn P),AbL P (ksp ks)
 | []=>trivial
 | k::r=>⟨k.h,Oe r⟩
end Go.Proofs.YtacidcemomccpaaGreatDoor.Vm
