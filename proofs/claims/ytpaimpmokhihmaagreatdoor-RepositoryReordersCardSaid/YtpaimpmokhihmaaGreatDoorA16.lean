import Derived.Test.YtpaimpmokhihmaaGreatDoorA14
import Derived.Test.YtpaimpmokhihmaaGreatDoorA15
import Derived.Outline
import Derived.BigQuiet
import Derived.Sort.Grow
import Derived.Lib.Split
import Derived.Lib.ItoaNum
import Derived.Lib.Strings
import Derived.Sort.OwnSorted
import Derived.ArgAppend
import Derived.Deep.RegionWith
import Derived.Lib.Walk
import Derived.Laws.RangeString
import Derived.Laws.RangeAny
import Derived.LoopTactic
import Derived.BigGuardPart
set_option linter.all false
namespace Go.Proofs.YtpaimpmokhihmaaGreatDoor.Vm
open Go.Proofs Go.RowKit
def nK {P:Program} {f e:Nat} {t:Ty} {g0 g:List t.Val->Option (List t.Val)} (K:Spec P f (Sig.of [.cell false (.sln e t)] [.cell false (.sl e t)] g0)) (hg: ∀ l o,g l=some o->g0 l=some o/\o=l)
 (hd: ∀ a:List t.Val,Rq [.cell false (.sln e t)] [.sln ⟨t,a⟩]=some a)
 (hE: ∀(w:World) (ad:Addr) (c:Nat),Calls P f #[.slice (some ad) 0 c] w fun e w'=>(∃ ad',e= .returned (.slice (some ad') 0 0))/\Below w.heap.size w w'):Spec P f (Sig.of [.cell false (.sl e t)] [.cell false (.sl e t)] g):=by
 refine⟨K.1,fun O w vs xs rs hI hv hl h100 hx hrs=> ?_⟩;obtain⟨a,o,h1,h2,h3⟩:=Sig.Vw (Jp:=[.cell false (.sl e t)]) (Jz:=[.cell false (.sl e t)]) (f:=g) hrs;subst h1;obtain⟨hg1,rfl⟩:=hg a o h2;have hx0:Jt O w (vs.getD 0 undef) (.sl ⟨t,o⟩):=hx 0 (by simp [encs]);have hv1:vs.size=1:=hv
 have good:(o=[]->vs.getD 0 undef= .slice none 0 0)->Calls P f vs w fun e2 w'=> ∃ v O',e2= .returned v/\Came O w vs (Sig.of [.cell false (.sl e t)] [.cell false (.sl e t)] g) rs v O' w':=fun hn=>by
  refine(K.2 O w vs [.sln ⟨t,o⟩] rs hI hv rfl (by simp) (fun j hj=> ?_) ?_).mono ?_
  .have:j=0:=by simpa using hj
   subst this;exact Jt.sln hx0 hn
  .rw[h3];exact Sig.AhS (hd o) hg1
  .rintro e' w' ⟨v,O',he,hc⟩;exact⟨v,O',he,hc.moves,hc.less,hc.VM,hc.count,hc.res,fun j i h=>by cases h⟩
 by_cases ho:o=[]
 .subst ho;generalize hu:vs.getD 0 undef=u at *
  have he:u= .slice none 0 0\/ ∃ ad c,u= .slice (some ad) 0 c:=by
   cases hx0 with
   | nil=>exact .inl rfl
   | sl0 ad=>exact .inr ⟨ad,0,rfl⟩
   | sl=>exact .inr ⟨_,_,rfl⟩
  rcases he with he | ⟨ad,c,he⟩
  .exact good fun _=>he
  .have hvs:vs= #[.slice (some ad) 0 c]:=by
    apply EC
    .simp [hv1]
    .intro i h1 h2;have:i=0:=by omega
     subst this;rw[<- he,<- hu,Dj,Dt h1];rfl
   rw[hvs];refine(hE w ad c).mono ?_;rintro e' w' ⟨⟨ad',he⟩,hb⟩;refine⟨_,O,he,⟨hb.os,hb.tape,hb.output,hb.size,fun b h=>.inl (hb.block b h)⟩,fun b k _ h=>h,fun b k _ h=>h,by rw[h3];rfl,⟨#[.slice (some ad') 0 0],rfl,rfl,fun k hk=> ?_⟩,fun j i h=>by cases h⟩;have:k=0:=by simp at hk;omega
   subst this;rw[h3];exact Jt.sl0 _ _
 .exact good fun h=>absurd h ho
noncomputable def OO (N:Nat):Sig:=.of [.cell false (.sl 9 (.str .nil))] [.cell false (.sl 9 (.str .nil))] (fun a=>Pn N a)
set_option maxHeartbeats 4000000 in
set_option maxRecDepth 100000 in
def Rh (N:Nat):Spec Tryz.prog 40 (OO N) :=
 nK (kn 40 [.cell false (.sln 9 (.str .nil))] [.cell false (.sl 9 (.str .nil))]
  (fun(p:List Bs)=>bif p.isEmpty then(some ([]:List Bs))else(chk (decide ((0+p.length)*17<=140737488355328))<|some p)) [] [] ⟨[],[]⟩ Tryz.f40 N).h
  (fun l o h=>by
    have h:chk (decide (l.length*17<=140737488355328)) (some l)=some o:=h;cases hb:decide (List.length l*17<=140737488355328)with
    | false=>rw[hb]at h;cases h
    | true =>
     rw[hb]at h;injection h with h;subst h;refine⟨?_,rfl⟩;cases l with
     | nil=>rfl
     | cons x l=>show chk (decide ((0+(x::l).length)*17<=140737488355328)) (some (x::l))=_;rw[DF,hb];rfl)
  (fun a=>rfl)
  fun w ad c=>by
   go_enter Tryz.func40,Tryz.ntmps40
   go_wp2
   have he:(binOp .eql 37 (.slice (some ad) 0 c) (.slice none 0 0)).run Tryz.prog w= .ok (.bool false) w:=by kernel_rfl
   rw[he]
   go_wp2
   go_ret
   exact⟨⟨_,rfl⟩,(Below.refl _ w).alloc (DR _) _⟩
noncomputable def NS (N:Nat):Sig:=.of [.cell false (.sl 32 (.str (.str .nil)))] [.cell false (.sl 32 (.str (.str .nil)))] (fun a=>Oq N a)
set_option maxHeartbeats 4000000 in
set_option maxRecDepth 100000 in
def Qh (N:Nat):Spec Tryz.prog 41 (NS N) :=
 nK (kn 41 [.cell false (.sln 32 (.str (.str .nil)))] [.cell false (.sl 32 (.str (.str .nil)))]
  (fun(p:List (Bs×Bs))=>bif p.isEmpty then(some ([]:List (Bs×Bs)))else(chk (decide ((0+p.length)*33<=140737488355328))<|some p)) [] [] ⟨[],[]⟩ Tryz.f41 N).h
  (fun l o h=>by
    have h:chk (decide (l.length*33<=140737488355328)) (some l)=some o:=h;cases hb:decide (List.length l*33<=140737488355328)with
    | false=>rw[hb]at h;cases h
    | true =>
     rw[hb]at h;injection h with h;subst h;refine⟨?_,rfl⟩;cases l with
     | nil=>rfl
     | cons x l=>show chk (decide ((0+(x::l).length)*33<=140737488355328)) (some (x::l))=_;rw[DF,hb];rfl)
  (fun a=>rfl)
  fun w ad c=>by
   go_enter Tryz.func41,Tryz.ntmps41
   go_wp2
   have he:(binOp .eql 42 (.slice (some ad) 0 c) (.slice none 0 0)).run Tryz.prog w= .ok (.bool false) w:=by kernel_rfl
   rw[he]
   go_wp2
   go_ret
   exact⟨⟨_,rfl⟩,(Below.refl _ w).alloc (DR _) _⟩
open Go.RowKit
def CK.flat:CK->Bool | .bool=>true | .int _=>true | .str=>true | _=>false
def Sh.flat:Sh->Bool | .cell false k=>k.flat | _=>false
def A.flat:A->Bool | .bool _=>true | .int _ _=>true | .str _=>true | _=>false
def rvA:A->Value | .bool b=>.bool b | .int k n=>.int k n | .str s=>.string ⟨s.toArray⟩ | _=>undef
def Ahk {O:Own} {w:World} {id:Nat} {v:Value} {x:A} (hf:x.flat=true) (h:IR O w id v x):v=rvA x:=by
 cases x with
 | bool b=>have h':Jt O w v (.bool b):=h;cases h';rfl
 | int k n=>have h':Jt O w v (.int k n):=h;cases h';rfl
 | str s=>exact Yx (show Jt O w v (.str s)from h)
 | _=>cases hf
def Ahs {O:Own} {w:World} {id:Nat} {x:A} (hf:x.flat=true):IR O w id (rvA x) x:=by
 cases x with
 | bool b=>exact Jt.bool b
 | int k n=>exact Jt.int k n
 | str s=>exact Jt.str (O:=O) (w:=w) ⟨s.toArray⟩
 | _=>cases hf
def Sh.Agl {s:Sh} (h:s.flat=true) (v:s.T):(s.enc v).flat=true:=by
 cases s with
 | cell u k=>cases u<;>cases k<;>first | (cases h;done) | rfl
 | _=>cases h
def bY: ∀(ss:List Sh) (v:ShT ss),ss.all Sh.flat=true->(encs ss v).all A.flat=true:=by
 intro ss
 induction ss with
 | nil=>intro v _;rfl
 | cons s r ih =>intro v h;rw[List.all_cons,Dn]at h;show((s.enc _).flat&&(encs r _).all A.flat)=true;rw[Sh.Agl h.1,ih _ h.2];rfl
def Agm: ∀(ss:List Sh) (v:ShT ss),(encs ss v).length=ss.length:=by
 intro ss
 induction ss with
 | nil=>intro v;rfl
 | cons s r ih=>intro v;show(encs r _).length+1=_;rw[ih];rfl
def nG: ∀(ss:List Sh) (i:Nat),ss.all Sh.flat=true->KF ss i=[]:=by
 intro ss
 induction ss with
 | nil=>intro i _;rfl
 | cons s r ih =>
  intro i h;rw[List.all_cons,Dn]at h;unfold KF;have:JR s=false:=by cases s<;>first | rfl | (cases h.1;done)
  rw[this];exact ih _ h.2
def Af6 (Jp Jz:List Sh) (h:Jp.all Sh.flat=true):La Jp Jz=Jz:=by unfold La;rw[List.filterMap_eq_nil_iff.2 (fun s hs=> ?_),ES];have:=DK.1 h s hs;cases s<;>first | rfl | (cases this;done)
def wQ {l:List A} (h:l.all A.flat=true) {j:Nat} (hj:j<l.length):(l.getD j .undef).flat=true:=by rw[Di,D9 hj];exact DK.1 h _ (EE hj)
def jY (l:List A) (j:Nat) (hj:j<l.length):((l.map rvA).toArray).getD j undef=rvA (l.getD j .undef):=by simp [Dj,Di,hj]
def AeD {O:Own} {w w':World} {vs:Array Value} {sg:Sig} {rs:List A} (hp:sg.Jp.all Sh.flat=true) (hl:rs.length=sg.Jz.length) (hf:rs.all A.flat=true) (hb:Below w.heap.size w w'):Came O w vs sg rs (wF (rs.map rvA).toArray) O w':=by
 have hix:KF sg.Jp 0=[]:=nG _ _ hp;refine⟨Below.moves hb,fun b k _ h=>h,fun b k _ h=>h,by rw[hix,hl];rfl,⟨(rs.map rvA).toArray,by simp [hl],rfl,fun k hk=> ?_⟩,fun j i hj=> ?_⟩
 .have hk':k<rs.length:=by simpa using hk
  rw[jY rs k hk'];exact Ahs (wQ hf hk')
 .rw[hix]at hj;cases hj
def wH {O:Own} {w:World} {vs:Array Value} {xs:List A} (hf:xs.all A.flat=true) (hv:vs.size=xs.length) (hx: ∀ j,j<xs.length->IR O w (256*j) (vs.getD j undef) (xs.getD j .undef)):vs=(xs.map rvA).toArray:=by
 apply EC
 .simp [hv]
 .intro i h1 h2;have hi:i<xs.length:=by omega
  have:=Ahk (wQ hf hi) (hx i hi);rw[<- jY xs i hi]at this;simp only[Dj,Dt h1,Dt h2,Option.getD_some]at this;exact this
def AbZ (w:World) (k:Nat) (os:Array Go.Obj):Below w.heap.size w (Go.Sort.grow (w.drewN k) os) :=
 ⟨rfl,rfl,rfl,by show _<=(w.heap++os).size;simp,fun i hi=>by show(w.heap++os)[i]? =_;rw[Em hi]⟩
def QD {P:Program} {f:FuncId} {Jp Jz:List Sh} {g:ShT Jp->Option (ShT (La Jp Jz))} (hp:Jp.all Sh.flat=true) (hr:Jz.all Sh.flat=true) (hent: ∀ args w,(callFunc f args).run P w= .ok (.enter f args) w)
 (H: ∀(O:Own) (w:World) (a:ShT Jp) (o:ShT (La Jp Jz)),Inv O w->g a=some o->Calls P f ((encs Jp a).map rvA).toArray w fun e w'=>e= .returned (wF ((encs (La Jp Jz) o).map rvA).toArray)/\Below w.heap.size w w'):Spec P f (Sig.of Jp Jz g):=by
 refine⟨hent,fun O w vs xs rs hI hv hl _ hx hrs=> ?_⟩;obtain⟨a,o,h1,h2,h3⟩:=Sig.Vw hrs;subst h1;have hvs:=wH (bY Jp a hp) hv hx;rw[hvs];refine(H O w a o hI h2).mono fun e w' hq=> ?_;obtain⟨he,hb⟩:=hq;subst h3;have ho:La Jp Jz=Jz:=Af6 Jp Jz hp;refine⟨_,O,he,AeD (sg:=Sig.of Jp Jz g) hp ?_ ?_ hb⟩
 .rw[Agm,ho];rfl
 .exact bY _ _ (by rw[ho];exact hr)
def strings_Split (_:Nat) (s sep:Bs):Option (List Bs):=bif decide (s.length<4294967281)&&decide (1<=sep.length)then some (Lib.split s sep)else none
def strings_IndexByte (_:Nat) (s:Bs) (c:Int):Option Int:=some (Lib.indexByte s c.toNat.toUInt8)
def strings_Cut (_:Nat) (s sep:Bs):Option (Bs×Bs×Bool):=bif decide (s.length<4294967281)then some (Lib.cut s sep)else none
def strings_CutPrefix (_:Nat) (s p:Bs):Option (Bs×Bool):=some (Lib.trimPrefix s p,Lib.hasPrefix s p)
def strings_TrimPrefix (_:Nat) (s p:Bs):Option Bs:=some (Lib.trimPrefix s p)
def strings_HasPrefix (_:Nat) (s p:Bs):Option Bool:=some (Lib.hasPrefix s p)
def strings_Contains (_:Nat) (s p:Bs):Option Bool:=bif decide (s.length<4294967281)then some (Lib.contains s p)else none
def strconv_Itoa (_:Nat) (n:Int):Option Bs:=bif decide (-9223372036854775808<=n)&&decide (n<=9223372036854775807)then some (Lib.itoa n)else none
def Abp (l:List Bs):Bs:=(l.mergeSort fun x y=>decide (x<=y)).flatten
def Uk (_:Nat) (l:List Bs):Option Bs:=bif decide (0<l.length)&&(decide (l.length<=1099511627776)&&decide (l.flatten.length<=140737488355328))then some (Abp l)else none
def QY (s:ByteArray):Nat->Nat->Bool
 | 0,_=>true
 | n+1,i=>if i<s.size then
  let d:=Utf8.decode s i
  if d.1<32\/d.1=127 then false
  else if d.1=65533/\Lib.hasPrefix (s.data.toList.drop i) [239,191,189]=false then false
  else QY s n (i+d.2)
  else true
def Aip (s:Bs):Bool:=QY ⟨s.toArray⟩ s.length 0
def AbO (_:Nat) (s:Bs):Option Bool:=bif decide (s.length<4294967281)then some (Aip s)else none
noncomputable def PW (N:Nat):Sig:=.of [.cell false .str,.cell false .str] [.cell false .bool] (fun a=>strings_Contains N a.1 a.2)
def QX (N:Nat):Spec Tryz.prog 209 (PW N) :=
 QD rfl rfl (enters (fn:=Tryz.f209) (by kernel_rfl) (by kernel_rfl) (by decide)) fun O w (a:Bs×Bs) (o:Bool) hI h=>by
  obtain⟨s,c⟩:=a;have h:(bif decide (List.length s<4294967281)then some (Lib.contains s c)else none)=some o:=h;cases hc:decide (List.length s<4294967281)with
  | false=>rw[hc]at h;cases h
  | true =>
  rw[hc]at h;injection h with h;subst h;have hs:=Ea hc;obtain⟨_,v,hm,m,rfl⟩:=hI.1 1 0 _ rfl;refine(Tryz.strings_Contains ⟨List.toArray s⟩ ⟨List.toArray c⟩ m w hs hm).mono fun e w' hq=> ?_;obtain⟨h1,h2⟩:=hq;subst h2;exact⟨h1,Below.refl _ _⟩
noncomputable def SI (N:Nat):Sig:=.of [.cell false .str,.cell false .str] [.cell false .str,.cell false .bool] (fun a=>strings_CutPrefix N a.1 a.2)
def XD (N:Nat):Spec Tryz.prog 329 (SI N) :=
 QD rfl rfl (enters (fn:=Tryz.f329) (by kernel_rfl) (by kernel_rfl) (by decide)) fun O w (a:Bs×Bs) (o:Bs×Bool) hI h=>by obtain⟨s,c⟩:=a;have h:some ((Lib.trimPrefix s c,Lib.hasPrefix s c))=some o:=h;injection h with h;subst h;refine(Tryz.strings_CutPrefix ⟨List.toArray s⟩ ⟨List.toArray c⟩ w).mono fun e w' hq=> ?_;obtain⟨h1,h2⟩:=hq;subst h2;exact⟨h1,Below.refl _ _⟩
noncomputable def UD (N:Nat):Sig:=.of [.cell false .str,.cell false .str] [.cell false .str,.cell false .str,.cell false .bool] (fun a=>strings_Cut N a.1 a.2)
def Wy (N:Nat):Spec Tryz.prog 149 (UD N) :=
 QD rfl rfl (enters (fn:=Tryz.f149) (by kernel_rfl) (by kernel_rfl) (by decide)) fun O w (a:Bs×Bs) (o:Bs×Bs×Bool) hI h=>by
  obtain⟨s,c⟩:=a;have h:(bif decide (List.length s<4294967281)then some (Lib.cut s c)else none)=some o:=h;cases hc:decide (List.length s<4294967281)with
  | false=>rw[hc]at h;cases h
  | true =>
  rw[hc]at h;injection h with h;subst h;have hs:=Ea hc;obtain⟨_,v,hm,m,rfl⟩:=hI.1 1 0 _ rfl;refine(Tryz.strings_Cut ⟨List.toArray s⟩ ⟨List.toArray c⟩ m w hs hm).mono fun e w' hq=> ?_;obtain⟨h1,n,h2⟩:=hq;subst h2;exact⟨h1,⟨rfl,rfl,rfl,DR _,fun _ _=>rfl⟩⟩
noncomputable def P8 (N:Nat):Sig:=.of [.cell false .str,.cell false (.int .u8)] [.cell false (.int .i64)] (fun a=>strings_IndexByte N a.1 a.2)
def Qw (N:Nat):Spec Tryz.prog 212 (P8 N) :=
 QD rfl rfl (enters (fn:=Tryz.f212) (by kernel_rfl) (by kernel_rfl) (by decide)) fun O w (a:Bs×Int) (o:Int) hI h=>by obtain⟨s,c⟩:=a;have h:some (Lib.indexByte s c.toNat.toUInt8)=some o:=h;injection h with h;subst h;refine(Tryz.strings_IndexByte ⟨List.toArray s⟩ c w).mono fun e w' hq=> ?_;obtain⟨h1,h2⟩:=hq;subst h2;exact⟨h1,Below.refl _ _⟩
def Ag8 {O:Own} {w:World} (hI:Inv O w):Lib.TabIs Tryz.prog w "internal/strconv.uint64pow10" .u64 Lib.pow10Tab:=by
 obtain⟨c,e,fr,h1,h2⟩:=hI.2 2 20 rfl;have hg:Tryz.prog.globalNamed "internal/strconv.uint64pow10" =some 2:=by kernel_rfl
 unfold Lib.TabIs World.var?;rw[hg];show(match w.heap[2]? with | some (.cells cs _ _)=>some cs | _=>none)=_;rw[h1];refine congrArg some (EC (by rw[h2];simp [Lib.pow10Tab_length]) fun i hi hi'=> ?_);have hi20:i<20:=by omega
 obtain⟨_,v,hv,hp⟩:=hI.1 2 i _ (Dw hi20)
 have hv':c[i]? =some v:=by
  have:w.cell? (at' 2 i)=c[i]? :=by simp [World.cell?,h1]
  rw[<- this];exact hv
 rw[Dt hi]at hv';injection hv' with hv';rw[hv',hp];simp [Lib.pow10Tab]
noncomputable def Yq (N:Nat):Sig:=.of [.cell false (.int .i64)] [.cell false .str] (fun a=>strconv_Itoa N a)
def jQ (N:Nat):Spec Tryz.prog 190 (Yq N) :=
 QD rfl rfl (enters (fn:=Tryz.f190) (by kernel_rfl) (by kernel_rfl) (by decide)) fun O w (a:Int) (o:Bs) hI h=>by
  have h:(bif decide (-9223372036854775808<=a)&&decide (a<=9223372036854775807)then some (Lib.itoa a)else none)=some o:=h;cases hc:(decide (-9223372036854775808<=a)&&decide (a<=9223372036854775807))with
  | false=>rw[hc]at h;cases h
  | true =>
  rw[hc]at h;injection h with h;subst h;rw[Dn,Eh,Eh]at hc;refine(Tryz.strconv_Itoa a hc.1 hc.2 w (Ag8 hI)).mono fun e w' hq=> ?_;obtain⟨h1,k,os,h2⟩:=hq;subst h2;exact⟨h1,AbZ _ _ _⟩
end Go.Proofs.YtpaimpmokhihmaaGreatDoor.Vm
namespace Go.Proofs.YtpaimpmokhihmaaGreatDoor
open Go.RowKit Go.Sort Vm
def wV (l:List (List UInt8)):Lib.join l []=l.flatten:=by
 cases l with
 | nil=>rfl
 | cons a r =>rw[Lib.join_cons];unfold Lib.joinTail;simp
def Ahm {w:World} {g cap n:Nat} {ts:List Bs} {cur:Array Value} {e:TypeId} (hn:ts.length=n) (hb:w.heap[g]? =some (.cells cur e (0,0))) (ht:cur.toList.take n=ts.map encStr) (hc:n<=cap) (h1:n<=140737488355328) (hl:ts.flatten.length<=140737488355328) :
 Calls Tryz.prog 191 #[.slice (some ⟨g,0,none⟩) n cap,.string ⟨#[]⟩] w fun e w'=>e= .returned (.string ⟨ts.flatten.toArray⟩)/\Below w.heap.size w w':=by
 have hm:(ts.map (fun s=>(⟨s.toArray⟩:ByteArray))).map (·.data.toList)=ts:=by
  rw[EN]
  conv=>rhs;rw[<- F7 ts]
  refine Ew fun s _=> ?_;simp
 have hj:=Tryz.strings_Join g 0 cap (ts.map (fun s=>(⟨s.toArray⟩:ByteArray))) ⟨#[]⟩ w (fun j x hx=>by
  have hx':(ts.map encStr)[j]? =some (.string x):=by
   rw[DW]at hx ⊢;cases hq:ts[j]? with
   | none=>rw[hq]at hx;cases hx
   | some y=>rw[hq]at hx;injection hx with hx;rw[<- hx];rfl
  rw[<- ht]at hx'
  have hjn:j<n:=by
   rcases DT j n with h | h
   .exact h
   .rw[List.getElem?_take_eq_none h]at hx';cases hx'
  rw[Fa hjn,DJ]at hx';simp only[World.cell?,hb,DF];exact hx') (DL.1 hb).1 (by rw[D5,hn];exact h1) (by rw[D5,hn];exact hc) (by rw[hm];show(Lib.join ts []).length<=_;rw[wV];exact hl)
 rw[D5,hn,hm]at hj;refine hj.mono fun e w' hq=>⟨hq.1.trans ?_,hq.2⟩
 show Ending.returned (Value.string ⟨(Lib.join ts []).toArray⟩)=_;rw[wV]
def AaF {a b:List Bs} (h:a.Perm b):a.flatten.length=b.flatten.length:=by rw[Gj,Gj];exact(h.map _).sum_nat
set_option maxHeartbeats 1000000 in
set_option maxRecDepth 1000000 in
def Aeg (w:World) (b o c:Nat) (ss:List Bs) (R:Bs) (hR:Abp ss=R) (h0:0<ss.length) (hlen:ss.length<=1099511627776) (hflat:ss.flatten.length<=140737488355328)
 (hcells: ∀(j:Nat) (u:Value),(ss.map encStr)[j]? =some u->w.cell? ⟨b,o+j,none⟩=some u) :
 Calls Tryz.prog 141 #[.slice (some ⟨b,o,none⟩) ss.length c] w fun e w'=>e= .returned (.string ⟨R.toArray⟩)/\Below w.heap.size w w':=by
 have hi:Tryz.prog.info? 9=some _:=rfl
 go_enter Tryz.func141,Tryz.ntmps141
 go_wp2_with (at_builtin;go_loud (refine wpList_append_grows w rfl _ _ _ rfl 9 _ _ 1 16 rfl hi rfl rfl rfl rfl (by decide) none 0 0 [] rfl (fun _=>⟨rfl,rfl⟩) rfl (fun _ h=>by cases h) ⟨b,o,none⟩ ss.length c (ss.map encStr) rfl (by simp) (fun j u h=>by rw[Addr.add_lit];exact hcells j u h) (fun u hu=>by obtain⟨x,_,rfl⟩:=D6.1 hu;rfl) (by omega) (by show _<=maxLen;simp only[maxLen];omega) (by omega) ?_))
 intro v' w1 hown hgr;rcases hown.2 with ⟨_,h⟩ | ⟨g,cap,cur,rfl,hbase,hbk,h1,h2,h3,h4⟩
 .exfalso;omega
 have h4':cur.toList.take ss.length=ss.map encStr:=by simpa using h4
 have hH:Holds encStr w1 g 0 ss.toArray:=holds_of_block hbk h4';have hB1:Below w.heap.size w w1:=Below.grown (Below.refl _ _) hgr (DR _) (fun k hk=>by cases hk);have hsort:=Tryz.sort_Strings g 0 cap ss w1 hH (DL.1 hbk).1 (by omega);have hperm:(ss.mergeSort fun x y=>decide (x<=y)).Perm ss:=List.mergeSort_perm _ _;have hord:Abp ss=(ss.mergeSort fun x y=>decide (x<=y)).flatten:=rfl;have hfl:=AaF hperm;have hts:=hperm.length_eq;generalize (ss.mergeSort fun x y=>decide (x<=y))=ts at hsort hord hfl hts;have hRt:ts.flatten=R:=hord.symm.trans hR;have hB2: ∀ n os,Below w.heap.size w (grow (putRow encStr (Sort.ahead w1 n) g 0 ts.toArray) os):=fun n os=>Below.grown hB1 (grownBy_sorted ts.toArray) hB1.size (fun k hk=>by injection hk with hk;omega);have hJ: ∀ n os,Calls Tryz.prog 191 #[.slice (some ⟨g,0,none⟩) ss.length cap,.string ⟨#[]⟩] (grow (putRow encStr (Sort.ahead w1 n) g 0 ts.toArray) os) fun e w'=>e= .returned (.string ⟨R.toArray⟩)/\Below w.heap.size w w':=fun n os=>by rw[<- hRt];refine(Ahm (n:=ss.length) hts (heap_sorted ts.toArray hbk) (by rw[<- hts];exact take_putCells cur ts (by omega)) h1 (by omega) (by omega)).mono fun e w' hq=>⟨hq.1,(hB2 n os).trans (hq.2.mono (hB2 n os).size)⟩
 clear hown hgr hcells h4 h4' hH hB1 hB2 hord hfl hperm hR hRt
 go_wp2_with (first | (go_at_call 198;refine hsort.mono ?_;rintro e w2 ⟨rfl,n,os,rfl⟩;have hJ2:=hJ n os;generalize (grow (putRow encStr (Sort.ahead w1 n) g 0 ts.toArray) os)=w3 at hJ2 ⊢) | (go_at_call 191;refine hJ2.mono ?_;rintro e w4 ⟨rfl,hb4⟩))
 go_ret
 exact⟨rfl,hb4⟩
end Go.Proofs.YtpaimpmokhihmaaGreatDoor
namespace Go.Proofs.YtpaimpmokhihmaaGreatDoor.Vm
open Go.Proofs Go.RowKit
noncomputable def XE (N:Nat):Sig:=.of [.cell false (.sl 9 (.str .nil))] [.cell false .str] (fun a=>Uk N a)
def zN {N:Nat} {O:Own} {w:World} {vs:Array Value} (l:List Bs) (out:Bs) (hv:vs.size=1) (hx0:Jt O w (vs.getD 0 undef) (.sl ⟨.str .nil,l⟩)) (h2':Uk N l=some out) :
 Calls Tryz.prog 141 vs w fun e' w'=> ∃ v O',e'= .returned v/\Came O w vs (XE N) [.str out] v O' w':=by
 unfold Uk at h2'
 have hv1:vs= #[vs.getD 0 undef]:=by
  apply EC
  .exact hv
  .intro i h1 h2;have:i=0:=by simp at h2;omega
   subst this;simp [Dj,h1]
 cases hc:(decide (0<l.length)&&(decide (l.length<=1099511627776)&&decide (l.flatten.length<=140737488355328)))with
 | false=>rw[hc]at h2';cases h2'
 | true =>
  rw[hc]at h2';injection h2' with h2';simp only[Dn,Eh]at hc;obtain⟨c0,c1,c2⟩:=hc;rw[hv1];generalize vs.getD 0 undef=v0 at hx0;have hes0:(⟨.str .nil,l⟩:Sl).es=l.map (fun s:Bs=>[A.str s]):=rfl;have hsz:(⟨.str .nil,l⟩:Sl).sz=1:=rfl;generalize hL:(⟨.str .nil,l⟩:Sl)=L at hx0 hes0 hsz;have hlen:L.es.length=l.length:=by rw[hes0,D5]
  cases hx0 with
  | nil t =>
   have:l=[]:=by injection hL with h1 h2;subst h1;exact Gv h2
   rw[this]at c0;exact absurd c0 (by decide)
  | sl0 ad t =>
   have:l=[]:=by injection hL with h1 h2;subst h1;exact Gv h2
   rw[this]at c0;exact absurd c0 (by decide)
  | @sl b off cap l' vs' hcap hm hr =>
   have hw:=Aeg w b off cap l out h2' c0 c1 c2 (fun j u hj=>by
    have hjl:j<l.length:=by
     rcases DT j (l.length)with h | h
     .exact h
     .rw[DN (by simpa using h)]at hj;cases hj
    have hm1:=(hm j 0 (by rw[hlen];exact hjl) (by rw[hsz];omega)).2;have hr1:=hr j 0 (by rw[hlen];exact hjl) (by rw[hsz];omega);have e1:off+(j*L.sz+0)=off+j:=by rw[hsz];omega
    rw[e1]at hm1;rw[DW,D9 hjl]at hj;injection hj with hj;have e2:(L.es.getD j []).getD 0 .undef= .str (l[j]):=by rw[hes0];simp [Di,hjl]
    rw[e2]at hr1;rw[<- hj,hm1,Yx hr1])
   rw[<- hlen]at hw;refine hw.mono fun e' w' hq=> ?_;refine⟨_,O,hq.1,?_⟩;refine⟨Below.moves hq.2,fun b k _ h=>h,fun b k _ h=>h,rfl,⟨#[.string ⟨List.toArray out⟩],rfl,rfl,fun k hk=> ?_⟩,fun j i hj=> ?_⟩
   .have hk0:k=0:=by simp at hk;omega
    subst hk0;exact Jt.str (O:=O) (w:=w') ⟨List.toArray out⟩
   .exact absurd hj (by show(KF [.cell false (.sl 9 (.str .nil))] 0)[j]? ≠some i;simp [KF,JR])
def wE (N:Nat):Spec Tryz.prog 141 (XE N):=by refine⟨enters (fn:=Tryz.f141) (by kernel_rfl) (by kernel_rfl) (by decide),fun O w vs xs rs hI hv hl _ hx hrs=> ?_⟩;obtain⟨l,out,h1,h2,h3⟩:=Sig.Vw (Jp:=[.cell false (.sl 9 (.str .nil))]) (Jz:=[.cell false .str]) (f:=fun a=>Uk N a) hrs;subst h1;have h3':rs=[.str out]:=h3;subst h3';exact zN l out hv (hx 0 (by show 0<1;omega)) h2
end Go.Proofs.YtpaimpmokhihmaaGreatDoor.Vm
namespace Go.Proofs.YtpaimpmokhihmaaGreatDoor.Vm
open Go.Proofs Go.RowKit
def AgK {O:Own} {w:World} {bs:List ByteArray} {t:TypeId} {l:List Bs} (hl:bs.map (·.data.toList)=l) :
 Jt (fun b k=>if b<w.heap.size then O b k else none) (w.alloc (.cells (bs.map Value.string).toArray t)) (.slice (some ⟨w.heap.size,0,none⟩) bs.length bs.length) (.sl ⟨.str .nil,l⟩):=by
 have hll:l.length=bs.length:=by rw[<- hl,D5]
 have hget: ∀ i (h:i<bs.length),l.getD i []=bs[i].data.toList:=by intro i h;rw[<- hl];simp [Di,h]
 have hes0:(⟨.str .nil,l⟩:Sl).es=l.map (fun s:Bs=>[A.str s]):=rfl;have hsz:(⟨.str .nil,l⟩:Sl).sz=1:=rfl;generalize (⟨.str .nil,l⟩:Sl)=L at *
 have hlen:L.es.length=bs.length:=by rw[hes0,D5,hll]
 have hb:(w.alloc (.cells (bs.map Value.string).toArray t)).heap[w.heap.size]? =some (.cells (bs.map Value.string).toArray t (0,0)):=YH _ _;have hcell: ∀ i,(w.alloc (.cells (bs.map Value.string).toArray t)).cell? (at' w.heap.size i)=(bs.map Value.string).toArray[i]? :=by intro i;simp only[World.cell?,hb];rfl
 have h:=Jt.sl (O:=fun b k=>if b<w.heap.size then O b k else none) (w:=w.alloc (.cells (bs.map Value.string).toArray t)) (b:=w.heap.size) (off:=0) (cap:=bs.length) (l:=L) (fun i _=>.string (bs.getD i ByteArray.empty)) (by rw[hlen];exact DR _)
  (fun i j hi hj=>by
    rw[hlen]at hi;rw[hsz]at hj;have hj0:j=0:=by omega
    subst hj0;refine⟨Du (Nat.lt_irrefl _),?_⟩;have e:0+(i*L.sz+0)=i:=by rw[hsz];omega
    rw[e,hcell];simp [Di,hi])
  (fun i j hi hj=>by
    rw[hlen]at hi;rw[hsz]at hj;have hj0:j=0:=by omega
    subst hj0;have e1:(L.es.getD i []).getD 0 .undef= .str (l.getD i []):=by rw[hes0];simp [Di,show i<l.length by omega]
    rw[e1,hget i hi];simp only[Di,D9 hi,Option.getD_some];exact Jt.str (bs[i]))
 rw[hlen]at h;exact h
def AeE {O:Own} {w:World} {vs:Array Value} {sg:Sig} {bs:List ByteArray} {t e:TypeId} {l:List Bs} (hp:sg.Jp.all Sh.flat=true) (hr:sg.Jz=[.cell false (.sl e (.str .nil))]) (hl:bs.map (·.data.toList)=l) :
 Came O w vs sg [.sl ⟨.str .nil,l⟩] (.slice (some ⟨w.heap.size,0,none⟩) bs.length bs.length) (fun b k=>if b<w.heap.size then O b k else none) (w.alloc (.cells (bs.map Value.string).toArray t)):=by
 have hix:KF sg.Jp 0=[]:=nG _ _ hp;refine⟨Moves.push _,fun b k hb h=>by rwa [Dw hb]at h,fun b k hb h=>by rwa [Dw hb],by rw[hix,hr];rfl,⟨#[.slice (some ⟨w.heap.size,0,none⟩) bs.length bs.length],by rw[hr];rfl,rfl,fun k hk=> ?_⟩,fun j i hj=> ?_⟩
 .have hk0:k=0:=by simp at hk;omega
  subst hk0;exact AgK hl
 .rw[hix]at hj;cases hj
noncomputable def PI (N:Nat):Sig:=.of [.cell false .str,.cell false .str] [.cell false (.sl 9 (.str .nil))] (fun a=>strings_Split N a.1 a.2)
def Ui (N:Nat):Spec Tryz.prog 213 (PI N):=by
 refine⟨enters (fn:=Tryz.f213) (by kernel_rfl) (by kernel_rfl) (by decide),fun O w vs xs rs hI hv hl _ hx hrs=> ?_⟩;obtain⟨a,o,h1,h2,h3⟩:=Sig.Vw (Jp:=[.cell false .str,.cell false .str]) (Jz:=[.cell false (.sl 9 (.str .nil))]) (f:=fun a=>strings_Split N a.1 a.2) hrs;subst h1;obtain⟨s,c⟩:=a;have hvs:=wH (bY [.cell false .str,.cell false .str] (s,c) rfl) hv hx;rw[hvs];have h2':(bif decide (List.length s<4294967281)&&decide (1<=List.length c)then some (Lib.split s c)else none)=some o:=h2;cases hc:(decide (List.length s<4294967281)&&decide (1<=List.length c))with
 | false=>rw[hc]at h2';cases h2'
 | true =>rw[hc]at h2';injection h2' with h2';subst h2';rw[Dn,Eh,Eh]at hc;obtain⟨_,v,hm,m,rfl⟩:=hI.1 1 0 _ rfl;have hlen:=Lib.splitB_all ⟨List.toArray c⟩ hc.2 0 _ ⟨List.toArray s⟩ rfl;refine(Tryz.strings_Split ⟨List.toArray s⟩ ⟨List.toArray c⟩ m w hc.1 hm hc.2).mono fun e w' hq=> ?_;obtain⟨he,hw⟩:=hq;subst hw;rw[<- hlen]at he;refine⟨_,fun b k=>if b<w.heap.size then O b k else none,he,?_⟩;have h3':rs=[.sl ⟨.str .nil,Lib.split s c⟩]:=h3;rw[h3'];exact AeE (O:=O) (w:=w) (e:=9) (sg:=PI N) rfl rfl (by rw[Lib.splitB_data];rfl)
noncomputable def Sz (N:Nat):Sig:=.of [.cell false .str,.cell false .str] [.cell false .str] (fun a=>strings_TrimPrefix N a.1 a.2)
def WS (N:Nat):Spec Tryz.prog 328 (Sz N) :=
 QD rfl rfl (enters (fn:=Tryz.f328) (by kernel_rfl) (by kernel_rfl) (by decide)) fun O w (a:Bs×Bs) (o:Bs) hI h=>by obtain⟨s,c⟩:=a;have h:some (Lib.trimPrefix s c)=some o:=h;injection h with h;subst h;refine(Tryz.strings_TrimPrefix ⟨List.toArray s⟩ ⟨List.toArray c⟩ w).mono fun e w' hq=> ?_;obtain⟨h1,h2⟩:=hq;subst h2;exact⟨h1,Below.refl _ _⟩
end Go.Proofs.YtpaimpmokhihmaaGreatDoor.Vm
namespace Go.Proofs.YtpaimpmokhihmaaGreatDoor
open Go.RowKit Vm
def UY (w:World) (s:ByteArray) (pos:Nat):Below w.heap.size w (w.iter s pos):=Below.alloc (Below.refl _ _) (DR _) _
def Ady (s:ByteArray) (i:Nat):1<=(Utf8.decode s i).2:=by
 unfold Utf8.decode;dsimp only;repeat' split
 all_goals (first | exact DR _ | (show 1<=_;omega))
def Ah1 (s:ByteArray) (b pos:Nat) (h: ¬ pos<s.size):QY s b pos=true:=by
 cases b with
 | zero=>rfl
 | succ b=>unfold QY;rw[Du h]
def AgO (s:ByteArray) (b pos:Nat) (h:pos<s.size):QY s (b+1) pos=if(Utf8.decode s pos).1<32\/(Utf8.decode s pos).1=127 then false else if(Utf8.decode s pos).1=65533/\Lib.hasPrefix (s.data.toList.drop pos) [239,191,189]=false then false else QY s b (pos+(Utf8.decode s pos).2):=by show(if pos<s.size then _ else _)=_;rw[Dw h]
set_option maxHeartbeats 1000000 in
set_option maxRecDepth 1000000 in
def AgP (s:ByteArray) (w:World) (R:Bool) (hR:QY s s.size 0=R) (hs:s.size<4294967281) :
 Calls Tryz.prog 278 #[.string s] w fun e w'=>e= .returned (.bool R)/\Below w.heap.size w w':=by
 go_enter Tryz.func278,Tryz.ntmps278
 go_wp2
 go_loopw [] (fun w'=> ∃(pos b:Nat),w'=w.iter s pos/\QY s b pos=R/\s.size<=pos+b) (fun w'=>s.size - w'.iterPos w.heap.size)
 case atStart=>exact⟨0,s.size,rfl,hR,by omega⟩
 case round =>
  obtain⟨pos,b,rfl,hc,hb⟩:=hrel;by_cases hp:pos<s.size
  .have hnx: ∀ ty,(Instr.next (.pointer (some ⟨w.heap.size,0,none⟩)) true ty).run Tryz.prog (w.iter s pos)=_:=fun ty=>run_next_any w s pos ty hp;have hwd:=Ady s pos;cases b with
   | zero=>omega
   | succ b =>
    rw[AgO s b pos hp]at hc;have hpx:=fun w=>Tryz.strings_HasPrefix (s.extract pos s.size) ⟨#[239,191,189]⟩ w;generalize h4:Lib.hasPrefix (s.extract pos s.size).data.toList ((⟨#[239,191,189]⟩:ByteArray)).data.toList=B at hpx;generalize Utf8.decode s pos=D at hnx hwd hc;obtain⟨c,k⟩:=D;dsimp only at hnx hwd hc;obtain⟨C,hC⟩: ∃ C:Int,(c:Int)=C:=⟨_,rfl⟩
    rw[hC]at hnx;by_cases h1:c<32
    .have t1:C<32:=by omega
     rw[Dw (Or.inl h1)]at hc;subst hc;clear h1 hC hR
     go_wp2
     go_ret
     exact⟨rfl,UY _ _ _⟩
    .have t1:32<=C:=by omega
     by_cases h2:c=127
     .have t2:(C==127)=true:=by simp;omega
      rw[Dw (Or.inr h2)]at hc;subst hc;clear h1 h2 hC hR
      go_wp2
      all_goals try (exfalso;omega)
      go_ret
      exact⟨rfl,UY _ _ _⟩
     .have t2:(C==127)=false:=by simp;omega
      rw[Du]at hc;by_cases h3:c=65533
      .have t3:(C==65533)=true:=by simp;omega
       cases B with
       | false =>
        rw[Dw ⟨h3,by rw[<- Lib.extract_to_end];exact h4⟩]at hc;subst hc;clear h1 h2 h3 h4 hC hR
        go_wp2_with (go_at_call 327;refine(hpx _).mono ?_;rintro e w' ⟨rfl,rfl⟩)
        all_goals try (exfalso;omega)
        go_ret
        exact⟨rfl,UY _ _ _⟩
       | true =>
        rw[Du (fun h=>by have h5:=h.2;rw[<- Lib.extract_to_end]at h5;exact absurd (h4.symm.trans h5) (by decide))]at hc;clear h1 h2 h3 hC
        go_wp2_with (go_at_call 327;refine(hpx _).mono ?_;rintro e w' ⟨rfl,rfl⟩)
        all_goals try (exfalso;omega)
        go_roundw
        case rel=>exact⟨pos+k,b,rfl,hc,by omega⟩
        case measure =>simp;omega
      .have t3:(C==65533)=false:=by simp;omega
       rw[Du (fun h=>h3 h.1)]at hc;clear h1 h2 h3 hC
       go_wp2
       all_goals try (exfalso;omega)
       go_roundw
       case rel=>exact⟨pos+k,b,rfl,hc,by omega⟩
       case measure =>simp;omega
  .have hnx: ∀ ty,(Instr.next (.pointer (some ⟨w.heap.size,0,none⟩)) true ty).run Tryz.prog (w.iter s pos)=_:=fun ty=>run_next_end w s pos ty hp
   go_wp2
   go_ret
   rw[Ah1 s b pos hp]at hc;rw[<- hc];exact⟨rfl,UY _ _ _⟩
end Go.Proofs.YtpaimpmokhihmaaGreatDoor
namespace Go.Proofs.YtpaimpmokhihmaaGreatDoor.Vm
open Go.Proofs Go.RowKit
noncomputable def rG (N:Nat):Sig:=.of [.cell false .str] [.cell false .bool] (fun a=>AbO N a)
def zM (N:Nat):Spec Tryz.prog 278 (rG N) :=
 QD rfl rfl (enters (fn:=Tryz.f278) (by kernel_rfl) (by kernel_rfl) (by decide)) fun O w (a:Bs) (o:Bool) hI h=>by
  have h:(bif decide (List.length a<4294967281)then some (Aip a)else none)=some o:=h;cases hc:decide (List.length a<4294967281)with
  | false=>rw[hc]at h;cases h
  | true =>
  rw[hc]at h;injection h with h;exact(AgP ⟨List.toArray a⟩ w o h (Ea hc)).mono fun e w' hq=>hq
end Go.Proofs.YtpaimpmokhihmaaGreatDoor.Vm
