/-
  CertSeal: the law returns true whatever the input; machine, functions, plain law (26 files)
-/
import Derived.RowKit
import Derived.Laws.Sem
set_option linter.all false
namespace Go.Proofs.YtfgdgdnlglejbaaGreatDoor.Vm
inductive Ty where
 | nil
 | bool (r:Ty)
 | int (k:IntKind) (r:Ty)
 | str (r:Ty)
 | sl (e:Nat) (t:Ty) (r:Ty)
 | ptr (r:Ty)
 | fn (r:Ty)
 | mp (kt vt:Ty) (r:Ty)
 deriving DecidableEq,Inhabited
namespace Ty
def pr (α :Type) (β :Type):Ty->Type
 | .nil=> α
 | _=> α × β
def Val:Ty->Type
 | .nil=>Unit
 | .bool r=>pr Bool r.Val r
 | .int _ r=>pr Int r.Val r
 | .str r=>pr (List UInt8) r.Val r
 | .sl _ t r=>pr (List t.Val) r.Val r
 | .ptr r=>r.Val
 | .fn r=>pr Nat r.Val r
 | .mp kt vt r=>pr (List (kt.Val×vt.Val)) r.Val r
def hd {α β :Type}:(r:Ty)->pr α β r-> α
 | .nil,a=>a
 | .bool _,p=>p.1
 | .int _ _,p=>p.1
 | .str _,p=>p.1
 | .sl _ _ _,p=>p.1
 | .ptr _,p=>p.1
 | .fn _,p=>p.1
 | .mp _ _ _,p=>p.1
def tl {α :Type}:(r:Ty)->pr α r.Val r->r.Val
 | .nil,_=>()
 | .bool _,p=>p.2
 | .int _ _,p=>p.2
 | .str _,p=>p.2
 | .sl _ _ _,p=>p.2
 | .ptr _,p=>p.2
 | .fn _,p=>p.2
 | .mp _ _ _,p=>p.2
def mk2 {α :Type}:(r:Ty)-> α ->r.Val->pr α r.Val r
 | .nil,a,_=>a
 | .bool _,a,b=>(a,b)
 | .int _ _,a,b=>(a,b)
 | .str _,a,b=>(a,b)
 | .sl _ _ _,a,b=>(a,b)
 | .ptr _,a,b=>(a,b)
 | .fn _,a,b=>(a,b)
 | .mp _ _ _,a,b=>(a,b)
def zero:(t:Ty)->t.Val
 | .nil=>()
 | .bool r=>mk2 r false r.zero
 | .int _ r=>mk2 r 0 r.zero
 | .str r=>mk2 r [] r.zero
 | .sl _ _ r=>mk2 r [] r.zero
 | .ptr r=>r.zero
 | .fn r=>mk2 r 0 r.zero
 | .mp _ _ r=>mk2 r [] r.zero
def len:Ty->Nat
 | .nil=>0
 | .bool r=>r.len+1
 | .int _ r=>r.len+1
 | .str r=>r.len+1
 | .sl _ _ r=>r.len+1
 | .ptr r=>r.len+1
 | .fn r=>r.len+1
 | .mp _ _ r=>r.len+1
end Ty
structure Sl where
 t:Ty
 xs:List t.Val
 deriving Inhabited
structure Mp where
 kt:Ty
 vt:Ty
 l:List (kt.Val×vt.Val)
 deriving Inhabited
inductive CK where
 | bool | int (k:IntKind) | str | sl (e:Nat) (t:Ty) | sln (e:Nat) (t:Ty) | ptr | fn | mp (kt vt:Ty) | bx (t:Ty) | oth
 deriving DecidableEq
inductive A where
 | undef
 | bool (b:Bool)
 | int (k:IntKind) (n:Int)
 | str (s:List UInt8)
 | sl (l:Sl)
 | sln (l:Sl)
 | usl (z:Bool) (e:Nat) (l:Sl)
 | Fh
 | FP
 | ptr (o off:Nat)
 | own (o:Nat)
 | elt (cs:List A)
 | Eg (o i off:Nat)
 | agg (cs:List A)
 | tup (vs:List A)
 | box (cs:List A)
 | clo (f o:Nat)
 | cbx (f:Nat) (cs:List A)
 | bsl (o n:Nat)
 | osl (o k:Nat)
 | fn (f:Nat)
 | ump (l:Mp)
 | cnd (g:Bool) (v:A)
 deriving Inhabited
inductive Obj where
 | box (cs:List A)
 | arr (e:Nat) (frz:Bool) (l:Sl)
 | mp (l:Mp)
 deriving Inhabited
def Ty.cells:(t:Ty)->t.Val->List A
 | .nil,_=>[]
 | .bool r,v=>.bool (r.hd v)::r.cells (r.tl v)
 | .int k r,v=>.int k (r.hd v)::r.cells (r.tl v)
 | .str r,v=>.str (r.hd v)::r.cells (r.tl v)
 | .sl _ t r,v=>.sl ⟨t,r.hd v⟩::r.cells (r.tl v)
 | .ptr r,v=>.FP::r.cells v
 | .fn r,v=>.fn (r.hd v)::r.cells (r.tl v)
 | .mp kt vt r,v=>.ump ⟨kt,vt,r.hd v⟩::r.cells (r.tl v)
def Sl.sz (l:Sl):Nat:=l.t.len
def Sl.es (l:Sl):List (List A):=l.xs.map l.t.cells
def Sl.at (l:Sl) (i:Nat):List A:=l.t.cells (l.xs.getD i l.t.zero)
def Sl.cast (l:Sl) (t:Ty):Option (List t.Val) :=
 match decEq l.t t with
 | .isTrue h=>some (h▸l.xs)
 | .isFalse _=>none
def Mp.cast (l:Mp) (kt vt:Ty):Option (List (kt.Val×vt.Val)) :=
 match decEq l.kt kt with
 | .isTrue h=>match decEq l.vt vt with
  | .isTrue h'=>some (h▸h'▸l.l)
  | .isFalse _=>none
 | .isFalse _=>none
structure St where
 tmps:List A
 Dn:List (Nat×Obj)
def D6:List (Nat×Obj)->Nat->Option Obj
 | [],_=>none
 | (k,x)::r,n=>bif Nat.beq k n then some x else D6 r n
def LV:List (Nat×Obj)->Nat->List (Nat×Obj)
 | [],_=>[]
 | (k,x)::r,n=>bif Nat.beq k n then LV r n else(k,x)::LV r n
def Xn:List (Nat×Obj)->Nat->Obj->List (Nat×Obj)
 | [],n,y=>[(n,y)]
 | (k,x)::r,n,y=>bif Nat.ble n k then(n,y)::(k,x)::r else(k,x)::Xn r n y
def F7 (l:List (Nat×Obj)) (n:Nat) (y:Obj):List (Nat×Obj):=Xn (LV l n) n y
def has (l:List Nat) (n:Nat):Bool:=l.any (Nat.beq n)
namespace A
def toB:A->Bool | .bool b=>b | _=>false
def isB:A->Bool | .bool _=>true | _=>false
def toI:A->Int | .int _ n=>n | _=>0
def kEq:IntKind->IntKind->Bool
 | .i8,.i8 | .i16,.i16 | .i32,.i32 | .i64,.i64 | .u8,.u8 | .u16,.u16 | .u32,.u32 | .u64,.u64=>true
 | _,_=>false
def isI (k:IntKind):A->Bool | .int k' _=>kEq k k' | _=>false
def toS:A->List UInt8 | .str s=>s | _=>[]
def isS:A->Bool | .str _=>true | _=>false
def toL:A->Sl | .sl l=>l | .sln l=>l | .usl _ _ l=>l | _=>default
def weak:A->A | .sln l=>.sl l | a=>a
def strong:A->A | .sl l=>.sln l | a=>a
def AoK:A->Bool | .sl _=>false | _=>true
def Aby (t:Ty):A->Bool | .sln l=>decide (l.t=t) | _=>false
def AgY (t:Ty):A->Bool | .sl l=>decide (l.t=t) | _=>false
def Afr (z:Bool) (e:Nat) (t:Ty):A->Bool | .usl z' e' l=>(z==z')&&(Nat.beq e e'&&decide (l.t=t)) | _=>false
def lU:A->Bool | .FP=>true | _=>false
def isFn:A->Bool | .fn _=>true | _=>false
def qF (kt vt:Ty):A->Bool | .ump l=>decide (l.kt=kt)&&decide (l.vt=vt) | _=>false
def toM:A->Mp | .ump l=>l | _=>default
def VR:A->List A | .agg cs=>cs | .box cs=>cs | .cbx _ cs=>cs | _=>[]
def Aj9 (f n:Nat):A->Bool | .cbx g cs=>Nat.beq f g&&Nat.beq cs.length n | _=>false
def isAgg (n:Nat):A->Bool | .agg cs=>Nat.beq cs.length n | _=>false
def Aj8 (n:Nat):A->Bool | .box cs=>Nat.beq cs.length n | _=>false
def isVal:A->Bool | .undef=>false | .tup _=>false | .usl _ _ _=>false | .ump _=>false | .box _=>false | .cbx _ _=>false | .cnd _ _=>false | _=>true
def cells:A->List A | .agg cs=>cs | v=>[v]
def strip:A->List Bool×A | .cnd g v=>([g],v) | v=>([],v)
def Jo:A->Bool×A | .cnd g v=>(g,v) | v=>(true,v)
def Gz:A->List Nat
 | .ptr o _=>[o] | .own o=>[o] | .Eg o _ _=>[o] | .clo _ o=>[o] | .bsl o _=>[o] | .osl o _=>[o] | _=>[]
def ArP:A->List Nat
 | .agg cs=>cs.flatMap Gz
 | .cnd _ (.agg cs)=>cs.flatMap Gz
 | .cnd _ v=>Gz v
 | v=>Gz v
def ids:A->List Nat
 | .tup vs=>vs.flatMap ArP
 | v=>ArP v
end A
def Obj.ids:Obj->List Nat
 | .box cs=>cs.flatMap A.Gz
 | _=>[]
def St.ids (st:St):List Nat:=st.tmps.flatMap A.ids++st.Dn.flatMap (fun p=>p.2.ids)
def UI (n:Nat):Bool:=Nat.blt n 32768&&Nat.beq (n % 256) 0
def St.fresh (st:St) (n:Nat):Bool:= !(has st.ids n)&&(D6 st.Dn n).isNone&& !(Nat.beq n 255)&& !(UI n)
def force:CK->A->List Bool×A
 | .bool,c=>([c.isB],c)
 | .int k,c=>([c.isI k],c)
 | .str,c=>([c.isS],c)
 | .sl _ t,c=>([c.AgY t],c)
 | .sln _ t,c=>([c.Aby t],c)
 | .ptr,c=>([c.lU],c)
 | .fn,c=>([c.isFn],c)
 | .mp _ _,_=>([false],.undef)
 | .bx _,_=>([false],.undef)
 | .oth,_=>([],.undef)
def forces (cs:List A):List CK->Nat->List Bool×List A
 | [],_=>([],[])
 | k::ks,off=>((force k (cs.getD off .undef)).1++(forces cs ks (off+1)).1,(force k (cs.getD off .undef)).2::(forces cs ks (off+1)).2)
def CK.zero:CK->A
 | .bool=>.bool false
 | .int k=>.int k 0
 | .str=>.str []
 | .sl _ _=>.Fh
 | .sln _ _=>.Fh
 | .ptr=>.FP
 | .fn=>.fn 0
 | .mp _ _=>.undef
 | .bx _=>.undef
 | .oth=>.undef
def CK.plain:CK->Bool | .oth=>false | .mp _ _=>false | .bx _=>false | _=>true
def CK.Il:CK->A
 | .sl _ t=>.sl ⟨t,[]⟩
 | .sln _ t=>.sl ⟨t,[]⟩
 | k=>k.zero
structure TI where
 d:TypeDesc
 cs:List CK
 bytes:Nat
 cmp:List CK:=[]
def tyl:List CK->Ty
 | []=>.nil
 | .bool::r=>.bool (tyl r)
 | .int k::r=>.int k (tyl r)
 | .str::r=>.str (tyl r)
 | .sl e t::r=>.sl e t (tyl r)
 | .sln e t::r=>.sl e t (tyl r)
 | .ptr::r=>.ptr (tyl r)
 | .fn::r=>.fn (tyl r)
 | .mp kt vt::r=>.mp kt vt (tyl r)
 | .bx t::r=>.sl 0 t (tyl r)
 | .oth::r=>.ptr (tyl r)
def tck:Ty->List CK
 | .nil=>[]
 | .bool r=>.bool::tck r
 | .int k r=>.int k::tck r
 | .str r=>.str::tck r
 | .sl e t r=>.sln e t::tck r
 | .ptr r=>.ptr::tck r
 | .fn r=>.fn::tck r
 | .mp kt vt r=>.mp kt vt::tck r
def Ty.mk:(t:Ty)->List A->Bool×t.Val
 | .nil=>fun cs=>(cs.isEmpty,())
 | .bool r=>fun
  | .bool b::cs=>((r.mk cs).1,r.mk2 b (r.mk cs).2)
  | _=>(false,Ty.zero (.bool r))
 | .int k r=>fun
  | .int j n::cs=>(A.kEq j k&&(r.mk cs).1,r.mk2 n (r.mk cs).2)
  | _=>(false,Ty.zero (.int k r))
 | .str r=>fun
  | .str s::cs=>((r.mk cs).1,r.mk2 s (r.mk cs).2)
  | _=>(false,Ty.zero (.str r))
 | .sl e t r=>fun
  | .sl l::cs=>match l.cast t with
   | some xs=>((r.mk cs).1,r.mk2 xs (r.mk cs).2)
   | none=>(false,Ty.zero (.sl e t r))
  | _=>(false,Ty.zero (.sl e t r))
 | .ptr r=>fun
  | .FP::cs=>((r.mk cs).1,(r.mk cs).2)
  | _=>(false,Ty.zero (.ptr r))
 | .fn r=>fun
  | .fn n::cs=>((r.mk cs).1,r.mk2 n (r.mk cs).2)
  | _=>(false,Ty.zero (.fn r))
 | .mp kt vt r=>fun
  | .ump l::cs=>match l.cast kt vt with
   | some xs=>((r.mk cs).1,r.mk2 xs (r.mk cs).2)
   | none=>(false,Ty.zero (.mp kt vt r))
  | _=>(false,Ty.zero (.mp kt vt r))
def TI.agg (t:TI):Bool:=match t.d with | .struct _ | .array _ _=>true | _=>false
inductive Sh where
 | cell (u:Bool) (k:CK)
 | agg (cs:List (Bool×CK))
 | box (cs:List (Bool×CK))
 | map (kt vt:Ty)
 | clo (f:Nat) (cs:List (Bool×CK))
structure Sig where
 Dx:List Sh
 DL:List Sh
 ok:List A->Bool
 val:List A->List A
def Sig.F (sg:Sig) (xs:List A):Option (List A):=bif sg.ok xs then some (sg.val xs)else none
structure Nrm where
 keep:List Nat
 nw:List (List Nat×Nat×Ty×Nat)
 pz:List (Option Nat×Nat×Ty)
 ren:List (Nat×Nat)
 frz:List Nat
abbrev Alt:=Sig×Sig×(List A->Bool)
structure Ctx where
 T:Nat->Option TI
 G:Nat->Option Sig
 nrm:Nat->Option Nrm
 alt:Nat->Option Alt
 dyn:Nat->Option (Nat->Sig)
 cuts:List Nat:=[]
 binds:List Nat:=[]
 dec:Nat->Option Bool:=fun _=>none
 spl:Nat->Option (Nat×Nat×List Nat):=fun _=>none
 kept:Nat->List (Nat×Nat):=fun _=>[]
def Ctx.decide (C:Ctx) (ds:List Nat) (b:Bool):Ctx:= {C with dec:=fun d=>bif has ds d then some b else C.dec d}
def Ctx.put (C:Ctx) (f:Nat) (s:Sig):Ctx:= {C with G:=fun k=>bif Nat.beq f k then some s else C.G k}
structure Dl where
 ok:List Bool
 val:A
 new:List (Nat×Obj):=[]
 upd:List (Nat×Obj):=[]
 del:List Nat:=[]
 same:List (Nat×Nat):=[]
def Dl.no:Dl:= {ok:=[false],val:=.undef}
def Dl.v (a:A):Dl:= {ok:=[],val:=a}
def Dl.g (b:List Bool) (a:A):Dl:= {ok:=b,val:=a}
def Iz:Value->A
 | .bool b=>.bool b
 | .int k n=>.int k n
 | .string s=>.str s.data.toList
 | .slice none 0 0=>.Fh
 | .pointer none=>.FP
 | .nilFunc=>.fn 0
 | _=>.undef
def ofConst:Value->A
 | .agg vs=>bif vs.toList.all Value.oneCell' then .agg (vs.toList.map Iz)else .undef
 | v=>Iz v
abbrev Fet:=List (Nat×Obj)
def VK:CK->Sl->List Bool×A
 | .sln _ _,l=>([decide (0<l.xs.length)],.sln l)
 | _,l=>([],.sl l)
def Avc:CK->Sl->A
 | .sln _ _,l=>.sln l
 | _,l=>.sl l
def pur (fet:Fet) (k:CK):A->List Bool×A×List (Nat×Obj)
 | .own o=>match D6 fet o with
  | some (.arr e _ l)=>((VK k l).1,(VK k l).2,[(o,.arr e true l)])
  | _=>([false],.undef,[])
 | .Fh=>match k with
  | .sl _ t=>([],.sl ⟨t,[]⟩,[])
  | .sln _ t=>([],.sln ⟨t,[]⟩,[])
  | _=>([false],.undef,[])
 | .sln l=>([],Avc k l,[])
 | .bool b=>([],.bool b,[])
 | .int j n=>([],.int j n,[])
 | .str s=>([],.str s,[])
 | .sl l=>((VK k l).1,(VK k l).2,[])
 | .FP=>([],.FP,[])
 | .fn n=>([],.fn n,[])
 | _=>([false],.undef,[])
def ED (fet:Fet):List CK->List A->List Bool×List A×List (Nat×Obj)
 | [],[]=>([],[],[])
 | k::ks,c::cs=>((pur fet k c).1++(ED fet ks cs).1,(pur fet k c).2.1::(ED fet ks cs).2.1,(pur fet k c).2.2++(ED fet ks cs).2.2)
 | _,_=>([false],[],[])
def Fe (id:Nat):List CK->List A->List A×List (Nat×Obj)
 | .sl e t::ks,.Fh::cs=>(.own id::(Fe (id+1) ks cs).1,(id,.arr e false ⟨t,[]⟩)::(Fe (id+1) ks cs).2)
 | _::ks,c::cs=>(c::(Fe (id+1) ks cs).1,(Fe (id+1) ks cs).2)
 | _,cs=>(cs,[])
def rd (fet:Fet):A->List Bool×Sl
 | .own o=>match D6 fet o with
  | some (.arr _ _ l)=>([],l)
  | _=>([false],default)
 | .Fh=>([],default)
 | .sl l=>([],l)
 | _=>([false],default)
def rdT (fet:Fet) (t:Ty):A->List Bool×List t.Val
 | .Fh=>([],[])
 | x=>match (rd fet x).2.cast t with
  | some xs=>((rd fet x).1,xs)
  | none=>([false],[])
def LM:Ty:=.int .u8 .nil
def rdB (fet:Fet) (x:A):List Bool×List Int:=rdT fet LM x
def byteOf (n:Int):UInt8:=UInt8.ofNat n.toNat
def isByte (n:Int):Bool:=decide (0<=n)&&decide (n<256)
def DX (op:BinOp) (k:IntKind) (x y:Int):Int :=
 match op with
 | .and=>k.wrap (((BitVec.ofInt k.bits x) &&& (BitVec.ofInt k.bits y)).toNat)
 | .or=>k.wrap (((BitVec.ofInt k.bits x) ||| (BitVec.ofInt k.bits y)).toNat)
 | .xor=>k.wrap (((BitVec.ofInt k.bits x) ^^^ (BitVec.ofInt k.bits y)).toNat)
 | _=>k.wrap (((BitVec.ofInt k.bits x) &&& ~~~(BitVec.ofInt k.bits y)).toNat)
def xX (op:BinOp) (k:IntKind) (x y:Int):Dl :=
 match op with
 | .add=>.v (.int k (k.wrap (x+y)))
 | .sub=>.v (.int k (k.wrap (x - y)))
 | .mul=>.v (.int k (k.wrap (x*y)))
 | .quo=>.g [y != 0] (.int k (k.wrap (x.tdiv y)))
 | .rem=>.g [y != 0] (.int k (x.tmod y))
 | .and | .or | .xor | .andNot=>.v (.int k (DX op k x y))
 | .eql=>.v (.bool (x==y))
 | .neq=>.v (.bool (x != y))
 | .lss=>.v (.bool (decide (x<y)))
 | .leq=>.v (.bool (decide (x<=y)))
 | .gtr=>.v (.bool (decide (x>y)))
 | .geq=>.v (.bool (decide (x>=y)))
 | _=>.no
def bytesLess:List UInt8->List UInt8->Bool:=Go.Op.bytesLess
def xY (op:BinOp) (x y:List UInt8):Dl :=
 match op with
 | .add=>.g [decide (x.length+y.length<=140737488355328)] (.str (x++y))
 | .eql=>.v (.bool (x==y))
 | .neq=>.v (.bool (!(x==y)))
 | .lss=>.v (.bool (bytesLess x y))
 | .leq=>.v (.bool (bytesLess x y||x==y))
 | .gtr=>.v (.bool (!(bytesLess x y||x==y)))
 | .geq=>.v (.bool (!(bytesLess x y)))
 | _=>.no
def YV:CK->A->A->Bool×Bool
 | .bool,.bool a,.bool b=>(true,a==b)
 | .int k,.int i a,.int j b=>(A.kEq i k&&A.kEq j k,a==b)
 | .str,.str a,.str b=>(true,a==b)
 | _,_,_=>(false,false)
def JO:List CK->List A->List A->Bool×Bool
 | [],[],[]=>(true,true)
 | k::ks,a::x,b::y=>((YV k a b).1&&(JO ks x y).1,(YV k a b).2&&(JO ks x y).2)
 | _,_,_=>(false,false)
def Ty.same:(t:Ty)->t.Val->t.Val->Bool
 | .nil,_,_=>true
 | .bool r,a,b=>(r.hd a==r.hd b)&&r.same (r.tl a) (r.tl b)
 | .int _ r,a,b=>(r.hd a==r.hd b)&&r.same (r.tl a) (r.tl b)
 | .str r,a,b=>(r.hd a==r.hd b)&&r.same (r.tl a) (r.tl b)
 | _,_,_=>false
def Ul {β :Type} (t:Ty) (k:t.Val):List (t.Val× β)->Option β
 | []=>none
 | p::r=>bif t.same k p.1 then some p.2 else Ul t k r
def jA {β :Type} (t:Ty) (k:t.Val) (v: β):List (t.Val× β)->List (t.Val× β)
 | []=>[(k,v)]
 | p::r=>bif t.same k p.1 then(p.1,v)::r else p::jA t k v r
def iY {β :Type} (t:Ty) (k:t.Val):List (t.Val× β)->List (t.Val× β)
 | []=>[]
 | p::r=>bif t.same k p.1 then r else p::iY t k r
def IQ:List A->A
 | [c]=>c
 | cs=>.agg cs
def splice (l:List A) (off:Nat) (vs:List A):List A:=l.take off++vs++l.drop (off+vs.length)
def AfC (C:Ctx) (d:TypeDesc) (f:Nat):Option (Nat×TI) :=
 match d with
 | .struct fs=>match fs.toList[f]? with
  | some x=>match C.T x.type with
   | some ti=>some (x.offset,ti)
   | none=>none
  | none=>none
 | _=>none
def Aal:TypeDesc->Bool | .string=>true | _=>false
def V9:TypeDesc->Bool | .slice _=>true | .string=>true | _=>false
def AgX:TypeDesc->Bool | .bool=>true | _=>false
def Afp:TypeDesc->Bool | .int .u8=>true | _=>false
def Ab4 (C:Ctx) (d:TypeDesc) (f:Nat):Option (Nat×TI) :=
 match d with
 | .struct fs=>match fs.toList[f]? with
  | some x=>match C.T x.type with
   | some ti=>some (x.offset,ti)
   | none=>none
  | none=>none
 | .array n e=>match C.T e with
  | some ti=>bif Nat.blt f n then some (f*ti.cs.length,ti)else none
  | none=>none
 | _=>none
def Ab3 (ti:TI) (cs:List A) (off:Nat):A:=bif ti.agg then .agg ((cs.drop off).take ti.cs.length)else cs.getD off .undef
def fill (C:Ctx) (d:TypeDesc):List (Nat×A)->List A->Option (List A)
 | [],cs=>some cs
 | (i,v)::r,cs=>match Ab4 C d i with
  | some (off,ti)=>bif v.isVal&&Nat.beq v.cells.length ti.cs.length&&Nat.ble (off+ti.cs.length) cs.length then fill C d r (splice cs off v.cells)else none
  | none=>none
def H8 (fet:Fet) (ti:TI) (t:Ty):List (Nat×A)->List t.Val->List Bool×List t.Val×List (Nat×Obj)
 | [],xs=>([],xs,[])
 | (i,v)::r,xs=>((ED fet ti.cs v.cells).1++[(t.mk (ED fet ti.cs v.cells).2.1).1,Nat.blt i xs.length]++(H8 fet ti t r (xs.set i (t.mk (ED fet ti.cs v.cells).2.1).2)).1,
     (H8 fet ti t r (xs.set i (t.mk (ED fet ti.cs v.cells).2.1).2)).2.1,(ED fet ti.cs v.cells).2.2++(H8 fet ti t r (xs.set i (t.mk (ED fet ti.cs v.cells).2.1).2)).2.2)
def Sl.set (l:Sl) (i off:Nat) (cs:List A):Bool×Sl:=((l.t.mk (splice (l.at i) off cs)).1,⟨l.t,l.xs.set i (l.t.mk (splice (l.at i) off cs)).2⟩)
def E5:Sh->Bool | .box _=>true | .map _ _=>true | .clo _ _=>true | _=>false
def FQ (fet:Fet) (o:Nat):Option (List A):=match D6 fet o with | some (.box cs)=>some cs | _=>none
structure Arg where
 ok:List Bool
 a:A
 upd:List (Nat×Obj):=[]
 del:List Nat:=[]
 boxes:List (Nat×Sh):=[]
def DF (fet:Fet):List (Bool×CK)->List A->List Bool×List A×List (Nat×Obj)×List Nat
 | [],[]=>([],[],[],[])
 | (false,k)::ks,c::cs=>((pur fet k c).1++(DF fet ks cs).1,(pur fet k c).2.1::(DF fet ks cs).2.1,(pur fet k c).2.2++(DF fet ks cs).2.2.1,(DF fet ks cs).2.2.2)
 | (true,.sl e t)::ks,.own o::cs=>match D6 fet o with
  | some (.arr e' _ l)=>([Nat.beq e e',decide (l.t=t)]++(DF fet ks cs).1,.usl true e l::(DF fet ks cs).2.1,(o,.arr e true l)::(DF fet ks cs).2.2.1,o::(DF fet ks cs).2.2.2)
  | _=>([false],[],[],[])
 | (true,.sl e t)::ks,.Fh::cs=>((DF fet ks cs).1,.usl true e ⟨t,[]⟩::(DF fet ks cs).2.1,(DF fet ks cs).2.2.1,(DF fet ks cs).2.2.2)
 | (true,.sln e t)::ks,.own o::cs=>match D6 fet o with
  | some (.arr e' f l)=>([Nat.beq e e',decide (l.t=t),!f]++(DF fet ks cs).1,.usl false e l::(DF fet ks cs).2.1,(DF fet ks cs).2.2.1,o::(DF fet ks cs).2.2.2)
  | _=>([false],[],[],[])
 | (true,.sln e t)::ks,.Fh::cs=>((DF fet ks cs).1,.usl false e ⟨t,[]⟩::(DF fet ks cs).2.1,(DF fet ks cs).2.2.1,(DF fet ks cs).2.2.2)
 | (true,.bx t)::ks,.ptr o off::cs=>match FQ fet o with
  | some zs=>(Nat.beq off 0::(ED fet (tck t) zs).1++(DF fet ks cs).1,.box (ED fet (tck t) zs).2.1::(DF fet ks cs).2.1,(ED fet (tck t) zs).2.2++(DF fet ks cs).2.2.1,o::(DF fet ks cs).2.2.2)
  | none=>([false],[],[],[])
 | _,_=>([false],[],[],[])
def wC:Bool×CK->Bool
 | (true,.sln _ _)=>true
 | _=>false
def wS:Sh->Bool
 | .cell u k=>wC (u,k)
 | .agg ks=>ks.any wC
 | .box ks=>ks.any wC
 | .clo _ ks=>ks.any wC
 | .map _ _=>false
def Ec (fet:Fet):Sh->A->Arg
 | .cell u k,a=>match DF fet [(u,k)] [a]with
  | (ok,[c],upd,del)=> {ok,a:=c,upd,del}
  | _=> {ok:=[false],a:=.undef}
 | .agg ks,.agg cs=>match DF fet ks cs with
  | (ok,cs,upd,del)=> {ok,a:=.agg cs,upd,del}
 | .box ks,.ptr o off=>match FQ fet o with
  | some cs=> {ok:=Nat.beq off 0::Nat.ble ks.length 200::(DF fet ks cs).1,a:=.box (DF fet ks cs).2.1,upd:=(DF fet ks cs).2.2.1,del:=(DF fet ks cs).2.2.2,boxes:=[(o,.box ks)]}
  | none=> {ok:=[false],a:=.undef}
 | .clo f ks,.clo g o=>match FQ fet o with
  | some cs=> {ok:=Nat.beq f g::Nat.ble ks.length 200::(DF fet ks cs).1,a:=.cbx g (DF fet ks cs).2.1,upd:=(DF fet ks cs).2.2.1,del:=(DF fet ks cs).2.2.2,boxes:=[(o,.box ks)]}
  | none=> {ok:=[false],a:=.undef}
 | .map kt vt,.own o=>match D6 fet o with
  | some (.mp l)=> {ok:=[decide (l.kt=kt),decide (l.vt=vt)],a:=.ump l,boxes:=[(o,.map kt vt)]}
  | _=> {ok:=[false],a:=.undef}
 | _,_=> {ok:=[false],a:=.undef}
def DW (fet:Fet):List Sh->List A->List Bool×List A×List (Nat×Obj)×List Nat×List (Nat×Sh)
 | [],[]=>([],[],[],[],[])
 | s::ss,a::aa=>((Ec fet s a).ok++(DW fet ss aa).1,(Ec fet s a).a::(DW fet ss aa).2.1,(Ec fet s a).upd++(DW fet ss aa).2.2.1,
  (Ec fet s a).del++(DW fet ss aa).2.2.2.1,(Ec fet s a).boxes++(DW fet ss aa).2.2.2.2)
 | _,_=>([false],[],[],[],[])
def DZ (id:Nat):List (Bool×CK)->List A->Nat->List Bool×List A×List (Nat×Obj)
 | [],_,_=>([],[],[])
 | (false,k)::ks,cs,j=>((force k (cs.getD j .undef)).1++(DZ id ks cs (j+1)).1,(force k (cs.getD j .undef)).2::(DZ id ks cs (j+1)).2.1,(DZ id ks cs (j+1)).2.2)
 | (true,.sl e t)::ks,cs,j=>((cs.getD j .undef).Afr true e t::(DZ id ks cs (j+1)).1,.own (id+j)::(DZ id ks cs (j+1)).2.1,
     (id+j,.arr e true (cs.getD j .undef).toL)::(DZ id ks cs (j+1)).2.2)
 | (true,.sln e t)::ks,cs,j=>((cs.getD j .undef).Afr false e t::(DZ id ks cs (j+1)).1,.own (id+j)::(DZ id ks cs (j+1)).2.1,
     (id+j,.arr e false (cs.getD j .undef).toL)::(DZ id ks cs (j+1)).2.2)
 | (true,.bx t)::ks,cs,j=>((cs.getD j .undef).Aj8 t.len::(DZ id ks cs (j+1)).1,.ptr (id+j) 0::(DZ id ks cs (j+1)).2.1,(id+j,.box (cs.getD j .undef).VR)::(DZ id ks cs (j+1)).2.2)
 | _,_,_=>([false],[],[])
def back (id:Nat):Sh->A->List Bool×A×List (Nat×Obj)
 | .cell u k,a=>((DZ id [(u,k)] [a] 0).1++[k.plain],(DZ id [(u,k)] [a] 0).2.1.getD 0 .undef,(DZ id [(u,k)] [a] 0).2.2)
 | .agg ks,a=>(Nat.ble ks.length 200::a.isAgg ks.length::(DZ (id+1) ks a.VR 0).1,.agg (DZ (id+1) ks a.VR 0).2.1,(DZ (id+1) ks a.VR 0).2.2)
 | .box ks,a=>(Nat.ble ks.length 200::a.Aj8 ks.length::(DZ (id+1) ks a.VR 0).1,.ptr id 0,(id,.box (DZ (id+1) ks a.VR 0).2.1)::(DZ (id+1) ks a.VR 0).2.2)
 | .map kt vt,a=>([a.qF kt vt],.own id,[(id,.mp a.toM)])
 | .clo f ks,a=>(Nat.ble ks.length 200::a.Aj9 f ks.length::(DZ (id+1) ks a.VR 0).1,.clo f id,(id,.box (DZ (id+1) ks a.VR 0).2.1)::(DZ (id+1) ks a.VR 0).2.2)
def EP (id stride:Nat):List Sh->List A->Nat->List Bool×List A×List (Nat×Obj)
 | [],_,_=>([],[],[])
 | s::ss,rs,j=>((back (id+stride*j) s (rs.getD j .undef)).1++(EP id stride ss rs (j+1)).1,(back (id+stride*j) s (rs.getD j .undef)).2.1::(EP id stride ss rs (j+1)).2.1,
  (back (id+stride*j) s (rs.getD j .undef)).2.2++(EP id stride ss rs (j+1)).2.2)
def H5 (rb:Nat):Sh->A->List Bool×Obj×List (Nat×Obj)
 | .box ks,a=>(a.isAgg ks.length::(DZ (rb+1) ks a.VR 0).1,.box (DZ (rb+1) ks a.VR 0).2.1,(DZ (rb+1) ks a.VR 0).2.2)
 | .map kt vt,a=>([a.qF kt vt],.mp a.toM,[])
 | _,_=>([false],.box [],[])
def ER (rb:Nat->Nat) (rs:List A):List (Nat×Sh)->Nat->List Bool×List (Nat×Obj)×List (Nat×Obj)
 | [],_=>([],[],[])
 | (o,s)::r,j=>((H5 (rb o) s (rs.getD j .undef)).1++(ER rb rs r (j+1)).1,
     (o,(H5 (rb o) s (rs.getD j .undef)).2.1)::(ER rb rs r (j+1)).2.1,(H5 (rb o) s (rs.getD j .undef)).2.2++(ER rb rs r (j+1)).2.2)
def Gm (fet:Fet) (o:Nat):Nat:=match FQ fet o with
 | some cs=>bif cs.any (fun c=>c.Gz.any (fun i=>Nat.blt o i&&Nat.ble i (o+100)))then o+100 else o
 | none=>o
def nodup:List Nat->Bool
 | []=>true
 | n::r=> !(has r n)&&nodup r
def FB (id:Nat):List (Bool×CK)->List A->List (Nat×Nat)
 | (true,.sl _ _)::ks,.own o::cs=>(o,id)::FB (id+1) ks cs
 | (true,.sln _ _)::ks,.own o::cs=>(o,id)::FB (id+1) ks cs
 | (true,.bx _)::ks,.ptr o _::cs=>(o,id)::FB (id+1) ks cs
 | _::ks,_::cs=>FB (id+1) ks cs
 | _,_=>[]
def Ip (fet:Fet) (id:Nat):Sh->A->List (Nat×Nat)
 | .cell u k,a=>FB id [(u,k)] [a]
 | .agg ks,.agg cs=>FB (id+1) ks cs
 | .box ks,.ptr o _=>(o,id)::(match FQ fet o with | some cs=>FB (id+1) ks cs | none=>[])
 | .map _ _,.own o=>[(o,id)]
 | .clo _ ks,.clo _ o=>(o,id)::(match FQ fet o with | some cs=>FB (id+1) ks cs | none=>[])
 | _,_=>[]
def GX (fet:Fet):Nat->Nat->List Sh->List A->List (Nat×Nat)
 | id,stride,s::ss,x::xs=>Ip fet id s x++GX fet (id+stride) stride ss xs
 | _,_,_,_=>[]
end Go.Proofs.YtfgdgdnlglejbaaGreatDoor.Vm
namespace Go.Proofs.YtfgdgdnlglejbaaGreatDoor.Vm
def Abi:Nat->Option (IntKind×List Int)
 | 0=>some (.i64,[31,28,31,30,31,30,31,31,30,31,30,31])
 | _=>none
def Avr (j:Nat):Option (IntKind×List Int)->Option (Value->Prop)
 | some (k,ns)=>if j<ns.length then some (fun v=>v= .int k (ns.getD j 0))else none
 | none=>none
def XQ:Nat->Nat->Option (Value->Prop)
 | 1,0=>some (fun v=> ∃ m,v= .int .i64 m)
 | 2,j=>if j<20 then some (fun v=>v= .int .u64 ((10 ^ j:Nat):Int))else none
 | g,j=>Avr j (Abi g)
def AsB:Nat->Option Nat
 | 2=>some 20
 | _=>none
def AsA:Option (IntKind×List Int)->A
 | some (k,ns)=>.elt (ns.map (.int k))
 | none=>.undef
theorem Aun {g:Nat} {q:IntKind×List Int} (h:Abi g=some q) (j:Nat):XQ g j=Avr j (some q):=by rw[<- h];unfold XQ;split<;>first | rfl | (exfalso;cases h;done)
def ET (tmps:List A):Operand->A
 | .tmp t=>tmps.getD t .undef
 | .const v=>ofConst v
 | .func f=>.fn (f+1)
 | .global g=>AsA (Abi g)
def b2 (d:Nat):Nat:=(d+128)*256
def Em {α :Type} (o:Option α) (k: α ->Dl):Dl:=match o with | some x=>k x | none=>.no
def FT (C:Ctx) (t:Nat) (k:TI->Dl):Dl:=Em (C.T t) k
def elem? :TypeDesc->Option Nat
 | .slice e=>some e
 | _=>none
def elemOf (C:Ctx) (t:Nat) (k:Nat->TI->Dl):Dl:=FT C t fun ti=>Em (elem? ti.d) fun e=>FT C e fun te=>k e te
structure Arr where
 e:Nat
 frz:Bool
 l:Sl
def Xo (fet:Fet) (o:Nat):Option Arr:=match D6 fet o with | some (.arr e frz l)=>some ⟨e,frz,l⟩ | _=>none
def one? {α :Type}:List α ->Option α
 | [k]=>some k
 | _=>none
def Afm:List CK->Bool
 | [.ptr]=>true
 | _=>false
def Ru (ti:TI) (cs:List A) (off:Nat) (pre:List Bool):Dl :=
 bif ti.agg then .g (pre++(forces cs ti.cs off).1) (.agg (forces cs ti.cs off).2)
 else Em (one? ti.cs) fun k=>.g (pre++(force k (cs.getD off .undef)).1) (force k (cs.getD off .undef)).2
def isRow (ti:TI) (l:Sl) (i off:Nat):Bool:=Nat.blt 1 ti.cs.length&&Nat.beq l.sz 1&&Nat.beq off 0&&Nat.beq i 0
def sF (l:Sl) (n:Nat):List A:=(List.range n).map fun j=>(l.at j).getD 0 .undef
def YL (t:Ty) (cs:List A):Bool×List t.Val:=(cs.all (fun c=>(t.mk [c]).1),cs.map (fun c=>(t.mk [c]).2))
def VZ (C:Ctx) (fet:Fet) (t:Nat) (a:A):Dl :=
 FT C t fun ti=>match a with
 | .ptr o off=>Em (FQ fet o) fun cs=>.g [Nat.ble (off+ti.cs.length) cs.length,Nat.blt 0 ti.cs.length] (Ab3 ti cs off)
 | .elt cs=>Ru ti cs 0 [Nat.ble ti.cs.length cs.length]
 | .clo k o=>.g [Nat.beq k 0,Afm ti.cs,!ti.agg] (.ptr o 0)
 | .Eg o i off=>Em (Xo fet o) fun r=>bif isRow ti r.l i off then Ru ti (sF r.l ti.cs.length) 0 [Nat.ble ti.cs.length r.l.xs.length,true]else Ru ti (r.l.at i) off [Nat.ble (off+ti.cs.length) r.l.sz,decide (i<r.l.xs.length)]
 | _=>.no
def PW (C:Ctx) (fet:Fet) (t:Nat) (a v:A):Dl :=
 FT C t fun ti=>match a with
 | .ptr o off=>Em (FQ fet o) fun cs =>
  {ok:=[v.isVal,Nat.beq v.cells.length ti.cs.length,Nat.ble (off+ti.cs.length) cs.length,Nat.blt 0 ti.cs.length],val:=.undef,
   upd:=[(o,.box (splice cs off (Fe (Gm fet o+1+off) ti.cs v.cells).1))],new:=(Fe (Gm fet o+1+off) ti.cs v.cells).2}
 | .Eg o i off=>Em (Xo fet o) fun r=>bif isRow ti r.l i off then
  {ok:=(ED fet ti.cs v.cells).1++[!r.frz,(YL r.l.t (ED fet ti.cs v.cells).2.1).1,Nat.beq ti.cs.length r.l.xs.length,true,Nat.blt 0 ti.cs.length,!(has ((ED fet ti.cs v.cells).2.2.map (·.1)) o)],val:=.undef,
   upd:=(ED fet ti.cs v.cells).2.2++[(o,.arr r.e false ⟨r.l.t,(YL r.l.t (ED fet ti.cs v.cells).2.1).2⟩)]}else
  {ok:=(ED fet ti.cs v.cells).1++[!r.frz,(r.l.set i off (ED fet ti.cs v.cells).2.1).1,Nat.ble (off+ti.cs.length) r.l.sz,decide (i<r.l.xs.length),Nat.blt 0 ti.cs.length,!(has ((ED fet ti.cs v.cells).2.2.map (·.1)) o)],val:=.undef,
   upd:=(ED fet ti.cs v.cells).2.2++[(o,.arr r.e false (r.l.set i off (ED fet ti.cs v.cells).2.1).2)]}
 | _=>.no
def adK (C:Ctx) (d:Nat) (ti:TI):List CK:=bif has C.cuts d then []else ti.cs
def RH (C:Ctx) (d:Nat) (t:Nat) (v:A):Dl :=
 FT C t fun ti=> {ok:=[v.isVal,Nat.beq v.cells.length ti.cs.length],val:=.ptr (b2 d) 0,new:=(b2 d,.box (Fe (b2 d+1) (adK C d ti) v.cells).1)::(Fe (b2 d+1) (adK C d ti) v.cells).2}
def Yy (off n:Nat) (fet:Fet):A->Dl
 | .ptr o p=>Em (FQ fet o) fun cs=>.g [Nat.ble (p+off+n) cs.length] (.ptr o (p+off))
 | .elt cs=>.g [Nat.ble (off+n) cs.length] (.elt (cs.drop off))
 | .Eg o i p=>Em (Xo fet o) fun r=>.g [decide (i<r.l.xs.length)] (.Eg o i (p+off))
 | _=>.no
def o7:TypeDesc->Option (Nat×Nat)
 | .array n e=>some (n,e)
 | _=>none
def int? :A->Option Int
 | .int _ n=>some n
 | _=>none
def AsW:CK->Option IntKind
 | .int k=>some k
 | _=>none
def Aes (C:Ctx) (t:Nat) (k:Nat->IntKind->Dl):Dl:=FT C t fun ti=>Em (o7 ti.d) fun p=>FT C p.2 fun te=>bif te.agg then .no else Em (one? te.cs) fun c=>Em (AsW c) fun kk=>k p.1 kk
def qQ (cs:List A) (n:Int):Int:=(cs.map A.toI).getD n.toNat 0
def Y9 (C:Ctx) (fet:Fet) (t:Nat) (x:A) (i:A):Dl :=
 match x with
 | .Eg o i0 off0=>Em (int? i) fun n=>FT C t fun ti=>Em (o7 ti.d) fun p=>FT C p.2 fun te=>Em (Xo fet o) fun r =>
  .g [Nat.beq i0 0,Nat.beq off0 0,Nat.beq r.l.sz te.cs.length,decide (0<=n),decide (n<(p.1:Int)),decide (n.toNat<r.l.xs.length)] (.Eg o n.toNat 0)
 | .elt cs=>Em (int? i) fun n=>Aes C t fun m kk=>.g [cs.all (A.isI kk),Nat.beq cs.length m,decide (0<=n),decide (n<(m:Int))] (.elt [.int kk (qQ cs n)])
 | x =>
 Em (int? i) fun n=>elemOf C t fun _ te=>match x with
 | .own o=>Em (Xo fet o) fun r=>.g [Nat.beq r.l.sz te.cs.length,decide (0<=n),decide (n<r.l.xs.length)] (.Eg o n.toNat 0)
 | .sl l=>.g [Nat.beq l.sz te.cs.length,Nat.blt 0 l.sz,decide (0<=n),decide (n<l.xs.length)] (.elt (l.at n.toNat))
 | .bsl o k=>Em (FQ fet o) fun cs=>.g [Nat.beq te.cs.length 1,decide (0<=n),Nat.blt n.toNat k,Nat.blt n.toNat cs.length] (.ptr o n.toNat)
 | _=>.no
def Al4:A->Option (List UInt8)
 | .str s=>some s
 | _=>none
def Afk (C:Ctx) (t:Nat) (x i:A):Dl :=
 Em (int? i) fun n=>match x with
 | .agg cs=>Aes C t fun m kk=>.g [cs.all (A.isI kk),Nat.beq cs.length m,decide (0<=n),decide (n<(m:Int))] (.int kk (qQ cs n))
 | x=>Em (Al4 x) fun s=>FT C t fun ti=>.g [Aal ti.d,decide (0<=n),decide (n<s.length)] (.int .u8 ((s.getD n.toNat 0).toNat:Int))
def Ads (len:Nat):Option A->Option A->Option (List Bool×Nat×Nat)
 | none,none=>some ([],0,len)
 | some (.int _ a),none=>some ([decide (0<=a),decide (a<=len)],a.toNat,len)
 | none,some (.int _ b)=>some ([decide (0<=b),decide (b<=len)],0,b.toNat)
 | some (.int _ a),some (.int _ b)=>some ([decide (0<=a),decide (a<=b),decide (b<=len)],a.toNat,b.toNat)
 | _,_=>none
def D9 {α :Type} (l:List α) (a b:Nat):List α :=(l.take b).drop a
def Gl (C:Ctx) (fet:Fet) (t:Nat) (x:A) (lo hi:Option A):Dl :=
 FT C t fun ti=>match x with
 | .str s=>Em (Ads s.length lo hi) fun r=>.g (Aal ti.d::r.1) (.str (D9 s r.2.1 r.2.2))
 | .sl l=>Em (Ads l.xs.length lo hi) fun r=>Em (elem? ti.d) fun e=>FT C e fun te=>.g (Nat.beq l.sz te.cs.length::r.1) (.sl ⟨l.t,D9 l.xs r.2.1 r.2.2⟩)
 | .own o=>Em (Xo fet o) fun ro=>Em (Ads ro.l.xs.length lo hi) fun r=>Em (elem? ti.d) fun e=>FT C e fun te =>
  {ok:=Nat.beq ro.l.sz te.cs.length::r.1,val:=.sl ⟨ro.l.t,D9 ro.l.xs r.2.1 r.2.2⟩,upd:=bif ro.frz then []else [(o,.arr ro.e true ro.l)]}
 | _=>.no
def yX (C:Ctx) (fet:Fet) (d t:Nat) (x hi:A):Dl :=
 FT C t fun ti=>match x with
 | .own o=>Em (Xo fet o) fun ro=>Em (Ads ro.l.xs.length none (some hi)) fun r=>Em (elem? ti.d) fun e=>FT C e fun te =>
  {ok:=Nat.beq ro.l.sz te.cs.length::r.1++[!ro.frz],val:=.own (b2 d),new:=[(b2 d,.arr ro.e false ⟨ro.l.t,D9 ro.l.xs r.2.1 r.2.2⟩)],del:=[o]}
 | _=>.no
def sS (C:Ctx) (fet:Fet) (t:Nat) (x a:A):Dl :=
 FT C t fun ti=>match x with
 | .own o=>Em (Xo fet o) fun ro=>Em (int? a) fun n=>Em (elem? ti.d) fun e=>FT C e fun te=>.g [Nat.beq ro.l.sz te.cs.length,decide (0<=n),decide (n<(ro.l.xs.length:Int))] (.osl o n.toNat)
 | _=>.no
def jC (ys:List Int) (k:Nat) (s:List UInt8):List Int:=ys.take k++s.map (fun(b:UInt8)=>((b.toNat:Int)))++ys.drop (k+s.length)
def Aj2 (C:Ctx) (fet:Fet) (ts:List Nat) (x y:A):Dl :=
 match ts with
 | [t,_]=>elemOf C t fun _ te=>match x with
  | .osl o k=>Em (Xo fet o) fun r=>Em (r.l.cast LM) fun ys=>Em (Al4 y) fun s =>
   {ok:=[Afp te.d,Nat.beq te.cs.length 1,!r.frz,decide (0<s.length),decide (k+s.length<=ys.length)],val:=.int .i64 (s.length:Int),upd:=[(o,.arr r.e false ⟨LM,jC ys k s⟩)]}
  | _=>.no
 | _=>.no
def mapOf (C:Ctx) (t:Nat) (k:TI->TI->Dl):Dl:=FT C t fun ti=>match ti.d with
 | .map a b=>FT C a fun ta=>FT C b fun tb=>k ta tb
 | _=>.no
def mp? (fet:Fet):A->Option (Nat×Mp)
 | .own o=>match D6 fet o with
  | some (.mp l)=>some (o,l)
  | _=>none
 | _=>none
def Ao6 (C:Ctx) (ta:TI):Bool:=match ta.d with
 | .string=>true
 | .int _=>true
 | .array n e=>match C.T e with
  | some te=>Aal te.d&&Nat.blt 1 n
  | none=>false
 | _=>false
def AjE (ti:TI):Bool:=ti.agg== !(Nat.beq ti.cs.length 1)
def Aoz:A->Bool
 | .agg [_]=>false
 | _=>true
def Aj5 (C:Ctx) (ta tb:TI) (l:Mp) (i:A):List Bool:=[Ao6 C ta,AjE tb,decide (l.kt=tyl ta.cs),decide (l.vt=tyl tb.cs),i.isVal,Aoz i,(l.kt.mk i.cells).1]
def Su (C:Ctx) (d t:Nat) (r:List A):Dl:=mapOf C t fun ta tb =>
 {ok:=[r.isEmpty],val:=.own (b2 d),new:=[(b2 d,.mp ⟨tyl ta.cs,tyl tb.cs,[]⟩)]}
def Ahb (l:Mp) (c:Bool) (r:Option l.vt.Val):A :=
 bif c then .tup [IQ (l.vt.cells (r.getD l.vt.zero)),.bool r.isSome]else IQ (l.vt.cells (r.getD l.vt.zero))
def Abz (C:Ctx) (fet:Fet) (t:Nat) (c:Bool) (x i:A):Dl:=mapOf C t fun ta tb=>Em (mp? fet x) fun p =>
 .g (Aj5 C ta tb p.2 i++[tb.cs.all CK.plain]) (Ahb p.2 c (Ul p.2.kt (p.2.kt.mk i.cells).2 p.2.l))
def nZ (C:Ctx) (fet:Fet) (t:Nat) (x i v:A):Dl:=mapOf C t fun ta tb=>Em (mp? fet x) fun p =>
 {ok:=Aj5 C ta tb p.2 i++[v.isVal,Aoz v]++(ED fet tb.cs v.cells).1++[(p.2.vt.mk (ED fet tb.cs v.cells).2.1).1],val:=.undef,
  upd:=(ED fet tb.cs v.cells).2.2++[(p.1,.mp ⟨p.2.kt,p.2.vt,jA p.2.kt (p.2.kt.mk i.cells).2 (p.2.vt.mk (ED fet tb.cs v.cells).2.1).2 p.2.l⟩)]}
def lJ (C:Ctx) (fet:Fet) (t:Nat) (x i:A):Dl:=mapOf C t fun ta tb=>Em (mp? fet x) fun p =>
 {ok:=Aj5 C ta tb p.2 i,val:=.tup [],upd:=[(p.1,.mp ⟨p.2.kt,p.2.vt,iY p.2.kt (p.2.kt.mk i.cells).2 p.2.l⟩)]}
def AgZ (C:Ctx) (fet:Fet) (t:Nat) (x:A):Dl :=
 FT C t fun ti=>match ti.d with
 | .string=>Em (Al4 x) fun s=>.v (.int .i64 (s.length:Int))
 | .array n _=>.v (.int .i64 (n:Int))
 | .slice _=>match x with
  | .bsl o k=>Em (FQ fet o) fun _=>.v (.int .i64 (k:Int))
  | x=>.g (rd fet x).1 (.int .i64 ((rd fet x).2.xs.length:Int))
 | .map _ _=>Em (mp? fet x) fun p=>.v (.int .i64 (p.2.l.length:Int))
 | _=>.no
def JB (fet:Fet) (t:Ty):A->List Bool×List t.Val
 | .str s=>match t with
  | .int .u8 .nil=>([],s.map (fun(b:UInt8)=>((b.toNat:Int))))
  | _=>([false],[])
 | y=>rdT fet t y
def jS (C:Ctx) (fet:Fet) (d:Nat) (t:Nat) (x y:A):Dl :=
 elemOf C t fun e te=>match x with
 | .own o=>Em (Xo fet o) fun r =>
  {ok:=(JB fet r.l.t y).1++[Nat.beq e r.e,Nat.beq r.l.sz te.cs.length,Nat.blt 0 r.l.sz,decide ((r.l.xs.length+(JB fet r.l.t y).2.length)*(te.bytes+1)<=140737488355328)],
   val:=.own (b2 d),new:=[(b2 d,.arr r.e r.frz ⟨r.l.t,r.l.xs++(JB fet r.l.t y).2⟩)],del:=[o]}
 | .Fh =>
  {ok:=(JB fet (tyl te.cs) y).1++[Nat.blt 0 te.cs.length,decide ((JB fet (tyl te.cs) y).2.length*(te.bytes+1)<=140737488355328)],
   val:=.own (b2 d),new:=[(b2 d,.arr e false ⟨tyl te.cs,(JB fet (tyl te.cs) y).2⟩)]}
 | _=>.no
def Vz (C:Ctx) (fet:Fet) (src dst:Nat) (x:A):Dl :=
 FT C src fun s=>FT C dst fun t=>match t.d,x with
 | .int k,.int _ n=>.v (.int k (k.wrap n))
 | .string,.str l=>.v (.str l)
 | .string,.int _ _=>.no
 | .string,x=>Em (elem? s.d) fun e=>FT C e fun te=>.g (Afp te.d::((rdB fet x).1++[(rdB fet x).2.all isByte])) (.str ((rdB fet x).2.map byteOf))
 | _,_=>.no
def y9 (C:Ctx) (d s t:Nat) (l:List UInt8):Dl:=FT C s fun _=>elemOf C t fun e te =>
 {ok:=[Afp te.d,decide (l.length<=140737488355328)],val:=.own (b2 d),new:=[(b2 d,.arr e false ⟨LM,l.map (fun(b:UInt8)=>((b.toNat:Int)))⟩)]}
def Ak7:TypeDesc->Bool | .slice _=>true | _=>false
def Abt (C:Ctx) (o:Oper) (fet:Fet) (s t:Nat) (x:A):Dl :=
 match x with
 | .str l=>FT C t fun tt=>bif Ak7 tt.d then Em o.dst fun d=>y9 C d s t l else Vz C fet s t (.str l)
 | x=>Vz C fet s t x
def AsO (C:Ctx) (t:Nat):Option (Nat×IntKind):=match C.T t with
 | some ti=>match o7 ti.d with
  | some (n,e)=>match C.T e with
   | some te=>match te.cs with
    | [.int k]=>some (n,k)
    | _=>none
   | none=>none
  | none=>none
 | none=>none
def xZ (C:Ctx) (d t:Nat) (v:A):Dl:=match AsO C t with
 | some (n,k)=>match v with
  | .agg cs=> {ok:=[cs.all (A.isI k),Nat.beq cs.length n,Nat.ble n 16777216],val:=.Eg (b2 d) 0 0,new:=[(b2 d,.arr t false ⟨.int k .nil,cs.map A.toI⟩)]}
  | _=>.no
 | none=>RH C d t v
def WA (C:Ctx) (d t:Nat):Dl:=FT C t fun ti=>match o7 ti.d with
 | some (n,e)=>FT C e fun te=> {ok:=[te.cs.all CK.plain,Nat.blt 0 te.cs.length,Nat.blt 0 n,Nat.ble n 16777216,decide (ti.cs=(List.replicate n te.cs).flatten)],val:=.Eg (b2 d) 0 0,new:=[(b2 d,.arr t false ⟨tyl te.cs,List.replicate n (tyl te.cs).zero⟩)]}
 | none=>RH C d t (.agg (ti.cs.map CK.zero))
def Af2 (fet:Fet) (s:Bool) (d:TypeDesc) (x:A):Option Bool :=
 match s,d,x with
 | true,.slice _,.Fh=>some true
 | true,.slice _,.sln l=>some l.xs.isEmpty
 | false,.pointer _,.FP=>some true
 | false,.pointer _,.ptr o _=>(FQ fet o).map (fun _=>false)
 | _,_,_=>none
def Ahl (C:Ctx) (fet:Fet) (s:Bool) (t:Nat) (x:A) (k:Bool->Dl):Dl:=FT C t fun ti=>Em (Af2 fet s ti.d x) k
def Aj0 (C:Ctx) (t:Nat) (r:Bool):Dl:=FT C t fun ti=>.g [AgX ti.d] (.bool r)
def AnE (C:Ctx) (fet:Fet) (op:BinOp) (t:Nat) (x y:A):Dl :=
 match x,y with
 | .int k a,.int k' b=>match op with
  | .shl=>.g [decide (0<=b)] (.int k (k.wrap (a*2 ^ (min b.toNat k.bits))))
  | .shr=>.g [decide (0<=b)] (.int k (a.fdiv (2 ^ (min b.toNat k.bits))))
  | op=>bif A.kEq k k' then xX op k a b else .no
 | .str a,.str b=>xY op a b
 | .bool a,.bool b=>match op with
  | .eql=>Aj0 C t (a==b)
  | .neq=>Aj0 C t (!(a==b))
  | _=>.no
 | .agg x,.agg y=>FT C t fun ti=>match op with
  | .eql=>.g [!ti.cmp.isEmpty,(JO ti.cmp x y).1] (.bool (JO ti.cmp x y).2)
  | .neq=>.g [!ti.cmp.isEmpty,(JO ti.cmp x y).1] (.bool (!(JO ti.cmp x y).2))
  | _=>.no
 | x,.Fh=>match op with
  | .eql=>Ahl C fet true t x fun v=>.v (.bool v)
  | .neq=>Ahl C fet true t x fun v=>.v (.bool (!v))
  | _=>.no
 | x,.FP=>match op with
  | .eql=>Ahl C fet false t x fun v=>.v (.bool v)
  | .neq=>Ahl C fet false t x fun v=>.v (.bool (!v))
  | _=>.no
 | _,_=>.no
def unX:UnOp->A->Dl
 | .not,.bool b=>.v (.bool !b)
 | .neg,.int k n=>.v (.int k (k.wrap (0 - n)))
 | .xor,.int k n=>.v (.int k (DX .xor k (if k.signed then -1 else k.max) n))
 | _,_=>.no
def AjF (c a b:A):Dl:=.g [c.Jo.1,c.Jo.2.isB,(bif c.Jo.2.toB then a.Jo.1 else b.Jo.1),(bif c.Jo.2.toB then a.Jo.2.isB else b.Jo.2.isB)] (.bool (bif c.Jo.2.toB then a.Jo.2.toB else b.Jo.2.toB))
def qM (C:Ctx) (d:Nat) (t:Nat) (l c:A):Dl :=
 Em (int? l) fun n=>Em (int? c) fun m=>elemOf C t fun e te =>
  {ok:=[decide (n<=m),decide (0<=n),decide (m*(te.bytes+1)<=140737488355328),Nat.blt 0 te.cs.length,te.cs.all CK.plain],val:=.own (b2 d),
   new:=[(b2 d,.arr e false ⟨tyl te.cs,List.replicate n.toNat (tyl te.cs).zero⟩)]}
def y8 (C:Ctx) (t:Nat) (ps:List (Nat×A)):Dl:=FT C t fun ti=>Em (fill C ti.d ps (ti.cs.map CK.zero)) fun cs=>.g [ti.agg] (.agg cs)
def Lr (C:Ctx) (fet:Fet) (d t n:Nat) (ps:List (Nat×A)):Dl:=elemOf C t fun e te =>
 {ok:=(H8 fet te (tyl te.cs) ps (List.replicate n (tyl te.cs).zero)).1++[Nat.ble (n*te.cs.length) 16777216,Nat.blt 0 te.cs.length,te.cs.all CK.plain],val:=.own (b2 d),
  new:=[(b2 d,.arr e false ⟨tyl te.cs,(H8 fet te (tyl te.cs) ps (List.replicate n (tyl te.cs).zero)).2.1⟩)],upd:=(H8 fet te (tyl te.cs) ps (List.replicate n (tyl te.cs).zero)).2.2}
def y7 (C:Ctx) (d t n:Nat) (ps:List (Nat×A)):Dl:=elemOf C t fun e te=>Em (fill C (.array n e) ps (List.replicate n .FP)) fun cs =>
 {ok:=[Afm te.cs,Nat.ble n 16777216,Nat.blt 0 n,ps.all fun p=>p.2.isVal&& !p.2.isAgg 0],val:=.bsl (b2 d) n,new:=(b2 d,.box (Fe (b2 d+1) [] cs).1)::(Fe (b2 d+1) [] cs).2}
def Afn:List (Nat×A)->Bool
 | (_,.ptr _ _)::_=>true
 | _=>false
def Qk (C:Ctx) (fet:Fet) (t f:Nat) (x:A):Dl :=
 FT C t fun ti=>Em (AfC C ti.d f) fun p=>match Yy p.1 p.2.cs.length fet x with
 | δ => {δ with ok:=Nat.blt 0 p.2.cs.length:: δ.ok}
def Au7:A->Option (List A)
 | .agg cs=>some cs
 | _=>none
def AeS (C:Ctx) (t f:Nat) (x:A):Dl :=
 FT C t fun ti=>Em (AfC C ti.d f) fun p=>Em (Au7 x) fun cs=>.g [Nat.ble (p.1+p.2.cs.length) cs.length,Nat.blt 0 p.2.cs.length] (Ab3 p.2 cs p.1)
def Avx:A->Option (List A)
 | .tup vs=>some vs
 | _=>none
def pK (i:Nat) (x:A):Dl:=Em (Avx x) fun vs=>.g [Nat.blt i vs.length] (vs.getD i .undef)
def Tj (fet:Fet):A->Dl
 | .ptr o off=>Em (FQ fet o) fun _=>.v (.ptr o off)
 | _=>.no
structure Hand where
 ok:List Bool
 vs:List A
 upd:List (Nat×Obj)
 del:List Nat
 boxes:List (Nat×Sh)
def AjH:List A->A
 | [v]=>v
 | vs=>.tup vs
def Aj1 (rb:Nat->Nat) (d:Nat) (sg:Sig) (N:List (Nat×Nat)) (n:Nat) (h:Hand) (ok:Bool) (rs:List A):Dl :=
 ⟨h.ok++[ok]++(EP (b2 d) 16 sg.DL rs 0).1++(ER rb (rs.drop sg.DL.length) h.boxes 0).1++[nodup (N.map (·.1)),Nat.ble n 100,Nat.beq rs.length (sg.DL.length+h.boxes.length),!(sg.Dx.any wS)||h.upd.isEmpty],
   AjH (EP (b2 d) 16 sg.DL rs 0).2.1,
   (EP (b2 d) 16 sg.DL rs 0).2.2++(ER rb (rs.drop sg.DL.length) h.boxes 0).2.2,
   h.upd++(ER rb (rs.drop sg.DL.length) h.boxes 0).2.1,h.del,[]⟩
def Z4 (fet:Fet) (ss:List Sh) (xs:List A):Hand:=⟨(DW fet ss xs).1,(DW fet ss xs).2.1,(DW fet ss xs).2.2.1,(DW fet ss xs).2.2.2.1,(DW fet ss xs).2.2.2.2⟩
def JE (fet:Fet) (d:Nat) (sg:Sig) (args:List A):Dl:=Aj1 (Gm fet) d sg (GX fet 0 256 sg.Dx args) args.length (Z4 fet sg.Dx args) (sg.ok (Z4 fet sg.Dx args).vs) (sg.val (Z4 fet sg.Dx args).vs)
def Afu (n:Nat):Obj->Bool | .box cs=>Nat.beq cs.length n | _=>false
def As4 (j:Nat) (c:A):Obj->Obj | .box cs=>.box (cs.set j c) | x=>x
def eqC:A->A->Bool | .str a,.str b=>a==b | .int k a,.int k' b=>A.kEq k k'&&a==b | .bool a,.bool b=>a==b | _,_=>false
def eqU (j:Nat) (c:A):Obj->Bool | .box cs=>eqC (cs.getD j .undef) c | _=>false
def Nu (fet:Fet) (a:A) (j:Nat) (δ :Dl):Dl:=match a with
 | .ptr q _=>match FQ fet q with
  | some cs=>bif Nat.blt j cs.length&& δ.upd.all (fun p=> !(Nat.beq p.1 q)||Afu cs.length p.2)
   then {δ with ok:= δ.ok++ δ.upd.map (fun p=>bif Nat.beq p.1 q then eqU j (cs.getD j .undef) p.2 else true),upd:= δ.upd.map (fun p=>bif Nat.beq p.1 q then(p.1,As4 j (cs.getD j .undef) p.2)else p),same:=(q,j):: δ.same}
   else δ
  | none=> δ
 | _=> δ
def keepD (fet:Fet) (args:List A):List (Nat×Nat)->Dl->Dl
 | [],δ => δ
 | (i,j)::r,δ =>keepD fet args r (Nu fet (args.getD i .undef) j δ)
def Y2 (C:Ctx) (fet:Fet) (d:Nat) (f:Nat) (args:List A):Dl :=
 match C.G f with
 | some sg=>keepD fet args (C.kept f) (JE fet d sg args)
 | none=>.no
def Akl (C:Ctx) (fet:Fet) (d t:Nat) (c:A) (args:List A):Dl :=
 match c with
 | .fn n=>match C.dyn t with
  | some sg=>JE fet d (sg n) args
  | none=>.no
 | .clo f o=>Em (FQ fet o) fun _=>match C.dyn t with
  | some sg=>JE fet d (sg f) (args++[.clo 0 o])
  | none=>.no
 | _=>.no
def AoW:List A->Option Nat
 | [.ptr o 0]=>some o
 | _=>none
def Ag5 (fet:Fet) (f:Nat):A->Dl
 | .ptr q off=>Em (FQ fet q) fun cs=>Em (AoW cs) fun o=> {ok:=[Nat.beq off 0],val:=.clo (f+1) o,del:=[q]}
 | _=>.no
def a0 (k:Dl):List A->Dl
 | []=>k
 | _=>.no
def a1 (k:A->Dl):List A->Dl
 | [a]=>k a
 | _=>.no
def a2 (k:A->A->Dl):List A->Dl
 | [a,b]=>k a b
 | _=>.no
def a3 (k:A->A->A->Dl):List A->Dl
 | [a,b,c]=>k a b c
 | _=>.no
def Aru (C:Ctx) (o:Oper) (fet:Fet) (ts:List Nat) (x y:A):Dl :=
 match ts with
 | [t,u]=>FT C u fun tu=>Em o.dst fun d=>match jS C fet d t x y with
  | δ => {δ with ok:=V9 tu.d:: δ.ok}
 | _=>.no
def slX (C:Ctx) (dst:Option Nat) (fet:Fet) (t:Nat) (lo hi mx:Option Operand):List A->Dl :=
 match mx,lo,hi with
 | none,none,none=>a1 fun x=>Gl C fet t x none none
 | none,some _,none=>a2 fun x a=>match dst with
  | some d=>bif has C.cuts d then sS C fet t x a else Gl C fet t x (some a) none
  | none=>Gl C fet t x (some a) none
 | none,none,some _=>a2 fun x b=>match dst with
  | some d=>bif has C.cuts d then yX C fet d t x b else Gl C fet t x none (some b)
  | none=>Gl C fet t x none (some b)
 | none,some _,some _=>a3 fun x a b=>Gl C fet t x (some a) (some b)
 | _,_,_=>fun _=>.no
def AoH:A->A->Dl
 | .int k a,.int k' b=>bif A.kEq k k' then .v (.int k (bif decide (b<a)then b else a))else .no
 | _,_=>.no
def AoE:A->A->Dl
 | .int k a,.int k' b=>bif A.kEq k k' then .v (.int k (bif decide (a<b)then b else a))else .no
 | _,_=>.no
def blX (C:Ctx) (o:Oper) (fet:Fet) (ts:List Nat):Builtin->List A->Dl
 | .len=>a1 fun x=>Em (one? ts) fun t=>AgZ C fet t x
 | .append=>a2 fun x y=>Aru C o fet ts x y
 | .min=>a2 AoH
 | .max=>a2 AoE
 | .copy=>a2 fun x y=>Aj2 C fet ts x y
 | .delete=>a2 fun x y=>match ts with
  | t::_=>lJ C fet t x y
  | []=>.no
 | _=>fun _=>.no
def opX (C:Ctx) (o:Oper) (v:List A) (fet:Fet):Dl :=
 match o.op with
 | .move _=>a1 (fun a=>.v a) v
 | .assign _=>a1 (fun a=>.v a) v
 | .pick _ _ _=>a3 (fun c a b=>AjF c a b) v
 | .alloc t=>a0 (Em o.dst fun d=>WA C d t) v
 | .box t _=>a1 (fun a=>Em o.dst fun d=>xZ C d t a) v
 | .build t ps=>y8 C t ((ps.toList.map (·.1)).zip v)
 | .buildSlice t n ps=>Em o.dst fun d=>bif Afn ((ps.toList.map (·.1)).zip v)then y7 C d t n ((ps.toList.map (·.1)).zip v)else Lr C fet d t n ((ps.toList.map (·.1)).zip v)
 | .load t _=>a1 (VZ C fet t) v
 | .store t _ _=>a2 (fun a x=>bif o.dst.isNone then PW C fet t a x else .no) v
 | .nilCheck _=>a1 (Tj fet) v
 | .binOp op t _ _ _=>a2 (AnE C fet op t) v
 | .unOp op _ _=>a1 (unX op) v
 | .convert s t _=>a1 (Abt C o fet s t) v
 | .makeSlice t _ _=>a2 (fun l c=>Em o.dst fun d=>qM C d t l c) v
 | .slice t _ lo hi mx=>slX C o.dst fet t lo hi mx v
 | .fieldAddr t _ f=>a1 (Qk C fet t f) v
 | .field t _ f=>a1 (AeS C t f) v
 | .indexAddr t _ _=>a2 (Y9 C fet t) v
 | .index t _ _=>a2 (Afk C t) v
 | .extract _ i=>a1 (pK i) v
 | .makeFunc (.func f) fi _=>bif fi.isEmpty then a1 (Ag5 fet f) v else .no
 | .makeMap t _=>Em o.dst fun d=>Su C d t v
 | .lookup t _ _ c=>a2 (Abz C fet t c) v
 | .mapUpdate t _ _ _=>a3 (fun m i x=>bif o.dst.isNone then nZ C fet t m i x else .no) v
 | .insert t _ _ _=>a3 (fun m i x=>bif o.dst.isNone then nZ C fet t m i x else .no) v
 | .call ⟨.builtin b,_,ts⟩=>blX C o fet ts.toList b v
 | .call ⟨.value (.func f),_,_⟩=>match v with
  | _::vs=>Y2 C fet (o.dst.getD 0) f vs
  | []=>.no
 | .call ⟨.value (.tmp t),_,_⟩=>match v with
  | c::vs=>Akl C fet (o.dst.getD 0) t c vs
  | []=>.no
 | _=>.no
def fetch (Dn:List (Nat×Obj)):List Nat->Fet
 | []=>[]
 | n::r=>match D6 Dn n with
  | some x=>(n,x)::fetch Dn r
  | none=>fetch Dn r
def Ep (st:St) (vs:List A):Fet :=
 let f1:=fetch st.Dn (vs.flatMap A.ids)
 f1++fetch st.Dn (f1.flatMap (fun p=>p.2.ids))
def Eo (Dn:List (Nat×Obj)):List Nat->List (Nat×Obj)
 | []=>Dn
 | n::r=>Eo (LV Dn n) r
def DK (Dn:List (Nat×Obj)):List (Nat×Obj)->List (Nat×Obj)
 | []=>Dn
 | (n,x)::r=>DK (F7 Dn n x) r
def put (tmps:List A):Option Tmp->A->List A
 | some d,v=>tmps.set d v
 | none,_=>tmps
def apply (st:St) (o:Oper) (δ :Dl):St :=
 {tmps:=put st.tmps o.dst δ.val,Dn:=DK (Eo (DK st.Dn δ.upd) δ.del) δ.new}
def strips:List A->List Bool×List A
 | []=>([],[])
 | a::r=>(a.strip.1++(strips r).1,a.strip.2::(strips r).2)
def guardOf (ops:List Oper) (tmps:List A):Option (Nat×Bool)->Option (Option Bool)
 | none=>some none
 | some (j,want)=>match ops[j]? with
  | some oj=>match oj.dst with
   | some t=>match (tmps.getD t .undef)with
    | .bool b=>some (some (bif want then b else !b))
    | .cnd g (.bool b)=>some (some (g&&(bif want then b else !b)))
    | _=>none
   | none=>none
  | none=>none
def sN:Op->Bool
 | .move _=>true
 | .assign _=>true
 | .binOp _ _ _ _ _=>true
 | _=>false
def EU:Op->List A->List Bool×List A
 | .pick _ _ _,vs=>([],vs)
 | op,vs=>((strips vs).1,bif sN op then(strips vs).2 else(strips vs).2.map A.weak)
def mJ (g:Bool):A->A->A
 | .bool x,.bool y=>.bool (bif g then y else x)
 | .int k x,.int _ y=>.int k (bif g then y else x)
 | .str x,.str y=>.str (bif g then y else x)
 | .sl l,.sl l'=>match l'.cast l.t with
  | some ys=>.sl ⟨l.t,bif g then ys else l.xs⟩
  | none=>.undef
 | .sln l,.sln l'=>match l'.cast l.t with
  | some ys=>.sln ⟨l.t,bif g then ys else l.xs⟩
  | none=>.undef
 | a,_=>a
def ZK:A->A->Bool
 | .bool _,.bool _=>true
 | .int k _,.int k' _=>A.kEq k k'
 | .str _,.str _=>true
 | .sl l,.sl l'=>(l'.cast l.t).isSome
 | .sln l,.sln l'=>(l'.cast l.t).isSome
 | .own o,.own o'=>Nat.beq o o'
 | .FP,.FP=>true
 | .undef,.undef=>true
 | _,_=>false
def AhJ (g:Bool):List A->List A->List A
 | a::aa,b::bs=>mJ g a b::AhJ g aa bs
 | _,_=>[]
def okM:List A->List A->Bool
 | [],[]=>true
 | a::aa,b::bs=>ZK a b&&okM aa bs
 | _,_=>false
def Uh (g:Bool):Option Obj->Obj->Obj
 | some (.box cs),.box ds=>.box (AhJ g cs ds)
 | some (.arr e _ l),.arr _ true _=>.arr e true l
 | _,x=>x
def ZL (c:Bool):Option Obj->Obj->Bool
 | some (.box cs),.box ds=>okM cs ds
 | some (.arr e _ _),.arr e' true _=>c&&Nat.beq e e'
 | _,_=>false
def oU:Op->Bool
 | .call ⟨.value (.func _),_,_⟩=>true
 | .call ⟨.value (.tmp _),_,_⟩=>true
 | .slice _ _ _ _ _=>true
 | _=>false
def Abx:Op->Bool
 | .call ⟨.value (.func _),_,_⟩=>true
 | _=>false
def MH (C:Ctx) (o:Oper) (st:St) (pre:List Bool):Dl :=
 match EU o.op (o.op.operands.toList.map (ET st.tmps))with
  | (ok,vs)=>match opX C o vs (Ep st vs)with
   | δ => {δ with ok:=pre++(ok++ δ.ok++[δ.new.all (fun p=>st.fresh p.1),nodup (δ.new.map (·.1))]),same:=bif Abx o.op then δ.same else []}
def AnS (C:Ctx) (o:Oper):Option Bool:=match o.dst with
 | some d=>C.dec d
 | none=>none
def E8 (C:Ctx) (ops:List Oper) (o:Oper) (st:St):Dl :=
 match guardOf ops st.tmps o.guard with
 | some none=>MH C o st []
 | some (some g)=>match AnS C o with
  | some true=>MH C o st [g]
  | some false=> {ok:=[!g],val:=.cnd false .undef}
  | none=>match EU o.op (o.op.operands.toList.map (ET st.tmps))with
  | (ok,vs)=>match opX C o vs (Ep st vs)with
   | δ => {ok:=(ok++(δ.val.isVal:: δ.ok)).map (fun c=>c|| !g)++(δ.new.isEmpty:: δ.del.isEmpty::o.dst.isSome:: δ.upd.map (fun p=>ZL (oU o.op) (D6 (Ep st vs) p.1) p.2)),val:=.cnd g δ.val,
           upd:= δ.upd.map (fun p=>(p.1,Uh g (D6 (Ep st vs) p.1) p.2))}
 | none=>.no
def allT {α :Type}:List Bool->Option α ->Option α
 | [],r=>r
 | c::cs,r=>bif c then allT cs r else none
def S9 {α :Type} (C:Ctx) (ops:List Oper):List Oper->St->(St->Option α)->Option α
 | [],st,K=>K st
 | o::r,st,K=>match E8 C ops o st with
  | δ =>allT δ.ok (S9 C ops r (apply st o δ) K)
def Y0 (C:Ctx) (o:Oper):Option (Nat×Alt) :=
 match o.guard,o.op with
 | none,.call ⟨.value (.func f),_,_⟩=>(C.alt f).map (fun q=>(f,q))
 | _,_=>none
def Ags (o:Oper) (st:St) (q:Alt):Bool :=
 match (EU o.op (o.op.operands.toList.map (ET st.tmps))).2 with
 | v::xs=>q.2.2 (Z4 (Ep st (v::xs)) q.1.Dx xs).vs
 | []=>true
def Sz {α :Type} (C:Ctx) (ops:List Oper):List Oper->St->(St->Option α)->Option α
 | [],st,K=>K st
 | o::r,st,K=>match Y0 C o with
  | none=>allT (E8 C ops o st).ok (Sz C ops r (apply st o (E8 C ops o st)) K)
  | some (f,q)=>bif Ags o st q then allT (E8 (C.put f q.1) ops o st).ok (Sz C ops r (apply st o (E8 (C.put f q.1) ops o st)) K)
   else allT (E8 (C.put f q.2.1) ops o st).ok (Sz C ops r (apply st o (E8 (C.put f q.2.1) ops o st)) K)
abbrev Bs:=List UInt8
def chk {ρ :Type} (c:Bool) (k:Option ρ):Option ρ :=bif c then k else none
def Dk {α ρ :Type} [Inhabited α] (o:Option α) (k: α ->Option ρ):Option ρ :=bif o.isSome then k (o.getD default)else none
def D5 {X Y ρ :Type} (B:X->(X->Option ρ)->(Y->Option ρ)->Option ρ):Nat->X->(Y->Option ρ)->Option ρ
 | 0,_,_=>none
 | n+1,x,kx=>B x (fun x'=>D5 B n x' kx) kx
def Ew (o:Oper) (st:St):List A:=(EU o.op (o.op.operands.toList.map (ET st.tmps))).2
def jT:Op->List A->Bool
 | .move _,_=>true
 | .assign _,_=>true
 | .load _ _,[.clo _ _]=>true
 | _,_=>false
def Vg:Op->List A->Option Nat
 | .nilCheck _,[.ptr o _]=>some o
 | .fieldAddr _ _ _,[.ptr o _]=>some o
 | .load _ _,[.ptr o _]=>some o
 | _,_=>none
def FH (o:Oper) (st:St) (vs:List A):List Nat:=bif jT o.op vs then []else match Vg o.op vs with
 | some q=>[q]
 | none=>vs.flatMap A.ids++(fetch st.Dn (vs.flatMap A.ids)).flatMap (fun p=>p.2.ids)
def oneOf (C:Ctx):Op->List A->Option (Nat×Nat×Nat)
 | .nilCheck _,[.ptr o _]=>some (o,0,0)
 | .fieldAddr _ _ _,[.ptr o _]=>some (o,0,0)
 | .load t _,[.ptr o off]=>match C.T t with
  | some ti=>bif Nat.blt 0 ti.cs.length then some (o,off,ti.cs.length)else none
  | none=>none
 | _,_=>none
structure Fq where
 o:Oper
 δ :Dl
 rd:List Nat
 one:Option (Nat×Nat×Nat)
 anc:List Nat
def Fq.news (x:Fq):List Nat:=x.δ.new.map (·.1)
def Fq.keys (x:Fq):List Nat:=x.δ.upd.map (·.1)++x.δ.del++x.news
def Fq.says (x:Fq):List Nat:=x.δ.val.ids++x.δ.upd.flatMap (fun p=>p.2.ids)++x.δ.new.flatMap (fun p=>p.2.ids)
def O5 (a b:List Nat):Bool:=a.all (fun n=> !(has b n))
def slotsOf (ops:List Oper) (o:Oper):List Nat :=
 (o.op.operands.toList.filterMap fun | .tmp t=>some t | _=>none) ++
 (match o.guard with
  | some (g,_)=>match ops[g]? with
   | some x=>match x.dst with | some t=>[t] | none=>[]
   | none=>[]
  | none=>[])
def VV (o:Oper):List Nat:=match o.dst with | some d=>[d] | none=>[]
def calm (x y:Fq):Bool:=match x.one with
 | none=>false
 | some (q,off,n)=> !(has x.keys q)&&(!(has y.δ.del q)&&(!(has y.news q)&&(y.δ.same.any (fun e=>Nat.beq e.1 q)&&(List.range n).all (fun k=>y.δ.same.any (fun e=>Nat.beq e.1 q&&Nat.beq e.2 (off+k))))))
def indep (ops:List Oper) (x y:Fq):Bool :=
 O5 (VV x.o) (VV y.o)&&O5 (VV x.o) (slotsOf ops y.o)&&O5 (VV y.o) (slotsOf ops x.o) &&
 O5 x.keys y.rd&&(O5 y.keys x.rd||calm x y)&&O5 x.keys y.keys&&O5 x.news y.says
def WZ (ops:List Oper) (i:Nat) (x y:Fq):Bool:=O5 y.news x.says&&O5 y.news x.keys&&(has y.anc i||indep ops x y)
def TU (o:Oper):List Nat:=o.after.toList.filterMap fun e=>bif Region.binds .any e then some e.on else none
def OG (C:Ctx) (ops:List Oper):List Oper->List (List Nat)->St->List Fq
 | [],_,_=>[]
 | o::r,acc,st=>match E8 C ops o st,(TU o).flatMap (fun e=>e::acc.getD e [])with
  | δ,an=>⟨o,δ,FH o st (Ew o st),oneOf C o.op (Ew o st),an⟩::OG C ops r (acc++[an]) (apply st o δ)
def YP (ops:List Oper):Nat->List Fq->Bool
 | _,[]=>true
 | i,x::r=>r.all (WZ ops i x)&&YP ops (i+1) r
def backward:Nat->List Oper->Bool
 | _,[]=>true
 | i,o::r=>o.after.toList.all (fun e=>Nat.blt e.on i)&&backward (i+1) r
def KR:Nat->List Oper->Bool
 | _,[]=>true
 | i,o::r=>o.after.toList.all (fun e=> !(Region.binds .any e)||Nat.blt e.on i)&&KR (i+1) r
def ranks (md:Region.Mode) (ops:List Oper):Nat->List Nat->List Nat
 | 0,r=>r
 | n+1,r=>ranks md ops n (ops.map fun o=>o.after.toList.foldl (fun m e=>bif Region.binds md e then(bif Nat.ble m (r.getD e.on 0)then r.getD e.on 0+1 else m)else m) 0)
def VL (md:Region.Mode) (n:Nat) (rk:List Nat):Nat->List Oper->Bool
 | _,[]=>true
 | i,o::r=>o.after.toList.all (fun e=> !(Region.binds md e)||(Nat.blt e.on n&&Nat.blt (rk.getD e.on 0) (rk.getD i 0)))&&VL md n rk (i+1) r
def AfI (md:Region.Mode) (ops:List Oper):Bool:=VL md ops.length (ranks md ops ops.length (ops.map fun _=>0)) 0 ops
def ordered (ops:List Oper):Bool:=KR 0 ops&&(backward 0 ops||(AfI .text ops&&AfI .gc ops&&AfI .any ops))
def sorted:List (Nat×Obj)->Bool
 | []=>true
 | [_]=>true
 | (n,_)::(k,y)::r=>Nat.blt n k&&sorted ((k,y)::r)
def NQ (C:Ctx) (ops:List Oper) (st:St):Bool :=
 match OG C ops ops [] st with
 | fs=>ordered ops&&YP ops 0 fs&&(fs.flatMap Fq.news).all st.fresh&&sorted st.Dn
def Ic (f t:Nat):A->A
 | .ptr o off=>.ptr (bif Nat.beq o f then t else o) off
 | .own o=>.own (bif Nat.beq o f then t else o)
 | .clo g o=>.clo g (bif Nat.beq o f then t else o)
 | .bsl o n=>.bsl (bif Nat.beq o f then t else o) n
 | .osl o n=>.osl (bif Nat.beq o f then t else o) n
 | .Eg o i off=>.Eg (bif Nat.beq o f then t else o) i off
 | .agg cs=>.agg (cs.map fun
  | .ptr o off=>.ptr (bif Nat.beq o f then t else o) off
  | .own o=>.own (bif Nat.beq o f then t else o)
  | .clo g o=>.clo g (bif Nat.beq o f then t else o)
  | .bsl o n=>.bsl (bif Nat.beq o f then t else o) n
  | .osl o n=>.osl (bif Nat.beq o f then t else o) n
  | .Eg o i off=>.Eg (bif Nat.beq o f then t else o) i off
  | c=>c)
 | a=>a
def AaX (f t:Nat):Obj->Obj
 | .box cs=>.box (cs.map (Ic f t))
 | x=>x
def drop (keep:List Nat):List A->Nat->List A
 | [],_=>[]
 | a::r,i=>(bif has keep i then a else .undef)::drop keep r (i+1)
def AaY (st:St):List (Nat×Nat)->Bool×St
 | []=>(true,st)
 | (f,t)::r=>match D6 st.Dn f with
  | some x=>match AaY {tmps:=st.tmps.map (Ic f t),Dn:=(F7 (LV st.Dn f) t x).map (fun p=>(p.1,AaX f t p.2))} r with
   | (ok,st')=>((bif Nat.beq f t then true else st.fresh t)&&ok,st')
  | none=>AaY st r
def Ak0 (Dn:List (Nat×Obj)):List Nat->List (Nat×Obj)
 | []=>Dn
 | n::r=>match D6 Dn n with
  | some (.arr e _ l)=>Ak0 (F7 Dn n (.arr e true l)) r
  | _=>Ak0 Dn r
def AqQ:Nat->List (Nat×Obj)->List Nat->List Nat
 | 0,_,l=>l
 | n+1,Dn,l=>l++AqQ n Dn ((fetch Dn l).flatMap (fun p=>p.2.ids))
def reached (tmps:List A) (Dn:List (Nat×Obj)):List Nat:=AqQ 4 Dn (tmps.flatMap A.ids++(Dn.map (·.1)).filter UI)
def lV:A->Bool | .Fh=>true | _=>false
def Abb (id:Nat):List Nat->List A->List A
 | [],l=>l
 | t::r,l=>Abb id r (l.set t (.own id))
def owns:List (List Nat×Nat×Ty×Nat)->St->Bool×St
 | [],st=>(true,st)
 | (ts,e,ty,id)::r,st=>bif ts.any (fun t=>lV (st.tmps.getD t .undef))then
     match owns r {tmps:=Abb id ts st.tmps,Dn:=F7 st.Dn id (.arr e false ⟨ty,[]⟩)}with
     | (ok,st')=>(ts.all (fun t=>lV (st.tmps.getD t .undef)&&Nat.blt t st.tmps.length)&&st.fresh id&&ok,st')
  else owns r st
def pzs:List (Option Nat×Nat×Ty)->St->St
 | [],st=>st
 | (none,t,ty)::r,st=>match st.tmps.getD t .undef with
  | .Fh=>pzs r {st with tmps:=st.tmps.set t (.sl ⟨ty,[]⟩)}
  | .own o=>match D6 st.Dn o with
   | some (.arr e _ l)=>pzs r {tmps:=st.tmps.set t (.sl l),Dn:=F7 st.Dn o (.arr e true l)}
   | _=>pzs r st
  | _=>pzs r st
 | (some b,j,_)::r,st=>match D6 st.Dn b with
  | some (.box cs)=>match cs.getD j .undef with
   | .own o=>match D6 st.Dn o with
    | some (.arr e _ l)=>pzs r {st with Dn:=F7 (F7 st.Dn o (.arr e true l)) b (.box (cs.set j (.sl l)))}
    | _=>pzs r st
   | _=>pzs r st
  | _=>pzs r st
def norm (C:Ctx) (key:Nat) (st0:St):Bool×St :=
 match C.nrm key with
 | none=>(true,st0)
 | some n =>
  match pzs n.pz st0 with
  | st=>match AaY {tmps:=drop n.keep st.tmps 0,Dn:=st.Dn.filter (fun p=>has (reached (drop n.keep st.tmps 0) st.Dn) p.1)} n.ren with
   | (ok,st')=>match owns n.nw st' with
    | (ok',st'')=>(ok&&ok',{st'' with Dn:=Ak0 st''.Dn n.frz})
inductive Ex where
 | normal
 | exit (id:Nat)
def Gh:Code->Option Nat
 | .region id _ _=>some id
 | .seq a b=>match Gh a with | some n=>some n | none=>(Gh b).map (· +4096)
 | .cond _ a b=>match Gh a with | some n=>some n | none=>Gh b
 | .block _ c=>Gh c
 | .loop c=>Gh c
 | .scope c=>Gh c
 | _=>none
def NU {ρ :Type} (C:Ctx) (key:Nat) (st:St) (K:St->Option ρ):Option ρ :=
 match norm C key st with
 | (ok,st')=>bif ok then K st' else none
def meet {ρ :Type} (C:Ctx) (kind:Nat) (c:Code) (st:St) (K:St->Option ρ):Option ρ :=
 match Gh c with
 | some n=>NU C (4*n+kind) st K
 | none=>K st
def rounds {ρ :Type} (head:St->(St->Option ρ)->Option ρ) (body:St->(Ex->St->Option ρ)->Option ρ):Nat->St->(Ex->St->Option ρ)->Option ρ
 | 0,_,_=>none
 | n+1,st,K=>body st fun
  | .normal,st'=>head st' fun st''=>rounds head body n st'' K
  | .exit id,st'=>K (.exit id) st'
def Aeh:Nat:=(fun(_:Option Nat)=>0) (D5 (X:=Nat) (Y:=Nat) (fun _ _ _=>none) 0 0 (fun _=>none))
def peek (C:Ctx) (ops:List Oper) (s:Nat):List Oper->St->A
 | [],st=>(st.tmps.getD s .undef).Jo.2
 | o::r,st=>peek C ops s r (apply st o (E8 C ops o st))
def split {α :Type} (C:Ctx) (id:Nat) (ops:List Oper) (st:St) (f:Ctx->Option α):Option α :=
 (fun(_:Nat)=>match C.spl id with
 | none=>f C
 | some (k,s,ds)=>match peek C ops s (ops.take k) st with
  | .bool b=>match b with
   | true=>f (C.decide ds true)
   | false=>f (C.decide ds false)
  | _=>none) Aeh
theorem YI {α :Type} {C:Ctx} {id:Nat} {ops:List Oper} {st:St} {f:Ctx->Option α} {v: α} (h:split C id ops st f=some v):(f C=some v\/ ∃ ds b,f (C.decide ds b)=some v)/\ ∀ f':Ctx->Option α,(∀ C',f C'=some v->f' C'=some v)->split C id ops st f'=some v:=by
 unfold split at h ⊢;dsimp only at h ⊢;cases hs:C.spl id with
 | none=>rw[hs]at h;exact⟨.inl h,fun f' hf=>hf C h⟩
 | some q =>
  obtain⟨k,s,ds⟩:=q;rw[hs]at h;dsimp only at h ⊢;generalize peek C ops s (ops.take k) st=x at h ⊢;cases x with
  | bool b=>cases b<;>exact⟨.inr ⟨_,_,h⟩,fun f' hf=>hf _ h⟩
  | _=>cases h
def exec {ρ :Type} (C:Ctx) (N:Nat) (fin:St->Option ρ):Code->St->(Ex->St->Option ρ)->Option ρ
 | .skip,st,K=>K .normal st
 | .region id ops false,st,K=>split C id ops.toList st fun C=>Sz C ops.toList ops.toList st fun st'=>K .normal st'
 | .region id ops true,st,K=>split C id ops.toList st fun C=>bif NQ C ops.toList st then S9 C ops.toList ops.toList st fun st'=>K .normal st' else none
 | .seq a b,st,K=>exec C N fin a st fun
  | .normal,st'=>meet C 1 b st' fun st''=>exec C N fin b st'' K
  | .exit id,st'=>K (.exit id) st'
 | .cond c a b,st,K=>match ET st.tmps c with
  | .bool t=>bif t then exec C N fin a st K else exec C N fin b st K
  | .cnd g (.bool t)=>bif g then bif t then exec C N fin a st K else exec C N fin b st K else none
  | _=>none
 | .block id c,st,K=>exec C N fin c st fun
  | .exit j,st'=>bif Nat.beq j id then K .normal st' else K (.exit j) st'
  | .normal,st'=>K .normal st'
 | .loop c,st,K=>meet C 2 c st fun st'=>rounds (meet C 2 c) (exec C N fin c) N st' K
 | .exit id,st,K=>NU C (4*id+3) st fun st'=>K (.exit id) st'
 | .scope c,st,K=>exec C N fin c st K
 | .label _,st,K=>K .normal st
 | .ret,st,_=>fin st
 | _,_,_=>none
theorem Ty.GZ: ∀(t:Ty) (v:t.Val),(t.cells v).length=t.len
 | .nil,_=>rfl
 | .bool r,v=>by simp [Ty.cells,Ty.len,Ty.GZ r]
 | .int _ r,v=>by simp [Ty.cells,Ty.len,Ty.GZ r]
 | .str r,v=>by simp [Ty.cells,Ty.len,Ty.GZ r]
 | .sl _ _ r,v=>by simp [Ty.cells,Ty.len,Ty.GZ r]
 | .ptr r,v=>by simp [Ty.cells,Ty.len,Ty.GZ r v]
 | .fn r,v=>by simp [Ty.cells,Ty.len,Ty.GZ r]
 | .mp _ _ r,v=>by simp [Ty.cells,Ty.len,Ty.GZ r]
theorem Ty.Jk {α :Type} (r:Ty) (a: α) (b:r.Val):r.hd (r.mk2 a b)=a:=by cases r<;>rfl
theorem Ty.Jp {α :Type} (r:Ty) (a: α) (b:r.Val):r.tl (r.mk2 a b)=b:=by cases r<;>rfl
theorem Sl.EI (l:Sl):l.es.length=l.xs.length:=by simp [Sl.es]
theorem Sl.es_len (l:Sl): ∀ e∈l.es,e.length=l.sz:=by intro e he;obtain⟨v,_,rfl⟩:=List.mem_map.1 he;exact Ty.GZ _ _
theorem Sl.at_eq (l:Sl) {i:Nat} (h:i<l.xs.length):l.at i=l.es.getD i []:=by grind[Sl.at,Sl.es]
theorem Sl.Ap5 (l:Sl) (i:Nat):(l.at i).length=l.sz:=Ty.GZ _ _
theorem Sl.JK {l:Sl} {t:Ty} {xs:List t.Val} (h:l.cast t=some xs):l=⟨t,xs⟩:=by
 unfold Sl.cast at h;split at h
 ·rename_i e _;obtain⟨s,ys⟩:=l;all_goals grind
 ·cases h
theorem Sl.WC (t:Ty) (xs:List t.Val):(⟨t,xs⟩:Sl).cast t=some xs:=by
 unfold Sl.cast;split
 ·rfl
 ·grind
theorem Mp.JK {l:Mp} {kt vt:Ty} {xs:List (kt.Val×vt.Val)} (h:l.cast kt vt=some xs):l=⟨kt,vt,xs⟩:=by
 unfold Mp.cast at h;split at h
 ·rename_i e _;obtain⟨k,v,ys⟩:=l;dsimp only at e;subst e;split at h;all_goals grind
 ·cases h
theorem Mp.WC (kt vt:Ty) (xs:List (kt.Val×vt.Val)):(⟨kt,vt,xs⟩:Mp).cast kt vt=some xs:=by
 unfold Mp.cast;split
 ·split
  ·rfl
  ·grind
 ·grind
theorem A.Ko {j k:IntKind} (h:A.kEq j k=true):j=k:=by cases j<;>cases k<;>first | rfl | cases h
theorem Ty.LH: ∀(t:Ty) (cs:List A),(t.mk cs).1=true->t.cells (t.mk cs).2=cs:=by
 intro t
 induction t with
 | nil =>
  intro cs h;cases cs with
  | nil=>rfl
  | cons _ _=>simp [Ty.mk]at h
 | fn r ih=>grind[Ty.mk,Ty.cells,Ty.Jk,Ty.Jp]
 | mp kt vt r _ _ ih =>
  intro cs h;unfold Ty.mk at h ⊢;split at h
  ·rename_i l cs;cases hc:l.cast kt vt with
   | none=>rw[hc]at h;simp at h
   | some xs=>grind[Ty.cells,Ty.Jk,Ty.Jp,Mp.JK]
  ·simp at h
 | bool r ih=>grind[Ty.mk,Ty.cells,Ty.Jk,Ty.Jp]
 | int k r ih=>grind[Ty.mk,Ty.cells,Ty.Jk,Ty.Jp,A.Ko]
 | str r ih=>grind[Ty.mk,Ty.cells,Ty.Jk,Ty.Jp]
 | sl e t r _ ih =>
  intro cs h;unfold Ty.mk at h ⊢;split at h
  ·rename_i l cs;cases hc:l.cast t with
   | none=>rw[hc]at h;simp at h
   | some xs=>grind[Ty.cells,Ty.Jk,Ty.Jp,Sl.JK]
  ·simp at h
 | ptr r ih =>
  intro cs h;unfold Ty.mk at h ⊢;split at h
  ·rename_i cs;show A.FP::r.cells (r.mk cs).2=_;rw[ih cs h]
  ·simp at h
theorem Ty.Agm: ∀(ks:List CK),ks.all CK.plain=true->(tyl ks).cells (tyl ks).zero=ks.map CK.Il:=by
 intro ks
 induction ks with
 | nil=>intro _;rfl
 | cons k ks ih=>grind[tyl,Ty.cells,Ty.Jk,Ty.Jp,CK.Il,CK.zero,CK,CK.plain,cells,zero]
theorem Qy (ks:List CK):(tyl ks).len=ks.length:=by
 induction ks with
 | nil=>rfl
 | cons k ks ih=>cases k<;>simp [tyl,Ty.len,ih]
theorem Sl.AuF (l:Sl) {i off:Nat} {cs:List A} (hi:i<l.xs.length) (h:(l.set i off cs).1=true):(l.set i off cs).2.es=l.es.set i (splice (l.es.getD i []) off cs):=by have:=Ty.LH _ _ h;rw[<- l.at_eq hi];all_goals simp_all[Sl.set,Sl.es,hi,splice]
theorem Sl.Aqa (t:Ty) (xs ys:List t.Val):(⟨t,xs++ys⟩:Sl).es=(⟨t,xs⟩:Sl).es++(⟨t,ys⟩:Sl).es:=by simp [Sl.es]
theorem Sl.Aqb (l:Sl) (a b:Nat):(⟨l.t,D9 l.xs a b⟩:Sl).es=D9 l.es a b:=by simp_all[Sl.es,D9]
theorem Sl.Zy (ks:List CK) (n:Nat) (h:ks.all CK.plain=true):(⟨tyl ks,List.replicate n (tyl ks).zero⟩:Sl).es=List.replicate n (ks.map CK.Il):=by simp [Sl.es,List.map_replicate,Ty.Agm ks h]
theorem Sl.Aqc (t:Ty):(⟨t,[]⟩:Sl).es=[]:=rfl
def Ib (P:Program):Nat->Nat->Option (List CK)
 | 0,_=>none
 | n+1,t=>match P.underlying t with
  | some .bool=>some [.bool]
  | some (.int k)=>some [.int k]
  | some .string=>some [.str]
  | some (.slice e)=>match Ib P n e with
   | some cs=>bif cs.all CK.plain then some [.sl e (tyl cs)]else some [.oth]
   | none=>some [.oth]
  | some (.pointer _)=>some [.ptr]
  | some (.struct fs)=>fs.toList.foldr (fun f acc=>match Ib P n f.type,acc with | some a,some b=>some (a++b) | _,_=>none) (some [])
  | some (.array m e)=>match Ib P n e with
   | some a=>bif Nat.ble (m*a.length) 4096 then some ((List.replicate m a).flatten)else none
   | none=>none
  | some (.tuple _)=>none
  | some (.func _ _ _)=>some [.fn]
  | some _=>some [.oth]
  | none=>none
def EC:List Value->List CK->Bool
 | [],[]=>true
 | .bool false::vs,.bool::ks=>EC vs ks
 | .int k 0::vs,.int k'::ks=>A.kEq k k'&&EC vs ks
 | .string s::vs,.str::ks=>s.data.toList.isEmpty&&EC vs ks
 | .slice none 0 0::vs,.sl _ _::ks=>EC vs ks
 | .pointer none::vs,.ptr::ks=>EC vs ks
 | .nilFunc::vs,.fn::ks=>EC vs ks
 | v::vs,.oth::ks=>v.oneCell'&&EC vs ks
 | _,_=>false
def Ud:TypeDesc->Bool
 | .struct _ | .array _ _=>true
 | _=>false
def ZA:Value->Bool
 | .agg _=>true
 | _=>false
def TV (P:Program):List Field->Nat->Option (List CK)
 | [],_=>some []
 | f::r,n=>match P.underlying f.type,TV P r (n+1)with
  | some .bool,some ks=>bif f.name != "_" &&Nat.beq f.offset n then some (.bool::ks)else none
  | some (.int k),some ks=>bif f.name != "_" &&Nat.beq f.offset n then some (.int k::ks)else none
  | some .string,some ks=>bif f.name != "_" &&Nat.beq f.offset n then some (.str::ks)else none
  | _,_=>none
def AnO (P:Program) (t:Nat):TypeDesc->List CK
 | .struct fs=>match TV P fs.toList 0 with
  | some ks=>bif !(P.stoodInHeld t)&& !(P.eqGuardType P.depth t)then ks else []
  | none=>[]
 | _=>[]
def AhI (P:Program) (t:Nat):Option TI :=
 match P.underlying t,P.info? t,Ib P 20 t with
 | some d,some i,some cs=>match i.zero with
  | some z=>bif Nat.beq i.size cs.length&&EC z.cells.toList cs&&(Ud d==ZA z)then some ⟨d,cs,i.bytes,AnO P t d⟩else none
  | none=>none
 | _,_,_=>none
