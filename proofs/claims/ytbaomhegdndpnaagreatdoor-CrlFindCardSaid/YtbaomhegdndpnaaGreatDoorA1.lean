/-
  CrlFind: the law returns true whatever the input; machine, functions, plain law (27 files)
-/
import Derived.RowKit
import Derived.Laws.Sem
set_option linter.all false
namespace Go.Proofs.YtbaomhegdndpnaaGreatDoor.Vm
inductive Ty where
  | nil
  | bool (r:Ty)
  | int (k:IntKind) (r:Ty)
  | str (r:Ty)
  | sl (e:Nat) (t:Ty) (r:Ty)
  | ptr (r:Ty)
  | fn (r:Ty)
  | mp (kt vt:Ty) (r:Ty)
  deriving DecidableEq,Inhabited
namespace Ty
def pr (α :Type) (β :Type):Ty->Type
  | .nil=> α
  | _=> α × β
def Val:Ty->Type
  | .nil=>Unit
  | .bool r=>pr Bool r.Val r
  | .int _ r=>pr Int r.Val r
  | .str r=>pr (List UInt8) r.Val r
  | .sl _ t r=>pr (List t.Val) r.Val r
  | .ptr r=>r.Val
  | .fn r=>pr Nat r.Val r
  | .mp kt vt r=>pr (List (kt.Val×vt.Val)) r.Val r
def hd {α β :Type}:(r:Ty)->pr α β r-> α
  | .nil,a=>a
  | .bool _,p=>p.1
  | .int _ _,p=>p.1
  | .str _,p=>p.1
  | .sl _ _ _,p=>p.1
  | .ptr _,p=>p.1
  | .fn _,p=>p.1
  | .mp _ _ _,p=>p.1
def tl {α :Type}:(r:Ty)->pr α r.Val r->r.Val
  | .nil,_=>()
  | .bool _,p=>p.2
  | .int _ _,p=>p.2
  | .str _,p=>p.2
  | .sl _ _ _,p=>p.2
  | .ptr _,p=>p.2
  | .fn _,p=>p.2
  | .mp _ _ _,p=>p.2
def mk2 {α :Type}:(r:Ty)-> α ->r.Val->pr α r.Val r
  | .nil,a,_=>a
  | .bool _,a,b=>(a,b)
  | .int _ _,a,b=>(a,b)
  | .str _,a,b=>(a,b)
  | .sl _ _ _,a,b=>(a,b)
  | .ptr _,a,b=>(a,b)
  | .fn _,a,b=>(a,b)
  | .mp _ _ _,a,b=>(a,b)
def zero:(t:Ty)->t.Val
  | .nil=>()
  | .bool r=>mk2 r false r.zero
  | .int _ r=>mk2 r 0 r.zero
  | .str r=>mk2 r [] r.zero
  | .sl _ _ r=>mk2 r [] r.zero
  | .ptr r=>r.zero
  | .fn r=>mk2 r 0 r.zero
  | .mp _ _ r=>mk2 r [] r.zero
def len:Ty->Nat
  | .nil=>0
  | .bool r=>r.len+1
  | .int _ r=>r.len+1
  | .str r=>r.len+1
  | .sl _ _ r=>r.len+1
  | .ptr r=>r.len+1
  | .fn r=>r.len+1
  | .mp _ _ r=>r.len+1
end Ty
structure Sl where
  t:Ty
  xs:List t.Val
  deriving Inhabited
structure Mp where
  kt:Ty
  vt:Ty
  l:List (kt.Val×vt.Val)
  deriving Inhabited
inductive CK where
  | bool | int (k:IntKind) | str | sl (e:Nat) (t:Ty) | sln (e:Nat) (t:Ty) | ptr | fn | mp (kt vt:Ty) | bx (t:Ty) | oth
  deriving DecidableEq
inductive A where
  | undef
  | bool (b:Bool)
  | int (k:IntKind) (n:Int)
  | str (s:List UInt8)
  | sl (l:Sl)
  | sln (l:Sl)
  | usl (z:Bool) (e:Nat) (l:Sl)
  | BK
  | Cc
  | ptr (o off:Nat)
  | own (o:Nat)
  | elt (cs:List A)
  | Bc (o i off:Nat)
  | agg (cs:List A)
  | tup (vs:List A)
  | box (cs:List A)
  | clo (f o:Nat)
  | cbx (f:Nat) (cs:List A)
  | bsl (o n:Nat)
  | osl (o k:Nat)
  | fn (f:Nat)
  | ump (l:Mp)
  | cnd (g:Bool) (v:A)
  deriving Inhabited
inductive Obj where
  | box (cs:List A)
  | arr (e:Nat) (frz:Bool) (l:Sl)
  | mp (l:Mp)
  deriving Inhabited
def Ty.cells:(t:Ty)->t.Val->List A
  | .nil,_=>[]
  | .bool r,v=>.bool (r.hd v)::r.cells (r.tl v)
  | .int k r,v=>.int k (r.hd v)::r.cells (r.tl v)
  | .str r,v=>.str (r.hd v)::r.cells (r.tl v)
  | .sl _ t r,v=>.sl ⟨t,r.hd v⟩::r.cells (r.tl v)
  | .ptr r,v=>.Cc::r.cells v
  | .fn r,v=>.fn (r.hd v)::r.cells (r.tl v)
  | .mp kt vt r,v=>.ump ⟨kt,vt,r.hd v⟩::r.cells (r.tl v)
def Sl.sz (l:Sl):Nat:=l.t.len
def Sl.es (l:Sl):List (List A):=l.xs.map l.t.cells
def Sl.at (l:Sl) (i:Nat):List A:=l.t.cells (l.xs.getD i l.t.zero)
def Sl.cast (l:Sl) (t:Ty):Option (List t.Val) :=
  match decEq l.t t with
  | .isTrue h=>some (h▸l.xs)
  | .isFalse _=>none
def Mp.cast (l:Mp) (kt vt:Ty):Option (List (kt.Val×vt.Val)) :=
  match decEq l.kt kt with
  | .isTrue h=>match decEq l.vt vt with
    | .isTrue h'=>some (h▸h'▸l.l)
    | .isFalse _=>none
  | .isFalse _=>none
structure St where
  tmps:List A
  Aa:List (Nat×Obj)
def Af:List (Nat×Obj)->Nat->Option Obj
  | [],_=>none
  | (k,x)::r,n=>bif Nat.beq k n then some x else Af r n
def Gp:List (Nat×Obj)->Nat->List (Nat×Obj)
  | [],_=>[]
  | (k,x)::r,n=>bif Nat.beq k n then Gp r n else(k,x)::Gp r n
def NM:List (Nat×Obj)->Nat->Obj->List (Nat×Obj)
  | [],n,y=>[(n,y)]
  | (k,x)::r,n,y=>bif Nat.ble n k then(n,y)::(k,x)::r else(k,x)::NM r n y
def BP (l:List (Nat×Obj)) (n:Nat) (y:Obj):List (Nat×Obj):=NM (Gp l n) n y
def has (l:List Nat) (n:Nat):Bool:=l.any (Nat.beq n)
namespace A
def toB:A->Bool | .bool b=>b | _=>false
def isB:A->Bool | .bool _=>true | _=>false
def toI:A->Int | .int _ n=>n | _=>0
def kEq:IntKind->IntKind->Bool
  | .i8,.i8 | .i16,.i16 | .i32,.i32 | .i64,.i64 | .u8,.u8 | .u16,.u16 | .u32,.u32 | .u64,.u64=>true
  | _,_=>false
def isI (k:IntKind):A->Bool | .int k' _=>kEq k k' | _=>false
def toS:A->List UInt8 | .str s=>s | _=>[]
def isS:A->Bool | .str _=>true | _=>false
def toL:A->Sl | .sl l=>l | .sln l=>l | .usl _ _ l=>l | _=>default
def weak:A->A | .sln l=>.sl l | a=>a
def strong:A->A | .sl l=>.sln l | a=>a
def Acj:A->Bool | .sl _=>false | _=>true
def YX (t:Ty):A->Bool | .sln l=>decide (l.t=t) | _=>false
def nT (t:Ty):A->Bool | .sl l=>decide (l.t=t) | _=>false
def jM (z:Bool) (e:Nat) (t:Ty):A->Bool | .usl z' e' l=>(z==z')&&(Nat.beq e e'&&decide (l.t=t)) | _=>false
def Us:A->Bool | .Cc=>true | _=>false
def isFn:A->Bool | .fn _=>true | _=>false
def V4 (kt vt:Ty):A->Bool | .ump l=>decide (l.kt=kt)&&decide (l.vt=vt) | _=>false
def toM:A->Mp | .ump l=>l | _=>default
def ML:A->List A | .agg cs=>cs | .box cs=>cs | .cbx _ cs=>cs | _=>[]
def uZ (f n:Nat):A->Bool | .cbx g cs=>Nat.beq f g&&Nat.beq cs.length n | _=>false
def isAgg (n:Nat):A->Bool | .agg cs=>Nat.beq cs.length n | _=>false
def uY (n:Nat):A->Bool | .box cs=>Nat.beq cs.length n | _=>false
def isVal:A->Bool | .undef=>false | .tup _=>false | .usl _ _ _=>false | .ump _=>false | .box _=>false | .cbx _ _=>false | .cnd _ _=>false | _=>true
def cells:A->List A | .agg cs=>cs | v=>[v]
def strip:A->List Bool×A | .cnd g v=>([g],v) | v=>([],v)
def Et:A->Bool×A | .cnd g v=>(g,v) | v=>(true,v)
def CX:A->List Nat
  | .ptr o _=>[o] | .own o=>[o] | .Bc o _ _=>[o] | .clo _ o=>[o] | .bsl o _=>[o] | .osl o _=>[o] | _=>[]
def AeF:A->List Nat
  | .agg cs=>cs.flatMap CX
  | .cnd _ (.agg cs)=>cs.flatMap CX
  | .cnd _ v=>CX v
  | v=>CX v
def ids:A->List Nat
  | .tup vs=>vs.flatMap AeF
  | v=>AeF v
end A
def Obj.ids:Obj->List Nat
  | .box cs=>cs.flatMap A.CX
  | _=>[]
def St.ids (st:St):List Nat:=st.tmps.flatMap A.ids++st.Aa.flatMap (fun p=>p.2.ids)
def Ls (n:Nat):Bool:=Nat.blt n 32768&&Nat.beq (n % 256) 0
def St.fresh (st:St) (n:Nat):Bool:= !(has st.ids n)&&(Af st.Aa n).isNone&& !(Nat.beq n 255)&& !(Ls n)
def force:CK->A->List Bool×A
  | .bool,c=>([c.isB],c)
  | .int k,c=>([c.isI k],c)
  | .str,c=>([c.isS],c)
  | .sl _ t,c=>([c.nT t],c)
  | .sln _ t,c=>([c.YX t],c)
  | .ptr,c=>([c.Us],c)
  | .fn,c=>([c.isFn],c)
  | .mp _ _,_=>([false],.undef)
  | .bx _,_=>([false],.undef)
  | .oth,_=>([],.undef)
def forces (cs:List A):List CK->Nat->List Bool×List A
  | [],_=>([],[])
  | k::ks,off=>((force k (cs.getD off .undef)).1++(forces cs ks (off+1)).1,(force k (cs.getD off .undef)).2::(forces cs ks (off+1)).2)
def CK.zero:CK->A
  | .bool=>.bool false
  | .int k=>.int k 0
  | .str=>.str []
  | .sl _ _=>.BK
  | .sln _ _=>.BK
  | .ptr=>.Cc
  | .fn=>.fn 0
  | .mp _ _=>.undef
  | .bx _=>.undef
  | .oth=>.undef
def CK.plain:CK->Bool | .oth=>false | .mp _ _=>false | .bx _=>false | _=>true
def CK.DT:CK->A
  | .sl _ t=>.sl ⟨t,[]⟩
  | .sln _ t=>.sl ⟨t,[]⟩
  | k=>k.zero
structure TI where
  d:TypeDesc
  cs:List CK
  bytes:Nat
  cmp:List CK:=[]
def tyl:List CK->Ty
  | []=>.nil
  | .bool::r=>.bool (tyl r)
  | .int k::r=>.int k (tyl r)
  | .str::r=>.str (tyl r)
  | .sl e t::r=>.sl e t (tyl r)
  | .sln e t::r=>.sl e t (tyl r)
  | .ptr::r=>.ptr (tyl r)
  | .fn::r=>.fn (tyl r)
  | .mp kt vt::r=>.mp kt vt (tyl r)
  | .bx t::r=>.sl 0 t (tyl r)
  | .oth::r=>.ptr (tyl r)
def tck:Ty->List CK
  | .nil=>[]
  | .bool r=>.bool::tck r
  | .int k r=>.int k::tck r
  | .str r=>.str::tck r
  | .sl e t r=>.sln e t::tck r
  | .ptr r=>.ptr::tck r
  | .fn r=>.fn::tck r
  | .mp kt vt r=>.mp kt vt::tck r
def Ty.mk:(t:Ty)->List A->Bool×t.Val
  | .nil=>fun cs=>(cs.isEmpty,())
  | .bool r=>fun
    | .bool b::cs=>((r.mk cs).1,r.mk2 b (r.mk cs).2)
    | _=>(false,Ty.zero (.bool r))
  | .int k r=>fun
    | .int j n::cs=>(A.kEq j k&&(r.mk cs).1,r.mk2 n (r.mk cs).2)
    | _=>(false,Ty.zero (.int k r))
  | .str r=>fun
    | .str s::cs=>((r.mk cs).1,r.mk2 s (r.mk cs).2)
    | _=>(false,Ty.zero (.str r))
  | .sl e t r=>fun
    | .sl l::cs=>match l.cast t with
      | some xs=>((r.mk cs).1,r.mk2 xs (r.mk cs).2)
      | none=>(false,Ty.zero (.sl e t r))
    | _=>(false,Ty.zero (.sl e t r))
  | .ptr r=>fun
    | .Cc::cs=>((r.mk cs).1,(r.mk cs).2)
    | _=>(false,Ty.zero (.ptr r))
  | .fn r=>fun
    | .fn n::cs=>((r.mk cs).1,r.mk2 n (r.mk cs).2)
    | _=>(false,Ty.zero (.fn r))
  | .mp kt vt r=>fun
    | .ump l::cs=>match l.cast kt vt with
      | some xs=>((r.mk cs).1,r.mk2 xs (r.mk cs).2)
      | none=>(false,Ty.zero (.mp kt vt r))
    | _=>(false,Ty.zero (.mp kt vt r))
def TI.agg (t:TI):Bool:=match t.d with | .struct _ | .array _ _=>true | _=>false
inductive Sh where
  | cell (u:Bool) (k:CK)
  | agg (cs:List (Bool×CK))
  | box (cs:List (Bool×CK))
  | map (kt vt:Ty)
  | clo (f:Nat) (cs:List (Bool×CK))
structure Sig where
  pars:List Sh
  ress:List Sh
  ok:List A->Bool
  val:List A->List A
def Sig.F (sg:Sig) (xs:List A):Option (List A):=bif sg.ok xs then some (sg.val xs)else none
structure Nrm where
  keep:List Nat
  nw:List (List Nat×Nat×Ty×Nat)
  pz:List (Option Nat×Nat×Ty)
  ren:List (Nat×Nat)
  frz:List Nat
abbrev Alt:=Sig×Sig×(List A->Bool)
structure Ctx where
  T:Nat->Option TI
  G:Nat->Option Sig
  nrm:Nat->Option Nrm
  alt:Nat->Option Alt
  dyn:Nat->Option (Nat->Sig)
  cuts:List Nat:=[]
  binds:List Nat:=[]
  dec:Nat->Option Bool:=fun _=>none
  spl:Nat->Option (Nat×Nat×List Nat):=fun _=>none
  kept:Nat->List (Nat×Nat):=fun _=>[]
def Ctx.decide (C:Ctx) (ds:List Nat) (b:Bool):Ctx:= {C with dec:=fun d=>bif has ds d then some b else C.dec d}
def Ctx.put (C:Ctx) (f:Nat) (s:Sig):Ctx:= {C with G:=fun k=>bif Nat.beq f k then some s else C.G k}
structure Dl where
  ok:List Bool
  val:A
  new:List (Nat×Obj):=[]
  upd:List (Nat×Obj):=[]
  del:List Nat:=[]
  same:List (Nat×Nat):=[]
def Dl.no:Dl:= {ok:=[false],val:=.undef}
def Dl.v (a:A):Dl:= {ok:=[],val:=a}
def Dl.g (b:List Bool) (a:A):Dl:= {ok:=b,val:=a}
def DV:Value->A
  | .bool b=>.bool b
  | .int k n=>.int k n
  | .string s=>.str s.data.toList
  | .slice none 0 0=>.BK
  | .pointer none=>.Cc
  | .nilFunc=>.fn 0
  | _=>.undef
def ofConst:Value->A
  | .agg vs=>bif vs.toList.all Value.oneCell' then .agg (vs.toList.map DV)else .undef
  | v=>DV v
abbrev Fet:=List (Nat×Obj)
def oJ:CK->Sl->List Bool×A
  | .sln _ _,l=>([decide (0<l.xs.length)],.sln l)
  | _,l=>([],.sl l)
def Ag4:CK->Sl->A
  | .sln _ _,l=>.sln l
  | _,l=>.sl l
def pur (fet:Fet) (k:CK):A->List Bool×A×List (Nat×Obj)
  | .own o=>match Af fet o with
    | some (.arr e _ l)=>((oJ k l).1,(oJ k l).2,[(o,.arr e true l)])
    | _=>([false],.undef,[])
  | .BK=>match k with
    | .sl _ t=>([],.sl ⟨t,[]⟩,[])
    | .sln _ t=>([],.sln ⟨t,[]⟩,[])
    | _=>([false],.undef,[])
  | .sln l=>([],Ag4 k l,[])
  | .bool b=>([],.bool b,[])
  | .int j n=>([],.int j n,[])
  | .str s=>([],.str s,[])
  | .sl l=>((oJ k l).1,(oJ k l).2,[])
  | .Cc=>([],.Cc,[])
  | .fn n=>([],.fn n,[])
  | _=>([false],.undef,[])
def Bv (fet:Fet):List CK->List A->List Bool×List A×List (Nat×Obj)
  | [],[]=>([],[],[])
  | k::ks,c::cs=>((pur fet k c).1++(Bv fet ks cs).1,(pur fet k c).2.1::(Bv fet ks cs).2.1,(pur fet k c).2.2++(Bv fet ks cs).2.2)
  | _,_=>([false],[],[])
def BI (id:Nat):List CK->List A->List A×List (Nat×Obj)
  | .sl e t::ks,.BK::cs=>(.own id::(BI (id+1) ks cs).1,(id,.arr e false ⟨t,[]⟩)::(BI (id+1) ks cs).2)
  | _::ks,c::cs=>(c::(BI (id+1) ks cs).1,(BI (id+1) ks cs).2)
  | _,cs=>(cs,[])
def rd (fet:Fet):A->List Bool×Sl
  | .own o=>match Af fet o with
    | some (.arr _ _ l)=>([],l)
    | _=>([false],default)
  | .BK=>([],default)
  | .sl l=>([],l)
  | _=>([false],default)
def rdT (fet:Fet) (t:Ty):A->List Bool×List t.Val
  | .BK=>([],[])
  | x=>match (rd fet x).2.cast t with
    | some xs=>((rd fet x).1,xs)
    | none=>([false],[])
def Gl:Ty:=.int .u8 .nil
def rdB (fet:Fet) (x:A):List Bool×List Int:=rdT fet Gl x
def byteOf (n:Int):UInt8:=UInt8.ofNat n.toNat
def isByte (n:Int):Bool:=decide (0<=n)&&decide (n<256)
def bitsI (op:BinOp) (k:IntKind) (x y:Int):Int :=
  match op with
  | .and=>k.wrap (((BitVec.ofInt k.bits x) &&& (BitVec.ofInt k.bits y)).toNat)
  | .or=>k.wrap (((BitVec.ofInt k.bits x) ||| (BitVec.ofInt k.bits y)).toNat)
  | .xor=>k.wrap (((BitVec.ofInt k.bits x) ^^^ (BitVec.ofInt k.bits y)).toNat)
  | _=>k.wrap (((BitVec.ofInt k.bits x) &&& ~~~(BitVec.ofInt k.bits y)).toNat)
def Xk (op:BinOp) (k:IntKind) (x y:Int):Dl :=
  match op with
  | .add=>.v (.int k (k.wrap (x+y)))
  | .sub=>.v (.int k (k.wrap (x - y)))
  | .mul=>.v (.int k (k.wrap (x*y)))
  | .quo=>.g [y != 0] (.int k (k.wrap (x.tdiv y)))
  | .rem=>.g [y != 0] (.int k (x.tmod y))
  | .and | .or | .xor | .andNot=>.v (.int k (bitsI op k x y))
  | .eql=>.v (.bool (x==y))
  | .neq=>.v (.bool (x != y))
  | .lss=>.v (.bool (decide (x<y)))
  | .leq=>.v (.bool (decide (x<=y)))
  | .gtr=>.v (.bool (decide (x>y)))
  | .geq=>.v (.bool (decide (x>=y)))
  | _=>.no
def bytesLess:List UInt8->List UInt8->Bool:=Go.Op.bytesLess
def Xl (op:BinOp) (x y:List UInt8):Dl :=
  match op with
  | .add=>.g [decide (x.length+y.length<=140737488355328)] (.str (x++y))
  | .eql=>.v (.bool (x==y))
  | .neq=>.v (.bool (!(x==y)))
  | .lss=>.v (.bool (bytesLess x y))
  | .leq=>.v (.bool (bytesLess x y||x==y))
  | .gtr=>.v (.bool (!(bytesLess x y||x==y)))
  | .geq=>.v (.bool (!(bytesLess x y)))
  | _=>.no
def PQ:CK->A->A->Bool×Bool
  | .bool,.bool a,.bool b=>(true,a==b)
  | .int k,.int i a,.int j b=>(A.kEq i k&&A.kEq j k,a==b)
  | .str,.str a,.str b=>(true,a==b)
  | _,_,_=>(false,false)
def ET:List CK->List A->List A->Bool×Bool
  | [],[],[]=>(true,true)
  | k::ks,a::x,b::y=>((PQ k a b).1&&(ET ks x y).1,(PQ k a b).2&&(ET ks x y).2)
  | _,_,_=>(false,false)
def Ty.same:(t:Ty)->t.Val->t.Val->Bool
  | .nil,_,_=>true
  | .bool r,a,b=>(r.hd a==r.hd b)&&r.same (r.tl a) (r.tl b)
  | .int _ r,a,b=>(r.hd a==r.hd b)&&r.same (r.tl a) (r.tl b)
  | .str r,a,b=>(r.hd a==r.hd b)&&r.same (r.tl a) (r.tl b)
  | _,_,_=>false
def KL {β :Type} (t:Ty) (k:t.Val):List (t.Val× β)->Option β
  | []=>none
  | p::r=>bif t.same k p.1 then some p.2 else KL t k r
def QA {β :Type} (t:Ty) (k:t.Val) (v: β):List (t.Val× β)->List (t.Val× β)
  | []=>[(k,v)]
  | p::r=>bif t.same k p.1 then(p.1,v)::r else p::QA t k v r
def Q5 {β :Type} (t:Ty) (k:t.Val):List (t.Val× β)->List (t.Val× β)
  | []=>[]
  | p::r=>bif t.same k p.1 then r else p::Q5 t k r
def Ea:List A->A
  | [c]=>c
  | cs=>.agg cs
def splice (l:List A) (off:Nat) (vs:List A):List A:=l.take off++vs++l.drop (off+vs.length)
def kE (C:Ctx) (d:TypeDesc) (f:Nat):Option (Nat×TI) :=
  match d with
  | .struct fs=>match fs.toList[f]? with
    | some x=>match C.T x.type with
      | some ti=>some (x.offset,ti)
      | none=>none
    | none=>none
  | _=>none
def Yk:TypeDesc->Bool | .string=>true | _=>false
def MB:TypeDesc->Bool | .slice _=>true | .string=>true | _=>false
def nS:TypeDesc->Bool | .bool=>true | _=>false
def jK:TypeDesc->Bool | .int .u8=>true | _=>false
def Zc (C:Ctx) (d:TypeDesc) (f:Nat):Option (Nat×TI) :=
  match d with
  | .struct fs=>match fs.toList[f]? with
    | some x=>match C.T x.type with
      | some ti=>some (x.offset,ti)
      | none=>none
    | none=>none
  | .array n e=>match C.T e with
    | some ti=>bif Nat.blt f n then some (f*ti.cs.length,ti)else none
    | none=>none
  | _=>none
def Zb (ti:TI) (cs:List A) (off:Nat):A:=bif ti.agg then .agg ((cs.drop off).take ti.cs.length)else cs.getD off .undef
def fill (C:Ctx) (d:TypeDesc):List (Nat×A)->List A->Option (List A)
  | [],cs=>some cs
  | (i,v)::r,cs=>match Zc C d i with
    | some (off,ti)=>bif v.isVal&&Nat.beq v.cells.length ti.cs.length&&Nat.ble (off+ti.cs.length) cs.length then fill C d r (splice cs off v.cells)else none
    | none=>none
def DI (fet:Fet) (ti:TI) (t:Ty):List (Nat×A)->List t.Val->List Bool×List t.Val×List (Nat×Obj)
  | [],xs=>([],xs,[])
  | (i,v)::r,xs=>((Bv fet ti.cs v.cells).1++[(t.mk (Bv fet ti.cs v.cells).2.1).1,Nat.blt i xs.length]++(DI fet ti t r (xs.set i (t.mk (Bv fet ti.cs v.cells).2.1).2)).1,
      (DI fet ti t r (xs.set i (t.mk (Bv fet ti.cs v.cells).2.1).2)).2.1,(Bv fet ti.cs v.cells).2.2++(DI fet ti t r (xs.set i (t.mk (Bv fet ti.cs v.cells).2.1).2)).2.2)
def Sl.set (l:Sl) (i off:Nat) (cs:List A):Bool×Sl:=((l.t.mk (splice (l.at i) off cs)).1,⟨l.t,l.xs.set i (l.t.mk (splice (l.at i) off cs)).2⟩)
def Bo:Sh->Bool | .box _=>true | .map _ _=>true | .clo _ _=>true | _=>false
def Ce (fet:Fet) (o:Nat):Option (List A):=match Af fet o with | some (.box cs)=>some cs | _=>none
structure Arg where
  ok:List Bool
  a:A
  upd:List (Nat×Obj):=[]
  del:List Nat:=[]
  boxes:List (Nat×Sh):=[]
def Am (fet:Fet):List (Bool×CK)->List A->List Bool×List A×List (Nat×Obj)×List Nat
  | [],[]=>([],[],[],[])
  | (false,k)::ks,c::cs=>((pur fet k c).1++(Am fet ks cs).1,(pur fet k c).2.1::(Am fet ks cs).2.1,(pur fet k c).2.2++(Am fet ks cs).2.2.1,(Am fet ks cs).2.2.2)
  | (true,.sl e t)::ks,.own o::cs=>match Af fet o with
    | some (.arr e' _ l)=>([Nat.beq e e',decide (l.t=t)]++(Am fet ks cs).1,.usl true e l::(Am fet ks cs).2.1,(o,.arr e true l)::(Am fet ks cs).2.2.1,o::(Am fet ks cs).2.2.2)
    | _=>([false],[],[],[])
  | (true,.sl e t)::ks,.BK::cs=>((Am fet ks cs).1,.usl true e ⟨t,[]⟩::(Am fet ks cs).2.1,(Am fet ks cs).2.2.1,(Am fet ks cs).2.2.2)
  | (true,.sln e t)::ks,.own o::cs=>match Af fet o with
    | some (.arr e' f l)=>([Nat.beq e e',decide (l.t=t),!f]++(Am fet ks cs).1,.usl false e l::(Am fet ks cs).2.1,(Am fet ks cs).2.2.1,o::(Am fet ks cs).2.2.2)
    | _=>([false],[],[],[])
  | (true,.sln e t)::ks,.BK::cs=>((Am fet ks cs).1,.usl false e ⟨t,[]⟩::(Am fet ks cs).2.1,(Am fet ks cs).2.2.1,(Am fet ks cs).2.2.2)
  | (true,.bx t)::ks,.ptr o off::cs=>match Ce fet o with
    | some zs=>(Nat.beq off 0::(Bv fet (tck t) zs).1++(Am fet ks cs).1,.box (Bv fet (tck t) zs).2.1::(Am fet ks cs).2.1,(Bv fet (tck t) zs).2.2++(Am fet ks cs).2.2.1,o::(Am fet ks cs).2.2.2)
    | none=>([false],[],[],[])
  | _,_=>([false],[],[],[])
def wC:Bool×CK->Bool
  | (true,.sln _ _)=>true
  | _=>false
def wS:Sh->Bool
  | .cell u k=>wC (u,k)
  | .agg ks=>ks.any wC
  | .box ks=>ks.any wC
  | .clo _ ks=>ks.any wC
  | .map _ _=>false
def AU (fet:Fet):Sh->A->Arg
  | .cell u k,a=>match Am fet [(u,k)] [a]with
    | (ok,[c],upd,del)=> {ok,a:=c,upd,del}
    | _=> {ok:=[false],a:=.undef}
  | .agg ks,.agg cs=>match Am fet ks cs with
    | (ok,cs,upd,del)=> {ok,a:=.agg cs,upd,del}
  | .box ks,.ptr o off=>match Ce fet o with
    | some cs=> {ok:=Nat.beq off 0::Nat.ble ks.length 200::(Am fet ks cs).1,a:=.box (Am fet ks cs).2.1,upd:=(Am fet ks cs).2.2.1,del:=(Am fet ks cs).2.2.2,boxes:=[(o,.box ks)]}
    | none=> {ok:=[false],a:=.undef}
  | .clo f ks,.clo g o=>match Ce fet o with
    | some cs=> {ok:=Nat.beq f g::Nat.ble ks.length 200::(Am fet ks cs).1,a:=.cbx g (Am fet ks cs).2.1,upd:=(Am fet ks cs).2.2.1,del:=(Am fet ks cs).2.2.2,boxes:=[(o,.box ks)]}
    | none=> {ok:=[false],a:=.undef}
  | .map kt vt,.own o=>match Af fet o with
    | some (.mp l)=> {ok:=[decide (l.kt=kt),decide (l.vt=vt)],a:=.ump l,boxes:=[(o,.map kt vt)]}
    | _=> {ok:=[false],a:=.undef}
  | _,_=> {ok:=[false],a:=.undef}
def AA (fet:Fet):List Sh->List A->List Bool×List A×List (Nat×Obj)×List Nat×List (Nat×Sh)
  | [],[]=>([],[],[],[],[])
  | s::ss,a::aa=>((AU fet s a).ok++(AA fet ss aa).1,(AU fet s a).a::(AA fet ss aa).2.1,(AU fet s a).upd++(AA fet ss aa).2.2.1,
     (AU fet s a).del++(AA fet ss aa).2.2.2.1,(AU fet s a).boxes++(AA fet ss aa).2.2.2.2)
  | _,_=>([false],[],[],[],[])
def AL (id:Nat):List (Bool×CK)->List A->Nat->List Bool×List A×List (Nat×Obj)
  | [],_,_=>([],[],[])
  | (false,k)::ks,cs,j=>((force k (cs.getD j .undef)).1++(AL id ks cs (j+1)).1,(force k (cs.getD j .undef)).2::(AL id ks cs (j+1)).2.1,(AL id ks cs (j+1)).2.2)
  | (true,.sl e t)::ks,cs,j=>((cs.getD j .undef).jM true e t::(AL id ks cs (j+1)).1,.own (id+j)::(AL id ks cs (j+1)).2.1,
      (id+j,.arr e true (cs.getD j .undef).toL)::(AL id ks cs (j+1)).2.2)
  | (true,.sln e t)::ks,cs,j=>((cs.getD j .undef).jM false e t::(AL id ks cs (j+1)).1,.own (id+j)::(AL id ks cs (j+1)).2.1,
      (id+j,.arr e false (cs.getD j .undef).toL)::(AL id ks cs (j+1)).2.2)
  | (true,.bx t)::ks,cs,j=>((cs.getD j .undef).uY t.len::(AL id ks cs (j+1)).1,.ptr (id+j) 0::(AL id ks cs (j+1)).2.1,(id+j,.box (cs.getD j .undef).ML)::(AL id ks cs (j+1)).2.2)
  | _,_,_=>([false],[],[])
def back (id:Nat):Sh->A->List Bool×A×List (Nat×Obj)
  | .cell u k,a=>((AL id [(u,k)] [a] 0).1++[k.plain],(AL id [(u,k)] [a] 0).2.1.getD 0 .undef,(AL id [(u,k)] [a] 0).2.2)
  | .agg ks,a=>(Nat.ble ks.length 200::a.isAgg ks.length::(AL (id+1) ks a.ML 0).1,.agg (AL (id+1) ks a.ML 0).2.1,(AL (id+1) ks a.ML 0).2.2)
  | .box ks,a=>(Nat.ble ks.length 200::a.uY ks.length::(AL (id+1) ks a.ML 0).1,.ptr id 0,(id,.box (AL (id+1) ks a.ML 0).2.1)::(AL (id+1) ks a.ML 0).2.2)
  | .map kt vt,a=>([a.V4 kt vt],.own id,[(id,.mp a.toM)])
  | .clo f ks,a=>(Nat.ble ks.length 200::a.uZ f ks.length::(AL (id+1) ks a.ML 0).1,.clo f id,(id,.box (AL (id+1) ks a.ML 0).2.1)::(AL (id+1) ks a.ML 0).2.2)
def backs (id stride:Nat):List Sh->List A->Nat->List Bool×List A×List (Nat×Obj)
  | [],_,_=>([],[],[])
  | s::ss,rs,j=>((back (id+stride*j) s (rs.getD j .undef)).1++(backs id stride ss rs (j+1)).1,(back (id+stride*j) s (rs.getD j .undef)).2.1::(backs id stride ss rs (j+1)).2.1,
     (back (id+stride*j) s (rs.getD j .undef)).2.2++(backs id stride ss rs (j+1)).2.2)
def DD (rb:Nat):Sh->A->List Bool×Obj×List (Nat×Obj)
  | .box ks,a=>(a.isAgg ks.length::(AL (rb+1) ks a.ML 0).1,.box (AL (rb+1) ks a.ML 0).2.1,(AL (rb+1) ks a.ML 0).2.2)
  | .map kt vt,a=>([a.V4 kt vt],.mp a.toM,[])
  | _,_=>([false],.box [],[])
def BD (rb:Nat->Nat) (rs:List A):List (Nat×Sh)->Nat->List Bool×List (Nat×Obj)×List (Nat×Obj)
  | [],_=>([],[],[])
  | (o,s)::r,j=>((DD (rb o) s (rs.getD j .undef)).1++(BD rb rs r (j+1)).1,
      (o,(DD (rb o) s (rs.getD j .undef)).2.1)::(BD rb rs r (j+1)).2.1,(DD (rb o) s (rs.getD j .undef)).2.2++(BD rb rs r (j+1)).2.2)
def CJ (fet:Fet) (o:Nat):Nat:=match Ce fet o with
  | some cs=>bif cs.any (fun c=>c.CX.any (fun i=>Nat.blt o i&&Nat.ble i (o+100)))then o+100 else o
  | none=>o
def nodup:List Nat->Bool
  | []=>true
  | n::r=> !(has r n)&&nodup r
def BR (id:Nat):List (Bool×CK)->List A->List (Nat×Nat)
  | (true,.sl _ _)::ks,.own o::cs=>(o,id)::BR (id+1) ks cs
  | (true,.sln _ _)::ks,.own o::cs=>(o,id)::BR (id+1) ks cs
  | (true,.bx _)::ks,.ptr o _::cs=>(o,id)::BR (id+1) ks cs
  | _::ks,_::cs=>BR (id+1) ks cs
  | _,_=>[]
def DU (fet:Fet) (id:Nat):Sh->A->List (Nat×Nat)
  | .cell u k,a=>BR id [(u,k)] [a]
  | .agg ks,.agg cs=>BR (id+1) ks cs
  | .box ks,.ptr o _=>(o,id)::(match Ce fet o with | some cs=>BR (id+1) ks cs | none=>[])
  | .map _ _,.own o=>[(o,id)]
  | .clo _ ks,.clo _ o=>(o,id)::(match Ce fet o with | some cs=>BR (id+1) ks cs | none=>[])
  | _,_=>[]
def Dx (fet:Fet):Nat->Nat->List Sh->List A->List (Nat×Nat)
  | id,stride,s::ss,x::xs=>DU fet id s x++Dx fet (id+stride) stride ss xs
  | _,_,_,_=>[]
end Go.Proofs.YtbaomhegdndpnaaGreatDoor.Vm
namespace Go.Proofs.YtbaomhegdndpnaaGreatDoor.Vm
def YM:Nat->Option (IntKind×List Int)
  | 0=>some (.i64,[31,28,31,30,31,30,31,31,30,31,30,31])
  | _=>none
def AgF (j:Nat):Option (IntKind×List Int)->Option (Value->Prop)
  | some (k,ns)=>if j<ns.length then some (fun v=>v= .int k (ns.getD j 0))else none
  | none=>none
def TD:Nat->Nat->Option (Value->Prop)
  | 1,0=>some (fun v=> ∃ m,v= .int .i64 m)
  | 2,j=>if j<20 then some (fun v=>v= .int .u64 ((10 ^ j:Nat):Int))else none
  | g,j=>AgF j (YM g)
def Afj:Nat->Option Nat
  | 2=>some 20
  | _=>none
def Afi:Option (IntKind×List Int)->A
  | some (k,ns)=>.elt (ns.map (.int k))
  | none=>.undef
theorem AfO {g:Nat} {q:IntKind×List Int} (h:YM g=some q) (j:Nat):TD g j=AgF j (some q):=by
  rw[<- h]
  unfold TD
  split<;>first | rfl | (exfalso;cases h;done)
def evalA (tmps:List A):Operand->A
  | .tmp t=>tmps.getD t .undef
  | .const v=>ofConst v
  | .func f=>.fn (f+1)
  | .global g=>Afi (YM g)
def b2 (d:Nat):Nat:=(d+128)*256
def Be {α :Type} (o:Option α) (k: α ->Dl):Dl:=match o with | some x=>k x | none=>.no
def Cf (C:Ctx) (t:Nat) (k:TI->Dl):Dl:=Be (C.T t) k
def elem? :TypeDesc->Option Nat
  | .slice e=>some e
  | _=>none
def elemOf (C:Ctx) (t:Nat) (k:Nat->TI->Dl):Dl:=Cf C t fun ti=>Be (elem? ti.d) fun e=>Cf C e fun te=>k e te
structure Arr where
  e:Nat
  frz:Bool
  l:Sl
def NP (fet:Fet) (o:Nat):Option Arr:=match Af fet o with | some (.arr e frz l)=>some ⟨e,frz,l⟩ | _=>none
def one? {α :Type}:List α ->Option α
  | [k]=>some k
  | _=>none
def jH:List CK->Bool
  | [.ptr]=>true
  | _=>false
def Jt (ti:TI) (cs:List A) (off:Nat) (pre:List Bool):Dl :=
  bif ti.agg then .g (pre++(forces cs ti.cs off).1) (.agg (forces cs ti.cs off).2)
  else Be (one? ti.cs) fun k=>.g (pre++(force k (cs.getD off .undef)).1) (force k (cs.getD off .undef)).2
def isRow (ti:TI) (l:Sl) (i off:Nat):Bool:=Nat.blt 1 ti.cs.length&&Nat.beq l.sz 1&&Nat.beq off 0&&Nat.beq i 0
def VN (l:Sl) (n:Nat):List A:=(List.range n).map fun j=>(l.at j).getD 0 .undef
def PH (t:Ty) (cs:List A):Bool×List t.Val:=(cs.all (fun c=>(t.mk [c]).1),cs.map (fun c=>(t.mk [c]).2))
def MQ (C:Ctx) (fet:Fet) (t:Nat) (a:A):Dl :=
  Cf C t fun ti=>match a with
  | .ptr o off=>Be (Ce fet o) fun cs=>.g [Nat.ble (off+ti.cs.length) cs.length,Nat.blt 0 ti.cs.length] (Zb ti cs off)
  | .elt cs=>Jt ti cs 0 [Nat.ble ti.cs.length cs.length]
  | .clo k o=>.g [Nat.beq k 0,jH ti.cs,!ti.agg] (.ptr o 0)
  | .Bc o i off=>Be (NP fet o) fun r=>bif isRow ti r.l i off then Jt ti (VN r.l ti.cs.length) 0 [Nat.ble ti.cs.length r.l.xs.length,true]else Jt ti (r.l.at i) off [Nat.ble (off+ti.cs.length) r.l.sz,decide (i<r.l.xs.length)]
  | _=>.no
def Ip (C:Ctx) (fet:Fet) (t:Nat) (a v:A):Dl :=
  Cf C t fun ti=>match a with
  | .ptr o off=>Be (Ce fet o) fun cs =>
      {ok:=[v.isVal,Nat.beq v.cells.length ti.cs.length,Nat.ble (off+ti.cs.length) cs.length,Nat.blt 0 ti.cs.length],val:=.undef,
       upd:=[(o,.box (splice cs off (BI (CJ fet o+1+off) ti.cs v.cells).1))],new:=(BI (CJ fet o+1+off) ti.cs v.cells).2}
  | .Bc o i off=>Be (NP fet o) fun r=>bif isRow ti r.l i off then
      {ok:=(Bv fet ti.cs v.cells).1++[!r.frz,(PH r.l.t (Bv fet ti.cs v.cells).2.1).1,Nat.beq ti.cs.length r.l.xs.length,true,Nat.blt 0 ti.cs.length,!(has ((Bv fet ti.cs v.cells).2.2.map (·.1)) o)],val:=.undef,
       upd:=(Bv fet ti.cs v.cells).2.2++[(o,.arr r.e false ⟨r.l.t,(PH r.l.t (Bv fet ti.cs v.cells).2.1).2⟩)]}else
      {ok:=(Bv fet ti.cs v.cells).1++[!r.frz,(r.l.set i off (Bv fet ti.cs v.cells).2.1).1,Nat.ble (off+ti.cs.length) r.l.sz,decide (i<r.l.xs.length),Nat.blt 0 ti.cs.length,!(has ((Bv fet ti.cs v.cells).2.2.map (·.1)) o)],val:=.undef,
       upd:=(Bv fet ti.cs v.cells).2.2++[(o,.arr r.e false (r.l.set i off (Bv fet ti.cs v.cells).2.1).2)]}
  | _=>.no
def adK (C:Ctx) (d:Nat) (ti:TI):List CK:=bif has C.cuts d then []else ti.cs
def Jz (C:Ctx) (d:Nat) (t:Nat) (v:A):Dl :=
  Cf C t fun ti=> {ok:=[v.isVal,Nat.beq v.cells.length ti.cs.length],val:=.ptr (b2 d) 0,new:=(b2 d,.box (BI (b2 d+1) (adK C d ti) v.cells).1)::(BI (b2 d+1) (adK C d ti) v.cells).2}
def OT (off n:Nat) (fet:Fet):A->Dl
  | .ptr o p=>Be (Ce fet o) fun cs=>.g [Nat.ble (p+off+n) cs.length] (.ptr o (p+off))
  | .elt cs=>.g [Nat.ble (off+n) cs.length] (.elt (cs.drop off))
  | .Bc o i p=>Be (NP fet o) fun r=>.g [decide (i<r.l.xs.length)] (.Bc o i (p+off))
  | _=>.no
def UO:TypeDesc->Option (Nat×Nat)
  | .array n e=>some (n,e)
  | _=>none
def int? :A->Option Int
  | .int _ n=>some n
  | _=>none
def Afv:CK->Option IntKind
  | .int k=>some k
  | _=>none
def fD (C:Ctx) (t:Nat) (k:Nat->IntKind->Dl):Dl:=Cf C t fun ti=>Be (UO ti.d) fun p=>Cf C p.2 fun te=>bif te.agg then .no else Be (one? te.cs) fun c=>Be (Afv c) fun kk=>k p.1 kk
def VC (cs:List A) (n:Int):Int:=(cs.map A.toI).getD n.toNat 0
def Pn (C:Ctx) (fet:Fet) (t:Nat) (x:A) (i:A):Dl :=
  match x with
  | .Bc o i0 off0=>Be (int? i) fun n=>Cf C t fun ti=>Be (UO ti.d) fun p=>Cf C p.2 fun te=>Be (NP fet o) fun r =>
      .g [Nat.beq i0 0,Nat.beq off0 0,Nat.beq r.l.sz te.cs.length,decide (0<=n),decide (n<(p.1:Int)),decide (n.toNat<r.l.xs.length)] (.Bc o n.toNat 0)
  | .elt cs=>Be (int? i) fun n=>fD C t fun m kk=>.g [cs.all (A.isI kk),Nat.beq cs.length m,decide (0<=n),decide (n<(m:Int))] (.elt [.int kk (VC cs n)])
  | x =>
  Be (int? i) fun n=>elemOf C t fun _ te=>match x with
  | .own o=>Be (NP fet o) fun r=>.g [Nat.beq r.l.sz te.cs.length,decide (0<=n),decide (n<r.l.xs.length)] (.Bc o n.toNat 0)
  | .sl l=>.g [Nat.beq l.sz te.cs.length,Nat.blt 0 l.sz,decide (0<=n),decide (n<l.xs.length)] (.elt (l.at n.toNat))
  | .bsl o k=>Be (Ce fet o) fun cs=>.g [Nat.beq te.cs.length 1,decide (0<=n),Nat.blt n.toNat k,Nat.blt n.toNat cs.length] (.ptr o n.toNat)
  | _=>.no
def zI:A->Option (List UInt8)
  | .str s=>some s
  | _=>none
def jF (C:Ctx) (t:Nat) (x i:A):Dl :=
  Be (int? i) fun n=>match x with
  | .agg cs=>fD C t fun m kk=>.g [cs.all (A.isI kk),Nat.beq cs.length m,decide (0<=n),decide (n<(m:Int))] (.int kk (VC cs n))
  | x=>Be (zI x) fun s=>Cf C t fun ti=>.g [Yk ti.d,decide (0<=n),decide (n<s.length)] (.int .u8 ((s.getD n.toNat 0).toNat:Int))
def bI (len:Nat):Option A->Option A->Option (List Bool×Nat×Nat)
  | none,none=>some ([],0,len)
  | some (.int _ a),none=>some ([decide (0<=a),decide (a<=len)],a.toNat,len)
  | none,some (.int _ b)=>some ([decide (0<=b),decide (b<=len)],0,b.toNat)
  | some (.int _ a),some (.int _ b)=>some ([decide (0<=a),decide (a<=b),decide (b<=len)],a.toNat,b.toNat)
  | _,_=>none
def AO {α :Type} (l:List α) (a b:Nat):List α :=(l.take b).drop a
def CG (C:Ctx) (fet:Fet) (t:Nat) (x:A) (lo hi:Option A):Dl :=
  Cf C t fun ti=>match x with
  | .str s=>Be (bI s.length lo hi) fun r=>.g (Yk ti.d::r.1) (.str (AO s r.2.1 r.2.2))
  | .sl l=>Be (bI l.xs.length lo hi) fun r=>Be (elem? ti.d) fun e=>Cf C e fun te=>.g (Nat.beq l.sz te.cs.length::r.1) (.sl ⟨l.t,AO l.xs r.2.1 r.2.2⟩)
  | .own o=>Be (NP fet o) fun ro=>Be (bI ro.l.xs.length lo hi) fun r=>Be (elem? ti.d) fun e=>Cf C e fun te =>
      {ok:=Nat.beq ro.l.sz te.cs.length::r.1,val:=.sl ⟨ro.l.t,AO ro.l.xs r.2.1 r.2.2⟩,upd:=bif ro.frz then []else [(o,.arr ro.e true ro.l)]}
  | _=>.no
def XE (C:Ctx) (fet:Fet) (d t:Nat) (x hi:A):Dl :=
  Cf C t fun ti=>match x with
  | .own o=>Be (NP fet o) fun ro=>Be (bI ro.l.xs.length none (some hi)) fun r=>Be (elem? ti.d) fun e=>Cf C e fun te =>
      {ok:=Nat.beq ro.l.sz te.cs.length::r.1++[!ro.frz],val:=.own (b2 d),new:=[(b2 d,.arr ro.e false ⟨ro.l.t,AO ro.l.xs r.2.1 r.2.2⟩)],del:=[o]}
  | _=>.no
def VT (C:Ctx) (fet:Fet) (t:Nat) (x a:A):Dl :=
  Cf C t fun ti=>match x with
  | .own o=>Be (NP fet o) fun ro=>Be (int? a) fun n=>Be (elem? ti.d) fun e=>Cf C e fun te=>.g [Nat.beq ro.l.sz te.cs.length,decide (0<=n),decide (n<(ro.l.xs.length:Int))] (.osl o n.toNat)
  | _=>.no
def Tq (ys:List Int) (k:Nat) (s:List UInt8):List Int:=ys.take k++s.map (fun(b:UInt8)=>((b.toNat:Int)))++ys.drop (k+s.length)
def uS (C:Ctx) (fet:Fet) (ts:List Nat) (x y:A):Dl :=
  match ts with
  | [t,_]=>elemOf C t fun _ te=>match x with
    | .osl o k=>Be (NP fet o) fun r=>Be (r.l.cast Gl) fun ys=>Be (zI y) fun s =>
      {ok:=[jK te.d,Nat.beq te.cs.length 1,!r.frz,decide (0<s.length),decide (k+s.length<=ys.length)],val:=.int .i64 (s.length:Int),upd:=[(o,.arr r.e false ⟨Gl,Tq ys k s⟩)]}
    | _=>.no
  | _=>.no
def mapOf (C:Ctx) (t:Nat) (k:TI->TI->Dl):Dl:=Cf C t fun ti=>match ti.d with
  | .map a b=>Cf C a fun ta=>Cf C b fun tb=>k ta tb
  | _=>.no
def mp? (fet:Fet):A->Option (Nat×Mp)
  | .own o=>match Af fet o with
    | some (.mp l)=>some (o,l)
    | _=>none
  | _=>none
def AbW (C:Ctx) (ta:TI):Bool:=match ta.d with
  | .string=>true
  | .int _=>true
  | .array n e=>match C.T e with
    | some te=>Yk te.d&&Nat.blt 1 n
    | none=>false
  | _=>false
def vG (ti:TI):Bool:=ti.agg== !(Nat.beq ti.cs.length 1)
def AbQ:A->Bool
  | .agg [_]=>false
  | _=>true
def uU (C:Ctx) (ta tb:TI) (l:Mp) (i:A):List Bool:=[AbW C ta,vG tb,decide (l.kt=tyl ta.cs),decide (l.vt=tyl tb.cs),i.isVal,AbQ i,(l.kt.mk i.cells).1]
def J7 (C:Ctx) (d t:Nat) (r:List A):Dl:=mapOf C t fun ta tb =>
  {ok:=[r.isEmpty],val:=.own (b2 d),new:=[(b2 d,.mp ⟨tyl ta.cs,tyl tb.cs,[]⟩)]}
def nX (l:Mp) (c:Bool) (r:Option l.vt.Val):A :=
  bif c then .tup [Ea (l.vt.cells (r.getD l.vt.zero)),.bool r.isSome]else Ea (l.vt.cells (r.getD l.vt.zero))
def YZ (C:Ctx) (fet:Fet) (t:Nat) (c:Bool) (x i:A):Dl:=mapOf C t fun ta tb=>Be (mp? fet x) fun p =>
  .g (uU C ta tb p.2 i++[tb.cs.all CK.plain]) (nX p.2 c (KL p.2.kt (p.2.kt.mk i.cells).2 p.2.l))
def UK (C:Ctx) (fet:Fet) (t:Nat) (x i v:A):Dl:=mapOf C t fun ta tb=>Be (mp? fet x) fun p =>
  {ok:=uU C ta tb p.2 i++[v.isVal,AbQ v]++(Bv fet tb.cs v.cells).1++[(p.2.vt.mk (Bv fet tb.cs v.cells).2.1).1],val:=.undef,
   upd:=(Bv fet tb.cs v.cells).2.2++[(p.1,.mp ⟨p.2.kt,p.2.vt,QA p.2.kt (p.2.kt.mk i.cells).2 (p.2.vt.mk (Bv fet tb.cs v.cells).2.1).2 p.2.l⟩)]}
def Uf (C:Ctx) (fet:Fet) (t:Nat) (x i:A):Dl:=mapOf C t fun ta tb=>Be (mp? fet x) fun p =>
  {ok:=uU C ta tb p.2 i,val:=.tup [],upd:=[(p.1,.mp ⟨p.2.kt,p.2.vt,Q5 p.2.kt (p.2.kt.mk i.cells).2 p.2.l⟩)]}
def nV (C:Ctx) (fet:Fet) (t:Nat) (x:A):Dl :=
  Cf C t fun ti=>match ti.d with
  | .string=>Be (zI x) fun s=>.v (.int .i64 (s.length:Int))
  | .array n _=>.v (.int .i64 (n:Int))
  | .slice _=>match x with
    | .bsl o k=>Be (Ce fet o) fun _=>.v (.int .i64 (k:Int))
    | x=>.g (rd fet x).1 (.int .i64 ((rd fet x).2.xs.length:Int))
  | .map _ _=>Be (mp? fet x) fun p=>.v (.int .i64 (p.2.l.length:Int))
  | _=>.no
def EH (fet:Fet) (t:Ty):A->List Bool×List t.Val
  | .str s=>match t with
    | .int .u8 .nil=>([],s.map (fun(b:UInt8)=>((b.toNat:Int))))
    | _=>([false],[])
  | y=>rdT fet t y
def TJ (C:Ctx) (fet:Fet) (d:Nat) (t:Nat) (x y:A):Dl :=
  elemOf C t fun e te=>match x with
  | .own o=>Be (NP fet o) fun r =>
      {ok:=(EH fet r.l.t y).1++[Nat.beq e r.e,Nat.beq r.l.sz te.cs.length,Nat.blt 0 r.l.sz,decide ((r.l.xs.length+(EH fet r.l.t y).2.length)*(te.bytes+1)<=140737488355328)],
       val:=.own (b2 d),new:=[(b2 d,.arr r.e r.frz ⟨r.l.t,r.l.xs++(EH fet r.l.t y).2⟩)],del:=[o]}
  | .BK =>
      {ok:=(EH fet (tyl te.cs) y).1++[Nat.blt 0 te.cs.length,decide ((EH fet (tyl te.cs) y).2.length*(te.bytes+1)<=140737488355328)],
       val:=.own (b2 d),new:=[(b2 d,.arr e false ⟨tyl te.cs,(EH fet (tyl te.cs) y).2⟩)]}
  | _=>.no
def LV (C:Ctx) (fet:Fet) (src dst:Nat) (x:A):Dl :=
  Cf C src fun s=>Cf C dst fun t=>match t.d,x with
  | .int k,.int _ n=>.v (.int k (k.wrap n))
  | .string,.str l=>.v (.str l)
  | .string,.int _ _=>.no
  | .string,x=>Be (elem? s.d) fun e=>Cf C e fun te=>.g (jK te.d::((rdB fet x).1++[(rdB fet x).2.all isByte])) (.str ((rdB fet x).2.map byteOf))
  | _,_=>.no
def Xp (C:Ctx) (d s t:Nat) (l:List UInt8):Dl:=Cf C s fun _=>elemOf C t fun e te =>
  {ok:=[jK te.d,decide (l.length<=140737488355328)],val:=.own (b2 d),new:=[(b2 d,.arr e false ⟨Gl,l.map (fun(b:UInt8)=>((b.toNat:Int)))⟩)]}
def xN:TypeDesc->Bool | .slice _=>true | _=>false
def YV (C:Ctx) (o:Oper) (fet:Fet) (s t:Nat) (x:A):Dl :=
  match x with
  | .str l=>Cf C t fun tt=>bif xN tt.d then Be o.dst fun d=>Xp C d s t l else LV C fet s t (.str l)
  | x=>LV C fet s t x
def Afs (C:Ctx) (t:Nat):Option (Nat×IntKind):=match C.T t with
  | some ti=>match UO ti.d with
    | some (n,e)=>match C.T e with
      | some te=>match te.cs with
        | [.int k]=>some (n,k)
        | _=>none
      | none=>none
    | none=>none
  | none=>none
def Xm (C:Ctx) (d t:Nat) (v:A):Dl:=match Afs C t with
  | some (n,k)=>match v with
    | .agg cs=> {ok:=[cs.all (A.isI k),Nat.beq cs.length n,Nat.ble n 16777216],val:=.Bc (b2 d) 0 0,new:=[(b2 d,.arr t false ⟨.int k .nil,cs.map A.toI⟩)]}
    | _=>.no
  | none=>Jz C d t v
def Na (C:Ctx) (d t:Nat):Dl:=Cf C t fun ti=>match UO ti.d with
  | some (n,e)=>Cf C e fun te=> {ok:=[te.cs.all CK.plain,Nat.blt 0 te.cs.length,Nat.blt 0 n,Nat.ble n 16777216,decide (ti.cs=(List.replicate n te.cs).flatten)],val:=.Bc (b2 d) 0 0,new:=[(b2 d,.arr t false ⟨tyl te.cs,List.replicate n (tyl te.cs).zero⟩)]}
  | none=>Jz C d t (.agg (ti.cs.map CK.zero))
def jU (fet:Fet) (s:Bool) (d:TypeDesc) (x:A):Option Bool :=
  match s,d,x with
  | true,.slice _,.BK=>some true
  | true,.slice _,.sln l=>some l.xs.isEmpty
  | false,.pointer _,.Cc=>some true
  | false,.pointer _,.ptr o _=>(Ce fet o).map (fun _=>false)
  | _,_,_=>none
def oC (C:Ctx) (fet:Fet) (s:Bool) (t:Nat) (x:A) (k:Bool->Dl):Dl:=Cf C t fun ti=>Be (jU fet s ti.d x) k
def uO (C:Ctx) (t:Nat) (r:Bool):Dl:=Cf C t fun ti=>.g [nS ti.d] (.bool r)
def Abp (C:Ctx) (fet:Fet) (op:BinOp) (t:Nat) (x y:A):Dl :=
  match x,y with
  | .int k a,.int k' b=>match op with
    | .shl=>.g [decide (0<=b)] (.int k (k.wrap (a*2 ^ (min b.toNat k.bits))))
    | .shr=>.g [decide (0<=b)] (.int k (a.fdiv (2 ^ (min b.toNat k.bits))))
    | op=>bif A.kEq k k' then Xk op k a b else .no
  | .str a,.str b=>Xl op a b
  | .bool a,.bool b=>match op with
    | .eql=>uO C t (a==b)
    | .neq=>uO C t (!(a==b))
    | _=>.no
  | .agg x,.agg y=>Cf C t fun ti=>match op with
    | .eql=>.g [!ti.cmp.isEmpty,(ET ti.cmp x y).1] (.bool (ET ti.cmp x y).2)
    | .neq=>.g [!ti.cmp.isEmpty,(ET ti.cmp x y).1] (.bool (!(ET ti.cmp x y).2))
    | _=>.no
  | x,.BK=>match op with
    | .eql=>oC C fet true t x fun v=>.v (.bool v)
    | .neq=>oC C fet true t x fun v=>.v (.bool (!v))
    | _=>.no
  | x,.Cc=>match op with
    | .eql=>oC C fet false t x fun v=>.v (.bool v)
    | .neq=>oC C fet false t x fun v=>.v (.bool (!v))
    | _=>.no
  | _,_=>.no
def unX:UnOp->A->Dl
  | .not,.bool b=>.v (.bool !b)
  | .neg,.int k n=>.v (.int k (k.wrap (0 - n)))
  | .xor,.int k n=>.v (.int k (bitsI .xor k (if k.signed then -1 else k.max) n))
  | _,_=>.no
def vH (c a b:A):Dl:=.g [c.Et.1,c.Et.2.isB,(bif c.Et.2.toB then a.Et.1 else b.Et.1),(bif c.Et.2.toB then a.Et.2.isB else b.Et.2.isB)] (.bool (bif c.Et.2.toB then a.Et.2.toB else b.Et.2.toB))
def V7 (C:Ctx) (d:Nat) (t:Nat) (l c:A):Dl :=
  Be (int? l) fun n=>Be (int? c) fun m=>elemOf C t fun e te =>
   {ok:=[decide (n<=m),decide (0<=n),decide (m*(te.bytes+1)<=140737488355328),Nat.blt 0 te.cs.length,te.cs.all CK.plain],val:=.own (b2 d),
    new:=[(b2 d,.arr e false ⟨tyl te.cs,List.replicate n.toNat (tyl te.cs).zero⟩)]}
def Xo (C:Ctx) (t:Nat) (ps:List (Nat×A)):Dl:=Cf C t fun ti=>Be (fill C ti.d ps (ti.cs.map CK.zero)) fun cs=>.g [ti.agg] (.agg cs)
def Gf (C:Ctx) (fet:Fet) (d t n:Nat) (ps:List (Nat×A)):Dl:=elemOf C t fun e te =>
  {ok:=(DI fet te (tyl te.cs) ps (List.replicate n (tyl te.cs).zero)).1++[Nat.ble (n*te.cs.length) 16777216,Nat.blt 0 te.cs.length,te.cs.all CK.plain],val:=.own (b2 d),
   new:=[(b2 d,.arr e false ⟨tyl te.cs,(DI fet te (tyl te.cs) ps (List.replicate n (tyl te.cs).zero)).2.1⟩)],upd:=(DI fet te (tyl te.cs) ps (List.replicate n (tyl te.cs).zero)).2.2}
def Xn (C:Ctx) (d t n:Nat) (ps:List (Nat×A)):Dl:=elemOf C t fun e te=>Be (fill C (.array n e) ps (List.replicate n .Cc)) fun cs =>
  {ok:=[jH te.cs,Nat.ble n 16777216,Nat.blt 0 n,ps.all fun p=>p.2.isVal&& !p.2.isAgg 0],val:=.bsl (b2 d) n,new:=(b2 d,.box (BI (b2 d+1) [] cs).1)::(BI (b2 d+1) [] cs).2}
def jI:List (Nat×A)->Bool
  | (_,.ptr _ _)::_=>true
  | _=>false
def I5 (C:Ctx) (fet:Fet) (t f:Nat) (x:A):Dl :=
  Cf C t fun ti=>Be (kE C ti.d f) fun p=>match OT p.1 p.2.cs.length fet x with
  | δ => {δ with ok:=Nat.blt 0 p.2.cs.length:: δ.ok}
def Agd:A->Option (List A)
  | .agg cs=>some cs
  | _=>none
def iJ (C:Ctx) (t f:Nat) (x:A):Dl :=
  Cf C t fun ti=>Be (kE C ti.d f) fun p=>Be (Agd x) fun cs=>.g [Nat.ble (p.1+p.2.cs.length) cs.length,Nat.blt 0 p.2.cs.length] (Zb p.2 cs p.1)
def AgL:A->Option (List A)
  | .tup vs=>some vs
  | _=>none
def Vq (i:Nat) (x:A):Dl:=Be (AgL x) fun vs=>.g [Nat.blt i vs.length] (vs.getD i .undef)
def JL (fet:Fet):A->Dl
  | .ptr o off=>Be (Ce fet o) fun _=>.v (.ptr o off)
  | _=>.no
structure Hand where
  ok:List Bool
  vs:List A
  upd:List (Nat×Obj)
  del:List Nat
  boxes:List (Nat×Sh)
def vJ:List A->A
  | [v]=>v
  | vs=>.tup vs
def uQ (rb:Nat->Nat) (d:Nat) (sg:Sig) (N:List (Nat×Nat)) (n:Nat) (h:Hand) (ok:Bool) (rs:List A):Dl :=
  ⟨h.ok++[ok]++(backs (b2 d) 16 sg.ress rs 0).1++(BD rb (rs.drop sg.ress.length) h.boxes 0).1++[nodup (N.map (·.1)),Nat.ble n 100,Nat.beq rs.length (sg.ress.length+h.boxes.length),!(sg.pars.any wS)||h.upd.isEmpty],
    vJ (backs (b2 d) 16 sg.ress rs 0).2.1,
    (backs (b2 d) 16 sg.ress rs 0).2.2++(BD rb (rs.drop sg.ress.length) h.boxes 0).2.2,
    h.upd++(BD rb (rs.drop sg.ress.length) h.boxes 0).2.1,h.del,[]⟩
def Qr (fet:Fet) (ss:List Sh) (xs:List A):Hand:=⟨(AA fet ss xs).1,(AA fet ss xs).2.1,(AA fet ss xs).2.2.1,(AA fet ss xs).2.2.2.1,(AA fet ss xs).2.2.2.2⟩
def EJ (fet:Fet) (d:Nat) (sg:Sig) (args:List A):Dl:=uQ (CJ fet) d sg (Dx fet 0 256 sg.pars args) args.length (Qr fet sg.pars args) (sg.ok (Qr fet sg.pars args).vs) (sg.val (Qr fet sg.pars args).vs)
def jQ (n:Nat):Obj->Bool | .box cs=>Nat.beq cs.length n | _=>false
def zD (j:Nat) (c:A):Obj->Obj | .box cs=>.box (cs.set j c) | x=>x
def eqC:A->A->Bool | .str a,.str b=>a==b | .int k a,.int k' b=>A.kEq k k'&&a==b | .bool a,.bool b=>a==b | _,_=>false
def eqU (j:Nat) (c:A):Obj->Bool | .box cs=>eqC (cs.getD j .undef) c | _=>false
def Js (fet:Fet) (a:A) (j:Nat) (δ :Dl):Dl:=match a with
  | .ptr q _=>match Ce fet q with
    | some cs=>bif Nat.blt j cs.length&& δ.upd.all (fun p=> !(Nat.beq p.1 q)||jQ cs.length p.2)
      then {δ with ok:= δ.ok++ δ.upd.map (fun p=>bif Nat.beq p.1 q then eqU j (cs.getD j .undef) p.2 else true),upd:= δ.upd.map (fun p=>bif Nat.beq p.1 q then(p.1,zD j (cs.getD j .undef) p.2)else p),same:=(q,j):: δ.same}
      else δ
    | none=> δ
  | _=> δ
def keepD (fet:Fet) (args:List A):List (Nat×Nat)->Dl->Dl
  | [],δ => δ
  | (i,j)::r,δ =>keepD fet args r (Js fet (args.getD i .undef) j δ)
def OX (C:Ctx) (fet:Fet) (d:Nat) (f:Nat) (args:List A):Dl :=
  match C.G f with
  | some sg=>keepD fet args (C.kept f) (EJ fet d sg args)
  | none=>.no
def wL (C:Ctx) (fet:Fet) (d t:Nat) (c:A) (args:List A):Dl :=
  match c with
  | .fn n=>match C.dyn t with
    | some sg=>EJ fet d (sg n) args
    | none=>.no
  | .clo f o=>Be (Ce fet o) fun _=>match C.dyn t with
    | some sg=>EJ fet d (sg f) (args++[.clo 0 o])
    | none=>.no
  | _=>.no
def Acu:List A->Option Nat
  | [.ptr o 0]=>some o
  | _=>none
def lV (fet:Fet) (f:Nat):A->Dl
  | .ptr q off=>Be (Ce fet q) fun cs=>Be (Acu cs) fun o=> {ok:=[Nat.beq off 0],val:=.clo (f+1) o,del:=[q]}
  | _=>.no
def a0 (k:Dl):List A->Dl
  | []=>k
  | _=>.no
def a1 (k:A->Dl):List A->Dl
  | [a]=>k a
  | _=>.no
def a2 (k:A->A->Dl):List A->Dl
  | [a,b]=>k a b
  | _=>.no
def a3 (k:A->A->A->Dl):List A->Dl
  | [a,b,c]=>k a b c
  | _=>.no
def Ael (C:Ctx) (o:Oper) (fet:Fet) (ts:List Nat) (x y:A):Dl :=
  match ts with
  | [t,u]=>Cf C u fun tu=>Be o.dst fun d=>match TJ C fet d t x y with
    | δ => {δ with ok:=MB tu.d:: δ.ok}
  | _=>.no
def slX (C:Ctx) (dst:Option Nat) (fet:Fet) (t:Nat) (lo hi mx:Option Operand):List A->Dl :=
  match mx,lo,hi with
  | none,none,none=>a1 fun x=>CG C fet t x none none
  | none,some _,none=>a2 fun x a=>match dst with
    | some d=>bif has C.cuts d then VT C fet t x a else CG C fet t x (some a) none
    | none=>CG C fet t x (some a) none
  | none,none,some _=>a2 fun x b=>match dst with
    | some d=>bif has C.cuts d then XE C fet d t x b else CG C fet t x none (some b)
    | none=>CG C fet t x none (some b)
  | none,some _,some _=>a3 fun x a b=>CG C fet t x (some a) (some b)
  | _,_,_=>fun _=>.no
def Acg:A->A->Dl
  | .int k a,.int k' b=>bif A.kEq k k' then .v (.int k (bif decide (b<a)then b else a))else .no
  | _,_=>.no
def Ace:A->A->Dl
  | .int k a,.int k' b=>bif A.kEq k k' then .v (.int k (bif decide (a<b)then b else a))else .no
  | _,_=>.no
def blX (C:Ctx) (o:Oper) (fet:Fet) (ts:List Nat):Builtin->List A->Dl
  | .len=>a1 fun x=>Be (one? ts) fun t=>nV C fet t x
  | .append=>a2 fun x y=>Ael C o fet ts x y
  | .min=>a2 Acg
  | .max=>a2 Ace
  | .copy=>a2 fun x y=>uS C fet ts x y
  | .delete=>a2 fun x y=>match ts with
    | t::_=>Uf C fet t x y
    | []=>.no
  | _=>fun _=>.no
def opX (C:Ctx) (o:Oper) (v:List A) (fet:Fet):Dl :=
  match o.op with
  | .move _=>a1 (fun a=>.v a) v
  | .assign _=>a1 (fun a=>.v a) v
  | .pick _ _ _=>a3 (fun c a b=>vH c a b) v
  | .alloc t=>a0 (Be o.dst fun d=>Na C d t) v
  | .box t _=>a1 (fun a=>Be o.dst fun d=>Xm C d t a) v
  | .build t ps=>Xo C t ((ps.toList.map (·.1)).zip v)
  | .buildSlice t n ps=>Be o.dst fun d=>bif jI ((ps.toList.map (·.1)).zip v)then Xn C d t n ((ps.toList.map (·.1)).zip v)else Gf C fet d t n ((ps.toList.map (·.1)).zip v)
  | .load t _=>a1 (MQ C fet t) v
  | .store t _ _=>a2 (fun a x=>bif o.dst.isNone then Ip C fet t a x else .no) v
  | .nilCheck _=>a1 (JL fet) v
  | .binOp op t _ _ _=>a2 (Abp C fet op t) v
  | .unOp op _ _=>a1 (unX op) v
  | .convert s t _=>a1 (YV C o fet s t) v
  | .makeSlice t _ _=>a2 (fun l c=>Be o.dst fun d=>V7 C d t l c) v
  | .slice t _ lo hi mx=>slX C o.dst fet t lo hi mx v
  | .fieldAddr t _ f=>a1 (I5 C fet t f) v
  | .field t _ f=>a1 (iJ C t f) v
  | .indexAddr t _ _=>a2 (Pn C fet t) v
  | .index t _ _=>a2 (jF C t) v
  | .extract _ i=>a1 (Vq i) v
  | .makeFunc (.func f) fi _=>bif fi.isEmpty then a1 (lV fet f) v else .no
  | .makeMap t _=>Be o.dst fun d=>J7 C d t v
  | .lookup t _ _ c=>a2 (YZ C fet t c) v
  | .mapUpdate t _ _ _=>a3 (fun m i x=>bif o.dst.isNone then UK C fet t m i x else .no) v
  | .insert t _ _ _=>a3 (fun m i x=>bif o.dst.isNone then UK C fet t m i x else .no) v
  | .call ⟨.builtin b,_,ts⟩=>blX C o fet ts.toList b v
  | .call ⟨.value (.func f),_,_⟩=>match v with
    | _::vs=>OX C fet (o.dst.getD 0) f vs
    | []=>.no
  | .call ⟨.value (.tmp t),_,_⟩=>match v with
    | c::vs=>wL C fet (o.dst.getD 0) t c vs
    | []=>.no
  | _=>.no
def fetch (Aa:List (Nat×Obj)):List Nat->Fet
  | []=>[]
  | n::r=>match Af Aa n with
    | some x=>(n,x)::fetch Aa r
    | none=>fetch Aa r
def Bd (st:St) (vs:List A):Fet :=
  let f1:=fetch st.Aa (vs.flatMap A.ids)
  f1++fetch st.Aa (f1.flatMap (fun p=>p.2.ids))
def Bf (Aa:List (Nat×Obj)):List Nat->List (Nat×Obj)
  | []=>Aa
  | n::r=>Bf (Gp Aa n) r
def Aq (Aa:List (Nat×Obj)):List (Nat×Obj)->List (Nat×Obj)
  | []=>Aa
  | (n,x)::r=>Aq (BP Aa n x) r
def put (tmps:List A):Option Tmp->A->List A
  | some d,v=>tmps.set d v
  | none,_=>tmps
def apply (st:St) (o:Oper) (δ :Dl):St :=
  {tmps:=put st.tmps o.dst δ.val,Aa:=Aq (Bf (Aq st.Aa δ.upd) δ.del) δ.new}
def strips:List A->List Bool×List A
  | []=>([],[])
  | a::r=>(a.strip.1++(strips r).1,a.strip.2::(strips r).2)
def guardOf (ops:List Oper) (tmps:List A):Option (Nat×Bool)->Option (Option Bool)
  | none=>some none
  | some (j,want)=>match ops[j]? with
    | some oj=>match oj.dst with
      | some t=>match (tmps.getD t .undef)with
        | .bool b=>some (some (bif want then b else !b))
        | .cnd g (.bool b)=>some (some (g&&(bif want then b else !b)))
        | _=>none
      | none=>none
    | none=>none
def VS:Op->Bool
  | .move _=>true
  | .assign _=>true
  | .binOp _ _ _ _ _=>true
  | _=>false
def BG:Op->List A->List Bool×List A
  | .pick _ _ _,vs=>([],vs)
  | op,vs=>((strips vs).1,bif VS op then(strips vs).2 else(strips vs).2.map A.weak)
def Yx (g:Bool):A->A->A
  | .bool x,.bool y=>.bool (bif g then y else x)
  | .int k x,.int _ y=>.int k (bif g then y else x)
  | .str x,.str y=>.str (bif g then y else x)
  | .sl l,.sl l'=>match l'.cast l.t with
    | some ys=>.sl ⟨l.t,bif g then ys else l.xs⟩
    | none=>.undef
  | .sln l,.sln l'=>match l'.cast l.t with
    | some ys=>.sln ⟨l.t,bif g then ys else l.xs⟩
    | none=>.undef
  | a,_=>a
def VA:A->A->Bool
  | .bool _,.bool _=>true
  | .int k _,.int k' _=>A.kEq k k'
  | .str _,.str _=>true
  | .sl l,.sl l'=>(l'.cast l.t).isSome
  | .sln l,.sln l'=>(l'.cast l.t).isSome
  | .own o,.own o'=>Nat.beq o o'
  | .Cc,.Cc=>true
  | .undef,.undef=>true
  | _,_=>false
def pK (g:Bool):List A->List A->List A
  | a::aa,b::bs=>Yx g a b::pK g aa bs
  | _,_=>[]
def okM:List A->List A->Bool
  | [],[]=>true
  | a::aa,b::bs=>VA a b&&okM aa bs
  | _,_=>false
def Q9 (g:Bool):Option Obj->Obj->Obj
  | some (.box cs),.box ds=>.box (pK g cs ds)
  | some (.arr e _ l),.arr _ true _=>.arr e true l
  | _,x=>x
def dI (c:Bool):Option Obj->Obj->Bool
  | some (.box cs),.box ds=>okM cs ds
  | some (.arr e _ _),.arr e' true _=>c&&Nat.beq e e'
  | _,_=>false
def UT:Op->Bool
  | .call ⟨.value (.func _),_,_⟩=>true
  | .call ⟨.value (.tmp _),_,_⟩=>true
  | .slice _ _ _ _ _=>true
  | _=>false
def YW:Op->Bool
  | .call ⟨.value (.func _),_,_⟩=>true
  | _=>false
def Gy (C:Ctx) (o:Oper) (st:St) (pre:List Bool):Dl :=
  match BG o.op (o.op.operands.toList.map (evalA st.tmps))with
    | (ok,vs)=>match opX C o vs (Bd st vs)with
      | δ => {δ with ok:=pre++(ok++ δ.ok++[δ.new.all (fun p=>st.fresh p.1),nodup (δ.new.map (·.1))]),same:=bif YW o.op then δ.same else []}
def Ab5 (C:Ctx) (o:Oper):Option Bool:=match o.dst with
  | some d=>C.dec d
  | none=>none
def Bz (C:Ctx) (ops:List Oper) (o:Oper) (st:St):Dl :=
  match guardOf ops st.tmps o.guard with
  | some none=>Gy C o st []
  | some (some g)=>match Ab5 C o with
    | some true=>Gy C o st [g]
    | some false=> {ok:=[!g],val:=.cnd false .undef}
    | none=>match BG o.op (o.op.operands.toList.map (evalA st.tmps))with
    | (ok,vs)=>match opX C o vs (Bd st vs)with
      | δ => {ok:=(ok++(δ.val.isVal:: δ.ok)).map (fun c=>c|| !g)++(δ.new.isEmpty:: δ.del.isEmpty::o.dst.isSome:: δ.upd.map (fun p=>dI (UT o.op) (Af (Bd st vs) p.1) p.2)),val:=.cnd g δ.val,
              upd:= δ.upd.map (fun p=>(p.1,Q9 g (Af (Bd st vs) p.1) p.2))}
  | none=>.no
def allT {α :Type}:List Bool->Option α ->Option α
  | [],r=>r
  | c::cs,r=>bif c then allT cs r else none
def J8 {α :Type} (C:Ctx) (ops:List Oper):List Oper->St->(St->Option α)->Option α
  | [],st,K=>K st
  | o::r,st,K=>match Bz C ops o st with
    | δ =>allT δ.ok (J8 C ops r (apply st o δ) K)
def OV (C:Ctx) (o:Oper):Option (Nat×Alt) :=
  match o.guard,o.op with
  | none,.call ⟨.value (.func f),_,_⟩=>(C.alt f).map (fun q=>(f,q))
  | _,_=>none
def lI (o:Oper) (st:St) (q:Alt):Bool :=
  match (BG o.op (o.op.operands.toList.map (evalA st.tmps))).2 with
  | v::xs=>q.2.2 (Qr (Bd st (v::xs)) q.1.pars xs).vs
  | []=>true
def KU {α :Type} (C:Ctx) (ops:List Oper):List Oper->St->(St->Option α)->Option α
  | [],st,K=>K st
  | o::r,st,K=>match OV C o with
    | none=>allT (Bz C ops o st).ok (KU C ops r (apply st o (Bz C ops o st)) K)
    | some (f,q)=>bif lI o st q then allT (Bz (C.put f q.1) ops o st).ok (KU C ops r (apply st o (Bz (C.put f q.1) ops o st)) K)
      else allT (Bz (C.put f q.2.1) ops o st).ok (KU C ops r (apply st o (Bz (C.put f q.2.1) ops o st)) K)
abbrev Bs:=List UInt8
def chk {ρ :Type} (c:Bool) (k:Option ρ):Option ρ :=bif c then k else none
def callO {α ρ :Type} [Inhabited α] (o:Option α) (k: α ->Option ρ):Option ρ :=bif o.isSome then k (o.getD default)else none
def Au {X Y ρ :Type} (B:X->(X->Option ρ)->(Y->Option ρ)->Option ρ):Nat->X->(Y->Option ρ)->Option ρ
  | 0,_,_=>none
  | n+1,x,kx=>B x (fun x'=>Au B n x' kx) kx
