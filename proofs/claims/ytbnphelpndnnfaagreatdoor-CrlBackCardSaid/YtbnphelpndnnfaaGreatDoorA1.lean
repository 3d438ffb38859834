/-
  CrlBack: the law returns true whatever the input; machine, functions, plain law (26 files)
-/
import Derived.RowKit
import Derived.Laws.Sem
set_option linter.all false
namespace Go.Proofs.YtbnphelpndnnfaaGreatDoor.Vm
inductive Ty where
  | nil
  | bool (r:Ty)
  | int (k:IntKind) (r:Ty)
  | str (r:Ty)
  | sl (e:Nat) (t:Ty) (r:Ty)
  | ptr (r:Ty)
  | fn (r:Ty)
  | mp (kt vt:Ty) (r:Ty)
  deriving DecidableEq,Inhabited
namespace Ty
def pr (α :Type) (β :Type):Ty->Type
  | .nil=> α
  | _=> α × β
def Val:Ty->Type
  | .nil=>Unit
  | .bool r=>pr Bool r.Val r
  | .int _ r=>pr Int r.Val r
  | .str r=>pr (List UInt8) r.Val r
  | .sl _ t r=>pr (List t.Val) r.Val r
  | .ptr r=>r.Val
  | .fn r=>pr Nat r.Val r
  | .mp kt vt r=>pr (List (kt.Val×vt.Val)) r.Val r
def hd {α β :Type}:(r:Ty)->pr α β r-> α
  | .nil,a=>a
  | .bool _,p=>p.1
  | .int _ _,p=>p.1
  | .str _,p=>p.1
  | .sl _ _ _,p=>p.1
  | .ptr _,p=>p.1
  | .fn _,p=>p.1
  | .mp _ _ _,p=>p.1
def tl {α :Type}:(r:Ty)->pr α r.Val r->r.Val
  | .nil,_=>()
  | .bool _,p=>p.2
  | .int _ _,p=>p.2
  | .str _,p=>p.2
  | .sl _ _ _,p=>p.2
  | .ptr _,p=>p.2
  | .fn _,p=>p.2
  | .mp _ _ _,p=>p.2
def mk2 {α :Type}:(r:Ty)-> α ->r.Val->pr α r.Val r
  | .nil,a,_=>a
  | .bool _,a,b=>(a,b)
  | .int _ _,a,b=>(a,b)
  | .str _,a,b=>(a,b)
  | .sl _ _ _,a,b=>(a,b)
  | .ptr _,a,b=>(a,b)
  | .fn _,a,b=>(a,b)
  | .mp _ _ _,a,b=>(a,b)
def zero:(t:Ty)->t.Val
  | .nil=>()
  | .bool r=>mk2 r false r.zero
  | .int _ r=>mk2 r 0 r.zero
  | .str r=>mk2 r [] r.zero
  | .sl _ _ r=>mk2 r [] r.zero
  | .ptr r=>r.zero
  | .fn r=>mk2 r 0 r.zero
  | .mp _ _ r=>mk2 r [] r.zero
def len:Ty->Nat
  | .nil=>0
  | .bool r=>r.len+1
  | .int _ r=>r.len+1
  | .str r=>r.len+1
  | .sl _ _ r=>r.len+1
  | .ptr r=>r.len+1
  | .fn r=>r.len+1
  | .mp _ _ r=>r.len+1
end Ty
structure Sl where
  t:Ty
  xs:List t.Val
  deriving Inhabited
structure Mp where
  kt:Ty
  vt:Ty
  l:List (kt.Val×vt.Val)
  deriving Inhabited
inductive CK where
  | bool | int (k:IntKind) | str | sl (e:Nat) (t:Ty) | sln (e:Nat) (t:Ty) | ptr | fn | mp (kt vt:Ty) | bx (t:Ty) | oth
  deriving DecidableEq
inductive A where
  | undef
  | bool (b:Bool)
  | int (k:IntKind) (n:Int)
  | str (s:List UInt8)
  | sl (l:Sl)
  | sln (l:Sl)
  | usl (z:Bool) (e:Nat) (l:Sl)
  | nils
  | nilp
  | ptr (o off:Nat)
  | own (o:Nat)
  | elt (cs:List A)
  | oelt (o i off:Nat)
  | agg (cs:List A)
  | tup (vs:List A)
  | box (cs:List A)
  | clo (f o:Nat)
  | cbx (f:Nat) (cs:List A)
  | bsl (o n:Nat)
  | osl (o k:Nat)
  | fn (f:Nat)
  | ump (l:Mp)
  | cnd (g:Bool) (v:A)
  deriving Inhabited
inductive Obj where
  | box (cs:List A)
  | arr (e:Nat) (frz:Bool) (l:Sl)
  | mp (l:Mp)
  deriving Inhabited
def Ty.cells:(t:Ty)->t.Val->List A
  | .nil,_=>[]
  | .bool r,v=>.bool (r.hd v)::r.cells (r.tl v)
  | .int k r,v=>.int k (r.hd v)::r.cells (r.tl v)
  | .str r,v=>.str (r.hd v)::r.cells (r.tl v)
  | .sl _ t r,v=>.sl ⟨t,r.hd v⟩::r.cells (r.tl v)
  | .ptr r,v=>.nilp::r.cells v
  | .fn r,v=>.fn (r.hd v)::r.cells (r.tl v)
  | .mp kt vt r,v=>.ump ⟨kt,vt,r.hd v⟩::r.cells (r.tl v)
def Sl.sz (l:Sl):Nat:=l.t.len
def Sl.es (l:Sl):List (List A):=l.xs.map l.t.cells
def Sl.at (l:Sl) (i:Nat):List A:=l.t.cells (l.xs.getD i l.t.zero)
def Sl.cast (l:Sl) (t:Ty):Option (List t.Val) :=
  match decEq l.t t with
  | .isTrue h=>some (h▸l.xs)
  | .isFalse _=>none
def Mp.cast (l:Mp) (kt vt:Ty):Option (List (kt.Val×vt.Val)) :=
  match decEq l.kt kt with
  | .isTrue h=>match decEq l.vt vt with
    | .isTrue h'=>some (h▸h'▸l.l)
    | .isFalse _=>none
  | .isFalse _=>none
structure St where
  tmps:List A
  objs:List (Nat×Obj)
def aget:List (Nat×Obj)->Nat->Option Obj
  | [],_=>none
  | (k,x)::r,n=>bif Nat.beq k n then some x else aget r n
def adel:List (Nat×Obj)->Nat->List (Nat×Obj)
  | [],_=>[]
  | (k,x)::r,n=>bif Nat.beq k n then adel r n else(k,x)::adel r n
def ains:List (Nat×Obj)->Nat->Obj->List (Nat×Obj)
  | [],n,y=>[(n,y)]
  | (k,x)::r,n,y=>bif Nat.ble n k then(n,y)::(k,x)::r else(k,x)::ains r n y
def aset (l:List (Nat×Obj)) (n:Nat) (y:Obj):List (Nat×Obj):=ains (adel l n) n y
def has (l:List Nat) (n:Nat):Bool:=l.any (Nat.beq n)
namespace A
def toB:A->Bool | .bool b=>b | _=>false
def isB:A->Bool | .bool _=>true | _=>false
def toI:A->Int | .int _ n=>n | _=>0
def kEq:IntKind->IntKind->Bool
  | .i8,.i8 | .i16,.i16 | .i32,.i32 | .i64,.i64 | .u8,.u8 | .u16,.u16 | .u32,.u32 | .u64,.u64=>true
  | _,_=>false
def isI (k:IntKind):A->Bool | .int k' _=>kEq k k' | _=>false
def toS:A->List UInt8 | .str s=>s | _=>[]
def isS:A->Bool | .str _=>true | _=>false
def toL:A->Sl | .sl l=>l | .sln l=>l | .usl _ _ l=>l | _=>default
def weak:A->A | .sln l=>.sl l | a=>a
def strong:A->A | .sl l=>.sln l | a=>a
def notSl:A->Bool | .sl _=>false | _=>true
def isSln (t:Ty):A->Bool | .sln l=>decide (l.t=t) | _=>false
def isSl (t:Ty):A->Bool | .sl l=>decide (l.t=t) | _=>false
def isUsl (z:Bool) (e:Nat) (t:Ty):A->Bool | .usl z' e' l=>(z==z')&&(Nat.beq e e'&&decide (l.t=t)) | _=>false
def isNilp:A->Bool | .nilp=>true | _=>false
def isFn:A->Bool | .fn _=>true | _=>false
def isUmp (kt vt:Ty):A->Bool | .ump l=>decide (l.kt=kt)&&decide (l.vt=vt) | _=>false
def toM:A->Mp | .ump l=>l | _=>default
def toCs:A->List A | .agg cs=>cs | .box cs=>cs | .cbx _ cs=>cs | _=>[]
def isCbx (f n:Nat):A->Bool | .cbx g cs=>Nat.beq f g&&Nat.beq cs.length n | _=>false
def isAgg (n:Nat):A->Bool | .agg cs=>Nat.beq cs.length n | _=>false
def isBox (n:Nat):A->Bool | .box cs=>Nat.beq cs.length n | _=>false
def isVal:A->Bool | .undef=>false | .tup _=>false | .usl _ _ _=>false | .ump _=>false | .box _=>false | .cbx _ _=>false | .cnd _ _=>false | _=>true
def cells:A->List A | .agg cs=>cs | v=>[v]
def strip:A->List Bool×A | .cnd g v=>([g],v) | v=>([],v)
def stripB:A->Bool×A | .cnd g v=>(g,v) | v=>(true,v)
def ids1:A->List Nat
  | .ptr o _=>[o] | .own o=>[o] | .oelt o _ _=>[o] | .clo _ o=>[o] | .bsl o _=>[o] | .osl o _=>[o] | _=>[]
def ids2:A->List Nat
  | .agg cs=>cs.flatMap ids1
  | .cnd _ (.agg cs)=>cs.flatMap ids1
  | .cnd _ v=>ids1 v
  | v=>ids1 v
def ids:A->List Nat
  | .tup vs=>vs.flatMap ids2
  | v=>ids2 v
end A
def Obj.ids:Obj->List Nat
  | .box cs=>cs.flatMap A.ids1
  | _=>[]
def St.ids (st:St):List Nat:=st.tmps.flatMap A.ids++st.objs.flatMap (fun p=>p.2.ids)
def rootId (n:Nat):Bool:=Nat.blt n 32768&&Nat.beq (n % 256) 0
def St.fresh (st:St) (n:Nat):Bool:= !(has st.ids n)&&(aget st.objs n).isNone&& !(Nat.beq n 255)&& !(rootId n)
def force:CK->A->List Bool×A
  | .bool,c=>([c.isB],c)
  | .int k,c=>([c.isI k],c)
  | .str,c=>([c.isS],c)
  | .sl _ t,c=>([c.isSl t],c)
  | .sln _ t,c=>([c.isSln t],c)
  | .ptr,c=>([c.isNilp],c)
  | .fn,c=>([c.isFn],c)
  | .mp _ _,_=>([false],.undef)
  | .bx _,_=>([false],.undef)
  | .oth,_=>([],.undef)
def forces (cs:List A):List CK->Nat->List Bool×List A
  | [],_=>([],[])
  | k::ks,off=>((force k (cs.getD off .undef)).1++(forces cs ks (off+1)).1,(force k (cs.getD off .undef)).2::(forces cs ks (off+1)).2)
def CK.zero:CK->A
  | .bool=>.bool false
  | .int k=>.int k 0
  | .str=>.str []
  | .sl _ _=>.nils
  | .sln _ _=>.nils
  | .ptr=>.nilp
  | .fn=>.fn 0
  | .mp _ _=>.undef
  | .bx _=>.undef
  | .oth=>.undef
def CK.plain:CK->Bool | .oth=>false | .mp _ _=>false | .bx _=>false | _=>true
def CK.fzero:CK->A
  | .sl _ t=>.sl ⟨t,[]⟩
  | .sln _ t=>.sl ⟨t,[]⟩
  | k=>k.zero
structure TI where
  d:TypeDesc
  cs:List CK
  bytes:Nat
  cmp:List CK:=[]
def tyl:List CK->Ty
  | []=>.nil
  | .bool::r=>.bool (tyl r)
  | .int k::r=>.int k (tyl r)
  | .str::r=>.str (tyl r)
  | .sl e t::r=>.sl e t (tyl r)
  | .sln e t::r=>.sl e t (tyl r)
  | .ptr::r=>.ptr (tyl r)
  | .fn::r=>.fn (tyl r)
  | .mp kt vt::r=>.mp kt vt (tyl r)
  | .bx t::r=>.sl 0 t (tyl r)
  | .oth::r=>.ptr (tyl r)
def tck:Ty->List CK
  | .nil=>[]
  | .bool r=>.bool::tck r
  | .int k r=>.int k::tck r
  | .str r=>.str::tck r
  | .sl e t r=>.sln e t::tck r
  | .ptr r=>.ptr::tck r
  | .fn r=>.fn::tck r
  | .mp kt vt r=>.mp kt vt::tck r
def Ty.mk:(t:Ty)->List A->Bool×t.Val
  | .nil=>fun cs=>(cs.isEmpty,())
  | .bool r=>fun
    | .bool b::cs=>((r.mk cs).1,r.mk2 b (r.mk cs).2)
    | _=>(false,Ty.zero (.bool r))
  | .int k r=>fun
    | .int j n::cs=>(A.kEq j k&&(r.mk cs).1,r.mk2 n (r.mk cs).2)
    | _=>(false,Ty.zero (.int k r))
  | .str r=>fun
    | .str s::cs=>((r.mk cs).1,r.mk2 s (r.mk cs).2)
    | _=>(false,Ty.zero (.str r))
  | .sl e t r=>fun
    | .sl l::cs=>match l.cast t with
      | some xs=>((r.mk cs).1,r.mk2 xs (r.mk cs).2)
      | none=>(false,Ty.zero (.sl e t r))
    | _=>(false,Ty.zero (.sl e t r))
  | .ptr r=>fun
    | .nilp::cs=>((r.mk cs).1,(r.mk cs).2)
    | _=>(false,Ty.zero (.ptr r))
  | .fn r=>fun
    | .fn n::cs=>((r.mk cs).1,r.mk2 n (r.mk cs).2)
    | _=>(false,Ty.zero (.fn r))
  | .mp kt vt r=>fun
    | .ump l::cs=>match l.cast kt vt with
      | some xs=>((r.mk cs).1,r.mk2 xs (r.mk cs).2)
      | none=>(false,Ty.zero (.mp kt vt r))
    | _=>(false,Ty.zero (.mp kt vt r))
def TI.agg (t:TI):Bool:=match t.d with | .struct _ | .array _ _=>true | _=>false
inductive Sh where
  | cell (u:Bool) (k:CK)
  | agg (cs:List (Bool×CK))
  | box (cs:List (Bool×CK))
  | map (kt vt:Ty)
  | clo (f:Nat) (cs:List (Bool×CK))
structure Sig where
  pars:List Sh
  ress:List Sh
  ok:List A->Bool
  val:List A->List A
def Sig.F (sg:Sig) (xs:List A):Option (List A):=bif sg.ok xs then some (sg.val xs)else none
structure Nrm where
  keep:List Nat
  nw:List (List Nat×Nat×Ty×Nat)
  pz:List (Option Nat×Nat×Ty)
  ren:List (Nat×Nat)
  frz:List Nat
abbrev Alt:=Sig×Sig×(List A->Bool)
structure Ctx where
  T:Nat->Option TI
  G:Nat->Option Sig
  nrm:Nat->Option Nrm
  alt:Nat->Option Alt
  dyn:Nat->Option (Nat->Sig)
  cuts:List Nat:=[]
  binds:List Nat:=[]
  dec:Nat->Option Bool:=fun _=>none
  spl:Nat->Option (Nat×Nat×List Nat):=fun _=>none
  kept:Nat->List (Nat×Nat):=fun _=>[]
def Ctx.decide (C:Ctx) (ds:List Nat) (b:Bool):Ctx:= {C with dec:=fun d=>bif has ds d then some b else C.dec d}
def Ctx.put (C:Ctx) (f:Nat) (s:Sig):Ctx:= {C with G:=fun k=>bif Nat.beq f k then some s else C.G k}
structure Dl where
  ok:List Bool
  val:A
  new:List (Nat×Obj):=[]
  upd:List (Nat×Obj):=[]
  del:List Nat:=[]
  same:List (Nat×Nat):=[]
def Dl.no:Dl:= {ok:=[false],val:=.undef}
def Dl.v (a:A):Dl:= {ok:=[],val:=a}
def Dl.g (b:List Bool) (a:A):Dl:= {ok:=b,val:=a}
def cellConst:Value->A
  | .bool b=>.bool b
  | .int k n=>.int k n
  | .string s=>.str s.data.toList
  | .slice none 0 0=>.nils
  | .pointer none=>.nilp
  | .nilFunc=>.fn 0
  | _=>.undef
def ofConst:Value->A
  | .agg vs=>bif vs.toList.all Value.oneCell' then .agg (vs.toList.map cellConst)else .undef
  | v=>cellConst v
abbrev Fet:=List (Nat×Obj)
def purL:CK->Sl->List Bool×A
  | .sln _ _,l=>([decide (0<l.xs.length)],.sln l)
  | _,l=>([],.sl l)
def purN:CK->Sl->A
  | .sln _ _,l=>.sln l
  | _,l=>.sl l
def pur (fet:Fet) (k:CK):A->List Bool×A×List (Nat×Obj)
  | .own o=>match aget fet o with
    | some (.arr e _ l)=>((purL k l).1,(purL k l).2,[(o,.arr e true l)])
    | _=>([false],.undef,[])
  | .nils=>match k with
    | .sl _ t=>([],.sl ⟨t,[]⟩,[])
    | .sln _ t=>([],.sln ⟨t,[]⟩,[])
    | _=>([false],.undef,[])
  | .sln l=>([],purN k l,[])
  | .bool b=>([],.bool b,[])
  | .int j n=>([],.int j n,[])
  | .str s=>([],.str s,[])
  | .sl l=>((purL k l).1,(purL k l).2,[])
  | .nilp=>([],.nilp,[])
  | .fn n=>([],.fn n,[])
  | _=>([false],.undef,[])
def purs (fet:Fet):List CK->List A->List Bool×List A×List (Nat×Obj)
  | [],[]=>([],[],[])
  | k::ks,c::cs=>((pur fet k c).1++(purs fet ks cs).1,(pur fet k c).2.1::(purs fet ks cs).2.1,(pur fet k c).2.2++(purs fet ks cs).2.2)
  | _,_=>([false],[],[])
def adopt (id:Nat):List CK->List A->List A×List (Nat×Obj)
  | .sl e t::ks,.nils::cs=>(.own id::(adopt (id+1) ks cs).1,(id,.arr e false ⟨t,[]⟩)::(adopt (id+1) ks cs).2)
  | _::ks,c::cs=>(c::(adopt (id+1) ks cs).1,(adopt (id+1) ks cs).2)
  | _,cs=>(cs,[])
def rd (fet:Fet):A->List Bool×Sl
  | .own o=>match aget fet o with
    | some (.arr _ _ l)=>([],l)
    | _=>([false],default)
  | .nils=>([],default)
  | .sl l=>([],l)
  | _=>([false],default)
def rdT (fet:Fet) (t:Ty):A->List Bool×List t.Val
  | .nils=>([],[])
  | x=>match (rd fet x).2.cast t with
    | some xs=>((rd fet x).1,xs)
    | none=>([false],[])
def byteT:Ty:=.int .u8 .nil
def rdB (fet:Fet) (x:A):List Bool×List Int:=rdT fet byteT x
def byteOf (n:Int):UInt8:=UInt8.ofNat n.toNat
def isByte (n:Int):Bool:=decide (0<=n)&&decide (n<256)
def bitsI (op:BinOp) (k:IntKind) (x y:Int):Int :=
  match op with
  | .and=>k.wrap (((BitVec.ofInt k.bits x) &&& (BitVec.ofInt k.bits y)).toNat)
  | .or=>k.wrap (((BitVec.ofInt k.bits x) ||| (BitVec.ofInt k.bits y)).toNat)
  | .xor=>k.wrap (((BitVec.ofInt k.bits x) ^^^ (BitVec.ofInt k.bits y)).toNat)
  | _=>k.wrap (((BitVec.ofInt k.bits x) &&& ~~~(BitVec.ofInt k.bits y)).toNat)
def binI (op:BinOp) (k:IntKind) (x y:Int):Dl :=
  match op with
  | .add=>.v (.int k (k.wrap (x+y)))
  | .sub=>.v (.int k (k.wrap (x - y)))
  | .mul=>.v (.int k (k.wrap (x*y)))
  | .quo=>.g [y != 0] (.int k (k.wrap (x.tdiv y)))
  | .rem=>.g [y != 0] (.int k (x.tmod y))
  | .and | .or | .xor | .andNot=>.v (.int k (bitsI op k x y))
  | .eql=>.v (.bool (x==y))
  | .neq=>.v (.bool (x != y))
  | .lss=>.v (.bool (decide (x<y)))
  | .leq=>.v (.bool (decide (x<=y)))
  | .gtr=>.v (.bool (decide (x>y)))
  | .geq=>.v (.bool (decide (x>=y)))
  | _=>.no
def bytesLess:List UInt8->List UInt8->Bool:=Go.Op.bytesLess
def binS (op:BinOp) (x y:List UInt8):Dl :=
  match op with
  | .add=>.g [decide (x.length+y.length<=140737488355328)] (.str (x++y))
  | .eql=>.v (.bool (x==y))
  | .neq=>.v (.bool (!(x==y)))
  | .lss=>.v (.bool (bytesLess x y))
  | .leq=>.v (.bool (bytesLess x y||x==y))
  | .gtr=>.v (.bool (!(bytesLess x y||x==y)))
  | .geq=>.v (.bool (!(bytesLess x y)))
  | _=>.no
def cellEq:CK->A->A->Bool×Bool
  | .bool,.bool a,.bool b=>(true,a==b)
  | .int k,.int i a,.int j b=>(A.kEq i k&&A.kEq j k,a==b)
  | .str,.str a,.str b=>(true,a==b)
  | _,_,_=>(false,false)
def cellsEq:List CK->List A->List A->Bool×Bool
  | [],[],[]=>(true,true)
  | k::ks,a::x,b::y=>((cellEq k a b).1&&(cellsEq ks x y).1,(cellEq k a b).2&&(cellsEq ks x y).2)
  | _,_,_=>(false,false)
def Ty.same:(t:Ty)->t.Val->t.Val->Bool
  | .nil,_,_=>true
  | .bool r,a,b=>(r.hd a==r.hd b)&&r.same (r.tl a) (r.tl b)
  | .int _ r,a,b=>(r.hd a==r.hd b)&&r.same (r.tl a) (r.tl b)
  | .str r,a,b=>(r.hd a==r.hd b)&&r.same (r.tl a) (r.tl b)
  | _,_,_=>false
def mget {β :Type} (t:Ty) (k:t.Val):List (t.Val× β)->Option β
  | []=>none
  | p::r=>bif t.same k p.1 then some p.2 else mget t k r
def mput {β :Type} (t:Ty) (k:t.Val) (v: β):List (t.Val× β)->List (t.Val× β)
  | []=>[(k,v)]
  | p::r=>bif t.same k p.1 then(p.1,v)::r else p::mput t k v r
def mdel {β :Type} (t:Ty) (k:t.Val):List (t.Val× β)->List (t.Val× β)
  | []=>[]
  | p::r=>bif t.same k p.1 then r else p::mdel t k r
def ofCs:List A->A
  | [c]=>c
  | cs=>.agg cs
def splice (l:List A) (off:Nat) (vs:List A):List A:=l.take off++vs++l.drop (off+vs.length)
def placeS (C:Ctx) (d:TypeDesc) (f:Nat):Option (Nat×TI) :=
  match d with
  | .struct fs=>match fs.toList[f]? with
    | some x=>match C.T x.type with
      | some ti=>some (x.offset,ti)
      | none=>none
    | none=>none
  | _=>none
def isStrD:TypeDesc->Bool | .string=>true | _=>false
def isSlStr:TypeDesc->Bool | .slice _=>true | .string=>true | _=>false
def isBoolD:TypeDesc->Bool | .bool=>true | _=>false
def isU8D:TypeDesc->Bool | .int .u8=>true | _=>false
def placeAt (C:Ctx) (d:TypeDesc) (f:Nat):Option (Nat×TI) :=
  match d with
  | .struct fs=>match fs.toList[f]? with
    | some x=>match C.T x.type with
      | some ti=>some (x.offset,ti)
      | none=>none
    | none=>none
  | .array n e=>match C.T e with
    | some ti=>bif Nat.blt f n then some (f*ti.cs.length,ti)else none
    | none=>none
  | _=>none
def partA (ti:TI) (cs:List A) (off:Nat):A:=bif ti.agg then .agg ((cs.drop off).take ti.cs.length)else cs.getD off .undef
def fill (C:Ctx) (d:TypeDesc):List (Nat×A)->List A->Option (List A)
  | [],cs=>some cs
  | (i,v)::r,cs=>match placeAt C d i with
    | some (off,ti)=>bif v.isVal&&Nat.beq v.cells.length ti.cs.length&&Nat.ble (off+ti.cs.length) cs.length then fill C d r (splice cs off v.cells)else none
    | none=>none
def fillRow (fet:Fet) (ti:TI) (t:Ty):List (Nat×A)->List t.Val->List Bool×List t.Val×List (Nat×Obj)
  | [],xs=>([],xs,[])
  | (i,v)::r,xs=>((purs fet ti.cs v.cells).1++[(t.mk (purs fet ti.cs v.cells).2.1).1,Nat.blt i xs.length]++(fillRow fet ti t r (xs.set i (t.mk (purs fet ti.cs v.cells).2.1).2)).1,
      (fillRow fet ti t r (xs.set i (t.mk (purs fet ti.cs v.cells).2.1).2)).2.1,(purs fet ti.cs v.cells).2.2++(fillRow fet ti t r (xs.set i (t.mk (purs fet ti.cs v.cells).2.1).2)).2.2)
def Sl.set (l:Sl) (i off:Nat) (cs:List A):Bool×Sl:=((l.t.mk (splice (l.at i) off cs)).1,⟨l.t,l.xs.set i (l.t.mk (splice (l.at i) off cs)).2⟩)
def isBoxSh:Sh->Bool | .box _=>true | .map _ _=>true | .clo _ _=>true | _=>false
def box? (fet:Fet) (o:Nat):Option (List A):=match aget fet o with | some (.box cs)=>some cs | _=>none
structure Arg where
  ok:List Bool
  a:A
  upd:List (Nat×Obj):=[]
  del:List Nat:=[]
  boxes:List (Nat×Sh):=[]
def handCells (fet:Fet):List (Bool×CK)->List A->List Bool×List A×List (Nat×Obj)×List Nat
  | [],[]=>([],[],[],[])
  | (false,k)::ks,c::cs=>((pur fet k c).1++(handCells fet ks cs).1,(pur fet k c).2.1::(handCells fet ks cs).2.1,(pur fet k c).2.2++(handCells fet ks cs).2.2.1,(handCells fet ks cs).2.2.2)
  | (true,.sl e t)::ks,.own o::cs=>match aget fet o with
    | some (.arr e' _ l)=>([Nat.beq e e',decide (l.t=t)]++(handCells fet ks cs).1,.usl true e l::(handCells fet ks cs).2.1,(o,.arr e true l)::(handCells fet ks cs).2.2.1,o::(handCells fet ks cs).2.2.2)
    | _=>([false],[],[],[])
  | (true,.sl e t)::ks,.nils::cs=>((handCells fet ks cs).1,.usl true e ⟨t,[]⟩::(handCells fet ks cs).2.1,(handCells fet ks cs).2.2.1,(handCells fet ks cs).2.2.2)
  | (true,.sln e t)::ks,.own o::cs=>match aget fet o with
    | some (.arr e' f l)=>([Nat.beq e e',decide (l.t=t),!f]++(handCells fet ks cs).1,.usl false e l::(handCells fet ks cs).2.1,(handCells fet ks cs).2.2.1,o::(handCells fet ks cs).2.2.2)
    | _=>([false],[],[],[])
  | (true,.sln e t)::ks,.nils::cs=>((handCells fet ks cs).1,.usl false e ⟨t,[]⟩::(handCells fet ks cs).2.1,(handCells fet ks cs).2.2.1,(handCells fet ks cs).2.2.2)
  | (true,.bx t)::ks,.ptr o off::cs=>match box? fet o with
    | some zs=>(Nat.beq off 0::(purs fet (tck t) zs).1++(handCells fet ks cs).1,.box (purs fet (tck t) zs).2.1::(handCells fet ks cs).2.1,(purs fet (tck t) zs).2.2++(handCells fet ks cs).2.2.1,o::(handCells fet ks cs).2.2.2)
    | none=>([false],[],[],[])
  | _,_=>([false],[],[],[])
def wC:Bool×CK->Bool
  | (true,.sln _ _)=>true
  | _=>false
def wS:Sh->Bool
  | .cell u k=>wC (u,k)
  | .agg ks=>ks.any wC
  | .box ks=>ks.any wC
  | .clo _ ks=>ks.any wC
  | .map _ _=>false
def handArg (fet:Fet):Sh->A->Arg
  | .cell u k,a=>match handCells fet [(u,k)] [a]with
    | (ok,[c],upd,del)=> {ok,a:=c,upd,del}
    | _=> {ok:=[false],a:=.undef}
  | .agg ks,.agg cs=>match handCells fet ks cs with
    | (ok,cs,upd,del)=> {ok,a:=.agg cs,upd,del}
  | .box ks,.ptr o off=>match box? fet o with
    | some cs=> {ok:=Nat.beq off 0::Nat.ble ks.length 200::(handCells fet ks cs).1,a:=.box (handCells fet ks cs).2.1,upd:=(handCells fet ks cs).2.2.1,del:=(handCells fet ks cs).2.2.2,boxes:=[(o,.box ks)]}
    | none=> {ok:=[false],a:=.undef}
  | .clo f ks,.clo g o=>match box? fet o with
    | some cs=> {ok:=Nat.beq f g::Nat.ble ks.length 200::(handCells fet ks cs).1,a:=.cbx g (handCells fet ks cs).2.1,upd:=(handCells fet ks cs).2.2.1,del:=(handCells fet ks cs).2.2.2,boxes:=[(o,.box ks)]}
    | none=> {ok:=[false],a:=.undef}
  | .map kt vt,.own o=>match aget fet o with
    | some (.mp l)=> {ok:=[decide (l.kt=kt),decide (l.vt=vt)],a:=.ump l,boxes:=[(o,.map kt vt)]}
    | _=> {ok:=[false],a:=.undef}
  | _,_=> {ok:=[false],a:=.undef}
def handArgs (fet:Fet):List Sh->List A->List Bool×List A×List (Nat×Obj)×List Nat×List (Nat×Sh)
  | [],[]=>([],[],[],[],[])
  | s::ss,a::aa=>((handArg fet s a).ok++(handArgs fet ss aa).1,(handArg fet s a).a::(handArgs fet ss aa).2.1,(handArg fet s a).upd++(handArgs fet ss aa).2.2.1,
     (handArg fet s a).del++(handArgs fet ss aa).2.2.2.1,(handArg fet s a).boxes++(handArgs fet ss aa).2.2.2.2)
  | _,_=>([false],[],[],[],[])
def backCells (id:Nat):List (Bool×CK)->List A->Nat->List Bool×List A×List (Nat×Obj)
  | [],_,_=>([],[],[])
  | (false,k)::ks,cs,j=>((force k (cs.getD j .undef)).1++(backCells id ks cs (j+1)).1,(force k (cs.getD j .undef)).2::(backCells id ks cs (j+1)).2.1,(backCells id ks cs (j+1)).2.2)
  | (true,.sl e t)::ks,cs,j=>((cs.getD j .undef).isUsl true e t::(backCells id ks cs (j+1)).1,.own (id+j)::(backCells id ks cs (j+1)).2.1,
      (id+j,.arr e true (cs.getD j .undef).toL)::(backCells id ks cs (j+1)).2.2)
  | (true,.sln e t)::ks,cs,j=>((cs.getD j .undef).isUsl false e t::(backCells id ks cs (j+1)).1,.own (id+j)::(backCells id ks cs (j+1)).2.1,
      (id+j,.arr e false (cs.getD j .undef).toL)::(backCells id ks cs (j+1)).2.2)
  | (true,.bx t)::ks,cs,j=>((cs.getD j .undef).isBox t.len::(backCells id ks cs (j+1)).1,.ptr (id+j) 0::(backCells id ks cs (j+1)).2.1,(id+j,.box (cs.getD j .undef).toCs)::(backCells id ks cs (j+1)).2.2)
  | _,_,_=>([false],[],[])
def back (id:Nat):Sh->A->List Bool×A×List (Nat×Obj)
  | .cell u k,a=>((backCells id [(u,k)] [a] 0).1++[k.plain],(backCells id [(u,k)] [a] 0).2.1.getD 0 .undef,(backCells id [(u,k)] [a] 0).2.2)
  | .agg ks,a=>(Nat.ble ks.length 200::a.isAgg ks.length::(backCells (id+1) ks a.toCs 0).1,.agg (backCells (id+1) ks a.toCs 0).2.1,(backCells (id+1) ks a.toCs 0).2.2)
  | .box ks,a=>(Nat.ble ks.length 200::a.isBox ks.length::(backCells (id+1) ks a.toCs 0).1,.ptr id 0,(id,.box (backCells (id+1) ks a.toCs 0).2.1)::(backCells (id+1) ks a.toCs 0).2.2)
  | .map kt vt,a=>([a.isUmp kt vt],.own id,[(id,.mp a.toM)])
  | .clo f ks,a=>(Nat.ble ks.length 200::a.isCbx f ks.length::(backCells (id+1) ks a.toCs 0).1,.clo f id,(id,.box (backCells (id+1) ks a.toCs 0).2.1)::(backCells (id+1) ks a.toCs 0).2.2)
def backs (id stride:Nat):List Sh->List A->Nat->List Bool×List A×List (Nat×Obj)
  | [],_,_=>([],[],[])
  | s::ss,rs,j=>((back (id+stride*j) s (rs.getD j .undef)).1++(backs id stride ss rs (j+1)).1,(back (id+stride*j) s (rs.getD j .undef)).2.1::(backs id stride ss rs (j+1)).2.1,
     (back (id+stride*j) s (rs.getD j .undef)).2.2++(backs id stride ss rs (j+1)).2.2)
def backBox (rb:Nat):Sh->A->List Bool×Obj×List (Nat×Obj)
  | .box ks,a=>(a.isAgg ks.length::(backCells (rb+1) ks a.toCs 0).1,.box (backCells (rb+1) ks a.toCs 0).2.1,(backCells (rb+1) ks a.toCs 0).2.2)
  | .map kt vt,a=>([a.isUmp kt vt],.mp a.toM,[])
  | _,_=>([false],.box [],[])
def backBoxes (rb:Nat->Nat) (rs:List A):List (Nat×Sh)->Nat->List Bool×List (Nat×Obj)×List (Nat×Obj)
  | [],_=>([],[],[])
  | (o,s)::r,j=>((backBox (rb o) s (rs.getD j .undef)).1++(backBoxes rb rs r (j+1)).1,
      (o,(backBox (rb o) s (rs.getD j .undef)).2.1)::(backBoxes rb rs r (j+1)).2.1,(backBox (rb o) s (rs.getD j .undef)).2.2++(backBoxes rb rs r (j+1)).2.2)
def rowBase (fet:Fet) (o:Nat):Nat:=match box? fet o with
  | some cs=>bif cs.any (fun c=>c.ids1.any (fun i=>Nat.blt o i&&Nat.ble i (o+100)))then o+100 else o
  | none=>o
def nodup:List Nat->Bool
  | []=>true
  | n::r=> !(has r n)&&nodup r
def namesC (id:Nat):List (Bool×CK)->List A->List (Nat×Nat)
  | (true,.sl _ _)::ks,.own o::cs=>(o,id)::namesC (id+1) ks cs
  | (true,.sln _ _)::ks,.own o::cs=>(o,id)::namesC (id+1) ks cs
  | (true,.bx _)::ks,.ptr o _::cs=>(o,id)::namesC (id+1) ks cs
  | _::ks,_::cs=>namesC (id+1) ks cs
  | _,_=>[]
def namesA (fet:Fet) (id:Nat):Sh->A->List (Nat×Nat)
  | .cell u k,a=>namesC id [(u,k)] [a]
  | .agg ks,.agg cs=>namesC (id+1) ks cs
  | .box ks,.ptr o _=>(o,id)::(match box? fet o with | some cs=>namesC (id+1) ks cs | none=>[])
  | .map _ _,.own o=>[(o,id)]
  | .clo _ ks,.clo _ o=>(o,id)::(match box? fet o with | some cs=>namesC (id+1) ks cs | none=>[])
  | _,_=>[]
def namesAs (fet:Fet):Nat->Nat->List Sh->List A->List (Nat×Nat)
  | id,stride,s::ss,x::xs=>namesA fet id s x++namesAs fet (id+stride) stride ss xs
  | _,_,_,_=>[]
end Go.Proofs.YtbnphelpndnnfaaGreatDoor.Vm
namespace Go.Proofs.YtbnphelpndnnfaaGreatDoor.Vm
def tabI:Nat->Option (IntKind×List Int)
  | 0=>some (.i64,[31,28,31,30,31,30,31,31,30,31,30,31])
  | _=>none
def tabJ (j:Nat):Option (IntKind×List Int)->Option (Value->Prop)
  | some (k,ns)=>if j<ns.length then some (fun v=>v= .int k (ns.getD j 0))else none
  | none=>none
def tabP:Nat->Nat->Option (Value->Prop)
  | 1,0=>some (fun v=> ∃ m,v= .int .i64 m)
  | 2,j=>if j<20 then some (fun v=>v= .int .u64 ((10 ^ j:Nat):Int))else none
  | g,j=>tabJ j (tabI g)
def tabN:Nat->Option Nat
  | 2=>some 20
  | _=>none
def tabA:Option (IntKind×List Int)->A
  | some (k,ns)=>.elt (ns.map (.int k))
  | none=>.undef
theorem tabP_eq {g:Nat} {q:IntKind×List Int} (h:tabI g=some q) (j:Nat):tabP g j=tabJ j (some q):=by
  rw[<- h]
  unfold tabP
  split<;>first | rfl | (exfalso;cases h;done)
def evalA (tmps:List A):Operand->A
  | .tmp t=>tmps.getD t .undef
  | .const v=>ofConst v
  | .func f=>.fn (f+1)
  | .global g=>tabA (tabI g)
def b2 (d:Nat):Nat:=(d+128)*256
def optX {α :Type} (o:Option α) (k: α ->Dl):Dl:=match o with | some x=>k x | none=>.no
def tiOf (C:Ctx) (t:Nat) (k:TI->Dl):Dl:=optX (C.T t) k
def elem? :TypeDesc->Option Nat
  | .slice e=>some e
  | _=>none
def elemOf (C:Ctx) (t:Nat) (k:Nat->TI->Dl):Dl:=tiOf C t fun ti=>optX (elem? ti.d) fun e=>tiOf C e fun te=>k e te
structure Arr where
  e:Nat
  frz:Bool
  l:Sl
def arr? (fet:Fet) (o:Nat):Option Arr:=match aget fet o with | some (.arr e frz l)=>some ⟨e,frz,l⟩ | _=>none
def one? {α :Type}:List α ->Option α
  | [k]=>some k
  | _=>none
def isPtrK:List CK->Bool
  | [.ptr]=>true
  | _=>false
def loadF (ti:TI) (cs:List A) (off:Nat) (pre:List Bool):Dl :=
  bif ti.agg then .g (pre++(forces cs ti.cs off).1) (.agg (forces cs ti.cs off).2)
  else optX (one? ti.cs) fun k=>.g (pre++(force k (cs.getD off .undef)).1) (force k (cs.getD off .undef)).2
def isRow (ti:TI) (l:Sl) (i off:Nat):Bool:=Nat.blt 1 ti.cs.length&&Nat.beq l.sz 1&&Nat.beq off 0&&Nat.beq i 0
def rowCells (l:Sl) (n:Nat):List A:=(List.range n).map fun j=>(l.at j).getD 0 .undef
def fillAll (t:Ty) (cs:List A):Bool×List t.Val:=(cs.all (fun c=>(t.mk [c]).1),cs.map (fun c=>(t.mk [c]).2))
def loadX (C:Ctx) (fet:Fet) (t:Nat) (a:A):Dl :=
  tiOf C t fun ti=>match a with
  | .ptr o off=>optX (box? fet o) fun cs=>.g [Nat.ble (off+ti.cs.length) cs.length,Nat.blt 0 ti.cs.length] (partA ti cs off)
  | .elt cs=>loadF ti cs 0 [Nat.ble ti.cs.length cs.length]
  | .clo k o=>.g [Nat.beq k 0,isPtrK ti.cs,!ti.agg] (.ptr o 0)
  | .oelt o i off=>optX (arr? fet o) fun r=>bif isRow ti r.l i off then loadF ti (rowCells r.l ti.cs.length) 0 [Nat.ble ti.cs.length r.l.xs.length,true]else loadF ti (r.l.at i) off [Nat.ble (off+ti.cs.length) r.l.sz,decide (i<r.l.xs.length)]
  | _=>.no
def storeX (C:Ctx) (fet:Fet) (t:Nat) (a v:A):Dl :=
  tiOf C t fun ti=>match a with
  | .ptr o off=>optX (box? fet o) fun cs =>
      {ok:=[v.isVal,Nat.beq v.cells.length ti.cs.length,Nat.ble (off+ti.cs.length) cs.length,Nat.blt 0 ti.cs.length],val:=.undef,
       upd:=[(o,.box (splice cs off (adopt (rowBase fet o+1+off) ti.cs v.cells).1))],new:=(adopt (rowBase fet o+1+off) ti.cs v.cells).2}
  | .oelt o i off=>optX (arr? fet o) fun r=>bif isRow ti r.l i off then
      {ok:=(purs fet ti.cs v.cells).1++[!r.frz,(fillAll r.l.t (purs fet ti.cs v.cells).2.1).1,Nat.beq ti.cs.length r.l.xs.length,true,Nat.blt 0 ti.cs.length,!(has ((purs fet ti.cs v.cells).2.2.map (·.1)) o)],val:=.undef,
       upd:=(purs fet ti.cs v.cells).2.2++[(o,.arr r.e false ⟨r.l.t,(fillAll r.l.t (purs fet ti.cs v.cells).2.1).2⟩)]}else
      {ok:=(purs fet ti.cs v.cells).1++[!r.frz,(r.l.set i off (purs fet ti.cs v.cells).2.1).1,Nat.ble (off+ti.cs.length) r.l.sz,decide (i<r.l.xs.length),Nat.blt 0 ti.cs.length,!(has ((purs fet ti.cs v.cells).2.2.map (·.1)) o)],val:=.undef,
       upd:=(purs fet ti.cs v.cells).2.2++[(o,.arr r.e false (r.l.set i off (purs fet ti.cs v.cells).2.1).2)]}
  | _=>.no
def adK (C:Ctx) (d:Nat) (ti:TI):List CK:=bif has C.cuts d then []else ti.cs
def boxX (C:Ctx) (d:Nat) (t:Nat) (v:A):Dl :=
  tiOf C t fun ti=> {ok:=[v.isVal,Nat.beq v.cells.length ti.cs.length],val:=.ptr (b2 d) 0,new:=(b2 d,.box (adopt (b2 d+1) (adK C d ti) v.cells).1)::(adopt (b2 d+1) (adK C d ti) v.cells).2}
def addrX (off n:Nat) (fet:Fet):A->Dl
  | .ptr o p=>optX (box? fet o) fun cs=>.g [Nat.ble (p+off+n) cs.length] (.ptr o (p+off))
  | .elt cs=>.g [Nat.ble (off+n) cs.length] (.elt (cs.drop off))
  | .oelt o i p=>optX (arr? fet o) fun r=>.g [decide (i<r.l.xs.length)] (.oelt o i (p+off))
  | _=>.no
def arr2? :TypeDesc->Option (Nat×Nat)
  | .array n e=>some (n,e)
  | _=>none
def int? :A->Option Int
  | .int _ n=>some n
  | _=>none
def intK? :CK->Option IntKind
  | .int k=>some k
  | _=>none
def arrOf (C:Ctx) (t:Nat) (k:Nat->IntKind->Dl):Dl:=tiOf C t fun ti=>optX (arr2? ti.d) fun p=>tiOf C p.2 fun te=>bif te.agg then .no else optX (one? te.cs) fun c=>optX (intK? c) fun kk=>k p.1 kk
def nthI (cs:List A) (n:Int):Int:=(cs.map A.toI).getD n.toNat 0
def indexAddrX (C:Ctx) (fet:Fet) (t:Nat) (x:A) (i:A):Dl :=
  match x with
  | .oelt o i0 off0=>optX (int? i) fun n=>tiOf C t fun ti=>optX (arr2? ti.d) fun p=>tiOf C p.2 fun te=>optX (arr? fet o) fun r =>
      .g [Nat.beq i0 0,Nat.beq off0 0,Nat.beq r.l.sz te.cs.length,decide (0<=n),decide (n<(p.1:Int)),decide (n.toNat<r.l.xs.length)] (.oelt o n.toNat 0)
  | .elt cs=>optX (int? i) fun n=>arrOf C t fun m kk=>.g [cs.all (A.isI kk),Nat.beq cs.length m,decide (0<=n),decide (n<(m:Int))] (.elt [.int kk (nthI cs n)])
  | x =>
  optX (int? i) fun n=>elemOf C t fun _ te=>match x with
  | .own o=>optX (arr? fet o) fun r=>.g [Nat.beq r.l.sz te.cs.length,decide (0<=n),decide (n<r.l.xs.length)] (.oelt o n.toNat 0)
  | .sl l=>.g [Nat.beq l.sz te.cs.length,Nat.blt 0 l.sz,decide (0<=n),decide (n<l.xs.length)] (.elt (l.at n.toNat))
  | .bsl o k=>optX (box? fet o) fun cs=>.g [Nat.beq te.cs.length 1,decide (0<=n),Nat.blt n.toNat k,Nat.blt n.toNat cs.length] (.ptr o n.toNat)
  | _=>.no
def str? :A->Option (List UInt8)
  | .str s=>some s
  | _=>none
def indexX (C:Ctx) (t:Nat) (x i:A):Dl :=
  optX (int? i) fun n=>match x with
  | .agg cs=>arrOf C t fun m kk=>.g [cs.all (A.isI kk),Nat.beq cs.length m,decide (0<=n),decide (n<(m:Int))] (.int kk (nthI cs n))
  | x=>optX (str? x) fun s=>tiOf C t fun ti=>.g [isStrD ti.d,decide (0<=n),decide (n<s.length)] (.int .u8 ((s.getD n.toNat 0).toNat:Int))
def cut? (len:Nat):Option A->Option A->Option (List Bool×Nat×Nat)
  | none,none=>some ([],0,len)
  | some (.int _ a),none=>some ([decide (0<=a),decide (a<=len)],a.toNat,len)
  | none,some (.int _ b)=>some ([decide (0<=b),decide (b<=len)],0,b.toNat)
  | some (.int _ a),some (.int _ b)=>some ([decide (0<=a),decide (a<=b),decide (b<=len)],a.toNat,b.toNat)
  | _,_=>none
def cutL {α :Type} (l:List α) (a b:Nat):List α :=(l.take b).drop a
def sliceX (C:Ctx) (fet:Fet) (t:Nat) (x:A) (lo hi:Option A):Dl :=
  tiOf C t fun ti=>match x with
  | .str s=>optX (cut? s.length lo hi) fun r=>.g (isStrD ti.d::r.1) (.str (cutL s r.2.1 r.2.2))
  | .sl l=>optX (cut? l.xs.length lo hi) fun r=>optX (elem? ti.d) fun e=>tiOf C e fun te=>.g (Nat.beq l.sz te.cs.length::r.1) (.sl ⟨l.t,cutL l.xs r.2.1 r.2.2⟩)
  | .own o=>optX (arr? fet o) fun ro=>optX (cut? ro.l.xs.length lo hi) fun r=>optX (elem? ti.d) fun e=>tiOf C e fun te =>
      {ok:=Nat.beq ro.l.sz te.cs.length::r.1,val:=.sl ⟨ro.l.t,cutL ro.l.xs r.2.1 r.2.2⟩,upd:=bif ro.frz then []else [(o,.arr ro.e true ro.l)]}
  | _=>.no
def cutX (C:Ctx) (fet:Fet) (d t:Nat) (x hi:A):Dl :=
  tiOf C t fun ti=>match x with
  | .own o=>optX (arr? fet o) fun ro=>optX (cut? ro.l.xs.length none (some hi)) fun r=>optX (elem? ti.d) fun e=>tiOf C e fun te =>
      {ok:=Nat.beq ro.l.sz te.cs.length::r.1++[!ro.frz],val:=.own (b2 d),new:=[(b2 d,.arr ro.e false ⟨ro.l.t,cutL ro.l.xs r.2.1 r.2.2⟩)],del:=[o]}
  | _=>.no
def tailX (C:Ctx) (fet:Fet) (t:Nat) (x a:A):Dl :=
  tiOf C t fun ti=>match x with
  | .own o=>optX (arr? fet o) fun ro=>optX (int? a) fun n=>optX (elem? ti.d) fun e=>tiOf C e fun te=>.g [Nat.beq ro.l.sz te.cs.length,decide (0<=n),decide (n<(ro.l.xs.length:Int))] (.osl o n.toNat)
  | _=>.no
def putB (ys:List Int) (k:Nat) (s:List UInt8):List Int:=ys.take k++s.map (fun(b:UInt8)=>((b.toNat:Int)))++ys.drop (k+s.length)
def copyX (C:Ctx) (fet:Fet) (ts:List Nat) (x y:A):Dl :=
  match ts with
  | [t,_]=>elemOf C t fun _ te=>match x with
    | .osl o k=>optX (arr? fet o) fun r=>optX (r.l.cast byteT) fun ys=>optX (str? y) fun s =>
      {ok:=[isU8D te.d,Nat.beq te.cs.length 1,!r.frz,decide (0<s.length),decide (k+s.length<=ys.length)],val:=.int .i64 (s.length:Int),upd:=[(o,.arr r.e false ⟨byteT,putB ys k s⟩)]}
    | _=>.no
  | _=>.no
def mapOf (C:Ctx) (t:Nat) (k:TI->TI->Dl):Dl:=tiOf C t fun ti=>match ti.d with
  | .map a b=>tiOf C a fun ta=>tiOf C b fun tb=>k ta tb
  | _=>.no
def mp? (fet:Fet):A->Option (Nat×Mp)
  | .own o=>match aget fet o with
    | some (.mp l)=>some (o,l)
    | _=>none
  | _=>none
def keyOk (C:Ctx) (ta:TI):Bool:=match ta.d with
  | .string=>true
  | .int _=>true
  | .array n e=>match C.T e with
    | some te=>isStrD te.d&&Nat.blt 1 n
    | none=>false
  | _=>false
def oneOk (ti:TI):Bool:=ti.agg== !(Nat.beq ti.cs.length 1)
def isOf:A->Bool
  | .agg [_]=>false
  | _=>true
def fitsM (C:Ctx) (ta tb:TI) (l:Mp) (i:A):List Bool:=[keyOk C ta,oneOk tb,decide (l.kt=tyl ta.cs),decide (l.vt=tyl tb.cs),i.isVal,isOf i,(l.kt.mk i.cells).1]
def makeMapX (C:Ctx) (d t:Nat) (r:List A):Dl:=mapOf C t fun ta tb =>
  {ok:=[r.isEmpty],val:=.own (b2 d),new:=[(b2 d,.mp ⟨tyl ta.cs,tyl tb.cs,[]⟩)]}
def lookedX (l:Mp) (c:Bool) (r:Option l.vt.Val):A :=
  bif c then .tup [ofCs (l.vt.cells (r.getD l.vt.zero)),.bool r.isSome]else ofCs (l.vt.cells (r.getD l.vt.zero))
def lookupX (C:Ctx) (fet:Fet) (t:Nat) (c:Bool) (x i:A):Dl:=mapOf C t fun ta tb=>optX (mp? fet x) fun p =>
  .g (fitsM C ta tb p.2 i++[tb.cs.all CK.plain]) (lookedX p.2 c (mget p.2.kt (p.2.kt.mk i.cells).2 p.2.l))
def updateX (C:Ctx) (fet:Fet) (t:Nat) (x i v:A):Dl:=mapOf C t fun ta tb=>optX (mp? fet x) fun p =>
  {ok:=fitsM C ta tb p.2 i++[v.isVal,isOf v]++(purs fet tb.cs v.cells).1++[(p.2.vt.mk (purs fet tb.cs v.cells).2.1).1],val:=.undef,
   upd:=(purs fet tb.cs v.cells).2.2++[(p.1,.mp ⟨p.2.kt,p.2.vt,mput p.2.kt (p.2.kt.mk i.cells).2 (p.2.vt.mk (purs fet tb.cs v.cells).2.1).2 p.2.l⟩)]}
def deleteX (C:Ctx) (fet:Fet) (t:Nat) (x i:A):Dl:=mapOf C t fun ta tb=>optX (mp? fet x) fun p =>
  {ok:=fitsM C ta tb p.2 i,val:=.tup [],upd:=[(p.1,.mp ⟨p.2.kt,p.2.vt,mdel p.2.kt (p.2.kt.mk i.cells).2 p.2.l⟩)]}
def lenX (C:Ctx) (fet:Fet) (t:Nat) (x:A):Dl :=
  tiOf C t fun ti=>match ti.d with
  | .string=>optX (str? x) fun s=>.v (.int .i64 (s.length:Int))
  | .array n _=>.v (.int .i64 (n:Int))
  | .slice _=>match x with
    | .bsl o k=>optX (box? fet o) fun _=>.v (.int .i64 (k:Int))
    | x=>.g (rd fet x).1 (.int .i64 ((rd fet x).2.xs.length:Int))
  | .map _ _=>optX (mp? fet x) fun p=>.v (.int .i64 (p.2.l.length:Int))
  | _=>.no
def newsOf (fet:Fet) (t:Ty):A->List Bool×List t.Val
  | .str s=>match t with
    | .int .u8 .nil=>([],s.map (fun(b:UInt8)=>((b.toNat:Int))))
    | _=>([false],[])
  | y=>rdT fet t y
def appendX (C:Ctx) (fet:Fet) (d:Nat) (t:Nat) (x y:A):Dl :=
  elemOf C t fun e te=>match x with
  | .own o=>optX (arr? fet o) fun r =>
      {ok:=(newsOf fet r.l.t y).1++[Nat.beq e r.e,Nat.beq r.l.sz te.cs.length,Nat.blt 0 r.l.sz,decide ((r.l.xs.length+(newsOf fet r.l.t y).2.length)*(te.bytes+1)<=140737488355328)],
       val:=.own (b2 d),new:=[(b2 d,.arr r.e r.frz ⟨r.l.t,r.l.xs++(newsOf fet r.l.t y).2⟩)],del:=[o]}
  | .nils =>
      {ok:=(newsOf fet (tyl te.cs) y).1++[Nat.blt 0 te.cs.length,decide ((newsOf fet (tyl te.cs) y).2.length*(te.bytes+1)<=140737488355328)],
       val:=.own (b2 d),new:=[(b2 d,.arr e false ⟨tyl te.cs,(newsOf fet (tyl te.cs) y).2⟩)]}
  | _=>.no
def convertX (C:Ctx) (fet:Fet) (src dst:Nat) (x:A):Dl :=
  tiOf C src fun s=>tiOf C dst fun t=>match t.d,x with
  | .int k,.int _ n=>.v (.int k (k.wrap n))
  | .string,.str l=>.v (.str l)
  | .string,.int _ _=>.no
  | .string,x=>optX (elem? s.d) fun e=>tiOf C e fun te=>.g (isU8D te.d::((rdB fet x).1++[(rdB fet x).2.all isByte])) (.str ((rdB fet x).2.map byteOf))
  | _,_=>.no
def bytesX (C:Ctx) (d s t:Nat) (l:List UInt8):Dl:=tiOf C s fun _=>elemOf C t fun e te =>
  {ok:=[isU8D te.d,decide (l.length<=140737488355328)],val:=.own (b2 d),new:=[(b2 d,.arr e false ⟨byteT,l.map (fun(b:UInt8)=>((b.toNat:Int)))⟩)]}
def isSliceD:TypeDesc->Bool | .slice _=>true | _=>false
def convX (C:Ctx) (o:Oper) (fet:Fet) (s t:Nat) (x:A):Dl :=
  match x with
  | .str l=>tiOf C t fun tt=>bif isSliceD tt.d then optX o.dst fun d=>bytesX C d s t l else convertX C fet s t (.str l)
  | x=>convertX C fet s t x
def arrI? (C:Ctx) (t:Nat):Option (Nat×IntKind):=match C.T t with
  | some ti=>match arr2? ti.d with
    | some (n,e)=>match C.T e with
      | some te=>match te.cs with
        | [.int k]=>some (n,k)
        | _=>none
      | none=>none
    | none=>none
  | none=>none
def boxV (C:Ctx) (d t:Nat) (v:A):Dl:=match arrI? C t with
  | some (n,k)=>match v with
    | .agg cs=> {ok:=[cs.all (A.isI k),Nat.beq cs.length n,Nat.ble n 16777216],val:=.oelt (b2 d) 0 0,new:=[(b2 d,.arr t false ⟨.int k .nil,cs.map A.toI⟩)]}
    | _=>.no
  | none=>boxX C d t v
def allocX (C:Ctx) (d t:Nat):Dl:=tiOf C t fun ti=>match arr2? ti.d with
  | some (n,e)=>tiOf C e fun te=> {ok:=[te.cs.all CK.plain,Nat.blt 0 te.cs.length,Nat.blt 0 n,Nat.ble n 16777216,decide (ti.cs=(List.replicate n te.cs).flatten)],val:=.oelt (b2 d) 0 0,new:=[(b2 d,.arr t false ⟨tyl te.cs,List.replicate n (tyl te.cs).zero⟩)]}
  | none=>boxX C d t (.agg (ti.cs.map CK.zero))
def nilOf (fet:Fet) (s:Bool) (d:TypeDesc) (x:A):Option Bool :=
  match s,d,x with
  | true,.slice _,.nils=>some true
  | true,.slice _,.sln l=>some l.xs.isEmpty
  | false,.pointer _,.nilp=>some true
  | false,.pointer _,.ptr o _=>(box? fet o).map (fun _=>false)
  | _,_,_=>none
def nilX (C:Ctx) (fet:Fet) (s:Bool) (t:Nat) (x:A) (k:Bool->Dl):Dl:=tiOf C t fun ti=>optX (nilOf fet s ti.d x) k
def boolX (C:Ctx) (t:Nat) (r:Bool):Dl:=tiOf C t fun ti=>.g [isBoolD ti.d] (.bool r)
def binX (C:Ctx) (fet:Fet) (op:BinOp) (t:Nat) (x y:A):Dl :=
  match x,y with
  | .int k a,.int k' b=>match op with
    | .shl=>.g [decide (0<=b)] (.int k (k.wrap (a*2 ^ (min b.toNat k.bits))))
    | .shr=>.g [decide (0<=b)] (.int k (a.fdiv (2 ^ (min b.toNat k.bits))))
    | op=>bif A.kEq k k' then binI op k a b else .no
  | .str a,.str b=>binS op a b
  | .bool a,.bool b=>match op with
    | .eql=>boolX C t (a==b)
    | .neq=>boolX C t (!(a==b))
    | _=>.no
  | .agg x,.agg y=>tiOf C t fun ti=>match op with
    | .eql=>.g [!ti.cmp.isEmpty,(cellsEq ti.cmp x y).1] (.bool (cellsEq ti.cmp x y).2)
    | .neq=>.g [!ti.cmp.isEmpty,(cellsEq ti.cmp x y).1] (.bool (!(cellsEq ti.cmp x y).2))
    | _=>.no
  | x,.nils=>match op with
    | .eql=>nilX C fet true t x fun v=>.v (.bool v)
    | .neq=>nilX C fet true t x fun v=>.v (.bool (!v))
    | _=>.no
  | x,.nilp=>match op with
    | .eql=>nilX C fet false t x fun v=>.v (.bool v)
    | .neq=>nilX C fet false t x fun v=>.v (.bool (!v))
    | _=>.no
  | _,_=>.no
def unX:UnOp->A->Dl
  | .not,.bool b=>.v (.bool !b)
  | .neg,.int k n=>.v (.int k (k.wrap (0 - n)))
  | .xor,.int k n=>.v (.int k (bitsI .xor k (if k.signed then -1 else k.max) n))
  | _,_=>.no
def pickX (c a b:A):Dl:=.g [c.stripB.1,c.stripB.2.isB,(bif c.stripB.2.toB then a.stripB.1 else b.stripB.1),(bif c.stripB.2.toB then a.stripB.2.isB else b.stripB.2.isB)] (.bool (bif c.stripB.2.toB then a.stripB.2.toB else b.stripB.2.toB))
def makeX (C:Ctx) (d:Nat) (t:Nat) (l c:A):Dl :=
  optX (int? l) fun n=>optX (int? c) fun m=>elemOf C t fun e te =>
      {ok:=[decide (n<=m),decide (0<=n),decide (m*(te.bytes+1)<=140737488355328),Nat.blt 0 te.cs.length,te.cs.all CK.plain],val:=.own (b2 d),
       new:=[(b2 d,.arr e false ⟨tyl te.cs,List.replicate n.toNat (tyl te.cs).zero⟩)]}
def buildX (C:Ctx) (t:Nat) (ps:List (Nat×A)):Dl:=tiOf C t fun ti=>optX (fill C ti.d ps (ti.cs.map CK.zero)) fun cs=>.g [ti.agg] (.agg cs)
def buildSliceX (C:Ctx) (fet:Fet) (d t n:Nat) (ps:List (Nat×A)):Dl:=elemOf C t fun e te =>
  {ok:=(fillRow fet te (tyl te.cs) ps (List.replicate n (tyl te.cs).zero)).1++[Nat.ble (n*te.cs.length) 16777216,Nat.blt 0 te.cs.length,te.cs.all CK.plain],val:=.own (b2 d),
   new:=[(b2 d,.arr e false ⟨tyl te.cs,(fillRow fet te (tyl te.cs) ps (List.replicate n (tyl te.cs).zero)).2.1⟩)],upd:=(fillRow fet te (tyl te.cs) ps (List.replicate n (tyl te.cs).zero)).2.2}
def bslX (C:Ctx) (d t n:Nat) (ps:List (Nat×A)):Dl:=elemOf C t fun e te=>optX (fill C (.array n e) ps (List.replicate n .nilp)) fun cs =>
  {ok:=[isPtrK te.cs,Nat.ble n 16777216,Nat.blt 0 n,ps.all fun p=>p.2.isVal&& !p.2.isAgg 0],val:=.bsl (b2 d) n,new:=(b2 d,.box (adopt (b2 d+1) [] cs).1)::(adopt (b2 d+1) [] cs).2}
def isPtrs:List (Nat×A)->Bool
  | (_,.ptr _ _)::_=>true
  | _=>false
def fieldAddrX (C:Ctx) (fet:Fet) (t f:Nat) (x:A):Dl :=
  tiOf C t fun ti=>optX (placeS C ti.d f) fun p=>match addrX p.1 p.2.cs.length fet x with
  | δ => {δ with ok:=Nat.blt 0 p.2.cs.length:: δ.ok}
def agg? :A->Option (List A)
  | .agg cs=>some cs
  | _=>none
def fieldX (C:Ctx) (t f:Nat) (x:A):Dl :=
  tiOf C t fun ti=>optX (placeS C ti.d f) fun p=>optX (agg? x) fun cs=>.g [Nat.ble (p.1+p.2.cs.length) cs.length,Nat.blt 0 p.2.cs.length] (partA p.2 cs p.1)
def tup? :A->Option (List A)
  | .tup vs=>some vs
  | _=>none
def extractX (i:Nat) (x:A):Dl:=optX (tup? x) fun vs=>.g [Nat.blt i vs.length] (vs.getD i .undef)
def nilCheckX (fet:Fet):A->Dl
  | .ptr o off=>optX (box? fet o) fun _=>.v (.ptr o off)
  | _=>.no
structure Hand where
  ok:List Bool
  vs:List A
  upd:List (Nat×Obj)
  del:List Nat
  boxes:List (Nat×Sh)
def tupOf:List A->A
  | [v]=>v
  | vs=>.tup vs
def callD (rb:Nat->Nat) (d:Nat) (sg:Sig) (N:List (Nat×Nat)) (n:Nat) (h:Hand) (ok:Bool) (rs:List A):Dl :=
  ⟨h.ok++[ok]++(backs (b2 d) 16 sg.ress rs 0).1++(backBoxes rb (rs.drop sg.ress.length) h.boxes 0).1++[nodup (N.map (·.1)),Nat.ble n 100,Nat.beq rs.length (sg.ress.length+h.boxes.length),!(sg.pars.any wS)||h.upd.isEmpty],
    tupOf (backs (b2 d) 16 sg.ress rs 0).2.1,
    (backs (b2 d) 16 sg.ress rs 0).2.2++(backBoxes rb (rs.drop sg.ress.length) h.boxes 0).2.2,
    h.upd++(backBoxes rb (rs.drop sg.ress.length) h.boxes 0).2.1,h.del,[]⟩
def handOf (fet:Fet) (ss:List Sh) (xs:List A):Hand:=⟨(handArgs fet ss xs).1,(handArgs fet ss xs).2.1,(handArgs fet ss xs).2.2.1,(handArgs fet ss xs).2.2.2.1,(handArgs fet ss xs).2.2.2.2⟩
def callS (fet:Fet) (d:Nat) (sg:Sig) (args:List A):Dl:=callD (rowBase fet) d sg (namesAs fet 0 256 sg.pars args) args.length (handOf fet sg.pars args) (sg.ok (handOf fet sg.pars args).vs) (sg.val (handOf fet sg.pars args).vs)
def lenOk (n:Nat):Obj->Bool | .box cs=>Nat.beq cs.length n | _=>false
def setU (j:Nat) (c:A):Obj->Obj | .box cs=>.box (cs.set j c) | x=>x
def eqC:A->A->Bool | .str a,.str b=>a==b | .int k a,.int k' b=>A.kEq k k'&&a==b | .bool a,.bool b=>a==b | _,_=>false
def eqU (j:Nat) (c:A):Obj->Bool | .box cs=>eqC (cs.getD j .undef) c | _=>false
def keep1 (fet:Fet) (a:A) (j:Nat) (δ :Dl):Dl:=match a with
  | .ptr q _=>match box? fet q with
    | some cs=>bif Nat.blt j cs.length&& δ.upd.all (fun p=> !(Nat.beq p.1 q)||lenOk cs.length p.2)
      then {δ with ok:= δ.ok++ δ.upd.map (fun p=>bif Nat.beq p.1 q then eqU j (cs.getD j .undef) p.2 else true),upd:= δ.upd.map (fun p=>bif Nat.beq p.1 q then(p.1,setU j (cs.getD j .undef) p.2)else p),same:=(q,j):: δ.same}
      else δ
    | none=> δ
  | _=> δ
def keepD (fet:Fet) (args:List A):List (Nat×Nat)->Dl->Dl
  | [],δ => δ
  | (i,j)::r,δ =>keepD fet args r (keep1 fet (args.getD i .undef) j δ)
def callX (C:Ctx) (fet:Fet) (d:Nat) (f:Nat) (args:List A):Dl :=
  match C.G f with
  | some sg=>keepD fet args (C.kept f) (callS fet d sg args)
  | none=>.no
def dynX (C:Ctx) (fet:Fet) (d t:Nat) (c:A) (args:List A):Dl :=
  match c with
  | .fn n=>match C.dyn t with
    | some sg=>callS fet d (sg n) args
    | none=>.no
  | .clo f o=>optX (box? fet o) fun _=>match C.dyn t with
    | some sg=>callS fet d (sg f) (args++[.clo 0 o])
    | none=>.no
  | _=>.no
def ptr0? :List A->Option Nat
  | [.ptr o 0]=>some o
  | _=>none
def cloX (fet:Fet) (f:Nat):A->Dl
  | .ptr q off=>optX (box? fet q) fun cs=>optX (ptr0? cs) fun o=> {ok:=[Nat.beq off 0],val:=.clo (f+1) o,del:=[q]}
  | _=>.no
def a0 (k:Dl):List A->Dl
  | []=>k
  | _=>.no
def a1 (k:A->Dl):List A->Dl
  | [a]=>k a
  | _=>.no
def a2 (k:A->A->Dl):List A->Dl
  | [a,b]=>k a b
  | _=>.no
def a3 (k:A->A->A->Dl):List A->Dl
  | [a,b,c]=>k a b c
  | _=>.no
def appX (C:Ctx) (o:Oper) (fet:Fet) (ts:List Nat) (x y:A):Dl :=
  match ts with
  | [t,u]=>tiOf C u fun tu=>optX o.dst fun d=>match appendX C fet d t x y with
    | δ => {δ with ok:=isSlStr tu.d:: δ.ok}
  | _=>.no
def slX (C:Ctx) (dst:Option Nat) (fet:Fet) (t:Nat) (lo hi mx:Option Operand):List A->Dl :=
  match mx,lo,hi with
  | none,none,none=>a1 fun x=>sliceX C fet t x none none
  | none,some _,none=>a2 fun x a=>match dst with
    | some d=>bif has C.cuts d then tailX C fet t x a else sliceX C fet t x (some a) none
    | none=>sliceX C fet t x (some a) none
  | none,none,some _=>a2 fun x b=>match dst with
    | some d=>bif has C.cuts d then cutX C fet d t x b else sliceX C fet t x none (some b)
    | none=>sliceX C fet t x none (some b)
  | none,some _,some _=>a3 fun x a b=>sliceX C fet t x (some a) (some b)
  | _,_,_=>fun _=>.no
def minX:A->A->Dl
  | .int k a,.int k' b=>bif A.kEq k k' then .v (.int k (bif decide (b<a)then b else a))else .no
  | _,_=>.no
def maxX:A->A->Dl
  | .int k a,.int k' b=>bif A.kEq k k' then .v (.int k (bif decide (a<b)then b else a))else .no
  | _,_=>.no
def blX (C:Ctx) (o:Oper) (fet:Fet) (ts:List Nat):Builtin->List A->Dl
  | .len=>a1 fun x=>optX (one? ts) fun t=>lenX C fet t x
  | .append=>a2 fun x y=>appX C o fet ts x y
  | .min=>a2 minX
  | .max=>a2 maxX
  | .copy=>a2 fun x y=>copyX C fet ts x y
  | .delete=>a2 fun x y=>match ts with
    | t::_=>deleteX C fet t x y
    | []=>.no
  | _=>fun _=>.no
def opX (C:Ctx) (o:Oper) (v:List A) (fet:Fet):Dl :=
  match o.op with
  | .move _=>a1 (fun a=>.v a) v
  | .assign _=>a1 (fun a=>.v a) v
  | .pick _ _ _=>a3 (fun c a b=>pickX c a b) v
  | .alloc t=>a0 (optX o.dst fun d=>allocX C d t) v
  | .box t _=>a1 (fun a=>optX o.dst fun d=>boxV C d t a) v
  | .build t ps=>buildX C t ((ps.toList.map (·.1)).zip v)
  | .buildSlice t n ps=>optX o.dst fun d=>bif isPtrs ((ps.toList.map (·.1)).zip v)then bslX C d t n ((ps.toList.map (·.1)).zip v)else buildSliceX C fet d t n ((ps.toList.map (·.1)).zip v)
  | .load t _=>a1 (loadX C fet t) v
  | .store t _ _=>a2 (fun a x=>bif o.dst.isNone then storeX C fet t a x else .no) v
  | .nilCheck _=>a1 (nilCheckX fet) v
  | .binOp op t _ _ _=>a2 (binX C fet op t) v
  | .unOp op _ _=>a1 (unX op) v
  | .convert s t _=>a1 (convX C o fet s t) v
  | .makeSlice t _ _=>a2 (fun l c=>optX o.dst fun d=>makeX C d t l c) v
  | .slice t _ lo hi mx=>slX C o.dst fet t lo hi mx v
  | .fieldAddr t _ f=>a1 (fieldAddrX C fet t f) v
  | .field t _ f=>a1 (fieldX C t f) v
  | .indexAddr t _ _=>a2 (indexAddrX C fet t) v
  | .index t _ _=>a2 (indexX C t) v
  | .extract _ i=>a1 (extractX i) v
  | .makeFunc (.func f) fi _=>bif fi.isEmpty then a1 (cloX fet f) v else .no
  | .makeMap t _=>optX o.dst fun d=>makeMapX C d t v
  | .lookup t _ _ c=>a2 (lookupX C fet t c) v
  | .mapUpdate t _ _ _=>a3 (fun m i x=>bif o.dst.isNone then updateX C fet t m i x else .no) v
  | .insert t _ _ _=>a3 (fun m i x=>bif o.dst.isNone then updateX C fet t m i x else .no) v
  | .call ⟨.builtin b,_,ts⟩=>blX C o fet ts.toList b v
  | .call ⟨.value (.func f),_,_⟩=>match v with
    | _::vs=>callX C fet (o.dst.getD 0) f vs
    | []=>.no
  | .call ⟨.value (.tmp t),_,_⟩=>match v with
    | c::vs=>dynX C fet (o.dst.getD 0) t c vs
    | []=>.no
  | _=>.no
def fetch (objs:List (Nat×Obj)):List Nat->Fet
  | []=>[]
  | n::r=>match aget objs n with
    | some x=>(n,x)::fetch objs r
    | none=>fetch objs r
def fetchAll (st:St) (vs:List A):Fet :=
  let f1:=fetch st.objs (vs.flatMap A.ids)
  f1++fetch st.objs (f1.flatMap (fun p=>p.2.ids))
def delAll (objs:List (Nat×Obj)):List Nat->List (Nat×Obj)
  | []=>objs
  | n::r=>delAll (adel objs n) r
def setAll (objs:List (Nat×Obj)):List (Nat×Obj)->List (Nat×Obj)
  | []=>objs
  | (n,x)::r=>setAll (aset objs n x) r
def put (tmps:List A):Option Tmp->A->List A
  | some d,v=>tmps.set d v
  | none,_=>tmps
def apply (st:St) (o:Oper) (δ :Dl):St :=
  {tmps:=put st.tmps o.dst δ.val,objs:=setAll (delAll (setAll st.objs δ.upd) δ.del) δ.new}
def strips:List A->List Bool×List A
  | []=>([],[])
  | a::r=>(a.strip.1++(strips r).1,a.strip.2::(strips r).2)
def guardOf (ops:List Oper) (tmps:List A):Option (Nat×Bool)->Option (Option Bool)
  | none=>some none
  | some (j,want)=>match ops[j]? with
    | some oj=>match oj.dst with
      | some t=>match (tmps.getD t .undef)with
        | .bool b=>some (some (bif want then b else !b))
        | .cnd g (.bool b)=>some (some (g&&(bif want then b else !b)))
        | _=>none
      | none=>none
    | none=>none
def strongOp:Op->Bool
  | .move _=>true
  | .assign _=>true
  | .binOp _ _ _ _ _=>true
  | _=>false
def stripsFor:Op->List A->List Bool×List A
  | .pick _ _ _,vs=>([],vs)
  | op,vs=>((strips vs).1,bif strongOp op then(strips vs).2 else(strips vs).2.map A.weak)
def mergeA (g:Bool):A->A->A
  | .bool x,.bool y=>.bool (bif g then y else x)
  | .int k x,.int _ y=>.int k (bif g then y else x)
  | .str x,.str y=>.str (bif g then y else x)
  | .sl l,.sl l'=>match l'.cast l.t with
    | some ys=>.sl ⟨l.t,bif g then ys else l.xs⟩
    | none=>.undef
  | .sln l,.sln l'=>match l'.cast l.t with
    | some ys=>.sln ⟨l.t,bif g then ys else l.xs⟩
    | none=>.undef
  | a,_=>a
def mergeAOk:A->A->Bool
  | .bool _,.bool _=>true
  | .int k _,.int k' _=>A.kEq k k'
  | .str _,.str _=>true
  | .sl l,.sl l'=>(l'.cast l.t).isSome
  | .sln l,.sln l'=>(l'.cast l.t).isSome
  | .own o,.own o'=>Nat.beq o o'
  | .nilp,.nilp=>true
  | .undef,.undef=>true
  | _,_=>false
def zipM (g:Bool):List A->List A->List A
  | a::aa,b::bs=>mergeA g a b::zipM g aa bs
  | _,_=>[]
def okM:List A->List A->Bool
  | [],[]=>true
  | a::aa,b::bs=>mergeAOk a b&&okM aa bs
  | _,_=>false
def mergeO (g:Bool):Option Obj->Obj->Obj
  | some (.box cs),.box ds=>.box (zipM g cs ds)
  | some (.arr e _ l),.arr _ true _=>.arr e true l
  | _,x=>x
def mergeOOk (c:Bool):Option Obj->Obj->Bool
  | some (.box cs),.box ds=>okM cs ds
  | some (.arr e _ _),.arr e' true _=>c&&Nat.beq e e'
  | _,_=>false
def closesOnly:Op->Bool
  | .call ⟨.value (.func _),_,_⟩=>true
  | .call ⟨.value (.tmp _),_,_⟩=>true
  | .slice _ _ _ _ _=>true
  | _=>false
def isCallF:Op->Bool
  | .call ⟨.value (.func _),_,_⟩=>true
  | _=>false
def plainX (C:Ctx) (o:Oper) (st:St) (pre:List Bool):Dl :=
  match stripsFor o.op (o.op.operands.toList.map (evalA st.tmps))with
    | (ok,vs)=>match opX C o vs (fetchAll st vs)with
      | δ => {δ with ok:=pre++(ok++ δ.ok++[δ.new.all (fun p=>st.fresh p.1),nodup (δ.new.map (·.1))]),same:=bif isCallF o.op then δ.same else []}
def decOf (C:Ctx) (o:Oper):Option Bool:=match o.dst with
  | some d=>C.dec d
  | none=>none
def stepX (C:Ctx) (ops:List Oper) (o:Oper) (st:St):Dl :=
  match guardOf ops st.tmps o.guard with
  | some none=>plainX C o st []
  | some (some g)=>match decOf C o with
    | some true=>plainX C o st [g]
    | some false=> {ok:=[!g],val:=.cnd false .undef}
    | none=>match stripsFor o.op (o.op.operands.toList.map (evalA st.tmps))with
    | (ok,vs)=>match opX C o vs (fetchAll st vs)with
      | δ => {ok:=(ok++(δ.val.isVal:: δ.ok)).map (fun c=>c|| !g)++(δ.new.isEmpty:: δ.del.isEmpty::o.dst.isSome:: δ.upd.map (fun p=>mergeOOk (closesOnly o.op) (aget (fetchAll st vs) p.1) p.2)),val:=.cnd g δ.val,
              upd:= δ.upd.map (fun p=>(p.1,mergeO g (aget (fetchAll st vs) p.1) p.2))}
  | none=>.no
def allT {α :Type}:List Bool->Option α ->Option α
  | [],r=>r
  | c::cs,r=>bif c then allT cs r else none
def opsX {α :Type} (C:Ctx) (ops:List Oper):List Oper->St->(St->Option α)->Option α
  | [],st,K=>K st
  | o::r,st,K=>match stepX C ops o st with
    | δ =>allT δ.ok (opsX C ops r (apply st o δ) K)
def altOf (C:Ctx) (o:Oper):Option (Nat×Alt) :=
  match o.guard,o.op with
  | none,.call ⟨.value (.func f),_,_⟩=>(C.alt f).map (fun q=>(f,q))
  | _,_=>none
def altB (o:Oper) (st:St) (q:Alt):Bool :=
  match (stripsFor o.op (o.op.operands.toList.map (evalA st.tmps))).2 with
  | v::xs=>q.2.2 (handOf (fetchAll st (v::xs)) q.1.pars xs).vs
  | []=>true
def opsA {α :Type} (C:Ctx) (ops:List Oper):List Oper->St->(St->Option α)->Option α
  | [],st,K=>K st
  | o::r,st,K=>match altOf C o with
    | none=>allT (stepX C ops o st).ok (opsA C ops r (apply st o (stepX C ops o st)) K)
    | some (f,q)=>bif altB o st q then allT (stepX (C.put f q.1) ops o st).ok (opsA C ops r (apply st o (stepX (C.put f q.1) ops o st)) K)
      else allT (stepX (C.put f q.2.1) ops o st).ok (opsA C ops r (apply st o (stepX (C.put f q.2.1) ops o st)) K)
abbrev Bs:=List UInt8
def chk {ρ :Type} (c:Bool) (k:Option ρ):Option ρ :=bif c then k else none
def callO {α ρ :Type} [Inhabited α] (o:Option α) (k: α ->Option ρ):Option ρ :=bif o.isSome then k (o.getD default)else none
def iterG {X Y ρ :Type} (B:X->(X->Option ρ)->(Y->Option ρ)->Option ρ):Nat->X->(Y->Option ρ)->Option ρ
  | 0,_,_=>none
  | n+1,x,kx=>B x (fun x'=>iterG B n x' kx) kx
def vsOf (o:Oper) (st:St):List A:=(stripsFor o.op (o.op.operands.toList.map (evalA st.tmps))).2
def asksNot:Op->List A->Bool
  | .move _,_=>true
  | .assign _,_=>true
  | .load _ _,[.clo _ _]=>true
  | _,_=>false
def asksOne:Op->List A->Option Nat
  | .nilCheck _,[.ptr o _]=>some o
  | .fieldAddr _ _ _,[.ptr o _]=>some o
  | .load _ _,[.ptr o _]=>some o
  | _,_=>none
def askedOf (o:Oper) (st:St) (vs:List A):List Nat:=bif asksNot o.op vs then []else match asksOne o.op vs with
  | some q=>[q]
  | none=>vs.flatMap A.ids++(fetch st.objs (vs.flatMap A.ids)).flatMap (fun p=>p.2.ids)
def oneOf (C:Ctx):Op->List A->Option (Nat×Nat×Nat)
  | .nilCheck _,[.ptr o _]=>some (o,0,0)
  | .fieldAddr _ _ _,[.ptr o _]=>some (o,0,0)
  | .load t _,[.ptr o off]=>match C.T t with
    | some ti=>bif Nat.blt 0 ti.cs.length then some (o,off,ti.cs.length)else none
    | none=>none
  | _,_=>none
structure Foot where
  o:Oper
  δ :Dl
  rd:List Nat
  one:Option (Nat×Nat×Nat)
  anc:List Nat
def Foot.news (x:Foot):List Nat:=x.δ.new.map (·.1)
def Foot.keys (x:Foot):List Nat:=x.δ.upd.map (·.1)++x.δ.del++x.news
def Foot.says (x:Foot):List Nat:=x.δ.val.ids++x.δ.upd.flatMap (fun p=>p.2.ids)++x.δ.new.flatMap (fun p=>p.2.ids)
def disj (a b:List Nat):Bool:=a.all (fun n=> !(has b n))
def slotsOf (ops:List Oper) (o:Oper):List Nat :=
  (o.op.operands.toList.filterMap fun | .tmp t=>some t | _=>none) ++
  (match o.guard with
   | some (g,_)=>match ops[g]? with
     | some x=>match x.dst with | some t=>[t] | none=>[]
     | none=>[]
   | none=>[])
def dstOf (o:Oper):List Nat:=match o.dst with | some d=>[d] | none=>[]
def calm (x y:Foot):Bool:=match x.one with
  | none=>false
  | some (q,off,n)=> !(has x.keys q)&&(!(has y.δ.del q)&&(!(has y.news q)&&(y.δ.same.any (fun e=>Nat.beq e.1 q)&&(List.range n).all (fun k=>y.δ.same.any (fun e=>Nat.beq e.1 q&&Nat.beq e.2 (off+k))))))
def indep (ops:List Oper) (x y:Foot):Bool :=
  disj (dstOf x.o) (dstOf y.o)&&disj (dstOf x.o) (slotsOf ops y.o)&&disj (dstOf y.o) (slotsOf ops x.o) &&
  disj x.keys y.rd&&(disj y.keys x.rd||calm x y)&&disj x.keys y.keys&&disj x.news y.says
def pairOk (ops:List Oper) (i:Nat) (x y:Foot):Bool:=disj y.news x.says&&disj y.news x.keys&&(has y.anc i||indep ops x y)
def edges (o:Oper):List Nat:=o.after.toList.filterMap fun e=>bif Region.binds .any e then some e.on else none
def foots (C:Ctx) (ops:List Oper):List Oper->List (List Nat)->St->List Foot
  | [],_,_=>[]
  | o::r,acc,st=>match stepX C ops o st,(edges o).flatMap (fun e=>e::acc.getD e [])with
    | δ,an=>⟨o,δ,askedOf o st (vsOf o st),oneOf C o.op (vsOf o st),an⟩::foots C ops r (acc++[an]) (apply st o δ)
def pairsOk (ops:List Oper):Nat->List Foot->Bool
  | _,[]=>true
  | i,x::r=>r.all (pairOk ops i x)&&pairsOk ops (i+1) r
def backward:Nat->List Oper->Bool
  | _,[]=>true
  | i,o::r=>o.after.toList.all (fun e=>Nat.blt e.on i)&&backward (i+1) r
def backwardA:Nat->List Oper->Bool
  | _,[]=>true
  | i,o::r=>o.after.toList.all (fun e=> !(Region.binds .any e)||Nat.blt e.on i)&&backwardA (i+1) r
def ranks (md:Region.Mode) (ops:List Oper):Nat->List Nat->List Nat
  | 0,r=>r
  | n+1,r=>ranks md ops n (ops.map fun o=>o.after.toList.foldl (fun m e=>bif Region.binds md e then(bif Nat.ble m (r.getD e.on 0)then r.getD e.on 0+1 else m)else m) 0)
def rankedBy (md:Region.Mode) (n:Nat) (rk:List Nat):Nat->List Oper->Bool
  | _,[]=>true
  | i,o::r=>o.after.toList.all (fun e=> !(Region.binds md e)||(Nat.blt e.on n&&Nat.blt (rk.getD e.on 0) (rk.getD i 0)))&&rankedBy md n rk (i+1) r
def ranked (md:Region.Mode) (ops:List Oper):Bool:=rankedBy md ops.length (ranks md ops ops.length (ops.map fun _=>0)) 0 ops
def ordered (ops:List Oper):Bool:=backwardA 0 ops&&(backward 0 ops||(ranked .text ops&&ranked .gc ops&&ranked .any ops))
def sorted:List (Nat×Obj)->Bool
  | []=>true
  | [_]=>true
  | (n,_)::(k,y)::r=>Nat.blt n k&&sorted ((k,y)::r)
def drawOk (C:Ctx) (ops:List Oper) (st:St):Bool :=
  match foots C ops ops [] st with
  | fs=>ordered ops&&pairsOk ops 0 fs&&(fs.flatMap Foot.news).all st.fresh&&sorted st.objs
def renA (f t:Nat):A->A
  | .ptr o off=>.ptr (bif Nat.beq o f then t else o) off
  | .own o=>.own (bif Nat.beq o f then t else o)
  | .clo g o=>.clo g (bif Nat.beq o f then t else o)
  | .bsl o n=>.bsl (bif Nat.beq o f then t else o) n
  | .osl o n=>.osl (bif Nat.beq o f then t else o) n
  | .oelt o i off=>.oelt (bif Nat.beq o f then t else o) i off
  | .agg cs=>.agg (cs.map fun
    | .ptr o off=>.ptr (bif Nat.beq o f then t else o) off
    | .own o=>.own (bif Nat.beq o f then t else o)
    | .clo g o=>.clo g (bif Nat.beq o f then t else o)
    | .bsl o n=>.bsl (bif Nat.beq o f then t else o) n
    | .osl o n=>.osl (bif Nat.beq o f then t else o) n
    | .oelt o i off=>.oelt (bif Nat.beq o f then t else o) i off
    | c=>c)
  | a=>a
def renO (f t:Nat):Obj->Obj
  | .box cs=>.box (cs.map (renA f t))
  | x=>x
def drop (keep:List Nat):List A->Nat->List A
  | [],_=>[]
  | a::r,i=>(bif has keep i then a else .undef)::drop keep r (i+1)
def rens (st:St):List (Nat×Nat)->Bool×St
  | []=>(true,st)
  | (f,t)::r=>match aget st.objs f with
    | some x=>match rens {tmps:=st.tmps.map (renA f t),objs:=(aset (adel st.objs f) t x).map (fun p=>(p.1,renO f t p.2))} r with
      | (ok,st')=>((bif Nat.beq f t then true else st.fresh t)&&ok,st')
    | none=>rens st r
def frzs (objs:List (Nat×Obj)):List Nat->List (Nat×Obj)
  | []=>objs
  | n::r=>match aget objs n with
    | some (.arr e _ l)=>frzs (aset objs n (.arr e true l)) r
    | _=>frzs objs r
def reachN:Nat->List (Nat×Obj)->List Nat->List Nat
  | 0,_,l=>l
  | n+1,objs,l=>l++reachN n objs ((fetch objs l).flatMap (fun p=>p.2.ids))
def reached (tmps:List A) (objs:List (Nat×Obj)):List Nat:=reachN 4 objs (tmps.flatMap A.ids++(objs.map (·.1)).filter rootId)
def isNils:A->Bool | .nils=>true | _=>false
def setOwn (id:Nat):List Nat->List A->List A
  | [],l=>l
  | t::r,l=>setOwn id r (l.set t (.own id))
def owns:List (List Nat×Nat×Ty×Nat)->St->Bool×St
  | [],st=>(true,st)
  | (ts,e,ty,id)::r,st=>bif ts.any (fun t=>isNils (st.tmps.getD t .undef))then
      match owns r {tmps:=setOwn id ts st.tmps,objs:=aset st.objs id (.arr e false ⟨ty,[]⟩)}with
      | (ok,st')=>(ts.all (fun t=>isNils (st.tmps.getD t .undef)&&Nat.blt t st.tmps.length)&&st.fresh id&&ok,st')
    else owns r st
def pzs:List (Option Nat×Nat×Ty)->St->St
  | [],st=>st
  | (none,t,ty)::r,st=>match st.tmps.getD t .undef with
    | .nils=>pzs r {st with tmps:=st.tmps.set t (.sl ⟨ty,[]⟩)}
    | .own o=>match aget st.objs o with
      | some (.arr e _ l)=>pzs r {tmps:=st.tmps.set t (.sl l),objs:=aset st.objs o (.arr e true l)}
      | _=>pzs r st
    | _=>pzs r st
  | (some b,j,_)::r,st=>match aget st.objs b with
    | some (.box cs)=>match cs.getD j .undef with
      | .own o=>match aget st.objs o with
        | some (.arr e _ l)=>pzs r {st with objs:=aset (aset st.objs o (.arr e true l)) b (.box (cs.set j (.sl l)))}
        | _=>pzs r st
      | _=>pzs r st
    | _=>pzs r st
def norm (C:Ctx) (key:Nat) (st0:St):Bool×St :=
  match C.nrm key with
  | none=>(true,st0)
  | some n =>
    match pzs n.pz st0 with
    | st=>match rens {tmps:=drop n.keep st.tmps 0,objs:=st.objs.filter (fun p=>has (reached (drop n.keep st.tmps 0) st.objs) p.1)} n.ren with
      | (ok,st')=>match owns n.nw st' with
        | (ok',st'')=>(ok&&ok',{st'' with objs:=frzs st''.objs n.frz})
inductive Ex where
  | normal
  | exit (id:Nat)
def firstRegion:Code->Option Nat
  | .region id _ _=>some id
  | .seq a b=>match firstRegion a with | some n=>some n | none=>(firstRegion b).map (· +4096)
  | .cond _ a b=>match firstRegion a with | some n=>some n | none=>firstRegion b
  | .block _ c=>firstRegion c
  | .loop c=>firstRegion c
  | .scope c=>firstRegion c
  | _=>none
def meetAt {ρ :Type} (C:Ctx) (key:Nat) (st:St) (K:St->Option ρ):Option ρ :=
  match norm C key st with
  | (ok,st')=>bif ok then K st' else none
def meet {ρ :Type} (C:Ctx) (kind:Nat) (c:Code) (st:St) (K:St->Option ρ):Option ρ :=
  match firstRegion c with
  | some n=>meetAt C (4*n+kind) st K
  | none=>K st
def rounds {ρ :Type} (head:St->(St->Option ρ)->Option ρ) (body:St->(Ex->St->Option ρ)->Option ρ):Nat->St->(Ex->St->Option ρ)->Option ρ
  | 0,_,_=>none
  | n+1,st,K=>body st fun
    | .normal,st'=>head st' fun st''=>rounds head body n st'' K
    | .exit id,st'=>K (.exit id) st'
def tall:Nat:=(fun(_:Option Nat)=>0) (iterG (X:=Nat) (Y:=Nat) (fun _ _ _=>none) 0 0 (fun _=>none))
def peek (C:Ctx) (ops:List Oper) (s:Nat):List Oper->St->A
  | [],st=>(st.tmps.getD s .undef).stripB.2
  | o::r,st=>peek C ops s r (apply st o (stepX C ops o st))
def split {α :Type} (C:Ctx) (id:Nat) (ops:List Oper) (st:St) (f:Ctx->Option α):Option α :=
  (fun(_:Nat)=>match C.spl id with
  | none=>f C
  | some (k,s,ds)=>match peek C ops s (ops.take k) st with
    | .bool b=>match b with
      | true=>f (C.decide ds true)
      | false=>f (C.decide ds false)
    | _=>none) tall
theorem split_some {α :Type} {C:Ctx} {id:Nat} {ops:List Oper} {st:St} {f:Ctx->Option α} {v: α} (h:split C id ops st f=some v):(f C=some v\/ ∃ ds b,f (C.decide ds b)=some v)/\ ∀ f':Ctx->Option α,(∀ C',f C'=some v->f' C'=some v)->split C id ops st f'=some v:=by
  unfold split at h ⊢
  dsimp only at h ⊢
  cases hs:C.spl id with
  | none=>rw[hs]at h;exact⟨.inl h,fun f' hf=>hf C h⟩
  | some q =>
    obtain⟨k,s,ds⟩:=q
    rw[hs]at h
    dsimp only at h ⊢
    generalize peek C ops s (ops.take k) st=x at h ⊢
    cases x with
    | bool b=>cases b<;>exact⟨.inr ⟨_,_,h⟩,fun f' hf=>hf _ h⟩
    | _=>cases h
def exec {ρ :Type} (C:Ctx) (N:Nat) (fin:St->Option ρ):Code->St->(Ex->St->Option ρ)->Option ρ
  | .skip,st,K=>K .normal st
  | .region _ ops false,st,K=>opsA C ops.toList ops.toList st fun st'=>K .normal st'
  | .region id ops true,st,K=>split C id ops.toList st fun C=>bif drawOk C ops.toList st then opsX C ops.toList ops.toList st fun st'=>K .normal st' else none
  | .seq a b,st,K=>exec C N fin a st fun
    | .normal,st'=>meet C 1 b st' fun st''=>exec C N fin b st'' K
    | .exit id,st'=>K (.exit id) st'
  | .cond c a b,st,K=>match evalA st.tmps c with
    | .bool t=>bif t then exec C N fin a st K else exec C N fin b st K
    | .cnd g (.bool t)=>bif g then bif t then exec C N fin a st K else exec C N fin b st K else none
    | _=>none
  | .block id c,st,K=>exec C N fin c st fun
    | .exit j,st'=>bif Nat.beq j id then K .normal st' else K (.exit j) st'
    | .normal,st'=>K .normal st'
  | .loop c,st,K=>meet C 2 c st fun st'=>rounds (meet C 2 c) (exec C N fin c) N st' K
  | .exit id,st,K=>meetAt C (4*id+3) st fun st'=>K (.exit id) st'
  | .scope c,st,K=>exec C N fin c st K
  | .label _,st,K=>K .normal st
  | .ret,st,_=>fin st
  | _,_,_=>none
theorem Ty.cells_length: ∀(t:Ty) (v:t.Val),(t.cells v).length=t.len
  | .nil,_=>rfl
  | .bool r,v=>by simp [Ty.cells,Ty.len,Ty.cells_length r]
  | .int _ r,v=>by simp [Ty.cells,Ty.len,Ty.cells_length r]
  | .str r,v=>by simp [Ty.cells,Ty.len,Ty.cells_length r]
  | .sl _ _ r,v=>by simp [Ty.cells,Ty.len,Ty.cells_length r]
  | .ptr r,v=>by simp [Ty.cells,Ty.len,Ty.cells_length r v]
  | .fn r,v=>by simp [Ty.cells,Ty.len,Ty.cells_length r]
  | .mp _ _ r,v=>by simp [Ty.cells,Ty.len,Ty.cells_length r]
theorem Ty.hd_mk2 {α :Type} (r:Ty) (a: α) (b:r.Val):r.hd (r.mk2 a b)=a:=by cases r<;>rfl
theorem Ty.tl_mk2 {α :Type} (r:Ty) (a: α) (b:r.Val):r.tl (r.mk2 a b)=b:=by cases r<;>rfl
theorem Sl.es_length (l:Sl):l.es.length=l.xs.length:=by simp [Sl.es]
theorem Sl.es_len (l:Sl): ∀ e∈l.es,e.length=l.sz:=by
  intro e he
  obtain⟨v,_,rfl⟩:=List.mem_map.1 he
  exact Ty.cells_length _ _
theorem Sl.at_eq (l:Sl) {i:Nat} (h:i<l.xs.length):l.at i=l.es.getD i []:=by grind[Sl.at,Sl.es]
theorem Sl.at_length (l:Sl) (i:Nat):(l.at i).length=l.sz:=Ty.cells_length _ _
theorem Sl.cast_some {l:Sl} {t:Ty} {xs:List t.Val} (h:l.cast t=some xs):l=⟨t,xs⟩:=by
  unfold Sl.cast at h
  split at h
  ·rename_i e _
   obtain⟨s,ys⟩:=l
   all_goals grind
  ·cases h
theorem Sl.cast_self (t:Ty) (xs:List t.Val):(⟨t,xs⟩:Sl).cast t=some xs:=by
  unfold Sl.cast
  split
  ·rfl
  ·grind
theorem Mp.cast_some {l:Mp} {kt vt:Ty} {xs:List (kt.Val×vt.Val)} (h:l.cast kt vt=some xs):l=⟨kt,vt,xs⟩:=by
  unfold Mp.cast at h
  split at h
  ·rename_i e _
   obtain⟨k,v,ys⟩:=l
   dsimp only at e
   subst e
   split at h
   all_goals grind
  ·cases h
theorem Mp.cast_self (kt vt:Ty) (xs:List (kt.Val×vt.Val)):(⟨kt,vt,xs⟩:Mp).cast kt vt=some xs:=by
  unfold Mp.cast
  split
  ·split
   ·rfl
   ·grind
  ·grind
theorem A.kEq_eq {j k:IntKind} (h:A.kEq j k=true):j=k:=by cases j<;>cases k<;>first | rfl | cases h
theorem Ty.mk_cells: ∀(t:Ty) (cs:List A),(t.mk cs).1=true->t.cells (t.mk cs).2=cs:=by
  intro t
  induction t with
  | nil =>
    intro cs h
    cases cs with
    | nil=>rfl
    | cons _ _=>simp [Ty.mk]at h
  | fn r ih=>grind[Ty.mk,Ty.cells,Ty.hd_mk2,Ty.tl_mk2]
  | mp kt vt r _ _ ih =>
    intro cs h
    unfold Ty.mk at h ⊢
    split at h
    ·rename_i l cs
     cases hc:l.cast kt vt with
     | none=>rw[hc]at h;simp at h
     | some xs=>grind[Ty.cells,Ty.hd_mk2,Ty.tl_mk2,Mp.cast_some]
    ·simp at h
  | bool r ih=>grind[Ty.mk,Ty.cells,Ty.hd_mk2,Ty.tl_mk2]
  | int k r ih=>grind[Ty.mk,Ty.cells,Ty.hd_mk2,Ty.tl_mk2,A.kEq_eq]
  | str r ih=>grind[Ty.mk,Ty.cells,Ty.hd_mk2,Ty.tl_mk2]
  | sl e t r _ ih =>
    intro cs h
    unfold Ty.mk at h ⊢
    split at h
    ·rename_i l cs
     cases hc:l.cast t with
     | none=>rw[hc]at h;simp at h
     | some xs=>grind[Ty.cells,Ty.hd_mk2,Ty.tl_mk2,Sl.cast_some]
    ·simp at h
  | ptr r ih =>
    intro cs h
    unfold Ty.mk at h ⊢
    split at h
    ·rename_i cs
     show A.nilp::r.cells (r.mk cs).2=_
     rw[ih cs h]
    ·simp at h
theorem Ty.zero_cells: ∀(ks:List CK),ks.all CK.plain=true->(tyl ks).cells (tyl ks).zero=ks.map CK.fzero:=by
  intro ks
  induction ks with
  | nil=>intro _;rfl
  | cons k ks ih=>grind[tyl,Ty.cells,Ty.hd_mk2,Ty.tl_mk2,CK.fzero,CK.zero,CK,CK.plain,cells,zero]
theorem tyl_len (ks:List CK):(tyl ks).len=ks.length:=by
  induction ks with
  | nil=>rfl
  | cons k ks ih=>cases k<;>simp [tyl,Ty.len,ih]
theorem Sl.es_set (l:Sl) {i off:Nat} {cs:List A} (hi:i<l.xs.length) (h:(l.set i off cs).1=true):(l.set i off cs).2.es=l.es.set i (splice (l.es.getD i []) off cs):=by
  have:=Ty.mk_cells _ _ h
  rw[<- l.at_eq hi]
  all_goals simp_all[Sl.set,Sl.es,hi,splice]
theorem Sl.es_append (t:Ty) (xs ys:List t.Val):(⟨t,xs++ys⟩:Sl).es=(⟨t,xs⟩:Sl).es++(⟨t,ys⟩:Sl).es:=by simp [Sl.es]
theorem Sl.es_cut (l:Sl) (a b:Nat):(⟨l.t,cutL l.xs a b⟩:Sl).es=cutL l.es a b:=by simp_all[Sl.es,cutL]
theorem Sl.es_replicate (ks:List CK) (n:Nat) (h:ks.all CK.plain=true):(⟨tyl ks,List.replicate n (tyl ks).zero⟩:Sl).es=List.replicate n (ks.map CK.fzero):=by
  simp [Sl.es,List.map_replicate,Ty.zero_cells ks h]
theorem Sl.es_nil (t:Ty):(⟨t,[]⟩:Sl).es=[]:=rfl
def ckOf (P:Program):Nat->Nat->Option (List CK)
  | 0,_=>none
  | n+1,t=>match P.underlying t with
    | some .bool=>some [.bool]
    | some (.int k)=>some [.int k]
    | some .string=>some [.str]
    | some (.slice e)=>match ckOf P n e with
      | some cs=>bif cs.all CK.plain then some [.sl e (tyl cs)]else some [.oth]
      | none=>some [.oth]
    | some (.pointer _)=>some [.ptr]
    | some (.struct fs)=>fs.toList.foldr (fun f acc=>match ckOf P n f.type,acc with | some a,some b=>some (a++b) | _,_=>none) (some [])
    | some (.array m e)=>match ckOf P n e with
      | some a=>bif Nat.ble (m*a.length) 4096 then some ((List.replicate m a).flatten)else none
      | none=>none
    | some (.tuple _)=>none
    | some (.func _ _ _)=>some [.fn]
    | some _=>some [.oth]
    | none=>none
def zeroFits:List Value->List CK->Bool
  | [],[]=>true
  | .bool false::vs,.bool::ks=>zeroFits vs ks
  | .int k 0::vs,.int k'::ks=>A.kEq k k'&&zeroFits vs ks
  | .string s::vs,.str::ks=>s.data.toList.isEmpty&&zeroFits vs ks
  | .slice none 0 0::vs,.sl _ _::ks=>zeroFits vs ks
  | .pointer none::vs,.ptr::ks=>zeroFits vs ks
  | .nilFunc::vs,.fn::ks=>zeroFits vs ks
  | v::vs,.oth::ks=>v.oneCell'&&zeroFits vs ks
  | _,_=>false
def isAggD:TypeDesc->Bool
  | .struct _ | .array _ _=>true
  | _=>false
def isAggV:Value->Bool
  | .agg _=>true
  | _=>false
def fieldKinds (P:Program):List Field->Nat->Option (List CK)
  | [],_=>some []
  | f::r,n=>match P.underlying f.type,fieldKinds P r (n+1)with
    | some .bool,some ks=>bif f.name != "_" &&Nat.beq f.offset n then some (.bool::ks)else none
    | some (.int k),some ks=>bif f.name != "_" &&Nat.beq f.offset n then some (.int k::ks)else none
    | some .string,some ks=>bif f.name != "_" &&Nat.beq f.offset n then some (.str::ks)else none
    | _,_=>none
def cmpOf (P:Program) (t:Nat):TypeDesc->List CK
  | .struct fs=>match fieldKinds P fs.toList 0 with
    | some ks=>bif !(P.stoodInHeld t)&& !(P.eqGuardType P.depth t)then ks else []
    | none=>[]
  | _=>[]
def tyOf (P:Program) (t:Nat):Option TI :=
  match P.underlying t,P.info? t,ckOf P 20 t with
  | some d,some i,some cs=>match i.zero with
    | some z=>bif Nat.beq i.size cs.length&&zeroFits z.cells.toList cs&&(isAggD d==isAggV z)then some ⟨d,cs,i.bytes,cmpOf P t d⟩else none
    | none=>none
  | _,_,_=>none
