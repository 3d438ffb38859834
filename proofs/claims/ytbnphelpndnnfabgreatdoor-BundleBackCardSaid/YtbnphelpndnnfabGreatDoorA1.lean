/-
  BundleBack: the law returns true whatever the input; machine, functions, plain law (24 files)
-/
import Derived.RowKit
import Derived.Laws.Sem
set_option linter.all false
namespace Go.Proofs.YtbnphelpndnnfabGreatDoor.Vm
inductive Ty where
  | nil
  | bool (r:Ty)
  | int (k:IntKind) (r:Ty)
  | str (r:Ty)
  | sl (e:Nat) (t:Ty) (r:Ty)
  | ptr (r:Ty)
  | fn (r:Ty)
  | mp (kt vt:Ty) (r:Ty)
  deriving DecidableEq,Inhabited
namespace Ty
def pr (α :Type) (β :Type):Ty->Type
  | .nil=> α
  | _=> α × β
def Val:Ty->Type
  | .nil=>Unit
  | .bool r=>pr Bool r.Val r
  | .int _ r=>pr Int r.Val r
  | .str r=>pr (List UInt8) r.Val r
  | .sl _ t r=>pr (List t.Val) r.Val r
  | .ptr r=>r.Val
  | .fn r=>pr Nat r.Val r
  | .mp kt vt r=>pr (List (kt.Val×vt.Val)) r.Val r
def hd {α β :Type}:(r:Ty)->pr α β r-> α
  | .nil,a=>a
  | .bool _,p=>p.1
  | .int _ _,p=>p.1
  | .str _,p=>p.1
  | .sl _ _ _,p=>p.1
  | .ptr _,p=>p.1
  | .fn _,p=>p.1
  | .mp _ _ _,p=>p.1
def tl {α :Type}:(r:Ty)->pr α r.Val r->r.Val
  | .nil,_=>()
  | .bool _,p=>p.2
  | .int _ _,p=>p.2
  | .str _,p=>p.2
  | .sl _ _ _,p=>p.2
  | .ptr _,p=>p.2
  | .fn _,p=>p.2
  | .mp _ _ _,p=>p.2
def mk2 {α :Type}:(r:Ty)-> α ->r.Val->pr α r.Val r
  | .nil,a,_=>a
  | .bool _,a,b=>(a,b)
  | .int _ _,a,b=>(a,b)
  | .str _,a,b=>(a,b)
  | .sl _ _ _,a,b=>(a,b)
  | .ptr _,a,b=>(a,b)
  | .fn _,a,b=>(a,b)
  | .mp _ _ _,a,b=>(a,b)
def zero:(t:Ty)->t.Val
  | .nil=>()
  | .bool r=>mk2 r false r.zero
  | .int _ r=>mk2 r 0 r.zero
  | .str r=>mk2 r [] r.zero
  | .sl _ _ r=>mk2 r [] r.zero
  | .ptr r=>r.zero
  | .fn r=>mk2 r 0 r.zero
  | .mp _ _ r=>mk2 r [] r.zero
def len:Ty->Nat
  | .nil=>0
  | .bool r=>r.len+1
  | .int _ r=>r.len+1
  | .str r=>r.len+1
  | .sl _ _ r=>r.len+1
  | .ptr r=>r.len+1
  | .fn r=>r.len+1
  | .mp _ _ r=>r.len+1
end Ty
structure Sl where
  t:Ty
  xs:List t.Val
  deriving Inhabited
structure Mp where
  kt:Ty
  vt:Ty
  l:List (kt.Val×vt.Val)
  deriving Inhabited
inductive CK where
  | bool | int (k:IntKind) | str | sl (e:Nat) (t:Ty) | sln (e:Nat) (t:Ty) | ptr | fn | mp (kt vt:Ty) | bx (t:Ty) | oth
  deriving DecidableEq
inductive A where
  | undef
  | bool (b:Bool)
  | int (k:IntKind) (n:Int)
  | str (s:List UInt8)
  | sl (l:Sl)
  | sln (l:Sl)
  | usl (z:Bool) (e:Nat) (l:Sl)
  | ER
  | Fj
  | ptr (o off:Nat)
  | own (o:Nat)
  | elt (cs:List A)
  | EN (o i off:Nat)
  | agg (cs:List A)
  | tup (vs:List A)
  | box (cs:List A)
  | clo (f o:Nat)
  | cbx (f:Nat) (cs:List A)
  | bsl (o n:Nat)
  | osl (o k:Nat)
  | fn (f:Nat)
  | ump (l:Mp)
  | cnd (g:Bool) (v:A)
  deriving Inhabited
inductive Obj where
  | box (cs:List A)
  | arr (e:Nat) (frz:Bool) (l:Sl)
  | mp (l:Mp)
  deriving Inhabited
def Ty.cells:(t:Ty)->t.Val->List A
  | .nil,_=>[]
  | .bool r,v=>.bool (r.hd v)::r.cells (r.tl v)
  | .int k r,v=>.int k (r.hd v)::r.cells (r.tl v)
  | .str r,v=>.str (r.hd v)::r.cells (r.tl v)
  | .sl _ t r,v=>.sl ⟨t,r.hd v⟩::r.cells (r.tl v)
  | .ptr r,v=>.Fj::r.cells v
  | .fn r,v=>.fn (r.hd v)::r.cells (r.tl v)
  | .mp kt vt r,v=>.ump ⟨kt,vt,r.hd v⟩::r.cells (r.tl v)
def Sl.sz (l:Sl):Nat:=l.t.len
def Sl.es (l:Sl):List (List A):=l.xs.map l.t.cells
def Sl.at (l:Sl) (i:Nat):List A:=l.t.cells (l.xs.getD i l.t.zero)
def Sl.cast (l:Sl) (t:Ty):Option (List t.Val) :=
  match decEq l.t t with
  | .isTrue h=>some (h▸l.xs)
  | .isFalse _=>none
def Mp.cast (l:Mp) (kt vt:Ty):Option (List (kt.Val×vt.Val)) :=
  match decEq l.kt kt with
  | .isTrue h=>match decEq l.vt vt with
    | .isTrue h'=>some (h▸h'▸l.l)
    | .isFalse _=>none
  | .isFalse _=>none
structure St where
  tmps:List A
  Dj:List (Nat×Obj)
def Dy:List (Nat×Obj)->Nat->Option Obj
  | [],_=>none
  | (k,x)::r,n=>bif Nat.beq k n then some x else Dy r n
def KD:List (Nat×Obj)->Nat->List (Nat×Obj)
  | [],_=>[]
  | (k,x)::r,n=>bif Nat.beq k n then KD r n else(k,x)::KD r n
def Vt:List (Nat×Obj)->Nat->Obj->List (Nat×Obj)
  | [],n,y=>[(n,y)]
  | (k,x)::r,n,y=>bif Nat.ble n k then(n,y)::(k,x)::r else(k,x)::Vt r n y
def EZ (l:List (Nat×Obj)) (n:Nat) (y:Obj):List (Nat×Obj):=Vt (KD l n) n y
def has (l:List Nat) (n:Nat):Bool:=l.any (Nat.beq n)
namespace A
def toB:A->Bool | .bool b=>b | _=>false
def isB:A->Bool | .bool _=>true | _=>false
def toI:A->Int | .int _ n=>n | _=>0
def kEq:IntKind->IntKind->Bool
  | .i8,.i8 | .i16,.i16 | .i32,.i32 | .i64,.i64 | .u8,.u8 | .u16,.u16 | .u32,.u32 | .u64,.u64=>true
  | _,_=>false
def isI (k:IntKind):A->Bool | .int k' _=>kEq k k' | _=>false
def toS:A->List UInt8 | .str s=>s | _=>[]
def isS:A->Bool | .str _=>true | _=>false
def toL:A->Sl | .sl l=>l | .sln l=>l | .usl _ _ l=>l | _=>default
def weak:A->A | .sln l=>.sl l | a=>a
def strong:A->A | .sl l=>.sln l | a=>a
def AmP:A->Bool | .sl _=>false | _=>true
def zZ (t:Ty):A->Bool | .sln l=>decide (l.t=t) | _=>false
def AfI (t:Ty):A->Bool | .sl l=>decide (l.t=t) | _=>false
def Aea (z:Bool) (e:Nat) (t:Ty):A->Bool | .usl z' e' l=>(z==z')&&(Nat.beq e e'&&decide (l.t=t)) | _=>false
def gJ:A->Bool | .Fj=>true | _=>false
def isFn:A->Bool | .fn _=>true | _=>false
def l9 (kt vt:Ty):A->Bool | .ump l=>decide (l.kt=kt)&&decide (l.vt=vt) | _=>false
def toM:A->Mp | .ump l=>l | _=>default
def Uf:A->List A | .agg cs=>cs | .box cs=>cs | .cbx _ cs=>cs | _=>[]
def Aik (f n:Nat):A->Bool | .cbx g cs=>Nat.beq f g&&Nat.beq cs.length n | _=>false
def isAgg (n:Nat):A->Bool | .agg cs=>Nat.beq cs.length n | _=>false
def Aij (n:Nat):A->Bool | .box cs=>Nat.beq cs.length n | _=>false
def isVal:A->Bool | .undef=>false | .tup _=>false | .usl _ _ _=>false | .ump _=>false | .box _=>false | .cbx _ _=>false | .cnd _ _=>false | _=>true
def cells:A->List A | .agg cs=>cs | v=>[v]
def strip:A->List Bool×A | .cnd g v=>([g],v) | v=>([],v)
def II:A->Bool×A | .cnd g v=>(g,v) | v=>(true,v)
def FN:A->List Nat
  | .ptr o _=>[o] | .own o=>[o] | .EN o _ _=>[o] | .clo _ o=>[o] | .bsl o _=>[o] | .osl o _=>[o] | _=>[]
def Apl:A->List Nat
  | .agg cs=>cs.flatMap FN
  | .cnd _ (.agg cs)=>cs.flatMap FN
  | .cnd _ v=>FN v
  | v=>FN v
def ids:A->List Nat
  | .tup vs=>vs.flatMap Apl
  | v=>Apl v
end A
def Obj.ids:Obj->List Nat
  | .box cs=>cs.flatMap A.FN
  | _=>[]
def St.ids (st:St):List Nat:=st.tmps.flatMap A.ids++st.Dj.flatMap (fun p=>p.2.ids)
def SC (n:Nat):Bool:=Nat.blt n 32768&&Nat.beq (n % 256) 0
def St.fresh (st:St) (n:Nat):Bool:= !(has st.ids n)&&(Dy st.Dj n).isNone&& !(Nat.beq n 255)&& !(SC n)
def force:CK->A->List Bool×A
  | .bool,c=>([c.isB],c)
  | .int k,c=>([c.isI k],c)
  | .str,c=>([c.isS],c)
  | .sl _ t,c=>([c.AfI t],c)
  | .sln _ t,c=>([c.zZ t],c)
  | .ptr,c=>([c.gJ],c)
  | .fn,c=>([c.isFn],c)
  | .mp _ _,_=>([false],.undef)
  | .bx _,_=>([false],.undef)
  | .oth,_=>([],.undef)
def forces (cs:List A):List CK->Nat->List Bool×List A
  | [],_=>([],[])
  | k::ks,off=>((force k (cs.getD off .undef)).1++(forces cs ks (off+1)).1,(force k (cs.getD off .undef)).2::(forces cs ks (off+1)).2)
def CK.zero:CK->A
  | .bool=>.bool false
  | .int k=>.int k 0
  | .str=>.str []
  | .sl _ _=>.ER
  | .sln _ _=>.ER
  | .ptr=>.Fj
  | .fn=>.fn 0
  | .mp _ _=>.undef
  | .bx _=>.undef
  | .oth=>.undef
def CK.plain:CK->Bool | .oth=>false | .mp _ _=>false | .bx _=>false | _=>true
def CK.Hm:CK->A
  | .sl _ t=>.sl ⟨t,[]⟩
  | .sln _ t=>.sl ⟨t,[]⟩
  | k=>k.zero
structure TI where
  d:TypeDesc
  cs:List CK
  bytes:Nat
  cmp:List CK:=[]
def tyl:List CK->Ty
  | []=>.nil
  | .bool::r=>.bool (tyl r)
  | .int k::r=>.int k (tyl r)
  | .str::r=>.str (tyl r)
  | .sl e t::r=>.sl e t (tyl r)
  | .sln e t::r=>.sl e t (tyl r)
  | .ptr::r=>.ptr (tyl r)
  | .fn::r=>.fn (tyl r)
  | .mp kt vt::r=>.mp kt vt (tyl r)
  | .bx t::r=>.sl 0 t (tyl r)
  | .oth::r=>.ptr (tyl r)
def tck:Ty->List CK
  | .nil=>[]
  | .bool r=>.bool::tck r
  | .int k r=>.int k::tck r
  | .str r=>.str::tck r
  | .sl e t r=>.sln e t::tck r
  | .ptr r=>.ptr::tck r
  | .fn r=>.fn::tck r
  | .mp kt vt r=>.mp kt vt::tck r
def Ty.mk:(t:Ty)->List A->Bool×t.Val
  | .nil=>fun cs=>(cs.isEmpty,())
  | .bool r=>fun
    | .bool b::cs=>((r.mk cs).1,r.mk2 b (r.mk cs).2)
    | _=>(false,Ty.zero (.bool r))
  | .int k r=>fun
    | .int j n::cs=>(A.kEq j k&&(r.mk cs).1,r.mk2 n (r.mk cs).2)
    | _=>(false,Ty.zero (.int k r))
  | .str r=>fun
    | .str s::cs=>((r.mk cs).1,r.mk2 s (r.mk cs).2)
    | _=>(false,Ty.zero (.str r))
  | .sl e t r=>fun
    | .sl l::cs=>match l.cast t with
      | some xs=>((r.mk cs).1,r.mk2 xs (r.mk cs).2)
      | none=>(false,Ty.zero (.sl e t r))
    | _=>(false,Ty.zero (.sl e t r))
  | .ptr r=>fun
    | .Fj::cs=>((r.mk cs).1,(r.mk cs).2)
    | _=>(false,Ty.zero (.ptr r))
  | .fn r=>fun
    | .fn n::cs=>((r.mk cs).1,r.mk2 n (r.mk cs).2)
    | _=>(false,Ty.zero (.fn r))
  | .mp kt vt r=>fun
    | .ump l::cs=>match l.cast kt vt with
      | some xs=>((r.mk cs).1,r.mk2 xs (r.mk cs).2)
      | none=>(false,Ty.zero (.mp kt vt r))
    | _=>(false,Ty.zero (.mp kt vt r))
def TI.agg (t:TI):Bool:=match t.d with | .struct _ | .array _ _=>true | _=>false
inductive Sh where
  | cell (u:Bool) (k:CK)
  | agg (cs:List (Bool×CK))
  | box (cs:List (Bool×CK))
  | map (kt vt:Ty)
  | clo (f:Nat) (cs:List (Bool×CK))
structure Sig where
  Dv:List Sh
  DI:List Sh
  ok:List A->Bool
  val:List A->List A
def Sig.F (sg:Sig) (xs:List A):Option (List A):=bif sg.ok xs then some (sg.val xs)else none
structure Nrm where
  keep:List Nat
  nw:List (List Nat×Nat×Ty×Nat)
  pz:List (Option Nat×Nat×Ty)
  ren:List (Nat×Nat)
  frz:List Nat
abbrev Alt:=Sig×Sig×(List A->Bool)
structure Ctx where
  T:Nat->Option TI
  G:Nat->Option Sig
  nrm:Nat->Option Nrm
  alt:Nat->Option Alt
  dyn:Nat->Option (Nat->Sig)
  cuts:List Nat:=[]
  binds:List Nat:=[]
  dec:Nat->Option Bool:=fun _=>none
  spl:Nat->Option (Nat×Nat×List Nat):=fun _=>none
  kept:Nat->List (Nat×Nat):=fun _=>[]
def Ctx.decide (C:Ctx) (ds:List Nat) (b:Bool):Ctx:= {C with dec:=fun d=>bif has ds d then some b else C.dec d}
def Ctx.put (C:Ctx) (f:Nat) (s:Sig):Ctx:= {C with G:=fun k=>bif Nat.beq f k then some s else C.G k}
structure Dl where
  ok:List Bool
  val:A
  new:List (Nat×Obj):=[]
  upd:List (Nat×Obj):=[]
  del:List Nat:=[]
  same:List (Nat×Nat):=[]
def Dl.no:Dl:= {ok:=[false],val:=.undef}
def Dl.v (a:A):Dl:= {ok:=[],val:=a}
def Dl.g (b:List Bool) (a:A):Dl:= {ok:=b,val:=a}
def Hu:Value->A
  | .bool b=>.bool b
  | .int k n=>.int k n
  | .string s=>.str s.data.toList
  | .slice none 0 0=>.ER
  | .pointer none=>.Fj
  | .nilFunc=>.fn 0
  | _=>.undef
def ofConst:Value->A
  | .agg vs=>bif vs.toList.all Value.oneCell' then .agg (vs.toList.map Hu)else .undef
  | v=>Hu v
abbrev Fet:=List (Nat×Obj)
def AfY:CK->Sl->List Bool×A
  | .sln _ _,l=>([decide (0<l.xs.length)],.sln l)
  | _,l=>([],.sl l)
def Arw:CK->Sl->A
  | .sln _ _,l=>.sln l
  | _,l=>.sl l
def pur (fet:Fet) (k:CK):A->List Bool×A×List (Nat×Obj)
  | .own o=>match Dy fet o with
    | some (.arr e _ l)=>((AfY k l).1,(AfY k l).2,[(o,.arr e true l)])
    | _=>([false],.undef,[])
  | .ER=>match k with
    | .sl _ t=>([],.sl ⟨t,[]⟩,[])
    | .sln _ t=>([],.sln ⟨t,[]⟩,[])
    | _=>([false],.undef,[])
  | .sln l=>([],Arw k l,[])
  | .bool b=>([],.bool b,[])
  | .int j n=>([],.int j n,[])
  | .str s=>([],.str s,[])
  | .sl l=>((AfY k l).1,(AfY k l).2,[])
  | .Fj=>([],.Fj,[])
  | .fn n=>([],.fn n,[])
  | _=>([false],.undef,[])
def Eu (fet:Fet):List CK->List A->List Bool×List A×List (Nat×Obj)
  | [],[]=>([],[],[])
  | k::ks,c::cs=>((pur fet k c).1++(Eu fet ks cs).1,(pur fet k c).2.1::(Eu fet ks cs).2.1,(pur fet k c).2.2++(Eu fet ks cs).2.2)
  | _,_=>([false],[],[])
def EO (id:Nat):List CK->List A->List A×List (Nat×Obj)
  | .sl e t::ks,.ER::cs=>(.own id::(EO (id+1) ks cs).1,(id,.arr e false ⟨t,[]⟩)::(EO (id+1) ks cs).2)
  | _::ks,c::cs=>(c::(EO (id+1) ks cs).1,(EO (id+1) ks cs).2)
  | _,cs=>(cs,[])
def rd (fet:Fet):A->List Bool×Sl
  | .own o=>match Dy fet o with
    | some (.arr _ _ l)=>([],l)
    | _=>([false],default)
  | .ER=>([],default)
  | .sl l=>([],l)
  | _=>([false],default)
def rdT (fet:Fet) (t:Ty):A->List Bool×List t.Val
  | .ER=>([],[])
  | x=>match (rd fet x).2.cast t with
    | some xs=>((rd fet x).1,xs)
    | none=>([false],[])
def KA:Ty:=.int .u8 .nil
def rdB (fet:Fet) (x:A):List Bool×List Int:=rdT fet KA x
def byteOf (n:Int):UInt8:=UInt8.ofNat n.toNat
def isByte (n:Int):Bool:=decide (0<=n)&&decide (n<256)
def Ee (op:BinOp) (k:IntKind) (x y:Int):Int :=
  match op with
  | .and=>k.wrap (((BitVec.ofInt k.bits x) &&& (BitVec.ofInt k.bits y)).toNat)
  | .or=>k.wrap (((BitVec.ofInt k.bits x) ||| (BitVec.ofInt k.bits y)).toNat)
  | .xor=>k.wrap (((BitVec.ofInt k.bits x) ^^^ (BitVec.ofInt k.bits y)).toNat)
  | _=>k.wrap (((BitVec.ofInt k.bits x) &&& ~~~(BitVec.ofInt k.bits y)).toNat)
def sZ (op:BinOp) (k:IntKind) (x y:Int):Dl :=
  match op with
  | .add=>.v (.int k (k.wrap (x+y)))
  | .sub=>.v (.int k (k.wrap (x - y)))
  | .mul=>.v (.int k (k.wrap (x*y)))
  | .quo=>.g [y != 0] (.int k (k.wrap (x.tdiv y)))
  | .rem=>.g [y != 0] (.int k (x.tmod y))
  | .and | .or | .xor | .andNot=>.v (.int k (Ee op k x y))
  | .eql=>.v (.bool (x==y))
  | .neq=>.v (.bool (x != y))
  | .lss=>.v (.bool (decide (x<y)))
  | .leq=>.v (.bool (decide (x<=y)))
  | .gtr=>.v (.bool (decide (x>y)))
  | .geq=>.v (.bool (decide (x>=y)))
  | _=>.no
def bytesLess:List UInt8->List UInt8->Bool:=Go.Op.bytesLess
def tC (op:BinOp) (x y:List UInt8):Dl :=
  match op with
  | .add=>.g [decide (x.length+y.length<=140737488355328)] (.str (x++y))
  | .eql=>.v (.bool (x==y))
  | .neq=>.v (.bool (!(x==y)))
  | .lss=>.v (.bool (bytesLess x y))
  | .leq=>.v (.bool (bytesLess x y||x==y))
  | .gtr=>.v (.bool (!(bytesLess x y||x==y)))
  | .geq=>.v (.bool (!(bytesLess x y)))
  | _=>.no
def X0:CK->A->A->Bool×Bool
  | .bool,.bool a,.bool b=>(true,a==b)
  | .int k,.int i a,.int j b=>(A.kEq i k&&A.kEq j k,a==b)
  | .str,.str a,.str b=>(true,a==b)
  | _,_,_=>(false,false)
def Jm:List CK->List A->List A->Bool×Bool
  | [],[],[]=>(true,true)
  | k::ks,a::x,b::y=>((X0 k a b).1&&(Jm ks x y).1,(X0 k a b).2&&(Jm ks x y).2)
  | _,_,_=>(false,false)
def Ty.same:(t:Ty)->t.Val->t.Val->Bool
  | .nil,_,_=>true
  | .bool r,a,b=>(r.hd a==r.hd b)&&r.same (r.tl a) (r.tl b)
  | .int _ r,a,b=>(r.hd a==r.hd b)&&r.same (r.tl a) (r.tl b)
  | .str r,a,b=>(r.hd a==r.hd b)&&r.same (r.tl a) (r.tl b)
  | _,_,_=>false
def ML {β :Type} (t:Ty) (k:t.Val):List (t.Val× β)->Option β
  | []=>none
  | p::r=>bif t.same k p.1 then some p.2 else ML t k r
def Qb {β :Type} (t:Ty) (k:t.Val) (v: β):List (t.Val× β)->List (t.Val× β)
  | []=>[(k,v)]
  | p::r=>bif t.same k p.1 then(p.1,v)::r else p::Qb t k v r
def Ym {β :Type} (t:Ty) (k:t.Val):List (t.Val× β)->List (t.Val× β)
  | []=>[]
  | p::r=>bif t.same k p.1 then r else p::Ym t k r
def H7:List A->A
  | [c]=>c
  | cs=>.agg cs
def splice (l:List A) (off:Nat) (vs:List A):List A:=l.take off++vs++l.drop (off+vs.length)
def Aex (C:Ctx) (d:TypeDesc) (f:Nat):Option (Nat×TI) :=
  match d with
  | .struct fs=>match fs.toList[f]? with
    | some x=>match C.T x.type with
      | some ti=>some (x.offset,ti)
      | none=>none
    | none=>none
  | _=>none
def wW:TypeDesc->Bool | .string=>true | _=>false
def TW:TypeDesc->Bool | .slice _=>true | .string=>true | _=>false
def AfH:TypeDesc->Bool | .bool=>true | _=>false
def AdY:TypeDesc->Bool | .int .u8=>true | _=>false
def Aaf (C:Ctx) (d:TypeDesc) (f:Nat):Option (Nat×TI) :=
  match d with
  | .struct fs=>match fs.toList[f]? with
    | some x=>match C.T x.type with
      | some ti=>some (x.offset,ti)
      | none=>none
    | none=>none
  | .array n e=>match C.T e with
    | some ti=>bif Nat.blt f n then some (f*ti.cs.length,ti)else none
    | none=>none
  | _=>none
def Aae (ti:TI) (cs:List A) (off:Nat):A:=bif ti.agg then .agg ((cs.drop off).take ti.cs.length)else cs.getD off .undef
def fill (C:Ctx) (d:TypeDesc):List (Nat×A)->List A->Option (List A)
  | [],cs=>some cs
  | (i,v)::r,cs=>match Aaf C d i with
    | some (off,ti)=>bif v.isVal&&Nat.beq v.cells.length ti.cs.length&&Nat.ble (off+ti.cs.length) cs.length then fill C d r (splice cs off v.cells)else none
    | none=>none
def GL (fet:Fet) (ti:TI) (t:Ty):List (Nat×A)->List t.Val->List Bool×List t.Val×List (Nat×Obj)
  | [],xs=>([],xs,[])
  | (i,v)::r,xs=>((Eu fet ti.cs v.cells).1++[(t.mk (Eu fet ti.cs v.cells).2.1).1,Nat.blt i xs.length]++(GL fet ti t r (xs.set i (t.mk (Eu fet ti.cs v.cells).2.1).2)).1,
      (GL fet ti t r (xs.set i (t.mk (Eu fet ti.cs v.cells).2.1).2)).2.1,(Eu fet ti.cs v.cells).2.2++(GL fet ti t r (xs.set i (t.mk (Eu fet ti.cs v.cells).2.1).2)).2.2)
def Sl.set (l:Sl) (i off:Nat) (cs:List A):Bool×Sl:=((l.t.mk (splice (l.at i) off cs)).1,⟨l.t,l.xs.set i (l.t.mk (splice (l.at i) off cs)).2⟩)
def Eo:Sh->Bool | .box _=>true | .map _ _=>true | .clo _ _=>true | _=>false
def Fp (fet:Fet) (o:Nat):Option (List A):=match Dy fet o with | some (.box cs)=>some cs | _=>none
structure Arg where
  ok:List Bool
  a:A
  upd:List (Nat×Obj):=[]
  del:List Nat:=[]
  boxes:List (Nat×Sh):=[]
def D8 (fet:Fet):List (Bool×CK)->List A->List Bool×List A×List (Nat×Obj)×List Nat
  | [],[]=>([],[],[],[])
  | (false,k)::ks,c::cs=>((pur fet k c).1++(D8 fet ks cs).1,(pur fet k c).2.1::(D8 fet ks cs).2.1,(pur fet k c).2.2++(D8 fet ks cs).2.2.1,(D8 fet ks cs).2.2.2)
  | (true,.sl e t)::ks,.own o::cs=>match Dy fet o with
    | some (.arr e' _ l)=>([Nat.beq e e',decide (l.t=t)]++(D8 fet ks cs).1,.usl true e l::(D8 fet ks cs).2.1,(o,.arr e true l)::(D8 fet ks cs).2.2.1,o::(D8 fet ks cs).2.2.2)
    | _=>([false],[],[],[])
  | (true,.sl e t)::ks,.ER::cs=>((D8 fet ks cs).1,.usl true e ⟨t,[]⟩::(D8 fet ks cs).2.1,(D8 fet ks cs).2.2.1,(D8 fet ks cs).2.2.2)
  | (true,.sln e t)::ks,.own o::cs=>match Dy fet o with
    | some (.arr e' f l)=>([Nat.beq e e',decide (l.t=t),!f]++(D8 fet ks cs).1,.usl false e l::(D8 fet ks cs).2.1,(D8 fet ks cs).2.2.1,o::(D8 fet ks cs).2.2.2)
    | _=>([false],[],[],[])
  | (true,.sln e t)::ks,.ER::cs=>((D8 fet ks cs).1,.usl false e ⟨t,[]⟩::(D8 fet ks cs).2.1,(D8 fet ks cs).2.2.1,(D8 fet ks cs).2.2.2)
  | (true,.bx t)::ks,.ptr o off::cs=>match Fp fet o with
    | some zs=>(Nat.beq off 0::(Eu fet (tck t) zs).1++(D8 fet ks cs).1,.box (Eu fet (tck t) zs).2.1::(D8 fet ks cs).2.1,(Eu fet (tck t) zs).2.2++(D8 fet ks cs).2.2.1,o::(D8 fet ks cs).2.2.2)
    | none=>([false],[],[],[])
  | _,_=>([false],[],[],[])
def wC:Bool×CK->Bool
  | (true,.sln _ _)=>true
  | _=>false
def wS:Sh->Bool
  | .cell u k=>wC (u,k)
  | .agg ks=>ks.any wC
  | .box ks=>ks.any wC
  | .clo _ ks=>ks.any wC
  | .map _ _=>false
def DU (fet:Fet):Sh->A->Arg
  | .cell u k,a=>match D8 fet [(u,k)] [a]with
    | (ok,[c],upd,del)=> {ok,a:=c,upd,del}
    | _=> {ok:=[false],a:=.undef}
  | .agg ks,.agg cs=>match D8 fet ks cs with
    | (ok,cs,upd,del)=> {ok,a:=.agg cs,upd,del}
  | .box ks,.ptr o off=>match Fp fet o with
    | some cs=> {ok:=Nat.beq off 0::Nat.ble ks.length 200::(D8 fet ks cs).1,a:=.box (D8 fet ks cs).2.1,upd:=(D8 fet ks cs).2.2.1,del:=(D8 fet ks cs).2.2.2,boxes:=[(o,.box ks)]}
    | none=> {ok:=[false],a:=.undef}
  | .clo f ks,.clo g o=>match Fp fet o with
    | some cs=> {ok:=Nat.beq f g::Nat.ble ks.length 200::(D8 fet ks cs).1,a:=.cbx g (D8 fet ks cs).2.1,upd:=(D8 fet ks cs).2.2.1,del:=(D8 fet ks cs).2.2.2,boxes:=[(o,.box ks)]}
    | none=> {ok:=[false],a:=.undef}
  | .map kt vt,.own o=>match Dy fet o with
    | some (.mp l)=> {ok:=[decide (l.kt=kt),decide (l.vt=vt)],a:=.ump l,boxes:=[(o,.map kt vt)]}
    | _=> {ok:=[false],a:=.undef}
  | _,_=> {ok:=[false],a:=.undef}
def DN (fet:Fet):List Sh->List A->List Bool×List A×List (Nat×Obj)×List Nat×List (Nat×Sh)
  | [],[]=>([],[],[],[],[])
  | s::ss,a::aa=>((DU fet s a).ok++(DN fet ss aa).1,(DU fet s a).a::(DN fet ss aa).2.1,(DU fet s a).upd++(DN fet ss aa).2.2.1,
     (DU fet s a).del++(DN fet ss aa).2.2.2.1,(DU fet s a).boxes++(DN fet ss aa).2.2.2.2)
  | _,_=>([false],[],[],[],[])
def DT (id:Nat):List (Bool×CK)->List A->Nat->List Bool×List A×List (Nat×Obj)
  | [],_,_=>([],[],[])
  | (false,k)::ks,cs,j=>((force k (cs.getD j .undef)).1++(DT id ks cs (j+1)).1,(force k (cs.getD j .undef)).2::(DT id ks cs (j+1)).2.1,(DT id ks cs (j+1)).2.2)
  | (true,.sl e t)::ks,cs,j=>((cs.getD j .undef).Aea true e t::(DT id ks cs (j+1)).1,.own (id+j)::(DT id ks cs (j+1)).2.1,
      (id+j,.arr e true (cs.getD j .undef).toL)::(DT id ks cs (j+1)).2.2)
  | (true,.sln e t)::ks,cs,j=>((cs.getD j .undef).Aea false e t::(DT id ks cs (j+1)).1,.own (id+j)::(DT id ks cs (j+1)).2.1,
      (id+j,.arr e false (cs.getD j .undef).toL)::(DT id ks cs (j+1)).2.2)
  | (true,.bx t)::ks,cs,j=>((cs.getD j .undef).Aij t.len::(DT id ks cs (j+1)).1,.ptr (id+j) 0::(DT id ks cs (j+1)).2.1,(id+j,.box (cs.getD j .undef).Uf)::(DT id ks cs (j+1)).2.2)
  | _,_,_=>([false],[],[])
def back (id:Nat):Sh->A->List Bool×A×List (Nat×Obj)
  | .cell u k,a=>((DT id [(u,k)] [a] 0).1++[k.plain],(DT id [(u,k)] [a] 0).2.1.getD 0 .undef,(DT id [(u,k)] [a] 0).2.2)
  | .agg ks,a=>(Nat.ble ks.length 200::a.isAgg ks.length::(DT (id+1) ks a.Uf 0).1,.agg (DT (id+1) ks a.Uf 0).2.1,(DT (id+1) ks a.Uf 0).2.2)
  | .box ks,a=>(Nat.ble ks.length 200::a.Aij ks.length::(DT (id+1) ks a.Uf 0).1,.ptr id 0,(id,.box (DT (id+1) ks a.Uf 0).2.1)::(DT (id+1) ks a.Uf 0).2.2)
  | .map kt vt,a=>([a.l9 kt vt],.own id,[(id,.mp a.toM)])
  | .clo f ks,a=>(Nat.ble ks.length 200::a.Aik f ks.length::(DT (id+1) ks a.Uf 0).1,.clo f id,(id,.box (DT (id+1) ks a.Uf 0).2.1)::(DT (id+1) ks a.Uf 0).2.2)
def EG (id stride:Nat):List Sh->List A->Nat->List Bool×List A×List (Nat×Obj)
  | [],_,_=>([],[],[])
  | s::ss,rs,j=>((back (id+stride*j) s (rs.getD j .undef)).1++(EG id stride ss rs (j+1)).1,(back (id+stride*j) s (rs.getD j .undef)).2.1::(EG id stride ss rs (j+1)).2.1,
     (back (id+stride*j) s (rs.getD j .undef)).2.2++(EG id stride ss rs (j+1)).2.2)
def GH (rb:Nat):Sh->A->List Bool×Obj×List (Nat×Obj)
  | .box ks,a=>(a.isAgg ks.length::(DT (rb+1) ks a.Uf 0).1,.box (DT (rb+1) ks a.Uf 0).2.1,(DT (rb+1) ks a.Uf 0).2.2)
  | .map kt vt,a=>([a.l9 kt vt],.mp a.toM,[])
  | _,_=>([false],.box [],[])
def EI (rb:Nat->Nat) (rs:List A):List (Nat×Sh)->Nat->List Bool×List (Nat×Obj)×List (Nat×Obj)
  | [],_=>([],[],[])
  | (o,s)::r,j=>((GH (rb o) s (rs.getD j .undef)).1++(EI rb rs r (j+1)).1,
      (o,(GH (rb o) s (rs.getD j .undef)).2.1)::(EI rb rs r (j+1)).2.1,(GH (rb o) s (rs.getD j .undef)).2.2++(EI rb rs r (j+1)).2.2)
def FD (fet:Fet) (o:Nat):Nat:=match Fp fet o with
  | some cs=>bif cs.any (fun c=>c.FN.any (fun i=>Nat.blt o i&&Nat.ble i (o+100)))then o+100 else o
  | none=>o
def nodup:List Nat->Bool
  | []=>true
  | n::r=> !(has r n)&&nodup r
def Fe (id:Nat):List (Bool×CK)->List A->List (Nat×Nat)
  | (true,.sl _ _)::ks,.own o::cs=>(o,id)::Fe (id+1) ks cs
  | (true,.sln _ _)::ks,.own o::cs=>(o,id)::Fe (id+1) ks cs
  | (true,.bx _)::ks,.ptr o _::cs=>(o,id)::Fe (id+1) ks cs
  | _::ks,_::cs=>Fe (id+1) ks cs
  | _,_=>[]
def Hq (fet:Fet) (id:Nat):Sh->A->List (Nat×Nat)
  | .cell u k,a=>Fe id [(u,k)] [a]
  | .agg ks,.agg cs=>Fe (id+1) ks cs
  | .box ks,.ptr o _=>(o,id)::(match Fp fet o with | some cs=>Fe (id+1) ks cs | none=>[])
  | .map _ _,.own o=>[(o,id)]
  | .clo _ ks,.clo _ o=>(o,id)::(match Fp fet o with | some cs=>Fe (id+1) ks cs | none=>[])
  | _,_=>[]
def Gs (fet:Fet):Nat->Nat->List Sh->List A->List (Nat×Nat)
  | id,stride,s::ss,x::xs=>Hq fet id s x++Gs fet (id+stride) stride ss xs
  | _,_,_,_=>[]
end Go.Proofs.YtbnphelpndnnfabGreatDoor.Vm
namespace Go.Proofs.YtbnphelpndnnfabGreatDoor.Vm
def zH:Nat->Option (IntKind×List Int)
  | 0=>some (.i64,[31,28,31,30,31,30,31,31,30,31,30,31])
  | _=>none
def Ar6 (j:Nat):Option (IntKind×List Int)->Option (Value->Prop)
  | some (k,ns)=>if j<ns.length then some (fun v=>v= .int k (ns.getD j 0))else none
  | none=>none
def Ank:Nat->Nat->Option (Value->Prop)
  | 1,0=>some (fun v=> ∃ m,v= .int .i64 m)
  | 2,j=>if j<20 then some (fun v=>v= .int .u64 ((10 ^ j:Nat):Int))else none
  | g,j=>Ar6 j (zH g)
def Ar7:Nat->Option Nat
  | 2=>some 20
  | _=>none
def ApG:Option (IntKind×List Int)->A
  | some (k,ns)=>.elt (ns.map (.int k))
  | none=>.undef
theorem Aq5 {g:Nat} {q:IntKind×List Int} (h:zH g=some q) (j:Nat):Ank g j=Ar6 j (some q):=by
  rw[<- h]
  unfold Ank
  split<;>first | rfl | (exfalso;cases h;done)
def EH (tmps:List A):Operand->A
  | .tmp t=>tmps.getD t .undef
  | .const v=>ofConst v
  | .func f=>.fn (f+1)
  | .global g=>ApG (zH g)
def b2 (d:Nat):Nat:=(d+128)*256
def Ec {α :Type} (o:Option α) (k: α ->Dl):Dl:=match o with | some x=>k x | none=>.no
def Fq (C:Ctx) (t:Nat) (k:TI->Dl):Dl:=Ec (C.T t) k
def elem? :TypeDesc->Option Nat
  | .slice e=>some e
  | _=>none
def elemOf (C:Ctx) (t:Nat) (k:Nat->TI->Dl):Dl:=Fq C t fun ti=>Ec (elem? ti.d) fun e=>Fq C e fun te=>k e te
structure Arr where
  e:Nat
  frz:Bool
  l:Sl
def Vu (fet:Fet) (o:Nat):Option Arr:=match Dy fet o with | some (.arr e frz l)=>some ⟨e,frz,l⟩ | _=>none
def one? {α :Type}:List α ->Option α
  | [k]=>some k
  | _=>none
def AdV:List CK->Bool
  | [.ptr]=>true
  | _=>false
def P9 (ti:TI) (cs:List A) (off:Nat) (pre:List Bool):Dl :=
  bif ti.agg then .g (pre++(forces cs ti.cs off).1) (.agg (forces cs ti.cs off).2)
  else Ec (one? ti.cs) fun k=>.g (pre++(force k (cs.getD off .undef)).1) (force k (cs.getD off .undef)).2
def isRow (ti:TI) (l:Sl) (i off:Nat):Bool:=Nat.blt 1 ti.cs.length&&Nat.beq l.sz 1&&Nat.beq off 0&&Nat.beq i 0
def nO (l:Sl) (n:Nat):List A:=(List.range n).map fun j=>(l.at j).getD 0 .undef
def Xt (t:Ty) (cs:List A):Bool×List t.Val:=(cs.all (fun c=>(t.mk [c]).1),cs.map (fun c=>(t.mk [c]).2))
def Us (C:Ctx) (fet:Fet) (t:Nat) (a:A):Dl :=
  Fq C t fun ti=>match a with
  | .ptr o off=>Ec (Fp fet o) fun cs=>.g [Nat.ble (off+ti.cs.length) cs.length,Nat.blt 0 ti.cs.length] (Aae ti cs off)
  | .elt cs=>P9 ti cs 0 [Nat.ble ti.cs.length cs.length]
  | .clo k o=>.g [Nat.beq k 0,AdV ti.cs,!ti.agg] (.ptr o 0)
  | .EN o i off=>Ec (Vu fet o) fun r=>bif isRow ti r.l i off then P9 ti (nO r.l ti.cs.length) 0 [Nat.ble ti.cs.length r.l.xs.length,true]else P9 ti (r.l.at i) off [Nat.ble (off+ti.cs.length) r.l.sz,decide (i<r.l.xs.length)]
  | _=>.no
def NH (C:Ctx) (fet:Fet) (t:Nat) (a v:A):Dl :=
  Fq C t fun ti=>match a with
  | .ptr o off=>Ec (Fp fet o) fun cs =>
      {ok:=[v.isVal,Nat.beq v.cells.length ti.cs.length,Nat.ble (off+ti.cs.length) cs.length,Nat.blt 0 ti.cs.length],val:=.undef,
       upd:=[(o,.box (splice cs off (EO (FD fet o+1+off) ti.cs v.cells).1))],new:=(EO (FD fet o+1+off) ti.cs v.cells).2}
  | .EN o i off=>Ec (Vu fet o) fun r=>bif isRow ti r.l i off then
      {ok:=(Eu fet ti.cs v.cells).1++[!r.frz,(Xt r.l.t (Eu fet ti.cs v.cells).2.1).1,Nat.beq ti.cs.length r.l.xs.length,true,Nat.blt 0 ti.cs.length,!(has ((Eu fet ti.cs v.cells).2.2.map (·.1)) o)],val:=.undef,
       upd:=(Eu fet ti.cs v.cells).2.2++[(o,.arr r.e false ⟨r.l.t,(Xt r.l.t (Eu fet ti.cs v.cells).2.1).2⟩)]}else
      {ok:=(Eu fet ti.cs v.cells).1++[!r.frz,(r.l.set i off (Eu fet ti.cs v.cells).2.1).1,Nat.ble (off+ti.cs.length) r.l.sz,decide (i<r.l.xs.length),Nat.blt 0 ti.cs.length,!(has ((Eu fet ti.cs v.cells).2.2.map (·.1)) o)],val:=.undef,
       upd:=(Eu fet ti.cs v.cells).2.2++[(o,.arr r.e false (r.l.set i off (Eu fet ti.cs v.cells).2.1).2)]}
  | _=>.no
def adK (C:Ctx) (d:Nat) (ti:TI):List CK:=bif has C.cuts d then []else ti.cs
def PL (C:Ctx) (d:Nat) (t:Nat) (v:A):Dl :=
  Fq C t fun ti=> {ok:=[v.isVal,Nat.beq v.cells.length ti.cs.length],val:=.ptr (b2 d) 0,new:=(b2 d,.box (EO (b2 d+1) (adK C d ti) v.cells).1)::(EO (b2 d+1) (adK C d ti) v.cells).2}
def WT (off n:Nat) (fet:Fet):A->Dl
  | .ptr o p=>Ec (Fp fet o) fun cs=>.g [Nat.ble (p+off+n) cs.length] (.ptr o (p+off))
  | .elt cs=>.g [Nat.ble (off+n) cs.length] (.elt (cs.drop off))
  | .EN o i p=>Ec (Vu fet o) fun r=>.g [decide (i<r.l.xs.length)] (.EN o i (p+off))
  | _=>.no
def jK:TypeDesc->Option (Nat×Nat)
  | .array n e=>some (n,e)
  | _=>none
def int? :A->Option Int
  | .int _ n=>some n
  | _=>none
def ApV:CK->Option IntKind
  | .int k=>some k
  | _=>none
def AcW (C:Ctx) (t:Nat) (k:Nat->IntKind->Dl):Dl:=Fq C t fun ti=>Ec (jK ti.d) fun p=>Fq C p.2 fun te=>bif te.agg then .no else Ec (one? te.cs) fun c=>Ec (ApV c) fun kk=>k p.1 kk
def lS (cs:List A) (n:Int):Int:=(cs.map A.toI).getD n.toNat 0
def Xg (C:Ctx) (fet:Fet) (t:Nat) (x:A) (i:A):Dl :=
  match x with
  | .EN o i0 off0=>Ec (int? i) fun n=>Fq C t fun ti=>Ec (jK ti.d) fun p=>Fq C p.2 fun te=>Ec (Vu fet o) fun r =>
      .g [Nat.beq i0 0,Nat.beq off0 0,Nat.beq r.l.sz te.cs.length,decide (0<=n),decide (n<(p.1:Int)),decide (n.toNat<r.l.xs.length)] (.EN o n.toNat 0)
  | .elt cs=>Ec (int? i) fun n=>AcW C t fun m kk=>.g [cs.all (A.isI kk),Nat.beq cs.length m,decide (0<=n),decide (n<(m:Int))] (.elt [.int kk (lS cs n)])
  | x =>
  Ec (int? i) fun n=>elemOf C t fun _ te=>match x with
  | .own o=>Ec (Vu fet o) fun r=>.g [Nat.beq r.l.sz te.cs.length,decide (0<=n),decide (n<r.l.xs.length)] (.EN o n.toNat 0)
  | .sl l=>.g [Nat.beq l.sz te.cs.length,Nat.blt 0 l.sz,decide (0<=n),decide (n<l.xs.length)] (.elt (l.at n.toNat))
  | .bsl o k=>Ec (Fp fet o) fun cs=>.g [Nat.beq te.cs.length 1,decide (0<=n),Nat.blt n.toNat k,Nat.blt n.toNat cs.length] (.ptr o n.toNat)
  | _=>.no
def Ake:A->Option (List UInt8)
  | .str s=>some s
  | _=>none
def AdT (C:Ctx) (t:Nat) (x i:A):Dl :=
  Ec (int? i) fun n=>match x with
  | .agg cs=>AcW C t fun m kk=>.g [cs.all (A.isI kk),Nat.beq cs.length m,decide (0<=n),decide (n<(m:Int))] (.int kk (lS cs n))
  | x=>Ec (Ake x) fun s=>Fq C t fun ti=>.g [wW ti.d,decide (0<=n),decide (n<s.length)] (.int .u8 ((s.getD n.toNat 0).toNat:Int))
def Acf (len:Nat):Option A->Option A->Option (List Bool×Nat×Nat)
  | none,none=>some ([],0,len)
  | some (.int _ a),none=>some ([decide (0<=a),decide (a<=len)],a.toNat,len)
  | none,some (.int _ b)=>some ([decide (0<=b),decide (b<=len)],0,b.toNat)
  | some (.int _ a),some (.int _ b)=>some ([decide (0<=a),decide (a<=b),decide (b<=len)],a.toNat,b.toNat)
  | _,_=>none
def D9 {α :Type} (l:List α) (a b:Nat):List α :=(l.take b).drop a
def FC (C:Ctx) (fet:Fet) (t:Nat) (x:A) (lo hi:Option A):Dl :=
  Fq C t fun ti=>match x with
  | .str s=>Ec (Acf s.length lo hi) fun r=>.g (wW ti.d::r.1) (.str (D9 s r.2.1 r.2.2))
  | .sl l=>Ec (Acf l.xs.length lo hi) fun r=>Ec (elem? ti.d) fun e=>Fq C e fun te=>.g (Nat.beq l.sz te.cs.length::r.1) (.sl ⟨l.t,D9 l.xs r.2.1 r.2.2⟩)
  | .own o=>Ec (Vu fet o) fun ro=>Ec (Acf ro.l.xs.length lo hi) fun r=>Ec (elem? ti.d) fun e=>Fq C e fun te =>
      {ok:=Nat.beq ro.l.sz te.cs.length::r.1,val:=.sl ⟨ro.l.t,D9 ro.l.xs r.2.1 r.2.2⟩,upd:=bif ro.frz then []else [(o,.arr ro.e true ro.l)]}
  | _=>.no
def vK (C:Ctx) (fet:Fet) (d t:Nat) (x hi:A):Dl :=
  Fq C t fun ti=>match x with
  | .own o=>Ec (Vu fet o) fun ro=>Ec (Acf ro.l.xs.length none (some hi)) fun r=>Ec (elem? ti.d) fun e=>Fq C e fun te =>
      {ok:=Nat.beq ro.l.sz te.cs.length::r.1++[!ro.frz],val:=.own (b2 d),new:=[(b2 d,.arr ro.e false ⟨ro.l.t,D9 ro.l.xs r.2.1 r.2.2⟩)],del:=[o]}
  | _=>.no
def nX (C:Ctx) (fet:Fet) (t:Nat) (x a:A):Dl :=
  Fq C t fun ti=>match x with
  | .own o=>Ec (Vu fet o) fun ro=>Ec (int? a) fun n=>Ec (elem? ti.d) fun e=>Fq C e fun te=>.g [Nat.beq ro.l.sz te.cs.length,decide (0<=n),decide (n<(ro.l.xs.length:Int))] (.osl o n.toNat)
  | _=>.no
def AjK (ys:List Int) (k:Nat) (s:List UInt8):List Int:=ys.take k++s.map (fun(b:UInt8)=>((b.toNat:Int)))++ys.drop (k+s.length)
def Aid (C:Ctx) (fet:Fet) (ts:List Nat) (x y:A):Dl :=
  match ts with
  | [t,_]=>elemOf C t fun _ te=>match x with
    | .osl o k=>Ec (Vu fet o) fun r=>Ec (r.l.cast KA) fun ys=>Ec (Ake y) fun s =>
      {ok:=[AdY te.d,Nat.beq te.cs.length 1,!r.frz,decide (0<s.length),decide (k+s.length<=ys.length)],val:=.int .i64 (s.length:Int),upd:=[(o,.arr r.e false ⟨KA,AjK ys k s⟩)]}
    | _=>.no
  | _=>.no
def mapOf (C:Ctx) (t:Nat) (k:TI->TI->Dl):Dl:=Fq C t fun ti=>match ti.d with
  | .map a b=>Fq C a fun ta=>Fq C b fun tb=>k ta tb
  | _=>.no
def mp? (fet:Fet):A->Option (Nat×Mp)
  | .own o=>match Dy fet o with
    | some (.mp l)=>some (o,l)
    | _=>none
  | _=>none
def AmB (C:Ctx) (ta:TI):Bool:=match ta.d with
  | .string=>true
  | .int _=>true
  | .array n e=>match C.T e with
    | some te=>wW te.d&&Nat.blt 1 n
    | none=>false
  | _=>false
def Aio (ti:TI):Bool:=ti.agg== !(Nat.beq ti.cs.length 1)
def Am5:A->Bool
  | .agg [_]=>false
  | _=>true
def Aig (C:Ctx) (ta tb:TI) (l:Mp) (i:A):List Bool:=[AmB C ta,Aio tb,decide (l.kt=tyl ta.cs),decide (l.vt=tyl tb.cs),i.isVal,Am5 i,(l.kt.mk i.cells).1]
def Qa (C:Ctx) (d t:Nat) (r:List A):Dl:=mapOf C t fun ta tb =>
  {ok:=[r.isEmpty],val:=.own (b2 d),new:=[(b2 d,.mp ⟨tyl ta.cs,tyl tb.cs,[]⟩)]}
def AfM (l:Mp) (c:Bool) (r:Option l.vt.Val):A :=
  bif c then .tup [H7 (l.vt.cells (r.getD l.vt.zero)),.bool r.isSome]else H7 (l.vt.cells (r.getD l.vt.zero))
def Aab (C:Ctx) (fet:Fet) (t:Nat) (c:Bool) (x i:A):Dl:=mapOf C t fun ta tb=>Ec (mp? fet x) fun p =>
  .g (Aig C ta tb p.2 i++[tb.cs.all CK.plain]) (AfM p.2 c (ML p.2.kt (p.2.kt.mk i.cells).2 p.2.l))
def jH (C:Ctx) (fet:Fet) (t:Nat) (x i v:A):Dl:=mapOf C t fun ta tb=>Ec (mp? fet x) fun p =>
  {ok:=Aig C ta tb p.2 i++[v.isVal,Am5 v]++(Eu fet tb.cs v.cells).1++[(p.2.vt.mk (Eu fet tb.cs v.cells).2.1).1],val:=.undef,
   upd:=(Eu fet tb.cs v.cells).2.2++[(p.1,.mp ⟨p.2.kt,p.2.vt,Qb p.2.kt (p.2.kt.mk i.cells).2 (p.2.vt.mk (Eu fet tb.cs v.cells).2.1).2 p.2.l⟩)]}
def fO (C:Ctx) (fet:Fet) (t:Nat) (x i:A):Dl:=mapOf C t fun ta tb=>Ec (mp? fet x) fun p =>
  {ok:=Aig C ta tb p.2 i,val:=.tup [],upd:=[(p.1,.mp ⟨p.2.kt,p.2.vt,Ym p.2.kt (p.2.kt.mk i.cells).2 p.2.l⟩)]}
def AfK (C:Ctx) (fet:Fet) (t:Nat) (x:A):Dl :=
  Fq C t fun ti=>match ti.d with
  | .string=>Ec (Ake x) fun s=>.v (.int .i64 (s.length:Int))
  | .array n _=>.v (.int .i64 (n:Int))
  | .slice _=>match x with
    | .bsl o k=>Ec (Fp fet o) fun _=>.v (.int .i64 (k:Int))
    | x=>.g (rd fet x).1 (.int .i64 ((rd fet x).2.xs.length:Int))
  | .map _ _=>Ec (mp? fet x) fun p=>.v (.int .i64 (p.2.l.length:Int))
  | _=>.no
def IX (fet:Fet) (t:Ty):A->List Bool×List t.Val
  | .str s=>match t with
    | .int .u8 .nil=>([],s.map (fun(b:UInt8)=>((b.toNat:Int))))
    | _=>([false],[])
  | y=>rdT fet t y
def dD (C:Ctx) (fet:Fet) (d:Nat) (t:Nat) (x y:A):Dl :=
  elemOf C t fun e te=>match x with
  | .own o=>Ec (Vu fet o) fun r =>
      {ok:=(IX fet r.l.t y).1++[Nat.beq e r.e,Nat.beq r.l.sz te.cs.length,Nat.blt 0 r.l.sz,decide ((r.l.xs.length+(IX fet r.l.t y).2.length)*(te.bytes+1)<=140737488355328)],
       val:=.own (b2 d),new:=[(b2 d,.arr r.e r.frz ⟨r.l.t,r.l.xs++(IX fet r.l.t y).2⟩)],del:=[o]}
  | .ER =>
      {ok:=(IX fet (tyl te.cs) y).1++[Nat.blt 0 te.cs.length,decide ((IX fet (tyl te.cs) y).2.length*(te.bytes+1)<=140737488355328)],
       val:=.own (b2 d),new:=[(b2 d,.arr e false ⟨tyl te.cs,(IX fet (tyl te.cs) y).2⟩)]}
  | _=>.no
def TR (C:Ctx) (fet:Fet) (src dst:Nat) (x:A):Dl :=
  Fq C src fun s=>Fq C dst fun t=>match t.d,x with
  | .int k,.int _ n=>.v (.int k (k.wrap n))
  | .string,.str l=>.v (.str l)
  | .string,.int _ _=>.no
  | .string,x=>Ec (elem? s.d) fun e=>Fq C e fun te=>.g (AdY te.d::((rdB fet x).1++[(rdB fet x).2.all isByte])) (.str ((rdB fet x).2.map byteOf))
  | _,_=>.no
def tX (C:Ctx) (d s t:Nat) (l:List UInt8):Dl:=Fq C s fun _=>elemOf C t fun e te =>
  {ok:=[AdY te.d,decide (l.length<=140737488355328)],val:=.own (b2 d),new:=[(b2 d,.arr e false ⟨KA,l.map (fun(b:UInt8)=>((b.toNat:Int)))⟩)]}
def Ajk:TypeDesc->Bool | .slice _=>true | _=>false
def zT (C:Ctx) (o:Oper) (fet:Fet) (s t:Nat) (x:A):Dl :=
  match x with
  | .str l=>Fq C t fun tt=>bif Ajk tt.d then Ec o.dst fun d=>tX C d s t l else TR C fet s t (.str l)
  | x=>TR C fet s t x
def ApS (C:Ctx) (t:Nat):Option (Nat×IntKind):=match C.T t with
  | some ti=>match jK ti.d with
    | some (n,e)=>match C.T e with
      | some te=>match te.cs with
        | [.int k]=>some (n,k)
        | _=>none
      | none=>none
    | none=>none
  | none=>none
def tH (C:Ctx) (d t:Nat) (v:A):Dl:=match ApS C t with
  | some (n,k)=>match v with
    | .agg cs=> {ok:=[cs.all (A.isI k),Nat.beq cs.length n,Nat.ble n 16777216],val:=.EN (b2 d) 0 0,new:=[(b2 d,.arr t false ⟨.int k .nil,cs.map A.toI⟩)]}
    | _=>.no
  | none=>PL C d t v
def U9 (C:Ctx) (d t:Nat):Dl:=Fq C t fun ti=>match jK ti.d with
  | some (n,e)=>Fq C e fun te=> {ok:=[te.cs.all CK.plain,Nat.blt 0 te.cs.length,Nat.blt 0 n,Nat.ble n 16777216,decide (ti.cs=(List.replicate n te.cs).flatten)],val:=.EN (b2 d) 0 0,new:=[(b2 d,.arr t false ⟨tyl te.cs,List.replicate n (tyl te.cs).zero⟩)]}
  | none=>PL C d t (.agg (ti.cs.map CK.zero))
def Aen (fet:Fet) (s:Bool) (d:TypeDesc) (x:A):Option Bool :=
  match s,d,x with
  | true,.slice _,.ER=>some true
  | true,.slice _,.sln l=>some l.xs.isEmpty
  | false,.pointer _,.Fj=>some true
  | false,.pointer _,.ptr o _=>(Fp fet o).map (fun _=>false)
  | _,_,_=>none
def AfU (C:Ctx) (fet:Fet) (s:Bool) (t:Nat) (x:A) (k:Bool->Dl):Dl:=Fq C t fun ti=>Ec (Aen fet s ti.d x) k
def Aia (C:Ctx) (t:Nat) (r:Bool):Dl:=Fq C t fun ti=>.g [AfH ti.d] (.bool r)
def AlM (C:Ctx) (fet:Fet) (op:BinOp) (t:Nat) (x y:A):Dl :=
  match x,y with
  | .int k a,.int k' b=>match op with
    | .shl=>.g [decide (0<=b)] (.int k (k.wrap (a*2 ^ (min b.toNat k.bits))))
    | .shr=>.g [decide (0<=b)] (.int k (a.fdiv (2 ^ (min b.toNat k.bits))))
    | op=>bif A.kEq k k' then sZ op k a b else .no
  | .str a,.str b=>tC op a b
  | .bool a,.bool b=>match op with
    | .eql=>Aia C t (a==b)
    | .neq=>Aia C t (!(a==b))
    | _=>.no
  | .agg x,.agg y=>Fq C t fun ti=>match op with
    | .eql=>.g [!ti.cmp.isEmpty,(Jm ti.cmp x y).1] (.bool (Jm ti.cmp x y).2)
    | .neq=>.g [!ti.cmp.isEmpty,(Jm ti.cmp x y).1] (.bool (!(Jm ti.cmp x y).2))
    | _=>.no
  | x,.ER=>match op with
    | .eql=>AfU C fet true t x fun v=>.v (.bool v)
    | .neq=>AfU C fet true t x fun v=>.v (.bool (!v))
    | _=>.no
  | x,.Fj=>match op with
    | .eql=>AfU C fet false t x fun v=>.v (.bool v)
    | .neq=>AfU C fet false t x fun v=>.v (.bool (!v))
    | _=>.no
  | _,_=>.no
def unX:UnOp->A->Dl
  | .not,.bool b=>.v (.bool !b)
  | .neg,.int k n=>.v (.int k (k.wrap (0 - n)))
  | .xor,.int k n=>.v (.int k (Ee .xor k (if k.signed then -1 else k.max) n))
  | _,_=>.no
def Aip (c a b:A):Dl:=.g [c.II.1,c.II.2.isB,(bif c.II.2.toB then a.II.1 else b.II.1),(bif c.II.2.toB then a.II.2.isB else b.II.2.isB)] (.bool (bif c.II.2.toB then a.II.2.toB else b.II.2.toB))
def lL (C:Ctx) (d:Nat) (t:Nat) (l c:A):Dl :=
  Ec (int? l) fun n=>Ec (int? c) fun m=>elemOf C t fun e te =>
   {ok:=[decide (n<=m),decide (0<=n),decide (m*(te.bytes+1)<=140737488355328),Nat.blt 0 te.cs.length,te.cs.all CK.plain],val:=.own (b2 d),
    new:=[(b2 d,.arr e false ⟨tyl te.cs,List.replicate n.toNat (tyl te.cs).zero⟩)]}
def tK (C:Ctx) (t:Nat) (ps:List (Nat×A)):Dl:=Fq C t fun ti=>Ec (fill C ti.d ps (ti.cs.map CK.zero)) fun cs=>.g [ti.agg] (.agg cs)
def Kq (C:Ctx) (fet:Fet) (d t n:Nat) (ps:List (Nat×A)):Dl:=elemOf C t fun e te =>
  {ok:=(GL fet te (tyl te.cs) ps (List.replicate n (tyl te.cs).zero)).1++[Nat.ble (n*te.cs.length) 16777216,Nat.blt 0 te.cs.length,te.cs.all CK.plain],val:=.own (b2 d),
   new:=[(b2 d,.arr e false ⟨tyl te.cs,(GL fet te (tyl te.cs) ps (List.replicate n (tyl te.cs).zero)).2.1⟩)],upd:=(GL fet te (tyl te.cs) ps (List.replicate n (tyl te.cs).zero)).2.2}
def tJ (C:Ctx) (d t n:Nat) (ps:List (Nat×A)):Dl:=elemOf C t fun e te=>Ec (fill C (.array n e) ps (List.replicate n .Fj)) fun cs =>
  {ok:=[AdV te.cs,Nat.ble n 16777216,Nat.blt 0 n,ps.all fun p=>p.2.isVal&& !p.2.isAgg 0],val:=.bsl (b2 d) n,new:=(b2 d,.box (EO (b2 d+1) [] cs).1)::(EO (b2 d+1) [] cs).2}
def AdW:List (Nat×A)->Bool
  | (_,.ptr _ _)::_=>true
  | _=>false
def NT (C:Ctx) (fet:Fet) (t f:Nat) (x:A):Dl :=
  Fq C t fun ti=>Ec (Aex C ti.d f) fun p=>match WT p.1 p.2.cs.length fet x with
  | δ => {δ with ok:=Nat.blt 0 p.2.cs.length:: δ.ok}
def AqJ:A->Option (List A)
  | .agg cs=>some cs
  | _=>none
def AdE (C:Ctx) (t f:Nat) (x:A):Dl :=
  Fq C t fun ti=>Ec (Aex C ti.d f) fun p=>Ec (AqJ x) fun cs=>.g [Nat.ble (p.1+p.2.cs.length) cs.length,Nat.blt 0 p.2.cs.length] (Aae p.2 cs p.1)
def ArC:A->Option (List A)
  | .tup vs=>some vs
  | _=>none
def kT (i:Nat) (x:A):Dl:=Ec (ArC x) fun vs=>.g [Nat.blt i vs.length] (vs.getD i .undef)
def Qx (fet:Fet):A->Dl
  | .ptr o off=>Ec (Fp fet o) fun _=>.v (.ptr o off)
  | _=>.no
structure Hand where
  ok:List Bool
  vs:List A
  upd:List (Nat×Obj)
  del:List Nat
  boxes:List (Nat×Sh)
def Aiq:List A->A
  | [v]=>v
  | vs=>.tup vs
def Aic (rb:Nat->Nat) (d:Nat) (sg:Sig) (N:List (Nat×Nat)) (n:Nat) (h:Hand) (ok:Bool) (rs:List A):Dl :=
  ⟨h.ok++[ok]++(EG (b2 d) 16 sg.DI rs 0).1++(EI rb (rs.drop sg.DI.length) h.boxes 0).1++[nodup (N.map (·.1)),Nat.ble n 100,Nat.beq rs.length (sg.DI.length+h.boxes.length),!(sg.Dv.any wS)||h.upd.isEmpty],
    Aiq (EG (b2 d) 16 sg.DI rs 0).2.1,
    (EG (b2 d) 16 sg.DI rs 0).2.2++(EI rb (rs.drop sg.DI.length) h.boxes 0).2.2,
    h.upd++(EI rb (rs.drop sg.DI.length) h.boxes 0).2.1,h.del,[]⟩
def Yb (fet:Fet) (ss:List Sh) (xs:List A):Hand:=⟨(DN fet ss xs).1,(DN fet ss xs).2.1,(DN fet ss xs).2.2.1,(DN fet ss xs).2.2.2.1,(DN fet ss xs).2.2.2.2⟩
def Je (fet:Fet) (d:Nat) (sg:Sig) (args:List A):Dl:=Aic (FD fet) d sg (Gs fet 0 256 sg.Dv args) args.length (Yb fet sg.Dv args) (sg.ok (Yb fet sg.Dv args).vs) (sg.val (Yb fet sg.Dv args).vs)
def Aeg (n:Nat):Obj->Bool | .box cs=>Nat.beq cs.length n | _=>false
def Akd (j:Nat) (c:A):Obj->Obj | .box cs=>.box (cs.set j c) | x=>x
def eqC:A->A->Bool | .str a,.str b=>a==b | .int k a,.int k' b=>A.kEq k k'&&a==b | .bool a,.bool b=>a==b | _,_=>false
def eqU (j:Nat) (c:A):Obj->Bool | .box cs=>eqC (cs.getD j .undef) c | _=>false
def P8 (fet:Fet) (a:A) (j:Nat) (δ :Dl):Dl:=match a with
  | .ptr q _=>match Fp fet q with
    | some cs=>bif Nat.blt j cs.length&& δ.upd.all (fun p=> !(Nat.beq p.1 q)||Aeg cs.length p.2)
      then {δ with ok:= δ.ok++ δ.upd.map (fun p=>bif Nat.beq p.1 q then eqU j (cs.getD j .undef) p.2 else true),upd:= δ.upd.map (fun p=>bif Nat.beq p.1 q then(p.1,Akd j (cs.getD j .undef) p.2)else p),same:=(q,j):: δ.same}
      else δ
    | none=> δ
  | _=> δ
def keepD (fet:Fet) (args:List A):List (Nat×Nat)->Dl->Dl
  | [],δ => δ
  | (i,j)::r,δ =>keepD fet args r (P8 fet (args.getD i .undef) j δ)
def WY (C:Ctx) (fet:Fet) (d:Nat) (f:Nat) (args:List A):Dl :=
  match C.G f with
  | some sg=>keepD fet args (C.kept f) (Je fet d sg args)
  | none=>.no
def AiK (C:Ctx) (fet:Fet) (d t:Nat) (c:A) (args:List A):Dl :=
  match c with
  | .fn n=>match C.dyn t with
    | some sg=>Je fet d (sg n) args
    | none=>.no
  | .clo f o=>Ec (Fp fet o) fun _=>match C.dyn t with
    | some sg=>Je fet d (sg f) (args++[.clo 0 o])
    | none=>.no
  | _=>.no
def AmX:List A->Option Nat
  | [.ptr o 0]=>some o
  | _=>none
def Afm (fet:Fet) (f:Nat):A->Dl
  | .ptr q off=>Ec (Fp fet q) fun cs=>Ec (AmX cs) fun o=> {ok:=[Nat.beq off 0],val:=.clo (f+1) o,del:=[q]}
  | _=>.no
def a0 (k:Dl):List A->Dl
  | []=>k
  | _=>.no
def a1 (k:A->Dl):List A->Dl
  | [a]=>k a
  | _=>.no
def a2 (k:A->A->Dl):List A->Dl
  | [a,b]=>k a b
  | _=>.no
def a3 (k:A->A->A->Dl):List A->Dl
  | [a,b,c]=>k a b c
  | _=>.no
def AoQ (C:Ctx) (o:Oper) (fet:Fet) (ts:List Nat) (x y:A):Dl :=
  match ts with
  | [t,u]=>Fq C u fun tu=>Ec o.dst fun d=>match dD C fet d t x y with
    | δ => {δ with ok:=TW tu.d:: δ.ok}
  | _=>.no
def slX (C:Ctx) (dst:Option Nat) (fet:Fet) (t:Nat) (lo hi mx:Option Operand):List A->Dl :=
  match mx,lo,hi with
  | none,none,none=>a1 fun x=>FC C fet t x none none
  | none,some _,none=>a2 fun x a=>match dst with
    | some d=>bif has C.cuts d then nX C fet t x a else FC C fet t x (some a) none
    | none=>FC C fet t x (some a) none
  | none,none,some _=>a2 fun x b=>match dst with
    | some d=>bif has C.cuts d then vK C fet d t x b else FC C fet t x none (some b)
    | none=>FC C fet t x none (some b)
  | none,some _,some _=>a3 fun x a b=>FC C fet t x (some a) (some b)
  | _,_,_=>fun _=>.no
def AmM:A->A->Dl
  | .int k a,.int k' b=>bif A.kEq k k' then .v (.int k (bif decide (b<a)then b else a))else .no
  | _,_=>.no
def AmK:A->A->Dl
  | .int k a,.int k' b=>bif A.kEq k k' then .v (.int k (bif decide (a<b)then b else a))else .no
  | _,_=>.no
def blX (C:Ctx) (o:Oper) (fet:Fet) (ts:List Nat):Builtin->List A->Dl
  | .len=>a1 fun x=>Ec (one? ts) fun t=>AfK C fet t x
  | .append=>a2 fun x y=>AoQ C o fet ts x y
  | .min=>a2 AmM
  | .max=>a2 AmK
  | .copy=>a2 fun x y=>Aid C fet ts x y
  | .delete=>a2 fun x y=>match ts with
    | t::_=>fO C fet t x y
    | []=>.no
  | _=>fun _=>.no
def opX (C:Ctx) (o:Oper) (v:List A) (fet:Fet):Dl :=
  match o.op with
  | .move _=>a1 (fun a=>.v a) v
  | .assign _=>a1 (fun a=>.v a) v
  | .pick _ _ _=>a3 (fun c a b=>Aip c a b) v
  | .alloc t=>a0 (Ec o.dst fun d=>U9 C d t) v
  | .box t _=>a1 (fun a=>Ec o.dst fun d=>tH C d t a) v
  | .build t ps=>tK C t ((ps.toList.map (·.1)).zip v)
  | .buildSlice t n ps=>Ec o.dst fun d=>bif AdW ((ps.toList.map (·.1)).zip v)then tJ C d t n ((ps.toList.map (·.1)).zip v)else Kq C fet d t n ((ps.toList.map (·.1)).zip v)
  | .load t _=>a1 (Us C fet t) v
  | .store t _ _=>a2 (fun a x=>bif o.dst.isNone then NH C fet t a x else .no) v
  | .nilCheck _=>a1 (Qx fet) v
  | .binOp op t _ _ _=>a2 (AlM C fet op t) v
  | .unOp op _ _=>a1 (unX op) v
  | .convert s t _=>a1 (zT C o fet s t) v
  | .makeSlice t _ _=>a2 (fun l c=>Ec o.dst fun d=>lL C d t l c) v
  | .slice t _ lo hi mx=>slX C o.dst fet t lo hi mx v
  | .fieldAddr t _ f=>a1 (NT C fet t f) v
  | .field t _ f=>a1 (AdE C t f) v
  | .indexAddr t _ _=>a2 (Xg C fet t) v
  | .index t _ _=>a2 (AdT C t) v
  | .extract _ i=>a1 (kT i) v
  | .makeFunc (.func f) fi _=>bif fi.isEmpty then a1 (Afm fet f) v else .no
  | .makeMap t _=>Ec o.dst fun d=>Qa C d t v
  | .lookup t _ _ c=>a2 (Aab C fet t c) v
  | .mapUpdate t _ _ _=>a3 (fun m i x=>bif o.dst.isNone then jH C fet t m i x else .no) v
  | .insert t _ _ _=>a3 (fun m i x=>bif o.dst.isNone then jH C fet t m i x else .no) v
  | .call ⟨.builtin b,_,ts⟩=>blX C o fet ts.toList b v
  | .call ⟨.value (.func f),_,_⟩=>match v with
    | _::vs=>WY C fet (o.dst.getD 0) f vs
    | []=>.no
  | .call ⟨.value (.tmp t),_,_⟩=>match v with
    | c::vs=>AiK C fet (o.dst.getD 0) t c vs
    | []=>.no
  | _=>.no
def fetch (Dj:List (Nat×Obj)):List Nat->Fet
  | []=>[]
  | n::r=>match Dy Dj n with
    | some x=>(n,x)::fetch Dj r
    | none=>fetch Dj r
def Eb (st:St) (vs:List A):Fet :=
  let f1:=fetch st.Dj (vs.flatMap A.ids)
  f1++fetch st.Dj (f1.flatMap (fun p=>p.2.ids))
def Ed (Dj:List (Nat×Obj)):List Nat->List (Nat×Obj)
  | []=>Dj
  | n::r=>Ed (KD Dj n) r
def DC (Dj:List (Nat×Obj)):List (Nat×Obj)->List (Nat×Obj)
  | []=>Dj
  | (n,x)::r=>DC (EZ Dj n x) r
def put (tmps:List A):Option Tmp->A->List A
  | some d,v=>tmps.set d v
  | none,_=>tmps
def apply (st:St) (o:Oper) (δ :Dl):St :=
  {tmps:=put st.tmps o.dst δ.val,Dj:=DC (Ed (DC st.Dj δ.upd) δ.del) δ.new}
def strips:List A->List Bool×List A
  | []=>([],[])
  | a::r=>(a.strip.1++(strips r).1,a.strip.2::(strips r).2)
def guardOf (ops:List Oper) (tmps:List A):Option (Nat×Bool)->Option (Option Bool)
  | none=>some none
  | some (j,want)=>match ops[j]? with
    | some oj=>match oj.dst with
      | some t=>match (tmps.getD t .undef)with
        | .bool b=>some (some (bif want then b else !b))
        | .cnd g (.bool b)=>some (some (g&&(bif want then b else !b)))
        | _=>none
      | none=>none
    | none=>none
def nU:Op->Bool
  | .move _=>true
  | .assign _=>true
  | .binOp _ _ _ _ _=>true
  | _=>false
def EJ:Op->List A->List Bool×List A
  | .pick _ _ _,vs=>([],vs)
  | op,vs=>((strips vs).1,bif nU op then(strips vs).2 else(strips vs).2.map A.weak)
def gZ (g:Bool):A->A->A
  | .bool x,.bool y=>.bool (bif g then y else x)
  | .int k x,.int _ y=>.int k (bif g then y else x)
  | .str x,.str y=>.str (bif g then y else x)
  | .sl l,.sl l'=>match l'.cast l.t with
    | some ys=>.sl ⟨l.t,bif g then ys else l.xs⟩
    | none=>.undef
  | .sln l,.sln l'=>match l'.cast l.t with
    | some ys=>.sln ⟨l.t,bif g then ys else l.xs⟩
    | none=>.undef
  | a,_=>a
def Yp:A->A->Bool
  | .bool _,.bool _=>true
  | .int k _,.int k' _=>A.kEq k k'
  | .str _,.str _=>true
  | .sl l,.sl l'=>(l'.cast l.t).isSome
  | .sln l,.sln l'=>(l'.cast l.t).isSome
  | .own o,.own o'=>Nat.beq o o'
  | .Fj,.Fj=>true
  | .undef,.undef=>true
  | _,_=>false
def Agx (g:Bool):List A->List A->List A
  | a::aa,b::bs=>gZ g a b::Agx g aa bs
  | _,_=>[]
def okM:List A->List A->Bool
  | [],[]=>true
  | a::aa,b::bs=>Yp a b&&okM aa bs
  | _,_=>false
def Ro (g:Bool):Option Obj->Obj->Obj
  | some (.box cs),.box ds=>.box (Agx g cs ds)
  | some (.arr e _ l),.arr _ true _=>.arr e true l
  | _,x=>x
def Yq (c:Bool):Option Obj->Obj->Bool
  | some (.box cs),.box ds=>okM cs ds
  | some (.arr e _ _),.arr e' true _=>c&&Nat.beq e e'
  | _,_=>false
def jY:Op->Bool
  | .call ⟨.value (.func _),_,_⟩=>true
  | .call ⟨.value (.tmp _),_,_⟩=>true
  | .slice _ _ _ _ _=>true
  | _=>false
def zY:Op->Bool
  | .call ⟨.value (.func _),_,_⟩=>true
  | _=>false
def KP (C:Ctx) (o:Oper) (st:St) (pre:List Bool):Dl :=
  match EJ o.op (o.op.operands.toList.map (EH st.tmps))with
    | (ok,vs)=>match opX C o vs (Eb st vs)with
      | δ => {δ with ok:=pre++(ok++ δ.ok++[δ.new.all (fun p=>st.fresh p.1),nodup (δ.new.map (·.1))]),same:=bif zY o.op then δ.same else []}
def Amc (C:Ctx) (o:Oper):Option Bool:=match o.dst with
  | some d=>C.dec d
  | none=>none
def Ew (C:Ctx) (ops:List Oper) (o:Oper) (st:St):Dl :=
  match guardOf ops st.tmps o.guard with
  | some none=>KP C o st []
  | some (some g)=>match Amc C o with
    | some true=>KP C o st [g]
    | some false=> {ok:=[!g],val:=.cnd false .undef}
    | none=>match EJ o.op (o.op.operands.toList.map (EH st.tmps))with
    | (ok,vs)=>match opX C o vs (Eb st vs)with
      | δ => {ok:=(ok++(δ.val.isVal:: δ.ok)).map (fun c=>c|| !g)++(δ.new.isEmpty:: δ.del.isEmpty::o.dst.isSome:: δ.upd.map (fun p=>Yq (jY o.op) (Dy (Eb st vs) p.1) p.2)),val:=.cnd g δ.val,
              upd:= δ.upd.map (fun p=>(p.1,Ro g (Dy (Eb st vs) p.1) p.2))}
  | none=>.no
def allT {α :Type}:List Bool->Option α ->Option α
  | [],r=>r
  | c::cs,r=>bif c then allT cs r else none
def Qd {α :Type} (C:Ctx) (ops:List Oper):List Oper->St->(St->Option α)->Option α
  | [],st,K=>K st
  | o::r,st,K=>match Ew C ops o st with
    | δ =>allT δ.ok (Qd C ops r (apply st o δ) K)
def WV (C:Ctx) (o:Oper):Option (Nat×Alt) :=
  match o.guard,o.op with
  | none,.call ⟨.value (.func f),_,_⟩=>(C.alt f).map (fun q=>(f,q))
  | _,_=>none
def AeX (o:Oper) (st:St) (q:Alt):Bool :=
  match (EJ o.op (o.op.operands.toList.map (EH st.tmps))).2 with
  | v::xs=>q.2.2 (Yb (Eb st (v::xs)) q.1.Dv xs).vs
  | []=>true
def Qc {α :Type} (C:Ctx) (ops:List Oper):List Oper->St->(St->Option α)->Option α
  | [],st,K=>K st
  | o::r,st,K=>match WV C o with
    | none=>allT (Ew C ops o st).ok (Qc C ops r (apply st o (Ew C ops o st)) K)
    | some (f,q)=>bif AeX o st q then allT (Ew (C.put f q.1) ops o st).ok (Qc C ops r (apply st o (Ew (C.put f q.1) ops o st)) K)
      else allT (Ew (C.put f q.2.1) ops o st).ok (Qc C ops r (apply st o (Ew (C.put f q.2.1) ops o st)) K)
abbrev Bs:=List UInt8
def chk {ρ :Type} (c:Bool) (k:Option ρ):Option ρ :=bif c then k else none
def Di {α ρ :Type} [Inhabited α] (o:Option α) (k: α ->Option ρ):Option ρ :=bif o.isSome then k (o.getD default)else none
def Dx {X Y ρ :Type} (B:X->(X->Option ρ)->(Y->Option ρ)->Option ρ):Nat->X->(Y->Option ρ)->Option ρ
  | 0,_,_=>none
  | n+1,x,kx=>B x (fun x'=>Dx B n x' kx) kx
def En (o:Oper) (st:St):List A:=(EJ o.op (o.op.operands.toList.map (EH st.tmps))).2
def dE:Op->List A->Bool
  | .move _,_=>true
  | .assign _,_=>true
  | .load _ _,[.clo _ _]=>true
  | _,_=>false
def dF:Op->List A->Option Nat
  | .nilCheck _,[.ptr o _]=>some o
  | .fieldAddr _ _ _,[.ptr o _]=>some o
  | .load _ _,[.ptr o _]=>some o
  | _,_=>none
def Fh (o:Oper) (st:St) (vs:List A):List Nat:=bif dE o.op vs then []else match dF o.op vs with
  | some q=>[q]
  | none=>vs.flatMap A.ids++(fetch st.Dj (vs.flatMap A.ids)).flatMap (fun p=>p.2.ids)
def oneOf (C:Ctx):Op->List A->Option (Nat×Nat×Nat)
  | .nilCheck _,[.ptr o _]=>some (o,0,0)
  | .fieldAddr _ _ _,[.ptr o _]=>some (o,0,0)
  | .load t _,[.ptr o off]=>match C.T t with
    | some ti=>bif Nat.blt 0 ti.cs.length then some (o,off,ti.cs.length)else none
    | none=>none
  | _,_=>none
structure EW where
  o:Oper
  δ :Dl
  rd:List Nat
  one:Option (Nat×Nat×Nat)
  anc:List Nat
def EW.news (x:EW):List Nat:=x.δ.new.map (·.1)
def EW.keys (x:EW):List Nat:=x.δ.upd.map (·.1)++x.δ.del++x.news
def EW.says (x:EW):List Nat:=x.δ.val.ids++x.δ.upd.flatMap (fun p=>p.2.ids)++x.δ.new.flatMap (fun p=>p.2.ids)
def MI (a b:List Nat):Bool:=a.all (fun n=> !(has b n))
def slotsOf (ops:List Oper) (o:Oper):List Nat :=
  (o.op.operands.toList.filterMap fun | .tmp t=>some t | _=>none) ++
  (match o.guard with
   | some (g,_)=>match ops[g]? with
     | some x=>match x.dst with | some t=>[t] | none=>[]
     | none=>[]
   | none=>[])
def Uk (o:Oper):List Nat:=match o.dst with | some d=>[d] | none=>[]
def calm (x y:EW):Bool:=match x.one with
  | none=>false
  | some (q,off,n)=> !(has x.keys q)&&(!(has y.δ.del q)&&(!(has y.news q)&&(y.δ.same.any (fun e=>Nat.beq e.1 q)&&(List.range n).all (fun k=>y.δ.same.any (fun e=>Nat.beq e.1 q&&Nat.beq e.2 (off+k))))))
def indep (ops:List Oper) (x y:EW):Bool :=
  MI (Uk x.o) (Uk y.o)&&MI (Uk x.o) (slotsOf ops y.o)&&MI (Uk y.o) (slotsOf ops x.o) &&
  MI x.keys y.rd&&(MI y.keys x.rd||calm x y)&&MI x.keys y.keys&&MI x.news y.says
def UX (ops:List Oper) (i:Nat) (x y:EW):Bool:=MI y.news x.says&&MI y.news x.keys&&(has y.anc i||indep ops x y)
def QU (o:Oper):List Nat:=o.after.toList.filterMap fun e=>bif Region.binds .any e then some e.on else none
def MR (C:Ctx) (ops:List Oper):List Oper->List (List Nat)->St->List EW
  | [],_,_=>[]
  | o::r,acc,st=>match Ew C ops o st,(QU o).flatMap (fun e=>e::acc.getD e [])with
    | δ,an=>⟨o,δ,Fh o st (En o st),oneOf C o.op (En o st),an⟩::MR C ops r (acc++[an]) (apply st o δ)
def Xw (ops:List Oper):Nat->List EW->Bool
  | _,[]=>true
  | i,x::r=>r.all (UX ops i x)&&Xw ops (i+1) r
def backward:Nat->List Oper->Bool
  | _,[]=>true
  | i,o::r=>o.after.toList.all (fun e=>Nat.blt e.on i)&&backward (i+1) r
def Na:Nat->List Oper->Bool
  | _,[]=>true
  | i,o::r=>o.after.toList.all (fun e=> !(Region.binds .any e)||Nat.blt e.on i)&&Na (i+1) r
def ranks (md:Region.Mode) (ops:List Oper):Nat->List Nat->List Nat
  | 0,r=>r
  | n+1,r=>ranks md ops n (ops.map fun o=>o.after.toList.foldl (fun m e=>bif Region.binds md e then(bif Nat.ble m (r.getD e.on 0)then r.getD e.on 0+1 else m)else m) 0)
def lZ (md:Region.Mode) (n:Nat) (rk:List Nat):Nat->List Oper->Bool
  | _,[]=>true
  | i,o::r=>o.after.toList.all (fun e=> !(Region.binds md e)||(Nat.blt e.on n&&Nat.blt (rk.getD e.on 0) (rk.getD i 0)))&&lZ md n rk (i+1) r
def Ae4 (md:Region.Mode) (ops:List Oper):Bool:=lZ md ops.length (ranks md ops ops.length (ops.map fun _=>0)) 0 ops
def ordered (ops:List Oper):Bool:=Na 0 ops&&(backward 0 ops||(Ae4 .text ops&&Ae4 .gc ops&&Ae4 .any ops))
def sorted:List (Nat×Obj)->Bool
  | []=>true
  | [_]=>true
  | (n,_)::(k,y)::r=>Nat.blt n k&&sorted ((k,y)::r)
def LM (C:Ctx) (ops:List Oper) (st:St):Bool :=
  match MR C ops ops [] st with
  | fs=>ordered ops&&Xw ops 0 fs&&(fs.flatMap EW.news).all st.fresh&&sorted st.Dj
def GY (f t:Nat):A->A
  | .ptr o off=>.ptr (bif Nat.beq o f then t else o) off
  | .own o=>.own (bif Nat.beq o f then t else o)
  | .clo g o=>.clo g (bif Nat.beq o f then t else o)
  | .bsl o n=>.bsl (bif Nat.beq o f then t else o) n
  | .osl o n=>.osl (bif Nat.beq o f then t else o) n
  | .EN o i off=>.EN (bif Nat.beq o f then t else o) i off
  | .agg cs=>.agg (cs.map fun
    | .ptr o off=>.ptr (bif Nat.beq o f then t else o) off
    | .own o=>.own (bif Nat.beq o f then t else o)
    | .clo g o=>.clo g (bif Nat.beq o f then t else o)
    | .bsl o n=>.bsl (bif Nat.beq o f then t else o) n
    | .osl o n=>.osl (bif Nat.beq o f then t else o) n
    | .EN o i off=>.EN (bif Nat.beq o f then t else o) i off
    | c=>c)
  | a=>a
def yX (f t:Nat):Obj->Obj
  | .box cs=>.box (cs.map (GY f t))
  | x=>x
def drop (keep:List Nat):List A->Nat->List A
  | [],_=>[]
  | a::r,i=>(bif has keep i then a else .undef)::drop keep r (i+1)
def yY (st:St):List (Nat×Nat)->Bool×St
  | []=>(true,st)
  | (f,t)::r=>match Dy st.Dj f with
    | some x=>match yY {tmps:=st.tmps.map (GY f t),Dj:=(EZ (KD st.Dj f) t x).map (fun p=>(p.1,yX f t p.2))} r with
      | (ok,st')=>((bif Nat.beq f t then true else st.fresh t)&&ok,st')
    | none=>yY st r
def Ajb (Dj:List (Nat×Obj)):List Nat->List (Nat×Obj)
  | []=>Dj
  | n::r=>match Dy Dj n with
    | some (.arr e _ l)=>Ajb (EZ Dj n (.arr e true l)) r
    | _=>Ajb Dj r
def AoA:Nat->List (Nat×Obj)->List Nat->List Nat
  | 0,_,l=>l
  | n+1,Dj,l=>l++AoA n Dj ((fetch Dj l).flatMap (fun p=>p.2.ids))
def reached (tmps:List A) (Dj:List (Nat×Obj)):List Nat:=AoA 4 Dj (tmps.flatMap A.ids++(Dj.map (·.1)).filter SC)
def gK:A->Bool | .ER=>true | _=>false
def zA (id:Nat):List Nat->List A->List A
  | [],l=>l
  | t::r,l=>zA id r (l.set t (.own id))
def owns:List (List Nat×Nat×Ty×Nat)->St->Bool×St
  | [],st=>(true,st)
  | (ts,e,ty,id)::r,st=>bif ts.any (fun t=>gK (st.tmps.getD t .undef))then
      match owns r {tmps:=zA id ts st.tmps,Dj:=EZ st.Dj id (.arr e false ⟨ty,[]⟩)}with
      | (ok,st')=>(ts.all (fun t=>gK (st.tmps.getD t .undef)&&Nat.blt t st.tmps.length)&&st.fresh id&&ok,st')
    else owns r st
def pzs:List (Option Nat×Nat×Ty)->St->St
  | [],st=>st
  | (none,t,ty)::r,st=>match st.tmps.getD t .undef with
    | .ER=>pzs r {st with tmps:=st.tmps.set t (.sl ⟨ty,[]⟩)}
    | .own o=>match Dy st.Dj o with
      | some (.arr e _ l)=>pzs r {tmps:=st.tmps.set t (.sl l),Dj:=EZ st.Dj o (.arr e true l)}
      | _=>pzs r st
    | _=>pzs r st
  | (some b,j,_)::r,st=>match Dy st.Dj b with
    | some (.box cs)=>match cs.getD j .undef with
      | .own o=>match Dy st.Dj o with
        | some (.arr e _ l)=>pzs r {st with Dj:=EZ (EZ st.Dj o (.arr e true l)) b (.box (cs.set j (.sl l)))}
        | _=>pzs r st
      | _=>pzs r st
    | _=>pzs r st
def norm (C:Ctx) (key:Nat) (st0:St):Bool×St :=
  match C.nrm key with
  | none=>(true,st0)
  | some n =>
    match pzs n.pz st0 with
    | st=>match yY {tmps:=drop n.keep st.tmps 0,Dj:=st.Dj.filter (fun p=>has (reached (drop n.keep st.tmps 0) st.Dj) p.1)} n.ren with
      | (ok,st')=>match owns n.nw st' with
        | (ok',st'')=>(ok&&ok',{st'' with Dj:=Ajb st''.Dj n.frz})
inductive Ex where
  | normal
  | exit (id:Nat)
def F8:Code->Option Nat
  | .region id _ _=>some id
  | .seq a b=>match F8 a with | some n=>some n | none=>(F8 b).map (· +4096)
  | .cond _ a b=>match F8 a with | some n=>some n | none=>F8 b
  | .block _ c=>F8 c
  | .loop c=>F8 c
  | .scope c=>F8 c
  | _=>none
def LP {ρ :Type} (C:Ctx) (key:Nat) (st:St) (K:St->Option ρ):Option ρ :=
  match norm C key st with
  | (ok,st')=>bif ok then K st' else none
def meet {ρ :Type} (C:Ctx) (kind:Nat) (c:Code) (st:St) (K:St->Option ρ):Option ρ :=
  match F8 c with
  | some n=>LP C (4*n+kind) st K
  | none=>K st
def rounds {ρ :Type} (head:St->(St->Option ρ)->Option ρ) (body:St->(Ex->St->Option ρ)->Option ρ):Nat->St->(Ex->St->Option ρ)->Option ρ
  | 0,_,_=>none
  | n+1,st,K=>body st fun
    | .normal,st'=>head st' fun st''=>rounds head body n st'' K
    | .exit id,st'=>K (.exit id) st'
def AcN:Nat:=(fun(_:Option Nat)=>0) (Dx (X:=Nat) (Y:=Nat) (fun _ _ _=>none) 0 0 (fun _=>none))
def peek (C:Ctx) (ops:List Oper) (s:Nat):List Oper->St->A
  | [],st=>(st.tmps.getD s .undef).II.2
  | o::r,st=>peek C ops s r (apply st o (Ew C ops o st))
def split {α :Type} (C:Ctx) (id:Nat) (ops:List Oper) (st:St) (f:Ctx->Option α):Option α :=
  (fun(_:Nat)=>match C.spl id with
  | none=>f C
  | some (k,s,ds)=>match peek C ops s (ops.take k) st with
    | .bool b=>match b with
      | true=>f (C.decide ds true)
      | false=>f (C.decide ds false)
    | _=>none) AcN
theorem Xp {α :Type} {C:Ctx} {id:Nat} {ops:List Oper} {st:St} {f:Ctx->Option α} {v: α} (h:split C id ops st f=some v):(f C=some v\/ ∃ ds b,f (C.decide ds b)=some v)/\ ∀ f':Ctx->Option α,(∀ C',f C'=some v->f' C'=some v)->split C id ops st f'=some v:=by
  unfold split at h ⊢
  dsimp only at h ⊢
  cases hs:C.spl id with
  | none=>rw[hs]at h;exact⟨.inl h,fun f' hf=>hf C h⟩
  | some q =>
    obtain⟨k,s,ds⟩:=q
    rw[hs]at h
    dsimp only at h ⊢
    generalize peek C ops s (ops.take k) st=x at h ⊢
    cases x with
    | bool b=>cases b<;>exact⟨.inr ⟨_,_,h⟩,fun f' hf=>hf _ h⟩
    | _=>cases h
def exec {ρ :Type} (C:Ctx) (N:Nat) (fin:St->Option ρ):Code->St->(Ex->St->Option ρ)->Option ρ
  | .skip,st,K=>K .normal st
  | .region id ops false,st,K=>split C id ops.toList st fun C=>Qc C ops.toList ops.toList st fun st'=>K .normal st'
  | .region id ops true,st,K=>split C id ops.toList st fun C=>bif LM C ops.toList st then Qd C ops.toList ops.toList st fun st'=>K .normal st' else none
  | .seq a b,st,K=>exec C N fin a st fun
    | .normal,st'=>meet C 1 b st' fun st''=>exec C N fin b st'' K
    | .exit id,st'=>K (.exit id) st'
  | .cond c a b,st,K=>match EH st.tmps c with
    | .bool t=>bif t then exec C N fin a st K else exec C N fin b st K
    | .cnd g (.bool t)=>bif g then bif t then exec C N fin a st K else exec C N fin b st K else none
    | _=>none
  | .block id c,st,K=>exec C N fin c st fun
    | .exit j,st'=>bif Nat.beq j id then K .normal st' else K (.exit j) st'
    | .normal,st'=>K .normal st'
  | .loop c,st,K=>meet C 2 c st fun st'=>rounds (meet C 2 c) (exec C N fin c) N st' K
  | .exit id,st,K=>LP C (4*id+3) st fun st'=>K (.exit id) st'
  | .scope c,st,K=>exec C N fin c st K
  | .label _,st,K=>K .normal st
  | .ret,st,_=>fin st
  | _,_,_=>none
theorem Ty.Gu: ∀(t:Ty) (v:t.Val),(t.cells v).length=t.len
  | .nil,_=>rfl
  | .bool r,v=>by simp [Ty.cells,Ty.len,Ty.Gu r]
  | .int _ r,v=>by simp [Ty.cells,Ty.len,Ty.Gu r]
  | .str r,v=>by simp [Ty.cells,Ty.len,Ty.Gu r]
  | .sl _ _ r,v=>by simp [Ty.cells,Ty.len,Ty.Gu r]
  | .ptr r,v=>by simp [Ty.cells,Ty.len,Ty.Gu r v]
  | .fn r,v=>by simp [Ty.cells,Ty.len,Ty.Gu r]
  | .mp _ _ r,v=>by simp [Ty.cells,Ty.len,Ty.Gu r]
theorem Ty.IE {α :Type} (r:Ty) (a: α) (b:r.Val):r.hd (r.mk2 a b)=a:=by cases r<;>rfl
theorem Ty.IJ {α :Type} (r:Ty) (a: α) (b:r.Val):r.tl (r.mk2 a b)=b:=by cases r<;>rfl
theorem Sl.ED (l:Sl):l.es.length=l.xs.length:=by simp [Sl.es]
theorem Sl.es_len (l:Sl): ∀ e∈l.es,e.length=l.sz:=by
  intro e he
  obtain⟨v,_,rfl⟩:=List.mem_map.1 he
  exact Ty.Gu _ _
theorem Sl.at_eq (l:Sl) {i:Nat} (h:i<l.xs.length):l.at i=l.es.getD i []:=by grind[Sl.at,Sl.es]
theorem Sl.An0 (l:Sl) (i:Nat):(l.at i).length=l.sz:=Ty.Gu _ _
theorem Sl.Jk {l:Sl} {t:Ty} {xs:List t.Val} (h:l.cast t=some xs):l=⟨t,xs⟩:=by
  unfold Sl.cast at h
  split at h
  ·rename_i e _
   obtain⟨s,ys⟩:=l
   all_goals grind
  ·cases h
theorem Sl.UF (t:Ty) (xs:List t.Val):(⟨t,xs⟩:Sl).cast t=some xs:=by
  unfold Sl.cast
  split
  ·rfl
  ·grind
theorem Mp.Jk {l:Mp} {kt vt:Ty} {xs:List (kt.Val×vt.Val)} (h:l.cast kt vt=some xs):l=⟨kt,vt,xs⟩:=by
  unfold Mp.cast at h
  split at h
  ·rename_i e _
   obtain⟨k,v,ys⟩:=l
   dsimp only at e
   subst e
   split at h
   all_goals grind
  ·cases h
theorem Mp.UF (kt vt:Ty) (xs:List (kt.Val×vt.Val)):(⟨kt,vt,xs⟩:Mp).cast kt vt=some xs:=by
  unfold Mp.cast
  split
  ·split
   ·rfl
   ·grind
  ·grind
theorem A.J3 {j k:IntKind} (h:A.kEq j k=true):j=k:=by cases j<;>cases k<;>first | rfl | cases h
theorem Ty.Ny: ∀(t:Ty) (cs:List A),(t.mk cs).1=true->t.cells (t.mk cs).2=cs:=by
  intro t
  induction t with
  | nil =>
    intro cs h
    cases cs with
    | nil=>rfl
    | cons _ _=>simp [Ty.mk]at h
  | fn r ih=>grind[Ty.mk,Ty.cells,Ty.IE,Ty.IJ]
  | mp kt vt r _ _ ih =>
    intro cs h
    unfold Ty.mk at h ⊢
    split at h
    ·rename_i l cs
     cases hc:l.cast kt vt with
     | none=>rw[hc]at h;simp at h
     | some xs=>grind[Ty.cells,Ty.IE,Ty.IJ,Mp.Jk]
    ·simp at h
  | bool r ih=>grind[Ty.mk,Ty.cells,Ty.IE,Ty.IJ]
  | int k r ih=>grind[Ty.mk,Ty.cells,Ty.IE,Ty.IJ,A.J3]
  | str r ih=>grind[Ty.mk,Ty.cells,Ty.IE,Ty.IJ]
  | sl e t r _ ih =>
    intro cs h
    unfold Ty.mk at h ⊢
    split at h
    ·rename_i l cs
     cases hc:l.cast t with
     | none=>rw[hc]at h;simp at h
     | some xs=>grind[Ty.cells,Ty.IE,Ty.IJ,Sl.Jk]
    ·simp at h
  | ptr r ih =>
    intro cs h
    unfold Ty.mk at h ⊢
    split at h
    ·rename_i cs
     show A.Fj::r.cells (r.mk cs).2=_
     rw[ih cs h]
    ·simp at h
theorem Ty.AeU: ∀(ks:List CK),ks.all CK.plain=true->(tyl ks).cells (tyl ks).zero=ks.map CK.Hm:=by
  intro ks
  induction ks with
  | nil=>intro _;rfl
  | cons k ks ih=>grind[tyl,Ty.cells,Ty.IE,Ty.IJ,CK.Hm,CK.zero,CK,CK.plain,cells,zero]
theorem Oo (ks:List CK):(tyl ks).len=ks.length:=by
  induction ks with
  | nil=>rfl
  | cons k ks ih=>cases k<;>simp [tyl,Ty.len,ih]
theorem Sl.Ard (l:Sl) {i off:Nat} {cs:List A} (hi:i<l.xs.length) (h:(l.set i off cs).1=true):(l.set i off cs).2.es=l.es.set i (splice (l.es.getD i []) off cs):=by
  have:=Ty.Ny _ _ h
  rw[<- l.at_eq hi]
  all_goals simp_all[Sl.set,Sl.es,hi,splice]
theorem Sl.AnS (t:Ty) (xs ys:List t.Val):(⟨t,xs++ys⟩:Sl).es=(⟨t,xs⟩:Sl).es++(⟨t,ys⟩:Sl).es:=by simp [Sl.es]
theorem Sl.AnT (l:Sl) (a b:Nat):(⟨l.t,D9 l.xs a b⟩:Sl).es=D9 l.es a b:=by simp_all[Sl.es,D9]
theorem Sl.XX (ks:List CK) (n:Nat) (h:ks.all CK.plain=true):(⟨tyl ks,List.replicate n (tyl ks).zero⟩:Sl).es=List.replicate n (ks.map CK.Hm):=by
  simp [Sl.es,List.map_replicate,Ty.AeU ks h]
theorem Sl.AnU (t:Ty):(⟨t,[]⟩:Sl).es=[]:=rfl
def GX (P:Program):Nat->Nat->Option (List CK)
  | 0,_=>none
  | n+1,t=>match P.underlying t with
    | some .bool=>some [.bool]
    | some (.int k)=>some [.int k]
    | some .string=>some [.str]
    | some (.slice e)=>match GX P n e with
      | some cs=>bif cs.all CK.plain then some [.sl e (tyl cs)]else some [.oth]
      | none=>some [.oth]
    | some (.pointer _)=>some [.ptr]
    | some (.struct fs)=>fs.toList.foldr (fun f acc=>match GX P n f.type,acc with | some a,some b=>some (a++b) | _,_=>none) (some [])
    | some (.array m e)=>match GX P n e with
      | some a=>bif Nat.ble (m*a.length) 4096 then some ((List.replicate m a).flatten)else none
      | none=>none
    | some (.tuple _)=>none
    | some (.func _ _ _)=>some [.fn]
    | some _=>some [.oth]
    | none=>none
def Et:List Value->List CK->Bool
  | [],[]=>true
  | .bool false::vs,.bool::ks=>Et vs ks
  | .int k 0::vs,.int k'::ks=>A.kEq k k'&&Et vs ks
  | .string s::vs,.str::ks=>s.data.toList.isEmpty&&Et vs ks
  | .slice none 0 0::vs,.sl _ _::ks=>Et vs ks
  | .pointer none::vs,.ptr::ks=>Et vs ks
  | .nilFunc::vs,.fn::ks=>Et vs ks
  | v::vs,.oth::ks=>v.oneCell'&&Et vs ks
  | _,_=>false
def Rh:TypeDesc->Bool
  | .struct _ | .array _ _=>true
  | _=>false
def Yg:Value->Bool
  | .agg _=>true
  | _=>false
def QX (P:Program):List Field->Nat->Option (List CK)
  | [],_=>some []
  | f::r,n=>match P.underlying f.type,QX P r (n+1)with
    | some .bool,some ks=>bif f.name != "_" &&Nat.beq f.offset n then some (.bool::ks)else none
    | some (.int k),some ks=>bif f.name != "_" &&Nat.beq f.offset n then some (.int k::ks)else none
    | some .string,some ks=>bif f.name != "_" &&Nat.beq f.offset n then some (.str::ks)else none
    | _,_=>none
def AlW (P:Program) (t:Nat):TypeDesc->List CK
  | .struct fs=>match QX P fs.toList 0 with
    | some ks=>bif !(P.stoodInHeld t)&& !(P.eqGuardType P.depth t)then ks else []
    | none=>[]
  | _=>[]
def Anp (P:Program) (t:Nat):Option TI :=
  match P.underlying t,P.info? t,GX P 20 t with
  | some d,some i,some cs=>match i.zero with
    | some z=>bif Nat.beq i.size cs.length&&Et z.cells.toList cs&&(Rh d==Yg z)then some ⟨d,cs,i.bytes,AlW P t d⟩else none
    | none=>none
  | _,_,_=>none
