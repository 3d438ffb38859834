/-
  CertextAgain: the law returns true whatever the input; machine, functions, plain law (31 files)
-/
import Derived.RowKit
import Derived.Laws.Sem
set_option linter.all false
namespace Go.Proofs.YtadefjgbcapakaaGreatDoor.Vm
inductive Ty where
  | nil
  | bool (r:Ty)
  | int (k:IntKind) (r:Ty)
  | str (r:Ty)
  | sl (e:Nat) (t:Ty) (r:Ty)
  | ptr (r:Ty)
  | fn (r:Ty)
  | mp (kt vt:Ty) (r:Ty)
  deriving DecidableEq,Inhabited
namespace Ty
def pr (α :Type) (β :Type):Ty->Type
  | .nil=> α
  | _=> α × β
def Val:Ty->Type
  | .nil=>Unit
  | .bool r=>pr Bool r.Val r
  | .int _ r=>pr Int r.Val r
  | .str r=>pr (List UInt8) r.Val r
  | .sl _ t r=>pr (List t.Val) r.Val r
  | .ptr r=>r.Val
  | .fn r=>pr Nat r.Val r
  | .mp kt vt r=>pr (List (kt.Val×vt.Val)) r.Val r
def hd {α β :Type}:(r:Ty)->pr α β r-> α
  | .nil,a=>a
  | .bool _,p=>p.1
  | .int _ _,p=>p.1
  | .str _,p=>p.1
  | .sl _ _ _,p=>p.1
  | .ptr _,p=>p.1
  | .fn _,p=>p.1
  | .mp _ _ _,p=>p.1
def tl {α :Type}:(r:Ty)->pr α r.Val r->r.Val
  | .nil,_=>()
  | .bool _,p=>p.2
  | .int _ _,p=>p.2
  | .str _,p=>p.2
  | .sl _ _ _,p=>p.2
  | .ptr _,p=>p.2
  | .fn _,p=>p.2
  | .mp _ _ _,p=>p.2
def mk2 {α :Type}:(r:Ty)-> α ->r.Val->pr α r.Val r
  | .nil,a,_=>a
  | .bool _,a,b=>(a,b)
  | .int _ _,a,b=>(a,b)
  | .str _,a,b=>(a,b)
  | .sl _ _ _,a,b=>(a,b)
  | .ptr _,a,b=>(a,b)
  | .fn _,a,b=>(a,b)
  | .mp _ _ _,a,b=>(a,b)
def zero:(t:Ty)->t.Val
  | .nil=>()
  | .bool r=>mk2 r false r.zero
  | .int _ r=>mk2 r 0 r.zero
  | .str r=>mk2 r [] r.zero
  | .sl _ _ r=>mk2 r [] r.zero
  | .ptr r=>r.zero
  | .fn r=>mk2 r 0 r.zero
  | .mp _ _ r=>mk2 r [] r.zero
def len:Ty->Nat
  | .nil=>0
  | .bool r=>r.len+1
  | .int _ r=>r.len+1
  | .str r=>r.len+1
  | .sl _ _ r=>r.len+1
  | .ptr r=>r.len+1
  | .fn r=>r.len+1
  | .mp _ _ r=>r.len+1
end Ty
structure Sl where
  t:Ty
  xs:List t.Val
  deriving Inhabited
structure Mp where
  kt:Ty
  vt:Ty
  l:List (kt.Val×vt.Val)
  deriving Inhabited
inductive CK where
  | bool | int (k:IntKind) | str | sl (e:Nat) (t:Ty) | sln (e:Nat) (t:Ty) | ptr | fn | mp (kt vt:Ty) | oth
  deriving DecidableEq
inductive A where
  | undef
  | bool (b:Bool)
  | int (k:IntKind) (n:Int)
  | str (s:List UInt8)
  | sl (l:Sl)
  | sln (l:Sl)
  | usl (e:Nat) (l:Sl)
  | Df
  | Dj
  | ptr (o off:Nat)
  | own (o:Nat)
  | elt (cs:List A)
  | CZ (o i off:Nat)
  | agg (cs:List A)
  | tup (vs:List A)
  | box (cs:List A)
  | clo (f o:Nat)
  | cbx (f:Nat) (cs:List A)
  | bsl (o n:Nat)
  | fn (f:Nat)
  | ump (l:Mp)
  | cnd (g:Bool) (v:A)
  deriving Inhabited
inductive Obj where
  | box (cs:List A)
  | arr (e:Nat) (frz:Bool) (l:Sl)
  | mp (l:Mp)
  deriving Inhabited
def Ty.cells:(t:Ty)->t.Val->List A
  | .nil,_=>[]
  | .bool r,v=>.bool (r.hd v)::r.cells (r.tl v)
  | .int k r,v=>.int k (r.hd v)::r.cells (r.tl v)
  | .str r,v=>.str (r.hd v)::r.cells (r.tl v)
  | .sl _ t r,v=>.sl ⟨t,r.hd v⟩::r.cells (r.tl v)
  | .ptr r,v=>.Dj::r.cells v
  | .fn r,v=>.fn (r.hd v)::r.cells (r.tl v)
  | .mp kt vt r,v=>.ump ⟨kt,vt,r.hd v⟩::r.cells (r.tl v)
def Sl.sz (l:Sl):Nat:=l.t.len
def Sl.es (l:Sl):List (List A):=l.xs.map l.t.cells
def Sl.at (l:Sl) (i:Nat):List A:=l.t.cells (l.xs.getD i l.t.zero)
def Sl.cast (l:Sl) (t:Ty):Option (List t.Val) :=
  match decEq l.t t with
  | .isTrue h=>some (h▸l.xs)
  | .isFalse _=>none
def Mp.cast (l:Mp) (kt vt:Ty):Option (List (kt.Val×vt.Val)) :=
  match decEq l.kt kt with
  | .isTrue h=>match decEq l.vt vt with
    | .isTrue h'=>some (h▸h'▸l.l)
    | .isFalse _=>none
  | .isFalse _=>none
structure St where
  tmps:List A
  Aa:List (Nat×Obj)
def Ah:List (Nat×Obj)->Nat->Option Obj
  | [],_=>none
  | (k,x)::r,n=>bif Nat.beq k n then some x else Ah r n
def IP:List (Nat×Obj)->Nat->List (Nat×Obj)
  | [],_=>[]
  | (k,x)::r,n=>bif Nat.beq k n then IP r n else(k,x)::IP r n
def QP:List (Nat×Obj)->Nat->Obj->List (Nat×Obj)
  | [],n,y=>[(n,y)]
  | (k,x)::r,n,y=>bif Nat.ble n k then(n,y)::(k,x)::r else(k,x)::QP r n y
def CX (l:List (Nat×Obj)) (n:Nat) (y:Obj):List (Nat×Obj):=QP (IP l n) n y
def has (l:List Nat) (n:Nat):Bool:=l.any (Nat.beq n)
namespace A
def toB:A->Bool | .bool b=>b | _=>false
def isB:A->Bool | .bool _=>true | _=>false
def toI:A->Int | .int _ n=>n | _=>0
def kEq:IntKind->IntKind->Bool
  | .i8,.i8 | .i16,.i16 | .i32,.i32 | .i64,.i64 | .u8,.u8 | .u16,.u16 | .u32,.u32 | .u64,.u64=>true
  | _,_=>false
def isI (k:IntKind):A->Bool | .int k' _=>kEq k k' | _=>false
def toS:A->List UInt8 | .str s=>s | _=>[]
def isS:A->Bool | .str _=>true | _=>false
def toL:A->Sl | .sl l=>l | .sln l=>l | .usl _ l=>l | _=>default
def weak:A->A | .sln l=>.sl l | a=>a
def Ack (t:Ty):A->Bool | .sln l=>decide (l.t=t) | _=>false
def Adq (t:Ty):A->Bool | .sl l=>decide (l.t=t) | _=>false
def AgR (e:Nat) (t:Ty):A->Bool | .usl e' l=>Nat.beq e e'&&decide (l.t=t) | _=>false
def eX:A->Bool | .Dj=>true | _=>false
def isFn:A->Bool | .fn _=>true | _=>false
def YL (kt vt:Ty):A->Bool | .ump l=>decide (l.kt=kt)&&decide (l.vt=vt) | _=>false
def toM:A->Mp | .ump l=>l | _=>default
def Rn:A->List A | .agg cs=>cs | .box cs=>cs | .cbx _ cs=>cs | _=>[]
def Acj (f n:Nat):A->Bool | .cbx g cs=>Nat.beq f g&&Nat.beq cs.length n | _=>false
def isAgg (n:Nat):A->Bool | .agg cs=>Nat.beq cs.length n | _=>false
def AgP (n:Nat):A->Bool | .box cs=>Nat.beq cs.length n | _=>false
def isVal:A->Bool | .undef=>false | .tup _=>false | .usl _ _=>false | .ump _=>false | .box _=>false | .cbx _ _=>false | .cnd _ _=>false | _=>true
def cells:A->List A | .agg cs=>cs | v=>[v]
def strip:A->List Bool×A | .cnd g v=>([g],v) | v=>([],v)
def GG:A->Bool×A | .cnd g v=>(g,v) | v=>(true,v)
def Ec:A->List Nat
  | .ptr o _=>[o] | .own o=>[o] | .CZ o _ _=>[o] | .clo _ o=>[o] | .bsl o _=>[o] | _=>[]
def Ali:A->List Nat
  | .agg cs=>cs.flatMap Ec
  | .cnd _ (.agg cs)=>cs.flatMap Ec
  | .cnd _ v=>Ec v
  | v=>Ec v
def ids:A->List Nat
  | .tup vs=>vs.flatMap Ali
  | v=>Ali v
end A
def Obj.ids:Obj->List Nat
  | .box cs=>cs.flatMap A.Ec
  | _=>[]
def St.ids (st:St):List Nat:=st.tmps.flatMap A.ids++st.Aa.flatMap (fun p=>p.2.ids)
def OZ (n:Nat):Bool:=Nat.blt n 32768&&Nat.beq (n % 256) 0
def St.fresh (st:St) (n:Nat):Bool:= !(has st.ids n)&&(Ah st.Aa n).isNone&& !(Nat.beq n 255)&& !(OZ n)
def force:CK->A->List Bool×A
  | .bool,c=>([c.isB],c)
  | .int k,c=>([c.isI k],c)
  | .str,c=>([c.isS],c)
  | .sl _ t,c=>([c.Adq t],c)
  | .sln _ t,c=>([c.Ack t],c)
  | .ptr,c=>([c.eX],c)
  | .fn,c=>([c.isFn],c)
  | .mp _ _,_=>([false],.undef)
  | .oth,_=>([],.undef)
def forces (cs:List A):List CK->Nat->List Bool×List A
  | [],_=>([],[])
  | k::ks,off=>((force k (cs.getD off .undef)).1++(forces cs ks (off+1)).1,(force k (cs.getD off .undef)).2::(forces cs ks (off+1)).2)
def CK.zero:CK->A
  | .bool=>.bool false
  | .int k=>.int k 0
  | .str=>.str []
  | .sl _ _=>.Df
  | .sln _ _=>.Df
  | .ptr=>.Dj
  | .fn=>.fn 0
  | .mp _ _=>.undef
  | .oth=>.undef
def CK.plain:CK->Bool | .oth=>false | .mp _ _=>false | _=>true
def CK.Fg:CK->A
  | .sl _ t=>.sl ⟨t,[]⟩
  | .sln _ t=>.sl ⟨t,[]⟩
  | k=>k.zero
structure TI where
  d:TypeDesc
  cs:List CK
  bytes:Nat
  cmp:List CK:=[]
def tyl:List CK->Ty
  | []=>.nil
  | .bool::r=>.bool (tyl r)
  | .int k::r=>.int k (tyl r)
  | .str::r=>.str (tyl r)
  | .sl e t::r=>.sl e t (tyl r)
  | .sln e t::r=>.sl e t (tyl r)
  | .ptr::r=>.ptr (tyl r)
  | .fn::r=>.fn (tyl r)
  | .mp kt vt::r=>.mp kt vt (tyl r)
  | .oth::r=>.ptr (tyl r)
def Ty.mk:(t:Ty)->List A->Bool×t.Val
  | .nil=>fun cs=>(cs.isEmpty,())
  | .bool r=>fun
    | .bool b::cs=>((r.mk cs).1,r.mk2 b (r.mk cs).2)
    | _=>(false,Ty.zero (.bool r))
  | .int k r=>fun
    | .int j n::cs=>(A.kEq j k&&(r.mk cs).1,r.mk2 n (r.mk cs).2)
    | _=>(false,Ty.zero (.int k r))
  | .str r=>fun
    | .str s::cs=>((r.mk cs).1,r.mk2 s (r.mk cs).2)
    | _=>(false,Ty.zero (.str r))
  | .sl e t r=>fun
    | .sl l::cs=>match l.cast t with
      | some xs=>((r.mk cs).1,r.mk2 xs (r.mk cs).2)
      | none=>(false,Ty.zero (.sl e t r))
    | _=>(false,Ty.zero (.sl e t r))
  | .ptr r=>fun
    | .Dj::cs=>((r.mk cs).1,(r.mk cs).2)
    | _=>(false,Ty.zero (.ptr r))
  | .fn r=>fun
    | .fn n::cs=>((r.mk cs).1,r.mk2 n (r.mk cs).2)
    | _=>(false,Ty.zero (.fn r))
  | .mp kt vt r=>fun
    | .ump l::cs=>match l.cast kt vt with
      | some xs=>((r.mk cs).1,r.mk2 xs (r.mk cs).2)
      | none=>(false,Ty.zero (.mp kt vt r))
    | _=>(false,Ty.zero (.mp kt vt r))
def TI.agg (t:TI):Bool:=match t.d with | .struct _ | .array _ _=>true | _=>false
inductive Sh where
  | cell (u:Bool) (k:CK)
  | agg (cs:List (Bool×CK))
  | box (cs:List (Bool×CK))
  | map (kt vt:Ty)
  | clo (f:Nat) (cs:List (Bool×CK))
structure Sig where
  Af:List Sh
  Az:List Sh
  ok:List A->Bool
  val:List A->List A
def Sig.F (sg:Sig) (xs:List A):Option (List A):=bif sg.ok xs then some (sg.val xs)else none
structure Nrm where
  keep:List Nat
  nw:List (List Nat×Nat×Ty×Nat)
  pz:List (Option Nat×Nat×Ty)
  ren:List (Nat×Nat)
  frz:List Nat
abbrev Alt:=Sig×Sig×(List A->Bool)
structure Ctx where
  T:Nat->Option TI
  G:Nat->Option Sig
  nrm:Nat->Option Nrm
  alt:Nat->Option Alt
  dyn:Nat->Option (Nat->Sig)
  cuts:List Nat:=[]
  binds:List Nat:=[]
def Ctx.put (C:Ctx) (f:Nat) (s:Sig):Ctx:= {C with G:=fun k=>bif Nat.beq f k then some s else C.G k}
structure Dl where
  ok:List Bool
  val:A
  new:List (Nat×Obj):=[]
  upd:List (Nat×Obj):=[]
  del:List Nat:=[]
def Dl.no:Dl:= {ok:=[false],val:=.undef}
def Dl.v (a:A):Dl:= {ok:=[],val:=a}
def Dl.g (b:List Bool) (a:A):Dl:= {ok:=b,val:=a}
def F6:Value->A
  | .bool b=>.bool b
  | .int k n=>.int k n
  | .string s=>.str s.data.toList
  | .slice none 0 0=>.Df
  | .pointer none=>.Dj
  | .nilFunc=>.fn 0
  | _=>.undef
def ofConst:Value->A
  | .agg vs=>bif vs.toList.all Value.oneCell' then .agg (vs.toList.map F6)else .undef
  | v=>F6 v
abbrev Fet:=List (Nat×Obj)
def Kq:CK->Sl->List Bool×A
  | .sln _ _,l=>([decide (0<l.xs.length)],.sln l)
  | _,l=>([],.sl l)
def Aoz:CK->Sl->A
  | .sln _ _,l=>.sln l
  | _,l=>.sl l
def pur (fet:Fet) (k:CK):A->List Bool×A×List (Nat×Obj)
  | .own o=>match Ah fet o with
    | some (.arr e _ l)=>((Kq k l).1,(Kq k l).2,[(o,.arr e true l)])
    | _=>([false],.undef,[])
  | .Df=>match k with
    | .sl _ t=>([],.sl ⟨t,[]⟩,[])
    | .sln _ t=>([],.sln ⟨t,[]⟩,[])
    | _=>([false],.undef,[])
  | .sln l=>([],Aoz k l,[])
  | .bool b=>([],.bool b,[])
  | .int j n=>([],.int j n,[])
  | .str s=>([],.str s,[])
  | .sl l=>((Kq k l).1,(Kq k l).2,[])
  | .Dj=>([],.Dj,[])
  | .fn n=>([],.fn n,[])
  | _=>([false],.undef,[])
def CB (fet:Fet):List CK->List A->List Bool×List A×List (Nat×Obj)
  | [],[]=>([],[],[])
  | k::ks,c::cs=>((pur fet k c).1++(CB fet ks cs).1,(pur fet k c).2.1::(CB fet ks cs).2.1,(pur fet k c).2.2++(CB fet ks cs).2.2)
  | _,_=>([false],[],[])
def CJ (id:Nat):List CK->List A->List A×List (Nat×Obj)
  | .sl e t::ks,.Df::cs=>(.own id::(CJ (id+1) ks cs).1,(id,.arr e false ⟨t,[]⟩)::(CJ (id+1) ks cs).2)
  | _::ks,c::cs=>(c::(CJ (id+1) ks cs).1,(CJ (id+1) ks cs).2)
  | _,cs=>(cs,[])
def rd (fet:Fet):A->List Bool×Sl
  | .own o=>match Ah fet o with
    | some (.arr _ _ l)=>([],l)
    | _=>([false],default)
  | .Df=>([],default)
  | .sl l=>([],l)
  | _=>([false],default)
def rdT (fet:Fet) (t:Ty):A->List Bool×List t.Val
  | .Df=>([],[])
  | x=>match (rd fet x).2.cast t with
    | some xs=>((rd fet x).1,xs)
    | none=>([false],[])
def RU:Ty:=.int .u8 .nil
def rdB (fet:Fet) (x:A):List Bool×List Int:=rdT fet RU x
def byteOf (n:Int):UInt8:=UInt8.ofNat n.toNat
def isByte (n:Int):Bool:=decide (0<=n)&&decide (n<256)
def Bi (op:BinOp) (k:IntKind) (x y:Int):Int :=
  match op with
  | .and=>k.wrap (((BitVec.ofInt k.bits x) &&& (BitVec.ofInt k.bits y)).toNat)
  | .or=>k.wrap (((BitVec.ofInt k.bits x) ||| (BitVec.ofInt k.bits y)).toNat)
  | .xor=>k.wrap (((BitVec.ofInt k.bits x) ^^^ (BitVec.ofInt k.bits y)).toNat)
  | _=>k.wrap (((BitVec.ofInt k.bits x) &&& ~~~(BitVec.ofInt k.bits y)).toNat)
def aV (op:BinOp) (k:IntKind) (x y:Int):Dl :=
  match op with
  | .add=>.v (.int k (k.wrap (x+y)))
  | .sub=>.v (.int k (k.wrap (x - y)))
  | .mul=>.v (.int k (k.wrap (x*y)))
  | .quo=>.g [y != 0] (.int k (k.wrap (x.tdiv y)))
  | .rem=>.g [y != 0] (.int k (x.tmod y))
  | .and | .or | .xor | .andNot=>.v (.int k (Bi op k x y))
  | .eql=>.v (.bool (x==y))
  | .neq=>.v (.bool (x != y))
  | .lss=>.v (.bool (decide (x<y)))
  | .leq=>.v (.bool (decide (x<=y)))
  | .gtr=>.v (.bool (decide (x>y)))
  | .geq=>.v (.bool (decide (x>=y)))
  | _=>.no
def bytesLess:List UInt8->List UInt8->Bool:=Go.Op.bytesLess
def aW (op:BinOp) (x y:List UInt8):Dl :=
  match op with
  | .add=>.g [decide (x.length+y.length<=140737488355328)] (.str (x++y))
  | .eql=>.v (.bool (x==y))
  | .neq=>.v (.bool (!(x==y)))
  | .lss=>.v (.bool (bytesLess x y))
  | .leq=>.v (.bool (bytesLess x y||x==y))
  | .gtr=>.v (.bool (!(bytesLess x y||x==y)))
  | .geq=>.v (.bool (!(bytesLess x y)))
  | _=>.no
def Tn:CK->A->A->Bool×Bool
  | .bool,.bool a,.bool b=>(true,a==b)
  | .int k,.int i a,.int j b=>(A.kEq i k&&A.kEq j k,a==b)
  | .str,.str a,.str b=>(true,a==b)
  | _,_,_=>(false,false)
def GV:List CK->List A->List A->Bool×Bool
  | [],[],[]=>(true,true)
  | k::ks,a::x,b::y=>((Tn k a b).1&&(GV ks x y).1,(Tn k a b).2&&(GV ks x y).2)
  | _,_,_=>(false,false)
def Ty.same:(t:Ty)->t.Val->t.Val->Bool
  | .nil,_,_=>true
  | .bool r,a,b=>(r.hd a==r.hd b)&&r.same (r.tl a) (r.tl b)
  | .int _ r,a,b=>(r.hd a==r.hd b)&&r.same (r.tl a) (r.tl b)
  | .str r,a,b=>(r.hd a==r.hd b)&&r.same (r.tl a) (r.tl b)
  | _,_,_=>false
def Uj {β :Type} (t:Ty) (k:t.Val):List (t.Val× β)->Option β
  | []=>none
  | p::r=>bif t.same k p.1 then some p.2 else Uj t k r
def YV {β :Type} (t:Ty) (k:t.Val) (v: β):List (t.Val× β)->List (t.Val× β)
  | []=>[(k,v)]
  | p::r=>bif t.same k p.1 then(p.1,v)::r else p::YV t k v r
def WA {β :Type} (t:Ty) (k:t.Val):List (t.Val× β)->List (t.Val× β)
  | []=>[]
  | p::r=>bif t.same k p.1 then r else p::WA t k r
def FW:List A->A
  | [c]=>c
  | cs=>.agg cs
def splice (l:List A) (off:Nat) (vs:List A):List A:=l.take off++vs++l.drop (off+vs.length)
def vU (C:Ctx) (d:TypeDesc) (f:Nat):Option (Nat×TI) :=
  match d with
  | .struct fs=>match fs.toList[f]? with
    | some x=>match C.T x.type with
      | some ti=>some (x.offset,ti)
      | none=>none
    | none=>none
  | _=>none
def eY:TypeDesc->Bool | .string=>true | _=>false
def PZ:TypeDesc->Bool | .slice _=>true | .string=>true | _=>false
def zL:TypeDesc->Bool | .bool=>true | _=>false
def Acl:TypeDesc->Bool | .int .u8=>true | _=>false
def jA (C:Ctx) (d:TypeDesc) (f:Nat):Option (Nat×TI) :=
  match d with
  | .struct fs=>match fs.toList[f]? with
    | some x=>match C.T x.type with
      | some ti=>some (x.offset,ti)
      | none=>none
    | none=>none
  | .array n e=>match C.T e with
    | some ti=>bif Nat.blt f n then some (f*ti.cs.length,ti)else none
    | none=>none
  | _=>none
def vS (ti:TI) (cs:List A) (off:Nat):A:=bif ti.agg then .agg ((cs.drop off).take ti.cs.length)else cs.getD off .undef
def fill (C:Ctx) (d:TypeDesc):List (Nat×A)->List A->Option (List A)
  | [],cs=>some cs
  | (i,v)::r,cs=>match jA C d i with
    | some (off,ti)=>bif v.isVal&&Nat.beq v.cells.length ti.cs.length&&Nat.ble (off+ti.cs.length) cs.length then fill C d r (splice cs off v.cells)else none
    | none=>none
def EN (fet:Fet) (ti:TI) (t:Ty):List (Nat×A)->List t.Val->List Bool×List t.Val×List (Nat×Obj)
  | [],xs=>([],xs,[])
  | (i,v)::r,xs=>((CB fet ti.cs v.cells).1++[(t.mk (CB fet ti.cs v.cells).2.1).1,Nat.blt i xs.length]++(EN fet ti t r (xs.set i (t.mk (CB fet ti.cs v.cells).2.1).2)).1,
      (EN fet ti t r (xs.set i (t.mk (CB fet ti.cs v.cells).2.1).2)).2.1,(CB fet ti.cs v.cells).2.2++(EN fet ti t r (xs.set i (t.mk (CB fet ti.cs v.cells).2.1).2)).2.2)
def Sl.set (l:Sl) (i off:Nat) (cs:List A):Bool×Sl:=((l.t.mk (splice (l.at i) off cs)).1,⟨l.t,l.xs.set i (l.t.mk (splice (l.at i) off cs)).2⟩)
def BH:Sh->Bool | .box _=>true | .map _ _=>true | .clo _ _=>true | _=>false
def F7 (fet:Fet) (o:Nat):Option (List A):=match Ah fet o with | some (.box cs)=>some cs | _=>none
structure Arg where
  ok:List Bool
  a:A
  upd:List (Nat×Obj):=[]
  del:List Nat:=[]
  boxes:List (Nat×Sh):=[]
def AL (fet:Fet):List (Bool×CK)->List A->List Bool×List A×List (Nat×Obj)×List Nat
  | [],[]=>([],[],[],[])
  | (false,k)::ks,c::cs=>((pur fet k c).1++(AL fet ks cs).1,(pur fet k c).2.1::(AL fet ks cs).2.1,(pur fet k c).2.2++(AL fet ks cs).2.2.1,(AL fet ks cs).2.2.2)
  | (true,.sl e t)::ks,.own o::cs=>match Ah fet o with
    | some (.arr e' _ l)=>([Nat.beq e e',decide (l.t=t)]++(AL fet ks cs).1,.usl e l::(AL fet ks cs).2.1,(o,.arr e true l)::(AL fet ks cs).2.2.1,o::(AL fet ks cs).2.2.2)
    | _=>([false],[],[],[])
  | (true,.sl e t)::ks,.Df::cs=>((AL fet ks cs).1,.usl e ⟨t,[]⟩::(AL fet ks cs).2.1,(AL fet ks cs).2.2.1,(AL fet ks cs).2.2.2)
  | _,_=>([false],[],[],[])
def Bc (fet:Fet):Sh->A->Arg
  | .cell u k,a=>match AL fet [(u,k)] [a]with
    | (ok,[c],upd,del)=> {ok,a:=c,upd,del}
    | _=> {ok:=[false],a:=.undef}
  | .agg ks,.agg cs=>match AL fet ks cs with
    | (ok,cs,upd,del)=> {ok,a:=.agg cs,upd,del}
  | .box ks,.ptr o off=>match F7 fet o with
    | some cs=> {ok:=Nat.beq off 0::Nat.ble ks.length 200::(AL fet ks cs).1,a:=.box (AL fet ks cs).2.1,upd:=(AL fet ks cs).2.2.1,del:=(AL fet ks cs).2.2.2,boxes:=[(o,.box ks)]}
    | none=> {ok:=[false],a:=.undef}
  | .clo f ks,.clo g o=>match F7 fet o with
    | some cs=> {ok:=Nat.beq f g::Nat.ble ks.length 200::(AL fet ks cs).1,a:=.cbx g (AL fet ks cs).2.1,upd:=(AL fet ks cs).2.2.1,del:=(AL fet ks cs).2.2.2,boxes:=[(o,.box ks)]}
    | none=> {ok:=[false],a:=.undef}
  | .map kt vt,.own o=>match Ah fet o with
    | some (.mp l)=> {ok:=[decide (l.kt=kt),decide (l.vt=vt)],a:=.ump l,boxes:=[(o,.map kt vt)]}
    | _=> {ok:=[false],a:=.undef}
  | _,_=> {ok:=[false],a:=.undef}
def AY (fet:Fet):List Sh->List A->List Bool×List A×List (Nat×Obj)×List Nat×List (Nat×Sh)
  | [],[]=>([],[],[],[],[])
  | s::ss,a::aa=>((Bc fet s a).ok++(AY fet ss aa).1,(Bc fet s a).a::(AY fet ss aa).2.1,(Bc fet s a).upd++(AY fet ss aa).2.2.1,
     (Bc fet s a).del++(AY fet ss aa).2.2.2.1,(Bc fet s a).boxes++(AY fet ss aa).2.2.2.2)
  | _,_=>([false],[],[],[],[])
def Bd (id:Nat):List (Bool×CK)->List A->Nat->List Bool×List A×List (Nat×Obj)
  | [],_,_=>([],[],[])
  | (false,k)::ks,cs,j=>((force k (cs.getD j .undef)).1++(Bd id ks cs (j+1)).1,(force k (cs.getD j .undef)).2::(Bd id ks cs (j+1)).2.1,(Bd id ks cs (j+1)).2.2)
  | (true,.sl e t)::ks,cs,j=>((cs.getD j .undef).AgR e t::(Bd id ks cs (j+1)).1,.own (id+j)::(Bd id ks cs (j+1)).2.1,
      (id+j,.arr e true (cs.getD j .undef).toL)::(Bd id ks cs (j+1)).2.2)
  | _,_,_=>([false],[],[])
def back (id:Nat):Sh->A->List Bool×A×List (Nat×Obj)
  | .cell u k,a=>((Bd id [(u,k)] [a] 0).1++[k.plain],(Bd id [(u,k)] [a] 0).2.1.getD 0 .undef,(Bd id [(u,k)] [a] 0).2.2)
  | .agg ks,a=>(Nat.ble ks.length 200::a.isAgg ks.length::(Bd (id+1) ks a.Rn 0).1,.agg (Bd (id+1) ks a.Rn 0).2.1,(Bd (id+1) ks a.Rn 0).2.2)
  | .box ks,a=>(Nat.ble ks.length 200::a.AgP ks.length::(Bd (id+1) ks a.Rn 0).1,.ptr id 0,(id,.box (Bd (id+1) ks a.Rn 0).2.1)::(Bd (id+1) ks a.Rn 0).2.2)
  | .map kt vt,a=>([a.YL kt vt],.own id,[(id,.mp a.toM)])
  | .clo f ks,a=>(Nat.ble ks.length 200::a.Acj f ks.length::(Bd (id+1) ks a.Rn 0).1,.clo f id,(id,.box (Bd (id+1) ks a.Rn 0).2.1)::(Bd (id+1) ks a.Rn 0).2.2)
def BM (id stride:Nat):List Sh->List A->Nat->List Bool×List A×List (Nat×Obj)
  | [],_,_=>([],[],[])
  | s::ss,rs,j=>((back (id+stride*j) s (rs.getD j .undef)).1++(BM id stride ss rs (j+1)).1,(back (id+stride*j) s (rs.getD j .undef)).2.1::(BM id stride ss rs (j+1)).2.1,
     (back (id+stride*j) s (rs.getD j .undef)).2.2++(BM id stride ss rs (j+1)).2.2)
def EJ (rb:Nat):Sh->A->List Bool×Obj×List (Nat×Obj)
  | .box ks,a=>(a.isAgg ks.length::(Bd (rb+1) ks a.Rn 0).1,.box (Bd (rb+1) ks a.Rn 0).2.1,(Bd (rb+1) ks a.Rn 0).2.2)
  | .map kt vt,a=>([a.YL kt vt],.mp a.toM,[])
  | _,_=>([false],.box [],[])
def BN (rb:Nat->Nat) (rs:List A):List (Nat×Sh)->Nat->List Bool×List (Nat×Obj)×List (Nat×Obj)
  | [],_=>([],[],[])
  | (o,s)::r,j=>((EJ (rb o) s (rs.getD j .undef)).1++(BN rb rs r (j+1)).1,
      (o,(EJ (rb o) s (rs.getD j .undef)).2.1)::(BN rb rs r (j+1)).2.1,(EJ (rb o) s (rs.getD j .undef)).2.2++(BN rb rs r (j+1)).2.2)
def D9 (fet:Fet) (o:Nat):Nat:=match F7 fet o with
  | some cs=>bif cs.any (fun c=>c.Ec.any (fun i=>Nat.blt o i&&Nat.ble i (o+100)))then o+100 else o
  | none=>o
def nodup:List Nat->Bool
  | []=>true
  | n::r=> !(has r n)&&nodup r
def DX (id:Nat):List (Bool×CK)->List A->List (Nat×Nat)
  | (true,_)::ks,.own o::cs=>(o,id)::DX (id+1) ks cs
  | _::ks,_::cs=>DX (id+1) ks cs
  | _,_=>[]
def Fj (fet:Fet) (id:Nat):Sh->A->List (Nat×Nat)
  | .cell u k,a=>DX id [(u,k)] [a]
  | .agg ks,.agg cs=>DX (id+1) ks cs
  | .box ks,.ptr o _=>(o,id)::(match F7 fet o with | some cs=>DX (id+1) ks cs | none=>[])
  | .map _ _,.own o=>[(o,id)]
  | .clo _ ks,.clo _ o=>(o,id)::(match F7 fet o with | some cs=>DX (id+1) ks cs | none=>[])
  | _,_=>[]
def Eu (fet:Fet):Nat->Nat->List Sh->List A->List (Nat×Nat)
  | id,stride,s::ss,x::xs=>Fj fet id s x++Eu fet (id+stride) stride ss xs
  | _,_,_,_=>[]
end Go.Proofs.YtadefjgbcapakaaGreatDoor.Vm
namespace Go.Proofs.YtadefjgbcapakaaGreatDoor.Vm
def AoF:Nat->Nat->Option (Value->Prop)
  | 0,0=>some (fun v=> ∃ m,v= .int .i64 m)
  | 1,j=>if j<20 then some (fun v=>v= .int .u64 ((10 ^ j:Nat):Int))else none
  | _,_=>none
def AoE:Nat->Option Nat
  | 1=>some 20
  | _=>none
def Ci (tmps:List A):Operand->A
  | .tmp t=>tmps.getD t .undef
  | .const v=>ofConst v
  | .func f=>.fn (f+1)
  | .global _=>.undef
def b2 (d:Nat):Nat:=(d+128)*256
def BB {α :Type} (o:Option α) (k: α ->Dl):Dl:=match o with | some x=>k x | none=>.no
def DT (C:Ctx) (t:Nat) (k:TI->Dl):Dl:=BB (C.T t) k
def elem? :TypeDesc->Option Nat
  | .slice e=>some e
  | _=>none
def elemOf (C:Ctx) (t:Nat) (k:Nat->TI->Dl):Dl:=DT C t fun ti=>BB (elem? ti.d) fun e=>DT C e fun te=>k e te
structure Arr where
  e:Nat
  frz:Bool
  l:Sl
def VI (fet:Fet) (o:Nat):Option Arr:=match Ah fet o with | some (.arr e frz l)=>some ⟨e,frz,l⟩ | _=>none
def one? {α :Type}:List α ->Option α
  | [k]=>some k
  | _=>none
def uI:List CK->Bool
  | [.ptr]=>true
  | _=>false
def Qp (ti:TI) (cs:List A) (off:Nat) (pre:List Bool):Dl :=
  bif ti.agg then .g (pre++(forces cs ti.cs off).1) (.agg (forces cs ti.cs off).2)
  else BB (one? ti.cs) fun k=>.g (pre++(force k (cs.getD off .undef)).1) (force k (cs.getD off .undef)).2
def Vu (C:Ctx) (fet:Fet) (t:Nat) (a:A):Dl :=
  DT C t fun ti=>match a with
  | .ptr o off=>BB (F7 fet o) fun cs=>.g [Nat.ble (off+ti.cs.length) cs.length,Nat.blt 0 ti.cs.length] (vS ti cs off)
  | .elt cs=>Qp ti cs 0 [Nat.ble ti.cs.length cs.length]
  | .clo k o=>.g [Nat.beq k 0,uI ti.cs,!ti.agg] (.ptr o 0)
  | .CZ o i off=>BB (VI fet o) fun r=>Qp ti (r.l.at i) off [Nat.ble (off+ti.cs.length) r.l.sz,decide (i<r.l.xs.length)]
  | _=>.no
def Lj (C:Ctx) (fet:Fet) (t:Nat) (a v:A):Dl :=
  DT C t fun ti=>match a with
  | .ptr o off=>BB (F7 fet o) fun cs =>
      {ok:=[v.isVal,Nat.beq v.cells.length ti.cs.length,Nat.ble (off+ti.cs.length) cs.length,Nat.blt 0 ti.cs.length],val:=.undef,
       upd:=[(o,.box (splice cs off (CJ (D9 fet o+1+off) ti.cs v.cells).1))],new:=(CJ (D9 fet o+1+off) ti.cs v.cells).2}
  | .CZ o i off=>BB (VI fet o) fun r =>
      {ok:=(CB fet ti.cs v.cells).1++[!r.frz,(r.l.set i off (CB fet ti.cs v.cells).2.1).1,Nat.ble (off+ti.cs.length) r.l.sz,decide (i<r.l.xs.length),Nat.blt 0 ti.cs.length,!(has ((CB fet ti.cs v.cells).2.2.map (·.1)) o)],val:=.undef,
       upd:=(CB fet ti.cs v.cells).2.2++[(o,.arr r.e false (r.l.set i off (CB fet ti.cs v.cells).2.1).2)]}
  | _=>.no
def KN (C:Ctx) (d:Nat) (t:Nat) (v:A):Dl :=
  DT C t fun ti=> {ok:=[v.isVal,Nat.beq v.cells.length ti.cs.length],val:=.ptr (b2 d) 0,new:=(b2 d,.box (CJ (b2 d+1) ti.cs v.cells).1)::(CJ (b2 d+1) ti.cs v.cells).2}
def Yi (off n:Nat) (fet:Fet):A->Dl
  | .ptr o p=>BB (F7 fet o) fun cs=>.g [Nat.ble (p+off+n) cs.length] (.ptr o (p+off))
  | .elt cs=>.g [Nat.ble (off+n) cs.length] (.elt (cs.drop off))
  | .CZ o i p=>BB (VI fet o) fun r=>.g [decide (i<r.l.xs.length)] (.CZ o i (p+off))
  | _=>.no
def Aca:TypeDesc->Option (Nat×Nat)
  | .array n e=>some (n,e)
  | _=>none
def int? :A->Option Int
  | .int _ n=>some n
  | _=>none
def Sr (C:Ctx) (fet:Fet) (t:Nat) (x:A) (i:A):Dl :=
  match x with
  | .CZ o i0 off0=>BB (int? i) fun n=>DT C t fun ti=>BB (Aca ti.d) fun p=>DT C p.2 fun te=>BB (VI fet o) fun r =>
      .g [Nat.beq i0 0,Nat.beq off0 0,Nat.beq r.l.sz te.cs.length,decide (0<=n),decide (n<(p.1:Int)),decide (n.toNat<r.l.xs.length)] (.CZ o n.toNat 0)
  | x =>
  BB (int? i) fun n=>elemOf C t fun _ te=>match x with
  | .own o=>BB (VI fet o) fun r=>.g [Nat.beq r.l.sz te.cs.length,decide (0<=n),decide (n<r.l.xs.length)] (.CZ o n.toNat 0)
  | .sl l=>.g [Nat.beq l.sz te.cs.length,Nat.blt 0 l.sz,decide (0<=n),decide (n<l.xs.length)] (.elt (l.at n.toNat))
  | .bsl o k=>BB (F7 fet o) fun cs=>.g [Nat.beq te.cs.length 1,decide (0<=n),Nat.blt n.toNat k,Nat.blt n.toNat cs.length] (.ptr o n.toNat)
  | _=>.no
def AhJ:A->Option (List UInt8)
  | .str s=>some s
  | _=>none
def uH (C:Ctx) (t:Nat) (x i:A):Dl :=
  BB (int? i) fun n=>BB (AhJ x) fun s=>DT C t fun ti=>.g [eY ti.d,decide (0<=n),decide (n<s.length)] (.int .u8 ((s.getD n.toNat 0).toNat:Int))
def nZ (len:Nat):Option A->Option A->Option (List Bool×Nat×Nat)
  | none,none=>some ([],0,len)
  | some (.int _ a),none=>some ([decide (0<=a),decide (a<=len)],a.toNat,len)
  | none,some (.int _ b)=>some ([decide (0<=b),decide (b<=len)],0,b.toNat)
  | some (.int _ a),some (.int _ b)=>some ([decide (0<=a),decide (a<=b),decide (b<=len)],a.toNat,b.toNat)
  | _,_=>none
def AA {α :Type} (l:List α) (a b:Nat):List α :=(l.take b).drop a
def Eg (C:Ctx) (fet:Fet) (t:Nat) (x:A) (lo hi:Option A):Dl :=
  DT C t fun ti=>match x with
  | .str s=>BB (nZ s.length lo hi) fun r=>.g (eY ti.d::r.1) (.str (AA s r.2.1 r.2.2))
  | .sl l=>BB (nZ l.xs.length lo hi) fun r=>BB (elem? ti.d) fun e=>DT C e fun te=>.g (Nat.beq l.sz te.cs.length::r.1) (.sl ⟨l.t,AA l.xs r.2.1 r.2.2⟩)
  | .own o=>BB (VI fet o) fun ro=>BB (nZ ro.l.xs.length lo hi) fun r=>BB (elem? ti.d) fun e=>DT C e fun te =>
      {ok:=Nat.beq ro.l.sz te.cs.length::r.1,val:=.sl ⟨ro.l.t,AA ro.l.xs r.2.1 r.2.2⟩,upd:=bif ro.frz then []else [(o,.arr ro.e true ro.l)]}
  | _=>.no
def dF (C:Ctx) (fet:Fet) (d t:Nat) (x hi:A):Dl :=
  DT C t fun ti=>match x with
  | .own o=>BB (VI fet o) fun ro=>BB (nZ ro.l.xs.length none (some hi)) fun r=>BB (elem? ti.d) fun e=>DT C e fun te =>
      {ok:=Nat.beq ro.l.sz te.cs.length::r.1++[!ro.frz],val:=.own (b2 d),new:=[(b2 d,.arr ro.e false ⟨ro.l.t,AA ro.l.xs r.2.1 r.2.2⟩)],del:=[o]}
  | _=>.no
def mapOf (C:Ctx) (t:Nat) (k:TI->TI->Dl):Dl:=DT C t fun ti=>match ti.d with
  | .map a b=>DT C a fun ta=>DT C b fun tb=>k ta tb
  | _=>.no
def mp? (fet:Fet):A->Option (Nat×Mp)
  | .own o=>match Ah fet o with
    | some (.mp l)=>some (o,l)
    | _=>none
  | _=>none
def AgV (C:Ctx) (ta:TI):Bool:=match ta.d with
  | .string=>true
  | .int _=>true
  | .array n e=>match C.T e with
    | some te=>eY te.d&&Nat.blt 1 n
    | none=>false
  | _=>false
def Acr (ti:TI):Bool:=ti.agg== !(Nat.beq ti.cs.length 1)
def AgQ:A->Bool
  | .agg [_]=>false
  | _=>true
def Acg (C:Ctx) (ta tb:TI) (l:Mp) (i:A):List Bool:=[AgV C ta,Acr tb,decide (l.kt=tyl ta.cs),decide (l.vt=tyl tb.cs),i.isVal,AgQ i,(l.kt.mk i.cells).1]
def N9 (C:Ctx) (d t:Nat) (r:List A):Dl:=mapOf C t fun ta tb =>
  {ok:=[r.isEmpty],val:=.own (b2 d),new:=[(b2 d,.mp ⟨tyl ta.cs,tyl tb.cs,[]⟩)]}
def zS (l:Mp) (c:Bool) (r:Option l.vt.Val):A :=
  bif c then .tup [FW (l.vt.cells (r.getD l.vt.zero)),.bool r.isSome]else FW (l.vt.cells (r.getD l.vt.zero))
def iU (C:Ctx) (fet:Fet) (t:Nat) (c:Bool) (x i:A):Dl:=mapOf C t fun ta tb=>BB (mp? fet x) fun p =>
  .g (Acg C ta tb p.2 i++[tb.cs.all CK.plain]) (zS p.2 c (Uj p.2.kt (p.2.kt.mk i.cells).2 p.2.l))
def Yh (C:Ctx) (fet:Fet) (t:Nat) (x i v:A):Dl:=mapOf C t fun ta tb=>BB (mp? fet x) fun p =>
  {ok:=Acg C ta tb p.2 i++[v.isVal,AgQ v]++(CB fet tb.cs v.cells).1++[(p.2.vt.mk (CB fet tb.cs v.cells).2.1).1],val:=.undef,
   upd:=(CB fet tb.cs v.cells).2.2++[(p.1,.mp ⟨p.2.kt,p.2.vt,YV p.2.kt (p.2.kt.mk i.cells).2 (p.2.vt.mk (CB fet tb.cs v.cells).2.1).2 p.2.l⟩)]}
def XA (C:Ctx) (fet:Fet) (t:Nat) (x i:A):Dl:=mapOf C t fun ta tb=>BB (mp? fet x) fun p =>
  {ok:=Acg C ta tb p.2 i,val:=.tup [],upd:=[(p.1,.mp ⟨p.2.kt,p.2.vt,WA p.2.kt (p.2.kt.mk i.cells).2 p.2.l⟩)]}
def zO (C:Ctx) (fet:Fet) (t:Nat) (x:A):Dl :=
  DT C t fun ti=>match ti.d with
  | .string=>BB (AhJ x) fun s=>.v (.int .i64 (s.length:Int))
  | .array n _=>.v (.int .i64 (n:Int))
  | .slice _=>match x with
    | .bsl o k=>BB (F7 fet o) fun _=>.v (.int .i64 (k:Int))
    | x=>.g (rd fet x).1 (.int .i64 ((rd fet x).2.xs.length:Int))
  | .map _ _=>BB (mp? fet x) fun p=>.v (.int .i64 (p.2.l.length:Int))
  | _=>.no
def G8 (fet:Fet) (t:Ty):A->List Bool×List t.Val
  | .str s=>match t with
    | .int .u8 .nil=>([],s.map (fun(b:UInt8)=>((b.toNat:Int))))
    | _=>([false],[])
  | y=>rdT fet t y
def WT (C:Ctx) (fet:Fet) (d:Nat) (t:Nat) (x y:A):Dl :=
  elemOf C t fun e te=>match x with
  | .own o=>BB (VI fet o) fun r =>
      {ok:=(G8 fet r.l.t y).1++[Nat.beq e r.e,Nat.beq r.l.sz te.cs.length,Nat.blt 0 r.l.sz,decide ((r.l.xs.length+(G8 fet r.l.t y).2.length)*(te.bytes+1)<=140737488355328)],
       val:=.own (b2 d),new:=[(b2 d,.arr r.e r.frz ⟨r.l.t,r.l.xs++(G8 fet r.l.t y).2⟩)],del:=[o]}
  | .Df =>
      {ok:=(G8 fet (tyl te.cs) y).1++[Nat.blt 0 te.cs.length,decide ((G8 fet (tyl te.cs) y).2.length*(te.bytes+1)<=140737488355328)],
       val:=.own (b2 d),new:=[(b2 d,.arr e false ⟨tyl te.cs,(G8 fet (tyl te.cs) y).2⟩)]}
  | _=>.no
def PT (C:Ctx) (fet:Fet) (src dst:Nat) (x:A):Dl :=
  DT C src fun s=>DT C dst fun t=>match t.d,x with
  | .int k,.int _ n=>.v (.int k (k.wrap n))
  | .string,.str l=>.v (.str l)
  | .string,.int _ _=>.no
  | .string,x=>BB (elem? s.d) fun e=>DT C e fun te=>.g (Acl te.d::((rdB fet x).1++[(rdB fet x).2.all isByte])) (.str ((rdB fet x).2.map byteOf))
  | _,_=>.no
def aZ (C:Ctx) (d s t:Nat) (l:List UInt8):Dl:=DT C s fun _=>elemOf C t fun e te =>
  {ok:=[Acl te.d,decide (l.length<=140737488355328)],val:=.own (b2 d),new:=[(b2 d,.arr e false ⟨RU,l.map (fun(b:UInt8)=>((b.toNat:Int)))⟩)]}
def Adr:TypeDesc->Bool | .slice _=>true | _=>false
def iL (C:Ctx) (o:Oper) (fet:Fet) (s t:Nat) (x:A):Dl :=
  match x with
  | .str l=>DT C t fun tt=>bif Adr tt.d then BB o.dst fun d=>aZ C d s t l else PT C fet s t (.str l)
  | x=>PT C fet s t x
def Qz (C:Ctx) (d t:Nat):Dl:=DT C t fun ti=>match Aca ti.d with
  | some (n,e)=>DT C e fun te=> {ok:=[te.cs.all CK.plain,Nat.blt 0 te.cs.length,Nat.blt 0 n,Nat.ble n 16777216,decide (ti.cs=(List.replicate n te.cs).flatten)],val:=.CZ (b2 d) 0 0,new:=[(b2 d,.arr t false ⟨tyl te.cs,List.replicate n (tyl te.cs).zero⟩)]}
  | none=>KN C d t (.agg (ti.cs.map CK.zero))
def Ahm (fet:Fet) (s:Bool) (d:TypeDesc) (x:A):Option Bool :=
  match s,d,x with
  | true,.slice _,.Df=>some true
  | true,.slice _,.sln l=>some l.xs.isEmpty
  | false,.pointer _,.Dj=>some true
  | false,.pointer _,.ptr o _=>(F7 fet o).map (fun _=>false)
  | _,_,_=>none
def zZ (C:Ctx) (fet:Fet) (s:Bool) (t:Nat) (x:A) (k:Bool->Dl):Dl:=DT C t fun ti=>BB (Ahm fet s ti.d x) k
def Acb (C:Ctx) (t:Nat) (r:Bool):Dl:=DT C t fun ti=>.g [zL ti.d] (.bool r)
def Aga (C:Ctx) (fet:Fet) (op:BinOp) (t:Nat) (x y:A):Dl :=
  match x,y with
  | .int k a,.int k' b=>match op with
    | .shl=>.g [decide (0<=b)] (.int k (k.wrap (a*2 ^ (min b.toNat k.bits))))
    | .shr=>.g [decide (0<=b)] (.int k (a.fdiv (2 ^ (min b.toNat k.bits))))
    | op=>bif A.kEq k k' then aV op k a b else .no
  | .str a,.str b=>aW op a b
  | .bool a,.bool b=>match op with
    | .eql=>Acb C t (a==b)
    | .neq=>Acb C t (!(a==b))
    | _=>.no
  | .agg x,.agg y=>DT C t fun ti=>match op with
    | .eql=>.g [!ti.cmp.isEmpty,(GV ti.cmp x y).1] (.bool (GV ti.cmp x y).2)
    | .neq=>.g [!ti.cmp.isEmpty,(GV ti.cmp x y).1] (.bool (!(GV ti.cmp x y).2))
    | _=>.no
  | x,.Df=>match op with
    | .eql=>zZ C fet true t x fun v=>.v (.bool v)
    | .neq=>zZ C fet true t x fun v=>.v (.bool (!v))
    | _=>.no
  | x,.Dj=>match op with
    | .eql=>zZ C fet false t x fun v=>.v (.bool v)
    | .neq=>zZ C fet false t x fun v=>.v (.bool (!v))
    | _=>.no
  | _,_=>.no
def unX:UnOp->A->Dl
  | .not,.bool b=>.v (.bool !b)
  | .neg,.int k n=>.v (.int k (k.wrap (0 - n)))
  | .xor,.int k n=>.v (.int k (Bi .xor k (if k.signed then -1 else k.max) n))
  | _,_=>.no
def Acs (c a b:A):Dl:=.g [c.GG.1,c.GG.2.isB,(bif c.GG.2.toB then a.GG.1 else b.GG.1),(bif c.GG.2.toB then a.GG.2.isB else b.GG.2.isB)] (.bool (bif c.GG.2.toB then a.GG.2.toB else b.GG.2.toB))
def YR (C:Ctx) (d:Nat) (t:Nat) (l c:A):Dl :=
  BB (int? l) fun n=>BB (int? c) fun m=>elemOf C t fun e te =>
   {ok:=[decide (n<=m),decide (0<=n),decide (m*(te.bytes+1)<=140737488355328),Nat.blt 0 te.cs.length,te.cs.all CK.plain],val:=.own (b2 d),
    new:=[(b2 d,.arr e false ⟨tyl te.cs,List.replicate n.toNat (tyl te.cs).zero⟩)]}
def aY (C:Ctx) (t:Nat) (ps:List (Nat×A)):Dl:=DT C t fun ti=>BB (fill C ti.d ps (ti.cs.map CK.zero)) fun cs=>.g [ti.agg] (.agg cs)
def I7 (C:Ctx) (fet:Fet) (d t n:Nat) (ps:List (Nat×A)):Dl:=elemOf C t fun e te =>
  {ok:=(EN fet te (tyl te.cs) ps (List.replicate n (tyl te.cs).zero)).1++[Nat.ble (n*te.cs.length) 16777216,Nat.blt 0 te.cs.length,te.cs.all CK.plain],val:=.own (b2 d),
   new:=[(b2 d,.arr e false ⟨tyl te.cs,(EN fet te (tyl te.cs) ps (List.replicate n (tyl te.cs).zero)).2.1⟩)],upd:=(EN fet te (tyl te.cs) ps (List.replicate n (tyl te.cs).zero)).2.2}
def aX (C:Ctx) (d t n:Nat) (ps:List (Nat×A)):Dl:=elemOf C t fun e te=>BB (fill C (.array n e) ps (List.replicate n .Dj)) fun cs =>
  {ok:=[uI te.cs,Nat.ble n 16777216,Nat.blt 0 n,ps.all fun p=>p.2.isVal&& !p.2.isAgg 0],val:=.bsl (b2 d) n,new:=(b2 d,.box (CJ (b2 d+1) [] cs).1)::(CJ (b2 d+1) [] cs).2}
def uJ:List (Nat×A)->Bool
  | (_,.ptr _ _)::_=>true
  | _=>false
def Si (C:Ctx) (fet:Fet) (t f:Nat) (x:A):Dl :=
  DT C t fun ti=>BB (vU C ti.d f) fun p=>match Yi p.1 p.2.cs.length fet x with
  | δ => {δ with ok:=Nat.blt 0 p.2.cs.length:: δ.ok}
def AnN:A->Option (List A)
  | .agg cs=>some cs
  | _=>none
def sQ (C:Ctx) (t f:Nat) (x:A):Dl :=
  DT C t fun ti=>BB (vU C ti.d f) fun p=>BB (AnN x) fun cs=>.g [Nat.ble (p.1+p.2.cs.length) cs.length,Nat.blt 0 p.2.cs.length] (vS p.2 cs p.1)
def AoW:A->Option (List A)
  | .tup vs=>some vs
  | _=>none
def YC (i:Nat) (x:A):Dl:=BB (AoW x) fun vs=>.g [Nat.blt i vs.length] (vs.getD i .undef)
def V3 (fet:Fet):A->Dl
  | .ptr o off=>BB (F7 fet o) fun _=>.v (.ptr o off)
  | _=>.no
structure Hand where
  ok:List Bool
  vs:List A
  upd:List (Nat×Obj)
  del:List Nat
  boxes:List (Nat×Sh)
def Acz:List A->A
  | [v]=>v
  | vs=>.tup vs
def Acd (rb:Nat->Nat) (d:Nat) (sg:Sig) (N:List (Nat×Nat)) (n:Nat) (h:Hand) (ok:Bool) (rs:List A):Dl :=
  ⟨h.ok++[ok]++(BM (b2 d) 16 sg.Az rs 0).1++(BN rb (rs.drop sg.Az.length) h.boxes 0).1++[nodup (N.map (·.1)),Nat.ble n 100,Nat.beq rs.length (sg.Az.length+h.boxes.length)],
    Acz (BM (b2 d) 16 sg.Az rs 0).2.1,
    (BM (b2 d) 16 sg.Az rs 0).2.2++(BN rb (rs.drop sg.Az.length) h.boxes 0).2.2,
    h.upd++(BN rb (rs.drop sg.Az.length) h.boxes 0).2.1,h.del⟩
def TY (fet:Fet) (ss:List Sh) (xs:List A):Hand:=⟨(AY fet ss xs).1,(AY fet ss xs).2.1,(AY fet ss xs).2.2.1,(AY fet ss xs).2.2.2.1,(AY fet ss xs).2.2.2.2⟩
def Ik (fet:Fet) (d:Nat) (sg:Sig) (args:List A):Dl:=Acd (D9 fet) d sg (Eu fet 0 256 sg.Af args) args.length (TY fet sg.Af args) (sg.ok (TY fet sg.Af args).vs) (sg.val (TY fet sg.Af args).vs)
def Ym (C:Ctx) (fet:Fet) (d:Nat) (f:Nat) (args:List A):Dl :=
  match C.G f with
  | some sg=>Ik fet d sg args
  | none=>.no
def AcM (C:Ctx) (fet:Fet) (d t:Nat) (c:A) (args:List A):Dl :=
  match c with
  | .fn n=>match C.dyn t with
    | some sg=>Ik fet d (sg n) args
    | none=>.no
  | .clo f o=>BB (F7 fet o) fun _=>match C.dyn t with
    | some sg=>Ik fet d (sg f) (args++[.clo 0 o])
    | none=>.no
  | _=>.no
def Ah4:List A->Option Nat
  | [.ptr o 0]=>some o
  | _=>none
def yE (fet:Fet) (f:Nat):A->Dl
  | .ptr q off=>BB (F7 fet q) fun cs=>BB (Ah4 cs) fun o=> {ok:=[Nat.beq off 0],val:=.clo (f+1) o,del:=[q]}
  | _=>.no
def a0 (k:Dl):List A->Dl
  | []=>k
  | _=>.no
def a1 (k:A->Dl):List A->Dl
  | [a]=>k a
  | _=>.no
def a2 (k:A->A->Dl):List A->Dl
  | [a,b]=>k a b
  | _=>.no
def a3 (k:A->A->A->Dl):List A->Dl
  | [a,b,c]=>k a b c
  | _=>.no
def Ak3 (C:Ctx) (o:Oper) (fet:Fet) (ts:List Nat) (x y:A):Dl :=
  match ts with
  | [t,u]=>DT C u fun tu=>BB o.dst fun d=>match WT C fet d t x y with
    | δ => {δ with ok:=PZ tu.d:: δ.ok}
  | _=>.no
def slX (C:Ctx) (dst:Option Nat) (fet:Fet) (t:Nat) (lo hi mx:Option Operand):List A->Dl :=
  match mx,lo,hi with
  | none,none,none=>a1 fun x=>Eg C fet t x none none
  | none,some _,none=>a2 fun x a=>Eg C fet t x (some a) none
  | none,none,some _=>a2 fun x b=>match dst with
    | some d=>bif has C.cuts d then dF C fet d t x b else Eg C fet t x none (some b)
    | none=>Eg C fet t x none (some b)
  | none,some _,some _=>a3 fun x a b=>Eg C fet t x (some a) (some b)
  | _,_,_=>fun _=>.no
def Ahk:A->A->Dl
  | .int k a,.int k' b=>bif A.kEq k k' then .v (.int k (bif decide (b<a)then b else a))else .no
  | _,_=>.no
def Ahh:A->A->Dl
  | .int k a,.int k' b=>bif A.kEq k k' then .v (.int k (bif decide (a<b)then b else a))else .no
  | _,_=>.no
def blX (C:Ctx) (o:Oper) (fet:Fet) (ts:List Nat):Builtin->List A->Dl
  | .len=>a1 fun x=>BB (one? ts) fun t=>zO C fet t x
  | .append=>a2 fun x y=>Ak3 C o fet ts x y
  | .min=>a2 Ahk
  | .max=>a2 Ahh
  | .delete=>a2 fun x y=>match ts with
    | t::_=>XA C fet t x y
    | []=>.no
  | _=>fun _=>.no
def opX (C:Ctx) (o:Oper) (v:List A) (fet:Fet):Dl :=
  match o.op with
  | .move _=>a1 (fun a=>.v a) v
  | .assign _=>a1 (fun a=>.v a) v
  | .pick _ _ _=>a3 (fun c a b=>Acs c a b) v
  | .alloc t=>a0 (BB o.dst fun d=>Qz C d t) v
  | .box t _=>a1 (fun a=>BB o.dst fun d=>KN C d t a) v
  | .build t ps=>aY C t ((ps.toList.map (·.1)).zip v)
  | .buildSlice t n ps=>BB o.dst fun d=>bif uJ ((ps.toList.map (·.1)).zip v)then aX C d t n ((ps.toList.map (·.1)).zip v)else I7 C fet d t n ((ps.toList.map (·.1)).zip v)
  | .load t _=>a1 (Vu C fet t) v
  | .store t _ _=>a2 (fun a x=>bif o.dst.isNone then Lj C fet t a x else .no) v
  | .nilCheck _=>a1 (V3 fet) v
  | .binOp op t _ _ _=>a2 (Aga C fet op t) v
  | .unOp op _ _=>a1 (unX op) v
  | .convert s t _=>a1 (iL C o fet s t) v
  | .makeSlice t _ _=>a2 (fun l c=>BB o.dst fun d=>YR C d t l c) v
  | .slice t _ lo hi mx=>slX C o.dst fet t lo hi mx v
  | .fieldAddr t _ f=>a1 (Si C fet t f) v
  | .field t _ f=>a1 (sQ C t f) v
  | .indexAddr t _ _=>a2 (Sr C fet t) v
  | .index t _ _=>a2 (uH C t) v
  | .extract _ i=>a1 (YC i) v
  | .makeFunc (.func f) fi _=>bif fi.isEmpty then a1 (yE fet f) v else .no
  | .makeMap t _=>BB o.dst fun d=>N9 C d t v
  | .lookup t _ _ c=>a2 (iU C fet t c) v
  | .mapUpdate t _ _ _=>a3 (fun m i x=>bif o.dst.isNone then Yh C fet t m i x else .no) v
  | .insert t _ _ _=>a3 (fun m i x=>bif o.dst.isNone then Yh C fet t m i x else .no) v
  | .call ⟨.builtin b,_,ts⟩=>blX C o fet ts.toList b v
  | .call ⟨.value (.func f),_,_⟩=>match v with
    | _::vs=>Ym C fet (o.dst.getD 0) f vs
    | []=>.no
  | .call ⟨.value (.tmp t),_,_⟩=>match v with
    | c::vs=>AcM C fet (o.dst.getD 0) t c vs
    | []=>.no
  | _=>.no
def fetch (Aa:List (Nat×Obj)):List Nat->Fet
  | []=>[]
  | n::r=>match Ah Aa n with
    | some x=>(n,x)::fetch Aa r
    | none=>fetch Aa r
def CP (st:St) (vs:List A):Fet :=
  let f1:=fetch st.Aa (vs.flatMap A.ids)
  f1++fetch st.Aa (f1.flatMap (fun p=>p.2.ids))
def Bj (Aa:List (Nat×Obj)):List Nat->List (Nat×Obj)
  | []=>Aa
  | n::r=>Bj (IP Aa n) r
def Ak (Aa:List (Nat×Obj)):List (Nat×Obj)->List (Nat×Obj)
  | []=>Aa
  | (n,x)::r=>Ak (CX Aa n x) r
def put (tmps:List A):Option Tmp->A->List A
  | some d,v=>tmps.set d v
  | none,_=>tmps
def apply (st:St) (o:Oper) (δ :Dl):St :=
  {tmps:=put st.tmps o.dst δ.val,Aa:=Ak (Bj (Ak st.Aa δ.upd) δ.del) δ.new}
def strips:List A->List Bool×List A
  | []=>([],[])
  | a::r=>(a.strip.1++(strips r).1,a.strip.2::(strips r).2)
def guardOf (ops:List Oper) (tmps:List A):Option (Nat×Bool)->Option (Option Bool)
  | none=>some none
  | some (j,want)=>match ops[j]? with
    | some oj=>match oj.dst with
      | some t=>match (tmps.getD t .undef)with
        | .bool b=>some (some (bif want then b else !b))
        | .cnd g (.bool b)=>some (some (g&&(bif want then b else !b)))
        | _=>none
      | none=>none
    | none=>none
def Zm:Op->Bool
  | .move _=>true
  | .assign _=>true
  | .binOp _ _ _ _ _=>true
  | _=>false
def CG:Op->List A->List Bool×List A
  | .pick _ _ _,vs=>([],vs)
  | op,vs=>((strips vs).1,bif Zm op then(strips vs).2 else(strips vs).2.map A.weak)
def uZ (g:Bool):A->A->A
  | .bool x,.bool y=>.bool (bif g then y else x)
  | .int k x,.int _ y=>.int k (bif g then y else x)
  | .str x,.str y=>.str (bif g then y else x)
  | .sl l,.sl l'=>match l'.cast l.t with
    | some ys=>.sl ⟨l.t,bif g then ys else l.xs⟩
    | none=>.undef
  | a,_=>a
def pV:A->A->Bool
  | .bool _,.bool _=>true
  | .int k _,.int k' _=>A.kEq k k'
  | .str _,.str _=>true
  | .sl l,.sl l'=>(l'.cast l.t).isSome
  | .own o,.own o'=>Nat.beq o o'
  | .Dj,.Dj=>true
  | .undef,.undef=>true
  | _,_=>false
def Aaz (g:Bool):List A->List A->List A
  | a::aa,b::bs=>uZ g a b::Aaz g aa bs
  | _,_=>[]
def okM:List A->List A->Bool
  | [],[]=>true
  | a::aa,b::bs=>pV a b&&okM aa bs
  | _,_=>false
def Ui (g:Bool):Option Obj->Obj->Obj
  | some (.box cs),.box ds=>.box (Aaz g cs ds)
  | some (.arr e _ l),.arr _ true _=>.arr e true l
  | _,x=>x
def pW (c:Bool):Option Obj->Obj->Bool
  | some (.box cs),.box ds=>okM cs ds
  | some (.arr e _ _),.arr e' true _=>c&&Nat.beq e e'
  | _,_=>false
def Y6:Op->Bool
  | .call ⟨.value (.func _),_,_⟩=>true
  | .call ⟨.value (.tmp _),_,_⟩=>true
  | .slice _ _ _ _ _=>true
  | _=>false
def BL (C:Ctx) (ops:List Oper) (o:Oper) (st:St):Dl :=
  match guardOf ops st.tmps o.guard with
  | some none=>match CG o.op (o.op.operands.toList.map (Ci st.tmps))with
    | (ok,vs)=>match opX C o vs (CP st vs)with
      | δ => {δ with ok:=ok++ δ.ok++[δ.new.all (fun p=>st.fresh p.1),nodup (δ.new.map (·.1))]}
  | some (some g)=>match CG o.op (o.op.operands.toList.map (Ci st.tmps))with
    | (ok,vs)=>match opX C o vs (CP st vs)with
      | δ => {ok:=(ok++(δ.val.isVal:: δ.ok)).map (fun c=>c|| !g)++(δ.new.isEmpty:: δ.del.isEmpty::o.dst.isSome:: δ.upd.map (fun p=>pW (Y6 o.op) (Ah (CP st vs) p.1) p.2)),val:=.cnd g δ.val,
              upd:= δ.upd.map (fun p=>(p.1,Ui g (Ah (CP st vs) p.1) p.2))}
  | none=>.no
def allT {α :Type}:List Bool->Option α ->Option α
  | [],r=>r
  | c::cs,r=>bif c then allT cs r else none
def ND {α :Type} (C:Ctx) (ops:List Oper):List Oper->St->(St->Option α)->Option α
  | [],st,K=>K st
  | o::r,st,K=>match BL C ops o st with
    | δ =>allT δ.ok (ND C ops r (apply st o δ) K)
def Ve (C:Ctx) (o:Oper):Option (Nat×Alt) :=
  match o.guard,o.op with
  | none,.call ⟨.value (.func f),_,_⟩=>(C.alt f).map (fun q=>(f,q))
  | _,_=>none
def xN (o:Oper) (st:St) (q:Alt):Bool :=
  match (CG o.op (o.op.operands.toList.map (Ci st.tmps))).2 with
  | v::xs=>q.2.2 (TY (CP st (v::xs)) q.1.Af xs).vs
  | []=>true
def OL {α :Type} (C:Ctx) (ops:List Oper):List Oper->St->(St->Option α)->Option α
  | [],st,K=>K st
  | o::r,st,K=>match Ve C o with
    | none=>allT (BL C ops o st).ok (OL C ops r (apply st o (BL C ops o st)) K)
    | some (f,q)=>bif xN o st q then allT (BL (C.put f q.1) ops o st).ok (OL C ops r (apply st o (BL (C.put f q.1) ops o st)) K)
      else allT (BL (C.put f q.2.1) ops o st).ok (OL C ops r (apply st o (BL (C.put f q.2.1) ops o st)) K)
abbrev Bs:=List UInt8
def chk {ρ :Type} (c:Bool) (k:Option ρ):Option ρ :=bif c then k else none
def Ac {α ρ :Type} [Inhabited α] (o:Option α) (k: α ->Option ρ):Option ρ :=bif o.isSome then k (o.getD default)else none
def Ap {X Y ρ :Type} (B:X->(X->Option ρ)->(Y->Option ρ)->Option ρ):Nat->X->(Y->Option ρ)->Option ρ
  | 0,_,_=>none
  | n+1,x,kx=>B x (fun x'=>Ap B n x' kx) kx
def Gf (o:Oper) (st:St):List A:=(CG o.op (o.op.operands.toList.map (Ci st.tmps))).2
def iI:Op->List A->Bool
  | .move _,_=>true
  | .assign _,_=>true
  | .load _ _,[.clo _ _]=>true
  | _,_=>false
def HY (o:Oper) (st:St) (vs:List A):List Nat:=bif iI o.op vs then []else vs.flatMap A.ids++(fetch st.Aa (vs.flatMap A.ids)).flatMap (fun p=>p.2.ids)
structure CO where
  o:Oper
  δ :Dl
  rd:List Nat
  anc:List Nat
def CO.news (x:CO):List Nat:=x.δ.new.map (·.1)
def CO.keys (x:CO):List Nat:=x.δ.upd.map (·.1)++x.δ.del++x.news
def CO.says (x:CO):List Nat:=x.δ.val.ids++x.δ.upd.flatMap (fun p=>p.2.ids)++x.δ.new.flatMap (fun p=>p.2.ids)
def JZ (a b:List Nat):Bool:=a.all (fun n=> !(has b n))
def slotsOf (ops:List Oper) (o:Oper):List Nat :=
  (o.op.operands.toList.filterMap fun | .tmp t=>some t | _=>none) ++
  (match o.guard with
   | some (g,_)=>match ops[g]? with
     | some x=>match x.dst with | some t=>[t] | none=>[]
     | none=>[]
   | none=>[])
def Ql (o:Oper):List Nat:=match o.dst with | some d=>[d] | none=>[]
def indep (ops:List Oper) (x y:CO):Bool :=
  JZ (Ql x.o) (Ql y.o)&&JZ (Ql x.o) (slotsOf ops y.o)&&JZ (Ql y.o) (slotsOf ops x.o) &&
  JZ x.keys y.rd&&JZ y.keys x.rd&&JZ x.keys y.keys&&JZ x.news y.says
def Un (ops:List Oper) (i:Nat) (x y:CO):Bool:=JZ y.news x.says&&JZ y.news x.keys&&(has y.anc i||indep ops x y)
def Oy (o:Oper):List Nat:=o.after.toList.filterMap fun e=>bif Region.binds .any e then some e.on else none
def KA (C:Ctx) (ops:List Oper):List Oper->List (List Nat)->St->List CO
  | [],_,_=>[]
  | o::r,acc,st=>match BL C ops o st,(Oy o).flatMap (fun e=>e::acc.getD e [])with
    | δ,an=>⟨o,δ,HY o st (Gf o st),an⟩::KA C ops r (acc++[an]) (apply st o δ)
def Tc (ops:List Oper):Nat->List CO->Bool
  | _,[]=>true
  | i,x::r=>r.all (Un ops i x)&&Tc ops (i+1) r
def backward:Nat->List Oper->Bool
  | _,[]=>true
  | i,o::r=>o.after.toList.all (fun e=>Nat.blt e.on i)&&backward (i+1) r
def KJ:Nat->List Oper->Bool
  | _,[]=>true
  | i,o::r=>o.after.toList.all (fun e=> !(Region.binds .any e)||Nat.blt e.on i)&&KJ (i+1) r
def ranks (md:Region.Mode) (ops:List Oper):Nat->List Nat->List Nat
  | 0,r=>r
  | n+1,r=>ranks md ops n (ops.map fun o=>o.after.toList.foldl (fun m e=>bif Region.binds md e then(bif Nat.ble m (r.getD e.on 0)then r.getD e.on 0+1 else m)else m) 0)
def Ze (md:Region.Mode) (n:Nat) (rk:List Nat):Nat->List Oper->Bool
  | _,[]=>true
  | i,o::r=>o.after.toList.all (fun e=> !(Region.binds md e)||(Nat.blt e.on n&&Nat.blt (rk.getD e.on 0) (rk.getD i 0)))&&Ze md n rk (i+1) r
def wG (md:Region.Mode) (ops:List Oper):Bool:=Ze md ops.length (ranks md ops ops.length (ops.map fun _=>0)) 0 ops
def ordered (ops:List Oper):Bool:=KJ 0 ops&&(backward 0 ops||(wG .text ops&&wG .gc ops&&wG .any ops))
def sorted:List (Nat×Obj)->Bool
  | []=>true
  | [_]=>true
  | (n,_)::(k,y)::r=>Nat.blt n k&&sorted ((k,y)::r)
def JI (C:Ctx) (ops:List Oper) (st:St):Bool :=
  match KA C ops ops [] st with
  | fs=>ordered ops&&Tc ops 0 fs&&(fs.flatMap CO.news).all st.fresh&&sorted st.Aa
def F9 (f t:Nat):A->A
  | .ptr o off=>.ptr (bif Nat.beq o f then t else o) off
  | .own o=>.own (bif Nat.beq o f then t else o)
  | .clo g o=>.clo g (bif Nat.beq o f then t else o)
  | .bsl o n=>.bsl (bif Nat.beq o f then t else o) n
  | .CZ o i off=>.CZ (bif Nat.beq o f then t else o) i off
  | .agg cs=>.agg (cs.map fun
    | .ptr o off=>.ptr (bif Nat.beq o f then t else o) off
    | .own o=>.own (bif Nat.beq o f then t else o)
    | .clo g o=>.clo g (bif Nat.beq o f then t else o)
    | .bsl o n=>.bsl (bif Nat.beq o f then t else o) n
    | .CZ o i off=>.CZ (bif Nat.beq o f then t else o) i off
    | c=>c)
  | a=>a
def gK (f t:Nat):Obj->Obj
  | .box cs=>.box (cs.map (F9 f t))
  | x=>x
def drop (keep:List Nat):List A->Nat->List A
  | [],_=>[]
  | a::r,i=>(bif has keep i then a else .undef)::drop keep r (i+1)
def gQ (st:St):List (Nat×Nat)->Bool×St
  | []=>(true,st)
  | (f,t)::r=>match Ah st.Aa f with
    | some x=>match gQ {tmps:=st.tmps.map (F9 f t),Aa:=(CX (IP st.Aa f) t x).map (fun p=>(p.1,gK f t p.2))} r with
      | (ok,st')=>((bif Nat.beq f t then true else st.fresh t)&&ok,st')
    | none=>gQ st r
def AcX (Aa:List (Nat×Obj)):List Nat->List (Nat×Obj)
  | []=>Aa
  | n::r=>match Ah Aa n with
    | some (.arr e _ l)=>AcX (CX Aa n (.arr e true l)) r
    | _=>AcX Aa r
def AjZ:Nat->List (Nat×Obj)->List Nat->List Nat
  | 0,_,l=>l
  | n+1,Aa,l=>l++AjZ n Aa ((fetch Aa l).flatMap (fun p=>p.2.ids))
def reached (tmps:List A) (Aa:List (Nat×Obj)):List Nat:=AjZ 4 Aa (tmps.flatMap A.ids++(Aa.map (·.1)).filter OZ)
def XN:A->Bool | .Df=>true | _=>false
def gW (id:Nat):List Nat->List A->List A
  | [],l=>l
  | t::r,l=>gW id r (l.set t (.own id))
def owns:List (List Nat×Nat×Ty×Nat)->St->Bool×St
  | [],st=>(true,st)
  | (ts,e,ty,id)::r,st=>bif ts.any (fun t=>XN (st.tmps.getD t .undef))then
      match owns r {tmps:=gW id ts st.tmps,Aa:=CX st.Aa id (.arr e false ⟨ty,[]⟩)}with
      | (ok,st')=>(ts.all (fun t=>XN (st.tmps.getD t .undef)&&Nat.blt t st.tmps.length)&&st.fresh id&&ok,st')
    else owns r st
def pzs:List (Option Nat×Nat×Ty)->St->St
  | [],st=>st
  | (none,t,ty)::r,st=>match st.tmps.getD t .undef with
    | .Df=>pzs r {st with tmps:=st.tmps.set t (.sl ⟨ty,[]⟩)}
    | .own o=>match Ah st.Aa o with
      | some (.arr e _ l)=>pzs r {tmps:=st.tmps.set t (.sl l),Aa:=CX st.Aa o (.arr e true l)}
      | _=>pzs r st
    | _=>pzs r st
  | (some b,j,_)::r,st=>match Ah st.Aa b with
    | some (.box cs)=>match cs.getD j .undef with
      | .own o=>match Ah st.Aa o with
        | some (.arr e _ l)=>pzs r {st with Aa:=CX (CX st.Aa o (.arr e true l)) b (.box (cs.set j (.sl l)))}
        | _=>pzs r st
      | _=>pzs r st
    | _=>pzs r st
def norm (C:Ctx) (key:Nat) (st0:St):Bool×St :=
  match C.nrm key with
  | none=>(true,st0)
  | some n =>
    match pzs n.pz st0 with
    | st=>match gQ {tmps:=drop n.keep st.tmps 0,Aa:=st.Aa.filter (fun p=>has (reached (drop n.keep st.tmps 0) st.Aa) p.1)} n.ren with
      | (ok,st')=>match owns n.nw st' with
        | (ok',st'')=>(ok&&ok',{st'' with Aa:=AcX st''.Aa n.frz})
inductive Ex where
  | normal
  | exit (id:Nat)
def Dx:Code->Option Nat
  | .region id _ _=>some id
  | .seq a b=>match Dx a with | some n=>some n | none=>(Dx b).map (· +4096)
  | .cond _ a b=>match Dx a with | some n=>some n | none=>Dx b
  | .block _ c=>Dx c
  | .loop c=>Dx c
  | .scope c=>Dx c
  | _=>none
def JO {ρ :Type} (C:Ctx) (key:Nat) (st:St) (K:St->Option ρ):Option ρ :=
  match norm C key st with
  | (ok,st')=>bif ok then K st' else none
def meet {ρ :Type} (C:Ctx) (kind:Nat) (c:Code) (st:St) (K:St->Option ρ):Option ρ :=
  match Dx c with
  | some n=>JO C (4*n+kind) st K
  | none=>K st
def rounds {ρ :Type} (head:St->(St->Option ρ)->Option ρ) (body:St->(Ex->St->Option ρ)->Option ρ):Nat->St->(Ex->St->Option ρ)->Option ρ
  | 0,_,_=>none
  | n+1,st,K=>body st fun
    | .normal,st'=>head st' fun st''=>rounds head body n st'' K
    | .exit id,st'=>K (.exit id) st'
def exec {ρ :Type} (C:Ctx) (N:Nat) (fin:St->Option ρ):Code->St->(Ex->St->Option ρ)->Option ρ
  | .skip,st,K=>K .normal st
  | .region _ ops false,st,K=>OL C ops.toList ops.toList st fun st'=>K .normal st'
  | .region _ ops true,st,K=>bif JI C ops.toList st then ND C ops.toList ops.toList st fun st'=>K .normal st' else none
  | .seq a b,st,K=>exec C N fin a st fun
    | .normal,st'=>meet C 1 b st' fun st''=>exec C N fin b st'' K
    | .exit id,st'=>K (.exit id) st'
  | .cond c a b,st,K=>match Ci st.tmps c with
    | .bool t=>bif t then exec C N fin a st K else exec C N fin b st K
    | .cnd g (.bool t)=>bif g then bif t then exec C N fin a st K else exec C N fin b st K else none
    | _=>none
  | .block id c,st,K=>exec C N fin c st fun
    | .exit j,st'=>bif Nat.beq j id then K .normal st' else K (.exit j) st'
    | .normal,st'=>K .normal st'
  | .loop c,st,K=>meet C 2 c st fun st'=>rounds (meet C 2 c) (exec C N fin c) N st' K
  | .exit id,st,K=>JO C (4*id+3) st fun st'=>K (.exit id) st'
  | .scope c,st,K=>exec C N fin c st K
  | .label _,st,K=>K .normal st
  | .ret,st,_=>fin st
  | _,_,_=>none
theorem Ty.Ew: ∀(t:Ty) (v:t.Val),(t.cells v).length=t.len
  | .nil,_=>rfl
  | .bool r,v=>by simp [Ty.cells,Ty.len,Ty.Ew r]
  | .int _ r,v=>by simp [Ty.cells,Ty.len,Ty.Ew r]
  | .str r,v=>by simp [Ty.cells,Ty.len,Ty.Ew r]
  | .sl _ _ r,v=>by simp [Ty.cells,Ty.len,Ty.Ew r]
  | .ptr r,v=>by simp [Ty.cells,Ty.len,Ty.Ew r v]
  | .fn r,v=>by simp [Ty.cells,Ty.len,Ty.Ew r]
  | .mp _ _ r,v=>by simp [Ty.cells,Ty.len,Ty.Ew r]
theorem Ty.Ho {α :Type} (r:Ty) (a: α) (b:r.Val):r.hd (r.mk2 a b)=a:=by cases r<;>rfl
theorem Ty.Hu {α :Type} (r:Ty) (a: α) (b:r.Val):r.tl (r.mk2 a b)=b:=by cases r<;>rfl
theorem Sl.BZ (l:Sl):l.es.length=l.xs.length:=by simp [Sl.es]
theorem Sl.es_len (l:Sl): ∀ e∈l.es,e.length=l.sz:=by
  intro e he
  obtain⟨v,_,rfl⟩:=List.mem_map.1 he
  exact Ty.Ew _ _
theorem Sl.at_eq (l:Sl) {i:Nat} (h:i<l.xs.length):l.at i=l.es.getD i []:=by
  simp [Sl.at,Sl.es,List.getD_eq_getElem?_getD,h]
theorem Sl.Aij (l:Sl) (i:Nat):(l.at i).length=l.sz:=Ty.Ew _ _
theorem Sl.Jo {l:Sl} {t:Ty} {xs:List t.Val} (h:l.cast t=some xs):l=⟨t,xs⟩:=by
  unfold Sl.cast at h
  split at h
  ·rename_i e _
   obtain⟨s,ys⟩:=l
   dsimp only at e
   subst e
   injection h with h
   rw[<- h]
  ·cases h
theorem Sl.Vg (t:Ty) (xs:List t.Val):(⟨t,xs⟩:Sl).cast t=some xs:=by
  unfold Sl.cast
  split
  ·rfl
  ·rename_i h _;exact absurd rfl h
theorem Mp.Jo {l:Mp} {kt vt:Ty} {xs:List (kt.Val×vt.Val)} (h:l.cast kt vt=some xs):l=⟨kt,vt,xs⟩:=by
  unfold Mp.cast at h
  split at h
  ·rename_i e _
   obtain⟨k,v,ys⟩:=l
   dsimp only at e
   subst e
   split at h
   ·rename_i e' _
    dsimp only at e'
    subst e'
    injection h with h
    rw[<- h]
   ·cases h
  ·cases h
theorem Mp.Vg (kt vt:Ty) (xs:List (kt.Val×vt.Val)):(⟨kt,vt,xs⟩:Mp).cast kt vt=some xs:=by
  unfold Mp.cast
  split
  ·split
   ·rfl
   ·rename_i h _;exact absurd rfl h
  ·rename_i h _;exact absurd rfl h
theorem A.JM {j k:IntKind} (h:A.kEq j k=true):j=k:=by cases j<;>cases k<;>first | rfl | cases h
theorem Ty.Qc: ∀(t:Ty) (cs:List A),(t.mk cs).1=true->t.cells (t.mk cs).2=cs:=by
  intro t
  induction t with
  | nil =>
    intro cs h
    cases cs with
    | nil=>rfl
    | cons _ _=>simp [Ty.mk]at h
  | fn r ih =>
    intro cs h
    unfold Ty.mk at h ⊢
    split at h
    ·rename_i b cs
     simp only[Ty.cells,Ty.Ho,Ty.Hu];rw[ih cs h]
    ·simp at h
  | mp kt vt r _ _ ih =>
    intro cs h
    unfold Ty.mk at h ⊢
    split at h
    ·rename_i l cs
     cases hc:l.cast kt vt with
     | none=>rw[hc]at h;simp at h
     | some xs =>
       rw[hc]at h
       dsimp only at h ⊢
       simp only[Ty.cells,Ty.Ho,Ty.Hu]
       rw[ih cs h,Mp.Jo hc]
    ·simp at h
  | bool r ih =>
    intro cs h
    unfold Ty.mk at h ⊢
    split at h
    ·rename_i b cs
     simp only[Ty.cells,Ty.Ho,Ty.Hu];rw[ih cs h]
    ·simp at h
  | int k r ih =>
    intro cs h
    unfold Ty.mk at h ⊢
    split at h
    ·rename_i b n cs
     simp only[Bool.and_eq_true]at h
     simp only[Ty.cells,Ty.Ho,Ty.Hu];rw[ih cs h.2,A.JM h.1]
    ·simp at h
  | str r ih =>
    intro cs h
    unfold Ty.mk at h ⊢
    split at h
    ·rename_i b cs
     simp only[Ty.cells,Ty.Ho,Ty.Hu];rw[ih cs h]
    ·simp at h
  | sl e t r _ ih =>
    intro cs h
    unfold Ty.mk at h ⊢
    split at h
    ·rename_i l cs
     cases hc:l.cast t with
     | none=>rw[hc]at h;simp at h
     | some xs =>
       rw[hc]at h
       dsimp only at h ⊢
       simp only[Ty.cells,Ty.Ho,Ty.Hu]
       rw[ih cs h,Sl.Jo hc]
    ·simp at h
  | ptr r ih =>
    intro cs h
    unfold Ty.mk at h ⊢
    split at h
    ·rename_i cs
     show A.Dj::r.cells (r.mk cs).2=_
     rw[ih cs h]
    ·simp at h
theorem Ty.xI: ∀(ks:List CK),ks.all CK.plain=true->(tyl ks).cells (tyl ks).zero=ks.map CK.Fg:=by
  intro ks
  induction ks with
  | nil=>intro _;rfl
  | cons k ks ih =>
    intro h
    simp only[List.all_cons,Bool.and_eq_true]at h
    have:=ih h.2
    cases k<;>first
      | (have:=h.1;cases this;done)
      | (simp only[tyl,Ty.zero,Ty.cells,Ty.Ho,Ty.Hu,List.map_cons,CK.Fg,CK.zero];rw[this])
theorem LW (ks:List CK):(tyl ks).len=ks.length:=by
  induction ks with
  | nil=>rfl
  | cons k ks ih=>cases k<;>simp [tyl,Ty.len,ih]
theorem Sl.Aoa (l:Sl) {i off:Nat} {cs:List A} (hi:i<l.xs.length) (h:(l.set i off cs).1=true):(l.set i off cs).2.es=l.es.set i (splice (l.es.getD i []) off cs):=by
  have:=Ty.Qc _ _ h
  rw[<- l.at_eq hi]
  simp only[Sl.set,Sl.es,List.map_set]
  rw[this]
theorem Sl.AiE (t:Ty) (xs ys:List t.Val):(⟨t,xs++ys⟩:Sl).es=(⟨t,xs⟩:Sl).es++(⟨t,ys⟩:Sl).es:=by simp [Sl.es]
theorem Sl.AiF (l:Sl) (a b:Nat):(⟨l.t,AA l.xs a b⟩:Sl).es=AA l.es a b:=by simp [Sl.es,AA,List.map_take,List.map_drop]
theorem Sl.TU (ks:List CK) (n:Nat) (h:ks.all CK.plain=true):(⟨tyl ks,List.replicate n (tyl ks).zero⟩:Sl).es=List.replicate n (ks.map CK.Fg):=by
  simp [Sl.es,List.map_replicate,Ty.xI ks h]
theorem Sl.AiG (t:Ty):(⟨t,[]⟩:Sl).es=[]:=rfl
