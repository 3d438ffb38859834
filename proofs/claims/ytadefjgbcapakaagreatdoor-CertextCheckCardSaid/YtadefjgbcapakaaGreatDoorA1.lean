/-
  CertextCheck: the law returns true whatever the input; machine, functions, plain law (part 1 of 47.)
-/
import Derived.RowKit
import Derived.Laws.Sem
set_option linter.unusedVariables false
set_option linter.unusedSimpArgs false
namespace Go.Proofs.YtadefjgbcapakaaGreatDoor.Vm
inductive Ty where
  | nil
  | bool (r:Ty)
  | int (k:IntKind) (r:Ty)
  | str (r:Ty)
  | sl (e:Nat) (t:Ty) (r:Ty)
  | ptr (r:Ty)
  | fn (r:Ty)
  | mp (kt vt:Ty) (r:Ty)
  deriving DecidableEq,Inhabited
namespace Ty
def pr (α :Type) (β :Type):Ty→Type
  | .nil=> α
  | _=> α × β
def Val:Ty→Type
  | .nil=>Unit
  | .bool r=>pr Bool r.Val r
  | .int _ r=>pr Int r.Val r
  | .str r=>pr (List UInt8) r.Val r
  | .sl _ t r=>pr (List t.Val) r.Val r
  | .ptr r=>r.Val
  | .fn r=>pr Nat r.Val r
  | .mp kt vt r=>pr (List (kt.Val×vt.Val)) r.Val r
def hd {α β :Type}:(r:Ty)→pr α β r→ α
  | .nil,a=>a
  | .bool _,p=>p.1
  | .int _ _,p=>p.1
  | .str _,p=>p.1
  | .sl _ _ _,p=>p.1
  | .ptr _,p=>p.1
  | .fn _,p=>p.1
  | .mp _ _ _,p=>p.1
def tl {α :Type}:(r:Ty)→pr α r.Val r→r.Val
  | .nil,_=>()
  | .bool _,p=>p.2
  | .int _ _,p=>p.2
  | .str _,p=>p.2
  | .sl _ _ _,p=>p.2
  | .ptr _,p=>p.2
  | .fn _,p=>p.2
  | .mp _ _ _,p=>p.2
def mk2 {α :Type}:(r:Ty)→ α →r.Val→pr α r.Val r
  | .nil,a,_=>a
  | .bool _,a,b=>(a,b)
  | .int _ _,a,b=>(a,b)
  | .str _,a,b=>(a,b)
  | .sl _ _ _,a,b=>(a,b)
  | .ptr _,a,b=>(a,b)
  | .fn _,a,b=>(a,b)
  | .mp _ _ _,a,b=>(a,b)
def zero:(t:Ty)→t.Val
  | .nil=>()
  | .bool r=>mk2 r false r.zero
  | .int _ r=>mk2 r 0 r.zero
  | .str r=>mk2 r [] r.zero
  | .sl _ _ r=>mk2 r [] r.zero
  | .ptr r=>r.zero
  | .fn r=>mk2 r 0 r.zero
  | .mp _ _ r=>mk2 r [] r.zero
def len:Ty→Nat
  | .nil=>0
  | .bool r=>r.len+1
  | .int _ r=>r.len+1
  | .str r=>r.len+1
  | .sl _ _ r=>r.len+1
  | .ptr r=>r.len+1
  | .fn r=>r.len+1
  | .mp _ _ r=>r.len+1
end Ty
structure Sl where
  t:Ty
  xs:List t.Val
  deriving Inhabited
structure Mp where
  kt:Ty
  vt:Ty
  l:List (kt.Val×vt.Val)
  deriving Inhabited
inductive CK where
  | bool | int (k:IntKind) | str | sl (e:Nat) (t:Ty) | sln (e:Nat) (t:Ty) | ptr | fn | mp (kt vt:Ty) | oth
  deriving DecidableEq
inductive A where
  | undef
  | bool (b:Bool)
  | int (k:IntKind) (n:Int)
  | str (s:List UInt8)
  | sl (l:Sl)
  | sln (l:Sl)
  | usl (e:Nat) (l:Sl)
  | CJ
  | Dw
  | ptr (o off:Nat)
  | own (o:Nat)
  | elt (cs:List A)
  | CB (o i off:Nat)
  | agg (cs:List A)
  | tup (vs:List A)
  | box (cs:List A)
  | fn (f:Nat)
  | ump (l:Mp)
  | cnd (g:Bool) (v:A)
  deriving Inhabited
inductive Obj where
  | box (cs:List A)
  | arr (e:Nat) (frz:Bool) (l:Sl)
  | mp (l:Mp)
  deriving Inhabited
def Ty.cells:(t:Ty)→t.Val→List A
  | .nil,_=>[]
  | .bool r,v=>.bool (r.hd v)::r.cells (r.tl v)
  | .int k r,v=>.int k (r.hd v)::r.cells (r.tl v)
  | .str r,v=>.str (r.hd v)::r.cells (r.tl v)
  | .sl _ t r,v=>.sl ⟨t,r.hd v⟩::r.cells (r.tl v)
  | .ptr r,v=>.Dw::r.cells v
  | .fn r,v=>.fn (r.hd v)::r.cells (r.tl v)
  | .mp kt vt r,v=>.ump ⟨kt,vt,r.hd v⟩::r.cells (r.tl v)
def Sl.sz (l:Sl):Nat:=l.t.len
def Sl.es (l:Sl):List (List A):=l.xs.map l.t.cells
def Sl.at (l:Sl) (i:Nat):List A:=l.t.cells (l.xs.getD i l.t.zero)
def Sl.cast (l:Sl) (t:Ty):Option (List t.Val) :=
  match decEq l.t t with
  | .isTrue h=>some (h▸l.xs)
  | .isFalse _=>none
def Mp.cast (l:Mp) (kt vt:Ty):Option (List (kt.Val×vt.Val)) :=
  match decEq l.kt kt with
  | .isTrue h=>match decEq l.vt vt with
    | .isTrue h'=>some (h▸h'▸l.l)
    | .isFalse _=>none
  | .isFalse _=>none
structure St where
  tmps:List A
  Aa:List (Nat×Obj)
def Ai:List (Nat×Obj)→Nat→Option Obj
  | [],_=>none
  | (k,x)::r,n=>bif Nat.beq k n then some x else Ai r n
def IM:List (Nat×Obj)→Nat→List (Nat×Obj)
  | [],_=>[]
  | (k,x)::r,n=>bif Nat.beq k n then IM r n else(k,x)::IM r n
def RX:List (Nat×Obj)→Nat→Obj→List (Nat×Obj)
  | [],n,y=>[(n,y)]
  | (k,x)::r,n,y=>bif Nat.ble n k then(n,y)::(k,x)::r else(k,x)::RX r n y
def C9 (l:List (Nat×Obj)) (n:Nat) (y:Obj):List (Nat×Obj):=RX (IM l n) n y
def has (l:List Nat) (n:Nat):Bool:=l.any (Nat.beq n)
namespace A
def toB:A→Bool | .bool b=>b | _=>false
def isB:A→Bool | .bool _=>true | _=>false
def toI:A→Int | .int _ n=>n | _=>0
def kEq:IntKind→IntKind→Bool
  | .i8,.i8 | .i16,.i16 | .i32,.i32 | .i64,.i64 | .u8,.u8 | .u16,.u16 | .u32,.u32 | .u64,.u64=>true
  | _,_=>false
def isI (k:IntKind):A→Bool | .int k' _=>kEq k k' | _=>false
def toS:A→List UInt8 | .str s=>s | _=>[]
def isS:A→Bool | .str _=>true | _=>false
def toL:A→Sl | .sl l=>l | .sln l=>l | .usl _ l=>l | _=>default
def weak:A→A | .sln l=>.sl l | a=>a
def Aee (t:Ty):A→Bool | .sln l=>decide (l.t=t) | _=>false
def Afh (t:Ty):A→Bool | .sl l=>decide (l.t=t) | _=>false
def Ai9 (e:Nat) (t:Ty):A→Bool | .usl e' l=>Nat.beq e e'&&decide (l.t=t) | _=>false
def iU:A→Bool | .Dw=>true | _=>false
def isFn:A→Bool | .fn _=>true | _=>false
def Zd (kt vt:Ty):A→Bool | .ump l=>decide (l.kt=kt)&&decide (l.vt=vt) | _=>false
def toM:A→Mp | .ump l=>l | _=>default
def aC:A→List A | .agg cs=>cs | .box cs=>cs | _=>[]
def isAgg (n:Nat):A→Bool | .agg cs=>Nat.beq cs.length n | _=>false
def Ai7 (n:Nat):A→Bool | .box cs=>Nat.beq cs.length n | _=>false
def isVal:A→Bool | .undef=>false | .tup _=>false | .usl _ _=>false | .ump _=>false | .box _=>false | .cnd _ _=>false | _=>true
def cells:A→List A | .agg cs=>cs | v=>[v]
def strip:A→List Bool×A | .cnd g v=>([g],v) | v=>([],v)
def Gm:A→Bool×A | .cnd g v=>(g,v) | v=>(true,v)
def FK:A→List Nat
  | .ptr o _=>[o] | .own o=>[o] | .CB o _ _=>[o] | _=>[]
def AlK:A→List Nat
  | .agg cs=>cs.flatMap FK
  | .cnd _ (.agg cs)=>cs.flatMap FK
  | .cnd _ v=>FK v
  | v=>FK v
def ids:A→List Nat
  | .tup vs=>vs.flatMap AlK
  | v=>AlK v
end A
def Obj.ids:Obj→List Nat
  | .box cs=>cs.flatMap A.FK
  | _=>[]
def St.ids (st:St):List Nat:=st.tmps.flatMap A.ids++st.Aa.flatMap (fun p=>p.2.ids)
def PO (n:Nat):Bool:=Nat.blt n 32768&&Nat.beq (n % 256) 0
def St.fresh (st:St) (n:Nat):Bool:= !(has st.ids n)&&(Ai st.Aa n).isNone&& !(Nat.beq n 255)&& !(PO n)
def force:CK→A→List Bool×A
  | .bool,c=>([c.isB],c)
  | .int k,c=>([c.isI k],c)
  | .str,c=>([c.isS],c)
  | .sl _ t,c=>([c.Afh t],c)
  | .sln _ t,c=>([c.Aee t],c)
  | .ptr,c=>([c.iU],c)
  | .fn,c=>([c.isFn],c)
  | .mp _ _,_=>([false],.undef)
  | .oth,_=>([],.undef)
def forces (cs:List A):List CK→Nat→List Bool×List A
  | [],_=>([],[])
  | k::ks,off=>((force k (cs.getD off .undef)).1++(forces cs ks (off+1)).1,(force k (cs.getD off .undef)).2::(forces cs ks (off+1)).2)
def CK.zero:CK→A
  | .bool=>.bool false
  | .int k=>.int k 0
  | .str=>.str []
  | .sl _ _=>.CJ
  | .sln _ _=>.CJ
  | .ptr=>.Dw
  | .fn=>.fn 0
  | .mp _ _=>.undef
  | .oth=>.undef
def CK.plain:CK→Bool | .oth=>false | .mp _ _=>false | _=>true
def CK.F6:CK→A
  | .sl _ t=>.sl ⟨t,[]⟩
  | .sln _ t=>.sl ⟨t,[]⟩
  | k=>k.zero
structure TI where
  d:TypeDesc
  cs:List CK
  bytes:Nat
  cmp:List CK:=[]
def tyl:List CK→Ty
  | []=>.nil
  | .bool::r=>.bool (tyl r)
  | .int k::r=>.int k (tyl r)
  | .str::r=>.str (tyl r)
  | .sl e t::r=>.sl e t (tyl r)
  | .sln e t::r=>.sl e t (tyl r)
  | .ptr::r=>.ptr (tyl r)
  | .fn::r=>.fn (tyl r)
  | .mp kt vt::r=>.mp kt vt (tyl r)
  | .oth::r=>.ptr (tyl r)
def Ty.mk:(t:Ty)→List A→Bool×t.Val
  | .nil=>fun cs=>(cs.isEmpty,())
  | .bool r=>fun
    | .bool b::cs=>((r.mk cs).1,r.mk2 b (r.mk cs).2)
    | _=>(false,Ty.zero (.bool r))
  | .int k r=>fun
    | .int j n::cs=>(A.kEq j k&&(r.mk cs).1,r.mk2 n (r.mk cs).2)
    | _=>(false,Ty.zero (.int k r))
  | .str r=>fun
    | .str s::cs=>((r.mk cs).1,r.mk2 s (r.mk cs).2)
    | _=>(false,Ty.zero (.str r))
  | .sl e t r=>fun
    | .sl l::cs=>match l.cast t with
      | some xs=>((r.mk cs).1,r.mk2 xs (r.mk cs).2)
      | none=>(false,Ty.zero (.sl e t r))
    | _=>(false,Ty.zero (.sl e t r))
  | .ptr r=>fun
    | .Dw::cs=>((r.mk cs).1,(r.mk cs).2)
    | _=>(false,Ty.zero (.ptr r))
  | .fn r=>fun
    | .fn n::cs=>((r.mk cs).1,r.mk2 n (r.mk cs).2)
    | _=>(false,Ty.zero (.fn r))
  | .mp kt vt r=>fun
    | .ump l::cs=>match l.cast kt vt with
      | some xs=>((r.mk cs).1,r.mk2 xs (r.mk cs).2)
      | none=>(false,Ty.zero (.mp kt vt r))
    | _=>(false,Ty.zero (.mp kt vt r))
def TI.agg (t:TI):Bool:=match t.d with | .struct _ | .array _ _=>true | _=>false
inductive Sh where
  | cell (u:Bool) (k:CK)
  | agg (cs:List (Bool×CK))
  | box (cs:List (Bool×CK))
  | map (kt vt:Ty)
structure Sig where
  Ah:List Sh
  AL:List Sh
  ok:List A→Bool
  val:List A→List A
def Sig.F (sg:Sig) (xs:List A):Option (List A):=bif sg.ok xs then some (sg.val xs)else none
structure Nrm where
  keep:List Nat
  nw:List (List Nat×Nat×Ty×Nat)
  pz:List (Option Nat×Nat×Ty)
  ren:List (Nat×Nat)
  frz:List Nat
abbrev Alt:=Sig×Sig×(List A→Bool)
structure Ctx where
  T:Nat→Option TI
  G:Nat→Option Sig
  nrm:Nat→Option Nrm
  alt:Nat→Option Alt
  dyn:Nat→Option (Nat→Sig)
  cuts:List Nat:=[]
  binds:List Nat:=[]
def Ctx.put (C:Ctx) (f:Nat) (s:Sig):Ctx:= {C with G:=fun k=>bif Nat.beq f k then some s else C.G k}
structure Dl where
  ok:List Bool
  val:A
  new:List (Nat×Obj):=[]
  upd:List (Nat×Obj):=[]
  del:List Nat:=[]
def Dl.no:Dl:= {ok:=[false],val:=.undef}
def Dl.v (a:A):Dl:= {ok:=[],val:=a}
def Dl.g (b:List Bool) (a:A):Dl:= {ok:=b,val:=a}
def EK:Value→A
  | .bool b=>.bool b
  | .int k n=>.int k n
  | .string s=>.str s.data.toList
  | .slice none 0 0=>.CJ
  | .pointer none=>.Dw
  | .nilFunc=>.fn 0
  | _=>.undef
def ofConst:Value→A
  | .agg vs=>bif vs.toList.all Value.oneCell' then .agg (vs.toList.map EK)else .undef
  | v=>EK v
abbrev Fet:=List (Nat×Obj)
def Abv:CK→Sl→List Bool×A
  | .sln _ _,l=>([decide (0<l.xs.length)],.sln l)
  | _,l=>([],.sl l)
def AnT:CK→Sl→A
  | .sln _ _,l=>.sln l
  | _,l=>.sl l
def pur (fet:Fet) (k:CK):A→List Bool×A×List (Nat×Obj)
  | .own o=>match Ai fet o with
    | some (.arr e _ l)=>((Abv k l).1,(Abv k l).2,[(o,.arr e true l)])
    | _=>([false],.undef,[])
  | .CJ=>match k with
    | .sl _ t=>([],.sl ⟨t,[]⟩,[])
    | .sln _ t=>([],.sln ⟨t,[]⟩,[])
    | _=>([false],.undef,[])
  | .sln l=>([],AnT k l,[])
  | .bool b=>([],.bool b,[])
  | .int j n=>([],.int j n,[])
  | .str s=>([],.str s,[])
  | .sl l=>((Abv k l).1,(Abv k l).2,[])
  | .Dw=>([],.Dw,[])
  | .fn n=>([],.fn n,[])
  | _=>([false],.undef,[])
def BZ (fet:Fet):List CK→List A→List Bool×List A×List (Nat×Obj)
  | [],[]=>([],[],[])
  | k::ks,c::cs=>((pur fet k c).1++(BZ fet ks cs).1,(pur fet k c).2.1::(BZ fet ks cs).2.1,(pur fet k c).2.2++(BZ fet ks cs).2.2)
  | _,_=>([false],[],[])
def Dy (id:Nat):List CK→List A→List A×List (Nat×Obj)
  | .sl e t::ks,.CJ::cs=>(.own id::(Dy (id+1) ks cs).1,(id,.arr e false ⟨t,[]⟩)::(Dy (id+1) ks cs).2)
  | _::ks,c::cs=>(c::(Dy (id+1) ks cs).1,(Dy (id+1) ks cs).2)
  | _,cs=>(cs,[])
def rd (fet:Fet):A→List Bool×Sl
  | .own o=>match Ai fet o with
    | some (.arr _ _ l)=>([],l)
    | _=>([false],default)
  | .CJ=>([],default)
  | .sl l=>([],l)
  | _=>([false],default)
def rdT (fet:Fet) (t:Ty):A→List Bool×List t.Val
  | .CJ=>([],[])
  | x=>match (rd fet x).2.cast t with
    | some xs=>((rd fet x).1,xs)
    | none=>([false],[])
def Tt:Ty:=.int .u8 .nil
def rdB (fet:Fet) (x:A):List Bool×List Int:=rdT fet Tt x
def byteOf (n:Int):UInt8:=UInt8.ofNat n.toNat
def isByte (n:Int):Bool:=decide (0≤n)&&decide (n<256)
def BP (op:BinOp) (k:IntKind) (x y:Int):Int :=
  match op with
  | .and=>k.wrap (((BitVec.ofInt k.bits x) &&& (BitVec.ofInt k.bits y)).toNat)
  | .or=>k.wrap (((BitVec.ofInt k.bits x) ||| (BitVec.ofInt k.bits y)).toNat)
  | .xor=>k.wrap (((BitVec.ofInt k.bits x) ^^^ (BitVec.ofInt k.bits y)).toNat)
  | _=>k.wrap (((BitVec.ofInt k.bits x) &&& ~~~(BitVec.ofInt k.bits y)).toNat)
def fF (op:BinOp) (k:IntKind) (x y:Int):Dl :=
  match op with
  | .add=>.v (.int k (k.wrap (x+y)))
  | .sub=>.v (.int k (k.wrap (x - y)))
  | .mul=>.v (.int k (k.wrap (x*y)))
  | .quo=>.g [y != 0] (.int k (k.wrap (x.tdiv y)))
  | .rem=>.g [y != 0] (.int k (x.tmod y))
  | .and | .or | .xor | .andNot=>.v (.int k (BP op k x y))
  | .eql=>.v (.bool (x==y))
  | .neq=>.v (.bool (x != y))
  | .lss=>.v (.bool (decide (x<y)))
  | .leq=>.v (.bool (decide (x≤y)))
  | .gtr=>.v (.bool (decide (x>y)))
  | .geq=>.v (.bool (decide (x≥y)))
  | _=>.no
def bytesLess:List UInt8→List UInt8→Bool:=Go.Op.bytesLess
def fG (op:BinOp) (x y:List UInt8):Dl :=
  match op with
  | .add=>.g [decide (x.length+y.length≤140737488355328)] (.str (x++y))
  | .eql=>.v (.bool (x==y))
  | .neq=>.v (.bool (!(x==y)))
  | .lss=>.v (.bool (bytesLess x y))
  | .leq=>.v (.bool (bytesLess x y||x==y))
  | .gtr=>.v (.bool (!(bytesLess x y||x==y)))
  | .geq=>.v (.bool (!(bytesLess x y)))
  | _=>.no
def Ue:CK→A→A→Bool×Bool
  | .bool,.bool a,.bool b=>(true,a==b)
  | .int k,.int i a,.int j b=>(A.kEq i k&&A.kEq j k,a==b)
  | .str,.str a,.str b=>(true,a==b)
  | _,_,_=>(false,false)
def G7:List CK→List A→List A→Bool×Bool
  | [],[],[]=>(true,true)
  | k::ks,a::x,b::y=>((Ue k a b).1&&(G7 ks x y).1,(Ue k a b).2&&(G7 ks x y).2)
  | _,_,_=>(false,false)
def Ty.same:(t:Ty)→t.Val→t.Val→Bool
  | .nil,_,_=>true
  | .bool r,a,b=>(r.hd a==r.hd b)&&r.same (r.tl a) (r.tl b)
  | .int _ r,a,b=>(r.hd a==r.hd b)&&r.same (r.tl a) (r.tl b)
  | .str r,a,b=>(r.hd a==r.hd b)&&r.same (r.tl a) (r.tl b)
  | _,_,_=>false
def UD {β :Type} (t:Ty) (k:t.Val):List (t.Val× β)→Option β
  | []=>none
  | p::r=>bif t.same k p.1 then some p.2 else UD t k r
def Zq {β :Type} (t:Ty) (k:t.Val) (v: β):List (t.Val× β)→List (t.Val× β)
  | []=>[(k,v)]
  | p::r=>bif t.same k p.1 then(p.1,v)::r else p::Zq t k v r
def WU {β :Type} (t:Ty) (k:t.Val):List (t.Val× β)→List (t.Val× β)
  | []=>[]
  | p::r=>bif t.same k p.1 then r else p::WU t k r
def Fj:List A→A
  | [c]=>c
  | cs=>.agg cs
def splice (l:List A) (off:Nat) (vs:List A):List A:=l.take off++vs++l.drop (off+vs.length)
def zV (C:Ctx) (d:TypeDesc) (f:Nat):Option (Nat×TI) :=
  match d with
  | .struct fs=>match fs.toList[f]? with
    | some x=>match C.T x.type with
      | some ti=>some (x.offset,ti)
      | none=>none
    | none=>none
  | _=>none
def iV:TypeDesc→Bool | .string=>true | _=>false
def Q7:TypeDesc→Bool | .slice _=>true | .string=>true | _=>false
def Abg:TypeDesc→Bool | .bool=>true | _=>false
def Aef:TypeDesc→Bool | .int .u8=>true | _=>false
def Abs (C:Ctx) (d:TypeDesc) (f:Nat):Option (Nat×TI) :=
  match d with
  | .struct fs=>match fs.toList[f]? with
    | some x=>match C.T x.type with
      | some ti=>some (x.offset,ti)
      | none=>none
    | none=>none
  | .array n e=>match C.T e with
    | some ti=>bif Nat.blt f n then some (f*ti.cs.length,ti)else none
    | none=>none
  | _=>none
def zT (ti:TI) (cs:List A) (off:Nat):A:=bif ti.agg then .agg ((cs.drop off).take ti.cs.length)else cs.getD off .undef
def fill (C:Ctx) (d:TypeDesc):List (Nat×A)→List A→Option (List A)
  | [],cs=>some cs
  | (i,v)::r,cs=>match Abs C d i with
    | some (off,ti)=>bif v.isVal&&Nat.beq v.cells.length ti.cs.length&&Nat.ble (off+ti.cs.length) cs.length then fill C d r (splice cs off v.cells)else none
    | none=>none
def Em (fet:Fet) (ti:TI) (t:Ty):List (Nat×A)→List t.Val→List Bool×List t.Val×List (Nat×Obj)
  | [],xs=>([],xs,[])
  | (i,v)::r,xs=>((BZ fet ti.cs v.cells).1++[(t.mk (BZ fet ti.cs v.cells).2.1).1,Nat.blt i xs.length]++(Em fet ti t r (xs.set i (t.mk (BZ fet ti.cs v.cells).2.1).2)).1,
      (Em fet ti t r (xs.set i (t.mk (BZ fet ti.cs v.cells).2.1).2)).2.1,(BZ fet ti.cs v.cells).2.2++(Em fet ti t r (xs.set i (t.mk (BZ fet ti.cs v.cells).2.1).2)).2.2)
def Sl.set (l:Sl) (i off:Nat) (cs:List A):Bool×Sl:=((l.t.mk (splice (l.at i) off cs)).1,⟨l.t,l.xs.set i (l.t.mk (splice (l.at i) off cs)).2⟩)
def BN:Sh→Bool | .box _=>true | .map _ _=>true | _=>false
def MK (fet:Fet) (o:Nat):Option (List A):=match Ai fet o with | some (.box cs)=>some cs | _=>none
structure Arg where
  ok:List Bool
  a:A
  upd:List (Nat×Obj):=[]
  del:List Nat:=[]
  boxes:List (Nat×Sh):=[]
def AQ (fet:Fet):List (Bool×CK)→List A→List Bool×List A×List (Nat×Obj)×List Nat
  | [],[]=>([],[],[],[])
  | (false,k)::ks,c::cs=>((pur fet k c).1++(AQ fet ks cs).1,(pur fet k c).2.1::(AQ fet ks cs).2.1,(pur fet k c).2.2++(AQ fet ks cs).2.2.1,(AQ fet ks cs).2.2.2)
  | (true,.sl e t)::ks,.own o::cs=>match Ai fet o with
    | some (.arr e' _ l)=>([Nat.beq e e',decide (l.t=t)]++(AQ fet ks cs).1,.usl e l::(AQ fet ks cs).2.1,(o,.arr e true l)::(AQ fet ks cs).2.2.1,o::(AQ fet ks cs).2.2.2)
    | _=>([false],[],[],[])
  | (true,.sl e t)::ks,.CJ::cs=>((AQ fet ks cs).1,.usl e ⟨t,[]⟩::(AQ fet ks cs).2.1,(AQ fet ks cs).2.2.1,(AQ fet ks cs).2.2.2)
  | _,_=>([false],[],[],[])
def Bi (fet:Fet):Sh→A→Arg
  | .cell u k,a=>match AQ fet [(u,k)] [a]with
    | (ok,[c],upd,del)=> {ok,a:=c,upd,del}
    | _=> {ok:=[false],a:=.undef}
  | .agg ks,.agg cs=>match AQ fet ks cs with
    | (ok,cs,upd,del)=> {ok,a:=.agg cs,upd,del}
  | .box ks,.ptr o off=>match MK fet o with
    | some cs=> {ok:=Nat.beq off 0::Nat.ble ks.length 200::(AQ fet ks cs).1,a:=.box (AQ fet ks cs).2.1,upd:=(AQ fet ks cs).2.2.1,del:=(AQ fet ks cs).2.2.2,boxes:=[(o,.box ks)]}
    | none=> {ok:=[false],a:=.undef}
  | .map kt vt,.own o=>match Ai fet o with
    | some (.mp l)=> {ok:=[decide (l.kt=kt),decide (l.vt=vt)],a:=.ump l,boxes:=[(o,.map kt vt)]}
    | _=> {ok:=[false],a:=.undef}
  | _,_=> {ok:=[false],a:=.undef}
def AX (fet:Fet):List Sh→List A→List Bool×List A×List (Nat×Obj)×List Nat×List (Nat×Sh)
  | [],[]=>([],[],[],[],[])
  | s::ss,a::aa=>((Bi fet s a).ok++(AX fet ss aa).1,(Bi fet s a).a::(AX fet ss aa).2.1,(Bi fet s a).upd++(AX fet ss aa).2.2.1,
     (Bi fet s a).del++(AX fet ss aa).2.2.2.1,(Bi fet s a).boxes++(AX fet ss aa).2.2.2.2)
  | _,_=>([false],[],[],[],[])
def Bg (id:Nat):List (Bool×CK)→List A→Nat→List Bool×List A×List (Nat×Obj)
  | [],_,_=>([],[],[])
  | (false,k)::ks,cs,j=>((force k (cs.getD j .undef)).1++(Bg id ks cs (j+1)).1,(force k (cs.getD j .undef)).2::(Bg id ks cs (j+1)).2.1,(Bg id ks cs (j+1)).2.2)
  | (true,.sl e t)::ks,cs,j=>((cs.getD j .undef).Ai9 e t::(Bg id ks cs (j+1)).1,.own (id+j)::(Bg id ks cs (j+1)).2.1,
      (id+j,.arr e true (cs.getD j .undef).toL)::(Bg id ks cs (j+1)).2.2)
  | _,_,_=>([false],[],[])
def back (id:Nat):Sh→A→List Bool×A×List (Nat×Obj)
  | .cell u k,a=>((Bg id [(u,k)] [a] 0).1++[k.plain],(Bg id [(u,k)] [a] 0).2.1.getD 0 .undef,(Bg id [(u,k)] [a] 0).2.2)
  | .agg ks,a=>(Nat.ble ks.length 200::a.isAgg ks.length::(Bg (id+1) ks a.aC 0).1,.agg (Bg (id+1) ks a.aC 0).2.1,(Bg (id+1) ks a.aC 0).2.2)
  | .box ks,a=>(Nat.ble ks.length 200::a.Ai7 ks.length::(Bg (id+1) ks a.aC 0).1,.ptr id 0,(id,.box (Bg (id+1) ks a.aC 0).2.1)::(Bg (id+1) ks a.aC 0).2.2)
  | .map kt vt,a=>([a.Zd kt vt],.own id,[(id,.mp a.toM)])
def BL (id stride:Nat):List Sh→List A→Nat→List Bool×List A×List (Nat×Obj)
  | [],_,_=>([],[],[])
  | s::ss,rs,j=>((back (id+stride*j) s (rs.getD j .undef)).1++(BL id stride ss rs (j+1)).1,(back (id+stride*j) s (rs.getD j .undef)).2.1::(BL id stride ss rs (j+1)).2.1,
     (back (id+stride*j) s (rs.getD j .undef)).2.2++(BL id stride ss rs (j+1)).2.2)
def EI (rb:Nat):Sh→A→List Bool×Obj×List (Nat×Obj)
  | .box ks,a=>(a.isAgg ks.length::(Bg (rb+1) ks a.aC 0).1,.box (Bg (rb+1) ks a.aC 0).2.1,(Bg (rb+1) ks a.aC 0).2.2)
  | .map kt vt,a=>([a.Zd kt vt],.mp a.toM,[])
  | _,_=>([false],.box [],[])
def BM (rb:Nat→Nat) (rs:List A):List (Nat×Sh)→Nat→List Bool×List (Nat×Obj)×List (Nat×Obj)
  | [],_=>([],[],[])
  | (o,s)::r,j=>((EI (rb o) s (rs.getD j .undef)).1++(BM rb rs r (j+1)).1,
      (o,(EI (rb o) s (rs.getD j .undef)).2.1)::(BM rb rs r (j+1)).2.1,(EI (rb o) s (rs.getD j .undef)).2.2++(BM rb rs r (j+1)).2.2)
def Du (fet:Fet) (o:Nat):Nat:=match MK fet o with
  | some cs=>bif cs.any (fun c=>c.FK.any (fun i=>Nat.blt o i&&Nat.ble i (o+100)))then o+100 else o
  | none=>o
def nodup:List Nat→Bool
  | []=>true
  | n::r=> !(has r n)&&nodup r
def Ed (id:Nat):List (Bool×CK)→List A→List (Nat×Nat)
  | (true,_)::ks,.own o::cs=>(o,id)::Ed (id+1) ks cs
  | _::ks,_::cs=>Ed (id+1) ks cs
  | _,_=>[]
def GN (fet:Fet) (id:Nat):Sh→A→List (Nat×Nat)
  | .cell u k,a=>Ed id [(u,k)] [a]
  | .agg ks,.agg cs=>Ed (id+1) ks cs
  | .box ks,.ptr o _=>(o,id)::(match MK fet o with | some cs=>Ed (id+1) ks cs | none=>[])
  | .map _ _,.own o=>[(o,id)]
  | _,_=>[]
def DZ (fet:Fet):Nat→Nat→List Sh→List A→List (Nat×Nat)
  | id,stride,s::ss,x::xs=>GN fet id s x++DZ fet (id+stride) stride ss xs
  | _,_,_,_=>[]
end Go.Proofs.YtadefjgbcapakaaGreatDoor.Vm
namespace Go.Proofs.YtadefjgbcapakaaGreatDoor.Vm
def Aof:Nat→Nat→Option (Value→Prop)
  | 0,0=>some (fun v=> ∃ m,v= .int .i64 m)
  | 1,j=>if j<20 then some (fun v=>v= .int .u64 ((10 ^ j:Nat):Int))else none
  | _,_=>none
def Aoe:Nat→Option Nat
  | 1=>some 20
  | _=>none
