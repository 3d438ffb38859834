import Derived.Test.YtpaimpmokhihmaaGreatDoorA1
set_option linter.all false
namespace Go.Proofs.YtpaimpmokhihmaaGreatDoor.Vm
def Kq (tmps:List A):Operand->A
 | .tmp t=>tmps.getD t .undef
 | .const v=>ofConst v
 | .func f=>.fn (f+1)
 | .global g=>AgM (gZ g)
def b2 (d:Nat):Nat:=(d+128)*256
def JH {α :Type} (o:Option α) (k: α ->Dl):Dl:=match o with | some x=>k x | none=>.no
def KP (C:Ctx) (t:Nat) (k:TI->Dl):Dl:=JH (C.T t) k
def elem? :TypeDesc->Option Nat
 | .slice e=>some e
 | _=>none
def elemOf (C:Ctx) (t:Nat) (k:Nat->TI->Dl):Dl:=KP C t fun ti=>JH (elem? ti.d) fun e=>KP C e fun te=>k e te
structure Arr where
 e:Nat
 frz:Bool
 l:Sl
def Um (fet:Fet) (o:Nat):Option Arr:=match Jr fet o with | some (.arr e frz l)=>some ⟨e,frz,l⟩ | _=>none
def one? {α :Type}:List α ->Option α
 | [k]=>some k
 | _=>none
def pM:List CK->Bool
 | [.ptr]=>true
 | _=>false
def Q3 (ti:TI) (cs:List A) (off:Nat) (pre:List Bool):Dl :=
 bif ti.agg then .g (pre++(forces cs ti.cs off).1) (.agg (forces cs ti.cs off).2)
 else JH (one? ti.cs) fun k=>.g (pre++(force k (cs.getD off .undef)).1) (force k (cs.getD off .undef)).2
def isRow (ti:TI) (l:Sl) (i off:Nat):Bool:=Nat.blt 1 ti.cs.length&&Nat.beq l.sz 1&&Nat.beq off 0&&Nat.beq i 0
def Zl (l:Sl) (n:Nat):List A:=(List.range n).map fun j=>(l.at j).getD 0 .undef
def Vs (t:Ty) (cs:List A):Bool×List t.Val:=(cs.all (fun c=>(t.mk [c]).1),cs.map (fun c=>(t.mk [c]).2))
def RD (C:Ctx) (fet:Fet) (t:Nat) (a:A):Dl :=
 KP C t fun ti=>match a with
 | .ptr o off=>JH (KT fet o) fun cs=>.g [Nat.ble (off+ti.cs.length) cs.length,Nat.blt 0 ti.cs.length] (YW ti cs off)
 | .elt cs=>Q3 ti cs 0 [Nat.ble ti.cs.length cs.length]
 | .clo k o=>.g [Nat.beq k 0,pM ti.cs,!ti.agg] (.ptr o 0)
 | .KG o i off=>JH (Um fet o) fun r=>bif isRow ti r.l i off then Q3 ti (Zl r.l ti.cs.length) 0 [Nat.ble ti.cs.length r.l.xs.length,true]else Q3 ti (r.l.at i) off [Nat.ble (off+ti.cs.length) r.l.sz,decide (i<r.l.xs.length)]
 | _=>.no
def adK (C:Ctx) (d:Nat) (ti:TI):List CK:=bif has C.cuts d then []else ti.cs
def PV (C:Ctx) (fet:Fet) (t:Nat) (a v:A):Dl :=
 KP C t fun ti=>match a with
 | .ptr o off=>JH (KT fet o) fun cs =>
  {ok:=[v.isVal,Nat.beq v.cells.length ti.cs.length,Nat.ble (off+ti.cs.length) cs.length,Nat.blt 0 ti.cs.length],val:=.undef,
   upd:=[(o,.box (splice cs off (Ky (Lh fet o+1+off) (adK C (o / 256 - 128) ti) v.cells).1))],new:=(Ky (Lh fet o+1+off) (adK C (o / 256 - 128) ti) v.cells).2}
 | .KG o i off=>JH (Um fet o) fun r=>bif isRow ti r.l i off then
  {ok:=(JV fet ti.cs v.cells).1++[!r.frz,(Vs r.l.t (JV fet ti.cs v.cells).2.1).1,Nat.beq ti.cs.length r.l.xs.length,true,Nat.blt 0 ti.cs.length,!(has ((JV fet ti.cs v.cells).2.2.map (·.1)) o)],val:=.undef,
   upd:=(JV fet ti.cs v.cells).2.2++[(o,.arr r.e false ⟨r.l.t,(Vs r.l.t (JV fet ti.cs v.cells).2.1).2⟩)]}else
  {ok:=(JV fet ti.cs v.cells).1++[!r.frz,(r.l.set i off (JV fet ti.cs v.cells).2.1).1,Nat.ble (off+ti.cs.length) r.l.sz,decide (i<r.l.xs.length),Nat.blt 0 ti.cs.length,!(has ((JV fet ti.cs v.cells).2.2.map (·.1)) o)],val:=.undef,
   upd:=(JV fet ti.cs v.cells).2.2++[(o,.arr r.e false (r.l.set i off (JV fet ti.cs v.cells).2.1).2)]}
 | _=>.no
def QA (C:Ctx) (d:Nat) (t:Nat) (v:A):Dl :=
 KP C t fun ti=> {ok:=[v.isVal,Nat.beq v.cells.length ti.cs.length],val:=.ptr (b2 d) 0,new:=(b2 d,.box (Ky (b2 d+1) (adK C d ti) v.cells).1)::(Ky (b2 d+1) (adK C d ti) v.cells).2}
def Tt (off n:Nat) (fet:Fet):A->Dl
 | .ptr o p=>JH (KT fet o) fun cs=>.g [Nat.ble (p+off+n) cs.length] (.ptr o (p+off))
 | .elt cs=>.g [Nat.ble (off+n) cs.length] (.elt (cs.drop off))
 | .KG o i p=>JH (Um fet o) fun r=>.g [decide (i<r.l.xs.length)] (.KG o i (p+off))
 | _=>.no
def Yw:TypeDesc->Option (Nat×Nat)
 | .array n e=>some (n,e)
 | _=>none
def int? :A->Option Int
 | .int _ n=>some n
 | _=>none
def AgX:CK->Option IntKind
 | .int k=>some k
 | _=>none
def mX (C:Ctx) (t:Nat) (k:Nat->IntKind->Dl):Dl:=KP C t fun ti=>JH (Yw ti.d) fun p=>KP C p.2 fun te=>bif te.agg then .no else JH (one? te.cs) fun c=>JH (AgX c) fun kk=>k p.1 kk
def YU (cs:List A) (n:Int):Int:=(cs.map A.toI).getD n.toNat 0
def Vd (C:Ctx) (fet:Fet) (t:Nat) (x:A) (i:A):Dl :=
 match x with
 | .KG o i0 off0=>JH (int? i) fun n=>KP C t fun ti=>JH (Yw ti.d) fun p=>KP C p.2 fun te=>JH (Um fet o) fun r =>
  .g [Nat.beq i0 0,Nat.beq off0 0,Nat.beq r.l.sz te.cs.length,decide (0<=n),decide (n<(p.1:Int)),decide (n.toNat<r.l.xs.length)] (.KG o n.toNat 0)
 | .elt cs=>JH (int? i) fun n=>mX C t fun m kk=>.g [cs.all (A.isI kk),Nat.beq cs.length m,decide (0<=n),decide (n<(m:Int))] (.elt [.int kk (YU cs n)])
 | x =>
 JH (int? i) fun n=>elemOf C t fun _ te=>match x with
 | .own o=>JH (Um fet o) fun r=>.g [Nat.beq r.l.sz te.cs.length,decide (0<=n),decide (n<r.l.xs.length)] (.KG o n.toNat 0)
 | .sl l=>.g [Nat.beq l.sz te.cs.length,Nat.blt 0 l.sz,decide (0<=n),decide (n<l.xs.length)] (.elt (l.at n.toNat))
 | .bsl o k=>JH (KT fet o) fun cs=>.g [Nat.beq te.cs.length 1,decide (0<=n),Nat.blt n.toNat k,Nat.blt n.toNat cs.length] (.ptr o n.toNat)
 | _=>.no
def AbJ:A->Option (List UInt8)
 | .str s=>some s
 | _=>none
def pJ (C:Ctx) (t:Nat) (x i:A):Dl :=
 JH (int? i) fun n=>match x with
 | .agg cs=>mX C t fun m kk=>.g [cs.all (A.isI kk),Nat.beq cs.length m,decide (0<=n),decide (n<(m:Int))] (.int kk (YU cs n))
 | x=>JH (AbJ x) fun s=>KP C t fun ti=>.g [dP ti.d,decide (0<=n),decide (n<s.length)] (.int .u8 ((s.getD n.toNat 0).toNat:Int))
def bM (len:Nat):Option A->Option A->Option (List Bool×Nat×Nat)
 | none,none=>some ([],0,len)
 | some (.int _ a),none=>some ([decide (0<=a),decide (a<=len)],a.toNat,len)
 | none,some (.int _ b)=>some ([decide (0<=b),decide (b<=len)],0,b.toNat)
 | some (.int _ a),some (.int _ b)=>some ([decide (0<=a),decide (a<=b),decide (b<=len)],a.toNat,b.toNat)
 | _,_=>none
def J7 {α :Type} (l:List α) (a b:Nat):List α :=(l.take b).drop a
def KR (C:Ctx) (fet:Fet) (t:Nat) (x:A) (lo hi:Option A):Dl :=
 KP C t fun ti=>match x with
 | .str s=>JH (bM s.length lo hi) fun r=>.g (dP ti.d::r.1) (.str (J7 s r.2.1 r.2.2))
 | .sl l=>JH (bM l.xs.length lo hi) fun r=>JH (elem? ti.d) fun e=>KP C e fun te=>.g (Nat.beq l.sz te.cs.length::r.1) (.sl ⟨l.t,J7 l.xs r.2.1 r.2.2⟩)
 | .sln l=>JH (bM l.xs.length lo hi) fun r=>JH (elem? ti.d) fun e=>KP C e fun te=>.g ((l.xs.isEmpty|| !(J7 l.xs r.2.1 r.2.2).isEmpty)::Nat.beq l.sz te.cs.length::r.1) (.sln ⟨l.t,J7 l.xs r.2.1 r.2.2⟩)
 | .own o=>JH (Um fet o) fun ro=>JH (bM ro.l.xs.length lo hi) fun r=>JH (elem? ti.d) fun e=>KP C e fun te =>
  {ok:=Nat.beq ro.l.sz te.cs.length::r.1,val:=.sl ⟨ro.l.t,J7 ro.l.xs r.2.1 r.2.2⟩,upd:=bif ro.frz then []else [(o,.arr ro.e true ro.l)]}
 | _=>.no
def bP (C:Ctx) (fet:Fet) (d t:Nat) (x hi:A):Dl :=
 KP C t fun ti=>match x with
 | .own o=>JH (Um fet o) fun ro=>JH (bM ro.l.xs.length none (some hi)) fun r=>JH (elem? ti.d) fun e=>KP C e fun te =>
  {ok:=Nat.beq ro.l.sz te.cs.length::r.1++[!ro.frz],val:=.own (b2 d),new:=[(b2 d,.arr ro.e false ⟨ro.l.t,J7 ro.l.xs r.2.1 r.2.2⟩)],del:=[o]}
 | _=>.no
def Zq (C:Ctx) (fet:Fet) (t:Nat) (x a:A):Dl :=
 KP C t fun ti=>match x with
 | .own o=>JH (Um fet o) fun ro=>JH (int? a) fun n=>JH (elem? ti.d) fun e=>KP C e fun te=>.g [Nat.beq ro.l.sz te.cs.length,decide (0<=n),decide (n<(ro.l.xs.length:Int))] (.osl o n.toNat)
 | _=>.no
def Abv (ys:List Int) (k:Nat) (s:List UInt8):List Int:=ys.take k++s.map (fun(b:UInt8)=>((b.toNat:Int)))++ys.drop (k+s.length)
def zW (C:Ctx) (fet:Fet) (ts:List Nat) (x y:A):Dl :=
 match ts with
 | [t,_]=>elemOf C t fun _ te=>match x with
  | .osl o k=>JH (Um fet o) fun r=>JH (r.l.cast OA) fun ys=>JH (AbJ y) fun s =>
   {ok:=[pU te.d,Nat.beq te.cs.length 1,!r.frz,decide (0<s.length),decide (k+s.length<=ys.length)],val:=.int .i64 (s.length:Int),upd:=[(o,.arr r.e false ⟨OA,Abv ys k s⟩)]}
  | _=>.no
 | _=>.no
def mapOf (C:Ctx) (t:Nat) (k:TI->TI->Dl):Dl:=KP C t fun ti=>match ti.d with
 | .map a b=>KP C a fun ta=>KP C b fun tb=>k ta tb
 | _=>.no
def mp? (fet:Fet):A->Option (Nat×Mp)
 | .own o=>match Jr fet o with
  | some (.mp l)=>some (o,l)
  | _=>none
 | _=>none
def Ya:CK->Bool | .str=>true | _=>false
def Afk:TypeDesc->Bool | .map _ _=>true | _=>false
def Yd (C:Ctx) (fet:Fet) (op:BinOp) (t:Nat) (x:A):Dl:=JH (mp? fet x) fun _=>KP C t fun ti=>bif Afk ti.d then(match op with
 | .eql=>.v (.bool false)
 | .neq=>.v (.bool true)
 | _=>.no)else .no
def dO:Operand->Bool | .const (.map none)=>true | _=>false
def AdM (C:Ctx) (ta:TI):Bool:=match ta.d with
 | .string=>true
 | .int _=>true
 | .array n e=>match C.T e with
  | some te=>dP te.d&&Nat.blt 1 n
  | none=>false
 | .struct _=>ta.cmp.all Ya&&ta.cs.all Ya&&Nat.beq ta.cmp.length ta.cs.length&&Nat.blt 1 ta.cs.length
 | _=>false
def Aae (ti:TI):Bool:=ti.agg== !(Nat.beq ti.cs.length 1)
def AdG:A->Bool
 | .agg [_]=>false
 | _=>true
def zY (C:Ctx) (ta tb:TI) (l:Mp) (i:A):List Bool:=[AdM C ta,Aae tb,decide (l.kt=tyl ta.cs),decide (l.vt=tyl tb.cs),i.isVal,AdG i,(l.kt.mk i.cells).1]
def QH (C:Ctx) (d t:Nat) (r:List A):Dl:=mapOf C t fun ta tb =>
 {ok:=[r.isEmpty],val:=.own (b2 d),new:=[(b2 d,.mp ⟨tyl ta.cs,tyl tb.cs,[]⟩)]}
def uZ (l:Mp) (c:Bool) (r:Option l.vt.Val):A :=
 bif c then .tup [MW (l.vt.cells (r.getD l.vt.zero)),.bool r.isSome]else MW (l.vt.cells (r.getD l.vt.zero))
def iJ (C:Ctx) (fet:Fet) (t:Nat) (c:Bool) (x i:A):Dl:=mapOf C t fun ta tb=>JH (mp? fet x) fun p =>
 .g (zY C ta tb p.2 i++[tb.cs.all CK.plain]) (uZ p.2 c (NY p.2.kt (p.2.kt.mk i.cells).2 p.2.l))
def Yt (C:Ctx) (fet:Fet) (t:Nat) (x i v:A):Dl:=mapOf C t fun ta tb=>JH (mp? fet x) fun p =>
 {ok:=zY C ta tb p.2 i++[v.isVal,AdG v]++(JV fet tb.cs v.cells).1++[(p.2.vt.mk (JV fet tb.cs v.cells).2.1).1],val:=.undef,
  upd:=(JV fet tb.cs v.cells).2.2++[(p.1,.mp ⟨p.2.kt,p.2.vt,P7 p.2.kt (p.2.kt.mk i.cells).2 (p.2.vt.mk (JV fet tb.cs v.cells).2.1).2 p.2.l⟩)]}
def XR (C:Ctx) (fet:Fet) (t:Nat) (x i:A):Dl:=mapOf C t fun ta tb=>JH (mp? fet x) fun p =>
 {ok:=zY C ta tb p.2 i,val:=.tup [],upd:=[(p.1,.mp ⟨p.2.kt,p.2.vt,VQ p.2.kt (p.2.kt.mk i.cells).2 p.2.l⟩)]}
def uY (C:Ctx) (fet:Fet) (t:Nat) (x:A):Dl :=
 KP C t fun ti=>match ti.d with
 | .string=>JH (AbJ x) fun s=>.v (.int .i64 (s.length:Int))
 | .array n _=>.v (.int .i64 (n:Int))
 | .slice _=>match x with
  | .bsl o k=>JH (KT fet o) fun _=>.v (.int .i64 (k:Int))
  | x=>.g (rd fet x).1 (.int .i64 ((rd fet x).2.xs.length:Int))
 | .map _ _=>JH (mp? fet x) fun p=>.v (.int .i64 (p.2.l.length:Int))
 | _=>.no
def NM (fet:Fet) (t:Ty):A->List Bool×List t.Val
 | .str s=>match t with
  | .int .u8 .nil=>([],s.map (fun(b:UInt8)=>((b.toNat:Int))))
  | _=>([false],[])
 | y=>rdT fet t y
def XG (C:Ctx) (fet:Fet) (d:Nat) (t:Nat) (x y:A):Dl :=
 elemOf C t fun e te=>match x with
 | .own o=>JH (Um fet o) fun r =>
  {ok:=(NM fet r.l.t y).1++[Nat.beq e r.e,Nat.beq r.l.sz te.cs.length,Nat.blt 0 r.l.sz,decide ((r.l.xs.length+(NM fet r.l.t y).2.length)*(te.bytes+1)<=140737488355328)],
   val:=.own (b2 d),new:=[(b2 d,.arr r.e r.frz ⟨r.l.t,r.l.xs++(NM fet r.l.t y).2⟩)],del:=[o]}
 | .KD =>
  {ok:=(NM fet (tyl te.cs) y).1++[Nat.blt 0 te.cs.length,decide ((NM fet (tyl te.cs) y).2.length*(te.bytes+1)<=140737488355328)],
   val:=.own (b2 d),new:=[(b2 d,.arr e false ⟨tyl te.cs,(NM fet (tyl te.cs) y).2⟩)]}
 | _=>.no
def SL (C:Ctx) (fet:Fet) (src dst:Nat) (x:A):Dl :=
 KP C src fun s=>KP C dst fun t=>match t.d,x with
 | .int k,.int _ n=>.v (.int k (k.wrap n))
 | .string,.str l=>.v (.str l)
 | .string,.int _ _=>.no
 | .string,x=>JH (elem? s.d) fun e=>KP C e fun te=>.g (pU te.d::((rdB fet x).1++[(rdB fet x).2.all isByte])) (.str ((rdB fet x).2.map byteOf))
 | _,_=>.no
def aT (C:Ctx) (d s t:Nat) (l:List UInt8):Dl:=KP C s fun _=>elemOf C t fun e te =>
 {ok:=[pU te.d,decide (l.length<=140737488355328)],val:=.own (b2 d),new:=[(b2 d,.arr e false ⟨OA,l.map (fun(b:UInt8)=>((b.toNat:Int)))⟩)]}
def AaU:TypeDesc->Bool | .slice _=>true | _=>false
def iG (C:Ctx) (o:Oper) (fet:Fet) (s t:Nat) (x:A):Dl :=
 match x with
 | .str l=>KP C t fun tt=>bif AaU tt.d then JH o.dst fun d=>aT C d s t l else SL C fet s t (.str l)
 | x=>SL C fet s t x
def AgU (C:Ctx) (t:Nat):Option (Nat×IntKind):=match C.T t with
 | some ti=>match Yw ti.d with
  | some (n,e)=>match C.T e with
   | some te=>match te.cs with
    | [.int k]=>some (n,k)
    | _=>none
   | none=>none
  | none=>none
 | none=>none
def aP (C:Ctx) (d t:Nat) (v:A):Dl:=match AgU C t with
 | some (n,k)=>match v with
  | .agg cs=> {ok:=[cs.all (A.isI k),Nat.beq cs.length n,Nat.ble n 16777216],val:=.KG (b2 d) 0 0,new:=[(b2 d,.arr t false ⟨.int k .nil,cs.map A.toI⟩)]}
  | _=>.no
 | none=>QA C d t v
def TJ (C:Ctx) (d t:Nat):Dl:=KP C t fun ti=>match Yw ti.d with
 | some (n,e)=>KP C e fun te=> {ok:=[te.cs.all CK.plain,Nat.blt 0 te.cs.length,Nat.blt 0 n,Nat.ble n 16777216,decide (ti.cs=(List.replicate n te.cs).flatten)],val:=.KG (b2 d) 0 0,new:=[(b2 d,.arr t false ⟨tyl te.cs,List.replicate n (tyl te.cs).zero⟩)]}
 | none=>QA C d t (.agg (ti.cs.map CK.zero))
def qE (fet:Fet) (s:Bool) (d:TypeDesc) (x:A):Option Bool :=
 match s,d,x with
 | true,.slice _,.KD=>some true
 | true,.slice _,.sln l=>some l.xs.isEmpty
 | false,.pointer _,.KQ=>some true
 | false,.pointer _,.ptr o _=>(KT fet o).map (fun _=>false)
 | _,_,_=>none
def vC (C:Ctx) (fet:Fet) (s:Bool) (t:Nat) (x:A) (k:Bool->Dl):Dl:=KP C t fun ti=>JH (qE fet s ti.d x) k
def zS (C:Ctx) (t:Nat) (r:Bool):Dl:=KP C t fun ti=>.g [uX ti.d] (.bool r)
def Aaq (C:Ctx) (fet:Fet) (op:BinOp) (t:Nat) (x y:A):Dl :=
 match x,y with
 | .int k a,.int k' b=>match op with
  | .shl=>.g [decide (0<=b)] (.int k (k.wrap (a*2 ^ (min b.toNat k.bits))))
  | .shr=>.g [decide (0<=b)] (.int k (a.fdiv (2 ^ (min b.toNat k.bits))))
  | op=>bif A.kEq k k' then aN op k a b else .no
 | .str a,.str b=>aO op a b
 | .bool a,.bool b=>match op with
  | .eql=>zS C t (a==b)
  | .neq=>zS C t (!(a==b))
  | _=>.no
 | .agg x,.agg y=>KP C t fun ti=>match op with
  | .eql=>.g [!ti.cmp.isEmpty,(Nu ti.cmp x y).1] (.bool (Nu ti.cmp x y).2)
  | .neq=>.g [!ti.cmp.isEmpty,(Nu ti.cmp x y).1] (.bool (!(Nu ti.cmp x y).2))
  | _=>.no
 | x,.KD=>match op with
  | .eql=>vC C fet true t x fun v=>.v (.bool v)
  | .neq=>vC C fet true t x fun v=>.v (.bool (!v))
  | _=>.no
 | x,.KQ=>match op with
  | .eql=>vC C fet false t x fun v=>.v (.bool v)
  | .neq=>vC C fet false t x fun v=>.v (.bool (!v))
  | _=>.no
 | _,_=>.no
def unX:UnOp->A->Dl
 | .not,.bool b=>.v (.bool !b)
 | .neg,.int k n=>.v (.int k (k.wrap (0 - n)))
 | .xor,.int k n=>.v (.int k (LG .xor k (if k.signed then -1 else k.max) n))
 | _,_=>.no
def Aaf (c a b:A):Dl:=.g [c.Nq.1,c.Nq.2.isB,(bif c.Nq.2.toB then a.Nq.1 else b.Nq.1),(bif c.Nq.2.toB then a.Nq.2.isB else b.Nq.2.isB)] (.bool (bif c.Nq.2.toB then a.Nq.2.toB else b.Nq.2.toB))
def YP (C:Ctx) (d:Nat) (t:Nat) (l c:A):Dl :=
 JH (int? l) fun n=>JH (int? c) fun m=>elemOf C t fun e te =>
  {ok:=[decide (n<=m),decide (0<=n),decide (m*(te.bytes+1)<=140737488355328),Nat.blt 0 te.cs.length,te.cs.all CK.plain],val:=.own (b2 d),
   new:=[(b2 d,.arr e false ⟨tyl te.cs,List.replicate n.toNat (tyl te.cs).zero⟩)]}
def aS (C:Ctx) (t:Nat) (ps:List (Nat×A)):Dl:=KP C t fun ti=>JH (fill C ti.d ps (ti.cs.map CK.zero)) fun cs=>.g [ti.agg] (.agg cs)
def Oy (C:Ctx) (fet:Fet) (d t n:Nat) (ps:List (Nat×A)):Dl:=elemOf C t fun e te =>
 {ok:=(LZ fet te (tyl te.cs) ps (List.replicate n (tyl te.cs).zero)).1++[Nat.ble (n*te.cs.length) 16777216,Nat.blt 0 te.cs.length,te.cs.all CK.plain],val:=.own (b2 d),
  new:=[(b2 d,.arr e false ⟨tyl te.cs,(LZ fet te (tyl te.cs) ps (List.replicate n (tyl te.cs).zero)).2.1⟩)],upd:=(LZ fet te (tyl te.cs) ps (List.replicate n (tyl te.cs).zero)).2.2}
def aQ (C:Ctx) (d t n:Nat) (ps:List (Nat×A)):Dl:=elemOf C t fun e te=>JH (fill C (.array n e) ps (List.replicate n .KQ)) fun cs =>
 {ok:=[pM te.cs,Nat.ble n 16777216,Nat.blt 0 n,ps.all fun p=>p.2.isVal&& !p.2.isAgg 0],val:=.bsl (b2 d) n,new:=(b2 d,.box (Ky (b2 d+1) [] cs).1)::(Ky (b2 d+1) [] cs).2}
def pO:List (Nat×A)->Bool
 | (_,.ptr _ _)::_=>true
 | _=>false
def Qc (C:Ctx) (fet:Fet) (t f:Nat) (x:A):Dl :=
 KP C t fun ti=>JH (qL C ti.d f) fun p=>match Tt p.1 p.2.cs.length fet x with
 | δ => {δ with ok:=Nat.blt 0 p.2.cs.length:: δ.ok}
def AhA:A->Option (List A)
 | .agg cs=>some cs
 | _=>none
def oO (C:Ctx) (t f:Nat) (x:A):Dl :=
 KP C t fun ti=>JH (qL C ti.d f) fun p=>JH (AhA x) fun cs=>.g [Nat.ble (p.1+p.2.cs.length) cs.length,Nat.blt 0 p.2.cs.length] (YW p.2 cs p.1)
def Aio:A->Option (List A)
 | .tup vs=>some vs
 | _=>none
def YF (i:Nat) (x:A):Dl:=JH (Aio x) fun vs=>.g [Nat.blt i vs.length] (vs.getD i .undef)
def QU (fet:Fet):A->Dl
 | .ptr o off=>JH (KT fet o) fun _=>.v (.ptr o off)
 | _=>.no
structure Hand where
 ok:List Bool
 vs:List A
 upd:List (Nat×Obj)
 del:List Nat
 boxes:List (Nat×Sh)
def Aag:List A->A
 | [v]=>v
 | vs=>.tup vs
def zU (rb:Nat->Nat) (d:Nat) (sg:Sig) (N:List (Nat×Nat)) (n:Nat) (h:Hand) (ok:Bool) (rs:List A):Dl :=
 ⟨h.ok++[ok]++(Ko (b2 d) 16 sg.Jz rs 0).1++(Kt rb (rs.drop sg.Jz.length) h.boxes 0).1++[nodup (N.map (·.1)),Nat.ble n 100,Nat.beq rs.length (sg.Jz.length+h.boxes.length),!(sg.Jp.any wS)||h.upd.isEmpty],
   Aag (Ko (b2 d) 16 sg.Jz rs 0).2.1,
   (Ko (b2 d) 16 sg.Jz rs 0).2.2++(Kt rb (rs.drop sg.Jz.length) h.boxes 0).2.2,
   h.upd++(Kt rb (rs.drop sg.Jz.length) h.boxes 0).2.1,h.del,[]⟩
def VG (fet:Fet) (ss:List Sh) (xs:List A):Hand:=⟨(J8 fet ss xs).1,(J8 fet ss xs).2.1,(J8 fet ss xs).2.2.1,(J8 fet ss xs).2.2.2.1,(J8 fet ss xs).2.2.2.2⟩
def N9 (fet:Fet) (d:Nat) (sg:Sig) (args:List A):Dl:=zU (Lh fet) d sg (LK fet 0 256 sg.Jp args) args.length (VG fet sg.Jp args) (sg.ok (VG fet sg.Jp args).vs) (sg.val (VG fet sg.Jp args).vs)
def pY (n:Nat):Obj->Bool | .box cs=>Nat.beq cs.length n | _=>false
def AgH (j:Nat) (c:A):Obj->Obj | .box cs=>.box (cs.set j c) | x=>x
def eqC:A->A->Bool | .str a,.str b=>a==b | .int k a,.int k' b=>A.kEq k k'&&a==b | .bool a,.bool b=>a==b | _,_=>false
def eqU (j:Nat) (c:A):Obj->Bool | .box cs=>eqC (cs.getD j .undef) c | _=>false
def OW (fet:Fet) (a:A) (j:Nat) (δ :Dl):Dl:=match a with
 | .ptr q _=>match KT fet q with
  | some cs=>bif Nat.blt j cs.length&& δ.upd.all (fun p=> !(Nat.beq p.1 q)||pY cs.length p.2)
   then {δ with ok:= δ.ok++ δ.upd.map (fun p=>bif Nat.beq p.1 q then eqU j (cs.getD j .undef) p.2 else true),upd:= δ.upd.map (fun p=>bif Nat.beq p.1 q then(p.1,AgH j (cs.getD j .undef) p.2)else p),same:=(q,j):: δ.same}
   else δ
  | none=> δ
 | _=> δ
def keepD (fet:Fet) (args:List A):List (Nat×Nat)->Dl->Dl
 | [],δ => δ
 | (i,j)::r,δ =>keepD fet args r (OW fet (args.getD i .undef) j δ)
def UZ (C:Ctx) (fet:Fet) (d:Nat) (f:Nat) (args:List A):Dl :=
 match C.G f with
 | some sg=>keepD fet args (C.kept f) (N9 fet d sg args)
 | none=>.no
def Aa5 (C:Ctx) (fet:Fet) (d t:Nat) (c:A) (args:List A):Dl :=
 match c with
 | .fn n=>match C.dyn t with
  | some sg=>N9 fet d (sg n) args
  | none=>.no
 | .clo f o=>JH (KT fet o) fun _=>match C.dyn t with
  | some sg=>N9 fet d (sg f) (args++[.clo 0 o])
  | none=>.no
 | _=>.no
def Aej:List A->Option Nat
 | [.ptr o 0]=>some o
 | _=>none
def sF (fet:Fet) (f:Nat):A->Dl
 | .ptr q off=>JH (KT fet q) fun cs=>JH (Aej cs) fun o=> {ok:=[Nat.beq off 0],val:=.clo (f+1) o,del:=[q]}
 | _=>.no
def a0 (k:Dl):List A->Dl
 | []=>k
 | _=>.no
def a1 (k:A->Dl):List A->Dl
 | [a]=>k a
 | _=>.no
def a2 (k:A->A->Dl):List A->Dl
 | [a,b]=>k a b
 | _=>.no
def a3 (k:A->A->A->Dl):List A->Dl
 | [a,b,c]=>k a b c
 | _=>.no
def AfY (C:Ctx) (o:Oper) (fet:Fet) (ts:List Nat) (x y:A):Dl :=
 match ts with
 | [t,u]=>KP C u fun tu=>JH o.dst fun d=>match XG C fet d t x y with
  | δ => {δ with ok:=SS tu.d:: δ.ok}
 | _=>.no
def slX (C:Ctx) (dst:Option Nat) (fet:Fet) (t:Nat) (lo hi mx:Option Operand):List A->Dl :=
 match mx,lo,hi with
 | none,none,none=>a1 fun x=>KR C fet t x none none
 | none,some _,none=>a2 fun x a=>match dst with
  | some d=>bif has C.cuts d then Zq C fet t x a else KR C fet t x (some a) none
  | none=>KR C fet t x (some a) none
 | none,none,some _=>a2 fun x b=>match dst with
  | some d=>bif has C.cuts d then bP C fet d t x b else KR C fet t x none (some b)
  | none=>KR C fet t x none (some b)
 | none,some _,some _=>a3 fun x a b=>KR C fet t x (some a) (some b)
 | _,_,_=>fun _=>.no
def AdX:A->A->Dl
 | .int k a,.int k' b=>bif A.kEq k k' then .v (.int k (bif decide (b<a)then b else a))else .no
 | _,_=>.no
def AdV:A->A->Dl
 | .int k a,.int k' b=>bif A.kEq k k' then .v (.int k (bif decide (a<b)then b else a))else .no
 | _,_=>.no
def blX (C:Ctx) (o:Oper) (fet:Fet) (ts:List Nat):Builtin->List A->Dl
 | .len=>a1 fun x=>JH (one? ts) fun t=>uY C fet t x
 | .append=>a2 fun x y=>AfY C o fet ts x y
 | .min=>a2 AdX
 | .max=>a2 AdV
 | .copy=>a2 fun x y=>zW C fet ts x y
 | .delete=>a2 fun x y=>match ts with
  | t::_=>XR C fet t x y
  | []=>.no
 | _=>fun _=>.no
def opX (C:Ctx) (o:Oper) (v:List A) (fet:Fet):Dl :=
 match o.op with
 | .move _=>a1 (fun a=>.v a) v
 | .assign _=>a1 (fun a=>.v a) v
 | .pick _ _ _=>a3 (fun c a b=>Aaf c a b) v
 | .alloc t=>a0 (JH o.dst fun d=>TJ C d t) v
 | .box t _=>a1 (fun a=>JH o.dst fun d=>aP C d t a) v
 | .build t ps=>aS C t ((ps.toList.map (·.1)).zip v)
 | .buildSlice t n ps=>JH o.dst fun d=>bif pO ((ps.toList.map (·.1)).zip v)then aQ C d t n ((ps.toList.map (·.1)).zip v)else Oy C fet d t n ((ps.toList.map (·.1)).zip v)
 | .load t _=>a1 (RD C fet t) v
 | .store t _ _=>a2 (fun a x=>bif o.dst.isNone then PV C fet t a x else .no) v
 | .nilCheck _=>a1 (QU fet) v
 | .binOp op t _ y _=>bif dO y then a2 (fun x _=>Yd C fet op t x) v else a2 (Aaq C fet op t) v
 | .unOp op _ _=>a1 (unX op) v
 | .convert s t _=>a1 (iG C o fet s t) v
 | .makeSlice t _ _=>a2 (fun l c=>JH o.dst fun d=>YP C d t l c) v
 | .slice t _ lo hi mx=>slX C o.dst fet t lo hi mx v
 | .fieldAddr t _ f=>a1 (Qc C fet t f) v
 | .field t _ f=>a1 (oO C t f) v
 | .indexAddr t _ _=>a2 (Vd C fet t) v
 | .index t _ _=>a2 (pJ C t) v
 | .extract _ i=>a1 (YF i) v
 | .makeFunc (.func f) fi _=>bif fi.isEmpty then a1 (sF fet f) v else .no
 | .makeMap t _=>JH o.dst fun d=>QH C d t v
 | .lookup t _ _ c=>a2 (iJ C fet t c) v
 | .mapUpdate t _ _ _=>a3 (fun m i x=>bif o.dst.isNone then Yt C fet t m i x else .no) v
 | .insert t _ _ _=>a3 (fun m i x=>bif o.dst.isNone then Yt C fet t m i x else .no) v
 | .call ⟨.builtin b,_,ts⟩=>blX C o fet ts.toList b v
 | .call ⟨.value (.func f),_,_⟩=>match v with
  | _::vs=>UZ C fet (o.dst.getD 0) f vs
  | []=>.no
 | .call ⟨.value (.tmp t),_,_⟩=>match v with
  | c::vs=>Aa5 C fet (o.dst.getD 0) t c vs
  | []=>.no
 | _=>.no
def fetch (Jm:List (Nat×Obj)):List Nat->Fet
 | []=>[]
 | n::r=>match Jr Jm n with
  | some x=>(n,x)::fetch Jm r
  | none=>fetch Jm r
def JJ (st:St) (vs:List A):Fet :=
 let f1:=fetch st.Jm (vs.flatMap A.ids)
 f1++fetch st.Jm (f1.flatMap (fun p=>p.2.ids))
def JM (Jm:List (Nat×Obj)):List Nat->List (Nat×Obj)
 | []=>Jm
 | n::r=>JM (OB Jm n) r
def J3 (Jm:List (Nat×Obj)):List (Nat×Obj)->List (Nat×Obj)
 | []=>Jm
 | (n,x)::r=>J3 (KI Jm n x) r
def put (tmps:List A):Option Tmp->A->List A
 | some d,v=>tmps.set d v
 | none,_=>tmps
def apply (st:St) (o:Oper) (δ :Dl):St :=
 {tmps:=put st.tmps o.dst δ.val,Jm:=J3 (JM (J3 st.Jm δ.upd) δ.del) δ.new}
def strips:List A->List Bool×List A
 | []=>([],[])
 | a::r=>(a.strip.1++(strips r).1,a.strip.2::(strips r).2)
def guardOf (ops:List Oper) (tmps:List A):Option (Nat×Bool)->Option (Option Bool)
 | none=>some none
 | some (j,want)=>match ops[j]? with
  | some oj=>match oj.dst with
   | some t=>match (tmps.getD t .undef)with
    | .bool b=>some (some (bif want then b else !b))
    | .cnd g (.bool b)=>some (some (g&&(bif want then b else !b)))
    | _=>none
   | none=>none
  | none=>none
def Zp:Op->Bool
 | .move _=>true
 | .assign _=>true
 | .binOp _ _ _ _ _=>true
 | _=>false
def Kv:Op->List A->List Bool×List A
 | .pick _ _ _,vs=>([],vs)
 | op,vs=>((strips vs).1,bif Zp op then(strips vs).2 else(strips vs).2.map A.weak)
def Yc (g:Bool):A->A->A
 | .bool x,.bool y=>.bool (bif g then y else x)
 | .int k x,.int _ y=>.int k (bif g then y else x)
 | .str x,.str y=>.str (bif g then y else x)
 | .sl l,.sl l'=>match l'.cast l.t with
  | some ys=>.sl ⟨l.t,bif g then ys else l.xs⟩
  | none=>.undef
 | .sln l,.sln l'=>match l'.cast l.t with
  | some ys=>.sln ⟨l.t,bif g then ys else l.xs⟩
  | none=>.undef
 | a,_=>a
def VT:A->A->Bool
 | .bool _,.bool _=>true
 | .int k _,.int k' _=>A.kEq k k'
 | .str _,.str _=>true
 | .sl l,.sl l'=>(l'.cast l.t).isSome
 | .sln l,.sln l'=>(l'.cast l.t).isSome
 | .own o,.own o'=>Nat.beq o o'
 | .KQ,.KQ=>true
 | .undef,.undef=>true
 | _,_=>false
def wG (g:Bool):List A->List A->List A
 | a::aa,b::bs=>Yc g a b::wG g aa bs
 | _,_=>[]
def okM:List A->List A->Bool
 | [],[]=>true
 | a::aa,b::bs=>VT a b&&okM aa bs
 | _,_=>false
def RH (g:Bool):Option Obj->Obj->Obj
 | some (.box cs),.box ds=>.box (wG g cs ds)
 | some (.arr e _ l),.arr _ true _=>.arr e true l
 | _,x=>x
def VU (c:Bool):Option Obj->Obj->Bool
 | some (.box cs),.box ds=>okM cs ds
 | some (.arr e _ _),.arr e' true _=>c&&Nat.beq e e'
 | _,_=>false
def Y2:Op->Bool
 | .call ⟨.value (.func _),_,_⟩=>true
 | .call ⟨.value (.tmp _),_,_⟩=>true
 | .slice _ _ _ _ _=>true
 | _=>false
def iI:Op->Bool
 | .call ⟨.value (.func _),_,_⟩=>true
 | _=>false
def OI (C:Ctx) (o:Oper) (st:St) (pre:List Bool):Dl :=
 match Kv o.op (o.op.operands.toList.map (Kq st.tmps))with
  | (ok,vs)=>match opX C o vs (JJ st vs)with
   | δ => {δ with ok:=pre++(ok++ δ.ok++[δ.new.all (fun p=>st.fresh p.1),nodup (δ.new.map (·.1))]),same:=bif iI o.op then δ.same else []}
def Adx (C:Ctx) (o:Oper):Option Bool:=match o.dst with
 | some d=>C.dec d
 | none=>none
def JU (C:Ctx) (ops:List Oper) (o:Oper) (st:St):Dl :=
 match guardOf ops st.tmps o.guard with
 | some none=>OI C o st []
 | some (some g)=>match Adx C o with
  | some true=>OI C o st [g]
  | some false=> {ok:=[!g],val:=.cnd false .undef}
  | none=>match Kv o.op (o.op.operands.toList.map (Kq st.tmps))with
  | (ok,vs)=>match opX C o vs (JJ st vs)with
   | δ => {ok:=(ok++(δ.val.isVal:: δ.ok)).map (fun c=>c|| !g)++(δ.new.isEmpty:: δ.del.isEmpty::o.dst.isSome:: δ.upd.map (fun p=>VU (Y2 o.op) (Jr (JJ st vs) p.1) p.2)),val:=.cnd g δ.val,
           upd:= δ.upd.map (fun p=>(p.1,RH g (Jr (JJ st vs) p.1) p.2))}
 | none=>.no
def allT {α :Type}:List Bool->Option α ->Option α
 | [],r=>r
 | c::cs,r=>bif c then allT cs r else none
def QJ {α :Type} (C:Ctx) (ops:List Oper):List Oper->St->(St->Option α)->Option α
 | [],st,K=>K st
 | o::r,st,K=>match JU C ops o st with
  | δ =>allT δ.ok (QJ C ops r (apply st o δ) K)
def UX (C:Ctx) (o:Oper):Option (Nat×Alt) :=
 match o.guard,o.op with
 | none,.call ⟨.value (.func f),_,_⟩=>(C.alt f).map (fun q=>(f,q))
 | _,_=>none
def rW (o:Oper) (st:St) (q:Alt):Bool :=
 match (Kv o.op (o.op.operands.toList.map (Kq st.tmps))).2 with
 | v::xs=>q.2.2 (VG (JJ st (v::xs)) q.1.Jp xs).vs
 | []=>true
def QI {α :Type} (C:Ctx) (ops:List Oper):List Oper->St->(St->Option α)->Option α
 | [],st,K=>K st
 | o::r,st,K=>match UX C o with
  | none=>allT (JU C ops o st).ok (QI C ops r (apply st o (JU C ops o st)) K)
  | some (f,q)=>bif rW o st q then allT (JU (C.put f q.1) ops o st).ok (QI C ops r (apply st o (JU (C.put f q.1) ops o st)) K)
   else allT (JU (C.put f q.2.1) ops o st).ok (QI C ops r (apply st o (JU (C.put f q.2.1) ops o st)) K)
abbrev Bs:=List UInt8
def chk {ρ :Type} (c:Bool) (k:Option ρ):Option ρ :=bif c then k else none
def Jn {α ρ :Type} [Inhabited α] (o:Option α) (k: α ->Option ρ):Option ρ :=bif o.isSome then k (o.getD default)else none
def Jw {X Y ρ :Type} (B:X->(X->Option ρ)->(Y->Option ρ)->Option ρ):Nat->X->(Y->Option ρ)->Option ρ
 | 0,_,_=>none
 | n+1,x,kx=>B x (fun x'=>Jw B n x' kx) kx
def LQ {α ρ :Type} [Inhabited α] {o:Option α} {a: α} (h:o=some a) (k: α ->Option ρ):Jn o k=k a:=by rw[h];rfl
def Pn (_:Nat) (l:List Bs):Option (List Bs):=chk (decide (l.length*17<=140737488355328)) (some l)
def Oq (_:Nat) (l:List (Bs×Bs)):Option (List (Bs×Bs)):=chk (decide (l.length*33<=140737488355328)) (some l)
def JP (o:Oper) (st:St):List A:=(Kv o.op (o.op.operands.toList.map (Kq st.tmps))).2
def XH:Op->List A->Bool
 | .move _,_=>true
 | .assign _,_=>true
 | .load _ _,[.clo _ _]=>true
 | _,_=>false
def SK:Op->List A->Option Nat
 | .nilCheck _,[.ptr o _]=>some o
 | .fieldAddr _ _ _,[.ptr o _]=>some o
 | .load _ _,[.ptr o _]=>some o
 | _,_=>none
def KL (o:Oper) (st:St) (vs:List A):List Nat:=bif XH o.op vs then []else match SK o.op vs with
 | some q=>[q]
 | none=>vs.flatMap A.ids++(fetch st.Jm (vs.flatMap A.ids)).flatMap (fun p=>p.2.ids)
def oneOf (C:Ctx):Op->List A->Option (Nat×Nat×Nat)
 | .nilCheck _,[.ptr o _]=>some (o,0,0)
 | .fieldAddr _ _ _,[.ptr o _]=>some (o,0,0)
 | .load t _,[.ptr o off]=>match C.T t with
  | some ti=>bif Nat.blt 0 ti.cs.length then some (o,off,ti.cs.length)else none
  | none=>none
 | _,_=>none
structure KE where
 o:Oper
 δ :Dl
 rd:List Nat
 one:Option (Nat×Nat×Nat)
 anc:List Nat
def KE.news (x:KE):List Nat:=x.δ.new.map (·.1)
def KE.keys (x:KE):List Nat:=x.δ.upd.map (·.1)++x.δ.del++x.news
def KE.says (x:KE):List Nat:=x.δ.val.ids++x.δ.upd.flatMap (fun p=>p.2.ids)++x.δ.new.flatMap (fun p=>p.2.ids)
def P6 (a b:List Nat):Bool:=a.all (fun n=> !(has b n))
def slotsOf (ops:List Oper) (o:Oper):List Nat :=
 (o.op.operands.toList.filterMap fun | .tmp t=>some t | _=>none) ++
 (match o.guard with
  | some (g,_)=>match ops[g]? with
   | some x=>match x.dst with | some t=>[t] | none=>[]
   | none=>[]
  | none=>[])
def TB (o:Oper):List Nat:=match o.dst with | some d=>[d] | none=>[]
def calm (x y:KE):Bool:=match x.one with
 | none=>false
 | some (q,off,n)=> !(has x.keys q)&&(!(has y.δ.del q)&&(!(has y.news q)&&(y.δ.same.any (fun e=>Nat.beq e.1 q)&&(List.range n).all (fun k=>y.δ.same.any (fun e=>Nat.beq e.1 q&&Nat.beq e.2 (off+k))))))
def indep (ops:List Oper) (x y:KE):Bool :=
 P6 (TB x.o) (TB y.o)&&P6 (TB x.o) (slotsOf ops y.o)&&P6 (TB y.o) (slotsOf ops x.o) &&
 P6 x.keys y.rd&&(P6 y.keys x.rd||calm x y)&&P6 x.keys y.keys&&P6 x.news y.says
def TV (ops:List Oper) (i:Nat) (x y:KE):Bool:=P6 y.news x.says&&P6 y.news x.keys&&(has y.anc i||indep ops x y)
def Rw (o:Oper):List Nat:=o.after.toList.filterMap fun e=>bif Region.binds .any e then some e.on else none
def PD (C:Ctx) (ops:List Oper):List Oper->List (List Nat)->St->List KE
 | [],_,_=>[]
 | o::r,acc,st=>match JU C ops o st,(Rw o).flatMap (fun e=>e::acc.getD e [])with
  | δ,an=>⟨o,δ,KL o st (JP o st),oneOf C o.op (JP o st),an⟩::PD C ops r (acc++[an]) (apply st o δ)
def Vx (ops:List Oper):Nat->List KE->Bool
 | _,[]=>true
 | i,x::r=>r.all (TV ops i x)&&Vx ops (i+1) r
def backward:Nat->List Oper->Bool
 | _,[]=>true
 | i,o::r=>o.after.toList.all (fun e=>Nat.blt e.on i)&&backward (i+1) r
def Og:Nat->List Oper->Bool
 | _,[]=>true
 | i,o::r=>o.after.toList.all (fun e=> !(Region.binds .any e)||Nat.blt e.on i)&&Og (i+1) r
def ranks (md:Region.Mode) (ops:List Oper):Nat->List Nat->List Nat
 | 0,r=>r
 | n+1,r=>ranks md ops n (ops.map fun o=>o.after.toList.foldl (fun m e=>bif Region.binds md e then(bif Nat.ble m (r.getD e.on 0)then r.getD e.on 0+1 else m)else m) 0)
def SY (md:Region.Mode) (n:Nat) (rk:List Nat):Nat->List Oper->Bool
 | _,[]=>true
 | i,o::r=>o.after.toList.all (fun e=> !(Region.binds md e)||(Nat.blt e.on n&&Nat.blt (rk.getD e.on 0) (rk.getD i 0)))&&SY md n rk (i+1) r
def qQ (md:Region.Mode) (ops:List Oper):Bool:=SY md ops.length (ranks md ops ops.length (ops.map fun _=>0)) 0 ops
def ordered (ops:List Oper):Bool:=Og 0 ops&&(backward 0 ops||(qQ .text ops&&qQ .gc ops&&qQ .any ops))
def sorted:List (Nat×Obj)->Bool
 | []=>true
 | [_]=>true
 | (n,_)::(k,y)::r=>Nat.blt n k&&sorted ((k,y)::r)
def Pj (C:Ctx) (ops:List Oper) (st:St):Bool :=
 match PD C ops ops [] st with
 | fs=>ordered ops&&Vx ops 0 fs&&(fs.flatMap KE.news).all st.fresh&&sorted st.Jm
def MC (f t:Nat):A->A
 | .ptr o off=>.ptr (bif Nat.beq o f then t else o) off
 | .own o=>.own (bif Nat.beq o f then t else o)
 | .clo g o=>.clo g (bif Nat.beq o f then t else o)
 | .bsl o n=>.bsl (bif Nat.beq o f then t else o) n
 | .osl o n=>.osl (bif Nat.beq o f then t else o) n
 | .KG o i off=>.KG (bif Nat.beq o f then t else o) i off
 | .agg cs=>.agg (cs.map fun
  | .ptr o off=>.ptr (bif Nat.beq o f then t else o) off
  | .own o=>.own (bif Nat.beq o f then t else o)
  | .clo g o=>.clo g (bif Nat.beq o f then t else o)
  | .bsl o n=>.bsl (bif Nat.beq o f then t else o) n
  | .osl o n=>.osl (bif Nat.beq o f then t else o) n
  | .KG o i off=>.KG (bif Nat.beq o f then t else o) i off
  | c=>c)
 | a=>a
def gB (f t:Nat):Obj->Obj
 | .box cs=>.box (cs.map (MC f t))
 | x=>x
def drop (keep:List Nat):List A->Nat->List A
 | [],_=>[]
 | a::r,i=>(bif has keep i then a else .undef)::drop keep r (i+1)
def gG (st:St):List (Nat×Nat)->Bool×St
 | []=>(true,st)
 | (f,t)::r=>match Jr st.Jm f with
  | some x=>match gG {tmps:=st.tmps.map (MC f t),Jm:=(KI (OB st.Jm f) t x).map (fun p=>(p.1,gB f t p.2))} r with
   | (ok,st')=>((bif Nat.beq f t then true else st.fresh t)&&ok,st')
  | none=>gG st r
def AaG (Jm:List (Nat×Obj)):List Nat->List (Nat×Obj)
 | []=>Jm
 | n::r=>match Jr Jm n with
  | some (.arr e _ l)=>AaG (KI Jm n (.arr e true l)) r
  | _=>AaG Jm r
def AfD:Nat->List (Nat×Obj)->List Nat->List Nat
 | 0,_,l=>l
 | n+1,Jm,l=>l++AfD n Jm ((fetch Jm l).flatMap (fun p=>p.2.ids))
def reached (tmps:List A) (Jm:List (Nat×Obj)):List Nat:=AfD 4 Jm (tmps.flatMap A.ids++(Jm.map (·.1)).filter Su)
def XZ:A->Bool | .KD=>true | _=>false
def gQ (id:Nat):List Nat->List A->List A
 | [],l=>l
 | t::r,l=>gQ id r (l.set t (.own id))
def owns:List (List Nat×Nat×Ty×Nat)->St->Bool×St
 | [],st=>(true,st)
 | (ts,e,ty,id)::r,st=>bif ts.any (fun t=>XZ (st.tmps.getD t .undef))then
     match owns r {tmps:=gQ id ts st.tmps,Jm:=KI st.Jm id (.arr e false ⟨ty,[]⟩)}with
     | (ok,st')=>(ts.all (fun t=>XZ (st.tmps.getD t .undef)&&Nat.blt t st.tmps.length)&&st.fresh id&&ok,st')
  else owns r st
def pzs:List (Option Nat×Nat×Ty)->St->St
 | [],st=>st
 | (none,t,ty)::r,st=>match st.tmps.getD t .undef with
  | .KD=>pzs r {st with tmps:=st.tmps.set t (.sl ⟨ty,[]⟩)}
  | .own o=>match Jr st.Jm o with
   | some (.arr e _ l)=>pzs r {tmps:=st.tmps.set t (.sl l),Jm:=KI st.Jm o (.arr e true l)}
   | _=>pzs r st
  | _=>pzs r st
 | (some b,j,_)::r,st=>match Jr st.Jm b with
  | some (.box cs)=>match cs.getD j .undef with
   | .own o=>match Jr st.Jm o with
    | some (.arr e _ l)=>pzs r {st with Jm:=KI (KI st.Jm o (.arr e true l)) b (.box (cs.set j (.sl l)))}
    | _=>pzs r st
   | _=>pzs r st
  | _=>pzs r st
def norm (C:Ctx) (key:Nat) (st0:St):Bool×St :=
 match C.nrm key with
 | none=>(true,st0)
 | some n =>
  match pzs n.pz st0 with
  | st=>match gG {tmps:=drop n.keep st.tmps 0,Jm:=st.Jm.filter (fun p=>has (reached (drop n.keep st.tmps 0) st.Jm) p.1)} n.ren with
   | (ok,st')=>match owns n.nw st' with
    | (ok',st'')=>(ok&&ok',{st'' with Jm:=AaG st''.Jm n.frz})
inductive Ex where
 | normal
 | exit (id:Nat)
def KZ:Code->Option Nat
 | .region id _ _=>some id
 | .seq a b=>match KZ a with | some n=>some n | none=>(KZ b).map (· +4096)
 | .cond _ a b=>match KZ a with | some n=>some n | none=>KZ b
 | .block _ c=>KZ c
 | .loop c=>KZ c
 | .scope c=>KZ c
 | _=>none
def Pm {ρ :Type} (C:Ctx) (key:Nat) (st:St) (K:St->Option ρ):Option ρ :=
 match norm C key st with
 | (ok,st')=>bif ok then K st' else none
def meet {ρ :Type} (C:Ctx) (kind:Nat) (c:Code) (st:St) (K:St->Option ρ):Option ρ :=
 match KZ c with
 | some n=>Pm C (4*n+kind) st K
 | none=>K st
def rounds {ρ :Type} (head:St->(St->Option ρ)->Option ρ) (body:St->(Ex->St->Option ρ)->Option ρ):Nat->St->(Ex->St->Option ρ)->Option ρ
 | 0,_,_=>none
 | n+1,st,K=>body st fun
  | .normal,st'=>head st' fun st''=>rounds head body n st'' K
  | .exit id,st'=>K (.exit id) st'
def mO:Nat:=(fun(_:Option Nat)=>0) (Jw (X:=Nat) (Y:=Nat) (fun _ _ _=>none) 0 0 (fun _=>none))
def peek (C:Ctx) (ops:List Oper) (s:Nat):List Oper->St->A
 | [],st=>(st.tmps.getD s .undef).Nq.2
 | o::r,st=>peek C ops s r (apply st o (JU C ops o st))
def split {α :Type} (C:Ctx) (id:Nat) (ops:List Oper) (st:St) (f:Ctx->Option α):Option α :=
 (fun(_:Nat)=>match C.spl id with
 | none=>f C
 | some (k,s,ds)=>match peek C ops s (ops.take k) st with
  | .bool b=>match b with
   | true=>f (C.decide ds true)
   | false=>f (C.decide ds false)
  | _=>none) mO
def Vp {α :Type} {C:Ctx} {id:Nat} {ops:List Oper} {st:St} {f:Ctx->Option α} {v: α} (h:split C id ops st f=some v):(f C=some v\/ ∃ ds b,f (C.decide ds b)=some v)/\ ∀ f':Ctx->Option α,(∀ C',f C'=some v->f' C'=some v)->split C id ops st f'=some v:=by
 unfold split at h ⊢;dsimp only at h ⊢;cases hs:C.spl id with
 | none=>rw[hs]at h;exact⟨.inl h,fun f' hf=>hf C h⟩
 | some q =>
  obtain⟨k,s,ds⟩:=q;rw[hs]at h;dsimp only at h ⊢;generalize peek C ops s (ops.take k) st=x at h ⊢;cases x with
  | bool b=>cases b<;>exact⟨.inr ⟨_,_,h⟩,fun f' hf=>hf _ h⟩
  | _=>cases h
def exec {ρ :Type} (C:Ctx) (N:Nat) (fin:St->Option ρ):Code->St->(Ex->St->Option ρ)->Option ρ
 | .skip,st,K=>K .normal st
 | .region id ops false,st,K=>split C id ops.toList st fun C=>QI C ops.toList ops.toList st fun st'=>K .normal st'
 | .region id ops true,st,K=>split C id ops.toList st fun C=>bif Pj C ops.toList st then QJ C ops.toList ops.toList st fun st'=>K .normal st' else none
 | .seq a b,st,K=>exec C N fin a st fun
  | .normal,st'=>meet C 1 b st' fun st''=>exec C N fin b st'' K
  | .exit id,st'=>K (.exit id) st'
 | .cond c a b,st,K=>match Kq st.tmps c with
  | .bool t=>bif t then exec C N fin a st K else exec C N fin b st K
  | .cnd g (.bool t)=>bif g then bif t then exec C N fin a st K else exec C N fin b st K else none
  | _=>none
 | .block id c,st,K=>exec C N fin c st fun
  | .exit j,st'=>bif Nat.beq j id then K .normal st' else K (.exit j) st'
  | .normal,st'=>K .normal st'
 | .loop c,st,K=>meet C 2 c st fun st'=>rounds (meet C 2 c) (exec C N fin c) N st' K
 | .exit id,st,K=>Pm C (4*id+3) st fun st'=>K (.exit id) st'
 | .scope c,st,K=>exec C N fin c st K
 | .label _,st,K=>K .normal st
 | .ret,st,_=>fin st
 | _,_,_=>none
def Ty.Ll: ∀(t:Ty) (v:t.Val),(t.cells v).length=t.len
 | .nil,_=>rfl
 | .bool r,v=>by simp [Ty.cells,Ty.len,Ty.Ll r]
 | .int _ r,v=>by simp [Ty.cells,Ty.len,Ty.Ll r]
 | .str r,v=>by simp [Ty.cells,Ty.len,Ty.Ll r]
 | .sl _ _ r,v=>by simp [Ty.cells,Ty.len,Ty.Ll r]
 | .ptr r,v=>by simp [Ty.cells,Ty.len,Ty.Ll r v]
 | .fn r,v=>by simp [Ty.cells,Ty.len,Ty.Ll r]
 | .mp _ _ r,v=>by simp [Ty.cells,Ty.len,Ty.Ll r]
theorem Ty.Nj {α :Type} (r:Ty) (a: α) (b:r.Val):r.hd (r.mk2 a b)=a:=by cases r<;>rfl
theorem Ty.Nr {α :Type} (r:Ty) (a: α) (b:r.Val):r.tl (r.mk2 a b)=b:=by cases r<;>rfl
theorem Sl.JW (l:Sl):l.es.length=l.xs.length:=by simp [Sl.es]
def Sl.es_len (l:Sl): ∀ e∈l.es,e.length=l.sz:=by intro e he;obtain⟨v,_,rfl⟩:=D6.1 he;exact Ty.Ll _ _
def Sl.at_eq (l:Sl) {i:Nat} (h:i<l.xs.length):l.at i=l.es.getD i []:=by grind[Sl.at,Sl.es]
def Sl.Ae7 (l:Sl) (i:Nat):(l.at i).length=l.sz:=Ty.Ll _ _
theorem Sl.NC {l:Sl} {t:Ty} {xs:List t.Val} (h:l.cast t=some xs):l=⟨t,xs⟩:=by
 unfold Sl.cast at h;split at h
 .rename_i e _;obtain⟨s,ys⟩:=l;all_goals grind
 .cases h
def Sl.TL (t:Ty) (xs:List t.Val):(⟨t,xs⟩:Sl).cast t=some xs:=by
 unfold Sl.cast;split
 .rfl
 .grind
theorem Mp.NC {l:Mp} {kt vt:Ty} {xs:List (kt.Val×vt.Val)} (h:l.cast kt vt=some xs):l=⟨kt,vt,xs⟩:=by
 unfold Mp.cast at h;split at h
 .rename_i e _;obtain⟨k,v,ys⟩:=l;dsimp only at e;subst e;split at h;all_goals grind
 .cases h
def Mp.TL (kt vt:Ty) (xs:List (kt.Val×vt.Val)):(⟨kt,vt,xs⟩:Mp).cast kt vt=some xs:=by
 unfold Mp.cast;split
 .split
  .rfl
  .grind
 .grind
theorem A.NL {j k:IntKind} (h:A.kEq j k=true):j=k:=by cases j<;>cases k<;>first | rfl | cases h
def Ty.OY: ∀(t:Ty) (cs:List A),(t.mk cs).1=true->t.cells (t.mk cs).2=cs:=by
 intro t
 induction t with
 | nil =>
  intro cs h;cases cs with
  | nil=>rfl
  | cons _ _=>simp [Ty.mk]at h
 | fn r ih=>grind[Ty.mk,Ty.cells,Ty.Nj,Ty.Nr]
 | mp kt vt r _ _ ih =>
  intro cs h;unfold Ty.mk at h ⊢;split at h
  .rename_i l cs;cases hc:l.cast kt vt with
   | none=>rw[hc]at h;simp at h
   | some xs=>grind[Ty.cells,Ty.Nj,Ty.Nr,Mp.NC]
  .simp at h
 | bool r ih=>grind[Ty.mk,Ty.cells,Ty.Nj,Ty.Nr]
 | int k r ih=>grind[Ty.mk,Ty.cells,Ty.Nj,Ty.Nr,A.NL]
 | str r ih=>grind[Ty.mk,Ty.cells,Ty.Nj,Ty.Nr]
 | sl e t r _ ih =>
  intro cs h;unfold Ty.mk at h ⊢;split at h
  .rename_i l cs;cases hc:l.cast t with
   | none=>rw[hc]at h;simp at h
   | some xs=>grind[Ty.cells,Ty.Nj,Ty.Nr,Sl.NC]
  .simp at h
 | ptr r ih =>
  intro cs h;unfold Ty.mk at h ⊢;split at h
  .rename_i cs;show A.KQ::r.cells (r.mk cs).2=_;rw[ih cs h]
  .simp at h
def Ty.rQ: ∀(ks:List CK),ks.all CK.plain=true->(tyl ks).cells (tyl ks).zero=ks.map CK.MI:=by
 intro ks
 induction ks with
 | nil=>intro _;rfl
 | cons k ks ih=>grind[tyl,Ty.cells,Ty.Nj,Ty.Nr,CK.MI,CK.zero,CK,CK.plain,cells,zero]
def Qi (ks:List CK):(tyl ks).len=ks.length:=by
 induction ks with
 | nil=>rfl
 | cons k ks ih=>cases k<;>simp [tyl,Ty.len,ih]
def Sl.AhG (l:Sl) {i off:Nat} {cs:List A} (hi:i<l.xs.length) (h:(l.set i off cs).1=true):(l.set i off cs).2.es=l.es.set i (splice (l.es.getD i []) off cs):=by have:=Ty.OY _ _ h;rw[<- l.at_eq hi];all_goals simp_all[Sl.set,Sl.es,hi,splice]
def Sl.AeX (t:Ty) (xs ys:List t.Val):(⟨t,xs++ys⟩:Sl).es=(⟨t,xs⟩:Sl).es++(⟨t,ys⟩:Sl).es:=by simp [Sl.es]
def Sl.AeY (l:Sl) (a b:Nat):(⟨l.t,J7 l.xs a b⟩:Sl).es=J7 l.es a b:=by simp_all[Sl.es,J7]
def Sl.VE (ks:List CK) (n:Nat) (h:ks.all CK.plain=true):(⟨tyl ks,List.replicate n (tyl ks).zero⟩:Sl).es=List.replicate n (ks.map CK.MI):=by simp [Sl.es,List.map_replicate,Ty.rQ ks h]
def Sl.AeZ (t:Ty):(⟨t,[]⟩:Sl).es=[]:=rfl
def MB (P:Program):Nat->Nat->Option (List CK)
 | 0,_=>none
 | n+1,t=>match P.underlying t with
  | some .bool=>some [.bool]
  | some (.int k)=>some [.int k]
  | some .string=>some [.str]
  | some (.slice e)=>match MB P n e with
   | some cs=>bif cs.all CK.plain then some [.sl e (tyl cs)]else some [.oth]
   | none=>some [.oth]
  | some (.pointer _)=>some [.ptr]
  | some (.struct fs)=>fs.toList.foldr (fun f acc=>match MB P n f.type,acc with | some a,some b=>some (a++b) | _,_=>none) (some [])
  | some (.array m e)=>match MB P n e with
   | some a=>bif Nat.ble (m*a.length) 4096 then some ((List.replicate m a).flatten)else none
   | none=>none
  | some (.tuple _)=>none
  | some (.func _ _ _)=>some [.fn]
  | some _=>some [.oth]
  | none=>none
def JQ:List Value->List CK->Bool
 | [],[]=>true
 | .bool false::vs,.bool::ks=>JQ vs ks
 | .int k 0::vs,.int k'::ks=>A.kEq k k'&&JQ vs ks
 | .string s::vs,.str::ks=>s.data.toList.isEmpty&&JQ vs ks
 | .slice none 0 0::vs,.sl _ _::ks=>JQ vs ks
 | .pointer none::vs,.ptr::ks=>JQ vs ks
 | .nilFunc::vs,.fn::ks=>JQ vs ks
 | v::vs,.oth::ks=>v.oneCell'&&JQ vs ks
 | _,_=>false
def Ry:TypeDesc->Bool
 | .struct _ | .array _ _=>true
 | _=>false
def VJ:Value->Bool
 | .agg _=>true
 | _=>false
def Ol (P:Program):List Field->Nat->Option (List CK)
 | [],_=>some []
 | f::r,n=>match P.underlying f.type,Ol P r (n+1)with
  | some .bool,some ks=>bif f.name != "_" &&Nat.beq f.offset n then some (.bool::ks)else none
  | some (.int k),some ks=>bif f.name != "_" &&Nat.beq f.offset n then some (.int k::ks)else none
  | some .string,some ks=>bif f.name != "_" &&Nat.beq f.offset n then some (.str::ks)else none
  | _,_=>none
def zV (P:Program) (t:Nat):TypeDesc->List CK
 | .struct fs=>match Ol P fs.toList 0 with
  | some ks=>bif !(P.stoodInHeld t)&& !(P.eqGuardType P.depth t)then ks else []
  | none=>[]
 | _=>[]
def Ae2 (P:Program) (t:Nat):Option TI :=
 match P.underlying t,P.info? t,MB P 20 t with
 | some d,some i,some cs=>match i.zero with
  | some z=>bif Nat.beq i.size cs.length&&JQ z.cells.toList cs&&(Ry d==VJ z)then some ⟨d,cs,i.bytes,zV P t d⟩else none
  | none=>none
 | _,_,_=>none
end Go.Proofs.YtpaimpmokhihmaaGreatDoor.Vm
