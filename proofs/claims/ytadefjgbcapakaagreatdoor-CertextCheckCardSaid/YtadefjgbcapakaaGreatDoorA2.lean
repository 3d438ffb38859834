/-
  CertextCheck: the law returns true whatever the input; machine, functions, plain law (part 2 of 47.)
-/
import Derived.Test.YtadefjgbcapakaaGreatDoorA1
set_option linter.unusedVariables false
set_option linter.unusedSimpArgs false
namespace Go.Proofs.YtadefjgbcapakaaGreatDoor.Vm
def BV (tmps:List A):Operand→A
  | .tmp t=>tmps.getD t .undef
  | .const v=>ofConst v
  | .func f=>.fn (f+1)
  | .global _=>.undef
def b2 (d:Nat):Nat:=(d+128)*256
def BH {α :Type} (o:Option α) (k: α →Dl):Dl:=match o with | some x=>k x | none=>.no
def DJ (C:Ctx) (t:Nat) (k:TI→Dl):Dl:=BH (C.T t) k
def elem? :TypeDesc→Option Nat
  | .slice e=>some e
  | _=>none
def elemOf (C:Ctx) (t:Nat) (k:Nat→TI→Dl):Dl:=DJ C t fun ti=>BH (elem? ti.d) fun e=>DJ C e fun te=>k e te
structure Arr where
  e:Nat
  frz:Bool
  l:Sl
def Wl (fet:Fet) (o:Nat):Option Arr:=match Ai fet o with | some (.arr e frz l)=>some ⟨e,frz,l⟩ | _=>none
def one? {α :Type}:List α →Option α
  | [k]=>some k
  | _=>none
def QH (ti:TI) (cs:List A) (off:Nat) (pre:List Bool):Dl :=
  bif ti.agg then .g (pre++(forces cs ti.cs off).1) (.agg (forces cs ti.cs off).2)
  else BH (one? ti.cs) fun k=>.g (pre++(force k (cs.getD off .undef)).1) (force k (cs.getD off .undef)).2
def mZ (C:Ctx) (fet:Fet) (t:Nat) (a:A):Dl :=
  DJ C t fun ti=>match a with
  | .ptr o off=>BH (MK fet o) fun cs=>.g [Nat.ble (off+ti.cs.length) cs.length,Nat.blt 0 ti.cs.length] (zT ti cs off)
  | .elt cs=>QH ti cs 0 [Nat.ble ti.cs.length cs.length]
  | .CB o i off=>BH (Wl fet o) fun r=>QH ti (r.l.at i) off [Nat.ble (off+ti.cs.length) r.l.sz,decide (i<r.l.xs.length)]
  | _=>.no
def Lr (C:Ctx) (fet:Fet) (t:Nat) (a v:A):Dl :=
  DJ C t fun ti=>match a with
  | .ptr o off=>BH (MK fet o) fun cs =>
      {ok:=[v.isVal,Nat.beq v.cells.length ti.cs.length,Nat.ble (off+ti.cs.length) cs.length,Nat.blt 0 ti.cs.length],val:=.undef,
       upd:=[(o,.box (splice cs off (Dy (Du fet o+1+off) ti.cs v.cells).1))],new:=(Dy (Du fet o+1+off) ti.cs v.cells).2}
  | .CB o i off=>BH (Wl fet o) fun r =>
      {ok:=(BZ fet ti.cs v.cells).1++[!r.frz,(r.l.set i off (BZ fet ti.cs v.cells).2.1).1,Nat.ble (off+ti.cs.length) r.l.sz,decide (i<r.l.xs.length),Nat.blt 0 ti.cs.length,!(has ((BZ fet ti.cs v.cells).2.2.map (·.1)) o)],val:=.undef,
       upd:=(BZ fet ti.cs v.cells).2.2++[(o,.arr r.e false (r.l.set i off (BZ fet ti.cs v.cells).2.1).2)]}
  | _=>.no
def KL (C:Ctx) (d:Nat) (t:Nat) (v:A):Dl :=
  DJ C t fun ti=> {ok:=[v.isVal,Nat.beq v.cells.length ti.cs.length],val:=.ptr (b2 d) 0,new:=(b2 d,.box (Dy (b2 d+1) ti.cs v.cells).1)::(Dy (b2 d+1) ti.cs v.cells).2}
def Y5 (off n:Nat) (fet:Fet):A→Dl
  | .ptr o p=>BH (MK fet o) fun cs=>.g [Nat.ble (p+off+n) cs.length] (.ptr o (p+off))
  | .elt cs=>.g [Nat.ble (off+n) cs.length] (.elt (cs.drop off))
  | .CB o i p=>BH (Wl fet o) fun r=>.g [decide (i<r.l.xs.length)] (.CB o i (p+off))
  | _=>.no
def AdT:TypeDesc→Option (Nat×Nat)
  | .array n e=>some (n,e)
  | _=>none
def int? :A→Option Int
  | .int _ n=>some n
  | _=>none
def TC (C:Ctx) (fet:Fet) (t:Nat) (x:A) (i:A):Dl :=
  match x with
  | .CB o i0 off0=>BH (int? i) fun n=>DJ C t fun ti=>BH (AdT ti.d) fun p=>DJ C p.2 fun te=>BH (Wl fet o) fun r =>
      .g [Nat.beq i0 0,Nat.beq off0 0,Nat.beq r.l.sz te.cs.length,decide (0≤n),decide (n<(p.1:Int)),decide (n.toNat<r.l.xs.length)] (.CB o n.toNat 0)
  | x =>
  BH (int? i) fun n=>elemOf C t fun _ te=>match x with
  | .own o=>BH (Wl fet o) fun r=>.g [Nat.beq r.l.sz te.cs.length,decide (0≤n),decide (n<r.l.xs.length)] (.CB o n.toNat 0)
  | .sl l=>.g [Nat.beq l.sz te.cs.length,Nat.blt 0 l.sz,decide (0≤n),decide (n<l.xs.length)] (.elt (l.at n.toNat))
  | _=>.no
def Ajq:A→Option (List UInt8)
  | .str s=>some s
  | _=>none
def yQ (C:Ctx) (t:Nat) (x i:A):Dl :=
  BH (int? i) fun n=>BH (Ajq x) fun s=>DJ C t fun ti=>.g [iV ti.d,decide (0≤n),decide (n<s.length)] (.int .u8 ((s.getD n.toNat 0).toNat:Int))
def tJ (len:Nat):Option A→Option A→Option (List Bool×Nat×Nat)
  | none,none=>some ([],0,len)
  | some (.int _ a),none=>some ([decide (0≤a),decide (a≤len)],a.toNat,len)
  | none,some (.int _ b)=>some ([decide (0≤b),decide (b≤len)],0,b.toNat)
  | some (.int _ a),some (.int _ b)=>some ([decide (0≤a),decide (a≤b),decide (b≤len)],a.toNat,b.toNat)
  | _,_=>none
def AO {α :Type} (l:List α) (a b:Nat):List α :=(l.take b).drop a
def DT (C:Ctx) (fet:Fet) (t:Nat) (x:A) (lo hi:Option A):Dl :=
  DJ C t fun ti=>match x with
  | .str s=>BH (tJ s.length lo hi) fun r=>.g (iV ti.d::r.1) (.str (AO s r.2.1 r.2.2))
  | .sl l=>BH (tJ l.xs.length lo hi) fun r=>BH (elem? ti.d) fun e=>DJ C e fun te=>.g (Nat.beq l.sz te.cs.length::r.1) (.sl ⟨l.t,AO l.xs r.2.1 r.2.2⟩)
  | .own o=>BH (Wl fet o) fun ro=>BH (tJ ro.l.xs.length lo hi) fun r=>BH (elem? ti.d) fun e=>DJ C e fun te =>
      {ok:=Nat.beq ro.l.sz te.cs.length::r.1,val:=.sl ⟨ro.l.t,AO ro.l.xs r.2.1 r.2.2⟩,upd:=bif ro.frz then []else [(o,.arr ro.e true ro.l)]}
  | _=>.no
def gV (C:Ctx) (fet:Fet) (d t:Nat) (x hi:A):Dl :=
  DJ C t fun ti=>match x with
  | .own o=>BH (Wl fet o) fun ro=>BH (tJ ro.l.xs.length none (some hi)) fun r=>BH (elem? ti.d) fun e=>DJ C e fun te =>
      {ok:=Nat.beq ro.l.sz te.cs.length::r.1++[!ro.frz],val:=.own (b2 d),new:=[(b2 d,.arr ro.e false ⟨ro.l.t,AO ro.l.xs r.2.1 r.2.2⟩)],del:=[o]}
  | _=>.no
def mapOf (C:Ctx) (t:Nat) (k:TI→TI→Dl):Dl:=DJ C t fun ti=>match ti.d with
  | .map a b=>DJ C a fun ta=>DJ C b fun tb=>k ta tb
  | _=>.no
def mp? (fet:Fet):A→Option (Nat×Mp)
  | .own o=>match Ai fet o with
    | some (.mp l)=>some (o,l)
    | _=>none
  | _=>none
def AiD (C:Ctx) (ta:TI):Bool:=match ta.d with
  | .string=>true
  | .int _=>true
  | .array n e=>match C.T e with
    | some te=>iV te.d&&Nat.blt 1 n
    | none=>false
  | _=>false
def Aek (ti:TI):Bool:=ti.agg== !(Nat.beq ti.cs.length 1)
def Ai8:A→Bool
  | .agg [_]=>false
  | _=>true
def Aea (C:Ctx) (ta tb:TI) (l:Mp) (i:A):List Bool:=[AiD C ta,Aek tb,decide (l.kt=tyl ta.cs),decide (l.vt=tyl tb.cs),i.isVal,Ai8 i,(l.kt.mk i.cells).1]
def Oa (C:Ctx) (d t:Nat) (r:List A):Dl:=mapOf C t fun ta tb =>
  {ok:=[r.isEmpty],val:=.own (b2 d),new:=[(b2 d,.mp ⟨tyl ta.cs,tyl tb.cs,[]⟩)]}
def Abi (l:Mp) (c:Bool) (r:Option l.vt.Val):A :=
  bif c then .tup [Fj (l.vt.cells (r.getD l.vt.zero)),.bool r.isSome]else Fj (l.vt.cells (r.getD l.vt.zero))
def nC (C:Ctx) (fet:Fet) (t:Nat) (c:Bool) (x i:A):Dl:=mapOf C t fun ta tb=>BH (mp? fet x) fun p =>
  .g (Aea C ta tb p.2 i++[tb.cs.all CK.plain]) (Abi p.2 c (UD p.2.kt (p.2.kt.mk i.cells).2 p.2.l))
def Y3 (C:Ctx) (fet:Fet) (t:Nat) (x i v:A):Dl:=mapOf C t fun ta tb=>BH (mp? fet x) fun p =>
  {ok:=Aea C ta tb p.2 i++[v.isVal,Ai8 v]++(BZ fet tb.cs v.cells).1++[(p.2.vt.mk (BZ fet tb.cs v.cells).2.1).1],val:=.undef,
   upd:=(BZ fet tb.cs v.cells).2.2++[(p.1,.mp ⟨p.2.kt,p.2.vt,Zq p.2.kt (p.2.kt.mk i.cells).2 (p.2.vt.mk (BZ fet tb.cs v.cells).2.1).2 p.2.l⟩)]}
def XC (C:Ctx) (fet:Fet) (t:Nat) (x i:A):Dl:=mapOf C t fun ta tb=>BH (mp? fet x) fun p =>
  {ok:=Aea C ta tb p.2 i,val:=.tup [],upd:=[(p.1,.mp ⟨p.2.kt,p.2.vt,WU p.2.kt (p.2.kt.mk i.cells).2 p.2.l⟩)]}
def Abh (C:Ctx) (fet:Fet) (t:Nat) (x:A):Dl :=
  DJ C t fun ti=>match ti.d with
  | .string=>BH (Ajq x) fun s=>.v (.int .i64 (s.length:Int))
  | .array n _=>.v (.int .i64 (n:Int))
  | .slice _=>.g (rd fet x).1 (.int .i64 ((rd fet x).2.xs.length:Int))
  | .map _ _=>BH (mp? fet x) fun p=>.v (.int .i64 (p.2.l.length:Int))
  | _=>.no
def Gj (fet:Fet) (t:Ty):A→List Bool×List t.Val
  | .str s=>match t with
    | .int .u8 .nil=>([],s.map (fun(b:UInt8)=>((b.toNat:Int))))
    | _=>([false],[])
  | y=>rdT fet t y
def Xl (C:Ctx) (fet:Fet) (d:Nat) (t:Nat) (x y:A):Dl :=
  elemOf C t fun e te=>match x with
  | .own o=>BH (Wl fet o) fun r =>
      {ok:=(Gj fet r.l.t y).1++[Nat.beq e r.e,Nat.beq r.l.sz te.cs.length,Nat.blt 0 r.l.sz,decide ((r.l.xs.length+(Gj fet r.l.t y).2.length)*(te.bytes+1)≤140737488355328)],
       val:=.own (b2 d),new:=[(b2 d,.arr r.e r.frz ⟨r.l.t,r.l.xs++(Gj fet r.l.t y).2⟩)],del:=[o]}
  | .CJ =>
      {ok:=(Gj fet (tyl te.cs) y).1++[Nat.blt 0 te.cs.length,decide ((Gj fet (tyl te.cs) y).2.length*(te.bytes+1)≤140737488355328)],
       val:=.own (b2 d),new:=[(b2 d,.arr e false ⟨tyl te.cs,(Gj fet (tyl te.cs) y).2⟩)]}
  | _=>.no
def Qu (C:Ctx) (fet:Fet) (src dst:Nat) (x:A):Dl :=
  DJ C src fun s=>DJ C dst fun t=>match t.d,x with
  | .int k,.int _ n=>.v (.int k (k.wrap n))
  | .string,.str l=>.v (.str l)
  | .string,.int _ _=>.no
  | .string,x=>BH (elem? s.d) fun e=>DJ C e fun te=>.g (Aef te.d::((rdB fet x).1++[(rdB fet x).2.all isByte])) (.str ((rdB fet x).2.map byteOf))
  | _,_=>.no
def fJ (C:Ctx) (d s t:Nat) (l:List UInt8):Dl:=DJ C s fun _=>elemOf C t fun e te =>
  {ok:=[Aef te.d,decide (l.length≤140737488355328)],val:=.own (b2 d),new:=[(b2 d,.arr e false ⟨Tt,l.map (fun(b:UInt8)=>((b.toNat:Int)))⟩)]}
def Afi:TypeDesc→Bool | .slice _=>true | _=>false
def mJ (C:Ctx) (o:Oper) (fet:Fet) (s t:Nat) (x:A):Dl :=
  match x with
  | .str l=>DJ C t fun tt=>bif Afi tt.d then BH o.dst fun d=>fJ C d s t l else Qu C fet s t (.str l)
  | x=>Qu C fet s t x
def QY (C:Ctx) (d t:Nat):Dl:=DJ C t fun ti=>match AdT ti.d with
  | some (n,e)=>DJ C e fun te=> {ok:=[te.cs.all CK.plain,Nat.blt 0 te.cs.length,Nat.blt 0 n,Nat.ble n 16777216,decide (ti.cs=(List.replicate n te.cs).flatten)],val:=.CB (b2 d) 0 0,new:=[(b2 d,.arr t false ⟨tyl te.cs,List.replicate n (tyl te.cs).zero⟩)]}
  | none=>KL C d t (.agg (ti.cs.map CK.zero))
def AiS (fet:Fet) (s:Bool) (d:TypeDesc) (x:A):Option Bool :=
  match s,d,x with
  | true,.slice _,.CJ=>some true
  | true,.slice _,.sln l=>some l.xs.isEmpty
  | false,.pointer _,.Dw=>some true
  | false,.pointer _,.ptr o _=>(MK fet o).map (fun _=>false)
  | _,_,_=>none
def Abp (C:Ctx) (fet:Fet) (s:Bool) (t:Nat) (x:A) (k:Bool→Dl):Dl:=DJ C t fun ti=>BH (AiS fet s ti.d x) k
def AdU (C:Ctx) (t:Nat) (r:Bool):Dl:=DJ C t fun ti=>.g [Abg ti.d] (.bool r)
def AhR (C:Ctx) (fet:Fet) (op:BinOp) (t:Nat) (x y:A):Dl :=
  match x,y with
  | .int k a,.int k' b=>match op with
    | .shl=>.g [decide (0≤b)] (.int k (k.wrap (a*2 ^ (min b.toNat k.bits))))
    | .shr=>.g [decide (0≤b)] (.int k (a.fdiv (2 ^ (min b.toNat k.bits))))
    | op=>bif A.kEq k k' then fF op k a b else .no
  | .str a,.str b=>fG op a b
  | .bool a,.bool b=>match op with
    | .eql=>AdU C t (a==b)
    | .neq=>AdU C t (!(a==b))
    | _=>.no
  | .agg x,.agg y=>DJ C t fun ti=>match op with
    | .eql=>.g [!ti.cmp.isEmpty,(G7 ti.cmp x y).1] (.bool (G7 ti.cmp x y).2)
    | .neq=>.g [!ti.cmp.isEmpty,(G7 ti.cmp x y).1] (.bool (!(G7 ti.cmp x y).2))
    | _=>.no
  | x,.CJ=>match op with
    | .eql=>Abp C fet true t x fun v=>.v (.bool v)
    | .neq=>Abp C fet true t x fun v=>.v (.bool (!v))
    | _=>.no
  | x,.Dw=>match op with
    | .eql=>Abp C fet false t x fun v=>.v (.bool v)
    | .neq=>Abp C fet false t x fun v=>.v (.bool (!v))
    | _=>.no
  | _,_=>.no
def unX:UnOp→A→Dl
  | .not,.bool b=>.v (.bool !b)
  | .neg,.int k n=>.v (.int k (k.wrap (0 - n)))
  | .xor,.int k n=>.v (.int k (BP .xor k (if k.signed then -1 else k.max) n))
  | _,_=>.no
def Ael (c a b:A):Dl:=.g [c.Gm.1,c.Gm.2.isB,(bif c.Gm.2.toB then a.Gm.1 else b.Gm.1),(bif c.Gm.2.toB then a.Gm.2.isB else b.Gm.2.isB)] (.bool (bif c.Gm.2.toB then a.Gm.2.toB else b.Gm.2.toB))
def Zl (C:Ctx) (d:Nat) (t:Nat) (l c:A):Dl :=
  BH (int? l) fun n=>BH (int? c) fun m=>elemOf C t fun e te =>
   {ok:=[decide (n≤m),decide (0≤n),decide (m*(te.bytes+1)≤140737488355328),Nat.blt 0 te.cs.length,te.cs.all CK.plain],val:=.own (b2 d),
    new:=[(b2 d,.arr e false ⟨tyl te.cs,List.replicate n.toNat (tyl te.cs).zero⟩)]}
def fH (C:Ctx) (t:Nat) (ps:List (Nat×A)):Dl:=DJ C t fun ti=>BH (fill C ti.d ps (ti.cs.map CK.zero)) fun cs=>.g [ti.agg] (.agg cs)
def Iu (C:Ctx) (fet:Fet) (d t n:Nat) (ps:List (Nat×A)):Dl:=elemOf C t fun e te =>
  {ok:=(Em fet te (tyl te.cs) ps (List.replicate n (tyl te.cs).zero)).1++[Nat.ble (n*te.cs.length) 16777216,Nat.blt 0 te.cs.length,te.cs.all CK.plain],val:=.own (b2 d),
   new:=[(b2 d,.arr e false ⟨tyl te.cs,(Em fet te (tyl te.cs) ps (List.replicate n (tyl te.cs).zero)).2.1⟩)],upd:=(Em fet te (tyl te.cs) ps (List.replicate n (tyl te.cs).zero)).2.2}
def Tz (C:Ctx) (fet:Fet) (t f:Nat) (x:A):Dl :=
  DJ C t fun ti=>BH (zV C ti.d f) fun p=>match Y5 p.1 p.2.cs.length fet x with
  | δ => {δ with ok:=Nat.blt 0 p.2.cs.length:: δ.ok}
def An8:A→Option (List A)
  | .agg cs=>some cs
  | _=>none
def y9 (C:Ctx) (t f:Nat) (x:A):Dl :=
  DJ C t fun ti=>BH (zV C ti.d f) fun p=>BH (An8 x) fun cs=>.g [Nat.ble (p.1+p.2.cs.length) cs.length,Nat.blt 0 p.2.cs.length] (zT p.2 cs p.1)
def Aom:A→Option (List A)
  | .tup vs=>some vs
  | _=>none
def YW (i:Nat) (x:A):Dl:=BH (Aom x) fun vs=>.g [Nat.blt i vs.length] (vs.getD i .undef)
def VL (fet:Fet):A→Dl
  | .ptr o off=>BH (MK fet o) fun _=>.v (.ptr o off)
  | _=>.no
structure Hand where
  ok:List Bool
  vs:List A
  upd:List (Nat×Obj)
  del:List Nat
  boxes:List (Nat×Sh)
def Aeo:List A→A
  | [v]=>v
  | vs=>.tup vs
def AdW (rb:Nat→Nat) (d:Nat) (sg:Sig) (N:List (Nat×Nat)) (n:Nat) (h:Hand) (ok:Bool) (rs:List A):Dl :=
  ⟨h.ok++[ok]++(BL (b2 d) 16 sg.AL rs 0).1++(BM rb (rs.drop sg.AL.length) h.boxes 0).1++[nodup (N.map (·.1)),Nat.ble n 100,Nat.beq rs.length (sg.AL.length+h.boxes.length)],
    Aeo (BL (b2 d) 16 sg.AL rs 0).2.1,
    (BL (b2 d) 16 sg.AL rs 0).2.2++(BM rb (rs.drop sg.AL.length) h.boxes 0).2.2,
    h.upd++(BM rb (rs.drop sg.AL.length) h.boxes 0).2.1,h.del⟩
def Us (fet:Fet) (ss:List Sh) (xs:List A):Hand:=⟨(AX fet ss xs).1,(AX fet ss xs).2.1,(AX fet ss xs).2.2.1,(AX fet ss xs).2.2.2.1,(AX fet ss xs).2.2.2.2⟩
def OE (fet:Fet) (d:Nat) (sg:Sig) (args:List A):Dl:=AdW (Du fet) d sg (DZ fet 0 256 sg.Ah args) args.length (Us fet sg.Ah args) (sg.ok (Us fet sg.Ah args).vs) (sg.val (Us fet sg.Ah args).vs)
def YB (C:Ctx) (fet:Fet) (d:Nat) (f:Nat) (args:List A):Dl :=
  match C.G f with
  | some sg=>OE fet d sg args
  | none=>.no
def AeE (C:Ctx) (fet:Fet) (d t:Nat) (c:A) (args:List A):Dl :=
  match c with
  | .fn n=>match C.dyn t with
    | some sg=>OE fet d (sg n) args
    | none=>.no
  | _=>.no
def a0 (k:Dl):List A→Dl
  | []=>k
  | _=>.no
def a1 (k:A→Dl):List A→Dl
  | [a]=>k a
  | _=>.no
def a2 (k:A→A→Dl):List A→Dl
  | [a,b]=>k a b
  | _=>.no
def a3 (k:A→A→A→Dl):List A→Dl
  | [a,b,c]=>k a b c
  | _=>.no
def Alk (C:Ctx) (o:Oper) (fet:Fet) (ts:List Nat) (x y:A):Dl :=
  match ts with
  | [t,u]=>DJ C u fun tu=>BH o.dst fun d=>match Xl C fet d t x y with
    | δ => {δ with ok:=Q7 tu.d:: δ.ok}
  | _=>.no
def slX (C:Ctx) (dst:Option Nat) (fet:Fet) (t:Nat) (lo hi mx:Option Operand):List A→Dl :=
  match mx,lo,hi with
  | none,none,none=>a1 fun x=>DT C fet t x none none
  | none,some _,none=>a2 fun x a=>DT C fet t x (some a) none
  | none,none,some _=>a2 fun x b=>match dst with
    | some d=>bif has C.cuts d then gV C fet d t x b else DT C fet t x none (some b)
    | none=>DT C fet t x none (some b)
  | none,some _,some _=>a3 fun x a b=>DT C fet t x (some a) (some b)
  | _,_,_=>fun _=>.no
def AiQ:A→A→Dl
  | .int k a,.int k' b=>bif A.kEq k k' then .v (.int k (bif decide (b<a)then b else a))else .no
  | _,_=>.no
def AiO:A→A→Dl
  | .int k a,.int k' b=>bif A.kEq k k' then .v (.int k (bif decide (a<b)then b else a))else .no
  | _,_=>.no
def blX (C:Ctx) (o:Oper) (fet:Fet) (ts:List Nat):Builtin→List A→Dl
  | .len=>a1 fun x=>BH (one? ts) fun t=>Abh C fet t x
  | .append=>a2 fun x y=>Alk C o fet ts x y
  | .min=>a2 AiQ
  | .max=>a2 AiO
  | .delete=>a2 fun x y=>match ts with
    | t::_=>XC C fet t x y
    | []=>.no
  | _=>fun _=>.no
def opX (C:Ctx) (o:Oper) (v:List A) (fet:Fet):Dl :=
  match o.op with
  | .move _=>a1 (fun a=>.v a) v
  | .assign _=>a1 (fun a=>.v a) v
  | .pick _ _ _=>a3 (fun c a b=>Ael c a b) v
  | .alloc t=>a0 (BH o.dst fun d=>QY C d t) v
  | .box t _=>a1 (fun a=>BH o.dst fun d=>KL C d t a) v
  | .build t ps=>fH C t ((ps.toList.map (·.1)).zip v)
  | .buildSlice t n ps=>BH o.dst fun d=>Iu C fet d t n ((ps.toList.map (·.1)).zip v)
  | .load t _=>a1 (mZ C fet t) v
  | .store t _ _=>a2 (fun a x=>bif o.dst.isNone then Lr C fet t a x else .no) v
  | .nilCheck _=>a1 (VL fet) v
  | .binOp op t _ _ _=>a2 (AhR C fet op t) v
  | .unOp op _ _=>a1 (unX op) v
  | .convert s t _=>a1 (mJ C o fet s t) v
  | .makeSlice t _ _=>a2 (fun l c=>BH o.dst fun d=>Zl C d t l c) v
  | .slice t _ lo hi mx=>slX C o.dst fet t lo hi mx v
  | .fieldAddr t _ f=>a1 (Tz C fet t f) v
  | .field t _ f=>a1 (y9 C t f) v
  | .indexAddr t _ _=>a2 (TC C fet t) v
  | .index t _ _=>a2 (yQ C t) v
  | .extract _ i=>a1 (YW i) v
  | .makeMap t _=>BH o.dst fun d=>Oa C d t v
  | .lookup t _ _ c=>a2 (nC C fet t c) v
  | .mapUpdate t _ _ _=>a3 (fun m i x=>bif o.dst.isNone then Y3 C fet t m i x else .no) v
  | .insert t _ _ _=>a3 (fun m i x=>bif o.dst.isNone then Y3 C fet t m i x else .no) v
  | .call ⟨.builtin b,_,ts⟩=>blX C o fet ts.toList b v
  | .call ⟨.value (.func f),_,_⟩=>match v with
    | _::vs=>YB C fet (o.dst.getD 0) f vs
    | []=>.no
  | .call ⟨.value (.tmp t),_,_⟩=>match v with
    | c::vs=>AeE C fet (o.dst.getD 0) t c vs
    | []=>.no
  | _=>.no
def fetch (Aa:List (Nat×Obj)):List Nat→Fet
  | []=>[]
  | n::r=>match Ai Aa n with
    | some x=>(n,x)::fetch Aa r
    | none=>fetch Aa r
def Ci (st:St) (vs:List A):Fet :=
  let f1:=fetch st.Aa (vs.flatMap A.ids)
  f1++fetch st.Aa (f1.flatMap (fun p=>p.2.ids))
def Bl (Aa:List (Nat×Obj)):List Nat→List (Nat×Obj)
  | []=>Aa
  | n::r=>Bl (IM Aa n) r
def Au (Aa:List (Nat×Obj)):List (Nat×Obj)→List (Nat×Obj)
  | []=>Aa
  | (n,x)::r=>Au (C9 Aa n x) r
def put (tmps:List A):Option Tmp→A→List A
  | some d,v=>tmps.set d v
  | none,_=>tmps
def apply (st:St) (o:Oper) (δ :Dl):St :=
  {tmps:=put st.tmps o.dst δ.val,Aa:=Au (Bl (Au st.Aa δ.upd) δ.del) δ.new}
def strips:List A→List Bool×List A
  | []=>([],[])
  | a::r=>(a.strip.1++(strips r).1,a.strip.2::(strips r).2)
def guardOf (ops:List Oper) (tmps:List A):Option (Nat×Bool)→Option (Option Bool)
  | none=>some none
  | some (j,want)=>match ops[j]? with
    | some oj=>match oj.dst with
      | some t=>match (tmps.getD t .undef)with
        | .bool b=>some (some (bif want then b else !b))
        | .cnd g (.bool b)=>some (some (g&&(bif want then b else !b)))
        | _=>none
      | none=>none
    | none=>none
def ZW:Op→Bool
  | .move _=>true
  | .assign _=>true
  | .binOp _ _ _ _ _=>true
  | _=>false
def Ce:Op→List A→List Bool×List A
  | .pick _ _ _,vs=>([],vs)
  | op,vs=>((strips vs).1,bif ZW op then(strips vs).2 else(strips vs).2.map A.weak)
def zK (g:Bool):A→A→A
  | .bool x,.bool y=>.bool (bif g then y else x)
  | .int k x,.int _ y=>.int k (bif g then y else x)
  | .str x,.str y=>.str (bif g then y else x)
  | .sl l,.sl l'=>match l'.cast l.t with
    | some ys=>.sl ⟨l.t,bif g then ys else l.xs⟩
    | none=>.undef
  | a,_=>a
def vI:A→A→Bool
  | .bool _,.bool _=>true
  | .int k _,.int k' _=>A.kEq k k'
  | .str _,.str _=>true
  | .sl l,.sl l'=>(l'.cast l.t).isSome
  | .own o,.own o'=>Nat.beq o o'
  | .Dw,.Dw=>true
  | .undef,.undef=>true
  | _,_=>false
def AbO (g:Bool):List A→List A→List A
  | a::aa,b::bs=>zK g a b::AbO g aa bs
  | _,_=>[]
def okM:List A→List A→Bool
  | [],[]=>true
  | a::aa,b::bs=>vI a b&&okM aa bs
  | _,_=>false
def UC (g:Bool):Option Obj→Obj→Obj
  | some (.box cs),.box ds=>.box (AbO g cs ds)
  | some (.arr e _ l),.arr _ true _=>.arr e true l
  | _,x=>x
def vJ (c:Bool):Option Obj→Obj→Bool
  | some (.box cs),.box ds=>okM cs ds
  | some (.arr e _ _),.arr e' true _=>c&&Nat.beq e e'
  | _,_=>false
def YP:Op→Bool
  | .call ⟨.value (.func _),_,_⟩=>true
  | .call ⟨.value (.tmp _),_,_⟩=>true
  | .slice _ _ _ _ _=>true
  | _=>false
def BK (C:Ctx) (ops:List Oper) (o:Oper) (st:St):Dl :=
  match guardOf ops st.tmps o.guard with
  | some none=>match Ce o.op (o.op.operands.toList.map (BV st.tmps))with
    | (ok,vs)=>match opX C o vs (Ci st vs)with
      | δ => {δ with ok:=ok++ δ.ok++[δ.new.all (fun p=>st.fresh p.1),nodup (δ.new.map (·.1))]}
  | some (some g)=>match Ce o.op (o.op.operands.toList.map (BV st.tmps))with
    | (ok,vs)=>match opX C o vs (Ci st vs)with
      | δ => {ok:=(ok++ δ.ok).map (fun c=>c|| !g)++(δ.val.isVal:: δ.new.isEmpty:: δ.del.isEmpty::o.dst.isSome:: δ.upd.map (fun p=>vJ (YP o.op) (Ai (Ci st vs) p.1) p.2)),val:=.cnd g δ.val,
              upd:= δ.upd.map (fun p=>(p.1,UC g (Ai (Ci st vs) p.1) p.2))}
  | none=>.no
def allT {α :Type}:List Bool→Option α →Option α
  | [],r=>r
  | c::cs,r=>bif c then allT cs r else none
def Oe {α :Type} (C:Ctx) (ops:List Oper):List Oper→St→(St→Option α)→Option α
  | [],st,K=>K st
  | o::r,st,K=>match BK C ops o st with
    | δ =>allT δ.ok (Oe C ops r (apply st o δ) K)
def V9 (C:Ctx) (o:Oper):Option (Nat×Alt) :=
  match o.guard,o.op with
  | none,.call ⟨.value (.func f),_,_⟩=>(C.alt f).map (fun q=>(f,q))
  | _,_=>none
def Aa1 (o:Oper) (st:St) (q:Alt):Bool :=
  match (Ce o.op (o.op.operands.toList.map (BV st.tmps))).2 with
  | v::xs=>q.2.2 (Us (Ci st (v::xs)) q.1.Ah xs).vs
  | []=>true
def Px {α :Type} (C:Ctx) (ops:List Oper):List Oper→St→(St→Option α)→Option α
  | [],st,K=>K st
  | o::r,st,K=>match V9 C o with
    | none=>allT (BK C ops o st).ok (Px C ops r (apply st o (BK C ops o st)) K)
    | some (f,q)=>bif Aa1 o st q then allT (BK (C.put f q.1) ops o st).ok (Px C ops r (apply st o (BK (C.put f q.1) ops o st)) K)
      else allT (BK (C.put f q.2.1) ops o st).ok (Px C ops r (apply st o (BK (C.put f q.2.1) ops o st)) K)
abbrev Bs:=List UInt8
def chk {ρ :Type} (c:Bool) (k:Option ρ):Option ρ :=bif c then k else none
def Ad {α ρ :Type} [Inhabited α] (o:Option α) (k: α →Option ρ):Option ρ :=bif o.isSome then k (o.getD default)else none
def Ak {X Y ρ :Type} (B:X→(X→Option ρ)→(Y→Option ρ)→Option ρ):Nat→X→(Y→Option ρ)→Option ρ
  | 0,_,_=>none
  | n+1,x,kx=>B x (fun x'=>Ak B n x' kx) kx
def FQ (o:Oper) (st:St):List A:=(Ce o.op (o.op.operands.toList.map (BV st.tmps))).2
def mD:Op→Bool
  | .move _=>true
  | .assign _=>true
  | _=>false
def Hz (o:Oper) (st:St) (vs:List A):List Nat:=bif mD o.op then []else vs.flatMap A.ids++(fetch st.Aa (vs.flatMap A.ids)).flatMap (fun p=>p.2.ids)
structure Cf where
  o:Oper
  δ :Dl
  rd:List Nat
  anc:List Nat
def Cf.news (x:Cf):List Nat:=x.δ.new.map (·.1)
def Cf.keys (x:Cf):List Nat:=x.δ.upd.map (·.1)++x.δ.del++x.news
def Cf.says (x:Cf):List Nat:=x.δ.val.ids++x.δ.upd.flatMap (fun p=>p.2.ids)++x.δ.new.flatMap (fun p=>p.2.ids)
def Kq (a b:List Nat):Bool:=a.all (fun n=> !(has b n))
def slotsOf (ops:List Oper) (o:Oper):List Nat :=
  (o.op.operands.toList.filterMap fun | .tmp t=>some t | _=>none) ++
  (match o.guard with
   | some (g,_)=>match ops[g]? with
     | some x=>match x.dst with | some t=>[t] | none=>[]
     | none=>[]
   | none=>[])
def QE (o:Oper):List Nat:=match o.dst with | some d=>[d] | none=>[]
def indep (ops:List Oper) (x y:Cf):Bool :=
  Kq (QE x.o) (QE y.o)&&Kq (QE x.o) (slotsOf ops y.o)&&Kq (QE y.o) (slotsOf ops x.o) &&
  Kq x.keys y.rd&&Kq y.keys x.rd&&Kq x.keys y.keys&&Kq x.news y.says
def UI (ops:List Oper) (i:Nat) (x y:Cf):Bool:=Kq y.news x.says&&Kq y.news x.keys&&(has y.anc i||indep ops x y)
def OT (o:Oper):List Nat:=o.after.toList.filterMap fun e=>bif Region.binds .any e then some e.on else none
def Kz (C:Ctx) (ops:List Oper):List Oper→List (List Nat)→St→List Cf
  | [],_,_=>[]
  | o::r,acc,st=>match BK C ops o st,(OT o).flatMap (fun e=>e::acc.getD e [])with
    | δ,an=>⟨o,δ,Hz o st (FQ o st),an⟩::Kz C ops r (acc++[an]) (apply st o δ)
def TY (ops:List Oper):Nat→List Cf→Bool
  | _,[]=>true
  | i,x::r=>r.all (UI ops i x)&&TY ops (i+1) r
def backward:Nat→List Oper→Bool
  | _,[]=>true
  | i,o::r=>o.after.toList.all (fun e=>Nat.blt e.on i)&&backward (i+1) r
def KJ:Nat→List Oper→Bool
  | _,[]=>true
  | i,o::r=>o.after.toList.all (fun e=> !(Region.binds .any e)||Nat.blt e.on i)&&KJ (i+1) r
def ranks (md:Region.Mode) (ops:List Oper):Nat→List Nat→List Nat
  | 0,r=>r
  | n+1,r=>ranks md ops n (ops.map fun o=>o.after.toList.foldl (fun m e=>bif Region.binds md e then(bif Nat.ble m (r.getD e.on 0)then r.getD e.on 0+1 else m)else m) 0)
def Zz (md:Region.Mode) (n:Nat) (rk:List Nat):Nat→List Oper→Bool
  | _,[]=>true
  | i,o::r=>o.after.toList.all (fun e=> !(Region.binds md e)||(Nat.blt e.on n&&Nat.blt (rk.getD e.on 0) (rk.getD i 0)))&&Zz md n rk (i+1) r
def zZ (md:Region.Mode) (ops:List Oper):Bool:=Zz md ops.length (ranks md ops ops.length (ops.map fun _=>0)) 0 ops
def ordered (ops:List Oper):Bool:=KJ 0 ops&&(backward 0 ops||(zZ .text ops&&zZ .gc ops&&zZ .any ops))
def sorted:List (Nat×Obj)→Bool
  | []=>true
  | [_]=>true
  | (n,_)::(k,y)::r=>Nat.blt n k&&sorted ((k,y)::r)
def JI (C:Ctx) (ops:List Oper) (st:St):Bool :=
  match Kz C ops ops [] st with
  | fs=>ordered ops&&TY ops 0 fs&&(fs.flatMap Cf.news).all st.fresh&&sorted st.Aa
def Gt (f t:Nat):A→A
  | .ptr o off=>.ptr (bif Nat.beq o f then t else o) off
  | .own o=>.own (bif Nat.beq o f then t else o)
  | .CB o i off=>.CB (bif Nat.beq o f then t else o) i off
  | .agg cs=>.agg (cs.map fun
    | .ptr o off=>.ptr (bif Nat.beq o f then t else o) off
    | .own o=>.own (bif Nat.beq o f then t else o)
    | .CB o i off=>.CB (bif Nat.beq o f then t else o) i off
    | c=>c)
  | a=>a
def lD (f t:Nat):Obj→Obj
  | .box cs=>.box (cs.map (Gt f t))
  | x=>x
def drop (keep:List Nat):List A→Nat→List A
  | [],_=>[]
  | a::r,i=>(bif has keep i then a else .undef)::drop keep r (i+1)
def lF (st:St):List (Nat×Nat)→Bool×St
  | []=>(true,st)
  | (f,t)::r=>match Ai st.Aa f with
    | some x=>match lF {tmps:=st.tmps.map (Gt f t),Aa:=(C9 (IM st.Aa f) t x).map (fun p=>(p.1,lD f t p.2))} r with
      | (ok,st')=>((bif Nat.beq f t then true else st.fresh t)&&ok,st')
    | none=>lF st r
def AeQ (Aa:List (Nat×Obj)):List Nat→List (Nat×Obj)
  | []=>Aa
  | n::r=>match Ai Aa n with
    | some (.arr e _ l)=>AeQ (C9 Aa n (.arr e true l)) r
    | _=>AeQ Aa r
def AkI:Nat→List (Nat×Obj)→List Nat→List Nat
  | 0,_,l=>l
  | n+1,Aa,l=>l++AkI n Aa ((fetch Aa l).flatMap (fun p=>p.2.ids))
def reached (tmps:List A) (Aa:List (Nat×Obj)):List Nat:=AkI 4 Aa (tmps.flatMap A.ids++(Aa.map (·.1)).filter PO)
def XP:A→Bool | .CJ=>true | _=>false
def lI (id:Nat):List Nat→List A→List A
  | [],l=>l
  | t::r,l=>lI id r (l.set t (.own id))
def owns:List (List Nat×Nat×Ty×Nat)→St→Bool×St
  | [],st=>(true,st)
  | (ts,e,ty,id)::r,st=>bif ts.any (fun t=>XP (st.tmps.getD t .undef))then
      match owns r {tmps:=lI id ts st.tmps,Aa:=C9 st.Aa id (.arr e false ⟨ty,[]⟩)}with
      | (ok,st')=>(ts.all (fun t=>XP (st.tmps.getD t .undef)&&Nat.blt t st.tmps.length)&&st.fresh id&&ok,st')
    else owns r st
def pzs:List (Option Nat×Nat×Ty)→St→St
  | [],st=>st
  | (none,t,ty)::r,st=>match st.tmps.getD t .undef with
    | .CJ=>pzs r {st with tmps:=st.tmps.set t (.sl ⟨ty,[]⟩)}
    | .own o=>match Ai st.Aa o with
      | some (.arr e _ l)=>pzs r {tmps:=st.tmps.set t (.sl l),Aa:=C9 st.Aa o (.arr e true l)}
      | _=>pzs r st
    | _=>pzs r st
  | (some b,j,_)::r,st=>match Ai st.Aa b with
    | some (.box cs)=>match cs.getD j .undef with
      | .own o=>match Ai st.Aa o with
        | some (.arr e _ l)=>pzs r {st with Aa:=C9 (C9 st.Aa o (.arr e true l)) b (.box (cs.set j (.sl l)))}
        | _=>pzs r st
      | _=>pzs r st
    | _=>pzs r st
def norm (C:Ctx) (key:Nat) (st0:St):Bool×St :=
  match C.nrm key with
  | none=>(true,st0)
  | some n =>
    match pzs n.pz st0 with
    | st=>match lF {tmps:=drop n.keep st.tmps 0,Aa:=st.Aa.filter (fun p=>has (reached (drop n.keep st.tmps 0) st.Aa) p.1)} n.ren with
      | (ok,st')=>match owns n.nw st' with
        | (ok',st'')=>(ok&&ok',{st'' with Aa:=AeQ st''.Aa n.frz})
inductive Ex where
  | normal
  | exit (id:Nat)
def Dj:Code→Option Nat
  | .region id _ _=>some id
  | .seq a b=>match Dj a with | some n=>some n | none=>(Dj b).map (· +4096)
  | .cond _ a b=>match Dj a with | some n=>some n | none=>Dj b
  | .block _ c=>Dj c
  | .loop c=>Dj c
  | .scope c=>Dj c
  | _=>none
def JM {ρ :Type} (C:Ctx) (key:Nat) (st:St) (K:St→Option ρ):Option ρ :=
  match norm C key st with
  | (ok,st')=>bif ok then K st' else none
def meet {ρ :Type} (C:Ctx) (kind:Nat) (c:Code) (st:St) (K:St→Option ρ):Option ρ :=
  match Dj c with
  | some n=>JM C (4*n+kind) st K
  | none=>K st
def rounds {ρ :Type} (head:St→(St→Option ρ)→Option ρ) (body:St→(Ex→St→Option ρ)→Option ρ):Nat→St→(Ex→St→Option ρ)→Option ρ
  | 0,_,_=>none
  | n+1,st,K=>body st fun
    | .normal,st'=>head st' fun st''=>rounds head body n st'' K
    | .exit id,st'=>K (.exit id) st'
def exec {ρ :Type} (C:Ctx) (N:Nat) (fin:St→Option ρ):Code→St→(Ex→St→Option ρ)→Option ρ
  | .skip,st,K=>K .normal st
  | .region _ ops false,st,K=>Px C ops.toList ops.toList st fun st'=>K .normal st'
  | .region _ ops true,st,K=>bif JI C ops.toList st then Oe C ops.toList ops.toList st fun st'=>K .normal st' else none
  | .seq a b,st,K=>exec C N fin a st fun
    | .normal,st'=>meet C 1 b st' fun st''=>exec C N fin b st'' K
    | .exit id,st'=>K (.exit id) st'
  | .cond c a b,st,K=>match BV st.tmps c with
    | .bool t=>bif t then exec C N fin a st K else exec C N fin b st K
    | .cnd g (.bool t)=>bif g then bif t then exec C N fin a st K else exec C N fin b st K else none
    | _=>none
  | .block id c,st,K=>exec C N fin c st fun
    | .exit j,st'=>bif Nat.beq j id then K .normal st' else K (.exit j) st'
    | .normal,st'=>K .normal st'
  | .loop c,st,K=>meet C 2 c st fun st'=>rounds (meet C 2 c) (exec C N fin c) N st' K
  | .exit id,st,K=>JM C (4*id+3) st fun st'=>K (.exit id) st'
  | .scope c,st,K=>exec C N fin c st K
  | .label _,st,K=>K .normal st
  | .ret,st,_=>fin st
  | _,_,_=>none
theorem Ty.Ea: ∀(t:Ty) (v:t.Val),(t.cells v).length=t.len
  | .nil,_=>rfl
  | .bool r,v=>by simp [Ty.cells,Ty.len,Ty.Ea r]
  | .int _ r,v=>by simp [Ty.cells,Ty.len,Ty.Ea r]
  | .str r,v=>by simp [Ty.cells,Ty.len,Ty.Ea r]
  | .sl _ _ r,v=>by simp [Ty.cells,Ty.len,Ty.Ea r]
  | .ptr r,v=>by simp [Ty.cells,Ty.len,Ty.Ea r v]
  | .fn r,v=>by simp [Ty.cells,Ty.len,Ty.Ea r]
  | .mp _ _ r,v=>by simp [Ty.cells,Ty.len,Ty.Ea r]
theorem Ty.GK {α :Type} (r:Ty) (a: α) (b:r.Val):r.hd (r.mk2 a b)=a:=by cases r<;>rfl
theorem Ty.Hf {α :Type} (r:Ty) (a: α) (b:r.Val):r.tl (r.mk2 a b)=b:=by cases r<;>rfl
theorem Sl.BQ (l:Sl):l.es.length=l.xs.length:=by simp [Sl.es]
theorem Sl.es_len (l:Sl): ∀ e∈l.es,e.length=l.sz:=by
  intro e he
  obtain⟨v,_,rfl⟩:=List.mem_map.1 he
  exact Ty.Ea _ _
theorem Sl.at_eq (l:Sl) {i:Nat} (h:i<l.xs.length):l.at i=l.es.getD i []:=by
  simp [Sl.at,Sl.es,List.getD_eq_getElem?_getD,h]
theorem Sl.AjB (l:Sl) (i:Nat):(l.at i).length=l.sz:=Ty.Ea _ _
theorem Sl.Jm {l:Sl} {t:Ty} {xs:List t.Val} (h:l.cast t=some xs):l=⟨t,xs⟩:=by
  unfold Sl.cast at h
  split at h
  ·rename_i e _
   obtain⟨s,ys⟩:=l
   dsimp only at e
   subst e
   injection h with h
   rw[← h]
  ·cases h
theorem Sl.VC (t:Ty) (xs:List t.Val):(⟨t,xs⟩:Sl).cast t=some xs:=by
  unfold Sl.cast
  split
  ·rfl
  ·rename_i h _;exact absurd rfl h
theorem Mp.Jm {l:Mp} {kt vt:Ty} {xs:List (kt.Val×vt.Val)} (h:l.cast kt vt=some xs):l=⟨kt,vt,xs⟩:=by
  unfold Mp.cast at h
  split at h
  ·rename_i e _
   obtain⟨k,v,ys⟩:=l
   dsimp only at e
   subst e
   split at h
   ·rename_i e' _
    dsimp only at e'
    subst e'
    injection h with h
    rw[← h]
   ·cases h
  ·cases h
theorem Mp.VC (kt vt:Ty) (xs:List (kt.Val×vt.Val)):(⟨kt,vt,xs⟩:Mp).cast kt vt=some xs:=by
  unfold Mp.cast
  split
  ·split
   ·rfl
   ·rename_i h _;exact absurd rfl h
  ·rename_i h _;exact absurd rfl h
theorem A.JL {j k:IntKind} (h:A.kEq j k=true):j=k:=by cases j<;>cases k<;>first | rfl | cases h
theorem Ty.Ob: ∀(t:Ty) (cs:List A),(t.mk cs).1=true→t.cells (t.mk cs).2=cs:=by
  intro t
  induction t with
  | nil =>
    intro cs h
    cases cs with
    | nil=>rfl
    | cons _ _=>simp [Ty.mk]at h
  | fn r ih =>
    intro cs h
    unfold Ty.mk at h ⊢
    split at h
    ·rename_i b cs
     simp only[Ty.cells,Ty.GK,Ty.Hf];rw[ih cs h]
    ·simp at h
  | mp kt vt r _ _ ih =>
    intro cs h
    unfold Ty.mk at h ⊢
    split at h
    ·rename_i l cs
     cases hc:l.cast kt vt with
     | none=>rw[hc]at h;simp at h
     | some xs =>
       rw[hc]at h
       dsimp only at h ⊢
       simp only[Ty.cells,Ty.GK,Ty.Hf]
       rw[ih cs h,Mp.Jm hc]
    ·simp at h
  | bool r ih =>
    intro cs h
    unfold Ty.mk at h ⊢
    split at h
    ·rename_i b cs
     simp only[Ty.cells,Ty.GK,Ty.Hf];rw[ih cs h]
    ·simp at h
  | int k r ih =>
    intro cs h
    unfold Ty.mk at h ⊢
    split at h
    ·rename_i b n cs
     simp only[Bool.and_eq_true]at h
     simp only[Ty.cells,Ty.GK,Ty.Hf];rw[ih cs h.2,A.JL h.1]
    ·simp at h
  | str r ih =>
    intro cs h
    unfold Ty.mk at h ⊢
    split at h
    ·rename_i b cs
     simp only[Ty.cells,Ty.GK,Ty.Hf];rw[ih cs h]
    ·simp at h
  | sl e t r _ ih =>
    intro cs h
    unfold Ty.mk at h ⊢
    split at h
    ·rename_i l cs
     cases hc:l.cast t with
     | none=>rw[hc]at h;simp at h
     | some xs =>
       rw[hc]at h
       dsimp only at h ⊢
       simp only[Ty.cells,Ty.GK,Ty.Hf]
       rw[ih cs h,Sl.Jm hc]
    ·simp at h
  | ptr r ih =>
    intro cs h
    unfold Ty.mk at h ⊢
    split at h
    ·rename_i cs
     show A.Dw::r.cells (r.mk cs).2=_
     rw[ih cs h]
    ·simp at h
theorem Ty.Aa0: ∀(ks:List CK),ks.all CK.plain=true→(tyl ks).cells (tyl ks).zero=ks.map CK.F6:=by
  intro ks
  induction ks with
  | nil=>intro _;rfl
  | cons k ks ih =>
    intro h
    simp only[List.all_cons,Bool.and_eq_true]at h
    have:=ih h.2
    cases k<;>first
      | (have:=h.1;cases this;done)
      | (simp only[tyl,Ty.zero,Ty.cells,Ty.GK,Ty.Hf,List.map_cons,CK.F6,CK.zero];rw[this])
theorem Me (ks:List CK):(tyl ks).len=ks.length:=by
  induction ks with
  | nil=>rfl
  | cons k ks ih=>cases k<;>simp [tyl,Ty.len,ih]
theorem Sl.AnC (l:Sl) {i off:Nat} {cs:List A} (hi:i<l.xs.length) (h:(l.set i off cs).1=true):(l.set i off cs).2.es=l.es.set i (splice (l.es.getD i []) off cs):=by
  have:=Ty.Ob _ _ h
  rw[← l.at_eq hi]
  simp only[Sl.set,Sl.es,List.map_set]
  rw[this]
theorem Sl.AjZ (t:Ty) (xs ys:List t.Val):(⟨t,xs++ys⟩:Sl).es=(⟨t,xs⟩:Sl).es++(⟨t,ys⟩:Sl).es:=by simp [Sl.es]
theorem Sl.Aka (l:Sl) (a b:Nat):(⟨l.t,AO l.xs a b⟩:Sl).es=AO l.es a b:=by simp [Sl.es,AO,List.map_take,List.map_drop]
theorem Sl.Ur (ks:List CK) (n:Nat) (h:ks.all CK.plain=true):(⟨tyl ks,List.replicate n (tyl ks).zero⟩:Sl).es=List.replicate n (ks.map CK.F6):=by
  simp [Sl.es,List.map_replicate,Ty.Aa0 ks h]
theorem Sl.Akb (t:Ty):(⟨t,[]⟩:Sl).es=[]:=rfl
