import Derived.Test.YtfgdgdnlglejbaaGreatDoorA4
import Derived.MapKept
import Derived.Carry
set_option linter.all false
namespace Go.Proofs.YtfgdgdnlglejbaaGreatDoor.Vm
open Classical MapKept
def Ty.oZ {α :Type} (r:Ty) (p:Ty.pr α r.Val r) (hu:r= .nil->True):r.mk2 (r.hd p) (r.tl p)=p:=by cases r<;>rfl
def Ty.same_eq: ∀(t:Ty) (a b:t.Val),t.same a b=true->a=b
 | .nil,_,_,_=>rfl
 | .bool r,a,b,h=>by simp only[Ty.same,Dw]at h;rw[<- Ty.oZ r a (fun _=>trivial),<- Ty.oZ r b (fun _=>trivial),Gj h.1,Ty.same_eq r _ _ h.2]
 | .int _ r,a,b,h=>by simp only[Ty.same,Dw]at h;rw[<- Ty.oZ r a (fun _=>trivial),<- Ty.oZ r b (fun _=>trivial),Gj h.1,Ty.same_eq r _ _ h.2]
 | .str r,a,b,h=>by simp only[Ty.same,Dw]at h;rw[<- Ty.oZ r a (fun _=>trivial),<- Ty.oZ r b (fun _=>trivial),Gj h.1,Ty.same_eq r _ _ h.2]
 | .sl _ _ _,_,_,h=>by cases h
 | .ptr _,_,_,h=>by cases h
 | .fn _,_,_,h=>by cases h
 | .mp _ _ _,_,_,h=>by cases h
def AlI:List A->List A->Bool
 | .str x::xs,.str y::ys=>(x==y)&&AlI xs ys
 | _,_=>true
def SI:Nat->Ty
 | 0=>.nil
 | n+1=>.str (SI n)
def Axt: ∀(n:Nat) (a b:(SI n).Val),(SI n).same a b=AlI ((SI n).cells a) ((SI n).cells b):=by
 intro n
 induction n with
 | zero=>intro a b;rfl
 | succ n ih=>intro a b;show((_==_)&&_)=((_==_)&&_);rw[ih]
def Azo (n:Nat):tyl (List.replicate n [CK.str]).flatten=SI n:=by
 induction n with
 | zero=>rfl
 | succ n ih=>simp only[List.replicate_succ,List.flatten_cons,List.singleton_append,tyl,SI,ih]
def oM: ∀(n:Nat) (a:(SI n).Val) (j:Nat),j<n-> ∃ s,((SI n).cells a).getD j .undef= .str s:=by
 intro n
 induction n with
 | zero=>intro a j h;omega
 | succ n ih =>
  intro a j h;cases j with
  | zero=>exact⟨_,rfl⟩
  | succ j=>exact ih _ j (by omega)
def fnd {β :Type} (t:Ty) (k:t.Val):List MapEntry->List (t.Val× β)->Nat->Option (Nat×Value)
 | e::es,p::l,i=>bif t.same k p.1 then some (i,e.val)else fnd t k es l (i+1)
 | _,_,_=>none
def Ajf {β :Type} {t:Ty} {k:t.Val}: ∀(es:List MapEntry) (l:List (t.Val× β)) (i:Nat),es.length=l.length ->
 (fnd t k es l i=none/\UR t k l=none/\(∀ x,kT t k x l=l++[(k,x)])/\zJ t k l=l) \/
 ∃ j e p,fnd t k es l i=some (i+j,e.val)/\es[j]? =some e/\l[j]? =some p/\p.1=k/\UR t k l=some p.2/\(∀ x,kT t k x l=l.set j (p.1,x))/\zJ t k l=l.eraseIdx j:=by
 intro es
 induction es with
 | nil =>
  intro l i h;cases l with
  | nil=>exact .inl ⟨rfl,rfl,fun _=>rfl,rfl⟩
  | cons _ _=>cases h
 | cons e es ih =>
  intro l i h;cases l with
  | nil=>cases h
  | cons p l =>
   cases hs:t.same k p.1 with
   | true =>refine .inr ⟨0,e,p,by simp [fnd,hs],rfl,rfl,(Ty.same_eq _ _ _ hs).symm,by simp [UR,hs],fun x=>by simp [kT,hs],by simp [zJ,hs]⟩
   | false =>
    rcases ih l (i+1) (by simpa using h)with ⟨h1,h2,h3,h4⟩ | ⟨j,e',p',h1,h2,h3,h4,h5,h6,h7⟩
    .exact .inl ⟨by simp [fnd,hs,h1],by simp [UR,hs,h2],fun x=>by simp [kT,hs,h3],by simp [zJ,hs,h4]⟩
    .exact .inr ⟨j+1,e',p',by simp only[fnd,hs,cond_false,h1];congr 2;omega,by simpa using h2,by simpa using h3,h4,by simp [UR,hs,h5],fun x=>by simp [kT,hs,h6],by simp [zJ,hs,h7]⟩
section
variable {P:Program} {C:Ctx} {V0:Nat->Value} {O0 O:Own} {w0 w:World} {m:Nat->Value} {st:St} {a:Act} {o:Oper}
structure AjP (P:Program) (O:Own) (w:World) (kt:TypeId) (t:Ty):Prop where
 check: ∀(e:Bool) (v:Value) (k:t.Val),Oe O w v (Qc (t.cells k))->(Instr.checkKey e 10000 kt v).run P w= .ok () w
 find: ∀ {β :Type} (v:Value) (k:t.Val) (es:List MapEntry) (l:List (t.Val× β)),Oe O w v (Qc (t.cells k))->es.length=l.length->(∀(i:Nat) e p,es[i]? =some e->l[i]? =some p->Oe O w e.key (Qc (t.cells p.1))) ->
  (Instr.findKey kt v es).run P w= .ok (fnd t k es l 0) w
 stays: ∀(v u:Value) (k:t.Val),Oe O w v (Qc (t.cells k))->Oe O w u (Qc (t.cells k))->(Instr.keyThatStays u v).run P w= .ok v w
def Aia {β :Type} {t:Ty} {k:t.Val} {d:TypeDesc} {v:Value}: ∀(es:List MapEntry) (l:List (t.Val× β)) (i:Nat),es.length=l.length->(∀(i:Nat) (e:MapEntry) (p:t.Val× β),es[i]? =some e->l[i]? =some p->Instr.sameNow d v e.key=some (t.same k p.1)) ->
 Instr.findNow d v es i=some (fnd t k es l i):=by
 intro es
 induction es with
 | nil=>intro l i h _;cases l<;>rfl
 | cons e es ih =>
  intro l i h hs;cases l with
  | nil=>cases h
  | cons p l =>
   have h0:=hs 0 e p rfl rfl;have h1:=ih l (i+1) (by simpa using h) (fun i e p he hp=>hs (i+1) e p (by simpa using he) (by simpa using hp));cases hb:t.same k p.1 with
   | true=>rw[hb]at h0;simp [Instr.findNow,h0,fnd,hb]
   | false=>rw[hb]at h0;simp [Instr.findNow,h0,fnd,hb,h1]
def AtF {β :Type} {t:Ty} {k:t.Val} {kt:TypeId} {v:Value}: ∀(es:List MapEntry) (l:List (t.Val× β)) (i:Nat),es.length=l.length->(∀(i:Nat) (e:MapEntry) (p:t.Val× β),es[i]? =some e->l[i]? =some p->(Op.equal kt v e.key).run P w= .ok (t.same k p.1) w) ->
 (Instr.findAsking kt v es i).run P w= .ok (fnd t k es l i) w:=by
 intro es
 induction es with
 | nil=>intro l i h _;cases l<;>first | rfl | cases h
 | cons e es ih =>
  intro l i h hs;cases l with
  | nil=>cases h
  | cons p l =>
   have h0:=hs 0 e p rfl rfl;have h1:=ih l (i+1) (by simpa using h) (fun i e p he hp=>hs (i+1) e p (by simpa using he) (by simpa using hp));cases hb:t.same k p.1 with
   | true=>rw[hb]at h0;simp [Instr.findAsking,h0,fnd,hb]
   | false=>rw[hb]at h0;simp [Instr.findAsking,h0,fnd,hb,h1]
def jU {a b:ByteArray} (h:a.data.toList=b.data.toList):a=b:=by obtain⟨⟨x⟩⟩:=a;obtain⟨⟨y⟩⟩:=b;have:x=y:=h;rw[this]
def AeB (a b:ByteArray):(a==b)=(a.data.toList==b.data.toList):=by rw[Bool.eq_iff_iff,bytes_beq,EG];exact⟨fun h=>by rw[h],jU⟩
def JA.str' {v:Value} {s:List UInt8} (h:JA O w v (.str s)): ∃ b:ByteArray,v= .string b/\b.data.toList=s:=by cases h;exact⟨_,rfl,rfl⟩
def JA.int' {v:Value} {k:IntKind} {n:Int} (h:JA O w v (.int k n)):v= .int k n:=by cases h;rfl
def AyW (k k':List UInt8):(Ty.str .nil).same k k'=(k==k'):=Gh _
def AyV (q:IntKind) (k k':Int):(Ty.int q .nil).same k k'=(k==k'):=Gh _
def As4 (q:IntKind) (a b:Int):Instr.sameNow (.int q) (.int q a) (.int q b)=some (a==b):=by simp [Instr.sameNow]
def AwD {kt:TypeId} (hu:P.underlying kt=some .string):AjP P O w kt (.str .nil) where
 check e v k h:=by obtain⟨b,rfl,_⟩:=JA.str' (show JA O w v (.str k)from h);exact run_checkKey hu (show IsKey .string (.string b)from trivial) e 9999
 find v k es l h hl hes:=by
  obtain⟨b,rfl,hb⟩:=JA.str' (show JA O w v (.str k)from h)
  have hn:Instr.findNow .string (.string b) es 0=some (fnd (.str .nil) k es l 0):=Aia es l 0 hl fun i e p he hp=>by
   obtain⟨b',h1,h2⟩:=JA.str' (show JA O w e.key (.str p.1)from hes i e p he hp);rw[h1];have e1:Instr.sameNow .string (.string b) (.string b')=some (b==b'):=by simp [Instr.sameNow]
   refine e1.trans (congrArg some (Gu ?_ (AyW k p.1).symm));rw[AeB,hb,h2]
  simp [Instr.findKey,DY hu,hn]
 stays v u k h h':=by
  obtain⟨b,rfl,hb⟩:=JA.str' (show JA O w v (.str k)from h);obtain⟨b',rfl,hb'⟩:=JA.str' (show JA O w u (.str k)from h');obtain rfl:b'=b:=jU (by rw[hb,hb']);have:(b'==b')=true:=by rw[AeB];simp
  simp [Instr.keyThatStays,Instr.sameBits,this]
def AwC {kt:TypeId} {q:IntKind} (hu:P.underlying kt=some (.int q)):AjP P O w kt (.int q .nil) where
 check e v k h:=by obtain rfl:=JA.int' (show JA O w v (.int q k)from h);exact run_checkKey hu (show IsKey (.int q) (.int q k)from rfl) e 9999
 find v k es l h hl hes:=by
  obtain rfl:=JA.int' (show JA O w v (.int q k)from h);have hn:Instr.findNow (.int q) (.int q k) es 0=some (fnd (.int q .nil) k es l 0):=Aia es l 0 hl fun i e p he hp=>by rw[JA.int' (show JA O w e.key (.int q p.1)from hes i e p he hp)];exact(As4 q k p.1).trans (congrArg some (AyV q k p.1).symm)
  simp [Instr.findKey,DY hu,hn]
 stays v u k h h':=by
  obtain rfl:=JA.int' (show JA O w v (.int q k)from h);obtain rfl:=JA.int' (show JA O w u (.int q k)from h');have:((k:Int)==(k:Int))=true:=by simp
  have:Instr.sameBits 10000 (.int q k) (.int q k)=true:=by
   have: ∀ n:Int,Instr.sameBits 10000 (.int q n) (.int q n)=true:=fun n=>by simp [Instr.sameBits]
   exact this k
  simp [Instr.keyThatStays,this]
def Ajv {cs:List A} (h:cs.length≠1):Qc cs= .agg cs:=by
 unfold Qc;split
 .simp at h
 .rfl
def AwB {e:TypeId} {d:Nat} (hue:P.underlying e=some .string) {xs ys:Array Value} {cs ds:List A} (hx: ∀ j,j<cs.length->JA O w (xs.getD j undef) (cs.getD j .undef)) (hxs:xs.size=cs.length)
 (hy: ∀ j,j<ds.length->JA O w (ys.getD j undef) (ds.getD j .undef)) (hys:ys.size=ds.length) (hl:cs.length=ds.length) (hc: ∀ j,j<cs.length-> ∃ s,cs.getD j .undef= .str s) (hd: ∀ j,j<ds.length-> ∃ s,ds.getD j .undef= .str s) :
 ∀(n i:Nat),i+n=cs.length->(Op.eqItems (d+1) e 1 xs ys (List.range' i n)).run P w= .ok (AlI (cs.drop i) (ds.drop i)) w:=by
 intro n
 induction n with
 | zero =>intro i hi;have:cs.drop i=[]:=GI (by omega);rw[this];rfl
 | succ n ih =>
  intro i hi;have hi':i<cs.length:=by omega
  obtain⟨s,hs⟩:=hc i hi';obtain⟨s',hs'⟩:=hd i (by omega);have hx1:=hx i hi';have hy1:=hy i (by omega);rw[hs]at hx1;rw[hs']at hy1;obtain⟨b,hb1,hb2⟩:=hx1.str';obtain⟨b',hb1',hb2'⟩:=hy1.str'
  have ex:xs[i]? =some (.string b):=by
   have:i<xs.size:=by omega
   rw[DC this,<- hb1,Dq,DC this];rfl
  have ey:ys[i]? =some (.string b'):=by
   have:i<ys.size:=by omega
   rw[DC this,<- hb1',Dq,DC this];rfl
  have hpk:P.plainKey e=true:=by simp [Program.plainKey,hue]
  have p1:=run_part_plain w hpk (off:=i*1) (by rw[EZ];exact ex);have p2:=run_part_plain w hpk (off:=i*1) (by rw[EZ];exact ey);have p3:=run_equalIn_string (P:=P) w d e b b' hue;have ec:cs.drop i= .str s::cs.drop (i+1):=by rw[EI hi',<- hs,Dn,D9 hi'];rfl
  have ed:ds.drop i= .str s'::ds.drop (i+1):=by rw[EI (by omega),<- hs',Dn,D9 (by omega)];rfl
  rw[List.range'_succ,ec,ed];have ih':=ih (i+1) (by omega);simp only[Op.eqItems,DI,p1,p2,p3,Result.andThen_ok];rw[yA,yA,hb2,hb2'];cases hbb:(s==s')with
  | false=>simp [AlI,hbb]
  | true=>simp [AlI,hbb,ih']
def Amm {e:TypeId} {em:Bool} {d:Nat} (hue:P.underlying e=some .string) (hsz:(sizeOf e).run P w= .ok 1 w) {xs:Array Value} {n:Nat} (hx: ∀ j,j<n-> ∃ b,xs[j]? =some (.string b)) :
 ∀(is:List Nat),(∀ i∈is,i<n)->(forIn is PUnit.unit fun i _=>do Instr.checkKey em (d+1) e (<- part e xs (i*(<- sizeOf e)));pure (ForInStep.yield PUnit.unit)).run P w= .ok PUnit.unit w:=by
 intro is
 induction is with
 | nil=>intro _;simp
 | cons j is ih =>
  intro h;obtain⟨b,hb⟩:=hx j (h j (by simp));have hpk:P.plainKey e=true:=by simp [Program.plainKey,hue]
  have p1:=run_part_plain w hpk (off:=j*1) (by rw[EZ];exact hb);have p2:=run_checkKey (P:=P) (w:=w) hue (k:=.string b) trivial em d;simp only[List.forIn_cons,DI,hsz,Result.andThen_ok,p1,p2,Sem.run_pure];exact ih (fun i hi=>h i (by simp [hi]))
def Oe.agg' {v:Value} {cs:List A} (h:Oe O w v (.agg cs)): ∃ vs:Array Value,v= .agg vs/\vs.size=cs.length/\ ∀ j,j<cs.length->JA O w (vs.getD j undef) (cs.getD j .undef):=h
def AuF {kt e:TypeId} {n:Nat} {ie:TypeInfo} (hu:P.underlying kt=some (.array n e)) (hue:P.underlying e=some .string) (hie:P.info? e=some ie) (his:ie.size=1) (hn:1<n):AjP P O w kt (SI n):=by
 have hlen: ∀ k:(SI n).Val,((SI n).cells k).length=n:=fun k=>by
  rw[Ty.Og];have: ∀ n,(SI n).len=n:=by intro n;induction n with | zero=>rfl | succ n ih=>simp [SI,Ty.len,ih]
  exact this n
 have hag: ∀ k:(SI n).Val,Qc ((SI n).cells k)= .agg ((SI n).cells k):=fun k=>Ajv (by rw[hlen];omega);have hce:P.cellsOf e=1:=by simp [Program.cellsOf,hie,his]
 have hsz:(sizeOf e).run P w= .ok 1 w:=by simp [sizeOf,typeInfo,hie,his]
 have hstr: ∀ {vs:Array Value} {k:(SI n).Val},vs.size=n->(∀ j,j<n->JA O w (vs.getD j undef) (((SI n).cells k).getD j .undef))-> ∀ j,j<n-> ∃ b,vs[j]? =some (.string b):=by
  intro vs k hs h j hj;obtain⟨s,hs'⟩:=oM n k j hj;have h1:=h j hj;rw[hs']at h1;obtain⟨b,hb,_⟩:=h1.str';have hj':j<vs.size:=by omega
  exact⟨b,by rw[DC hj',<- hb,Dq,DC hj'];rfl⟩
 refine⟨fun em v k h=> ?_,fun v k es l h hl hes=> ?_,fun v u k h h'=> ?_⟩
 .rw[hag]at h;obtain⟨vs,rfl,h1,h2⟩:=h.agg';rw[hlen]at h1 h2;rw[show(10000:Nat)=9998+1+1 from rfl,Instr.checkKey];simp only[DI,DY hu,Result.andThen_ok];simp only[Std.Legacy.Range.forIn_eq_forIn_range',Std.Legacy.Range.size,Nat.sub_zero,Nat.add_one_sub_one,Nat.div_one];rw[Amm (em:=em) (d:=9998) hue hsz (hstr h1 h2) (List.range' 0 n) (fun i hi=>by simpa using hi)];rfl
 .rw[hag]at h;obtain⟨vs,rfl,h1,h2⟩:=h.agg';rw[hlen]at h1 h2;have eqs: ∀(i:Nat) (e':MapEntry) p,es[i]? =some e'->l[i]? =some p->(Op.equal kt (.agg vs) e'.key).run P w= .ok ((SI n).same k p.1) w:=by intro i e' p he hp;have h3:=hes i e' p he hp;rw[hag]at h3;obtain⟨us,h4,h5,h6⟩:=h3.agg';rw[hlen]at h5 h6;rw[h4];show(Op.equalIn 10000 kt _ _).run P w=_;rw[show(10000:Nat)=9999+1 from rfl,run_equalIn_array w 9999 vs us hu hie,hce,Ij,Axt];have:=AwB (P:=P) (O:=O) (w:=w) (d:=9998) hue (xs:=vs) (ys:=us) (cs:=(SI n).cells k) (ds:=(SI n).cells p.1) (by rw[hlen];exact h2) (by rw[hlen];exact h1) (by rw[hlen];exact h6) (by rw[hlen];exact h5) (by rw[hlen,hlen]) (by rw[hlen];exact oM n k) (by rw[hlen];exact oM n p.1) n 0 (by rw[hlen];omega);simpa using this
  have hnow: ∀(es:List MapEntry) (i:Nat),Instr.findNow (.array n e) (.agg vs) es i=if es=[]then some none else none:=by
   intro es i;cases es with
   | nil=>rfl
   | cons e' es=>simp [Instr.findNow,Instr.sameNow]
  simp only[Instr.findKey,DI,DY hu,Result.andThen_ok,hnow];cases es with
  | nil=>cases l<;>first | simp [fnd] | cases hl
  | cons e' es =>rw[Du (by simp)];exact AtF _ l 0 hl eqs
 .rw[hag]at h h';obtain⟨vs,rfl,h1,h2⟩:=h.agg';obtain⟨us,rfl,h3,h4⟩:=h'.agg';have e:us=vs:=by rw[hlen]at h1 h2 h3 h4;apply Fp (by omega);intro j hj1 hj2;obtain⟨s,hs⟩:=oM n k j (by omega);have a1:=h2 j (by omega);have a2:=h4 j (by omega);rw[hs]at a1 a2;obtain⟨b1,e1,f1⟩:=a1.str';obtain⟨b2,e2,f2⟩:=a2.str';rw[Dq,DC hj2]at e1;rw[Dq,DC hj1]at e2;have e1:vs[j]=_:=e1;have e2:us[j]=_:=e2;rw[e1,e2,jU (f1.trans f2.symm)]
  subst e
  have hsb:Instr.sameBits 10000 (.agg us) (.agg us)=true:=by
   show((us.size==us.size)&&(us.toList.zip us.toList).all _)=true;rw[Dw];refine⟨by simp,D7.2 fun p hp=> ?_⟩;obtain⟨i,hi⟩:=List.mem_iff_getElem?.1 hp;rw[Gv]at hi;rw[hlen]at h1 h2;have hi1:i<us.size:=by have:=(FX.1 hi.1).1;simpa using this
   obtain⟨b,hb⟩:=hstr h1 h2 i (by omega);have q1:p.1= .string b:=by have:=hi.1;rw[Eb,hb]at this;injection this with this;exact this.symm
   have q2:p.2= .string b:=by have:=hi.2;rw[Eb,hb]at this;injection this with this;exact this.symm
   obtain⟨p1,p2⟩:=p;dsimp only at q1 q2;subst q1;subst q2;show(b==b)=true;rw[AeB];simp
  simp [Instr.keyThatStays,hsb]
def Ayx (hC:TOk P C) {t:Nat} {ta:TI} (ht:C.T t=some ta) (h:AuG C ta=true):AjP P O w t (tyl ta.cs):=by
 have hT:=hC.is ht;have hu:=hT.d;have hck:=hT.ck;unfold AuG at h;split at h
 .rename_i hd;rw[hd]at hu;have:ta.cs=[.str]:=by simp [OU,hu]at hck;exact hck.symm
  rw[this];exact AwD hu
 .rename_i q hd;rw[hd]at hu;have:ta.cs=[.int q]:=by simp [OU,hu]at hck;exact hck.symm
  rw[this];exact AwC hu
 .rename_i n e hd;rw[hd]at hu;split at h
  .rename_i te hte;simp only[Dw,EF]at h;have hTe:=hC.is hte;have hde:=AfB h.1;have hue:=hTe.d;rw[hde]at hue;have hcse:te.cs=[.str]:=by have:=hTe.ck;simp [OU,hue]at this;exact this.symm
   have hcs:ta.cs=(List.replicate n [CK.str]).flatten:=by
    rw[show(20:Nat)=18+1+1 from rfl]at hck;unfold OU at hck;simp only[hu]at hck;have he:OU P (18+1) e=some [.str]:=by simp [OU,hue]
    rw[he]at hck;dsimp only at hck;cases hb:Nat.ble (n* [CK.str].length) 4096 with
    | false=>rw[hb]at hck;cases hck
    | true=>rw[hb]at hck;injection hck with hck;exact hck.symm
   rw[hcs,Azo];obtain⟨i,z,h1,h2,_⟩:=hTe.i;exact AuF hu hue h1 (by rw[h2,hcse];rfl) h.2
  .cases h
 .cases h
end
def Aw9:A->Bool
 | .bool _ | .int _ _ | .str _ | .sl _ | .MO | .fn _ | .ump _=>true
 | _=>false
def Ty.Td: ∀(t:Ty) (v:t.Val),∀ c∈t.cells v,Aw9 c=true
 | .nil,_,c,h=>by cases h
 | .bool r,v,c,h=>by
  rcases D8.1 h with rfl | h
  .rfl
  .exact Ty.Td r _ c h
 | .int _ r,v,c,h=>by
  rcases D8.1 h with rfl | h
  .rfl
  .exact Ty.Td r _ c h
 | .str r,v,c,h=>by
  rcases D8.1 h with rfl | h
  .rfl
  .exact Ty.Td r _ c h
 | .sl _ _ r,v,c,h=>by
  rcases D8.1 h with rfl | h
  .rfl
  .exact Ty.Td r _ c h
 | .ptr r,v,c,h=>by
  rcases D8.1 h with rfl | h
  .rfl
  .exact Ty.Td r v c h
 | .fn r,v,c,h=>by
  rcases D8.1 h with rfl | h
  .rfl
  .exact Ty.Td r _ c h
 | .mp _ _ r,v,c,h=>by
  rcases D8.1 h with rfl | h
  .rfl
  .exact Ty.Td r _ c h
section
variable {P:Program} {C:Ctx} {V0:Nat->Value} {O0 O:Own} {w0 w:World} {m:Nat->Value} {st:St} {a:Act} {o:Oper}
def JP.data {Ju:List (Nat×Obj)} {v:Value} {c:A} (h:JP O Ju m w v c) (hd:Aw9 c=true):JA O w v c:=by cases c<;>first | exact h | exact h.elim | cases hd
def Oe.toT {Ju:List (Nat×Obj)} {v:Value} {x:A} (h:Oe O w v x):JH O Ju m w v x/\T1 O Ju m w v x:=by
 have cell: ∀ {v:Value} {x:A},JA O w v x->JP O Ju m w v x:=fun h=>by cases h<;>first | exact .bool _ | exact .int _ _ | exact .str _ | exact .nil _ | exact .MO | exact .fn _ | exact .wZ | exact JA.sl0 _ _ | (rename_i vs a1 a2 a3;exact JA.sl vs a1 a2 a3) | (rename_i h hn;exact JA.sln h hn)
 cases x with
 | agg cs=>grind[Obj,Oe,JH,T1]
 | undef=>cases h
 | LJ=>cases h
 | usl _ _ _=>cases h
 | ump _=>cases h
 | ptr _ _=>cases h
 | own _=>cases h
 | elt _=>cases h
 | Kr _ _ _=>cases h
 | tup _=>cases h
 | box _=>cases h
 | cbx _ _=>cases h
 | clo _ _=>cases h
 | bsl _ _=>cases h
 | osl _ _=>cases h
 | cnd _ _=>cases h
 | bool _=>exact⟨cell h,cell h⟩
 | int _ _=>exact⟨cell h,cell h⟩
 | str _=>exact⟨cell h,cell h⟩
 | sl _=>exact⟨cell h,cell h⟩
 | sln _=>exact⟨cell h,cell h⟩
 | MO=>exact⟨cell h,cell h⟩
 | fn _=>exact⟨cell h,cell h⟩
def Ayw {xs:List A} (h:Au9 (.agg xs)=true):xs.length≠1:=by intro h1;obtain⟨c,rfl⟩:=F7.1 h1;cases h
def Ata {O':Own} {Ju:List (Nat×Obj)} {v:Value} {x:A} {cs:List A} (ho:Au9 x=true) (hv:x.isVal=true) (hx:JH O Ju m w v x) (hl:cs.length=x.cells.length)
 (hrel: ∀ j,j<cs.length->JA O' w (v.cells.getD j undef) (cs.getD j .undef)):Oe O' w v (Qc cs):=by
 have one:JP O Ju m w v x->x.cells=[x]->Oe O' w v (Qc cs):=by intro hc he;rw[he]at hl;obtain⟨c,rfl⟩:=F7.1 hl;have h0:=hrel 0 (by simp);rw[oneCell_cells hc.one]at h0;have h0:JA O' w v c:=h0;show Oe O' w v c;cases c<;>first | exact h0 | cases h0
 cases x with
 | agg xs =>obtain⟨vs,rfl,h2,h3⟩:=hx;have hl:cs.length=xs.length:=hl;rw[Ajv (by rw[hl];exact Ayw ho)];exact⟨vs,rfl,by rw[h2,hl],hrel⟩
 | undef=>cases hv
 | tup _=>cases hv
 | usl _ _ _=>cases hv
 | ump _=>cases hv
 | box _=>cases hv
 | cbx _ _=>cases hv
 | cnd _ _=>cases hv
 | _=>exact one hx rfl
def Xv {r:Nat} {es:Array MapEntry} {ck:Nat} (hb:w.heap[r]? =some (.map es ck)):(getObj r).run P w= .ok (.map es ck) w:=by simp [getObj,Sem.run,hb]
def oJ {r:Nat} {es:Array MapEntry} {ck:Nat} (x:Go.Obj) (hb:w.heap[r]? =some (.map es ck)):(setObj r x).run P w= .ok () {w with heap:=w.heap.setIfInBounds r x}:=by simp [setObj,Sem.run,hb]
def Ac1 {t:Nat} {k:TI->TI->Dl} (hok:JD (mapOf C t k).ok): ∃ ti kt et ta tb,C.T t=some ti/\ti.d= .map kt et/\C.T kt=some ta/\C.T et=some tb/\mapOf C t k=k ta tb:=by
 unfold mapOf at hok ⊢;obtain⟨ti,ht,he⟩:=KC hok;rw[he]at hok ⊢;split at hok
 .rename_i kt et hd;obtain⟨ta,hta,he⟩:=KC hok;rw[he]at hok;obtain⟨tb,htb,he'⟩:=KC hok;exact⟨ti,kt,et,ta,tb,ht,hd,hta,htb,he.trans he'⟩
 .exact(JQ hok).elim
def Aq6 {Ju:List (Nat×Obj)} (hC:TOk P C) {kt:Nat} {ta tb:TI} (hta:C.T kt=some ta) {l:Mp} {i:A} {v:Value} (hi:JH O Ju m w v i) (hok:JD (Apw C ta tb l i)) :
 AjP P O w kt l.kt/\Oe O w v (Qc (l.kt.cells (l.kt.mk i.cells).2))/\Ap6 tb=true/\l.vt=tyl tb.cs:=by
 obtain⟨h1,hok⟩:=hok.cons;obtain⟨h2,hok⟩:=hok.cons;obtain⟨h3,hok⟩:=hok.cons;obtain⟨h4,hok⟩:=hok.cons;obtain⟨h5,hok⟩:=hok.cons;obtain⟨h6,hok⟩:=hok.cons;have h7:=hok.cons.1;have h3:=D6 h3;have hc:=Ty.UT _ _ h7;refine⟨by rw[h3];exact Ayx hC hta h1,?_,h2,D6 h4⟩;obtain⟨g1,g2⟩:=hi.cells h5;refine Ata (Ju:=Ju) h6 h5 hi (by rw[hc]) (fun j hj=> ?_);have hd:=Ty.Td _ _ _ (EU hj);have e:(l.kt.cells (l.kt.mk i.cells).2).getD j .undef=(l.kt.cells (l.kt.mk i.cells).2)[j]:=by rw[Dn,D9 hj];rfl
 rw[<- e]at hd;rw[hc]at hd hj ⊢;exact(g2 j hj).data hd
def Ax8 {t:Nat} {tb:TI} (hT:XM P t tb) (hone:Ap6 tb=true) (hp:tb.cs.all CK.plain=true): ∃ z,(zeroValue t).run P w= .ok z w/\Oe O w z (Qc ((tyl tb.cs).cells (tyl tb.cs).zero)):=by
 obtain⟨i,z,h1,h2,h3,h4,h5,h6⟩:=hT.i;refine⟨z,by simp [zeroValue,typeInfo,h1,h4],?_⟩;rw[Ty.AlW _ hp];have hv:=lS (O:=O) (w:=w) _ _ h5 hp;have hl:=(Uu (O:=O) (Ju:=[]) (m:=fun _=>undef) (w:=w) _ _ h5).1;have hone:tb.agg= !(Nat.beq tb.cs.length 1):=by simpa [Ap6]using hone
 rw[AjS,h6,XV]at hone;cases z with
 | agg vs =>
  have hne:tb.cs.length≠1:=by simpa [rE]using hone
  rw[Ajv (by simpa using hne)];refine⟨vs,rfl,?_,fun j hj=> ?_⟩
  .have:vs.toList.length=tb.cs.length:=hl;rw[Array.length_toList]at this;simpa using this
  .have:=hv j (by simpa using hj);have e:(Value.agg vs).cells.toList.getD j undef=vs.getD j undef:=by show vs.toList.getD j undef=_;rw[Dq,Dn,Eb]
   rw[e]at this;exact this
 | _ =>
  have he:tb.cs.length=1:=by simpa [rE]using hone
  obtain⟨c,hc⟩:=F7.1 he;rw[hc]at hv ⊢;have:=hv 0 (by simp);have this:JA O w _ c.Pv:=this;show Oe O w _ c.Pv;cases hcz:c.Pv<;>rw[hcz]at this<;>first | exact this | cases this
def Asj {t:Nat} {x i:Operand} {c:Bool} {Ju:List (Nat×Obj)} {fet:Fet} (hC:TOk P C) (hF:FOk O Ju m w fet) (ho:o.op= .lookup t x i c) {x' i':A} (hx:JH O Ju m w (a.eval x) x') (hi:JH O Ju m w (a.eval i) i')
 (hok:JD (Ahb C fet t c x' i').ok):Pure P O Ju m a w o (Ahb C fet t c x' i'):=by
 unfold Ahb at hok ⊢;obtain⟨ti,kt,et,ta,tb,ht,hd,hta,htb,he⟩:=Ac1 hok;rw[he]at hok ⊢;clear he;obtain⟨p,hp,he⟩:=JV hok;rw[he]at hok ⊢;clear he;obtain⟨hok1,hok2⟩:=hok.append;have hpl:=hok2.cons.1;obtain⟨_,hv,hM⟩:=Ap2 hF hx hp;obtain⟨hK,hk,hone,hvt⟩:=Aq6 hC hta hi hok1;obtain⟨r,es,ck,h1,h2,h3,h4,h5⟩:=hM.lists;have hu:=(hC.is ht).d;rw[hd]at hu;have hfind:=hK.find (a.eval i) _ es.toList p.2.l hk h4 (fun i e p he hp=>(h5 i e p he hp).1);have hchk:=hK.check es.isEmpty (a.eval i) _ hk;obtain⟨z,hz1,hz2⟩:=Ax8 (O:=O) (w:=w) (hC.is htb) hone hpl;rw[<- hvt]at hz2
 have key: ∃ u,(Instr.lookup t (a.eval x) (a.eval i) c).run P w= .ok (if c then .tuple #[u,.bool (UR p.2.kt (p.2.kt.mk i'.cells).2 p.2.l).isSome]else u) w /\
  Oe O w u (Qc (p.2.vt.cells ((UR p.2.kt (p.2.kt.mk i'.cells).2 p.2.l).getD p.2.vt.zero))):=by
  rw[hv,h1];rcases Ajf (k:=(p.2.kt.mk i'.cells).2) es.toList p.2.l 0 h4 with ⟨f1,f2,_,_⟩ | ⟨j,e,q,f1,f2,f3,f4,f5,_,_⟩
  .refine⟨z,?_,by rw[f2];exact hz2⟩;simp [Instr.lookup,DY hu,Xv h2,hchk,hfind,f1,hz1,f2,Result.andThen]
  .refine⟨e.val,?_,by rw[f5];exact(h5 j e q f2 f3).2⟩;simp [Instr.lookup,DY hu,Xv h2,hchk,hfind,f1,f5,Result.andThen]
 obtain⟨u,hrun,hu2⟩:=key;refine⟨⟨if c then .tuple #[u,.bool (UR p.2.kt (p.2.kt.mk i'.cells).2 p.2.l).isSome]else u,?_,?_⟩,rfl,rfl,rfl⟩
 .simp only[execOp,ho,DI,hrun,Result.andThen_ok,Sem.run_pure]
 .show JH O Ju m w _ (AmK _ _ _);unfold AmK;cases c with
  | false=>exact hu2.toT.1
  | true =>
   refine⟨#[u,.bool (UR p.2.kt (p.2.kt.mk i'.cells).2 p.2.l).isSome],rfl,rfl,fun j hj=> ?_⟩;have hj:j<2:=hj;rcases(show j=0\/j=1 by omega)with rfl | rfl
   .exact hu2.toT.2
   .exact JA.bool _
def Aw4 {r:Nat} {x y:Go.Obj} (hb:w.heap[r]? =some x):(w.heap.setIfInBounds r y)[r]? =some y/\ ∀ b,b≠r->(w.heap.setIfInBounds r y)[b]? =w.heap[b]? :=by grind
def AcZ (hS:Sim V0 O0 w0 O m st a w) {q r ck ck':Nat} {es es':Array MapEntry} {l l':Mp} (hq:J9 st.Ju q=some (.mp l)) (hm:m q= .map (some r)) (hb:w.heap[r]? =some (.map es ck)) (hO:O r 0=some q) (hs:es'.size=l'.l.length)
 (hes: ∀(i:Nat) (p:l'.kt.Val×l'.vt.Val),l'.l[i]? =some p-> ∃ e,es'[i]? =some e/\Oe O w e.key (Qc (l'.kt.cells p.1))/\Oe O w e.val (Qc (l'.vt.cells p.2))) {d:Option Tmp} {v:Value} {x:A} (hx:d≠none-> ∀ O' objs' m' w',JH O' objs' m' w' v x) :
 Sim V0 O0 w0 O m {tmps:=put st.tmps d x,Ju:=Md st.Ju q (.mp l')} (a.put d v) {w with heap:=w.heap.setIfInBounds r (.map es' ck')}:=by
 obtain⟨hb1,hb2⟩:=Aw4 (y:=.map es' ck') hb;have hM:Moves O (fun i=>i=q) w {w with heap:=w.heap.setIfInBounds r (.map es' ck')}:=Moves.map rfl rfl rfl (by simp) hb hb1 hb2 hO rfl;have hP:Passes O O (fun i=>i=q) w.heap.size:=⟨fun _ _ _ h=>h,fun _ _ _ _ h _=>h⟩
 have hpr:=hM.Ko hP
 have hE:SB st.Ju m (Md st.Ju q (.mp l')) m (fun _=>False):=by
  intro i y hy;rw[KE]at hy;by_cases hi:i=q
  .rw[Dt hi]at hy;injection hy with hy;subst hy;subst hi;exact .inr ⟨_,hq,rfl,rfl⟩
  .rw[Du hi]at hy;exact .inr ⟨y,hy,rfl,rfl⟩
 refine hS.next (st':= {tmps:=put st.tmps d x,Ju:=Md st.Ju q (.mp l')}) (T:=fun i=>i=q) (Nw:=fun _=>False) hM hP (fun b k _ h=>h) hE (fun _ h=>h.elim) (fun r' hr=>by rw[hr,hq];rfl) (fun i y hy=> ?_) rfl (fun h=>hx h _ _ _ _);rw[KE]at hy;by_cases hi:i=q
 .right;rw[Dt hi]at hy;injection hy with hy;subst hy;subst hi;refine⟨(⟨r,es',ck',hm,hb1,hO,hs,fun j p hp=> ?_⟩:PX O _ i (m i) l'),hS.ids i _ hq⟩;obtain⟨e,k1,k2,k3⟩:=hes j p hp;exact⟨e,k1,k2.Ko hpr,k3.Ko hpr⟩
 .left;rw[Du hi]at hy;exact⟨hi,hy,rfl⟩
def AqD {t:Nat} {r:Option Operand} {xs:List A} (hC:TOk P C) (hS:Sim V0 O0 w0 O m st a w) {d:Nat} (hd:o.dst=some d) (ho:o.op= .makeMap t r) (hr:xs.length=r.toArray.size) (hok:JD (YK C d t xs).ok) (hfr: ∀ p∈(YK C d t xs).new,st.fresh p.1=true) :
 Good P V0 O0 w0 (apply st o (YK C d t xs)) o a w:=by
 intro next Q hn
 unfold YK at *
 obtain⟨ti,kt,et,ta,tb,ht,hd',hta,htb,he⟩:=Ac1 hok;rw[he]at hok hfr hn;clear he;have hx:xs=[]:=by simpa using hok.cons.1
 subst hx;have hr0:r=none:=by cases r with | none=>rfl | some _=>simp at hr
 subst hr0;have hfresh:=NC (hfr _ Dy);have hrun:(execOp a.eval o).run P w= .ok (.value (.map (some w.heap.size))) (w.alloc (.map #[] 0)):=by have:(Instr.makeMap t none).run P w= .ok (.map (some w.heap.size)) (w.alloc (.map #[] 0)):=rfl;simp only[execOp,ho,Option.map_none,DI,this,Result.andThen_ok,Sem.run_pure]
 unfold Oper.wp;rw[hrun,Oper.upon_value,hd];let id:=b2 d;let O':Own:=fun b k=>if b=w.heap.size then some id else O b k;let m':Nat->Value:=fun i=>if i=id then .map (some w.heap.size)else m i;have hlt: ∀ {b k},b<w.heap.size->O' b k=O b k:=fun hb=>Du (GR hb);have hM:Moves O (fun _=>False) w (w.alloc (.map #[] 0)):=Moves.push _;have hP:Passes O O' (fun _=>False) w.heap.size:=⟨fun b k hb h=>by rw[hlt hb];exact h,fun b k q hb h _=>by rw[hlt hb];exact h⟩
 let ob:Vm.Obj:=.mp ⟨tyl ta.cs,tyl tb.cs,[]⟩;have hget: ∀ i y,J9 (Md st.Ju id ob) i=some y->(i=id/\y=ob)\/(i≠id/\J9 st.Ju i=some y):=by all_goals grind[KE]
 have hE:SB st.Ju m (Md st.Ju id ob) m' (fun i=>i=id):=by
  intro i y hy;rcases hget i y hy with ⟨h1,_⟩ | ⟨h1,h2⟩
  .exact .inl h1
  .exact .inr ⟨y,h2,rfl,Du h1⟩
 refine hn O' m' _ _ ?_;have happ: ∀ ok,apply st o {ok:=ok,val:=.own (b2 d),new:=[(b2 d,ob)]}= {tmps:=put st.tmps (some d) (.own id),Ju:=Md st.Ju id ob}:=by intro ok;unfold apply;rw[hd];rfl
 rw[happ];refine hS.next (st':= {tmps:=put st.tmps (some d) (.own id),Ju:=Md st.Ju id ob}) (x:=.own id) (T:=fun _=>False) (Nw:=fun i=>i=id) hM hP (fun b k hb h=>by rw[hlt hb]at h;exact h) hE (fun n hn=>by rw[hn];exact hfresh.both) (fun _ h=>h.elim) (fun i y hy=> ?_) rfl (fun _=> ?_)
 .rcases hget i y hy with ⟨h1,h2⟩ | ⟨h1,h2⟩
  .right;subst h1;subst h2;refine⟨(⟨w.heap.size,#[],0,Dt rfl,Ack _ _,Dt rfl,rfl,fun i p hp=>by cases hp⟩:PX O' _ id (m' id) _),hfresh.ne⟩
  .exact .inl ⟨fun h=>h,h2,Du h1⟩
 .refine⟨rfl,?_⟩;all_goals grind[J9,Md,Obj.shp,KE]
def Ay8 {α :Type} {l:List α} {j:Nat} {x: α} {i:Nat} {p: α} (h:(l.set j x)[i]? =some p):(i=j/\p=x/\j<l.length)\/(i≠j/\l[i]? =some p):=by grind[split]
def Ai8 {t:Nat} {x i y:Operand} (hC:TOk P C) (hS:Sim V0 O0 w0 O m st a w) (hd:o.dst=none) (ho:o.op= .mapUpdate t x i y\/o.op= .insert t x i y) {fet:Fet} (hf:PG st.Ju fet) {x' i' y':A} (hx:JH O st.Ju m w (a.eval x) x') (hi:JH O st.Ju m w (a.eval i) i') (hy:JH O st.Ju m w (a.eval y) y')
 (hok:JD (Ab8 C fet t x' i' y').ok):Good P V0 O0 w0 (apply st o (Ab8 C fet t x' i' y')) o a w:=by
 intro next Q hn
 have hF:FOk O st.Ju m w fet:=fun q x h=>⟨hf q x h,hS.Ju q x (hf q x h)⟩
 unfold Ab8 at *
 obtain⟨ti,kt,et,ta,tb,ht,hd',hta,htb,he⟩:=Ac1 hok;rw[he]at hok hn;clear he;obtain⟨p,hp,he⟩:=JV hok;rw[he]at hok hn;clear he;obtain⟨hokA,hokB⟩:=hok.append;have hmk:=hokB.cons.1;obtain⟨hokA,hokP⟩:=hokA.append;obtain⟨hok1,hokV⟩:=hokA.append;obtain⟨hv1,hokV⟩:=hokV.cons;have hv2:=hokV.cons.1;obtain⟨hq,hv,hM⟩:=Ap2 hF hx hp;obtain⟨hK,hk,hone,hvt⟩:=Aq6 hC hta hi hok1;obtain⟨hyc1,hyc2⟩:=hy.cells hv1;obtain⟨g1,g2,g3,g4⟩:=WT (O:=O) (m:=m) (w:=w) hf tb.cs y'.cells (fun j=>(a.eval y).cells.getD j undef) hyc2 hokP;generalize hpu:KO fet tb.cs y'.cells=pu at *
 obtain⟨O1,hS1,hp1,hle1,hv1',hE1,hk1⟩:=hS.freezes _ g3;have hNR:NR st.Ju p.1:=.of hq (fun _ _ _ h=>by cases h)
 have hq1:J9 (JI st.Ju pu.2.2) p.1=some (.mp p.2):=by
  rw[Na _ _ _ (fun z hz e=> ?_)]
  .exact hq
  .obtain⟨e',f',l',h1,_⟩:=g3 z hz;rw[e]at h1;exact hNR _ _ _ h1
 obtain⟨r,es,ck,h1,h2,h3,h4,h5⟩:=(show PX O1 w p.1 (m p.1) p.2 from hS1.Ju p.1 _ hq1).lists;have hu:=(hC.is ht).d;rw[hd']at hu;have hM0:=hM.lists;obtain⟨r0,es0,ck0,k1,k2,k3,k4,k5⟩:=hM0;rw[h1]at k1;injection k1 with k1;injection k1 with k1;subst k1;rw[h2]at k2;injection k2 with k2;injection k2 with k2 k2';subst k2;subst k2';have hfind:=hK.find (a.eval i) _ es.toList p.2.l hk k4 (fun i e p he hp=>(k5 i e p he hp).1);have hchk:=hK.check false (a.eval i) _ hk;have hk':Oe O1 w (a.eval i) (Qc (p.2.kt.cells (p.2.kt.mk i'.cells).2)):=hk.Ko hp1;have hcells:=Ty.UT _ _ hmk;have hval:Oe O1 w (a.eval y) (Qc (p.2.vt.cells (p.2.vt.mk pu.2.1).2)):=by rw[hcells];refine Ata (Ju:=st.Ju) hv2 hv1 hy (by rw[g1,g2]) (fun j hj=>g4 hp1 hv1' j (by rw[<- g1];exact hj))
 have happ: ∀ ok l',apply st o {ok:=ok,val:=.undef,upd:=pu.2.2++[(p.1,.mp l')]}= {tmps:=put st.tmps none .undef,Ju:=Md (JI st.Ju pu.2.2) p.1 (.mp l')}:=by
  intro ok l';unfold apply;rw[hd]
  have: ∀(u:List (Nat×Vm.Obj)) (l:List (Nat×Vm.Obj)) n z,JI l (u++[(n,z)])=Md (JI l u) n z:=by
   intro u
   induction u with
   | nil=>intro l n z;rfl
   | cons q u ih=>intro l n z;exact ih _ _ _
  show St.mk _ (JI (Ky (JI st.Ju (pu.2.2++[(p.1,.mp l')])) []) [])=_;rw[this];rfl
 rcases Ajf (k:=(p.2.kt.mk i'.cells).2) es.toList p.2.l 0 k4 with ⟨f1,_,f3,_⟩ | ⟨j,e,q,f1,f2,f3,f4,_,f6,_⟩
 .have hrun:(execOp a.eval o).run P w= .ok .skip {w with heap:=w.heap.setIfInBounds r (.map (es.push {key:=a.eval i,val:=a.eval y,born:=ck}) (ck+1))}:=by
   have:(Instr.mapUpdate t (a.eval x) (a.eval i) (a.eval y)).run P w= .ok () {w with heap:=w.heap.setIfInBounds r (.map (es.push {key:=a.eval i,val:=a.eval y,born:=ck}) (ck+1))}:=by rw[hv,h1];simp [Instr.mapUpdate,DY hu,Xv h2,hchk,hfind,f1,oJ _ h2,Result.andThen]
   rcases ho with ho | ho<;>simp only[execOp,ho,DI,this,Result.andThen_ok,Sem.run_pure]
  unfold Oper.wp;rw[hrun,Oper.upon_skip,hd];refine hn O1 m _ _ ?_;rw[happ];refine AcZ hS1 (d:=none) (v:=undef) hq1 h1 h2 h3 (by rw[f3,Array.size_push,Dv,<- k4,Array.length_toList];rfl) (fun i0 p0 hp0=> ?_) (fun h=>absurd rfl h);have hp0:(kT p.2.kt (p.2.kt.mk i'.cells).2 (p.2.vt.mk pu.2.1).2 p.2.l)[i0]? =some p0:=hp0;rw[f3]at hp0;have hsz:es.size=p.2.l.length:=by rw[<- k4,Array.length_toList]
  rcases Ef i0 p.2.l.length with hlt | hge
  .rw[Ep hlt]at hp0;have hlt':i0<es.size:=by omega
   have hes:es.toList[i0]? =some es[i0]:=by rw[Eb,DC hlt']
   refine⟨es[i0],by rw[Iq,Du (by omega),DC hlt'],h5 i0 _ p0 hes hp0⟩
  .rw[ED hge]at hp0
   have h0:i0 - p.2.l.length=0:=by
    rcases IB (i0 - p.2.l.length)with h | h
    .exact h
    .rw[Ec (by show 1<=_;omega)]at hp0;cases hp0
   rw[h0]at hp0;injection hp0 with hp0;subst hp0;exact⟨_,by rw[Iq,Dt (by omega)],hk',hval⟩
 .have hstay:=hK.stays (a.eval i) e.key _ hk (by rw[<- f4];exact(k5 j e q f2 f3).1);have f2':es[j]? =some e:=by rw[<- Eb];exact f2
  have hrun:(execOp a.eval o).run P w= .ok .skip {w with heap:=w.heap.setIfInBounds r (.map (es.modify j fun e=> {e with key:=a.eval i,val:=a.eval y}) ck)}:=by
   have:(Instr.mapUpdate t (a.eval x) (a.eval i) (a.eval y)).run P w= .ok () {w with heap:=w.heap.setIfInBounds r (.map (es.modify j fun e=> {e with key:=a.eval i,val:=a.eval y}) ck)}:=by rw[hv,h1];simp [Instr.mapUpdate,DY hu,Xv h2,hchk,hfind,f1,f2',hstay,oJ _ h2,Result.andThen]
   rcases ho with ho | ho<;>simp only[execOp,ho,DI,this,Result.andThen_ok,Sem.run_pure]
  unfold Oper.wp;rw[hrun,Oper.upon_skip,hd];refine hn O1 m _ _ ?_;rw[happ];refine AcZ hS1 (d:=none) (v:=undef) hq1 h1 h2 h3 (by rw[f6,Array.size_modify,Gi,<- k4,Array.length_toList]) (fun i0 p0 hp0=> ?_) (fun h=>absurd rfl h);have hp0:(kT p.2.kt (p.2.kt.mk i'.cells).2 (p.2.vt.mk pu.2.1).2 p.2.l)[i0]? =some p0:=hp0;rw[f6]at hp0;rcases Ay8 hp0 with ⟨q1,q2,_⟩ | ⟨q1,q2⟩
  .subst q1;subst q2;refine⟨_,by rw[Gq,Dt rfl,f2'];rfl,?_,hval⟩;dsimp only;rw[f4];exact hk'
  .have hlt:i0<es.size:=by
    have:=(FX.1 q2).1;rw[<- k4,Array.length_toList]at this;exact this
   have hes:es.toList[i0]? =some es[i0]:=by rw[Eb,DC hlt]
   exact⟨es[i0],by rw[Gq,Du (fun h=>q1 h.symm),DC hlt],h5 i0 _ p0 hes q2⟩
def ArQ {t:Nat} {x i:Operand} {c:Call} (hC:TOk P C) (hS:Sim V0 O0 w0 O m st a w) (ho:o.op= .call c) (hcal:c.callee= .builtin .delete) (hargs:c.args= #[x,i]) {ts:List Nat} (hts:c.argTypes.toList=t::ts) {fet:Fet} (hf:PG st.Ju fet) {x' i':A} (hx:JH O st.Ju m w (a.eval x) x') (hi:JH O st.Ju m w (a.eval i) i')
 (hok:JD (AaH C fet t x' i').ok):Good P V0 O0 w0 (apply st o (AaH C fet t x' i')) o a w:=by
 intro next Q hn
 have hF:FOk O st.Ju m w fet:=fun q x h=>⟨hf q x h,hS.Ju q x (hf q x h)⟩
 unfold AaH at *
 obtain⟨ti,kt,et,ta,tb,ht,hd',hta,htb,he⟩:=Ac1 hok;rw[he]at hok hn;clear he;obtain⟨p,hp,he⟩:=JV hok;rw[he]at hok hn;clear he;obtain⟨hq,hv,hM⟩:=Ap2 hF hx hp;obtain⟨hK,hk,hone,hvt⟩:=Aq6 hC hta hi hok;obtain⟨r,es,ck,h1,h2,h3,h4,h5⟩:=hM.lists;have hu:=(hC.is ht).d;rw[hd']at hu;have hts0:c.argTypes[0]? =some t:=by rw[<- Eb,hts];rfl
 have hfind:=hK.find (a.eval i) _ es.toList p.2.l hk h4 (fun i e p he hp=>(h5 i e p he hp).1);have hchk:=hK.check es.isEmpty (a.eval i) _ hk;have happ: ∀ ok l',apply st o {ok:=ok,val:=.tup [],upd:=[(p.1,.mp l')]}= {tmps:=put st.tmps o.dst (.tup []),Ju:=Md st.Ju p.1 (.mp l')}:=by intro ok l';rfl
 have hT: ∀(O':Own) (objs':List (Nat×Vm.Obj)) (m':Nat->Value) (w':World),JH O' objs' m' w' (.tuple #[]) (.tup []):=fun _ _ _ _=>⟨#[],rfl,rfl,fun j hj=>by cases hj⟩
 have main: ∀(es':Array MapEntry),(Builtin.delete_ c.argTypes o.type #[a.eval x,a.eval i]).run P w= .ok (.tuple #[]) {w with heap:=w.heap.setIfInBounds r (.map es' ck)}->es'.size=(zJ p.2.kt (p.2.kt.mk i'.cells).2 p.2.l).length ->
  (∀(i0:Nat) (p0:p.2.kt.Val×p.2.vt.Val),(zJ p.2.kt (p.2.kt.mk i'.cells).2 p.2.l)[i0]? =some p0-> ∃ e,es'[i0]? =some e/\Oe O w e.key (Qc (p.2.kt.cells p0.1))/\Oe O w e.val (Qc (p.2.vt.cells p0.2)))->o.wp P a w next Q:=by
  intro es' hr hs he;have hrun:(execOp a.eval o).run P w= .ok (.value (.tuple #[])) {w with heap:=w.heap.setIfInBounds r (.map es' ck)}:=by simp [execOp,ho,resolve,hcal,hargs,invoke,builtin,hr]
  unfold Oper.wp;rw[hrun,Oper.upon_value];refine hn O m _ _ ?_;rw[happ];exact AcZ (l':=⟨p.2.kt,p.2.vt,zJ p.2.kt (p.2.kt.mk i'.cells).2 p.2.l⟩) hS hq (by rw[<- h1]) h2 h3 hs he (fun _=>hT)
 have hsz:es.size=p.2.l.length:=by rw[<- h4,Array.length_toList]
 rcases Ajf (k:=(p.2.kt.mk i'.cells).2) es.toList p.2.l 0 h4 with ⟨f1,_,_,f3⟩ | ⟨j,e,q,f1,f2,f3,f4,_,_,f6⟩
 .refine main es ?_ (by rw[f3];exact hsz) (fun i0 p0 hp0=> ?_)
  .rw[hv,h1];simp [Builtin.delete_,hts0,DY hu,Xv h2,hchk,hfind,f1,oJ _ h2,Result.andThen]
  .rw[f3]at hp0;have hlt:i0<es.size:=by have:=(FX.1 hp0).1;omega
   have hes:es.toList[i0]? =some es[i0]:=by rw[Eb,DC hlt]
   exact⟨es[i0],DC hlt,h5 i0 _ p0 hes hp0⟩
 .have hj:j<es.size:=by
   have:=(FX.1 f2).1;simpa using this
  have hel:(es.eraseIdxIfInBounds j).toList=es.toList.eraseIdx j:=by unfold Array.eraseIdxIfInBounds;rw[GM hj];simp
  refine main (es.eraseIdxIfInBounds j) ?_ ?_ (fun i0 p0 hp0=> ?_)
  .rw[hv,h1];simp [Builtin.delete_,hts0,DY hu,Xv h2,hchk,hfind,f1,oJ _ h2,Result.andThen]
  all_goals grind[Oe,Qc,split]
end
open Classical
def IC (O:Own) (w:World) (id:Nat) (v:Value):A->Prop
 | .usl z e l=>LK O [] (fun _=>v) w id (.arr e z l)
 | .box cs=> ∃ b base,v= .pointer (some (at' b base))/\ ∀ j,j<cs.length->O b (base+j)=some id/\w.frozen? (at' b (base+j))=false/\ ∃ u,w.cell? (at' b (base+j))=some u/\JA O w u (cs.getD j .undef)
 | a=>JA O w v a
def IR (O:Own) (w:World) (id:Nat) (v:Value):A->Prop
 | .agg cs=> ∃ vs:Array Value,v= .agg vs/\vs.size=cs.length/\ ∀ j,j<cs.length->IC O w (id+1+j) (vs.getD j undef) (cs.getD j .undef)
 | .box cs=> ∃ b base,v= .pointer (some (at' b base))/\ ∀ j,j<cs.length->O b (base+j)=some id/\w.frozen? (at' b (base+j))=false/\ ∃ u,w.cell? (at' b (base+j))=some u/\IC O w (id+1+j) u (cs.getD j .undef)
 | .cbx k cs=> ∃ b base,nM O w k v (.pointer (some (at' b base)))/\ ∀ j,j<cs.length->O b (base+j)=some id/\w.frozen? (at' b (base+j))=false/\ ∃ u,w.cell? (at' b (base+j))=some u/\IC O w (id+1+j) u (cs.getD j .undef)
 | .ump l=>PX O w id v l
 | a=>IC O w id v a
section
variable {P:Program} {C:Ctx} {V0:Nat->Value} {O0 O:Own} {w0 w:World} {m:Nat->Value} {st:St} {a:Act} {o:Oper}
def JA.ic {id:Nat} {v:Value} {x:A} (h:JA O w v x):IC O w id v x:=by cases h<;>first | exact .bool _ | exact .int _ _ | exact .str _ | exact .nil _ | exact .MO | exact .fn _ | exact .wZ | exact JA.sl0 _ _ | (rename_i vs a1 a2 a3;exact JA.sl vs a1 a2 a3) | (rename_i h hn;exact JA.sln h hn)
def PK (O:Own) (ρ :Nat->Option Nat):Own:=fun b k=>match O b k with
 | none=>none
 | some o=>match ρ o with
  | some i=>some i
  | none=>some 255
def aU {ρ :Nat->Option Nat} {b k:Nat}:PK O ρ b k=none↔O b k=none:=by grind[PK]
def XA {ρ :Nat->Option Nat} {b k o i:Nat} (h:O b k=some o) (hr: ρ o=some i):PK O ρ b k=some i:=by unfold PK;rw[h];simp [hr]
def X9 (ρ :Nat->Option Nat):N9 O w (PK O ρ) w:=fun _ _ _ h hc=>⟨aU.2 h,hc⟩
theorem LK.PK {ρ :Nat->Option Nat} {q i e:Nat} {z:Bool} {l:Sl} {Ju objs':List (Nat×Obj)} {m m':Nat->Value} (h:LK O Ju m w q (.arr e z l)) (hr: ρ q=some i) (hm:m' i=m q) :
 LK (PK O ρ) objs' m' w i (.arr e z l):=by
 refine⟨h.1,?_⟩;rcases h.2 with ⟨h1,h2,h3⟩ | ⟨h1,g,cap,cur,h2,h3,h4,h5,h6,h7,h8,h9⟩
 .exact .inl ⟨h1,h2,by rw[hm];exact h3⟩
 .refine .inr ⟨h1,g,cap,cur,by rw[hm];exact h2,h3,h4,h5,h6,fun r j hr' hj=> ?_,fun k hk hge=>XA (h8 k hk hge) hr,fun k hk=> ?_⟩
  .obtain⟨u,h10,h11⟩:=h7 r j hr' hj;exact⟨u,h10,h11.Ko (X9 ρ)⟩
  .have:=h9 k hk;cases z with
   | true=>exact aU.2 this
   | false=>exact XA this hr
def LK.keep {O':Own} {q e:Nat} {l:Sl} {Ju objs':List (Nat×Obj)} {m:Nat->Value} (h:LK O Ju m w q (.arr e false l)) (hp:N9 O w O' w) (hk: ∀ b k,O b k=some q->O' b k=some q):LK O' objs' m w q (.arr e false l):=by
 refine⟨h.1,?_⟩;rcases h.2 with h0 | ⟨h1,g,cap,cur,h2,h3,h4,h5,h6,h7,h8,h9⟩
 .exact .inl h0
 .refine .inr ⟨h1,g,cap,cur,h2,h3,h4,h5,h6,fun r j hr' hj=> ?_,fun k a b=>hk _ _ (h8 k a b),fun k a=>hk _ _ (h9 k a)⟩;obtain⟨u,h10,h11⟩:=h7 r j hr' hj;exact⟨u,h10,h11.Ko hp⟩
def Xx {W:Prop} {fet:Fet} (hf:PG st.Ju fet) (hS: ∀ q y,J9 st.Ju q=some y->LK O st.Ju m w q y): ∀(ks:List (Bool×CK)) (cs:List A) (id:Nat) (f:Nat->Value),(ks.any wC=true->W)->(∀ j,j<cs.length->JP O st.Ju m w (f j) (cs.getD j .undef))->JD (JE fet ks cs).1 ->
 (JE fet ks cs).2.1.length=ks.length/\cs.length=ks.length/\Frz st.Ju (JE fet ks cs).2.2.1/\(JE fet ks cs).2.2.2=(MC id ks cs).map (·.1) /\
 ∀ {O':Own} {objs':List (Nat×Obj)} {ρ :Nat->Option Nat},N9 O w O' w->(∀ p∈(JE fet ks cs).2.2.1,∀ e l,p.2= .arr e true l->JA O' w (m p.1) (.sl l)) ->
  (∀ p∈(JE fet ks cs).2.2.1,LK O' objs' m w p.1 p.2)->(∀ b k q,O b k=some q->(NR st.Ju q\/W)->O' b k=some q)->(∀ p∈MC id ks cs,ρ p.1=some p.2) ->
  ∀ j,j<ks.length->IC (PK O' ρ) w (id+j) (f j) ((JE fet ks cs).2.1.getD j .undef):=by
 intro ks
 induction ks with
 | nil =>
  intro cs id f _ _ hok;cases cs with
  | nil=>exact⟨rfl,rfl,(fun p hp=>by simp [JE]at hp),rfl,fun _ _ _ _ _ j hj=>by simp at hj⟩
  | cons _ _=>have:=hok false (by simp [JE]);cases this
 | cons k ks ih =>
  intro cs id f hW h hok;obtain⟨u,k⟩:=k;cases cs with
  | nil=>have:=hok false (by cases u<;>simp [JE]);cases this
  | cons c cs =>
   have hrest:=fun hok2=>ih cs (id+1) (fun j=>f (j+1)) (fun h=>hW (by rw[List.any_cons,h,F8])) (fun j hj=>by simpa using h (j+1) (by simpa using hj)) hok2;cases u with
   | false =>
    simp only[JE]at hok ⊢;obtain⟨hok1,hok2⟩:=hok.append;obtain⟨h1,h2⟩:=Arb hf (h 0 (by simp)) hok1;obtain⟨h3,h4,h5,h6,h7⟩:=hrest hok2;have hnames:MC id ((false,k)::ks) (c::cs)=MC (id+1) ks cs:=by cases c<;>rfl
    refine⟨by simp [h3],by simp [h4],h1.append h5,by rw[hnames];exact h6,fun {O' objs' ρ} hp hv hO hbx hρ j hj=> ?_⟩;rw[hnames]at hρ;cases j with
    | zero =>have hvr:=(h2 hp (fun p hp=>hv p (DF _ hp))).Ko (X9 ρ);exact hvr.ic
    | succ j =>have:=h7 hp (fun p hp=>hv p (DD _ hp)) (fun p hp=>hO p (DD _ hp)) hbx hρ j (by simpa using hj);rw[show id+(j+1)=id+1+j from by omega];simpa using this
   | true =>
    cases k with
    | sl e sz =>
     cases c with
     | own q =>
      simp only[JE]at hok ⊢;cases hg:J9 fet q with
      | none=>rw[hg]at hok;have:=hok false (by simp);cases this
      | some x =>
       cases x with
       | box _=>rw[hg]at hok;have:=hok false (by simp);cases this
       | mp _=>rw[hg]at hok;have:=hok false (by simp);cases this
       | arr e' fz l =>
        rw[hg]at hok;dsimp only at hok ⊢;obtain⟨hok1,hok2⟩:=hok.append;obtain⟨e1,e2⟩:=hok1.cons;have e1:=Dx e1;subst e1;obtain⟨h3,h4,h5,h6,h7⟩:=hrest hok2;have hq:=hf q _ hg;refine⟨by simp [h3],by simp [h4],fun p hp=> ?_,?_,fun {O' objs' ρ} hp hv hO hbx hρ j hj=> ?_⟩
        .rcases D8.1 hp with rfl | hp
         .exact⟨e,fz,l,hq,rfl⟩
         .exact h5 p hp
        .simp only[MC,Ee,h6]
        .cases j with
         | zero =>have hc:JP O st.Ju m w (f 0) (.own q):=h 0 (by simp);have hc:=hc.2;rw[hq]at hc;simp only[Option.map_some,Obj.shp]at hc;have:=hO _ Dy;exact this.PK (objs':=[]) (m':=fun _=>f 0) (hρ (q,id) Dy) hc
         | succ j =>have:=h7 hp (fun p hp=>hv p (D5 _ hp)) (fun p hp=>hO p (D5 _ hp)) hbx (fun p hp=>hρ p (D5 _ hp)) j (by simpa using hj);rw[show id+(j+1)=id+1+j from by omega];simpa using this
     | LJ =>
      simp only[JE]at hok ⊢;obtain⟨h3,h4,h5,h6,h7⟩:=hrest hok;have hnames:MC id ((true,.sl e sz)::ks) (.LJ::cs)=MC (id+1) ks cs:=rfl;refine⟨by simp [h3],by simp [h4],h5,by rw[hnames];exact h6,fun {O' objs' ρ} hp hv hO hbx hρ j hj=> ?_⟩;rw[hnames]at hρ;cases j with
      | zero =>have hc:JP O st.Ju m w (f 0) .LJ:=h 0 (by simp);have hc:f 0= .slice none 0 0:=hc;show LK _ [] (fun _=>f 0) w _ (.arr e true ⟨sz,[]⟩);exact⟨by simp [Sl.es],.inl ⟨trivial,rfl,hc⟩⟩
      | succ j =>have:=h7 hp hv hO hbx hρ j (by simpa using hj);rw[show id+(j+1)=id+1+j from by omega];simpa using this
     | _=>have:=hok false (by simp [JE]);cases this
    | sln e sz =>
     cases c with
     | own q =>
      simp only[JE]at hok ⊢;cases hg:J9 fet q with
      | none=>rw[hg]at hok;have:=hok false (by simp);cases this
      | some x =>
       cases x with
       | box _=>rw[hg]at hok;have:=hok false (by simp);cases this
       | mp _=>rw[hg]at hok;have:=hok false (by simp);cases this
       | arr e' fz l =>
        rw[hg]at hok;dsimp only at hok ⊢;obtain⟨hok1,hok2⟩:=hok.append;obtain⟨e1,e2⟩:=hok1.cons;obtain⟨_,e3⟩:=e2.cons;have e3:fz=false:=by simpa using e3.cons.1
        subst e3;have e1:=Dx e1;subst e1;obtain⟨h3,h4,h5,h6,h7⟩:=hrest hok2;have hq:=hf q _ hg;refine⟨by simp [h3],by simp [h4],h5,?_,fun {O' objs' ρ} hp hv hO hbx hρ j hj=> ?_⟩
        .simp only[MC,Ee,h6]
        .cases j with
         | zero =>have hc:JP O st.Ju m w (f 0) (.own q):=h 0 (by simp);have hc:=hc.2;rw[hq]at hc;simp only[Option.map_some,Obj.shp]at hc;exact(LK.keep (objs':=st.Ju) (hS q _ hq) hp fun b k hb=>hbx b k q hb (.inr (hW rfl))).PK (objs':=[]) (m':=fun _=>f 0) (hρ (q,id) Dy) hc
         | succ j =>have:=h7 hp hv hO hbx (fun p hp=>hρ p (D5 _ hp)) j (by simpa using hj);rw[show id+(j+1)=id+1+j from by omega];simpa using this
     | LJ =>
      simp only[JE]at hok ⊢;obtain⟨h3,h4,h5,h6,h7⟩:=hrest hok;have hnames:MC id ((true,.sln e sz)::ks) (.LJ::cs)=MC (id+1) ks cs:=rfl;refine⟨by simp [h3],by simp [h4],h5,by rw[hnames];exact h6,fun {O' objs' ρ} hp hv hO hbx hρ j hj=> ?_⟩;rw[hnames]at hρ;cases j with
      | zero =>have hc:JP O st.Ju m w (f 0) .LJ:=h 0 (by simp);have hc:f 0= .slice none 0 0:=hc;show LK _ [] (fun _=>f 0) w _ (.arr e false ⟨sz,[]⟩);exact⟨by simp [Sl.es],.inl ⟨trivial,rfl,hc⟩⟩
      | succ j =>have:=h7 hp hv hO hbx hρ j (by simpa using hj);rw[show id+(j+1)=id+1+j from by omega];simpa using this
     | _=>have:=hok false (by simp [JE]);cases this
    | bx t =>
     cases c with
     | ptr q off =>
      simp only[JE]at hok ⊢;cases hg:MQ fet q with
      | none=>rw[hg]at hok;have:=hok false (by simp);cases this
      | some zs =>
       rw[hg]at hok;dsimp only at hok ⊢;obtain⟨hok0,hok1⟩:=hok.cons;obtain⟨hok1,hok2⟩:=hok1.append;have hok0:=Dx hok0;subst hok0;obtain⟨h3,h4,h5,h6,h7⟩:=hrest hok2;have hq:=hf q _ (MH hg);obtain⟨b,base,g1,g2⟩:=hS q _ hq;have hv0:f 0= .pointer (some (at' b base)):=by have hc:JP O st.Ju m w (f 0) (.ptr q 0):=h 0 (by simp);have hc:=hc.2;rw[hq]at hc;simp only[Option.map_some,Obj.shp]at hc;obtain⟨b',base',g3,g4⟩:=hc;rw[g1]at g3;injection g3 with g3;injection g3 with g3;injection g3 with e1 e2;subst e1;subst e2;exact g4
       have hfc: ∀ j,j<zs.length->w.cell? (at' b (base+j))=some ((w.cell? (at' b (base+j))).getD undef)/\JP O st.Ju m w ((w.cell? (at' b (base+j))).getD undef) (zs.getD j .undef):=by intro j hj;obtain⟨_,_,u,h3,h4⟩:=g2 j hj;rw[h3];exact⟨rfl,h4⟩
       obtain⟨p1,p2,p3,p4⟩:=WT hf (tck t) zs (fun j=>(w.cell? (at' b (base+j))).getD undef) (fun j hj=>(hfc j hj).2) hok1;refine⟨by simp [h3],by simp [h4],p3.append h5,?_,fun {O' objs' ρ} hp hv hO hbx hρ j hj=> ?_⟩
       .simp only[MC,Ee,h6]
       .cases j with
        | zero =>
         refine⟨b,base,hv0,fun j hj=> ?_⟩;have hj:j<(KO fet (tck t) zs).2.1.length:=hj;rw[p1]at hj;have hj':j<zs.length:=by rw[p2];exact hj
         obtain⟨k1,k2,_⟩:=g2 j hj';exact⟨XA (hbx _ _ _ k1 (.inl (.of hq (fun _ _ _ h=>by cases h)))) (hρ (q,id) Dy),k2,_,(hfc j hj').1,(p4 hp (fun p hp=>hv p (DF _ hp)) j hj).Ko (X9 ρ)⟩
        | succ j =>have:=h7 hp (fun p hp=>hv p (DD _ hp)) (fun p hp=>hO p (DD _ hp)) hbx (fun p hp=>hρ p (D5 _ hp)) j (by simpa using hj);rw[show id+(j+1)=id+1+j from by omega];simpa using this
     | _=>have:=hok false (by simp [JE]);cases this
    | _=>have:=hok false (by simp [JE]);cases this
end
section
variable {P:Program} {C:Ctx} {V0:Nat->Value} {O0 O:Own} {w0 w:World} {m:Nat->Value} {st:St} {a:Act} {o:Oper}
def Aqu {W:Prop} {fet:Fet} (hf:PG st.Ju fet) {s:Sh} {x:A} {v:Value} {id:Nat} (hW:wS s=true->W) (hx:JH O st.Ju m w v x) (hS: ∀ q y,J9 st.Ju q=some y->LK O st.Ju m w q y) (hok:JD (JY fet s x).ok) :
 Frz st.Ju (JY fet s x).upd/\(∀ q∈(JY fet s x).del++(JY fet s x).boxes.map (·.1),q∈(Py fet id s x).map (·.1))/\(∀ q∈(Py fet id s x).map (·.1),q∈(JY fet s x).del++(JY fet s x).boxes.map (·.1)) /\
 (KH s=true↔(JY fet s x).boxes≠ []) /\
 ∀ {O':Own} {objs':List (Nat×Obj)} {ρ :Nat->Option Nat},N9 O w O' w->(∀ p∈(JY fet s x).upd,∀ e l,p.2= .arr e true l->JA O' w (m p.1) (.sl l)) ->
  (∀ p∈(JY fet s x).upd,LK O' objs' m w p.1 p.2)->(∀ b k q,O b k=some q->(NR st.Ju q\/W)->O' b k=some q)->(∀ p∈Py fet id s x,ρ p.1=some p.2) ->
  IR (PK O' ρ) w id v (JY fet s x).a:=by
 cases s with
 | cell u k =>
  unfold JY at *
  dsimp only at hok ⊢
  have hall: ∀ hc:JP O st.Ju m w v x,_:=fun hc=>Xx hf hS [(u,k)] [x] id (fun _=>v) (fun h=>hW (by rw[List.any_cons,List.any_nil,FM]at h;exact h)) (fun j hj=>by
   have:j=0:=by simpa using hj
   subst this;exact hc)
  have hnc: ∀(h:JD (JE fet [(u,k)] [x]).1),JP O st.Ju m w v x:=by
   intro h;cases x with
   | undef=>cases u<;>cases k<;>(have:=h false (by simp [JE,pur]);cases this)
   | agg _=>cases u<;>cases k<;>(have:=h false (by simp [JE,pur]);cases this)
   | tup _=>cases u<;>cases k<;>(have:=h false (by simp [JE,pur]);cases this)
   | cnd _ _=>cases u<;>cases k<;>(have:=h false (by simp [JE,pur]);cases this)
   | _=>exact hx
  generalize hh:JE fet [(u,k)] [x]=r at *
  obtain⟨ok,cs,upd,del⟩:=r;cases cs with
  | nil=>have:=hok false (by simp);cases this
  | cons c cs =>
   cases cs with
   | cons _ _=>have:=hok false (by simp);cases this
   | nil =>
    dsimp only at hok ⊢;obtain⟨h1,h2,h3,h4,h5⟩:=hall (hnc hok) hok;have h4:del=(MC id [(u,k)] [x]).map (·.1):=h4;refine⟨h3,fun q hq=> ?_,fun q hq=> ?_,⟨(fun h=>by cases h),fun h=>absurd rfl h⟩,fun {O' objs' ρ} hp hv hO hbx hρ => ?_⟩
    .simp only[EN,DL]at hq;rw[h4]at hq;exact hq
    .simp only[EN,DL];rw[h4];exact hq
    .have:=h5 hp hv hO hbx hρ 0 (by simp);have e: [c].getD 0 .undef=c:=rfl;dsimp only at this;rw[e]at this;cases c<;>first | exact this | (obtain⟨b,base,e1,e2⟩:=this;exact⟨b,base,e1,fun j hj=>let ⟨k1,k2,u,k3,k4⟩:=e2 j hj;⟨k1,k2,u,k3,k4.ic⟩⟩) | cases this
 | agg ks =>
  cases x with
  | agg cs =>
   unfold JY at *
   dsimp only at hok ⊢;obtain⟨vs,g1,g2,g3⟩:=hx;obtain⟨h1,h2,h3,h4,h5⟩:=Xx hf hS ks cs (id+1) (fun j=>vs.getD j undef) hW g3 hok;refine⟨h3,fun q hq=> ?_,fun q hq=> ?_,⟨(fun h=>by cases h),fun h=>absurd rfl h⟩,fun {O' objs' ρ} hp hv hO hbx hρ => ?_⟩
   .simp only[EN,DL]at hq;rw[h4]at hq;exact hq
   .simp only[EN,DL];rw[h4];exact hq
   .exact⟨vs,g1,by rw[g2,h1,h2],fun j hj=>h5 hp hv hO hbx hρ j (by rw[<- h1];exact hj)⟩
  | _=>have:=hok false (by simp [JY]);cases this
 | box ks =>
  cases x with
  | ptr q off =>
   unfold JY at *
   dsimp only at hok ⊢;cases hg:MQ fet q with
   | none=>rw[hg]at hok;have:=hok false (by simp);cases this
   | some cs =>
    rw[hg]at hok;dsimp only at hok ⊢;obtain⟨ho0,hokA⟩:=hok.cons;obtain⟨_,hokB⟩:=hokA.cons;have ho0:=Dx ho0;subst ho0;have hq:=hf q _ (MH hg);obtain⟨b,base,g1,g2⟩:=hS q _ hq;have hv0:v= .pointer (some (at' b base)):=by have hc:JP O st.Ju m w v (.ptr q 0):=hx;have hc:=hc.2;rw[hq]at hc;simp only[Option.map_some,Obj.shp]at hc;obtain⟨b',base',g3,g4⟩:=hc;rw[g1]at g3;injection g3 with g3;injection g3 with g3;injection g3 with e1 e2;subst e1;subst e2;exact g4
    let f:Nat->Value:=fun j=>(w.cell? (at' b (base+j))).getD undef
    have hfc: ∀ j,j<cs.length->w.cell? (at' b (base+j))=some (f j)/\JP O st.Ju m w (f j) (cs.getD j .undef):=by
     intro j hj;obtain⟨_,_,u,h3,h4⟩:=g2 j hj;have:f j=u:=by show(w.cell? _).getD _=_;rw[h3];rfl
     rw[this];exact⟨h3,h4⟩
    obtain⟨h1,h2,h3,h4,h5⟩:=Xx hf hS ks cs (id+1) f hW (fun j hj=>(hfc j hj).2) hokB;have hnames:Py fet id (.box ks) (.ptr q 0)=(q,id)::MC (id+1) ks cs:=by simp only[Py,hg]
    rw[hnames];refine⟨h3,fun r hr=> ?_,fun r hr=> ?_,⟨fun _=>by simp,fun _=>rfl⟩,fun {O' objs' ρ} hp hv hO hbx hρ => ?_⟩
    .simp only[Ee,EN,DV,Ei]at hr;rcases hr with hr | hr
     .rw[h4]at hr;exact D5 _ hr
     .rw[hr];exact Dy
    .simp only[Ee,EN,DV,Ei];rcases D8.1 hr with hr | hr
     .exact .inr hr
     .left;rw[h4];exact hr
    .refine⟨b,base,hv0,fun j hj=> ?_⟩;rw[h1]at hj;obtain⟨k1,k2,u,k3,_⟩:=g2 j (by rw[h2];exact hj);refine⟨XA (hbx _ _ _ k1 (.inl (.of hq (fun _ _ _ h=>by cases h)))) (hρ (q,id) Dy),k2,f j,(hfc j (by rw[h2];exact hj)).1,h5 hp hv hO hbx (fun p hp'=>hρ p (D5 _ hp')) j hj⟩
  | _=>have:=hok false (by simp [JY]);cases this
 | clo f' ks =>
  cases x with
  | clo g q =>
   unfold JY at *
   dsimp only at hok ⊢;cases hg:MQ fet q with
   | none=>rw[hg]at hok;have:=hok false (by simp);cases this
   | some cs =>
    rw[hg]at hok;dsimp only at hok ⊢;obtain⟨ho0,hokA⟩:=hok.cons;obtain⟨_,hokB⟩:=hokA.cons;have ho0:=Dx ho0;subst ho0;have hq:=hf q _ (MH hg);obtain⟨b,base,g1,g2⟩:=hS q _ hq;have hv0:nM O w f' v (.pointer (some (at' b base))):=by have hc:JP O st.Ju m w v (.clo f' q):=hx;obtain⟨_,p,_,hc2,hc⟩:=hc;rw[hq]at hc;obtain⟨b',base',e1,e2⟩:=hc;rw[g1]at e1;rw[e1,<- e2];exact hc2
    let f:Nat->Value:=fun j=>(w.cell? (at' b (base+j))).getD undef
    have hfc: ∀ j,j<cs.length->w.cell? (at' b (base+j))=some (f j)/\JP O st.Ju m w (f j) (cs.getD j .undef):=by
     intro j hj;obtain⟨_,_,u,h3,h4⟩:=g2 j hj;have:f j=u:=by show(w.cell? _).getD _=_;rw[h3];rfl
     rw[this];exact⟨h3,h4⟩
    obtain⟨h1,h2,h3,h4,h5⟩:=Xx hf hS ks cs (id+1) f hW (fun j hj=>(hfc j hj).2) hokB;have hnames:Py fet id (.clo f' ks) (.clo f' q)=(q,id)::MC (id+1) ks cs:=by simp only[Py,hg]
    rw[hnames];refine⟨h3,fun r hr=> ?_,fun r hr=> ?_,⟨fun _=>by simp,fun _=>rfl⟩,fun {O' objs' ρ} hp hv hO hbx hρ => ?_⟩
    .simp only[Ee,EN,DV,Ei]at hr;rcases hr with hr | hr
     .rw[h4]at hr;exact D5 _ hr
     .rw[hr];exact Dy
    .simp only[Ee,EN,DV,Ei];rcases D8.1 hr with hr | hr
     .exact .inr hr
     .left;rw[h4];exact hr
    .refine⟨b,base,(hv0.Ko hp).Ko (X9 ρ),fun j hj=> ?_⟩;rw[h1]at hj;obtain⟨k1,k2,u,k3,_⟩:=g2 j (by rw[h2];exact hj);refine⟨XA (hbx _ _ _ k1 (.inl (.of hq (fun _ _ _ h=>by cases h)))) (hρ (q,id) Dy),k2,f j,(hfc j (by rw[h2];exact hj)).1,h5 hp hv hO hbx (fun p hp'=>hρ p (D5 _ hp')) j hj⟩
  | _=>have:=hok false (by simp [JY]);cases this
 | map kt vt =>
  cases x with
  | own q =>
   unfold JY at *
   dsimp only at hok ⊢;cases hg:J9 fet q with
   | none=>rw[hg]at hok;have:=hok false (by simp);cases this
   | some y =>
    cases y with
    | box _=>rw[hg]at hok;have:=hok false (by simp);cases this
    | arr _ _ _=>rw[hg]at hok;have:=hok false (by simp);cases this
    | mp l =>
     rw[hg]at hok;dsimp only at hok ⊢;have hq:=hf q _ hg;have hv0:v=m q:=by have hc:JP O st.Ju m w v (.own q):=hx;have hc:=hc.2;rw[hq]at hc;exact hc
     refine⟨(fun p hp=>by cases hp),fun r hr=> ?_,fun r hr=> ?_,⟨fun _=>by simp,fun _=>rfl⟩,fun {O' objs' ρ} hp hv hO hbx hρ => ?_⟩
     .simpa [Py]using hr
     .simpa [Py]using hr
     .obtain⟨r,es,ck,g1,g2,g3,g4,g5⟩:=(show PX O w q (m q) l from hS q _ hq)
      refine⟨r,es,ck,by rw[hv0];exact g1,g2,XA (hbx _ _ _ g3 (.inl (.of hq (fun _ _ _ h=>by cases h)))) (hρ (q,id) Dy),g4,fun i p hip=> ?_⟩;obtain⟨e,k1,k2,k3⟩:=g5 i p hip;exact⟨e,k1,(k2.Ko hp).Ko (X9 ρ),(k3.Ko hp).Ko (X9 ρ)⟩
  | _=>have:=hok false (by simp [JY]);cases this
def kM {W:Prop} {fet:Fet} (hf:PG st.Ju fet) (hS: ∀ q y,J9 st.Ju q=some y->LK O st.Ju m w q y) (stride:Nat): ∀(ss:List Sh) (xs:List A) (id:Nat) (f:Nat->Value),(ss.any wS=true->W)->(∀ j,j<xs.length->JH O st.Ju m w (f j) (xs.getD j .undef))->JD (JU fet ss xs).1 ->
 (JU fet ss xs).2.1.length=ss.length/\xs.length=ss.length/\Frz st.Ju (JU fet ss xs).2.2.1 /\
 (∀ q,q∈(JU fet ss xs).2.2.2.1++(JU fet ss xs).2.2.2.2.map (·.1)↔q∈(Ob fet id stride ss xs).map (·.1)) /\
 ∀ {O':Own} {objs':List (Nat×Obj)} {ρ :Nat->Option Nat},N9 O w O' w->(∀ p∈(JU fet ss xs).2.2.1,∀ e l,p.2= .arr e true l->JA O' w (m p.1) (.sl l)) ->
  (∀ p∈(JU fet ss xs).2.2.1,LK O' objs' m w p.1 p.2)->(∀ b k q,O b k=some q->(NR st.Ju q\/W)->O' b k=some q)->(∀ p∈Ob fet id stride ss xs,ρ p.1=some p.2) ->
  ∀ j,j<ss.length->IR (PK O' ρ) w (id+stride*j) (f j) ((JU fet ss xs).2.1.getD j .undef):=by
 intro ss
 induction ss with
 | nil =>
  intro xs id f _ _ hok;cases xs with
  | nil=>exact⟨rfl,rfl,(fun p hp=>by simp [JU]at hp),(fun q=>by simp [JU,Ob]),fun _ _ _ _ _ j hj=>by simp at hj⟩
  | cons _ _=>have:=hok false (by simp [JU]);cases this
 | cons s ss ih =>
  intro xs id f hW h hok;cases xs with
  | nil=>have:=hok false (by simp [JU]);cases this
  | cons x xs =>
   simp only[JU]at hok ⊢;obtain⟨hok1,hok2⟩:=hok.append;obtain⟨h1,h2,h3,_,h4⟩:=Aqu (id:=id) hf (fun e=>hW (by rw[List.any_cons,e,EO])) (h 0 (by simp)) hS hok1;obtain⟨g1,g2,g3,g4,g5⟩:=ih xs (id+stride) (fun j=>f (j+1)) (fun e=>hW (by rw[List.any_cons,e,F8])) (fun j hj=>by simpa using h (j+1) (by simpa using hj)) hok2;refine⟨by simp [g1],by simp [g2],h1.append g3,fun q=> ?_,fun {O' objs' ρ} hp hv hO hbx hρ j hj=> ?_⟩
   .simp only[Ob,ET,DV];have a1:=h2 q;have a2:=h3 q;have a3:=g4 q;simp only[DV]at a1 a2 a3;constructor
    .rintro ((h | h) | (h | h))
     .exact .inl (a1 (.inl h))
     .exact .inr (a3.1 (.inl h))
     .exact .inl (a1 (.inr h))
     .exact .inr (a3.1 (.inr h))
    .rintro (h | h)
     .rcases a2 h with h | h
      .exact .inl (.inl h)
      .exact .inr (.inl h)
     .rcases a3.2 h with h | h
      .exact .inl (.inr h)
      .exact .inr (.inr h)
   .cases j with
    | zero=>simpa using h4 hp (fun p hp=>hv p (DF _ hp)) (fun p hp=>hO p (DF _ hp)) hbx (fun p hp=>hρ p (DF _ hp))
    | succ j =>have:=g5 hp (fun p hp=>hv p (DD _ hp)) (fun p hp=>hO p (DD _ hp)) hbx (fun p hp=>hρ p (DD _ hp)) j (by simpa using hj);rw[show id+stride*(j+1)=id+stride+stride*j from by rw[IX];omega];simpa using this
end
def A0V:Value->Value
 | .func g fi caps=>caps.getD 0 (.func g fi caps)
 | v=>v
def deref (w:World):Value->Value
 | .pointer (some a)=>(w.cell? a).getD undef
 | _=>undef
def innerS (w:World):Sh->Value->Value
 | .clo _ _,v=>deref w (A0V v)
 | _,v=>v
def nM.inner {O:Own} {w:World} {k:Nat} {v p:Value} {ks:List (Bool×CK)} (h:nM O w k v p):innerS w (.clo k ks) v=p:=by obtain⟨b,j,h1,_,h3⟩:=h;rw[h1];cases k<;>(show(w.cell? _).getD _=_;rw[h3];rfl)
def O7 (w:World) (v:Value):Nat->Value
 | 0=>v
 | x+1=>match v with
  | .agg vs=>vs.getD x undef
  | .pointer (some a)=>(w.cell? (at' a.block (a.off+x))).getD undef
  | _=>undef
section
variable {Oc O':Own} {w:World} {objs':List (Nat×Obj)} {m':Nat->Value}
def LK.carry {Ju:List (Nat×Obj)} {m:Nat->Value} {c i e:Nat} {z:Bool} {l:Sl} (h:LK Oc Ju m w c (.arr e z l)) (hp:N9 Oc w O' w) (hr: ∀ b k,Oc b k=some c->O' b k=some i) (hn: ∀ b k,Oc b k=none->O' b k=none) (hm:m' i=m c) :
 LK O' objs' m' w i (.arr e z l):=by
 refine⟨h.1,?_⟩;rcases h.2 with ⟨h1,h2,h3⟩ | ⟨h1,g,cap,cur,h2,h3,h4,h5,h6,h7,h8,h9⟩
 .exact .inl ⟨h1,h2,by rw[hm];exact h3⟩
 .refine .inr ⟨h1,g,cap,cur,by rw[hm];exact h2,h3,h4,h5,h6,fun r j hr' hj=> ?_,fun k hk hge=>hr _ _ (h8 k hk hge),fun k hk=> ?_⟩
  .obtain⟨u,h10,h11⟩:=h7 r j hr' hj;exact⟨u,h10,h11.Ko hp⟩
  .have:=h9 k hk;cases z with
   | true=>exact hn _ _ this
   | false=>exact hr _ _ this
def PX.carry {c i:Nat} {v:Value} {l:Mp} (h:PX Oc w c v l) (hp:N9 Oc w O' w) (hr: ∀ b k,Oc b k=some c->O' b k=some i):PX O' w i v l:=by obtain⟨r,es,ck,h1,h2,h3,h4,h5⟩:=h;refine⟨r,es,ck,h1,h2,hr _ _ h3,h4,fun j p hj=> ?_⟩;obtain⟨e,k1,k2,k3⟩:=h5 j p hj;exact⟨e,k1,k2.Ko hp,k3.Ko hp⟩
def Acs {kt vt:Ty} {a:A} (h:a.Acr kt vt=true): ∃ l,a= .ump l/\l.kt=kt/\l.vt=vt:=by
 cases a with
 | ump l =>have h':(decide (l.kt=kt)&&decide (l.vt=vt))=true:=h;simp only[Dw,DK]at h';exact⟨l,rfl,h'.1,h'.2⟩
 | _=>cases h
def JA.toC {v:Value} {a:A} (h:JA O' w v a):JP O' objs' m' w v a:=by cases a<;>first | exact h | (cases h;done)
def ArW {id:Nat} {k:CK} {v:Value} {c:A} (h:IC Oc w id v c) (hp:N9 Oc w O' w) (hok:JD (force k c).1):JP O' objs' m' w v (force k c).2:=by
 cases c with
 | box cs =>
  cases k with
  | oth=>obtain⟨b,base,h1,_⟩:=h;rw[h1];rfl
  | mp _ _=>have:=hok.cons.1;cases this
  | bx _=>have:=hok.cons.1;cases this
  | _=>have:=hok.cons.1;simp [A.isB,A.isI,A.isS,A.AmH,A.Aha,A.AaR,A.isFn]at this
 | usl z e l =>
  cases k with
  | oth =>
   rcases h.2 with ⟨_,_,h3⟩ | ⟨_,g,cap,cur,h2,_⟩
   .show v.oneCell'=true;have h3:v=_:=h3;rw[h3];rfl
   .show v.oneCell'=true;have h2:v=_:=h2;rw[h2];rfl
  | mp _ _=>have:=hok.cons.1;cases this
  | bx _=>have:=hok.cons.1;cases this
  | _=>have:=hok.cons.1;simp [A.isB,A.isI,A.isS,A.AmH,A.Aha,A.AaR,A.isFn]at this
 | _=>exact Afy (JA.Ko hp h) hok
def Ub {cid id:Nat} {f:Nat->Value} (hp:N9 Oc w O' w) (hn: ∀ b k,Oc b k=none->O' b k=none): ∀(ks:List (Bool×CK)) (cs:List A) (j0:Nat),(∀ j,j<ks.length->IC Oc w (cid+(j0+j)) (f (j0+j)) (cs.getD (j0+j) .undef)) ->
 (∀ b k x,x<j0+ks.length->Oc b k=some (cid+x)->O' b k=some (id+x))->JD (JW id ks cs j0).1->(∀ p∈(JW id ks cs j0).2.2,J9 objs' p.1=some p.2)->(∀ p∈(JW id ks cs j0).2.2,∀ x,p.1=id+x->m' p.1=f x) ->
 (JW id ks cs j0).2.1.length=ks.length/\(∀ j,j<ks.length->JP O' objs' m' w (f (j0+j)) ((JW id ks cs j0).2.1.getD j .undef))/\ ∀ p∈(JW id ks cs j0).2.2,LK O' objs' m' w p.1 p.2/\ ∃ x,p.1=id+x/\j0<=x/\x<j0+ks.length:=by
 intro ks
 induction ks with
 | nil=>intro cs j0 _ _ _ _ _;exact⟨rfl,fun j hj=>by simp at hj,fun p hp=>by simp [JW]at hp⟩
 | cons k ks ih =>
  intro cs j0 h hr hok hO hm;obtain⟨u,k⟩:=k;have h0:=h 0 (by simp);rw[Nat.add_zero]at h0;have hrest:=fun hok2 hO2 hm2=>ih cs (j0+1) (fun j hj=>by have:=h (j+1) (by simpa using hj);rwa [show j0+(j+1)=j0+1+j from by omega]at this) (fun b k x hx=>hr b k x (by simp only[List.length_cons];omega)) hok2 hO2 hm2;cases u with
  | false =>
   simp only[JW]at hok hO hm ⊢;obtain⟨hok1,hok2⟩:=hok.append;obtain⟨g1,g2,g3⟩:=hrest hok2 hO hm;refine⟨by simp [g1],fun j hj=> ?_,fun p hp=> ?_⟩
   .cases j with
    | zero=>exact ArW h0 hp hok1
    | succ j =>have:=g2 j (by simpa using hj);rw[show j0+(j+1)=j0+1+j from by omega];simpa using this
   .obtain⟨a1,x,a2,a3,a4⟩:=g3 p hp;exact⟨a1,x,a2,by omega,by simp only[List.length_cons];omega⟩
  | true =>
   cases k with
   | sl e sz =>
    simp only[JW]at hok hO hm ⊢;obtain⟨hok1,hok2⟩:=hok.cons;obtain⟨g1,g2,g3⟩:=hrest hok2 (fun p hp=>hO p (D5 _ hp)) (fun p hp=>hm p (D5 _ hp));have hO0:=hO _ Dy;have hm0:=hm _ Dy j0 rfl;dsimp only at hO0 hm0
    have hc:cs.getD j0 .undef= .usl true e (cs.getD j0 .undef).toL:=by
     generalize cs.getD j0 .undef=c at *
     cases c<;>simp only[A.AkY]at hok1<;>first | (cases hok1;done) | skip
     simp only[Dw,EG]at hok1;rw[Dx hok1.2.1,<- hok1.1];rfl
    rw[hc]at h0;have hor:LK O' objs' m' w (id+j0) (.arr e true (cs.getD j0 .undef).toL):=LK.carry (show LK Oc [] (fun _=>f j0) w (cid+j0) _ from h0) hp (fun b k hbk=>hr b k j0 (by simp) hbk) hn hm0;refine⟨by simp [g1],fun j hj=> ?_,fun p hp=> ?_⟩
    .cases j with
     | zero =>
      have hone:(f j0).oneCell'=true:=by
       rcases h0.2 with ⟨_,_,h3⟩ | ⟨_,g,cap,cur,h2,_⟩
       .have h3:f j0=_:=h3;rw[h3];rfl
       .have h2:f j0=_:=h2;rw[h2];rfl
      refine⟨hone,?_⟩;show match (J9 objs' (id+j0)).map Obj.shp with | some (.arr _ _)=>_ | some .mp=>_ | _=>True
      rw[hO0];exact hm0.symm
     | succ j =>have:=g2 j (by simpa using hj);rw[show j0+(j+1)=j0+1+j from by omega];simpa using this
    .rcases D8.1 hp with rfl | hp
     .exact⟨hor,j0,rfl,DW _,by simp⟩
     .obtain⟨a1,x,a2,a3,a4⟩:=g3 p hp;exact⟨a1,x,a2,by omega,by simp only[List.length_cons];omega⟩
   | sln e sz =>
    simp only[JW]at hok hO hm ⊢;obtain⟨hok1,hok2⟩:=hok.cons;obtain⟨g1,g2,g3⟩:=hrest hok2 (fun p hp=>hO p (D5 _ hp)) (fun p hp=>hm p (D5 _ hp));have hO0:=hO _ Dy;have hm0:=hm _ Dy j0 rfl;dsimp only at hO0 hm0
    have hc:cs.getD j0 .undef= .usl false e (cs.getD j0 .undef).toL:=by
     generalize cs.getD j0 .undef=c at *
     cases c<;>simp only[A.AkY]at hok1<;>first | (cases hok1;done) | skip
     simp only[Dw,EG]at hok1;rw[Dx hok1.2.1,<- hok1.1];rfl
    rw[hc]at h0;have hor:LK O' objs' m' w (id+j0) (.arr e false (cs.getD j0 .undef).toL):=LK.carry (show LK Oc [] (fun _=>f j0) w (cid+j0) _ from h0) hp (fun b k hbk=>hr b k j0 (by simp) hbk) hn hm0;refine⟨by simp [g1],fun j hj=> ?_,fun p hp=> ?_⟩
    .cases j with
     | zero =>
      have hone:(f j0).oneCell'=true:=by
       rcases h0.2 with ⟨_,_,h3⟩ | ⟨_,g,cap,cur,h2,_⟩
       .have h3:f j0=_:=h3;rw[h3];rfl
       .have h2:f j0=_:=h2;rw[h2];rfl
      refine⟨hone,?_⟩;show match (J9 objs' (id+j0)).map Obj.shp with | some (.arr _ _)=>_ | some .mp=>_ | _=>True
      rw[hO0];exact hm0.symm
     | succ j =>have:=g2 j (by simpa using hj);rw[show j0+(j+1)=j0+1+j from by omega];simpa using this
    .rcases D8.1 hp with rfl | hp
     .exact⟨hor,j0,rfl,DW _,by simp⟩
     .obtain⟨a1,x,a2,a3,a4⟩:=g3 p hp;exact⟨a1,x,a2,by omega,by simp only[List.length_cons];omega⟩
   | bx t =>
    simp only[JW]at hok hO hm ⊢;obtain⟨hok1,hok2⟩:=hok.cons;obtain⟨g1,g2,g3⟩:=hrest hok2 (fun p hp=>hO p (D5 _ hp)) (fun p hp=>hm p (D5 _ hp));have hO0:=hO _ Dy;have hm0:=hm _ Dy j0 rfl;dsimp only at hO0 hm0;generalize cs.getD j0 .undef=c at *
    cases c with
    | box ds =>
     obtain⟨b,base,e1,e2⟩:=h0;refine⟨by simp [g1],fun j hj=> ?_,fun p hp=> ?_⟩
     .cases j with
      | zero =>
       refine⟨by rw[Nat.add_zero,e1];rfl,?_⟩;show match (J9 objs' (id+j0)).map Obj.shp with | some .box=>_ | _=>True
       rw[hO0];exact⟨b,base,by rw[hm0];exact e1,e1⟩
      | succ j =>have:=g2 j (by simpa using hj);rw[show j0+(j+1)=j0+1+j from by omega];simpa using this
     .rcases D8.1 hp with rfl | hp
      .refine⟨⟨b,base,by rw[hm0];exact e1,fun j hj=> ?_⟩,j0,rfl,DW _,by simp⟩;obtain⟨a1,a2,u,a3,a4⟩:=e2 j hj;exact⟨hr _ _ _ (by simp) a1,a2,u,a3,(JA.Ko ‹_› a4).toC⟩
      .obtain⟨a1,x,a2,a3,a4⟩:=g3 p hp;exact⟨a1,x,a2,by omega,by simp only[List.length_cons];omega⟩
    | _=>cases hok1
   | _=>have:=hok false (by simp [JW]);cases this
def AvO {cid id:Nat} {s:Sh} {x:A} {v:Value} (hp:N9 Oc w O' w) (hn: ∀ b k,Oc b k=none->O' b k=none) (h:IR Oc w cid v x) (hr: ∀ b k i,i<255->Oc b k=some (cid+i)->O' b k=some (id+i))
 (hok:JD (back id s x).1) (hO: ∀ p∈(back id s x).2.2,J9 objs' p.1=some p.2) (hm: ∀ p∈(back id s x).2.2,∀ i,p.1=id+i->m' p.1=O7 w (innerS w s v) i) :
 JH O' objs' m' w v (back id s x).2.1/\ ∀ p∈(back id s x).2.2,LK O' objs' m' w p.1 p.2:=by
 cases s with
 | cell u k =>
  simp only[back]at hok hO hm ⊢;obtain⟨hok1,hok2⟩:=hok.append;have hpl:=hok2.cons.1
  have hic:IC Oc w cid v x:=by
   have bad: ∀ cs l,x= .agg cs\/x= .box cs\/x= .ump l\/(∃ f,x= .cbx f cs)->False:=by rintro cs l (rfl | rfl | rfl | ⟨f,rfl⟩)<;>(cases u<;>cases k<;>first | (cases hpl;done) | (have:=hok1 false (by simp [JW,force,A.isB,A.isI,A.isS,A.AmH,A.Aha,A.AaR,A.AkY,A.isFn]);cases this))
   cases x with
   | agg cs=>exact(bad cs default (.inl rfl)).elim
   | box cs=>exact(bad cs default (.inr (.inl rfl))).elim
   | ump l=>exact(bad [] l (.inr (.inr (.inl rfl)))).elim
   | cbx f cs=>exact(bad cs default (.inr (.inr (.inr ⟨f,rfl⟩)))).elim
   | _=>exact h
  obtain⟨g1,g2,g3⟩:=Ub (cid:=cid) (id:=id) (f:=O7 w v) hp hn [(u,k)] [x] 0 (fun j hj=>by
   have:j=0:=by simpa using hj
   subst this;exact hic) (fun b k i hi hb=>hr b k i (by simp at hi;omega) hb) hok1 hO hm
  have:=g2 0 (by simp);exact⟨this.toT,fun p hp=>(g3 p hp).1⟩
 | agg ks =>
  simp only[back]at hok hO hm ⊢;obtain⟨hf,hok⟩:=hok.cons;have hf:=DR hf;obtain⟨hok1,hok2⟩:=hok.cons;cases x with
  | agg cs =>
   obtain⟨vs,h1,h2,h3⟩:=h;have hl:cs.length=ks.length:=by simpa [A.isAgg,XV]using hok1
   obtain⟨g1,g2,g3⟩:=Ub (objs':=objs') (m':=m') (cid:=cid+1) (id:=id+1) (f:=fun j=>vs.getD j undef) hp hn ks cs 0 (fun j hj=>by
    have:=h3 j (by omega);rw[DT];exact this) (fun b k i hi hb=>by
    have:=hr b k (1+i) (by omega) (by rw[<- EJ];exact hb);rw[<- EJ]at this;exact this) hok2 hO (fun p hp i hi=>by
    have:=hm p hp (i+1) (by omega);rw[this,h1];rfl)
   refine⟨⟨vs,h1,?_,fun j hj=> ?_⟩,fun p hp=>(g3 p hp).1⟩
   .show vs.size=(JW (id+1) ks cs 0).2.1.length;rw[h2,g1,hl]
   .have hj:j<(JW (id+1) ks cs 0).2.1.length:=hj;rw[g1]at hj;have:=g2 j hj;rwa [DT]at this
  | _=>simp [A.isAgg]at hok1
 | box ks =>
  simp only[back]at hok hO hm ⊢;obtain⟨hf,hok⟩:=hok.cons;have hf:=DR hf;obtain⟨hok1,hok2⟩:=hok.cons;cases x with
  | box cs =>
   obtain⟨b,base,h1,h2⟩:=h;have h1':O7 w v 0= .pointer (some (at' b base)):=by rw[h1];rfl
   have hl:cs.length=ks.length:=by simpa [A.Ap0,XV]using hok1
   have hcell: ∀ j,O7 w v (j+1)=(w.cell? (at' b (base+j))).getD undef:=by intro j;rw[h1];rfl
   obtain⟨g1,g2,g3⟩:=Ub (objs':=objs') (m':=m') (cid:=cid+1) (id:=id+1) (f:=fun j=>(w.cell? (at' b (base+j))).getD undef) hp hn ks cs 0 (fun j hj=>by
    obtain⟨_,_,u,h5,h6⟩:=h2 j (by omega);rw[DT,h5];exact h6) (fun b k i hi hb=>by
    have:=hr b k (1+i) (by omega) (by rw[<- EJ];exact hb);rw[<- EJ]at this;exact this) hok2 (fun p hp=>hO p (D5 _ hp)) (fun p hp i hi=>by
    have:=hm p (D5 _ hp) (i+1) (by omega);rw[this];exact hcell _)
   have hO0:=hO _ Dy;have hm0:=hm _ Dy 0 rfl;dsimp only at hO0 hm0;refine⟨?_,fun p hp=> ?_⟩
   .show JP O' objs' m' w v (.ptr id 0);refine⟨by rw[h1];rfl,?_⟩;show match (J9 objs' id).map Obj.shp with | some .box=>_ | _=>True
    rw[hO0];exact⟨b,base,by rw[hm0];exact h1',h1⟩
   .rcases D8.1 hp with rfl | hp
    .refine⟨b,base,by rw[hm0];exact h1',fun j hj=> ?_⟩;have hj:j<(JW (id+1) ks cs 0).2.1.length:=hj;rw[g1]at hj;obtain⟨a1,a2,u,a3,_⟩:=h2 j (by omega);have:=g2 j hj;rw[DT,a3]at this;exact⟨by have:=hr b (base+j) 0 (by omega) a1;exact this,a2,u,a3,this⟩
    .exact(g3 p hp).1
  | _=>simp [A.Ap0]at hok1
 | clo f' ks =>
  simp only[back]at hok hO hm ⊢;obtain⟨hf,hok⟩:=hok.cons;have hf:=DR hf;obtain⟨hok1,hok2⟩:=hok.cons;cases x with
  | cbx g cs =>
   have hg:f'=g:=by have h':=hok1;simp only[A.Ap1,Dw]at h';exact Dx h'.1
   subst hg;obtain⟨b,base,h1,h2⟩:=h;have h1':O7 w (innerS w (.clo f' ks) v) 0= .pointer (some (at' b base)):=h1.inner (ks:=ks);have hl:cs.length=ks.length:=by have h':=hok1;simp only[A.Ap1,Dw]at h';exact Dx h'.2
   have hcell: ∀ j,O7 w (innerS w (.clo f' ks) v) (j+1)=(w.cell? (at' b (base+j))).getD undef:=by intro j;rw[h1.inner (ks:=ks)];rfl
   obtain⟨g1,g2,g3⟩:=Ub (objs':=objs') (m':=m') (cid:=cid+1) (id:=id+1) (f:=fun j=>(w.cell? (at' b (base+j))).getD undef) hp hn ks cs 0 (fun j hj=>by
    obtain⟨_,_,u,h5,h6⟩:=h2 j (by omega);rw[DT,h5];exact h6) (fun b k i hi hb=>by
    have:=hr b k (1+i) (by omega) (by rw[<- EJ];exact hb);rw[<- EJ]at this;exact this) hok2 (fun p hp=>hO p (D5 _ hp)) (fun p hp i hi=>by
    have:=hm p (D5 _ hp) (i+1) (by omega);rw[this];exact hcell _)
   have hO0:=hO _ Dy;have hm0:=hm _ Dy 0 rfl;dsimp only at hO0 hm0;refine⟨?_,fun p hp=> ?_⟩
   .show JP O' objs' m' w v (.clo f' id);refine⟨by obtain⟨_,_,e,_⟩:=h1;rw[e];cases f'<;>rfl,_,rfl,h1.Ko hp,?_⟩;show match (J9 objs' id).map Obj.shp with | some .box=>_ | _=>True
    rw[hO0];exact⟨b,base,hm0.trans h1',rfl⟩
   .rcases D8.1 hp with rfl | hp
    .refine⟨b,base,by rw[hm0];exact h1',fun j hj=> ?_⟩;have hj:j<(JW (id+1) ks cs 0).2.1.length:=hj;rw[g1]at hj;obtain⟨a1,a2,u,a3,_⟩:=h2 j (by omega);have:=g2 j hj;rw[DT,a3]at this;exact⟨by have:=hr b (base+j) 0 (by omega) a1;exact this,a2,u,a3,this⟩
    .exact(g3 p hp).1
  | _=>simp [A.Ap1]at hok1
 | map kt vt =>
  simp only[back]at hok hO hm ⊢;obtain⟨l,rfl,_,_⟩:=Acs hok.cons.1;have hO0:=hO _ Dy;have hm0:=hm _ Dy 0 rfl;dsimp only at hO0 hm0;have h:PX Oc w cid v l:=h;have hm0:m' id=v:=hm0;have h2:PX O' w id v l:=h.carry hp (fun b k hb=>hr b k 0 (by omega) hb);refine⟨?_,fun p hp=> ?_⟩
  .show JP O' objs' m' w v (.own id);refine⟨by obtain⟨r,_,_,h1,_⟩:=h;rw[h1];rfl,?_⟩;rw[hO0];exact hm0.symm
  .obtain rfl:p=(id,.mp l):=Ei.1 hp;show PX O' w id (m' id) l;rw[hm0];exact h2
end
end Go.Proofs.YtfgdgdnlglejbaaGreatDoor.Vm
