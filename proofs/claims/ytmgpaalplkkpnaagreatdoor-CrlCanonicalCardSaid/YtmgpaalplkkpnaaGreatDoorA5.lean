import Derived.Test.YtmgpaalplkkpnaaGreatDoorA4
import Derived.MapKept
import Derived.Carry
set_option linter.all false
namespace Go.Proofs.YtmgpaalplkkpnaaGreatDoor.Vm
open Classical MapKept
def Ty.oC {α :Type} (r:Ty) (p:Ty.pr α r.Val r) (hu:r= .nil->True):r.mk2 (r.hd p) (r.tl p)=p:=by cases r<;>rfl
def Ty.same_eq: ∀(t:Ty) (a b:t.Val),t.same a b=true->a=b
 | .nil,_,_,_=>rfl
 | .bool r,a,b,h=>by simp only[Ty.same,Dq]at h;rw[<- Ty.oC r a (fun _=>trivial),<- Ty.oC r b (fun _=>trivial),FB h.1,Ty.same_eq r _ _ h.2]
 | .int _ r,a,b,h=>by simp only[Ty.same,Dq]at h;rw[<- Ty.oC r a (fun _=>trivial),<- Ty.oC r b (fun _=>trivial),FB h.1,Ty.same_eq r _ _ h.2]
 | .str r,a,b,h=>by simp only[Ty.same,Dq]at h;rw[<- Ty.oC r a (fun _=>trivial),<- Ty.oC r b (fun _=>trivial),FB h.1,Ty.same_eq r _ _ h.2]
 | .sl _ _ _,_,_,h=>by cases h
 | .ptr _,_,_,h=>by cases h
 | .fn _,_,_,h=>by cases h
 | .mp _ _ _,_,_,h=>by cases h
def Akj:List A->List A->Bool
 | .str x::xs,.str y::ys=>(x==y)&&Akj xs ys
 | _,_=>true
def RY:Nat->Ty
 | 0=>.nil
 | n+1=>.str (RY n)
def AxP: ∀(n:Nat) (a b:(RY n).Val),(RY n).same a b=Akj ((RY n).cells a) ((RY n).cells b):=by
 intro n
 induction n with
 | zero=>intro a b;rfl
 | succ n ih=>intro a b;show((_==_)&&_)=((_==_)&&_);rw[ih]
def A0u (n:Nat):tyl (List.replicate n [CK.str]).flatten=RY n:=by
 induction n with
 | zero=>rfl
 | succ n ih=>grind[tyl,RY]
def nY: ∀(n:Nat) (a:(RY n).Val) (j:Nat),j<n-> ∃ s,((RY n).cells a).getD j .undef= .str s:=by
 intro n
 induction n with
 | zero=>intro a j h;omega
 | succ n ih =>
  intro a j h;cases j with
  | zero=>exact⟨_,rfl⟩
  | succ j=>exact ih _ j (by omega)
def fnd {β :Type} (t:Ty) (k:t.Val):List MapEntry->List (t.Val× β)->Nat->Option (Nat×Value)
 | e::es,p::l,i=>bif t.same k p.1 then some (i,e.val)else fnd t k es l (i+1)
 | _,_,_=>none
def Ahs {β :Type} {t:Ty} {k:t.Val}: ∀(es:List MapEntry) (l:List (t.Val× β)) (i:Nat),es.length=l.length ->
 (fnd t k es l i=none/\Z7 t k l=none/\(∀ x,qO t k x l=l++[(k,x)])/\qJ t k l=l) \/
 ∃ j e p,fnd t k es l i=some (i+j,e.val)/\es[j]? =some e/\l[j]? =some p/\p.1=k/\Z7 t k l=some p.2/\(∀ x,qO t k x l=l.set j (p.1,x))/\qJ t k l=l.eraseIdx j:=by
 intro es
 induction es with
 | nil =>
  intro l i h;cases l with
  | nil=>exact .inl ⟨rfl,rfl,fun _=>rfl,rfl⟩
  | cons _ _=>cases h
 | cons e es ih =>
  intro l i h;cases l with
  | nil=>cases h
  | cons p l =>
   cases hs:t.same k p.1 with
   | true =>refine .inr ⟨0,e,p,by simp [fnd,hs],rfl,rfl,(Ty.same_eq _ _ _ hs).symm,by simp [Z7,hs],fun x=>by simp [qO,hs],by simp [qJ,hs]⟩
   | false =>
    rcases ih l (i+1) (by simpa using h)with ⟨h1,h2,h3,h4⟩ | ⟨j,e',p',h1,h2,h3,h4,h5,h6,h7⟩
    .simp_all[fnd,hs,Z7,qO,qJ,Ty]
    .exact .inr ⟨j+1,e',p',by simp only[fnd,hs,cond_false,h1];congr 2;omega,by simpa using h2,by simpa using h3,h4,by simp [Z7,hs,h5],fun x=>by simp [qO,hs,h6],by simp [qJ,hs,h7]⟩
section
variable {P:Program} {C:Ctx} {V0:Nat->Value} {O0 O:Own} {w0 w:World} {m:Nat->Value} {st:St} {a:Act} {o:Oper}
structure Aiq (P:Program) (O:Own) (w:World) (kt:TypeId) (t:Ty):Prop where
 check: ∀(e:Bool) (v:Value) (k:t.Val),Oi O w v (PO (t.cells k))->(Instr.checkKey e 10000 kt v).run P w= .ok () w
 find: ∀ {β :Type} (v:Value) (k:t.Val) (es:List MapEntry) (l:List (t.Val× β)),Oi O w v (PO (t.cells k))->es.length=l.length->(∀(i:Nat) e p,es[i]? =some e->l[i]? =some p->Oi O w e.key (PO (t.cells p.1))) ->
  (Instr.findKey kt v es).run P w= .ok (fnd t k es l 0) w
 stays: ∀(v u:Value) (k:t.Val),Oi O w v (PO (t.cells k))->Oi O w u (PO (t.cells k))->(Instr.keyThatStays u v).run P w= .ok v w
theorem Ag2 {β :Type} {t:Ty} {k:t.Val} {d:TypeDesc} {v:Value}: ∀(es:List MapEntry) (l:List (t.Val× β)) (i:Nat),es.length=l.length->(∀(i:Nat) (e:MapEntry) (p:t.Val× β),es[i]? =some e->l[i]? =some p->Instr.sameNow d v e.key=some (t.same k p.1)) ->
 Instr.findNow d v es i=some (fnd t k es l i):=by
 intro es
 induction es with
 | nil=>intro l i h _;cases l<;>rfl
 | cons e es ih =>
  intro l i h hs;cases l with
  | nil=>cases h
  | cons p l =>
   have h0:=hs 0 e p rfl rfl;have h1:=ih l (i+1) (by simpa using h) (fun i e p he hp=>hs (i+1) e p (by simpa using he) (by simpa using hp));cases hb:t.same k p.1 with
   | true=>rw[hb]at h0;simp [Instr.findNow,h0,fnd,hb]
   | false=>rw[hb]at h0;simp [Instr.findNow,h0,fnd,hb,h1]
theorem Atz {β :Type} {t:Ty} {k:t.Val} {kt:TypeId} {v:Value}: ∀(es:List MapEntry) (l:List (t.Val× β)) (i:Nat),es.length=l.length->(∀(i:Nat) (e:MapEntry) (p:t.Val× β),es[i]? =some e->l[i]? =some p->(Op.equal kt v e.key).run P w= .ok (t.same k p.1) w) ->
 (Instr.findAsking kt v es i).run P w= .ok (fnd t k es l i) w:=by
 intro es
 induction es with
 | nil=>intro l i h _;cases l<;>first | rfl | cases h
 | cons e es ih =>
  intro l i h hs;cases l with
  | nil=>cases h
  | cons p l =>
   have h0:=hs 0 e p rfl rfl;have h1:=ih l (i+1) (by simpa using h) (fun i e p he hp=>hs (i+1) e p (by simpa using he) (by simpa using hp));cases hb:t.same k p.1 with
   | true=>rw[hb]at h0;simp [Instr.findAsking,h0,fnd,hb]
   | false=>rw[hb]at h0;simp [Instr.findAsking,h0,fnd,hb,h1]
theorem jG {a b:ByteArray} (h:a.data.toList=b.data.toList):a=b:=by obtain⟨⟨x⟩⟩:=a;all_goals simp_all
theorem Ado (a b:ByteArray):(a==b)=(a.data.toList==b.data.toList):=by rw[EW,bytes_beq,EN];exact⟨fun h=>by rw[h],jG⟩
theorem JC.str' {v:Value} {s:List UInt8} (h:JC O w v (.str s)): ∃ b:ByteArray,v= .string b/\b.data.toList=s:=by cases h;exact⟨_,rfl,rfl⟩
theorem JC.int' {v:Value} {k:IntKind} {n:Int} (h:JC O w v (.int k n)):v= .int k n:=by cases h;rfl
theorem AzY (k k':List UInt8):(Ty.str .nil).same k k'=(k==k'):=GN _
theorem AzX (q:IntKind) (k k':Int):(Ty.int q .nil).same k k'=(k==k'):=GN _
theorem Asn (q:IntKind) (a b:Int):Instr.sameNow (.int q) (.int q a) (.int q b)=some (a==b):=by simp [Instr.sameNow]
theorem Axg {kt:TypeId} (hu:P.underlying kt=some .string):Aiq P O w kt (.str .nil) where
 check e v k h:=by obtain⟨b,rfl,_⟩:=JC.str' (show JC O w v (.str k)from h);exact run_checkKey hu (show IsKey .string (.string b)from trivial) e 9999
 find v k es l h hl hes:=by
  obtain⟨b,rfl,hb⟩:=JC.str' (show JC O w v (.str k)from h)
  have hn:Instr.findNow .string (.string b) es 0=some (fnd (.str .nil) k es l 0):=Ag2 es l 0 hl fun i e p he hp=>by
   obtain⟨b',h1,h2⟩:=JC.str' (show JC O w e.key (.str p.1)from hes i e p he hp);rw[h1];have e1:Instr.sameNow .string (.string b) (.string b')=some (b==b'):=by simp [Instr.sameNow]
   all_goals grind[AzY,Ado]
  simp [Instr.findKey,Ec hu,hn]
 stays v u k h h':=by
  obtain⟨b,rfl,hb⟩:=JC.str' (show JC O w v (.str k)from h);obtain⟨b',rfl,hb'⟩:=JC.str' (show JC O w u (.str k)from h');obtain rfl:b'=b:=jG (by rw[hb,hb']);have:(b'==b')=true:=by rw[Ado];simp
  simp [Instr.keyThatStays,Instr.sameBits,this]
theorem Axf {kt:TypeId} {q:IntKind} (hu:P.underlying kt=some (.int q)):Aiq P O w kt (.int q .nil) where
 check e v k h:=by obtain rfl:=JC.int' (show JC O w v (.int q k)from h);exact run_checkKey hu (show IsKey (.int q) (.int q k)from rfl) e 9999
 find v k es l h hl hes:=by
  obtain rfl:=JC.int' (show JC O w v (.int q k)from h);have hn:Instr.findNow (.int q) (.int q k) es 0=some (fnd (.int q .nil) k es l 0):=Ag2 es l 0 hl fun i e p he hp=>by rw[JC.int' (show JC O w e.key (.int q p.1)from hes i e p he hp)];exact(Asn q k p.1).trans (congrArg some (AzX q k p.1).symm)
  simp [Instr.findKey,Ec hu,hn]
 stays v u k h h':=by
  obtain rfl:=JC.int' (show JC O w v (.int q k)from h);obtain rfl:=JC.int' (show JC O w u (.int q k)from h');have:((k:Int)==(k:Int))=true:=by simp
  have:Instr.sameBits 10000 (.int q k) (.int q k)=true:=by
   have: ∀ n:Int,Instr.sameBits 10000 (.int q n) (.int q n)=true:=fun n=>by simp [Instr.sameBits]
   exact this k
  simp [Instr.keyThatStays,this]
theorem AhD {cs:List A} (h:cs.length≠1):PO cs= .agg cs:=by
 unfold PO;split
 .simp at h
 .rfl
theorem Axe {e:TypeId} {d:Nat} (hue:P.underlying e=some .string) {xs ys:Array Value} {cs ds:List A} (hx: ∀ j,j<cs.length->JC O w (xs.getD j undef) (cs.getD j .undef)) (hxs:xs.size=cs.length)
 (hy: ∀ j,j<ds.length->JC O w (ys.getD j undef) (ds.getD j .undef)) (hys:ys.size=ds.length) (hl:cs.length=ds.length) (hc: ∀ j,j<cs.length-> ∃ s,cs.getD j .undef= .str s) (hd: ∀ j,j<ds.length-> ∃ s,ds.getD j .undef= .str s) :
 ∀(n i:Nat),i+n=cs.length->(Op.eqItems (d+1) e 1 xs ys (List.range' i n)).run P w= .ok (Akj (cs.drop i) (ds.drop i)) w:=by
 intro n
 induction n with
 | zero =>intro i hi;have:cs.drop i=[]:=FX (by omega);rw[this];rfl
 | succ n ih =>
  intro i hi;have hi':i<cs.length:=by omega
  obtain⟨s,hs⟩:=hc i hi';obtain⟨s',hs'⟩:=hd i (by omega);have hx1:=hx i hi';have hy1:=hy i (by omega);rw[hs]at hx1;rw[hs']at hy1;obtain⟨b,hb1,hb2⟩:=hx1.str';obtain⟨b',hb1',hb2'⟩:=hy1.str'
  have ex:xs[i]? =some (.string b):=by
   have:i<xs.size:=by omega
   rw[DC this,<- hb1,Du,DC this];rfl
  have ey:ys[i]? =some (.string b'):=by
   have:i<ys.size:=by omega
   rw[DC this,<- hb1',Du,DC this];rfl
  have hpk:P.plainKey e=true:=by simp [Program.plainKey,hue]
  have p1:=run_part_plain w hpk (off:=i*1) (by rw[Fj];exact ex);have p2:=run_part_plain w hpk (off:=i*1) (by rw[Fj];exact ey);have p3:=run_equalIn_string (P:=P) w d e b b' hue;have ec:cs.drop i= .str s::cs.drop (i+1):=by rw[E8 hi',<- hs,Dj,DD hi'];rfl
  have ed:ds.drop i= .str s'::ds.drop (i+1):=by rw[E8 (by omega),<- hs',Dj,DD (by omega)];rfl
  rw[List.range'_succ,ec,ed];have ih':=ih (i+1) (by omega);simp only[Op.eqItems,DJ,p1,p2,p3,Result.andThen_ok];rw[wY,wY,hb2,hb2'];cases hbb:(s==s')with
  | false=>simp [Akj,hbb]
  | true=>simp [Akj,hbb,ih']
theorem AkA {e:TypeId} {em:Bool} {d:Nat} (hue:P.underlying e=some .string) (hsz:(sizeOf e).run P w= .ok 1 w) {xs:Array Value} {n:Nat} (hx: ∀ j,j<n-> ∃ b,xs[j]? =some (.string b)) :
 ∀(is:List Nat),(∀ i∈is,i<n)->(forIn is PUnit.unit fun i _=>do Instr.checkKey em (d+1) e (<- part e xs (i*(<- sizeOf e)));pure (ForInStep.yield PUnit.unit)).run P w= .ok PUnit.unit w:=by
 intro is
 induction is with
 | nil=>intro _;simp
 | cons j is ih =>
  intro h;obtain⟨b,hb⟩:=hx j (h j (by simp));have hpk:P.plainKey e=true:=by simp [Program.plainKey,hue]
  have p1:=run_part_plain w hpk (off:=j*1) (by rw[Fj];exact hb);have p2:=run_checkKey (P:=P) (w:=w) hue (k:=.string b) trivial em d;simp only[List.forIn_cons,DJ,hsz,Result.andThen_ok,p1,p2,Sem.run_pure];exact ih (fun i hi=>h i (by simp [hi]))
theorem Oi.agg' {v:Value} {cs:List A} (h:Oi O w v (.agg cs)): ∃ vs:Array Value,v= .agg vs/\vs.size=cs.length/\ ∀ j,j<cs.length->JC O w (vs.getD j undef) (cs.getD j .undef):=h
theorem AuD {kt e:TypeId} {n:Nat} {ie:TypeInfo} (hu:P.underlying kt=some (.array n e)) (hue:P.underlying e=some .string) (hie:P.info? e=some ie) (his:ie.size=1) (hn:1<n):Aiq P O w kt (RY n):=by
 have hlen: ∀ k:(RY n).Val,((RY n).cells k).length=n:=fun k=>by
  rw[Ty.Oj];have: ∀ n,(RY n).len=n:=by intro n;induction n with | zero=>rfl | succ n ih=>simp [RY,Ty.len,ih]
  exact this n
 have hag: ∀ k:(RY n).Val,PO ((RY n).cells k)= .agg ((RY n).cells k):=fun k=>AhD (by rw[hlen];omega);have hce:P.cellsOf e=1:=by simp [Program.cellsOf,hie,his]
 have hsz:(sizeOf e).run P w= .ok 1 w:=by simp [sizeOf,typeInfo,hie,his]
 have hstr: ∀ {vs:Array Value} {k:(RY n).Val},vs.size=n->(∀ j,j<n->JC O w (vs.getD j undef) (((RY n).cells k).getD j .undef))-> ∀ j,j<n-> ∃ b,vs[j]? =some (.string b):=by
  intro vs k hs h j hj;obtain⟨s,hs'⟩:=nY n k j hj;have h1:=h j hj;rw[hs']at h1;obtain⟨b,hb,_⟩:=h1.str';have hj':j<vs.size:=by omega
  exact⟨b,by rw[DC hj',<- hb,Du,DC hj'];rfl⟩
 refine⟨fun em v k h=> ?_,fun v k es l h hl hes=> ?_,fun v u k h h'=> ?_⟩
 .rw[hag]at h;obtain⟨vs,rfl,h1,h2⟩:=h.agg';rw[hlen]at h1 h2;rw[show(10000:Nat)=9998+1+1 from rfl,Instr.checkKey];simp only[DJ,Ec hu,Result.andThen_ok];simp only[Std.Legacy.Range.forIn_eq_forIn_range',Std.Legacy.Range.size,Nat.sub_zero,Nat.add_one_sub_one,Nat.div_one];rw[AkA (em:=em) (d:=9998) hue hsz (hstr h1 h2) (List.range' 0 n) (fun i hi=>by simpa using hi)];rfl
 .rw[hag]at h;obtain⟨vs,rfl,h1,h2⟩:=h.agg';rw[hlen]at h1 h2;have eqs: ∀(i:Nat) (e':MapEntry) p,es[i]? =some e'->l[i]? =some p->(Op.equal kt (.agg vs) e'.key).run P w= .ok ((RY n).same k p.1) w:=by intro i e' p he hp;have h3:=hes i e' p he hp;rw[hag]at h3;obtain⟨us,h4,h5,h6⟩:=h3.agg';rw[hlen]at h5 h6;rw[h4];show(Op.equalIn 10000 kt _ _).run P w=_;rw[show(10000:Nat)=9999+1 from rfl,run_equalIn_array w 9999 vs us hu hie,hce,List.range_eq_range',AxP];have:=Axe (P:=P) (O:=O) (w:=w) (d:=9998) hue (xs:=vs) (ys:=us) (cs:=(RY n).cells k) (ds:=(RY n).cells p.1) (by rw[hlen];exact h2) (by rw[hlen];exact h1) (by rw[hlen];exact h6) (by rw[hlen];exact h5) (by rw[hlen,hlen]) (by rw[hlen];exact nY n k) (by rw[hlen];exact nY n p.1) n 0 (by rw[hlen];omega);simpa using this
  have hnow: ∀(es:List MapEntry) (i:Nat),Instr.findNow (.array n e) (.agg vs) es i=if es=[]then some none else none:=by
   intro es i;cases es with
   | nil=>rfl
   | cons e' es=>simp [Instr.findNow,Instr.sameNow]
  simp only[Instr.findKey,DJ,Ec hu,Result.andThen_ok,hnow];cases es with
  | nil=>cases l<;>first | simp [fnd] | cases hl
  | cons e' es =>rw[Dk (by simp)];exact Atz _ l 0 hl eqs
 .rw[hag]at h h';obtain⟨vs,rfl,h1,h2⟩:=h.agg';obtain⟨us,rfl,h3,h4⟩:=h'.agg';have e:us=vs:=by rw[hlen]at h1 h2 h3 h4;apply FI (by omega);intro j hj1 hj2;obtain⟨s,hs⟩:=nY n k j (by omega);have a1:=h2 j (by omega);have a2:=h4 j (by omega);rw[hs]at a1 a2;obtain⟨b1,e1,f1⟩:=a1.str';obtain⟨b2,e2,f2⟩:=a2.str';rw[Du,DC hj2]at e1;rw[Du,DC hj1]at e2;have e1:vs[j]=_:=e1;have e2:us[j]=_:=e2;rw[e1,e2,jG (f1.trans f2.symm)]
  subst e
  have hsb:Instr.sameBits 10000 (.agg us) (.agg us)=true:=by
   show((us.size==us.size)&&(us.toList.zip us.toList).all _)=true;rw[Dq];refine⟨by simp,D8.2 fun p hp=> ?_⟩;obtain⟨i,hi⟩:=List.mem_iff_getElem?.1 hp;rw[GV]at hi;rw[hlen]at h1 h2;have hi1:i<us.size:=by have:=(Gl.1 hi.1).1;simpa using this
   obtain⟨b,hb⟩:=hstr h1 h2 i (by omega);have q1:p.1= .string b:=by have:=hi.1;rw[Eg,hb]at this;injection this with this;exact this.symm
   have q2:p.2= .string b:=by have:=hi.2;rw[Eg,hb]at this;injection this with this;exact this.symm
   obtain⟨p1,p2⟩:=p;dsimp only at q1 q2;subst q1;subst q2;show(b==b)=true;rw[Ado];simp
  simp [Instr.keyThatStays,hsb]
theorem Azu (hC:TOk P C) {t:Nat} {ta:TI} (ht:C.T t=some ta) (h:Aj5 C ta=true):Aiq P O w t (tyl ta.cs):=by
 have hT:=hC.is ht;have hu:=hT.d;have hck:=hT.ck;unfold Aj5 at h;split at h
 .rename_i hd;rw[hd]at hu;all_goals grind[P5,Axg,TOk,Aj5,tyl]
 .rename_i q hd;rw[hd]at hu;all_goals grind[P5,Axf,TOk,Aj5,tyl]
 .rename_i n e hd;rw[hd]at hu;split at h
  .rename_i te hte;simp only[Dq,EM]at h;have hTe:=hC.is hte;have hde:=Ael h.1;have hue:=hTe.d;rw[hde]at hue;have hcse:te.cs=[.str]:=by have:=hTe.ck;simp [P5,hue]at this;exact this.symm
   have hcs:ta.cs=(List.replicate n [CK.str]).flatten:=by all_goals grind[P5]
   rw[hcs,A0u];obtain⟨i,z,h1,h2,_⟩:=hTe.i;exact AuD hu hue h1 (by rw[h2,hcse];rfl) h.2
  .cases h
 .cases h
end
def Axc:A->Bool
 | .bool _ | .int _ _ | .str _ | .sl _ | .Me | .fn _ | .ump _=>true
 | _=>false
def Ty.SE: ∀(t:Ty) (v:t.Val),∀ c∈t.cells v,Axc c=true
 | .nil,_,c,h=>by cases h
 | .bool r,v,c,h=>by
  rcases D7.1 h with rfl | h
  .rfl
  .exact Ty.SE r _ c h
 | .int _ r,v,c,h=>by
  rcases D7.1 h with rfl | h
  .rfl
  .exact Ty.SE r _ c h
 | .str r,v,c,h=>by
  rcases D7.1 h with rfl | h
  .rfl
  .exact Ty.SE r _ c h
 | .sl _ _ r,v,c,h=>by
  rcases D7.1 h with rfl | h
  .rfl
  .exact Ty.SE r _ c h
 | .ptr r,v,c,h=>by
  rcases D7.1 h with rfl | h
  .rfl
  .exact Ty.SE r v c h
 | .fn r,v,c,h=>by
  rcases D7.1 h with rfl | h
  .rfl
  .exact Ty.SE r _ c h
 | .mp _ _ r,v,c,h=>by
  rcases D7.1 h with rfl | h
  .rfl
  .exact Ty.SE r _ c h
section
variable {P:Program} {C:Ctx} {V0:Nat->Value} {O0 O:Own} {w0 w:World} {m:Nat->Value} {st:St} {a:Act} {o:Oper}
theorem JO.data {Js:List (Nat×Obj)} {v:Value} {c:A} (h:JO O Js m w v c) (hd:Axc c=true):JC O w v c:=by cases c<;>first | exact h | exact h.elim | cases hd
theorem Oi.toT {Js:List (Nat×Obj)} {v:Value} {x:A} (h:Oi O w v x):JJ O Js m w v x/\T1 O Js m w v x:=by
 have cell: ∀ {v:Value} {x:A},JC O w v x->JO O Js m w v x:=fun h=>by cases h<;>first | exact .bool _ | exact .int _ _ | exact .str _ | exact .nil _ | exact .Me | exact .fn _ | exact .vT | exact JC.sl0 _ _ | (rename_i vs a1 a2 a3;exact JC.sl vs a1 a2 a3) | (rename_i h hn;exact JC.sln h hn)
 cases x with
 | agg cs=>grind[Obj,Oi,JJ,T1]
 | undef=>cases h
 | LC=>cases h
 | usl _ _ _=>cases h
 | ump _=>cases h
 | ptr _ _=>cases h
 | own _=>cases h
 | elt _=>cases h
 | Kt _ _ _=>cases h
 | tup _=>cases h
 | box _=>cases h
 | cbx _ _=>cases h
 | clo _ _=>cases h
 | bsl _ _=>cases h
 | osl _ _=>cases h
 | cnd _ _=>cases h
 | bool _=>exact⟨cell h,cell h⟩
 | int _ _=>exact⟨cell h,cell h⟩
 | str _=>exact⟨cell h,cell h⟩
 | sl _=>exact⟨cell h,cell h⟩
 | sln _=>exact⟨cell h,cell h⟩
 | Me=>exact⟨cell h,cell h⟩
 | fn _=>exact⟨cell h,cell h⟩
theorem Azs {xs:List A} (h:Au7 (.agg xs)=true):xs.length≠1:=by intro h1;obtain⟨c,rfl⟩:=FC.1 h1;cases h
theorem AsK {O':Own} {Js:List (Nat×Obj)} {v:Value} {x:A} {cs:List A} (ho:Au7 x=true) (hv:x.isVal=true) (hx:JJ O Js m w v x) (hl:cs.length=x.cells.length)
 (hrel: ∀ j,j<cs.length->JC O' w (v.cells.getD j undef) (cs.getD j .undef)):Oi O' w v (PO cs):=by
 have one:JO O Js m w v x->x.cells=[x]->Oi O' w v (PO cs):=by intro hc he;rw[he]at hl;obtain⟨c,rfl⟩:=FC.1 hl;have h0:=hrel 0 (by simp);rw[oneCell_cells hc.one]at h0;have h0:JC O' w v c:=h0;show Oi O' w v c;cases c<;>first | exact h0 | cases h0
 cases x with
 | agg xs =>obtain⟨vs,rfl,h2,h3⟩:=hx;have hl:cs.length=xs.length:=hl;rw[AhD (by rw[hl];exact Azs ho)];exact⟨vs,rfl,by rw[h2,hl],hrel⟩
 | undef=>cases hv
 | tup _=>cases hv
 | usl _ _ _=>cases hv
 | ump _=>cases hv
 | box _=>cases hv
 | cbx _ _=>cases hv
 | cnd _ _=>cases hv
 | _=>exact one hx rfl
theorem WG {r:Nat} {es:Array MapEntry} {ck:Nat} (hb:w.heap[r]? =some (.map es ck)):(getObj r).run P w= .ok (.map es ck) w:=by simp [getObj,Sem.run,hb]
theorem nS {r:Nat} {es:Array MapEntry} {ck:Nat} (x:Go.Obj) (hb:w.heap[r]? =some (.map es ck)):(setObj r x).run P w= .ok () {w with heap:=w.heap.setIfInBounds r x}:=by simp [setObj,Sem.run,hb]
theorem Ab5 {t:Nat} {k:TI->TI->Dl} (hok:JE (mapOf C t k).ok): ∃ ti kt et ta tb,C.T t=some ti/\ti.d= .map kt et/\C.T kt=some ta/\C.T et=some tb/\mapOf C t k=k ta tb:=by
 unfold mapOf at hok ⊢;obtain⟨ti,ht,he⟩:=Ky hok;rw[he]at hok ⊢;split at hok
 .rename_i kt et hd;obtain⟨ta,hta,he⟩:=Ky hok;rw[he]at hok;obtain⟨tb,htb,he'⟩:=Ky hok;exact⟨ti,kt,et,ta,tb,ht,hd,hta,htb,he.trans he'⟩
 .exact(JR hok).elim
theorem ApL {Js:List (Nat×Obj)} (hC:TOk P C) {kt:Nat} {ta tb:TI} (hta:C.T kt=some ta) {l:Mp} {i:A} {v:Value} (hi:JJ O Js m w v i) (hok:JE (Aov C ta tb l i)) :
 Aiq P O w kt l.kt/\Oi O w v (PO (l.kt.cells (l.kt.mk i.cells).2))/\Ao5 tb=true/\l.vt=tyl tb.cs:=by
 obtain⟨h1,hok⟩:=hok.cons;obtain⟨h2,hok⟩:=hok.cons;obtain⟨h3,hok⟩:=hok.cons;obtain⟨h4,hok⟩:=hok.cons;obtain⟨h5,hok⟩:=hok.cons;obtain⟨h6,hok⟩:=hok.cons;have h7:=hok.cons.1;have h3:=D6 h3;have hc:=Ty.UC _ _ h7;refine⟨by rw[h3];exact Azu hC hta h1,?_,h2,D6 h4⟩;obtain⟨g1,g2⟩:=hi.cells h5;refine AsK (Js:=Js) h6 h5 hi (by rw[hc]) (fun j hj=> ?_);have hd:=Ty.SE _ _ _ (Eo hj);have e:(l.kt.cells (l.kt.mk i.cells).2).getD j .undef=(l.kt.cells (l.kt.mk i.cells).2)[j]:=by rw[Dj,DD hj];rfl
 rw[<- e]at hd;rw[hc]at hd hj ⊢;exact(g2 j hj).data hd
theorem Ayj {t:Nat} {tb:TI} (hT:Xc P t tb) (hone:Ao5 tb=true) (hp:tb.cs.all CK.plain=true): ∃ z,(zeroValue t).run P w= .ok z w/\Oi O w z (PO ((tyl tb.cs).cells (tyl tb.cs).zero)):=by
 obtain⟨i,z,h1,h2,h3,h4,h5,h6⟩:=hT.i;refine⟨z,by simp [zeroValue,typeInfo,h1,h4],?_⟩;rw[Ty.Akx _ hp];have hv:=kQ (O:=O) (w:=w) _ _ h5 hp;have hl:=(Ue (O:=O) (Js:=[]) (m:=fun _=>undef) (w:=w) _ _ h5).1;have hone:tb.agg= !(Nat.beq tb.cs.length 1):=by simpa [Ao5]using hone
 rw[Ait,h6,Xl]at hone;cases z with
 | agg vs =>
  have hne:tb.cs.length≠1:=by simpa [qG]using hone
  rw[AhD (by simpa using hne)];refine⟨vs,rfl,?_,fun j hj=> ?_⟩
  .have:vs.toList.length=tb.cs.length:=hl;rw[Array.length_toList]at this;simpa using this
  .have:=hv j (by simpa using hj);have e:(Value.agg vs).cells.toList.getD j undef=vs.getD j undef:=by show vs.toList.getD j undef=_;rw[Du,Dj,Eg]
   rw[e]at this;exact this
 | _ =>
  have he:tb.cs.length=1:=by simpa [qG]using hone
  obtain⟨c,hc⟩:=FC.1 he;rw[hc]at hv ⊢;have:=hv 0 (by simp);have this:JC O w _ c.OV:=this;show Oi O w _ c.OV;cases hcz:c.OV<;>rw[hcz]at this<;>first | exact this | cases this
theorem ArN {t:Nat} {x i:Operand} {c:Bool} {Js:List (Nat×Obj)} {fet:Fet} (hC:TOk P C) (hF:FOk O Js m w fet) (ho:o.op= .lookup t x i c) {x' i':A} (hx:JJ O Js m w (a.eval x) x') (hi:JJ O Js m w (a.eval i) i')
 (hok:JE (Af6 C fet t c x' i').ok):Pure P O Js m a w o (Af6 C fet t c x' i'):=by
 unfold Af6 at hok ⊢;obtain⟨ti,kt,et,ta,tb,ht,hd,hta,htb,he⟩:=Ab5 hok;rw[he]at hok ⊢;clear he;obtain⟨p,hp,he⟩:=JW hok;rw[he]at hok ⊢;clear he;obtain⟨hok1,hok2⟩:=hok.append;have hpl:=hok2.cons.1;obtain⟨_,hv,hM⟩:=Ao2 hF hx hp;obtain⟨hK,hk,hone,hvt⟩:=ApL hC hta hi hok1;obtain⟨r,es,ck,h1,h2,h3,h4,h5⟩:=hM.lists;have hu:=(hC.is ht).d;rw[hd]at hu;have hfind:=hK.find (a.eval i) _ es.toList p.2.l hk h4 (fun i e p he hp=>(h5 i e p he hp).1);have hchk:=hK.check es.isEmpty (a.eval i) _ hk;obtain⟨z,hz1,hz2⟩:=Ayj (O:=O) (w:=w) (hC.is htb) hone hpl;rw[<- hvt]at hz2
 have key: ∃ u,(Instr.lookup t (a.eval x) (a.eval i) c).run P w= .ok (if c then .tuple #[u,.bool (Z7 p.2.kt (p.2.kt.mk i'.cells).2 p.2.l).isSome]else u) w /\
  Oi O w u (PO (p.2.vt.cells ((Z7 p.2.kt (p.2.kt.mk i'.cells).2 p.2.l).getD p.2.vt.zero))):=by
  rw[hv,h1];rcases Ahs (k:=(p.2.kt.mk i'.cells).2) es.toList p.2.l 0 h4 with ⟨f1,f2,_,_⟩ | ⟨j,e,q,f1,f2,f3,f4,f5,_,_⟩
  .refine⟨z,?_,by rw[f2];exact hz2⟩;simp [Instr.lookup,Ec hu,WG h2,hchk,hfind,f1,hz1,f2,Result.andThen]
  .refine⟨e.val,?_,by rw[f5];exact(h5 j e q f2 f3).2⟩;simp [Instr.lookup,Ec hu,WG h2,hchk,hfind,f1,f5,Result.andThen]
 obtain⟨u,hrun,hu2⟩:=key;refine⟨⟨if c then .tuple #[u,.bool (Z7 p.2.kt (p.2.kt.mk i'.cells).2 p.2.l).isSome]else u,?_,?_⟩,rfl,rfl,rfl⟩
 .simp only[execOp,ho,DJ,hrun,Result.andThen_ok,Sem.run_pure]
 .show JJ O Js m w _ (Alu _ _ _);unfold Alu;cases c with
  | false=>exact hu2.toT.1
  | true =>
   refine⟨#[u,.bool (Z7 p.2.kt (p.2.kt.mk i'.cells).2 p.2.l).isSome],rfl,rfl,fun j hj=> ?_⟩;have hj:j<2:=hj;rcases(show j=0\/j=1 by omega)with rfl | rfl
   .exact hu2.toT.2
   .exact JC.bool _
theorem AwT {r:Nat} {x y:Go.Obj} (hb:w.heap[r]? =some x):(w.heap.setIfInBounds r y)[r]? =some y/\ ∀ b,b≠r->(w.heap.setIfInBounds r y)[b]? =w.heap[b]? :=by grind
theorem Aca (hS:Sim V0 O0 w0 O m st a w) {q r ck ck':Nat} {es es':Array MapEntry} {l l':Mp} (hq:JA st.Js q=some (.mp l)) (hm:m q= .map (some r)) (hb:w.heap[r]? =some (.map es ck)) (hO:O r 0=some q) (hs:es'.size=l'.l.length)
 (hes: ∀(i:Nat) (p:l'.kt.Val×l'.vt.Val),l'.l[i]? =some p-> ∃ e,es'[i]? =some e/\Oi O w e.key (PO (l'.kt.cells p.1))/\Oi O w e.val (PO (l'.vt.cells p.2))) {d:Option Tmp} {v:Value} {x:A} (hx:d≠none-> ∀ O' objs' m' w',JJ O' objs' m' w' v x) :
 Sim V0 O0 w0 O m {tmps:=put st.tmps d x,Js:=LM st.Js q (.mp l')} (a.put d v) {w with heap:=w.heap.setIfInBounds r (.map es' ck')}:=by
 obtain⟨hb1,hb2⟩:=AwT (y:=.map es' ck') hb;have hM:Moves O (fun i=>i=q) w {w with heap:=w.heap.setIfInBounds r (.map es' ck')}:=Moves.map rfl rfl rfl (by simp) hb hb1 hb2 hO rfl;have hP:Passes O O (fun i=>i=q) w.heap.size:=⟨fun _ _ _ h=>h,fun _ _ _ _ h _=>h⟩
 have hpr:=hM.Kr hP
 have hE:RN st.Js m (LM st.Js q (.mp l')) m (fun _=>False):=by
  intro i y hy;rw[KA]at hy;by_cases hi:i=q
  .rw[Dn hi]at hy;injection hy with hy;subst hy;subst hi;exact .inr ⟨_,hq,rfl,rfl⟩
  .rw[Dk hi]at hy;exact .inr ⟨y,hy,rfl,rfl⟩
 refine hS.next (st':= {tmps:=put st.tmps d x,Js:=LM st.Js q (.mp l')}) (T:=fun i=>i=q) (Nw:=fun _=>False) hM hP (fun b k _ h=>h) hE (fun _ h=>h.elim) (fun r' hr=>by rw[hr,hq];rfl) (fun i y hy=> ?_) rfl (fun h=>hx h _ _ _ _);rw[KA]at hy;by_cases hi:i=q
 .right;rw[Dn hi]at hy;injection hy with hy;subst hy;subst hi;refine⟨(⟨r,es',ck',hm,hb1,hO,hs,fun j p hp=> ?_⟩:PD O _ i (m i) l'),hS.ids i _ hq⟩;obtain⟨e,k1,k2,k3⟩:=hes j p hp;exact⟨e,k1,k2.Kr hpr,k3.Kr hpr⟩
 .left;rw[Dk hi]at hy;exact⟨hi,hy,rfl⟩
theorem ApR {t:Nat} {r:Option Operand} {xs:List A} (hC:TOk P C) (hS:Sim V0 O0 w0 O m st a w) {d:Nat} (hd:o.dst=some d) (ho:o.op= .makeMap t r) (hr:xs.length=r.toArray.size) (hok:JE (Ym C d t xs).ok) (hfr: ∀ p∈(Ym C d t xs).new,st.fresh p.1=true) :
 Good P V0 O0 w0 (apply st o (Ym C d t xs)) o a w:=by
 intro next Q hn
 unfold Ym at *
 obtain⟨ti,kt,et,ta,tb,ht,hd',hta,htb,he⟩:=Ab5 hok;rw[he]at hok hfr hn;clear he;have hx:xs=[]:=by simpa using hok.cons.1
 subst hx;have hr0:r=none:=by cases r with | none=>rfl | some _=>simp at hr
 subst hr0;have hfresh:=N9 (hfr _ Dv);have hrun:(execOp a.eval o).run P w= .ok (.value (.map (some w.heap.size))) (w.alloc (.map #[] 0)):=by have:(Instr.makeMap t none).run P w= .ok (.map (some w.heap.size)) (w.alloc (.map #[] 0)):=rfl;simp only[execOp,ho,Option.map_none,DJ,this,Result.andThen_ok,Sem.run_pure]
 unfold Oper.wp;rw[hrun,Oper.upon_value,hd];let id:=b2 d;let O':Own:=fun b k=>if b=w.heap.size then some id else O b k;let m':Nat->Value:=fun i=>if i=id then .map (some w.heap.size)else m i;have hlt: ∀ {b k},b<w.heap.size->O' b k=O b k:=fun hb=>Dk (Hz hb);have hM:Moves O (fun _=>False) w (w.alloc (.map #[] 0)):=Moves.push _;have hP:Passes O O' (fun _=>False) w.heap.size:=⟨fun b k hb h=>by rw[hlt hb];exact h,fun b k q hb h _=>by rw[hlt hb];exact h⟩
 let ob:Vm.Obj:=.mp ⟨tyl ta.cs,tyl tb.cs,[]⟩
 have hget: ∀ i y,JA (LM st.Js id ob) i=some y->(i=id/\y=ob)\/(i≠id/\JA st.Js i=some y):=by
  intro i y hy;rw[KA]at hy;by_cases hi:i=id
  .rw[Dn hi]at hy;injection hy with hy;exact .inl ⟨hi,hy.symm⟩
  .rw[Dk hi]at hy;exact .inr ⟨hi,hy⟩
 have hE:RN st.Js m (LM st.Js id ob) m' (fun i=>i=id):=by
  intro i y hy;rcases hget i y hy with ⟨h1,_⟩ | ⟨h1,h2⟩
  .exact .inl h1
  .exact .inr ⟨y,h2,rfl,Dk h1⟩
 refine hn O' m' _ _ ?_;have happ: ∀ ok,apply st o {ok:=ok,val:=.own (b2 d),new:=[(b2 d,ob)]}= {tmps:=put st.tmps (some d) (.own id),Js:=LM st.Js id ob}:=by intro ok;unfold apply;rw[hd];rfl
 rw[happ];refine hS.next (st':= {tmps:=put st.tmps (some d) (.own id),Js:=LM st.Js id ob}) (x:=.own id) (T:=fun _=>False) (Nw:=fun i=>i=id) hM hP (fun b k hb h=>by rw[hlt hb]at h;exact h) hE (fun n hn=>by rw[hn];exact hfresh.both) (fun _ h=>h.elim) (fun i y hy=> ?_) rfl (fun _=> ?_)
 .rcases hget i y hy with ⟨h1,h2⟩ | ⟨h1,h2⟩
  .right;subst h1;subst h2;refine⟨(⟨w.heap.size,#[],0,Dn rfl,Abu _ _,Dn rfl,rfl,fun i p hp=>by cases hp⟩:PD O' _ id (m' id) _),hfresh.ne⟩
  .exact .inl ⟨fun h=>h,h2,Dk h1⟩
 .refine⟨rfl,?_⟩;all_goals grind[JA,LM,Obj.shp,KA]
theorem Az7 {α :Type} {l:List α} {j:Nat} {x: α} {i:Nat} {p: α} (h:(l.set j x)[i]? =some p):(i=j/\p=x/\j<l.length)\/(i≠j/\l[i]? =some p):=by
 rw[FN]at h;by_cases hi:j=i
 .simp_all[hi,split]
 .rw[Dk hi]at h;exact .inr ⟨fun e=>hi e.symm,h⟩
theorem AgY {t:Nat} {x i y:Operand} (hC:TOk P C) (hS:Sim V0 O0 w0 O m st a w) (hd:o.dst=none) (ho:o.op= .mapUpdate t x i y\/o.op= .insert t x i y) {fet:Fet} (hf:Pz st.Js fet) {x' i' y':A} (hx:JJ O st.Js m w (a.eval x) x') (hi:JJ O st.Js m w (a.eval i) i') (hy:JJ O st.Js m w (a.eval y) y')
 (hok:JE (AaO C fet t x' i' y').ok):Good P V0 O0 w0 (apply st o (AaO C fet t x' i' y')) o a w:=by
 intro next Q hn
 have hF:FOk O st.Js m w fet:=fun q x h=>⟨hf q x h,hS.Js q x (hf q x h)⟩
 unfold AaO at *
 obtain⟨ti,kt,et,ta,tb,ht,hd',hta,htb,he⟩:=Ab5 hok;rw[he]at hok hn;clear he;obtain⟨p,hp,he⟩:=JW hok;rw[he]at hok hn;clear he;obtain⟨hokA,hokB⟩:=hok.append;have hmk:=hokB.cons.1;obtain⟨hokA,hokP⟩:=hokA.append;obtain⟨hok1,hokV⟩:=hokA.append;obtain⟨hv1,hokV⟩:=hokV.cons;have hv2:=hokV.cons.1;obtain⟨hq,hv,hM⟩:=Ao2 hF hx hp;obtain⟨hK,hk,hone,hvt⟩:=ApL hC hta hi hok1;obtain⟨hyc1,hyc2⟩:=hy.cells hv1;obtain⟨g1,g2,g3,g4⟩:=VW (O:=O) (m:=m) (w:=w) hf tb.cs y'.cells (fun j=>(a.eval y).cells.getD j undef) hyc2 hokP;generalize hpu:KQ fet tb.cs y'.cells=pu at *
 obtain⟨O1,hS1,hp1,hle1,hv1',hE1,hk1⟩:=hS.freezes _ g3;have hNR:NR st.Js p.1:=.of hq (fun _ _ _ h=>by cases h)
 have hq1:JA (JL st.Js pu.2.2) p.1=some (.mp p.2):=by
  rw[MR _ _ _ (fun z hz e=> ?_)]
  .exact hq
  .obtain⟨e',f',l',h1,_⟩:=g3 z hz;rw[e]at h1;exact hNR _ _ _ h1
 obtain⟨r,es,ck,h1,h2,h3,h4,h5⟩:=(show PD O1 w p.1 (m p.1) p.2 from hS1.Js p.1 _ hq1).lists;have hu:=(hC.is ht).d;rw[hd']at hu;have hM0:=hM.lists;obtain⟨r0,es0,ck0,k1,k2,k3,k4,k5⟩:=hM0;rw[h1]at k1;injection k1 with k1;injection k1 with k1;subst k1;rw[h2]at k2;injection k2 with k2;injection k2 with k2 k2';subst k2;subst k2';have hfind:=hK.find (a.eval i) _ es.toList p.2.l hk k4 (fun i e p he hp=>(k5 i e p he hp).1);have hchk:=hK.check false (a.eval i) _ hk;have hk':Oi O1 w (a.eval i) (PO (p.2.kt.cells (p.2.kt.mk i'.cells).2)):=hk.Kr hp1;have hcells:=Ty.UC _ _ hmk;have hval:Oi O1 w (a.eval y) (PO (p.2.vt.cells (p.2.vt.mk pu.2.1).2)):=by rw[hcells];refine AsK (Js:=st.Js) hv2 hv1 hy (by rw[g1,g2]) (fun j hj=>g4 hp1 hv1' j (by rw[<- g1];exact hj))
 have happ: ∀ ok l',apply st o {ok:=ok,val:=.undef,upd:=pu.2.2++[(p.1,.mp l')]}= {tmps:=put st.tmps none .undef,Js:=LM (JL st.Js pu.2.2) p.1 (.mp l')}:=by
  intro ok l';unfold apply;rw[hd]
  have: ∀(u:List (Nat×Vm.Obj)) (l:List (Nat×Vm.Obj)) n z,JL l (u++[(n,z)])=LM (JL l u) n z:=by
   intro u
   induction u with
   | nil=>intro l n z;rfl
   | cons q u ih=>intro l n z;exact ih _ _ _
  show St.mk _ (JL (Kz (JL st.Js (pu.2.2++[(p.1,.mp l')])) []) [])=_;rw[this];rfl
 rcases Ahs (k:=(p.2.kt.mk i'.cells).2) es.toList p.2.l 0 k4 with ⟨f1,_,f3,_⟩ | ⟨j,e,q,f1,f2,f3,f4,_,f6,_⟩
 .have hrun:(execOp a.eval o).run P w= .ok .skip {w with heap:=w.heap.setIfInBounds r (.map (es.push {key:=a.eval i,val:=a.eval y,born:=ck}) (ck+1))}:=by
   have:(Instr.mapUpdate t (a.eval x) (a.eval i) (a.eval y)).run P w= .ok () {w with heap:=w.heap.setIfInBounds r (.map (es.push {key:=a.eval i,val:=a.eval y,born:=ck}) (ck+1))}:=by rw[hv,h1];simp [Instr.mapUpdate,Ec hu,WG h2,hchk,hfind,f1,nS _ h2,Result.andThen]
   rcases ho with ho | ho<;>simp only[execOp,ho,DJ,this,Result.andThen_ok,Sem.run_pure]
  unfold Oper.wp;rw[hrun,Oper.upon_skip,hd];refine hn O1 m _ _ ?_;rw[happ];refine Aca hS1 (d:=none) (v:=undef) hq1 h1 h2 h3 (by rw[f3,Array.size_push,Dp,<- k4,Array.length_toList];rfl) (fun i0 p0 hp0=> ?_) (fun h=>absurd rfl h);have hp0:(qO p.2.kt (p.2.kt.mk i'.cells).2 (p.2.vt.mk pu.2.1).2 p.2.l)[i0]? =some p0:=hp0;rw[f3]at hp0;have hsz:es.size=p.2.l.length:=by rw[<- k4,Array.length_toList]
  rcases Ej i0 p.2.l.length with hlt | hge
  .rw[Es hlt]at hp0;have hlt':i0<es.size:=by omega
   have hes:es.toList[i0]? =some es[i0]:=by rw[Eg,DC hlt']
   refine⟨es[i0],by rw[IL,A51,DC hlt'],h5 i0 _ p0 hes hp0⟩
  .rw[EJ hge]at hp0
   have h0:i0 - p.2.l.length=0:=by
    rcases IX (i0 - p.2.l.length)with h | h
    .exact h
    .rw[Ed (by show 1<=_;omega)]at hp0;cases hp0
   rw[h0]at hp0;injection hp0 with hp0;subst hp0;exact⟨_,by rw[IL,A52],hk',hval⟩
 .have hstay:=hK.stays (a.eval i) e.key _ hk (by rw[<- f4];exact(k5 j e q f2 f3).1);have f2':es[j]? =some e:=by rw[<- Eg];exact f2
  have hrun:(execOp a.eval o).run P w= .ok .skip {w with heap:=w.heap.setIfInBounds r (.map (es.modify j fun e=> {e with key:=a.eval i,val:=a.eval y}) ck)}:=by
   have:(Instr.mapUpdate t (a.eval x) (a.eval i) (a.eval y)).run P w= .ok () {w with heap:=w.heap.setIfInBounds r (.map (es.modify j fun e=> {e with key:=a.eval i,val:=a.eval y}) ck)}:=by rw[hv,h1];simp [Instr.mapUpdate,Ec hu,WG h2,hchk,hfind,f1,f2',hstay,nS _ h2,Result.andThen]
   rcases ho with ho | ho<;>simp only[execOp,ho,DJ,this,Result.andThen_ok,Sem.run_pure]
  unfold Oper.wp;rw[hrun,Oper.upon_skip,hd];refine hn O1 m _ _ ?_;rw[happ];refine Aca hS1 (d:=none) (v:=undef) hq1 h1 h2 h3 (by rw[f6,Array.size_modify,Gg,<- k4,Array.length_toList]) (fun i0 p0 hp0=> ?_) (fun h=>absurd rfl h);have hp0:(qO p.2.kt (p.2.kt.mk i'.cells).2 (p.2.vt.mk pu.2.1).2 p.2.l)[i0]? =some p0:=hp0;rw[f6]at hp0;rcases Az7 hp0 with ⟨q1,q2,_⟩ | ⟨q1,q2⟩
  .subst q1;subst q2;refine⟨_,by rw[G8,Dn rfl,f2'];rfl,?_,hval⟩;dsimp only;rw[f4];exact hk'
  .have hlt:i0<es.size:=by
    have:=(Gl.1 q2).1;rw[<- k4,Array.length_toList]at this;exact this
   have hes:es.toList[i0]? =some es[i0]:=by rw[Eg,DC hlt]
   exact⟨es[i0],by rw[G8,Dk (fun h=>q1 h.symm),DC hlt],h5 i0 _ p0 hes q2⟩
theorem Ar2 {t:Nat} {x i:Operand} {c:Call} (hC:TOk P C) (hS:Sim V0 O0 w0 O m st a w) (ho:o.op= .call c) (hcal:c.callee= .builtin .delete) (hargs:c.args= #[x,i]) {ts:List Nat} (hts:c.argTypes.toList=t::ts) {fet:Fet} (hf:Pz st.Js fet) {x' i':A} (hx:JJ O st.Js m w (a.eval x) x') (hi:JJ O st.Js m w (a.eval i) i')
 (hok:JE (zZ C fet t x' i').ok):Good P V0 O0 w0 (apply st o (zZ C fet t x' i')) o a w:=by
 intro next Q hn
 have hF:FOk O st.Js m w fet:=fun q x h=>⟨hf q x h,hS.Js q x (hf q x h)⟩
 unfold zZ at *
 obtain⟨ti,kt,et,ta,tb,ht,hd',hta,htb,he⟩:=Ab5 hok;rw[he]at hok hn;clear he;obtain⟨p,hp,he⟩:=JW hok;rw[he]at hok hn;clear he;obtain⟨hq,hv,hM⟩:=Ao2 hF hx hp;obtain⟨hK,hk,hone,hvt⟩:=ApL hC hta hi hok;obtain⟨r,es,ck,h1,h2,h3,h4,h5⟩:=hM.lists;have hu:=(hC.is ht).d;rw[hd']at hu;have hts0:c.argTypes[0]? =some t:=by rw[<- Eg,hts];rfl
 have hfind:=hK.find (a.eval i) _ es.toList p.2.l hk h4 (fun i e p he hp=>(h5 i e p he hp).1);have hchk:=hK.check es.isEmpty (a.eval i) _ hk;have happ: ∀ ok l',apply st o {ok:=ok,val:=.tup [],upd:=[(p.1,.mp l')]}= {tmps:=put st.tmps o.dst (.tup []),Js:=LM st.Js p.1 (.mp l')}:=by intro ok l';rfl
 have hT: ∀(O':Own) (objs':List (Nat×Vm.Obj)) (m':Nat->Value) (w':World),JJ O' objs' m' w' (.tuple #[]) (.tup []):=fun _ _ _ _=>⟨#[],rfl,rfl,fun j hj=>by cases hj⟩
 have main: ∀(es':Array MapEntry),(Builtin.delete_ c.argTypes o.type #[a.eval x,a.eval i]).run P w= .ok (.tuple #[]) {w with heap:=w.heap.setIfInBounds r (.map es' ck)}->es'.size=(qJ p.2.kt (p.2.kt.mk i'.cells).2 p.2.l).length ->
  (∀(i0:Nat) (p0:p.2.kt.Val×p.2.vt.Val),(qJ p.2.kt (p.2.kt.mk i'.cells).2 p.2.l)[i0]? =some p0-> ∃ e,es'[i0]? =some e/\Oi O w e.key (PO (p.2.kt.cells p0.1))/\Oi O w e.val (PO (p.2.vt.cells p0.2)))->o.wp P a w next Q:=by
  intro es' hr hs he;have hrun:(execOp a.eval o).run P w= .ok (.value (.tuple #[])) {w with heap:=w.heap.setIfInBounds r (.map es' ck)}:=by simp [execOp,ho,resolve,hcal,hargs,invoke,builtin,hr]
  unfold Oper.wp;rw[hrun,Oper.upon_value];refine hn O m _ _ ?_;rw[happ];exact Aca (l':=⟨p.2.kt,p.2.vt,qJ p.2.kt (p.2.kt.mk i'.cells).2 p.2.l⟩) hS hq (by rw[<- h1]) h2 h3 hs he (fun _=>hT)
 have hsz:es.size=p.2.l.length:=by rw[<- h4,Array.length_toList]
 rcases Ahs (k:=(p.2.kt.mk i'.cells).2) es.toList p.2.l 0 h4 with ⟨f1,_,_,f3⟩ | ⟨j,e,q,f1,f2,f3,f4,_,_,f6⟩
 .refine main es ?_ (by rw[f3];exact hsz) (fun i0 p0 hp0=> ?_)
  .rw[hv,h1];simp [Builtin.delete_,hts0,Ec hu,WG h2,hchk,hfind,f1,nS _ h2,Result.andThen]
  .rw[f3]at hp0;have hlt:i0<es.size:=by have:=(Gl.1 hp0).1;omega
   have hes:es.toList[i0]? =some es[i0]:=by rw[Eg,DC hlt]
   exact⟨es[i0],DC hlt,h5 i0 _ p0 hes hp0⟩
 .have hj:j<es.size:=by
   have:=(Gl.1 f2).1;simpa using this
  have hel:(es.eraseIdxIfInBounds j).toList=es.toList.eraseIdx j:=by unfold Array.eraseIdxIfInBounds;rw[Iq hj];simp
  refine main (es.eraseIdxIfInBounds j) ?_ ?_ (fun i0 p0 hp0=> ?_)
  .rw[hv,h1];simp [Builtin.delete_,hts0,Ec hu,WG h2,hchk,hfind,f1,nS _ h2,Result.andThen]
  all_goals grind[Oi,PO,split]
end
open Classical
def IC (O:Own) (w:World) (id:Nat) (v:Value):A->Prop
 | .usl z e l=>Lt O [] (fun _=>v) w id (.arr e z l)
 | .box cs=> ∃ b base,v= .pointer (some (at' b base))/\ ∀ j,j<cs.length->O b (base+j)=some id/\w.frozen? (at' b (base+j))=false/\ ∃ u,w.cell? (at' b (base+j))=some u/\JC O w u (cs.getD j .undef)
 | a=>JC O w v a
def IR (O:Own) (w:World) (id:Nat) (v:Value):A->Prop
 | .agg cs=> ∃ vs:Array Value,v= .agg vs/\vs.size=cs.length/\ ∀ j,j<cs.length->IC O w (id+1+j) (vs.getD j undef) (cs.getD j .undef)
 | .box cs=> ∃ b base,v= .pointer (some (at' b base))/\ ∀ j,j<cs.length->O b (base+j)=some id/\w.frozen? (at' b (base+j))=false/\ ∃ u,w.cell? (at' b (base+j))=some u/\IC O w (id+1+j) u (cs.getD j .undef)
 | .cbx k cs=> ∃ b base,lU O w k v (.pointer (some (at' b base)))/\ ∀ j,j<cs.length->O b (base+j)=some id/\w.frozen? (at' b (base+j))=false/\ ∃ u,w.cell? (at' b (base+j))=some u/\IC O w (id+1+j) u (cs.getD j .undef)
 | .ump l=>PD O w id v l
 | a=>IC O w id v a
section
variable {P:Program} {C:Ctx} {V0:Nat->Value} {O0 O:Own} {w0 w:World} {m:Nat->Value} {st:St} {a:Act} {o:Oper}
theorem JC.ic {id:Nat} {v:Value} {x:A} (h:JC O w v x):IC O w id v x:=by cases h<;>first | exact .bool _ | exact .int _ _ | exact .str _ | exact .nil _ | exact .Me | exact .fn _ | exact .vT | exact JC.sl0 _ _ | (rename_i vs a1 a2 a3;exact JC.sl vs a1 a2 a3) | (rename_i h hn;exact JC.sln h hn)
def OH (O:Own) (ρ :Nat->Option Nat):Own:=fun b k=>match O b k with
 | none=>none
 | some o=>match ρ o with
  | some i=>some i
  | none=>some 255
theorem aF {ρ :Nat->Option Nat} {b k:Nat}:OH O ρ b k=none↔O b k=none:=by grind[OH]
theorem WT {ρ :Nat->Option Nat} {b k o i:Nat} (h:O b k=some o) (hr: ρ o=some i):OH O ρ b k=some i:=by unfold OH;rw[h];simp [hr]
theorem WS (ρ :Nat->Option Nat):N8 O w (OH O ρ) w:=fun _ _ _ h hc=>⟨aF.2 h,hc⟩
theorem Lt.OH {ρ :Nat->Option Nat} {q i e:Nat} {z:Bool} {l:Sl} {Js objs':List (Nat×Obj)} {m m':Nat->Value} (h:Lt O Js m w q (.arr e z l)) (hr: ρ q=some i) (hm:m' i=m q) :
 Lt (OH O ρ) objs' m' w i (.arr e z l):=by
 refine⟨h.1,?_⟩;rcases h.2 with ⟨h1,h2,h3⟩ | ⟨h1,g,cap,cur,h2,h3,h4,h5,h6,h7,h8,h9⟩
 .exact .inl ⟨h1,h2,by rw[hm];exact h3⟩
 .refine .inr ⟨h1,g,cap,cur,by rw[hm];exact h2,h3,h4,h5,h6,fun r j hr' hj=> ?_,fun k hk hge=>WT (h8 k hk hge) hr,fun k hk=> ?_⟩
  .obtain⟨u,h10,h11⟩:=h7 r j hr' hj;exact⟨u,h10,h11.Kr (WS ρ)⟩
  .have:=h9 k hk;cases z with
   | true=>exact aF.2 this
   | false=>exact WT this hr
theorem Lt.keep {O':Own} {q e:Nat} {l:Sl} {Js objs':List (Nat×Obj)} {m:Nat->Value} (h:Lt O Js m w q (.arr e false l)) (hp:N8 O w O' w) (hk: ∀ b k,O b k=some q->O' b k=some q):Lt O' objs' m w q (.arr e false l):=by
 refine⟨h.1,?_⟩;rcases h.2 with h0 | ⟨h1,g,cap,cur,h2,h3,h4,h5,h6,h7,h8,h9⟩
 .exact .inl h0
 .refine .inr ⟨h1,g,cap,cur,h2,h3,h4,h5,h6,fun r j hr' hj=> ?_,fun k a b=>hk _ _ (h8 k a b),fun k a=>hk _ _ (h9 k a)⟩;obtain⟨u,h10,h11⟩:=h7 r j hr' hj;exact⟨u,h10,h11.Kr hp⟩
theorem WI {W:Prop} {fet:Fet} (hf:Pz st.Js fet) (hS: ∀ q y,JA st.Js q=some y->Lt O st.Js m w q y): ∀(ks:List (Bool×CK)) (cs:List A) (id:Nat) (f:Nat->Value),(ks.any wC=true->W)->(∀ j,j<cs.length->JO O st.Js m w (f j) (cs.getD j .undef))->JE (JG fet ks cs).1 ->
 (JG fet ks cs).2.1.length=ks.length/\cs.length=ks.length/\Frz st.Js (JG fet ks cs).2.2.1/\(JG fet ks cs).2.2.2=(LY id ks cs).map (·.1) /\
 ∀ {O':Own} {objs':List (Nat×Obj)} {ρ :Nat->Option Nat},N8 O w O' w->(∀ p∈(JG fet ks cs).2.2.1,∀ e l,p.2= .arr e true l->JC O' w (m p.1) (.sl l)) ->
  (∀ p∈(JG fet ks cs).2.2.1,Lt O' objs' m w p.1 p.2)->(∀ b k q,O b k=some q->(NR st.Js q\/W)->O' b k=some q)->(∀ p∈LY id ks cs,ρ p.1=some p.2) ->
  ∀ j,j<ks.length->IC (OH O' ρ) w (id+j) (f j) ((JG fet ks cs).2.1.getD j .undef):=by
 intro ks
 induction ks with
 | nil =>
  intro cs id f _ _ hok;cases cs with
  | nil=>exact⟨rfl,rfl,(fun p hp=>by simp [JG]at hp),rfl,fun _ _ _ _ _ j hj=>by simp at hj⟩
  | cons _ _=>have:=hok false (by simp [JG]);cases this
 | cons k ks ih =>
  intro cs id f hW h hok;obtain⟨u,k⟩:=k;cases cs with
  | nil=>have:=hok false (by cases u<;>simp [JG]);cases this
  | cons c cs =>
   have hrest:=fun hok2=>ih cs (id+1) (fun j=>f (j+1)) (fun h=>hW (by rw[List.any_cons,h,EF])) (fun j hj=>by simpa using h (j+1) (by simpa using hj)) hok2;cases u with
   | false =>
    simp only[JG]at hok ⊢;obtain⟨hok1,hok2⟩:=hok.append;obtain⟨h1,h2⟩:=Aqs hf (h 0 (by simp)) hok1;obtain⟨h3,h4,h5,h6,h7⟩:=hrest hok2;have hnames:LY id ((false,k)::ks) (c::cs)=LY (id+1) ks cs:=by cases c<;>rfl
    refine⟨by simp [h3],by simp [h4],h1.append h5,by rw[hnames];exact h6,fun {O' objs' ρ} hp hv hO hbx hρ j hj=> ?_⟩;rw[hnames]at hρ;cases j with
    | zero =>have hvr:=(h2 hp (fun p hp=>hv p (D9 _ hp))).Kr (WS ρ);exact hvr.ic
    | succ j =>have:=h7 hp (fun p hp=>hv p (DF _ hp)) (fun p hp=>hO p (DF _ hp)) hbx hρ j (by simpa using hj);rw[show id+(j+1)=id+1+j from by omega];simpa using this
   | true =>
    cases k with
    | sl e sz =>
     cases c with
     | own q =>
      simp only[JG]at hok ⊢;cases hg:JA fet q with
      | none=>rw[hg]at hok;have:=hok false (by simp);cases this
      | some x =>
       cases x with
       | box _=>rw[hg]at hok;have:=hok false (by simp);cases this
       | mp _=>rw[hg]at hok;have:=hok false (by simp);cases this
       | arr e' fz l =>
        rw[hg]at hok;dsimp only at hok ⊢;obtain⟨hok1,hok2⟩:=hok.append;obtain⟨e1,e2⟩:=hok1.cons;have e1:=Dy e1;subst e1;obtain⟨h3,h4,h5,h6,h7⟩:=hrest hok2;have hq:=hf q _ hg;refine⟨by simp [h3],by simp [h4],fun p hp=> ?_,?_,fun {O' objs' ρ} hp hv hO hbx hρ j hj=> ?_⟩
        .rcases D7.1 hp with rfl | hp
         .exact⟨e,fz,l,hq,rfl⟩
         .exact h5 p hp
        .simp only[LY,Ee,h6]
        .cases j with
         | zero =>have hc:JO O st.Js m w (f 0) (.own q):=h 0 (by simp);have hc:=hc.2;rw[hq]at hc;simp only[Option.map_some,Obj.shp]at hc;have:=hO _ Dv;exact this.OH (objs':=[]) (m':=fun _=>f 0) (hρ (q,id) Dv) hc
         | succ j =>have:=h7 hp (fun p hp=>hv p (Dx _ hp)) (fun p hp=>hO p (Dx _ hp)) hbx (fun p hp=>hρ p (Dx _ hp)) j (by simpa using hj);rw[show id+(j+1)=id+1+j from by omega];simpa using this
     | LC =>
      simp only[JG]at hok ⊢;obtain⟨h3,h4,h5,h6,h7⟩:=hrest hok;have hnames:LY id ((true,.sl e sz)::ks) (.LC::cs)=LY (id+1) ks cs:=rfl;refine⟨by simp [h3],by simp [h4],h5,by rw[hnames];exact h6,fun {O' objs' ρ} hp hv hO hbx hρ j hj=> ?_⟩;rw[hnames]at hρ;cases j with
      | zero =>have hc:JO O st.Js m w (f 0) .LC:=h 0 (by simp);have hc:f 0= .slice none 0 0:=hc;show Lt _ [] (fun _=>f 0) w _ (.arr e true ⟨sz,[]⟩);exact⟨by simp [Sl.es],.inl ⟨trivial,rfl,hc⟩⟩
      | succ j =>have:=h7 hp hv hO hbx hρ j (by simpa using hj);rw[show id+(j+1)=id+1+j from by omega];simpa using this
     | _=>have:=hok false (by simp [JG]);cases this
    | sln e sz =>
     cases c with
     | own q =>
      simp only[JG]at hok ⊢;cases hg:JA fet q with
      | none=>rw[hg]at hok;have:=hok false (by simp);cases this
      | some x =>
       cases x with
       | box _=>rw[hg]at hok;have:=hok false (by simp);cases this
       | mp _=>rw[hg]at hok;have:=hok false (by simp);cases this
       | arr e' fz l =>
        rw[hg]at hok;dsimp only at hok ⊢;obtain⟨hok1,hok2⟩:=hok.append;obtain⟨e1,e2⟩:=hok1.cons;obtain⟨_,e3⟩:=e2.cons;have e3:fz=false:=by simpa using e3.cons.1
        subst e3;have e1:=Dy e1;subst e1;obtain⟨h3,h4,h5,h6,h7⟩:=hrest hok2;have hq:=hf q _ hg;refine⟨by simp [h3],by simp [h4],h5,?_,fun {O' objs' ρ} hp hv hO hbx hρ j hj=> ?_⟩
        .simp only[LY,Ee,h6]
        .cases j with
         | zero =>have hc:JO O st.Js m w (f 0) (.own q):=h 0 (by simp);have hc:=hc.2;rw[hq]at hc;simp only[Option.map_some,Obj.shp]at hc;exact(Lt.keep (objs':=st.Js) (hS q _ hq) hp fun b k hb=>hbx b k q hb (.inr (hW rfl))).OH (objs':=[]) (m':=fun _=>f 0) (hρ (q,id) Dv) hc
         | succ j =>have:=h7 hp hv hO hbx (fun p hp=>hρ p (Dx _ hp)) j (by simpa using hj);rw[show id+(j+1)=id+1+j from by omega];simpa using this
     | LC =>
      simp only[JG]at hok ⊢;obtain⟨h3,h4,h5,h6,h7⟩:=hrest hok;have hnames:LY id ((true,.sln e sz)::ks) (.LC::cs)=LY (id+1) ks cs:=rfl;refine⟨by simp [h3],by simp [h4],h5,by rw[hnames];exact h6,fun {O' objs' ρ} hp hv hO hbx hρ j hj=> ?_⟩;rw[hnames]at hρ;cases j with
      | zero =>have hc:JO O st.Js m w (f 0) .LC:=h 0 (by simp);have hc:f 0= .slice none 0 0:=hc;show Lt _ [] (fun _=>f 0) w _ (.arr e false ⟨sz,[]⟩);exact⟨by simp [Sl.es],.inl ⟨trivial,rfl,hc⟩⟩
      | succ j =>have:=h7 hp hv hO hbx hρ j (by simpa using hj);rw[show id+(j+1)=id+1+j from by omega];simpa using this
     | _=>have:=hok false (by simp [JG]);cases this
    | bx t =>
     cases c with
     | ptr q off =>
      simp only[JG]at hok ⊢;cases hg:MB fet q with
      | none=>rw[hg]at hok;have:=hok false (by simp);cases this
      | some zs =>
       rw[hg]at hok;dsimp only at hok ⊢;obtain⟨hok0,hok1⟩:=hok.cons;obtain⟨hok1,hok2⟩:=hok1.append;have hok0:=Dy hok0;subst hok0;obtain⟨h3,h4,h5,h6,h7⟩:=hrest hok2;have hq:=hf q _ (LW hg);obtain⟨b,base,g1,g2⟩:=hS q _ hq;have hv0:f 0= .pointer (some (at' b base)):=by have hc:JO O st.Js m w (f 0) (.ptr q 0):=h 0 (by simp);have hc:=hc.2;rw[hq]at hc;simp only[Option.map_some,Obj.shp]at hc;obtain⟨b',base',g3,g4⟩:=hc;rw[g1]at g3;injection g3 with g3;injection g3 with g3;injection g3 with e1 e2;subst e1;subst e2;exact g4
       have hfc: ∀ j,j<zs.length->w.cell? (at' b (base+j))=some ((w.cell? (at' b (base+j))).getD undef)/\JO O st.Js m w ((w.cell? (at' b (base+j))).getD undef) (zs.getD j .undef):=by intro j hj;obtain⟨_,_,u,h3,h4⟩:=g2 j hj;rw[h3];exact⟨rfl,h4⟩
       obtain⟨p1,p2,p3,p4⟩:=VW hf (tck t) zs (fun j=>(w.cell? (at' b (base+j))).getD undef) (fun j hj=>(hfc j hj).2) hok1;refine⟨by simp [h3],by simp [h4],p3.append h5,?_,fun {O' objs' ρ} hp hv hO hbx hρ j hj=> ?_⟩
       .simp only[LY,Ee,h6]
       .cases j with
        | zero =>
         refine⟨b,base,hv0,fun j hj=> ?_⟩;have hj:j<(KQ fet (tck t) zs).2.1.length:=hj;rw[p1]at hj;have hj':j<zs.length:=by rw[p2];exact hj
         obtain⟨k1,k2,_⟩:=g2 j hj';exact⟨WT (hbx _ _ _ k1 (.inl (.of hq (fun _ _ _ h=>by cases h)))) (hρ (q,id) Dv),k2,_,(hfc j hj').1,(p4 hp (fun p hp=>hv p (D9 _ hp)) j hj).Kr (WS ρ)⟩
        | succ j =>have:=h7 hp (fun p hp=>hv p (DF _ hp)) (fun p hp=>hO p (DF _ hp)) hbx (fun p hp=>hρ p (Dx _ hp)) j (by simpa using hj);rw[show id+(j+1)=id+1+j from by omega];simpa using this
     | _=>have:=hok false (by simp [JG]);cases this
    | _=>have:=hok false (by simp [JG]);cases this
end
section
variable {P:Program} {C:Ctx} {V0:Nat->Value} {O0 O:Own} {w0 w:World} {m:Nat->Value} {st:St} {a:Act} {o:Oper}
theorem Ap5 {W:Prop} {fet:Fet} (hf:Pz st.Js fet) {s:Sh} {x:A} {v:Value} {id:Nat} (hW:wS s=true->W) (hx:JJ O st.Js m w v x) (hS: ∀ q y,JA st.Js q=some y->Lt O st.Js m w q y) (hok:JE (JZ fet s x).ok) :
 Frz st.Js (JZ fet s x).upd/\(∀ q∈(JZ fet s x).del++(JZ fet s x).boxes.map (·.1),q∈(OY fet id s x).map (·.1))/\(∀ q∈(OY fet id s x).map (·.1),q∈(JZ fet s x).del++(JZ fet s x).boxes.map (·.1)) /\
 (KJ s=true↔(JZ fet s x).boxes≠ []) /\
 ∀ {O':Own} {objs':List (Nat×Obj)} {ρ :Nat->Option Nat},N8 O w O' w->(∀ p∈(JZ fet s x).upd,∀ e l,p.2= .arr e true l->JC O' w (m p.1) (.sl l)) ->
  (∀ p∈(JZ fet s x).upd,Lt O' objs' m w p.1 p.2)->(∀ b k q,O b k=some q->(NR st.Js q\/W)->O' b k=some q)->(∀ p∈OY fet id s x,ρ p.1=some p.2) ->
  IR (OH O' ρ) w id v (JZ fet s x).a:=by
 cases s with
 | cell u k =>
  unfold JZ at *
  dsimp only at hok ⊢
  have hall: ∀ hc:JO O st.Js m w v x,_:=fun hc=>WI hf hS [(u,k)] [x] id (fun _=>v) (fun h=>hW (by rw[List.any_cons,List.any_nil,FP]at h;exact h)) (fun j hj=>by
   have:j=0:=by simpa using hj
   subst this;exact hc)
  have hnc: ∀(h:JE (JG fet [(u,k)] [x]).1),JO O st.Js m w v x:=by
   intro h;cases x with
   | undef=>cases u<;>cases k<;>(have:=h false (by simp [JG,pur]);cases this)
   | agg _=>cases u<;>cases k<;>(have:=h false (by simp [JG,pur]);cases this)
   | tup _=>cases u<;>cases k<;>(have:=h false (by simp [JG,pur]);cases this)
   | cnd _ _=>cases u<;>cases k<;>(have:=h false (by simp [JG,pur]);cases this)
   | _=>exact hx
  generalize hh:JG fet [(u,k)] [x]=r at *
  obtain⟨ok,cs,upd,del⟩:=r;cases cs with
  | nil=>have:=hok false (by simp);cases this
  | cons c cs =>
   cases cs with
   | cons _ _=>have:=hok false (by simp);cases this
   | nil =>
    dsimp only at hok ⊢;obtain⟨h1,h2,h3,h4,h5⟩:=hall (hnc hok) hok;have h4:del=(LY id [(u,k)] [x]).map (·.1):=h4;refine⟨h3,fun q hq=> ?_,fun q hq=> ?_,⟨(fun h=>by cases h),fun h=>absurd rfl h⟩,fun {O' objs' ρ} hp hv hO hbx hρ => ?_⟩
    .simp only[Ff,DX]at hq;rw[h4]at hq;exact hq
    .simp only[Ff,DX];rw[h4];exact hq
    .have:=h5 hp hv hO hbx hρ 0 (by simp);have e: [c].getD 0 .undef=c:=rfl;dsimp only at this;rw[e]at this;cases c<;>first | exact this | (obtain⟨b,base,e1,e2⟩:=this;exact⟨b,base,e1,fun j hj=>let ⟨k1,k2,u,k3,k4⟩:=e2 j hj;⟨k1,k2,u,k3,k4.ic⟩⟩) | cases this
 | agg ks =>
  cases x with
  | agg cs =>
   unfold JZ at *
   dsimp only at hok ⊢;obtain⟨vs,g1,g2,g3⟩:=hx;obtain⟨h1,h2,h3,h4,h5⟩:=WI hf hS ks cs (id+1) (fun j=>vs.getD j undef) hW g3 hok;refine⟨h3,fun q hq=> ?_,fun q hq=> ?_,⟨(fun h=>by cases h),fun h=>absurd rfl h⟩,fun {O' objs' ρ} hp hv hO hbx hρ => ?_⟩
   .simp only[Ff,DX]at hq;rw[h4]at hq;exact hq
   .simp only[Ff,DX];rw[h4];exact hq
   .exact⟨vs,g1,by rw[g2,h1,h2],fun j hj=>h5 hp hv hO hbx hρ j (by rw[<- h1];exact hj)⟩
  | _=>have:=hok false (by simp [JZ]);cases this
 | box ks =>
  cases x with
  | ptr q off =>
   unfold JZ at *
   dsimp only at hok ⊢;cases hg:MB fet q with
   | none=>rw[hg]at hok;have:=hok false (by simp);cases this
   | some cs =>
    rw[hg]at hok;dsimp only at hok ⊢;obtain⟨ho0,hokA⟩:=hok.cons;obtain⟨_,hokB⟩:=hokA.cons;have ho0:=Dy ho0;subst ho0;have hq:=hf q _ (LW hg);obtain⟨b,base,g1,g2⟩:=hS q _ hq;have hv0:v= .pointer (some (at' b base)):=by have hc:JO O st.Js m w v (.ptr q 0):=hx;have hc:=hc.2;all_goals grind[Obj.shp]
    let f:Nat->Value:=fun j=>(w.cell? (at' b (base+j))).getD undef
    have hfc: ∀ j,j<cs.length->w.cell? (at' b (base+j))=some (f j)/\JO O st.Js m w (f j) (cs.getD j .undef):=by
     intro j hj;obtain⟨_,_,u,h3,h4⟩:=g2 j hj;have:f j=u:=by show(w.cell? _).getD _=_;rw[h3];rfl
     rw[this];exact⟨h3,h4⟩
    obtain⟨h1,h2,h3,h4,h5⟩:=WI hf hS ks cs (id+1) f hW (fun j hj=>(hfc j hj).2) hokB;have hnames:OY fet id (.box ks) (.ptr q 0)=(q,id)::LY (id+1) ks cs:=by simp only[OY,hg]
    rw[hnames];refine⟨h3,fun r hr=> ?_,fun r hr=> ?_,⟨fun _=>by simp,fun _=>rfl⟩,fun {O' objs' ρ} hp hv hO hbx hρ => ?_⟩
    .simp only[Ee,Ff,DK,DR]at hr;rcases hr with hr | hr
     .rw[h4]at hr;exact Dx _ hr
     .rw[hr];exact Dv
    .simp only[Ee,Ff,DK,DR];rcases D7.1 hr with hr | hr
     .exact .inr hr
     .left;rw[h4];exact hr
    .refine⟨b,base,hv0,fun j hj=> ?_⟩;rw[h1]at hj;obtain⟨k1,k2,u,k3,_⟩:=g2 j (by rw[h2];exact hj);refine⟨WT (hbx _ _ _ k1 (.inl (.of hq (fun _ _ _ h=>by cases h)))) (hρ (q,id) Dv),k2,f j,(hfc j (by rw[h2];exact hj)).1,h5 hp hv hO hbx (fun p hp'=>hρ p (Dx _ hp')) j hj⟩
  | _=>have:=hok false (by simp [JZ]);cases this
 | clo f' ks =>
  cases x with
  | clo g q =>
   unfold JZ at *
   dsimp only at hok ⊢;cases hg:MB fet q with
   | none=>rw[hg]at hok;have:=hok false (by simp);cases this
   | some cs =>
    rw[hg]at hok;dsimp only at hok ⊢;obtain⟨ho0,hokA⟩:=hok.cons;obtain⟨_,hokB⟩:=hokA.cons;have ho0:=Dy ho0;subst ho0;have hq:=hf q _ (LW hg);obtain⟨b,base,g1,g2⟩:=hS q _ hq;have hv0:lU O w f' v (.pointer (some (at' b base))):=by have hc:JO O st.Js m w v (.clo f' q):=hx;obtain⟨_,p,_,hc2,hc⟩:=hc;rw[hq]at hc;obtain⟨b',base',e1,e2⟩:=hc;rw[g1]at e1;rw[e1,<- e2];exact hc2
    let f:Nat->Value:=fun j=>(w.cell? (at' b (base+j))).getD undef
    have hfc: ∀ j,j<cs.length->w.cell? (at' b (base+j))=some (f j)/\JO O st.Js m w (f j) (cs.getD j .undef):=by
     intro j hj;obtain⟨_,_,u,h3,h4⟩:=g2 j hj;have:f j=u:=by show(w.cell? _).getD _=_;rw[h3];rfl
     rw[this];exact⟨h3,h4⟩
    obtain⟨h1,h2,h3,h4,h5⟩:=WI hf hS ks cs (id+1) f hW (fun j hj=>(hfc j hj).2) hokB;have hnames:OY fet id (.clo f' ks) (.clo f' q)=(q,id)::LY (id+1) ks cs:=by simp only[OY,hg]
    rw[hnames];refine⟨h3,fun r hr=> ?_,fun r hr=> ?_,⟨fun _=>by simp,fun _=>rfl⟩,fun {O' objs' ρ} hp hv hO hbx hρ => ?_⟩
    .simp only[Ee,Ff,DK,DR]at hr;rcases hr with hr | hr
     .rw[h4]at hr;exact Dx _ hr
     .rw[hr];exact Dv
    .simp only[Ee,Ff,DK,DR];rcases D7.1 hr with hr | hr
     .exact .inr hr
     .left;rw[h4];exact hr
    .refine⟨b,base,(hv0.Kr hp).Kr (WS ρ),fun j hj=> ?_⟩;rw[h1]at hj;obtain⟨k1,k2,u,k3,_⟩:=g2 j (by rw[h2];exact hj);refine⟨WT (hbx _ _ _ k1 (.inl (.of hq (fun _ _ _ h=>by cases h)))) (hρ (q,id) Dv),k2,f j,(hfc j (by rw[h2];exact hj)).1,h5 hp hv hO hbx (fun p hp'=>hρ p (Dx _ hp')) j hj⟩
  | _=>have:=hok false (by simp [JZ]);cases this
 | map kt vt =>
  cases x with
  | own q =>
   unfold JZ at *
   dsimp only at hok ⊢;cases hg:JA fet q with
   | none=>rw[hg]at hok;have:=hok false (by simp);cases this
   | some y =>
    cases y with
    | box _=>rw[hg]at hok;have:=hok false (by simp);cases this
    | arr _ _ _=>rw[hg]at hok;have:=hok false (by simp);cases this
    | mp l =>
     rw[hg]at hok;dsimp only at hok ⊢;have hq:=hf q _ hg;have hv0:v=m q:=by have hc:JO O st.Js m w v (.own q):=hx;have hc:=hc.2;rw[hq]at hc;exact hc
     refine⟨(fun p hp=>by cases hp),fun r hr=> ?_,fun r hr=> ?_,⟨fun _=>by simp,fun _=>rfl⟩,fun {O' objs' ρ} hp hv hO hbx hρ => ?_⟩
     .simpa [OY]using hr
     .simpa [OY]using hr
     .obtain⟨r,es,ck,g1,g2,g3,g4,g5⟩:=(show PD O w q (m q) l from hS q _ hq)
      refine⟨r,es,ck,by rw[hv0];exact g1,g2,WT (hbx _ _ _ g3 (.inl (.of hq (fun _ _ _ h=>by cases h)))) (hρ (q,id) Dv),g4,fun i p hip=> ?_⟩;obtain⟨e,k1,k2,k3⟩:=g5 i p hip;exact⟨e,k1,(k2.Kr hp).Kr (WS ρ),(k3.Kr hp).Kr (WS ρ)⟩
  | _=>have:=hok false (by simp [JZ]);cases this
theorem jS {W:Prop} {fet:Fet} (hf:Pz st.Js fet) (hS: ∀ q y,JA st.Js q=some y->Lt O st.Js m w q y) (stride:Nat): ∀(ss:List Sh) (xs:List A) (id:Nat) (f:Nat->Value),(ss.any wS=true->W)->(∀ j,j<xs.length->JJ O st.Js m w (f j) (xs.getD j .undef))->JE (JS fet ss xs).1 ->
 (JS fet ss xs).2.1.length=ss.length/\xs.length=ss.length/\Frz st.Js (JS fet ss xs).2.2.1 /\
 (∀ q,q∈(JS fet ss xs).2.2.2.1++(JS fet ss xs).2.2.2.2.map (·.1)↔q∈(Oh fet id stride ss xs).map (·.1)) /\
 ∀ {O':Own} {objs':List (Nat×Obj)} {ρ :Nat->Option Nat},N8 O w O' w->(∀ p∈(JS fet ss xs).2.2.1,∀ e l,p.2= .arr e true l->JC O' w (m p.1) (.sl l)) ->
  (∀ p∈(JS fet ss xs).2.2.1,Lt O' objs' m w p.1 p.2)->(∀ b k q,O b k=some q->(NR st.Js q\/W)->O' b k=some q)->(∀ p∈Oh fet id stride ss xs,ρ p.1=some p.2) ->
  ∀ j,j<ss.length->IR (OH O' ρ) w (id+stride*j) (f j) ((JS fet ss xs).2.1.getD j .undef):=by
 intro ss
 induction ss with
 | nil =>
  intro xs id f _ _ hok;cases xs with
  | nil=>exact⟨rfl,rfl,(fun p hp=>by simp [JS]at hp),(fun q=>by simp [JS,Oh]),fun _ _ _ _ _ j hj=>by simp at hj⟩
  | cons _ _=>have:=hok false (by simp [JS]);cases this
 | cons s ss ih =>
  intro xs id f hW h hok;cases xs with
  | nil=>have:=hok false (by simp [JS]);cases this
  | cons x xs =>
   simp only[JS]at hok ⊢;obtain⟨hok1,hok2⟩:=hok.append;obtain⟨h1,h2,h3,_,h4⟩:=Ap5 (id:=id) hf (fun e=>hW (by rw[List.any_cons,e,DU])) (h 0 (by simp)) hS hok1;obtain⟨g1,g2,g3,g4,g5⟩:=ih xs (id+stride) (fun j=>f (j+1)) (fun e=>hW (by rw[List.any_cons,e,EF])) (fun j hj=>by simpa using h (j+1) (by simpa using hj)) hok2;refine⟨by simp [g1],by simp [g2],h1.append g3,fun q=> ?_,fun {O' objs' ρ} hp hv hO hbx hρ j hj=> ?_⟩
   .grind[Oh,a1,a2,a3]
   .cases j with
    | zero=>simpa using h4 hp (fun p hp=>hv p (D9 _ hp)) (fun p hp=>hO p (D9 _ hp)) hbx (fun p hp=>hρ p (D9 _ hp))
    | succ j =>have:=g5 hp (fun p hp=>hv p (DF _ hp)) (fun p hp=>hO p (DF _ hp)) hbx (fun p hp=>hρ p (DF _ hp)) j (by simpa using hj);rw[show id+stride*(j+1)=id+stride+stride*j from by rw[Jl];omega];simpa using this
end
def A2s:Value->Value
 | .func g fi caps=>caps.getD 0 (.func g fi caps)
 | v=>v
def deref (w:World):Value->Value
 | .pointer (some a)=>(w.cell? a).getD undef
 | _=>undef
def innerS (w:World):Sh->Value->Value
 | .clo _ _,v=>deref w (A2s v)
 | _,v=>v
def lU.inner {O:Own} {w:World} {k:Nat} {v p:Value} {ks:List (Bool×CK)} (h:lU O w k v p):innerS w (.clo k ks) v=p:=by obtain⟨b,j,h1,_,h3⟩:=h;rw[h1];cases k<;>(show(w.cell? _).getD _=_;rw[h3];rfl)
def Oz (w:World) (v:Value):Nat->Value
 | 0=>v
 | x+1=>match v with
  | .agg vs=>vs.getD x undef
  | .pointer (some a)=>(w.cell? (at' a.block (a.off+x))).getD undef
  | _=>undef
section
variable {Oc O':Own} {w:World} {objs':List (Nat×Obj)} {m':Nat->Value}
theorem Lt.carry {Js:List (Nat×Obj)} {m:Nat->Value} {c i e:Nat} {z:Bool} {l:Sl} (h:Lt Oc Js m w c (.arr e z l)) (hp:N8 Oc w O' w) (hr: ∀ b k,Oc b k=some c->O' b k=some i) (hn: ∀ b k,Oc b k=none->O' b k=none) (hm:m' i=m c) :
 Lt O' objs' m' w i (.arr e z l):=by
 refine⟨h.1,?_⟩;rcases h.2 with ⟨h1,h2,h3⟩ | ⟨h1,g,cap,cur,h2,h3,h4,h5,h6,h7,h8,h9⟩
 .grind[Obj,Lt,N8]
 .refine .inr ⟨h1,g,cap,cur,by rw[hm];exact h2,h3,h4,h5,h6,fun r j hr' hj=> ?_,fun k hk hge=>hr _ _ (h8 k hk hge),fun k hk=> ?_⟩
  .obtain⟨u,h10,h11⟩:=h7 r j hr' hj;exact⟨u,h10,h11.Kr hp⟩
  .grind[Obj,Lt,N8]
theorem PD.carry {c i:Nat} {v:Value} {l:Mp} (h:PD Oc w c v l) (hp:N8 Oc w O' w) (hr: ∀ b k,Oc b k=some c->O' b k=some i):PD O' w i v l:=by obtain⟨r,es,ck,h1,h2,h3,h4,h5⟩:=h;refine⟨r,es,ck,h1,h2,hr _ _ h3,h4,fun j p hj=> ?_⟩;obtain⟨e,k1,k2,k3⟩:=h5 j p hj;exact⟨e,k1,k2.Kr hp,k3.Kr hp⟩
theorem Aby {kt vt:Ty} {a:A} (h:a.Abx kt vt=true): ∃ l,a= .ump l/\l.kt=kt/\l.vt=vt:=by
 cases a with
 | ump l =>have h':(decide (l.kt=kt)&&decide (l.vt=vt))=true:=h;all_goals grind[Ty]
 | _=>cases h
theorem JC.toC {v:Value} {a:A} (h:JC O' w v a):JO O' objs' m' w v a:=by cases a<;>first | exact h | (cases h;done)
theorem ArA {id:Nat} {k:CK} {v:Value} {c:A} (h:IC Oc w id v c) (hp:N8 Oc w O' w) (hok:JE (force k c).1):JO O' objs' m' w v (force k c).2:=by
 cases c with
 | box cs =>
  cases k with
  | oth=>obtain⟨b,base,h1,_⟩:=h;rw[h1];rfl
  | mp _ _=>have:=hok.cons.1;cases this
  | bx _=>have:=hok.cons.1;cases this
  | _=>have:=hok.cons.1;simp [A.isB,A.isI,A.isS,A.Alo,A.Af5,A.Aan,A.isFn]at this
 | usl z e l =>
  cases k with
  | oth =>
   rcases h.2 with ⟨_,_,h3⟩ | ⟨_,g,cap,cur,h2,_⟩
   .show v.oneCell'=true;have h3:v=_:=h3;rw[h3];rfl
   .show v.oneCell'=true;have h2:v=_:=h2;rw[h2];rfl
  | mp _ _=>have:=hok.cons.1;cases this
  | bx _=>have:=hok.cons.1;cases this
  | _=>have:=hok.cons.1;simp [A.isB,A.isI,A.isS,A.Alo,A.Af5,A.Aan,A.isFn]at this
 | _=>exact AdY (JC.Kr hp h) hok
theorem TK {cid id:Nat} {f:Nat->Value} (hp:N8 Oc w O' w) (hn: ∀ b k,Oc b k=none->O' b k=none): ∀(ks:List (Bool×CK)) (cs:List A) (j0:Nat),(∀ j,j<ks.length->IC Oc w (cid+(j0+j)) (f (j0+j)) (cs.getD (j0+j) .undef)) ->
 (∀ b k x,x<j0+ks.length->Oc b k=some (cid+x)->O' b k=some (id+x))->JE (JX id ks cs j0).1->(∀ p∈(JX id ks cs j0).2.2,JA objs' p.1=some p.2)->(∀ p∈(JX id ks cs j0).2.2,∀ x,p.1=id+x->m' p.1=f x) ->
 (JX id ks cs j0).2.1.length=ks.length/\(∀ j,j<ks.length->JO O' objs' m' w (f (j0+j)) ((JX id ks cs j0).2.1.getD j .undef))/\ ∀ p∈(JX id ks cs j0).2.2,Lt O' objs' m' w p.1 p.2/\ ∃ x,p.1=id+x/\j0<=x/\x<j0+ks.length:=by
 intro ks
 induction ks with
 | nil=>intro cs j0 _ _ _ _ _;exact⟨rfl,fun j hj=>by simp at hj,fun p hp=>by simp [JX]at hp⟩
 | cons k ks ih =>
  intro cs j0 h hr hok hO hm;obtain⟨u,k⟩:=k;have h0:=h 0 (by simp);rw[Nat.add_zero]at h0;have hrest:=fun hok2 hO2 hm2=>ih cs (j0+1) (fun j hj=>by have:=h (j+1) (by simpa using hj);rwa [show j0+(j+1)=j0+1+j from by omega]at this) (fun b k x hx=>hr b k x (by simp only[List.length_cons];omega)) hok2 hO2 hm2;cases u with
  | false =>
   simp only[JX]at hok hO hm ⊢;obtain⟨hok1,hok2⟩:=hok.append;obtain⟨g1,g2,g3⟩:=hrest hok2 hO hm;refine⟨by simp [g1],fun j hj=> ?_,fun p hp=> ?_⟩
   .cases j with
    | zero=>exact ArA h0 hp hok1
    | succ j =>have:=g2 j (by simpa using hj);rw[show j0+(j+1)=j0+1+j from by omega];simpa using this
   .obtain⟨a1,x,a2,a3,a4⟩:=g3 p hp;exact⟨a1,x,a2,by omega,by simp only[List.length_cons];omega⟩
  | true =>
   cases k with
   | sl e sz =>
    simp only[JX]at hok hO hm ⊢;obtain⟨hok1,hok2⟩:=hok.cons;obtain⟨g1,g2,g3⟩:=hrest hok2 (fun p hp=>hO p (Dx _ hp)) (fun p hp=>hm p (Dx _ hp));have hO0:=hO _ Dv;have hm0:=hm _ Dv j0 rfl;dsimp only at hO0 hm0
    have hc:cs.getD j0 .undef= .usl true e (cs.getD j0 .undef).toL:=by
     generalize cs.getD j0 .undef=c at *
     cases c<;>simp only[A.Aj3]at hok1<;>first | (cases hok1;done) | skip
     simp only[Dq,EN]at hok1;rw[Dy hok1.2.1,<- hok1.1];rfl
    rw[hc]at h0;have hor:Lt O' objs' m' w (id+j0) (.arr e true (cs.getD j0 .undef).toL):=Lt.carry (show Lt Oc [] (fun _=>f j0) w (cid+j0) _ from h0) hp (fun b k hbk=>hr b k j0 (by simp) hbk) hn hm0;refine⟨by simp [g1],fun j hj=> ?_,fun p hp=> ?_⟩
    .cases j with
     | zero =>
      have hone:(f j0).oneCell'=true:=by
       rcases h0.2 with ⟨_,_,h3⟩ | ⟨_,g,cap,cur,h2,_⟩
       .have h3:f j0=_:=h3;rw[h3];rfl
       .have h2:f j0=_:=h2;rw[h2];rfl
      refine⟨hone,?_⟩;show match (JA objs' (id+j0)).map Obj.shp with | some (.arr _ _)=>_ | some .mp=>_ | _=>True
      rw[hO0];exact hm0.symm
     | succ j =>have:=g2 j (by simpa using hj);rw[show j0+(j+1)=j0+1+j from by omega];simpa using this
    .rcases D7.1 hp with rfl | hp
     .exact⟨hor,j0,rfl,DV _,by simp⟩
     .obtain⟨a1,x,a2,a3,a4⟩:=g3 p hp;exact⟨a1,x,a2,by omega,by simp only[List.length_cons];omega⟩
   | sln e sz =>
    simp only[JX]at hok hO hm ⊢;obtain⟨hok1,hok2⟩:=hok.cons;obtain⟨g1,g2,g3⟩:=hrest hok2 (fun p hp=>hO p (Dx _ hp)) (fun p hp=>hm p (Dx _ hp));have hO0:=hO _ Dv;have hm0:=hm _ Dv j0 rfl;dsimp only at hO0 hm0
    have hc:cs.getD j0 .undef= .usl false e (cs.getD j0 .undef).toL:=by
     generalize cs.getD j0 .undef=c at *
     cases c<;>simp only[A.Aj3]at hok1<;>first | (cases hok1;done) | skip
     simp only[Dq,EN]at hok1;rw[Dy hok1.2.1,<- hok1.1];rfl
    rw[hc]at h0;have hor:Lt O' objs' m' w (id+j0) (.arr e false (cs.getD j0 .undef).toL):=Lt.carry (show Lt Oc [] (fun _=>f j0) w (cid+j0) _ from h0) hp (fun b k hbk=>hr b k j0 (by simp) hbk) hn hm0;refine⟨by simp [g1],fun j hj=> ?_,fun p hp=> ?_⟩
    .cases j with
     | zero =>
      have hone:(f j0).oneCell'=true:=by
       rcases h0.2 with ⟨_,_,h3⟩ | ⟨_,g,cap,cur,h2,_⟩
       .have h3:f j0=_:=h3;rw[h3];rfl
       .have h2:f j0=_:=h2;rw[h2];rfl
      refine⟨hone,?_⟩;show match (JA objs' (id+j0)).map Obj.shp with | some (.arr _ _)=>_ | some .mp=>_ | _=>True
      rw[hO0];exact hm0.symm
     | succ j =>have:=g2 j (by simpa using hj);rw[show j0+(j+1)=j0+1+j from by omega];simpa using this
    .rcases D7.1 hp with rfl | hp
     .exact⟨hor,j0,rfl,DV _,by simp⟩
     .obtain⟨a1,x,a2,a3,a4⟩:=g3 p hp;exact⟨a1,x,a2,by omega,by simp only[List.length_cons];omega⟩
   | bx t =>
    simp only[JX]at hok hO hm ⊢;obtain⟨hok1,hok2⟩:=hok.cons;obtain⟨g1,g2,g3⟩:=hrest hok2 (fun p hp=>hO p (Dx _ hp)) (fun p hp=>hm p (Dx _ hp));have hO0:=hO _ Dv;have hm0:=hm _ Dv j0 rfl;dsimp only at hO0 hm0;generalize cs.getD j0 .undef=c at *
    cases c with
    | box ds =>
     obtain⟨b,base,e1,e2⟩:=h0;refine⟨by simp [g1],fun j hj=> ?_,fun p hp=> ?_⟩
     .cases j with
      | zero =>
       refine⟨by rw[Nat.add_zero,e1];rfl,?_⟩;show match (JA objs' (id+j0)).map Obj.shp with | some .box=>_ | _=>True
       rw[hO0];exact⟨b,base,by rw[hm0];exact e1,e1⟩
      | succ j =>have:=g2 j (by simpa using hj);rw[show j0+(j+1)=j0+1+j from by omega];simpa using this
     .rcases D7.1 hp with rfl | hp
      .refine⟨⟨b,base,by rw[hm0];exact e1,fun j hj=> ?_⟩,j0,rfl,DV _,by simp⟩;obtain⟨a1,a2,u,a3,a4⟩:=e2 j hj;exact⟨hr _ _ _ (by simp) a1,a2,u,a3,(JC.Kr ‹_› a4).toC⟩
      .obtain⟨a1,x,a2,a3,a4⟩:=g3 p hp;exact⟨a1,x,a2,by omega,by simp only[List.length_cons];omega⟩
    | _=>cases hok1
   | _=>have:=hok false (by simp [JX]);cases this
theorem Awe {cid id:Nat} {s:Sh} {x:A} {v:Value} (hp:N8 Oc w O' w) (hn: ∀ b k,Oc b k=none->O' b k=none) (h:IR Oc w cid v x) (hr: ∀ b k i,i<255->Oc b k=some (cid+i)->O' b k=some (id+i))
 (hok:JE (back id s x).1) (hO: ∀ p∈(back id s x).2.2,JA objs' p.1=some p.2) (hm: ∀ p∈(back id s x).2.2,∀ i,p.1=id+i->m' p.1=Oz w (innerS w s v) i) :
 JJ O' objs' m' w v (back id s x).2.1/\ ∀ p∈(back id s x).2.2,Lt O' objs' m' w p.1 p.2:=by
 cases s with
 | cell u k =>
  simp only[back]at hok hO hm ⊢;obtain⟨hok1,hok2⟩:=hok.append;have hpl:=hok2.cons.1
  have hic:IC Oc w cid v x:=by
   have bad: ∀ cs l,x= .agg cs\/x= .box cs\/x= .ump l\/(∃ f,x= .cbx f cs)->False:=by rintro cs l (rfl | rfl | rfl | ⟨f,rfl⟩)<;>(cases u<;>cases k<;>first | (cases hpl;done) | (have:=hok1 false (by simp [JX,force,A.isB,A.isI,A.isS,A.Alo,A.Af5,A.Aan,A.Aj3,A.isFn]);cases this))
   cases x with
   | agg cs=>exact(bad cs default (.inl rfl)).elim
   | box cs=>exact(bad cs default (.inr (.inl rfl))).elim
   | ump l=>exact(bad [] l (.inr (.inr (.inl rfl)))).elim
   | cbx f cs=>exact(bad cs default (.inr (.inr (.inr ⟨f,rfl⟩)))).elim
   | _=>exact h
  obtain⟨g1,g2,g3⟩:=TK (cid:=cid) (id:=id) (f:=Oz w v) hp hn [(u,k)] [x] 0 (fun j hj=>by
   have:j=0:=by simpa using hj
   subst this;exact hic) (fun b k i hi hb=>hr b k i (by simp at hi;omega) hb) hok1 hO hm
  have:=g2 0 (by simp);exact⟨this.toT,fun p hp=>(g3 p hp).1⟩
 | agg ks =>
  simp only[back]at hok hO hm ⊢;obtain⟨hf,hok⟩:=hok.cons;have hf:=DL hf;obtain⟨hok1,hok2⟩:=hok.cons;cases x with
  | agg cs =>
   obtain⟨vs,h1,h2,h3⟩:=h;have hl:cs.length=ks.length:=by simpa [A.isAgg,Xl]using hok1
   obtain⟨g1,g2,g3⟩:=TK (objs':=objs') (m':=m') (cid:=cid+1) (id:=id+1) (f:=fun j=>vs.getD j undef) hp hn ks cs 0 (fun j hj=>by
    have:=h3 j (by omega);rw[DT];exact this) (fun b k i hi hb=>by
    have:=hr b k (1+i) (by omega) (by rw[<- ES];exact hb);rw[<- ES]at this;exact this) hok2 hO (fun p hp i hi=>by
    have:=hm p hp (i+1) (by omega);rw[this,h1];rfl)
   refine⟨⟨vs,h1,?_,fun j hj=> ?_⟩,fun p hp=>(g3 p hp).1⟩
   .show vs.size=(JX (id+1) ks cs 0).2.1.length;rw[h2,g1,hl]
   .have hj:j<(JX (id+1) ks cs 0).2.1.length:=hj;rw[g1]at hj;have:=g2 j hj;rwa [DT]at this
  | _=>simp [A.isAgg]at hok1
 | box ks =>
  simp only[back]at hok hO hm ⊢;obtain⟨hf,hok⟩:=hok.cons;have hf:=DL hf;obtain⟨hok1,hok2⟩:=hok.cons;cases x with
  | box cs =>
   obtain⟨b,base,h1,h2⟩:=h;have h1':Oz w v 0= .pointer (some (at' b base)):=by rw[h1];rfl
   have hl:cs.length=ks.length:=by simpa [A.Aoy,Xl]using hok1
   have hcell: ∀ j,Oz w v (j+1)=(w.cell? (at' b (base+j))).getD undef:=by intro j;rw[h1];rfl
   obtain⟨g1,g2,g3⟩:=TK (objs':=objs') (m':=m') (cid:=cid+1) (id:=id+1) (f:=fun j=>(w.cell? (at' b (base+j))).getD undef) hp hn ks cs 0 (fun j hj=>by
    obtain⟨_,_,u,h5,h6⟩:=h2 j (by omega);rw[DT,h5];exact h6) (fun b k i hi hb=>by
    have:=hr b k (1+i) (by omega) (by rw[<- ES];exact hb);rw[<- ES]at this;exact this) hok2 (fun p hp=>hO p (Dx _ hp)) (fun p hp i hi=>by
    have:=hm p (Dx _ hp) (i+1) (by omega);rw[this];exact hcell _)
   have hO0:=hO _ Dv;have hm0:=hm _ Dv 0 rfl;dsimp only at hO0 hm0;refine⟨?_,fun p hp=> ?_⟩
   .show JO O' objs' m' w v (.ptr id 0);refine⟨by rw[h1];rfl,?_⟩;show match (JA objs' id).map Obj.shp with | some .box=>_ | _=>True
    rw[hO0];exact⟨b,base,by rw[hm0];exact h1',h1⟩
   .rcases D7.1 hp with rfl | hp
    .refine⟨b,base,by rw[hm0];exact h1',fun j hj=> ?_⟩;have hj:j<(JX (id+1) ks cs 0).2.1.length:=hj;rw[g1]at hj;obtain⟨a1,a2,u,a3,_⟩:=h2 j (by omega);have:=g2 j hj;rw[DT,a3]at this;exact⟨by have:=hr b (base+j) 0 (by omega) a1;exact this,a2,u,a3,this⟩
    .exact(g3 p hp).1
  | _=>simp [A.Aoy]at hok1
 | clo f' ks =>
  simp only[back]at hok hO hm ⊢;obtain⟨hf,hok⟩:=hok.cons;have hf:=DL hf;obtain⟨hok1,hok2⟩:=hok.cons;cases x with
  | cbx g cs =>
   have hg:f'=g:=by have h':=hok1;simp only[A.Aoz,Dq]at h';exact Dy h'.1
   subst hg;obtain⟨b,base,h1,h2⟩:=h;have h1':Oz w (innerS w (.clo f' ks) v) 0= .pointer (some (at' b base)):=h1.inner (ks:=ks);have hl:cs.length=ks.length:=by have h':=hok1;simp only[A.Aoz,Dq]at h';exact Dy h'.2
   have hcell: ∀ j,Oz w (innerS w (.clo f' ks) v) (j+1)=(w.cell? (at' b (base+j))).getD undef:=by intro j;rw[h1.inner (ks:=ks)];rfl
   obtain⟨g1,g2,g3⟩:=TK (objs':=objs') (m':=m') (cid:=cid+1) (id:=id+1) (f:=fun j=>(w.cell? (at' b (base+j))).getD undef) hp hn ks cs 0 (fun j hj=>by
    obtain⟨_,_,u,h5,h6⟩:=h2 j (by omega);rw[DT,h5];exact h6) (fun b k i hi hb=>by
    have:=hr b k (1+i) (by omega) (by rw[<- ES];exact hb);rw[<- ES]at this;exact this) hok2 (fun p hp=>hO p (Dx _ hp)) (fun p hp i hi=>by
    have:=hm p (Dx _ hp) (i+1) (by omega);rw[this];exact hcell _)
   have hO0:=hO _ Dv;have hm0:=hm _ Dv 0 rfl;dsimp only at hO0 hm0;refine⟨?_,fun p hp=> ?_⟩
   .show JO O' objs' m' w v (.clo f' id);refine⟨by obtain⟨_,_,e,_⟩:=h1;rw[e];cases f'<;>rfl,_,rfl,h1.Kr hp,?_⟩;show match (JA objs' id).map Obj.shp with | some .box=>_ | _=>True
    rw[hO0];exact⟨b,base,hm0.trans h1',rfl⟩
   .rcases D7.1 hp with rfl | hp
    .refine⟨b,base,by rw[hm0];exact h1',fun j hj=> ?_⟩;have hj:j<(JX (id+1) ks cs 0).2.1.length:=hj;rw[g1]at hj;obtain⟨a1,a2,u,a3,_⟩:=h2 j (by omega);have:=g2 j hj;rw[DT,a3]at this;exact⟨by have:=hr b (base+j) 0 (by omega) a1;exact this,a2,u,a3,this⟩
    .exact(g3 p hp).1
  | _=>simp [A.Aoz]at hok1
 | map kt vt =>
  simp only[back]at hok hO hm ⊢;obtain⟨l,rfl,_,_⟩:=Aby hok.cons.1;have hO0:=hO _ Dv;have hm0:=hm _ Dv 0 rfl;dsimp only at hO0 hm0;have h:PD Oc w cid v l:=h;have hm0:m' id=v:=hm0;have h2:PD O' w id v l:=h.carry hp (fun b k hb=>hr b k 0 (by omega) hb);refine⟨?_,fun p hp=> ?_⟩
  .show JO O' objs' m' w v (.own id);refine⟨by obtain⟨r,_,_,h1,_⟩:=h;rw[h1];rfl,?_⟩;rw[hO0];exact hm0.symm
  .obtain rfl:p=(id,.mp l):=DR.1 hp;show PD O' w id (m' id) l;rw[hm0];exact h2
end
end Go.Proofs.YtmgpaalplkkpnaaGreatDoor.Vm
