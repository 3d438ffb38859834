import Derived.Test.YtpaimpmokhihmaaGreatDoorA7
import Derived.MapKept
import Derived.Carry
set_option linter.all false
namespace Go.Proofs.YtpaimpmokhihmaaGreatDoor.Vm
open Classical MapKept
def Ty.Vl {α :Type} (r:Ty) (p:Ty.pr α r.Val r) (hu:r= .nil->True):r.mk2 (r.hd p) (r.tl p)=p:=by cases r<;>rfl
def Ty.same_eq: ∀(t:Ty) (a b:t.Val),t.same a b=true->a=b
 | .nil,_,_,_=>rfl
 | .bool r,a,b,h=>by simp only[Ty.same,Dn]at h;rw[<- Ty.Vl r a (fun _=>trivial),<- Ty.Vl r b (fun _=>trivial),EK h.1,Ty.same_eq r _ _ h.2]
 | .int _ r,a,b,h=>by simp only[Ty.same,Dn]at h;rw[<- Ty.Vl r a (fun _=>trivial),<- Ty.Vl r b (fun _=>trivial),EK h.1,Ty.same_eq r _ _ h.2]
 | .str r,a,b,h=>by simp only[Ty.same,Dn]at h;rw[<- Ty.Vl r a (fun _=>trivial),<- Ty.Vl r b (fun _=>trivial),EK h.1,Ty.same_eq r _ _ h.2]
 | .sl _ _ _,_,_,h=>by cases h
 | .ptr _,_,_,h=>by cases h
 | .fn _,_,_,h=>by cases h
 | .mp _ _ _,_,_,h=>by cases h
def qW:List A->List A->Bool
 | .str x::xs,.str y::ys=>(x==y)&&qW xs ys
 | _,_=>true
def KE:Nat->Ty
 | 0=>.nil
 | n+1=>.str (KE n)
def Af3: ∀(n:Nat) (a b:(KE n).Val),(KE n).same a b=qW ((KE n).cells a) ((KE n).cells b):=by
 intro n
 induction n with
 | zero=>intro a b;rfl
 | succ n ih=>intro a b;show((_==_)&&_)=((_==_)&&_);rw[ih]
def AbF (n:Nat):tyl (List.replicate n [CK.str]).flatten=KE n:=by
 induction n with
 | zero=>rfl
 | succ n ih=>grind[tyl,KE]
def Ot: ∀(n:Nat) (a:(KE n).Val) (j:Nat),j<n-> ∃ s,((KE n).cells a).getD j .undef= .str s:=by
 intro n
 induction n with
 | zero=>intro a j h;omega
 | succ n ih =>
  intro a j h;cases j with
  | zero=>exact⟨_,rfl⟩
  | succ j=>exact ih _ j (by omega)
def fnd {β :Type} (t:Ty) (k:t.Val):List MapEntry->List (t.Val× β)->Nat->Option (Nat×Value)
 | e::es,p::l,i=>bif t.same k p.1 then some (i,e.val)else fnd t k es l (i+1)
 | _,_,_=>none
def kY {β :Type} {t:Ty} {k:t.Val}: ∀(es:List MapEntry) (l:List (t.Val× β)) (i:Nat),es.length=l.length ->
 (fnd t k es l i=none/\NZ t k l=none/\(∀ x,P5 t k x l=l++[(k,x)])/\VI t k l=l) \/
 ∃ j e p,fnd t k es l i=some (i+j,e.val)/\es[j]? =some e/\l[j]? =some p/\p.1=k/\NZ t k l=some p.2/\(∀ x,P5 t k x l=l.set j (p.1,x))/\VI t k l=l.eraseIdx j:=by
 intro es
 induction es with
 | nil =>
  intro l i h;cases l with
  | nil=>exact .inl ⟨rfl,rfl,fun _=>rfl,rfl⟩
  | cons _ _=>cases h
 | cons e es ih =>
  intro l i h;cases l with
  | nil=>cases h
  | cons p l =>
   cases hs:t.same k p.1 with
   | true =>refine .inr ⟨0,e,p,by simp [fnd,hs],rfl,rfl,(Ty.same_eq _ _ _ hs).symm,by simp [NZ,hs],fun x=>by simp [P5,hs],by simp [VI,hs]⟩
   | false =>
    rcases ih l (i+1) (by simpa using h)with ⟨h1,h2,h3,h4⟩ | ⟨j,e',p',h1,h2,h3,h4,h5,h6,h7⟩
    .simp_all[fnd,hs,NZ,P5,VI,Ty]
    .exact .inr ⟨j+1,e',p',by simp only[fnd,hs,cond_false,h1];congr 2;omega,by simpa using h2,by simpa using h3,h4,by simp [NZ,hs,h5],fun x=>by simp [P5,hs,h6],by simp [VI,hs,h7]⟩
section
variable {P:Program} {C:Ctx} {V0:Nat->Value} {O0 O:Own} {w0 w:World} {m:Nat->Value} {st:St} {a:Act} {o:Oper}
structure gV (P:Program) (O:Own) (w:World) (kt:TypeId) (t:Ty):Prop where
 check: ∀(e:Bool) (v:Value) (k:t.Val),LJ O w v (MQ (t.cells k))->(Instr.checkKey e 10000 kt v).run P w= .ok () w
 find: ∀ {β :Type} (v:Value) (k:t.Val) (es:List MapEntry) (l:List (t.Val× β)),LJ O w v (MQ (t.cells k))->es.length=l.length->(∀(i:Nat) e p,es[i]? =some e->l[i]? =some p->LJ O w e.key (MQ (t.cells p.1))) ->
  (Instr.findKey kt v es).run P w= .ok (fnd t k es l 0) w
 stays: ∀(v u:Value) (k:t.Val),LJ O w v (MQ (t.cells k))->LJ O w u (MQ (t.cells k))->(Instr.keyThatStays u v).run P w= .ok v w
theorem jQ {β :Type} {t:Ty} {k:t.Val} {d:TypeDesc} {v:Value}: ∀(es:List MapEntry) (l:List (t.Val× β)) (i:Nat),es.length=l.length->(∀(i:Nat) (e:MapEntry) (p:t.Val× β),es[i]? =some e->l[i]? =some p->Instr.sameNow d v e.key=some (t.same k p.1)) ->
 Instr.findNow d v es i=some (fnd t k es l i):=by
 intro es
 induction es with
 | nil=>intro l i h _;cases l<;>rfl
 | cons e es ih =>
  intro l i h hs;cases l with
  | nil=>cases h
  | cons p l =>
   have h0:=hs 0 e p rfl rfl;have h1:=ih l (i+1) (by simpa using h) (fun i e p he hp=>hs (i+1) e p (by simpa using he) (by simpa using hp));cases hb:t.same k p.1 with
   | true=>rw[hb]at h0;simp [Instr.findNow,h0,fnd,hb]
   | false=>rw[hb]at h0;simp [Instr.findNow,h0,fnd,hb,h1]
theorem mO {β :Type} {t:Ty} {k:t.Val} {kt:TypeId} {v:Value}: ∀(es:List MapEntry) (l:List (t.Val× β)) (i:Nat),es.length=l.length->(∀(i:Nat) (e:MapEntry) (p:t.Val× β),es[i]? =some e->l[i]? =some p->(Op.equal kt v e.key).run P w= .ok (t.same k p.1) w) ->
 (Instr.findAsking kt v es i).run P w= .ok (fnd t k es l i) w:=by
 intro es
 induction es with
 | nil=>intro l i h _;cases l<;>first | rfl | cases h
 | cons e es ih =>
  intro l i h hs;cases l with
  | nil=>cases h
  | cons p l =>
   have h0:=hs 0 e p rfl rfl;have h1:=ih l (i+1) (by simpa using h) (fun i e p he hp=>hs (i+1) e p (by simpa using he) (by simpa using hp));cases hb:t.same k p.1 with
   | true=>rw[hb]at h0;simp [Instr.findAsking,h0,fnd,hb]
   | false=>rw[hb]at h0;simp [Instr.findAsking,h0,fnd,hb,h1]
theorem Qv {a b:ByteArray} (h:a.data.toList=b.data.toList):a=b:=by obtain⟨⟨x⟩⟩:=a;all_goals simp_all
theorem WM (a b:ByteArray):(a==b)=(a.data.toList==b.data.toList):=by rw[Bool.eq_iff_iff,bytes_beq,F8];exact⟨fun h=>by rw[h],Qv⟩
theorem Jt.str' {v:Value} {s:List UInt8} (h:Jt O w v (.str s)): ∃ b:ByteArray,v= .string b/\b.data.toList=s:=by cases h;exact⟨_,rfl,rfl⟩
theorem Jt.int' {v:Value} {k:IntKind} {n:Int} (h:Jt O w v (.int k n)):v= .int k n:=by cases h;rfl
theorem Agy (k k':List UInt8):(Ty.str .nil).same k k'=(k==k'):=Bool.and_true _
theorem Agx (q:IntKind) (k k':Int):(Ty.int q .nil).same k k'=(k==k'):=Bool.and_true _
theorem Ac5 (q:IntKind) (a b:Int):Instr.sameNow (.int q) (.int q a) (.int q b)=some (a==b):=by simp [Instr.sameNow]
theorem Afc {kt:TypeId} (hu:P.underlying kt=some .string):gV P O w kt (.str .nil) where
 check e v k h:=by obtain⟨b,rfl,_⟩:=Jt.str' (show Jt O w v (.str k)from h);exact run_checkKey hu (show IsKey .string (.string b)from trivial) e 9999
 find v k es l h hl hes:=by
  obtain⟨b,rfl,hb⟩:=Jt.str' (show Jt O w v (.str k)from h)
  have hn:Instr.findNow .string (.string b) es 0=some (fnd (.str .nil) k es l 0):=jQ es l 0 hl fun i e p he hp=>by
   obtain⟨b',h1,h2⟩:=Jt.str' (show Jt O w e.key (.str p.1)from hes i e p he hp);rw[h1];have e1:Instr.sameNow .string (.string b) (.string b')=some (b==b'):=by simp [Instr.sameNow]
   all_goals grind[Agy,WM]
  simp [Instr.findKey,DC hu,hn]
 stays v u k h h':=by
  obtain⟨b,rfl,hb⟩:=Jt.str' (show Jt O w v (.str k)from h);obtain⟨b',rfl,hb'⟩:=Jt.str' (show Jt O w u (.str k)from h');obtain rfl:b'=b:=Qv (by rw[hb,hb']);have:(b'==b')=true:=by rw[WM];simp
  simp [Instr.keyThatStays,Instr.sameBits,this]
theorem Afb {kt:TypeId} {q:IntKind} (hu:P.underlying kt=some (.int q)):gV P O w kt (.int q .nil) where
 check e v k h:=by obtain rfl:=Jt.int' (show Jt O w v (.int q k)from h);exact run_checkKey hu (show IsKey (.int q) (.int q k)from rfl) e 9999
 find v k es l h hl hes:=by
  obtain rfl:=Jt.int' (show Jt O w v (.int q k)from h);have hn:Instr.findNow (.int q) (.int q k) es 0=some (fnd (.int q .nil) k es l 0):=jQ es l 0 hl fun i e p he hp=>by rw[Jt.int' (show Jt O w e.key (.int q p.1)from hes i e p he hp)];exact(Ac5 q k p.1).trans (congrArg some (Agx q k p.1).symm)
  simp [Instr.findKey,DC hu,hn]
 stays v u k h h':=by
  obtain rfl:=Jt.int' (show Jt O w v (.int q k)from h);obtain rfl:=Jt.int' (show Jt O w u (.int q k)from h');have:((k:Int)==(k:Int))=true:=by simp
  have:Instr.sameBits 10000 (.int q k) (.int q k)=true:=by
   have: ∀ n:Int,Instr.sameBits 10000 (.int q n) (.int q n)=true:=fun n=>by simp [Instr.sameBits]
   exact this k
  simp [Instr.keyThatStays,this]
theorem YP {cs:List A} (h:cs.length≠1):MQ cs= .agg cs:=by
 unfold MQ;split
 .simp at h
 .rfl
theorem Afa {e:TypeId} {d:Nat} (hue:P.underlying e=some .string) {xs ys:Array Value} {cs ds:List A} (hx: ∀ j,j<cs.length->Jt O w (xs.getD j undef) (cs.getD j .undef)) (hxs:xs.size=cs.length)
 (hy: ∀ j,j<ds.length->Jt O w (ys.getD j undef) (ds.getD j .undef)) (hys:ys.size=ds.length) (hl:cs.length=ds.length) (hc: ∀ j,j<cs.length-> ∃ s,cs.getD j .undef= .str s) (hd: ∀ j,j<ds.length-> ∃ s,ds.getD j .undef= .str s) :
 ∀(n i:Nat),i+n=cs.length->(Op.eqItems (d+1) e 1 xs ys (List.range' i n)).run P w= .ok (qW (cs.drop i) (ds.drop i)) w:=by
 intro n
 induction n with
 | zero =>intro i hi;have:cs.drop i=[]:=Fe (by omega);rw[this];rfl
 | succ n ih =>
  intro i hi;have hi':i<cs.length:=by omega
  obtain⟨s,hs⟩:=hc i hi';obtain⟨s',hs'⟩:=hd i (by omega);have hx1:=hx i hi';have hy1:=hy i (by omega);rw[hs]at hx1;rw[hs']at hy1;obtain⟨b,hb1,hb2⟩:=hx1.str';obtain⟨b',hb1',hb2'⟩:=hy1.str'
  have ex:xs[i]? =some (.string b):=by
   have:i<xs.size:=by omega
   rw[Dt this,<- hb1,Dj,Dt this];rfl
  have ey:ys[i]? =some (.string b'):=by
   have:i<ys.size:=by omega
   rw[Dt this,<- hb1',Dj,Dt this];rfl
  have hpk:P.plainKey e=true:=by simp [Program.plainKey,hue]
  have p1:=run_part_plain w hpk (off:=i*1) (by rw[Eo];exact ex);have p2:=run_part_plain w hpk (off:=i*1) (by rw[Eo];exact ey);have p3:=run_equalIn_string (P:=P) w d e b b' hue;have ec:cs.drop i= .str s::cs.drop (i+1):=by rw[F9 hi',<- hs,Di,D7 hi'];rfl
  have ed:ds.drop i= .str s'::ds.drop (i+1):=by rw[F9 (by omega),<- hs',Di,D7 (by omega)];rfl
  rw[List.range'_succ,ec,ed];have ih':=ih (i+1) (by omega);simp only[Op.eqItems,Dv,p1,p2,p3,Result.andThen_ok];rw[Xc,Xc,hb2,hb2'];cases hbb:(s==s')with
  | false=>simp [qW,hbb]
  | true=>simp [qW,hbb,ih']
theorem rV {e:TypeId} {em:Bool} {d:Nat} (hue:P.underlying e=some .string) (hsz:(sizeOf e).run P w= .ok 1 w) {xs:Array Value} {n:Nat} (hx: ∀ j,j<n-> ∃ b,xs[j]? =some (.string b)) :
 ∀(is:List Nat),(∀ i∈is,i<n)->(forIn is PUnit.unit fun i _=>do Instr.checkKey em (d+1) e (<- part e xs (i*(<- sizeOf e)));pure (ForInStep.yield PUnit.unit)).run P w= .ok PUnit.unit w:=by
 intro is
 induction is with
 | nil=>intro _;simp
 | cons j is ih =>
  intro h;obtain⟨b,hb⟩:=hx j (h j (by simp));have hpk:P.plainKey e=true:=by simp [Program.plainKey,hue]
  have p1:=run_part_plain w hpk (off:=j*1) (by rw[Eo];exact hb);have p2:=run_checkKey (P:=P) (w:=w) hue (k:=.string b) trivial em d;simp only[G7,Dv,hsz,Result.andThen_ok,p1,p2,Sem.run_pure];exact ih (fun i hi=>h i (by simp [hi]))
theorem LJ.agg' {v:Value} {cs:List A} (h:LJ O w v (.agg cs)): ∃ vs:Array Value,v= .agg vs/\vs.size=cs.length/\ ∀ j,j<cs.length->Jt O w (vs.getD j undef) (cs.getD j .undef):=h
theorem AdA {kt e:TypeId} {n:Nat} {ie:TypeInfo} (hu:P.underlying kt=some (.array n e)) (hue:P.underlying e=some .string) (hie:P.info? e=some ie) (his:ie.size=1) (hn:1<n):gV P O w kt (KE n):=by
 have hlen: ∀ k:(KE n).Val,((KE n).cells k).length=n:=fun k=>by
  rw[Ty.Lh];have: ∀ n,(KE n).len=n:=by intro n;induction n with | zero=>rfl | succ n ih=>simp [KE,Ty.len,ih]
  exact this n
 have hag: ∀ k:(KE n).Val,MQ ((KE n).cells k)= .agg ((KE n).cells k):=fun k=>YP (by rw[hlen];omega);have hce:P.cellsOf e=1:=by simp [Program.cellsOf,hie,his]
 have hsz:(sizeOf e).run P w= .ok 1 w:=by simp [sizeOf,typeInfo,hie,his]
 have hstr: ∀ {vs:Array Value} {k:(KE n).Val},vs.size=n->(∀ j,j<n->Jt O w (vs.getD j undef) (((KE n).cells k).getD j .undef))-> ∀ j,j<n-> ∃ b,vs[j]? =some (.string b):=by
  intro vs k hs h j hj;obtain⟨s,hs'⟩:=Ot n k j hj;have h1:=h j hj;rw[hs']at h1;obtain⟨b,hb,_⟩:=h1.str';have hj':j<vs.size:=by omega
  exact⟨b,by rw[Dt hj',<- hb,Dj,Dt hj'];rfl⟩
 refine⟨fun em v k h=> ?_,fun v k es l h hl hes=> ?_,fun v u k h h'=> ?_⟩
 .rw[hag]at h;obtain⟨vs,rfl,h1,h2⟩:=h.agg';rw[hlen]at h1 h2;rw[show(10000:Nat)=9998+1+1 from rfl,Instr.checkKey];simp only[Dv,DC hu,Result.andThen_ok];simp only[Std.Legacy.Range.forIn_eq_forIn_range',Std.Legacy.Range.size,Nat.sub_zero,Nat.add_one_sub_one,Nat.div_one];rw[rV (em:=em) (d:=9998) hue hsz (hstr h1 h2) (List.range' 0 n) (fun i hi=>by simpa using hi)];rfl
 .rw[hag]at h;obtain⟨vs,rfl,h1,h2⟩:=h.agg';rw[hlen]at h1 h2;have eqs: ∀(i:Nat) (e':MapEntry) p,es[i]? =some e'->l[i]? =some p->(Op.equal kt (.agg vs) e'.key).run P w= .ok ((KE n).same k p.1) w:=by intro i e' p he hp;have h3:=hes i e' p he hp;rw[hag]at h3;obtain⟨us,h4,h5,h6⟩:=h3.agg';rw[hlen]at h5 h6;rw[h4];show(Op.equalIn 10000 kt _ _).run P w=_;rw[show(10000:Nat)=9999+1 from rfl,run_equalIn_array w 9999 vs us hu hie,hce,List.range_eq_range',Af3];have:=Afa (P:=P) (O:=O) (w:=w) (d:=9998) hue (xs:=vs) (ys:=us) (cs:=(KE n).cells k) (ds:=(KE n).cells p.1) (by rw[hlen];exact h2) (by rw[hlen];exact h1) (by rw[hlen];exact h6) (by rw[hlen];exact h5) (by rw[hlen,hlen]) (by rw[hlen];exact Ot n k) (by rw[hlen];exact Ot n p.1) n 0 (by rw[hlen];omega);simpa using this
  have hnow: ∀(es:List MapEntry) (i:Nat),Instr.findNow (.array n e) (.agg vs) es i=if es=[]then some none else none:=by
   intro es i;cases es with
   | nil=>rfl
   | cons e' es=>simp [Instr.findNow,Instr.sameNow]
  simp only[Instr.findKey,Dv,DC hu,Result.andThen_ok,hnow];cases es with
  | nil=>cases l<;>first | simp [fnd] | cases hl
  | cons e' es =>rw[Du (by simp)];exact mO _ l 0 hl eqs
 .rw[hag]at h h';obtain⟨vs,rfl,h1,h2⟩:=h.agg';obtain⟨us,rfl,h3,h4⟩:=h'.agg';have e:us=vs:=by rw[hlen]at h1 h2 h3 h4;apply Ez (by omega);intro j hj1 hj2;obtain⟨s,hs⟩:=Ot n k j (by omega);have a1:=h2 j (by omega);have a2:=h4 j (by omega);rw[hs]at a1 a2;obtain⟨b1,e1,f1⟩:=a1.str';obtain⟨b2,e2,f2⟩:=a2.str';rw[Dj,Dt hj2]at e1;rw[Dj,Dt hj1]at e2;have e1:vs[j]=_:=e1;have e2:us[j]=_:=e2;rw[e1,e2,Qv (f1.trans f2.symm)]
  subst e
  have hsb:Instr.sameBits 10000 (.agg us) (.agg us)=true:=by
   show((us.size==us.size)&&(us.toList.zip us.toList).all _)=true;rw[Dn];refine⟨by simp,DI.2 fun p hp=> ?_⟩;obtain⟨i,hi⟩:=Fh.1 hp;rw[EE]at hi;rw[hlen]at h1 h2;have hi1:i<us.size:=by have:=(Et.1 hi.1).1;simpa using this
   obtain⟨b,hb⟩:=hstr h1 h2 i (by omega);have q1:p.1= .string b:=by have:=hi.1;rw[DF,hb]at this;injection this with this;exact this.symm
   have q2:p.2= .string b:=by have:=hi.2;rw[DF,hb]at this;injection this with this;exact this.symm
   obtain⟨p1,p2⟩:=p;dsimp only at q1 q2;subst q1;subst q2;show(b==b)=true;rw[WM];simp
  simp [Instr.keyThatStays,hsb]
theorem mZ {em:Bool} {d:Nat} {vs:Array Value}: ∀(fs:List Field),(∀ f∈fs,P.underlying f.type=some .string/\ ∃ b,vs[f.offset]? =some (.string b)) ->
 (forIn fs PUnit.unit fun(f:Field) _=>do if f.name≠ "_" then do {Instr.checkKey em (d+1) f.type (<- part f.type vs f.offset);pure (ForInStep.yield PUnit.unit)}else do {pure PUnit.unit;pure (ForInStep.yield PUnit.unit)}).run P w= .ok PUnit.unit w:=by
 intro fs
 induction fs with
 | nil=>intro _;simp
 | cons f fs ih =>
  intro h;obtain⟨h1,b,hb⟩:=h f (by simp);have hpk:P.plainKey f.type=true:=by simp [Program.plainKey,h1]
  have p1:=run_part_plain w hpk (off:=f.offset) hb;have p2:=run_checkKey (P:=P) (w:=w) h1 (k:=.string b) trivial em d;have ih:=ih (fun g hg=>h g (by simp [hg]));rw[G7,Dv];by_cases hn:f.name≠ "_"
  .rw[Dw hn];simp only[Dv,p1,p2,Result.andThen_ok,Sem.run_pure];exact ih
  .rw[Du hn];simp only[Dv,Result.andThen_ok,Sem.run_pure];exact ih
theorem AaR {kt:TypeId} {fs:Array Field} {n:Nat} (hu:P.underlying kt=some (.struct fs)) (hfs:fs.toList.length=n) (hf: ∀(i:Nat) (f:Field),fs.toList[i]? =some f->P.underlying f.type=some .string/\f.offset=i) (hn:1<n)
 (heq: ∀(vs us:Array Value) (k k':(KE n).Val),(∀ j,j<n->Jt O w (vs.getD j undef) (((KE n).cells k).getD j .undef))->vs.size=n->(∀ j,j<n->Jt O w (us.getD j undef) (((KE n).cells k').getD j .undef))->us.size=n->(Op.equalIn 10000 kt (.agg vs) (.agg us)).run P w= .ok ((KE n).same k k') w):gV P O w kt (KE n):=by
 have hlen: ∀ k:(KE n).Val,((KE n).cells k).length=n:=fun k=>by
  rw[Ty.Lh];have: ∀ n,(KE n).len=n:=by intro n;induction n with | zero=>rfl | succ n ih=>simp [KE,Ty.len,ih]
  exact this n
 have hag: ∀ k:(KE n).Val,MQ ((KE n).cells k)= .agg ((KE n).cells k):=fun k=>YP (by rw[hlen];omega)
 have hstr: ∀ {vs:Array Value} {k:(KE n).Val},vs.size=n->(∀ j,j<n->Jt O w (vs.getD j undef) (((KE n).cells k).getD j .undef))-> ∀ j,j<n-> ∃ b,vs[j]? =some (.string b):=by
  intro vs k hs h j hj;obtain⟨s,hs'⟩:=Ot n k j hj;have h1:=h j hj;rw[hs']at h1;obtain⟨b,hb,_⟩:=h1.str';have hj':j<vs.size:=by omega
  exact⟨b,by rw[Dt hj',<- hb,Dj,Dt hj'];rfl⟩
 refine⟨fun em v k h=> ?_,fun v k es l h hl hes=> ?_,fun v u k h h'=> ?_⟩
 .rw[hag]at h;obtain⟨vs,rfl,h1,h2⟩:=h.agg';rw[hlen]at h1 h2;rw[show(10000:Nat)=9998+1+1 from rfl,Instr.checkKey];simp only[Dv,DC hu,Result.andThen_ok];rw[<- Array.forIn_toList];rw[mZ (P:=P) (w:=w) (vs:=vs) (em:=em) (d:=9998) fs.toList fun f hm=> ?_]
  .rfl
  obtain⟨i,hi⟩:=Fh.1 hm;obtain⟨a1,a2⟩:=hf i f hi;have hin:i<n:=by rw[<- hfs];exact(Et.1 hi).1
  rw[a2];exact⟨a1,hstr h1 h2 i hin⟩
 .rw[hag]at h;obtain⟨vs,rfl,h1,h2⟩:=h.agg';rw[hlen]at h1 h2;have eqs: ∀(i:Nat) (e':MapEntry) p,es[i]? =some e'->l[i]? =some p->(Op.equal kt (.agg vs) e'.key).run P w= .ok ((KE n).same k p.1) w:=by intro i e' p he hp;have h3:=hes i e' p he hp;rw[hag]at h3;obtain⟨us,h4,h5,h6⟩:=h3.agg';rw[hlen]at h5 h6;rw[h4];show(Op.equalIn 10000 kt _ _).run P w=_;exact heq vs us k p.1 h2 h1 h6 h5
  have hnow: ∀(es:List MapEntry) (i:Nat),Instr.findNow (.struct fs) (.agg vs) es i=if es=[]then some none else none:=by
   intro es i;cases es with
   | nil=>rfl
   | cons e' es=>simp [Instr.findNow,Instr.sameNow]
  simp only[Instr.findKey,Dv,DC hu,Result.andThen_ok,hnow];cases es with
  | nil=>cases l<;>first | simp [fnd] | cases hl
  | cons e' es =>rw[Du (by simp)];exact mO _ l 0 hl eqs
 .rw[hag]at h h';obtain⟨vs,rfl,h1,h2⟩:=h.agg';obtain⟨us,rfl,h3,h4⟩:=h'.agg';have e:us=vs:=by rw[hlen]at h1 h2 h3 h4;apply Ez (by omega);intro j hj1 hj2;obtain⟨s,hs⟩:=Ot n k j (by omega);have a1:=h2 j (by omega);have a2:=h4 j (by omega);rw[hs]at a1 a2;obtain⟨b1,e1,f1⟩:=a1.str';obtain⟨b2,e2,f2⟩:=a2.str';rw[Dj,Dt hj2]at e1;rw[Dj,Dt hj1]at e2;have e1:vs[j]=_:=e1;have e2:us[j]=_:=e2;rw[e1,e2,Qv (f1.trans f2.symm)]
  subst e
  have hsb:Instr.sameBits 10000 (.agg us) (.agg us)=true:=by
   show((us.size==us.size)&&(us.toList.zip us.toList).all _)=true;rw[Dn];refine⟨by simp,DI.2 fun p hp=> ?_⟩;obtain⟨i,hi⟩:=Fh.1 hp;rw[EE]at hi;rw[hlen]at h1 h2;have hi1:i<us.size:=by have:=(Et.1 hi.1).1;simpa using this
   obtain⟨b,hb⟩:=hstr h1 h2 i (by omega);have q1:p.1= .string b:=by have:=hi.1;rw[DF,hb]at this;injection this with this;exact this.symm
   have q2:p.2= .string b:=by have:=hi.2;rw[DF,hb]at this;injection this with this;exact this.symm
   obtain⟨p1,p2⟩:=p;dsimp only at q1 q2;subst q1;subst q2;show(b==b)=true;rw[WM];simp
  simp [Instr.keyThatStays,hsb]
theorem uF: ∀(fs:List Field) (n:Nat) (ks:List CK),Om P fs n=some ks->ks.all XT=true->fs.length=ks.length/\ ∀(i:Nat) (f:Field),fs[i]? =some f->P.underlying f.type=some .string/\f.name≠ "_" /\f.offset=n+i:=by
 intro fs
 induction fs with
 | nil =>intro n ks h _;injection h with h;subst h;exact⟨rfl,fun i f h=>by simp at h⟩
 | cons f fs ih =>
  intro n ks h hs;unfold Om at h;split at h
  .rename_i ks' hd hf;cases hb:(f.name != "_" &&Nat.beq f.offset n)with
   | false=>rw[hb]at h;cases h
   | true=>rw[hb]at h;injection h with h;subst h;cases hs
  .rename_i k ks' hd hf;cases hb:(f.name != "_" &&Nat.beq f.offset n)with
   | false=>rw[hb]at h;cases h
   | true=>rw[hb]at h;injection h with h;subst h;cases hs
  .rename_i ks' hd hf;cases hb:(f.name != "_" &&Nat.beq f.offset n)with
   | false=>rw[hb]at h;cases h
   | true =>
    rw[hb]at h;injection h with h;subst h;obtain⟨h1,h2⟩:=ih _ _ hf (by simpa [XT]using hs);rw[Dn]at hb;refine⟨by simp [h1],fun i g hg=> ?_⟩;cases i with
    | zero =>
     have hg:f=g:=by simpa using hg
     subst hg;exact⟨hd,by simpa using hb.1,Dk hb.2⟩
    | succ i =>obtain⟨a1,a2,a3⟩:=h2 i g (by simpa using hg);exact⟨a1,a2,by omega⟩
  .cases h
theorem Ahb: ∀(ks:List CK),ks.all XT=true->ks=(List.replicate ks.length [CK.str]).flatten:=by
 intro ks
 induction ks with
 | nil=>intro _;rfl
 | cons k ks ih =>intro h;rw[List.all_cons,Dn]at h;rw[List.length_cons,List.replicate_succ,List.flatten_cons,<- ih h.2];cases k<;>first | rfl | cases h.1
theorem Aam: ∀(ks:List CK) (n:Nat) (a b:(KE n).Val),ks.all XT=true->ks.length=n->Np ks ((KE n).cells a) ((KE n).cells b)=(true,(KE n).same a b):=by
 intro ks
 induction ks with
 | nil=>intro n a b _ h;subst h;rfl
 | cons k ks ih =>
  intro n a b h hn;subst hn;rw[List.all_cons,Dn]at h;have e:=ih ks.length (Ty.tl (KE ks.length) a) (Ty.tl (KE ks.length) b) h.2 rfl;cases k with
  | str =>show((true&&_,(_==_)&&_):Bool×Bool)=(true,(_==_)&&_);rw[e];rfl
  | _=>cases h.1
theorem Agg (hC:TOk P C) {t:Nat} {ta:TI} (ht:C.T t=some ta) (h:AdB C ta=true):gV P O w t (tyl ta.cs):=by
 have hT:=hC.is ht;have hu:=hT.d;have hck:=hT.ck;unfold AdB at h;split at h
 .rename_i hd;rw[hd]at hu;have:ta.cs=[.str]:=by simp [Md,hu]at hck;exact hck.symm
  rw[this];exact Afc hu
 .rename_i q hd;rw[hd]at hu;have:ta.cs=[.int q]:=by simp [Md,hu]at hck;exact hck.symm
  rw[this];exact Afb hu
 .rename_i n e hd;rw[hd]at hu;split at h
  .rename_i te hte;simp only[Dn,DY]at h;have hTe:=hC.is hte;have hde:=dJ h.1;have hue:=hTe.d;rw[hde]at hue;have hcse:te.cs=[.str]:=by have:=hTe.ck;simp [Md,hue]at this;exact this.symm
   have hcs:ta.cs=(List.replicate n [CK.str]).flatten:=by
    rw[show(20:Nat)=18+1+1 from rfl]at hck;unfold Md at hck;simp only[hu]at hck;have he:Md P (18+1) e=some [.str]:=by simp [Md,hue]
    rw[he]at hck;dsimp only at hck;cases hb:Nat.ble (n* [CK.str].length) 4096 with
    | false=>rw[hb]at hck;cases hck
    | true=>rw[hb]at hck;injection hck with hck;exact hck.symm
   rw[hcs,AbF];obtain⟨i,z,h1,h2,_⟩:=hTe.i;exact AdA hu hue h1 (by rw[h2,hcse];rfl) h.2
  .cases h
 .rename_i fs hd;simp only[Dn,DY]at h;obtain⟨⟨⟨h1,h2⟩,h3⟩,h4⟩:=h;rw[hd]at hu;have h3:=Dk h3;have hcs:=Ahb ta.cs h2;have hn:(List.replicate ta.cs.length [CK.str]).flatten.length=ta.cs.length:=by rw[<- hcs]
  rw[hcs,AbF];generalize hnn:ta.cs.length=n at *
  have hfk:Om P fs.toList 0=some ta.cmp:=by
   have hc:=hT.cmp;rw[hd]at hc;unfold zM at hc;dsimp only at hc;split at hc
   .rename_i ks hks;cases hb:(!(P.stoodInHeld t)&& !(P.eqGuardType P.depth t))with
    | false=>rw[hb]at hc;rw[hc]at h3;simp at h3;omega
    | true=>rw[hb]at hc;rw[hc];exact hks
   .rw[hc]at h3;simp at h3;omega
  obtain⟨k1,k2⟩:=uF _ _ _ hfk h1;rw[h3]at k1
  exact AaR hu k1 (fun i f hf=>by obtain⟨a,b,c⟩:=k2 i f hf;exact⟨a,by omega⟩) h4 fun vs us k k' r1 l1 r2 l2=>by
   have hl: ∀ k:(KE n).Val,((KE n).cells k).length=n:=fun k=>by
    rw[Ty.Lh];have: ∀ n,(KE n).len=n:=by intro n;induction n with | zero=>rfl | succ n ih=>simp [KE,Ty.len,ih]
    exact this n
   have hce:=Aam ta.cmp n k k' h1 h3
   have:=rX (Jm:=[]) (m:=fun _=>undef) hT (vs:=vs) (us:=us) (x:=(KE n).cells k) (y:=(KE n).cells k') (by rw[hl,l1]) (by rw[hl,l2])
    (fun j hj=>by obtain⟨s,hs⟩:=Ot n k j (by rw[hl]at hj;exact hj);have:=r1 j (by rw[hl]at hj;exact hj);rw[hs]at this ⊢;exact this)
    (fun j hj=>by obtain⟨s,hs⟩:=Ot n k' j (by rw[hl]at hj;exact hj);have:=r2 j (by rw[hl]at hj;exact hj);rw[hs]at this ⊢;exact this)
    (by cases hq:ta.cmp with | nil=>rw[hq]at h3;simp at h3;omega | cons _ _=>rfl) (by rw[hce])
   rw[hce]at this;exact this.2
 .cases h
end
def AeX:A->Bool
 | .bool _ | .int _ _ | .str _ | .sl _ | .KO | .fn _ | .ump _=>true
 | _=>false
def Ty.Oi: ∀(t:Ty) (v:t.Val),∀ c∈t.cells v,AeX c=true
 | .nil,_,c,h=>by cases h
 | .bool r,v,c,h=>by
  rcases Dx.1 h with rfl | h
  .rfl
  .exact Ty.Oi r _ c h
 | .int _ r,v,c,h=>by
  rcases Dx.1 h with rfl | h
  .rfl
  .exact Ty.Oi r _ c h
 | .str r,v,c,h=>by
  rcases Dx.1 h with rfl | h
  .rfl
  .exact Ty.Oi r _ c h
 | .sl _ _ r,v,c,h=>by
  rcases Dx.1 h with rfl | h
  .rfl
  .exact Ty.Oi r _ c h
 | .ptr r,v,c,h=>by
  rcases Dx.1 h with rfl | h
  .rfl
  .exact Ty.Oi r v c h
 | .fn r,v,c,h=>by
  rcases Dx.1 h with rfl | h
  .rfl
  .exact Ty.Oi r _ c h
 | .mp _ _ r,v,c,h=>by
  rcases Dx.1 h with rfl | h
  .rfl
  .exact Ty.Oi r _ c h
section
variable {P:Program} {C:Ctx} {V0:Nat->Value} {O0 O:Own} {w0 w:World} {m:Nat->Value} {st:St} {a:Act} {o:Oper}
theorem J4.data {Jm:List (Nat×Obj)} {v:Value} {c:A} (h:J4 O Jm m w v c) (hd:AeX c=true):Jt O w v c:=by cases c<;>first | exact h | exact h.elim | cases hd
theorem LJ.toT {Jm:List (Nat×Obj)} {v:Value} {x:A} (h:LJ O w v x):Jw O Jm m w v x/\T1 O Jm m w v x:=by
 have cell: ∀ {v:Value} {x:A},Jt O w v x->J4 O Jm m w v x:=fun h=>by cases h<;>first | exact .bool _ | exact .int _ _ | exact .str _ | exact .nil _ | exact .KO | exact .fn _ | exact .WU | exact Jt.sl0 _ _ | (rename_i vs a1 a2 a3;exact Jt.sl vs a1 a2 a3) | (rename_i h hn;exact Jt.sln h hn)
 cases x with
 | agg cs=>grind[Obj,LJ,Jw,T1]
 | undef=>cases h
 | Ky=>cases h
 | usl _ _ _=>cases h
 | ump _=>cases h
 | ptr _ _=>cases h
 | own _=>cases h
 | elt _=>cases h
 | KD _ _ _=>cases h
 | tup _=>cases h
 | box _=>cases h
 | cbx _ _=>cases h
 | clo _ _=>cases h
 | bsl _ _=>cases h
 | osl _ _=>cases h
 | cnd _ _=>cases h
 | bool _=>exact⟨cell h,cell h⟩
 | int _ _=>exact⟨cell h,cell h⟩
 | str _=>exact⟨cell h,cell h⟩
 | sl _=>exact⟨cell h,cell h⟩
 | sln _=>exact⟨cell h,cell h⟩
 | KO=>exact⟨cell h,cell h⟩
 | fn _=>exact⟨cell h,cell h⟩
theorem Agf {xs:List A} (h:Ad5 (.agg xs)=true):xs.length≠1:=by intro h1;obtain⟨c,rfl⟩:=Ey.1 h1;cases h
theorem AcO {O':Own} {Jm:List (Nat×Obj)} {v:Value} {x:A} {cs:List A} (ho:Ad5 x=true) (hv:x.isVal=true) (hx:Jw O Jm m w v x) (hl:cs.length=x.cells.length)
 (hrel: ∀ j,j<cs.length->Jt O' w (v.cells.getD j undef) (cs.getD j .undef)):LJ O' w v (MQ cs):=by
 have one:J4 O Jm m w v x->x.cells=[x]->LJ O' w v (MQ cs):=by intro hc he;rw[he]at hl;obtain⟨c,rfl⟩:=Ey.1 hl;have h0:=hrel 0 (by simp);rw[oneCell_cells hc.one]at h0;have h0:Jt O' w v c:=h0;show LJ O' w v c;cases c<;>first | exact h0 | cases h0
 cases x with
 | agg xs =>obtain⟨vs,rfl,h2,h3⟩:=hx;have hl:cs.length=xs.length:=hl;rw[YP (by rw[hl];exact Agf ho)];exact⟨vs,rfl,by rw[h2,hl],hrel⟩
 | undef=>cases hv
 | tup _=>cases hv
 | usl _ _ _=>cases hv
 | ump _=>cases hv
 | box _=>cases hv
 | cbx _ _=>cases hv
 | cnd _ _=>cases hv
 | _=>exact one hx rfl
theorem Qa {r:Nat} {es:Array MapEntry} {ck:Nat} (hb:w.heap[r]? =some (.map es ck)):(getObj r).run P w= .ok (.map es ck) w:=by simp [getObj,Sem.run,hb]
theorem Ve {r:Nat} {es:Array MapEntry} {ck:Nat} (x:Go.Obj) (hb:w.heap[r]? =some (.map es ck)):(setObj r x).run P w= .ok () {w with heap:=w.heap.setIfInBounds r x}:=by simp [setObj,Sem.run,hb]
theorem YL {t:Nat} {k:TI->TI->Dl} (hok:Jv (mapOf C t k).ok): ∃ ti kt et ta tb,C.T t=some ti/\ti.d= .map kt et/\C.T kt=some ta/\C.T et=some tb/\mapOf C t k=k ta tb:=by
 unfold mapOf at hok ⊢;obtain⟨ti,ht,he⟩:=JH hok;rw[he]at hok ⊢;split at hok
 .rename_i kt et hd;obtain⟨ta,hta,he⟩:=JH hok;rw[he]at hok;obtain⟨tb,htb,he'⟩:=JH hok;exact⟨ti,kt,et,ta,tb,ht,hd,hta,htb,he.trans he'⟩
 .exact(J5 hok).elim
theorem AaS {Jm:List (Nat×Obj)} (hC:TOk P C) {kt:Nat} {ta tb:TI} (hta:C.T kt=some ta) {l:Mp} {i:A} {v:Value} (hi:Jw O Jm m w v i) (hok:Jv (zQ C ta tb l i)) :
 gV P O w kt l.kt/\LJ O w v (MQ (l.kt.cells (l.kt.mk i.cells).2))/\zX tb=true/\l.vt=tyl tb.cs:=by
 obtain⟨h1,hok⟩:=hok.cons;obtain⟨h2,hok⟩:=hok.cons;obtain⟨h3,hok⟩:=hok.cons;obtain⟨h4,hok⟩:=hok.cons;obtain⟨h5,hok⟩:=hok.cons;obtain⟨h6,hok⟩:=hok.cons;have h7:=hok.cons.1;have h3:=DZ h3;have hc:=Ty.OX _ _ h7;refine⟨by rw[h3];exact Agg hC hta h1,?_,h2,DZ h4⟩;obtain⟨g1,g2⟩:=hi.cells h5;refine AcO (Jm:=Jm) h6 h5 hi (by rw[hc]) (fun j hj=> ?_);have hd:=Ty.Oi _ _ _ (EF hj);have e:(l.kt.cells (l.kt.mk i.cells).2).getD j .undef=(l.kt.cells (l.kt.mk i.cells).2)[j]:=by rw[Di,D7 hj];rfl
 rw[<- e]at hd;rw[hc]at hd hj ⊢;exact(g2 j hj).data hd
theorem AfB {t:Nat} {tb:TI} (hT:Qg P t tb) (hone:zX tb=true) (hp:tb.cs.all CK.plain=true): ∃ z,(zeroValue t).run P w= .ok z w/\LJ O w z (MQ ((tyl tb.cs).cells (tyl tb.cs).zero)):=by
 obtain⟨i,z,h1,h2,h3,h4,h5,h6⟩:=hT.i;refine⟨z,by simp [zeroValue,typeInfo,h1,h4],?_⟩;rw[Ty.rH _ hp];have hv:=U1 (O:=O) (w:=w) _ _ h5 hp;have hl:=(OM (O:=O) (Jm:=[]) (m:=fun _=>undef) (w:=w) _ _ h5).1;have hone:tb.agg= !(Nat.beq tb.cs.length 1):=by simpa [zX]using hone
 rw[mJ,h6,Qi]at hone;cases z with
 | agg vs =>
  have hne:tb.cs.length≠1:=by simpa [VC]using hone
  rw[YP (by simpa using hne)];refine⟨vs,rfl,?_,fun j hj=> ?_⟩
  .have:vs.toList.length=tb.cs.length:=hl;rw[Array.length_toList]at this;simpa using this
  .have:=hv j (by simpa using hj);have e:(Value.agg vs).cells.toList.getD j undef=vs.getD j undef:=by show vs.toList.getD j undef=_;rw[Dj,Di,DF]
   rw[e]at this;exact this
 | _ =>
  have he:tb.cs.length=1:=by simpa [VC]using hone
  obtain⟨c,hc⟩:=Ey.1 he;rw[hc]at hv ⊢;have:=hv 0 (by simp);have this:Jt O w _ c.MG:=this;show LJ O w _ c.MG;cases hcz:c.MG<;>rw[hcz]at this<;>first | exact this | cases this
theorem Acw {op:BinOp} {t ty:Nat} {x y:Operand} {Jm:List (Nat×Obj)} {fet:Fet} (hC:TOk P C) (hF:FOk O Jm m w fet) (ho:o.op= .binOp op t x y ty) (hn:dH y=true) {x':A} (hx:Jw O Jm m w (a.eval x) x')
 (hok:Jv (XX C fet op t x').ok):Pure P O Jm m a w o (XX C fet op t x'):=by
 have hy:a.eval y= .map none:=by
  cases y with
  | const c=>cases c with
   | map r=>cases r with
    | none=>rfl
    | some _=>cases hn
   | _=>cases hn
  | _=>cases hn
 unfold XX at hok ⊢;obtain⟨p,hp,he⟩:=J8 hok;rw[he]at hok ⊢;clear he;obtain⟨ti,ht,he⟩:=JH hok;rw[he]at hok ⊢;clear he;obtain⟨_,hv,hM⟩:=pW hF hx hp;obtain⟨r,es,ck,h1,_⟩:=hM.lists;rw[h1]at hv;cases hd:AeY ti.d with
 | false=>rw[hd]at hok;exact(J5 hok).elim
 | true =>
  rw[hd]at hok;have hu:=(hC.is ht).d;have hu': ∃ k e,P.underlying t=some (.map k e):=by cases hdd:ti.d<;>rw[hdd]at hd hu<;>first | exact⟨_,_,hu⟩ | cases hd
  obtain⟨k,e,hu⟩:=hu'
  have heq:(Op.equal t (.map (some r)) (.map none)).run P w= .ok false w:=by
   have: ∀ d,(Op.equalIn (d+1) t (.map (some r)) (.map none)).run P w= .ok false w:=by intro d;simp [Op.equalIn,DC hu]
   exact this 9999
  cases op with
  | eql =>refine⟨⟨_,?_,.Nc _⟩,rfl,rfl,rfl⟩;simp only[execOp,ho,hv,hy,Dv,V6 (v:=.map (some r)),Result.andThen_ok,binOp,heq,Sem.run_pure]
  | neq =>refine⟨⟨_,?_,.Nc _⟩,rfl,rfl,rfl⟩;simp only[execOp,ho,hv,hy,Dv,V6 (v:=.map (some r)),Result.andThen_ok,binOp,heq,Sem.run_pure];rfl
  | _=>exact(J5 hok).elim
theorem Acs {t:Nat} {x i:Operand} {c:Bool} {Jm:List (Nat×Obj)} {fet:Fet} (hC:TOk P C) (hF:FOk O Jm m w fet) (ho:o.op= .lookup t x i c) {x' i':A} (hx:Jw O Jm m w (a.eval x) x') (hi:Jw O Jm m w (a.eval i) i')
 (hok:Jv (iC C fet t c x' i').ok):Pure P O Jm m a w o (iC C fet t c x' i'):=by
 unfold iC at hok ⊢;obtain⟨ti,kt,et,ta,tb,ht,hd,hta,htb,he⟩:=YL hok;rw[he]at hok ⊢;clear he;obtain⟨p,hp,he⟩:=J8 hok;rw[he]at hok ⊢;clear he;obtain⟨hok1,hok2⟩:=hok.append;have hpl:=hok2.cons.1;obtain⟨_,hv,hM⟩:=pW hF hx hp;obtain⟨hK,hk,hone,hvt⟩:=AaS hC hta hi hok1;obtain⟨r,es,ck,h1,h2,h3,h4,h5⟩:=hM.lists;have hu:=(hC.is ht).d;rw[hd]at hu;have hfind:=hK.find (a.eval i) _ es.toList p.2.l hk h4 (fun i e p he hp=>(h5 i e p he hp).1);have hchk:=hK.check es.isEmpty (a.eval i) _ hk;obtain⟨z,hz1,hz2⟩:=AfB (O:=O) (w:=w) (hC.is htb) hone hpl;rw[<- hvt]at hz2
 have key: ∃ u,(Instr.lookup t (a.eval x) (a.eval i) c).run P w= .ok (if c then .tuple #[u,.bool (NZ p.2.kt (p.2.kt.mk i'.cells).2 p.2.l).isSome]else u) w /\
  LJ O w u (MQ (p.2.vt.cells ((NZ p.2.kt (p.2.kt.mk i'.cells).2 p.2.l).getD p.2.vt.zero))):=by
  rw[hv,h1];rcases kY (k:=(p.2.kt.mk i'.cells).2) es.toList p.2.l 0 h4 with ⟨f1,f2,_,_⟩ | ⟨j,e,q,f1,f2,f3,f4,f5,_,_⟩
  .refine⟨z,?_,by rw[f2];exact hz2⟩;simp [Instr.lookup,DC hu,Qa h2,hchk,hfind,f1,hz1,f2,Result.andThen]
  .refine⟨e.val,?_,by rw[f5];exact(h5 j e q f2 f3).2⟩;simp [Instr.lookup,DC hu,Qa h2,hchk,hfind,f1,f5,Result.andThen]
 obtain⟨u,hrun,hu2⟩:=key;refine⟨⟨if c then .tuple #[u,.bool (NZ p.2.kt (p.2.kt.mk i'.cells).2 p.2.l).isSome]else u,?_,?_⟩,rfl,rfl,rfl⟩
 .simp only[execOp,ho,Dv,hrun,Result.andThen_ok,Sem.run_pure]
 .show Jw O Jm m w _ (uS _ _ _);unfold uS;cases c with
  | false=>exact hu2.toT.1
  | true =>
   refine⟨#[u,.bool (NZ p.2.kt (p.2.kt.mk i'.cells).2 p.2.l).isSome],rfl,rfl,fun j hj=> ?_⟩;have hj:j<2:=hj;rcases(show j=0\/j=1 by omega)with rfl | rfl
   .exact hu2.toT.2
   .exact Jt.bool _
theorem AeU {r:Nat} {x y:Go.Obj} (hb:w.heap[r]? =some x):(w.heap.setIfInBounds r y)[r]? =some y/\ ∀ b,b≠r->(w.heap.setIfInBounds r y)[b]? =w.heap[b]? :=by grind
theorem Zh (hS:Sim V0 O0 w0 O m st a w) {q r ck ck':Nat} {es es':Array MapEntry} {l l':Mp} (hq:Jr st.Jm q=some (.mp l)) (hm:m q= .map (some r)) (hb:w.heap[r]? =some (.map es ck)) (hO:O r 0=some q) (hs:es'.size=l'.l.length)
 (hes: ∀(i:Nat) (p:l'.kt.Val×l'.vt.Val),l'.l[i]? =some p-> ∃ e,es'[i]? =some e/\LJ O w e.key (MQ (l'.kt.cells p.1))/\LJ O w e.val (MQ (l'.vt.cells p.2))) {d:Option Tmp} {v:Value} {x:A} (hx:d≠none-> ∀ O' objs' m' w',Jw O' objs' m' w' v x) :
 Sim V0 O0 w0 O m {tmps:=put st.tmps d x,Jm:=KG st.Jm q (.mp l')} (a.put d v) {w with heap:=w.heap.setIfInBounds r (.map es' ck')}:=by
 obtain⟨hb1,hb2⟩:=AeU (y:=.map es' ck') hb;have hM:Moves O (fun i=>i=q) w {w with heap:=w.heap.setIfInBounds r (.map es' ck')}:=Moves.map rfl rfl rfl (by simp) hb hb1 hb2 hO rfl;have hP:Passes O O (fun i=>i=q) w.heap.size:=⟨fun _ _ _ h=>h,fun _ _ _ _ h _=>h⟩
 have hpr:=hM.JE hP
 have hE:NY st.Jm m (KG st.Jm q (.mp l')) m (fun _=>False):=by
  intro i y hy;rw[JL]at hy;by_cases hi:i=q
  .rw[Dw hi]at hy;injection hy with hy;subst hy;subst hi;exact .inr ⟨_,hq,rfl,rfl⟩
  .rw[Du hi]at hy;exact .inr ⟨y,hy,rfl,rfl⟩
 refine hS.next (st':= {tmps:=put st.tmps d x,Jm:=KG st.Jm q (.mp l')}) (T:=fun i=>i=q) (Nw:=fun _=>False) hM hP (fun b k _ h=>h) hE (fun _ h=>h.elim) (fun r' hr=>by rw[hr,hq];rfl) (fun i y hy=> ?_) rfl (fun h=>hx h _ _ _ _);rw[JL]at hy;by_cases hi:i=q
 .right;rw[Dw hi]at hy;injection hy with hy;subst hy;subst hi;refine⟨(⟨r,es',ck',hm,hb1,hO,hs,fun j p hp=> ?_⟩:LK O _ i (m i) l'),hS.ids i _ hq⟩;obtain⟨e,k1,k2,k3⟩:=hes j p hp;exact⟨e,k1,k2.JE hpr,k3.JE hpr⟩
 .left;rw[Du hi]at hy;exact⟨hi,hy,rfl⟩
theorem AaV {t:Nat} {r:Option Operand} {xs:List A} (hC:TOk P C) (hS:Sim V0 O0 w0 O m st a w) {d:Nat} (hd:o.dst=some d) (ho:o.op= .makeMap t r) (hr:xs.length=r.toArray.size) (hok:Jv (QD C d t xs).ok) (hfr: ∀ p∈(QD C d t xs).new,st.fresh p.1=true) :
 Good P V0 O0 w0 (apply st o (QD C d t xs)) o a w:=by
 intro next Q hn
 unfold QD at *
 obtain⟨ti,kt,et,ta,tb,ht,hd',hta,htb,he⟩:=YL hok;rw[he]at hok hfr hn;clear he;have hx:xs=[]:=by simpa using hok.cons.1
 subst hx;have hr0:r=none:=by cases r with | none=>rfl | some _=>simp at hr
 subst hr0;have hfresh:=Ls (hfr _ Dp);have hrun:(execOp a.eval o).run P w= .ok (.value (.map (some w.heap.size))) (w.alloc (.map #[] 0)):=by have:(Instr.makeMap t none).run P w= .ok (.map (some w.heap.size)) (w.alloc (.map #[] 0)):=rfl;simp only[execOp,ho,Option.map_none,Dv,this,Result.andThen_ok,Sem.run_pure]
 unfold Oper.wp;rw[hrun,Oper.upon_value,hd];let id:=b2 d;let O':Own:=fun b k=>if b=w.heap.size then some id else O b k;let m':Nat->Value:=fun i=>if i=id then .map (some w.heap.size)else m i;have hlt: ∀ {b k},b<w.heap.size->O' b k=O b k:=fun hb=>Du (Fj hb);have hM:Moves O (fun _=>False) w (w.alloc (.map #[] 0)):=Moves.push _;have hP:Passes O O' (fun _=>False) w.heap.size:=⟨fun b k hb h=>by rw[hlt hb];exact h,fun b k q hb h _=>by rw[hlt hb];exact h⟩
 let ob:Vm.Obj:=.mp ⟨tyl ta.cs,tyl tb.cs,[]⟩
 have hget: ∀ i y,Jr (KG st.Jm id ob) i=some y->(i=id/\y=ob)\/(i≠id/\Jr st.Jm i=some y):=by
  intro i y hy;rw[JL]at hy;by_cases hi:i=id
  .rw[Dw hi]at hy;injection hy with hy;exact .inl ⟨hi,hy.symm⟩
  .rw[Du hi]at hy;exact .inr ⟨hi,hy⟩
 have hE:NY st.Jm m (KG st.Jm id ob) m' (fun i=>i=id):=by
  intro i y hy;rcases hget i y hy with ⟨h1,_⟩ | ⟨h1,h2⟩
  .exact .inl h1
  .exact .inr ⟨y,h2,rfl,Du h1⟩
 refine hn O' m' _ _ ?_;have happ: ∀ ok,apply st o {ok:=ok,val:=.own (b2 d),new:=[(b2 d,ob)]}= {tmps:=put st.tmps (some d) (.own id),Jm:=KG st.Jm id ob}:=by intro ok;unfold apply;rw[hd];rfl
 rw[happ];refine hS.next (st':= {tmps:=put st.tmps (some d) (.own id),Jm:=KG st.Jm id ob}) (x:=.own id) (T:=fun _=>False) (Nw:=fun i=>i=id) hM hP (fun b k hb h=>by rw[hlt hb]at h;exact h) hE (fun n hn=>by rw[hn];exact hfresh.both) (fun _ h=>h.elim) (fun i y hy=> ?_) rfl (fun _=> ?_)
 .rcases hget i y hy with ⟨h1,h2⟩ | ⟨h1,h2⟩
  .right;subst h1;subst h2;refine⟨(⟨w.heap.size,#[],0,Dw rfl,YB _ _,Dw rfl,rfl,fun i p hp=>by cases hp⟩:LK O' _ id (m' id) _),hfresh.ne⟩
  .exact .inl ⟨fun h=>h,h2,Du h1⟩
 .refine⟨rfl,?_⟩;all_goals grind[Jr,KG,Obj.shp,JL]
theorem Agl {α :Type} {l:List α} {j:Nat} {x: α} {i:Nat} {p: α} (h:(l.set j x)[i]? =some p):(i=j/\p=x/\j<l.length)\/(i≠j/\l[i]? =some p):=by
 rw[E8]at h;by_cases hi:j=i
 .simp_all[hi,split]
 .rw[Du hi]at h;exact .inr ⟨fun e=>hi e.symm,h⟩
theorem kM {t:Nat} {x i y:Operand} (hC:TOk P C) (hS:Sim V0 O0 w0 O m st a w) (hd:o.dst=none) (ho:o.op= .mapUpdate t x i y\/o.op= .insert t x i y) {fet:Fet} (hf:MP st.Jm fet) {x' i' y':A} (hx:Jw O st.Jm m w (a.eval x) x') (hi:Jw O st.Jm m w (a.eval i) i') (hy:Jw O st.Jm m w (a.eval y) y')
 (hok:Jv (Ym C fet t x' i' y').ok):Good P V0 O0 w0 (apply st o (Ym C fet t x' i' y')) o a w:=by
 intro next Q hn
 have hF:FOk O st.Jm m w fet:=fun q x h=>⟨hf q x h,hS.Jm q x (hf q x h)⟩
 unfold Ym at *
 obtain⟨ti,kt,et,ta,tb,ht,hd',hta,htb,he⟩:=YL hok;rw[he]at hok hn;clear he;obtain⟨p,hp,he⟩:=J8 hok;rw[he]at hok hn;clear he;obtain⟨hokA,hokB⟩:=hok.append;have hmk:=hokB.cons.1;obtain⟨hokA,hokP⟩:=hokA.append;obtain⟨hok1,hokV⟩:=hokA.append;obtain⟨hv1,hokV⟩:=hokV.cons;have hv2:=hokV.cons.1;obtain⟨hq,hv,hM⟩:=pW hF hx hp;obtain⟨hK,hk,hone,hvt⟩:=AaS hC hta hi hok1;obtain⟨hyc1,hyc2⟩:=hy.cells hv1;obtain⟨g1,g2,g3,g4⟩:=PN (O:=O) (m:=m) (w:=w) hf tb.cs y'.cells (fun j=>(a.eval y).cells.getD j undef) hyc2 hokP;generalize hpu:JS fet tb.cs y'.cells=pu at *
 obtain⟨O1,hS1,hp1,hle1,hv1',hE1,hk1⟩:=hS.freezes _ g3;have hNR:NR st.Jm p.1:=.of hq (fun _ _ _ h=>by cases h)
 have hq1:Jr (J3 st.Jm pu.2.2) p.1=some (.mp p.2):=by
  rw[KW _ _ _ (fun z hz e=> ?_)]
  .exact hq
  .obtain⟨e',f',l',h1,_⟩:=g3 z hz;rw[e]at h1;exact hNR _ _ _ h1
 obtain⟨r,es,ck,h1,h2,h3,h4,h5⟩:=(show LK O1 w p.1 (m p.1) p.2 from hS1.Jm p.1 _ hq1).lists;have hu:=(hC.is ht).d;rw[hd']at hu;have hM0:=hM.lists;obtain⟨r0,es0,ck0,k1,k2,k3,k4,k5⟩:=hM0;rw[h1]at k1;injection k1 with k1;injection k1 with k1;subst k1;rw[h2]at k2;injection k2 with k2;injection k2 with k2 k2';subst k2;subst k2';have hfind:=hK.find (a.eval i) _ es.toList p.2.l hk k4 (fun i e p he hp=>(k5 i e p he hp).1);have hchk:=hK.check false (a.eval i) _ hk;have hk':LJ O1 w (a.eval i) (MQ (p.2.kt.cells (p.2.kt.mk i'.cells).2)):=hk.JE hp1;have hcells:=Ty.OX _ _ hmk;have hval:LJ O1 w (a.eval y) (MQ (p.2.vt.cells (p.2.vt.mk pu.2.1).2)):=by rw[hcells];refine AcO (Jm:=st.Jm) hv2 hv1 hy (by rw[g1,g2]) (fun j hj=>g4 hp1 hv1' j (by rw[<- g1];exact hj))
 have happ: ∀ ok l',apply st o {ok:=ok,val:=.undef,upd:=pu.2.2++[(p.1,.mp l')]}= {tmps:=put st.tmps none .undef,Jm:=KG (J3 st.Jm pu.2.2) p.1 (.mp l')}:=by
  intro ok l';unfold apply;rw[hd]
  have: ∀(u:List (Nat×Vm.Obj)) (l:List (Nat×Vm.Obj)) n z,J3 l (u++[(n,z)])=KG (J3 l u) n z:=by
   intro u
   induction u with
   | nil=>intro l n z;rfl
   | cons q u ih=>intro l n z;exact ih _ _ _
  show St.mk _ (J3 (JK (J3 st.Jm (pu.2.2++[(p.1,.mp l')])) []) [])=_;rw[this];rfl
 rcases kY (k:=(p.2.kt.mk i'.cells).2) es.toList p.2.l 0 k4 with ⟨f1,_,f3,_⟩ | ⟨j,e,q,f1,f2,f3,f4,_,f6,_⟩
 .have hrun:(execOp a.eval o).run P w= .ok .skip {w with heap:=w.heap.setIfInBounds r (.map (es.push {key:=a.eval i,val:=a.eval y,born:=ck}) (ck+1))}:=by
   have:(Instr.mapUpdate t (a.eval x) (a.eval i) (a.eval y)).run P w= .ok () {w with heap:=w.heap.setIfInBounds r (.map (es.push {key:=a.eval i,val:=a.eval y,born:=ck}) (ck+1))}:=by rw[hv,h1];simp [Instr.mapUpdate,DC hu,Qa h2,hchk,hfind,f1,Ve _ h2,Result.andThen]
   rcases ho with ho | ho<;>simp only[execOp,ho,Dv,this,Result.andThen_ok,Sem.run_pure]
  unfold Oper.wp;rw[hrun,Oper.upon_skip,hd];refine hn O1 m _ _ ?_;rw[happ];refine Zh hS1 (d:=none) (v:=undef) hq1 h1 h2 h3 (by rw[f3,Array.size_push,Ef,<- k4,Array.length_toList];rfl) (fun i0 p0 hp0=> ?_) (fun h=>absurd rfl h);have hp0:(P5 p.2.kt (p.2.kt.mk i'.cells).2 (p.2.vt.mk pu.2.1).2 p.2.l)[i0]? =some p0:=hp0;rw[f3]at hp0;have hsz:es.size=p.2.l.length:=by rw[<- k4,Array.length_toList]
  rcases DN i0 p.2.l.length with hlt | hge
  .rw[DU hlt]at hp0;have hlt':i0<es.size:=by omega
   have hes:es.toList[i0]? =some es[i0]:=by rw[DF,Dt hlt']
   refine⟨es[i0],by rw[FW,Du,Dt hlt'],h5 i0 _ p0 hes hp0⟩
  .rw[Ea hge]at hp0
   have h0:i0 - p.2.l.length=0:=by
    rcases Gi (i0 - p.2.l.length)with h | h
    .exact h
    .rw[DL (by show 1<=_;omega)]at hp0;cases hp0
   rw[h0]at hp0;injection hp0 with hp0;subst hp0;exact⟨_,by rw[FW,AiD],hk',hval⟩
 .have hstay:=hK.stays (a.eval i) e.key _ hk (by rw[<- f4];exact(k5 j e q f2 f3).1);have f2':es[j]? =some e:=by rw[<- DF];exact f2
  have hrun:(execOp a.eval o).run P w= .ok .skip {w with heap:=w.heap.setIfInBounds r (.map (es.modify j fun e=> {e with key:=a.eval i,val:=a.eval y}) ck)}:=by
   have:(Instr.mapUpdate t (a.eval x) (a.eval i) (a.eval y)).run P w= .ok () {w with heap:=w.heap.setIfInBounds r (.map (es.modify j fun e=> {e with key:=a.eval i,val:=a.eval y}) ck)}:=by rw[hv,h1];simp [Instr.mapUpdate,DC hu,Qa h2,hchk,hfind,f1,f2',hstay,Ve _ h2,Result.andThen]
   rcases ho with ho | ho<;>simp only[execOp,ho,Dv,this,Result.andThen_ok,Sem.run_pure]
  unfold Oper.wp;rw[hrun,Oper.upon_skip,hd];refine hn O1 m _ _ ?_;rw[happ];refine Zh hS1 (d:=none) (v:=undef) hq1 h1 h2 h3 (by rw[f6,Array.size_modify,EI,<- k4,Array.length_toList]) (fun i0 p0 hp0=> ?_) (fun h=>absurd rfl h);have hp0:(P5 p.2.kt (p.2.kt.mk i'.cells).2 (p.2.vt.mk pu.2.1).2 p.2.l)[i0]? =some p0:=hp0;rw[f6]at hp0;rcases Agl hp0 with ⟨q1,q2,_⟩ | ⟨q1,q2⟩
  .subst q1;subst q2;refine⟨_,by rw[EO,Dw rfl,f2'];rfl,?_,hval⟩;dsimp only;rw[f4];exact hk'
  .have hlt:i0<es.size:=by
    have:=(Et.1 q2).1;rw[<- k4,Array.length_toList]at this;exact this
   have hes:es.toList[i0]? =some es[i0]:=by rw[DF,Dt hlt]
   exact⟨es[i0],by rw[EO,Du (fun h=>q1 h.symm),Dt hlt],h5 i0 _ p0 hes q2⟩
theorem AbX {t:Nat} {x i:Operand} {c:Call} (hC:TOk P C) (hS:Sim V0 O0 w0 O m st a w) (ho:o.op= .call c) (hcal:c.callee= .builtin .delete) (hargs:c.args= #[x,i]) {ts:List Nat} (hts:c.argTypes.toList=t::ts) {fet:Fet} (hf:MP st.Jm fet) {x' i':A} (hx:Jw O st.Jm m w (a.eval x) x') (hi:Jw O st.Jm m w (a.eval i) i')
 (hok:Jv (XK C fet t x' i').ok):Good P V0 O0 w0 (apply st o (XK C fet t x' i')) o a w:=by
 intro next Q hn
 have hF:FOk O st.Jm m w fet:=fun q x h=>⟨hf q x h,hS.Jm q x (hf q x h)⟩
 unfold XK at *
 obtain⟨ti,kt,et,ta,tb,ht,hd',hta,htb,he⟩:=YL hok;rw[he]at hok hn;clear he;obtain⟨p,hp,he⟩:=J8 hok;rw[he]at hok hn;clear he;obtain⟨hq,hv,hM⟩:=pW hF hx hp;obtain⟨hK,hk,hone,hvt⟩:=AaS hC hta hi hok;obtain⟨r,es,ck,h1,h2,h3,h4,h5⟩:=hM.lists;have hu:=(hC.is ht).d;rw[hd']at hu;have hts0:c.argTypes[0]? =some t:=by rw[<- DF,hts];rfl
 have hfind:=hK.find (a.eval i) _ es.toList p.2.l hk h4 (fun i e p he hp=>(h5 i e p he hp).1);have hchk:=hK.check es.isEmpty (a.eval i) _ hk;have happ: ∀ ok l',apply st o {ok:=ok,val:=.tup [],upd:=[(p.1,.mp l')]}= {tmps:=put st.tmps o.dst (.tup []),Jm:=KG st.Jm p.1 (.mp l')}:=by intro ok l';rfl
 have hT: ∀(O':Own) (objs':List (Nat×Vm.Obj)) (m':Nat->Value) (w':World),Jw O' objs' m' w' (.tuple #[]) (.tup []):=fun _ _ _ _=>⟨#[],rfl,rfl,fun j hj=>by cases hj⟩
 have main: ∀(es':Array MapEntry),(Builtin.delete_ c.argTypes o.type #[a.eval x,a.eval i]).run P w= .ok (.tuple #[]) {w with heap:=w.heap.setIfInBounds r (.map es' ck)}->es'.size=(VI p.2.kt (p.2.kt.mk i'.cells).2 p.2.l).length ->
  (∀(i0:Nat) (p0:p.2.kt.Val×p.2.vt.Val),(VI p.2.kt (p.2.kt.mk i'.cells).2 p.2.l)[i0]? =some p0-> ∃ e,es'[i0]? =some e/\LJ O w e.key (MQ (p.2.kt.cells p0.1))/\LJ O w e.val (MQ (p.2.vt.cells p0.2)))->o.wp P a w next Q:=by
  intro es' hr hs he;have hrun:(execOp a.eval o).run P w= .ok (.value (.tuple #[])) {w with heap:=w.heap.setIfInBounds r (.map es' ck)}:=by simp [execOp,ho,resolve,hcal,hargs,invoke,builtin,hr]
  unfold Oper.wp;rw[hrun,Oper.upon_value];refine hn O m _ _ ?_;rw[happ];exact Zh (l':=⟨p.2.kt,p.2.vt,VI p.2.kt (p.2.kt.mk i'.cells).2 p.2.l⟩) hS hq (by rw[<- h1]) h2 h3 hs he (fun _=>hT)
 have hsz:es.size=p.2.l.length:=by rw[<- h4,Array.length_toList]
 rcases kY (k:=(p.2.kt.mk i'.cells).2) es.toList p.2.l 0 h4 with ⟨f1,_,_,f3⟩ | ⟨j,e,q,f1,f2,f3,f4,_,_,f6⟩
 .refine main es ?_ (by rw[f3];exact hsz) (fun i0 p0 hp0=> ?_)
  .rw[hv,h1];simp [Builtin.delete_,hts0,DC hu,Qa h2,hchk,hfind,f1,Ve _ h2,Result.andThen]
  .rw[f3]at hp0;have hlt:i0<es.size:=by have:=(Et.1 hp0).1;omega
   have hes:es.toList[i0]? =some es[i0]:=by rw[DF,Dt hlt]
   exact⟨es[i0],Dt hlt,h5 i0 _ p0 hes hp0⟩
 .have hj:j<es.size:=by
   have:=(Et.1 f2).1;simpa using this
  have hel:(es.eraseIdxIfInBounds j).toList=es.toList.eraseIdx j:=by unfold Array.eraseIdxIfInBounds;rw[dif_pos hj];simp
  refine main (es.eraseIdxIfInBounds j) ?_ ?_ (fun i0 p0 hp0=> ?_)
  .rw[hv,h1];simp [Builtin.delete_,hts0,DC hu,Qa h2,hchk,hfind,f1,Ve _ h2,Result.andThen]
  all_goals grind[LJ,MQ,split]
end
end Go.Proofs.YtpaimpmokhihmaaGreatDoor.Vm
