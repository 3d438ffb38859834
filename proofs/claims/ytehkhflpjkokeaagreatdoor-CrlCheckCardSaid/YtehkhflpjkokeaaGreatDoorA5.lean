import Derived.Test.YtehkhflpjkokeaaGreatDoorA4
import Derived.MapKept
import Derived.Carry
set_option linter.all false
namespace Go.Proofs.YtehkhflpjkokeaaGreatDoor.Vm
open Classical MapKept
def Ty.cO {α :Type} (r:Ty) (p:Ty.pr α r.Val r) (hu:r= .nil->True):r.mk2 (r.hd p) (r.tl p)=p:=by cases r<;>rfl
def Ty.same_eq: ∀(t:Ty) (a b:t.Val),t.same a b=true->a=b
 | .nil,_,_,_=>rfl
 | .bool r,a,b,h=>by simp only[Ty.same,Du]at h;rw[<- Ty.cO r a (fun _=>trivial),<- Ty.cO r b (fun _=>trivial),Gh h.1,Ty.same_eq r _ _ h.2]
 | .int _ r,a,b,h=>by simp only[Ty.same,Du]at h;rw[<- Ty.cO r a (fun _=>trivial),<- Ty.cO r b (fun _=>trivial),Gh h.1,Ty.same_eq r _ _ h.2]
 | .str r,a,b,h=>by simp only[Ty.same,Du]at h;rw[<- Ty.cO r a (fun _=>trivial),<- Ty.cO r b (fun _=>trivial),Gh h.1,Ty.same_eq r _ _ h.2]
 | .sl _ _ _,_,_,h=>by cases h
 | .ptr _,_,_,h=>by cases h
 | .fn _,_,_,h=>by cases h
 | .mp _ _ _,_,_,h=>by cases h
def Aff:List A->List A->Bool
 | .str x::xs,.str y::ys=>(x==y)&&Aff xs ys
 | _,_=>true
def Lh:Nat->Ty
 | 0=>.nil
 | n+1=>.str (Lh n)
def Asv: ∀(n:Nat) (a b:(Lh n).Val),(Lh n).same a b=Aff ((Lh n).cells a) ((Lh n).cells b):=by
 intro n
 induction n with
 | zero=>intro a b;rfl
 | succ n ih=>intro a b;show((_==_)&&_)=((_==_)&&_);rw[ih]
def Amg (n:Nat):tyl (List.replicate n [CK.str]).flatten=Lh n:=by
 induction n with
 | zero=>rfl
 | succ n ih=>grind[tyl,Lh]
def Ru: ∀(n:Nat) (a:(Lh n).Val) (j:Nat),j<n-> ∃ s,((Lh n).cells a).getD j .undef= .str s:=by
 intro n
 induction n with
 | zero=>intro a j h;omega
 | succ n ih =>
  intro a j h;cases j with
  | zero=>exact⟨_,rfl⟩
  | succ j=>exact ih _ j (by omega)
def fnd {β :Type} (t:Ty) (k:t.Val):List MapEntry->List (t.Val× β)->Nat->Option (Nat×Value)
 | e::es,p::l,i=>bif t.same k p.1 then some (i,e.val)else fnd t k es l (i+1)
 | _,_,_=>none
def Ac8 {β :Type} {t:Ty} {k:t.Val}: ∀(es:List MapEntry) (l:List (t.Val× β)) (i:Nat),es.length=l.length ->
 (fnd t k es l i=none/\O9 t k l=none/\(∀ x,VG t k x l=l++[(k,x)])/\fC t k l=l) \/
 ∃ j e p,fnd t k es l i=some (i+j,e.val)/\es[j]? =some e/\l[j]? =some p/\p.1=k/\O9 t k l=some p.2/\(∀ x,VG t k x l=l.set j (p.1,x))/\fC t k l=l.eraseIdx j:=by
 intro es
 induction es with
 | nil =>
  intro l i h;cases l with
  | nil=>exact .inl ⟨rfl,rfl,fun _=>rfl,rfl⟩
  | cons _ _=>cases h
 | cons e es ih =>
  intro l i h;cases l with
  | nil=>cases h
  | cons p l =>
   cases hs:t.same k p.1 with
   | true =>refine .inr ⟨0,e,p,by simp [fnd,hs],rfl,rfl,(Ty.same_eq _ _ _ hs).symm,by simp [O9,hs],fun x=>by simp [VG,hs],by simp [fC,hs]⟩
   | false =>
    rcases ih l (i+1) (by simpa using h)with ⟨h1,h2,h3,h4⟩ | ⟨j,e',p',h1,h2,h3,h4,h5,h6,h7⟩
    .simp_all[fnd,hs,O9,VG,fC,Ty]
    .exact .inr ⟨j+1,e',p',by simp only[fnd,hs,cond_false,h1];congr 2;omega,by simpa using h2,by simpa using h3,h4,by simp [O9,hs,h5],fun x=>by simp [VG,hs,h6],by simp [fC,hs,h7]⟩
section
variable {P:Program} {C:Ctx} {V0:Nat->Value} {O0 O:Own} {w0 w:World} {m:Nat->Value} {st:St} {a:Act} {o:Oper}
structure AaL (P:Program) (O:Own) (w:World) (kt:TypeId) (t:Ty):Prop where
 check: ∀(e:Bool) (v:Value) (k:t.Val),Nv O w v (OA (t.cells k))->(Instr.checkKey e 10000 kt v).run P w= .ok () w
 find: ∀ {β :Type} (v:Value) (k:t.Val) (es:List MapEntry) (l:List (t.Val× β)),Nv O w v (OA (t.cells k))->es.length=l.length->(∀(i:Nat) e p,es[i]? =some e->l[i]? =some p->Nv O w e.key (OA (t.cells p.1))) ->
  (Instr.findKey kt v es).run P w= .ok (fnd t k es l 0) w
 stays: ∀(v u:Value) (k:t.Val),Nv O w v (OA (t.cells k))->Nv O w u (OA (t.cells k))->(Instr.keyThatStays u v).run P w= .ok v w
def AbT {β :Type} {t:Ty} {k:t.Val} {d:TypeDesc} {v:Value}: ∀(es:List MapEntry) (l:List (t.Val× β)) (i:Nat),es.length=l.length->(∀(i:Nat) (e:MapEntry) (p:t.Val× β),es[i]? =some e->l[i]? =some p->Instr.sameNow d v e.key=some (t.same k p.1)) ->
 Instr.findNow d v es i=some (fnd t k es l i):=by
 intro es
 induction es with
 | nil=>intro l i h _;cases l<;>rfl
 | cons e es ih =>
  intro l i h hs;cases l with
  | nil=>cases h
  | cons p l =>
   have h0:=hs 0 e p rfl rfl;have h1:=ih l (i+1) (by simpa using h) (fun i e p he hp=>hs (i+1) e p (by simpa using he) (by simpa using hp));cases hb:t.same k p.1 with
   | true=>rw[hb]at h0;simp [Instr.findNow,h0,fnd,hb]
   | false=>rw[hb]at h0;simp [Instr.findNow,h0,fnd,hb,h1]
def Adz {β :Type} {t:Ty} {k:t.Val} {kt:TypeId} {v:Value}: ∀(es:List MapEntry) (l:List (t.Val× β)) (i:Nat),es.length=l.length->(∀(i:Nat) (e:MapEntry) (p:t.Val× β),es[i]? =some e->l[i]? =some p->(Op.equal kt v e.key).run P w= .ok (t.same k p.1) w) ->
 (Instr.findAsking kt v es i).run P w= .ok (fnd t k es l i) w:=by
 intro es
 induction es with
 | nil=>intro l i h _;cases l<;>first | rfl | cases h
 | cons e es ih =>
  intro l i h hs;cases l with
  | nil=>cases h
  | cons p l =>
   have h0:=hs 0 e p rfl rfl;have h1:=ih l (i+1) (by simpa using h) (fun i e p he hp=>hs (i+1) e p (by simpa using he) (by simpa using hp));cases hb:t.same k p.1 with
   | true=>rw[hb]at h0;simp [Instr.findAsking,h0,fnd,hb]
   | false=>rw[hb]at h0;simp [Instr.findAsking,h0,fnd,hb,h1]
def VX {a b:ByteArray} (h:a.data.toList=b.data.toList):a=b:=by obtain⟨⟨x⟩⟩:=a;all_goals simp_all
theorem iU (a b:ByteArray):(a==b)=(a.data.toList==b.data.toList):=by rw[Fj,bytes_beq,EI];exact⟨fun h=>by rw[h],VX⟩
def J3.str' {v:Value} {s:List UInt8} (h:J3 O w v (.str s)): ∃ b:ByteArray,v= .string b/\b.data.toList=s:=by cases h;exact⟨_,rfl,rfl⟩
def J3.int' {v:Value} {k:IntKind} {n:Int} (h:J3 O w v (.int k n)):v= .int k n:=by cases h;rfl
theorem Auv (k k':List UInt8):(Ty.str .nil).same k k'=(k==k'):=FK _
def Auu (q:IntKind) (k k':Int):(Ty.int q .nil).same k k'=(k==k'):=FK _
def An0 (q:IntKind) (a b:Int):Instr.sameNow (.int q) (.int q a) (.int q b)=some (a==b):=by simp [Instr.sameNow]
def ArD {kt:TypeId} (hu:P.underlying kt=some .string):AaL P O w kt (.str .nil) where
 check e v k h:=by obtain⟨b,rfl,_⟩:=J3.str' (show J3 O w v (.str k)from h);exact run_checkKey hu (show IsKey .string (.string b)from trivial) e 9999
 find v k es l h hl hes:=by
  obtain⟨b,rfl,hb⟩:=J3.str' (show J3 O w v (.str k)from h)
  have hn:Instr.findNow .string (.string b) es 0=some (fnd (.str .nil) k es l 0):=AbT es l 0 hl fun i e p he hp=>by
   obtain⟨b',h1,h2⟩:=J3.str' (show J3 O w e.key (.str p.1)from hes i e p he hp);rw[h1];have e1:Instr.sameNow .string (.string b) (.string b')=some (b==b'):=by simp [Instr.sameNow]
   all_goals grind[Auv,iU]
  simp [Instr.findKey,Eb hu,hn]
 stays v u k h h':=by
  obtain⟨b,rfl,hb⟩:=J3.str' (show J3 O w v (.str k)from h);obtain⟨b',rfl,hb'⟩:=J3.str' (show J3 O w u (.str k)from h');obtain rfl:b'=b:=VX (by rw[hb,hb']);have:(b'==b')=true:=by rw[iU];simp
  simp [Instr.keyThatStays,Instr.sameBits,this]
def ArC {kt:TypeId} {q:IntKind} (hu:P.underlying kt=some (.int q)):AaL P O w kt (.int q .nil) where
 check e v k h:=by obtain rfl:=J3.int' (show J3 O w v (.int q k)from h);exact run_checkKey hu (show IsKey (.int q) (.int q k)from rfl) e 9999
 find v k es l h hl hes:=by
  obtain rfl:=J3.int' (show J3 O w v (.int q k)from h);have hn:Instr.findNow (.int q) (.int q k) es 0=some (fnd (.int q .nil) k es l 0):=AbT es l 0 hl fun i e p he hp=>by rw[J3.int' (show J3 O w e.key (.int q p.1)from hes i e p he hp)];exact(An0 q k p.1).trans (congrArg some (Auu q k p.1).symm)
  simp [Instr.findKey,Eb hu,hn]
 stays v u k h h':=by
  obtain rfl:=J3.int' (show J3 O w v (.int q k)from h);obtain rfl:=J3.int' (show J3 O w u (.int q k)from h');have:((k:Int)==(k:Int))=true:=by simp
  have:Instr.sameBits 10000 (.int q k) (.int q k)=true:=by
   have: ∀ n:Int,Instr.sameBits 10000 (.int q n) (.int q n)=true:=fun n=>by simp [Instr.sameBits]
   exact this k
  simp [Instr.keyThatStays,this]
def rF {cs:List A} (h:cs.length≠1):OA cs= .agg cs:=by
 unfold OA;split
 .simp at h
 .rfl
def ArA {e:TypeId} {d:Nat} (hue:P.underlying e=some .string) {xs ys:Array Value} {cs ds:List A} (hx: ∀ j,j<cs.length->J3 O w (xs.getD j undef) (cs.getD j .undef)) (hxs:xs.size=cs.length)
 (hy: ∀ j,j<ds.length->J3 O w (ys.getD j undef) (ds.getD j .undef)) (hys:ys.size=ds.length) (hl:cs.length=ds.length) (hc: ∀ j,j<cs.length-> ∃ s,cs.getD j .undef= .str s) (hd: ∀ j,j<ds.length-> ∃ s,ds.getD j .undef= .str s) :
 ∀(n i:Nat),i+n=cs.length->(Op.eqItems (d+1) e 1 xs ys (List.range' i n)).run P w= .ok (Aff (cs.drop i) (ds.drop i)) w:=by
 intro n
 induction n with
 | zero =>intro i hi;have:cs.drop i=[]:=FZ (by omega);rw[this];rfl
 | succ n ih =>
  intro i hi;have hi':i<cs.length:=by omega
  obtain⟨s,hs⟩:=hc i hi';obtain⟨s',hs'⟩:=hd i (by omega);have hx1:=hx i hi';have hy1:=hy i (by omega);rw[hs]at hx1;rw[hs']at hy1;obtain⟨b,hb1,hb2⟩:=hx1.str';obtain⟨b',hb1',hb2'⟩:=hy1.str'
  have ex:xs[i]? =some (.string b):=by
   have:i<xs.size:=by omega
   rw[D7 this,<- hb1,Dq,D7 this];rfl
  have ey:ys[i]? =some (.string b'):=by
   have:i<ys.size:=by omega
   rw[D7 this,<- hb1',Dq,D7 this];rfl
  have hpk:P.plainKey e=true:=by simp [Program.plainKey,hue]
  have p1:=run_part_plain w hpk (off:=i*1) (by rw[Fh];exact ex);have p2:=run_part_plain w hpk (off:=i*1) (by rw[Fh];exact ey);have p3:=run_equalIn_string (P:=P) w d e b b' hue;have ec:cs.drop i= .str s::cs.drop (i+1):=by rw[Ep hi',<- hs,Dj,DC hi'];rfl
  have ed:ds.drop i= .str s'::ds.drop (i+1):=by rw[Ep (by omega),<- hs',Dj,DC (by omega)];rfl
  rw[List.range'_succ,ec,ed];have ih':=ih (i+1) (by omega);simp only[Op.eqItems,D8,p1,p2,p3,Result.andThen_ok];rw[jT,jT,hb2,hb2'];cases hbb:(s==s')with
  | false=>simp [Aff,hbb]
  | true=>simp [Aff,hbb,ih']
def AfB {e:TypeId} {em:Bool} {d:Nat} (hue:P.underlying e=some .string) (hsz:(sizeOf e).run P w= .ok 1 w) {xs:Array Value} {n:Nat} (hx: ∀ j,j<n-> ∃ b,xs[j]? =some (.string b)) :
 ∀(is:List Nat),(∀ i∈is,i<n)->(forIn is PUnit.unit fun i _=>do Instr.checkKey em (d+1) e (<- part e xs (i*(<- sizeOf e)));pure (ForInStep.yield PUnit.unit)).run P w= .ok PUnit.unit w:=by
 intro is
 induction is with
 | nil=>intro _;simp
 | cons j is ih =>
  intro h;obtain⟨b,hb⟩:=hx j (h j (by simp));have hpk:P.plainKey e=true:=by simp [Program.plainKey,hue]
  have p1:=run_part_plain w hpk (off:=j*1) (by rw[Fh];exact hb);have p2:=run_checkKey (P:=P) (w:=w) hue (k:=.string b) trivial em d;simp only[List.forIn_cons,D8,hsz,Result.andThen_ok,p1,p2,Sem.run_pure];exact ih (fun i hi=>h i (by simp [hi]))
def Nv.agg' {v:Value} {cs:List A} (h:Nv O w v (.agg cs)): ∃ vs:Array Value,v= .agg vs/\vs.size=cs.length/\ ∀ j,j<cs.length->J3 O w (vs.getD j undef) (cs.getD j .undef):=h
def Apt {kt e:TypeId} {n:Nat} {ie:TypeInfo} (hu:P.underlying kt=some (.array n e)) (hue:P.underlying e=some .string) (hie:P.info? e=some ie) (his:ie.size=1) (hn:1<n):AaL P O w kt (Lh n):=by
 have hlen: ∀ k:(Lh n).Val,((Lh n).cells k).length=n:=fun k=>by
  rw[Ty.MB];have: ∀ n,(Lh n).len=n:=by intro n;induction n with | zero=>rfl | succ n ih=>simp [Lh,Ty.len,ih]
  exact this n
 have hag: ∀ k:(Lh n).Val,OA ((Lh n).cells k)= .agg ((Lh n).cells k):=fun k=>rF (by rw[hlen];omega);have hce:P.cellsOf e=1:=by simp [Program.cellsOf,hie,his]
 have hsz:(sizeOf e).run P w= .ok 1 w:=by simp [sizeOf,typeInfo,hie,his]
 have hstr: ∀ {vs:Array Value} {k:(Lh n).Val},vs.size=n->(∀ j,j<n->J3 O w (vs.getD j undef) (((Lh n).cells k).getD j .undef))-> ∀ j,j<n-> ∃ b,vs[j]? =some (.string b):=by
  intro vs k hs h j hj;obtain⟨s,hs'⟩:=Ru n k j hj;have h1:=h j hj;rw[hs']at h1;obtain⟨b,hb,_⟩:=h1.str';have hj':j<vs.size:=by omega
  exact⟨b,by rw[D7 hj',<- hb,Dq,D7 hj'];rfl⟩
 refine⟨fun em v k h=> ?_,fun v k es l h hl hes=> ?_,fun v u k h h'=> ?_⟩
 .rw[hag]at h;obtain⟨vs,rfl,h1,h2⟩:=h.agg';rw[hlen]at h1 h2;rw[show(10000:Nat)=9998+1+1 from rfl,Instr.checkKey];simp only[D8,Eb hu,Result.andThen_ok];simp only[Std.Legacy.Range.forIn_eq_forIn_range',Std.Legacy.Range.size,Nat.sub_zero,Nat.add_one_sub_one,Nat.div_one];rw[AfB (em:=em) (d:=9998) hue hsz (hstr h1 h2) (List.range' 0 n) (fun i hi=>by simpa using hi)];rfl
 .rw[hag]at h;obtain⟨vs,rfl,h1,h2⟩:=h.agg';rw[hlen]at h1 h2;have eqs: ∀(i:Nat) (e':MapEntry) p,es[i]? =some e'->l[i]? =some p->(Op.equal kt (.agg vs) e'.key).run P w= .ok ((Lh n).same k p.1) w:=by intro i e' p he hp;have h3:=hes i e' p he hp;rw[hag]at h3;obtain⟨us,h4,h5,h6⟩:=h3.agg';rw[hlen]at h5 h6;rw[h4];show(Op.equalIn 10000 kt _ _).run P w=_;rw[show(10000:Nat)=9999+1 from rfl,run_equalIn_array w 9999 vs us hu hie,hce,List.range_eq_range',Asv];have:=ArA (P:=P) (O:=O) (w:=w) (d:=9998) hue (xs:=vs) (ys:=us) (cs:=(Lh n).cells k) (ds:=(Lh n).cells p.1) (by rw[hlen];exact h2) (by rw[hlen];exact h1) (by rw[hlen];exact h6) (by rw[hlen];exact h5) (by rw[hlen,hlen]) (by rw[hlen];exact Ru n k) (by rw[hlen];exact Ru n p.1) n 0 (by rw[hlen];omega);simpa using this
  have hnow: ∀(es:List MapEntry) (i:Nat),Instr.findNow (.array n e) (.agg vs) es i=if es=[]then some none else none:=by
   intro es i;cases es with
   | nil=>rfl
   | cons e' es=>simp [Instr.findNow,Instr.sameNow]
  simp only[Instr.findKey,D8,Eb hu,Result.andThen_ok,hnow];cases es with
  | nil=>cases l<;>first | simp [fnd] | cases hl
  | cons e' es =>rw[Dk (by simp)];exact Adz _ l 0 hl eqs
 .rw[hag]at h h';obtain⟨vs,rfl,h1,h2⟩:=h.agg';obtain⟨us,rfl,h3,h4⟩:=h'.agg';have e:us=vs:=by rw[hlen]at h1 h2 h3 h4;apply FD (by omega);intro j hj1 hj2;obtain⟨s,hs⟩:=Ru n k j (by omega);have a1:=h2 j (by omega);have a2:=h4 j (by omega);rw[hs]at a1 a2;obtain⟨b1,e1,f1⟩:=a1.str';obtain⟨b2,e2,f2⟩:=a2.str';rw[Dq,D7 hj2]at e1;rw[Dq,D7 hj1]at e2;have e1:vs[j]=_:=e1;have e2:us[j]=_:=e2;rw[e1,e2,VX (f1.trans f2.symm)]
  subst e
  have hsb:Instr.sameBits 10000 (.agg us) (.agg us)=true:=by
   show((us.size==us.size)&&(us.toList.zip us.toList).all _)=true;rw[Du];refine⟨by simp,DD.2 fun p hp=> ?_⟩;obtain⟨i,hi⟩:=Gi.1 hp;rw[Gq]at hi;rw[hlen]at h1 h2;have hi1:i<us.size:=by have:=(F6.1 hi.1).1;simpa using this
   obtain⟨b,hb⟩:=hstr h1 h2 i (by omega);have q1:p.1= .string b:=by have:=hi.1;rw[Eg,hb]at this;injection this with this;exact this.symm
   have q2:p.2= .string b:=by have:=hi.2;rw[Eg,hb]at this;injection this with this;exact this.symm
   obtain⟨p1,p2⟩:=p;dsimp only at q1 q2;subst q1;subst q2;show(b==b)=true;rw[iU];simp
  simp [Instr.keyThatStays,hsb]
def AdB {em:Bool} {d:Nat} {vs:Array Value}: ∀(fs:List Field),(∀ f∈fs,P.underlying f.type=some .string/\ ∃ b,vs[f.offset]? =some (.string b)) ->
 (forIn fs PUnit.unit fun(f:Field) _=>do if f.name≠ "_" then do {Instr.checkKey em (d+1) f.type (<- part f.type vs f.offset);pure (ForInStep.yield PUnit.unit)}else do {pure PUnit.unit;pure (ForInStep.yield PUnit.unit)}).run P w= .ok PUnit.unit w:=by
 intro fs
 induction fs with
 | nil=>intro _;simp
 | cons f fs ih =>
  intro h;obtain⟨h1,b,hb⟩:=h f (by simp);have hpk:P.plainKey f.type=true:=by simp [Program.plainKey,h1]
  have p1:=run_part_plain w hpk (off:=f.offset) hb;have p2:=run_checkKey (P:=P) (w:=w) h1 (k:=.string b) trivial em d;have ih:=ih (fun g hg=>h g (by simp [hg]));rw[List.forIn_cons,D8];by_cases hn:f.name≠ "_"
  .rw[Dp hn];simp only[D8,p1,p2,Result.andThen_ok,Sem.run_pure];exact ih
  .rw[Dk hn];simp only[D8,Result.andThen_ok,Sem.run_pure];exact ih
def AkR {kt:TypeId} {fs:Array Field} {n:Nat} (hu:P.underlying kt=some (.struct fs)) (hfs:fs.toList.length=n) (hf: ∀(i:Nat) (f:Field),fs.toList[i]? =some f->P.underlying f.type=some .string/\f.offset=i) (hn:1<n)
 (heq: ∀(vs us:Array Value) (k k':(Lh n).Val),(∀ j,j<n->J3 O w (vs.getD j undef) (((Lh n).cells k).getD j .undef))->vs.size=n->(∀ j,j<n->J3 O w (us.getD j undef) (((Lh n).cells k').getD j .undef))->us.size=n->(Op.equalIn 10000 kt (.agg vs) (.agg us)).run P w= .ok ((Lh n).same k k') w):AaL P O w kt (Lh n):=by
 have hlen: ∀ k:(Lh n).Val,((Lh n).cells k).length=n:=fun k=>by
  rw[Ty.MB];have: ∀ n,(Lh n).len=n:=by intro n;induction n with | zero=>rfl | succ n ih=>simp [Lh,Ty.len,ih]
  exact this n
 have hag: ∀ k:(Lh n).Val,OA ((Lh n).cells k)= .agg ((Lh n).cells k):=fun k=>rF (by rw[hlen];omega)
 have hstr: ∀ {vs:Array Value} {k:(Lh n).Val},vs.size=n->(∀ j,j<n->J3 O w (vs.getD j undef) (((Lh n).cells k).getD j .undef))-> ∀ j,j<n-> ∃ b,vs[j]? =some (.string b):=by
  intro vs k hs h j hj;obtain⟨s,hs'⟩:=Ru n k j hj;have h1:=h j hj;rw[hs']at h1;obtain⟨b,hb,_⟩:=h1.str';have hj':j<vs.size:=by omega
  exact⟨b,by rw[D7 hj',<- hb,Dq,D7 hj'];rfl⟩
 refine⟨fun em v k h=> ?_,fun v k es l h hl hes=> ?_,fun v u k h h'=> ?_⟩
 .rw[hag]at h;obtain⟨vs,rfl,h1,h2⟩:=h.agg';rw[hlen]at h1 h2;rw[show(10000:Nat)=9998+1+1 from rfl,Instr.checkKey];simp only[D8,Eb hu,Result.andThen_ok];rw[<- Array.forIn_toList];rw[AdB (P:=P) (w:=w) (vs:=vs) (em:=em) (d:=9998) fs.toList fun f hm=> ?_]
  .rfl
  obtain⟨i,hi⟩:=Gi.1 hm;obtain⟨a1,a2⟩:=hf i f hi;have hin:i<n:=by rw[<- hfs];exact(F6.1 hi).1
  rw[a2];exact⟨a1,hstr h1 h2 i hin⟩
 .rw[hag]at h;obtain⟨vs,rfl,h1,h2⟩:=h.agg';rw[hlen]at h1 h2;have eqs: ∀(i:Nat) (e':MapEntry) p,es[i]? =some e'->l[i]? =some p->(Op.equal kt (.agg vs) e'.key).run P w= .ok ((Lh n).same k p.1) w:=by intro i e' p he hp;have h3:=hes i e' p he hp;rw[hag]at h3;obtain⟨us,h4,h5,h6⟩:=h3.agg';rw[hlen]at h5 h6;rw[h4];show(Op.equalIn 10000 kt _ _).run P w=_;exact heq vs us k p.1 h2 h1 h6 h5
  have hnow: ∀(es:List MapEntry) (i:Nat),Instr.findNow (.struct fs) (.agg vs) es i=if es=[]then some none else none:=by
   intro es i;cases es with
   | nil=>rfl
   | cons e' es=>simp [Instr.findNow,Instr.sameNow]
  simp only[Instr.findKey,D8,Eb hu,Result.andThen_ok,hnow];cases es with
  | nil=>cases l<;>first | simp [fnd] | cases hl
  | cons e' es =>rw[Dk (by simp)];exact Adz _ l 0 hl eqs
 .rw[hag]at h h';obtain⟨vs,rfl,h1,h2⟩:=h.agg';obtain⟨us,rfl,h3,h4⟩:=h'.agg';have e:us=vs:=by rw[hlen]at h1 h2 h3 h4;apply FD (by omega);intro j hj1 hj2;obtain⟨s,hs⟩:=Ru n k j (by omega);have a1:=h2 j (by omega);have a2:=h4 j (by omega);rw[hs]at a1 a2;obtain⟨b1,e1,f1⟩:=a1.str';obtain⟨b2,e2,f2⟩:=a2.str';rw[Dq,D7 hj2]at e1;rw[Dq,D7 hj1]at e2;have e1:vs[j]=_:=e1;have e2:us[j]=_:=e2;rw[e1,e2,VX (f1.trans f2.symm)]
  subst e
  have hsb:Instr.sameBits 10000 (.agg us) (.agg us)=true:=by
   show((us.size==us.size)&&(us.toList.zip us.toList).all _)=true;rw[Du];refine⟨by simp,DD.2 fun p hp=> ?_⟩;obtain⟨i,hi⟩:=Gi.1 hp;rw[Gq]at hi;rw[hlen]at h1 h2;have hi1:i<us.size:=by have:=(F6.1 hi.1).1;simpa using this
   obtain⟨b,hb⟩:=hstr h1 h2 i (by omega);have q1:p.1= .string b:=by have:=hi.1;rw[Eg,hb]at this;injection this with this;exact this.symm
   have q2:p.2= .string b:=by have:=hi.2;rw[Eg,hb]at this;injection this with this;exact this.symm
   obtain⟨p1,p2⟩:=p;dsimp only at q1 q2;subst q1;subst q2;show(b==b)=true;rw[iU];simp
  simp [Instr.keyThatStays,hsb]
def Agk: ∀(fs:List Field) (n:Nat) (ks:List CK),QT P fs n=some ks->ks.all nJ=true->fs.length=ks.length/\ ∀(i:Nat) (f:Field),fs[i]? =some f->P.underlying f.type=some .string/\f.name≠ "_" /\f.offset=n+i:=by
 intro fs
 induction fs with
 | nil =>intro n ks h _;injection h with h;subst h;exact⟨rfl,fun i f h=>by simp at h⟩
 | cons f fs ih =>
  intro n ks h hs;unfold QT at h;split at h
  .rename_i ks' hd hf;cases hb:(f.name != "_" &&Nat.beq f.offset n)with
   | false=>rw[hb]at h;cases h
   | true=>rw[hb]at h;injection h with h;subst h;cases hs
  .rename_i k ks' hd hf;cases hb:(f.name != "_" &&Nat.beq f.offset n)with
   | false=>rw[hb]at h;cases h
   | true=>rw[hb]at h;injection h with h;subst h;cases hs
  .rename_i ks' hd hf;cases hb:(f.name != "_" &&Nat.beq f.offset n)with
   | false=>rw[hb]at h;cases h
   | true =>
    rw[hb]at h;injection h with h;subst h;obtain⟨h1,h2⟩:=ih _ _ hf (by simpa [nJ]using hs);rw[Du]at hb;refine⟨by simp [h1],fun i g hg=> ?_⟩;cases i with
    | zero =>
     have hg:f=g:=by simpa using hg
     subst hg;exact⟨hd,by simpa using hb.1,Dy hb.2⟩
    | succ i =>obtain⟨a1,a2,a3⟩:=h2 i g (by simpa using hg);exact⟨a1,a2,by omega⟩
  .cases h
def AvU: ∀(ks:List CK),ks.all nJ=true->ks=(List.replicate ks.length [CK.str]).flatten:=by
 intro ks
 induction ks with
 | nil=>intro _;rfl
 | cons k ks ih =>intro h;rw[List.all_cons,Du]at h;rw[List.length_cons,List.replicate_succ,List.flatten_cons,<- ih h.2];cases k<;>first | rfl | cases h.1
def AjV: ∀(ks:List CK) (n:Nat) (a b:(Lh n).Val),ks.all nJ=true->ks.length=n->Pm ks ((Lh n).cells a) ((Lh n).cells b)=(true,(Lh n).same a b):=by
 intro ks
 induction ks with
 | nil=>intro n a b _ h;subst h;rfl
 | cons k ks ih =>
  intro n a b h hn;subst hn;rw[List.all_cons,Du]at h;have e:=ih ks.length (Ty.tl (Lh ks.length) a) (Ty.tl (Lh ks.length) b) h.2 rfl;cases k with
  | str =>show((true&&_,(_==_)&&_):Bool×Bool)=(true,(_==_)&&_);rw[e];rfl
  | _=>cases h.1
def AtL (hC:TOk P C) {t:Nat} {ta:TI} (ht:C.T t=some ta) (h:Apu C ta=true):AaL P O w t (tyl ta.cs):=by
 have hT:=hC.is ht;have hu:=hT.d;have hck:=hT.ck;unfold Apu at h;split at h
 .rename_i hd;rw[hd]at hu;have:ta.cs=[.str]:=by simp [ND,hu]at hck;exact hck.symm
  rw[this];exact ArD hu
 .rename_i q hd;rw[hd]at hu;have:ta.cs=[.int q]:=by simp [ND,hu]at hck;exact hck.symm
  rw[this];exact ArC hu
 .rename_i n e hd;rw[hd]at hu;split at h
  .rename_i te hte;simp only[Du,EK]at h;have hTe:=hC.is hte;have hde:=yZ h.1;have hue:=hTe.d;rw[hde]at hue;have hcse:te.cs=[.str]:=by have:=hTe.ck;simp [ND,hue]at this;exact this.symm
   have hcs:ta.cs=(List.replicate n [CK.str]).flatten:=by
    rw[show(20:Nat)=18+1+1 from rfl]at hck;unfold ND at hck;simp only[hu]at hck;have he:ND P (18+1) e=some [.str]:=by simp [ND,hue]
    rw[he]at hck;dsimp only at hck;cases hb:Nat.ble (n* [CK.str].length) 4096 with
    | false=>rw[hb]at hck;cases hck
    | true=>rw[hb]at hck;injection hck with hck;exact hck.symm
   rw[hcs,Amg];obtain⟨i,z,h1,h2,_⟩:=hTe.i;exact Apt hu hue h1 (by rw[h2,hcse];rfl) h.2
  .cases h
 .rename_i fs hd;simp only[Du,EK]at h;obtain⟨⟨⟨h1,h2⟩,h3⟩,h4⟩:=h;rw[hd]at hu;have h3:=Dy h3;have hcs:=AvU ta.cs h2;have hn:(List.replicate ta.cs.length [CK.str]).flatten.length=ta.cs.length:=by rw[<- hcs]
  rw[hcs,Amg];generalize hnn:ta.cs.length=n at *
  have hfk:QT P fs.toList 0=some ta.cmp:=by
   have hc:=hT.cmp;rw[hd]at hc;unfold Ajm at hc;dsimp only at hc;split at hc
   .rename_i ks hks;cases hb:(!(P.stoodInHeld t)&& !(P.eqGuardType P.depth t))with
    | false=>rw[hb]at hc;rw[hc]at h3;simp at h3;omega
    | true=>rw[hb]at hc;rw[hc];exact hks
   .rw[hc]at h3;simp at h3;omega
  obtain⟨k1,k2⟩:=Agk _ _ _ hfk h1;rw[h3]at k1
  exact AkR hu k1 (fun i f hf=>by obtain⟨a,b,c⟩:=k2 i f hf;exact⟨a,by omega⟩) h4 fun vs us k k' r1 l1 r2 l2=>by
   have hl: ∀ k:(Lh n).Val,((Lh n).cells k).length=n:=fun k=>by
    rw[Ty.MB];have: ∀ n,(Lh n).len=n:=by intro n;induction n with | zero=>rfl | succ n ih=>simp [Lh,Ty.len,ih]
    exact this n
   have hce:=AjV ta.cmp n k k' h1 h3
   have:=AfD (Jp:=[]) (m:=fun _=>undef) hT (vs:=vs) (us:=us) (x:=(Lh n).cells k) (y:=(Lh n).cells k') (by rw[hl,l1]) (by rw[hl,l2])
    (fun j hj=>by obtain⟨s,hs⟩:=Ru n k j (by rw[hl]at hj;exact hj);have:=r1 j (by rw[hl]at hj;exact hj);rw[hs]at this ⊢;exact this)
    (fun j hj=>by obtain⟨s,hs⟩:=Ru n k' j (by rw[hl]at hj;exact hj);have:=r2 j (by rw[hl]at hj;exact hj);rw[hs]at this ⊢;exact this)
    (by cases hq:ta.cmp with | nil=>rw[hq]at h3;simp at h3;omega | cons _ _=>rfl) (by rw[hce])
   rw[hce]at this;exact this.2
 .cases h
end
def Ar7:A->Bool
 | .bool _ | .int _ _ | .str _ | .sl _ | .Lt | .fn _ | .ump _=>true
 | _=>false
def Ty.QM: ∀(t:Ty) (v:t.Val),∀ c∈t.cells v,Ar7 c=true
 | .nil,_,c,h=>by cases h
 | .bool r,v,c,h=>by
  rcases D6.1 h with rfl | h
  .rfl
  .exact Ty.QM r _ c h
 | .int _ r,v,c,h=>by
  rcases D6.1 h with rfl | h
  .rfl
  .exact Ty.QM r _ c h
 | .str r,v,c,h=>by
  rcases D6.1 h with rfl | h
  .rfl
  .exact Ty.QM r _ c h
 | .sl _ _ r,v,c,h=>by
  rcases D6.1 h with rfl | h
  .rfl
  .exact Ty.QM r _ c h
 | .ptr r,v,c,h=>by
  rcases D6.1 h with rfl | h
  .rfl
  .exact Ty.QM r v c h
 | .fn r,v,c,h=>by
  rcases D6.1 h with rfl | h
  .rfl
  .exact Ty.QM r _ c h
 | .mp _ _ r,v,c,h=>by
  rcases D6.1 h with rfl | h
  .rfl
  .exact Ty.QM r _ c h
section
variable {P:Program} {C:Ctx} {V0:Nat->Value} {O0 O:Own} {w0 w:World} {m:Nat->Value} {st:St} {a:Act} {o:Oper}
def JC.data {Jp:List (Nat×Obj)} {v:Value} {c:A} (h:JC O Jp m w v c) (hd:Ar7 c=true):J3 O w v c:=by cases c<;>first | exact h | exact h.elim | cases hd
def Nv.toT {Jp:List (Nat×Obj)} {v:Value} {x:A} (h:Nv O w v x):J7 O Jp m w v x/\T1 O Jp m w v x:=by
 have cell: ∀ {v:Value} {x:A},J3 O w v x->JC O Jp m w v x:=fun h=>by cases h<;>first | exact .bool _ | exact .int _ _ | exact .str _ | exact .nil _ | exact .Lt | exact .fn _ | exact .jI | exact J3.sl0 _ _ | (rename_i vs a1 a2 a3;exact J3.sl vs a1 a2 a3) | (rename_i h hn;exact J3.sln h hn)
 cases x with
 | agg cs=>grind[Obj,Nv,J7,T1]
 | undef=>cases h
 | La=>cases h
 | usl _ _ _=>cases h
 | ump _=>cases h
 | ptr _ _=>cases h
 | own _=>cases h
 | elt _=>cases h
 | Kq _ _ _=>cases h
 | tup _=>cases h
 | box _=>cases h
 | cbx _ _=>cases h
 | clo _ _=>cases h
 | bsl _ _=>cases h
 | osl _ _=>cases h
 | cnd _ _=>cases h
 | bool _=>exact⟨cell h,cell h⟩
 | int _ _=>exact⟨cell h,cell h⟩
 | str _=>exact⟨cell h,cell h⟩
 | sl _=>exact⟨cell h,cell h⟩
 | sln _=>exact⟨cell h,cell h⟩
 | Lt=>exact⟨cell h,cell h⟩
 | fn _=>exact⟨cell h,cell h⟩
def AtI {xs:List A} (h:Apm (.agg xs)=true):xs.length≠1:=by intro h1;obtain⟨c,rfl⟩:=Fz.1 h1;cases h
def AnR {O':Own} {Jp:List (Nat×Obj)} {v:Value} {x:A} {cs:List A} (ho:Apm x=true) (hv:x.isVal=true) (hx:J7 O Jp m w v x) (hl:cs.length=x.cells.length)
 (hrel: ∀ j,j<cs.length->J3 O' w (v.cells.getD j undef) (cs.getD j .undef)):Nv O' w v (OA cs):=by
 have one:JC O Jp m w v x->x.cells=[x]->Nv O' w v (OA cs):=by intro hc he;rw[he]at hl;obtain⟨c,rfl⟩:=Fz.1 hl;have h0:=hrel 0 (by simp);rw[oneCell_cells hc.one]at h0;have h0:J3 O' w v c:=h0;show Nv O' w v c;cases c<;>first | exact h0 | cases h0
 cases x with
 | agg xs =>obtain⟨vs,rfl,h2,h3⟩:=hx;have hl:cs.length=xs.length:=hl;rw[rF (by rw[hl];exact AtI ho)];exact⟨vs,rfl,by rw[h2,hl],hrel⟩
 | undef=>cases hv
 | tup _=>cases hv
 | usl _ _ _=>cases hv
 | ump _=>cases hv
 | box _=>cases hv
 | cbx _ _=>cases hv
 | cnd _ _=>cases hv
 | _=>exact one hx rfl
def Vu {r:Nat} {es:Array MapEntry} {ck:Nat} (hb:w.heap[r]? =some (.map es ck)):(getObj r).run P w= .ok (.map es ck) w:=by simp [getObj,Sem.run,hb]
def bM {r:Nat} {es:Array MapEntry} {ck:Nat} (x:Go.Obj) (hb:w.heap[r]? =some (.map es ck)):(setObj r x).run P w= .ok () {w with heap:=w.heap.setIfInBounds r x}:=by simp [setObj,Sem.run,hb]
def qY {t:Nat} {k:TI->TI->Dl} (hok:J5 (mapOf C t k).ok): ∃ ti kt et ta tb,C.T t=some ti/\ti.d= .map kt et/\C.T kt=some ta/\C.T et=some tb/\mapOf C t k=k ta tb:=by
 unfold mapOf at hok ⊢;obtain⟨ti,ht,he⟩:=Ku hok;rw[he]at hok ⊢;split at hok
 .rename_i kt et hd;obtain⟨ta,hta,he⟩:=Ku hok;rw[he]at hok;obtain⟨tb,htb,he'⟩:=Ku hok;exact⟨ti,kt,et,ta,tb,ht,hd,hta,htb,he.trans he'⟩
 .exact(JE hok).elim
def AkS {Jp:List (Nat×Obj)} (hC:TOk P C) {kt:Nat} {ta tb:TI} (hta:C.T kt=some ta) {l:Mp} {i:A} {v:Value} (hi:J7 O Jp m w v i) (hok:J5 (Ajs C ta tb l i)) :
 AaL P O w kt l.kt/\Nv O w v (OA (l.kt.cells (l.kt.mk i.cells).2))/\Aj0 tb=true/\l.vt=tyl tb.cs:=by
 obtain⟨h1,hok⟩:=hok.cons;obtain⟨h2,hok⟩:=hok.cons;obtain⟨h3,hok⟩:=hok.cons;obtain⟨h4,hok⟩:=hok.cons;obtain⟨h5,hok⟩:=hok.cons;obtain⟨h6,hok⟩:=hok.cons;have h7:=hok.cons.1;have h3:=D9 h3;have hc:=Ty.TA _ _ h7;refine⟨by rw[h3];exact AtL hC hta h1,?_,h2,D9 h4⟩;obtain⟨g1,g2⟩:=hi.cells h5;refine AnR (Jp:=Jp) h6 h5 hi (by rw[hc]) (fun j hj=> ?_);have hd:=Ty.QM _ _ _ (Ef hj);have e:(l.kt.cells (l.kt.mk i.cells).2).getD j .undef=(l.kt.cells (l.kt.mk i.cells).2)[j]:=by rw[Dj,DC hj];rfl
 rw[<- e]at hd;rw[hc]at hd hj ⊢;exact(g2 j hj).data hd
def AsD {t:Nat} {tb:TI} (hT:VB P t tb) (hone:Aj0 tb=true) (hp:tb.cs.all CK.plain=true): ∃ z,(zeroValue t).run P w= .ok z w/\Nv O w z (OA ((tyl tb.cs).cells (tyl tb.cs).zero)):=by
 obtain⟨i,z,h1,h2,h3,h4,h5,h6⟩:=hT.i;refine⟨z,by simp [zeroValue,typeInfo,h1,h4],?_⟩;rw[Ty.Afv _ hp];have hv:=ZU (O:=O) (w:=w) _ _ h5 hp;have hl:=(SY (O:=O) (Jp:=[]) (m:=fun _=>undef) (w:=w) _ _ h5).1;have hone:tb.agg= !(Nat.beq tb.cs.length 1):=by simpa [Aj0]using hone
 rw[Adw,h6,UO]at hone;cases z with
 | agg vs =>
  have hne:tb.cs.length≠1:=by simpa [eP]using hone
  rw[rF (by simpa using hne)];refine⟨vs,rfl,?_,fun j hj=> ?_⟩
  .have:vs.toList.length=tb.cs.length:=hl;rw[Array.length_toList]at this;simpa using this
  .have:=hv j (by simpa using hj);have e:(Value.agg vs).cells.toList.getD j undef=vs.getD j undef:=by show vs.toList.getD j undef=_;rw[Dq,Dj,Eg]
   rw[e]at this;exact this
 | _ =>
  have he:tb.cs.length=1:=by simpa [eP]using hone
  obtain⟨c,hc⟩:=Fz.1 he;rw[hc]at hv ⊢;have:=hv 0 (by simp);have this:J3 O w _ c.Oj:=this;show Nv O w _ c.Oj;cases hcz:c.Oj<;>rw[hcz]at this<;>first | exact this | cases this
def Ana {op:BinOp} {t ty:Nat} {x y:Operand} {Jp:List (Nat×Obj)} {fet:Fet} (hC:TOk P C) (hF:FOk O Jp m w fet) (ho:o.op= .binOp op t x y ty) (hn:yX y=true) {x':A} (hx:J7 O Jp m w (a.eval x) x')
 (hok:J5 (nO C fet op t x').ok):Pure P O Jp m a w o (nO C fet op t x'):=by
 have hy:a.eval y= .map none:=by
  cases y with
  | const c=>cases c with
   | map r=>cases r with
    | none=>rfl
    | some _=>cases hn
   | _=>cases hn
  | _=>cases hn
 unfold nO at hok ⊢;obtain⟨p,hp,he⟩:=JL hok;rw[he]at hok ⊢;clear he;obtain⟨ti,ht,he⟩:=Ku hok;rw[he]at hok ⊢;clear he;obtain⟨_,hv,hM⟩:=AeG hF hx hp;obtain⟨r,es,ck,h1,_⟩:=hM.lists;rw[h1]at hv;cases hd:Ar8 ti.d with
 | false=>rw[hd]at hok;exact(JE hok).elim
 | true =>
  rw[hd]at hok;have hu:=(hC.is ht).d;have hu': ∃ k e,P.underlying t=some (.map k e):=by cases hdd:ti.d<;>rw[hdd]at hd hu<;>first | exact⟨_,_,hu⟩ | cases hd
  obtain⟨k,e,hu⟩:=hu'
  have heq:(Op.equal t (.map (some r)) (.map none)).run P w= .ok false w:=by
   have: ∀ d,(Op.equalIn (d+1) t (.map (some r)) (.map none)).run P w= .ok false w:=by intro d;simp [Op.equalIn,Eb hu]
   exact this 9999
  cases op with
  | eql =>refine⟨⟨_,?_,.OX _⟩,rfl,rfl,rfl⟩;simp only[execOp,ho,hv,hy,D8,dW (v:=.map (some r)),Result.andThen_ok,binOp,heq,Sem.run_pure]
  | neq =>refine⟨⟨_,?_,.OX _⟩,rfl,rfl,rfl⟩;simp only[execOp,ho,hv,hy,D8,dW (v:=.map (some r)),Result.andThen_ok,binOp,heq,Sem.run_pure];rfl
  | _=>exact(JE hok).elim
def AmR {t:Nat} {x i:Operand} {c:Bool} {Jp:List (Nat×Obj)} {fet:Fet} (hC:TOk P C) (hF:FOk O Jp m w fet) (ho:o.op= .lookup t x i c) {x' i':A} (hx:J7 O Jp m w (a.eval x) x') (hi:J7 O Jp m w (a.eval i) i')
 (hok:J5 (Abc C fet t c x' i').ok):Pure P O Jp m a w o (Abc C fet t c x' i'):=by
 unfold Abc at hok ⊢;obtain⟨ti,kt,et,ta,tb,ht,hd,hta,htb,he⟩:=qY hok;rw[he]at hok ⊢;clear he;obtain⟨p,hp,he⟩:=JL hok;rw[he]at hok ⊢;clear he;obtain⟨hok1,hok2⟩:=hok.append;have hpl:=hok2.cons.1;obtain⟨_,hv,hM⟩:=AeG hF hx hp;obtain⟨hK,hk,hone,hvt⟩:=AkS hC hta hi hok1;obtain⟨r,es,ck,h1,h2,h3,h4,h5⟩:=hM.lists;have hu:=(hC.is ht).d;rw[hd]at hu;have hfind:=hK.find (a.eval i) _ es.toList p.2.l hk h4 (fun i e p he hp=>(h5 i e p he hp).1);have hchk:=hK.check es.isEmpty (a.eval i) _ hk;obtain⟨z,hz1,hz2⟩:=AsD (O:=O) (w:=w) (hC.is htb) hone hpl;rw[<- hvt]at hz2
 have key: ∃ u,(Instr.lookup t (a.eval x) (a.eval i) c).run P w= .ok (if c then .tuple #[u,.bool (O9 p.2.kt (p.2.kt.mk i'.cells).2 p.2.l).isSome]else u) w /\
  Nv O w u (OA (p.2.vt.cells ((O9 p.2.kt (p.2.kt.mk i'.cells).2 p.2.l).getD p.2.vt.zero))):=by
  rw[hv,h1];rcases Ac8 (k:=(p.2.kt.mk i'.cells).2) es.toList p.2.l 0 h4 with ⟨f1,f2,_,_⟩ | ⟨j,e,q,f1,f2,f3,f4,f5,_,_⟩
  .refine⟨z,?_,by rw[f2];exact hz2⟩;simp [Instr.lookup,Eb hu,Vu h2,hchk,hfind,f1,hz1,f2,Result.andThen]
  .refine⟨e.val,?_,by rw[f5];exact(h5 j e q f2 f3).2⟩;simp [Instr.lookup,Eb hu,Vu h2,hchk,hfind,f1,f5,Result.andThen]
 obtain⟨u,hrun,hu2⟩:=key;refine⟨⟨if c then .tuple #[u,.bool (O9 p.2.kt (p.2.kt.mk i'.cells).2 p.2.l).isSome]else u,?_,?_⟩,rfl,rfl,rfl⟩
 .simp only[execOp,ho,D8,hrun,Result.andThen_ok,Sem.run_pure]
 .show J7 O Jp m w _ (Agw _ _ _);unfold Agw;cases c with
  | false=>exact hu2.toT.1
  | true =>
   refine⟨#[u,.bool (O9 p.2.kt (p.2.kt.mk i'.cells).2 p.2.l).isSome],rfl,rfl,fun j hj=> ?_⟩;have hj:j<2:=hj;rcases(show j=0\/j=1 by omega)with rfl | rfl
   .exact hu2.toT.2
   .exact J3.bool _
def Ar2 {r:Nat} {x y:Go.Obj} (hb:w.heap[r]? =some x):(w.heap.setIfInBounds r y)[r]? =some y/\ ∀ b,b≠r->(w.heap.setIfInBounds r y)[b]? =w.heap[b]? :=by grind
def sK (hS:Sim V0 O0 w0 O m st a w) {q r ck ck':Nat} {es es':Array MapEntry} {l l':Mp} (hq:Jy st.Jp q=some (.mp l)) (hm:m q= .map (some r)) (hb:w.heap[r]? =some (.map es ck)) (hO:O r 0=some q) (hs:es'.size=l'.l.length)
 (hes: ∀(i:Nat) (p:l'.kt.Val×l'.vt.Val),l'.l[i]? =some p-> ∃ e,es'[i]? =some e/\Nv O w e.key (OA (l'.kt.cells p.1))/\Nv O w e.val (OA (l'.vt.cells p.2))) {d:Option Tmp} {v:Value} {x:A} (hx:d≠none-> ∀ O' objs' m' w',J7 O' objs' m' w' v x) :
 Sim V0 O0 w0 O m {tmps:=put st.tmps d x,Jp:=Lj st.Jp q (.mp l')} (a.put d v) {w with heap:=w.heap.setIfInBounds r (.map es' ck')}:=by
 obtain⟨hb1,hb2⟩:=Ar2 (y:=.map es' ck') hb;have hM:Moves O (fun i=>i=q) w {w with heap:=w.heap.setIfInBounds r (.map es' ck')}:=Moves.map rfl rfl rfl (by simp) hb hb1 hb2 hO rfl;have hP:Passes O O (fun i=>i=q) w.heap.size:=⟨fun _ _ _ h=>h,fun _ _ _ _ h _=>h⟩
 have hpr:=hM.JW hP
 have hE:Q9 st.Jp m (Lj st.Jp q (.mp l')) m (fun _=>False):=by
  intro i y hy;rw[KA]at hy;by_cases hi:i=q
  .rw[Dp hi]at hy;injection hy with hy;subst hy;subst hi;exact .inr ⟨_,hq,rfl,rfl⟩
  .rw[Dk hi]at hy;exact .inr ⟨y,hy,rfl,rfl⟩
 refine hS.next (st':= {tmps:=put st.tmps d x,Jp:=Lj st.Jp q (.mp l')}) (T:=fun i=>i=q) (Nw:=fun _=>False) hM hP (fun b k _ h=>h) hE (fun _ h=>h.elim) (fun r' hr=>by rw[hr,hq];rfl) (fun i y hy=> ?_) rfl (fun h=>hx h _ _ _ _);rw[KA]at hy;by_cases hi:i=q
 .right;rw[Dp hi]at hy;injection hy with hy;subst hy;subst hi;refine⟨(⟨r,es',ck',hm,hb1,hO,hs,fun j p hp=> ?_⟩:Ny O _ i (m i) l'),hS.ids i _ hq⟩;obtain⟨e,k1,k2,k3⟩:=hes j p hp;exact⟨e,k1,k2.JW hpr,k3.JW hpr⟩
 .left;rw[Dk hi]at hy;exact⟨hi,hy,rfl⟩
def AkZ {t:Nat} {r:Option Operand} {xs:List A} (hC:TOk P C) (hS:Sim V0 O0 w0 O m st a w) {d:Nat} (hd:o.dst=some d) (ho:o.op= .makeMap t r) (hr:xs.length=r.toArray.size) (hok:J5 (WB C d t xs).ok) (hfr: ∀ p∈(WB C d t xs).new,st.fresh p.1=true) :
 Good P V0 O0 w0 (apply st o (WB C d t xs)) o a w:=by
 intro next Q hn
 unfold WB at *
 obtain⟨ti,kt,et,ta,tb,ht,hd',hta,htb,he⟩:=qY hok;rw[he]at hok hfr hn;clear he;have hx:xs=[]:=by simpa using hok.cons.1
 subst hx;have hr0:r=none:=by cases r with | none=>rfl | some _=>simp at hr
 subst hr0;have hfresh:=MV (hfr _ Dv);have hrun:(execOp a.eval o).run P w= .ok (.value (.map (some w.heap.size))) (w.alloc (.map #[] 0)):=by have:(Instr.makeMap t none).run P w= .ok (.map (some w.heap.size)) (w.alloc (.map #[] 0)):=rfl;simp only[execOp,ho,Option.map_none,D8,this,Result.andThen_ok,Sem.run_pure]
 unfold Oper.wp;rw[hrun,Oper.upon_value,hd];let id:=b2 d;let O':Own:=fun b k=>if b=w.heap.size then some id else O b k;let m':Nat->Value:=fun i=>if i=id then .map (some w.heap.size)else m i;have hlt: ∀ {b k},b<w.heap.size->O' b k=O b k:=fun hb=>Dk (Ib hb);have hM:Moves O (fun _=>False) w (w.alloc (.map #[] 0)):=Moves.push _;have hP:Passes O O' (fun _=>False) w.heap.size:=⟨fun b k hb h=>by rw[hlt hb];exact h,fun b k q hb h _=>by rw[hlt hb];exact h⟩
 let ob:Vm.Obj:=.mp ⟨tyl ta.cs,tyl tb.cs,[]⟩
 have hget: ∀ i y,Jy (Lj st.Jp id ob) i=some y->(i=id/\y=ob)\/(i≠id/\Jy st.Jp i=some y):=by
  intro i y hy;rw[KA]at hy;by_cases hi:i=id
  .rw[Dp hi]at hy;injection hy with hy;exact .inl ⟨hi,hy.symm⟩
  .rw[Dk hi]at hy;exact .inr ⟨hi,hy⟩
 have hE:Q9 st.Jp m (Lj st.Jp id ob) m' (fun i=>i=id):=by
  intro i y hy;rcases hget i y hy with ⟨h1,_⟩ | ⟨h1,h2⟩
  .exact .inl h1
  .exact .inr ⟨y,h2,rfl,Dk h1⟩
 refine hn O' m' _ _ ?_;have happ: ∀ ok,apply st o {ok:=ok,val:=.own (b2 d),new:=[(b2 d,ob)]}= {tmps:=put st.tmps (some d) (.own id),Jp:=Lj st.Jp id ob}:=by intro ok;unfold apply;rw[hd];rfl
 rw[happ];refine hS.next (st':= {tmps:=put st.tmps (some d) (.own id),Jp:=Lj st.Jp id ob}) (x:=.own id) (T:=fun _=>False) (Nw:=fun i=>i=id) hM hP (fun b k hb h=>by rw[hlt hb]at h;exact h) hE (fun n hn=>by rw[hn];exact hfresh.both) (fun _ h=>h.elim) (fun i y hy=> ?_) rfl (fun _=> ?_)
 .rcases hget i y hy with ⟨h1,h2⟩ | ⟨h1,h2⟩
  .right;subst h1;subst h2;refine⟨(⟨w.heap.size,#[],0,Dp rfl,qP _ _,Dp rfl,rfl,fun i p hp=>by cases hp⟩:Ny O' _ id (m' id) _),hfresh.ne⟩
  .exact .inl ⟨fun h=>h,h2,Dk h1⟩
 .refine⟨rfl,?_⟩;all_goals grind[Jy,Lj,Obj.shp,KA]
def AtY {α :Type} {l:List α} {j:Nat} {x: α} {i:Nat} {p: α} (h:(l.set j x)[i]? =some p):(i=j/\p=x/\j<l.length)\/(i≠j/\l[i]? =some p):=by
 rw[FV]at h;by_cases hi:j=i
 .simp_all[hi,split]
 .rw[Dk hi]at h;exact .inr ⟨fun e=>hi e.symm,h⟩
def Acn {t:Nat} {x i y:Operand} (hC:TOk P C) (hS:Sim V0 O0 w0 O m st a w) (hd:o.dst=none) (ho:o.op= .mapUpdate t x i y\/o.op= .insert t x i y) {fet:Fet} (hf:Ob st.Jp fet) {x' i' y':A} (hx:J7 O st.Jp m w (a.eval x) x') (hi:J7 O st.Jp m w (a.eval i) i') (hy:J7 O st.Jp m w (a.eval y) y')
 (hok:J5 (oN C fet t x' i' y').ok):Good P V0 O0 w0 (apply st o (oN C fet t x' i' y')) o a w:=by
 intro next Q hn
 have hF:FOk O st.Jp m w fet:=fun q x h=>⟨hf q x h,hS.Jp q x (hf q x h)⟩
 unfold oN at *
 obtain⟨ti,kt,et,ta,tb,ht,hd',hta,htb,he⟩:=qY hok;rw[he]at hok hn;clear he;obtain⟨p,hp,he⟩:=JL hok;rw[he]at hok hn;clear he;obtain⟨hokA,hokB⟩:=hok.append;have hmk:=hokB.cons.1;obtain⟨hokA,hokP⟩:=hokA.append;obtain⟨hok1,hokV⟩:=hokA.append;obtain⟨hv1,hokV⟩:=hokV.cons;have hv2:=hokV.cons.1;obtain⟨hq,hv,hM⟩:=AeG hF hx hp;obtain⟨hK,hk,hone,hvt⟩:=AkS hC hta hi hok1;obtain⟨hyc1,hyc2⟩:=hy.cells hv1;obtain⟨g1,g2,g3,g4⟩:=UR (O:=O) (m:=m) (w:=w) hf tb.cs y'.cells (fun j=>(a.eval y).cells.getD j undef) hyc2 hokP;generalize hpu:KG fet tb.cs y'.cells=pu at *
 obtain⟨O1,hS1,hp1,hle1,hv1',hE1,hk1⟩:=hS.freezes _ g3;have hNR:NR st.Jp p.1:=.of hq (fun _ _ _ h=>by cases h)
 have hq1:Jy (JD st.Jp pu.2.2) p.1=some (.mp p.2):=by
  rw[LJ _ _ _ (fun z hz e=> ?_)]
  .exact hq
  .obtain⟨e',f',l',h1,_⟩:=g3 z hz;rw[e]at h1;exact hNR _ _ _ h1
 obtain⟨r,es,ck,h1,h2,h3,h4,h5⟩:=(show Ny O1 w p.1 (m p.1) p.2 from hS1.Jp p.1 _ hq1).lists;have hu:=(hC.is ht).d;rw[hd']at hu;have hM0:=hM.lists;obtain⟨r0,es0,ck0,k1,k2,k3,k4,k5⟩:=hM0;rw[h1]at k1;injection k1 with k1;injection k1 with k1;subst k1;rw[h2]at k2;injection k2 with k2;injection k2 with k2 k2';subst k2;subst k2';have hfind:=hK.find (a.eval i) _ es.toList p.2.l hk k4 (fun i e p he hp=>(k5 i e p he hp).1);have hchk:=hK.check false (a.eval i) _ hk;have hk':Nv O1 w (a.eval i) (OA (p.2.kt.cells (p.2.kt.mk i'.cells).2)):=hk.JW hp1;have hcells:=Ty.TA _ _ hmk;have hval:Nv O1 w (a.eval y) (OA (p.2.vt.cells (p.2.vt.mk pu.2.1).2)):=by rw[hcells];refine AnR (Jp:=st.Jp) hv2 hv1 hy (by rw[g1,g2]) (fun j hj=>g4 hp1 hv1' j (by rw[<- g1];exact hj))
 have happ: ∀ ok l',apply st o {ok:=ok,val:=.undef,upd:=pu.2.2++[(p.1,.mp l')]}= {tmps:=put st.tmps none .undef,Jp:=Lj (JD st.Jp pu.2.2) p.1 (.mp l')}:=by
  intro ok l';unfold apply;rw[hd]
  have: ∀(u:List (Nat×Vm.Obj)) (l:List (Nat×Vm.Obj)) n z,JD l (u++[(n,z)])=Lj (JD l u) n z:=by
   intro u
   induction u with
   | nil=>intro l n z;rfl
   | cons q u ih=>intro l n z;exact ih _ _ _
  show St.mk _ (JD (Ky (JD st.Jp (pu.2.2++[(p.1,.mp l')])) []) [])=_;rw[this];rfl
 rcases Ac8 (k:=(p.2.kt.mk i'.cells).2) es.toList p.2.l 0 k4 with ⟨f1,_,f3,_⟩ | ⟨j,e,q,f1,f2,f3,f4,_,f6,_⟩
 .have hrun:(execOp a.eval o).run P w= .ok .skip {w with heap:=w.heap.setIfInBounds r (.map (es.push {key:=a.eval i,val:=a.eval y,born:=ck}) (ck+1))}:=by
   have:(Instr.mapUpdate t (a.eval x) (a.eval i) (a.eval y)).run P w= .ok () {w with heap:=w.heap.setIfInBounds r (.map (es.push {key:=a.eval i,val:=a.eval y,born:=ck}) (ck+1))}:=by rw[hv,h1];simp [Instr.mapUpdate,Eb hu,Vu h2,hchk,hfind,f1,bM _ h2,Result.andThen]
   rcases ho with ho | ho<;>simp only[execOp,ho,D8,this,Result.andThen_ok,Sem.run_pure]
  unfold Oper.wp;rw[hrun,Oper.upon_skip,hd];refine hn O1 m _ _ ?_;rw[happ];refine sK hS1 (d:=none) (v:=undef) hq1 h1 h2 h3 (by rw[f3,Array.size_push,Dx,<- k4,Array.length_toList];rfl) (fun i0 p0 hp0=> ?_) (fun h=>absurd rfl h);have hp0:(VG p.2.kt (p.2.kt.mk i'.cells).2 (p.2.vt.mk pu.2.1).2 p.2.l)[i0]? =some p0:=hp0;rw[f3]at hp0;have hsz:es.size=p.2.l.length:=by rw[<- k4,Array.length_toList]
  rcases Es i0 p.2.l.length with hlt | hge
  .rw[Eu hlt]at hp0;have hlt':i0<es.size:=by omega
   have hes:es.toList[i0]? =some es[i0]:=by rw[Eg,D7 hlt']
   refine⟨es[i0],by rw[IL,Ay9,D7 hlt'],h5 i0 _ p0 hes hp0⟩
  .rw[EC hge]at hp0
   have h0:i0 - p.2.l.length=0:=by
    rcases IY (i0 - p.2.l.length)with h | h
    .exact h
    .rw[Ei (by show 1<=_;omega)]at hp0;cases hp0
   rw[h0]at hp0;injection hp0 with hp0;subst hp0;exact⟨_,by rw[IL,AyA],hk',hval⟩
 .have hstay:=hK.stays (a.eval i) e.key _ hk (by rw[<- f4];exact(k5 j e q f2 f3).1);have f2':es[j]? =some e:=by rw[<- Eg];exact f2
  have hrun:(execOp a.eval o).run P w= .ok .skip {w with heap:=w.heap.setIfInBounds r (.map (es.modify j fun e=> {e with key:=a.eval i,val:=a.eval y}) ck)}:=by
   have:(Instr.mapUpdate t (a.eval x) (a.eval i) (a.eval y)).run P w= .ok () {w with heap:=w.heap.setIfInBounds r (.map (es.modify j fun e=> {e with key:=a.eval i,val:=a.eval y}) ck)}:=by rw[hv,h1];simp [Instr.mapUpdate,Eb hu,Vu h2,hchk,hfind,f1,f2',hstay,bM _ h2,Result.andThen]
   rcases ho with ho | ho<;>simp only[execOp,ho,D8,this,Result.andThen_ok,Sem.run_pure]
  unfold Oper.wp;rw[hrun,Oper.upon_skip,hd];refine hn O1 m _ _ ?_;rw[happ];refine sK hS1 (d:=none) (v:=undef) hq1 h1 h2 h3 (by rw[f6,Array.size_modify,EP,<- k4,Array.length_toList]) (fun i0 p0 hp0=> ?_) (fun h=>absurd rfl h);have hp0:(VG p.2.kt (p.2.kt.mk i'.cells).2 (p.2.vt.mk pu.2.1).2 p.2.l)[i0]? =some p0:=hp0;rw[f6]at hp0;rcases AtY hp0 with ⟨q1,q2,_⟩ | ⟨q1,q2⟩
  .subst q1;subst q2;refine⟨_,by rw[GI,Dp rfl,f2'];rfl,?_,hval⟩;dsimp only;rw[f4];exact hk'
  .have hlt:i0<es.size:=by
    have:=(F6.1 q2).1;rw[<- k4,Array.length_toList]at this;exact this
   have hes:es.toList[i0]? =some es[i0]:=by rw[Eg,D7 hlt]
   exact⟨es[i0],by rw[GI,Dk (fun h=>q1 h.symm),D7 hlt],h5 i0 _ p0 hes q2⟩
def Am4 {t:Nat} {x i:Operand} {c:Call} (hC:TOk P C) (hS:Sim V0 O0 w0 O m st a w) (ho:o.op= .call c) (hcal:c.callee= .builtin .delete) (hargs:c.args= #[x,i]) {ts:List Nat} (hts:c.argTypes.toList=t::ts) {fet:Fet} (hf:Ob st.Jp fet) {x' i':A} (hx:J7 O st.Jp m w (a.eval x) x') (hi:J7 O st.Jp m w (a.eval i) i')
 (hok:J5 (mQ C fet t x' i').ok):Good P V0 O0 w0 (apply st o (mQ C fet t x' i')) o a w:=by
 intro next Q hn
 have hF:FOk O st.Jp m w fet:=fun q x h=>⟨hf q x h,hS.Jp q x (hf q x h)⟩
 unfold mQ at *
 obtain⟨ti,kt,et,ta,tb,ht,hd',hta,htb,he⟩:=qY hok;rw[he]at hok hn;clear he;obtain⟨p,hp,he⟩:=JL hok;rw[he]at hok hn;clear he;obtain⟨hq,hv,hM⟩:=AeG hF hx hp;obtain⟨hK,hk,hone,hvt⟩:=AkS hC hta hi hok;obtain⟨r,es,ck,h1,h2,h3,h4,h5⟩:=hM.lists;have hu:=(hC.is ht).d;rw[hd']at hu;have hts0:c.argTypes[0]? =some t:=by rw[<- Eg,hts];rfl
 have hfind:=hK.find (a.eval i) _ es.toList p.2.l hk h4 (fun i e p he hp=>(h5 i e p he hp).1);have hchk:=hK.check es.isEmpty (a.eval i) _ hk;have happ: ∀ ok l',apply st o {ok:=ok,val:=.tup [],upd:=[(p.1,.mp l')]}= {tmps:=put st.tmps o.dst (.tup []),Jp:=Lj st.Jp p.1 (.mp l')}:=by intro ok l';rfl
 have hT: ∀(O':Own) (objs':List (Nat×Vm.Obj)) (m':Nat->Value) (w':World),J7 O' objs' m' w' (.tuple #[]) (.tup []):=fun _ _ _ _=>⟨#[],rfl,rfl,fun j hj=>by cases hj⟩
 have main: ∀(es':Array MapEntry),(Builtin.delete_ c.argTypes o.type #[a.eval x,a.eval i]).run P w= .ok (.tuple #[]) {w with heap:=w.heap.setIfInBounds r (.map es' ck)}->es'.size=(fC p.2.kt (p.2.kt.mk i'.cells).2 p.2.l).length ->
  (∀(i0:Nat) (p0:p.2.kt.Val×p.2.vt.Val),(fC p.2.kt (p.2.kt.mk i'.cells).2 p.2.l)[i0]? =some p0-> ∃ e,es'[i0]? =some e/\Nv O w e.key (OA (p.2.kt.cells p0.1))/\Nv O w e.val (OA (p.2.vt.cells p0.2)))->o.wp P a w next Q:=by
  intro es' hr hs he;have hrun:(execOp a.eval o).run P w= .ok (.value (.tuple #[])) {w with heap:=w.heap.setIfInBounds r (.map es' ck)}:=by simp [execOp,ho,resolve,hcal,hargs,invoke,builtin,hr]
  unfold Oper.wp;rw[hrun,Oper.upon_value];refine hn O m _ _ ?_;rw[happ];exact sK (l':=⟨p.2.kt,p.2.vt,fC p.2.kt (p.2.kt.mk i'.cells).2 p.2.l⟩) hS hq (by rw[<- h1]) h2 h3 hs he (fun _=>hT)
 have hsz:es.size=p.2.l.length:=by rw[<- h4,Array.length_toList]
 rcases Ac8 (k:=(p.2.kt.mk i'.cells).2) es.toList p.2.l 0 h4 with ⟨f1,_,_,f3⟩ | ⟨j,e,q,f1,f2,f3,f4,_,_,f6⟩
 .refine main es ?_ (by rw[f3];exact hsz) (fun i0 p0 hp0=> ?_)
  .rw[hv,h1];simp [Builtin.delete_,hts0,Eb hu,Vu h2,hchk,hfind,f1,bM _ h2,Result.andThen]
  .rw[f3]at hp0;have hlt:i0<es.size:=by have:=(F6.1 hp0).1;omega
   have hes:es.toList[i0]? =some es[i0]:=by rw[Eg,D7 hlt]
   exact⟨es[i0],D7 hlt,h5 i0 _ p0 hes hp0⟩
 .have hj:j<es.size:=by
   have:=(F6.1 f2).1;simpa using this
  have hel:(es.eraseIdxIfInBounds j).toList=es.toList.eraseIdx j:=by unfold Array.eraseIdxIfInBounds;rw[Io hj];simp
  refine main (es.eraseIdxIfInBounds j) ?_ ?_ (fun i0 p0 hp0=> ?_)
  .rw[hv,h1];simp [Builtin.delete_,hts0,Eb hu,Vu h2,hchk,hfind,f1,bM _ h2,Result.andThen]
  all_goals grind[Nv,OA,split]
end
open Classical
def IC (O:Own) (w:World) (id:Nat) (v:Value):A->Prop
 | .usl z e l=>KT O [] (fun _=>v) w id (.arr e z l)
 | .box cs=> ∃ b base,v= .pointer (some (at' b base))/\ ∀ j,j<cs.length->O b (base+j)=some id/\w.frozen? (at' b (base+j))=false/\ ∃ u,w.cell? (at' b (base+j))=some u/\J3 O w u (cs.getD j .undef)
 | .ump l=>Ny O w id v l
 | a=>J3 O w v a
def IR (O:Own) (w:World) (id:Nat) (v:Value):A->Prop
 | .agg cs=> ∃ vs:Array Value,v= .agg vs/\vs.size=cs.length/\ ∀ j,j<cs.length->IC O w (id+1+j) (vs.getD j undef) (cs.getD j .undef)
 | .box cs=> ∃ b base,v= .pointer (some (at' b base))/\ ∀ j,j<cs.length->O b (base+j)=some id/\w.frozen? (at' b (base+j))=false/\ ∃ u,w.cell? (at' b (base+j))=some u/\IC O w (id+1+j) u (cs.getD j .undef)
 | .cbx k cs=> ∃ b base,aN O w k v (.pointer (some (at' b base)))/\ ∀ j,j<cs.length->O b (base+j)=some id/\w.frozen? (at' b (base+j))=false/\ ∃ u,w.cell? (at' b (base+j))=some u/\IC O w (id+1+j) u (cs.getD j .undef)
 | .ump l=>Ny O w id v l
 | a=>IC O w id v a
section
variable {P:Program} {C:Ctx} {V0:Nat->Value} {O0 O:Own} {w0 w:World} {m:Nat->Value} {st:St} {a:Act} {o:Oper}
def J3.ic {id:Nat} {v:Value} {x:A} (h:J3 O w v x):IC O w id v x:=by cases h<;>first | exact .bool _ | exact .int _ _ | exact .str _ | exact .nil _ | exact .Lt | exact .fn _ | exact .jI | exact J3.sl0 _ _ | (rename_i vs a1 a2 a3;exact J3.sl vs a1 a2 a3) | (rename_i h hn;exact J3.sln h hn)
def Na (O:Own) (ρ :Nat->Option Nat):Own:=fun b k=>match O b k with
 | none=>none
 | some o=>match ρ o with
  | some i=>some i
  | none=>some 255
def V8 {ρ :Nat->Option Nat} {b k:Nat}:Na O ρ b k=none↔O b k=none:=by grind[Na]
def TJ {ρ :Nat->Option Nat} {b k o i:Nat} (h:O b k=some o) (hr: ρ o=some i):Na O ρ b k=some i:=by unfold Na;rw[h];simp [hr]
def Rq (ρ :Nat->Option Nat):MS O w (Na O ρ) w:=fun _ _ _ h hc=>⟨V8.2 h,hc⟩
theorem KT.Na {ρ :Nat->Option Nat} {q i e:Nat} {z:Bool} {l:Sl} {Jp objs':List (Nat×Obj)} {m m':Nat->Value} (h:KT O Jp m w q (.arr e z l)) (hr: ρ q=some i) (hm:m' i=m q) :
 KT (Na O ρ) objs' m' w i (.arr e z l):=by
 refine⟨h.1,?_⟩;rcases h.2 with ⟨h1,h2,h3⟩ | ⟨h1,g,cap,cur,h2,h3,h4,h5,h6,h7,h8,h9⟩
 .exact .inl ⟨h1,h2,by rw[hm];exact h3⟩
 .refine .inr ⟨h1,g,cap,cur,by rw[hm];exact h2,h3,h4,h5,h6,fun r j hr' hj=> ?_,fun k hk hge=>TJ (h8 k hk hge) hr,fun k hk=> ?_⟩
  .obtain⟨u,h10,h11⟩:=h7 r j hr' hj;exact⟨u,h10,h11.JW (Rq ρ)⟩
  .have:=h9 k hk;cases z with
   | true=>exact V8.2 this
   | false=>exact TJ this hr
def KT.keep {O':Own} {q e:Nat} {l:Sl} {Jp objs':List (Nat×Obj)} {m:Nat->Value} (h:KT O Jp m w q (.arr e false l)) (hp:MS O w O' w) (hk: ∀ b k,O b k=some q->O' b k=some q):KT O' objs' m w q (.arr e false l):=by
 refine⟨h.1,?_⟩;rcases h.2 with h0 | ⟨h1,g,cap,cur,h2,h3,h4,h5,h6,h7,h8,h9⟩
 .exact .inl h0
 .refine .inr ⟨h1,g,cap,cur,h2,h3,h4,h5,h6,fun r j hr' hj=> ?_,fun k a b=>hk _ _ (h8 k a b),fun k a=>hk _ _ (h9 k a)⟩;obtain⟨u,h10,h11⟩:=h7 r j hr' hj;exact⟨u,h10,h11.JW hp⟩
def Vw {W:Prop} {fet:Fet} (hf:Ob st.Jp fet) (hS: ∀ q y,Jy st.Jp q=some y->KT O st.Jp m w q y): ∀(ks:List (Bool×CK)) (cs:List A) (id:Nat) (f:Nat->Value),(ks.any wC=true->W)->(∀ j,j<cs.length->JC O st.Jp m w (f j) (cs.getD j .undef))->J5 (J4 fet ks cs).1 ->
 (J4 fet ks cs).2.1.length=ks.length/\cs.length=ks.length/\Frz st.Jp (J4 fet ks cs).2.2.1/\(J4 fet ks cs).2.2.2=(KZ id ks cs).map (·.1) /\
 ∀ {O':Own} {objs':List (Nat×Obj)} {ρ :Nat->Option Nat},MS O w O' w->(∀ p∈(J4 fet ks cs).2.2.1,∀ e l,p.2= .arr e true l->J3 O' w (m p.1) (.sl l)) ->
  (∀ p∈(J4 fet ks cs).2.2.1,KT O' objs' m w p.1 p.2)->(∀ b k q,O b k=some q->(NR st.Jp q\/W)->O' b k=some q)->(∀ p∈KZ id ks cs,ρ p.1=some p.2) ->
  ∀ j,j<ks.length->IC (Na O' ρ) w (id+j) (f j) ((J4 fet ks cs).2.1.getD j .undef):=by
 intro ks
 induction ks with
 | nil =>
  intro cs id f _ _ hok;cases cs with
  | nil=>exact⟨rfl,rfl,(fun p hp=>by simp [J4]at hp),rfl,fun _ _ _ _ _ j hj=>by simp at hj⟩
  | cons _ _=>have:=hok false (by simp [J4]);cases this
 | cons k ks ih =>
  intro cs id f hW h hok;obtain⟨u,k⟩:=k;cases cs with
  | nil=>have:=hok false (by cases u<;>simp [J4]);cases this
  | cons c cs =>
   have hrest:=fun hok2=>ih cs (id+1) (fun j=>f (j+1)) (fun h=>hW (by rw[List.any_cons,h,Ew])) (fun j hj=>by simpa using h (j+1) (by simpa using hj)) hok2;cases u with
   | false =>
    simp only[J4]at hok ⊢;obtain⟨hok1,hok2⟩:=hok.append;obtain⟨h1,h2⟩:=Aly hf (h 0 (by simp)) hok1;obtain⟨h3,h4,h5,h6,h7⟩:=hrest hok2;have hnames:KZ id ((false,k)::ks) (c::cs)=KZ (id+1) ks cs:=by cases c<;>rfl
    refine⟨by simp [h3],by simp [h4],h1.append h5,by rw[hnames];exact h6,fun {O' objs' ρ} hp hv hO hbx hρ j hj=> ?_⟩;rw[hnames]at hρ;cases j with
    | zero =>have hvr:=(h2 hp (fun p hp=>hv p (DL _ hp))).JW (Rq ρ);exact hvr.ic
    | succ j =>have:=h7 hp (fun p hp=>hv p (DI _ hp)) (fun p hp=>hO p (DI _ hp)) hbx hρ j (by simpa using hj);rw[show id+(j+1)=id+1+j from by omega];simpa using this
   | true =>
    cases k with
    | sl e sz =>
     cases c with
     | own q =>
      simp only[J4]at hok ⊢;cases hg:Jy fet q with
      | none=>rw[hg]at hok;have:=hok false (by simp);cases this
      | some x =>
       cases x with
       | box _=>rw[hg]at hok;have:=hok false (by simp);cases this
       | mp _=>rw[hg]at hok;have:=hok false (by simp);cases this
       | arr e' fz l =>
        rw[hg]at hok;dsimp only at hok ⊢;obtain⟨hok1,hok2⟩:=hok.append;obtain⟨e1,e2⟩:=hok1.cons;have e1:=Dy e1;subst e1;obtain⟨h3,h4,h5,h6,h7⟩:=hrest hok2;have hq:=hf q _ hg;refine⟨by simp [h3],by simp [h4],fun p hp=> ?_,?_,fun {O' objs' ρ} hp hv hO hbx hρ j hj=> ?_⟩
        .rcases D6.1 hp with rfl | hp
         .exact⟨e,fz,l,hq,rfl⟩
         .exact h5 p hp
        .simp only[KZ,Em,h6]
        .cases j with
         | zero =>have hc:JC O st.Jp m w (f 0) (.own q):=h 0 (by simp);have hc:=hc.2;rw[hq]at hc;simp only[Option.map_some,Obj.shp]at hc;have:=hO _ Dv;exact this.Na (objs':=[]) (m':=fun _=>f 0) (hρ (q,id) Dv) hc
         | succ j =>have:=h7 hp (fun p hp=>hv p (Dw _ hp)) (fun p hp=>hO p (Dw _ hp)) hbx (fun p hp=>hρ p (Dw _ hp)) j (by simpa using hj);rw[show id+(j+1)=id+1+j from by omega];simpa using this
     | La =>
      simp only[J4]at hok ⊢;obtain⟨h3,h4,h5,h6,h7⟩:=hrest hok;have hnames:KZ id ((true,.sl e sz)::ks) (.La::cs)=KZ (id+1) ks cs:=rfl;refine⟨by simp [h3],by simp [h4],h5,by rw[hnames];exact h6,fun {O' objs' ρ} hp hv hO hbx hρ j hj=> ?_⟩;rw[hnames]at hρ;cases j with
      | zero =>have hc:JC O st.Jp m w (f 0) .La:=h 0 (by simp);have hc:f 0= .slice none 0 0:=hc;show KT _ [] (fun _=>f 0) w _ (.arr e true ⟨sz,[]⟩);exact⟨by simp [Sl.es],.inl ⟨trivial,rfl,hc⟩⟩
      | succ j =>have:=h7 hp hv hO hbx hρ j (by simpa using hj);rw[show id+(j+1)=id+1+j from by omega];simpa using this
     | _=>have:=hok false (by simp [J4]);cases this
    | sln e sz =>
     cases c with
     | own q =>
      simp only[J4]at hok ⊢;cases hg:Jy fet q with
      | none=>rw[hg]at hok;have:=hok false (by simp);cases this
      | some x =>
       cases x with
       | box _=>rw[hg]at hok;have:=hok false (by simp);cases this
       | mp _=>rw[hg]at hok;have:=hok false (by simp);cases this
       | arr e' fz l =>
        rw[hg]at hok;dsimp only at hok ⊢;obtain⟨hok1,hok2⟩:=hok.append;obtain⟨e1,e2⟩:=hok1.cons;obtain⟨_,e3⟩:=e2.cons;have e3:fz=false:=by simpa using e3.cons.1
        subst e3;have e1:=Dy e1;subst e1;obtain⟨h3,h4,h5,h6,h7⟩:=hrest hok2;have hq:=hf q _ hg;refine⟨by simp [h3],by simp [h4],h5,?_,fun {O' objs' ρ} hp hv hO hbx hρ j hj=> ?_⟩
        .simp only[KZ,Em,h6]
        .cases j with
         | zero =>have hc:JC O st.Jp m w (f 0) (.own q):=h 0 (by simp);have hc:=hc.2;rw[hq]at hc;simp only[Option.map_some,Obj.shp]at hc;exact(KT.keep (objs':=st.Jp) (hS q _ hq) hp fun b k hb=>hbx b k q hb (.inr (hW rfl))).Na (objs':=[]) (m':=fun _=>f 0) (hρ (q,id) Dv) hc
         | succ j =>have:=h7 hp hv hO hbx (fun p hp=>hρ p (Dw _ hp)) j (by simpa using hj);rw[show id+(j+1)=id+1+j from by omega];simpa using this
     | La =>
      simp only[J4]at hok ⊢;obtain⟨h3,h4,h5,h6,h7⟩:=hrest hok;have hnames:KZ id ((true,.sln e sz)::ks) (.La::cs)=KZ (id+1) ks cs:=rfl;refine⟨by simp [h3],by simp [h4],h5,by rw[hnames];exact h6,fun {O' objs' ρ} hp hv hO hbx hρ j hj=> ?_⟩;rw[hnames]at hρ;cases j with
      | zero =>have hc:JC O st.Jp m w (f 0) .La:=h 0 (by simp);have hc:f 0= .slice none 0 0:=hc;show KT _ [] (fun _=>f 0) w _ (.arr e false ⟨sz,[]⟩);exact⟨by simp [Sl.es],.inl ⟨trivial,rfl,hc⟩⟩
      | succ j =>have:=h7 hp hv hO hbx hρ j (by simpa using hj);rw[show id+(j+1)=id+1+j from by omega];simpa using this
     | _=>have:=hok false (by simp [J4]);cases this
    | bx t =>
     cases c with
     | ptr q off =>
      simp only[J4]at hok ⊢;cases hg:L6 fet q with
      | none=>rw[hg]at hok;have:=hok false (by simp);cases this
      | some zs =>
       rw[hg]at hok;dsimp only at hok ⊢;obtain⟨hok0,hok1⟩:=hok.cons;obtain⟨hok1,hok2⟩:=hok1.append;have hok0:=Dy hok0;subst hok0;obtain⟨h3,h4,h5,h6,h7⟩:=hrest hok2;have hq:=hf q _ (Lp hg);obtain⟨b,base,g1,g2⟩:=hS q _ hq;have hv0:f 0= .pointer (some (at' b base)):=by have hc:JC O st.Jp m w (f 0) (.ptr q 0):=h 0 (by simp);have hc:=hc.2;rw[hq]at hc;simp only[Option.map_some,Obj.shp]at hc;obtain⟨b',base',g3,g4⟩:=hc;rw[g1]at g3;injection g3 with g3;injection g3 with g3;injection g3 with e1 e2;subst e1;subst e2;exact g4
       have hfc: ∀ j,j<zs.length->w.cell? (at' b (base+j))=some ((w.cell? (at' b (base+j))).getD undef)/\JC O st.Jp m w ((w.cell? (at' b (base+j))).getD undef) (zs.getD j .undef):=by intro j hj;obtain⟨_,_,u,h3,h4⟩:=g2 j hj;rw[h3];exact⟨rfl,h4⟩
       obtain⟨p1,p2,p3,p4⟩:=UR hf (tck t) zs (fun j=>(w.cell? (at' b (base+j))).getD undef) (fun j hj=>(hfc j hj).2) hok1;refine⟨by simp [h3],by simp [h4],p3.append h5,?_,fun {O' objs' ρ} hp hv hO hbx hρ j hj=> ?_⟩
       .simp only[KZ,Em,h6]
       .cases j with
        | zero =>
         refine⟨b,base,hv0,fun j hj=> ?_⟩;have hj:j<(KG fet (tck t) zs).2.1.length:=hj;rw[p1]at hj;have hj':j<zs.length:=by rw[p2];exact hj
         obtain⟨k1,k2,_⟩:=g2 j hj';exact⟨TJ (hbx _ _ _ k1 (.inl (.of hq (fun _ _ _ h=>by cases h)))) (hρ (q,id) Dv),k2,_,(hfc j hj').1,(p4 hp (fun p hp=>hv p (DL _ hp)) j hj).JW (Rq ρ)⟩
        | succ j =>have:=h7 hp (fun p hp=>hv p (DI _ hp)) (fun p hp=>hO p (DI _ hp)) hbx (fun p hp=>hρ p (Dw _ hp)) j (by simpa using hj);rw[show id+(j+1)=id+1+j from by omega];simpa using this
     | _=>have:=hok false (by simp [J4]);cases this
    | mp kt vt =>
     cases c with
     | own q =>
      simp only[J4]at hok ⊢;cases hg:Jy fet q with
      | none=>rw[hg]at hok;have:=hok false (by simp);cases this
      | some x =>
       cases x with
       | box _=>rw[hg]at hok;have:=hok false (by simp);cases this
       | arr _ _ _=>rw[hg]at hok;have:=hok false (by simp);cases this
       | mp l =>
        rw[hg]at hok;dsimp only at hok ⊢;obtain⟨hok1,hok2⟩:=hok.append;obtain⟨h3,h4,h5,h6,h7⟩:=hrest hok2;have hq:=hf q _ hg;refine⟨by simp [h3],by simp [h4],h5,?_,fun {O' objs' ρ} hp hv hO hbx hρ j hj=> ?_⟩
        .simp only[KZ,Em,h6]
        .cases j with
         | zero =>
          have hc:JC O st.Jp m w (f 0) (.own q):=h 0 (by simp);have hc:=hc.2;rw[hq]at hc;have hv0:f 0=m q:=hc;obtain⟨r,es,ck,g1,g2,g3,g4,g5⟩:=(show Ny O w q (m q) l from hS q _ hq)
          refine⟨r,es,ck,by rw[hv0];exact g1,g2,TJ (hbx _ _ _ g3 (.inl (.of hq (fun _ _ _ h=>by cases h)))) (hρ (q,id) Dv),g4,fun i p hip=> ?_⟩;obtain⟨e,k1,k2,k3⟩:=g5 i p hip;exact⟨e,k1,(k2.JW hp).JW (Rq ρ),(k3.JW hp).JW (Rq ρ)⟩
         | succ j =>have:=h7 hp hv hO hbx (fun p hp=>hρ p (Dw _ hp)) j (by simpa using hj);rw[show id+(j+1)=id+1+j from by omega];simpa using this
     | _=>have:=hok false (by simp [J4]);cases this
    | _=>have:=hok false (by simp [J4]);cases this
end
section
variable {P:Program} {C:Ctx} {V0:Nat->Value} {O0 O:Own} {w0 w:World} {m:Nat->Value} {st:St} {a:Act} {o:Oper}
def AkC {W:Prop} {fet:Fet} (hf:Ob st.Jp fet) {s:Sh} {x:A} {v:Value} {id:Nat} (hW:wS s=true->W) (hx:J7 O st.Jp m w v x) (hS: ∀ q y,Jy st.Jp q=some y->KT O st.Jp m w q y) (hok:J5 (JU fet s x).ok) :
 Frz st.Jp (JU fet s x).upd/\(∀ q∈(JU fet s x).del++(JU fet s x).boxes.map (·.1),q∈(Oq fet id s x).map (·.1))/\(∀ q∈(Oq fet id s x).map (·.1),q∈(JU fet s x).del++(JU fet s x).boxes.map (·.1)) /\
 (KE s=true↔(JU fet s x).boxes≠ []) /\
 ∀ {O':Own} {objs':List (Nat×Obj)} {ρ :Nat->Option Nat},MS O w O' w->(∀ p∈(JU fet s x).upd,∀ e l,p.2= .arr e true l->J3 O' w (m p.1) (.sl l)) ->
  (∀ p∈(JU fet s x).upd,KT O' objs' m w p.1 p.2)->(∀ b k q,O b k=some q->(NR st.Jp q\/W)->O' b k=some q)->(∀ p∈Oq fet id s x,ρ p.1=some p.2) ->
  IR (Na O' ρ) w id v (JU fet s x).a:=by
 cases s with
 | cell u k =>
  unfold JU at *
  dsimp only at hok ⊢
  have hall: ∀ hc:JC O st.Jp m w v x,_:=fun hc=>Vw hf hS [(u,k)] [x] id (fun _=>v) (fun h=>hW (by rw[List.any_cons,List.any_nil,ET]at h;exact h)) (fun j hj=>by
   have:j=0:=by simpa using hj
   subst this;exact hc)
  have hnc: ∀(h:J5 (J4 fet [(u,k)] [x]).1),JC O st.Jp m w v x:=by
   intro h;cases x with
   | undef=>cases u<;>cases k<;>(have:=h false (by simp [J4,pur]);cases this)
   | agg _=>cases u<;>cases k<;>(have:=h false (by simp [J4,pur]);cases this)
   | tup _=>cases u<;>cases k<;>(have:=h false (by simp [J4,pur]);cases this)
   | cnd _ _=>cases u<;>cases k<;>(have:=h false (by simp [J4,pur]);cases this)
   | _=>exact hx
  generalize hh:J4 fet [(u,k)] [x]=r at *
  obtain⟨ok,cs,upd,del⟩:=r;cases cs with
  | nil=>have:=hok false (by simp);cases this
  | cons c cs =>
   cases cs with
   | cons _ _=>have:=hok false (by simp);cases this
   | nil =>
    dsimp only at hok ⊢;obtain⟨h1,h2,h3,h4,h5⟩:=hall (hnc hok) hok;have h4:del=(KZ id [(u,k)] [x]).map (·.1):=h4;refine⟨h3,fun q hq=> ?_,fun q hq=> ?_,⟨(fun h=>by cases h),fun h=>absurd rfl h⟩,fun {O' objs' ρ} hp hv hO hbx hρ => ?_⟩
    .simp only[Fg,En]at hq;rw[h4]at hq;exact hq
    .simp only[Fg,En];rw[h4];exact hq
    .have:=h5 hp hv hO hbx hρ 0 (by simp);have e: [c].getD 0 .undef=c:=rfl;dsimp only at this;rw[e]at this;cases c<;>first | exact this | (obtain⟨b,base,e1,e2⟩:=this;exact⟨b,base,e1,fun j hj=>let ⟨k1,k2,u,k3,k4⟩:=e2 j hj;⟨k1,k2,u,k3,k4.ic⟩⟩) | cases this
 | agg ks =>
  cases x with
  | agg cs =>
   unfold JU at *
   dsimp only at hok ⊢;obtain⟨vs,g1,g2,g3⟩:=hx;obtain⟨h1,h2,h3,h4,h5⟩:=Vw hf hS ks cs (id+1) (fun j=>vs.getD j undef) hW g3 hok;refine⟨h3,fun q hq=> ?_,fun q hq=> ?_,⟨(fun h=>by cases h),fun h=>absurd rfl h⟩,fun {O' objs' ρ} hp hv hO hbx hρ => ?_⟩
   .simp only[Fg,En]at hq;rw[h4]at hq;exact hq
   .simp only[Fg,En];rw[h4];exact hq
   .exact⟨vs,g1,by rw[g2,h1,h2],fun j hj=>h5 hp hv hO hbx hρ j (by rw[<- h1];exact hj)⟩
  | _=>have:=hok false (by simp [JU]);cases this
 | box ks =>
  cases x with
  | ptr q off =>
   unfold JU at *
   dsimp only at hok ⊢;cases hg:L6 fet q with
   | none=>rw[hg]at hok;have:=hok false (by simp);cases this
   | some cs =>
    rw[hg]at hok;dsimp only at hok ⊢;obtain⟨ho0,hokA⟩:=hok.cons;obtain⟨_,hokB⟩:=hokA.cons;have ho0:=Dy ho0;subst ho0;have hq:=hf q _ (Lp hg);obtain⟨b,base,g1,g2⟩:=hS q _ hq;have hv0:v= .pointer (some (at' b base)):=by have hc:JC O st.Jp m w v (.ptr q 0):=hx;have hc:=hc.2;all_goals grind[Obj.shp]
    let f:Nat->Value:=fun j=>(w.cell? (at' b (base+j))).getD undef
    have hfc: ∀ j,j<cs.length->w.cell? (at' b (base+j))=some (f j)/\JC O st.Jp m w (f j) (cs.getD j .undef):=by
     intro j hj;obtain⟨_,_,u,h3,h4⟩:=g2 j hj;have:f j=u:=by show(w.cell? _).getD _=_;rw[h3];rfl
     rw[this];exact⟨h3,h4⟩
    obtain⟨h1,h2,h3,h4,h5⟩:=Vw hf hS ks cs (id+1) f hW (fun j hj=>(hfc j hj).2) hokB;have hnames:Oq fet id (.box ks) (.ptr q 0)=(q,id)::KZ (id+1) ks cs:=by simp only[Oq,hg]
    rw[hnames];refine⟨h3,fun r hr=> ?_,fun r hr=> ?_,⟨fun _=>by simp,fun _=>rfl⟩,fun {O' objs' ρ} hp hv hO hbx hρ => ?_⟩
    .simp only[Em,Fg,DJ,DT]at hr;rcases hr with hr | hr
     .rw[h4]at hr;exact Dw _ hr
     .rw[hr];exact Dv
    .simp only[Em,Fg,DJ,DT];rcases D6.1 hr with hr | hr
     .exact .inr hr
     .left;rw[h4];exact hr
    .refine⟨b,base,hv0,fun j hj=> ?_⟩;rw[h1]at hj;obtain⟨k1,k2,u,k3,_⟩:=g2 j (by rw[h2];exact hj);refine⟨TJ (hbx _ _ _ k1 (.inl (.of hq (fun _ _ _ h=>by cases h)))) (hρ (q,id) Dv),k2,f j,(hfc j (by rw[h2];exact hj)).1,h5 hp hv hO hbx (fun p hp'=>hρ p (Dw _ hp')) j hj⟩
  | _=>have:=hok false (by simp [JU]);cases this
 | clo f' ks =>
  cases x with
  | clo g q =>
   unfold JU at *
   dsimp only at hok ⊢;cases hg:L6 fet q with
   | none=>rw[hg]at hok;have:=hok false (by simp);cases this
   | some cs =>
    rw[hg]at hok;dsimp only at hok ⊢;obtain⟨ho0,hokA⟩:=hok.cons;obtain⟨_,hokB⟩:=hokA.cons;have ho0:=Dy ho0;subst ho0;have hq:=hf q _ (Lp hg);obtain⟨b,base,g1,g2⟩:=hS q _ hq;have hv0:aN O w f' v (.pointer (some (at' b base))):=by have hc:JC O st.Jp m w v (.clo f' q):=hx;obtain⟨_,p,_,hc2,hc⟩:=hc;rw[hq]at hc;obtain⟨b',base',e1,e2⟩:=hc;rw[g1]at e1;rw[e1,<- e2];exact hc2
    let f:Nat->Value:=fun j=>(w.cell? (at' b (base+j))).getD undef
    have hfc: ∀ j,j<cs.length->w.cell? (at' b (base+j))=some (f j)/\JC O st.Jp m w (f j) (cs.getD j .undef):=by
     intro j hj;obtain⟨_,_,u,h3,h4⟩:=g2 j hj;have:f j=u:=by show(w.cell? _).getD _=_;rw[h3];rfl
     rw[this];exact⟨h3,h4⟩
    obtain⟨h1,h2,h3,h4,h5⟩:=Vw hf hS ks cs (id+1) f hW (fun j hj=>(hfc j hj).2) hokB;have hnames:Oq fet id (.clo f' ks) (.clo f' q)=(q,id)::KZ (id+1) ks cs:=by simp only[Oq,hg]
    rw[hnames];refine⟨h3,fun r hr=> ?_,fun r hr=> ?_,⟨fun _=>by simp,fun _=>rfl⟩,fun {O' objs' ρ} hp hv hO hbx hρ => ?_⟩
    .simp only[Em,Fg,DJ,DT]at hr;rcases hr with hr | hr
     .rw[h4]at hr;exact Dw _ hr
     .rw[hr];exact Dv
    .simp only[Em,Fg,DJ,DT];rcases D6.1 hr with hr | hr
     .exact .inr hr
     .left;rw[h4];exact hr
    .refine⟨b,base,(hv0.JW hp).JW (Rq ρ),fun j hj=> ?_⟩;rw[h1]at hj;obtain⟨k1,k2,u,k3,_⟩:=g2 j (by rw[h2];exact hj);refine⟨TJ (hbx _ _ _ k1 (.inl (.of hq (fun _ _ _ h=>by cases h)))) (hρ (q,id) Dv),k2,f j,(hfc j (by rw[h2];exact hj)).1,h5 hp hv hO hbx (fun p hp'=>hρ p (Dw _ hp')) j hj⟩
  | _=>have:=hok false (by simp [JU]);cases this
 | map kt vt =>
  cases x with
  | own q =>
   unfold JU at *
   dsimp only at hok ⊢;cases hg:Jy fet q with
   | none=>rw[hg]at hok;have:=hok false (by simp);cases this
   | some y =>
    cases y with
    | box _=>rw[hg]at hok;have:=hok false (by simp);cases this
    | arr _ _ _=>rw[hg]at hok;have:=hok false (by simp);cases this
    | mp l =>
     rw[hg]at hok;dsimp only at hok ⊢;have hq:=hf q _ hg;have hv0:v=m q:=by have hc:JC O st.Jp m w v (.own q):=hx;have hc:=hc.2;rw[hq]at hc;exact hc
     refine⟨(fun p hp=>by cases hp),fun r hr=> ?_,fun r hr=> ?_,⟨fun _=>by simp,fun _=>rfl⟩,fun {O' objs' ρ} hp hv hO hbx hρ => ?_⟩
     .simpa [Oq]using hr
     .simpa [Oq]using hr
     .obtain⟨r,es,ck,g1,g2,g3,g4,g5⟩:=(show Ny O w q (m q) l from hS q _ hq)
      refine⟨r,es,ck,by rw[hv0];exact g1,g2,TJ (hbx _ _ _ g3 (.inl (.of hq (fun _ _ _ h=>by cases h)))) (hρ (q,id) Dv),g4,fun i p hip=> ?_⟩;obtain⟨e,k1,k2,k3⟩:=g5 i p hip;exact⟨e,k1,(k2.JW hp).JW (Rq ρ),(k3.JW hp).JW (Rq ρ)⟩
  | _=>have:=hok false (by simp [JU]);cases this
def We {W:Prop} {fet:Fet} (hf:Ob st.Jp fet) (hS: ∀ q y,Jy st.Jp q=some y->KT O st.Jp m w q y) (stride:Nat): ∀(ss:List Sh) (xs:List A) (id:Nat) (f:Nat->Value),(ss.any wS=true->W)->(∀ j,j<xs.length->J7 O st.Jp m w (f j) (xs.getD j .undef))->J5 (J8 fet ss xs).1 ->
 (J8 fet ss xs).2.1.length=ss.length/\xs.length=ss.length/\Frz st.Jp (J8 fet ss xs).2.2.1 /\
 (∀ q,q∈(J8 fet ss xs).2.2.2.1++(J8 fet ss xs).2.2.2.2.map (·.1)↔q∈(MQ fet id stride ss xs).map (·.1)) /\
 ∀ {O':Own} {objs':List (Nat×Obj)} {ρ :Nat->Option Nat},MS O w O' w->(∀ p∈(J8 fet ss xs).2.2.1,∀ e l,p.2= .arr e true l->J3 O' w (m p.1) (.sl l)) ->
  (∀ p∈(J8 fet ss xs).2.2.1,KT O' objs' m w p.1 p.2)->(∀ b k q,O b k=some q->(NR st.Jp q\/W)->O' b k=some q)->(∀ p∈MQ fet id stride ss xs,ρ p.1=some p.2) ->
  ∀ j,j<ss.length->IR (Na O' ρ) w (id+stride*j) (f j) ((J8 fet ss xs).2.1.getD j .undef):=by
 intro ss
 induction ss with
 | nil =>
  intro xs id f _ _ hok;cases xs with
  | nil=>exact⟨rfl,rfl,(fun p hp=>by simp [J8]at hp),(fun q=>by simp [J8,MQ]),fun _ _ _ _ _ j hj=>by simp at hj⟩
  | cons _ _=>have:=hok false (by simp [J8]);cases this
 | cons s ss ih =>
  intro xs id f hW h hok;cases xs with
  | nil=>have:=hok false (by simp [J8]);cases this
  | cons x xs =>
   simp only[J8]at hok ⊢;obtain⟨hok1,hok2⟩:=hok.append;obtain⟨h1,h2,h3,_,h4⟩:=AkC (id:=id) hf (fun e=>hW (by rw[List.any_cons,e,DR])) (h 0 (by simp)) hS hok1;obtain⟨g1,g2,g3,g4,g5⟩:=ih xs (id+stride) (fun j=>f (j+1)) (fun e=>hW (by rw[List.any_cons,e,Ew])) (fun j hj=>by simpa using h (j+1) (by simpa using hj)) hok2;refine⟨by simp [g1],by simp [g2],h1.append g3,fun q=> ?_,fun {O' objs' ρ} hp hv hO hbx hρ j hj=> ?_⟩
   .grind[MQ,a1,a2,a3]
   .cases j with
    | zero=>simpa using h4 hp (fun p hp=>hv p (DL _ hp)) (fun p hp=>hO p (DL _ hp)) hbx (fun p hp=>hρ p (DL _ hp))
    | succ j =>have:=g5 hp (fun p hp=>hv p (DI _ hp)) (fun p hp=>hO p (DI _ hp)) hbx (fun p hp=>hρ p (DI _ hp)) j (by simpa using hj);rw[show id+stride*(j+1)=id+stride+stride*j from by rw[Jo];omega];simpa using this
end
end Go.Proofs.YtehkhflpjkokeaaGreatDoor.Vm
