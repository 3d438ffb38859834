/-
  CertextCheck: the law returns true whatever the input; machine, functions, plain law (part 11 of 47.)
-/
import Derived.Test.YtadefjgbcapakaaGreatDoorA10
import Derived.ChangeKeysEq
import Derived.MapKept
set_option linter.unusedVariables false
set_option linter.unusedSimpArgs false
namespace Go.Proofs.YtadefjgbcapakaaGreatDoor.Vm
open Classical MapKept
theorem Ty.TV {α :Type} (r:Ty) (p:Ty.pr α r.Val r) (hu:r= .nil→True):r.mk2 (r.hd p) (r.tl p)=p:=by cases r<;>rfl
theorem Ty.same_eq: ∀(t:Ty) (a b:t.Val),t.same a b=true→a=b
  | .nil,_,_,_=>rfl
  | .bool r,a,b,h=>by
    simp only[Ty.same,Bool.and_eq_true]at h
    rw[← Ty.TV r a (fun _=>trivial), ←Ty.TV r b (fun _=>trivial),eq_of_beq h.1,Ty.same_eq r _ _ h.2]
  | .int _ r,a,b,h=>by
    simp only[Ty.same,Bool.and_eq_true]at h
    rw[← Ty.TV r a (fun _=>trivial), ←Ty.TV r b (fun _=>trivial),eq_of_beq h.1,Ty.same_eq r _ _ h.2]
  | .str r,a,b,h=>by
    simp only[Ty.same,Bool.and_eq_true]at h
    rw[← Ty.TV r a (fun _=>trivial), ←Ty.TV r b (fun _=>trivial),eq_of_beq h.1,Ty.same_eq r _ _ h.2]
  | .sl _ _ _,_,_,h=>by cases h
  | .ptr _,_,_,h=>by cases h
  | .fn _,_,_,h=>by cases h
  | .mp _ _ _,_,_,h=>by cases h
def Aan:List A→List A→Bool
  | .str x::xs,.str y::ys=>(x==y)&&Aan xs ys
  | _,_=>true
def Hy:Nat→Ty
  | 0=>.nil
  | n+1=>.str (Hy n)
theorem AkN: ∀(n:Nat) (a b:(Hy n).Val),(Hy n).same a b=Aan ((Hy n).cells a) ((Hy n).cells b):=by
  intro n
  induction n with
  | zero=>intro a b;rfl
  | succ n ih=>intro a b;show((_==_)&&_)=((_==_)&&_);rw[ih]
theorem Amx (n:Nat):tyl (List.replicate n [CK.str]).flatten=Hy n:=by
  induction n with
  | zero=>rfl
  | succ n ih=>simp only[List.replicate_succ,List.flatten_cons,List.singleton_append,tyl,Hy,ih]
theorem TR: ∀(n:Nat) (a:(Hy n).Val) (j:Nat),j<n→ ∃ s,((Hy n).cells a).getD j .undef= .str s:=by
  intro n
  induction n with
  | zero=>intro a j h;omega
  | succ n ih =>
    intro a j h
    cases j with
    | zero=>exact⟨_,rfl⟩
    | succ j=>exact ih _ j (by omega)
def fnd {β :Type} (t:Ty) (k:t.Val):List MapEntry→List (t.Val× β)→Nat→Option (Nat×Value)
  | e::es,p::l,i=>bif t.same k p.1 then some (i,e.val)else fnd t k es l (i+1)
  | _,_,_=>none
theorem tZ {β :Type} {t:Ty} {k:t.Val}: ∀(es:List MapEntry) (l:List (t.Val× β)) (i:Nat),es.length=l.length →
    (fnd t k es l i=none∧UD t k l=none∧(∀ x,Zq t k x l=l++[(k,x)])∧WU t k l=l) ∨
    ∃ j e p,fnd t k es l i=some (i+j,e.val)∧es[j]? =some e∧l[j]? =some p∧p.1=k∧UD t k l=some p.2∧(∀ x,Zq t k x l=l.set j (p.1,x))∧WU t k l=l.eraseIdx j:=by
  intro es
  induction es with
  | nil =>
    intro l i h
    cases l with
    | nil=>exact .inl ⟨rfl,rfl,fun _=>rfl,rfl⟩
    | cons _ _=>cases h
  | cons e es ih =>
    intro l i h
    cases l with
    | nil=>cases h
    | cons p l =>
      cases hs:t.same k p.1 with
      | true =>
        refine .inr ⟨0,e,p,by simp [fnd,hs],rfl,rfl,(Ty.same_eq _ _ _ hs).symm,by simp [UD,hs],fun x=>by simp [Zq,hs],by simp [WU,hs]⟩
      | false =>
        rcases ih l (i+1) (by simpa using h)with ⟨h1,h2,h3,h4⟩ | ⟨j,e',p',h1,h2,h3,h4,h5,h6,h7⟩
        ·exact .inl ⟨by simp [fnd,hs,h1],by simp [UD,hs,h2],fun x=>by simp [Zq,hs,h3],by simp [WU,hs,h4]⟩
        ·exact .inr ⟨j+1,e',p',by simp only[fnd,hs,cond_false,h1];congr 2;omega,by simpa using h2,by simpa using h3,h4,by simp [UD,hs,h5],fun x=>by simp [Zq,hs,h6],by simp [WU,hs,h7]⟩
section
variable {P:Program} {C:Ctx} {V0:Nat→Value} {O0 O:Own} {w0 w:World} {m:Nat→Value} {st:St} {a:Act} {o:Oper}
structure wU (P:Program) (O:Own) (w:World) (kt:TypeId) (t:Ty):Prop where
  check: ∀(e:Bool) (v:Value) (k:t.Val),Ee O w v (Fj (t.cells k))→(Instr.checkKey e 10000 kt v).run P w= .ok () w
  find: ∀ {β :Type} (v:Value) (k:t.Val) (es:List MapEntry) (l:List (t.Val× β)),Ee O w v (Fj (t.cells k))→es.length=l.length→(∀(i:Nat) e p,es[i]? =some e→l[i]? =some p→Ee O w e.key (Fj (t.cells p.1))) →
    (Instr.findKey kt v es).run P w= .ok (fnd t k es l 0) w
  stays: ∀(v u:Value) (k:t.Val),Ee O w v (Fj (t.cells k))→Ee O w u (Fj (t.cells k))→(Instr.keyThatStays u v).run P w= .ok v w
theorem qK {β :Type} {t:Ty} {k:t.Val} {d:TypeDesc} {v:Value}: ∀(es:List MapEntry) (l:List (t.Val× β)) (i:Nat),es.length=l.length→(∀(i:Nat) (e:MapEntry) (p:t.Val× β),es[i]? =some e→l[i]? =some p→Instr.sameNow d v e.key=some (t.same k p.1)) →
    Instr.findNow d v es i=some (fnd t k es l i):=by
  intro es
  induction es with
  | nil=>intro l i h _;cases l<;>rfl
  | cons e es ih =>
    intro l i h hs
    cases l with
    | nil=>cases h
    | cons p l =>
      have h0:=hs 0 e p rfl rfl
      have h1:=ih l (i+1) (by simpa using h) (fun i e p he hp=>hs (i+1) e p (by simpa using he) (by simpa using hp))
      cases hb:t.same k p.1 with
      | true=>rw[hb]at h0;simp [Instr.findNow,h0,fnd,hb]
      | false=>rw[hb]at h0;simp [Instr.findNow,h0,fnd,hb,h1]
theorem AhN {β :Type} {t:Ty} {k:t.Val} {kt:TypeId} {v:Value}: ∀(es:List MapEntry) (l:List (t.Val× β)) (i:Nat),es.length=l.length→(∀(i:Nat) (e:MapEntry) (p:t.Val× β),es[i]? =some e→l[i]? =some p→(Op.equal kt v e.key).run P w= .ok (t.same k p.1) w) →
    (Instr.findAsking kt v es i).run P w= .ok (fnd t k es l i) w:=by
  intro es
  induction es with
  | nil=>intro l i h _;cases l<;>first | rfl | cases h
  | cons e es ih =>
    intro l i h hs
    cases l with
    | nil=>cases h
    | cons p l =>
      have h0:=hs 0 e p rfl rfl
      have h1:=ih l (i+1) (by simpa using h) (fun i e p he hp=>hs (i+1) e p (by simpa using he) (by simpa using hp))
      cases hb:t.same k p.1 with
      | true=>rw[hb]at h0;simp [Instr.findAsking,h0,fnd,hb]
      | false=>rw[hb]at h0;simp [Instr.findAsking,h0,fnd,hb,h1]
theorem RY {a b:ByteArray} (h:a.data.toList=b.data.toList):a=b:=by
  obtain⟨⟨x⟩⟩:=a
  obtain⟨⟨y⟩⟩:=b
  have:x=y:=h
  rw[this]
theorem fE (a b:ByteArray):(a==b)=(a.data.toList==b.data.toList):=by
  rw[Bool.eq_iff_iff,bytes_beq,beq_iff_eq]
  exact⟨fun h=>by rw[h],RY⟩
theorem Am.str' {v:Value} {s:List UInt8} (h:Am O w v (.str s)): ∃ b:ByteArray,v= .string b∧b.data.toList=s:=by cases h;exact⟨_,rfl,rfl⟩
theorem Am.int' {v:Value} {k:IntKind} {n:Int} (h:Am O w v (.int k n)):v= .int k n:=by cases h;rfl
theorem Aml (k k':List UInt8):(Ty.str .nil).same k k'=(k==k'):=Bool.and_true _
theorem Amk (q:IntKind) (k k':Int):(Ty.int q .nil).same k k'=(k==k'):=Bool.and_true _
theorem AgY (q:IntKind) (a b:Int):Instr.sameNow (.int q) (.int q a) (.int q b)=some (a==b):=by simp [Instr.sameNow]
theorem Aku {kt:TypeId} (hu:P.underlying kt=some .string):wU P O w kt (.str .nil) where
  check e v k h:=by
    obtain⟨b,rfl,_⟩:=Am.str' (show Am O w v (.str k)from h)
    exact run_checkKey hu (show IsKey .string (.string b)from trivial) e 9999
  find v k es l h hl hes:=by
    obtain⟨b,rfl,hb⟩:=Am.str' (show Am O w v (.str k)from h)
    have hn:Instr.findNow .string (.string b) es 0=some (fnd (.str .nil) k es l 0):=qK es l 0 hl fun i e p he hp=>by
      obtain⟨b',h1,h2⟩:=Am.str' (show Am O w e.key (.str p.1)from hes i e p he hp)
      rw[h1]
      have e1:Instr.sameNow .string (.string b) (.string b')=some (b==b'):=by simp [Instr.sameNow]
      refine e1.trans (congrArg some (Eq.trans ?_ (Aml k p.1).symm))
      rw[fE,hb,h2]
    simp [Instr.findKey,run_underlying hu,hn]
  stays v u k h h':=by
    obtain⟨b,rfl,hb⟩:=Am.str' (show Am O w v (.str k)from h)
    obtain⟨b',rfl,hb'⟩:=Am.str' (show Am O w u (.str k)from h')
    obtain rfl:b'=b:=RY (by rw[hb,hb'])
    have:(b'==b')=true:=by rw[fE];simp
    simp [Instr.keyThatStays,Instr.sameBits,this]
theorem Akt {kt:TypeId} {q:IntKind} (hu:P.underlying kt=some (.int q)):wU P O w kt (.int q .nil) where
  check e v k h:=by
    obtain rfl:=Am.int' (show Am O w v (.int q k)from h)
    exact run_checkKey hu (show IsKey (.int q) (.int q k)from rfl) e 9999
  find v k es l h hl hes:=by
    obtain rfl:=Am.int' (show Am O w v (.int q k)from h)
    have hn:Instr.findNow (.int q) (.int q k) es 0=some (fnd (.int q .nil) k es l 0):=qK es l 0 hl fun i e p he hp=>by
      rw[Am.int' (show Am O w e.key (.int q p.1)from hes i e p he hp)]
      exact(AgY q k p.1).trans (congrArg some (Amk q k p.1).symm)
    simp [Instr.findKey,run_underlying hu,hn]
  stays v u k h h':=by
    obtain rfl:=Am.int' (show Am O w v (.int q k)from h)
    obtain rfl:=Am.int' (show Am O w u (.int q k)from h')
    have:((k:Int)==(k:Int))=true:=by simp
    have:Instr.sameBits 10000 (.int q k) (.int q k)=true:=by
      have: ∀ n:Int,Instr.sameBits 10000 (.int q n) (.int q n)=true:=fun n=>by simp [Instr.sameBits]
      exact this k
    simp [Instr.keyThatStays,this]
theorem vM {cs:List A} (h:cs.length≠1):Fj cs= .agg cs:=by
  unfold Fj
  split
  ·simp at h
  ·rfl
theorem Akr {e:TypeId} {d:Nat} (hue:P.underlying e=some .string) {xs ys:Array Value} {cs ds:List A} (hx: ∀ j,j<cs.length→Am O w (xs.getD j undef) (cs.getD j .undef)) (hxs:xs.size=cs.length)
    (hy: ∀ j,j<ds.length→Am O w (ys.getD j undef) (ds.getD j .undef)) (hys:ys.size=ds.length) (hl:cs.length=ds.length) (hc: ∀ j,j<cs.length→ ∃ s,cs.getD j .undef= .str s) (hd: ∀ j,j<ds.length→ ∃ s,ds.getD j .undef= .str s) :
    ∀(n i:Nat),i+n=cs.length→(Op.eqItems (d+1) e 1 xs ys (List.range' i n)).run P w= .ok (Aan (cs.drop i) (ds.drop i)) w:=by
  intro n
  induction n with
  | zero =>
    intro i hi
    have:cs.drop i=[]:=List.drop_eq_nil_of_le (by omega)
    rw[this];rfl
  | succ n ih =>
    intro i hi
    have hi':i<cs.length:=by omega
    obtain⟨s,hs⟩:=hc i hi'
    obtain⟨s',hs'⟩:=hd i (by omega)
    have hx1:=hx i hi'
    have hy1:=hy i (by omega)
    rw[hs]at hx1
    rw[hs']at hy1
    obtain⟨b,hb1,hb2⟩:=hx1.str'
    obtain⟨b',hb1',hb2'⟩:=hy1.str'
    have ex:xs[i]? =some (.string b):=by
      have:i<xs.size:=by omega
      rw[Array.getElem?_eq_getElem this, ←hb1,Array.getD_eq_getD_getElem?,Array.getElem?_eq_getElem this];rfl
    have ey:ys[i]? =some (.string b'):=by
      have:i<ys.size:=by omega
      rw[Array.getElem?_eq_getElem this, ←hb1',Array.getD_eq_getD_getElem?,Array.getElem?_eq_getElem this];rfl
    have hpk:P.plainKey e=true:=by simp [Program.plainKey,hue]
    have p1:=run_part_plain w hpk (off:=i*1) (by rw[Nat.mul_one];exact ex)
    have p2:=run_part_plain w hpk (off:=i*1) (by rw[Nat.mul_one];exact ey)
    have p3:=run_equalIn_string (P:=P) w d e b b' hue
    have ec:cs.drop i= .str s::cs.drop (i+1):=by
      rw[List.drop_eq_getElem_cons hi', ←hs,List.getD_eq_getElem?_getD,List.getElem?_eq_getElem hi'];rfl
    have ed:ds.drop i= .str s'::ds.drop (i+1):=by
      rw[List.drop_eq_getElem_cons (by omega), ←hs',List.getD_eq_getElem?_getD,List.getElem?_eq_getElem (by omega)];rfl
    rw[List.range'_succ,ec,ed]
    have ih':=ih (i+1) (by omega)
    simp only[Op.eqItems,Sem.run_bind,p1,p2,p3,Result.andThen_ok]
    rw[Wi,Wi,hb2,hb2']
    cases hbb:(s==s')with
    | false=>simp [Aan,hbb]
    | true=>simp [Aan,hbb,ih']
theorem AaE {e:TypeId} {em:Bool} {d:Nat} (hue:P.underlying e=some .string) (hsz:(sizeOf e).run P w= .ok 1 w) {xs:Array Value} {n:Nat} (hx: ∀ j,j<n→ ∃ b,xs[j]? =some (.string b)) :
    ∀(is:List Nat),(∀ i∈is,i<n)→(forIn is PUnit.unit fun i _=>do Instr.checkKey em (d+1) e (← part e xs (i*(← sizeOf e)));pure (ForInStep.yield PUnit.unit)).run P w= .ok PUnit.unit w:=by
  intro is
  induction is with
  | nil=>intro _;simp
  | cons j is ih =>
    intro h
    obtain⟨b,hb⟩:=hx j (h j (by simp))
    have hpk:P.plainKey e=true:=by simp [Program.plainKey,hue]
    have p1:=run_part_plain w hpk (off:=j*1) (by rw[Nat.mul_one];exact hb)
    have p2:=run_checkKey (P:=P) (w:=w) hue (k:=.string b) trivial em d
    simp only[List.forIn_cons,Sem.run_bind,hsz,Result.andThen_ok,p1,p2,Sem.run_pure]
    exact ih (fun i hi=>h i (by simp [hi]))
theorem Ee.agg' {v:Value} {cs:List A} (h:Ee O w v (.agg cs)): ∃ vs:Array Value,v= .agg vs∧vs.size=cs.length∧ ∀ j,j<cs.length→Am O w (vs.getD j undef) (cs.getD j .undef):=h
theorem AiC {kt e:TypeId} {n:Nat} {ie:TypeInfo} (hu:P.underlying kt=some (.array n e)) (hue:P.underlying e=some .string) (hie:P.info? e=some ie) (his:ie.size=1) (hn:1<n):wU P O w kt (Hy n):=by
  have hlen: ∀ k:(Hy n).Val,((Hy n).cells k).length=n:=fun k=>by
    rw[Ty.Ea]
    have: ∀ n,(Hy n).len=n:=by intro n;induction n with | zero=>rfl | succ n ih=>simp [Hy,Ty.len,ih]
    exact this n
  have hag: ∀ k:(Hy n).Val,Fj ((Hy n).cells k)= .agg ((Hy n).cells k):=fun k=>vM (by rw[hlen];omega)
  have hce:P.cellsOf e=1:=by simp [Program.cellsOf,hie,his]
  have hsz:(sizeOf e).run P w= .ok 1 w:=by simp [sizeOf,typeInfo,hie,his]
  have hstr: ∀ {vs:Array Value} {k:(Hy n).Val},vs.size=n→(∀ j,j<n→Am O w (vs.getD j undef) (((Hy n).cells k).getD j .undef))→ ∀ j,j<n→ ∃ b,vs[j]? =some (.string b):=by
    intro vs k hs h j hj
    obtain⟨s,hs'⟩:=TR n k j hj
    have h1:=h j hj
    rw[hs']at h1
    obtain⟨b,hb,_⟩:=h1.str'
    have hj':j<vs.size:=by omega
    exact⟨b,by rw[Array.getElem?_eq_getElem hj', ←hb,Array.getD_eq_getD_getElem?,Array.getElem?_eq_getElem hj'];rfl⟩
  refine⟨fun em v k h=> ?_,fun v k es l h hl hes=> ?_,fun v u k h h'=> ?_⟩
  ·rw[hag]at h
   obtain⟨vs,rfl,h1,h2⟩:=h.agg'
   rw[hlen]at h1 h2
   rw[show(10000:Nat)=9998+1+1 from rfl,Instr.checkKey]
   simp only[Sem.run_bind,run_underlying hu,Result.andThen_ok]
   simp only[Std.Legacy.Range.forIn_eq_forIn_range',Std.Legacy.Range.size,Nat.sub_zero,Nat.add_one_sub_one,Nat.div_one]
   rw[AaE (em:=em) (d:=9998) hue hsz (hstr h1 h2) (List.range' 0 n) (fun i hi=>by simpa using hi)]
   rfl
  ·rw[hag]at h
   obtain⟨vs,rfl,h1,h2⟩:=h.agg'
   rw[hlen]at h1 h2
   have eqs: ∀(i:Nat) (e':MapEntry) p,es[i]? =some e'→l[i]? =some p→(Op.equal kt (.agg vs) e'.key).run P w= .ok ((Hy n).same k p.1) w:=by
     intro i e' p he hp
     have h3:=hes i e' p he hp
     rw[hag]at h3
     obtain⟨us,h4,h5,h6⟩:=h3.agg'
     rw[hlen]at h5 h6
     rw[h4]
     show(Op.equalIn 10000 kt _ _).run P w=_
     rw[show(10000:Nat)=9999+1 from rfl,run_equalIn_array w 9999 vs us hu hie,hce,List.range_eq_range',AkN]
     have:=Akr (P:=P) (O:=O) (w:=w) (d:=9998) hue (xs:=vs) (ys:=us) (cs:=(Hy n).cells k) (ds:=(Hy n).cells p.1) (by rw[hlen];exact h2) (by rw[hlen];exact h1) (by rw[hlen];exact h6) (by rw[hlen];exact h5) (by rw[hlen,hlen]) (by rw[hlen];exact TR n k) (by rw[hlen];exact TR n p.1) n 0 (by rw[hlen];omega)
     simpa using this
   have hnow: ∀(es:List MapEntry) (i:Nat),Instr.findNow (.array n e) (.agg vs) es i=if es=[]then some none else none:=by
     intro es i
     cases es with
     | nil=>rfl
     | cons e' es=>simp [Instr.findNow,Instr.sameNow]
   simp only[Instr.findKey,Sem.run_bind,run_underlying hu,Result.andThen_ok,hnow]
   cases es with
   | nil=>cases l<;>first | simp [fnd] | cases hl
   | cons e' es =>
     rw[if_neg (by simp)]
     exact AhN _ l 0 hl eqs
  ·rw[hag]at h h'
   obtain⟨vs,rfl,h1,h2⟩:=h.agg'
   obtain⟨us,rfl,h3,h4⟩:=h'.agg'
   have e:us=vs:=by
     rw[hlen]at h1 h2 h3 h4
     apply Array.ext (by omega)
     intro j hj1 hj2
     obtain⟨s,hs⟩:=TR n k j (by omega)
     have a1:=h2 j (by omega)
     have a2:=h4 j (by omega)
     rw[hs]at a1 a2
     obtain⟨b1,e1,f1⟩:=a1.str'
     obtain⟨b2,e2,f2⟩:=a2.str'
     rw[Array.getD_eq_getD_getElem?,Array.getElem?_eq_getElem hj2]at e1
     rw[Array.getD_eq_getD_getElem?,Array.getElem?_eq_getElem hj1]at e2
     have e1:vs[j]=_:=e1
     have e2:us[j]=_:=e2
     rw[e1,e2,RY (f1.trans f2.symm)]
   subst e
   have hsb:Instr.sameBits 10000 (.agg us) (.agg us)=true:=by
     show((us.size==us.size)&&(us.toList.zip us.toList).all _)=true
     rw[Bool.and_eq_true]
     refine⟨by simp,List.all_eq_true.2 fun p hp=> ?_⟩
     obtain⟨i,hi⟩:=List.mem_iff_getElem?.1 hp
     rw[List.getElem?_zip_eq_some]at hi
     rw[hlen]at h1 h2
     have hi1:i<us.size:=by
       have:=(List.getElem?_eq_some_iff.1 hi.1).1
       simpa using this
     obtain⟨b,hb⟩:=hstr h1 h2 i (by omega)
     have q1:p.1= .string b:=by
       have:=hi.1
       rw[Array.getElem?_toList,hb]at this
       injection this with this;exact this.symm
     have q2:p.2= .string b:=by
       have:=hi.2
       rw[Array.getElem?_toList,hb]at this
       injection this with this;exact this.symm
     obtain⟨p1,p2⟩:=p
     dsimp only at q1 q2
     subst q1;subst q2
     show(b==b)=true
     rw[fE];simp
   simp [Instr.keyThatStays,hsb]
theorem AlP (hC:TOk P C) {t:Nat} {ta:TI} (ht:C.T t=some ta) (h:AiD C ta=true):wU P O w t (tyl ta.cs):=by
  have hT:=hC.is ht
  have hu:=hT.d
  have hck:=hT.ck
  unfold AiD at h
  split at h
  ·rename_i hd
   rw[hd]at hu
   have:ta.cs=[.str]:=by simp [Eg,hu]at hck;exact hck.symm
   rw[this];exact Aku hu
  ·rename_i q hd
   rw[hd]at hu
   have:ta.cs=[.int q]:=by simp [Eg,hu]at hck;exact hck.symm
   rw[this];exact Akt hu
  ·rename_i n e hd
   rw[hd]at hu
   split at h
   ·rename_i te hte
    simp only[Bool.and_eq_true,Nat.blt_eq]at h
    have hTe:=hC.is hte
    have hde:=iW h.1
    have hue:=hTe.d
    rw[hde]at hue
    have hcse:te.cs=[.str]:=by have:=hTe.ck;simp [Eg,hue]at this;exact this.symm
    have hcs:ta.cs=(List.replicate n [CK.str]).flatten:=by
      rw[show(20:Nat)=18+1+1 from rfl]at hck
      unfold Eg at hck
      simp only[hu]at hck
      have he:Eg P (18+1) e=some [.str]:=by simp [Eg,hue]
      rw[he]at hck
      dsimp only at hck
      cases hb:Nat.ble (n* [CK.str].length) 4096 with
      | false=>rw[hb]at hck;cases hck
      | true=>rw[hb]at hck;injection hck with hck;exact hck.symm
    rw[hcs,Amx]
    obtain⟨i,z,h1,h2,_⟩:=hTe.i
    exact AiC hu hue h1 (by rw[h2,hcse];rfl) h.2
   ·cases h
  ·cases h
end
