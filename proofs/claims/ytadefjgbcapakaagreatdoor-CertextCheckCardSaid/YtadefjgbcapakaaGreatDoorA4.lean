/-
  CertextCheck: the law returns true whatever the input; machine, functions, plain law (part 4 of 47.)
-/
import Derived.Test.YtadefjgbcapakaaGreatDoorA3
import Derived.Laws.Cover3
import Derived.Laws.Pointers
import Derived.Laws.StructEq
set_option linter.unusedVariables false
set_option linter.unusedSimpArgs false
namespace Go.Proofs.YtadefjgbcapakaaGreatDoor.Vm
theorem AeG {P:Program} {w:World} {op:BinOp} {t:TypeId} {x y:Operand} {v u:Value} (h: ∀ cs,v≠ .agg cs) (h':v≠ .nilIface):(eqGuard op t x y v u).run P w= .ok () w:=by
  unfold eqGuard
  cases op<;>first | rfl | (cases v<;>first | rfl | exact absurd rfl h' | exact absurd rfl (h _))
section
variable {P:Program} {C:Ctx} {O:Own} {Aa:List (Nat×Obj)} {m:Nat→Value} {a:Act} {w:World} {o:Oper} {fet:Fet}
def FOk (O:Own) (Aa:List (Nat×Obj)) (m:Nat→Value) (w:World) (fet:Fet):Prop:= ∀ o x,Ai fet o=some x→Ai Aa o=some x∧Dc O Aa m w o x
theorem Be {α :Type} {x:Option α} {k: α →Dl} (hok:AA (BH x k).ok): ∃ y,x=some y∧BH x k=k y:=by
  cases x with
  | none=>exact(AU hok).elim
  | some y=>exact⟨y,rfl,rfl⟩
theorem BB {t:Nat} {k:TI→Dl} (hok:AA (DJ C t k).ok): ∃ ti,C.T t=some ti∧DJ C t k=k ti:=Be hok
theorem Gv {n:Nat} {cs:List A} (h:MK fet n=some cs):Ai fet n=some (.box cs):=by
  unfold MK at h;split at h<;>simp_all
theorem Gu {n:Nat} {r:Arr} (h:Wl fet n=some r):Ai fet n=some (.arr r.e r.frz r.l):=by
  unfold Wl at h
  split at h
  ·rename_i h';injection h with h;subst h;exact h'
  ·cases h
theorem LD {d:TypeDesc} {e:Nat} (h:elem? d=some e):d= .slice e:=by
  unfold elem? at h;split at h<;>simp_all
theorem AB.own {v:Value} {n:Nat} {e:Nat} {frz:Bool} {l:Sl} (hf:FOk O Aa m w fet) (h:AB O Aa m w v (.own n)) (hx:Ai fet n=some (.arr e frz l)) :
    v=m n∧Dc O Aa m w n (.arr e frz l):=by
  obtain⟨h1,h2⟩:=hf _ _ hx
  refine⟨?_,h2⟩
  have h':AV O Aa m w v (.own n):=h
  simp only[AV,h1,Option.map_some,Obj.shp]at h'
  exact h'.2
theorem AB.ptr {v:Value} {n off:Nat} {cs:List A} (hf:FOk O Aa m w fet) (h:AB O Aa m w v (.ptr n off)) (hx:Ai fet n=some (.box cs)) :
    ∃ b base,m n= .pointer (some (at' b base))∧v= .pointer (some (at' b (base+off)))∧ ∀ j,j<cs.length→O b (base+j)=some n∧w.frozen? (at' b (base+j))=false ∧
      ∃ u,w.cell? (at' b (base+j))=some u∧AV O Aa m w u (cs.getD j .undef):=by
  obtain⟨h1,b,base,h2,h3⟩:=hf _ _ hx
  have h':AV O Aa m w v (.ptr n off):=h
  simp only[AV,h1,Option.map_some,Obj.shp]at h'
  obtain⟨_,b',base',h4,h5⟩:=h'
  rw[h2]at h4
  injection h4 with h4;injection h4 with h4;injection h4 with h4 h6
  subst h4;subst h6
  exact⟨b,base,h2,h5,h3⟩
theorem AB.Dw {v:Value} (h:AB O Aa m w v .Dw):v= .pointer none:=by cases h;rfl
theorem Afw {t e:Nat} {v:Value} {b:Bool} (hu:P.underlying t=some (.slice e)) (h:(v= .slice none 0 0∧b=true)∨(∃ ad l c,v= .slice (some ad) l c)∧b=false) :
    (Op.equal t v (.slice none 0 0)).run P w= .ok b w:=by
  rcases h with ⟨rfl,rfl⟩ | ⟨⟨ad,l,c,rfl⟩,rfl⟩<;>rw[run_equal_slice_nil w t e _ _ _ hu]<;>rfl
theorem Ak5 {t e:Nat} {v:Value} {b:Bool} (hu:P.underlying t=some (.pointer e)) (h:(v= .pointer none∧b=true)∨(∃ ad,v= .pointer (some ad))∧b=false) :
    (Op.equal t v (.pointer none)).run P w= .ok b w:=by
  have hu':P.underlying t=some (.pointer (P.pointee t)):=by rw[hu];simp [Program.pointee,hu]
  rcases h with ⟨rfl,rfl⟩ | ⟨⟨ad,rfl⟩,rfl⟩<;>rw[run_equal_pointer_nil w t _ hu']<;>rfl
theorem Acp {s:Bool} {t:Nat} {d:TypeDesc} {x:A} {v:Value} {b:Bool} (hd:P.underlying t=some d) (hf:FOk O Aa m w fet) (hx:AB O Aa m w v x) (h:AiS fet s d x=some b) :
    (s=true∧(Op.equal t v (.slice none 0 0)).run P w= .ok b w∧ ∃ a l c,v= .slice a l c)∨(s=false∧(Op.equal t v (.pointer none)).run P w= .ok b w∧ ∃ a,v= .pointer a):=by
  unfold AiS at h
  split at h
  ·injection h with h;subst h
   have hx':v= .slice none 0 0:=hx
   exact .inl ⟨rfl,Afw hd (.inl ⟨hx',rfl⟩),_,_,_,hx'⟩
  ·injection h with h;subst h
   rename_i l
   have hx':Am O w v (.sln l):=hx
   cases hx' with
   | sln h hn =>
     cases hq:l.xs.isEmpty with
     | true =>
       have hx':=hn (List.isEmpty_iff.1 hq)
       exact .inl ⟨rfl,Afw hd (.inl ⟨hx',rfl⟩),_,_,_,hx'⟩
     | false =>
       cases h with
       | nil=>cases hq
       | sl0=>cases hq
       | sl vs _ _ _=>exact .inl ⟨rfl,Afw hd (.inr ⟨⟨_,_,_,rfl⟩,rfl⟩),_,_,_,rfl⟩
  ·injection h with h;subst h
   cases hx
   exact .inr ⟨rfl,Ak5 hd (.inl ⟨rfl,rfl⟩),_,rfl⟩
  ·rename_i n off
   cases hr:MK fet n with
   | none=>rw[hr]at h;cases h
   | some cs =>
     rw[hr]at h;injection h with h;subst h
     obtain⟨b,base,_,h2,_⟩:=hx.ptr hf (Gv hr)
     exact .inr ⟨rfl,Ak5 hd (.inr ⟨⟨_,h2⟩,rfl⟩),_,h2⟩
  ·cases h
theorem Ahl {t:Nat} {x y:Bool} (hd:P.underlying t=some .bool):(Op.equal t (.bool x) (.bool y)).run P w= .ok (x==y) w:=by
  have: ∀ d,(Op.equalIn (d+1) t (.bool x) (.bool y)).run P w= .ok (x==y) w:=by intro d;simp [Op.equalIn,run_underlying hd]
  exact this 9999
theorem zU {t:Nat} {vs:Array Value} {off:Nat} {d:TypeDesc} (hd:P.underlying t=some d) (hp:Ro d=false) (h:off<vs.size):(part t vs off).run P w= .ok (vs.getD off undef) w:=by
  have hg:vs[off]? =some (vs.getD off undef):=by rw[Array.getD_eq_getD_getElem?,Array.getElem?_eq_getElem h];rfl
  have ha:(isAgg t).run P w= .ok false w:=by
    simp only[isAgg,Sem.run_bind,run_underlying hd,Result.andThen_ok]
    cases d<;>first | rfl | cases hp
  unfold part
  generalize vs.getD off undef=z at *
  simp [ha,hg]
theorem AV.Am5 {v:Value} {b:Bool} (h:AV O Aa m w v (.bool b)):v= .bool b:=by cases h;rfl
theorem AV.AnG {v:Value} {k:IntKind} {n:Int} (h:AV O Aa m w v (.int k n)):v= .int k n:=by cases h;rfl
theorem AV.Aod {v:Value} {s:List UInt8} (h:AV O Aa m w v (.str s)): ∃ b:ByteArray,v= .string b∧b.data.toList=s:=by cases h;exact⟨_,rfl,rfl⟩
theorem Aia {d ty:Nat} {k:CK} {td:TypeDesc} {a b:A} {v u:Value} (hk:(k= .bool∧td= .bool)∨(∃ i,k= .int i∧td= .int i)∨(k= .str∧td= .string)) (hd:P.underlying ty=some td) (h1:AV O Aa m w v a) (h2:AV O Aa m w u b) (hok:(Ue k a b).1=true) :
    (Op.equalIn (d+1) ty v u).run P w= .ok (Ue k a b).2 w:=by
  rcases hk with ⟨rfl,rfl⟩ | ⟨i,rfl,rfl⟩ | ⟨rfl,rfl⟩
  ·cases a<;>first | (cases hok;done) | skip
   cases b<;>first | (cases hok;done) | skip
   rw[h1.Am5,h2.Am5]
   exact run_equalIn_bool' w d ty _ _ hd
  ·cases a<;>first | (cases hok;done) | skip
   cases b<;>first | (cases hok;done) | skip
   rename_i j x j' y
   simp only[Ue,Bool.and_eq_true]at hok
   rw[h1.AnG,h2.AnG,JL hok.1,JL hok.2]
   exact run_equalIn_int w d ty i i _ _ hd
  ·cases a<;>first | (cases hok;done) | skip
   cases b<;>first | (cases hok;done) | skip
   obtain⟨s1,e1,l1⟩:=h1.Aod
   obtain⟨s2,e2,l2⟩:=h2.Aod
   rw[e1,e2,run_equalIn_string w d ty _ _ hd]
   simp only[Ue,Wi,l1,l2]
theorem AeF {d:Nat} {vs us:Array Value} {x y:List A} (hx:vs.size=x.length) (hy:us.size=y.length) (hxr: ∀ j,j<x.length→AV O Aa m w (vs.getD j undef) (x.getD j .undef)) (hyr: ∀ j,j<y.length→AV O Aa m w (us.getD j undef) (y.getD j .undef)) :
    ∀(fs:List Field) (n:Nat) (ks:List CK),OU P fs n=some ks→(G7 ks (x.drop n) (y.drop n)).1=true→(Op.eqFields (d+1) vs us fs).run P w= .ok (G7 ks (x.drop n) (y.drop n)).2 w:=by
  intro fs
  induction fs with
  | nil =>
    intro n ks h hok
    injection h with h
    subst h
    have:G7 [] (x.drop n) (y.drop n)=(true,true):=by
      cases hx:x.drop n with
      | nil=>cases hy:y.drop n with
        | nil=>rfl
        | cons _ _=>rw[hx,hy]at hok;cases hok
      | cons _ _=>rw[hx]at hok;cases hok
    rw[this];rfl
  | cons f fs ih =>
    intro n ks h hok
    have key: ∀(k:CK) (td:TypeDesc) (ks':List CK),((k= .bool∧td= .bool)∨(∃ i,k= .int i∧td= .int i)∨(k= .str∧td= .string))→P.underlying f.type=some td→OU P fs (n+1)=some ks'→(f.name != "_" &&Nat.beq f.offset n)=true→ks=k::ks' →
        (Op.eqFields (d+1) vs us (f::fs)).run P w= .ok (G7 ks (x.drop n) (y.drop n)).2 w:=by
      intro k td ks' hk hd hf hn hks
      subst hks
      rw[Bool.and_eq_true]at hn
      have hnm:f.name≠ "_" :=by simpa using hn.1
      have hoff:=Nat.eq_of_beq_eq_true hn.2
      cases hxd:x.drop n with
      | nil=>rw[hxd]at hok;cases hok
      | cons a xr =>
        cases hyd:y.drop n with
        | nil=>rw[hxd,hyd]at hok;cases hok
        | cons b yr =>
          rw[hxd,hyd]at hok
          simp only[G7,Bool.and_eq_true]at hok ⊢
          have hnx:n<x.length:=by
            rcases Nat.lt_or_ge n x.length with h | h
            ·exact h
            ·rw[List.drop_eq_nil_of_le h]at hxd;cases hxd
          have hny:n<y.length:=by
            rcases Nat.lt_or_ge n y.length with h | h
            ·exact h
            ·rw[List.drop_eq_nil_of_le h]at hyd;cases hyd
          have e1:x.getD n .undef=a:=by
            have:=congrArg List.head? hxd
            rw[List.head?_drop]at this
            rw[List.getD_eq_getElem?_getD,this];rfl
          have e2:y.getD n .undef=b:=by
            have:=congrArg List.head? hyd
            rw[List.head?_drop]at this
            rw[List.getD_eq_getElem?_getD,this];rfl
          have e3:x.drop (n+1)=xr:=by rw[← List.drop_drop,hxd];rfl
          have e4:y.drop (n+1)=yr:=by rw[← List.drop_drop,hyd];rfl
          have r1:=hxr n hnx
          have r2:=hyr n hny
          rw[e1]at r1;rw[e2]at r2
          have hagg:Ro td=false:=by rcases hk with ⟨_,rfl⟩ | ⟨i,_,rfl⟩ | ⟨_,rfl⟩<;>rfl
          have p1:=zU (P:=P) (w:=w) (vs:=vs) (off:=n) hd hagg (by omega)
          have p2:=zU (P:=P) (w:=w) (vs:=us) (off:=n) hd hagg (by omega)
          have q:=Aia (d:=d) hk hd r1 r2 hok.1
          have hrest:=ih (n+1) ks' hf (by rw[e3,e4];exact hok.2)
          rw[e3,e4]at hrest
          simp only[Op.eqFields,hnm,ne_eq,not_false_eq_true,if_true,Sem.run_bind,hoff,p1,p2,Result.andThen_ok,q]
          cases (Ue k a b).2 with
          | false=>simp
          | true=>simpa using hrest
    unfold OU at h
    split at h
    ·rename_i ks' hd hf
     cases hb:(f.name != "_" &&Nat.beq f.offset n)with
     | false=>rw[hb]at h;cases h
     | true=>rw[hb]at h;injection h with h;exact key _ _ _ (.inl ⟨rfl,rfl⟩) hd hf hb h.symm
    ·rename_i k ks' hd hf
     cases hb:(f.name != "_" &&Nat.beq f.offset n)with
     | false=>rw[hb]at h;cases h
     | true=>rw[hb]at h;injection h with h;exact key _ _ _ (.inr (.inl ⟨k,rfl,rfl⟩)) hd hf hb h.symm
    ·rename_i ks' hd hf
     cases hb:(f.name != "_" &&Nat.beq f.offset n)with
     | false=>rw[hb]at h;cases h
     | true=>rw[hb]at h;injection h with h;exact key _ _ _ (.inr (.inr ⟨rfl,rfl⟩)) hd hf hb h.symm
    ·cases h
theorem Aho {t:Nat} {ti:TI} (hT:MI P t ti) {vs us:Array Value} {x y:List A} (hx:vs.size=x.length) (hy:us.size=y.length) (hxr: ∀ j,j<x.length→AV O Aa m w (vs.getD j undef) (x.getD j .undef)) (hyr: ∀ j,j<y.length→AV O Aa m w (us.getD j undef) (y.getD j .undef))
    (h1:ti.cmp.isEmpty=false) (h2:(G7 ti.cmp x y).1=true):P.eqGuardType P.depth t=false∧(Op.equalIn 10000 t (.agg vs) (.agg us)).run P w= .ok (G7 ti.cmp x y).2 w:=by
  have hc:=hT.cmp
  have hd:=hT.d
  unfold Aid at hc
  split at hc
  ·rename_i fs hfs
   split at hc
   ·rename_i ks hks
    cases hb:(!(P.stoodInHeld t)&& !(P.eqGuardType P.depth t))with
    | false=>rw[hb]at hc;rw[hc]at h1;cases h1
    | true =>
      rw[hb]at hc
      simp only[cond_true]at hc
      rw[hc]at h2 ⊢
      rw[Bool.and_eq_true,Bool.not_eq_true',Bool.not_eq_true']at hb
      rw[hfs]at hd
      have hf:P.fieldsOf t=fs:=by simp only[Program.fieldsOf,hd]
      refine⟨hb.2,?_⟩
      rw[run_equalIn_agg w 9999 t vs us (by rw[hf];exact hd) hb.1,hf]
      exact AeF (d:=9998) hx hy hxr hyr fs.toList 0 ks hks h2
   ·rw[hc]at h1;cases h1
  ·rw[hc]at h1;cases h1
theorem Alv {op:BinOp} {t ty:Nat} {x y:Operand} (hC:TOk P C) (hf:FOk O Aa m w fet) (ho:o.op= .binOp op t x y ty) {x' y':A} (hx:AB O Aa m w (a.eval x) x') (hy:AB O Aa m w (a.eval y) y')
    (hok:AA (AhR C fet op t x' y').ok):Pure P O Aa m a w o (AhR C fet op t x' y'):=by
  have fin: ∀ {v u:Value} {δ :Dl},a.eval x=v→a.eval y=u→(∀ cs,v≠ .agg cs)→v≠ .nilIface→(∃ r,(binOp op t v u).run P w= .ok r w∧AB O Aa m w r δ.val∧ δ.new=[]∧ δ.upd=[]∧ δ.del=[])→Pure P O Aa m a w o δ :=by
    intro v u δ hv hu h1 h2 ⟨r,h3,h4,h5,h6,h7⟩
    refine⟨⟨r,?_,h4⟩,h5,h6,h7⟩
    simp only[execOp,ho,hv,hu,Sem.run_bind,AeG h1 h2,Result.andThen_ok,h3,Sem.run_pure]
  unfold AhR at hok ⊢
  split at hok
  ·rename_i k p k' q
   have h1:=hx.int
   have h2:=hy.int
   split at hok
   ·have h0:0≤q:=by simpa [Dl.g]using hok.cons.1
    refine fin h1 h2 (by simp) (by simp) ⟨_,?_,.mkInt _ _,rfl,rfl,rfl⟩
    have: ¬ q<0:=by omega
    simp [binOp,Op.shift,this]
   ·have h0:0≤q:=by simpa [Dl.g]using hok.cons.1
    refine fin h1 h2 (by simp) (by simp) ⟨_,?_,.mkInt _ _,rfl,rfl,rfl⟩
    have: ¬ q<0:=by omega
    simp [binOp,Op.shift,this]
   ·rename_i h3 h4
    cases hk:A.kEq k k' with
    | false=>rw[hk]at hok;exact(AU hok).elim
    | true =>
      rw[hk]at hok
      have:=JL hk
      subst this
      exact fin h1 h2 (by simp) (by simp) (Als hok t h3 h4)
  ·obtain⟨s1,h1,h2⟩:=hx.str
   obtain⟨s2,h3,h4⟩:=hy.str
   exact fin h1 h3 (by simp) (by simp) (Alu h2 h4 hok t)
  ·have h1:=hx.bool
   have h2:=hy.bool
   split at hok
   ·unfold AdU at *
    obtain⟨ti,ht,he⟩:=BB hok
    rw[he]at hok ⊢
    have hd:ti.d= .bool:=by
      have:=hok.cons.1
      unfold Abg at this;split at this<;>simp_all
    refine fin h1 h2 (by simp) (by simp) ⟨_,?_,.GM _,rfl,rfl,rfl⟩
    have hu:=(hC.is ht).d
    rw[hd]at hu
    simp only[binOp,Sem.run_bind,Ahl hu,Result.andThen_ok,Sem.run_pure]
   ·unfold AdU at *
    obtain⟨ti,ht,he⟩:=BB hok
    rw[he]at hok ⊢
    have hd:ti.d= .bool:=by
      have:=hok.cons.1
      unfold Abg at this;split at this<;>simp_all
    refine fin h1 h2 (by simp) (by simp) ⟨_,?_,.GM _,rfl,rfl,rfl⟩
    have hu:=(hC.is ht).d
    rw[hd]at hu
    simp only[binOp,Sem.run_bind,Ahl hu,Result.andThen_ok,Sem.run_pure]
   ·exact(AU hok).elim
  ·rename_i x y
   obtain⟨vs,e1,l1,r1⟩:=(show T1 O Aa m w _ (.agg x)from hx)
   obtain⟨us,e2,l2,r2⟩:=(show T1 O Aa m w _ (.agg y)from hy)
   obtain⟨ti,ht,he⟩:=BB hok
   rw[he]at hok ⊢
   split at hok
   ·obtain⟨c1,c2⟩:=hok.cons
    obtain⟨g1,g2⟩:=Aho (hC.is ht) l1 l2 r1 r2 (by simpa using c1) c2.cons.1
    refine⟨⟨_,?_,.GM _⟩,rfl,rfl,rfl⟩
    simp only[execOp,ho,e1,e2,Sem.run_bind,run_eqGuard_agg w _ _ _ _ _ _ g1,Result.andThen_ok,run_eql_struct w,g2,Sem.run_pure]
   ·obtain⟨c1,c2⟩:=hok.cons
    obtain⟨g1,g2⟩:=Aho (hC.is ht) l1 l2 r1 r2 (by simpa using c1) c2.cons.1
    refine⟨⟨_,?_,.GM _⟩,rfl,rfl,rfl⟩
    simp only[execOp,ho,e1,e2,Sem.run_bind,run_eqGuard_agg w _ _ _ _ _ _ g1,Result.andThen_ok,run_neq_struct w,g2,Sem.run_pure]
   ·exact(AU hok).elim
  ·have h2:a.eval y= .slice none 0 0:=hy
   split at hok
   all_goals first
     | exact(AU hok).elim
     | (unfold Abp at *
        obtain⟨ti,ht,he⟩:=BB hok
        rw[he]at hok ⊢
        obtain⟨b,hb,he'⟩:=Be hok
        rw[he']
        have hu:=(hC.is ht).d
        rcases Acp hu hf hx hb with ⟨_,h3,al,l,c,h4⟩ | ⟨hs,_⟩
        ·rw[h4]at h3
         refine fin h4 h2 (by simp) (by simp) ⟨_,?_,.GM _,rfl,rfl,rfl⟩
         simp only[binOp,Sem.run_bind,h3,Result.andThen_ok,Sem.run_pure]
        ·cases hs)
  ·have h2:=hy.Dw
   split at hok
   all_goals first
     | exact(AU hok).elim
     | (unfold Abp at *
        obtain⟨ti,ht,he⟩:=BB hok
        rw[he]at hok ⊢
        obtain⟨b,hb,he'⟩:=Be hok
        rw[he']
        have hu:=(hC.is ht).d
        rcases Acp hu hf hx hb with ⟨hs,_⟩ | ⟨_,h3,al,h4⟩
        ·cases hs
        ·rw[h4]at h3
         refine fin h4 h2 (by simp) (by simp) ⟨_,?_,.GM _,rfl,rfl,rfl⟩
         simp only[binOp,Sem.run_bind,h3,Result.andThen_ok,Sem.run_pure])
  ·exact(AU hok).elim
end
end Go.Proofs.YtadefjgbcapakaaGreatDoor.Vm
namespace Go.Proofs.YtadefjgbcapakaaGreatDoor.Vm
theorem JD (b k n:Nat):(at' b k).add n=at' b (k+n):=by
  unfold Addr.add;split
  ·rename_i h;subst h;rfl
  ·rfl
section
variable {P:Program} {C:Ctx} {O:Own} {Aa:List (Nat×Obj)} {m:Nat→Value} {a:Act} {w:World} {o:Oper} {fet:Fet}
theorem Anu {op:UnOp} {t:Nat} {x:Operand} (ho:o.op= .unOp op t x) {x':A} (hx:AB O Aa m w (a.eval x) x') (hok:AA (unX op x').ok):Pure P O Aa m a w o (unX op x'):=by
  unfold unX at hok ⊢
  split at hok
  ·have h1:=hx.bool
   exact⟨⟨_,by simp only[execOp,ho,h1,Op.unary];rfl,.GM _⟩,rfl,rfl,rfl⟩
  ·have h1:=hx.int
   exact⟨⟨_,by simp only[execOp,ho,h1,Op.unary];rfl,.mkInt _ _⟩,rfl,rfl,rfl⟩
  ·have h1:=hx.int
   exact⟨⟨_,by simp only[execOp,ho,h1,Op.unary];rfl,.mkInt _ _⟩,rfl,rfl,rfl⟩
  ·exact(AU hok).elim
theorem Rn {x:A} {n:Int} (h:int? x=some n): ∃ k,x= .int k n:=by
  unfold int? at h;split at h<;>simp_all
theorem Ac5 {x:A} {s:List UInt8} (h:Ajq x=some s):x= .str s:=by
  unfold Ajq at h;split at h<;>simp_all
theorem iW {d:TypeDesc} (h:iV d=true):d= .string:=by
  unfold iV at h;split at h<;>simp_all
theorem Ai6 {t:Nat} {x i:Operand} (hC:TOk P C) (ho:o.op= .index t x i) {x' i':A} (hx:AB O Aa m w (a.eval x) x') (hi:AB O Aa m w (a.eval i) i')
    (hok:AA (yQ C t x' i').ok):Pure P O Aa m a w o (yQ C t x' i'):=by
  unfold yQ at hok ⊢
  obtain⟨n,hn,he⟩:=Be hok
  rw[he]at hok ⊢
  obtain⟨s,hs,he⟩:=Be hok
  rw[he]at hok ⊢
  obtain⟨ti,ht,he⟩:=BB hok
  rw[he]at hok ⊢
  obtain⟨k,rfl⟩:=Rn hn
  have:=Ac5 hs
  subst this
  obtain⟨h1,h2⟩:=hok.cons
  obtain⟨h2,h3⟩:=h2.cons
  have h3:=h3.cons.1
  have hd:=iW h1
  have hu:=(hC.is ht).run w
  rw[hd]at hu
  have hi:=hi.int
  obtain⟨b,hb,hl⟩:=hx.str
  have h2:0≤n:=by simpa using h2
  have h3:n<(s.length:Int):=by simpa using h3
  obtain⟨j,rfl⟩:=Int.eq_ofNat_of_zero_le h2
  have hj:j<b.size:=by rw[Mc,hl];omega
  refine⟨⟨.int .u8 (b[j].toNat:Int),?_,?_⟩,rfl,rfl,rfl⟩
  ·simp [execOp,ho,Instr.index,hi,hb,asIntOf,hu,hj]
  ·have:s.getD (Int.ofNat j).toNat 0=b[j]:=by
     subst hl
     show b.data.toList.getD j 0=b[j]
     rw[List.getD_eq_getElem?_getD,List.getElem?_eq_getElem (by rw[← Mc];exact hj)]
     obtain⟨⟨l⟩⟩:=b;rfl
   simp only[Dl.g]
   rw[show((j:Int)).toNat=(Int.ofNat j).toNat from rfl,this]
   exact .mkInt _ _
def ORl (O:Own) (Aa:List (Nat×Obj)) (m:Nat→Value) (w:World):Option Value→Option A→Prop
  | none,none=>True
  | some v,some x=>AB O Aa m w v x
  | _,_=>False
theorem Ou {isS:Bool} {len cap:Nat} {lo hi:Option Value} {lo' hi':Option A} (hl:ORl O Aa m w lo lo') (hh:ORl O Aa m w hi hi') (hc:len≤cap) {r:List Bool×Nat×Nat} (h:tJ len lo' hi'=some r) (hok:AA r.1) :
    (Instr.sliceBounds isS len cap lo hi none).run P w= .ok (r.2.1,r.2.2,cap) w∧r.2.1≤r.2.2∧r.2.2≤len:=by
  unfold tJ at h
  split at h
  ·injection h with h;subst h
   cases lo<;>cases hi<;>simp [ORl]at hl hh
   simp [Instr.sliceBounds]
  ·injection h with h;subst h
   cases lo<;>cases hi<;>simp only[ORl]at hl hh
   obtain⟨h1,h2⟩:=hok.cons
   have h2:=h2.cons.1
   simp at h1 h2
   have hl:=hl.int
   rename_i q _ _ _
   obtain⟨j,rfl⟩:=Int.eq_ofNat_of_zero_le h1
   have:j≤len:=by simpa using h2
   simp [Instr.sliceBounds,Instr.sliceBound,hl,asIntOf,this]
  ·injection h with h;subst h
   cases lo<;>cases hi<;>simp only[ORl]at hl hh
   obtain⟨h1,h2⟩:=hok.cons
   have h2:=h2.cons.1
   simp at h1 h2
   have hh:=hh.int
   rename_i q _ _ _
   obtain⟨j,rfl⟩:=Int.eq_ofNat_of_zero_le h1
   have:j≤len:=by simpa using h2
   have h3:j≤cap:=by omega
   simp [Instr.sliceBounds,Instr.sliceBound,hh,asIntOf,h3,this]
  ·injection h with h;subst h
   cases lo<;>cases hi<;>simp only[ORl]at hl hh
   obtain⟨h1,h2⟩:=hok.cons
   obtain⟨h2,h3⟩:=h2.cons
   have h3:=h3.cons.1
   simp at h1 h2 h3
   have hl:=hl.int
   have hh:=hh.int
   rename_i p _ q _ _ _
   obtain⟨j,rfl⟩:=Int.eq_ofNat_of_zero_le h1
   obtain⟨i,rfl⟩:=Int.eq_ofNat_of_zero_le (Int.le_trans h1 h2)
   have h4:i≤len:=by simpa using h3
   have h5:j≤i:=by simpa using h2
   have h6:i≤cap:=by omega
   simp [Instr.sliceBounds,Instr.sliceBound,hl,hh,asIntOf,h4,h5,h6]
  ·cases h
theorem qH (s:ByteArray) (i j:Nat):(s.extract i j).data.toList=AO s.data.toList i j:=by
  simp [AO,ByteArray.data_extract,List.drop_take]
end
end Go.Proofs.YtadefjgbcapakaaGreatDoor.Vm
namespace Go.Proofs.YtadefjgbcapakaaGreatDoor.Vm
section
variable {P:Program} {C:Ctx} {O:Own} {Aa:List (Nat×Obj)} {m:Nat→Value} {a:Act} {w:World} {o:Oper} {fet:Fet}
theorem Am.cut {v:Value} {q:Sl} (h:Am O w v (.sl q)) (l r:Nat) (hlr:l≤r) (hr:r≤q.es.length) :
    ∃ ad n c,v= .slice ad n c∧n=q.es.length∧n≤c∧(∀ cap',cap'=c→Am O w (.slice (if cap'=l then ad else ad.map (·.add (l*q.sz))) (r - l) (cap' - l)) (.sl ⟨q.t,AO q.xs l r⟩)):=by
  cases h with
  | nil =>
    have:r=0:=by simpa [Sl.es]using hr
    subst this
    have:l=0:=by omega
    subst this
    refine⟨none,0,0,rfl,rfl,Nat.le_refl _,fun cap' hc=> ?_⟩
    subst hc
    simp [AO];exact .nil _
  | sl0 ad t =>
    have:r=0:=by simpa [Sl.es]using hr
    subst this
    have:l=0:=by omega
    subst this
    refine⟨some ad,0,0,rfl,rfl,Nat.le_refl _,fun cap' hc=> ?_⟩
    subst hc
    simp [AO];exact .sl0 _ _
  | @sl b off cap _ vs hc hm hr' =>
    refine⟨_,_,_,rfl,rfl,hc,fun cap' hc'=> ?_⟩
    subst hc'
    have hes:(⟨q.t,AO q.xs l r⟩:Sl).es=AO q.es l r:=q.Aka l r
    have hlen:(AO q.es l r).length=r - l:=by simp [AO];omega
    have hget: ∀ i,i<r - l→(AO q.es l r).getD i []=q.es.getD (l+i) []:=by
      intro i hi
      simp only[AO,List.getD_eq_getElem?_getD,List.getElem?_drop,List.getElem?_take]
      rw[if_pos (by omega)]
    have hlen':(⟨q.t,AO q.xs l r⟩:Sl).es.length=r - l:=by rw[hes];exact hlen
    by_cases hcl:cap'=l
    ·have h0:r - l=0:=by omega
     rw[if_pos hcl, ←hlen']
     exact Am.sl (b:=b) (off:=off) (cap:=cap' - l) (fun _ _=>undef) (by omega) (fun i j hi _=>absurd hi (by omega)) (fun i j hi _=>absurd hi (by omega))
    ·rw[if_neg hcl]
     simp only[Option.map_some,JD]
     rw[← hlen']
     refine Am.sl (fun i j=>vs (l+i) j) (by omega) (fun i j hi hj=> ?_) (fun i j hi hj=> ?_)
     ·have:=hm (l+i) j (by omega) hj
      rw[Nat.add_mul]at this
      rw[show off+l*q.sz+(i*(⟨q.t,AO q.xs l r⟩:Sl).sz+j)=off+(l*q.sz+i*q.sz+j)from by show off+l*q.sz+(i*q.sz+j)=_;omega];exact this
     ·rw[hes,hget i (by omega)];exact hr' (l+i) j (by omega) hj
theorem AkQ {t:Nat} {x:Operand} {lo hi mx:Option Operand} (hC:TOk P C) (ho:o.op= .slice t x lo hi mx) (hmx:mx=none) {s:List UInt8} {lo' hi':Option A} (hx:AB O Aa m w (a.eval x) (.str s))
    (hlo:ORl O Aa m w (lo.map a.eval) lo') (hhi:ORl O Aa m w (hi.map a.eval) hi')
    (hok:AA (DT C fet t (.str s) lo' hi').ok):Pure P O Aa m a w o (DT C fet t (.str s) lo' hi'):=by
  subst hmx
  unfold DT at hok ⊢
  obtain⟨ti,ht,he⟩:=BB hok
  rw[he]at hok ⊢
  dsimp only at hok ⊢
  obtain⟨r,hr,he⟩:=Be hok
  rw[he]at hok ⊢
  obtain⟨h1,h2⟩:=hok.cons
  have hd:=iW h1
  have hu:=(hC.is ht).run w
  rw[hd]at hu
  obtain⟨b,hb,hl⟩:=hx.str
  subst hl
  obtain⟨h3,h4,h5⟩:=Ou (isS:=false) (P:=P) (cap:=b.data.toList.length) hlo hhi (Nat.le_refl _) hr h2
  refine⟨⟨.string (b.extract r.2.1 r.2.2),?_,.mkStr _ (qH _ _ _)⟩,rfl,rfl,rfl⟩
  rw[← Mc]at h3
  simp only[execOp,ho,Instr.sliceAt,Sem.run_bind,hu,Result.andThen_ok,Instr.slice,hb,Option.map_none,Option.isSome_none,Bool.false_eq_true,if_false,h3,Sem.run_pure]
theorem Amq {t:Nat} {x:Operand} {lo hi mx:Option Operand} (hC:TOk P C) (ho:o.op= .slice t x lo hi mx) (hmx:mx=none) {l:Sl} {lo' hi':Option A} (hx:AB O Aa m w (a.eval x) (.sl l))
    (hlo:ORl O Aa m w (lo.map a.eval) lo') (hhi:ORl O Aa m w (hi.map a.eval) hi')
    (hok:AA (DT C fet t (.sl l) lo' hi').ok):Pure P O Aa m a w o (DT C fet t (.sl l) lo' hi'):=by
  subst hmx
  unfold DT at hok ⊢
  obtain⟨ti,ht,he⟩:=BB hok
  rw[he]at hok ⊢
  dsimp only at hok ⊢
  obtain⟨r,hr,he⟩:=Be hok
  rw[he]at hok ⊢
  obtain⟨e,hel,he⟩:=Be hok
  rw[he]at hok ⊢
  obtain⟨te,hte,he⟩:=BB hok
  rw[he]at hok ⊢
  obtain⟨h1,h2⟩:=hok.cons
  have hd:=LD hel
  have hu:=(hC.is ht).run w
  rw[hd]at hu
  have hs:=(hC.is hte).JZ w
  have hsz:=Nat.eq_of_beq_eq_true h1
  rw[← hsz]at hs
  rw[← Sl.BQ]at hr
  have hx':Am O w (a.eval x) (.sl l):=hx
  obtain⟨h4,h5⟩:r.2.1≤r.2.2∧r.2.2≤l.es.length:=(Ou (isS:=true) (P:=P) hlo hhi (Nat.le_refl _) hr h2).2
  obtain⟨ad,n,c,hv,hn,hc,hcut⟩:=hx'.cut r.2.1 r.2.2 h4 h5
  obtain⟨h3,_,_⟩:=Ou (isS:=true) (P:=P) (cap:=c) hlo hhi (by rw[← hn];exact hc) hr h2
  rw[← hn]at h3
  refine⟨⟨_,?_,hcut c rfl⟩,rfl,rfl,rfl⟩
  simp only[execOp,ho,Instr.sliceAt,Sem.run_bind,hu,Result.andThen_ok,Instr.slice,hv,Option.map_none,h3,hs,Sem.run_pure]
theorem AlZ {fet:Fet} {x:A} {p:Nat×Mp} (h:mp? fet x=some p):x= .own p.1∧Ai fet p.1=some (.mp p.2):=by
  unfold mp? at h
  split at h
  ·split at h
   ·rename_i l hg;injection h with h;subst h;exact⟨rfl,hg⟩
   ·cases h
  ·cases h
theorem Aeg (hF:FOk O Aa m w fet) {x:A} {v:Value} {p:Nat×Mp} (hx:AB O Aa m w v x) (h:mp? fet x=some p) :
    Ai Aa p.1=some (.mp p.2)∧v=m p.1∧FB O w p.1 (m p.1) p.2:=by
  obtain⟨rfl,hg⟩:=AlZ h
  obtain⟨h1,h2⟩:=hF _ _ hg
  have hc:AV O Aa m w v (.own p.1):=hx
  have hc:=hc.2
  rw[h1]at hc
  exact⟨h1,hc,h2⟩
theorem FB.lists {q:Nat} {v:Value} {l:Mp} (h:FB O w q v l): ∃ r es ck,v= .map (some r)∧w.heap[r]? =some (.map es ck)∧O r 0=some q∧es.toList.length=l.l.length ∧
    (∀(i:Nat) (e:MapEntry) (p:l.kt.Val×l.vt.Val),es.toList[i]? =some e→l.l[i]? =some p→Ee O w e.key (Fj (l.kt.cells p.1))∧Ee O w e.val (Fj (l.vt.cells p.2))):=by
  obtain⟨r,es,ck,h1,h2,h3,h4,h5⟩:=h
  refine⟨r,es,ck,h1,h2,h3,by rw[Array.length_toList];exact h4,fun i e p he hp=> ?_⟩
  obtain⟨e',k1,k2,k3⟩:=h5 i p hp
  rw[Array.getElem?_toList,k1]at he
  injection he with he;subst he
  exact⟨k2,k3⟩
theorem AnX {n e:Nat} {frz:Bool} {l:Sl} (hg:Ai fet n=some (.arr e frz l)):rd fet (.own n)=([],l):=by
  show(match Ai fet n with | some (.arr _ _ l)=>([],l) | _=>([false],default))=_
  rw[hg]
theorem AfB {x:A} (hok:AA (rd fet x).1):(∃ n e frz l,x= .own n∧Ai fet n=some (.arr e frz l)∧(rd fet x).2=l)∨(x= .CJ∧(rd fet x).2=default)∨ ∃ l,x= .sl l∧(rd fet x).2=l:=by
  cases x with
  | own n =>
    cases hg:Ai fet n with
    | none =>
      have:rd fet (.own n)=([false],default):=by
        show(match Ai fet n with | some (.arr _ _ l)=>([],l) | _=>([false],default))=_
        rw[hg]
      rw[this]at hok
      have:=hok false (by simp);cases this
    | some y =>
      cases y with
      | box cs =>
        have:rd fet (.own n)=([false],default):=by
          show(match Ai fet n with | some (.arr _ _ l)=>([],l) | _=>([false],default))=_
          rw[hg]
        rw[this]at hok
        have:=hok false (by simp);cases this
      | arr e frz l=>exact .inl ⟨n,e,frz,l,rfl,hg,by rw[AnX hg]⟩
      | mp l =>
        have:rd fet (.own n)=([false],default):=by
          show(match Ai fet n with | some (.arr _ _ l)=>([],l) | _=>([false],default))=_
          rw[hg]
        rw[this]at hok
        have:=hok false (by simp);cases this
  | CJ=>exact .inr (.inl ⟨rfl,rfl⟩)
  | sl l=>exact .inr (.inr ⟨l,rfl,rfl⟩)
  | _=>have:=hok false (by simp [rd]);cases this
theorem AnV {x:A} {v:Value} (hf:FOk O Aa m w fet) (hx:AB O Aa m w v x) (hok:AA (rd fet x).1): ∃ ad c,v= .slice ad (rd fet x).2.xs.length c:=by
  rcases AfB hok with ⟨n,e,frz,l,rfl,hg,hl⟩ | ⟨rfl,hl⟩ | ⟨l,rfl,hl⟩<;>rw[hl]
  ·obtain⟨h1,_,h2⟩:=hx.own hf hg
   rw[← Sl.BQ]
   rcases h2 with ⟨_,h3,h4⟩ | ⟨_,g,cap,cur,h4,_⟩
   ·exact⟨none,0,by rw[h1,h4,h3];rfl⟩
   ·exact⟨some (at' g 0),cap,by rw[h1,h4]⟩
  ·exact⟨none,0,hx⟩
  ·have hx':Am O w v (.sl l):=hx
   cases hx' with
   | nil=>exact⟨none,0,rfl⟩
   | sl0 ad=>exact⟨some ad,0,rfl⟩
   | sl=>exact⟨_,_,by rw[Sl.BQ]⟩
theorem AlR {c:Call} {t:Nat} {x:Operand} (hC:TOk P C) (hf:FOk O Aa m w fet) (ho:o.op= .call c) (hcal:c.callee= .builtin .len) (hargs:c.args= #[x]) (hty:c.argTypes.toList=[t]) {x':A} (hx:AB O Aa m w (a.eval x) x')
    (hok:AA (Abh C fet t x').ok):Pure P O Aa m a w o (Abh C fet t x'):=by
  have hat:c.argTypes= #[t]:=by
    have:=congrArg List.toArray hty
    simpa using this
  unfold Abh at hok ⊢
  obtain⟨ti,ht,he⟩:=BB hok
  rw[he]at hok ⊢
  have hu:=(hC.is ht).run w
  split at hok
  ·rename_i hd
   rw[hd]at hu
   obtain⟨s,hs,he⟩:=Be hok
   rw[he]at hok ⊢
   have:=Ac5 hs
   subst this
   obtain⟨b,hb,hl⟩:=hx.str
   subst hl
   refine⟨⟨.int .i64 b.size,?_,?_⟩,rfl,rfl,rfl⟩
   ·simp [execOp,ho,resolve,hcal,hargs,hat,invoke,builtin,Builtin.len_,hu,hb,goInt]
   ·rw[Mc];exact .mkInt _ _
  ·rename_i n e hd
   rw[hd]at hu
   refine⟨⟨.int .i64 n,?_,.mkInt _ _⟩,rfl,rfl,rfl⟩
   simp [execOp,ho,resolve,hcal,hargs,hat,invoke,builtin,Builtin.len_,hu,goInt]
  ·rename_i e hd
   rw[hd]at hu
   obtain⟨ad,cp,hv⟩:=AnV hf hx hok
   refine⟨⟨.int .i64 (rd fet x').2.xs.length,?_,.mkInt _ _⟩,rfl,rfl,rfl⟩
   simp [execOp,ho,resolve,hcal,hargs,hat,invoke,builtin,Builtin.len_,hu,hv,goInt]
  ·rename_i kt et hd
   rw[hd]at hu
   obtain⟨p,hp,he⟩:=Be hok
   rw[he]at hok ⊢
   obtain⟨_,hv,hM⟩:=Aeg hf hx hp
   obtain⟨r,es,ck,h1,h2,h3,h4,h5⟩:=hM.lists
   have hsz:(es.size:Int)=(p.2.l.length:Int):=by rw[← h4,Array.length_toList]
   refine⟨⟨.int .i64 (p.2.l.length:Int),?_,.mkInt _ _⟩,rfl,rfl,rfl⟩
   have hg:(getObj r).run P w= .ok (.map es ck) w:=by simp [getObj,Sem.run,h2]
   simp [execOp,ho,resolve,hcal,hargs,hat,invoke,builtin,Builtin.len_,hu,hv,h1,hg,hsz,goInt]
  ·exact(AU hok).elim
theorem AeI {i:Nat} {x:Operand} (ho:o.op= .extract x i) {x':A} (hx:AB O Aa m w (a.eval x) x') (hok:AA (YW i x').ok):Pure P O Aa m a w o (YW i x'):=by
  unfold YW at hok ⊢
  obtain⟨l,hl,he⟩:=Be hok
  rw[he]at hok ⊢
  have:x'= .tup l:=by unfold Aom at hl;split at hl<;>simp_all
  subst this
  obtain⟨vs,h1,h2,h3⟩:=hx
  have hi:i<l.length:=by simpa [Dl.g,KZ]using hok.cons.1
  refine⟨⟨vs.getD i undef,?_,(h3 i hi).toT⟩,rfl,rfl,rfl⟩
  have:vs[i]? =some (vs.getD i undef):=by
    rw[Array.getD_eq_getD_getElem?,Array.getElem?_eq_getElem (by omega)];simp
  generalize vs.getD i undef=z at *
  simp only[execOp,ho,Instr.extract,h1,this,Sem.run_bind,Sem.run_pure,Result.andThen_ok]
end
