import Derived.Test.YtbaomhegdndpnaaGreatDoorA2
import Derived.Laws.Cover3
import Derived.Laws.Pointers
import Derived.Laws.StructEq
set_option linter.all false
namespace Go.Proofs.YtbaomhegdndpnaaGreatDoor.Vm
theorem vS {P:Program} {w:World} {op:BinOp} {t:TypeId} {x y:Operand} {v u:Value} (h: ∀ cs,v≠ .agg cs) (h':v≠ .nilIface):(eqGuard op t x y v u).run P w= .ok () w:=by
  unfold eqGuard
  all_goals simp_all
section
variable {P:Program} {C:Ctx} {O:Own} {Aa:List (Nat×Obj)} {m:Nat->Value} {a:Act} {w:World} {o:Oper} {fet:Fet}
def FOk (O:Own) (Aa:List (Nat×Obj)) (m:Nat->Value) (w:World) (fet:Fet):Prop:= ∀ o x,Ai fet o=some x->Ai Aa o=some x/\BC O Aa m w o x
theorem AA {α :Type} {x:Option α} {k: α ->Dl} (hok:Am (AY x k).ok): ∃ y,x=some y/\AY x k=k y:=by
  cases x with
  | none=>exact(Az hok).elim
  | some y=>exact⟨y,rfl,rfl⟩
theorem Ba {t:Nat} {k:TI->Dl} (hok:Am (BQ C t k).ok): ∃ ti,C.T t=some ti/\BQ C t k=k ti:=AA hok
theorem BK {n:Nat} {cs:List A} (h:BP fet n=some cs):Ai fet n=some (.box cs):=by
  unfold BP at h;split at h<;>simp_all
theorem CY {n:Nat} {r:Arr} (h:Nv fet n=some r):Ai fet n=some (.arr r.e r.frz r.l):=by
  unfold Nv at h
  all_goals grind
theorem FY {d:TypeDesc} {e:Nat} (h:elem? d=some e):d= .slice e:=by
  unfold elem? at h;split at h<;>simp_all
theorem Au.own {v:Value} {n:Nat} {e:Nat} {frz:Bool} {l:Sl} (hf:FOk O Aa m w fet) (h:Au O Aa m w v (.own n)) (hx:Ai fet n=some (.arr e frz l)) :
    v=m n/\BC O Aa m w n (.arr e frz l):=by
  obtain⟨h1,h2⟩:=hf _ _ hx
  refine⟨?_,h2⟩
  have h':Aw O Aa m w v (.own n):=h
  all_goals grind[Aw,Obj.shp]
theorem Au.ptr {v:Value} {n off:Nat} {cs:List A} (hf:FOk O Aa m w fet) (h:Au O Aa m w v (.ptr n off)) (hx:Ai fet n=some (.box cs)) :
    ∃ b base,m n= .pointer (some (at' b base))/\v= .pointer (some (at' b (base+off)))/\ ∀ j,j<cs.length->O b (base+j)=some n/\w.frozen? (at' b (base+j))=false /\
      ∃ u,w.cell? (at' b (base+j))=some u/\Aw O Aa m w u (cs.getD j .undef):=by
  obtain⟨h1,b,base,h2,h3⟩:=hf _ _ hx
  have h':Aw O Aa m w v (.ptr n off):=h
  all_goals grind[Aw,Obj.shp]
theorem Au.BN {v:Value} (h:Au O Aa m w v .BN):v= .pointer none:=by cases h;rfl
theorem xB {t e:Nat} {v:Value} {b:Bool} (hu:P.underlying t=some (.slice e)) (h:(v= .slice none 0 0/\b=true)\/(∃ ad l c,v= .slice (some ad) l c)/\b=false) :
    (Op.equal t v (.slice none 0 0)).run P w= .ok b w:=by
  rcases h with ⟨rfl,rfl⟩ | ⟨⟨ad,l,c,rfl⟩,rfl⟩<;>rw[run_equal_slice_nil w t e _ _ _ hu]<;>rfl
theorem AcW {t e:Nat} {v:Value} {b:Bool} (hu:P.underlying t=some (.pointer e)) (h:(v= .pointer none/\b=true)\/(∃ ad,v= .pointer (some ad))/\b=false) :
    (Op.equal t v (.pointer none)).run P w= .ok b w:=by
  have hu':P.underlying t=some (.pointer (P.pointee t)):=by rw[hu];simp [Program.pointee,hu]
  rcases h with ⟨rfl,rfl⟩ | ⟨⟨ad,rfl⟩,rfl⟩<;>rw[run_equal_pointer_nil w t _ hu']<;>rfl
theorem pO {s:Bool} {t:Nat} {d:TypeDesc} {x:A} {v:Value} {b:Bool} (hd:P.underlying t=some d) (hf:FOk O Aa m w fet) (hx:Au O Aa m w v x) (h:jD fet s d x=some b) :
    (s=true/\(Op.equal t v (.slice none 0 0)).run P w= .ok b w/\ ∃ a l c,v= .slice a l c)\/(s=false/\(Op.equal t v (.pointer none)).run P w= .ok b w/\ ∃ a,v= .pointer a):=by
  unfold jD at h
  split at h
  ·injection h with h;subst h
   have hx':v= .slice none 0 0:=hx
   exact .inl ⟨rfl,xB hd (.inl ⟨hx',rfl⟩),_,_,_,hx'⟩
  ·injection h with h;subst h
   rename_i l
   have hx':Ak O w v (.sln l):=hx
   cases hx' with
   | sln h hn =>
     cases hq:l.xs.isEmpty with
     | true=>simp_all[xB,hd,FOk,Au,jD]
     | false =>
       cases h with
       | nil=>cases hq
       | sl0=>cases hq
       | sl vs _ _ _=>simp_all[xB,hd,FOk,Au,jD]
  ·injection h with h;subst h
   cases hx
   exact .inr ⟨rfl,AcW hd (.inl ⟨rfl,rfl⟩),_,rfl⟩
  ·rename_i n off
   cases hr:BP fet n with
   | none=>rw[hr]at h;cases h
   | some cs =>
     rw[hr]at h;injection h with h;subst h
     obtain⟨b,base,_,h2,_⟩:=hx.ptr hf (BK hr)
     exact .inr ⟨rfl,AcW hd (.inr ⟨⟨_,h2⟩,rfl⟩),_,h2⟩
  ·cases h
theorem Aau {t:Nat} {x y:Bool} (hd:P.underlying t=some .bool):(Op.equal t (.bool x) (.bool y)).run P w= .ok (x==y) w:=by
  have: ∀ d,(Op.equalIn (d+1) t (.bool x) (.bool y)).run P w= .ok (x==y) w:=by intro d;simp [Op.equalIn,run_underlying hd]
  exact this 9999
theorem jK {t:Nat} {vs:Array Value} {off:Nat} {d:TypeDesc} (hd:P.underlying t=some d) (hp:JW d=false) (h:off<vs.size):(part t vs off).run P w= .ok (vs.getD off undef) w:=by
  have hg:vs[off]? =some (vs.getD off undef):=by rw[Array.getD_eq_getD_getElem?,Array.getElem?_eq_getElem h];rfl
  have ha:(isAgg t).run P w= .ok false w:=by
    simp only[isAgg,Sem.run_bind,run_underlying hd,Result.andThen_ok]
    cases d<;>first | rfl | cases hp
  unfold part
  all_goals simp_all
theorem Aw.AeA {v:Value} {b:Bool} (h:Aw O Aa m w v (.bool b)):v= .bool b:=by cases h;rfl
theorem Aw.Af4 {v:Value} {k:IntKind} {n:Int} (h:Aw O Aa m w v (.int k n)):v= .int k n:=by cases h;rfl
theorem Aw.AfQ {v:Value} {s:List UInt8} (h:Aw O Aa m w v (.str s)): ∃ b:ByteArray,v= .string b/\b.data.toList=s:=by cases h;exact⟨_,rfl,rfl⟩
theorem AaQ {d ty:Nat} {k:CK} {td:TypeDesc} {a b:A} {v u:Value} (hk:(k= .bool/\td= .bool)\/(∃ i,k= .int i/\td= .int i)\/(k= .str/\td= .string)) (hd:P.underlying ty=some td) (h1:Aw O Aa m w v a) (h2:Aw O Aa m w u b) (hok:(P7 k a b).1=true) :
    (Op.equalIn (d+1) ty v u).run P w= .ok (P7 k a b).2 w:=by
  rcases hk with ⟨rfl,rfl⟩ | ⟨i,rfl,rfl⟩ | ⟨rfl,rfl⟩
  ·cases a<;>first | (cases hok;done) | skip
   cases b<;>first | (cases hok;done) | skip
   rw[h1.AeA,h2.AeA]
   exact run_equalIn_bool' w d ty _ _ hd
  ·cases a<;>first | (cases hok;done) | skip
   cases b<;>first | (cases hok;done) | skip
   rename_i j x j' y
   simp only[P7,Bool.and_eq_true]at hok
   rw[h1.Af4,h2.Af4,ES hok.1,ES hok.2]
   exact run_equalIn_int w d ty i i _ _ hd
  ·cases a<;>first | (cases hok;done) | skip
   cases b<;>first | (cases hok;done) | skip
   obtain⟨s1,e1,l1⟩:=h1.AfQ
   obtain⟨s2,e2,l2⟩:=h2.AfQ
   rw[e1,e2,run_equalIn_string w d ty _ _ hd]
   simp only[P7,RU,l1,l2]
theorem vP {d:Nat} {vs us:Array Value} {x y:List A} (hx:vs.size=x.length) (hy:us.size=y.length) (hxr: ∀ j,j<x.length->Aw O Aa m w (vs.getD j undef) (x.getD j .undef)) (hyr: ∀ j,j<y.length->Aw O Aa m w (us.getD j undef) (y.getD j .undef)) :
    ∀(fs:List Field) (n:Nat) (ks:List CK),JR P fs n=some ks->(EK ks (x.drop n) (y.drop n)).1=true->(Op.eqFields (d+1) vs us fs).run P w= .ok (EK ks (x.drop n) (y.drop n)).2 w:=by
  intro fs
  induction fs with
  | nil =>
    intro n ks h hok
    injection h with h
    subst h
    have:EK [] (x.drop n) (y.drop n)=(true,true):=by
      cases hx:x.drop n with
      | nil=>cases hy:y.drop n with
        | nil=>rfl
        | cons _ _=>rw[hx,hy]at hok;cases hok
      | cons _ _=>rw[hx]at hok;cases hok
    rw[this];rfl
  | cons f fs ih =>
    intro n ks h hok
    have key: ∀(k:CK) (td:TypeDesc) (ks':List CK),((k= .bool/\td= .bool)\/(∃ i,k= .int i/\td= .int i)\/(k= .str/\td= .string))->P.underlying f.type=some td->JR P fs (n+1)=some ks'->(f.name != "_" &&Nat.beq f.offset n)=true->ks=k::ks' ->
        (Op.eqFields (d+1) vs us (f::fs)).run P w= .ok (EK ks (x.drop n) (y.drop n)).2 w:=by
      intro k td ks' hk hd hf hn hks
      subst hks
      rw[Bool.and_eq_true]at hn
      have hnm:f.name≠ "_" :=by simpa using hn.1
      have hoff:=Nat.eq_of_beq_eq_true hn.2
      cases hxd:x.drop n with
      | nil=>rw[hxd]at hok;cases hok
      | cons a xr =>
        cases hyd:y.drop n with
        | nil=>rw[hxd,hyd]at hok;cases hok
        | cons b yr =>
          rw[hxd,hyd]at hok
          simp only[EK,Bool.and_eq_true]at hok ⊢
          have hnx:n<x.length:=by
            rcases Nat.lt_or_ge n x.length with h | h
            ·exact h
            ·rw[List.drop_eq_nil_of_le h]at hxd;cases hxd
          have hny:n<y.length:=by
            rcases Nat.lt_or_ge n y.length with h | h
            ·exact h
            ·rw[List.drop_eq_nil_of_le h]at hyd;cases hyd
          have e1:x.getD n .undef=a:=by
            have:=congrArg List.head? hxd
            rw[List.head?_drop]at this
            rw[List.getD_eq_getElem?_getD,this];rfl
          have e2:y.getD n .undef=b:=by
            have:=congrArg List.head? hyd
            rw[List.head?_drop]at this
            rw[List.getD_eq_getElem?_getD,this];rfl
          have e3:x.drop (n+1)=xr:=by rw[<- List.drop_drop,hxd];rfl
          have e4:y.drop (n+1)=yr:=by rw[<- List.drop_drop,hyd];rfl
          have r1:=hxr n hnx
          have r2:=hyr n hny
          rw[e1]at r1;rw[e2]at r2
          have hagg:JW td=false:=by rcases hk with ⟨_,rfl⟩ | ⟨i,_,rfl⟩ | ⟨_,rfl⟩<;>rfl
          have p1:=jK (P:=P) (w:=w) (vs:=vs) (off:=n) hd hagg (by omega)
          have p2:=jK (P:=P) (w:=w) (vs:=us) (off:=n) hd hagg (by omega)
          have q:=AaQ (d:=d) hk hd r1 r2 hok.1
          have hrest:=ih (n+1) ks' hf (by rw[e3,e4];exact hok.2)
          rw[e3,e4]at hrest
          simp only[Op.eqFields,hnm,ne_eq,not_false_eq_true,if_true,Sem.run_bind,hoff,p1,p2,Result.andThen_ok,q]
          cases (P7 k a b).2 with
          | false=>simp
          | true=>simpa using hrest
    unfold JR at h
    all_goals grind
theorem Aav {t:Nat} {ti:TI} (hT:Iq P t ti) {vs us:Array Value} {x y:List A} (hx:vs.size=x.length) (hy:us.size=y.length) (hxr: ∀ j,j<x.length->Aw O Aa m w (vs.getD j undef) (x.getD j .undef)) (hyr: ∀ j,j<y.length->Aw O Aa m w (us.getD j undef) (y.getD j .undef))
    (h1:ti.cmp.isEmpty=false) (h2:(EK ti.cmp x y).1=true):P.eqGuardType P.depth t=false/\(Op.equalIn 10000 t (.agg vs) (.agg us)).run P w= .ok (EK ti.cmp x y).2 w:=by
  have hc:=hT.cmp
  have hd:=hT.d
  unfold AaT at hc
  split at hc
  ·rename_i fs hfs
   split at hc
   ·rename_i ks hks
    cases hb:(!(P.stoodInHeld t)&& !(P.eqGuardType P.depth t))with
    | false=>grind
    | true =>
      rw[hb]at hc
      simp only[cond_true]at hc
      rw[hc]at h2 ⊢
      rw[Bool.and_eq_true,Bool.not_eq_true',Bool.not_eq_true']at hb
      rw[hfs]at hd
      have hf:P.fieldsOf t=fs:=by simp only[Program.fieldsOf,hd]
      refine⟨hb.2,?_⟩
      rw[run_equalIn_agg w 9999 t vs us (by rw[hf];exact hd) hb.1,hf]
      exact vP (d:=9998) hx hy hxr hyr fs.toList 0 ks hks h2
   ·grind
  ·grind
theorem AdC {op:BinOp} {t ty:Nat} {x y:Operand} (hC:TOk P C) (hf:FOk O Aa m w fet) (ho:o.op= .binOp op t x y ty) {x' y':A} (hx:Au O Aa m w (a.eval x) x') (hy:Au O Aa m w (a.eval y) y')
    (hok:Am (AaI C fet op t x' y').ok):Pure P O Aa m a w o (AaI C fet op t x' y'):=by
  have fin: ∀ {v u:Value} {δ :Dl},a.eval x=v->a.eval y=u->(∀ cs,v≠ .agg cs)->v≠ .nilIface->(∃ r,(binOp op t v u).run P w= .ok r w/\Au O Aa m w r δ.val/\ δ.new=[]/\ δ.upd=[]/\ δ.del=[])->Pure P O Aa m a w o δ :=by
    intro v u δ hv hu h1 h2 ⟨r,h3,h4,h5,h6,h7⟩
    refine⟨⟨r,?_,h4⟩,h5,h6,h7⟩
    simp only[execOp,ho,hv,hu,Sem.run_bind,vS h1 h2,Result.andThen_ok,h3,Sem.run_pure]
  unfold AaI at hok ⊢
  split at hok
  ·rename_i k p k' q
   have h1:=hx.int
   have h2:=hy.int
   split at hok
   ·have h0:0<=q:=by simpa [Dl.g]using hok.cons.1
    refine fin h1 h2 (by simp) (by simp) ⟨_,?_,.mkInt _ _,rfl,rfl,rfl⟩
    have: ¬ q<0:=by omega
    simp [binOp,Op.shift,this]
   ·have h0:0<=q:=by simpa [Dl.g]using hok.cons.1
    refine fin h1 h2 (by simp) (by simp) ⟨_,?_,.mkInt _ _,rfl,rfl,rfl⟩
    have: ¬ q<0:=by omega
    simp [binOp,Op.shift,this]
   ·rename_i h3 h4
    cases hk:A.kEq k k' with
    | false=>rw[hk]at hok;exact(Az hok).elim
    | true =>
      rw[hk]at hok
      have:=ES hk
      subst this
      exact fin h1 h2 (by simp) (by simp) (AdA hok t h3 h4)
  ·obtain⟨s1,h1,h2⟩:=hx.str
   obtain⟨s2,h3,h4⟩:=hy.str
   exact fin h1 h3 (by simp) (by simp) (AdB h2 h4 hok t)
  ·have h1:=hx.bool
   have h2:=hy.bool
   split at hok
   ·unfold tV at *
    obtain⟨ti,ht,he⟩:=Ba hok
    rw[he]at hok ⊢
    have hd:ti.d= .bool:=by
      have:=hok.cons.1
      unfold mV at this;split at this<;>simp_all
    refine fin h1 h2 (by simp) (by simp) ⟨_,?_,.ET _,rfl,rfl,rfl⟩
    have hu:=(hC.is ht).d
    rw[hd]at hu
    simp only[binOp,Sem.run_bind,Aau hu,Result.andThen_ok,Sem.run_pure]
   ·unfold tV at *
    obtain⟨ti,ht,he⟩:=Ba hok
    rw[he]at hok ⊢
    have hd:ti.d= .bool:=by
      have:=hok.cons.1
      unfold mV at this;split at this<;>simp_all
    refine fin h1 h2 (by simp) (by simp) ⟨_,?_,.ET _,rfl,rfl,rfl⟩
    have hu:=(hC.is ht).d
    rw[hd]at hu
    simp only[binOp,Sem.run_bind,Aau hu,Result.andThen_ok,Sem.run_pure]
   ·exact(Az hok).elim
  ·rename_i x y
   obtain⟨vs,e1,l1,r1⟩:=(show T1 O Aa m w _ (.agg x)from hx)
   obtain⟨us,e2,l2,r2⟩:=(show T1 O Aa m w _ (.agg y)from hy)
   obtain⟨ti,ht,he⟩:=Ba hok
   rw[he]at hok ⊢
   split at hok
   ·obtain⟨c1,c2⟩:=hok.cons
    obtain⟨g1,g2⟩:=Aav (hC.is ht) l1 l2 r1 r2 (by simpa using c1) c2.cons.1
    refine⟨⟨_,?_,.ET _⟩,rfl,rfl,rfl⟩
    simp only[execOp,ho,e1,e2,Sem.run_bind,run_eqGuard_agg w _ _ _ _ _ _ g1,Result.andThen_ok,run_eql_struct w,g2,Sem.run_pure]
   ·obtain⟨c1,c2⟩:=hok.cons
    obtain⟨g1,g2⟩:=Aav (hC.is ht) l1 l2 r1 r2 (by simpa using c1) c2.cons.1
    refine⟨⟨_,?_,.ET _⟩,rfl,rfl,rfl⟩
    simp only[execOp,ho,e1,e2,Sem.run_bind,run_eqGuard_agg w _ _ _ _ _ _ g1,Result.andThen_ok,run_neq_struct w,g2,Sem.run_pure]
   ·exact(Az hok).elim
  ·have h2:a.eval y= .slice none 0 0:=hy
   split at hok
   all_goals first
     | exact(Az hok).elim
     | (unfold nG at *
        obtain⟨ti,ht,he⟩:=Ba hok
        rw[he]at hok ⊢
        obtain⟨b,hb,he'⟩:=AA hok
        rw[he']
        have hu:=(hC.is ht).d
        rcases pO hu hf hx hb with ⟨_,h3,al,l,c,h4⟩ | ⟨hs,_⟩
        ·rw[h4]at h3
         refine fin h4 h2 (by simp) (by simp) ⟨_,?_,.ET _,rfl,rfl,rfl⟩
         simp only[binOp,Sem.run_bind,h3,Result.andThen_ok,Sem.run_pure]
        ·cases hs)
  ·have h2:=hy.BN
   split at hok
   all_goals first
     | exact(Az hok).elim
     | (unfold nG at *
        obtain⟨ti,ht,he⟩:=Ba hok
        rw[he]at hok ⊢
        obtain⟨b,hb,he'⟩:=AA hok
        rw[he']
        have hu:=(hC.is ht).d
        rcases pO hu hf hx hb with ⟨hs,_⟩ | ⟨_,h3,al,h4⟩
        ·cases hs
        ·rw[h4]at h3
         refine fin h4 h2 (by simp) (by simp) ⟨_,?_,.ET _,rfl,rfl,rfl⟩
         simp only[binOp,Sem.run_bind,h3,Result.andThen_ok,Sem.run_pure])
  ·exact(Az hok).elim
end
end Go.Proofs.YtbaomhegdndpnaaGreatDoor.Vm
namespace Go.Proofs.YtbaomhegdndpnaaGreatDoor.Vm
theorem Fh (b k n:Nat):(at' b k).add n=at' b (k+n):=by
  unfold Addr.add;split
  ·grind
  ·rfl
section
variable {P:Program} {C:Ctx} {O:Own} {Aa:List (Nat×Obj)} {m:Nat->Value} {a:Act} {w:World} {o:Oper} {fet:Fet}
theorem Afg {op:UnOp} {t:Nat} {x:Operand} (ho:o.op= .unOp op t x) {x':A} (hx:Au O Aa m w (a.eval x) x') (hok:Am (unX op x').ok):Pure P O Aa m a w o (unX op x'):=by
  unfold unX at hok ⊢
  split at hok
  ·have h1:=hx.bool
   exact⟨⟨_,by simp only[execOp,ho,h1,Op.unary];rfl,.ET _⟩,rfl,rfl,rfl⟩
  ·have h1:=hx.int
   exact⟨⟨_,by simp only[execOp,ho,h1,Op.unary];rfl,.mkInt _ _⟩,rfl,rfl,rfl⟩
  ·have h1:=hx.int
   exact⟨⟨_,by simp only[execOp,ho,h1,Op.unary];rfl,.mkInt _ _⟩,rfl,rfl,rfl⟩
  ·grind[Az]
theorem Hg {x:A} {n:Int} (h:int? x=some n): ∃ k,x= .int k n:=by
  unfold int? at h;split at h<;>simp_all
theorem YJ {x:A} {s:List UInt8} (h:yG x=some s):x= .str s:=by
  unfold yG at h;split at h<;>simp_all
theorem Yg {d:TypeDesc} (h:Yf d=true):d= .string:=by grind[Yf]
theorem uV {t:Nat} {k:Nat->IntKind->Dl} (hC:TOk P C) (hok:Am (dV C t k).ok): ∃ n e kk te,dV C t k=k n kk/\(P.underlying t=some (.array n e))/\C.T e=some te/\te.cs=[.int kk]/\te.agg=false:=by
  unfold dV at hok ⊢
  obtain⟨ti,ht,he⟩:=Ba hok
  rw[he]at hok ⊢
  obtain⟨p,hp,he⟩:=AA hok
  rw[he]at hok ⊢
  obtain⟨te,hte,he⟩:=Ba hok
  rw[he]at hok ⊢
  cases hag:te.agg with
  | true=>rw[hag]at hok;exact(Az hok).elim
  | false =>
    rw[hag]at hok
    simp only[cond_false]at hok ⊢
    obtain⟨c,hc,he⟩:=AA hok
    rw[he]at hok ⊢
    obtain⟨kk,hk,he⟩:=AA hok
    rw[he]at hok ⊢
    refine⟨p.1,p.2,kk,te,rfl,?_,hte,?_,hag⟩
    ·rw[(hC.is ht).d]
     unfold UC at hp
     split at hp
     ·rename_i hd;injection hp with hp;rw[hd,<- hp]
     ·cases hp
    ·have e1:te.cs=[c]:=by unfold one? at hc;split at hc<;>simp_all
     have e2:c= .int kk:=by unfold AeC at hk;split at hk<;>simp_all
     rw[e1,e2]
theorem xC {cs:List A} {kk:IntKind} {n:Int} {m:Nat} (h:Am [cs.all (A.isI kk),Nat.beq cs.length m,decide (0<=n),decide (n<(m:Int))]):cs.length=m/\0<=n/\n<(m:Int)/\n.toNat<cs.length/\cs.getD n.toNat .undef= .int kk (Vx cs n):=by
  obtain⟨h1,h2⟩:=h.cons
  obtain⟨h2,h3⟩:=h2.cons
  obtain⟨h3,h4⟩:=h3.cons
  have h4:n<(m:Int):=by simpa using h4.cons.1
  have h3:0<=n:=by simpa using h3
  have h2:=Nat.eq_of_beq_eq_true h2
  have hlt:n.toNat<cs.length:=by omega
  refine⟨h2,h3,h4,hlt,?_⟩
  have h5:=List.all_eq_true.1 h1 cs[n.toNat] (List.getElem_mem hlt)
  have e:Vx cs n=cs[n.toNat].toI:=by simp [Vx,List.getD_eq_getElem?_getD,hlt]
  rw[e,List.getD_eq_getElem?_getD,List.getElem?_eq_getElem hlt]
  generalize cs[n.toNat]=c at h5
  cases c<;>first
    | (rename_i k' x;have:=ES (show A.kEq kk k'=true from h5);subst this;rfl)
    | cases h5
theorem Abs {t:Nat} {x i:Operand} (hC:TOk P C) (ho:o.op= .index t x i) {x' i':A} (hx:Au O Aa m w (a.eval x) x') (hi:Au O Aa m w (a.eval i) i')
    (hok:Am (iO C t x' i').ok):Pure P O Aa m a w o (iO C t x' i'):=by
  unfold iO at hok ⊢
  obtain⟨n,hn,he⟩:=AA hok
  rw[he]at hok ⊢;clear he
  obtain⟨k,rfl⟩:=Hg hn
  split at hok
  ·rename_i cs
   obtain⟨m',e,kk,te,he,hu,hte,hcs,hag⟩:=uV hC hok
   rw[he]at hok ⊢
   obtain⟨h1,h2,h3,h4,h5⟩:=xC hok
   obtain⟨vs,g1,g2,g3⟩:=hx
   have h6:Ak O w (vs.getD n.toNat undef) (.int kk (Vx cs n)):=by have:=g3 n.toNat h4;rw[h5]at this;exact this
   have h6:vs.getD n.toNat undef= .int kk (Vx cs n):=by generalize vs.getD n.toNat undef=z at h6;cases h6;rfl
   have hi:=hi.int
   have hs:=(hC.is hte).Eb w
   have hag':=(hC.is hte).yB w
   rw[hag]at hag'
   have hlt:n.toNat<vs.size:=by omega
   have hg6:vs[n.toNat]? =some (.int kk (Vx cs n)):=by
     rw[Array.getD_eq_getD_getElem?,Array.getElem?_eq_getElem hlt]at h6
     rw[Array.getElem?_eq_getElem hlt];exact congrArg some h6
   have hrun:=run_underlying hu w
   refine⟨⟨.int kk (Vx cs n),?_,.mkInt _ _⟩,rfl,rfl,rfl⟩
   simp [execOp,ho,Instr.index,hi,asIntOf,hrun,g1,h2,h3,hs,hcs,part,hag',hg6]
  ·rename_i y _
   obtain⟨s,hs,he⟩:=AA hok
   rw[he]at hok ⊢
   obtain⟨ti,ht,he⟩:=Ba hok
   rw[he]at hok ⊢
   have:=YJ hs
   subst this
   obtain⟨h1,h2⟩:=hok.cons
   obtain⟨h2,h3⟩:=h2.cons
   have h3:=h3.cons.1
   have hd:=Yg h1
   have hu:=(hC.is ht).run w
   rw[hd]at hu
   have hi:=hi.int
   obtain⟨b,hb,hl⟩:=hx.str
   have h2:0<=n:=by simpa using h2
   have h3:n<(s.length:Int):=by simpa using h3
   obtain⟨j,rfl⟩:=Int.eq_ofNat_of_zero_le h2
   have hj:j<b.size:=by rw[Gu,hl];omega
   refine⟨⟨.int .u8 (b[j].toNat:Int),?_,?_⟩,rfl,rfl,rfl⟩
   ·simp [execOp,ho,Instr.index,hi,hb,asIntOf,hu,hj]
   ·have:s.getD (Int.ofNat j).toNat 0=b[j]:=by
      subst hl
      show b.data.toList.getD j 0=b[j]
      rw[List.getD_eq_getElem?_getD,List.getElem?_eq_getElem (by rw[<- Gu];exact hj)]
      obtain⟨⟨l⟩⟩:=b;rfl
    simp only[Dl.g]
    rw[show((j:Int)).toNat=(Int.ofNat j).toNat from rfl,this]
    exact .mkInt _ _
def ORl (O:Own) (Aa:List (Nat×Obj)) (m:Nat->Value) (w:World):Option Value->Option A->Prop
  | none,none=>True
  | some v,some x=>Au O Aa m w v x
  | _,_=>False
theorem Js {isS:Bool} {len cap:Nat} {lo hi:Option Value} {lo' hi':Option A} (hl:ORl O Aa m w lo lo') (hh:ORl O Aa m w hi hi') (hc:len<=cap) {r:List Bool×Nat×Nat} (h:aY len lo' hi'=some r) (hok:Am r.1) :
    (Instr.sliceBounds isS len cap lo hi none).run P w= .ok (r.2.1,r.2.2,cap) w/\r.2.1<=r.2.2/\r.2.2<=len:=by
  unfold aY at h
  split at h
  ·injection h with h;subst h
   cases lo<;>cases hi<;>simp [ORl]at hl hh
   simp [Instr.sliceBounds]
  ·injection h with h;subst h
   cases lo<;>cases hi<;>simp only[ORl]at hl hh
   obtain⟨h1,h2⟩:=hok.cons
   have h2:=h2.cons.1
   simp at h1 h2
   have hl:=hl.int
   rename_i q _ _ _
   obtain⟨j,rfl⟩:=Int.eq_ofNat_of_zero_le h1
   have:j<=len:=by simpa using h2
   simp [Instr.sliceBounds,Instr.sliceBound,hl,asIntOf,this]
  ·injection h with h;subst h
   cases lo<;>cases hi<;>simp only[ORl]at hl hh
   obtain⟨h1,h2⟩:=hok.cons
   have h2:=h2.cons.1
   simp at h1 h2
   have hh:=hh.int
   rename_i q _ _ _
   obtain⟨j,rfl⟩:=Int.eq_ofNat_of_zero_le h1
   have:j<=len:=by simpa using h2
   have h3:j<=cap:=by omega
   simp [Instr.sliceBounds,Instr.sliceBound,hh,asIntOf,h3,this]
  ·injection h with h;subst h
   cases lo<;>cases hi<;>simp only[ORl]at hl hh
   obtain⟨h1,h2⟩:=hok.cons
   obtain⟨h2,h3⟩:=h2.cons
   have h3:=h3.cons.1
   simp at h1 h2 h3
   have hl:=hl.int
   have hh:=hh.int
   rename_i p _ q _ _ _
   obtain⟨j,rfl⟩:=Int.eq_ofNat_of_zero_le h1
   obtain⟨i,rfl⟩:=Int.eq_ofNat_of_zero_le (Int.le_trans h1 h2)
   have h4:i<=len:=by simpa using h3
   have h5:j<=i:=by simpa using h2
   have h6:i<=cap:=by omega
   simp [Instr.sliceBounds,Instr.sliceBound,hl,hh,asIntOf,h4,h5,h6]
  ·cases h
theorem ZJ (s:ByteArray) (i j:Nat):(s.extract i j).data.toList=A7 s.data.toList i j:=by
  simp [A7,ByteArray.data_extract,List.drop_take]
end
end Go.Proofs.YtbaomhegdndpnaaGreatDoor.Vm
namespace Go.Proofs.YtbaomhegdndpnaaGreatDoor.Vm
section
variable {P:Program} {C:Ctx} {O:Own} {Aa:List (Nat×Obj)} {m:Nat->Value} {a:Act} {w:World} {o:Oper} {fet:Fet}
theorem Ak.cut {v:Value} {q:Sl} (h:Ak O w v (.sl q)) (l r:Nat) (hlr:l<=r) (hr:r<=q.es.length) :
    ∃ ad n c,v= .slice ad n c/\n=q.es.length/\n<=c/\(∀ cap',cap'=c->Ak O w (.slice (if cap'=l then ad else ad.map (·.add (l*q.sz))) (r - l) (cap' - l)) (.sl ⟨q.t,A7 q.xs l r⟩)):=by
  cases h with
  | nil =>
    have:r=0:=by simpa [Sl.es]using hr
    subst this
    have:l=0:=by omega
    subst this
    refine⟨none,0,0,rfl,rfl,Nat.le_refl _,fun cap' hc=> ?_⟩
    subst hc
    simp [A7];exact .nil _
  | sl0 ad t =>
    have:r=0:=by simpa [Sl.es]using hr
    subst this
    have:l=0:=by omega
    subst this
    refine⟨some ad,0,0,rfl,rfl,Nat.le_refl _,fun cap' hc=> ?_⟩
    subst hc
    simp [A7];exact .sl0 _ _
  | @sl b off cap _ vs hc hm hr' =>
    refine⟨_,_,_,rfl,rfl,hc,fun cap' hc'=> ?_⟩
    subst hc'
    have hes:(⟨q.t,A7 q.xs l r⟩:Sl).es=A7 q.es l r:=q.AcA l r
    have hlen:(A7 q.es l r).length=r - l:=by simp [A7];omega
    have hget: ∀ i,i<r - l->(A7 q.es l r).getD i []=q.es.getD (l+i) []:=by
      intro i hi
      all_goals grind[A7]
    have hlen':(⟨q.t,A7 q.xs l r⟩:Sl).es.length=r - l:=by rw[hes];exact hlen
    by_cases hcl:cap'=l
    ·have h0:r - l=0:=by omega
     rw[if_pos hcl,<- hlen']
     exact Ak.sl (b:=b) (off:=off) (cap:=cap' - l) (fun _ _=>undef) (by omega) (fun i j hi _=>absurd hi (by omega)) (fun i j hi _=>absurd hi (by omega))
    ·rw[if_neg hcl]
     simp only[Option.map_some,Fh]
     rw[<- hlen']
     refine Ak.sl (fun i j=>vs (l+i) j) (by omega) (fun i j hi hj=> ?_) (fun i j hi hj=> ?_)
     ·have:=hm (l+i) j (by omega) hj
      rw[Nat.add_mul]at this
      rw[show off+l*q.sz+(i*(⟨q.t,A7 q.xs l r⟩:Sl).sz+j)=off+(l*q.sz+i*q.sz+j)from by show off+l*q.sz+(i*q.sz+j)=_;omega];exact this
     ·rw[hes,hget i (by omega)];exact hr' (l+i) j (by omega) hj
theorem Adp {t:Nat} {x:Operand} {lo hi mx:Option Operand} (hC:TOk P C) (ho:o.op= .slice t x lo hi mx) (hmx:mx=none) {s:List UInt8} {lo' hi':Option A} (hx:Au O Aa m w (a.eval x) (.str s))
    (hlo:ORl O Aa m w (lo.map a.eval) lo') (hhi:ORl O Aa m w (hi.map a.eval) hi')
    (hok:Am (Ce C fet t (.str s) lo' hi').ok):Pure P O Aa m a w o (Ce C fet t (.str s) lo' hi'):=by
  subst hmx
  unfold Ce at hok ⊢
  obtain⟨ti,ht,he⟩:=Ba hok
  rw[he]at hok ⊢
  dsimp only at hok ⊢
  obtain⟨r,hr,he⟩:=AA hok
  rw[he]at hok ⊢
  obtain⟨h1,h2⟩:=hok.cons
  have hd:=Yg h1
  have hu:=(hC.is ht).run w
  rw[hd]at hu
  obtain⟨b,hb,hl⟩:=hx.str
  subst hl
  obtain⟨h3,h4,h5⟩:=Js (isS:=false) (P:=P) (cap:=b.data.toList.length) hlo hhi (Nat.le_refl _) hr h2
  refine⟨⟨.string (b.extract r.2.1 r.2.2),?_,.mkStr _ (ZJ _ _ _)⟩,rfl,rfl,rfl⟩
  rw[<- Gu]at h3
  simp only[execOp,ho,Instr.sliceAt,Sem.run_bind,hu,Result.andThen_ok,Instr.slice,hb,Option.map_none,Option.isSome_none,Bool.false_eq_true,if_false,h3,Sem.run_pure]
theorem Aew {t:Nat} {x:Operand} {lo hi mx:Option Operand} (hC:TOk P C) (ho:o.op= .slice t x lo hi mx) (hmx:mx=none) {l:Sl} {lo' hi':Option A} (hx:Au O Aa m w (a.eval x) (.sl l))
    (hlo:ORl O Aa m w (lo.map a.eval) lo') (hhi:ORl O Aa m w (hi.map a.eval) hi')
    (hok:Am (Ce C fet t (.sl l) lo' hi').ok):Pure P O Aa m a w o (Ce C fet t (.sl l) lo' hi'):=by
  subst hmx
  unfold Ce at hok ⊢
  obtain⟨ti,ht,he⟩:=Ba hok
  rw[he]at hok ⊢
  dsimp only at hok ⊢
  obtain⟨r,hr,he⟩:=AA hok
  rw[he]at hok ⊢
  obtain⟨e,hel,he⟩:=AA hok
  rw[he]at hok ⊢
  obtain⟨te,hte,he⟩:=Ba hok
  rw[he]at hok ⊢
  obtain⟨h1,h2⟩:=hok.cons
  have hd:=FY hel
  have hu:=(hC.is ht).run w
  rw[hd]at hu
  have hs:=(hC.is hte).Eb w
  have hsz:=Nat.eq_of_beq_eq_true h1
  rw[<- hsz]at hs
  rw[<- Sl.Bj]at hr
  have hx':Ak O w (a.eval x) (.sl l):=hx
  obtain⟨h4,h5⟩:r.2.1<=r.2.2/\r.2.2<=l.es.length:=(Js (isS:=true) (P:=P) hlo hhi (Nat.le_refl _) hr h2).2
  obtain⟨ad,n,c,hv,hn,hc,hcut⟩:=hx'.cut r.2.1 r.2.2 h4 h5
  obtain⟨h3,_,_⟩:=Js (isS:=true) (P:=P) (cap:=c) hlo hhi (by rw[<- hn];exact hc) hr h2
  rw[<- hn]at h3
  refine⟨⟨_,?_,hcut c rfl⟩,rfl,rfl,rfl⟩
  simp only[execOp,ho,Instr.sliceAt,Sem.run_bind,hu,Result.andThen_ok,Instr.slice,hv,Option.map_none,h3,hs,Sem.run_pure]
theorem Aei {fet:Fet} {x:A} {p:Nat×Mp} (h:mp? fet x=some p):x= .own p.1/\Ai fet p.1=some (.mp p.2):=by
  unfold mp? at h
  split at h
  ·split at h
   ·rename_i l hg;injection h with h;subst h;exact⟨rfl,hg⟩
   ·cases h
  ·cases h
theorem uH (hF:FOk O Aa m w fet) {x:A} {v:Value} {p:Nat×Mp} (hx:Au O Aa m w v x) (h:mp? fet x=some p) :
    Ai Aa p.1=some (.mp p.2)/\v=m p.1/\DV O w p.1 (m p.1) p.2:=by
  obtain⟨rfl,hg⟩:=Aei h
  obtain⟨h1,h2⟩:=hF _ _ hg
  have hc:Aw O Aa m w v (.own p.1):=hx
  have hc:=hc.2
  rw[h1]at hc
  exact⟨h1,hc,h2⟩
theorem DV.lists {q:Nat} {v:Value} {l:Mp} (h:DV O w q v l): ∃ r es ck,v= .map (some r)/\w.heap[r]? =some (.map es ck)/\O r 0=some q/\es.toList.length=l.l.length /\
    (∀(i:Nat) (e:MapEntry) (p:l.kt.Val×l.vt.Val),es.toList[i]? =some e->l.l[i]? =some p->Di O w e.key (DN (l.kt.cells p.1))/\Di O w e.val (DN (l.vt.cells p.2))):=by grind[DV,Di,DN]
theorem AfH {n e:Nat} {frz:Bool} {l:Sl} (hg:Ai fet n=some (.arr e frz l)):rd fet (.own n)=([],l):=by grind[Ai,rd]
theorem xW {x:A} (hok:Am (rd fet x).1):(∃ n e frz l,x= .own n/\Ai fet n=some (.arr e frz l)/\(rd fet x).2=l)\/(x= .BB/\(rd fet x).2=default)\/ ∃ l,x= .sl l/\(rd fet x).2=l:=by
  cases x with
  | own n =>
    cases hg:Ai fet n with
    | none=>simp_all[rd,Ai,Am]
    | some y =>
      cases y with
      | box cs=>simp_all[rd,Ai,Am]
      | arr e frz l=>grind[AfH,Am,rd,Ai]
      | mp l=>simp_all[rd,Ai,Am]
  | BB=>exact .inr (.inl ⟨rfl,rfl⟩)
  | sl l=>exact .inr (.inr ⟨l,rfl,rfl⟩)
  | _=>simp_all[rd,Am,Ai]
theorem AfG {x:A} {v:Value} (hf:FOk O Aa m w fet) (hx:Au O Aa m w v x) (hok:Am (rd fet x).1): ∃ ad c,v= .slice ad (rd fet x).2.xs.length c:=by
  rcases xW hok with ⟨n,e,frz,l,rfl,hg,hl⟩ | ⟨rfl,hl⟩ | ⟨l,rfl,hl⟩<;>rw[hl]
  ·obtain⟨h1,_,h2⟩:=hx.own hf hg
   rw[<- Sl.Bj]
   rcases h2 with ⟨_,h3,h4⟩ | ⟨_,g,cap,cur,h4,_⟩
   all_goals simp_all[at',FOk,Au,Am,rd]
  ·exact⟨none,0,hx⟩
  ·have hx':Ak O w v (.sl l):=hx
   cases hx' with
   | nil=>exact⟨none,0,rfl⟩
   | sl0 ad=>exact⟨some ad,0,rfl⟩
   | sl=>grind[Sl.Bj]
theorem Aeb {c:Call} {t:Nat} {x:Operand} (hC:TOk P C) (hf:FOk O Aa m w fet) (ho:o.op= .call c) (hcal:c.callee= .builtin .len) (hargs:c.args= #[x]) (hty:c.argTypes.toList=[t]) {x':A} (hx:Au O Aa m w (a.eval x) x')
    (hok:Am (mX C fet t x').ok):Pure P O Aa m a w o (mX C fet t x'):=by
  have hat:c.argTypes= #[t]:=by
    have:=congrArg List.toArray hty
    simpa using this
  unfold mX at hok ⊢
  obtain⟨ti,ht,he⟩:=Ba hok
  rw[he]at hok ⊢
  have hu:=(hC.is ht).run w
  split at hok
  ·rename_i hd
   rw[hd]at hu
   obtain⟨s,hs,he⟩:=AA hok
   rw[he]at hok ⊢
   have:=YJ hs
   subst this
   obtain⟨b,hb,hl⟩:=hx.str
   subst hl
   refine⟨⟨.int .i64 b.size,?_,?_⟩,rfl,rfl,rfl⟩
   ·simp [execOp,ho,resolve,hcal,hargs,hat,invoke,builtin,Builtin.len_,hu,hb,goInt]
   ·rw[Gu];exact .mkInt _ _
  ·rename_i n e hd
   rw[hd]at hu
   refine⟨⟨.int .i64 n,?_,.mkInt _ _⟩,rfl,rfl,rfl⟩
   simp [execOp,ho,resolve,hcal,hargs,hat,invoke,builtin,Builtin.len_,hu,goInt]
  ·rename_i e hd
   rw[hd]at hu
   split at hok
   ·rename_i q k
    obtain⟨cs,hb,he⟩:=AA hok
    rw[he]
    have hc:Aw O Aa m w (a.eval x) (.bsl q k):=hx
    have hc:=hc.2
    rw[(hf _ _ (BK hb)).1]at hc
    obtain⟨b,base,_,hv⟩:=hc
    refine⟨⟨.int .i64 (k:Int),?_,.mkInt _ _⟩,rfl,rfl,rfl⟩
    simp [execOp,ho,resolve,hcal,hargs,hat,invoke,builtin,Builtin.len_,hu,hv,goInt]
   ·rename_i y hne
    obtain⟨ad,cp,hv⟩:=AfG hf hx hok
    refine⟨⟨.int .i64 (rd fet x').2.xs.length,?_,.mkInt _ _⟩,rfl,rfl,rfl⟩
    simp [execOp,ho,resolve,hcal,hargs,hat,invoke,builtin,Builtin.len_,hu,hv,goInt]
  ·rename_i kt et hd
   rw[hd]at hu
   obtain⟨p,hp,he⟩:=AA hok
   rw[he]at hok ⊢
   obtain⟨_,hv,hM⟩:=uH hf hx hp
   obtain⟨r,es,ck,h1,h2,h3,h4,h5⟩:=hM.lists
   have hsz:(es.size:Int)=(p.2.l.length:Int):=by rw[<- h4,Array.length_toList]
   refine⟨⟨.int .i64 (p.2.l.length:Int),?_,.mkInt _ _⟩,rfl,rfl,rfl⟩
   have hg:(getObj r).run P w= .ok (.map es ck) w:=by simp [getObj,Sem.run,h2]
   simp [execOp,ho,resolve,hcal,hargs,hat,invoke,builtin,Builtin.len_,hu,hv,h1,hg,hsz,goInt]
  ·exact(Az hok).elim
theorem vY {i:Nat} {x:Operand} (ho:o.op= .extract x i) {x':A} (hx:Au O Aa m w (a.eval x) x') (hok:Am (Va i x').ok):Pure P O Aa m a w o (Va i x'):=by
  unfold Va at hok ⊢
  obtain⟨l,hl,he⟩:=AA hok
  rw[he]at hok ⊢
  have:x'= .tup l:=by unfold AfX at hl;split at hl<;>simp_all
  subst this
  obtain⟨vs,h1,h2,h3⟩:=hx
  have hi:i<l.length:=by simpa [Dl.g,I4]using hok.cons.1
  refine⟨⟨vs.getD i undef,?_,(h3 i hi).toT⟩,rfl,rfl,rfl⟩
  have:vs[i]? =some (vs.getD i undef):=by
    rw[Array.getD_eq_getD_getElem?,Array.getElem?_eq_getElem (by omega)];simp
  generalize vs.getD i undef=z at *
  simp only[execOp,ho,Instr.extract,h1,this,Sem.run_bind,Sem.run_pure,Result.andThen_ok]
end
