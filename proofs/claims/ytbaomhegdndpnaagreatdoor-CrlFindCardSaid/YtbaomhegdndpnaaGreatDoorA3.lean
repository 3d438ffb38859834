import Derived.Test.YtbaomhegdndpnaaGreatDoorA2
import Derived.Laws.Cover3
import Derived.Laws.Pointers
import Derived.Laws.StructEq
set_option linter.all false
namespace Go.Proofs.YtbaomhegdndpnaaGreatDoor.Vm
theorem wO {P:Program} {w:World} {op:BinOp} {t:TypeId} {x y:Operand} {v u:Value} (h: ∀ cs,v≠ .agg cs) (h':v≠ .nilIface):(eqGuard op t x y v u).run P w= .ok () w:=by
  unfold eqGuard
  all_goals simp_all
section
variable {P:Program} {C:Ctx} {O:Own} {Aa:List (Nat×Obj)} {m:Nat->Value} {a:Act} {w:World} {o:Oper} {fet:Fet}
def FOk (O:Own) (Aa:List (Nat×Obj)) (m:Nat->Value) (w:World) (fet:Fet):Prop:= ∀ o x,Af fet o=some x->Af Aa o=some x/\BL O Aa m w o x
theorem AB {α :Type} {x:Option α} {k: α ->Dl} (hok:Ak (Be x k).ok): ∃ y,x=some y/\Be x k=k y:=by
  cases x with
  | none=>exact(Az hok).elim
  | some y=>exact⟨y,rfl,rfl⟩
theorem Bh {t:Nat} {k:TI->Dl} (hok:Ak (Cf C t k).ok): ∃ ti,C.T t=some ti/\Cf C t k=k ti:=AB hok
theorem BV {n:Nat} {cs:List A} (h:Ce fet n=some cs):Af fet n=some (.box cs):=by
  unfold Ce at h;split at h<;>simp_all
theorem Dq {n:Nat} {r:Arr} (h:NP fet n=some r):Af fet n=some (.arr r.e r.frz r.l):=by
  unfold NP at h
  all_goals grind
theorem G8 {d:TypeDesc} {e:Nat} (h:elem? d=some e):d= .slice e:=by
  unfold elem? at h;split at h<;>simp_all
theorem Ar.own {v:Value} {n:Nat} {e:Nat} {frz:Bool} {l:Sl} (hf:FOk O Aa m w fet) (h:Ar O Aa m w v (.own n)) (hx:Af fet n=some (.arr e frz l)) :
    v=m n/\BL O Aa m w n (.arr e frz l):=by
  obtain⟨h1,h2⟩:=hf _ _ hx
  refine⟨?_,h2⟩
  have h':Aw O Aa m w v (.own n):=h
  all_goals grind[Aw,Obj.shp]
theorem Ar.ptr {v:Value} {n off:Nat} {cs:List A} (hf:FOk O Aa m w fet) (h:Ar O Aa m w v (.ptr n off)) (hx:Af fet n=some (.box cs)) :
    ∃ b base,m n= .pointer (some (at' b base))/\v= .pointer (some (at' b (base+off)))/\ ∀ j,j<cs.length->O b (base+j)=some n/\w.frozen? (at' b (base+j))=false /\
      ∃ u,w.cell? (at' b (base+j))=some u/\Aw O Aa m w u (cs.getD j .undef):=by
  obtain⟨h1,b,base,h2,h3⟩:=hf _ _ hx
  have h':Aw O Aa m w v (.ptr n off):=h
  all_goals grind[Aw,Obj.shp]
theorem Ar.Cc {v:Value} (h:Ar O Aa m w v .Cc):v= .pointer none:=by cases h;rfl
theorem yB {t e:Nat} {v:Value} {b:Bool} (hu:P.underlying t=some (.slice e)) (h:(v= .slice none 0 0/\b=true)\/(∃ ad l c,v= .slice (some ad) l c)/\b=false) :
    (Op.equal t v (.slice none 0 0)).run P w= .ok b w:=by
  rcases h with ⟨rfl,rfl⟩ | ⟨⟨ad,l,c,rfl⟩,rfl⟩<;>rw[run_equal_slice_nil w t e _ _ _ hu]<;>rfl
theorem AdA {t e:Nat} {v:Value} {b:Bool} (hu:P.underlying t=some (.pointer e)) (h:(v= .pointer none/\b=true)\/(∃ ad,v= .pointer (some ad))/\b=false) :
    (Op.equal t v (.pointer none)).run P w= .ok b w:=by
  have hu':P.underlying t=some (.pointer (P.pointee t)):=by rw[hu];simp [Program.pointee,hu]
  rcases h with ⟨rfl,rfl⟩ | ⟨⟨ad,rfl⟩,rfl⟩<;>rw[run_equal_pointer_nil w t _ hu']<;>rfl
theorem qN {s:Bool} {t:Nat} {d:TypeDesc} {x:A} {v:Value} {b:Bool} (hd:P.underlying t=some d) (hf:FOk O Aa m w fet) (hx:Ar O Aa m w v x) (h:jU fet s d x=some b) :
    (s=true/\(Op.equal t v (.slice none 0 0)).run P w= .ok b w/\ ∃ a l c,v= .slice a l c)\/(s=false/\(Op.equal t v (.pointer none)).run P w= .ok b w/\ ∃ a,v= .pointer a):=by
  unfold jU at h
  split at h
  ·injection h with h;subst h
   have hx':v= .slice none 0 0:=hx
   exact .inl ⟨rfl,yB hd (.inl ⟨hx',rfl⟩),_,_,_,hx'⟩
  ·injection h with h;subst h
   rename_i l
   have hx':Ai O w v (.sln l):=hx
   cases hx' with
   | sln h hn =>
     cases hq:l.xs.isEmpty with
     | true=>simp_all[yB,hd,FOk,Ar,jU]
     | false =>
       cases h with
       | nil=>cases hq
       | sl0=>cases hq
       | sl vs _ _ _=>simp_all[yB,hd,FOk,Ar,jU]
  ·injection h with h;subst h
   cases hx
   exact .inr ⟨rfl,AdA hd (.inl ⟨rfl,rfl⟩),_,rfl⟩
  ·rename_i n off
   cases hr:Ce fet n with
   | none=>rw[hr]at h;cases h
   | some cs =>
     rw[hr]at h;injection h with h;subst h
     obtain⟨b,base,_,h2,_⟩:=hx.ptr hf (BV hr)
     exact .inr ⟨rfl,AdA hd (.inr ⟨⟨_,h2⟩,rfl⟩),_,h2⟩
  ·cases h
theorem AaN {t:Nat} {x y:Bool} (hd:P.underlying t=some .bool):(Op.equal t (.bool x) (.bool y)).run P w= .ok (x==y) w:=by
  have: ∀ d,(Op.equalIn (d+1) t (.bool x) (.bool y)).run P w= .ok (x==y) w:=by intro d;simp [Op.equalIn,run_underlying hd]
  exact this 9999
theorem kD {t:Nat} {vs:Array Value} {off:Nat} {d:TypeDesc} (hd:P.underlying t=some d) (hp:KE d=false) (h:off<vs.size):(part t vs off).run P w= .ok (vs.getD off undef) w:=by
  have hg:vs[off]? =some (vs.getD off undef):=by rw[Array.getD_eq_getD_getElem?,Array.getElem?_eq_getElem h];rfl
  have ha:(isAgg t).run P w= .ok false w:=by
    simp only[isAgg,Sem.run_bind,run_underlying hd,Result.andThen_ok]
    cases d<;>first | rfl | cases hp
  unfold part
  all_goals simp_all
theorem Aw.Aft {v:Value} {b:Bool} (h:Aw O Aa m w v (.bool b)):v= .bool b:=by cases h;rfl
theorem Aw.Agr {v:Value} {k:IntKind} {n:Int} (h:Aw O Aa m w v (.int k n)):v= .int k n:=by cases h;rfl
theorem Aw.AgE {v:Value} {s:List UInt8} (h:Aw O Aa m w v (.str s)): ∃ b:ByteArray,v= .string b/\b.data.toList=s:=by cases h;exact⟨_,rfl,rfl⟩
theorem Abx {d ty:Nat} {k:CK} {td:TypeDesc} {a b:A} {v u:Value} (hk:(k= .bool/\td= .bool)\/(∃ i,k= .int i/\td= .int i)\/(k= .str/\td= .string)) (hd:P.underlying ty=some td) (h1:Aw O Aa m w v a) (h2:Aw O Aa m w u b) (hok:(PQ k a b).1=true) :
    (Op.equalIn (d+1) ty v u).run P w= .ok (PQ k a b).2 w:=by
  rcases hk with ⟨rfl,rfl⟩ | ⟨i,rfl,rfl⟩ | ⟨rfl,rfl⟩
  ·cases a<;>first | (cases hok;done) | skip
   cases b<;>first | (cases hok;done) | skip
   rw[h1.Aft,h2.Aft]
   exact run_equalIn_bool' w d ty _ _ hd
  ·cases a<;>first | (cases hok;done) | skip
   cases b<;>first | (cases hok;done) | skip
   rename_i j x j' y
   simp only[PQ,Bool.and_eq_true]at hok
   rw[h1.Agr,h2.Agr,Ff hok.1,Ff hok.2]
   exact run_equalIn_int w d ty i i _ _ hd
  ·cases a<;>first | (cases hok;done) | skip
   cases b<;>first | (cases hok;done) | skip
   obtain⟨s1,e1,l1⟩:=h1.AgE
   obtain⟨s2,e2,l2⟩:=h2.AgE
   rw[e1,e2,run_equalIn_string w d ty _ _ hd]
   simp only[PQ,Sv,l1,l2]
theorem wM {d:Nat} {vs us:Array Value} {x y:List A} (hx:vs.size=x.length) (hy:us.size=y.length) (hxr: ∀ j,j<x.length->Aw O Aa m w (vs.getD j undef) (x.getD j .undef)) (hyr: ∀ j,j<y.length->Aw O Aa m w (us.getD j undef) (y.getD j .undef)) :
    ∀(fs:List Field) (n:Nat) (ks:List CK),Kz P fs n=some ks->(ET ks (x.drop n) (y.drop n)).1=true->(Op.eqFields (d+1) vs us fs).run P w= .ok (ET ks (x.drop n) (y.drop n)).2 w:=by
  intro fs
  induction fs with
  | nil =>
    intro n ks h hok
    injection h with h
    subst h
    have:ET [] (x.drop n) (y.drop n)=(true,true):=by
      cases hx:x.drop n with
      | nil=>cases hy:y.drop n with
        | nil=>rfl
        | cons _ _=>rw[hx,hy]at hok;cases hok
      | cons _ _=>rw[hx]at hok;cases hok
    rw[this];rfl
  | cons f fs ih =>
    intro n ks h hok
    have key: ∀(k:CK) (td:TypeDesc) (ks':List CK),((k= .bool/\td= .bool)\/(∃ i,k= .int i/\td= .int i)\/(k= .str/\td= .string))->P.underlying f.type=some td->Kz P fs (n+1)=some ks'->(f.name != "_" &&Nat.beq f.offset n)=true->ks=k::ks' ->
        (Op.eqFields (d+1) vs us (f::fs)).run P w= .ok (ET ks (x.drop n) (y.drop n)).2 w:=by
      intro k td ks' hk hd hf hn hks
      subst hks
      rw[Bool.and_eq_true]at hn
      have hnm:f.name≠ "_" :=by simpa using hn.1
      have hoff:=Nat.eq_of_beq_eq_true hn.2
      cases hxd:x.drop n with
      | nil=>rw[hxd]at hok;cases hok
      | cons a xr =>
        cases hyd:y.drop n with
        | nil=>rw[hxd,hyd]at hok;cases hok
        | cons b yr =>
          rw[hxd,hyd]at hok
          simp only[ET,Bool.and_eq_true]at hok ⊢
          have hnx:n<x.length:=by
            rcases Nat.lt_or_ge n x.length with h | h
            ·exact h
            ·rw[List.drop_eq_nil_of_le h]at hxd;cases hxd
          have hny:n<y.length:=by
            rcases Nat.lt_or_ge n y.length with h | h
            ·exact h
            ·rw[List.drop_eq_nil_of_le h]at hyd;cases hyd
          have e1:x.getD n .undef=a:=by
            have:=congrArg List.head? hxd
            rw[List.head?_drop]at this
            rw[List.getD_eq_getElem?_getD,this];rfl
          have e2:y.getD n .undef=b:=by
            have:=congrArg List.head? hyd
            rw[List.head?_drop]at this
            rw[List.getD_eq_getElem?_getD,this];rfl
          have e3:x.drop (n+1)=xr:=by rw[<- List.drop_drop,hxd];rfl
          have e4:y.drop (n+1)=yr:=by rw[<- List.drop_drop,hyd];rfl
          have r1:=hxr n hnx
          have r2:=hyr n hny
          rw[e1]at r1;rw[e2]at r2
          have hagg:KE td=false:=by rcases hk with ⟨_,rfl⟩ | ⟨i,_,rfl⟩ | ⟨_,rfl⟩<;>rfl
          have p1:=kD (P:=P) (w:=w) (vs:=vs) (off:=n) hd hagg (by omega)
          have p2:=kD (P:=P) (w:=w) (vs:=us) (off:=n) hd hagg (by omega)
          have q:=Abx (d:=d) hk hd r1 r2 hok.1
          have hrest:=ih (n+1) ks' hf (by rw[e3,e4];exact hok.2)
          rw[e3,e4]at hrest
          simp only[Op.eqFields,hnm,ne_eq,not_false_eq_true,if_true,Sem.run_bind,hoff,p1,p2,Result.andThen_ok,q]
          cases (PQ k a b).2 with
          | false=>simp
          | true=>simpa using hrest
    unfold Kz at h
    all_goals grind
theorem AaO {t:Nat} {ti:TI} (hT:IV P t ti) {vs us:Array Value} {x y:List A} (hx:vs.size=x.length) (hy:us.size=y.length) (hxr: ∀ j,j<x.length->Aw O Aa m w (vs.getD j undef) (x.getD j .undef)) (hyr: ∀ j,j<y.length->Aw O Aa m w (us.getD j undef) (y.getD j .undef))
    (h1:ti.cmp.isEmpty=false) (h2:(ET ti.cmp x y).1=true):P.eqGuardType P.depth t=false/\(Op.equalIn 10000 t (.agg vs) (.agg us)).run P w= .ok (ET ti.cmp x y).2 w:=by
  have hc:=hT.cmp
  have hd:=hT.d
  unfold Ab0 at hc
  split at hc
  ·rename_i fs hfs
   split at hc
   ·rename_i ks hks
    cases hb:(!(P.stoodInHeld t)&& !(P.eqGuardType P.depth t))with
    | false=>grind
    | true =>
      rw[hb]at hc
      simp only[cond_true]at hc
      rw[hc]at h2 ⊢
      rw[Bool.and_eq_true,Bool.not_eq_true',Bool.not_eq_true']at hb
      rw[hfs]at hd
      have hf:P.fieldsOf t=fs:=by simp only[Program.fieldsOf,hd]
      refine⟨hb.2,?_⟩
      rw[run_equalIn_agg w 9999 t vs us (by rw[hf];exact hd) hb.1,hf]
      exact wM (d:=9998) hx hy hxr hyr fs.toList 0 ks hks h2
   ·grind
  ·grind
theorem Aer {op:BinOp} {t ty:Nat} {x y:Operand} (hC:TOk P C) (hf:FOk O Aa m w fet) (ho:o.op= .binOp op t x y ty) {x' y':A} (hx:Ar O Aa m w (a.eval x) x') (hy:Ar O Aa m w (a.eval y) y')
    (hok:Ak (Abp C fet op t x' y').ok):Pure P O Aa m a w o (Abp C fet op t x' y'):=by
  have fin: ∀ {v u:Value} {δ :Dl},a.eval x=v->a.eval y=u->(∀ cs,v≠ .agg cs)->v≠ .nilIface->(∃ r,(binOp op t v u).run P w= .ok r w/\Ar O Aa m w r δ.val/\ δ.new=[]/\ δ.upd=[]/\ δ.del=[])->Pure P O Aa m a w o δ :=by
    intro v u δ hv hu h1 h2 ⟨r,h3,h4,h5,h6,h7⟩
    refine⟨⟨r,?_,h4⟩,h5,h6,h7⟩
    simp only[execOp,ho,hv,hu,Sem.run_bind,wO h1 h2,Result.andThen_ok,h3,Sem.run_pure]
  unfold Abp at hok ⊢
  split at hok
  ·rename_i k p k' q
   have h1:=hx.int
   have h2:=hy.int
   split at hok
   ·have h0:0<=q:=by simpa [Dl.g]using hok.cons.1
    refine fin h1 h2 (by simp) (by simp) ⟨_,?_,.mkInt _ _,rfl,rfl,rfl⟩
    have: ¬ q<0:=by omega
    simp [binOp,Op.shift,this]
   ·have h0:0<=q:=by simpa [Dl.g]using hok.cons.1
    refine fin h1 h2 (by simp) (by simp) ⟨_,?_,.mkInt _ _,rfl,rfl,rfl⟩
    have: ¬ q<0:=by omega
    simp [binOp,Op.shift,this]
   ·rename_i h3 h4
    cases hk:A.kEq k k' with
    | false=>rw[hk]at hok;exact(Az hok).elim
    | true =>
      rw[hk]at hok
      have:=Ff hk
      subst this
      exact fin h1 h2 (by simp) (by simp) (Aep hok t h3 h4)
  ·obtain⟨s1,h1,h2⟩:=hx.str
   obtain⟨s2,h3,h4⟩:=hy.str
   exact fin h1 h3 (by simp) (by simp) (Aeq h2 h4 hok t)
  ·have h1:=hx.bool
   have h2:=hy.bool
   split at hok
   ·unfold uO at *
    obtain⟨ti,ht,he⟩:=Bh hok
    rw[he]at hok ⊢
    have hd:ti.d= .bool:=by
      have:=hok.cons.1
      unfold nS at this;split at this<;>simp_all
    refine fin h1 h2 (by simp) (by simp) ⟨_,?_,.Fp _,rfl,rfl,rfl⟩
    have hu:=(hC.is ht).d
    rw[hd]at hu
    simp only[binOp,Sem.run_bind,AaN hu,Result.andThen_ok,Sem.run_pure]
   ·unfold uO at *
    obtain⟨ti,ht,he⟩:=Bh hok
    rw[he]at hok ⊢
    have hd:ti.d= .bool:=by
      have:=hok.cons.1
      unfold nS at this;split at this<;>simp_all
    refine fin h1 h2 (by simp) (by simp) ⟨_,?_,.Fp _,rfl,rfl,rfl⟩
    have hu:=(hC.is ht).d
    rw[hd]at hu
    simp only[binOp,Sem.run_bind,AaN hu,Result.andThen_ok,Sem.run_pure]
   ·exact(Az hok).elim
  ·rename_i x y
   obtain⟨vs,e1,l1,r1⟩:=(show T1 O Aa m w _ (.agg x)from hx)
   obtain⟨us,e2,l2,r2⟩:=(show T1 O Aa m w _ (.agg y)from hy)
   obtain⟨ti,ht,he⟩:=Bh hok
   rw[he]at hok ⊢
   split at hok
   ·obtain⟨c1,c2⟩:=hok.cons
    obtain⟨g1,g2⟩:=AaO (hC.is ht) l1 l2 r1 r2 (by simpa using c1) c2.cons.1
    refine⟨⟨_,?_,.Fp _⟩,rfl,rfl,rfl⟩
    simp only[execOp,ho,e1,e2,Sem.run_bind,run_eqGuard_agg w _ _ _ _ _ _ g1,Result.andThen_ok,run_eql_struct w,g2,Sem.run_pure]
   ·obtain⟨c1,c2⟩:=hok.cons
    obtain⟨g1,g2⟩:=AaO (hC.is ht) l1 l2 r1 r2 (by simpa using c1) c2.cons.1
    refine⟨⟨_,?_,.Fp _⟩,rfl,rfl,rfl⟩
    simp only[execOp,ho,e1,e2,Sem.run_bind,run_eqGuard_agg w _ _ _ _ _ _ g1,Result.andThen_ok,run_neq_struct w,g2,Sem.run_pure]
   ·exact(Az hok).elim
  ·have h2:a.eval y= .slice none 0 0:=hy
   split at hok
   all_goals first
     | exact(Az hok).elim
     | (unfold oC at *
        obtain⟨ti,ht,he⟩:=Bh hok
        rw[he]at hok ⊢
        obtain⟨b,hb,he'⟩:=AB hok
        rw[he']
        have hu:=(hC.is ht).d
        rcases qN hu hf hx hb with ⟨_,h3,al,l,c,h4⟩ | ⟨hs,_⟩
        ·rw[h4]at h3
         refine fin h4 h2 (by simp) (by simp) ⟨_,?_,.Fp _,rfl,rfl,rfl⟩
         simp only[binOp,Sem.run_bind,h3,Result.andThen_ok,Sem.run_pure]
        ·cases hs)
  ·have h2:=hy.Cc
   split at hok
   all_goals first
     | exact(Az hok).elim
     | (unfold oC at *
        obtain⟨ti,ht,he⟩:=Bh hok
        rw[he]at hok ⊢
        obtain⟨b,hb,he'⟩:=AB hok
        rw[he']
        have hu:=(hC.is ht).d
        rcases qN hu hf hx hb with ⟨hs,_⟩ | ⟨_,h3,al,h4⟩
        ·cases hs
        ·rw[h4]at h3
         refine fin h4 h2 (by simp) (by simp) ⟨_,?_,.Fp _,rfl,rfl,rfl⟩
         simp only[binOp,Sem.run_bind,h3,Result.andThen_ok,Sem.run_pure])
  ·exact(Az hok).elim
end
end Go.Proofs.YtbaomhegdndpnaaGreatDoor.Vm
namespace Go.Proofs.YtbaomhegdndpnaaGreatDoor.Vm
theorem FM (b k n:Nat):(at' b k).add n=at' b (k+n):=by
  unfold Addr.add;split
  ·grind
  ·rfl
section
variable {P:Program} {C:Ctx} {O:Own} {Aa:List (Nat×Obj)} {m:Nat->Value} {a:Act} {w:World} {o:Oper} {fet:Fet}
theorem AfR {op:UnOp} {t:Nat} {x:Operand} (ho:o.op= .unOp op t x) {x':A} (hx:Ar O Aa m w (a.eval x) x') (hok:Ak (unX op x').ok):Pure P O Aa m a w o (unX op x'):=by
  unfold unX at hok ⊢
  split at hok
  ·have h1:=hx.bool
   exact⟨⟨_,by simp only[execOp,ho,h1,Op.unary];rfl,.Fp _⟩,rfl,rfl,rfl⟩
  ·have h1:=hx.int
   exact⟨⟨_,by simp only[execOp,ho,h1,Op.unary];rfl,.mkInt _ _⟩,rfl,rfl,rfl⟩
  ·have h1:=hx.int
   exact⟨⟨_,by simp only[execOp,ho,h1,Op.unary];rfl,.mkInt _ _⟩,rfl,rfl,rfl⟩
  ·grind[Az]
theorem Ii {x:A} {n:Int} (h:int? x=some n): ∃ k,x= .int k n:=by
  unfold int? at h;split at h<;>simp_all
theorem YK {x:A} {s:List UInt8} (h:zI x=some s):x= .str s:=by
  unfold zI at h;split at h<;>simp_all
theorem Yl {d:TypeDesc} (h:Yk d=true):d= .string:=by grind[Yk]
theorem vU {t:Nat} {k:Nat->IntKind->Dl} (hC:TOk P C) (hok:Ak (fD C t k).ok): ∃ n e kk te,fD C t k=k n kk/\(P.underlying t=some (.array n e))/\C.T e=some te/\te.cs=[.int kk]/\te.agg=false:=by
  unfold fD at hok ⊢
  obtain⟨ti,ht,he⟩:=Bh hok
  rw[he]at hok ⊢
  obtain⟨p,hp,he⟩:=AB hok
  rw[he]at hok ⊢
  obtain⟨te,hte,he⟩:=Bh hok
  rw[he]at hok ⊢
  cases hag:te.agg with
  | true=>rw[hag]at hok;exact(Az hok).elim
  | false =>
    rw[hag]at hok
    simp only[cond_false]at hok ⊢
    obtain⟨c,hc,he⟩:=AB hok
    rw[he]at hok ⊢
    obtain⟨kk,hk,he⟩:=AB hok
    rw[he]at hok ⊢
    refine⟨p.1,p.2,kk,te,rfl,?_,hte,?_,hag⟩
    ·rw[(hC.is ht).d]
     unfold UO at hp
     split at hp
     ·rename_i hd;injection hp with hp;rw[hd,<- hp]
     ·cases hp
    ·have e1:te.cs=[c]:=by unfold one? at hc;split at hc<;>simp_all
     have e2:c= .int kk:=by unfold Afv at hk;split at hk<;>simp_all
     rw[e1,e2]
theorem yC {cs:List A} {kk:IntKind} {n:Int} {m:Nat} (h:Ak [cs.all (A.isI kk),Nat.beq cs.length m,decide (0<=n),decide (n<(m:Int))]):cs.length=m/\0<=n/\n<(m:Int)/\n.toNat<cs.length/\cs.getD n.toNat .undef= .int kk (VC cs n):=by
  obtain⟨h1,h2⟩:=h.cons
  obtain⟨h2,h3⟩:=h2.cons
  obtain⟨h3,h4⟩:=h3.cons
  have h4:n<(m:Int):=by simpa using h4.cons.1
  have h3:0<=n:=by simpa using h3
  have h2:=Nat.eq_of_beq_eq_true h2
  have hlt:n.toNat<cs.length:=by omega
  refine⟨h2,h3,h4,hlt,?_⟩
  have h5:=List.all_eq_true.1 h1 cs[n.toNat] (List.getElem_mem hlt)
  have e:VC cs n=cs[n.toNat].toI:=by simp [VC,List.getD_eq_getElem?_getD,hlt]
  rw[e,List.getD_eq_getElem?_getD,List.getElem?_eq_getElem hlt]
  generalize cs[n.toNat]=c at h5
  cases c<;>first
    | (rename_i k' x;have:=Ff (show A.kEq kk k'=true from h5);subst this;rfl)
    | cases h5
theorem AbP {t:Nat} {x i:Operand} (hC:TOk P C) (ho:o.op= .index t x i) {x' i':A} (hx:Ar O Aa m w (a.eval x) x') (hi:Ar O Aa m w (a.eval i) i')
    (hok:Ak (jF C t x' i').ok):Pure P O Aa m a w o (jF C t x' i'):=by
  unfold jF at hok ⊢
  obtain⟨n,hn,he⟩:=AB hok
  rw[he]at hok ⊢;clear he
  obtain⟨k,rfl⟩:=Ii hn
  split at hok
  ·rename_i cs
   obtain⟨m',e,kk,te,he,hu,hte,hcs,hag⟩:=vU hC hok
   rw[he]at hok ⊢
   obtain⟨h1,h2,h3,h4,h5⟩:=yC hok
   obtain⟨vs,g1,g2,g3⟩:=hx
   have h6:Ai O w (vs.getD n.toNat undef) (.int kk (VC cs n)):=by have:=g3 n.toNat h4;rw[h5]at this;exact this
   have h6:vs.getD n.toNat undef= .int kk (VC cs n):=by generalize vs.getD n.toNat undef=z at h6;cases h6;rfl
   have hi:=hi.int
   have hs:=(hC.is hte).Em w
   have hag':=(hC.is hte).zA w
   rw[hag]at hag'
   have hlt:n.toNat<vs.size:=by omega
   have hg6:vs[n.toNat]? =some (.int kk (VC cs n)):=by
     rw[Array.getD_eq_getD_getElem?,Array.getElem?_eq_getElem hlt]at h6
     rw[Array.getElem?_eq_getElem hlt];exact congrArg some h6
   have hrun:=run_underlying hu w
   refine⟨⟨.int kk (VC cs n),?_,.mkInt _ _⟩,rfl,rfl,rfl⟩
   simp [execOp,ho,Instr.index,hi,asIntOf,hrun,g1,h2,h3,hs,hcs,part,hag',hg6]
  ·rename_i y _
   obtain⟨s,hs,he⟩:=AB hok
   rw[he]at hok ⊢
   obtain⟨ti,ht,he⟩:=Bh hok
   rw[he]at hok ⊢
   have:=YK hs
   subst this
   obtain⟨h1,h2⟩:=hok.cons
   obtain⟨h2,h3⟩:=h2.cons
   have h3:=h3.cons.1
   have hd:=Yl h1
   have hu:=(hC.is ht).run w
   rw[hd]at hu
   have hi:=hi.int
   obtain⟨b,hb,hl⟩:=hx.str
   have h2:0<=n:=by simpa using h2
   have h3:n<(s.length:Int):=by simpa using h3
   obtain⟨j,rfl⟩:=Int.eq_ofNat_of_zero_le h2
   have hj:j<b.size:=by rw[GX,hl];omega
   refine⟨⟨.int .u8 (b[j].toNat:Int),?_,?_⟩,rfl,rfl,rfl⟩
   ·simp [execOp,ho,Instr.index,hi,hb,asIntOf,hu,hj]
   ·have:s.getD (Int.ofNat j).toNat 0=b[j]:=by
      subst hl
      show b.data.toList.getD j 0=b[j]
      rw[List.getD_eq_getElem?_getD,List.getElem?_eq_getElem (by rw[<- GX];exact hj)]
      obtain⟨⟨l⟩⟩:=b;rfl
    simp only[Dl.g]
    rw[show((j:Int)).toNat=(Int.ofNat j).toNat from rfl,this]
    exact .mkInt _ _
def ORl (O:Own) (Aa:List (Nat×Obj)) (m:Nat->Value) (w:World):Option Value->Option A->Prop
  | none,none=>True
  | some v,some x=>Ar O Aa m w v x
  | _,_=>False
theorem JC {isS:Bool} {len cap:Nat} {lo hi:Option Value} {lo' hi':Option A} (hl:ORl O Aa m w lo lo') (hh:ORl O Aa m w hi hi') (hc:len<=cap) {r:List Bool×Nat×Nat} (h:bI len lo' hi'=some r) (hok:Ak r.1) :
    (Instr.sliceBounds isS len cap lo hi none).run P w= .ok (r.2.1,r.2.2,cap) w/\r.2.1<=r.2.2/\r.2.2<=len:=by
  unfold bI at h
  split at h
  ·injection h with h;subst h
   cases lo<;>cases hi<;>simp [ORl]at hl hh
   simp [Instr.sliceBounds]
  ·injection h with h;subst h
   cases lo<;>cases hi<;>simp only[ORl]at hl hh
   obtain⟨h1,h2⟩:=hok.cons
   have h2:=h2.cons.1
   simp at h1 h2
   have hl:=hl.int
   rename_i q _ _ _
   obtain⟨j,rfl⟩:=Int.eq_ofNat_of_zero_le h1
   have:j<=len:=by simpa using h2
   simp [Instr.sliceBounds,Instr.sliceBound,hl,asIntOf,this]
  ·injection h with h;subst h
   cases lo<;>cases hi<;>simp only[ORl]at hl hh
   obtain⟨h1,h2⟩:=hok.cons
   have h2:=h2.cons.1
   simp at h1 h2
   have hh:=hh.int
   rename_i q _ _ _
   obtain⟨j,rfl⟩:=Int.eq_ofNat_of_zero_le h1
   have:j<=len:=by simpa using h2
   have h3:j<=cap:=by omega
   simp [Instr.sliceBounds,Instr.sliceBound,hh,asIntOf,h3,this]
  ·injection h with h;subst h
   cases lo<;>cases hi<;>simp only[ORl]at hl hh
   obtain⟨h1,h2⟩:=hok.cons
   obtain⟨h2,h3⟩:=h2.cons
   have h3:=h3.cons.1
   simp at h1 h2 h3
   have hl:=hl.int
   have hh:=hh.int
   rename_i p _ q _ _ _
   obtain⟨j,rfl⟩:=Int.eq_ofNat_of_zero_le h1
   obtain⟨i,rfl⟩:=Int.eq_ofNat_of_zero_le (Int.le_trans h1 h2)
   have h4:i<=len:=by simpa using h3
   have h5:j<=i:=by simpa using h2
   have h6:i<=cap:=by omega
   simp [Instr.sliceBounds,Instr.sliceBound,hl,hh,asIntOf,h4,h5,h6]
  ·cases h
theorem ZM (s:ByteArray) (i j:Nat):(s.extract i j).data.toList=AO s.data.toList i j:=by
  simp [AO,ByteArray.data_extract,List.drop_take]
end
end Go.Proofs.YtbaomhegdndpnaaGreatDoor.Vm
namespace Go.Proofs.YtbaomhegdndpnaaGreatDoor.Vm
section
variable {P:Program} {C:Ctx} {O:Own} {Aa:List (Nat×Obj)} {m:Nat->Value} {a:Act} {w:World} {o:Oper} {fet:Fet}
theorem Ai.cut {v:Value} {q:Sl} (h:Ai O w v (.sl q)) (l r:Nat) (hlr:l<=r) (hr:r<=q.es.length) :
    ∃ ad n c,v= .slice ad n c/\n=q.es.length/\n<=c/\(∀ cap',cap'=c->Ai O w (.slice (if cap'=l then ad else ad.map (·.add (l*q.sz))) (r - l) (cap' - l)) (.sl ⟨q.t,AO q.xs l r⟩)):=by
  cases h with
  | nil =>
    have:r=0:=by simpa [Sl.es]using hr
    subst this
    have:l=0:=by omega
    subst this
    refine⟨none,0,0,rfl,rfl,Nat.le_refl _,fun cap' hc=> ?_⟩
    subst hc
    simp [AO];exact .nil _
  | sl0 ad t =>
    have:r=0:=by simpa [Sl.es]using hr
    subst this
    have:l=0:=by omega
    subst this
    refine⟨some ad,0,0,rfl,rfl,Nat.le_refl _,fun cap' hc=> ?_⟩
    subst hc
    simp [AO];exact .sl0 _ _
  | @sl b off cap _ vs hc hm hr' =>
    refine⟨_,_,_,rfl,rfl,hc,fun cap' hc'=> ?_⟩
    subst hc'
    have hes:(⟨q.t,AO q.xs l r⟩:Sl).es=AO q.es l r:=q.Adm l r
    have hlen:(AO q.es l r).length=r - l:=by simp [AO];omega
    have hget: ∀ i,i<r - l->(AO q.es l r).getD i []=q.es.getD (l+i) []:=by
      intro i hi
      all_goals grind[AO]
    have hlen':(⟨q.t,AO q.xs l r⟩:Sl).es.length=r - l:=by rw[hes];exact hlen
    by_cases hcl:cap'=l
    ·have h0:r - l=0:=by omega
     rw[if_pos hcl,<- hlen']
     exact Ai.sl (b:=b) (off:=off) (cap:=cap' - l) (fun _ _=>undef) (by omega) (fun i j hi _=>absurd hi (by omega)) (fun i j hi _=>absurd hi (by omega))
    ·rw[if_neg hcl]
     simp only[Option.map_some,FM]
     rw[<- hlen']
     refine Ai.sl (fun i j=>vs (l+i) j) (by omega) (fun i j hi hj=> ?_) (fun i j hi hj=> ?_)
     ·have:=hm (l+i) j (by omega) hj
      rw[Nat.add_mul]at this
      rw[show off+l*q.sz+(i*(⟨q.t,AO q.xs l r⟩:Sl).sz+j)=off+(l*q.sz+i*q.sz+j)from by show off+l*q.sz+(i*q.sz+j)=_;omega];exact this
     ·rw[hes,hget i (by omega)];exact hr' (l+i) j (by omega) hj
theorem AdS {t:Nat} {x:Operand} {lo hi mx:Option Operand} (hC:TOk P C) (ho:o.op= .slice t x lo hi mx) (hmx:mx=none) {s:List UInt8} {lo' hi':Option A} (hx:Ar O Aa m w (a.eval x) (.str s))
    (hlo:ORl O Aa m w (lo.map a.eval) lo') (hhi:ORl O Aa m w (hi.map a.eval) hi')
    (hok:Ak (CG C fet t (.str s) lo' hi').ok):Pure P O Aa m a w o (CG C fet t (.str s) lo' hi'):=by
  subst hmx
  unfold CG at hok ⊢
  obtain⟨ti,ht,he⟩:=Bh hok
  rw[he]at hok ⊢
  dsimp only at hok ⊢
  obtain⟨r,hr,he⟩:=AB hok
  rw[he]at hok ⊢
  obtain⟨h1,h2⟩:=hok.cons
  have hd:=Yl h1
  have hu:=(hC.is ht).run w
  rw[hd]at hu
  obtain⟨b,hb,hl⟩:=hx.str
  subst hl
  obtain⟨h3,h4,h5⟩:=JC (isS:=false) (P:=P) (cap:=b.data.toList.length) hlo hhi (Nat.le_refl _) hr h2
  refine⟨⟨.string (b.extract r.2.1 r.2.2),?_,.mkStr _ (ZM _ _ _)⟩,rfl,rfl,rfl⟩
  rw[<- GX]at h3
  simp only[execOp,ho,Instr.sliceAt,Sem.run_bind,hu,Result.andThen_ok,Instr.slice,hb,Option.map_none,Option.isSome_none,Bool.false_eq_true,if_false,h3,Sem.run_pure]
theorem Aff {t:Nat} {x:Operand} {lo hi mx:Option Operand} (hC:TOk P C) (ho:o.op= .slice t x lo hi mx) (hmx:mx=none) {l:Sl} {lo' hi':Option A} (hx:Ar O Aa m w (a.eval x) (.sl l))
    (hlo:ORl O Aa m w (lo.map a.eval) lo') (hhi:ORl O Aa m w (hi.map a.eval) hi')
    (hok:Ak (CG C fet t (.sl l) lo' hi').ok):Pure P O Aa m a w o (CG C fet t (.sl l) lo' hi'):=by
  subst hmx
  unfold CG at hok ⊢
  obtain⟨ti,ht,he⟩:=Bh hok
  rw[he]at hok ⊢
  dsimp only at hok ⊢
  obtain⟨r,hr,he⟩:=AB hok
  rw[he]at hok ⊢
  obtain⟨e,hel,he⟩:=AB hok
  rw[he]at hok ⊢
  obtain⟨te,hte,he⟩:=Bh hok
  rw[he]at hok ⊢
  obtain⟨h1,h2⟩:=hok.cons
  have hd:=G8 hel
  have hu:=(hC.is ht).run w
  rw[hd]at hu
  have hs:=(hC.is hte).Em w
  have hsz:=Nat.eq_of_beq_eq_true h1
  rw[<- hsz]at hs
  rw[<- Sl.BB]at hr
  have hx':Ai O w (a.eval x) (.sl l):=hx
  obtain⟨h4,h5⟩:r.2.1<=r.2.2/\r.2.2<=l.es.length:=(JC (isS:=true) (P:=P) hlo hhi (Nat.le_refl _) hr h2).2
  obtain⟨ad,n,c,hv,hn,hc,hcut⟩:=hx'.cut r.2.1 r.2.2 h4 h5
  obtain⟨h3,_,_⟩:=JC (isS:=true) (P:=P) (cap:=c) hlo hhi (by rw[<- hn];exact hc) hr h2
  rw[<- hn]at h3
  refine⟨⟨_,?_,hcut c rfl⟩,rfl,rfl,rfl⟩
  simp only[execOp,ho,Instr.sliceAt,Sem.run_bind,hu,Result.andThen_ok,Instr.slice,hv,Option.map_none,h3,hs,Sem.run_pure]
theorem AeP {fet:Fet} {x:A} {p:Nat×Mp} (h:mp? fet x=some p):x= .own p.1/\Af fet p.1=some (.mp p.2):=by
  unfold mp? at h
  split at h
  ·split at h
   ·rename_i l hg;injection h with h;subst h;exact⟨rfl,hg⟩
   ·cases h
  ·cases h
theorem vC (hF:FOk O Aa m w fet) {x:A} {v:Value} {p:Nat×Mp} (hx:Ar O Aa m w v x) (h:mp? fet x=some p) :
    Af Aa p.1=some (.mp p.2)/\v=m p.1/\Ee O w p.1 (m p.1) p.2:=by
  obtain⟨rfl,hg⟩:=AeP h
  obtain⟨h1,h2⟩:=hF _ _ hg
  have hc:Aw O Aa m w v (.own p.1):=hx
  have hc:=hc.2
  rw[h1]at hc
  exact⟨h1,hc,h2⟩
theorem Ee.lists {q:Nat} {v:Value} {l:Mp} (h:Ee O w q v l): ∃ r es ck,v= .map (some r)/\w.heap[r]? =some (.map es ck)/\O r 0=some q/\es.toList.length=l.l.length /\
    (∀(i:Nat) (e:MapEntry) (p:l.kt.Val×l.vt.Val),es.toList[i]? =some e->l.l[i]? =some p->Dy O w e.key (Ea (l.kt.cells p.1))/\Dy O w e.val (Ea (l.vt.cells p.2))):=by grind[Ee,Dy,Ea]
theorem Ag6 {n e:Nat} {frz:Bool} {l:Sl} (hg:Af fet n=some (.arr e frz l)):rd fet (.own n)=([],l):=by grind[Af,rd]
theorem yT {x:A} (hok:Ak (rd fet x).1):(∃ n e frz l,x= .own n/\Af fet n=some (.arr e frz l)/\(rd fet x).2=l)\/(x= .BK/\(rd fet x).2=default)\/ ∃ l,x= .sl l/\(rd fet x).2=l:=by
  cases x with
  | own n =>
    cases hg:Af fet n with
    | none=>simp_all[rd,Af,Ak]
    | some y =>
      cases y with
      | box cs=>simp_all[rd,Af,Ak]
      | arr e frz l=>grind[Ag6,Ak,rd,Af]
      | mp l=>simp_all[rd,Af,Ak]
  | BK=>exact .inr (.inl ⟨rfl,rfl⟩)
  | sl l=>exact .inr (.inr ⟨l,rfl,rfl⟩)
  | _=>simp_all[rd,Ak,Af]
theorem Ag5 {x:A} {v:Value} (hf:FOk O Aa m w fet) (hx:Ar O Aa m w v x) (hok:Ak (rd fet x).1): ∃ ad c,v= .slice ad (rd fet x).2.xs.length c:=by
  rcases yT hok with ⟨n,e,frz,l,rfl,hg,hl⟩ | ⟨rfl,hl⟩ | ⟨l,rfl,hl⟩<;>rw[hl]
  ·obtain⟨h1,_,h2⟩:=hx.own hf hg
   rw[<- Sl.BB]
   rcases h2 with ⟨_,h3,h4⟩ | ⟨_,g,cap,cur,h4,_⟩
   all_goals simp_all[at',FOk,Ar,Ak,rd]
  ·exact⟨none,0,hx⟩
  ·have hx':Ai O w v (.sl l):=hx
   cases hx' with
   | nil=>exact⟨none,0,rfl⟩
   | sl0 ad=>exact⟨some ad,0,rfl⟩
   | sl=>grind[Sl.BB]
theorem AeJ {c:Call} {t:Nat} {x:Operand} (hC:TOk P C) (hf:FOk O Aa m w fet) (ho:o.op= .call c) (hcal:c.callee= .builtin .len) (hargs:c.args= #[x]) (hty:c.argTypes.toList=[t]) {x':A} (hx:Ar O Aa m w (a.eval x) x')
    (hok:Ak (nV C fet t x').ok):Pure P O Aa m a w o (nV C fet t x'):=by
  have hat:c.argTypes= #[t]:=by
    have:=congrArg List.toArray hty
    simpa using this
  unfold nV at hok ⊢
  obtain⟨ti,ht,he⟩:=Bh hok
  rw[he]at hok ⊢
  have hu:=(hC.is ht).run w
  split at hok
  ·rename_i hd
   rw[hd]at hu
   obtain⟨s,hs,he⟩:=AB hok
   rw[he]at hok ⊢
   have:=YK hs
   subst this
   obtain⟨b,hb,hl⟩:=hx.str
   subst hl
   refine⟨⟨.int .i64 b.size,?_,?_⟩,rfl,rfl,rfl⟩
   ·simp [execOp,ho,resolve,hcal,hargs,hat,invoke,builtin,Builtin.len_,hu,hb,goInt]
   ·rw[GX];exact .mkInt _ _
  ·rename_i n e hd
   rw[hd]at hu
   refine⟨⟨.int .i64 n,?_,.mkInt _ _⟩,rfl,rfl,rfl⟩
   simp [execOp,ho,resolve,hcal,hargs,hat,invoke,builtin,Builtin.len_,hu,goInt]
  ·rename_i e hd
   rw[hd]at hu
   split at hok
   ·rename_i q k
    obtain⟨cs,hb,he⟩:=AB hok
    rw[he]
    have hc:Aw O Aa m w (a.eval x) (.bsl q k):=hx
    have hc:=hc.2
    rw[(hf _ _ (BV hb)).1]at hc
    obtain⟨b,base,_,hv⟩:=hc
    refine⟨⟨.int .i64 (k:Int),?_,.mkInt _ _⟩,rfl,rfl,rfl⟩
    simp [execOp,ho,resolve,hcal,hargs,hat,invoke,builtin,Builtin.len_,hu,hv,goInt]
   ·rename_i y hne
    obtain⟨ad,cp,hv⟩:=Ag5 hf hx hok
    refine⟨⟨.int .i64 (rd fet x').2.xs.length,?_,.mkInt _ _⟩,rfl,rfl,rfl⟩
    simp [execOp,ho,resolve,hcal,hargs,hat,invoke,builtin,Builtin.len_,hu,hv,goInt]
  ·rename_i kt et hd
   rw[hd]at hu
   obtain⟨p,hp,he⟩:=AB hok
   rw[he]at hok ⊢
   obtain⟨_,hv,hM⟩:=vC hf hx hp
   obtain⟨r,es,ck,h1,h2,h3,h4,h5⟩:=hM.lists
   have hsz:(es.size:Int)=(p.2.l.length:Int):=by rw[<- h4,Array.length_toList]
   refine⟨⟨.int .i64 (p.2.l.length:Int),?_,.mkInt _ _⟩,rfl,rfl,rfl⟩
   have hg:(getObj r).run P w= .ok (.map es ck) w:=by simp [getObj,Sem.run,h2]
   simp [execOp,ho,resolve,hcal,hargs,hat,invoke,builtin,Builtin.len_,hu,hv,h1,hg,hsz,goInt]
  ·exact(Az hok).elim
theorem wW {i:Nat} {x:Operand} (ho:o.op= .extract x i) {x':A} (hx:Ar O Aa m w (a.eval x) x') (hok:Ak (Vq i x').ok):Pure P O Aa m a w o (Vq i x'):=by
  unfold Vq at hok ⊢
  obtain⟨l,hl,he⟩:=AB hok
  rw[he]at hok ⊢
  have:x'= .tup l:=by unfold AgL at hl;split at hl<;>simp_all
  subst this
  obtain⟨vs,h1,h2,h3⟩:=hx
  have hi:i<l.length:=by simpa [Dl.g,Jc]using hok.cons.1
  refine⟨⟨vs.getD i undef,?_,(h3 i hi).toT⟩,rfl,rfl,rfl⟩
  have:vs[i]? =some (vs.getD i undef):=by
    rw[Array.getD_eq_getD_getElem?,Array.getElem?_eq_getElem (by omega)];simp
  generalize vs.getD i undef=z at *
  simp only[execOp,ho,Instr.extract,h1,this,Sem.run_bind,Sem.run_pure,Result.andThen_ok]
end
end Go.Proofs.YtbaomhegdndpnaaGreatDoor.Vm
namespace Go.Proofs.YtbaomhegdndpnaaGreatDoor.Vm
section
variable {P:Program} {C:Ctx} {O:Own} {Aa:List (Nat×Obj)} {m:Nat->Value} {a:Act} {w:World} {o:Oper} {fet:Fet}
theorem getD_eq {vs:Array Value} {j:Nat} (h:j<vs.size):vs[j]? =some (vs.getD j undef):=by
  rw[Array.getD_eq_getD_getElem?,Array.getElem?_eq_getElem h];rfl
theorem AeR {t:Nat} {ti:TI} (hT:IV P t ti) {vs:Array Value} {cs:List A} {off:Nat} (h1:vs.size=cs.length) (h2: ∀ j,j<cs.length->Aw O Aa m w (vs.getD j undef) (cs.getD j .undef))
    (h3:off+ti.cs.length<=cs.length) (h4:0<ti.cs.length): ∃ v,(part t vs off).run P w= .ok v w/\T1 O Aa m w v (Zb ti cs off):=by
  unfold part Zb
  simp only[Sem.run_bind,hT.zA,Result.andThen_ok]
  cases hg:ti.agg with
  | true =>
    refine⟨.agg (vs.extract off (off+ti.cs.length)),by simp [hT.Em],_,rfl,by simp;omega,fun j hj=> ?_⟩
    simp only[List.length_take,List.length_drop]at hj
    have hb:=h2 (off+j) (by omega)
    have e1:(vs.extract off (off+ti.cs.length)).getD j undef=vs.getD (off+j) undef:=by
      rw[Array.getD_eq_getD_getElem?,Array.getD_eq_getD_getElem?,Array.getElem?_extract]
      rw[if_pos (by omega)]
    have e2:((cs.drop off).take ti.cs.length).getD j .undef=cs.getD (off+j) .undef:=by
      simp only[List.getD_eq_getElem?_getD,List.getElem?_take,List.getElem?_drop]
      rw[if_pos (by omega)]
    rw[e1];simp only[e2];exact hb
  | false =>
    have hb:=h2 off (by omega)
    refine⟨vs.getD off undef,?_,?_⟩
    ·have:=getD_eq (vs:=vs) (j:=off) (by omega)
     generalize vs.getD off undef=z at *
     simp [this]
    ·simp only[cond_false]
     generalize cs.getD off .undef=c at *
     cases c<;>first | exact hb | exact hb.elim
theorem aH {d:TypeDesc} {f:Nat} {p:Nat×TI} (h:kE C d f=some p): ∃ fs x,d= .struct fs/\fs[f]? =some x/\x.offset=p.1/\C.T x.type=some p.2:=by
  unfold kE at h
  split at h
  ·rename_i fs
   split at h
   ·rename_i x hx
    split at h
    ·rename_i ti ht
     injection h with h;subst h
     exact⟨fs,x,rfl,by simpa using hx,rfl,ht⟩
    ·cases h
   ·cases h
  ·cases h
theorem AbG {t f:Nat} {x:Operand} (hC:TOk P C) (ho:o.op= .field t x f) {x':A} (hx:Ar O Aa m w (a.eval x) x') (hok:Ak (iJ C t f x').ok):Pure P O Aa m a w o (iJ C t f x'):=by
  unfold iJ at hok ⊢
  obtain⟨ti,ht,he⟩:=Bh hok
  rw[he]at hok ⊢;clear he
  obtain⟨p,hp,he⟩:=AB hok
  rw[he]at hok ⊢;clear he
  obtain⟨cs,hcs,he⟩:=AB hok
  rw[he]at hok ⊢;clear he
  obtain⟨fs,fx,hd,hfx,hoff,htf⟩:=aH hp
  have:x'= .agg cs:=by unfold Agd at hcs;split at hcs<;>simp_all
  subst this
  obtain⟨vs,h1,h2,h3⟩:=hx
  obtain⟨h4,h5⟩:=hok.cons
  have h5:=h5.cons.1
  have h4:=Nat.le_of_ble_eq_true h4
  have h5:0<p.2.cs.length:=by simpa [Nat.blt_eq]using h5
  have hu:=(hC.is ht).run w
  rw[hd]at hu
  obtain⟨v,hv,hr⟩:=AeR (off:=p.1) (hC.is htf) h2 h3 h4 h5
  refine⟨⟨v,?_,hr.toT⟩,rfl,rfl,rfl⟩
  simp [execOp,ho,Instr.field,hu,hfx,h1,asAgg,hoff,hv]
theorem Aej {x':A} {v:Value} {off n:Nat} (hf:FOk O Aa m w fet) (hx:Ar O Aa m w v x') (hok:Ak (OT off n fet x').ok) :
    ∃ b k,v= .pointer (some (at' b k))/\Ar O Aa m w (.pointer (some (at' b (k+off)))) (OT off n fet x').val/\(OT off n fet x').new=[]/\(OT off n fet x').upd=[]/\(OT off n fet x').del=[]:=by
  unfold OT at hok ⊢
  split at hok
  ·obtain⟨cs,hcs,he⟩:=AB hok
   rw[he]at hok ⊢;clear he
   rename_i q p
   obtain⟨b,base,h1,h2,h3⟩:=hx.ptr hf (BV hcs)
   refine⟨b,base+p,h2,?_,rfl,rfl,rfl⟩
   have hg:=(hf _ _ (BV hcs)).1
   show Aw O Aa m w _ (.ptr q (p+off))
   simp only[Aw,hg,Option.map_some,Obj.shp]
   exact⟨rfl,b,base,h1,by rw[Nat.add_assoc]⟩
  ·rename_i cs
   obtain⟨b,k,h1,h2⟩:=(show Aw O Aa m w v (.elt cs)from hx)
   refine⟨b,k,h1,?_,rfl,rfl,rfl⟩
   refine⟨b,k+off,rfl,fun j hj=> ?_⟩
   simp only[List.length_drop]at hj
   have:=h2 (off+j) (by omega)
   rw[Nat.add_assoc]
   have e:(cs.drop off).getD j .undef=cs.getD (off+j) .undef:=by simp [List.getD_eq_getElem?_getD,List.getElem?_drop]
   rw[e];exact this
  ·rename_i q i p
   obtain⟨r,hr,he⟩:=AB hok
   rw[he]at hok ⊢;clear he
   have hi:i<r.l.es.length:=by rw[Sl.BB];simpa [Dl.g]using hok.cons.1
   have hx':Aw O Aa m w v (.Bc q i p):=hx
   have hg:=(hf _ _ (Dq hr)).1
   simp only[Aw,hg,Option.map_some,Obj.shp]at hx'
   obtain⟨g,n',cap,h1,h2⟩:=hx'.2 hi
   refine⟨g,_,h2,?_,rfl,rfl,rfl⟩
   show Aw O Aa m w _ (.Bc q i (p+off))
   simp only[Aw,hg,Option.map_some,Obj.shp]
   refine⟨rfl,fun _=> ?_⟩
   exact⟨g,n',cap,h1,by rw[Nat.add_assoc]⟩
  ·exact(Az hok).elim
theorem nI {t f:Nat} {x:Operand} (hC:TOk P C) (hf:FOk O Aa m w fet) (ho:o.op= .fieldAddr t x f) {x':A} (hx:Ar O Aa m w (a.eval x) x') (hok:Ak (I5 C fet t f x').ok):Pure P O Aa m a w o (I5 C fet t f x'):=by
  unfold I5 at hok ⊢
  obtain⟨ti,ht,he⟩:=Bh hok
  rw[he]at hok ⊢;clear he
  obtain⟨p,hp,he⟩:=AB hok
  rw[he]at hok ⊢;clear he
  obtain⟨fs,fx,hd,hfx,hoff,htf⟩:=aH hp
  obtain⟨h1,h2⟩:=hok.cons
  have h1:0<p.2.cs.length:=by simpa [Nat.blt_eq]using h1
  obtain⟨b,k,h3,h4,h5,h6,h7⟩:=Aej hf hx h2
  have hu:=(hC.is ht).run w
  rw[hd]at hu
  have hs:=(hC.is htf).Em w
  refine⟨⟨_,?_,h4⟩,h5,h6,h7⟩
  have h0:p.2.cs.length≠0:=by omega
  simp [execOp,ho,Instr.fieldAt,hu,hfx,h3,Instr.sureAddr,fieldPlace,hs,h0,FM,hoff]
theorem nR {t:Nat} {x i:Operand} (hC:TOk P C) (hf:FOk O Aa m w fet) (ho:o.op= .indexAddr t x i) {x' i':A} (hx:Ar O Aa m w (a.eval x) x') (hi:Ar O Aa m w (a.eval i) i')
    (hok:Ak (Pn C fet t x' i').ok):Pure P O Aa m a w o (Pn C fet t x' i'):=by
  unfold Pn at hok ⊢
  split at hok
  ·rename_i q i0 off0
   obtain⟨n,hn,he⟩:=AB hok
   rw[he]at hok ⊢;clear he
   obtain⟨k,rfl⟩:=Ii hn
   have hi:=hi.int
   obtain⟨ti,ht,he⟩:=Bh hok
   rw[he]at hok ⊢;clear he
   obtain⟨p,hp,he⟩:=AB hok
   rw[he]at hok ⊢;clear he
   obtain⟨te,hte,he⟩:=Bh hok
   rw[he]at hok ⊢;clear he
   obtain⟨r,hr,he⟩:=AB hok
   rw[he]at hok ⊢;clear he
   obtain⟨h1,h2⟩:=hok.cons
   obtain⟨h2,h3⟩:=h2.cons
   obtain⟨h3,h4⟩:=h3.cons
   obtain⟨h4,h5⟩:=h4.cons
   obtain⟨h5,h6⟩:=h5.cons
   have h6:=h6.cons.1
   have h1:=Nat.eq_of_beq_eq_true h1
   have h2:=Nat.eq_of_beq_eq_true h2
   have h3:=Nat.eq_of_beq_eq_true h3
   subst h1;subst h2
   have h4:0<=n:=by simpa using h4
   have h5:n<(p.1:Int):=by simpa using h5
   have h6:n.toNat<r.l.es.length:=by rw[Sl.BB];simpa using h6
   have hx':Aw O Aa m w (a.eval x) (.Bc q 0 0):=hx
   have hg:=(hf _ _ (Dq hr)).1
   simp only[Aw,hg,Option.map_some,Obj.shp]at hx'
   obtain⟨g,n',cap,e1,e2⟩:=hx'.2 (by omega)
   have hd:ti.d= .array p.1 p.2:=by
     unfold UO at hp
     split at hp
     ·rename_i hd;injection hp with hp;rw[hd,<- hp]
     ·cases hp
   have hu:=(hC.is ht).run w
   rw[hd]at hu
   have hs:=(hC.is hte).Em w
   refine⟨⟨.pointer (some (at' g (n.toNat*te.cs.length))),?_,?_⟩,rfl,rfl,rfl⟩
   ·have e2':a.eval x= .pointer (some (at' g 0)):=by rw[e2];simp
    simp [execOp,ho,Instr.indexAt,hi,asIntOf,hu,e2',Instr.sureAddr,h4,h5,hs,FM]
   ·show Aw O Aa m w _ (.Bc q n.toNat 0)
    simp only[Aw,hg,Option.map_some,Obj.shp]
    refine⟨rfl,fun _=>⟨g,n',cap,e1,by rw[h3];rfl⟩⟩
  ·rename_i cs
   obtain⟨n,hn,he⟩:=AB hok
   rw[he]at hok ⊢;clear he
   obtain⟨k,rfl⟩:=Ii hn
   have hi:=hi.int
   obtain⟨m',e,kk,te,he,hu,hte,hcs,_⟩:=vU hC hok
   rw[he]at hok ⊢
   obtain⟨h1,h2,h3,h4,h5⟩:=yC hok
   obtain⟨b,off,g1,g2⟩:=(show Aw O Aa m w _ (.elt cs)from hx)
   have hs:=(hC.is hte).Em w
   have hrun:=run_underlying hu w
   refine⟨⟨.pointer (some (at' b (off+n.toNat))),?_,?_⟩,rfl,rfl,rfl⟩
   ·simp [execOp,ho,Instr.indexAt,hi,asIntOf,hrun,g1,Instr.sureAddr,h2,h3,hs,hcs,FM]
   ·refine⟨b,off+n.toNat,rfl,fun j hj=> ?_⟩
    have:j=0:=by simpa using hj
    subst this
    obtain⟨a1,u,a2,a3⟩:=g2 n.toNat h4
    rw[h5]at a3
    exact⟨a1,u,a2,a3⟩
  ·rename_i y hne _
   clear hne
   obtain⟨n,hn,he⟩:=AB hok
   rw[he]at hok ⊢;clear he
   obtain⟨k,rfl⟩:=Ii hn
   have hi:=hi.int
   unfold elemOf at hok ⊢
   obtain⟨ti,ht,he⟩:=Bh hok
   rw[he]at hok ⊢;clear he
   obtain⟨e,hel,he⟩:=AB hok
   rw[he]at hok ⊢;clear he
   obtain⟨te,hte,he⟩:=Bh hok
   rw[he]at hok ⊢;clear he
   have hu:=(hC.is ht).run w
   rw[G8 hel]at hu
   have hs:=(hC.is hte).Em w
   have run: ∀ b off len cap,a.eval x= .slice (some (at' b off)) len cap->0<=n->n<(len:Int)->(execOp a.eval o).run P w= .ok (.value (.pointer (some (at' b (off+n.toNat*te.cs.length))))) w:=by
     intro b off len cap h1 h2 h3
     simp [execOp,ho,Instr.indexAt,hi,asIntOf,hu,h1,h2,h3,hs,FM]
   dsimp only at hok ⊢
   split at hok
   ·rename_i q _
    obtain⟨r,hr,he⟩:=AB hok
    rw[he]at hok
    rw[he];clear he
    obtain⟨h1,h2⟩:=hok.cons
    obtain⟨h2,h3⟩:=h2.cons
    have h3:=h3.cons.1
    have h1:=Nat.eq_of_beq_eq_true h1
    have h2:0<=n:=by simpa using h2
    have h3:n<(r.l.es.length:Int):=by rw[Sl.BB];simpa using h3
    obtain⟨h4,_,h5⟩:=hx.own hf (Dq hr)
    have hg:=(hf _ _ (Dq hr)).1
    rcases h5 with ⟨_,h6,_⟩ | ⟨_,g,cap,cur,h6,_⟩
    ·rw[h6]at h3;simp at h3;omega
    ·refine⟨⟨_,run g 0 _ cap (by rw[h4,h6]) h2 h3,?_⟩,rfl,rfl,rfl⟩
     show Aw O Aa m w _ (.Bc q n.toNat 0)
     simp only[Aw,hg,Option.map_some,Obj.shp]
     refine⟨rfl,fun _=> ?_⟩
     exact⟨g,_,_,h6,by rw[<- h1];simp⟩
   ·rename_i l _
    obtain⟨h1,h2⟩:=hok.cons
    obtain⟨h0,h2⟩:=h2.cons
    obtain⟨h2,h3⟩:=h2.cons
    have h3:=h3.cons.1
    have h1:=Nat.eq_of_beq_eq_true h1
    have h2:0<=n:=by simpa using h2
    have h3:n<(l.es.length:Int):=by rw[Sl.BB];simpa using h3
    have hx':Ai O w (a.eval x) (.sl l):=hx
    generalize hv:a.eval x=v at hx'
    cases hx' with
    | nil=>simp [Sl.es]at h3;omega
    | sl0=>simp [Sl.es]at h3;omega
    | @sl b off cap _ vs hc hm hr =>
      refine⟨⟨_,run b off _ cap hv h2 h3,?_⟩,rfl,rfl,rfl⟩
      have hj:n.toNat<l.es.length:=by omega
      refine⟨b,_,rfl,fun j hjj=> ?_⟩
      rw[Sl.AcK]at hjj
      obtain⟨h4,h5⟩:=hm n.toNat j hj hjj
      rw[<- h1,Nat.add_assoc]
      rw[l.at_eq (by rw[<- Sl.BB];exact hj)]
      exact⟨h4,_,h5,hr n.toNat j hj hjj⟩
   ·rename_i q k _
    obtain⟨cs,hb,he⟩:=AB hok
    rw[he]at hok
    rw[he];clear he
    obtain⟨h1,h2⟩:=hok.cons
    obtain⟨h2,h3⟩:=h2.cons
    have h3:=h3.cons.1
    have h1:=Nat.eq_of_beq_eq_true h1
    have h2:0<=n:=by simpa using h2
    rw[Nat.blt_eq]at h3
    have hg:=(hf _ _ (BV hb)).1
    have hc:Aw O Aa m w (a.eval x) (.bsl q k):=hx
    have hc:=hc.2
    rw[hg]at hc
    obtain⟨b,base,e1,e2⟩:=hc
    refine⟨⟨_,run b base _ k e2 h2 (by omega),?_⟩,rfl,rfl,rfl⟩
    show Aw O Aa m w _ (.ptr q n.toNat)
    refine⟨rfl,?_⟩
    rw[hg,h1,Nat.mul_one]
    exact⟨b,base,e1,rfl⟩
   ·exact(Az hok).elim
theorem sQ {x:Operand} (hf:FOk O Aa m w fet) (ho:o.op= .nilCheck x) {x':A} (hx:Ar O Aa m w (a.eval x) x') (hok:Ak (JL fet x').ok):Pure P O Aa m a w o (JL fet x'):=by
  unfold JL at hok ⊢
  split at hok
  ·obtain⟨cs,hcs,he⟩:=AB hok
   rw[he]at hok ⊢;clear he
   obtain⟨b,base,h1,h2,h3⟩:=hx.ptr hf (BV hcs)
   refine⟨⟨a.eval x,?_,hx⟩,rfl,rfl,rfl⟩
   rw[h2]
   simp [execOp,ho,h2]
  ·exact(Az hok).elim
theorem Ai.one {u:Value} {c:A} (h:Ai O w u c):u.oneCell'=true:=by
  induction h<;>first | rfl | assumption
theorem XX {k:CK} {u:Value} {c:A} (h:Ai O w u c) (hok:Ak (force k c).1):Aw O Aa m w u (force k c).2:=by
  cases k with
  | bool=>have:=hok.cons.1;cases h<;>simp [A.isB]at this;exact .bool _
  | int k =>
    have:=hok.cons.1
    cases h<;>simp [A.isI]at this
    have:=Ff this
    subst this
    exact .int _ _
  | str=>have:=hok.cons.1;cases h<;>simp [A.isS]at this;exact .str _
  | sl e sz =>
    have:=hok.cons.1
    cases h with
    | nil t=>exact .nil _
    | sl0 a t=>exact Ai.sl0 _ _
    | sl vs h1 h2 h3=>exact .sl vs h1 h2 h3
    | _=>simp [A.nT]at this
  | ptr=>have:=hok.cons.1;cases h<;>simp [A.Us]at this;exact .Cc
  | fn =>
    have:=hok.cons.1
    cases h<;>simp [A.isFn]at this
    ·exact Ai.fn _
    ·exact Ai.RU
  | mp _ _=>have:=hok.cons.1;cases this
  | bx _=>have:=hok.cons.1;cases this
  | sln e sz =>
    have:=hok.cons.1
    cases h with
    | sln h hn=>exact .sln h hn
    | _=>simp [A.YX]at this
  | oth=>exact h.one
theorem iP (cs:List A) (ks:List CK): ∀ off,(forces cs ks off).2.length=ks.length:=by
  induction ks with
  | nil=>intro off;rfl
  | cons k ks ih=>intro off;simp [forces,ih]
theorem AbK (cs:List A) (ks:List CK): ∀(off:Nat) (f:Nat->Value),(∀ j,j<ks.length->Ai O w (f j) (cs.getD (off+j) .undef))->Ak (forces cs ks off).1 ->
    ∀ j,j<ks.length->Aw O Aa m w (f j) ((forces cs ks off).2.getD j .undef):=by
  induction ks with
  | nil=>intro off f _ _ j hj;simp at hj
  | cons k ks ih =>
    intro off f h hok j hj
    obtain⟨h1,h2⟩:=hok.append
    cases j with
    | zero=>exact XX (by have:=h 0 (by simp);simpa using this) h1
    | succ j =>
      have:=ih (off+1) (fun j=>f (j+1)) (fun j hj=>by have:=h (j+1) (by simpa using hj);rwa [show off+(j+1)=off+1+j from by omega]at this) h2 j (by simpa using hj)
      simpa [forces]using this
theorem Ju {t:Nat} {ti:TI} (hT:IV P t ti) {b k:Nat} (f:Nat->Value) (hc: ∀ j,j<ti.cs.length->w.cell? (at' b (k+j))=some (f j)) (h0:ti.agg=false->0<ti.cs.length) :
    (loadVar t (at' b k)).run P w= .ok (if ti.agg then .agg ((List.range ti.cs.length).map f).toArray else f 0) w:=by
  unfold loadVar
  simp only[Sem.run_bind,hT.zA,Result.andThen_ok]
  cases hg:ti.agg with
  | true =>
    have:=run_loadCells (P:=P) w (at' b k) ti.cs.length f (fun j hj=>by rw[FM];exact hc j hj)
    simp [hT.Em,this]
  | false =>
    have:=hc 0 (h0 hg)
    simp only[Nat.add_zero]at this
    simp [this]
theorem qR {α :Type} {l:List α} {k: α} (h:one? l=some k):l=[k]:=by
  unfold one? at h;split at h<;>simp_all
theorem Yp {t:Nat} {ti:TI} (hT:IV P t ti) {b k off:Nat} {cs:List A} {pre:List Bool} (hc: ∀ j,j<ti.cs.length-> ∃ u,w.cell? (at' b (k+j))=some u/\Ai O w u (cs.getD (off+j) .undef))
    (hok:Ak (Jt ti cs off pre).ok): ∃ v,(loadVar t (at' b k)).run P w= .ok v w/\Ar O Aa m w v (Jt ti cs off pre).val/\(Jt ti cs off pre).new=[]/\(Jt ti cs off pre).upd=[]/\(Jt ti cs off pre).del=[]:=by
  have hf: ∀ j,j<ti.cs.length->w.cell? (at' b (k+j))=some ((w.cell? (at' b (k+j))).getD undef)/\Ai O w ((w.cell? (at' b (k+j))).getD undef) (cs.getD (off+j) .undef):=by
    intro j hj
    obtain⟨u,h1,h2⟩:=hc j hj
    rw[h1];exact⟨rfl,h2⟩
  unfold Jt at hok ⊢
  cases hg:ti.agg with
  | true =>
    rw[hg]at hok
    simp only[cond_true]at hok ⊢
    obtain⟨_,h2⟩:=hok.append
    refine⟨_,Ju hT (fun j=>(w.cell? (at' b (k+j))).getD undef) (fun j hj=>(hf j hj).1) (by simp [hg]),?_,rfl,rfl,rfl⟩
    rw[hg]
    refine⟨_,rfl,by simp [iP],fun j hj=> ?_⟩
    rw[iP]at hj
    have:=AbK (Aa:=Aa) (m:=m) cs ti.cs off (fun j=>(w.cell? (at' b (k+j))).getD undef) (fun j hj=>(hf j hj).2) h2 j hj
    have e:(((List.range ti.cs.length).map fun j=>(w.cell? (at' b (k+j))).getD undef).toArray).getD j undef=(w.cell? (at' b (k+j))).getD undef:=by
      rw[Array.getD_eq_getD_getElem?];simp [hj]
    rw[e];exact this
  | false =>
    rw[hg]at hok
    simp only[cond_false]at hok ⊢
    obtain⟨kk,hk,he⟩:=AB hok
    rw[he]at hok ⊢;clear he
    have hone:=qR hk
    obtain⟨_,h2⟩:=hok.append
    have h0:0<ti.cs.length:=by rw[hone];simp
    refine⟨_,Ju hT (fun j=>(w.cell? (at' b (k+j))).getD undef) (fun j hj=>(hf j hj).1) (fun _=>h0),?_,rfl,rfl,rfl⟩
    rw[hg]
    have:=(hf 0 h0).2
    exact(XX this h2).toT
theorem qH {l:List CK} (h:jH l=true):l=[.ptr]:=by
  unfold jH at h
  split at h
  ·rfl
  ·cases h
theorem qK {t:Nat} {x:Operand} (hC:TOk P C) (hf:FOk O Aa m w fet) (ho:o.op= .load t x) {x':A} (hx:Ar O Aa m w (a.eval x) x') (hok:Ak (MQ C fet t x').ok):Pure P O Aa m a w o (MQ C fet t x'):=by
  unfold MQ at hok ⊢
  obtain⟨ti,ht,he⟩:=Bh hok
  rw[he]at hok ⊢;clear he
  have hT:=hC.is ht
  have run: ∀ b k v,a.eval x= .pointer (some (at' b k))->(loadVar t (at' b k)).run P w= .ok v w->(execOp a.eval o).run P w= .ok (.value v) w:=by
    intro b k v h1 h2
    simp [execOp,ho,Instr.loadAt,Instr.sureAddr,h1,h2]
  split at hok
  ·obtain⟨cs,hcs,he⟩:=AB hok
   rw[he]at hok
   rw[he];clear he
   rename_i q off
   obtain⟨b,base,h1,h2,h3⟩:=hx.ptr hf (BV hcs)
   obtain⟨h4,h5⟩:=hok.cons
   have h4:=Nat.le_of_ble_eq_true h4
   have h5:0<ti.cs.length:=by simpa [Nat.blt_eq]using h5.cons.1
   have hc: ∀ j,j<ti.cs.length->w.cell? (at' b (base+off+j))=some ((w.cell? (at' b (base+off+j))).getD undef)/\Aw O Aa m w ((w.cell? (at' b (base+off+j))).getD undef) (cs.getD (off+j) .undef):=by
     intro j hj
     obtain⟨_,_,u,h6,h7⟩:=h3 (off+j) (by omega)
     rw[Nat.add_assoc,h6];exact⟨rfl,h7⟩
   have hl:=Ju hT (fun j=>(w.cell? (at' b (base+off+j))).getD undef) (fun j hj=>(hc j hj).1) (fun _=>h5)
   refine⟨⟨_,run _ _ _ h2 hl,?_⟩,rfl,rfl,rfl⟩
   simp only[Dl.g,Zb]
   cases hg:ti.agg with
   | true =>
     refine⟨_,rfl,by simp;omega,fun j hj=> ?_⟩
     simp only[List.length_take,List.length_drop]at hj
     have e:(((List.range ti.cs.length).map fun j=>(w.cell? (at' b (base+off+j))).getD undef).toArray).getD j undef=(w.cell? (at' b (base+off+j))).getD undef:=by
       rw[Array.getD_eq_getD_getElem?];simp [show j<ti.cs.length from by omega]
     have e2:((cs.drop off).take ti.cs.length).getD j .undef=cs.getD (off+j) .undef:=by
       simp only[List.getD_eq_getElem?_getD,List.getElem?_take,List.getElem?_drop]
       rw[if_pos (by omega)]
     simp only[e2]
     rw[e];exact(hc j (by omega)).2
   | false=>exact(hc 0 h5).2.toT
  ·rename_i cs
   obtain⟨b,k,h1,h2⟩:=(show Aw O Aa m w _ (.elt cs)from hx)
   have hle:ti.cs.length<=cs.length:=by
     have hA:Ak [Nat.ble ti.cs.length cs.length]:=by
       unfold Jt at hok
       cases hg:ti.agg with
       | true=>rw[hg]at hok;exact(hok.append).1
       | false =>
         rw[hg]at hok
         obtain⟨kk,hk,he⟩:=AB hok
         simp only[cond_false]at hok
         rw[he]at hok;exact(hok.append).1
     exact Nat.le_of_ble_eq_true hA.cons.1
   obtain⟨v,h3,h4,h5,h6,h7⟩:=Yp (Aa:=Aa) (m:=m) (k:=k) (off:=0) hT (fun j hj=>by
     obtain⟨_,u,h8,h9⟩:=h2 j (by omega)
     exact⟨u,h8,by simpa using h9⟩) hok
   exact⟨⟨v,run _ _ _ h1 h3,h4⟩,h5,h6,h7⟩
  ·rename_i k q
   obtain⟨h1,h2⟩:=hok.cons
   obtain⟨h2,h3⟩:=h2.cons
   have h3:ti.agg=false:=by simpa using h3.cons.1
   have h1:=Nat.eq_of_beq_eq_true h1
   subst h1
   have h2:=qH h2
   obtain⟨_,p,hp1,⟨b,j,e1,e2,e3⟩,hc⟩:=(show Aw O Aa m w (a.eval x) (.clo 0 q)from hx)
   have hl:=Ju (P:=P) (w:=w) hT (b:=b) (k:=j) (fun _=>p) (fun i hi=>by
     have:i=0:=by rw[h2]at hi;simpa using hi
     subst this;exact e3) (fun _=>by rw[h2];decide)
   rw[h3]at hl
   refine⟨⟨_,run _ _ _ e1 hl,?_⟩,rfl,rfl,rfl⟩
   exact⟨hp1,hc⟩
  ·rename_i q i off
   obtain⟨r,hr,he⟩:=AB hok
   rw[he]at hok
   rw[he];clear he
   cases hrow:isRow ti r.l i off with
   | true =>
     rw[hrow]at hok
     simp only[cond_true]at hok ⊢
     simp only[isRow,Bool.and_eq_true]at hrow
     obtain⟨⟨⟨r4,r1⟩,r3⟩,r2⟩:=hrow
     have r1:=Nat.eq_of_beq_eq_true r1
     have r2:=Nat.eq_of_beq_eq_true r2
     have r3:=Nat.eq_of_beq_eq_true r3
     have r4:1<ti.cs.length:=by simpa [Nat.blt_eq]using r4
     subst r2;subst r3
     have hA:Ak [Nat.ble ti.cs.length r.l.xs.length,true]:=by
       unfold Jt at hok
       cases hg:ti.agg with
       | true=>rw[hg]at hok;exact(hok.append).1
       | false =>
         rw[hg]at hok
         obtain⟨kk,hk,he⟩:=AB hok
         simp only[cond_false]at hok
         rw[he]at hok;exact(hok.append).1
     have hle':=Nat.le_of_ble_eq_true hA.cons.1
     have hle:ti.cs.length<=r.l.es.length:=by rw[Sl.BB];exact hle'
     obtain⟨hg,hsz,hO⟩:=hf _ _ (Dq hr)
     have hx':Aw O Aa m w (a.eval x) (.Bc q 0 0):=hx
     simp only[Aw,hg,Option.map_some,Obj.shp]at hx'
     obtain⟨g,n',cap,h1,h2⟩:=hx'.2 (by omega)
     rcases hO with ⟨_,h3,_⟩ | ⟨_,g',cap',cur,h3,h4,h5,h6,h7,h8,_⟩
     ·rw[h3,List.length_nil]at hle;omega
     ·rw[h1]at h3
      injection h3 with h3 h3' h3''
      injection h3 with h3;injection h3 with h3
      subst h3
      obtain⟨v,h13,h14,h15,h16,h17⟩:=Yp (Aa:=Aa) (m:=m) (O:=O) (b:=g) (k:=0*r.l.sz+0) (off:=0) (cs:=VN r.l ti.cs.length) hT (fun j hj=>by
        obtain⟨u,h9,h10⟩:=h8 j 0 (by omega) (by omega)
        have e:(VN r.l ti.cs.length).getD (0+j) .undef=(r.l.es.getD j []).getD 0 .undef:=by
          rw[<- r.l.at_eq (Nat.lt_of_lt_of_le hj hle')]
          simp [VN,List.getD_eq_getElem?_getD,hj]
        rw[e]
        refine⟨u,?_,h10⟩
        rw[h4.cell,r1,Nat.mul_one,Nat.add_zero]at *
        simpa using h9) hok
      exact⟨⟨v,run _ _ _ h2 h13,h14⟩,h15,h16,h17⟩
   | false =>
   rw[hrow]at hok
   simp only[cond_false]at hok ⊢
   have hA:Ak [Nat.ble (off+ti.cs.length) r.l.sz,decide (i<r.l.xs.length)]:=by
     unfold Jt at hok
     cases hg:ti.agg with
     | true=>rw[hg]at hok;exact(hok.append).1
     | false =>
       rw[hg]at hok
       obtain⟨kk,hk,he⟩:=AB hok
       simp only[cond_false]at hok
       rw[he]at hok;exact(hok.append).1
   obtain⟨hle,hi⟩:=hA.cons
   have hle:=Nat.le_of_ble_eq_true hle
   have hi':i<r.l.xs.length:=by simpa using hi.cons.1
   have hi:i<r.l.es.length:=by rw[Sl.BB];exact hi'
   obtain⟨hg,hsz,hO⟩:=hf _ _ (Dq hr)
   have hx':Aw O Aa m w (a.eval x) (.Bc q i off):=hx
   simp only[Aw,hg,Option.map_some,Obj.shp]at hx'
   obtain⟨g,n',cap,h1,h2⟩:=hx'.2 hi
   rcases hO with ⟨_,h3,_⟩ | ⟨_,g',cap',cur,h3,h4,h5,h6,h7,h8,_⟩
   ·rw[h3]at hi;simp at hi
   ·rw[h1]at h3
    injection h3 with h3 h3' h3''
    injection h3 with h3;injection h3 with h3
    subst h3
    obtain⟨v,h13,h14,h15,h16,h17⟩:=Yp (Aa:=Aa) (m:=m) (O:=O) (b:=g) (k:=i*r.l.sz+off) (off:=off) (cs:=r.l.at i) hT (fun j hj=>by
      obtain⟨u,h9,h10⟩:=h8 i (off+j) hi (by omega)
      rw[r.l.at_eq hi']
      refine⟨u,?_,h10⟩
      rw[h4.cell,Nat.add_assoc];exact h9) hok
    exact⟨⟨v,run _ _ _ h2 h13,h14⟩,h15,h16,h17⟩
  ·exact(Az hok).elim
end
