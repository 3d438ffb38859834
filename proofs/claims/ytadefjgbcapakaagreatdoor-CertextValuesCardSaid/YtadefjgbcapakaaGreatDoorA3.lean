import Derived.Test.YtadefjgbcapakaaGreatDoorA2
import Derived.Laws.Small
set_option linter.all false
namespace Go.Proofs.YtadefjgbcapakaaGreatDoor.Vm
theorem Hw (b k n:Nat):(at' b k).add n=at' b (k+n):=by
  unfold Addr.add;split
  ·rename_i h;subst h;rfl
  ·rfl
section
variable {P:Program} {C:Ctx} {O:Own} {Aa:List (Nat×Obj)} {m:Nat->Value} {a:Act} {w:World} {o:Oper} {fet:Fet}
theorem Agg {op:UnOp} {t:Nat} {x:Operand} (ho:o.op= .unOp op t x) {x':A} (hx:Ap O Aa m w (a.eval x) x') (hok:Ak (unX op x').ok):Pure P O Aa m a w o (unX op x'):=by
  unfold unX at hok ⊢
  split at hok
  ·have h1:=hx.bool
   exact⟨⟨_,by simp only[execOp,ho,h1,Op.unary];rfl,.Fg _⟩,rfl,rfl,rfl⟩
  ·have h1:=hx.int
   exact⟨⟨_,by simp only[execOp,ho,h1,Op.unary];rfl,.mkInt _ _⟩,rfl,rfl,rfl⟩
  ·have h1:=hx.int
   exact⟨⟨_,by simp only[execOp,ho,h1,Op.unary];rfl,.mkInt _ _⟩,rfl,rfl,rfl⟩
  ·exact(Az hok).elim
theorem N7 {x:A} {n:Int} (h:int? x=some n): ∃ k,x= .int k n:=by
  unfold int? at h;split at h<;>simp_all
theorem o7 {x:A} {s:List UInt8} (h:AbS x=some s):x= .str s:=by
  unfold AbS at h;split at h<;>simp_all
theorem Xx {d:TypeDesc} (h:Xw d=true):d= .string:=by
  unfold Xw at h;split at h<;>simp_all
theorem AaW {t:Nat} {x i:Operand} (hC:TOk P C) (ho:o.op= .index t x i) {x' i':A} (hx:Ap O Aa m w (a.eval x) x') (hi:Ap O Aa m w (a.eval i) i')
    (hok:Ak (fM C t x' i').ok):Pure P O Aa m a w o (fM C t x' i'):=by
  unfold fM at hok ⊢
  obtain⟨n,hn,he⟩:=AA hok
  rw[he]at hok ⊢
  obtain⟨s,hs,he⟩:=AA hok
  rw[he]at hok ⊢
  obtain⟨ti,ht,he⟩:=Bf hok
  rw[he]at hok ⊢
  obtain⟨k,rfl⟩:=N7 hn
  have:=o7 hs
  subst this
  obtain⟨h1,h2⟩:=hok.cons
  obtain⟨h2,h3⟩:=h2.cons
  have h3:=h3.cons.1
  have hd:=Xx h1
  have hu:=(hC.is ht).run w
  rw[hd]at hu
  have hi:=hi.int
  obtain⟨b,hb,hl⟩:=hx.str
  have h2:0<=n:=by simpa using h2
  have h3:n<(s.length:Int):=by simpa using h3
  obtain⟨j,rfl⟩:=Int.eq_ofNat_of_zero_le h2
  have hj:j<b.size:=by rw[Ji,hl];omega
  refine⟨⟨.int .u8 (b[j].toNat:Int),?_,?_⟩,rfl,rfl,rfl⟩
  ·simp [execOp,ho,Instr.index,hi,hb,asIntOf,hu,hj]
  ·have:s.getD (Int.ofNat j).toNat 0=b[j]:=by
     subst hl
     show b.data.toList.getD j 0=b[j]
     rw[List.getD_eq_getElem?_getD,List.getElem?_eq_getElem (by rw[<- Ji];exact hj)]
     obtain⟨⟨l⟩⟩:=b;rfl
   simp only[Dl.g]
   rw[show((j:Int)).toNat=(Int.ofNat j).toNat from rfl,this]
   exact .mkInt _ _
def ORl (O:Own) (Aa:List (Nat×Obj)) (m:Nat->Value) (w:World):Option Value->Option A->Prop
  | none,none=>True
  | some v,some x=>Ap O Aa m w v x
  | _,_=>False
theorem JO {isS:Bool} {len cap:Nat} {lo hi:Option Value} {lo' hi':Option A} (hl:ORl O Aa m w lo lo') (hh:ORl O Aa m w hi hi') (hc:len<=cap) {r:List Bool×Nat×Nat} (h:aT len lo' hi'=some r) (hok:Ak r.1) :
    (Instr.sliceBounds isS len cap lo hi none).run P w= .ok (r.2.1,r.2.2,cap) w/\r.2.1<=r.2.2/\r.2.2<=len:=by
  unfold aT at h
  split at h
  ·injection h with h;subst h
   cases lo<;>cases hi<;>simp [ORl]at hl hh
   simp [Instr.sliceBounds]
  ·injection h with h;subst h
   cases lo<;>cases hi<;>simp only[ORl]at hl hh
   obtain⟨h1,h2⟩:=hok.cons
   have h2:=h2.cons.1
   simp at h1 h2
   have hl:=hl.int
   rename_i q _ _ _
   obtain⟨j,rfl⟩:=Int.eq_ofNat_of_zero_le h1
   have:j<=len:=by simpa using h2
   simp [Instr.sliceBounds,Instr.sliceBound,hl,asIntOf,this]
  ·injection h with h;subst h
   cases lo<;>cases hi<;>simp only[ORl]at hl hh
   obtain⟨h1,h2⟩:=hok.cons
   have h2:=h2.cons.1
   simp at h1 h2
   have hh:=hh.int
   rename_i q _ _ _
   obtain⟨j,rfl⟩:=Int.eq_ofNat_of_zero_le h1
   have:j<=len:=by simpa using h2
   have h3:j<=cap:=by omega
   simp [Instr.sliceBounds,Instr.sliceBound,hh,asIntOf,h3,this]
  ·injection h with h;subst h
   cases lo<;>cases hi<;>simp only[ORl]at hl hh
   obtain⟨h1,h2⟩:=hok.cons
   obtain⟨h2,h3⟩:=h2.cons
   have h3:=h3.cons.1
   simp at h1 h2 h3
   have hl:=hl.int
   have hh:=hh.int
   rename_i p _ q _ _ _
   obtain⟨j,rfl⟩:=Int.eq_ofNat_of_zero_le h1
   obtain⟨i,rfl⟩:=Int.eq_ofNat_of_zero_le (Int.le_trans h1 h2)
   have h4:i<=len:=by simpa using h3
   have h5:j<=i:=by simpa using h2
   have h6:i<=cap:=by omega
   simp [Instr.sliceBounds,Instr.sliceBound,hl,hh,asIntOf,h4,h5,h6]
  ·cases h
theorem Zt (s:ByteArray) (i j:Nat):(s.extract i j).data.toList=AV s.data.toList i j:=by
  simp [AV,ByteArray.data_extract,List.drop_take]
end
end Go.Proofs.YtadefjgbcapakaaGreatDoor.Vm
namespace Go.Proofs.YtadefjgbcapakaaGreatDoor.Vm
section
variable {P:Program} {C:Ctx} {O:Own} {Aa:List (Nat×Obj)} {m:Nat->Value} {a:Act} {w:World} {o:Oper} {fet:Fet}
theorem Ai.cut {v:Value} {q:Sl} (h:Ai O w v (.sl q)) (l r:Nat) (hlr:l<=r) (hr:r<=q.es.length) :
    ∃ ad n c,v= .slice ad n c/\n=q.es.length/\n<=c/\(∀ cap',cap'=c->Ai O w (.slice (if cap'=l then ad else ad.map (·.add (l*q.sz))) (r - l) (cap' - l)) (.sl ⟨q.t,AV q.xs l r⟩)):=by
  cases h with
  | nil =>
    have:r=0:=by simpa [Sl.es]using hr
    subst this
    have:l=0:=by omega
    subst this
    refine⟨none,0,0,rfl,rfl,Nat.le_refl _,fun cap' hc=> ?_⟩
    subst hc
    simp [AV];exact .nil _
  | sl0 ad t =>
    have:r=0:=by simpa [Sl.es]using hr
    subst this
    have:l=0:=by omega
    subst this
    refine⟨some ad,0,0,rfl,rfl,Nat.le_refl _,fun cap' hc=> ?_⟩
    subst hc
    simp [AV];exact .sl0 _ _
  | @sl b off cap _ vs hc hm hr' =>
    refine⟨_,_,_,rfl,rfl,hc,fun cap' hc'=> ?_⟩
    subst hc'
    have hes:(⟨q.t,AV q.xs l r⟩:Sl).es=AV q.es l r:=q.AcV l r
    have hlen:(AV q.es l r).length=r - l:=by simp [AV];omega
    have hget: ∀ i,i<r - l->(AV q.es l r).getD i []=q.es.getD (l+i) []:=by
      intro i hi
      simp only[AV,List.getD_eq_getElem?_getD,List.getElem?_drop,List.getElem?_take]
      rw[if_pos (by omega)]
    have hlen':(⟨q.t,AV q.xs l r⟩:Sl).es.length=r - l:=by rw[hes];exact hlen
    by_cases hcl:cap'=l
    ·have h0:r - l=0:=by omega
     rw[if_pos hcl,<- hlen']
     exact Ai.sl (b:=b) (off:=off) (cap:=cap' - l) (fun _ _=>undef) (by omega) (fun i j hi _=>absurd hi (by omega)) (fun i j hi _=>absurd hi (by omega))
    ·rw[if_neg hcl]
     simp only[Option.map_some,Hw]
     rw[<- hlen']
     refine Ai.sl (fun i j=>vs (l+i) j) (by omega) (fun i j hi hj=> ?_) (fun i j hi hj=> ?_)
     ·have:=hm (l+i) j (by omega) hj
      rw[Nat.add_mul]at this
      rw[show off+l*q.sz+(i*(⟨q.t,AV q.xs l r⟩:Sl).sz+j)=off+(l*q.sz+i*q.sz+j)from by show off+l*q.sz+(i*q.sz+j)=_;omega];exact this
     ·rw[hes,hget i (by omega)];exact hr' (l+i) j (by omega) hj
theorem AdX {t:Nat} {x:Operand} {lo hi mx:Option Operand} (hC:TOk P C) (ho:o.op= .slice t x lo hi mx) (hmx:mx=none) {s:List UInt8} {lo' hi':Option A} (hx:Ap O Aa m w (a.eval x) (.str s))
    (hlo:ORl O Aa m w (lo.map a.eval) lo') (hhi:ORl O Aa m w (hi.map a.eval) hi')
    (hok:Ak (Dp C fet t (.str s) lo' hi').ok):Pure P O Aa m a w o (Dp C fet t (.str s) lo' hi'):=by
  subst hmx
  unfold Dp at hok ⊢
  obtain⟨ti,ht,he⟩:=Bf hok
  rw[he]at hok ⊢
  dsimp only at hok ⊢
  obtain⟨r,hr,he⟩:=AA hok
  rw[he]at hok ⊢
  obtain⟨h1,h2⟩:=hok.cons
  have hd:=Xx h1
  have hu:=(hC.is ht).run w
  rw[hd]at hu
  obtain⟨b,hb,hl⟩:=hx.str
  subst hl
  obtain⟨h3,h4,h5⟩:=JO (isS:=false) (P:=P) (cap:=b.data.toList.length) hlo hhi (Nat.le_refl _) hr h2
  refine⟨⟨.string (b.extract r.2.1 r.2.2),?_,.mkStr _ (Zt _ _ _)⟩,rfl,rfl,rfl⟩
  rw[<- Ji]at h3
  simp only[execOp,ho,Instr.sliceAt,Sem.run_bind,hu,Result.andThen_ok,Instr.slice,hb,Option.map_none,Option.isSome_none,Bool.false_eq_true,if_false,h3,Sem.run_pure]
theorem Afj {t:Nat} {x:Operand} {lo hi mx:Option Operand} (hC:TOk P C) (ho:o.op= .slice t x lo hi mx) (hmx:mx=none) {l:Sl} {lo' hi':Option A} (hx:Ap O Aa m w (a.eval x) (.sl l))
    (hlo:ORl O Aa m w (lo.map a.eval) lo') (hhi:ORl O Aa m w (hi.map a.eval) hi')
    (hok:Ak (Dp C fet t (.sl l) lo' hi').ok):Pure P O Aa m a w o (Dp C fet t (.sl l) lo' hi'):=by
  subst hmx
  unfold Dp at hok ⊢
  obtain⟨ti,ht,he⟩:=Bf hok
  rw[he]at hok ⊢
  dsimp only at hok ⊢
  obtain⟨r,hr,he⟩:=AA hok
  rw[he]at hok ⊢
  obtain⟨e,hel,he⟩:=AA hok
  rw[he]at hok ⊢
  obtain⟨te,hte,he⟩:=Bf hok
  rw[he]at hok ⊢
  obtain⟨h1,h2⟩:=hok.cons
  have hd:=IZ hel
  have hu:=(hC.is ht).run w
  rw[hd]at hu
  have hs:=(hC.is hte).GL w
  have hsz:=Nat.eq_of_beq_eq_true h1
  rw[<- hsz]at hs
  rw[<- Sl.BC]at hr
  have hx':Ai O w (a.eval x) (.sl l):=hx
  obtain⟨h4,h5⟩:r.2.1<=r.2.2/\r.2.2<=l.es.length:=(JO (isS:=true) (P:=P) hlo hhi (Nat.le_refl _) hr h2).2
  obtain⟨ad,n,c,hv,hn,hc,hcut⟩:=hx'.cut r.2.1 r.2.2 h4 h5
  obtain⟨h3,_,_⟩:=JO (isS:=true) (P:=P) (cap:=c) hlo hhi (by rw[<- hn];exact hc) hr h2
  rw[<- hn]at h3
  refine⟨⟨_,?_,hcut c rfl⟩,rfl,rfl,rfl⟩
  simp only[execOp,ho,Instr.sliceAt,Sem.run_bind,hu,Result.andThen_ok,Instr.slice,hv,Option.map_none,h3,hs,Sem.run_pure]
theorem AeT {fet:Fet} {x:A} {p:Nat×Mp} (h:mp? fet x=some p):x= .own p.1/\Ag fet p.1=some (.mp p.2):=by
  unfold mp? at h
  split at h
  ·split at h
   ·rename_i l hg;injection h with h;subst h;exact⟨rfl,hg⟩
   ·cases h
  ·cases h
theorem rJ (hF:FOk O Aa m w fet) {x:A} {v:Value} {p:Nat×Mp} (hx:Ap O Aa m w v x) (h:mp? fet x=some p) :
    Ag Aa p.1=some (.mp p.2)/\v=m p.1/\Ey O w p.1 (m p.1) p.2:=by
  obtain⟨rfl,hg⟩:=AeT h
  obtain⟨h1,h2⟩:=hF _ _ hg
  have hc:Au O Aa m w v (.own p.1):=hx
  have hc:=hc.2
  rw[h1]at hc
  exact⟨h1,hc,h2⟩
theorem Ey.lists {q:Nat} {v:Value} {l:Mp} (h:Ey O w q v l): ∃ r es ck,v= .map (some r)/\w.heap[r]? =some (.map es ck)/\O r 0=some q/\es.toList.length=l.l.length /\
    (∀(i:Nat) (e:MapEntry) (p:l.kt.Val×l.vt.Val),es.toList[i]? =some e->l.l[i]? =some p->D6 O w e.key (Ep (l.kt.cells p.1))/\D6 O w e.val (Ep (l.vt.cells p.2))):=by
  obtain⟨r,es,ck,h1,h2,h3,h4,h5⟩:=h
  refine⟨r,es,ck,h1,h2,h3,by rw[Array.length_toList];exact h4,fun i e p he hp=> ?_⟩
  obtain⟨e',k1,k2,k3⟩:=h5 i p hp
  rw[Array.getElem?_toList,k1]at he
  injection he with he;subst he
  exact⟨k2,k3⟩
theorem AgE {n e:Nat} {frz:Bool} {l:Sl} (hg:Ag fet n=some (.arr e frz l)):rd fet (.own n)=([],l):=by
  show(match Ag fet n with | some (.arr _ _ l)=>([],l) | _=>([false],default))=_
  rw[hg]
theorem wE {x:A} (hok:Ak (rd fet x).1):(∃ n e frz l,x= .own n/\Ag fet n=some (.arr e frz l)/\(rd fet x).2=l)\/(x= .BU/\(rd fet x).2=default)\/ ∃ l,x= .sl l/\(rd fet x).2=l:=by
  cases x with
  | own n =>
    cases hg:Ag fet n with
    | none =>
      have:rd fet (.own n)=([false],default):=by
        show(match Ag fet n with | some (.arr _ _ l)=>([],l) | _=>([false],default))=_
        rw[hg]
      rw[this]at hok
      have:=hok false (by simp);cases this
    | some y =>
      cases y with
      | box cs =>
        have:rd fet (.own n)=([false],default):=by
          show(match Ag fet n with | some (.arr _ _ l)=>([],l) | _=>([false],default))=_
          rw[hg]
        rw[this]at hok
        have:=hok false (by simp);cases this
      | arr e frz l=>exact .inl ⟨n,e,frz,l,rfl,hg,by rw[AgE hg]⟩
      | mp l =>
        have:rd fet (.own n)=([false],default):=by
          show(match Ag fet n with | some (.arr _ _ l)=>([],l) | _=>([false],default))=_
          rw[hg]
        rw[this]at hok
        have:=hok false (by simp);cases this
  | BU=>exact .inr (.inl ⟨rfl,rfl⟩)
  | sl l=>exact .inr (.inr ⟨l,rfl,rfl⟩)
  | _=>have:=hok false (by simp [rd]);cases this
theorem AgD {x:A} {v:Value} (hf:FOk O Aa m w fet) (hx:Ap O Aa m w v x) (hok:Ak (rd fet x).1): ∃ ad c,v= .slice ad (rd fet x).2.xs.length c:=by
  rcases wE hok with ⟨n,e,frz,l,rfl,hg,hl⟩ | ⟨rfl,hl⟩ | ⟨l,rfl,hl⟩<;>rw[hl]
  ·obtain⟨h1,_,h2⟩:=hx.own hf hg
   rw[<- Sl.BC]
   rcases h2 with ⟨_,h3,h4⟩ | ⟨_,g,cap,cur,h4,_⟩
   ·exact⟨none,0,by rw[h1,h4,h3];rfl⟩
   ·exact⟨some (at' g 0),cap,by rw[h1,h4]⟩
  ·exact⟨none,0,hx⟩
  ·have hx':Ai O w v (.sl l):=hx
   cases hx' with
   | nil=>exact⟨none,0,rfl⟩
   | sl0 ad=>exact⟨some ad,0,rfl⟩
   | sl=>exact⟨_,_,by rw[Sl.BC]⟩
theorem AeM {c:Call} {t:Nat} {x:Operand} (hC:TOk P C) (hf:FOk O Aa m w fet) (ho:o.op= .call c) (hcal:c.callee= .builtin .len) (hargs:c.args= #[x]) (hty:c.argTypes.toList=[t]) {x':A} (hx:Ap O Aa m w (a.eval x) x')
    (hok:Ak (lG C fet t x').ok):Pure P O Aa m a w o (lG C fet t x'):=by
  have hat:c.argTypes= #[t]:=by
    have:=congrArg List.toArray hty
    simpa using this
  unfold lG at hok ⊢
  obtain⟨ti,ht,he⟩:=Bf hok
  rw[he]at hok ⊢
  have hu:=(hC.is ht).run w
  split at hok
  ·rename_i hd
   rw[hd]at hu
   obtain⟨s,hs,he⟩:=AA hok
   rw[he]at hok ⊢
   have:=o7 hs
   subst this
   obtain⟨b,hb,hl⟩:=hx.str
   subst hl
   refine⟨⟨.int .i64 b.size,?_,?_⟩,rfl,rfl,rfl⟩
   ·simp [execOp,ho,resolve,hcal,hargs,hat,invoke,builtin,Builtin.len_,hu,hb,goInt]
   ·rw[Ji];exact .mkInt _ _
  ·rename_i n e hd
   rw[hd]at hu
   refine⟨⟨.int .i64 n,?_,.mkInt _ _⟩,rfl,rfl,rfl⟩
   simp [execOp,ho,resolve,hcal,hargs,hat,invoke,builtin,Builtin.len_,hu,goInt]
  ·rename_i e hd
   rw[hd]at hu
   split at hok
   ·rename_i q k
    obtain⟨cs,hb,he⟩:=AA hok
    rw[he]
    have hc:Au O Aa m w (a.eval x) (.bsl q k):=hx
    have hc:=hc.2
    rw[(hf _ _ (CB hb)).1]at hc
    obtain⟨b,base,_,hv⟩:=hc
    refine⟨⟨.int .i64 (k:Int),?_,.mkInt _ _⟩,rfl,rfl,rfl⟩
    simp [execOp,ho,resolve,hcal,hargs,hat,invoke,builtin,Builtin.len_,hu,hv,goInt]
   ·rename_i y hne
    obtain⟨ad,cp,hv⟩:=AgD hf hx hok
    refine⟨⟨.int .i64 (rd fet x').2.xs.length,?_,.mkInt _ _⟩,rfl,rfl,rfl⟩
    simp [execOp,ho,resolve,hcal,hargs,hat,invoke,builtin,Builtin.len_,hu,hv,goInt]
  ·rename_i kt et hd
   rw[hd]at hu
   obtain⟨p,hp,he⟩:=AA hok
   rw[he]at hok ⊢
   obtain⟨_,hv,hM⟩:=rJ hf hx hp
   obtain⟨r,es,ck,h1,h2,h3,h4,h5⟩:=hM.lists
   have hsz:(es.size:Int)=(p.2.l.length:Int):=by rw[<- h4,Array.length_toList]
   refine⟨⟨.int .i64 (p.2.l.length:Int),?_,.mkInt _ _⟩,rfl,rfl,rfl⟩
   have hg:(getObj r).run P w= .ok (.map es ck) w:=by simp [getObj,Sem.run,h2]
   simp [execOp,ho,resolve,hcal,hargs,hat,invoke,builtin,Builtin.len_,hu,hv,h1,hg,hsz,goInt]
  ·exact(Az hok).elim
theorem uG {i:Nat} {x:Operand} (ho:o.op= .extract x i) {x':A} (hx:Ap O Aa m w (a.eval x) x') (hok:Ak (Uu i x').ok):Pure P O Aa m a w o (Uu i x'):=by
  unfold Uu at hok ⊢
  obtain⟨l,hl,he⟩:=AA hok
  rw[he]at hok ⊢
  have:x'= .tup l:=by unfold AgW at hl;split at hl<;>simp_all
  subst this
  obtain⟨vs,h1,h2,h3⟩:=hx
  have hi:i<l.length:=by simpa [Dl.g,IG]using hok.cons.1
  refine⟨⟨vs.getD i undef,?_,(h3 i hi).toT⟩,rfl,rfl,rfl⟩
  have:vs[i]? =some (vs.getD i undef):=by
    rw[Array.getD_eq_getD_getElem?,Array.getElem?_eq_getElem (by omega)];simp
  generalize vs.getD i undef=z at *
  simp only[execOp,ho,Instr.extract,h1,this,Sem.run_bind,Sem.run_pure,Result.andThen_ok]
end
end Go.Proofs.YtadefjgbcapakaaGreatDoor.Vm
namespace Go.Proofs.YtadefjgbcapakaaGreatDoor.Vm
section
variable {P:Program} {C:Ctx} {O:Own} {Aa:List (Nat×Obj)} {m:Nat->Value} {a:Act} {w:World} {o:Oper} {fet:Fet}
theorem getD_eq {vs:Array Value} {j:Nat} (h:j<vs.size):vs[j]? =some (vs.getD j undef):=by
  rw[Array.getD_eq_getD_getElem?,Array.getElem?_eq_getElem h];rfl
theorem AeY {t:Nat} {ti:TI} (hT:Jl P t ti) {vs:Array Value} {cs:List A} {off:Nat} (h1:vs.size=cs.length) (h2: ∀ j,j<cs.length->Au O Aa m w (vs.getD j undef) (cs.getD j .undef))
    (h3:off+ti.cs.length<=cs.length) (h4:0<ti.cs.length): ∃ v,(part t vs off).run P w= .ok v w/\T1 O Aa m w v (iE ti cs off):=by
  unfold part iE
  simp only[Sem.run_bind,hT.AdS,Result.andThen_ok]
  cases hg:ti.agg with
  | true =>
    refine⟨.agg (vs.extract off (off+ti.cs.length)),by simp [hT.GL],_,rfl,by simp;omega,fun j hj=> ?_⟩
    simp only[List.length_take,List.length_drop]at hj
    have hb:=h2 (off+j) (by omega)
    have e1:(vs.extract off (off+ti.cs.length)).getD j undef=vs.getD (off+j) undef:=by
      rw[Array.getD_eq_getD_getElem?,Array.getD_eq_getD_getElem?,Array.getElem?_extract]
      rw[if_pos (by omega)]
    have e2:((cs.drop off).take ti.cs.length).getD j .undef=cs.getD (off+j) .undef:=by
      simp only[List.getD_eq_getElem?_getD,List.getElem?_take,List.getElem?_drop]
      rw[if_pos (by omega)]
    rw[e1];simp only[e2];exact hb
  | false =>
    have hb:=h2 off (by omega)
    refine⟨vs.getD off undef,?_,?_⟩
    ·have:=getD_eq (vs:=vs) (j:=off) (by omega)
     generalize vs.getD off undef=z at *
     simp [this]
    ·simp only[cond_false]
     generalize cs.getD off .undef=c at *
     cases c<;>first | exact hb | exact hb.elim
theorem Z8 {d:TypeDesc} {f:Nat} {p:Nat×TI} (h:iG C d f=some p): ∃ fs x,d= .struct fs/\fs[f]? =some x/\x.offset=p.1/\C.T x.type=some p.2:=by
  unfold iG at h
  split at h
  ·rename_i fs
   split at h
   ·rename_i x hx
    split at h
    ·rename_i ti ht
     injection h with h;subst h
     exact⟨fs,x,rfl,by simpa using hx,rfl,ht⟩
    ·cases h
   ·cases h
  ·cases h
theorem AaP {t f:Nat} {x:Operand} (hC:TOk P C) (ho:o.op= .field t x f) {x':A} (hx:Ap O Aa m w (a.eval x) x') (hok:Ak (fC C t f x').ok):Pure P O Aa m a w o (fC C t f x'):=by
  unfold fC at hok ⊢
  obtain⟨ti,ht,he⟩:=Bf hok
  rw[he]at hok ⊢;clear he
  obtain⟨p,hp,he⟩:=AA hok
  rw[he]at hok ⊢;clear he
  obtain⟨cs,hcs,he⟩:=AA hok
  rw[he]at hok ⊢;clear he
  obtain⟨fs,fx,hd,hfx,hoff,htf⟩:=Z8 hp
  have:x'= .agg cs:=by unfold Ago at hcs;split at hcs<;>simp_all
  subst this
  obtain⟨vs,h1,h2,h3⟩:=hx
  obtain⟨h4,h5⟩:=hok.cons
  have h5:=h5.cons.1
  have h4:=Nat.le_of_ble_eq_true h4
  have h5:0<p.2.cs.length:=by simpa [Nat.blt_eq]using h5
  have hu:=(hC.is ht).run w
  rw[hd]at hu
  obtain⟨v,hv,hr⟩:=AeY (off:=p.1) (hC.is htf) h2 h3 h4 h5
  refine⟨⟨v,?_,hr.toT⟩,rfl,rfl,rfl⟩
  simp [execOp,ho,Instr.field,hu,hfx,h1,asAgg,hoff,hv]
theorem Aej {x':A} {v:Value} {off n:Nat} (hf:FOk O Aa m w fet) (hx:Ap O Aa m w v x') (hok:Ak (TW off n fet x').ok) :
    ∃ b k,v= .pointer (some (at' b k))/\Ap O Aa m w (.pointer (some (at' b (k+off)))) (TW off n fet x').val/\(TW off n fet x').new=[]/\(TW off n fet x').upd=[]/\(TW off n fet x').del=[]:=by
  unfold TW at hok ⊢
  split at hok
  ·obtain⟨cs,hcs,he⟩:=AA hok
   rw[he]at hok ⊢;clear he
   rename_i q p
   obtain⟨b,base,h1,h2,h3⟩:=hx.ptr hf (CB hcs)
   refine⟨b,base+p,h2,?_,rfl,rfl,rfl⟩
   have hg:=(hf _ _ (CB hcs)).1
   show Au O Aa m w _ (.ptr q (p+off))
   simp only[Au,hg,Option.map_some,Obj.shp]
   exact⟨rfl,b,base,h1,by rw[Nat.add_assoc]⟩
  ·rename_i cs
   obtain⟨b,k,h1,h2⟩:=(show Au O Aa m w v (.elt cs)from hx)
   refine⟨b,k,h1,?_,rfl,rfl,rfl⟩
   refine⟨b,k+off,rfl,fun j hj=> ?_⟩
   simp only[List.length_drop]at hj
   have:=h2 (off+j) (by omega)
   rw[Nat.add_assoc]
   have e:(cs.drop off).getD j .undef=cs.getD (off+j) .undef:=by simp [List.getD_eq_getElem?_getD,List.getElem?_drop]
   rw[e];exact this
  ·rename_i q i p
   obtain⟨r,hr,he⟩:=AA hok
   rw[he]at hok ⊢;clear he
   have hi:i<r.l.es.length:=by rw[Sl.BC];simpa [Dl.g]using hok.cons.1
   have hx':Au O Aa m w v (.BQ q i p):=hx
   have hg:=(hf _ _ (ER hr)).1
   simp only[Au,hg,Option.map_some,Obj.shp]at hx'
   obtain⟨g,n',cap,h1,h2⟩:=hx'.2 hi
   refine⟨g,_,h2,?_,rfl,rfl,rfl⟩
   show Au O Aa m w _ (.BQ q i (p+off))
   simp only[Au,hg,Option.map_some,Obj.shp]
   refine⟨rfl,fun _=> ?_⟩
   exact⟨g,n',cap,h1,by rw[Nat.add_assoc]⟩
  ·exact(Az hok).elim
theorem kX {t f:Nat} {x:Operand} (hC:TOk P C) (hf:FOk O Aa m w fet) (ho:o.op= .fieldAddr t x f) {x':A} (hx:Ap O Aa m w (a.eval x) x') (hok:Ak (OJ C fet t f x').ok):Pure P O Aa m a w o (OJ C fet t f x'):=by
  unfold OJ at hok ⊢
  obtain⟨ti,ht,he⟩:=Bf hok
  rw[he]at hok ⊢;clear he
  obtain⟨p,hp,he⟩:=AA hok
  rw[he]at hok ⊢;clear he
  obtain⟨fs,fx,hd,hfx,hoff,htf⟩:=Z8 hp
  obtain⟨h1,h2⟩:=hok.cons
  have h1:0<p.2.cs.length:=by simpa [Nat.blt_eq]using h1
  obtain⟨b,k,h3,h4,h5,h6,h7⟩:=Aej hf hx h2
  have hu:=(hC.is ht).run w
  rw[hd]at hu
  have hs:=(hC.is htf).GL w
  refine⟨⟨_,?_,h4⟩,h5,h6,h7⟩
  have h0:p.2.cs.length≠0:=by omega
  simp [execOp,ho,Instr.fieldAt,hu,hfx,h3,Instr.sureAddr,fieldPlace,hs,h0,Hw,hoff]
theorem lD {t:Nat} {x i:Operand} (hC:TOk P C) (hf:FOk O Aa m w fet) (ho:o.op= .indexAddr t x i) {x' i':A} (hx:Ap O Aa m w (a.eval x) x') (hi:Ap O Aa m w (a.eval i) i')
    (hok:Ak (OL C fet t x' i').ok):Pure P O Aa m a w o (OL C fet t x' i'):=by
  unfold OL at hok ⊢
  split at hok
  ·rename_i q i0 off0
   obtain⟨n,hn,he⟩:=AA hok
   rw[he]at hok ⊢;clear he
   obtain⟨k,rfl⟩:=N7 hn
   have hi:=hi.int
   obtain⟨ti,ht,he⟩:=Bf hok
   rw[he]at hok ⊢;clear he
   obtain⟨p,hp,he⟩:=AA hok
   rw[he]at hok ⊢;clear he
   obtain⟨te,hte,he⟩:=Bf hok
   rw[he]at hok ⊢;clear he
   obtain⟨r,hr,he⟩:=AA hok
   rw[he]at hok ⊢;clear he
   obtain⟨h1,h2⟩:=hok.cons
   obtain⟨h2,h3⟩:=h2.cons
   obtain⟨h3,h4⟩:=h3.cons
   obtain⟨h4,h5⟩:=h4.cons
   obtain⟨h5,h6⟩:=h5.cons
   have h6:=h6.cons.1
   have h1:=Nat.eq_of_beq_eq_true h1
   have h2:=Nat.eq_of_beq_eq_true h2
   have h3:=Nat.eq_of_beq_eq_true h3
   subst h1;subst h2
   have h4:0<=n:=by simpa using h4
   have h5:n<(p.1:Int):=by simpa using h5
   have h6:n.toNat<r.l.es.length:=by rw[Sl.BC];simpa using h6
   have hx':Au O Aa m w (a.eval x) (.BQ q 0 0):=hx
   have hg:=(hf _ _ (ER hr)).1
   simp only[Au,hg,Option.map_some,Obj.shp]at hx'
   obtain⟨g,n',cap,e1,e2⟩:=hx'.2 (by omega)
   have hd:ti.d= .array p.1 p.2:=by
     unfold qW at hp
     split at hp
     ·rename_i hd;injection hp with hp;rw[hd,<- hp]
     ·cases hp
   have hu:=(hC.is ht).run w
   rw[hd]at hu
   have hs:=(hC.is hte).GL w
   refine⟨⟨.pointer (some (at' g (n.toNat*te.cs.length))),?_,?_⟩,rfl,rfl,rfl⟩
   ·have e2':a.eval x= .pointer (some (at' g 0)):=by rw[e2];simp
    simp [execOp,ho,Instr.indexAt,hi,asIntOf,hu,e2',Instr.sureAddr,h4,h5,hs,Hw]
   ·show Au O Aa m w _ (.BQ q n.toNat 0)
    simp only[Au,hg,Option.map_some,Obj.shp]
    refine⟨rfl,fun _=>⟨g,n',cap,e1,by rw[h3];rfl⟩⟩
  ·rename_i y hne
   clear hne
   obtain⟨n,hn,he⟩:=AA hok
   rw[he]at hok ⊢;clear he
   obtain⟨k,rfl⟩:=N7 hn
   have hi:=hi.int
   unfold elemOf at hok ⊢
   obtain⟨ti,ht,he⟩:=Bf hok
   rw[he]at hok ⊢;clear he
   obtain⟨e,hel,he⟩:=AA hok
   rw[he]at hok ⊢;clear he
   obtain⟨te,hte,he⟩:=Bf hok
   rw[he]at hok ⊢;clear he
   have hu:=(hC.is ht).run w
   rw[IZ hel]at hu
   have hs:=(hC.is hte).GL w
   have run: ∀ b off len cap,a.eval x= .slice (some (at' b off)) len cap->0<=n->n<(len:Int)->(execOp a.eval o).run P w= .ok (.value (.pointer (some (at' b (off+n.toNat*te.cs.length))))) w:=by
     intro b off len cap h1 h2 h3
     simp [execOp,ho,Instr.indexAt,hi,asIntOf,hu,h1,h2,h3,hs,Hw]
   dsimp only at hok ⊢
   split at hok
   ·rename_i q
    obtain⟨r,hr,he⟩:=AA hok
    rw[he]at hok
    rw[he];clear he
    obtain⟨h1,h2⟩:=hok.cons
    obtain⟨h2,h3⟩:=h2.cons
    have h3:=h3.cons.1
    have h1:=Nat.eq_of_beq_eq_true h1
    have h2:0<=n:=by simpa using h2
    have h3:n<(r.l.es.length:Int):=by rw[Sl.BC];simpa using h3
    obtain⟨h4,_,h5⟩:=hx.own hf (ER hr)
    have hg:=(hf _ _ (ER hr)).1
    rcases h5 with ⟨_,h6,_⟩ | ⟨_,g,cap,cur,h6,_⟩
    ·rw[h6]at h3;simp at h3;omega
    ·refine⟨⟨_,run g 0 _ cap (by rw[h4,h6]) h2 h3,?_⟩,rfl,rfl,rfl⟩
     show Au O Aa m w _ (.BQ q n.toNat 0)
     simp only[Au,hg,Option.map_some,Obj.shp]
     refine⟨rfl,fun _=> ?_⟩
     exact⟨g,_,_,h6,by rw[<- h1];simp⟩
   ·rename_i l
    obtain⟨h1,h2⟩:=hok.cons
    obtain⟨h0,h2⟩:=h2.cons
    obtain⟨h2,h3⟩:=h2.cons
    have h3:=h3.cons.1
    have h1:=Nat.eq_of_beq_eq_true h1
    have h2:0<=n:=by simpa using h2
    have h3:n<(l.es.length:Int):=by rw[Sl.BC];simpa using h3
    have hx':Ai O w (a.eval x) (.sl l):=hx
    generalize hv:a.eval x=v at hx'
    cases hx' with
    | nil=>simp [Sl.es]at h3;omega
    | sl0=>simp [Sl.es]at h3;omega
    | @sl b off cap _ vs hc hm hr =>
      refine⟨⟨_,run b off _ cap hv h2 h3,?_⟩,rfl,rfl,rfl⟩
      have hj:n.toNat<l.es.length:=by omega
      refine⟨b,_,rfl,fun j hjj=> ?_⟩
      rw[Sl.Ac0]at hjj
      obtain⟨h4,h5⟩:=hm n.toNat j hj hjj
      rw[<- h1,Nat.add_assoc]
      rw[l.at_eq (by rw[<- Sl.BC];exact hj)]
      exact⟨h4,_,h5,hr n.toNat j hj hjj⟩
   ·rename_i q k
    obtain⟨cs,hb,he⟩:=AA hok
    rw[he]at hok
    rw[he];clear he
    obtain⟨h1,h2⟩:=hok.cons
    obtain⟨h2,h3⟩:=h2.cons
    have h3:=h3.cons.1
    have h1:=Nat.eq_of_beq_eq_true h1
    have h2:0<=n:=by simpa using h2
    rw[Nat.blt_eq]at h3
    have hg:=(hf _ _ (CB hb)).1
    have hc:Au O Aa m w (a.eval x) (.bsl q k):=hx
    have hc:=hc.2
    rw[hg]at hc
    obtain⟨b,base,e1,e2⟩:=hc
    refine⟨⟨_,run b base _ k e2 h2 (by omega),?_⟩,rfl,rfl,rfl⟩
    show Au O Aa m w _ (.ptr q n.toNat)
    refine⟨rfl,?_⟩
    rw[hg,h1,Nat.mul_one]
    exact⟨b,base,e1,rfl⟩
   ·exact(Az hok).elim
theorem oL {x:Operand} (hf:FOk O Aa m w fet) (ho:o.op= .nilCheck x) {x':A} (hx:Ap O Aa m w (a.eval x) x') (hok:Ak (QP fet x').ok):Pure P O Aa m a w o (QP fet x'):=by
  unfold QP at hok ⊢
  split at hok
  ·obtain⟨cs,hcs,he⟩:=AA hok
   rw[he]at hok ⊢;clear he
   obtain⟨b,base,h1,h2,h3⟩:=hx.ptr hf (CB hcs)
   refine⟨⟨a.eval x,?_,hx⟩,rfl,rfl,rfl⟩
   rw[h2]
   simp [execOp,ho,h2]
  ·exact(Az hok).elim
theorem Ai.one {u:Value} {c:A} (h:Ai O w u c):u.oneCell'=true:=by
  induction h<;>first | rfl | assumption
theorem Xr {k:CK} {u:Value} {c:A} (h:Ai O w u c) (hok:Ak (force k c).1):Au O Aa m w u (force k c).2:=by
  cases k with
  | bool=>have:=hok.cons.1;cases h<;>simp [A.isB]at this;exact .bool _
  | int k =>
    have:=hok.cons.1
    cases h<;>simp [A.isI]at this
    have:=H6 this
    subst this
    exact .int _ _
  | str=>have:=hok.cons.1;cases h<;>simp [A.isS]at this;exact .str _
  | sl e sz =>
    have:=hok.cons.1
    cases h with
    | nil t=>exact .nil _
    | sl0 a t=>exact Ai.sl0 _ _
    | sl vs h1 h2 h3=>exact .sl vs h1 h2 h3
    | _=>simp [A.uT]at this
  | ptr=>have:=hok.cons.1;cases h<;>simp [A.Xv]at this;exact .Cc
  | fn =>
    have:=hok.cons.1
    cases h<;>simp [A.isFn]at this
    ·exact Ai.fn _
    ·exact Ai.QQ
  | mp _ _=>have:=hok.cons.1;cases this
  | sln e sz =>
    have:=hok.cons.1
    cases h with
    | sln h hn=>exact .sln h hn
    | _=>simp [A.rG]at this
  | oth=>exact h.one
theorem fH (cs:List A) (ks:List CK): ∀ off,(forces cs ks off).2.length=ks.length:=by
  induction ks with
  | nil=>intro off;rfl
  | cons k ks ih=>intro off;simp [forces,ih]
theorem AaS (cs:List A) (ks:List CK): ∀(off:Nat) (f:Nat->Value),(∀ j,j<ks.length->Ai O w (f j) (cs.getD (off+j) .undef))->Ak (forces cs ks off).1 ->
    ∀ j,j<ks.length->Au O Aa m w (f j) ((forces cs ks off).2.getD j .undef):=by
  induction ks with
  | nil=>intro off f _ _ j hj;simp at hj
  | cons k ks ih =>
    intro off f h hok j hj
    obtain⟨h1,h2⟩:=hok.append
    cases j with
    | zero=>exact Xr (by have:=h 0 (by simp);simpa using this) h1
    | succ j =>
      have:=ih (off+1) (fun j=>f (j+1)) (fun j hj=>by have:=h (j+1) (by simpa using hj);rwa [show off+(j+1)=off+1+j from by omega]at this) h2 j (by simpa using hj)
      simpa [forces]using this
theorem J5 {t:Nat} {ti:TI} (hT:Jl P t ti) {b k:Nat} (f:Nat->Value) (hc: ∀ j,j<ti.cs.length->w.cell? (at' b (k+j))=some (f j)) (h0:ti.agg=false->0<ti.cs.length) :
    (loadVar t (at' b k)).run P w= .ok (if ti.agg then .agg ((List.range ti.cs.length).map f).toArray else f 0) w:=by
  unfold loadVar
  simp only[Sem.run_bind,hT.AdS,Result.andThen_ok]
  cases hg:ti.agg with
  | true =>
    have:=run_loadCells (P:=P) w (at' b k) ti.cs.length f (fun j hj=>by rw[Hw];exact hc j hj)
    simp [hT.GL,this]
  | false =>
    have:=hc 0 (h0 hg)
    simp only[Nat.add_zero]at this
    simp [this]
theorem nT {α :Type} {l:List α} {k: α} (h:one? l=some k):l=[k]:=by
  unfold one? at h;split at h<;>simp_all
theorem nM {t:Nat} {ti:TI} (hT:Jl P t ti) {b k off:Nat} {cs:List A} {pre:List Bool} (hc: ∀ j,j<ti.cs.length-> ∃ u,w.cell? (at' b (k+j))=some u/\Ai O w u (cs.getD (off+j) .undef))
    (hok:Ak (MV ti cs off pre).ok): ∃ v,(loadVar t (at' b k)).run P w= .ok v w/\Ap O Aa m w v (MV ti cs off pre).val/\(MV ti cs off pre).new=[]/\(MV ti cs off pre).upd=[]/\(MV ti cs off pre).del=[]:=by
  have hf: ∀ j,j<ti.cs.length->w.cell? (at' b (k+j))=some ((w.cell? (at' b (k+j))).getD undef)/\Ai O w ((w.cell? (at' b (k+j))).getD undef) (cs.getD (off+j) .undef):=by
    intro j hj
    obtain⟨u,h1,h2⟩:=hc j hj
    rw[h1];exact⟨rfl,h2⟩
  unfold MV at hok ⊢
  cases hg:ti.agg with
  | true =>
    rw[hg]at hok
    simp only[cond_true]at hok ⊢
    obtain⟨_,h2⟩:=hok.append
    refine⟨_,J5 hT (fun j=>(w.cell? (at' b (k+j))).getD undef) (fun j hj=>(hf j hj).1) (by simp [hg]),?_,rfl,rfl,rfl⟩
    rw[hg]
    refine⟨_,rfl,by simp [fH],fun j hj=> ?_⟩
    rw[fH]at hj
    have:=AaS (Aa:=Aa) (m:=m) cs ti.cs off (fun j=>(w.cell? (at' b (k+j))).getD undef) (fun j hj=>(hf j hj).2) h2 j hj
    have e:(((List.range ti.cs.length).map fun j=>(w.cell? (at' b (k+j))).getD undef).toArray).getD j undef=(w.cell? (at' b (k+j))).getD undef:=by
      rw[Array.getD_eq_getD_getElem?];simp [hj]
    rw[e];exact this
  | false =>
    rw[hg]at hok
    simp only[cond_false]at hok ⊢
    obtain⟨kk,hk,he⟩:=AA hok
    rw[he]at hok ⊢;clear he
    have hone:=nT hk
    obtain⟨_,h2⟩:=hok.append
    have h0:0<ti.cs.length:=by rw[hone];simp
    refine⟨_,J5 hT (fun j=>(w.cell? (at' b (k+j))).getD undef) (fun j hj=>(hf j hj).1) (fun _=>h0),?_,rfl,rfl,rfl⟩
    rw[hg]
    have:=(hf 0 h0).2
    exact(Xr this h2).toT
theorem nK {l:List CK} (h:fP l=true):l=[.ptr]:=by
  unfold fP at h
  split at h
  ·rfl
  ·cases h
theorem nN {t:Nat} {x:Operand} (hC:TOk P C) (hf:FOk O Aa m w fet) (ho:o.op= .load t x) {x':A} (hx:Ap O Aa m w (a.eval x) x') (hok:Ak (QM C fet t x').ok):Pure P O Aa m a w o (QM C fet t x'):=by
  unfold QM at hok ⊢
  obtain⟨ti,ht,he⟩:=Bf hok
  rw[he]at hok ⊢;clear he
  have hT:=hC.is ht
  have run: ∀ b k v,a.eval x= .pointer (some (at' b k))->(loadVar t (at' b k)).run P w= .ok v w->(execOp a.eval o).run P w= .ok (.value v) w:=by
    intro b k v h1 h2
    simp [execOp,ho,Instr.loadAt,Instr.sureAddr,h1,h2]
  split at hok
  ·obtain⟨cs,hcs,he⟩:=AA hok
   rw[he]at hok
   rw[he];clear he
   rename_i q off
   obtain⟨b,base,h1,h2,h3⟩:=hx.ptr hf (CB hcs)
   obtain⟨h4,h5⟩:=hok.cons
   have h4:=Nat.le_of_ble_eq_true h4
   have h5:0<ti.cs.length:=by simpa [Nat.blt_eq]using h5.cons.1
   have hc: ∀ j,j<ti.cs.length->w.cell? (at' b (base+off+j))=some ((w.cell? (at' b (base+off+j))).getD undef)/\Au O Aa m w ((w.cell? (at' b (base+off+j))).getD undef) (cs.getD (off+j) .undef):=by
     intro j hj
     obtain⟨_,_,u,h6,h7⟩:=h3 (off+j) (by omega)
     rw[Nat.add_assoc,h6];exact⟨rfl,h7⟩
   have hl:=J5 hT (fun j=>(w.cell? (at' b (base+off+j))).getD undef) (fun j hj=>(hc j hj).1) (fun _=>h5)
   refine⟨⟨_,run _ _ _ h2 hl,?_⟩,rfl,rfl,rfl⟩
   simp only[Dl.g,iE]
   cases hg:ti.agg with
   | true =>
     refine⟨_,rfl,by simp;omega,fun j hj=> ?_⟩
     simp only[List.length_take,List.length_drop]at hj
     have e:(((List.range ti.cs.length).map fun j=>(w.cell? (at' b (base+off+j))).getD undef).toArray).getD j undef=(w.cell? (at' b (base+off+j))).getD undef:=by
       rw[Array.getD_eq_getD_getElem?];simp [show j<ti.cs.length from by omega]
     have e2:((cs.drop off).take ti.cs.length).getD j .undef=cs.getD (off+j) .undef:=by
       simp only[List.getD_eq_getElem?_getD,List.getElem?_take,List.getElem?_drop]
       rw[if_pos (by omega)]
     simp only[e2]
     rw[e];exact(hc j (by omega)).2
   | false=>exact(hc 0 h5).2.toT
  ·rename_i cs
   obtain⟨b,k,h1,h2⟩:=(show Au O Aa m w _ (.elt cs)from hx)
   have hle:ti.cs.length<=cs.length:=by
     have hA:Ak [Nat.ble ti.cs.length cs.length]:=by
       unfold MV at hok
       cases hg:ti.agg with
       | true=>rw[hg]at hok;exact(hok.append).1
       | false =>
         rw[hg]at hok
         obtain⟨kk,hk,he⟩:=AA hok
         simp only[cond_false]at hok
         rw[he]at hok;exact(hok.append).1
     exact Nat.le_of_ble_eq_true hA.cons.1
   obtain⟨v,h3,h4,h5,h6,h7⟩:=nM (Aa:=Aa) (m:=m) (k:=k) (off:=0) hT (fun j hj=>by
     obtain⟨_,u,h8,h9⟩:=h2 j (by omega)
     exact⟨u,h8,by simpa using h9⟩) hok
   exact⟨⟨v,run _ _ _ h1 h3,h4⟩,h5,h6,h7⟩
  ·rename_i k q
   obtain⟨h1,h2⟩:=hok.cons
   obtain⟨h2,h3⟩:=h2.cons
   have h3:ti.agg=false:=by simpa using h3.cons.1
   have h1:=Nat.eq_of_beq_eq_true h1
   subst h1
   have h2:=nK h2
   obtain⟨_,p,hp1,⟨b,j,e1,e2,e3⟩,hc⟩:=(show Au O Aa m w (a.eval x) (.clo 0 q)from hx)
   have hl:=J5 (P:=P) (w:=w) hT (b:=b) (k:=j) (fun _=>p) (fun i hi=>by
     have:i=0:=by rw[h2]at hi;simpa using hi
     subst this;exact e3) (fun _=>by rw[h2];decide)
   rw[h3]at hl
   refine⟨⟨_,run _ _ _ e1 hl,?_⟩,rfl,rfl,rfl⟩
   exact⟨hp1,hc⟩
  ·rename_i q i off
   obtain⟨r,hr,he⟩:=AA hok
   rw[he]at hok
   rw[he];clear he
   have hA:Ak [Nat.ble (off+ti.cs.length) r.l.sz,decide (i<r.l.xs.length)]:=by
     unfold MV at hok
     cases hg:ti.agg with
     | true=>rw[hg]at hok;exact(hok.append).1
     | false =>
       rw[hg]at hok
       obtain⟨kk,hk,he⟩:=AA hok
       simp only[cond_false]at hok
       rw[he]at hok;exact(hok.append).1
   obtain⟨hle,hi⟩:=hA.cons
   have hle:=Nat.le_of_ble_eq_true hle
   have hi':i<r.l.xs.length:=by simpa using hi.cons.1
   have hi:i<r.l.es.length:=by rw[Sl.BC];exact hi'
   obtain⟨hg,hsz,hO⟩:=hf _ _ (ER hr)
   have hx':Au O Aa m w (a.eval x) (.BQ q i off):=hx
   simp only[Au,hg,Option.map_some,Obj.shp]at hx'
   obtain⟨g,n',cap,h1,h2⟩:=hx'.2 hi
   rcases hO with ⟨_,h3,_⟩ | ⟨_,g',cap',cur,h3,h4,h5,h6,h7,h8,_⟩
   ·rw[h3]at hi;simp at hi
   ·rw[h1]at h3
    injection h3 with h3 h3' h3''
    injection h3 with h3;injection h3 with h3
    subst h3
    obtain⟨v,h13,h14,h15,h16,h17⟩:=nM (Aa:=Aa) (m:=m) (O:=O) (b:=g) (k:=i*r.l.sz+off) (off:=off) (cs:=r.l.at i) hT (fun j hj=>by
      obtain⟨u,h9,h10⟩:=h8 i (off+j) hi (by omega)
      rw[r.l.at_eq hi']
      refine⟨u,?_,h10⟩
      rw[h4.cell,Nat.add_assoc];exact h9) hok
    exact⟨⟨v,run _ _ _ h2 h13,h14⟩,h15,h16,h17⟩
  ·exact(Az hok).elim
end
end Go.Proofs.YtadefjgbcapakaaGreatDoor.Vm
namespace Go.Proofs.YtadefjgbcapakaaGreatDoor.Vm
section
variable {P:Program} {C:Ctx} {O:Own} {Aa:List (Nat×Obj)} {m:Nat->Value} {a:Act} {w:World} {o:Oper} {fet:Fet}
def Aap (w:World) (O:Own) (v:Value) (l:Sl):Prop :=
  (∃ ad,v= .slice ad 0 0/\l.xs=[])\/ ∃ b k c,v= .slice (some (at' b k)) l.es.length c/\l.es.length<=c /\
      ∀ i j,i<l.es.length->j<l.sz-> ∃ u,w.cell? (at' b (k+(i*l.sz+j)))=some u/\Ai O w u ((l.es.getD i []).getD j .undef)
theorem jR {l:Sl} (h:l.es=[]):l.xs=[]:=by
  unfold Sl.es at h;exact List.map_eq_nil_iff.1 h
theorem Ai.ofNil {l:Sl} (h:l.es=[]):Ai O w (.slice none 0 0) (.sl l):=by
  obtain⟨t,xs⟩:=l
  have:xs=[]:=jR h
  subst this
  exact .nil t
theorem AgF {x:A} {v:Value} (hf:FOk O Aa m w fet) (hx:Ap O Aa m w v x) (hok:Ak (rd fet x).1):Aap w O v (rd fet x).2:=by
  rcases wE hok with ⟨n,e,frz,l,rfl,hg,hl⟩ | ⟨rfl,hl⟩ | ⟨l,rfl,hl⟩<;>rw[hl]
  ·obtain⟨h1,h0,h2⟩:=hx.own hf hg
   rcases h2 with ⟨h3,h4,h5⟩ | ⟨h3,g,cap,cur,h4,h5,h6,h7,h8,h9,_⟩
   ·exact .inl ⟨none,by rw[h1,h5],jR h4⟩
   ·refine .inr ⟨g,0,cap,by rw[h1,h4],h6,fun i j hi hj=> ?_⟩
    obtain⟨u,h10,h11⟩:=h9 i j hi hj
    exact⟨u,by rw[Nat.zero_add,h5.cell];exact h10,h11⟩
  ·exact .inl ⟨none,hx,rfl⟩
  ·have hx':Ai O w v (.sl l):=hx
   cases hx' with
   | nil=>exact .inl ⟨none,rfl,rfl⟩
   | sl0 ad=>exact .inl ⟨some ad,rfl,rfl⟩
   | @sl b off cap _ vs hc hm hr=>exact .inr ⟨b,off,cap,rfl,hc,fun i j hi hj=>⟨vs i j,(hm i j hi hj).2,hr i j hi hj⟩⟩
theorem Aak {t:Ty} {x:A} {v:Value} (hf:FOk O Aa m w fet) (hx:Ap O Aa m w v x) (hok:Ak (rdT fet t x).1):Aap w O v ⟨t,(rdT fet t x).2⟩:=by
  by_cases hn:x= .BU
  ·subst hn
   exact .inl ⟨none,hx,rfl⟩
  ·have hr:rdT fet t x=match (rd fet x).2.cast t with | some xs=>((rd fet x).1,xs) | none=>([false],[]):=by
     cases x<;>first | rfl | exact absurd rfl hn
   rw[hr]at hok ⊢
   cases hc:(rd fet x).2.cast t with
   | none=>rw[hc]at hok;have:=hok false (by simp);cases this
   | some xs =>
     rw[hc]at hok
     dsimp only at hok ⊢
     have:=AgF hf hx hok
     rw[Sl.GN hc]at this
     exact this
theorem Adm {n:Int} (h:isByte n=true):0<=n/\n<256:=by
  unfold isByte at h
  simpa using h
theorem uV {d:TypeDesc} (h:rH d=true):d= .int .u8:=by
  unfold rH at h;split at h<;>simp_all
theorem Xf {s t:Nat} {x:Operand} (hC:TOk P C) (hf:FOk O Aa m w fet) (ho:o.op= .convert s t x) {x':A} (hx:Ap O Aa m w (a.eval x) x') (hok:Ak (Md C fet s t x').ok) :
    Pure P O Aa m a w o (Md C fet s t x'):=by
  unfold Md at hok ⊢
  obtain⟨ts,hts,he⟩:=Bf hok
  rw[he]at hok ⊢;clear he
  obtain⟨tt,htt,he⟩:=Bf hok
  rw[he]at hok ⊢;clear he
  have hus:=(hC.is hts).run w
  have hut:=(hC.is htt).run w
  split at hok
  ·rename_i k j n hd
   rw[hd]at hut
   have h1:=hx.int
   refine⟨⟨.int k (k.wrap n),?_,.mkInt _ _⟩,rfl,rfl,rfl⟩
   simp only[execOp,ho,convert,Sem.run_bind,hus,hut,Result.andThen_ok,h1]
   cases ts.d<;>simp [Conv.intToInt]
  ·rename_i l hd
   rw[hd]at hut
   obtain⟨b,hb,hl⟩:=hx.str
   refine⟨⟨.string b,?_,.mkStr _ hl⟩,rfl,rfl,rfl⟩
   simp only[execOp,ho,convert,Sem.run_bind,hus,hut,Result.andThen_ok,hb]
   cases ts.d<;>simp
  ·exact(Az hok).elim
  ·rename_i y _ _ hd _ _
   rw[hd]at hut
   obtain⟨e,hel,he⟩:=AA hok
   rw[he]at hok ⊢;clear he
   obtain⟨te,hte,he⟩:=Bf hok
   rw[he]at hok ⊢;clear he
   obtain⟨h1,h2⟩:=hok.cons
   obtain⟨h2,h3⟩:=h2.append
   have h3:=h3.cons.1
   have hde:=uV h1
   have hes:=IZ hel
   have hue:=(hC.is hte).d
   rw[hde]at hue
   have hus':=(hC.is hts).d
   rw[hes]at hus'
   have hr:Aap w O (a.eval x) ⟨OD,(rdB fet y).2⟩:=Aak (t:=OD) hf hx h2
   generalize hL:(rdB fet y).2=bs at *
   have hes:(⟨OD,bs⟩:Sl).es.length=bs.length:=Sl.BC _
   rcases hr with ⟨ad,hv,hn⟩ | ⟨b,k,c,hv,hc,hcell⟩
   ·have hn:bs=[]:=hn
    refine⟨⟨.string .empty,?_,.mkStr _ (by rw[hn];rfl)⟩,rfl,rfl,rfl⟩
    cases ad with
    | none =>
      have:=run_convert_bytes_string (P:=P) w s t e none 0 0 hus' hue (by rw[(hC.is htt).d,hd])
      simp only[execOp,ho,hv,Sem.run_bind,this]
      rfl
    | some ad =>
      have:=run_convert_bytes_back (P:=P) w s t e ad 0 [] hus' hue (by rw[(hC.is htt).d,hd]) (fun j hj=>absurd hj (Nat.not_lt_zero j))
      simp only[List.length_nil]at this
      simp only[execOp,ho,hv,Sem.run_bind,this]
      rfl
   ·refine⟨⟨.string ⟨(List.map byteOf bs).toArray⟩,?_,.mkStr _ (by simp)⟩,rfl,rfl,rfl⟩
    have:=run_convert_bytes_back (P:=P) w s t e (at' b k) c (List.map byteOf bs) hus' hue (by rw[(hC.is htt).d,hd]) (fun j hj=>by
      have hj':j<bs.length:=by simpa using hj
      obtain⟨u,h4,h5⟩:=hcell j 0 (by rw[hes];exact hj') (by show 0<1;omega)
      have hb:isByte (bs.getD j 0)=true:=by
        refine(List.all_eq_true.1 h3) _ ?_
        rw[List.getD_eq_getElem?_getD,List.getElem?_eq_getElem hj'];simp
      obtain⟨h7,h8⟩:=Adm hb
      have h6:(⟨OD,bs⟩:Sl).es.getD j []=[A.int .u8 (bs.getD j 0)]:=by
        rw[<- Sl.at_eq _ hj'];rfl
      rw[h6]at h5
      simp only[List.getD_cons_zero]at h5
      have hu:u= .int .u8 (bs.getD j 0):=by cases h5;rfl
      have h4':w.cell? (at' b (k+(j*1+0)))=some u:=h4
      rw[Hw,show k+j=k+(j*1+0)from by omega,h4',hu]
      have:(List.map byteOf bs)[j]'hj=UInt8.ofNat (bs.getD j 0).toNat:=by
        rw[List.getElem_map,List.getD_eq_getElem?_getD,List.getElem?_eq_getElem hj'];rfl
      rw[this]
      have:((UInt8.ofNat (bs.getD j 0).toNat).toNat:Int)=bs.getD j 0:=by
        rw[UInt8.toNat_ofNat'];omega
      rw[this])
    simp only[List.length_map]at this
    rw[hes]at hv
    simp only[execOp,ho,hv,Sem.run_bind,this]
    rfl
  ·exact(Az hok).elim
theorem AeS {c:Call} {x y:Operand} (ho:o.op= .call c) (hcal:c.callee= .builtin .min) (hargs:c.args= #[x,y]) {x' y':A} (hx:Ap O Aa m w (a.eval x) x') (hy:Ap O Aa m w (a.eval y) y')
    (hok:Ak (Abq x' y').ok):Pure P O Aa m a w o (Abq x' y'):=by
  unfold Abq at hok ⊢
  split at hok
  ·rename_i k p k' q
   cases hk:A.kEq k k' with
   | false=>rw[hk]at hok;exact(Az hok).elim
   | true =>
     have:=H6 hk
     subst this
     refine⟨⟨.int k (if q<p then q else p),?_,?_⟩,rfl,rfl,rfl⟩
     ·have h:=run_min_int2 (P:=P) (w:=w) c.argTypes o.type k k p q
      simp [execOp,ho,resolve,hcal,hargs,invoke,builtin,hx.int,hy.int,h]
     ·show Ap O Aa m w _ (.int k (bif decide (q<p)then q else p))
      by_cases h:q<p<;>simp only[h,decide_true,decide_false,cond_true,cond_false,if_true,if_false]<;>exact .mkInt _ _
  ·exact(Az hok).elim
theorem AeQ {c:Call} {x y:Operand} (ho:o.op= .call c) (hcal:c.callee= .builtin .max) (hargs:c.args= #[x,y]) {x' y':A} (hx:Ap O Aa m w (a.eval x) x') (hy:Ap O Aa m w (a.eval y) y')
    (hok:Ak (Abn x' y').ok):Pure P O Aa m a w o (Abn x' y'):=by
  unfold Abn at hok ⊢
  split at hok
  ·rename_i k p k' q
   cases hk:A.kEq k k' with
   | false=>rw[hk]at hok;exact(Az hok).elim
   | true =>
     have:=H6 hk
     subst this
     refine⟨⟨.int k (if q>p then q else p),?_,?_⟩,rfl,rfl,rfl⟩
     ·have h:=run_max_int2 (P:=P) (w:=w) c.argTypes o.type k k p q
      simp [execOp,ho,resolve,hcal,hargs,invoke,builtin,hx.int,hy.int,h]
     ·show Ap O Aa m w _ (.int k (bif decide (p<q)then q else p))
      by_cases h:p<q<;>simp only[h,gt_iff_lt,decide_true,decide_false,cond_true,cond_false,if_true,if_false]<;>exact .mkInt _ _
  ·exact(Az hok).elim
end
