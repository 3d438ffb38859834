import Derived.Test.YtadefjgbcapakaaGreatDoorA10
import Derived.Orders
import Derived.OwnWalk
set_option linter.all false
namespace Go.Proofs.YtadefjgbcapakaaGreatDoor.Vm
open Classical
section
variable {P:Program} {C:Ctx} {V0:Nat->Value} {O0 O:Own} {w0 w:World} {m:Nat->Value} {st:St} {a:Act}
theorem D7 {a b:List Nat} (h:JZ a b=true): ∀ n∈a,n∉b:=by
  intro n hn hb
  have:=List.all_eq_true.1 h n hn
  rw[Ic.2 hb]at this;cases this
def lastOf:List (Nat×Obj)->Nat->Option Obj
  | [],_=>none
  | (n,x)::r,k=>match lastOf r k with
    | some y=>some y
    | none=>if n=k then some x else none
theorem lI {u:List (Nat×Obj)} {k:Nat} (h:k∉u.map (·.1)):lastOf u k=none:=by
  induction u with
  | nil=>rfl
  | cons p r ih =>
    obtain⟨n,x⟩:=p
    simp only[List.map_cons,List.mem_cons,not_or]at h
    simp only[lastOf,ih h.2]
    exact if_neg (fun e=>h.1 e.symm)
theorem kX (u:List (Nat×Obj)): ∀(l:List (Nat×Obj)) (k:Nat),Ah (Ak l u) k=match lastOf u k with | some x=>some x | none=>Ah l k:=by
  induction u with
  | nil=>intro l k;rfl
  | cons p r ih =>
    obtain⟨n,x⟩:=p
    intro l k
    rw[Ak,ih,Bl]
    simp only[lastOf]
    cases lastOf r k with
    | some y=>rfl
    | none =>
      by_cases h:n=k
      ·simp [h]
      ·have:k≠n:=fun e=>h e.symm
       simp [h,this]
theorem KH (st:St) (o:Oper) (δ :Dl) (k:Nat):Ah (apply st o δ).Aa k=match lastOf δ.new k with
    | some x=>some x
    | none=>if k∈ δ.del then none else match lastOf δ.upd k with
      | some x=>some x
      | none=>Ah st.Aa k:=by
  unfold apply
  dsimp only
  rw[kX,JS,kX]
theorem Ns {st:St} {o:Oper} {δ :Dl} {k:Nat} (h:k∉ δ.upd.map (·.1)++ δ.del++ δ.new.map (·.1)):Ah (apply st o δ).Aa k=Ah st.Aa k:=by
  simp only[List.mem_append,not_or]at h
  rw[KH,lI h.2,lI h.1.1]
  exact if_neg h.1.2
def Srt:List (Nat×Obj)->Prop:=List.Pairwise (fun p q=>p.1<q.1)
theorem AhG: ∀ {l:List (Nat×Obj)},sorted l=true->Srt l:=by
  intro l
  induction l with
  | nil=>intro _;exact List.Pairwise.nil
  | cons p r ih =>
    intro h
    cases r with
    | nil=>exact List.pairwise_singleton _ _
    | cons q r =>
      obtain⟨n,x⟩:=p
      obtain⟨k,y⟩:=q
      simp only[sorted,Bool.and_eq_true,Nat.blt_eq]at h
      have hr:=ih h.2
      refine List.Pairwise.cons (fun q hq=> ?_) hr
      rcases List.mem_cons.1 hq with rfl | hq
      ·exact h.1
      ·exact Nat.lt_trans h.1 ((List.pairwise_cons.1 hr).1 q hq)
theorem Srt.IP {l:List (Nat×Obj)} (h:Srt l) (n:Nat):Srt (Vm.IP l n):=by
  induction l with
  | nil=>exact h
  | cons p r ih =>
    obtain⟨k,x⟩:=p
    obtain⟨h1,h2⟩:=List.pairwise_cons.1 h
    rw[aS]
    split
    ·exact ih h2
    ·exact List.Pairwise.cons (fun q hq=>h1 q (pU hq)) (ih h2)
theorem Srt.QP {l:List (Nat×Obj)} (h:Srt l) {n:Nat} (y:Obj) (hn:Ah l n=none):Srt (Vm.QP l n y):=by
  induction l with
  | nil=>exact List.pairwise_singleton _ _
  | cons p r ih =>
    obtain⟨k,x⟩:=p
    obtain⟨h1,h2⟩:=List.pairwise_cons.1 h
    rw[CW]at hn
    have hkn:k≠n:=fun e=>by rw[if_pos e]at hn;cases hn
    rw[if_neg hkn]at hn
    simp only[Vm.QP]
    cases hle:Nat.ble n k with
    | true =>
      have:=Nat.le_of_ble_eq_true hle
      refine List.Pairwise.cons (fun q hq=> ?_) h
      rcases List.mem_cons.1 hq with rfl | hq
      ·show n<k;omega
      ·have:=h1 q hq
       show n<q.1
       dsimp only at this;omega
    | false =>
      have hlt:k<n:=by
        rcases Nat.lt_or_ge k n with h | h
        ·exact h
        ·rw[Nat.ble_eq_true_of_le h]at hle;cases hle
      refine List.Pairwise.cons (fun q hq=> ?_) (ih h2 hn)
      rcases Ad5 hq with rfl | hq
      ·exact hlt
      ·exact h1 q hq
theorem Srt.CX {l:List (Nat×Obj)} (h:Srt l) (n:Nat) (y:Obj):Srt (Vm.CX l n y):=(h.IP n).QP y (by rw[Qy,if_pos rfl])
theorem Srt.Ak: ∀(u:List (Nat×Obj)) {l:List (Nat×Obj)},Srt l->Srt (Vm.Ak l u):=by
  intro u
  induction u with
  | nil=>intro l h;exact h
  | cons p r ih=>intro l h;obtain⟨n,x⟩:=p;exact ih (h.CX n x)
theorem Srt.Bj: ∀(u:List Nat) {l:List (Nat×Obj)},Srt l->Srt (Vm.Bj l u):=by
  intro u
  induction u with
  | nil=>intro l h;exact h
  | cons n r ih=>intro l h;exact ih (h.IP n)
theorem Srt.apply {st:St} (h:Srt st.Aa) (o:Oper) (δ :Dl):Srt (Vm.apply st o δ).Aa:=((h.Ak δ.upd).Bj δ.del).Ak δ.new
theorem NJ {n:Nat} {x:Obj} {r:List (Nat×Obj)}:Ah ((n,x)::r) n=some x:=by rw[CW,if_pos rfl]
theorem iH {l:List (Nat×Obj)} {k:Nat} (h: ∀ p∈l,k<p.1):Ah l k=none:=by
  cases hx:Ah l k with
  | none=>rfl
  | some x=>exact absurd (h _ (mF hx)) (Nat.lt_irrefl _)
theorem Srt.ext: ∀ {l l':List (Nat×Obj)},Srt l->Srt l'->(∀ k,Ah l k=Ah l' k)->l=l':=by
  intro l
  induction l with
  | nil =>
    intro l' _ _ h
    cases l' with
    | nil=>rfl
    | cons p r=>obtain⟨n,x⟩:=p;have:=h n;rw[NJ]at this;cases this
  | cons p r ih =>
    intro l' h1 h2 h
    obtain⟨n,x⟩:=p
    cases l' with
    | nil=>have:=h n;rw[NJ]at this;cases this
    | cons q r' =>
      obtain⟨k,y⟩:=q
      obtain⟨a1,a2⟩:=List.pairwise_cons.1 h1
      obtain⟨b1,b2'⟩:=List.pairwise_cons.1 h2
      have hnk:n=k:=by
        rcases Nat.lt_trichotomy n k with hlt | he | hgt
        ·have:=h n
         rw[NJ,iH]at this
         ·cases this
         ·intro p hp
          rcases List.mem_cons.1 hp with rfl | hp
          ·exact hlt
          ·exact Nat.lt_trans hlt (b1 p hp)
        ·exact he
        ·have:=h k
         rw[NJ,iH]at this
         ·cases this
         ·intro p hp
          rcases List.mem_cons.1 hp with rfl | hp
          ·exact hgt
          ·exact Nat.lt_trans hgt (a1 p hp)
      subst hnk
      have hx:=h n
      rw[NJ,NJ]at hx
      injection hx with hx;subst hx
      rw[ih a2 b2' (fun j=> ?_)]
      by_cases hj:n=j
      ·subst hj;rw[iH a1,iH b1]
      ·have:=h j
       rw[CW,CW,if_neg hj,if_neg hj]at this;exact this
theorem put_comm (tmps:List A) {d e:Option Tmp} (x y:A) (h: ∀ t,d=some t->e≠some t):put (put tmps d x) e y=put (put tmps e y) d x:=by
  cases d with
  | none=>rfl
  | some d =>
    cases e with
    | none=>rfl
    | some e =>
      have:d≠e:=fun he=>h d rfl (by rw[he])
      exact List.set_comm _ _ this
theorem AfH (tmps:List A) {d:Option Tmp} (x:A) {t:Nat} (h:d≠some t):(put tmps d x).getD t .undef=tmps.getD t .undef:=by
  cases d with
  | none=>rfl
  | some d =>
    have:d≠t:=fun e=>h (by rw[e])
    simp [put,List.getD_eq_getElem?_getD,List.getElem?_set,this]
theorem SX {o:Oper} {t:Nat}:t∈Ql o↔o.dst=some t:=by
  unfold Ql
  cases o.dst with
  | none=>simp
  | some d=>simp [eq_comm]
theorem AcP {ops:List Oper} {o:Oper} {tmps:List A} {d:Option Tmp} {v:A} (h: ∀ t,d=some t->t∉slotsOf ops o) {x:Operand} (hx:x∈o.op.operands):Ci (put tmps d v) x=Ci tmps x:=by
  cases x with
  | tmp t =>
    refine AfH tmps v fun hd=>h t hd ?_
    exact List.mem_append_left _ (List.mem_filterMap.2 ⟨.tmp t,by simpa using hx,rfl⟩)
  | _=>rfl
theorem AaC {ops:List Oper} {o:Oper} {tmps:List A} {d:Option Tmp} {v:A} (h: ∀ t,d=some t->t∉slotsOf ops o):guardOf ops (put tmps d v) o.guard=guardOf ops tmps o.guard:=by
  cases hg:o.guard with
  | none=>rfl
  | some p =>
    obtain⟨j,want⟩:=p
    unfold guardOf
    dsimp only
    cases hj:ops[j]? with
    | none=>rfl
    | some oj =>
      dsimp only
      cases hd:oj.dst with
      | none=>rfl
      | some t =>
        dsimp only
        rw[AfH tmps v (t:=t) (fun hd'=>h t hd' (by
          unfold slotsOf
          refine List.mem_append_right _ ?_
          rw[hg];dsimp only;rw[hj];dsimp only;rw[hd];simp))]
theorem lC {Aa objs':List (Nat×Obj)}: ∀(l:List Nat),(∀ n∈l,Ah Aa n=Ah objs' n)->fetch Aa l=fetch objs' l:=by
  intro l
  induction l with
  | nil=>intro _;rfl
  | cons n r ih =>
    intro h
    simp only[fetch]
    rw[h n List.mem_cons_self,ih (fun k hk=>h k (List.mem_cons_of_mem _ hk))]
theorem Ac4 {op:Op} {vs:List A} (h:iI op vs=true):(∃ x,op= .move x)\/(∃ x,op= .assign x)\/ ∃ t x k q,op= .load t x/\vs=[.clo k q]:=by
  unfold iI at h
  split at h
  ·exact .inl ⟨_,rfl⟩
  ·exact .inr (.inl ⟨_,rfl⟩)
  ·exact .inr (.inr ⟨_,_,_,_,rfl,rfl⟩)
  ·cases h
theorem wO {ops:List Oper} {o:Oper} {s1 s2:St} (hE: ∀ x∈o.op.operands,Ci s2.tmps x=Ci s1.tmps x) (hG:guardOf ops s2.tmps o.guard=guardOf ops s1.tmps o.guard)
    (hF: ∀ n∈HY o s1 (Gf o s1),Ah s2.Aa n=Ah s1.Aa n) (h1: ∀ n∈(BL C ops o s1).new.map (·.1),s1.fresh n=true) (h2: ∀ n∈(BL C ops o s1).new.map (·.1),s2.fresh n=true) :
    BL C ops o s2=BL C ops o s1/\HY o s2 (Gf o s2)=HY o s1 (Gf o s1):=by
  have hmap:o.op.operands.toList.map (Ci s2.tmps)=o.op.operands.toList.map (Ci s1.tmps):=List.map_congr_left fun x hx=>hE x (by simpa using hx)
  have hvs:Gf o s2=Gf o s1:=by unfold Gf;rw[hmap]
  have key:((∀ w,opX C o (Gf o s1) (CP s2 w)=opX C o (Gf o s1) (CP s1 w))/\(∀ f,(opX C o (Gf o s1) f).upd=[])/\HY o s2 (Gf o s1)=HY o s1 (Gf o s1))\/(CP s2 (Gf o s1)=CP s1 (Gf o s1)/\HY o s2 (Gf o s1)=HY o s1 (Gf o s1)):=by
    unfold HY at hF ⊢
    cases hm:iI o.op (Gf o s1)with
    | true =>
      have hu: ∀(v:List A),(a1 (fun a=>.v a) v).upd=[]:=fun v=>by
        cases v with
        | nil=>rfl
        | cons x r=>cases r<;>rfl
      rcases Ac4 hm with ⟨x,e⟩ | ⟨x,e⟩ | ⟨t,x,k,q,e,ev⟩
      ·exact .inl ⟨fun w=>by unfold opX;rw[e],fun f=>by unfold opX;rw[e];exact hu _,rfl⟩
      ·exact .inl ⟨fun w=>by unfold opX;rw[e],fun f=>by unfold opX;rw[e];exact hu _,rfl⟩
      ·have hl: ∀ f,(Vu C f t (.clo k q)).upd=[]:=fun f=>by
         unfold Vu DT BB
         cases C.T t<;>rfl
       exact .inl ⟨fun w=>by unfold opX;rw[e,ev];rfl,fun f=>by unfold opX;rw[e,ev];exact hl f,rfl⟩
    | false =>
      rw[hm]at hF
      have e1:fetch s2.Aa ((Gf o s1).flatMap A.ids)=fetch s1.Aa ((Gf o s1).flatMap A.ids):=lC _ (fun n hn=>hF n (List.mem_append_left _ hn))
      refine .inr ⟨?_,by show(_++_:List Nat)=_;rw[e1];rfl⟩
      unfold CP
      dsimp only
      rw[e1,lC _ (fun n hn=>hF n (List.mem_append_right _ hn))]
  have hop:opX C o (Gf o s1) (CP s2 (Gf o s1))=opX C o (Gf o s1) (CP s1 (Gf o s1)):=by
    rcases key with h | h
    ·exact h.1 _
    ·rw[h.1]
  refine⟨?_,by rw[hvs];rcases key with h | h;exact h.2.2;exact h.2⟩
  unfold BL at h1 h2 ⊢
  rw[hG,hmap]
  have hfa':opX C o (CG o.op (o.op.operands.toList.map (Ci s1.tmps))).2 (CP s2 (CG o.op (o.op.operands.toList.map (Ci s1.tmps))).2)=opX C o (CG o.op (o.op.operands.toList.map (Ci s1.tmps))).2 (CP s1 (CG o.op (o.op.operands.toList.map (Ci s1.tmps))).2):=hop
  cases hg:guardOf ops s1.tmps o.guard with
  | none=>rfl
  | some r =>
    cases r with
    | some g =>
      dsimp only
      rcases key with h | h
      ·have hu:=h.2.1 (CP s1 (Gf o s1))
       rw[hfa']
       have hu':(opX C o (CG o.op (o.op.operands.toList.map (Ci s1.tmps))).2 (CP s1 (CG o.op (o.op.operands.toList.map (Ci s1.tmps))).2)).upd=[]:=hu
       simp only[hu',List.map_nil]
      ·have h1':CP s2 (CG o.op (o.op.operands.toList.map (Ci s1.tmps))).2=CP s1 (CG o.op (o.op.operands.toList.map (Ci s1.tmps))).2:=h.1
       rw[h1']
    | none =>
      rw[hg]at h1 h2
      dsimp only at h1 h2 ⊢
      rw[hfa']
      generalize opX C o (CG o.op (o.op.operands.toList.map (Ci s1.tmps))).2 (CP s1 (CG o.op (o.op.operands.toList.map (Ci s1.tmps))).2)= δ at *
      have a1: δ.new.all (fun p=>s1.fresh p.1)=true:=List.all_eq_true.2 fun p hp=>h1 p.1 (List.mem_map.2 ⟨p,hp,rfl⟩)
      have a2: δ.new.all (fun p=>s2.fresh p.1)=true:=List.all_eq_true.2 fun p hp=>h2 p.1 (List.mem_map.2 ⟨p,hp,rfl⟩)
      rw[a1,a2]
end
end Go.Proofs.YtadefjgbcapakaaGreatDoor.Vm
namespace Go.Proofs.YtadefjgbcapakaaGreatDoor.Vm
open Classical
section
variable {P:Program} {C:Ctx} {V0:Nat->Value} {O0 O:Own} {w0 w:World} {m:Nat->Value} {st st':St} {a:Act}
structure AnM (C:Ctx) (ops:List Oper) (x:CO) (st:St):Prop where
  step:BL C ops x.o st=x.δ
  rd:HY x.o st (Gf x.o st)=x.rd
def aQ (C:Ctx) (ops:List Oper):List CO->St->St->Prop
  | [],s,s'=>s=s'
  | x::r,s,s'=>AnM C ops x s/\aQ C ops r (apply s x.o x.δ) s'
theorem Ahi: ∀(u:List Nat) {l:List (Nat×Obj)} {p:Nat×Obj},p∈Bj l u->p∈l:=by
  intro u
  induction u with
  | nil=>intro l p h;exact h
  | cons n r ih=>intro l p h;exact pU (ih h)
theorem QD {x:CO} {n:Nat} (h:st.fresh n=true) (h1:n∉x.says) (h2:n∉x.keys):(apply st x.o x.δ).fresh n=true:=by
  obtain⟨f1,f2,f3,f4⟩:=Ej h
  unfold CO.says at h1
  simp only[List.mem_append,not_or]at h1
  have g1:has (apply st x.o x.δ).ids n=false:=by
    rw[<- Bool.not_eq_true]
    intro hh
    rcases List.mem_append.1 (Ic.1 hh)with hm | hm
    ·obtain⟨c,hc,hi⟩:=List.mem_flatMap.1 hm
     have hc:c∈put st.tmps x.o.dst x.δ.val:=hc
     have:c∈st.tmps\/c=x.δ.val:=by
       cases hd:x.o.dst with
       | none=>rw[hd]at hc;exact .inl hc
       | some d=>rw[hd]at hc;exact List.mem_or_eq_of_mem_set hc
     rcases this with hc | hc
     ·exact f1 (List.mem_append_left _ (List.mem_flatMap.2 ⟨c,hc,hi⟩))
     ·rw[hc]at hi;exact h1.1.1 hi
    ·obtain⟨p,hp,hi⟩:=List.mem_flatMap.1 hm
     rcases Su x.δ.new (show p∈Ak (Bj (Ak st.Aa x.δ.upd) x.δ.del) x.δ.new from hp)with hp | hp
     ·exact h1.2 (List.mem_flatMap.2 ⟨p,hp,hi⟩)
     ·rcases Su x.δ.upd (Ahi _ hp)with hp | hp
      ·exact h1.1.2 (List.mem_flatMap.2 ⟨p,hp,hi⟩)
      ·exact f1 (List.mem_append_right _ (List.mem_flatMap.2 ⟨p,hp,hi⟩))
  have g2:Ah (apply st x.o x.δ).Aa n=none:=by rw[Ns h2];exact f2
  unfold St.fresh
  rw[g1,g2,f4,Ld]
  simp [f3]
theorem swap {ops:List Oper} {x y:CO} {r:List CO} (hi:indep ops x y=true) (hxF: ∀ n∈x.news,st.fresh n=true) (hyF: ∀ n∈y.news,st.fresh n=true) (h1:JZ y.news x.says=true) (h2:JZ y.news x.keys=true)
    (hs:Srt st.Aa) (h:aQ C ops (x::y::r) st st'):aQ C ops (y::x::r) st st':=by
  unfold indep at hi
  simp only[Bool.and_eq_true]at hi
  obtain⟨⟨⟨⟨⟨⟨i1,i2⟩,i3⟩,i4⟩,i5⟩,i6⟩,i7⟩:=hi
  obtain⟨hx,hy,hr⟩:=h
  have hkx: ∀ n,n∈x.keys->n∉y.keys:=D7 i6
  have hnx: ∀ n∈x.news,n∈x.keys:=fun n hn=>List.mem_append_right _ hn
  have cy:=wO (C:=C) (ops:=ops) (o:=y.o) (s1:=apply st x.o x.δ) (s2:=st)
    (fun z hz=>(AcP (fun t ht=>D7 i2 t (SX.2 ht)) hz).symm) (AaC (fun t ht=>D7 i2 t (SX.2 ht))).symm
    (fun n hn=>(Ns (fun hk=>D7 i4 n hk (by rw[<- hy.rd];exact hn))).symm)
    (fun n hn=>by rw[hy.step]at hn;exact QD (hyF n hn) (D7 h1 n hn) (D7 h2 n hn))
    (fun n hn=>by rw[hy.step]at hn;exact hyF n hn)
  have cx:=wO (C:=C) (ops:=ops) (o:=x.o) (s1:=st) (s2:=apply st y.o y.δ)
    (fun z hz=>AcP (fun t ht=>D7 i3 t (SX.2 ht)) hz) (AaC (fun t ht=>D7 i3 t (SX.2 ht)))
    (fun n hn=>Ns (fun hk=>D7 i5 n hk (by rw[<- hx.rd];exact hn)))
    (fun n hn=>by rw[hx.step]at hn;exact hxF n hn)
    (fun n hn=>by rw[hx.step]at hn;exact QD (hxF n hn) (D7 i7 n hn) (hkx n (hnx n hn)))
  have hst:apply (apply st y.o y.δ) x.o x.δ =apply (apply st x.o x.δ) y.o y.δ :=by
    have e1:(apply (apply st y.o y.δ) x.o x.δ).tmps=(apply (apply st x.o x.δ) y.o y.δ).tmps:=(put_comm st.tmps x.δ.val y.δ.val (fun t ht he=>D7 i1 t (SX.2 ht) (SX.2 he))).symm
    have e2:(apply (apply st y.o y.δ) x.o x.δ).Aa=(apply (apply st x.o x.δ) y.o y.δ).Aa:=by
      refine Srt.ext ((hs.apply _ _).apply _ _) ((hs.apply _ _).apply _ _) fun k=> ?_
      by_cases hk:k∈x.keys
      ·have hky:=hkx k hk
       rw[Ns (o:=y.o) (δ :=y.δ) hky,KH (apply st y.o y.δ),Ns (o:=y.o) (δ :=y.δ) hky,<- KH st]
      ·rw[Ns (o:=x.o) (δ :=x.δ) hk,KH (apply st x.o x.δ),Ns (o:=x.o) (δ :=x.δ) hk,<- KH st]
    generalize apply (apply st y.o y.δ) x.o x.δ =s at *
    generalize apply (apply st x.o x.δ) y.o y.δ =s' at *
    cases s;cases s'
    dsimp only at e1 e2
    rw[e1,e2]
  refine⟨⟨by rw[cy.1,hy.step],by rw[cy.2,hy.rd]⟩,⟨by rw[cx.1,hx.step],by rw[cx.2,hx.rd]⟩,?_⟩
  rw[hst];exact hr
structure Pre (R:List CO) (st:St):Prop where
  srt:Srt st.Aa
  fresh: ∀ z∈R,∀ n∈z.news,st.fresh n=true
  pairs:R.Pairwise (fun y z=>JZ z.news y.says=true/\JZ z.news y.keys=true)
theorem Pre.step {y:CO} {R:List CO} (h:Pre (y::R) st):Pre R (apply st y.o y.δ):=by
  obtain⟨h1,h2⟩:=List.pairwise_cons.1 h.pairs
  exact⟨h.srt.apply _ _,fun z hz n hn=>QD (h.fresh z (List.mem_cons_of_mem _ hz) n hn) (D7 (h1 z hz).1 n hn) (D7 (h1 z hz).2 n hn),h2⟩
theorem front {ops:List Oper} {x:CO} {L2:List CO}: ∀(L1:List CO) {st:St},Pre (L1++x::L2) st->(∀ y∈L1,indep ops y x=true)->aQ C ops (L1++x::L2) st st'->aQ C ops (x::(L1++L2)) st st':=by
  intro L1
  induction L1 with
  | nil=>intro st _ _ h;exact h
  | cons y L1 ih =>
    intro st hP hi h
    have h1:=ih (st:=apply st y.o y.δ) (hP.step) (fun z hz=>hi z (List.mem_cons_of_mem _ hz)) h.2
    have hx:x∈L1++x::L2:=List.mem_append_right _ List.mem_cons_self
    obtain⟨p1,_⟩:=List.pairwise_cons.1 hP.pairs
    exact swap (hi y List.mem_cons_self) (hP.fresh y List.mem_cons_self) (hP.fresh x (List.mem_cons_of_mem _ hx)) (p1 x hx).1 (p1 x hx).2 hP.srt ⟨h.1,h1⟩
theorem Aio {md:Region.Mode} {e:Edge} (h:Region.binds .any e=true):Region.binds md e=true:=by
  unfold Region.binds at h ⊢
  cases hg:e.ground with
  | textOnly r=>rw[hg]at h;cases h
  | gcOnly r=>rw[hg]at h;cases h
  | _=>rfl
theorem Qs {ops:List Oper} {i:Nat} {x y:CO} (h:Un ops i x y=true):JZ y.news x.says=true/\JZ y.news x.keys=true/\(i∈y.anc\/indep ops x y=true):=by
  unfold Un at h
  simp only[Bool.and_eq_true,Bool.or_eq_true]at h
  exact⟨h.1.1,h.1.2,h.2.imp Ic.1 id⟩
theorem AcY {l:Array Bool} {i:Nat} (h:i<l.size) (b c:Bool):l.getD i b=l.getD i c:=by
  simp [Array.getD_eq_getD_getElem?,h]
theorem Ag6 {α :Type} (f: α ->Nat): ∀(l:List α),l≠ []-> ∃ x∈l,∀ y∈l,f x<=f y:=by
  intro l
  induction l with
  | nil=>intro h;exact absurd rfl h
  | cons a r ih =>
    intro _
    by_cases hr:r=[]
    ·exact⟨a,List.mem_cons_self,fun y hy=>by rw[hr]at hy;simp at hy;rw[hy];exact Nat.le_refl _⟩
    ·obtain⟨x,hx,hm⟩:=ih hr
     by_cases h:f a<=f x
     ·exact⟨a,List.mem_cons_self,fun y hy=>by
        rcases List.mem_cons.1 hy with rfl | hy
        ·exact Nat.le_refl _
        ·exact Nat.le_trans h (hm y hy)⟩
     ·exact⟨x,List.mem_cons_of_mem _ hx,fun y hy=>by
        rcases List.mem_cons.1 hy with rfl | hy
        ·omega
        ·exact hm y hy⟩
theorem AkU {ρ :Type} (hC:IJ P C) {ops:Array Oper} {md:Region.Mode} {Q:Exit->Act->World->Prop} {v: ρ} {K:St->Option ρ} (hQ: ∀ O' m' st' a' w',Sim V0 O0 w0 O' m' st' a' w'->K st'=some v->Q .normal a' w')
    {ANC:List (List Nat)} (hanc: ∀(j:Nat) (o:Oper),ops[j]? =some o-> ∀ i∈ANC.getD j [],∃ e∈Oy o,i=e\/i∈ANC.getD e []) {rk:Nat->Nat} (hback: ∀(j:Nat) (o:Oper),ops[j]? =some o-> ∀ e∈o.after,Region.binds md e=true->e.on<ops.size/\rk e.on<rk j) :
    ∀(fuel:Nat) (R:List (Nat×CO)) (listed:Array Bool) {O:Own} {m:Nat->Value} {st:St} {a:Act} {w:World},R.length=fuel->R.Pairwise (fun p q=>p.1<q.1) ->
     (∀ p∈R,ops[p.1]? =some p.2.o/\Am p.2.δ.ok/\p.2.anc=ANC.getD p.1 [])->listed.size=ops.size->(∀ i,i<ops.size->(listed.getD i true=false↔i∈R.map (·.1))) ->
     (∀ e,listed.getD e false=true-> ∀ i∈ANC.getD e [],listed.getD i false=true)->R.Pairwise (fun p q=>Un ops.toList p.1 p.2 q.2=true)->(∀ p∈R,∀ n∈p.2.news,st.fresh n=true)->Srt st.Aa ->
     aQ C ops.toList (R.map (·.2)) st st'->K st'=some v->Sim V0 O0 w0 O m st a w->wpAny P md ops Q fuel listed a w:=by
  intro fuel
  induction fuel with
  | zero =>
    intro R listed O m st a w hlen _ _ hsz hl _ _ _ _ hruns hK hS
    have hR:R=[]:=List.length_eq_zero_iff.1 hlen
    subst hR
    refine⟨?_,?_⟩
    ·rw[List.eq_nil_iff_forall_not_mem]
     intro i hi
     obtain⟨h1,o,h2,_⟩:=mem_ready.1 hi
     have hlt:=(Array.getElem?_eq_some_iff.1 h2).1
     have:=(hl i hlt).1 h1
     simp at this
    ·have:st=st':=hruns
     subst this
     exact hQ _ _ _ _ _ hS hK
  | succ fuel ih =>
    intro R listed O m st a w hlen hord hops hsz hl hcl hpr hfr hsrt hruns hK hS
    have hin: ∀ p∈R,p.1<ops.size:=fun p hp=>(Array.getElem?_eq_some_iff.1 (hops p hp).1).1
    refine⟨fun hnil=> ?_,fun i hi=> ?_⟩
    ·exfalso
     obtain⟨p,hpR,hmin⟩:=Ag6 (fun q:Nat×CO=>rk q.1) R (by intro h;rw[h]at hlen;simp at hlen)
     have hp:=hin p hpR
     have:p.1∈Region.ready md ops listed:=by
       refine mem_ready.2 ⟨(hl p.1 hp).2 (List.mem_map.2 ⟨p,hpR,rfl⟩),p.2.o,(hops p hpR).1,fun e he hb=> ?_⟩
       obtain⟨hsize,hlt⟩:=hback _ _ (hops p hpR).1 e he hb
       have hno:e.on∉R.map (·.1):=by
         intro hm
         obtain⟨q,hq,hqe⟩:=List.mem_map.1 hm
         have:=hmin q hq
         rw[hqe]at this
         omega
       have:listed.getD e.on true≠false:=fun h=>hno ((hl e.on hsize).1 h)
       rw[AcY (by rw[hsz];exact hsize) false true]
       simpa using this
     rw[hnil]at this;cases this
    ·obtain⟨hi1,oi,hi2,hi3⟩:=mem_ready.1 hi
     have hilt:=(Array.getElem?_eq_some_iff.1 hi2).1
     obtain⟨p,hp,rfl⟩:=List.mem_map.1 ((hl i hilt).1 hi1)
     obtain⟨L1,L2,rfl⟩:=List.append_of_mem hp
     obtain⟨i,x⟩:=p
     dsimp only at hi hi1 hi2 hi3 hilt ⊢
     obtain⟨hx1,hx2,hx3⟩:=hops (i,x) hp
     dsimp only at hx1 hx2 hx3
     have hancl: ∀ j∈ANC.getD i [],listed.getD j false=true:=by
       intro j hj
       obtain⟨e,he,hje⟩:=hanc i _ hx1 j hj
       have hel:listed.getD e false=true:=by
         unfold Oy at he
         obtain⟨ed,hed,hb⟩:=List.mem_filterMap.1 he
         rw[hi2]at hx1;injection hx1 with hx1;subst hx1
         cases hbb:Region.binds .any ed with
         | false=>rw[hbb]at hb;cases hb
         | true =>
           rw[hbb]at hb
           injection hb with hb
           rw[<- hb];exact hi3 ed (by simpa using hed) (Aio hbb)
       rcases hje with rfl | hje
       ·exact hel
       ·exact hcl e hel j hje
     have hord':=List.pairwise_append.1 hord
     have hpr':=List.pairwise_append.1 hpr
     have hind: ∀ q∈L1,Un ops.toList q.1 q.2 x=true/\indep ops.toList q.2 x=true:=by
       intro q hq
       have hpq:=hpr'.2.2 q hq (i,x) List.mem_cons_self
       dsimp only at hpq
       refine⟨hpq,(Qs hpq).2.2.resolve_left fun hm=> ?_⟩
       rw[hx3]at hm
       have h1:=hancl _ hm
       have hqR:q∈L1++(i,x)::L2:=List.mem_append_left _ hq
       have hqlt:=hin q hqR
       have h2:=(hl q.1 hqlt).2 (List.mem_map.2 ⟨q,hqR,rfl⟩)
       rw[AcY (by rw[hsz];exact hqlt) true false,h1]at h2
       cases h2
     have hPre:Pre ((L1++(i,x)::L2).map (·.2)) st:=by
       refine⟨hsrt,fun z hz n hn=> ?_,?_⟩
       ·obtain⟨q,hq,rfl⟩:=List.mem_map.1 hz
        exact hfr q hq n hn
       ·rw[List.pairwise_map]
        exact hpr.imp fun h=>⟨(Qs h).1,(Qs h).2.1⟩
     have hfront:aQ C ops.toList (x::(L1.map (·.2)++L2.map (·.2))) st st':=by
       refine front (L1.map (·.2)) (by simpa using hPre) (fun y hy=> ?_) (by simpa using hruns)
       obtain⟨q,hq,rfl⟩:=List.mem_map.1 hy
       exact(hind q hq).2
     obtain⟨hstep,hrest⟩:=hfront
     have hsub:List.Sublist (L1++L2) (L1++(i,x)::L2):=List.Sublist.append_left (List.sublist_cons_self _ _) _
     have hnext: ∀ O' m' a' w',Sim V0 O0 w0 O' m' (apply st x.o (BL C ops.toList x.o st)) a' w'->wpAny P md ops Q fuel (listed.setIfInBounds i true) a' w':=by
       intro O' m' a' w' hS'
       rw[hstep.step]at hS'
       refine ih (L1++L2) _ (by simp at hlen ⊢;omega) (hord.sublist hsub) (fun q hq=>hops q (hsub.subset hq)) (by simpa using hsz) (fun j hj=> ?_) (fun e he j hj=> ?_) (hpr.sublist hsub) (fun q hq n hn=> ?_) (hsrt.apply _ _) (by simpa using hrest) hK hS'
       ·by_cases hji:i=j
        ·subst hji
         have h1:(listed.setIfInBounds i true).getD i true=true:=by simp [Array.getD_eq_getD_getElem?,hsz,hj]
         rw[h1]
         refine⟨fun h=>(by cases h),fun h=> ?_⟩
         obtain⟨q,hq,hqi⟩:=List.mem_map.1 h
         rcases List.mem_append.1 hq with hq | hq
         ·have:=hord'.2.2 q hq (i,x) List.mem_cons_self
          dsimp only at this;omega
         ·have:=(List.pairwise_cons.1 hord'.2.1).1 q hq
          dsimp only at this;omega
        ·rw[getD_set_ne true hji,hl j hj]
         simp only[List.map_append,List.map_cons,List.mem_append,List.mem_cons]
         constructor
         ·rintro (h | h | h)
          ·exact .inl h
          ·exact absurd h.symm hji
          ·exact .inr h
         ·rintro (h | h)
          ·exact .inl h
          ·exact .inr (.inr h)
       ·by_cases hei:i=e
        ·subst hei;exact getD_set_true (hancl j hj)
        ·rw[getD_set_ne false hei]at he
         exact getD_set_true (hcl e he j hj)
       ·have hq':=hsub.subset hq
        have hf:=hfr q hq' n hn
        rcases List.mem_append.1 hq with hq | hq
        ·have hi':=(hind q hq).2
         unfold indep at hi'
         simp only[Bool.and_eq_true]at hi'
         exact QD hf (D7 hi'.2 n hn) (D7 hi'.1.2 n (List.mem_append_right _ hn))
        ·have hpq:=Qs ((List.pairwise_cons.1 hpr'.2.1).1 q hq)
         exact QD hf (D7 hpq.1 n hn) (D7 hpq.2.1 n hn)
     have hw:=wP hC hS (ops:=ops) (o:=x.o) (by rw[hstep.step];exact hx2) (wpAny P md ops Q fuel (listed.setIfInBounds i true)) Q hnext
     unfold wpOp
     rw[hx1]
     dsimp only
     split
     ·rename_i hwt;rw[if_pos hwt]at hw;exact .inl hw
     ·rename_i hwt;rw[if_neg hwt]at hw;exact hw
end
end Go.Proofs.YtadefjgbcapakaaGreatDoor.Vm
namespace Go.Proofs.YtadefjgbcapakaaGreatDoor.Vm
open Classical
section
variable {P:Program} {C:Ctx} {V0:Nat->Value} {O0 O:Own} {w0 w:World} {m:Nat->Value} {st st':St} {a:Act}
def enum:Nat->List CO->List (Nat×CO)
  | _,[]=>[]
  | i,x::r=>(i,x)::enum (i+1) r
theorem Ae3: ∀(l:List CO) (i:Nat),(enum i l).length=l.length:=by
  intro l
  induction l with
  | nil=>intro i;rfl
  | cons x r ih=>intro i;simp [enum,ih]
theorem AkZ: ∀(l:List CO) (i:Nat),(enum i l).map (·.2)=l:=by
  intro l
  induction l with
  | nil=>intro i;rfl
  | cons x r ih=>intro i;simp [enum,ih]
theorem YB: ∀(l:List CO) (i:Nat) (p:Nat×CO),p∈enum i l-> ∃ k,p.1=i+k/\l[k]? =some p.2:=by
  intro l
  induction l with
  | nil=>intro i p h;cases h
  | cons x r ih =>
    intro i p h
    rcases List.mem_cons.1 h with rfl | h
    ·exact⟨0,rfl,rfl⟩
    ·obtain⟨k,h1,h2⟩:=ih (i+1) p h
     exact⟨k+1,by omega,by simpa using h2⟩
theorem AkX: ∀(l:List CO) (i j:Nat),j∈(enum i l).map (·.1)↔i<=j/\j<i+l.length:=by
  intro l
  induction l with
  | nil=>intro i j;simp [enum]
  | cons x r ih=>intro i j;simp only[enum,List.map_cons,List.mem_cons,ih,List.length_cons];omega
theorem AkY: ∀(l:List CO) (i:Nat),(enum i l).Pairwise (fun p q=>p.1<q.1):=by
  intro l
  induction l with
  | nil=>intro i;exact List.Pairwise.nil
  | cons x r ih =>
    intro i
    refine List.Pairwise.cons (fun q hq=> ?_) (ih (i+1))
    obtain⟨k,h1,_⟩:=YB _ _ _ hq
    show i<q.1
    omega
theorem Ag4 {ops:List Oper}: ∀(l:List CO) (i:Nat),Tc ops i l=true->(enum i l).Pairwise (fun p q=>Un ops p.1 p.2 q.2=true):=by
  intro l
  induction l with
  | nil=>intro i _;exact List.Pairwise.nil
  | cons x r ih =>
    intro i h
    simp only[Tc,Bool.and_eq_true]at h
    refine List.Pairwise.cons (fun q hq=> ?_) (ih (i+1) h.2)
    obtain⟨k,_,h2⟩:=YB _ _ _ hq
    exact List.all_eq_true.1 h.1 _ (List.mem_of_getElem? h2)
theorem AiA {o:Oper} {e:Nat} (h:e∈Oy o): ∃ ed∈o.after,ed.on=e/\Region.binds .any ed=true:=by
  unfold Oy at h
  obtain⟨ed,hed,hb⟩:=List.mem_filterMap.1 h
  cases hbb:Region.binds .any ed with
  | false=>rw[hbb]at hb;cases hb
  | true=>rw[hbb]at hb;injection hb with hb;exact⟨ed,by simpa using hed,hb,hbb⟩
theorem Abm: ∀(l:List Oper) (i:Nat),backward i l=true-> ∀(k:Nat) (o:Oper),l[k]? =some o-> ∀ e∈o.after,e.on<i+k:=by
  intro l
  induction l with
  | nil=>intro i _ k o h;simp at h
  | cons x r ih =>
    intro i h k o hk e he
    simp only[backward,Bool.and_eq_true]at h
    cases k with
    | zero =>
      simp at hk;subst hk
      have:=List.all_eq_true.1 h.1 e (by simpa using he)
      rw[Nat.blt_eq]at this;exact this
    | succ k =>
      have:=ih (i+1) h.2 k o (by simpa using hk) e he
      omega
theorem xQ: ∀(l:List Oper) (i:Nat),KJ i l=true-> ∀(k:Nat) (o:Oper),l[k]? =some o-> ∀ e∈o.after,Region.binds .any e=true->e.on<i+k:=by
  intro l
  induction l with
  | nil=>intro i _ k o h;simp at h
  | cons x r ih =>
    intro i h k o hk e he hb
    simp only[KJ,Bool.and_eq_true]at h
    cases k with
    | zero =>
      simp at hk;subst hk
      have:=List.all_eq_true.1 h.1 e (by simpa using he)
      rw[hb]at this
      have:Nat.blt e.on i=true:=by simpa using this
      rw[Nat.blt_eq]at this;exact this
    | succ k =>
      have:=ih (i+1) h.2 k o (by simpa using hk) e he hb
      omega
theorem AbL {md:Region.Mode} {n:Nat} {rk:List Nat}: ∀(l:List Oper) (i:Nat),Ze md n rk i l=true-> ∀(k:Nat) (o:Oper),l[k]? =some o-> ∀ e∈o.after,Region.binds md e=true->e.on<n/\rk.getD e.on 0<rk.getD (i+k) 0:=by
  intro l
  induction l with
  | nil=>intro i _ k o h;simp at h
  | cons x r ih =>
    intro i h k o hk e he hb
    simp only[Ze,Bool.and_eq_true]at h
    cases k with
    | zero =>
      simp at hk;subst hk
      have:=List.all_eq_true.1 h.1 e (by simpa using he)
      rw[hb]at this
      have:(Nat.blt e.on n&&Nat.blt (rk.getD e.on 0) (rk.getD i 0))=true:=by simpa using this
      rw[Bool.and_eq_true,Nat.blt_eq,Nat.blt_eq]at this
      exact this
    | succ k =>
      have:=ih (i+1) h.2 k o (by simpa using hk) e he hb
      rw[show i+(k+1)=i+1+k from by omega];exact this
theorem AdH {ops:Array Oper} (h:ordered ops.toList=true) (md:Region.Mode): ∃ rk:Nat->Nat,∀(j:Nat) (o:Oper),ops[j]? =some o-> ∀ e∈o.after,Region.binds md e=true->e.on<ops.size/\rk e.on<rk j:=by
  unfold ordered at h
  rw[Bool.and_eq_true,Bool.or_eq_true]at h
  rcases h.2 with h | h
  ·refine⟨id,fun j o hj e he _=> ?_⟩
   have h1:=Abm _ _ h j o (by simpa using hj) e he
   have h2:=(Array.getElem?_eq_some_iff.1 hj).1
   exact⟨by omega,by show e.on<j;omega⟩
  ·simp only[Bool.and_eq_true]at h
   have key:wG md ops.toList=true:=by cases md<;>first | exact h.1.1 | exact h.1.2 | exact h.2
   refine⟨fun i=>(ranks md ops.toList ops.toList.length (ops.toList.map fun _=>0)).getD i 0,fun j o hj e he hb=> ?_⟩
   have:=AbL _ _ key j o (by simpa using hj) e he hb
   rw[Nat.zero_add]at this
   exact⟨by simpa using this.1,this.2⟩
theorem yY {α β :Type} {f g: α ->List β}: ∀(l:List α),(∀ x∈l,f x=g x)->l.flatMap f=l.flatMap g:=by
  intro l
  induction l with
  | nil=>intro _;rfl
  | cons x r ih=>intro h;simp only[List.flatMap_cons];rw[h x List.mem_cons_self,ih (fun y hy=>h y (List.mem_cons_of_mem _ hy))]
theorem AgB {ops:List Oper}: ∀(l:List Oper) (acc:List (List Nat)) (st:St),KJ acc.length l=true->(KA C ops l acc st).length=l.length /\
    ∀(k:Nat) (o:Oper),l[k]? =some o-> ∃ x,(KA C ops l acc st)[k]? =some x/\x.o=o/\x.anc=(Oy o).flatMap (fun e=>e::(acc++(KA C ops l acc st).map CO.anc).getD e []):=by
  intro l
  induction l with
  | nil=>intro acc st _;exact⟨rfl,fun k o h=>by simp at h⟩
  | cons o' r ih =>
    intro acc st h
    have hb:=xQ _ _ h
    simp only[KJ,Bool.and_eq_true]at h
    let an:=(Oy o').flatMap (fun e=>e::acc.getD e [])
    let s1:=apply st o' (BL C ops o' st)
    have hf:KA C ops (o'::r) acc st=⟨o',BL C ops o' st,HY o' st (Gf o' st),an⟩::KA C ops r (acc++[an]) s1:=rfl
    obtain⟨g1,g2⟩:=ih (acc++[an]) s1 (by simpa using h.2)
    rw[hf]
    refine⟨by simp [g1],fun k o hk=> ?_⟩
    cases k with
    | zero =>
      simp at hk;subst hk
      refine⟨_,rfl,rfl,?_⟩
      refine yY _ fun e he=> ?_
      obtain⟨ed,h1,h2,h3⟩:=AiA he
      have hlt:=hb 0 o' rfl ed h1 h3
      rw[List.getD_eq_getElem?_getD,List.getD_eq_getElem?_getD,List.getElem?_append_left (by omega)]
    | succ k =>
      obtain⟨x,h1,h2,h3⟩:=g2 k o (by simpa using hk)
      refine⟨x,by simpa using h1,h2,?_⟩
      rw[h3]
      simp [List.append_assoc]
theorem AgA {ρ :Type} {ops:List Oper} {K:St->Option ρ} {v: ρ}: ∀(l:List Oper) (acc:List (List Nat)) (st:St),ND C ops l st K=some v-> ∃ st',aQ C ops (KA C ops l acc st) st st'/\K st'=some v/\ ∀ x∈KA C ops l acc st,Am x.δ.ok:=by
  intro l
  induction l with
  | nil=>intro acc st h;exact⟨st,rfl,h,fun x hx=>by cases hx⟩
  | cons o r ih =>
    intro acc st h
    obtain⟨h1,h2⟩:=KI (show allT (BL C ops o st).ok (ND C ops r (apply st o (BL C ops o st)) K)=some v from h)
    obtain⟨st',h3,h4,h5⟩:=ih (acc++[(Oy o).flatMap (fun e=>e::acc.getD e [])]) _ h2
    refine⟨st',⟨⟨rfl,rfl⟩,h3⟩,h4,fun x hx=> ?_⟩
    rcases List.mem_cons.1 hx with rfl | hx
    ·exact h1
    ·exact h5 x hx
theorem Sim.drew (hS:Sim V0 O0 w0 O m st a w):Sim V0 O0 w0 O m st a {w with drawn:=w.drawn+1} :=
  hS.next (st':=st) (d:=none) (v:=undef) (x:=.undef) (T:=fun _=>False) (Nw:=fun _=>False) ⟨rfl,rfl,rfl,Nat.le_refl _,fun _ _=>.inl rfl⟩ ⟨fun _ _ _ h=>h,fun _ _ _ _ h _=>h⟩ (fun _ _ _ h=>h) (fun _ y ho=>.inr ⟨y,ho,rfl,rfl⟩) (fun _ h=>h.elim) (fun _ h=>h.elim)
    (fun _ _ ho=>.inl ⟨id,ho,rfl⟩) rfl (fun h=>absurd rfl h)
theorem Ag2 {ρ :Type} (hC:IJ P C) {fin:St->Option ρ} {v: ρ} (id:Nat) (ops:Array Oper) {O:Own} {m:Nat->Value} {st:St} {a:Act} {w:World} (K:Ex->St->Option ρ) (hS:Sim V0 O0 w0 O m st a w) (hd:JI C ops.toList st=true)
    (hx:ND C ops.toList ops.toList st (fun st'=>K .normal st')=some v):(Code.region id ops true).wp P (Post V0 O0 w0 fin K v) a w:=by
  unfold JI at hd
  dsimp only at hd
  simp only[Bool.and_eq_true]at hd
  obtain⟨⟨⟨d1,d2⟩,d3⟩,d4⟩:=hd
  have d1A:KJ 0 ops.toList=true:=by
    have:=d1
    unfold ordered at this
    rw[Bool.and_eq_true]at this
    exact this.1
  obtain⟨f1,f2⟩:=AgB (C:=C) (ops:=ops.toList) ops.toList [] st d1A
  obtain⟨st',r1,r2,r3⟩:=AgA ops.toList [] st hx
  generalize hfs:KA C ops.toList ops.toList [] st=fs at *
  have hlen:fs.length=ops.size:=by rw[f1];simp
  have hsize:(enum 0 fs).length=ops.size:=by rw[Ae3,hlen]
  have hany: ∀ md,wpAny P md ops (Post V0 O0 w0 fin K v) ops.size (Array.replicate ops.size false) a {w with drawn:=w.drawn+1}:=by
    intro md
    obtain⟨rk,hrk⟩:=AdH d1 md
    refine AkU (V0:=V0) (O0:=O0) (w0:=w0) hC (K:=fun st'=>K .normal st') (v:=v) (st':=st') (fun O' m' s a' w' h1 h2=>⟨O',m',s,h1,h2⟩) (ANC:=fs.map CO.anc) (rk:=rk) (fun j o hj i hi=> ?_) hrk
      ops.size (enum 0 fs) _ hsize (AkY _ _) (fun p hp=> ?_) (by simp) (fun i hi=> ?_) (fun e he i _=> ?_) (Ag4 _ _ d2) (fun p hp n hn=> ?_) (AhG d4) (by rw[AkZ];exact r1) r2 hS.drew
    ·obtain⟨x,h1,h2,h3⟩:=f2 j o (by simpa using hj)
     have e1:(fs.map CO.anc).getD j []=x.anc:=by
       rw[List.getD_eq_getElem?_getD,List.getElem?_map,h1];rfl
     rw[e1,h3]at hi
     obtain⟨e,he,hie⟩:=List.mem_flatMap.1 hi
     rcases List.mem_cons.1 hie with h | h
     ·exact⟨e,he,.inl h⟩
     ·exact⟨e,he,.inr (by simpa using h)⟩
    ·obtain⟨k,h1,h2⟩:=YB _ _ _ hp
     rw[Nat.zero_add]at h1
     have hk:k<ops.toList.length:=by
       rw[<- f1]
       rcases Nat.lt_or_ge k fs.length with h | h
       ·exact h
       ·rw[List.getElem?_eq_none h]at h2;cases h2
     obtain⟨x,h3,h4,h5⟩:=f2 k ops.toList[k] (by simp at hk ⊢)
     rw[h2]at h3
     injection h3 with h3
     refine⟨?_,r3 _ (List.mem_of_getElem? h2),?_⟩
     ·rw[h1,h3,h4];simp at hk ⊢
     ·rw[h1,List.getD_eq_getElem?_getD,List.getElem?_map,h2];rfl
    ·rw[AkX]
     simp [Array.getD_eq_getD_getElem?,hi,hlen]
    ·have:(Array.replicate ops.size false).getD e false=false:=by
       rw[Array.getD_eq_getD_getElem?,Array.getElem?_replicate]
       split<;>rfl
     rw[this]at he;cases he
    ·obtain⟨k,_,h2⟩:=YB _ _ _ hp
     exact List.all_eq_true.1 d3 n (List.mem_flatMap.2 ⟨_,List.mem_of_getElem? h2,hn⟩)
  refine wp_region_draw fun t=> ?_
  unfold Region.schedule
  split
  ·exact wpAny_sound _ _ _ _ _ (hany _)
  ·exact wpAny_sound _ _ _ _ _ (hany _)
end
end Go.Proofs.YtadefjgbcapakaaGreatDoor.Vm
namespace Go.Proofs.YtadefjgbcapakaaGreatDoor.Vm
open Classical
section
variable {P:Program} {C:Ctx}
def Aci:List (Nat×Sig)->Nat->Option Sig
  | [],_=>none
  | (k,x)::r,t=>bif Nat.beq k t then some x else Aci r t
theorem Aja: ∀ {l:List (Nat×Sig)} {t:Nat} {x:Sig},Aci l t=some x->(t,x)∈l:=by
  intro l
  induction l with
  | nil=>intro t x h;cases h
  | cons p r ih =>
    intro t x h
    obtain⟨k,y⟩:=p
    simp only[Aci,Ld]at h
    by_cases hk:k=t
    ·simp only[hk,decide_true,cond_true,Option.some.injEq]at h
     rw[hk,h];exact List.mem_cons_self
    ·rw[show decide (k=t)=false by simpa using hk]at h
     exact List.mem_cons_of_mem _ (ih h)
def Am0:List (Nat×Nrm)->Nat->Option Nrm
  | [],_=>none
  | (k,x)::r,t=>bif Nat.beq k t then some x else Am0 r t
def AbZ:List (Nat×Alt)->Nat->Option Alt
  | [],_=>none
  | (k,x)::r,t=>bif Nat.beq k t then some x else AbZ r t
def Acf:List (Nat×(Nat->Sig))->Nat->Option (Nat->Sig)
  | [],_=>none
  | (k,x)::r,t=>bif Nat.beq k t then some x else Acf r t
def ctx (P:Program) (gs:List (Nat×Sig)) (ns:List (Nat×Nrm)) (aa:List (Nat×Alt):=[]) (dd:List (Nat×(Nat->Sig)):=[]) (cc:List Nat:=[]) (bb:List Nat:=[]):Ctx:=⟨AhY P,Aci gs,Am0 ns,AbZ aa,Acf dd,cc,bb⟩
def RJ (P:Program) (F:Nat->Sig):Prop:=(∀ xs,(F 0).ok xs=false)/\ ∀ f xs,(F (f+1)).ok xs=true->Spec P f (F (f+1))
def AfN (P:Program):List (Nat×(Nat->Sig))->Prop
  | []=>True
  | (_,F)::r=>RJ P F/\AfN P r
theorem AfN.look: ∀ {l:List (Nat×(Nat->Sig))},AfN P l-> ∀ t F,Acf l t=some F->RJ P F:=by
  intro l
  induction l with
  | nil=>intro _ t F h;cases h
  | cons p r ih =>
    intro h t F hF
    obtain⟨k,x⟩:=p
    simp only[Acf,Ld]at hF
    by_cases hk:k=t
    ·simp only[hk,decide_true,cond_true,Option.some.injEq]at hF
     rw[<- hF];exact h.1
    ·rw[show decide (k=t)=false by simpa using hk]at hF
     exact ih h.2 t F hF
def AfL (P:Program):List (Nat×Alt)->Prop
  | []=>True
  | (f,q)::r=>(Spec P f q.1/\Spec P f q.2.1)/\AfL P r
theorem AfL.look: ∀ {l:List (Nat×Alt)},AfL P l-> ∀ f q,AbZ l f=some q->Spec P f q.1/\Spec P f q.2.1:=by
  intro l
  induction l with
  | nil=>intro _ f q h;cases h
  | cons p r ih =>
    intro h f q hq
    obtain⟨k,x⟩:=p
    simp only[AbZ,Ld]at hq
    by_cases hk:k=f
    ·simp only[hk,decide_true,cond_true,Option.some.injEq]at hq
     rw[<- hq,<- hk];exact h.1
    ·rw[show decide (k=f)=false by simpa using hk]at hq
     exact ih h.2 f q hq
def AbX (P:Program):List (Nat×Sig)->Prop
  | []=>True
  | (f,sg)::r=>Spec P f sg/\AbX P r
theorem AbX.mem: ∀ {l:List (Nat×Sig)},AbX P l-> ∀ p∈l,Spec P p.1 p.2:=by
  intro l
  induction l with
  | nil=>intro _ p hp;cases hp
  | cons q r ih =>
    intro h p hp
    rcases List.mem_cons.1 hp with rfl | hp
    ·exact h.1
    ·exact ih h.2 p hp
theorem Ag {gs:List (Nat×Sig)} {ns:List (Nat×Nrm)} {aa:List (Nat×Alt)} {dd:List (Nat×(Nat->Sig))} {cc bb:List Nat} (hG:AbX P gs) (hA:AfL P aa:=by trivial) (hD:AfN P dd:=by trivial):IJ P (ctx P gs ns aa dd cc bb) :=
  ⟨fun _ _ h=>h,fun _ _ h=>hG.mem _ (Aja h),hA.look,hD.look⟩
theorem enters {f:FuncId} {fn:Func} (hf:P.funcs[f]? =some fn) (hb:fn.body.isNone=false) (hn:(fn.name== "runtime.NumGoroutine")=false) (args:Array Value) (w:World):(callFunc f args).run P w= .ok (.enter f args) w:=by
  have h1:fn.name≠ "runtime.NumGoroutine" :=by simpa using hn
  have h2:fn.body≠none:=by intro e;rw[e]at hb;cases hb
  simp [callFunc,hf,h1,h2]
def D5:(ks:List (Bool×CK))->List A->Option (tyl (ks.map (·.2))).Val
  | []=>fun
    | []=>some ()
    | _=>none
  | (_,.bool)::r=>fun
    | .bool b::cs=>(D5 r cs).map (fun q=>Ty.mk2 _ b q)
    | _=>none
  | (_,.int k)::r=>fun
    | .int j n::cs=>bif A.kEq j k then(D5 r cs).map (fun q=>Ty.mk2 _ n q)else none
    | _=>none
  | (_,.str)::r=>fun
    | .str s::cs=>(D5 r cs).map (fun q=>Ty.mk2 _ s q)
    | _=>none
  | (false,.sl _ t)::r=>fun
    | .sl l::cs=>match l.cast t with
      | some xs=>(D5 r cs).map (fun q=>Ty.mk2 _ xs q)
      | none=>none
    | _=>none
  | (true,.sl e t)::r=>fun
    | .usl e' l::cs=>bif Nat.beq e' e then match l.cast t with
      | some xs=>(D5 r cs).map (fun q=>Ty.mk2 _ xs q)
      | none=>none
      else none
    | _=>none
  | (_,.sln _ t)::r=>fun
    | .sln l::cs=>match l.cast t with
      | some xs=>(D5 r cs).map (fun q=>Ty.mk2 _ xs q)
      | none=>none
    | _=>none
  | (_,.ptr)::r=>fun
    | .Dj::cs=>(D5 r cs).map (fun q=>q)
    | _=>none
  | (_,.fn)::r=>fun
    | .fn n::cs=>(D5 r cs).map (fun q=>Ty.mk2 _ n q)
    | _=>none
  | (_,.mp kt vt)::r=>fun
    | .ump l::cs=>match l.cast kt vt with
      | some xs=>(D5 r cs).map (fun q=>Ty.mk2 _ xs q)
      | none=>none
    | _=>none
  | (_,.oth)::_=>fun _=>none
def Ff:(ks:List (Bool×CK))->(tyl (ks.map (·.2))).Val->List A
  | [],_=>[]
  | (_,.bool)::r,v=>.bool (Ty.hd _ v)::Ff r (Ty.tl _ v)
  | (_,.int k)::r,v=>.int k (Ty.hd _ v)::Ff r (Ty.tl _ v)
  | (_,.str)::r,v=>.str (Ty.hd _ v)::Ff r (Ty.tl _ v)
  | (false,.sl _ t)::r,v=>.sl ⟨t,Ty.hd _ v⟩::Ff r (Ty.tl _ v)
  | (true,.sl e t)::r,v=>.usl e ⟨t,Ty.hd _ v⟩::Ff r (Ty.tl _ v)
  | (_,.sln _ t)::r,v=>.sln ⟨t,Ty.hd _ v⟩::Ff r (Ty.tl _ v)
  | (_,.ptr)::r,v=>.Dj::Ff r v
  | (_,.fn)::r,v=>.fn (Ty.hd _ v)::Ff r (Ty.tl _ v)
  | (_,.mp kt vt)::r,v=>.ump ⟨kt,vt,Ty.hd _ v⟩::Ff r (Ty.tl _ v)
  | (_,.oth)::_,_=>[]
theorem TN: ∀(ks:List (Bool×CK)) (cs:List A) (v:(tyl (ks.map (·.2))).Val),D5 ks cs=some v->cs=Ff ks v:=by
  intro ks
  induction ks with
  | nil =>
    intro cs v h
    cases cs with
    | nil=>rfl
    | cons _ _=>cases h
  | cons k ks ih =>
    intro cs v h
    obtain⟨u,k⟩:=k
    have none': ∀ {α :Type} {x: α},(none:Option α)=some x->False:=fun h=>by cases h
    cases k with
    | bool =>
      simp only[D5]at h
      split at h
      ·rename_i b cs
       cases hd:D5 ks cs with
       | none=>rw[hd]at h;cases h
       | some q =>
         rw[hd]at h
         injection h with h
         subst h
         simp only[Ff,Ty.Ho,Ty.Hu]
         rw[<- ih cs q hd]
      ·exact(none' h).elim
    | int k =>
      simp only[D5]at h
      split at h
      ·rename_i j n cs
       cases hk:A.kEq j k with
       | false=>rw[hk]at h;exact(none' h).elim
       | true =>
         rw[hk]at h
         cases hd:D5 ks cs with
         | none=>rw[hd]at h;cases h
         | some q =>
           rw[hd]at h
           injection h with h
           subst h
           simp only[Ff,Ty.Ho,Ty.Hu]
           rw[<- ih cs q hd,A.JM hk]
      ·exact(none' h).elim
    | str =>
      simp only[D5]at h
      split at h
      ·rename_i b cs
       cases hd:D5 ks cs with
       | none=>rw[hd]at h;cases h
       | some q =>
         rw[hd]at h
         injection h with h
         subst h
         simp only[Ff,Ty.Ho,Ty.Hu]
         rw[<- ih cs q hd]
      ·exact(none' h).elim
    | sl e t =>
      cases u with
      | false =>
        simp only[D5]at h
        split at h
        ·rename_i l cs
         cases hc:l.cast t with
         | none=>rw[hc]at h;exact(none' h).elim
         | some xs =>
           rw[hc]at h
           dsimp only at h
           cases hd:D5 ks cs with
           | none=>rw[hd]at h;cases h
           | some q =>
             rw[hd]at h
             injection h with h
             subst h
             simp only[Ff,Ty.Ho,Ty.Hu]
             rw[<- ih cs q hd,Sl.Jo hc]
        ·exact(none' h).elim
      | true =>
        simp only[D5]at h
        split at h
        ·rename_i e' l cs
         cases he:Nat.beq e' e with
         | false=>rw[he]at h;exact(none' h).elim
         | true =>
           rw[he]at h
           dsimp only[cond_true]at h
           cases hc:l.cast t with
           | none=>rw[hc]at h;exact(none' h).elim
           | some xs =>
             rw[hc]at h
             dsimp only at h
             cases hd:D5 ks cs with
             | none=>rw[hd]at h;cases h
             | some q =>
               rw[hd]at h
               injection h with h
               subst h
               simp only[Ff,Ty.Ho,Ty.Hu]
               rw[<- ih cs q hd,Sl.Jo hc,Nat.eq_of_beq_eq_true he]
        ·exact(none' h).elim
    | ptr =>
      simp only[D5]at h
      split at h
      ·rename_i cs
       cases hd:D5 ks cs with
       | none=>rw[hd]at h;cases h
       | some q =>
         rw[hd]at h
         injection h with h
         subst h
         simp only[Ff]
         rw[<- ih cs _ hd]
      ·exact(none' h).elim
    | fn =>
      simp only[D5]at h
      split at h
      ·rename_i b cs
       cases hd:D5 ks cs with
       | none=>rw[hd]at h;cases h
       | some q =>
         rw[hd]at h
         injection h with h
         subst h
         simp only[Ff,Ty.Ho,Ty.Hu]
         rw[<- ih cs q hd]
      ·exact(none' h).elim
    | sln e t =>
      simp only[D5]at h
      split at h
      ·rename_i l cs
       cases hc:l.cast t with
       | none=>rw[hc]at h;exact(none' h).elim
       | some xs =>
         rw[hc]at h
         dsimp only at h
         cases hd:D5 ks cs with
         | none=>rw[hd]at h;cases h
         | some q =>
           rw[hd]at h
           injection h with h
           subst h
           simp only[Ff,Ty.Ho,Ty.Hu]
           rw[<- ih cs q hd,Sl.Jo hc]
      ·exact(none' h).elim
    | mp kt vt =>
      simp only[D5]at h
      split at h
      ·rename_i l cs
       cases hc:l.cast kt vt with
       | none=>rw[hc]at h;exact(none' h).elim
       | some xs =>
         rw[hc]at h
         dsimp only at h
         cases hd:D5 ks cs with
         | none=>rw[hd]at h;cases h
         | some q =>
           rw[hd]at h
           injection h with h
           subst h
           simp only[Ff,Ty.Ho,Ty.Hu]
           rw[<- ih cs q hd,Mp.Jo hc]
      ·exact(none' h).elim
    | oth=>simp only[D5]at h;exact(none' h).elim
def Sh.ks:Sh->List (Bool×CK)
  | .cell u k=>[(u,k)]
  | .agg ks=>ks
  | .box ks=>ks
  | .clo _ ks=>ks
  | .map kt vt=>[(true,.mp kt vt)]
def Sh.T (s:Sh):Type:=(tyl (s.ks.map (·.2))).Val
def Sh.dec:(s:Sh)->A->Option s.T
  | .cell u k,x=>D5 [(u,k)] [x]
  | .agg ks,.agg cs=>D5 ks cs
  | .box ks,.box cs=>D5 ks cs
  | .clo f ks,.cbx g cs=>bif Nat.beq f g then D5 ks cs else none
  | .map kt vt,x=>D5 [(true,.mp kt vt)] [x]
  | _,_=>none
def Sh.enc:(s:Sh)->s.T->A
  | .cell u k,v=>(Ff [(u,k)] v).getD 0 .undef
  | .agg ks,v=>.agg (Ff ks v)
  | .box ks,v=>.box (Ff ks v)
  | .clo f ks,v=>.cbx f (Ff ks v)
  | .map kt vt,v=>(Ff [(true,.mp kt vt)] v).getD 0 .undef
theorem Sh.AmO {s:Sh} {x:A} {v:s.T} (h:s.dec x=some v):x=s.enc v:=by
  cases s with
  | cell u k =>
    have:=TN _ _ _ (show D5 [(u,k)] [x]=some v from h)
    show x=(Ff [(u,k)] v).getD 0 .undef
    rw[<- this];rfl
  | agg ks =>
    cases x with
    | agg cs =>
      have:=TN _ _ _ (show D5 ks cs=some v from h)
      show _=A.agg (Ff ks v)
      rw[<- this]
    | _=>cases h
  | box ks =>
    cases x with
    | box cs =>
      have:=TN _ _ _ (show D5 ks cs=some v from h)
      show _=A.box (Ff ks v)
      rw[<- this]
    | _=>cases h
  | clo f ks =>
    cases x with
    | cbx g cs =>
      have h:(bif Nat.beq f g then D5 ks cs else none)=some v:=h
      cases hb:Nat.beq f g with
      | false=>rw[hb]at h;cases h
      | true =>
        rw[hb]at h
        have:=TN _ _ _ (show D5 ks cs=some v from h)
        show _=A.cbx f (Ff ks v)
        rw[<- this,Nat.eq_of_beq_eq_true hb]
    | _=>cases h
  | map kt vt =>
    have:=TN _ _ _ (show D5 [(true,.mp kt vt)] [x]=some v from h)
    show x=(Ff [(true,.mp kt vt)] v).getD 0 .undef
    rw[<- this];rfl
def prS (s:Sh) (β :Type):List Sh->Type
  | []=>s.T
  | _::_=>s.T× β
def ShT:List Sh->Type
  | []=>Unit
  | s::r=>prS s (ShT r) r
def hdS (s:Sh):(r:List Sh)->prS s (ShT r) r->s.T
  | [],v=>v
  | _::_,v=>v.1
def tlS (s:Sh):(r:List Sh)->prS s (ShT r) r->ShT r
  | [],_=>()
  | _::_,v=>v.2
def mkS (s:Sh):(r:List Sh)->s.T->ShT r->prS s (ShT r) r
  | [],a,_=>a
  | _::_,a,b=>(a,b)
theorem Aof (s:Sh) (r:List Sh) (a:s.T) (b:ShT r):hdS s r (mkS s r a b)=a:=by cases r<;>rfl
theorem AoR (s:Sh) (r:List Sh) (a:s.T) (b:ShT r):tlS s r (mkS s r a b)=b:=by cases r<;>rfl
def Agd (s:Sh) (r:List Sh):Option s.T->Option (ShT r)->Option (prS s (ShT r) r)
  | some a,some b=>some (mkS s r a b)
  | _,_=>none
theorem Agf {s:Sh} {r:List Sh} {x:Option s.T} {y:Option (ShT r)} {v:prS s (ShT r) r} (h:Agd s r x y=some v): ∃ a b,x=some a/\y=some b/\v=mkS s r a b:=by
  cases x with
  | none=>cases h
  | some a =>
    cases y with
    | none=>cases h
    | some b=>injection h with h;exact⟨a,b,rfl,rfl,h.symm⟩
def PU:(ss:List Sh)->List A->Option (ShT ss)
  | []=>fun
    | []=>some ()
    | _=>none
  | s::r=>fun
    | []=>none
    | x::xs=>Agd s r (s.dec x) (PU r xs)
def encs:(ss:List Sh)->ShT ss->List A
  | [],_=>[]
  | s::r,v=>s.enc (hdS s r v)::encs r (tlS s r v)
theorem AcJ: ∀(ss:List Sh) (xs:List A) (v:ShT ss),PU ss xs=some v->xs=encs ss v:=by
  intro ss
  induction ss with
  | nil =>
    intro xs v h
    cases xs with
    | nil=>rfl
    | cons _ _=>cases h
  | cons s ss ih =>
    intro xs v h
    cases xs with
    | nil=>cases h
    | cons x xs =>
      obtain⟨a,b,h1,h2,h3⟩:=Agf (show Agd s ss (s.dec x) (PU ss xs)=some v from h)
      subst h3
      show _=s.enc (hdS s ss (mkS s ss a b))::encs ss (tlS s ss (mkS s ss a b))
      rw[Aof,AoR,<- Sh.AmO h1,<- ih xs b h2]
def Sh.zero (s:Sh):s.T:=Ty.zero _
def zeroS:(ss:List Sh)->ShT ss
  | []=>()
  | s::r=>mkS s r s.zero (zeroS r)
def EH (Af Az:List Sh):List Sh:=Az++Af.filterMap (fun | .box ks=>some (.agg ks) | .clo _ ks=>some (.agg ks) | .map kt vt=>some (.map kt vt) | _=>none)
def Sig.of (Af Az:List Sh) (f:ShT Af->Option (ShT (EH Af Az))):Sig where
  Af:=Af
  Az:=Az
  ok xs:=match PU Af xs with
    | some a=>(f a).isSome
    | none=>false
  val xs:=match PU Af xs with
    | some a=>encs (EH Af Az) ((f a).getD (zeroS _))
    | none=>[]
def PV (Af Az:List Sh):List (Nat×(ShT Af->Option (ShT (EH Af Az))))->Nat->ShT Af->Option (ShT (EH Af Az))
  | [],_,_=>none
  | (f,g)::r,n,x=>bif Nat.beq n (f+1)then g x else PV Af Az r n x
def Ac0 (P:Program) (Af Az:List Sh):List (Nat×(ShT Af->Option (ShT (EH Af Az))))->Prop
  | []=>True
  | (f,g)::r=>Spec P f (Sig.of Af Az g)/\Ac0 P Af Az r
theorem Ai5 (Af Az:List Sh): ∀(l:List (Nat×(ShT Af->Option (ShT (EH Af Az))))) (x:ShT Af),PV Af Az l 0 x=none:=by
  intro l
  induction l with
  | nil=>intro x;rfl
  | cons p r ih=>intro x;obtain⟨f,g⟩:=p;simp only[PV];exact ih x
theorem Ai4 {Af Az:List Sh}: ∀ {l:List (Nat×(ShT Af->Option (ShT (EH Af Az))))},Ac0 P Af Az l-> ∀ f,(∀ x,PV Af Az l (f+1) x=none)\/Spec P f (Sig.of Af Az (PV Af Az l (f+1))):=by
  intro l
  induction l with
  | nil=>intro _ f;exact .inl fun x=>rfl
  | cons p r ih =>
    intro h f
    obtain⟨k,g⟩:=p
    by_cases hk:f=k
    ·subst hk
     have:PV Af Az ((f,g)::r) (f+1)=g:=by
       funext x
       simp [PV,Ld]
     rw[this]
     exact .inr h.1
    ·have:PV Af Az ((k,g)::r) (f+1)=PV Af Az r (f+1):=by
       funext x
       simp [PV,Ld,hk]
     rw[this]
     exact ih h.2 f
theorem SQ {Af Az:List Sh} {l:List (Nat×(ShT Af->Option (ShT (EH Af Az))))} (h:Ac0 P Af Az l):RJ P (fun n=>Sig.of Af Az (PV Af Az l n)):=by
  refine⟨fun xs=> ?_,fun f xs hok=> ?_⟩
  ·show(match PU Af xs with | some a=>(PV Af Az l 0 a).isSome | none=>false)=false
   cases PU Af xs with
   | none=>rfl
   | some a=>dsimp only;rw[Ai5];rfl
  ·rcases Ai4 h f with h0 | h0
   ·have hok':(match PU Af xs with | some a=>(PV Af Az l (f+1) a).isSome | none=>false)=true:=hok
    cases hd:PU Af xs with
    | none=>rw[hd]at hok';cases hok'
    | some a=>rw[hd]at hok';dsimp only at hok';rw[h0]at hok';cases hok'
   ·exact h0
theorem Sig.XQ {Af Az:List Sh} {f:ShT Af->Option (ShT (EH Af Az))} {xs rs:List A} (h:(Sig.of Af Az f).F xs=some rs): ∃ a o,xs=encs Af a/\f a=some o/\rs=encs _ o:=by
  unfold Sig.F Sig.of at h
  dsimp only at h
  cases hd:PU Af xs with
  | none=>rw[hd]at h;cases h
  | some a =>
    rw[hd]at h
    dsimp only at h
    cases hf:f a with
    | none=>rw[hf]at h;cases h
    | some o =>
      rw[hf]at h
      injection h with h
      exact⟨a,o,AcJ _ _ _ hd,hf,h.symm⟩
def QX (C:Ctx) (Af Az:List Sh) (outs:List (Nat×Option Nat)) (st:St):Option (ShT (EH Af Az)) :=
  allT ((AY st.Aa Az (Iu C outs st)).1++(AY st.Aa (Af.map KC) (IM Af 0)).1 ++
      [nodup ((Eu st.Aa 256000 256 Az (Iu C outs st)++Eu st.Aa 0 256 (Af.map KC) (IM Af 0)).map (·.1))]++outs.flatMap (fun q=>(qB C st q).1))
    (PU _ ((AY st.Aa Az (Iu C outs st)).2.1++(CS Af 0).map (fun i=>unbox ((AY st.Aa (Af.map KC) (IM Af 0)).2.1.getD i .undef))))
theorem AmA {α β :Type} {l:List Bool} {x:Option α} {y: α} (h:allT l x=some y) (z: β):allT l (some z)=some z:=by
  induction l with
  | nil=>rfl
  | cons c cs ih =>
    cases c with
    | false=>cases h
    | true=>exact ih h
theorem AiI {C:Ctx} {Af Az:List Sh} {outs:List (Nat×Option Nat)} {st:St} {o:ShT (EH Af Az)} (h:QX C Af Az outs st=some o):finish C Af Az outs st=some (encs _ o):=by
  unfold QX at h
  obtain⟨_,h2⟩:=KI h
  have:=AcJ _ _ _ h2
  unfold finish
  rw[<- this]
  exact AmA h _
theorem Pg {ρ :Type} {fin:St->Option ρ} (hC:IJ P C) (N:Nat) {f:FuncId} {fn:Func} {code:Code} {outs:List (Nat×Option Nat)} {Af Az:List Sh} {g:ShT Af->Option (ShT (EH Af Az))} (hf:P.funcs[f]? =some fn) (hb:fn.body=some code) (hn:(fn.name== "runtime.NumGoroutine")=false)
    (hout:fn.results=(outs.map rv).toArray) (hF: ∀ a o,g a=some o-> ∃ r,runK C N Af fn.ntmps code fin (encs Af a)=some r/\ ∀ st,fin st=some r->QX C Af Az outs st=some o):Spec P f (Sig.of Af Az g) :=
  ⟨enters hf (by rw[hb];rfl) hn,fun _ _ _ xs rs hI hv hl h100 hx hrs=>by
    obtain⟨a,o,h1,h2,h3⟩:=Sig.XQ hrs
    subst h1;subst h3
    obtain⟨r,h4,h5⟩:=hF a o h2
    exact Akc (sg:=Sig.of Af Az g) (o:=r) hC N (fun id ops _ _ _ _ _ K hS hd hx=>Ag2 hC id ops K hS hd hx) hf hb hout hI hv hl h100 hx h4 (fun st h=>AiI (h5 st h))⟩
end
