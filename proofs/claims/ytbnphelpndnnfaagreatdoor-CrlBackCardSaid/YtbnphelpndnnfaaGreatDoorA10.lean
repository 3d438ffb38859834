import Derived.Test.YtbnphelpndnnfaaGreatDoorA9
import Derived.Orders
import Derived.OwnWalk
set_option linter.all false
namespace Go.Proofs.YtbnphelpndnnfaaGreatDoor.Vm
open Classical
section
variable {P:Program} {C:Ctx} {V0:Nat->Value} {O0 O:Own} {w0 w:World} {m:Nat->Value} {st:St} {a:Act}
theorem disj_spec {a b:List Nat} (h:disj a b=true): ∀ n∈a,n∉b:=by
  intro n hn hb
  have:=List.all_eq_true.1 h n hn
  rw[has_mem.2 hb]at this;cases this
def lastOf:List (Nat×Obj)->Nat->Option Obj
  | [],_=>none
  | (n,x)::r,k=>match lastOf r k with
    | some y=>some y
    | none=>if n=k then some x else none
theorem lastOf_none {u:List (Nat×Obj)} {k:Nat} (h:k∉u.map (·.1)):lastOf u k=none:=by
  induction u with
  | nil=>rfl
  | cons p r ih =>
    obtain⟨n,x⟩:=p
    simp only[List.map_cons,List.mem_cons,not_or]at h
    simp only[lastOf,ih h.2]
    exact if_neg (fun e=>h.1 e.symm)
theorem aget_setAll (u:List (Nat×Obj)): ∀(l:List (Nat×Obj)) (k:Nat),aget (setAll l u) k=match lastOf u k with | some x=>some x | none=>aget l k:=by
  induction u with
  | nil=>intro l k;rfl
  | cons p r ih =>
    obtain⟨n,x⟩:=p
    intro l k
    rw[setAll,ih,aget_aset]
    simp only[lastOf]
    cases lastOf r k with
    | some y=>rfl
    | none =>
      by_cases h:n=k
      ·simp [h]
      ·have:k≠n:=fun e=>h e.symm
       simp [h,this]
theorem aget_applied (st:St) (o:Oper) (δ :Dl) (k:Nat):aget (apply st o δ).objs k=match lastOf δ.new k with
    | some x=>some x
    | none=>if k∈ δ.del then none else match lastOf δ.upd k with
      | some x=>some x
      | none=>aget st.objs k:=by
  unfold apply
  dsimp only
  rw[aget_setAll,aget_delAll,aget_setAll]
theorem aget_off {st:St} {o:Oper} {δ :Dl} {k:Nat} (h:k∉ δ.upd.map (·.1)++ δ.del++ δ.new.map (·.1)):aget (apply st o δ).objs k=aget st.objs k:=by
  simp only[List.mem_append,not_or]at h
  rw[aget_applied,lastOf_none h.2,lastOf_none h.1.1]
  exact if_neg h.1.2
def Srt:List (Nat×Obj)->Prop:=List.Pairwise (fun p q=>p.1<q.1)
theorem sorted_srt: ∀ {l:List (Nat×Obj)},sorted l=true->Srt l:=by
  intro l
  induction l with
  | nil=>intro _;exact List.Pairwise.nil
  | cons p r ih =>
    intro h
    cases r with
    | nil=>exact List.pairwise_singleton _ _
    | cons q r =>
      obtain⟨n,x⟩:=p
      obtain⟨k,y⟩:=q
      simp only[sorted,Bool.and_eq_true,Nat.blt_eq]at h
      have hr:=ih h.2
      refine List.Pairwise.cons (fun q hq=> ?_) hr
      rcases List.mem_cons.1 hq with rfl | hq
      ·exact h.1
      ·exact Nat.lt_trans h.1 ((List.pairwise_cons.1 hr).1 q hq)
theorem Srt.adel {l:List (Nat×Obj)} (h:Srt l) (n:Nat):Srt (Vm.adel l n):=by
  induction l with
  | nil=>exact h
  | cons p r ih =>
    obtain⟨k,x⟩:=p
    obtain⟨h1,h2⟩:=List.pairwise_cons.1 h
    rw[adel_cons]
    split
    ·exact ih h2
    ·exact List.Pairwise.cons (fun q hq=>h1 q (mem_adel hq)) (ih h2)
theorem Srt.ains {l:List (Nat×Obj)} (h:Srt l) {n:Nat} (y:Obj) (hn:aget l n=none):Srt (Vm.ains l n y):=by
  induction l with
  | nil=>exact List.pairwise_singleton _ _
  | cons p r ih =>
    obtain⟨k,x⟩:=p
    obtain⟨h1,h2⟩:=List.pairwise_cons.1 h
    rw[aget_cons]at hn
    have hkn:k≠n:=fun e=>by rw[if_pos e]at hn;cases hn
    rw[if_neg hkn]at hn
    simp only[Vm.ains]
    cases hle:Nat.ble n k with
    | true =>
      have:=Nat.le_of_ble_eq_true hle
      refine List.Pairwise.cons (fun q hq=> ?_) h
      rcases List.mem_cons.1 hq with rfl | hq
      ·show n<k;omega
      ·have:=h1 q hq
       show n<q.1
       dsimp only at this;omega
    | false =>
      have hlt:k<n:=by
        rcases Nat.lt_or_ge k n with h | h
        ·exact h
        ·rw[Nat.ble_eq_true_of_le h]at hle;cases hle
      refine List.Pairwise.cons (fun q hq=> ?_) (ih h2 hn)
      rcases mem_ains hq with rfl | hq
      ·exact hlt
      ·exact h1 q hq
theorem Srt.aset {l:List (Nat×Obj)} (h:Srt l) (n:Nat) (y:Obj):Srt (Vm.aset l n y):=(h.adel n).ains y (by rw[aget_adel,if_pos rfl])
theorem Srt.setAll: ∀(u:List (Nat×Obj)) {l:List (Nat×Obj)},Srt l->Srt (Vm.setAll l u):=by
  intro u
  induction u with
  | nil=>intro l h;exact h
  | cons p r ih=>intro l h;obtain⟨n,x⟩:=p;exact ih (h.aset n x)
theorem Srt.delAll: ∀(u:List Nat) {l:List (Nat×Obj)},Srt l->Srt (Vm.delAll l u):=by
  intro u
  induction u with
  | nil=>intro l h;exact h
  | cons n r ih=>intro l h;exact ih (h.adel n)
theorem Srt.apply {st:St} (h:Srt st.objs) (o:Oper) (δ :Dl):Srt (Vm.apply st o δ).objs:=((h.setAll δ.upd).delAll δ.del).setAll δ.new
theorem aget_head {n:Nat} {x:Obj} {r:List (Nat×Obj)}:aget ((n,x)::r) n=some x:=by rw[aget_cons,if_pos rfl]
theorem aget_lt {l:List (Nat×Obj)} {k:Nat} (h: ∀ p∈l,k<p.1):aget l k=none:=by
  cases hx:aget l k with
  | none=>rfl
  | some x=>exact absurd (h _ (aget_mem hx)) (Nat.lt_irrefl _)
theorem Srt.ext: ∀ {l l':List (Nat×Obj)},Srt l->Srt l'->(∀ k,aget l k=aget l' k)->l=l':=by
  intro l
  induction l with
  | nil =>
    intro l' _ _ h
    cases l' with
    | nil=>rfl
    | cons p r=>obtain⟨n,x⟩:=p;have:=h n;rw[aget_head]at this;cases this
  | cons p r ih =>
    intro l' h1 h2 h
    obtain⟨n,x⟩:=p
    cases l' with
    | nil=>have:=h n;rw[aget_head]at this;cases this
    | cons q r' =>
      obtain⟨k,y⟩:=q
      obtain⟨a1,a2⟩:=List.pairwise_cons.1 h1
      obtain⟨b1,b2'⟩:=List.pairwise_cons.1 h2
      have hnk:n=k:=by
        rcases Nat.lt_trichotomy n k with hlt | he | hgt
        ·have:=h n
         rw[aget_head,aget_lt]at this
         ·cases this
         ·intro p hp
          rcases List.mem_cons.1 hp with rfl | hp
          ·exact hlt
          ·exact Nat.lt_trans hlt (b1 p hp)
        ·exact he
        ·have:=h k
         rw[aget_head,aget_lt]at this
         ·cases this
         ·intro p hp
          rcases List.mem_cons.1 hp with rfl | hp
          ·exact hgt
          ·exact Nat.lt_trans hgt (a1 p hp)
      subst hnk
      have hx:=h n
      rw[aget_head,aget_head]at hx
      injection hx with hx;subst hx
      rw[ih a2 b2' (fun j=> ?_)]
      by_cases hj:n=j
      ·subst hj;rw[aget_lt a1,aget_lt b1]
      ·have:=h j
       rw[aget_cons,aget_cons,if_neg hj,if_neg hj]at this;exact this
theorem put_comm (tmps:List A) {d e:Option Tmp} (x y:A) (h: ∀ t,d=some t->e≠some t):put (put tmps d x) e y=put (put tmps e y) d x:=by
  cases d with
  | none=>rfl
  | some d =>
    cases e with
    | none=>rfl
    | some e =>
      have:d≠e:=fun he=>h d rfl (by rw[he])
      exact List.set_comm _ _ this
theorem put_off (tmps:List A) {d:Option Tmp} (x:A) {t:Nat} (h:d≠some t):(put tmps d x).getD t .undef=tmps.getD t .undef:=by
  cases d with
  | none=>rfl
  | some d =>
    have:d≠t:=fun e=>h (by rw[e])
    simp [put,List.getD_eq_getElem?_getD,List.getElem?_set,this]
theorem mem_dst {o:Oper} {t:Nat}:t∈dstOf o↔o.dst=some t:=by
  unfold dstOf
  cases o.dst with
  | none=>simp
  | some d=>simp [eq_comm]
theorem eval_off {ops:List Oper} {o:Oper} {tmps:List A} {d:Option Tmp} {v:A} (h: ∀ t,d=some t->t∉slotsOf ops o) {x:Operand} (hx:x∈o.op.operands):evalA (put tmps d v) x=evalA tmps x:=by
  cases x with
  | tmp t =>
    refine put_off tmps v fun hd=>h t hd ?_
    exact List.mem_append_left _ (List.mem_filterMap.2 ⟨.tmp t,by simpa using hx,rfl⟩)
  | _=>rfl
theorem guard_off {ops:List Oper} {o:Oper} {tmps:List A} {d:Option Tmp} {v:A} (h: ∀ t,d=some t->t∉slotsOf ops o):guardOf ops (put tmps d v) o.guard=guardOf ops tmps o.guard:=by
  cases hg:o.guard with
  | none=>rfl
  | some p =>
    obtain⟨j,want⟩:=p
    unfold guardOf
    dsimp only
    cases hj:ops[j]? with
    | none=>rfl
    | some oj =>
      dsimp only
      cases hd:oj.dst with
      | none=>rfl
      | some t =>
        dsimp only
        rw[put_off tmps v (t:=t) (fun hd'=>h t hd' (by
          unfold slotsOf
          refine List.mem_append_right _ ?_
          rw[hg];dsimp only;rw[hj];dsimp only;rw[hd];simp))]
theorem fetch_congr {objs objs':List (Nat×Obj)}: ∀(l:List Nat),(∀ n∈l,aget objs n=aget objs' n)->fetch objs l=fetch objs' l:=by
  intro l
  induction l with
  | nil=>intro _;rfl
  | cons n r ih =>
    intro h
    simp only[fetch]
    rw[h n List.mem_cons_self,ih (fun k hk=>h k (List.mem_cons_of_mem _ hk))]
theorem asksNot_spec {op:Op} {vs:List A} (h:asksNot op vs=true):(∃ x,op= .move x)\/(∃ x,op= .assign x)\/ ∃ t x k q,op= .load t x/\vs=[.clo k q]:=by
  unfold asksNot at h
  split at h
  ·exact .inl ⟨_,rfl⟩
  ·exact .inr (.inl ⟨_,rfl⟩)
  ·exact .inr (.inr ⟨_,_,_,_,rfl,rfl⟩)
  ·cases h
theorem optX_upd' {α :Type} {x:Option α} {k: α ->Dl} (h: ∀ y,(k y).upd=[]):(optX x k).upd=[]:=by
  cases x with
  | none=>rfl
  | some y=>exact h y
theorem aget_fetchAll (s:St) (q off:Nat):aget (fetchAll s [.ptr q off]) q=aget s.objs q:=by
  show aget (fetch s.objs [q]++fetch s.objs ((fetch s.objs [q]).flatMap (fun p=>p.2.ids))) q=_
  cases h:aget s.objs q with
  | none =>
    have e:fetch s.objs [q]=[]:=by simp [fetch,h]
    rw[e];rfl
  | some x =>
    have e:fetch s.objs [q]=[(q,x)]:=by simp [fetch,h]
    rw[e]
    show aget ((q,x)::_) q=_
    rw[aget_cons,if_pos rfl]
theorem asksOne_spec {o:Oper} {vs:List A} {q:Nat} (h:asksOne o.op vs=some q): ∃ off,vs=[.ptr q off]/\ ∀ f f',box? f q=box? f' q->opX C o vs f=opX C o vs f'/\(opX C o vs f).upd=[]:=by
  obtain⟨dst,op,ty,pos,after,guard⟩:=o
  dsimp only at h
  unfold asksOne at h
  split at h
  ·injection h with h;subst h
   refine⟨_,rfl,fun f f' hb=> ?_⟩
   unfold opX
   dsimp only[a1]
   unfold nilCheckX
   dsimp only
   rw[hb]
   exact⟨rfl,by unfold optX;split<;>rfl⟩
  ·injection h with h;subst h
   refine⟨_,rfl,fun f f' hb=> ?_⟩
   unfold opX
   dsimp only[a1]
   unfold fieldAddrX addrX
   dsimp only
   rw[hb]
   refine⟨rfl,?_⟩
   unfold tiOf
   refine optX_upd' fun ti=>optX_upd' fun p=> ?_
   exact optX_upd' (fun _=>rfl)
  ·injection h with h;subst h
   refine⟨_,rfl,fun f f' hb=> ?_⟩
   unfold opX
   dsimp only[a1]
   unfold loadX
   dsimp only
   rw[hb]
   refine⟨rfl,?_⟩
   unfold tiOf
   exact optX_upd' fun ti=>optX_upd' fun _=>rfl
  ·cases h
theorem step_core {ops:List Oper} {o:Oper} {s1 s2:St} (hE: ∀ x∈o.op.operands,evalA s2.tmps x=evalA s1.tmps x) (hG:guardOf ops s2.tmps o.guard=guardOf ops s1.tmps o.guard)
    (key:(opX C o (vsOf o s1) (fetchAll s2 (vsOf o s1))=opX C o (vsOf o s1) (fetchAll s1 (vsOf o s1))/\(∀ f,(opX C o (vsOf o s1) f).upd=[])/\askedOf o s2 (vsOf o s1)=askedOf o s1 (vsOf o s1))\/(fetchAll s2 (vsOf o s1)=fetchAll s1 (vsOf o s1)/\askedOf o s2 (vsOf o s1)=askedOf o s1 (vsOf o s1))) (h1: ∀ n∈(stepX C ops o s1).new.map (·.1),s1.fresh n=true) (h2: ∀ n∈(stepX C ops o s1).new.map (·.1),s2.fresh n=true) :
    stepX C ops o s2=stepX C ops o s1/\askedOf o s2 (vsOf o s2)=askedOf o s1 (vsOf o s1)/\vsOf o s2=vsOf o s1:=by
  have hmap:o.op.operands.toList.map (evalA s2.tmps)=o.op.operands.toList.map (evalA s1.tmps):=List.map_congr_left fun x hx=>hE x (by simpa using hx)
  have hvs:vsOf o s2=vsOf o s1:=by unfold vsOf;rw[hmap]
  have hop:opX C o (vsOf o s1) (fetchAll s2 (vsOf o s1))=opX C o (vsOf o s1) (fetchAll s1 (vsOf o s1)):=by
    rcases key with h | h
    ·exact h.1
    ·rw[h.1]
  refine⟨?_,by rw[hvs];rcases key with h | h;exact h.2.2;exact h.2,hvs⟩
  have hpl: ∀ pre,(∀ n∈(plainX C o s1 pre).new.map (·.1),s1.fresh n=true)->(∀ n∈(plainX C o s1 pre).new.map (·.1),s2.fresh n=true)->plainX C o s2 pre=plainX C o s1 pre:=by
    intro pre h1 h2
    unfold plainX at h1 h2 ⊢
    rw[hmap]
    dsimp only at h1 h2 ⊢
    rw[show opX C o (stripsFor o.op (o.op.operands.toList.map (evalA s1.tmps))).2 (fetchAll s2 (stripsFor o.op (o.op.operands.toList.map (evalA s1.tmps))).2)=opX C o (stripsFor o.op (o.op.operands.toList.map (evalA s1.tmps))).2 (fetchAll s1 (stripsFor o.op (o.op.operands.toList.map (evalA s1.tmps))).2)from hop]
    generalize opX C o (stripsFor o.op (o.op.operands.toList.map (evalA s1.tmps))).2 (fetchAll s1 (stripsFor o.op (o.op.operands.toList.map (evalA s1.tmps))).2)= δ at *
    have a1: δ.new.all (fun p=>s1.fresh p.1)=true:=List.all_eq_true.2 fun p hp=>h1 p.1 (List.mem_map.2 ⟨p,hp,rfl⟩)
    have a2: δ.new.all (fun p=>s2.fresh p.1)=true:=List.all_eq_true.2 fun p hp=>h2 p.1 (List.mem_map.2 ⟨p,hp,rfl⟩)
    rw[a1,a2]
  unfold stepX at h1 h2 ⊢
  rw[hG,hmap]
  have hfa':opX C o (stripsFor o.op (o.op.operands.toList.map (evalA s1.tmps))).2 (fetchAll s2 (stripsFor o.op (o.op.operands.toList.map (evalA s1.tmps))).2)=opX C o (stripsFor o.op (o.op.operands.toList.map (evalA s1.tmps))).2 (fetchAll s1 (stripsFor o.op (o.op.operands.toList.map (evalA s1.tmps))).2):=hop
  cases hg:guardOf ops s1.tmps o.guard with
  | none=>rfl
  | some r =>
    cases r with
    | some g =>
      rw[hg]at h1 h2
      dsimp only at h1 h2 ⊢
      cases hde:decOf C o with
      | some b =>
        rw[hde]at h1 h2
        cases b with
        | true=>exact hpl _ h1 h2
        | false=>rfl
      | none =>
      dsimp only
      rcases key with h | h
      ·have hu:=h.2.1 (fetchAll s1 (vsOf o s1))
       rw[hfa']
       have hu':(opX C o (stripsFor o.op (o.op.operands.toList.map (evalA s1.tmps))).2 (fetchAll s1 (stripsFor o.op (o.op.operands.toList.map (evalA s1.tmps))).2)).upd=[]:=hu
       simp only[hu',List.map_nil]
      ·have h1':fetchAll s2 (stripsFor o.op (o.op.operands.toList.map (evalA s1.tmps))).2=fetchAll s1 (stripsFor o.op (o.op.operands.toList.map (evalA s1.tmps))).2:=h.1
       rw[h1']
    | none =>
      rw[hg]at h1 h2
      exact hpl _ h1 h2
theorem asked_key {o:Oper} {s1 s2:St} (hF: ∀ n∈askedOf o s1 (vsOf o s1),aget s2.objs n=aget s1.objs n) :
    (opX C o (vsOf o s1) (fetchAll s2 (vsOf o s1))=opX C o (vsOf o s1) (fetchAll s1 (vsOf o s1))/\(∀ f,(opX C o (vsOf o s1) f).upd=[])/\askedOf o s2 (vsOf o s1)=askedOf o s1 (vsOf o s1))\/(fetchAll s2 (vsOf o s1)=fetchAll s1 (vsOf o s1)/\askedOf o s2 (vsOf o s1)=askedOf o s1 (vsOf o s1)):=by
  unfold askedOf at hF ⊢
  cases hm:asksNot o.op (vsOf o s1)with
  | true =>
    have hu: ∀(v:List A),(a1 (fun a=>.v a) v).upd=[]:=fun v=>by
      cases v with
      | nil=>rfl
      | cons x r=>cases r<;>rfl
    rcases asksNot_spec hm with ⟨x,e⟩ | ⟨x,e⟩ | ⟨t,x,k,q,e,ev⟩
    ·exact .inl ⟨by unfold opX;rw[e],fun f=>by unfold opX;rw[e];exact hu _,rfl⟩
    ·exact .inl ⟨by unfold opX;rw[e],fun f=>by unfold opX;rw[e];exact hu _,rfl⟩
    ·have hl: ∀ f,(loadX C f t (.clo k q)).upd=[]:=fun f=>by
       unfold loadX tiOf optX
       cases C.T t<;>rfl
     exact .inl ⟨by unfold opX;rw[e,ev];rfl,fun f=>by unfold opX;rw[e,ev];exact hl f,rfl⟩
  | false =>
    rw[hm]at hF
    cases h1':asksOne o.op (vsOf o s1)with
    | some q =>
      rw[h1']at hF
      have hq:aget s2.objs q=aget s1.objs q:=hF q (List.mem_singleton.2 rfl)
      obtain⟨off,ev,hO⟩:=asksOne_spec (C:=C) h1'
      refine .inl ⟨(hO _ _ ?_).1,fun f=>(hO f f rfl).2,rfl⟩
      rw[ev]
      unfold box?
      rw[aget_fetchAll,aget_fetchAll,hq]
    | none =>
    rw[h1']at hF
    have e1:fetch s2.objs ((vsOf o s1).flatMap A.ids)=fetch s1.objs ((vsOf o s1).flatMap A.ids):=fetch_congr _ (fun n hn=>hF n (List.mem_append_left _ hn))
    refine .inr ⟨?_,by show(_++_:List Nat)=_;rw[e1];rfl⟩
    unfold fetchAll
    dsimp only
    rw[e1,fetch_congr _ (fun n hn=>hF n (List.mem_append_right _ hn))]
theorem step_congr {ops:List Oper} {o:Oper} {s1 s2:St} (hE: ∀ x∈o.op.operands,evalA s2.tmps x=evalA s1.tmps x) (hG:guardOf ops s2.tmps o.guard=guardOf ops s1.tmps o.guard)
    (hF: ∀ n∈askedOf o s1 (vsOf o s1),aget s2.objs n=aget s1.objs n) (h1: ∀ n∈(stepX C ops o s1).new.map (·.1),s1.fresh n=true) (h2: ∀ n∈(stepX C ops o s1).new.map (·.1),s2.fresh n=true) :
    stepX C ops o s2=stepX C ops o s1/\askedOf o s2 (vsOf o s2)=askedOf o s1 (vsOf o s1)/\vsOf o s2=vsOf o s1:=by
  exact step_core (C:=C) hE hG (asked_key hF) h1 h2
theorem one_congr {o:Oper} {vs:List A} {q off n:Nat} (h:oneOf C o.op vs=some (q,off,n)):asksOne o.op vs=some q/\ ∀ {f f':Fet} {cs cs':List A},box? f q=some cs->box? f' q=some cs'->cs'.length=cs.length->(∀ k,k<n->cs'.getD (off+k) .undef=cs.getD (off+k) .undef)->opX C o vs f'=opX C o vs f:=by
  obtain⟨dst,op,ty,pos,after,guard⟩:=o
  dsimp only at h
  unfold oneOf at h
  split at h
  ·injection h with h;injection h with h1 h2;subst h1
   refine⟨rfl,fun {f f' cs cs'} h1 h2 h3 h4=> ?_⟩
   unfold opX
   dsimp only[a1]
   unfold nilCheckX
   dsimp only
   rw[h1,h2];rfl
  ·injection h with h;injection h with h1 h2;subst h1
   refine⟨rfl,fun {f f' cs cs'} h1 h2 h3 h4=> ?_⟩
   unfold opX
   dsimp only[a1]
   unfold fieldAddrX addrX
   dsimp only
   rw[h1,h2]
   unfold optX
   dsimp only
   rw[h3]
  ·rename_i t _ o' off'
   cases ht:C.T t with
   | none=>rw[ht]at h;cases h
   | some ti =>
     rw[ht]at h
     dsimp only at h
     cases h0:Nat.blt 0 ti.cs.length with
     | false=>rw[h0]at h;cases h
     | true =>
     rw[h0]at h
     injection h with h;injection h with h1 h2;injection h2 with h2 h3'
     subst h1;subst h2;subst h3'
     have h0:0<ti.cs.length:=by simpa [Nat.blt_eq]using h0
     refine⟨rfl,fun {f f' cs cs'} h1 h2 h3 h4=> ?_⟩
     unfold opX
     dsimp only[a1]
     unfold loadX tiOf
     rw[ht]
     unfold optX
     dsimp only
     rw[h1,h2]
     dsimp only
     rw[h3]
     congr 1
     unfold partA
     cases ti.agg with
     | false =>
       have:=h4 0 h0
       simpa using this
     | true =>
       refine congrArg A.agg (List.ext_getElem? fun i=> ?_)
       rw[List.getElem?_take,List.getElem?_take]
       by_cases hi:i<ti.cs.length
       ·rw[if_pos hi,if_pos hi,List.getElem?_drop,List.getElem?_drop]
        have:=h4 i hi
        rw[List.getD_eq_getElem?_getD,List.getD_eq_getElem?_getD]at this
        by_cases hl:off'+i<cs.length
        ·rw[List.getElem?_eq_getElem hl,List.getElem?_eq_getElem (by omega)]at this ⊢
         exact congrArg some this
        ·rw[List.getElem?_eq_none (by omega),List.getElem?_eq_none (by omega)]
       ·rw[if_neg hi,if_neg hi]
  ·cases h
def SameOk (fet:Fet) (δ :Dl):Prop:= ∀ e∈ δ.same,∃ cs,box? fet e.1=some cs/\ ∀ p∈ δ.upd,p.1=e.1-> ∃ cs',p.2= .box cs'/\cs'.length=cs.length/\cs'.getD e.2 .undef=cs.getD e.2 .undef
theorem keep1_same {fet:Fet} (x:A) (j:Nat) {δ :Dl} (h:SameOk fet δ):SameOk fet (keep1 fet x j δ):=by
  unfold keep1
  split
  ·rename_i q off
   cases hb:box? fet q with
   | none=>exact h
   | some cs =>
     dsimp only
     cases hc:Nat.blt j cs.length&& δ.upd.all (fun p=> !(Nat.beq p.1 q)||lenOk cs.length p.2)with
     | false=>exact h
     | true =>
       rw[Bool.and_eq_true,Nat.blt_eq]at hc
       have hset: ∀ ds:List A,ds.length=cs.length-> ∀ i,(ds.set j (cs.getD j .undef)).getD i .undef=if j=i then cs.getD j .undef else ds.getD i .undef:=by
         intro ds hd i
         rw[List.getD_eq_getElem?_getD,List.getElem?_set]
         by_cases hij:j=i
         ·subst hij
          rw[if_pos rfl,if_pos rfl,if_pos (by omega)];rfl
         ·rw[if_neg hij,if_neg hij,<- List.getD_eq_getElem?_getD]
       have key: ∀ p0∈ δ.upd,Nat.beq p0.1 q=true-> ∃ ds,p0.2= .box ds/\ds.length=cs.length:=by
         intro p0 hp0 hq
         have h1:=List.all_eq_true.1 hc.2 p0 hp0
         rw[hq]at h1
         have h1:lenOk cs.length p0.2=true:=h1
         obtain⟨n,y⟩:=p0
         cases y with
         | box ds=>exact⟨ds,rfl,Nat.eq_of_beq_eq_true h1⟩
         | _=>cases h1
       intro e he
       rcases List.mem_cons.1 (show e∈(q,j):: δ.same from he)with rfl | he
       ·refine⟨cs,hb,fun p hp hpq=> ?_⟩
        obtain⟨p0,hp0,rfl⟩:=List.mem_map.1 (show p∈ δ.upd.map _ from hp)
        cases hq:Nat.beq p0.1 q with
        | false =>
          rw[hq]at hpq
          have hpq:p0.1=q:=hpq
          rw[hpq,Nat.beq_refl]at hq;cases hq
        | true =>
          obtain⟨ds,h2,h3⟩:=key p0 hp0 hq
          refine⟨ds.set j (cs.getD j .undef),by rw[show(bif true then(p0.1,setU j (cs.getD j .undef) p0.2)else p0)=(p0.1,setU j (cs.getD j .undef) p0.2)from rfl,h2];rfl,by rw[List.length_set,h3],?_⟩
          rw[hset ds h3,if_pos rfl]
       ·obtain⟨cs0,h4,h5⟩:=h e he
        refine⟨cs0,h4,fun p hp hpq=> ?_⟩
        obtain⟨p0,hp0,rfl⟩:=List.mem_map.1 (show p∈ δ.upd.map _ from hp)
        cases hq:Nat.beq p0.1 q with
        | false=>rw[hq]at hpq;exact h5 p0 hp0 hpq
        | true =>
          rw[hq]at hpq
          have hpq:p0.1=e.1:=hpq
          obtain⟨ds,h2,h3⟩:=key p0 hp0 hq
          obtain⟨cs',g1,g2,g3⟩:=h5 p0 hp0 hpq
          rw[h2]at g1;injection g1 with g1;subst g1
          have:cs0=cs:=by
            rw[<- hpq,Nat.eq_of_beq_eq_true hq,hb]at h4;injection h4 with h4;exact h4.symm
          subst this
          refine⟨ds.set j (cs0.getD j .undef),by rw[show(bif true then(p0.1,setU j (cs0.getD j .undef) p0.2)else p0)=(p0.1,setU j (cs0.getD j .undef) p0.2)from rfl,h2];rfl,by rw[List.length_set,h3],?_⟩
          rw[hset ds h3]
          by_cases hij:j=e.2
          ·rw[if_pos hij,hij]
          ·rw[if_neg hij];exact g3
  ·exact h
theorem keepD_same {fet:Fet} (xs:List A): ∀(ks:List (Nat×Nat)) {δ :Dl},SameOk fet δ ->SameOk fet (keepD fet xs ks δ):=by
  intro ks
  induction ks with
  | nil=>intro δ h;exact h
  | cons k ks ih=>intro δ h;exact ih (keep1_same _ _ h)
theorem SameOk.nil {fet:Fet} {δ :Dl} (h: δ.same=[]):SameOk fet δ :=fun e he=>by rw[h]at he;cases he
theorem plain_same {o:Oper} {s:St} (pre:List Bool):SameOk (fetchAll s (vsOf o s)) (plainX C o s pre):=by
  cases hc:isCallF o.op with
  | false=>exact SameOk.nil (by unfold plainX;rw[hc];rfl)
  | true =>
    have key:SameOk (fetchAll s (vsOf o s)) (opX C o (vsOf o s) (fetchAll s (vsOf o s))):=by
      generalize vsOf o s=vs
      generalize fetchAll s vs=fet
      obtain⟨dst,op,ty,pos,after,guard⟩:=o
      dsimp only at hc
      unfold isCallF at hc
      split at hc
      ·cases vs with
       | nil=>exact SameOk.nil rfl
       | cons x xs =>
         rename_i f _ _
         show SameOk fet (callX C fet (dst.getD 0) f xs)
         unfold callX
         cases C.G f with
         | none=>exact SameOk.nil rfl
         | some sg=>exact keepD_same _ _ (SameOk.nil rfl)
      ·cases hc
    intro e he
    have he:e∈(bif isCallF o.op then(opX C o (vsOf o s) (fetchAll s (vsOf o s))).same else []):=he
    rw[hc]at he
    exact key e he
theorem stepX_same {ops:List Oper} {o:Oper} {s:St}:SameOk (fetchAll s (vsOf o s)) (stepX C ops o s):=by
  unfold stepX
  split
  ·exact plain_same _
  ·split
   ·exact plain_same _
   ·exact SameOk.nil rfl
   ·exact SameOk.nil rfl
  ·exact SameOk.nil rfl
end
end Go.Proofs.YtbnphelpndnnfaaGreatDoor.Vm
namespace Go.Proofs.YtbnphelpndnnfaaGreatDoor.Vm
open Classical
section
variable {P:Program} {C:Ctx} {V0:Nat->Value} {O0 O:Own} {w0 w:World} {m:Nat->Value} {st st':St} {a:Act}
structure Stands (C:Ctx) (ops:List Oper) (x:Foot) (st:St):Prop where
  step:stepX C ops x.o st=x.δ
  rd:askedOf x.o st (vsOf x.o st)=x.rd
  one:oneOf C x.o.op (vsOf x.o st)=x.one
def Runs (C:Ctx) (ops:List Oper):List Foot->St->St->Prop
  | [],s,s'=>s=s'
  | x::r,s,s'=>Stands C ops x s/\Runs C ops r (apply s x.o x.δ) s'
theorem mem_delAll: ∀(u:List Nat) {l:List (Nat×Obj)} {p:Nat×Obj},p∈delAll l u->p∈l:=by
  intro u
  induction u with
  | nil=>intro l p h;exact h
  | cons n r ih=>intro l p h;exact mem_adel (ih h)
theorem fresh_off {x:Foot} {n:Nat} (h:st.fresh n=true) (h1:n∉x.says) (h2:n∉x.keys):(apply st x.o x.δ).fresh n=true:=by
  obtain⟨f1,f2,f3,f4⟩:=fresh_not h
  unfold Foot.says at h1
  simp only[List.mem_append,not_or]at h1
  have g1:has (apply st x.o x.δ).ids n=false:=by
    rw[<- Bool.not_eq_true]
    intro hh
    rcases List.mem_append.1 (has_mem.1 hh)with hm | hm
    ·obtain⟨c,hc,hi⟩:=List.mem_flatMap.1 hm
     have hc:c∈put st.tmps x.o.dst x.δ.val:=hc
     have:c∈st.tmps\/c=x.δ.val:=by
       cases hd:x.o.dst with
       | none=>rw[hd]at hc;exact .inl hc
       | some d=>rw[hd]at hc;exact List.mem_or_eq_of_mem_set hc
     rcases this with hc | hc
     ·exact f1 (List.mem_append_left _ (List.mem_flatMap.2 ⟨c,hc,hi⟩))
     ·rw[hc]at hi;exact h1.1.1 hi
    ·obtain⟨p,hp,hi⟩:=List.mem_flatMap.1 hm
     rcases mem_setAll x.δ.new (show p∈setAll (delAll (setAll st.objs x.δ.upd) x.δ.del) x.δ.new from hp)with hp | hp
     ·exact h1.2 (List.mem_flatMap.2 ⟨p,hp,hi⟩)
     ·rcases mem_setAll x.δ.upd (mem_delAll _ hp)with hp | hp
      ·exact h1.1.2 (List.mem_flatMap.2 ⟨p,hp,hi⟩)
      ·exact f1 (List.mem_append_right _ (List.mem_flatMap.2 ⟨p,hp,hi⟩))
  have g2:aget (apply st x.o x.δ).objs n=none:=by rw[aget_off h2];exact f2
  unfold St.fresh
  rw[g1,g2,f4,nbeq]
  simp [f3]
theorem lastOf_mem {u:List (Nat×Obj)} {k:Nat} {x:Obj} (h:lastOf u k=some x):(k,x)∈u:=by
  induction u with
  | nil=>cases h
  | cons p r ih =>
    obtain⟨n,y⟩:=p
    simp only[lastOf]at h
    cases hr:lastOf r k with
    | some z=>rw[hr]at h;injection h with h;subst h;exact List.mem_cons_of_mem _ (ih hr)
    | none =>
      rw[hr]at h
      dsimp only at h
      by_cases hn:n=k
      ·rw[if_pos hn]at h;injection h with h;subst h;subst hn;exact List.mem_cons_self
      ·rw[if_neg hn]at h;cases h
theorem calm_key {ops:List Oper} {x y:Foot} (hx:Stands C ops x st) (hy:Stands C ops y (apply st x.o x.δ)) (h:calm x y=true) :
    (opX C x.o (vsOf x.o st) (fetchAll (apply st y.o y.δ) (vsOf x.o st))=opX C x.o (vsOf x.o st) (fetchAll st (vsOf x.o st))/\(∀ f,(opX C x.o (vsOf x.o st) f).upd=[])/\askedOf x.o (apply st y.o y.δ) (vsOf x.o st)=askedOf x.o st (vsOf x.o st)) \/
    (fetchAll (apply st y.o y.δ) (vsOf x.o st)=fetchAll st (vsOf x.o st)/\askedOf x.o (apply st y.o y.δ) (vsOf x.o st)=askedOf x.o st (vsOf x.o st)):=by
  unfold calm at h
  cases ho:x.one with
  | none=>rw[ho]at h;cases h
  | some p =>
    obtain⟨q,off,n⟩:=p
    rw[ho]at h
    simp only[Bool.and_eq_true,Bool.not_eq_true']at h
    obtain⟨h1,h2,h3,h4,h5⟩:=h
    have hone:=hx.one
    rw[ho]at hone
    obtain⟨k1,k2⟩:=one_congr hone
    obtain⟨off',ev,hO⟩:=asksOne_spec (C:=C) k1
    have hS:=stepX_same (C:=C) (ops:=ops) (o:=y.o) (s:=apply st x.o x.δ)
    rw[hy.step]at hS
    have hxk:aget (apply st x.o x.δ).objs q=aget st.objs q:=aget_off fun hm=>by
      have:=h1.symm.trans (has_mem.2 hm)
      cases this
    have hbox: ∀ e∈y.δ.same,e.1=q-> ∃ cs,aget st.objs q=some (.box cs)/\ ∀ p∈y.δ.upd,p.1=q-> ∃ cs',p.2= .box cs'/\cs'.length=cs.length/\cs'.getD e.2 .undef=cs.getD e.2 .undef:=by
      intro e he heq
      obtain⟨cs,g1,g2⟩:=hS e he
      rw[heq]at g1 g2
      exact⟨cs,by rw[<- hxk];exact fetchAll_ok _ _ _ _ (box?_some g1),g2⟩
    obtain⟨e0,he0,heq0⟩:=List.any_eq_true.1 h4
    obtain⟨cs,g1,g2⟩:=hbox e0 he0 (Nat.eq_of_beq_eq_true heq0)
    have hcell: ∀ k,k<n-> ∀ p∈y.δ.upd,p.1=q-> ∀ cs',p.2= .box cs'->cs'.getD (off+k) .undef=cs.getD (off+k) .undef:=by
      intro k hk p hp hpq cs' hcs
      have:=List.all_eq_true.1 h5 k (List.mem_range.2 hk)
      obtain⟨e,he,heq⟩:=List.any_eq_true.1 this
      rw[Bool.and_eq_true]at heq
      obtain⟨cs2,g3,g4⟩:=hbox e he (Nat.eq_of_beq_eq_true heq.1)
      rw[g1]at g3;injection g3 with g3;injection g3 with g3;subst g3
      obtain⟨cs3,g5,_,g6⟩:=g4 p hp hpq
      rw[hcs]at g5;injection g5 with g5;subst g5
      rw[Nat.eq_of_beq_eq_true heq.2]at g6;exact g6
    have hnd:lastOf y.δ.new q=none:=lastOf_none fun hm=>by
      have:=h3.symm.trans (has_mem.2 hm)
      cases this
    have hdl:q∉y.δ.del:=fun hm=>by rw[has_mem.2 hm]at h2;cases h2
    have hnew: ∃ cs',aget (apply st y.o y.δ).objs q=some (.box cs')/\cs'.length=cs.length/\ ∀ k,k<n->cs'.getD (off+k) .undef=cs.getD (off+k) .undef:=by
      rw[aget_applied,hnd]
      dsimp only
      rw[if_neg hdl]
      cases hl:lastOf y.δ.upd q with
      | none=>exact⟨cs,g1,rfl,fun _ _=>rfl⟩
      | some z =>
        have hm:=lastOf_mem hl
        obtain⟨cs',g3,g4,_⟩:=g2 _ hm rfl
        dsimp only at g3
        subst g3
        exact⟨cs',rfl,g4,fun k hk=>hcell k hk _ hm rfl _ rfl⟩
    obtain⟨cs',g3,g4,g5⟩:=hnew
    have hask: ∀ s,askedOf x.o s (vsOf x.o st)=bif asksNot x.o.op (vsOf x.o st)then []else [q]:=by
      intro s;unfold askedOf;rw[k1]
    refine .inl ⟨k2 ?_ ?_ g4 g5,fun f=>(hO f f rfl).2,by rw[hask,hask]⟩
    ·rw[ev];unfold box?;rw[aget_fetchAll,g1]
    ·rw[ev];unfold box?;rw[aget_fetchAll,g3]
theorem swap {ops:List Oper} {x y:Foot} {r:List Foot} (hi:indep ops x y=true) (hxF: ∀ n∈x.news,st.fresh n=true) (hyF: ∀ n∈y.news,st.fresh n=true) (h1:disj y.news x.says=true) (h2:disj y.news x.keys=true)
    (hs:Srt st.objs) (h:Runs C ops (x::y::r) st st'):Runs C ops (y::x::r) st st':=by
  unfold indep at hi
  simp only[Bool.and_eq_true]at hi
  obtain⟨⟨⟨⟨⟨⟨i1,i2⟩,i3⟩,i4⟩,i5⟩,i6⟩,i7⟩:=hi
  obtain⟨hx,hy,hr⟩:=h
  have hkx: ∀ n,n∈x.keys->n∉y.keys:=disj_spec i6
  have hnx: ∀ n∈x.news,n∈x.keys:=fun n hn=>List.mem_append_right _ hn
  have cy:=step_congr (C:=C) (ops:=ops) (o:=y.o) (s1:=apply st x.o x.δ) (s2:=st)
    (fun z hz=>(eval_off (fun t ht=>disj_spec i2 t (mem_dst.2 ht)) hz).symm) (guard_off (fun t ht=>disj_spec i2 t (mem_dst.2 ht))).symm
    (fun n hn=>(aget_off (fun hk=>disj_spec i4 n hk (by rw[<- hy.rd];exact hn))).symm)
    (fun n hn=>by rw[hy.step]at hn;exact fresh_off (hyF n hn) (disj_spec h1 n hn) (disj_spec h2 n hn))
    (fun n hn=>by rw[hy.step]at hn;exact hyF n hn)
  have cx:=step_core (C:=C) (ops:=ops) (o:=x.o) (s1:=st) (s2:=apply st y.o y.δ)
    (fun z hz=>eval_off (fun t ht=>disj_spec i3 t (mem_dst.2 ht)) hz) (guard_off (fun t ht=>disj_spec i3 t (mem_dst.2 ht)))
    (by
      rcases Bool.or_eq_true_iff.1 i5 with i5 | i5
      ·exact asked_key (fun n hn=>aget_off (fun hk=>disj_spec i5 n hk (by rw[<- hx.rd];exact hn)))
      ·exact calm_key hx hy i5)
    (fun n hn=>by rw[hx.step]at hn;exact hxF n hn)
    (fun n hn=>by rw[hx.step]at hn;exact fresh_off (hxF n hn) (disj_spec i7 n hn) (hkx n (hnx n hn)))
  have hst:apply (apply st y.o y.δ) x.o x.δ =apply (apply st x.o x.δ) y.o y.δ :=by
    have e1:(apply (apply st y.o y.δ) x.o x.δ).tmps=(apply (apply st x.o x.δ) y.o y.δ).tmps:=(put_comm st.tmps x.δ.val y.δ.val (fun t ht he=>disj_spec i1 t (mem_dst.2 ht) (mem_dst.2 he))).symm
    have e2:(apply (apply st y.o y.δ) x.o x.δ).objs=(apply (apply st x.o x.δ) y.o y.δ).objs:=by
      refine Srt.ext ((hs.apply _ _).apply _ _) ((hs.apply _ _).apply _ _) fun k=> ?_
      by_cases hk:k∈x.keys
      ·have hky:=hkx k hk
       rw[aget_off (o:=y.o) (δ :=y.δ) hky,aget_applied (apply st y.o y.δ),aget_off (o:=y.o) (δ :=y.δ) hky,<- aget_applied st]
      ·rw[aget_off (o:=x.o) (δ :=x.δ) hk,aget_applied (apply st x.o x.δ),aget_off (o:=x.o) (δ :=x.δ) hk,<- aget_applied st]
    generalize apply (apply st y.o y.δ) x.o x.δ =s at *
    generalize apply (apply st x.o x.δ) y.o y.δ =s' at *
    cases s;cases s'
    dsimp only at e1 e2
    rw[e1,e2]
  refine⟨⟨by rw[cy.1,hy.step],by rw[cy.2.1,hy.rd],by rw[cy.2.2,hy.one]⟩,⟨by rw[cx.1,hx.step],by rw[cx.2.1,hx.rd],by rw[cx.2.2,hx.one]⟩,?_⟩
  rw[hst];exact hr
structure Pre (R:List Foot) (st:St):Prop where
  srt:Srt st.objs
  fresh: ∀ z∈R,∀ n∈z.news,st.fresh n=true
  pairs:R.Pairwise (fun y z=>disj z.news y.says=true/\disj z.news y.keys=true)
theorem Pre.step {y:Foot} {R:List Foot} (h:Pre (y::R) st):Pre R (apply st y.o y.δ):=by
  obtain⟨h1,h2⟩:=List.pairwise_cons.1 h.pairs
  exact⟨h.srt.apply _ _,fun z hz n hn=>fresh_off (h.fresh z (List.mem_cons_of_mem _ hz) n hn) (disj_spec (h1 z hz).1 n hn) (disj_spec (h1 z hz).2 n hn),h2⟩
theorem front {ops:List Oper} {x:Foot} {L2:List Foot}: ∀(L1:List Foot) {st:St},Pre (L1++x::L2) st->(∀ y∈L1,indep ops y x=true)->Runs C ops (L1++x::L2) st st'->Runs C ops (x::(L1++L2)) st st':=by
  intro L1
  induction L1 with
  | nil=>intro st _ _ h;exact h
  | cons y L1 ih =>
    intro st hP hi h
    have h1:=ih (st:=apply st y.o y.δ) (hP.step) (fun z hz=>hi z (List.mem_cons_of_mem _ hz)) h.2
    have hx:x∈L1++x::L2:=List.mem_append_right _ List.mem_cons_self
    obtain⟨p1,_⟩:=List.pairwise_cons.1 hP.pairs
    exact swap (hi y List.mem_cons_self) (hP.fresh y List.mem_cons_self) (hP.fresh x (List.mem_cons_of_mem _ hx)) (p1 x hx).1 (p1 x hx).2 hP.srt ⟨h.1,h1⟩
theorem binds_any {md:Region.Mode} {e:Edge} (h:Region.binds .any e=true):Region.binds md e=true:=by
  unfold Region.binds at h ⊢
  cases hg:e.ground with
  | textOnly r=>rw[hg]at h;cases h
  | gcOnly r=>rw[hg]at h;cases h
  | _=>rfl
theorem pairOk_spec {ops:List Oper} {i:Nat} {x y:Foot} (h:pairOk ops i x y=true):disj y.news x.says=true/\disj y.news x.keys=true/\(i∈y.anc\/indep ops x y=true):=by
  unfold pairOk at h
  simp only[Bool.and_eq_true,Bool.or_eq_true]at h
  exact⟨h.1.1,h.1.2,h.2.imp has_mem.1 id⟩
theorem getD_any {l:Array Bool} {i:Nat} (h:i<l.size) (b c:Bool):l.getD i b=l.getD i c:=by
  simp [Array.getD_eq_getD_getElem?,h]
theorem exists_min {α :Type} (f: α ->Nat): ∀(l:List α),l≠ []-> ∃ x∈l,∀ y∈l,f x<=f y:=by
  intro l
  induction l with
  | nil=>intro h;exact absurd rfl h
  | cons a r ih =>
    intro _
    by_cases hr:r=[]
    ·exact⟨a,List.mem_cons_self,fun y hy=>by rw[hr]at hy;simp at hy;rw[hy];exact Nat.le_refl _⟩
    ·obtain⟨x,hx,hm⟩:=ih hr
     by_cases h:f a<=f x
     ·exact⟨a,List.mem_cons_self,fun y hy=>by
        rcases List.mem_cons.1 hy with rfl | hy
        ·exact Nat.le_refl _
        ·exact Nat.le_trans h (hm y hy)⟩
     ·exact⟨x,List.mem_cons_of_mem _ hx,fun y hy=>by
        rcases List.mem_cons.1 hy with rfl | hy
        ·omega
        ·exact hm y hy⟩
theorem draw_any {ρ :Type} (hC:CtxOk P C) {ops:Array Oper} {md:Region.Mode} {Q:Exit->Act->World->Prop} {v: ρ} {K:St->Option ρ} (hQ: ∀ O' m' st' a' w',Sim V0 O0 w0 O' m' st' a' w'->K st'=some v->Q .normal a' w')
    {ANC:List (List Nat)} (hanc: ∀(j:Nat) (o:Oper),ops[j]? =some o-> ∀ i∈ANC.getD j [],∃ e∈edges o,i=e\/i∈ANC.getD e []) {rk:Nat->Nat} (hback: ∀(j:Nat) (o:Oper),ops[j]? =some o-> ∀ e∈o.after,Region.binds md e=true->e.on<ops.size/\rk e.on<rk j) :
    ∀(fuel:Nat) (R:List (Nat×Foot)) (listed:Array Bool) {O:Own} {m:Nat->Value} {st:St} {a:Act} {w:World},R.length=fuel->R.Pairwise (fun p q=>p.1<q.1) ->
     (∀ p∈R,ops[p.1]? =some p.2.o/\AllT p.2.δ.ok/\p.2.anc=ANC.getD p.1 [])->listed.size=ops.size->(∀ i,i<ops.size->(listed.getD i true=false↔i∈R.map (·.1))) ->
     (∀ e,listed.getD e false=true-> ∀ i∈ANC.getD e [],listed.getD i false=true)->R.Pairwise (fun p q=>pairOk ops.toList p.1 p.2 q.2=true)->(∀ p∈R,∀ n∈p.2.news,st.fresh n=true)->Srt st.objs ->
     Runs C ops.toList (R.map (·.2)) st st'->K st'=some v->Sim V0 O0 w0 O m st a w->wpAny P md ops Q fuel listed a w:=by
  intro fuel
  induction fuel with
  | zero =>
    intro R listed O m st a w hlen _ _ hsz hl _ _ _ _ hruns hK hS
    have hR:R=[]:=List.length_eq_zero_iff.1 hlen
    subst hR
    refine⟨?_,?_⟩
    ·rw[List.eq_nil_iff_forall_not_mem]
     intro i hi
     obtain⟨h1,o,h2,_⟩:=mem_ready.1 hi
     have hlt:=(Array.getElem?_eq_some_iff.1 h2).1
     have:=(hl i hlt).1 h1
     simp at this
    ·have:st=st':=hruns
     subst this
     exact hQ _ _ _ _ _ hS hK
  | succ fuel ih =>
    intro R listed O m st a w hlen hord hops hsz hl hcl hpr hfr hsrt hruns hK hS
    have hin: ∀ p∈R,p.1<ops.size:=fun p hp=>(Array.getElem?_eq_some_iff.1 (hops p hp).1).1
    refine⟨fun hnil=> ?_,fun i hi=> ?_⟩
    ·exfalso
     obtain⟨p,hpR,hmin⟩:=exists_min (fun q:Nat×Foot=>rk q.1) R (by intro h;rw[h]at hlen;simp at hlen)
     have hp:=hin p hpR
     have:p.1∈Region.ready md ops listed:=by
       refine mem_ready.2 ⟨(hl p.1 hp).2 (List.mem_map.2 ⟨p,hpR,rfl⟩),p.2.o,(hops p hpR).1,fun e he hb=> ?_⟩
       obtain⟨hsize,hlt⟩:=hback _ _ (hops p hpR).1 e he hb
       have hno:e.on∉R.map (·.1):=by
         intro hm
         obtain⟨q,hq,hqe⟩:=List.mem_map.1 hm
         have:=hmin q hq
         rw[hqe]at this
         omega
       have:listed.getD e.on true≠false:=fun h=>hno ((hl e.on hsize).1 h)
       rw[getD_any (by rw[hsz];exact hsize) false true]
       simpa using this
     rw[hnil]at this;cases this
    ·obtain⟨hi1,oi,hi2,hi3⟩:=mem_ready.1 hi
     have hilt:=(Array.getElem?_eq_some_iff.1 hi2).1
     obtain⟨p,hp,rfl⟩:=List.mem_map.1 ((hl i hilt).1 hi1)
     obtain⟨L1,L2,rfl⟩:=List.append_of_mem hp
     obtain⟨i,x⟩:=p
     dsimp only at hi hi1 hi2 hi3 hilt ⊢
     obtain⟨hx1,hx2,hx3⟩:=hops (i,x) hp
     dsimp only at hx1 hx2 hx3
     have hancl: ∀ j∈ANC.getD i [],listed.getD j false=true:=by
       intro j hj
       obtain⟨e,he,hje⟩:=hanc i _ hx1 j hj
       have hel:listed.getD e false=true:=by
         unfold edges at he
         obtain⟨ed,hed,hb⟩:=List.mem_filterMap.1 he
         rw[hi2]at hx1;injection hx1 with hx1;subst hx1
         cases hbb:Region.binds .any ed with
         | false=>rw[hbb]at hb;cases hb
         | true =>
           rw[hbb]at hb
           injection hb with hb
           rw[<- hb];exact hi3 ed (by simpa using hed) (binds_any hbb)
       rcases hje with rfl | hje
       ·exact hel
       ·exact hcl e hel j hje
     have hord':=List.pairwise_append.1 hord
     have hpr':=List.pairwise_append.1 hpr
     have hind: ∀ q∈L1,pairOk ops.toList q.1 q.2 x=true/\indep ops.toList q.2 x=true:=by
       intro q hq
       have hpq:=hpr'.2.2 q hq (i,x) List.mem_cons_self
       dsimp only at hpq
       refine⟨hpq,(pairOk_spec hpq).2.2.resolve_left fun hm=> ?_⟩
       rw[hx3]at hm
       have h1:=hancl _ hm
       have hqR:q∈L1++(i,x)::L2:=List.mem_append_left _ hq
       have hqlt:=hin q hqR
       have h2:=(hl q.1 hqlt).2 (List.mem_map.2 ⟨q,hqR,rfl⟩)
       rw[getD_any (by rw[hsz];exact hqlt) true false,h1]at h2
       cases h2
     have hPre:Pre ((L1++(i,x)::L2).map (·.2)) st:=by
       refine⟨hsrt,fun z hz n hn=> ?_,?_⟩
       ·obtain⟨q,hq,rfl⟩:=List.mem_map.1 hz
        exact hfr q hq n hn
       ·rw[List.pairwise_map]
        exact hpr.imp fun h=>⟨(pairOk_spec h).1,(pairOk_spec h).2.1⟩
     have hfront:Runs C ops.toList (x::(L1.map (·.2)++L2.map (·.2))) st st':=by
       refine front (L1.map (·.2)) (by simpa using hPre) (fun y hy=> ?_) (by simpa using hruns)
       obtain⟨q,hq,rfl⟩:=List.mem_map.1 hy
       exact(hind q hq).2
     obtain⟨hstep,hrest⟩:=hfront
     have hsub:List.Sublist (L1++L2) (L1++(i,x)::L2):=List.Sublist.append_left (List.sublist_cons_self _ _) _
     have hnext: ∀ O' m' a' w',Sim V0 O0 w0 O' m' (apply st x.o (stepX C ops.toList x.o st)) a' w'->wpAny P md ops Q fuel (listed.setIfInBounds i true) a' w':=by
       intro O' m' a' w' hS'
       rw[hstep.step]at hS'
       refine ih (L1++L2) _ (by simp at hlen ⊢;omega) (hord.sublist hsub) (fun q hq=>hops q (hsub.subset hq)) (by simpa using hsz) (fun j hj=> ?_) (fun e he j hj=> ?_) (hpr.sublist hsub) (fun q hq n hn=> ?_) (hsrt.apply _ _) (by simpa using hrest) hK hS'
       ·by_cases hji:i=j
        ·subst hji
         have h1:(listed.setIfInBounds i true).getD i true=true:=by simp [Array.getD_eq_getD_getElem?,hsz,hj]
         rw[h1]
         refine⟨fun h=>(by cases h),fun h=> ?_⟩
         obtain⟨q,hq,hqi⟩:=List.mem_map.1 h
         rcases List.mem_append.1 hq with hq | hq
         ·have:=hord'.2.2 q hq (i,x) List.mem_cons_self
          dsimp only at this;omega
         ·have:=(List.pairwise_cons.1 hord'.2.1).1 q hq
          dsimp only at this;omega
        ·rw[getD_set_ne true hji,hl j hj]
         simp only[List.map_append,List.map_cons,List.mem_append,List.mem_cons]
         constructor
         ·rintro (h | h | h)
          ·exact .inl h
          ·exact absurd h.symm hji
          ·exact .inr h
         ·rintro (h | h)
          ·exact .inl h
          ·exact .inr (.inr h)
       ·by_cases hei:i=e
        ·subst hei;exact getD_set_true (hancl j hj)
        ·rw[getD_set_ne false hei]at he
         exact getD_set_true (hcl e he j hj)
       ·have hq':=hsub.subset hq
        have hf:=hfr q hq' n hn
        rcases List.mem_append.1 hq with hq | hq
        ·have hi':=(hind q hq).2
         unfold indep at hi'
         simp only[Bool.and_eq_true]at hi'
         exact fresh_off hf (disj_spec hi'.2 n hn) (disj_spec hi'.1.2 n (List.mem_append_right _ hn))
        ·have hpq:=pairOk_spec ((List.pairwise_cons.1 hpr'.2.1).1 q hq)
         exact fresh_off hf (disj_spec hpq.1 n hn) (disj_spec hpq.2.1 n hn)
     have hw:=step_sound hC hS (ops:=ops) (o:=x.o) (by rw[hstep.step];exact hx2) (wpAny P md ops Q fuel (listed.setIfInBounds i true)) Q hnext
     unfold wpOp
     rw[hx1]
     dsimp only
     split
     ·rename_i hwt;rw[if_pos hwt]at hw;exact .inl hw
     ·rename_i hwt;rw[if_neg hwt]at hw;exact hw
end
end Go.Proofs.YtbnphelpndnnfaaGreatDoor.Vm
namespace Go.Proofs.YtbnphelpndnnfaaGreatDoor.Vm
open Classical
section
variable {P:Program} {C:Ctx} {V0:Nat->Value} {O0 O:Own} {w0 w:World} {m:Nat->Value} {st st':St} {a:Act}
def enum:Nat->List Foot->List (Nat×Foot)
  | _,[]=>[]
  | i,x::r=>(i,x)::enum (i+1) r
theorem enum_length: ∀(l:List Foot) (i:Nat),(enum i l).length=l.length:=by
  intro l
  induction l with
  | nil=>intro i;rfl
  | cons x r ih=>intro i;simp [enum,ih]
theorem enum_snd: ∀(l:List Foot) (i:Nat),(enum i l).map (·.2)=l:=by
  intro l
  induction l with
  | nil=>intro i;rfl
  | cons x r ih=>intro i;simp [enum,ih]
theorem enum_mem: ∀(l:List Foot) (i:Nat) (p:Nat×Foot),p∈enum i l-> ∃ k,p.1=i+k/\l[k]? =some p.2:=by
  intro l
  induction l with
  | nil=>intro i p h;cases h
  | cons x r ih =>
    intro i p h
    rcases List.mem_cons.1 h with rfl | h
    ·exact⟨0,rfl,rfl⟩
    ·obtain⟨k,h1,h2⟩:=ih (i+1) p h
     exact⟨k+1,by omega,by simpa using h2⟩
theorem enum_fst: ∀(l:List Foot) (i j:Nat),j∈(enum i l).map (·.1)↔i<=j/\j<i+l.length:=by
  intro l
  induction l with
  | nil=>intro i j;simp [enum]
  | cons x r ih=>intro i j;simp only[enum,List.map_cons,List.mem_cons,ih,List.length_cons];omega
theorem enum_ord: ∀(l:List Foot) (i:Nat),(enum i l).Pairwise (fun p q=>p.1<q.1):=by
  intro l
  induction l with
  | nil=>intro i;exact List.Pairwise.nil
  | cons x r ih =>
    intro i
    refine List.Pairwise.cons (fun q hq=> ?_) (ih (i+1))
    obtain⟨k,h1,_⟩:=enum_mem _ _ _ hq
    show i<q.1
    omega
theorem enum_pairs {ops:List Oper}: ∀(l:List Foot) (i:Nat),pairsOk ops i l=true->(enum i l).Pairwise (fun p q=>pairOk ops p.1 p.2 q.2=true):=by
  intro l
  induction l with
  | nil=>intro i _;exact List.Pairwise.nil
  | cons x r ih =>
    intro i h
    simp only[pairsOk,Bool.and_eq_true]at h
    refine List.Pairwise.cons (fun q hq=> ?_) (ih (i+1) h.2)
    obtain⟨k,_,h2⟩:=enum_mem _ _ _ hq
    exact List.all_eq_true.1 h.1 _ (List.mem_of_getElem? h2)
theorem edges_mem {o:Oper} {e:Nat} (h:e∈edges o): ∃ ed∈o.after,ed.on=e/\Region.binds .any ed=true:=by
  unfold edges at h
  obtain⟨ed,hed,hb⟩:=List.mem_filterMap.1 h
  cases hbb:Region.binds .any ed with
  | false=>rw[hbb]at hb;cases hb
  | true=>rw[hbb]at hb;injection hb with hb;exact⟨ed,by simpa using hed,hb,hbb⟩
theorem backward_spec: ∀(l:List Oper) (i:Nat),backward i l=true-> ∀(k:Nat) (o:Oper),l[k]? =some o-> ∀ e∈o.after,e.on<i+k:=by
  intro l
  induction l with
  | nil=>intro i _ k o h;simp at h
  | cons x r ih =>
    intro i h k o hk e he
    simp only[backward,Bool.and_eq_true]at h
    cases k with
    | zero =>
      simp at hk;subst hk
      have:=List.all_eq_true.1 h.1 e (by simpa using he)
      rw[Nat.blt_eq]at this;exact this
    | succ k =>
      have:=ih (i+1) h.2 k o (by simpa using hk) e he
      omega
theorem backwardA_spec: ∀(l:List Oper) (i:Nat),backwardA i l=true-> ∀(k:Nat) (o:Oper),l[k]? =some o-> ∀ e∈o.after,Region.binds .any e=true->e.on<i+k:=by
  intro l
  induction l with
  | nil=>intro i _ k o h;simp at h
  | cons x r ih =>
    intro i h k o hk e he hb
    simp only[backwardA,Bool.and_eq_true]at h
    cases k with
    | zero =>
      simp at hk;subst hk
      have:=List.all_eq_true.1 h.1 e (by simpa using he)
      rw[hb]at this
      have:Nat.blt e.on i=true:=by simpa using this
      rw[Nat.blt_eq]at this;exact this
    | succ k =>
      have:=ih (i+1) h.2 k o (by simpa using hk) e he hb
      omega
theorem rankedBy_spec {md:Region.Mode} {n:Nat} {rk:List Nat}: ∀(l:List Oper) (i:Nat),rankedBy md n rk i l=true-> ∀(k:Nat) (o:Oper),l[k]? =some o-> ∀ e∈o.after,Region.binds md e=true->e.on<n/\rk.getD e.on 0<rk.getD (i+k) 0:=by
  intro l
  induction l with
  | nil=>intro i _ k o h;simp at h
  | cons x r ih =>
    intro i h k o hk e he hb
    simp only[rankedBy,Bool.and_eq_true]at h
    cases k with
    | zero =>
      simp at hk;subst hk
      have:=List.all_eq_true.1 h.1 e (by simpa using he)
      rw[hb]at this
      have:(Nat.blt e.on n&&Nat.blt (rk.getD e.on 0) (rk.getD i 0))=true:=by simpa using this
      rw[Bool.and_eq_true,Nat.blt_eq,Nat.blt_eq]at this
      exact this
    | succ k =>
      have:=ih (i+1) h.2 k o (by simpa using hk) e he hb
      rw[show i+(k+1)=i+1+k from by omega];exact this
theorem ordered_rank {ops:Array Oper} (h:ordered ops.toList=true) (md:Region.Mode): ∃ rk:Nat->Nat,∀(j:Nat) (o:Oper),ops[j]? =some o-> ∀ e∈o.after,Region.binds md e=true->e.on<ops.size/\rk e.on<rk j:=by
  unfold ordered at h
  rw[Bool.and_eq_true,Bool.or_eq_true]at h
  rcases h.2 with h | h
  ·refine⟨id,fun j o hj e he _=> ?_⟩
   have h1:=backward_spec _ _ h j o (by simpa using hj) e he
   have h2:=(Array.getElem?_eq_some_iff.1 hj).1
   exact⟨by omega,by show e.on<j;omega⟩
  ·simp only[Bool.and_eq_true]at h
   have key:ranked md ops.toList=true:=by cases md<;>first | exact h.1.1 | exact h.1.2 | exact h.2
   refine⟨fun i=>(ranks md ops.toList ops.toList.length (ops.toList.map fun _=>0)).getD i 0,fun j o hj e he hb=> ?_⟩
   have:=rankedBy_spec _ _ key j o (by simpa using hj) e he hb
   rw[Nat.zero_add]at this
   exact⟨by simpa using this.1,this.2⟩
theorem flatMap_congr' {α β :Type} {f g: α ->List β}: ∀(l:List α),(∀ x∈l,f x=g x)->l.flatMap f=l.flatMap g:=by
  intro l
  induction l with
  | nil=>intro _;rfl
  | cons x r ih=>intro h;simp only[List.flatMap_cons];rw[h x List.mem_cons_self,ih (fun y hy=>h y (List.mem_cons_of_mem _ hy))]
theorem foots_spec {ops:List Oper}: ∀(l:List Oper) (acc:List (List Nat)) (st:St),backwardA acc.length l=true->(foots C ops l acc st).length=l.length /\
    ∀(k:Nat) (o:Oper),l[k]? =some o-> ∃ x,(foots C ops l acc st)[k]? =some x/\x.o=o/\x.anc=(edges o).flatMap (fun e=>e::(acc++(foots C ops l acc st).map Foot.anc).getD e []):=by
  intro l
  induction l with
  | nil=>intro acc st _;exact⟨rfl,fun k o h=>by simp at h⟩
  | cons o' r ih =>
    intro acc st h
    have hb:=backwardA_spec _ _ h
    simp only[backwardA,Bool.and_eq_true]at h
    let an:=(edges o').flatMap (fun e=>e::acc.getD e [])
    let s1:=apply st o' (stepX C ops o' st)
    have hf:foots C ops (o'::r) acc st=⟨o',stepX C ops o' st,askedOf o' st (vsOf o' st),oneOf C o'.op (vsOf o' st),an⟩::foots C ops r (acc++[an]) s1:=rfl
    obtain⟨g1,g2⟩:=ih (acc++[an]) s1 (by simpa using h.2)
    rw[hf]
    refine⟨by simp [g1],fun k o hk=> ?_⟩
    cases k with
    | zero =>
      simp at hk;subst hk
      refine⟨_,rfl,rfl,?_⟩
      refine flatMap_congr' _ fun e he=> ?_
      obtain⟨ed,h1,h2,h3⟩:=edges_mem he
      have hlt:=hb 0 o' rfl ed h1 h3
      rw[List.getD_eq_getElem?_getD,List.getD_eq_getElem?_getD,List.getElem?_append_left (by omega)]
    | succ k =>
      obtain⟨x,h1,h2,h3⟩:=g2 k o (by simpa using hk)
      refine⟨x,by simpa using h1,h2,?_⟩
      rw[h3]
      simp [List.append_assoc]
theorem foots_runs {ρ :Type} {ops:List Oper} {K:St->Option ρ} {v: ρ}: ∀(l:List Oper) (acc:List (List Nat)) (st:St),opsX C ops l st K=some v-> ∃ st',Runs C ops (foots C ops l acc st) st st'/\K st'=some v/\ ∀ x∈foots C ops l acc st,AllT x.δ.ok:=by
  intro l
  induction l with
  | nil=>intro acc st h;exact⟨st,rfl,h,fun x hx=>by cases hx⟩
  | cons o r ih =>
    intro acc st h
    obtain⟨h1,h2⟩:=allT_some (show allT (stepX C ops o st).ok (opsX C ops r (apply st o (stepX C ops o st)) K)=some v from h)
    obtain⟨st',h3,h4,h5⟩:=ih (acc++[(edges o).flatMap (fun e=>e::acc.getD e [])]) _ h2
    refine⟨st',⟨⟨rfl,rfl,rfl⟩,h3⟩,h4,fun x hx=> ?_⟩
    rcases List.mem_cons.1 hx with rfl | hx
    ·exact h1
    ·exact h5 x hx
theorem Sim.drew (hS:Sim V0 O0 w0 O m st a w):Sim V0 O0 w0 O m st a {w with drawn:=w.drawn+1} :=
  hS.next (st':=st) (d:=none) (v:=undef) (x:=.undef) (T:=fun _=>False) (Nw:=fun _=>False) ⟨rfl,rfl,rfl,Nat.le_refl _,fun _ _=>.inl rfl⟩ ⟨fun _ _ _ h=>h,fun _ _ _ _ h _=>h⟩ (fun _ _ _ h=>h) (fun _ y ho=>.inr ⟨y,ho,rfl,rfl⟩) (fun _ h=>h.elim) (fun _ h=>h.elim)
    (fun _ _ ho=>.inl ⟨id,ho,rfl⟩) rfl (fun h=>absurd rfl h)
theorem draw_sound {ρ :Type} (hC:CtxOk P C) {fin:St->Option ρ} {v: ρ} (id:Nat) (ops:Array Oper) {O:Own} {m:Nat->Value} {st:St} {a:Act} {w:World} (K:Ex->St->Option ρ) (hS:Sim V0 O0 w0 O m st a w) (hd:drawOk C ops.toList st=true)
    (hx:opsX C ops.toList ops.toList st (fun st'=>K .normal st')=some v):(Code.region id ops true).wp P (Post V0 O0 w0 fin K v) a w:=by
  unfold drawOk at hd
  dsimp only at hd
  simp only[Bool.and_eq_true]at hd
  obtain⟨⟨⟨d1,d2⟩,d3⟩,d4⟩:=hd
  have d1A:backwardA 0 ops.toList=true:=by
    have:=d1
    unfold ordered at this
    rw[Bool.and_eq_true]at this
    exact this.1
  obtain⟨f1,f2⟩:=foots_spec (C:=C) (ops:=ops.toList) ops.toList [] st d1A
  obtain⟨st',r1,r2,r3⟩:=foots_runs ops.toList [] st hx
  generalize hfs:foots C ops.toList ops.toList [] st=fs at *
  have hlen:fs.length=ops.size:=by rw[f1];simp
  have hsize:(enum 0 fs).length=ops.size:=by rw[enum_length,hlen]
  have hany: ∀ md,wpAny P md ops (Post V0 O0 w0 fin K v) ops.size (Array.replicate ops.size false) a {w with drawn:=w.drawn+1}:=by
    intro md
    obtain⟨rk,hrk⟩:=ordered_rank d1 md
    refine draw_any (V0:=V0) (O0:=O0) (w0:=w0) hC (K:=fun st'=>K .normal st') (v:=v) (st':=st') (fun O' m' s a' w' h1 h2=>⟨O',m',s,h1,h2⟩) (ANC:=fs.map Foot.anc) (rk:=rk) (fun j o hj i hi=> ?_) hrk
      ops.size (enum 0 fs) _ hsize (enum_ord _ _) (fun p hp=> ?_) (by simp) (fun i hi=> ?_) (fun e he i _=> ?_) (enum_pairs _ _ d2) (fun p hp n hn=> ?_) (sorted_srt d4) (by rw[enum_snd];exact r1) r2 hS.drew
    ·obtain⟨x,h1,h2,h3⟩:=f2 j o (by simpa using hj)
     have e1:(fs.map Foot.anc).getD j []=x.anc:=by
       rw[List.getD_eq_getElem?_getD,List.getElem?_map,h1];rfl
     rw[e1,h3]at hi
     obtain⟨e,he,hie⟩:=List.mem_flatMap.1 hi
     rcases List.mem_cons.1 hie with h | h
     ·exact⟨e,he,.inl h⟩
     ·exact⟨e,he,.inr (by simpa using h)⟩
    ·obtain⟨k,h1,h2⟩:=enum_mem _ _ _ hp
     rw[Nat.zero_add]at h1
     have hk:k<ops.toList.length:=by
       rw[<- f1]
       rcases Nat.lt_or_ge k fs.length with h | h
       ·exact h
       ·rw[List.getElem?_eq_none h]at h2;cases h2
     obtain⟨x,h3,h4,h5⟩:=f2 k ops.toList[k] (by simp at hk ⊢)
     rw[h2]at h3
     injection h3 with h3
     refine⟨?_,r3 _ (List.mem_of_getElem? h2),?_⟩
     ·rw[h1,h3,h4];simp at hk ⊢
     ·rw[h1,List.getD_eq_getElem?_getD,List.getElem?_map,h2];rfl
    ·rw[enum_fst]
     simp [Array.getD_eq_getD_getElem?,hi,hlen]
    ·have:(Array.replicate ops.size false).getD e false=false:=by
       rw[Array.getD_eq_getD_getElem?,Array.getElem?_replicate]
       split<;>rfl
     rw[this]at he;cases he
    ·obtain⟨k,_,h2⟩:=enum_mem _ _ _ hp
     exact List.all_eq_true.1 d3 n (List.mem_flatMap.2 ⟨_,List.mem_of_getElem? h2,hn⟩)
  refine wp_region_draw fun t=> ?_
  unfold Region.schedule
  split
  ·exact wpAny_sound _ _ _ _ _ (hany _)
  ·exact wpAny_sound _ _ _ _ _ (hany _)
end
end Go.Proofs.YtbnphelpndnnfaaGreatDoor.Vm
namespace Go.Proofs.YtbnphelpndnnfaaGreatDoor.Vm
open Classical
section
variable {P:Program} {C:Ctx}
def glook:List (Nat×Sig)->Nat->Option Sig
  | [],_=>none
  | (k,x)::r,t=>bif Nat.beq k t then some x else glook r t
theorem glook_mem: ∀ {l:List (Nat×Sig)} {t:Nat} {x:Sig},glook l t=some x->(t,x)∈l:=by
  intro l
  induction l with
  | nil=>intro t x h;cases h
  | cons p r ih=>grind[glook,nbeq]
def nlook:List (Nat×Nrm)->Nat->Option Nrm
  | [],_=>none
  | (k,x)::r,t=>bif Nat.beq k t then some x else nlook r t
def alook:List (Nat×Alt)->Nat->Option Alt
  | [],_=>none
  | (k,x)::r,t=>bif Nat.beq k t then some x else alook r t
def dlook:List (Nat×(Nat->Sig))->Nat->Option (Nat->Sig)
  | [],_=>none
  | (k,x)::r,t=>bif Nat.beq k t then some x else dlook r t
def slook:List (Nat×Nat×Nat×List Nat)->Nat->Option (Nat×Nat×List Nat)
  | [],_=>none
  | (k,x)::r,t=>bif Nat.beq k t then some x else slook r t
def klook:List (Nat×List (Nat×Nat))->Nat->List (Nat×Nat)
  | [],_=>[]
  | (k,x)::r,t=>bif Nat.beq k t then x else klook r t
def ctx (P:Program) (gs:List (Nat×Sig)) (ns:List (Nat×Nrm)) (aa:List (Nat×Alt):=[]) (dd:List (Nat×(Nat->Sig)):=[]) (cc:List Nat:=[]) (bb:List Nat:=[]) (ss:List (Nat×Nat×Nat×List Nat):=[]) (kk:List (Nat×List (Nat×Nat)):=[]):Ctx:=⟨tyOf P,glook gs,nlook ns,alook aa,dlook dd,cc,bb,fun _=>none,slook ss,klook kk⟩
def DynOk (P:Program) (F:Nat->Sig):Prop:=(∀ xs,(F 0).ok xs=false)/\ ∀ f xs,(F (f+1)).ok xs=true->Spec P f (F (f+1))
def Dyns (P:Program):List (Nat×(Nat->Sig))->Prop
  | []=>True
  | (_,F)::r=>DynOk P F/\Dyns P r
theorem Dyns.look: ∀ {l:List (Nat×(Nat->Sig))},Dyns P l-> ∀ t F,dlook l t=some F->DynOk P F:=by
  intro l
  induction l with
  | nil=>intro _ t F h;cases h
  | cons p r ih=>grind[dlook,nbeq,Dyns,DynOk]
def Alts (P:Program):List (Nat×Alt)->Prop
  | []=>True
  | (f,q)::r=>(Spec P f q.1/\Spec P f q.2.1)/\Alts P r
theorem Alts.look: ∀ {l:List (Nat×Alt)},Alts P l-> ∀ f q,alook l f=some q->Spec P f q.1/\Spec P f q.2.1:=by
  intro l
  induction l with
  | nil=>intro _ f q h;cases h
  | cons p r ih =>
    intro h f q hq
    obtain⟨k,x⟩:=p
    simp only[alook,nbeq]at hq
    by_cases hk:k=f
    ·simp only[hk,decide_true,cond_true,Option.some.injEq]at hq
     rw[<- hq,<- hk];exact h.1
    ·rw[show decide (k=f)=false by simpa using hk]at hq
     exact ih h.2 f q hq
def Specs (P:Program):List (Nat×Sig)->Prop
  | []=>True
  | (f,sg)::r=>Spec P f sg/\Specs P r
theorem Specs.mem: ∀ {l:List (Nat×Sig)},Specs P l-> ∀ p∈l,Spec P p.1 p.2:=by
  intro l
  induction l with
  | nil=>intro _ p hp;cases hp
  | cons q r ih=>grind[Specs,Spec]
theorem ctx_ok {gs:List (Nat×Sig)} {ns:List (Nat×Nrm)} {aa:List (Nat×Alt)} {dd:List (Nat×(Nat->Sig))} {cc bb:List Nat} {ss:List (Nat×Nat×Nat×List Nat)} {kk:List (Nat×List (Nat×Nat))} (hG:Specs P gs) (hA:Alts P aa:=by trivial) (hD:Dyns P dd:=by trivial):CtxOk P (ctx P gs ns aa dd cc bb ss kk) :=
  ⟨fun _ _ h=>h,fun _ _ h=>hG.mem _ (glook_mem h),hA.look,hD.look⟩
theorem enters {f:FuncId} {fn:Func} (hf:P.funcs[f]? =some fn) (hb:fn.body.isNone=false) (hn:(fn.name== "runtime.NumGoroutine")=false) (args:Array Value) (w:World):(callFunc f args).run P w= .ok (.enter f args) w:=by
  have h1:fn.name≠ "runtime.NumGoroutine" :=by simpa using hn
  have h2:fn.body≠none:=by intro e;rw[e]at hb;cases hb
  simp [callFunc,hf,h1,h2]
def decC:(ks:List (Bool×CK))->List A->Option (tyl (ks.map (·.2))).Val
  | []=>fun
    | []=>some ()
    | _=>none
  | (_,.bool)::r=>fun
    | .bool b::cs=>(decC r cs).map (fun q=>Ty.mk2 _ b q)
    | _=>none
  | (_,.int k)::r=>fun
    | .int j n::cs=>bif A.kEq j k then(decC r cs).map (fun q=>Ty.mk2 _ n q)else none
    | _=>none
  | (_,.str)::r=>fun
    | .str s::cs=>(decC r cs).map (fun q=>Ty.mk2 _ s q)
    | _=>none
  | (false,.sl _ t)::r=>fun
    | .sl l::cs=>match l.cast t with
      | some xs=>(decC r cs).map (fun q=>Ty.mk2 _ xs q)
      | none=>none
    | _=>none
  | (true,.sl e t)::r=>fun
    | .usl z e' l::cs=>bif z&&Nat.beq e' e then match l.cast t with
      | some xs=>(decC r cs).map (fun q=>Ty.mk2 _ xs q)
      | none=>none
      else none
    | _=>none
  | (true,.sln e t)::r=>fun
    | .usl z e' l::cs=>bif !z&&Nat.beq e' e then match l.cast t with
      | some xs=>(decC r cs).map (fun q=>Ty.mk2 _ xs q)
      | none=>none
      else none
    | _=>none
  | (false,.sln _ t)::r=>fun
    | .sln l::cs=>match l.cast t with
      | some xs=>(decC r cs).map (fun q=>Ty.mk2 _ xs q)
      | none=>none
    | _=>none
  | (_,.ptr)::r=>fun
    | .nilp::cs=>(decC r cs).map (fun q=>q)
    | _=>none
  | (_,.fn)::r=>fun
    | .fn n::cs=>(decC r cs).map (fun q=>Ty.mk2 _ n q)
    | _=>none
  | (_,.mp kt vt)::r=>fun
    | .ump l::cs=>match l.cast kt vt with
      | some xs=>(decC r cs).map (fun q=>Ty.mk2 _ xs q)
      | none=>none
    | _=>none
  | (true,.bx t)::r=>fun
    | .box ds::cs=>bif (t.mk (ds.map A.weak)).1&&ds.all A.notSl then(decC r cs).map (fun q=>Ty.mk2 _ [(t.mk (ds.map A.weak)).2] q)else none
    | _=>none
  | (false,.bx _)::_=>fun _=>none
  | (_,.oth)::_=>fun _=>none
def encC:(ks:List (Bool×CK))->(tyl (ks.map (·.2))).Val->List A
  | [],_=>[]
  | (_,.bool)::r,v=>.bool (Ty.hd _ v)::encC r (Ty.tl _ v)
  | (_,.int k)::r,v=>.int k (Ty.hd _ v)::encC r (Ty.tl _ v)
  | (_,.str)::r,v=>.str (Ty.hd _ v)::encC r (Ty.tl _ v)
  | (false,.sl _ t)::r,v=>.sl ⟨t,Ty.hd _ v⟩::encC r (Ty.tl _ v)
  | (true,.sl e t)::r,v=>.usl true e ⟨t,Ty.hd _ v⟩::encC r (Ty.tl _ v)
  | (true,.sln e t)::r,v=>.usl false e ⟨t,Ty.hd _ v⟩::encC r (Ty.tl _ v)
  | (false,.sln _ t)::r,v=>.sln ⟨t,Ty.hd _ v⟩::encC r (Ty.tl _ v)
  | (_,.ptr)::r,v=>.nilp::encC r v
  | (_,.fn)::r,v=>.fn (Ty.hd _ v)::encC r (Ty.tl _ v)
  | (_,.mp kt vt)::r,v=>.ump ⟨kt,vt,Ty.hd _ v⟩::encC r (Ty.tl _ v)
  | (true,.bx t)::r,v=>.box ((t.cells ((Ty.hd _ v).headD t.zero)).map A.strong)::encC r (Ty.tl _ v)
  | (false,.bx _)::_,_=>[]
  | (_,.oth)::_,_=>[]
theorem strong_weak: ∀(ds:List A),ds.all A.notSl=true->(ds.map A.weak).map A.strong=ds:=by
  intro ds
  induction ds with
  | nil=>intro _;rfl
  | cons d ds ih =>
    intro h
    rw[List.all_cons,Bool.and_eq_true]at h
    rw[List.map_cons,List.map_cons,ih h.2]
    congr 1
    cases d<;>first | rfl | cases h.1
theorem decC_enc: ∀(ks:List (Bool×CK)) (cs:List A) (v:(tyl (ks.map (·.2))).Val),decC ks cs=some v->cs=encC ks v:=by
  intro ks
  induction ks with
  | nil =>
    intro cs v h
    cases cs with
    | nil=>rfl
    | cons _ _=>cases h
  | cons k ks ih =>
    intro cs v h
    obtain⟨u,k⟩:=k
    have none': ∀ {α :Type} {x: α},(none:Option α)=some x->False:=fun h=>by cases h
    cases k with
    | bool =>
      simp only[decC]at h
      split at h
      ·rename_i b cs
       cases hd:decC ks cs with
       | none=>rw[hd]at h;cases h
       | some q =>
         rw[hd]at h
         injection h with h
         subst h
         simp only[encC,Ty.hd_mk2,Ty.tl_mk2]
         rw[<- ih cs q hd]
      ·exact(none' h).elim
    | int k =>
      simp only[decC]at h
      split at h
      ·rename_i j n cs
       cases hk:A.kEq j k with
       | false=>rw[hk]at h;exact(none' h).elim
       | true =>
         rw[hk]at h
         cases hd:decC ks cs with
         | none=>rw[hd]at h;cases h
         | some q =>
           rw[hd]at h
           injection h with h
           subst h
           simp only[encC,Ty.hd_mk2,Ty.tl_mk2]
           rw[<- ih cs q hd,A.kEq_eq hk]
      ·exact(none' h).elim
    | str =>
      simp only[decC]at h
      split at h
      ·rename_i b cs
       cases hd:decC ks cs with
       | none=>rw[hd]at h;cases h
       | some q =>
         rw[hd]at h
         injection h with h
         subst h
         simp only[encC,Ty.hd_mk2,Ty.tl_mk2]
         rw[<- ih cs q hd]
      ·exact(none' h).elim
    | sl e t =>
      cases u with
      | false =>
        simp only[decC]at h
        split at h
        ·rename_i l cs
         cases hc:l.cast t with
         | none=>rw[hc]at h;exact(none' h).elim
         | some xs =>
           rw[hc]at h
           dsimp only at h
           cases hd:decC ks cs with
           | none=>rw[hd]at h;cases h
           | some q =>
             rw[hd]at h
             injection h with h
             subst h
             simp only[encC,Ty.hd_mk2,Ty.tl_mk2]
             rw[<- ih cs q hd,Sl.cast_some hc]
        ·exact(none' h).elim
      | true =>
        simp only[decC]at h
        split at h
        ·rename_i z e' l cs
         cases he:z&&Nat.beq e' e with
         | false=>rw[he]at h;exact(none' h).elim
         | true =>
           rw[he]at h
           dsimp only[cond_true]at h
           cases hc:l.cast t with
           | none=>rw[hc]at h;exact(none' h).elim
           | some xs =>
             rw[hc]at h
             dsimp only at h
             cases hd:decC ks cs with
             | none=>rw[hd]at h;cases h
             | some q =>
               rw[hd]at h
               injection h with h
               subst h
               simp only[encC,Ty.hd_mk2,Ty.tl_mk2]
               rw[Bool.and_eq_true]at he
               rw[<- ih cs q hd,Sl.cast_some hc,Nat.eq_of_beq_eq_true he.2,he.1]
        ·exact(none' h).elim
    | ptr =>
      simp only[decC]at h
      split at h
      ·rename_i cs
       cases hd:decC ks cs with
       | none=>rw[hd]at h;cases h
       | some q =>
         rw[hd]at h
         injection h with h
         subst h
         simp only[encC]
         rw[<- ih cs _ hd]
      ·exact(none' h).elim
    | fn =>
      simp only[decC]at h
      split at h
      ·rename_i b cs
       cases hd:decC ks cs with
       | none=>rw[hd]at h;cases h
       | some q =>
         rw[hd]at h
         injection h with h
         subst h
         simp only[encC,Ty.hd_mk2,Ty.tl_mk2]
         rw[<- ih cs q hd]
      ·exact(none' h).elim
    | sln e t =>
      cases u with
      | false =>
        simp only[decC]at h
        split at h
        ·rename_i l cs
         cases hc:l.cast t with
         | none=>rw[hc]at h;exact(none' h).elim
         | some xs =>
           rw[hc]at h
           dsimp only at h
           cases hd:decC ks cs with
           | none=>rw[hd]at h;cases h
           | some q =>
             rw[hd]at h
             injection h with h
             subst h
             simp only[encC,Ty.hd_mk2,Ty.tl_mk2]
             rw[<- ih cs q hd,Sl.cast_some hc]
        ·exact(none' h).elim
      | true =>
        simp only[decC]at h
        split at h
        ·rename_i z e' l cs
         cases he: !z&&Nat.beq e' e with
         | false=>rw[he]at h;exact(none' h).elim
         | true =>
           rw[he]at h
           dsimp only[cond_true]at h
           cases hc:l.cast t with
           | none=>rw[hc]at h;exact(none' h).elim
           | some xs =>
             rw[hc]at h
             dsimp only at h
             cases hd:decC ks cs with
             | none=>rw[hd]at h;cases h
             | some q =>
               rw[hd]at h
               injection h with h
               subst h
               simp only[encC,Ty.hd_mk2,Ty.tl_mk2]
               rw[Bool.and_eq_true]at he
               rw[<- ih cs q hd,Sl.cast_some hc,Nat.eq_of_beq_eq_true he.2,show z=false from by simpa using he.1]
        ·exact(none' h).elim
    | mp kt vt =>
      simp only[decC]at h
      split at h
      ·rename_i l cs
       cases hc:l.cast kt vt with
       | none=>rw[hc]at h;exact(none' h).elim
       | some xs =>
         rw[hc]at h
         dsimp only at h
         cases hd:decC ks cs with
         | none=>rw[hd]at h;cases h
         | some q =>
           rw[hd]at h
           injection h with h
           subst h
           simp only[encC,Ty.hd_mk2,Ty.tl_mk2]
           rw[<- ih cs q hd,Mp.cast_some hc]
      ·exact(none' h).elim
    | bx t =>
      cases u with
      | false=>simp only[decC]at h;exact(none' h).elim
      | true =>
        simp only[decC]at h
        split at h
        ·rename_i ds cs
         cases hk:(t.mk (ds.map A.weak)).1&&ds.all A.notSl with
         | false=>rw[hk]at h;exact(none' h).elim
         | true =>
           rw[hk]at h
           rw[Bool.and_eq_true]at hk
           cases hd:decC ks cs with
           | none=>rw[hd]at h;cases h
           | some q =>
             rw[hd]at h
             injection h with h
             subst h
             simp only[encC,Ty.hd_mk2,Ty.tl_mk2]
             rw[<- ih cs q hd]
             congr 2
             show _=(t.cells (t.mk (ds.map A.weak)).2).map A.strong
             rw[Ty.mk_cells _ _ hk.1,strong_weak _ hk.2]
        ·exact(none' h).elim
    | oth=>simp only[decC]at h;exact(none' h).elim
def Sh.ks:Sh->List (Bool×CK)
  | .cell u k=>[(u,k)]
  | .agg ks=>ks
  | .box ks=>ks
  | .clo _ ks=>ks
  | .map kt vt=>[(true,.mp kt vt)]
def Sh.T (s:Sh):Type:=(tyl (s.ks.map (·.2))).Val
def Sh.dec:(s:Sh)->A->Option s.T
  | .cell u k,x=>decC [(u,k)] [x]
  | .agg ks,.agg cs=>decC ks cs
  | .box ks,.box cs=>decC ks cs
  | .clo f ks,.cbx g cs=>bif Nat.beq f g then decC ks cs else none
  | .map kt vt,x=>decC [(true,.mp kt vt)] [x]
  | _,_=>none
def Sh.enc:(s:Sh)->s.T->A
  | .cell u k,v=>(encC [(u,k)] v).getD 0 .undef
  | .agg ks,v=>.agg (encC ks v)
  | .box ks,v=>.box (encC ks v)
  | .clo f ks,v=>.cbx f (encC ks v)
  | .map kt vt,v=>(encC [(true,.mp kt vt)] v).getD 0 .undef
theorem Sh.dec_enc {s:Sh} {x:A} {v:s.T} (h:s.dec x=some v):x=s.enc v:=by
  cases s with
  | cell u k =>
    have:=decC_enc _ _ _ (show decC [(u,k)] [x]=some v from h)
    show x=(encC [(u,k)] v).getD 0 .undef
    rw[<- this];rfl
  | agg ks =>
    cases x with
    | agg cs =>
      have:=decC_enc _ _ _ (show decC ks cs=some v from h)
      show _=A.agg (encC ks v)
      rw[<- this]
    | _=>cases h
  | box ks =>
    cases x with
    | box cs =>
      have:=decC_enc _ _ _ (show decC ks cs=some v from h)
      show _=A.box (encC ks v)
      rw[<- this]
    | _=>cases h
  | clo f ks =>
    cases x with
    | cbx g cs =>
      have h:(bif Nat.beq f g then decC ks cs else none)=some v:=h
      cases hb:Nat.beq f g with
      | false=>rw[hb]at h;cases h
      | true =>
        rw[hb]at h
        have:=decC_enc _ _ _ (show decC ks cs=some v from h)
        show _=A.cbx f (encC ks v)
        rw[<- this,Nat.eq_of_beq_eq_true hb]
    | _=>cases h
  | map kt vt =>
    have:=decC_enc _ _ _ (show decC [(true,.mp kt vt)] [x]=some v from h)
    show x=(encC [(true,.mp kt vt)] v).getD 0 .undef
    rw[<- this];rfl
def prS (s:Sh) (β :Type):List Sh->Type
  | []=>s.T
  | _::_=>s.T× β
def ShT:List Sh->Type
  | []=>Unit
  | s::r=>prS s (ShT r) r
def hdS (s:Sh):(r:List Sh)->prS s (ShT r) r->s.T
  | [],v=>v
  | _::_,v=>v.1
def tlS (s:Sh):(r:List Sh)->prS s (ShT r) r->ShT r
  | [],_=>()
  | _::_,v=>v.2
def mkS (s:Sh):(r:List Sh)->s.T->ShT r->prS s (ShT r) r
  | [],a,_=>a
  | _::_,a,b=>(a,b)
theorem hdS_mk (s:Sh) (r:List Sh) (a:s.T) (b:ShT r):hdS s r (mkS s r a b)=a:=by cases r<;>rfl
theorem tlS_mk (s:Sh) (r:List Sh) (a:s.T) (b:ShT r):tlS s r (mkS s r a b)=b:=by cases r<;>rfl
def bothO (s:Sh) (r:List Sh):Option s.T->Option (ShT r)->Option (prS s (ShT r) r)
  | some a,some b=>some (mkS s r a b)
  | _,_=>none
theorem bothO_some {s:Sh} {r:List Sh} {x:Option s.T} {y:Option (ShT r)} {v:prS s (ShT r) r} (h:bothO s r x y=some v): ∃ a b,x=some a/\y=some b/\v=mkS s r a b:=by
  cases x with
  | none=>cases h
  | some a =>
    cases y with
    | none=>cases h
    | some b=>grind[Sh,ShT,prS,bothO,mkS]
def decs:(ss:List Sh)->List A->Option (ShT ss)
  | []=>fun
    | []=>some ()
    | _=>none
  | s::r=>fun
    | []=>none
    | x::xs=>bothO s r (s.dec x) (decs r xs)
def encs:(ss:List Sh)->ShT ss->List A
  | [],_=>[]
  | s::r,v=>s.enc (hdS s r v)::encs r (tlS s r v)
theorem decs_enc: ∀(ss:List Sh) (xs:List A) (v:ShT ss),decs ss xs=some v->xs=encs ss v:=by
  intro ss
  induction ss with
  | nil =>
    intro xs v h
    cases xs with
    | nil=>rfl
    | cons _ _=>cases h
  | cons s ss ih =>
    intro xs v h
    cases xs with
    | nil=>cases h
    | cons x xs =>
      obtain⟨a,b,h1,h2,h3⟩:=bothO_some (show bothO s ss (s.dec x) (decs ss xs)=some v from h)
      subst h3
      show _=s.enc (hdS s ss (mkS s ss a b))::encs ss (tlS s ss (mkS s ss a b))
      rw[hdS_mk,tlS_mk,<- Sh.dec_enc h1,<- ih xs b h2]
def Sh.zero (s:Sh):s.T:=Ty.zero _
def zeroS:(ss:List Sh)->ShT ss
  | []=>()
  | s::r=>mkS s r s.zero (zeroS r)
def outS (pars ress:List Sh):List Sh:=ress++pars.filterMap (fun | .box ks=>some (.agg ks) | .clo _ ks=>some (.agg ks) | .map kt vt=>some (.map kt vt) | _=>none)
def Sig.of (pars ress:List Sh) (f:ShT pars->Option (ShT (outS pars ress))):Sig where
  pars:=pars
  ress:=ress
  ok xs:=match decs pars xs with
    | some a=>(f a).isSome
    | none=>false
  val xs:=match decs pars xs with
    | some a=>encs (outS pars ress) ((f a).getD (zeroS _))
    | none=>[]
def disp (pars ress:List Sh):List (Nat×(ShT pars->Option (ShT (outS pars ress))))->Nat->ShT pars->Option (ShT (outS pars ress))
  | [],_,_=>none
  | (f,g)::r,n,x=>bif Nat.beq n (f+1)then g x else disp pars ress r n x
def DispOk (P:Program) (pars ress:List Sh):List (Nat×(ShT pars->Option (ShT (outS pars ress))))->Prop
  | []=>True
  | (f,g)::r=>Spec P f (Sig.of pars ress g)/\DispOk P pars ress r
theorem disp_zero (pars ress:List Sh): ∀(l:List (Nat×(ShT pars->Option (ShT (outS pars ress))))) (x:ShT pars),disp pars ress l 0 x=none:=by
  intro l
  induction l with
  | nil=>intro x;rfl
  | cons p r ih=>intro x;obtain⟨f,g⟩:=p;simp only[disp];exact ih x
theorem disp_spec {pars ress:List Sh}: ∀ {l:List (Nat×(ShT pars->Option (ShT (outS pars ress))))},DispOk P pars ress l-> ∀ f,(∀ x,disp pars ress l (f+1) x=none)\/Spec P f (Sig.of pars ress (disp pars ress l (f+1))):=by
  intro l
  induction l with
  | nil=>intro _ f;exact .inl fun x=>rfl
  | cons p r ih=>grind[disp,nbeq,Sh,ShT,outS,DispOk,Spec,Sig.of]
theorem disp_ok {pars ress:List Sh} {l:List (Nat×(ShT pars->Option (ShT (outS pars ress))))} (h:DispOk P pars ress l):DynOk P (fun n=>Sig.of pars ress (disp pars ress l n)):=by
  refine⟨fun xs=> ?_,fun f xs hok=> ?_⟩
  ·show(match decs pars xs with | some a=>(disp pars ress l 0 a).isSome | none=>false)=false
   cases decs pars xs with
   | none=>rfl
   | some a=>grind[disp_zero]
  ·rcases disp_spec h f with h0 | h0
   ·have hok':(match decs pars xs with | some a=>(disp pars ress l (f+1) a).isSome | none=>false)=true:=hok
    cases hd:decs pars xs with
    | none=>rw[hd]at hok';cases hok'
    | some a=>simp_all[hd,Sh,ShT,outS,DispOk,DynOk,Sig.of]
   ·exact h0
theorem Sig.of_some {pars ress:List Sh} {f:ShT pars->Option (ShT (outS pars ress))} {xs rs:List A} (h:(Sig.of pars ress f).F xs=some rs): ∃ a o,xs=encs pars a/\f a=some o/\rs=encs _ o:=by
  unfold Sig.F Sig.of at h
  dsimp only at h
  cases hd:decs pars xs with
  | none=>rw[hd]at h;cases h
  | some a =>
    rw[hd]at h
    dsimp only at h
    cases hf:f a with
    | none=>rw[hf]at h;cases h
    | some o =>
      rw[hf]at h
      injection h with h
      exact⟨a,o,decs_enc _ _ _ hd,hf,h.symm⟩
def finT (C:Ctx) (pars ress:List Sh) (outs:List (Nat×Option Nat)) (st:St):Option (ShT (outS pars ress)) :=
  allT ((handArgs st.objs ress (outsOf C outs st)).1++(handArgs st.objs (pars.map maskS) (maskV pars 0)).1 ++
      [nodup ((namesAs st.objs 256000 256 ress (outsOf C outs st)++namesAs st.objs 0 256 (pars.map maskS) (maskV pars 0)).map (·.1)),!(ress.any wS||(pars.map maskS).any wS)||((handArgs st.objs ress (outsOf C outs st)).2.2.1.isEmpty&&(handArgs st.objs (pars.map maskS) (maskV pars 0)).2.2.1.isEmpty)]++outs.flatMap (fun q=>(outX C st q).1))
    (decs _ ((handArgs st.objs ress (outsOf C outs st)).2.1++(boxIx pars 0).map (fun i=>unbox ((handArgs st.objs (pars.map maskS) (maskV pars 0)).2.1.getD i .undef))))
theorem allT_eq {α β :Type} {l:List Bool} {x:Option α} {y: α} (h:allT l x=some y) (z: β):allT l (some z)=some z:=by
  induction l with
  | nil=>rfl
  | cons c cs ih=>grind[allT]
theorem finT_some {C:Ctx} {pars ress:List Sh} {outs:List (Nat×Option Nat)} {st:St} {o:ShT (outS pars ress)} (h:finT C pars ress outs st=some o):finish C pars ress outs st=some (encs _ o):=by
  unfold finT at h
  obtain⟨_,h2⟩:=allT_some h
  all_goals grind[decs_enc,finish,allT_eq]
theorem spec_of_runS {ρ :Type} {fin:St->Option ρ} (hC:CtxOk P C) (N:Nat) {f:FuncId} {fn:Func} {code:Code} {outs:List (Nat×Option Nat)} {pars ress:List Sh} {g:ShT pars->Option (ShT (outS pars ress))} (hf:P.funcs[f]? =some fn) (hb:fn.body=some code) (hn:(fn.name== "runtime.NumGoroutine")=false)
    (hout:fn.results=(outs.map rv).toArray) (hF: ∀ a o,g a=some o-> ∃ r,runK C N pars fn.ntmps code fin (encs pars a)=some r/\ ∀ st,fin st=some r->finT C pars ress outs st=some o):Spec P f (Sig.of pars ress g) :=
  ⟨enters hf (by rw[hb];rfl) hn,fun _ _ _ xs rs hI hv hl h100 hx hrs=>by
    obtain⟨a,o,h1,h2,h3⟩:=Sig.of_some hrs
    subst h1;subst h3
    obtain⟨r,h4,h5⟩:=hF a o h2
    exact run_calls (sg:=Sig.of pars ress g) (o:=r) hC N (fun {_} hC' {_ _ _ _ _ _} id ops _ _ _ _ _ K hS hd hx=>draw_sound hC' id ops K hS hd hx) hf hb hout hI hv hl h100 hx h4 (fun st h=>finT_some (h5 st h))⟩
end
