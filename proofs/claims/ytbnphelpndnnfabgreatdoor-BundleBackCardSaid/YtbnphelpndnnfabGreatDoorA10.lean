import Derived.Test.YtbnphelpndnnfabGreatDoorA9
import Derived.Orders
set_option linter.all false
namespace Go.Proofs.YtbnphelpndnnfabGreatDoor.Vm
open Classical
section
variable {P:Program} {C:Ctx} {V0:Nat->Value} {O0 O:Own} {w0 w:World} {m:Nat->Value} {st:St} {a:Act}
theorem FB {a b:List Nat} (h:MI a b=true): ∀ n∈a,n∉b:=by
  intro n hn hb
  have:=List.all_eq_true.1 h n hn
  rw[Ik.2 hb]at this;cases this
def lastOf:List (Nat×Obj)->Nat->Option Obj
  | [],_=>none
  | (n,x)::r,k=>match lastOf r k with
    | some y=>some y
    | none=>if n=k then some x else none
theorem bG {u:List (Nat×Obj)} {k:Nat} (h:k∉u.map (·.1)):lastOf u k=none:=by
  induction u with
  | nil=>rfl
  | cons p r ih =>
    obtain⟨n,x⟩:=p
    simp only[List.map_cons,List.mem_cons,not_or]at h
    simp only[lastOf,ih h.2]
    exact if_neg (fun e=>h.1 e.symm)
theorem AaR (u:List (Nat×Obj)): ∀(l:List (Nat×Obj)) (k:Nat),Dy (DC l u) k=match lastOf u k with | some x=>some x | none=>Dy l k:=by
  induction u with
  | nil=>intro l k;rfl
  | cons p r ih =>
    obtain⟨n,x⟩:=p
    intro l k
    rw[DC,ih,Eg]
    simp only[lastOf]
    cases lastOf r k with
    | some y=>rfl
    | none =>
      by_cases h:n=k
      ·simp [h]
      ·have:k≠n:=fun e=>h e.symm
       simp [h,this]
theorem KE (st:St) (o:Oper) (δ :Dl) (k:Nat):Dy (apply st o δ).Dj k=match lastOf δ.new k with
    | some x=>some x
    | none=>if k∈ δ.del then none else match lastOf δ.upd k with
      | some x=>some x
      | none=>Dy st.Dj k:=by
  unfold apply
  dsimp only
  rw[AaR,LU,AaR]
theorem MX {st:St} {o:Oper} {δ :Dl} {k:Nat} (h:k∉ δ.upd.map (·.1)++ δ.del++ δ.new.map (·.1)):Dy (apply st o δ).Dj k=Dy st.Dj k:=by
  simp only[List.mem_append,not_or]at h
  rw[KE,bG h.2,bG h.1.1]
  exact if_neg h.1.2
def Srt:List (Nat×Obj)->Prop:=List.Pairwise (fun p q=>p.1<q.1)
theorem Ang: ∀ {l:List (Nat×Obj)},sorted l=true->Srt l:=by
  intro l
  induction l with
  | nil=>intro _;exact List.Pairwise.nil
  | cons p r ih =>
    intro h
    cases r with
    | nil=>exact List.pairwise_singleton _ _
    | cons q r =>
      obtain⟨n,x⟩:=p
      obtain⟨k,y⟩:=q
      simp only[sorted,Bool.and_eq_true,Nat.blt_eq]at h
      have hr:=ih h.2
      refine List.Pairwise.cons (fun q hq=> ?_) hr
      rcases List.mem_cons.1 hq with rfl | hq
      ·exact h.1
      ·exact Nat.lt_trans h.1 ((List.pairwise_cons.1 hr).1 q hq)
theorem Srt.KD {l:List (Nat×Obj)} (h:Srt l) (n:Nat):Srt (Vm.KD l n):=by
  induction l with
  | nil=>exact h
  | cons p r ih =>
    obtain⟨k,x⟩:=p
    obtain⟨h1,h2⟩:=List.pairwise_cons.1 h
    rw[sU]
    split
    ·exact ih h2
    ·exact List.Pairwise.cons (fun q hq=>h1 q (Acx hq)) (ih h2)
theorem Srt.Vt {l:List (Nat×Obj)} (h:Srt l) {n:Nat} (y:Obj) (hn:Dy l n=none):Srt (Vm.Vt l n y):=by
  induction l with
  | nil=>exact List.pairwise_singleton _ _
  | cons p r ih =>
    obtain⟨k,x⟩:=p
    obtain⟨h1,h2⟩:=List.pairwise_cons.1 h
    rw[GG]at hn
    have hkn:k≠n:=fun e=>by rw[if_pos e]at hn;cases hn
    rw[if_neg hkn]at hn
    simp only[Vm.Vt]
    cases hle:Nat.ble n k with
    | true =>
      have:=Nat.le_of_ble_eq_true hle
      refine List.Pairwise.cons (fun q hq=> ?_) h
      rcases List.mem_cons.1 hq with rfl | hq
      ·show n<k;omega
      ·have:=h1 q hq
       show n<q.1
       dsimp only at this;omega
    | false =>
      have hlt:k<n:=by
        rcases Nat.lt_or_ge k n with h | h
        ·exact h
        ·rw[Nat.ble_eq_true_of_le h]at hle;cases hle
      refine List.Pairwise.cons (fun q hq=> ?_) (ih h2 hn)
      rcases Aj2 hq with rfl | hq
      ·exact hlt
      ·exact h1 q hq
theorem Srt.EZ {l:List (Nat×Obj)} (h:Srt l) (n:Nat) (y:Obj):Srt (Vm.EZ l n y):=(h.KD n).Vt y (by rw[Zg,if_pos rfl])
theorem Srt.DC: ∀(u:List (Nat×Obj)) {l:List (Nat×Obj)},Srt l->Srt (Vm.DC l u):=by
  intro u
  induction u with
  | nil=>intro l h;exact h
  | cons p r ih=>intro l h;obtain⟨n,x⟩:=p;exact ih (h.EZ n x)
theorem Srt.Ed: ∀(u:List Nat) {l:List (Nat×Obj)},Srt l->Srt (Vm.Ed l u):=by
  intro u
  induction u with
  | nil=>intro l h;exact h
  | cons n r ih=>intro l h;exact ih (h.KD n)
theorem Srt.apply {st:St} (h:Srt st.Dj) (o:Oper) (δ :Dl):Srt (Vm.apply st o δ).Dj:=((h.DC δ.upd).Ed δ.del).DC δ.new
theorem Qm {n:Nat} {x:Obj} {r:List (Nat×Obj)}:Dy ((n,x)::r) n=some x:=by rw[GG,if_pos rfl]
theorem zO {l:List (Nat×Obj)} {k:Nat} (h: ∀ p∈l,k<p.1):Dy l k=none:=by
  cases hx:Dy l k with
  | none=>rfl
  | some x=>exact absurd (h _ (AbH hx)) (Nat.lt_irrefl _)
theorem Srt.ext: ∀ {l l':List (Nat×Obj)},Srt l->Srt l'->(∀ k,Dy l k=Dy l' k)->l=l':=by
  intro l
  induction l with
  | nil =>
    intro l' _ _ h
    cases l' with
    | nil=>rfl
    | cons p r=>obtain⟨n,x⟩:=p;have:=h n;rw[Qm]at this;cases this
  | cons p r ih =>
    intro l' h1 h2 h
    obtain⟨n,x⟩:=p
    cases l' with
    | nil=>have:=h n;rw[Qm]at this;cases this
    | cons q r' =>
      obtain⟨k,y⟩:=q
      obtain⟨a1,a2⟩:=List.pairwise_cons.1 h1
      obtain⟨b1,b2'⟩:=List.pairwise_cons.1 h2
      have hnk:n=k:=by
        rcases Nat.lt_trichotomy n k with hlt | he | hgt
        ·have:=h n
         rw[Qm,zO]at this
         ·cases this
         ·intro p hp
          rcases List.mem_cons.1 hp with rfl | hp
          ·exact hlt
          ·exact Nat.lt_trans hlt (b1 p hp)
        ·exact he
        ·have:=h k
         rw[Qm,zO]at this
         ·cases this
         ·intro p hp
          rcases List.mem_cons.1 hp with rfl | hp
          ·exact hgt
          ·exact Nat.lt_trans hgt (a1 p hp)
      subst hnk
      have hx:=h n
      rw[Qm,Qm]at hx
      injection hx with hx;subst hx
      rw[ih a2 b2' (fun j=> ?_)]
      by_cases hj:n=j
      ·subst hj;rw[zO a1,zO b1]
      ·have:=h j
       rw[GG,GG,if_neg hj,if_neg hj]at this;exact this
theorem put_comm (tmps:List A) {d e:Option Tmp} (x y:A) (h: ∀ t,d=some t->e≠some t):put (put tmps d x) e y=put (put tmps e y) d x:=by
  cases d with
  | none=>rfl
  | some d =>
    cases e with
    | none=>rfl
    | some e =>
      have:d≠e:=fun he=>h d rfl (by rw[he])
      exact List.set_comm _ _ this
theorem Al8 (tmps:List A) {d:Option Tmp} (x:A) {t:Nat} (h:d≠some t):(put tmps d x).getD t .undef=tmps.getD t .undef:=by
  cases d with
  | none=>rfl
  | some d =>
    have:d≠t:=fun e=>h (by rw[e])
    simp [put,List.getD_eq_getElem?_getD,List.getElem?_set,this]
theorem Xu {o:Oper} {t:Nat}:t∈Uk o↔o.dst=some t:=by
  unfold Uk
  cases o.dst with
  | none=>simp
  | some d=>simp [eq_comm]
theorem AiO {ops:List Oper} {o:Oper} {tmps:List A} {d:Option Tmp} {v:A} (h: ∀ t,d=some t->t∉slotsOf ops o) {x:Operand} (hx:x∈o.op.operands):EH (put tmps d v) x=EH tmps x:=by
  cases x with
  | tmp t =>
    refine Al8 tmps v fun hd=>h t hd ?_
    exact List.mem_append_left _ (List.mem_filterMap.2 ⟨.tmp t,by simpa using hx,rfl⟩)
  | _=>rfl
theorem AgG {ops:List Oper} {o:Oper} {tmps:List A} {d:Option Tmp} {v:A} (h: ∀ t,d=some t->t∉slotsOf ops o):guardOf ops (put tmps d v) o.guard=guardOf ops tmps o.guard:=by
  cases hg:o.guard with
  | none=>rfl
  | some p =>
    obtain⟨j,want⟩:=p
    unfold guardOf
    dsimp only
    cases hj:ops[j]? with
    | none=>rfl
    | some oj =>
      dsimp only
      cases hd:oj.dst with
      | none=>rfl
      | some t =>
        dsimp only
        rw[Al8 tmps v (t:=t) (fun hd'=>h t hd' (by
          unfold slotsOf
          refine List.mem_append_right _ ?_
          rw[hg];dsimp only;rw[hj];dsimp only;rw[hd];simp))]
theorem Abe {Dj objs':List (Nat×Obj)}: ∀(l:List Nat),(∀ n∈l,Dy Dj n=Dy objs' n)->fetch Dj l=fetch objs' l:=by
  intro l
  induction l with
  | nil=>intro _;rfl
  | cons n r ih =>
    intro h
    simp only[fetch]
    rw[h n List.mem_cons_self,ih (fun k hk=>h k (List.mem_cons_of_mem _ hk))]
theorem Aiz {op:Op} {vs:List A} (h:dE op vs=true):(∃ x,op= .move x)\/(∃ x,op= .assign x)\/ ∃ t x k q,op= .load t x/\vs=[.clo k q]:=by
  unfold dE at h
  split at h
  ·exact .inl ⟨_,rfl⟩
  ·exact .inr (.inl ⟨_,rfl⟩)
  ·exact .inr (.inr ⟨_,_,_,_,rfl,rfl⟩)
  ·cases h
theorem UW {α :Type} {x:Option α} {k: α ->Dl} (h: ∀ y,(k y).upd=[]):(Ec x k).upd=[]:=by
  cases x with
  | none=>rfl
  | some y=>exact h y
theorem Py (s:St) (q off:Nat):Dy (Eb s [.ptr q off]) q=Dy s.Dj q:=by
  show Dy (fetch s.Dj [q]++fetch s.Dj ((fetch s.Dj [q]).flatMap (fun p=>p.2.ids))) q=_
  cases h:Dy s.Dj q with
  | none =>
    have e:fetch s.Dj [q]=[]:=by simp [fetch,h]
    rw[e];rfl
  | some x =>
    have e:fetch s.Dj [q]=[(q,x)]:=by simp [fetch,h]
    rw[e]
    show Dy ((q,x)::_) q=_
    rw[GG,if_pos rfl]
theorem sV {o:Oper} {vs:List A} {q:Nat} (h:dF o.op vs=some q): ∃ off,vs=[.ptr q off]/\ ∀ f f',Fp f q=Fp f' q->opX C o vs f=opX C o vs f'/\(opX C o vs f).upd=[]:=by
  obtain⟨dst,op,ty,pos,after,guard⟩:=o
  dsimp only at h
  unfold dF at h
  split at h
  ·injection h with h;subst h
   refine⟨_,rfl,fun f f' hb=> ?_⟩
   unfold opX
   dsimp only[a1]
   unfold Qx
   dsimp only
   rw[hb]
   exact⟨rfl,by unfold Ec;split<;>rfl⟩
  ·injection h with h;subst h
   refine⟨_,rfl,fun f f' hb=> ?_⟩
   unfold opX
   dsimp only[a1]
   unfold NT WT
   dsimp only
   rw[hb]
   refine⟨rfl,?_⟩
   unfold Fq
   refine UW fun ti=>UW fun p=> ?_
   exact UW (fun _=>rfl)
  ·injection h with h;subst h
   refine⟨_,rfl,fun f f' hb=> ?_⟩
   unfold opX
   dsimp only[a1]
   unfold Us
   dsimp only
   rw[hb]
   refine⟨rfl,?_⟩
   unfold Fq
   exact UW fun ti=>UW fun _=>rfl
  ·cases h
theorem AgZ {ops:List Oper} {o:Oper} {s1 s2:St} (hE: ∀ x∈o.op.operands,EH s2.tmps x=EH s1.tmps x) (hG:guardOf ops s2.tmps o.guard=guardOf ops s1.tmps o.guard)
    (key:(opX C o (En o s1) (Eb s2 (En o s1))=opX C o (En o s1) (Eb s1 (En o s1))/\(∀ f,(opX C o (En o s1) f).upd=[])/\Fh o s2 (En o s1)=Fh o s1 (En o s1))\/(Eb s2 (En o s1)=Eb s1 (En o s1)/\Fh o s2 (En o s1)=Fh o s1 (En o s1))) (h1: ∀ n∈(Ew C ops o s1).new.map (·.1),s1.fresh n=true) (h2: ∀ n∈(Ew C ops o s1).new.map (·.1),s2.fresh n=true) :
    Ew C ops o s2=Ew C ops o s1/\Fh o s2 (En o s2)=Fh o s1 (En o s1)/\En o s2=En o s1:=by
  have hmap:o.op.operands.toList.map (EH s2.tmps)=o.op.operands.toList.map (EH s1.tmps):=List.map_congr_left fun x hx=>hE x (by simpa using hx)
  have hvs:En o s2=En o s1:=by unfold En;rw[hmap]
  have hop:opX C o (En o s1) (Eb s2 (En o s1))=opX C o (En o s1) (Eb s1 (En o s1)):=by
    rcases key with h | h
    ·exact h.1
    ·rw[h.1]
  refine⟨?_,by rw[hvs];rcases key with h | h;exact h.2.2;exact h.2,hvs⟩
  have hpl: ∀ pre,(∀ n∈(KP C o s1 pre).new.map (·.1),s1.fresh n=true)->(∀ n∈(KP C o s1 pre).new.map (·.1),s2.fresh n=true)->KP C o s2 pre=KP C o s1 pre:=by
    intro pre h1 h2
    unfold KP at h1 h2 ⊢
    rw[hmap]
    dsimp only at h1 h2 ⊢
    rw[show opX C o (EJ o.op (o.op.operands.toList.map (EH s1.tmps))).2 (Eb s2 (EJ o.op (o.op.operands.toList.map (EH s1.tmps))).2)=opX C o (EJ o.op (o.op.operands.toList.map (EH s1.tmps))).2 (Eb s1 (EJ o.op (o.op.operands.toList.map (EH s1.tmps))).2)from hop]
    generalize opX C o (EJ o.op (o.op.operands.toList.map (EH s1.tmps))).2 (Eb s1 (EJ o.op (o.op.operands.toList.map (EH s1.tmps))).2)= δ at *
    have a1: δ.new.all (fun p=>s1.fresh p.1)=true:=List.all_eq_true.2 fun p hp=>h1 p.1 (List.mem_map.2 ⟨p,hp,rfl⟩)
    have a2: δ.new.all (fun p=>s2.fresh p.1)=true:=List.all_eq_true.2 fun p hp=>h2 p.1 (List.mem_map.2 ⟨p,hp,rfl⟩)
    rw[a1,a2]
  unfold Ew at h1 h2 ⊢
  rw[hG,hmap]
  have hfa':opX C o (EJ o.op (o.op.operands.toList.map (EH s1.tmps))).2 (Eb s2 (EJ o.op (o.op.operands.toList.map (EH s1.tmps))).2)=opX C o (EJ o.op (o.op.operands.toList.map (EH s1.tmps))).2 (Eb s1 (EJ o.op (o.op.operands.toList.map (EH s1.tmps))).2):=hop
  cases hg:guardOf ops s1.tmps o.guard with
  | none=>rfl
  | some r =>
    cases r with
    | some g =>
      rw[hg]at h1 h2
      dsimp only at h1 h2 ⊢
      cases hde:Amc C o with
      | some b =>
        rw[hde]at h1 h2
        cases b with
        | true=>exact hpl _ h1 h2
        | false=>rfl
      | none =>
      dsimp only
      rcases key with h | h
      ·have hu:=h.2.1 (Eb s1 (En o s1))
       rw[hfa']
       have hu':(opX C o (EJ o.op (o.op.operands.toList.map (EH s1.tmps))).2 (Eb s1 (EJ o.op (o.op.operands.toList.map (EH s1.tmps))).2)).upd=[]:=hu
       simp only[hu',List.map_nil]
      ·have h1':Eb s2 (EJ o.op (o.op.operands.toList.map (EH s1.tmps))).2=Eb s1 (EJ o.op (o.op.operands.toList.map (EH s1.tmps))).2:=h.1
       rw[h1']
    | none =>
      rw[hg]at h1 h2
      exact hpl _ h1 h2
theorem Agz {o:Oper} {s1 s2:St} (hF: ∀ n∈Fh o s1 (En o s1),Dy s2.Dj n=Dy s1.Dj n) :
    (opX C o (En o s1) (Eb s2 (En o s1))=opX C o (En o s1) (Eb s1 (En o s1))/\(∀ f,(opX C o (En o s1) f).upd=[])/\Fh o s2 (En o s1)=Fh o s1 (En o s1))\/(Eb s2 (En o s1)=Eb s1 (En o s1)/\Fh o s2 (En o s1)=Fh o s1 (En o s1)):=by
  unfold Fh at hF ⊢
  cases hm:dE o.op (En o s1)with
  | true =>
    have hu: ∀(v:List A),(a1 (fun a=>.v a) v).upd=[]:=fun v=>by
      cases v with
      | nil=>rfl
      | cons x r=>cases r<;>rfl
    rcases Aiz hm with ⟨x,e⟩ | ⟨x,e⟩ | ⟨t,x,k,q,e,ev⟩
    ·exact .inl ⟨by unfold opX;rw[e],fun f=>by unfold opX;rw[e];exact hu _,rfl⟩
    ·exact .inl ⟨by unfold opX;rw[e],fun f=>by unfold opX;rw[e];exact hu _,rfl⟩
    ·have hl: ∀ f,(Us C f t (.clo k q)).upd=[]:=fun f=>by
       unfold Us Fq Ec
       cases C.T t<;>rfl
     exact .inl ⟨by unfold opX;rw[e,ev];rfl,fun f=>by unfold opX;rw[e,ev];exact hl f,rfl⟩
  | false =>
    rw[hm]at hF
    cases h1':dF o.op (En o s1)with
    | some q =>
      rw[h1']at hF
      have hq:Dy s2.Dj q=Dy s1.Dj q:=hF q (List.mem_singleton.2 rfl)
      obtain⟨off,ev,hO⟩:=sV (C:=C) h1'
      refine .inl ⟨(hO _ _ ?_).1,fun f=>(hO f f rfl).2,rfl⟩
      rw[ev]
      unfold Fp
      rw[Py,Py,hq]
    | none =>
    rw[h1']at hF
    have e1:fetch s2.Dj ((En o s1).flatMap A.ids)=fetch s1.Dj ((En o s1).flatMap A.ids):=Abe _ (fun n hn=>hF n (List.mem_append_left _ hn))
    refine .inr ⟨?_,by show(_++_:List Nat)=_;rw[e1];rfl⟩
    unfold Eb
    dsimp only
    rw[e1,Abe _ (fun n hn=>hF n (List.mem_append_right _ hn))]
theorem Ani {ops:List Oper} {o:Oper} {s1 s2:St} (hE: ∀ x∈o.op.operands,EH s2.tmps x=EH s1.tmps x) (hG:guardOf ops s2.tmps o.guard=guardOf ops s1.tmps o.guard)
    (hF: ∀ n∈Fh o s1 (En o s1),Dy s2.Dj n=Dy s1.Dj n) (h1: ∀ n∈(Ew C ops o s1).new.map (·.1),s1.fresh n=true) (h2: ∀ n∈(Ew C ops o s1).new.map (·.1),s2.fresh n=true) :
    Ew C ops o s2=Ew C ops o s1/\Fh o s2 (En o s2)=Fh o s1 (En o s1)/\En o s2=En o s1:=by
  exact AgZ (C:=C) hE hG (Agz hF) h1 h2
theorem Ao1 {o:Oper} {vs:List A} {q off n:Nat} (h:oneOf C o.op vs=some (q,off,n)):dF o.op vs=some q/\ ∀ {f f':Fet} {cs cs':List A},Fp f q=some cs->Fp f' q=some cs'->cs'.length=cs.length->(∀ k,k<n->cs'.getD (off+k) .undef=cs.getD (off+k) .undef)->opX C o vs f'=opX C o vs f:=by
  obtain⟨dst,op,ty,pos,after,guard⟩:=o
  dsimp only at h
  unfold oneOf at h
  split at h
  ·injection h with h;injection h with h1 h2;subst h1
   refine⟨rfl,fun {f f' cs cs'} h1 h2 h3 h4=> ?_⟩
   unfold opX
   dsimp only[a1]
   unfold Qx
   dsimp only
   rw[h1,h2];rfl
  ·injection h with h;injection h with h1 h2;subst h1
   refine⟨rfl,fun {f f' cs cs'} h1 h2 h3 h4=> ?_⟩
   unfold opX
   dsimp only[a1]
   unfold NT WT
   dsimp only
   rw[h1,h2]
   unfold Ec
   dsimp only
   rw[h3]
  ·rename_i t _ o' off'
   cases ht:C.T t with
   | none=>rw[ht]at h;cases h
   | some ti =>
     rw[ht]at h
     dsimp only at h
     cases h0:Nat.blt 0 ti.cs.length with
     | false=>rw[h0]at h;cases h
     | true =>
     rw[h0]at h
     injection h with h;injection h with h1 h2;injection h2 with h2 h3'
     subst h1;subst h2;subst h3'
     have h0:0<ti.cs.length:=by simpa [Nat.blt_eq]using h0
     refine⟨rfl,fun {f f' cs cs'} h1 h2 h3 h4=> ?_⟩
     unfold opX
     dsimp only[a1]
     unfold Us Fq
     rw[ht]
     unfold Ec
     dsimp only
     rw[h1,h2]
     dsimp only
     rw[h3]
     congr 1
     unfold Aae
     cases ti.agg with
     | false =>
       have:=h4 0 h0
       simpa using this
     | true =>
       refine congrArg A.agg (List.ext_getElem? fun i=> ?_)
       rw[List.getElem?_take,List.getElem?_take]
       by_cases hi:i<ti.cs.length
       ·rw[if_pos hi,if_pos hi,List.getElem?_drop,List.getElem?_drop]
        have:=h4 i hi
        rw[List.getD_eq_getElem?_getD,List.getD_eq_getElem?_getD]at this
        by_cases hl:off'+i<cs.length
        ·rw[List.getElem?_eq_getElem hl,List.getElem?_eq_getElem (by omega)]at this ⊢
         exact congrArg some this
        ·rw[List.getElem?_eq_none (by omega),List.getElem?_eq_none (by omega)]
       ·rw[if_neg hi,if_neg hi]
  ·cases h
def I7 (fet:Fet) (δ :Dl):Prop:= ∀ e∈ δ.same,∃ cs,Fp fet e.1=some cs/\ ∀ p∈ δ.upd,p.1=e.1-> ∃ cs',p.2= .box cs'/\cs'.length=cs.length/\cs'.getD e.2 .undef=cs.getD e.2 .undef
theorem Am6 {fet:Fet} (x:A) (j:Nat) {δ :Dl} (h:I7 fet δ):I7 fet (P8 fet x j δ):=by
  unfold P8
  split
  ·rename_i q off
   cases hb:Fp fet q with
   | none=>exact h
   | some cs =>
     dsimp only
     cases hc:Nat.blt j cs.length&& δ.upd.all (fun p=> !(Nat.beq p.1 q)||Aeg cs.length p.2)with
     | false=>exact h
     | true =>
       rw[Bool.and_eq_true,Nat.blt_eq]at hc
       have hset: ∀ ds:List A,ds.length=cs.length-> ∀ i,(ds.set j (cs.getD j .undef)).getD i .undef=if j=i then cs.getD j .undef else ds.getD i .undef:=by
         intro ds hd i
         rw[List.getD_eq_getElem?_getD,List.getElem?_set]
         by_cases hij:j=i
         ·subst hij
          rw[if_pos rfl,if_pos rfl,if_pos (by omega)];rfl
         ·rw[if_neg hij,if_neg hij,<- List.getD_eq_getElem?_getD]
       have key: ∀ p0∈ δ.upd,Nat.beq p0.1 q=true-> ∃ ds,p0.2= .box ds/\ds.length=cs.length:=by
         intro p0 hp0 hq
         have h1:=List.all_eq_true.1 hc.2 p0 hp0
         rw[hq]at h1
         have h1:Aeg cs.length p0.2=true:=h1
         obtain⟨n,y⟩:=p0
         cases y with
         | box ds=>exact⟨ds,rfl,Nat.eq_of_beq_eq_true h1⟩
         | _=>cases h1
       intro e he
       rcases List.mem_cons.1 (show e∈(q,j):: δ.same from he)with rfl | he
       ·refine⟨cs,hb,fun p hp hpq=> ?_⟩
        obtain⟨p0,hp0,rfl⟩:=List.mem_map.1 (show p∈ δ.upd.map _ from hp)
        cases hq:Nat.beq p0.1 q with
        | false =>
          rw[hq]at hpq
          have hpq:p0.1=q:=hpq
          rw[hpq,Nat.beq_refl]at hq;cases hq
        | true =>
          obtain⟨ds,h2,h3⟩:=key p0 hp0 hq
          refine⟨ds.set j (cs.getD j .undef),by rw[show(bif true then(p0.1,Akd j (cs.getD j .undef) p0.2)else p0)=(p0.1,Akd j (cs.getD j .undef) p0.2)from rfl,h2];rfl,by rw[List.length_set,h3],?_⟩
          rw[hset ds h3,if_pos rfl]
       ·obtain⟨cs0,h4,h5⟩:=h e he
        refine⟨cs0,h4,fun p hp hpq=> ?_⟩
        obtain⟨p0,hp0,rfl⟩:=List.mem_map.1 (show p∈ δ.upd.map _ from hp)
        cases hq:Nat.beq p0.1 q with
        | false=>rw[hq]at hpq;exact h5 p0 hp0 hpq
        | true =>
          rw[hq]at hpq
          have hpq:p0.1=e.1:=hpq
          obtain⟨ds,h2,h3⟩:=key p0 hp0 hq
          obtain⟨cs',g1,g2,g3⟩:=h5 p0 hp0 hpq
          rw[h2]at g1;injection g1 with g1;subst g1
          have:cs0=cs:=by
            rw[<- hpq,Nat.eq_of_beq_eq_true hq,hb]at h4;injection h4 with h4;exact h4.symm
          subst this
          refine⟨ds.set j (cs0.getD j .undef),by rw[show(bif true then(p0.1,Akd j (cs0.getD j .undef) p0.2)else p0)=(p0.1,Akd j (cs0.getD j .undef) p0.2)from rfl,h2];rfl,by rw[List.length_set,h3],?_⟩
          rw[hset ds h3]
          by_cases hij:j=e.2
          ·rw[if_pos hij,hij]
          ·rw[if_neg hij];exact g3
  ·exact h
theorem Am8 {fet:Fet} (xs:List A): ∀(ks:List (Nat×Nat)) {δ :Dl},I7 fet δ ->I7 fet (keepD fet xs ks δ):=by
  intro ks
  induction ks with
  | nil=>intro δ h;exact h
  | cons k ks ih=>intro δ h;exact ih (Am6 _ _ h)
theorem I7.nil {fet:Fet} {δ :Dl} (h: δ.same=[]):I7 fet δ :=fun e he=>by rw[h]at he;cases he
theorem Aey {o:Oper} {s:St} (pre:List Bool):I7 (Eb s (En o s)) (KP C o s pre):=by
  cases hc:zY o.op with
  | false=>exact I7.nil (by unfold KP;rw[hc];rfl)
  | true =>
    have key:I7 (Eb s (En o s)) (opX C o (En o s) (Eb s (En o s))):=by
      generalize En o s=vs
      generalize Eb s vs=fet
      obtain⟨dst,op,ty,pos,after,guard⟩:=o
      dsimp only at hc
      unfold zY at hc
      split at hc
      ·cases vs with
       | nil=>exact I7.nil rfl
       | cons x xs =>
         rename_i f _ _
         show I7 fet (WY C fet (dst.getD 0) f xs)
         unfold WY
         cases C.G f with
         | none=>exact I7.nil rfl
         | some sg=>exact Am8 _ _ (I7.nil rfl)
      ·cases hc
    intro e he
    have he:e∈(bif zY o.op then(opX C o (En o s) (Eb s (En o s))).same else []):=he
    rw[hc]at he
    exact key e he
theorem Anh {ops:List Oper} {o:Oper} {s:St}:I7 (Eb s (En o s)) (Ew C ops o s):=by
  unfold Ew
  split
  ·exact Aey _
  ·split
   ·exact Aey _
   ·exact I7.nil rfl
   ·exact I7.nil rfl
  ·exact I7.nil rfl
end
end Go.Proofs.YtbnphelpndnnfabGreatDoor.Vm
namespace Go.Proofs.YtbnphelpndnnfabGreatDoor.Vm
open Classical
section
variable {P:Program} {C:Ctx} {V0:Nat->Value} {O0 O:Own} {w0 w:World} {m:Nat->Value} {st st':St} {a:Act}
structure Aiv (C:Ctx) (ops:List Oper) (x:EW) (st:St):Prop where
  step:Ew C ops x.o st=x.δ
  rd:Fh x.o st (En x.o st)=x.rd
  one:oneOf C x.o.op (En x.o st)=x.one
def sS (C:Ctx) (ops:List Oper):List EW->St->St->Prop
  | [],s,s'=>s=s'
  | x::r,s,s'=>Aiv C ops x s/\sS C ops r (apply s x.o x.δ) s'
theorem AmL: ∀(u:List Nat) {l:List (Nat×Obj)} {p:Nat×Obj},p∈Ed l u->p∈l:=by
  intro u
  induction u with
  | nil=>intro l p h;exact h
  | cons n r ih=>intro l p h;exact Acx (ih h)
theorem UQ {x:EW} {n:Nat} (h:st.fresh n=true) (h1:n∉x.says) (h2:n∉x.keys):(apply st x.o x.δ).fresh n=true:=by
  obtain⟨f1,f2,f3,f4⟩:=FP h
  unfold EW.says at h1
  simp only[List.mem_append,not_or]at h1
  have g1:has (apply st x.o x.δ).ids n=false:=by
    rw[<- Bool.not_eq_true]
    intro hh
    rcases List.mem_append.1 (Ik.1 hh)with hm | hm
    ·obtain⟨c,hc,hi⟩:=List.mem_flatMap.1 hm
     have hc:c∈put st.tmps x.o.dst x.δ.val:=hc
     have:c∈st.tmps\/c=x.δ.val:=by
       cases hd:x.o.dst with
       | none=>rw[hd]at hc;exact .inl hc
       | some d=>rw[hd]at hc;exact List.mem_or_eq_of_mem_set hc
     rcases this with hc | hc
     ·exact f1 (List.mem_append_left _ (List.mem_flatMap.2 ⟨c,hc,hi⟩))
     ·rw[hc]at hi;exact h1.1.1 hi
    ·obtain⟨p,hp,hi⟩:=List.mem_flatMap.1 hm
     rcases Xh x.δ.new (show p∈DC (Ed (DC st.Dj x.δ.upd) x.δ.del) x.δ.new from hp)with hp | hp
     ·exact h1.2 (List.mem_flatMap.2 ⟨p,hp,hi⟩)
     ·rcases Xh x.δ.upd (AmL _ hp)with hp | hp
      ·exact h1.1.2 (List.mem_flatMap.2 ⟨p,hp,hi⟩)
      ·exact f1 (List.mem_append_right _ (List.mem_flatMap.2 ⟨p,hp,hi⟩))
  have g2:Dy (apply st x.o x.δ).Dj n=none:=by rw[MX h2];exact f2
  unfold St.fresh
  rw[g1,g2,f4,OG]
  simp [f3]
theorem AmD {u:List (Nat×Obj)} {k:Nat} {x:Obj} (h:lastOf u k=some x):(k,x)∈u:=by
  induction u with
  | nil=>cases h
  | cons p r ih =>
    obtain⟨n,y⟩:=p
    simp only[lastOf]at h
    cases hr:lastOf r k with
    | some z=>rw[hr]at h;injection h with h;subst h;exact List.mem_cons_of_mem _ (ih hr)
    | none =>
      rw[hr]at h
      dsimp only at h
      by_cases hn:n=k
      ·rw[if_pos hn]at h;injection h with h;subst h;subst hn;exact List.mem_cons_self
      ·rw[if_neg hn]at h;cases h
theorem AoY {ops:List Oper} {x y:EW} (hx:Aiv C ops x st) (hy:Aiv C ops y (apply st x.o x.δ)) (h:calm x y=true) :
    (opX C x.o (En x.o st) (Eb (apply st y.o y.δ) (En x.o st))=opX C x.o (En x.o st) (Eb st (En x.o st))/\(∀ f,(opX C x.o (En x.o st) f).upd=[])/\Fh x.o (apply st y.o y.δ) (En x.o st)=Fh x.o st (En x.o st)) \/
    (Eb (apply st y.o y.δ) (En x.o st)=Eb st (En x.o st)/\Fh x.o (apply st y.o y.δ) (En x.o st)=Fh x.o st (En x.o st)):=by
  unfold calm at h
  cases ho:x.one with
  | none=>rw[ho]at h;cases h
  | some p =>
    obtain⟨q,off,n⟩:=p
    rw[ho]at h
    simp only[Bool.and_eq_true,Bool.not_eq_true']at h
    obtain⟨h1,h2,h3,h4,h5⟩:=h
    have hone:=hx.one
    rw[ho]at hone
    obtain⟨k1,k2⟩:=Ao1 hone
    obtain⟨off',ev,hO⟩:=sV (C:=C) k1
    have hS:=Anh (C:=C) (ops:=ops) (o:=y.o) (s:=apply st x.o x.δ)
    rw[hy.step]at hS
    have hxk:Dy (apply st x.o x.δ).Dj q=Dy st.Dj q:=MX fun hm=>by
      have:=h1.symm.trans (Ik.2 hm)
      cases this
    have hbox: ∀ e∈y.δ.same,e.1=q-> ∃ cs,Dy st.Dj q=some (.box cs)/\ ∀ p∈y.δ.upd,p.1=q-> ∃ cs',p.2= .box cs'/\cs'.length=cs.length/\cs'.getD e.2 .undef=cs.getD e.2 .undef:=by
      intro e he heq
      obtain⟨cs,g1,g2⟩:=hS e he
      rw[heq]at g1 g2
      exact⟨cs,by rw[<- hxk];exact aW _ _ _ _ (Ff g1),g2⟩
    obtain⟨e0,he0,heq0⟩:=List.any_eq_true.1 h4
    obtain⟨cs,g1,g2⟩:=hbox e0 he0 (Nat.eq_of_beq_eq_true heq0)
    have hcell: ∀ k,k<n-> ∀ p∈y.δ.upd,p.1=q-> ∀ cs',p.2= .box cs'->cs'.getD (off+k) .undef=cs.getD (off+k) .undef:=by
      intro k hk p hp hpq cs' hcs
      have:=List.all_eq_true.1 h5 k (List.mem_range.2 hk)
      obtain⟨e,he,heq⟩:=List.any_eq_true.1 this
      rw[Bool.and_eq_true]at heq
      obtain⟨cs2,g3,g4⟩:=hbox e he (Nat.eq_of_beq_eq_true heq.1)
      rw[g1]at g3;injection g3 with g3;injection g3 with g3;subst g3
      obtain⟨cs3,g5,_,g6⟩:=g4 p hp hpq
      rw[hcs]at g5;injection g5 with g5;subst g5
      rw[Nat.eq_of_beq_eq_true heq.2]at g6;exact g6
    have hnd:lastOf y.δ.new q=none:=bG fun hm=>by
      have:=h3.symm.trans (Ik.2 hm)
      cases this
    have hdl:q∉y.δ.del:=fun hm=>by rw[Ik.2 hm]at h2;cases h2
    have hnew: ∃ cs',Dy (apply st y.o y.δ).Dj q=some (.box cs')/\cs'.length=cs.length/\ ∀ k,k<n->cs'.getD (off+k) .undef=cs.getD (off+k) .undef:=by
      rw[KE,hnd]
      dsimp only
      rw[if_neg hdl]
      cases hl:lastOf y.δ.upd q with
      | none=>exact⟨cs,g1,rfl,fun _ _=>rfl⟩
      | some z =>
        have hm:=AmD hl
        obtain⟨cs',g3,g4,_⟩:=g2 _ hm rfl
        dsimp only at g3
        subst g3
        exact⟨cs',rfl,g4,fun k hk=>hcell k hk _ hm rfl _ rfl⟩
    obtain⟨cs',g3,g4,g5⟩:=hnew
    have hask: ∀ s,Fh x.o s (En x.o st)=bif dE x.o.op (En x.o st)then []else [q]:=by
      intro s;unfold Fh;rw[k1]
    refine .inl ⟨k2 ?_ ?_ g4 g5,fun f=>(hO f f rfl).2,by rw[hask,hask]⟩
    ·rw[ev];unfold Fp;rw[Py,g1]
    ·rw[ev];unfold Fp;rw[Py,g3]
theorem swap {ops:List Oper} {x y:EW} {r:List EW} (hi:indep ops x y=true) (hxF: ∀ n∈x.news,st.fresh n=true) (hyF: ∀ n∈y.news,st.fresh n=true) (h1:MI y.news x.says=true) (h2:MI y.news x.keys=true)
    (hs:Srt st.Dj) (h:sS C ops (x::y::r) st st'):sS C ops (y::x::r) st st':=by
  unfold indep at hi
  simp only[Bool.and_eq_true]at hi
  obtain⟨⟨⟨⟨⟨⟨i1,i2⟩,i3⟩,i4⟩,i5⟩,i6⟩,i7⟩:=hi
  obtain⟨hx,hy,hr⟩:=h
  have hkx: ∀ n,n∈x.keys->n∉y.keys:=FB i6
  have hnx: ∀ n∈x.news,n∈x.keys:=fun n hn=>List.mem_append_right _ hn
  have cy:=Ani (C:=C) (ops:=ops) (o:=y.o) (s1:=apply st x.o x.δ) (s2:=st)
    (fun z hz=>(AiO (fun t ht=>FB i2 t (Xu.2 ht)) hz).symm) (AgG (fun t ht=>FB i2 t (Xu.2 ht))).symm
    (fun n hn=>(MX (fun hk=>FB i4 n hk (by rw[<- hy.rd];exact hn))).symm)
    (fun n hn=>by rw[hy.step]at hn;exact UQ (hyF n hn) (FB h1 n hn) (FB h2 n hn))
    (fun n hn=>by rw[hy.step]at hn;exact hyF n hn)
  have cx:=AgZ (C:=C) (ops:=ops) (o:=x.o) (s1:=st) (s2:=apply st y.o y.δ)
    (fun z hz=>AiO (fun t ht=>FB i3 t (Xu.2 ht)) hz) (AgG (fun t ht=>FB i3 t (Xu.2 ht)))
    (by
      rcases Bool.or_eq_true_iff.1 i5 with i5 | i5
      ·exact Agz (fun n hn=>MX (fun hk=>FB i5 n hk (by rw[<- hx.rd];exact hn)))
      ·exact AoY hx hy i5)
    (fun n hn=>by rw[hx.step]at hn;exact hxF n hn)
    (fun n hn=>by rw[hx.step]at hn;exact UQ (hxF n hn) (FB i7 n hn) (hkx n (hnx n hn)))
  have hst:apply (apply st y.o y.δ) x.o x.δ =apply (apply st x.o x.δ) y.o y.δ :=by
    have e1:(apply (apply st y.o y.δ) x.o x.δ).tmps=(apply (apply st x.o x.δ) y.o y.δ).tmps:=(put_comm st.tmps x.δ.val y.δ.val (fun t ht he=>FB i1 t (Xu.2 ht) (Xu.2 he))).symm
    have e2:(apply (apply st y.o y.δ) x.o x.δ).Dj=(apply (apply st x.o x.δ) y.o y.δ).Dj:=by
      refine Srt.ext ((hs.apply _ _).apply _ _) ((hs.apply _ _).apply _ _) fun k=> ?_
      by_cases hk:k∈x.keys
      ·have hky:=hkx k hk
       rw[MX (o:=y.o) (δ :=y.δ) hky,KE (apply st y.o y.δ),MX (o:=y.o) (δ :=y.δ) hky,<- KE st]
      ·rw[MX (o:=x.o) (δ :=x.δ) hk,KE (apply st x.o x.δ),MX (o:=x.o) (δ :=x.δ) hk,<- KE st]
    generalize apply (apply st y.o y.δ) x.o x.δ =s at *
    generalize apply (apply st x.o x.δ) y.o y.δ =s' at *
    cases s;cases s'
    dsimp only at e1 e2
    rw[e1,e2]
  refine⟨⟨by rw[cy.1,hy.step],by rw[cy.2.1,hy.rd],by rw[cy.2.2,hy.one]⟩,⟨by rw[cx.1,hx.step],by rw[cx.2.1,hx.rd],by rw[cx.2.2,hx.one]⟩,?_⟩
  rw[hst];exact hr
structure Pre (R:List EW) (st:St):Prop where
  srt:Srt st.Dj
  fresh: ∀ z∈R,∀ n∈z.news,st.fresh n=true
  pairs:R.Pairwise (fun y z=>MI z.news y.says=true/\MI z.news y.keys=true)
theorem Pre.step {y:EW} {R:List EW} (h:Pre (y::R) st):Pre R (apply st y.o y.δ):=by
  obtain⟨h1,h2⟩:=List.pairwise_cons.1 h.pairs
  exact⟨h.srt.apply _ _,fun z hz n hn=>UQ (h.fresh z (List.mem_cons_of_mem _ hz) n hn) (FB (h1 z hz).1 n hn) (FB (h1 z hz).2 n hn),h2⟩
theorem front {ops:List Oper} {x:EW} {L2:List EW}: ∀(L1:List EW) {st:St},Pre (L1++x::L2) st->(∀ y∈L1,indep ops y x=true)->sS C ops (L1++x::L2) st st'->sS C ops (x::(L1++L2)) st st':=by
  intro L1
  induction L1 with
  | nil=>intro st _ _ h;exact h
  | cons y L1 ih =>
    intro st hP hi h
    have h1:=ih (st:=apply st y.o y.δ) (hP.step) (fun z hz=>hi z (List.mem_cons_of_mem _ hz)) h.2
    have hx:x∈L1++x::L2:=List.mem_append_right _ List.mem_cons_self
    obtain⟨p1,_⟩:=List.pairwise_cons.1 hP.pairs
    exact swap (hi y List.mem_cons_self) (hP.fresh y List.mem_cons_self) (hP.fresh x (List.mem_cons_of_mem _ hx)) (p1 x hx).1 (p1 x hx).2 hP.srt ⟨h.1,h1⟩
theorem An3 {md:Region.Mode} {e:Edge} (h:Region.binds .any e=true):Region.binds md e=true:=by
  unfold Region.binds at h ⊢
  cases hg:e.ground with
  | textOnly r=>rw[hg]at h;cases h
  | gcOnly r=>rw[hg]at h;cases h
  | _=>rfl
theorem Uy {ops:List Oper} {i:Nat} {x y:EW} (h:UX ops i x y=true):MI y.news x.says=true/\MI y.news x.keys=true/\(i∈y.anc\/indep ops x y=true):=by
  unfold UX at h
  simp only[Bool.and_eq_true,Bool.or_eq_true]at h
  exact⟨h.1.1,h.1.2,h.2.imp Ik.1 id⟩
theorem Ajc {l:Array Bool} {i:Nat} (h:i<l.size) (b c:Bool):l.getD i b=l.getD i c:=by
  simp [Array.getD_eq_getD_getElem?,h]
theorem Amq {α :Type} (f: α ->Nat): ∀(l:List α),l≠ []-> ∃ x∈l,∀ y∈l,f x<=f y:=by
  intro l
  induction l with
  | nil=>intro h;exact absurd rfl h
  | cons a r ih =>
    intro _
    by_cases hr:r=[]
    ·exact⟨a,List.mem_cons_self,fun y hy=>by rw[hr]at hy;simp at hy;rw[hy];exact Nat.le_refl _⟩
    ·obtain⟨x,hx,hm⟩:=ih hr
     by_cases h:f a<=f x
     ·exact⟨a,List.mem_cons_self,fun y hy=>by
        rcases List.mem_cons.1 hy with rfl | hy
        ·exact Nat.le_refl _
        ·exact Nat.le_trans h (hm y hy)⟩
     ·exact⟨x,List.mem_cons_of_mem _ hx,fun y hy=>by
        rcases List.mem_cons.1 hy with rfl | hy
        ·omega
        ·exact hm y hy⟩
theorem Apc {ρ :Type} (hC:GV P C) {ops:Array Oper} {md:Region.Mode} {Q:Exit->Act->World->Prop} {v: ρ} {K:St->Option ρ} (hQ: ∀ O' m' st' a' w',Sim V0 O0 w0 O' m' st' a' w'->K st'=some v->Q .normal a' w')
    {ANC:List (List Nat)} (hanc: ∀(j:Nat) (o:Oper),ops[j]? =some o-> ∀ i∈ANC.getD j [],∃ e∈QU o,i=e\/i∈ANC.getD e []) {rk:Nat->Nat} (hback: ∀(j:Nat) (o:Oper),ops[j]? =some o-> ∀ e∈o.after,Region.binds md e=true->e.on<ops.size/\rk e.on<rk j) :
    ∀(fuel:Nat) (R:List (Nat×EW)) (listed:Array Bool) {O:Own} {m:Nat->Value} {st:St} {a:Act} {w:World},R.length=fuel->R.Pairwise (fun p q=>p.1<q.1) ->
     (∀ p∈R,ops[p.1]? =some p.2.o/\D7 p.2.δ.ok/\p.2.anc=ANC.getD p.1 [])->listed.size=ops.size->(∀ i,i<ops.size->(listed.getD i true=false↔i∈R.map (·.1))) ->
     (∀ e,listed.getD e false=true-> ∀ i∈ANC.getD e [],listed.getD i false=true)->R.Pairwise (fun p q=>UX ops.toList p.1 p.2 q.2=true)->(∀ p∈R,∀ n∈p.2.news,st.fresh n=true)->Srt st.Dj ->
     sS C ops.toList (R.map (·.2)) st st'->K st'=some v->Sim V0 O0 w0 O m st a w->wpAny P md ops Q fuel listed a w:=by
  intro fuel
  induction fuel with
  | zero =>
    intro R listed O m st a w hlen _ _ hsz hl _ _ _ _ hruns hK hS
    have hR:R=[]:=List.length_eq_zero_iff.1 hlen
    subst hR
    refine⟨?_,?_⟩
    ·rw[List.eq_nil_iff_forall_not_mem]
     intro i hi
     obtain⟨h1,o,h2,_⟩:=mem_ready.1 hi
     have hlt:=(Array.getElem?_eq_some_iff.1 h2).1
     have:=(hl i hlt).1 h1
     simp at this
    ·have:st=st':=hruns
     subst this
     exact hQ _ _ _ _ _ hS hK
  | succ fuel ih =>
    intro R listed O m st a w hlen hord hops hsz hl hcl hpr hfr hsrt hruns hK hS
    have hin: ∀ p∈R,p.1<ops.size:=fun p hp=>(Array.getElem?_eq_some_iff.1 (hops p hp).1).1
    refine⟨fun hnil=> ?_,fun i hi=> ?_⟩
    ·exfalso
     obtain⟨p,hpR,hmin⟩:=Amq (fun q:Nat×EW=>rk q.1) R (by intro h;rw[h]at hlen;simp at hlen)
     have hp:=hin p hpR
     have:p.1∈Region.ready md ops listed:=by
       refine mem_ready.2 ⟨(hl p.1 hp).2 (List.mem_map.2 ⟨p,hpR,rfl⟩),p.2.o,(hops p hpR).1,fun e he hb=> ?_⟩
       obtain⟨hsize,hlt⟩:=hback _ _ (hops p hpR).1 e he hb
       have hno:e.on∉R.map (·.1):=by
         intro hm
         obtain⟨q,hq,hqe⟩:=List.mem_map.1 hm
         have:=hmin q hq
         rw[hqe]at this
         omega
       have:listed.getD e.on true≠false:=fun h=>hno ((hl e.on hsize).1 h)
       rw[Ajc (by rw[hsz];exact hsize) false true]
       simpa using this
     rw[hnil]at this;cases this
    ·obtain⟨hi1,oi,hi2,hi3⟩:=mem_ready.1 hi
     have hilt:=(Array.getElem?_eq_some_iff.1 hi2).1
     obtain⟨p,hp,rfl⟩:=List.mem_map.1 ((hl i hilt).1 hi1)
     obtain⟨L1,L2,rfl⟩:=List.append_of_mem hp
     obtain⟨i,x⟩:=p
     dsimp only at hi hi1 hi2 hi3 hilt ⊢
     obtain⟨hx1,hx2,hx3⟩:=hops (i,x) hp
     dsimp only at hx1 hx2 hx3
     have hancl: ∀ j∈ANC.getD i [],listed.getD j false=true:=by
       intro j hj
       obtain⟨e,he,hje⟩:=hanc i _ hx1 j hj
       have hel:listed.getD e false=true:=by
         unfold QU at he
         obtain⟨ed,hed,hb⟩:=List.mem_filterMap.1 he
         rw[hi2]at hx1;injection hx1 with hx1;subst hx1
         cases hbb:Region.binds .any ed with
         | false=>rw[hbb]at hb;cases hb
         | true =>
           rw[hbb]at hb
           injection hb with hb
           rw[<- hb];exact hi3 ed (by simpa using hed) (An3 hbb)
       rcases hje with rfl | hje
       ·exact hel
       ·exact hcl e hel j hje
     have hord':=List.pairwise_append.1 hord
     have hpr':=List.pairwise_append.1 hpr
     have hind: ∀ q∈L1,UX ops.toList q.1 q.2 x=true/\indep ops.toList q.2 x=true:=by
       intro q hq
       have hpq:=hpr'.2.2 q hq (i,x) List.mem_cons_self
       dsimp only at hpq
       refine⟨hpq,(Uy hpq).2.2.resolve_left fun hm=> ?_⟩
       rw[hx3]at hm
       have h1:=hancl _ hm
       have hqR:q∈L1++(i,x)::L2:=List.mem_append_left _ hq
       have hqlt:=hin q hqR
       have h2:=(hl q.1 hqlt).2 (List.mem_map.2 ⟨q,hqR,rfl⟩)
       rw[Ajc (by rw[hsz];exact hqlt) true false,h1]at h2
       cases h2
     have hPre:Pre ((L1++(i,x)::L2).map (·.2)) st:=by
       refine⟨hsrt,fun z hz n hn=> ?_,?_⟩
       ·obtain⟨q,hq,rfl⟩:=List.mem_map.1 hz
        exact hfr q hq n hn
       ·rw[List.pairwise_map]
        exact hpr.imp fun h=>⟨(Uy h).1,(Uy h).2.1⟩
     have hfront:sS C ops.toList (x::(L1.map (·.2)++L2.map (·.2))) st st':=by
       refine front (L1.map (·.2)) (by simpa using hPre) (fun y hy=> ?_) (by simpa using hruns)
       obtain⟨q,hq,rfl⟩:=List.mem_map.1 hy
       exact(hind q hq).2
     obtain⟨hstep,hrest⟩:=hfront
     have hsub:List.Sublist (L1++L2) (L1++(i,x)::L2):=List.Sublist.append_left (List.sublist_cons_self _ _) _
     have hnext: ∀ O' m' a' w',Sim V0 O0 w0 O' m' (apply st x.o (Ew C ops.toList x.o st)) a' w'->wpAny P md ops Q fuel (listed.setIfInBounds i true) a' w':=by
       intro O' m' a' w' hS'
       rw[hstep.step]at hS'
       refine ih (L1++L2) _ (by simp at hlen ⊢;omega) (hord.sublist hsub) (fun q hq=>hops q (hsub.subset hq)) (by simpa using hsz) (fun j hj=> ?_) (fun e he j hj=> ?_) (hpr.sublist hsub) (fun q hq n hn=> ?_) (hsrt.apply _ _) (by simpa using hrest) hK hS'
       ·by_cases hji:i=j
        ·subst hji
         have h1:(listed.setIfInBounds i true).getD i true=true:=by simp [Array.getD_eq_getD_getElem?,hsz,hj]
         rw[h1]
         refine⟨fun h=>(by cases h),fun h=> ?_⟩
         obtain⟨q,hq,hqi⟩:=List.mem_map.1 h
         rcases List.mem_append.1 hq with hq | hq
         ·have:=hord'.2.2 q hq (i,x) List.mem_cons_self
          dsimp only at this;omega
         ·have:=(List.pairwise_cons.1 hord'.2.1).1 q hq
          dsimp only at this;omega
        ·rw[getD_set_ne true hji,hl j hj]
         simp only[List.map_append,List.map_cons,List.mem_append,List.mem_cons]
         constructor
         ·rintro (h | h | h)
          ·exact .inl h
          ·exact absurd h.symm hji
          ·exact .inr h
         ·rintro (h | h)
          ·exact .inl h
          ·exact .inr (.inr h)
       ·by_cases hei:i=e
        ·subst hei;exact getD_set_true (hancl j hj)
        ·rw[getD_set_ne false hei]at he
         exact getD_set_true (hcl e he j hj)
       ·have hq':=hsub.subset hq
        have hf:=hfr q hq' n hn
        rcases List.mem_append.1 hq with hq | hq
        ·have hi':=(hind q hq).2
         unfold indep at hi'
         simp only[Bool.and_eq_true]at hi'
         exact UQ hf (FB hi'.2 n hn) (FB hi'.1.2 n (List.mem_append_right _ hn))
        ·have hpq:=Uy ((List.pairwise_cons.1 hpr'.2.1).1 q hq)
         exact UQ hf (FB hpq.1 n hn) (FB hpq.2.1 n hn)
     have hw:=AeK hC hS (ops:=ops) (o:=x.o) (by rw[hstep.step];exact hx2) (wpAny P md ops Q fuel (listed.setIfInBounds i true)) Q hnext
     unfold wpOp
     rw[hx1]
     dsimp only
     split
     ·rename_i hwt;rw[if_pos hwt]at hw;exact .inl hw
     ·rename_i hwt;rw[if_neg hwt]at hw;exact hw
end
end Go.Proofs.YtbnphelpndnnfabGreatDoor.Vm
namespace Go.Proofs.YtbnphelpndnnfabGreatDoor.Vm
open Classical
section
variable {P:Program} {C:Ctx} {V0:Nat->Value} {O0 O:Own} {w0 w:World} {m:Nat->Value} {st st':St} {a:Act}
def enum:Nat->List EW->List (Nat×EW)
  | _,[]=>[]
  | i,x::r=>(i,x)::enum (i+1) r
theorem Ak5: ∀(l:List EW) (i:Nat),(enum i l).length=l.length:=by
  intro l
  induction l with
  | nil=>intro i;rfl
  | cons x r ih=>intro i;simp [enum,ih]
theorem Aph: ∀(l:List EW) (i:Nat),(enum i l).map (·.2)=l:=by
  intro l
  induction l with
  | nil=>intro i;rfl
  | cons x r ih=>intro i;simp [enum,ih]
theorem kQ: ∀(l:List EW) (i:Nat) (p:Nat×EW),p∈enum i l-> ∃ k,p.1=i+k/\l[k]? =some p.2:=by
  intro l
  induction l with
  | nil=>intro i p h;cases h
  | cons x r ih =>
    intro i p h
    rcases List.mem_cons.1 h with rfl | h
    ·exact⟨0,rfl,rfl⟩
    ·obtain⟨k,h1,h2⟩:=ih (i+1) p h
     exact⟨k+1,by omega,by simpa using h2⟩
theorem Apf: ∀(l:List EW) (i j:Nat),j∈(enum i l).map (·.1)↔i<=j/\j<i+l.length:=by
  intro l
  induction l with
  | nil=>intro i j;simp [enum]
  | cons x r ih=>intro i j;simp only[enum,List.map_cons,List.mem_cons,ih,List.length_cons];omega
theorem Apg: ∀(l:List EW) (i:Nat),(enum i l).Pairwise (fun p q=>p.1<q.1):=by
  intro l
  induction l with
  | nil=>intro i;exact List.Pairwise.nil
  | cons x r ih =>
    intro i
    refine List.Pairwise.cons (fun q hq=> ?_) (ih (i+1))
    obtain⟨k,h1,_⟩:=kQ _ _ _ hq
    show i<q.1
    omega
theorem Amo {ops:List Oper}: ∀(l:List EW) (i:Nat),Xw ops i l=true->(enum i l).Pairwise (fun p q=>UX ops p.1 p.2 q.2=true):=by
  intro l
  induction l with
  | nil=>intro i _;exact List.Pairwise.nil
  | cons x r ih =>
    intro i h
    simp only[Xw,Bool.and_eq_true]at h
    refine List.Pairwise.cons (fun q hq=> ?_) (ih (i+1) h.2)
    obtain⟨k,_,h2⟩:=kQ _ _ _ hq
    exact List.all_eq_true.1 h.1 _ (List.mem_of_getElem? h2)
theorem AnP {o:Oper} {e:Nat} (h:e∈QU o): ∃ ed∈o.after,ed.on=e/\Region.binds .any ed=true:=by
  unfold QU at h
  obtain⟨ed,hed,hb⟩:=List.mem_filterMap.1 h
  cases hbb:Region.binds .any ed with
  | false=>rw[hbb]at hb;cases hb
  | true=>rw[hbb]at hb;injection hb with hb;exact⟨ed,by simpa using hed,hb,hbb⟩
theorem Ahf: ∀(l:List Oper) (i:Nat),backward i l=true-> ∀(k:Nat) (o:Oper),l[k]? =some o-> ∀ e∈o.after,e.on<i+k:=by
  intro l
  induction l with
  | nil=>intro i _ k o h;simp at h
  | cons x r ih =>
    intro i h k o hk e he
    simp only[backward,Bool.and_eq_true]at h
    cases k with
    | zero =>
      simp at hk;subst hk
      have:=List.all_eq_true.1 h.1 e (by simpa using he)
      rw[Nat.blt_eq]at this;exact this
    | succ k =>
      have:=ih (i+1) h.2 k o (by simpa using hk) e he
      omega
theorem Afa: ∀(l:List Oper) (i:Nat),Na i l=true-> ∀(k:Nat) (o:Oper),l[k]? =some o-> ∀ e∈o.after,Region.binds .any e=true->e.on<i+k:=by
  intro l
  induction l with
  | nil=>intro i _ k o h;simp at h
  | cons x r ih =>
    intro i h k o hk e he hb
    simp only[Na,Bool.and_eq_true]at h
    cases k with
    | zero =>
      simp at hk;subst hk
      have:=List.all_eq_true.1 h.1 e (by simpa using he)
      rw[hb]at this
      have:Nat.blt e.on i=true:=by simpa using this
      rw[Nat.blt_eq]at this;exact this
    | succ k =>
      have:=ih (i+1) h.2 k o (by simpa using hk) e he hb
      omega
theorem Ah6 {md:Region.Mode} {n:Nat} {rk:List Nat}: ∀(l:List Oper) (i:Nat),lZ md n rk i l=true-> ∀(k:Nat) (o:Oper),l[k]? =some o-> ∀ e∈o.after,Region.binds md e=true->e.on<n/\rk.getD e.on 0<rk.getD (i+k) 0:=by
  intro l
  induction l with
  | nil=>intro i _ k o h;simp at h
  | cons x r ih =>
    intro i h k o hk e he hb
    simp only[lZ,Bool.and_eq_true]at h
    cases k with
    | zero =>
      simp at hk;subst hk
      have:=List.all_eq_true.1 h.1 e (by simpa using he)
      rw[hb]at this
      have:(Nat.blt e.on n&&Nat.blt (rk.getD e.on 0) (rk.getD i 0))=true:=by simpa using this
      rw[Bool.and_eq_true,Nat.blt_eq,Nat.blt_eq]at this
      exact this
    | succ k =>
      have:=ih (i+1) h.2 k o (by simpa using hk) e he hb
      rw[show i+(k+1)=i+1+k from by omega];exact this
theorem AjF {ops:Array Oper} (h:ordered ops.toList=true) (md:Region.Mode): ∃ rk:Nat->Nat,∀(j:Nat) (o:Oper),ops[j]? =some o-> ∀ e∈o.after,Region.binds md e=true->e.on<ops.size/\rk e.on<rk j:=by
  unfold ordered at h
  rw[Bool.and_eq_true,Bool.or_eq_true]at h
  rcases h.2 with h | h
  ·refine⟨id,fun j o hj e he _=> ?_⟩
   have h1:=Ahf _ _ h j o (by simpa using hj) e he
   have h2:=(Array.getElem?_eq_some_iff.1 hj).1
   exact⟨by omega,by show e.on<j;omega⟩
  ·simp only[Bool.and_eq_true]at h
   have key:Ae4 md ops.toList=true:=by cases md<;>first | exact h.1.1 | exact h.1.2 | exact h.2
   refine⟨fun i=>(ranks md ops.toList ops.toList.length (ops.toList.map fun _=>0)).getD i 0,fun j o hj e he hb=> ?_⟩
   have:=Ah6 _ _ key j o (by simpa using hj) e he hb
   rw[Nat.zero_add]at this
   exact⟨by simpa using this.1,this.2⟩
theorem AfC {α β :Type} {f g: α ->List β}: ∀(l:List α),(∀ x∈l,f x=g x)->l.flatMap f=l.flatMap g:=by
  intro l
  induction l with
  | nil=>intro _;rfl
  | cons x r ih=>intro h;simp only[List.flatMap_cons];rw[h x List.mem_cons_self,ih (fun y hy=>h y (List.mem_cons_of_mem _ hy))]
theorem Amx {ops:List Oper}: ∀(l:List Oper) (acc:List (List Nat)) (st:St),Na acc.length l=true->(MR C ops l acc st).length=l.length /\
    ∀(k:Nat) (o:Oper),l[k]? =some o-> ∃ x,(MR C ops l acc st)[k]? =some x/\x.o=o/\x.anc=(QU o).flatMap (fun e=>e::(acc++(MR C ops l acc st).map EW.anc).getD e []):=by
  intro l
  induction l with
  | nil=>intro acc st _;exact⟨rfl,fun k o h=>by simp at h⟩
  | cons o' r ih =>
    intro acc st h
    have hb:=Afa _ _ h
    simp only[Na,Bool.and_eq_true]at h
    let an:=(QU o').flatMap (fun e=>e::acc.getD e [])
    let s1:=apply st o' (Ew C ops o' st)
    have hf:MR C ops (o'::r) acc st=⟨o',Ew C ops o' st,Fh o' st (En o' st),oneOf C o'.op (En o' st),an⟩::MR C ops r (acc++[an]) s1:=rfl
    obtain⟨g1,g2⟩:=ih (acc++[an]) s1 (by simpa using h.2)
    rw[hf]
    refine⟨by simp [g1],fun k o hk=> ?_⟩
    cases k with
    | zero =>
      simp at hk;subst hk
      refine⟨_,rfl,rfl,?_⟩
      refine AfC _ fun e he=> ?_
      obtain⟨ed,h1,h2,h3⟩:=AnP he
      have hlt:=hb 0 o' rfl ed h1 h3
      rw[List.getD_eq_getElem?_getD,List.getD_eq_getElem?_getD,List.getElem?_append_left (by omega)]
    | succ k =>
      obtain⟨x,h1,h2,h3⟩:=g2 k o (by simpa using hk)
      refine⟨x,by simpa using h1,h2,?_⟩
      rw[h3]
      simp [List.append_assoc]
theorem Amw {ρ :Type} {ops:List Oper} {K:St->Option ρ} {v: ρ}: ∀(l:List Oper) (acc:List (List Nat)) (st:St),Qd C ops l st K=some v-> ∃ st',sS C ops (MR C ops l acc st) st st'/\K st'=some v/\ ∀ x∈MR C ops l acc st,D7 x.δ.ok:=by
  intro l
  induction l with
  | nil=>intro acc st h;exact⟨st,rfl,h,fun x hx=>by cases hx⟩
  | cons o r ih =>
    intro acc st h
    obtain⟨h1,h2⟩:=MZ (show allT (Ew C ops o st).ok (Qd C ops r (apply st o (Ew C ops o st)) K)=some v from h)
    obtain⟨st',h3,h4,h5⟩:=ih (acc++[(QU o).flatMap (fun e=>e::acc.getD e [])]) _ h2
    refine⟨st',⟨⟨rfl,rfl,rfl⟩,h3⟩,h4,fun x hx=> ?_⟩
    rcases List.mem_cons.1 hx with rfl | hx
    ·exact h1
    ·exact h5 x hx
theorem Sim.drew (hS:Sim V0 O0 w0 O m st a w):Sim V0 O0 w0 O m st a {w with drawn:=w.drawn+1} :=
  hS.next (st':=st) (d:=none) (v:=undef) (x:=.undef) (T:=fun _=>False) (Nw:=fun _=>False) ⟨rfl,rfl,rfl,Nat.le_refl _,fun _ _=>.inl rfl⟩ ⟨fun _ _ _ h=>h,fun _ _ _ _ h _=>h⟩ (fun _ _ _ h=>h) (fun _ y ho=>.inr ⟨y,ho,rfl,rfl⟩) (fun _ h=>h.elim) (fun _ h=>h.elim)
    (fun _ _ ho=>.inl ⟨id,ho,rfl⟩) rfl (fun h=>absurd rfl h)
theorem Aml {ρ :Type} (hC:GV P C) {fin:St->Option ρ} {v: ρ} (id:Nat) (ops:Array Oper) {O:Own} {m:Nat->Value} {st:St} {a:Act} {w:World} (K:Ex->St->Option ρ) (hS:Sim V0 O0 w0 O m st a w) (hd:LM C ops.toList st=true)
    (hx:Qd C ops.toList ops.toList st (fun st'=>K .normal st')=some v):(Code.region id ops true).wp P (Post V0 O0 w0 fin K v) a w:=by
  unfold LM at hd
  dsimp only at hd
  simp only[Bool.and_eq_true]at hd
  obtain⟨⟨⟨d1,d2⟩,d3⟩,d4⟩:=hd
  have d1A:Na 0 ops.toList=true:=by
    have:=d1
    unfold ordered at this
    rw[Bool.and_eq_true]at this
    exact this.1
  obtain⟨f1,f2⟩:=Amx (C:=C) (ops:=ops.toList) ops.toList [] st d1A
  obtain⟨st',r1,r2,r3⟩:=Amw ops.toList [] st hx
  generalize hfs:MR C ops.toList ops.toList [] st=fs at *
  have hlen:fs.length=ops.size:=by rw[f1];simp
  have hsize:(enum 0 fs).length=ops.size:=by rw[Ak5,hlen]
  have hany: ∀ md,wpAny P md ops (Post V0 O0 w0 fin K v) ops.size (Array.replicate ops.size false) a {w with drawn:=w.drawn+1}:=by
    intro md
    obtain⟨rk,hrk⟩:=AjF d1 md
    refine Apc (V0:=V0) (O0:=O0) (w0:=w0) hC (K:=fun st'=>K .normal st') (v:=v) (st':=st') (fun O' m' s a' w' h1 h2=>⟨O',m',s,h1,h2⟩) (ANC:=fs.map EW.anc) (rk:=rk) (fun j o hj i hi=> ?_) hrk
      ops.size (enum 0 fs) _ hsize (Apg _ _) (fun p hp=> ?_) (by simp) (fun i hi=> ?_) (fun e he i _=> ?_) (Amo _ _ d2) (fun p hp n hn=> ?_) (Ang d4) (by rw[Aph];exact r1) r2 hS.drew
    ·obtain⟨x,h1,h2,h3⟩:=f2 j o (by simpa using hj)
     have e1:(fs.map EW.anc).getD j []=x.anc:=by
       rw[List.getD_eq_getElem?_getD,List.getElem?_map,h1];rfl
     rw[e1,h3]at hi
     obtain⟨e,he,hie⟩:=List.mem_flatMap.1 hi
     rcases List.mem_cons.1 hie with h | h
     ·exact⟨e,he,.inl h⟩
     ·exact⟨e,he,.inr (by simpa using h)⟩
    ·obtain⟨k,h1,h2⟩:=kQ _ _ _ hp
     rw[Nat.zero_add]at h1
     have hk:k<ops.toList.length:=by
       rw[<- f1]
       rcases Nat.lt_or_ge k fs.length with h | h
       ·exact h
       ·rw[List.getElem?_eq_none h]at h2;cases h2
     obtain⟨x,h3,h4,h5⟩:=f2 k ops.toList[k] (by simp at hk ⊢)
     rw[h2]at h3
     injection h3 with h3
     refine⟨?_,r3 _ (List.mem_of_getElem? h2),?_⟩
     ·rw[h1,h3,h4];simp at hk ⊢
     ·rw[h1,List.getD_eq_getElem?_getD,List.getElem?_map,h2];rfl
    ·rw[Apf]
     simp [Array.getD_eq_getD_getElem?,hi,hlen]
    ·have:(Array.replicate ops.size false).getD e false=false:=by
       rw[Array.getD_eq_getD_getElem?,Array.getElem?_replicate]
       split<;>rfl
     rw[this]at he;cases he
    ·obtain⟨k,_,h2⟩:=kQ _ _ _ hp
     exact List.all_eq_true.1 d3 n (List.mem_flatMap.2 ⟨_,List.mem_of_getElem? h2,hn⟩)
  refine wp_region_draw fun t=> ?_
  unfold Region.schedule
  split
  ·exact wpAny_sound _ _ _ _ _ (hany _)
  ·exact wpAny_sound _ _ _ _ _ (hany _)
end
