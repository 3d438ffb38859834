import Derived.Test.YtmgpaalplkkpnaaGreatDoorA7
import Derived.Orders
import Derived.OwnWalk
import Derived.Lib.Join
import Derived.Below
set_option linter.all false
namespace Go.Proofs.YtmgpaalplkkpnaaGreatDoor.Vm
open Classical
section
variable {P:Program} {C:Ctx} {V0:Nat->Value} {O0 O:Own} {w0 w:World} {m:Nat->Value} {st:St} {a:Act}
theorem MW {a b:List Nat} (h:Vt a b=true): ∀ n∈a,n∉b:=by intro n hn hb;have:=D8.1 h n hn;rw[PN.2 hb]at this;cases this
def lastOf:List (Nat×Obj)->Nat->Option Obj
 | [],_=>none
 | (n,x)::r,k=>match lastOf r k with
  | some y=>some y
  | none=>if n=k then some x else none
theorem Ag9 {u:List (Nat×Obj)} {k:Nat} (h:k∉u.map (·.1)):lastOf u k=none:=by
 induction u with
 | nil=>rfl
 | cons p r ih=>grind[lastOf]
theorem Agq (u:List (Nat×Obj)): ∀(l:List (Nat×Obj)) (k:Nat),JA (JL l u) k=match lastOf u k with | some x=>some x | none=>JA l k:=by
 induction u with
 | nil=>intro l k;rfl
 | cons p r ih=>grind[JL,KA,lastOf]
theorem TG (st:St) (o:Oper) (δ :Dl) (k:Nat):JA (apply st o δ).Js k=match lastOf δ.new k with
 | some x=>some x
 | none=>if k∈ δ.del then none else match lastOf δ.upd k with
  | some x=>some x
  | none=>JA st.Js k:=by
 unfold apply;dsimp only;rw[Agq,Vf,Agq]
theorem VC {st:St} {o:Oper} {δ :Dl} {k:Nat} (h:k∉ δ.upd.map (·.1)++ δ.del++ δ.new.map (·.1)):JA (apply st o δ).Js k=JA st.Js k:=by grind[TG,Ag9]
def Srt:List (Nat×Obj)->Prop:=List.Pairwise (fun p q=>p.1<q.1)
theorem Av5: ∀ {l:List (Nat×Obj)},sorted l=true->Srt l:=by
 intro l
 induction l with
 | nil=>intro _;exact List.Pairwise.nil
 | cons p r ih =>
  intro h;cases r with
  | nil=>exact Gx _ _
  | cons q r =>
   obtain⟨n,x⟩:=p;obtain⟨k,y⟩:=q;simp only[sorted,Dq,EM]at h;have hr:=ih h.2;refine List.Pairwise.cons (fun q hq=> ?_) hr;rcases D7.1 hq with rfl | hq
   .exact h.1
   .exact Nat.lt_trans h.1 ((EK.1 hr).1 q hq)
theorem Srt.TF {l:List (Nat×Obj)} (h:Srt l) (n:Nat):Srt (Vm.TF l n):=by
 induction l with
 | nil=>exact h
 | cons p r ih =>
  obtain⟨k,x⟩:=p;obtain⟨h1,h2⟩:=EK.1 h;rw[Adj];split
  .exact ih h2
  .exact List.Pairwise.cons (fun q hq=>h1 q (AhA hq)) (ih h2)
theorem Srt.jE {l:List (Nat×Obj)} (h:Srt l) {n:Nat} (y:Obj) (hn:JA l n=none):Srt (Vm.jE l n y):=by
 induction l with
 | nil=>exact Gx _ _
 | cons p r ih =>
  obtain⟨k,x⟩:=p;obtain⟨h1,h2⟩:=EK.1 h;rw[O6]at hn;have hkn:k≠n:=fun e=>by rw[Dn e]at hn;cases hn
  rw[Dk hkn]at hn;simp only[Vm.jE];cases hle:Nat.ble n k with
  | true =>have:=DL hle;refine List.Pairwise.cons (fun q hq=> ?_) h;all_goals grind[Obj,Srt,JA]
  | false =>
   have hlt:k<n:=by
    rcases Ej k n with h | h
    .exact h
    .rw[Nat.ble_eq_true_of_le h]at hle;cases hle
   refine List.Pairwise.cons (fun q hq=> ?_) (ih h2 hn);rcases ApU hq with rfl | hq
   .exact hlt
   .exact h1 q hq
theorem Srt.LM {l:List (Nat×Obj)} (h:Srt l) (n:Nat) (y:Obj):Srt (Vm.LM l n y):=(h.TF n).jE y (by rw[uG,Dn rfl])
theorem Srt.JL: ∀(u:List (Nat×Obj)) {l:List (Nat×Obj)},Srt l->Srt (Vm.JL l u):=by
 intro u
 induction u with
 | nil=>intro l h;exact h
 | cons p r ih=>intro l h;obtain⟨n,x⟩:=p;exact ih (h.LM n x)
theorem Srt.Kz: ∀(u:List Nat) {l:List (Nat×Obj)},Srt l->Srt (Vm.Kz l u):=by
 intro u
 induction u with
 | nil=>intro l h;exact h
 | cons n r ih=>intro l h;exact ih (h.TF n)
theorem Srt.apply {st:St} (h:Srt st.Js) (o:Oper) (δ :Dl):Srt (Vm.apply st o δ).Js:=((h.JL δ.upd).Kz δ.del).JL δ.new
theorem fU {n:Nat} {x:Obj} {r:List (Nat×Obj)}:JA ((n,x)::r) n=some x:=by rw[O6,Dn rfl]
theorem As5 {l:List (Nat×Obj)} {k:Nat} (h: ∀ p∈l,k<p.1):JA l k=none:=by
 cases hx:JA l k with
 | none=>rfl
 | some x=>exact absurd (h _ (Ahb hx)) (Nat.lt_irrefl _)
theorem Srt.ext: ∀ {l l':List (Nat×Obj)},Srt l->Srt l'->(∀ k,JA l k=JA l' k)->l=l':=by
 intro l
 induction l with
 | nil =>
  intro l' _ _ h;cases l' with
  | nil=>rfl
  | cons p r=>grind[fU,Obj,Srt,JA]
 | cons p r ih =>
  intro l' h1 h2 h;obtain⟨n,x⟩:=p;cases l' with
  | nil=>grind[fU,Obj,Srt,JA]
  | cons q r' =>
   obtain⟨k,y⟩:=q;obtain⟨a1,a2⟩:=EK.1 h1;obtain⟨b1,b2'⟩:=EK.1 h2;have hnk:n=k:=by all_goals grind[fU,As5,a1]
   subst hnk;have hx:=h n;rw[fU,fU]at hx;injection hx with hx;subst hx;rw[ih a2 b2' (fun j=> ?_)];by_cases hj:n=j
   .grind[As5,a1]
   .have:=h j;rw[O6,O6,Dk hj,Dk hj]at this;exact this
theorem put_comm (tmps:List A) {d e:Option Tmp} (x y:A) (h: ∀ t,d=some t->e≠some t):put (put tmps d x) e y=put (put tmps e y) d x:=by
 cases d with
 | none=>rfl
 | some d =>
  cases e with
  | none=>rfl
  | some e =>have:d≠e:=fun he=>h d rfl (by rw[he]);exact List.set_comm _ _ this
theorem Atf (tmps:List A) {d:Option Tmp} (x:A) {t:Nat} (h:d≠some t):(put tmps d x).getD t .undef=tmps.getD t .undef:=by
 cases d with
 | none=>rfl
 | some d=>grind[put]
theorem o9 {o:Oper} {t:Nat}:t∈dZ o↔o.dst=some t:=by grind[dZ]
theorem Apq {ops:List Oper} {o:Oper} {tmps:List A} {d:Option Tmp} {v:A} (h: ∀ t,d=some t->t∉slotsOf ops o) {x:Operand} (hx:x∈o.op.operands):Lj (put tmps d v) x=Lj tmps x:=by
 cases x with
 | tmp t =>refine Atf tmps v fun hd=>h t hd ?_;exact D9 _ (IZ.2 ⟨.tmp t,by simpa using hx,rfl⟩)
 | _=>rfl
theorem Am7 {ops:List Oper} {o:Oper} {tmps:List A} {d:Option Tmp} {v:A} (h: ∀ t,d=some t->t∉slotsOf ops o):guardOf ops (put tmps d v) o.guard=guardOf ops tmps o.guard:=by
 cases hg:o.guard with
 | none=>rfl
 | some p =>
  obtain⟨j,want⟩:=p;unfold guardOf;dsimp only;cases hj:ops[j]? with
  | none=>rfl
  | some oj =>
   dsimp only;cases hd:oj.dst with
   | none=>rfl
   | some t =>dsimp only;rw[Atf tmps v (t:=t) (fun hd'=>h t hd' (by unfold slotsOf;refine DF _ ?_;rw[hg];dsimp only;rw[hj];dsimp only;rw[hd];simp))]
theorem Ar8 {Js objs':List (Nat×Obj)}: ∀(l:List Nat),(∀ n∈l,JA Js n=JA objs' n)->fetch Js l=fetch objs' l:=by
 intro l
 induction l with
 | nil=>intro _;rfl
 | cons n r ih=>grind[fetch]
theorem AoP {op:Op} {vs:List A} (h:yY op vs=true):(∃ x,op= .move x)\/(∃ x,op= .assign x)\/ ∃ t x k q,op= .load t x/\vs=[.clo k q]:=by unfold yY at h;all_goals grind[split]
theorem iJ {α :Type} {x:Option α} {k: α ->Dl} (h: ∀ y,(k y).upd=[]):(Kv x k).upd=[]:=by
 cases x with
 | none=>rfl
 | some y=>exact h y
theorem XL (s:St) (q off:Nat):JA (Kw s [.ptr q off]) q=JA s.Js q:=by show JA (fetch s.Js [q]++fetch s.Js ((fetch s.Js [q]).flatMap (fun p=>p.2.ids))) q=_;all_goals grind[JA,fetch,O6]
theorem Adm {o:Oper} {vs:List A} {q:Nat} (h:bD o.op vs=some q): ∃ off,vs=[.ptr q off]/\ ∀ f f',MB f q=MB f' q->opX C o vs f=opX C o vs f'/\(opX C o vs f).upd=[]:=by
 obtain⟨dst,op,ty,pos,after,guard⟩:=o;dsimp only at h;unfold bD at h;split at h
 .injection h with h;subst h;refine⟨_,rfl,fun f f' hb=> ?_⟩;unfold opX;dsimp only[a1];unfold Y8;dsimp only;rw[hb];exact⟨rfl,by unfold Kv;split<;>rfl⟩
 .injection h with h;subst h;refine⟨_,rfl,fun f f' hb=> ?_⟩;unfold opX;dsimp only[a1];unfold WB dU;dsimp only;rw[hb];refine⟨rfl,?_⟩;unfold MJ;refine iJ fun ti=>iJ fun p=> ?_;exact iJ (fun _=>rfl)
 .injection h with h;subst h;refine⟨_,rfl,fun f f' hb=> ?_⟩;unfold opX;dsimp only[a1];unfold Zu;dsimp only;rw[hb];refine⟨rfl,?_⟩;unfold MJ;exact iJ fun ti=>iJ fun _=>rfl
 .cases h
theorem AmU {ops:List Oper} {o:Oper} {s1 s2:St} (hE: ∀ x∈o.op.operands,Lj s2.tmps x=Lj s1.tmps x) (hG:guardOf ops s2.tmps o.guard=guardOf ops s1.tmps o.guard)
 (key:(opX C o (KF o s1) (Kw s2 (KF o s1))=opX C o (KF o s1) (Kw s1 (KF o s1))/\(∀ f,(opX C o (KF o s1) f).upd=[])/\LV o s2 (KF o s1)=LV o s1 (KF o s1))\/(Kw s2 (KF o s1)=Kw s1 (KF o s1)/\LV o s2 (KF o s1)=LV o s1 (KF o s1))) (h1: ∀ n∈(KO C ops o s1).new.map (·.1),s1.fresh n=true) (h2: ∀ n∈(KO C ops o s1).new.map (·.1),s2.fresh n=true) :
 KO C ops o s2=KO C ops o s1/\LV o s2 (KF o s2)=LV o s1 (KF o s1)/\KF o s2=KF o s1:=by
 have hmap:o.op.operands.toList.map (Lj s2.tmps)=o.op.operands.toList.map (Lj s1.tmps):=E5 fun x hx=>hE x (by simpa using hx);have hvs:KF o s2=KF o s1:=by unfold KF;rw[hmap]
 have hop:opX C o (KF o s1) (Kw s2 (KF o s1))=opX C o (KF o s1) (Kw s1 (KF o s1)):=by
  rcases key with h | h
  .exact h.1
  .rw[h.1]
 refine⟨?_,by rw[hvs];rcases key with h | h;exact h.2.2;exact h.2,hvs⟩
 have hpl: ∀ pre,(∀ n∈(TV C o s1 pre).new.map (·.1),s1.fresh n=true)->(∀ n∈(TV C o s1 pre).new.map (·.1),s2.fresh n=true)->TV C o s2 pre=TV C o s1 pre:=by
  intro pre h1 h2;unfold TV at h1 h2 ⊢;rw[hmap];dsimp only at h1 h2 ⊢;rw[show opX C o (Lm o.op (o.op.operands.toList.map (Lj s1.tmps))).2 (Kw s2 (Lm o.op (o.op.operands.toList.map (Lj s1.tmps))).2)=opX C o (Lm o.op (o.op.operands.toList.map (Lj s1.tmps))).2 (Kw s1 (Lm o.op (o.op.operands.toList.map (Lj s1.tmps))).2)from hop];generalize opX C o (Lm o.op (o.op.operands.toList.map (Lj s1.tmps))).2 (Kw s1 (Lm o.op (o.op.operands.toList.map (Lj s1.tmps))).2)= δ at *
  have a1: δ.new.all (fun p=>s1.fresh p.1)=true:=D8.2 fun p hp=>h1 p.1 (DI.2 ⟨p,hp,rfl⟩);have a2: δ.new.all (fun p=>s2.fresh p.1)=true:=D8.2 fun p hp=>h2 p.1 (DI.2 ⟨p,hp,rfl⟩);rw[a1,a2]
 unfold KO at h1 h2 ⊢;rw[hG,hmap];have hfa':opX C o (Lm o.op (o.op.operands.toList.map (Lj s1.tmps))).2 (Kw s2 (Lm o.op (o.op.operands.toList.map (Lj s1.tmps))).2)=opX C o (Lm o.op (o.op.operands.toList.map (Lj s1.tmps))).2 (Kw s1 (Lm o.op (o.op.operands.toList.map (Lj s1.tmps))).2):=hop;cases hg:guardOf ops s1.tmps o.guard with
 | none=>rfl
 | some r =>
  cases r with
  | some g =>
   rw[hg]at h1 h2;dsimp only at h1 h2 ⊢;cases hde:Auc C o with
   | some b =>
    rw[hde]at h1 h2;cases b with
    | true=>exact hpl _ h1 h2
    | false=>rfl
   | none =>
   dsimp only;rcases key with h | h
   .have hu:=h.2.1 (Kw s1 (KF o s1));rw[hfa'];have hu':(opX C o (Lm o.op (o.op.operands.toList.map (Lj s1.tmps))).2 (Kw s1 (Lm o.op (o.op.operands.toList.map (Lj s1.tmps))).2)).upd=[]:=hu;simp only[hu',Ff]
   .grind[Kw,Lm,Lj,guardOf,opX,KF,LV,KO]
  | none =>rw[hg]at h1 h2;exact hpl _ h1 h2
theorem Ams {o:Oper} {s1 s2:St} (hF: ∀ n∈LV o s1 (KF o s1),JA s2.Js n=JA s1.Js n) :
 (opX C o (KF o s1) (Kw s2 (KF o s1))=opX C o (KF o s1) (Kw s1 (KF o s1))/\(∀ f,(opX C o (KF o s1) f).upd=[])/\LV o s2 (KF o s1)=LV o s1 (KF o s1))\/(Kw s2 (KF o s1)=Kw s1 (KF o s1)/\LV o s2 (KF o s1)=LV o s1 (KF o s1)):=by
 unfold LV at hF ⊢;cases hm:yY o.op (KF o s1)with
 | true =>
  have hu: ∀(v:List A),(a1 (fun a=>.v a) v).upd=[]:=fun v=>by
   cases v with
   | nil=>rfl
   | cons x r=>cases r<;>rfl
  rcases AoP hm with ⟨x,e⟩ | ⟨x,e⟩ | ⟨t,x,k,q,e,ev⟩
  .grind[opX]
  .grind[opX]
  .have hl: ∀ f,(Zu C f t (.clo k q)).upd=[]:=fun f=>by
    unfold Zu MJ Kv;cases C.T t<;>rfl
   exact .inl ⟨by unfold opX;rw[e,ev];rfl,fun f=>by unfold opX;rw[e,ev];exact hl f,rfl⟩
 | false =>
  rw[hm]at hF;cases h1':bD o.op (KF o s1)with
  | some q =>rw[h1']at hF;have hq:JA s2.Js q=JA s1.Js q:=hF q (DR.2 rfl);obtain⟨off,ev,hO⟩:=Adm (C:=C) h1';refine .inl ⟨(hO _ _ ?_).1,fun f=>(hO f f rfl).2,rfl⟩;rw[ev];unfold MB;rw[XL,XL,hq]
  | none =>
  all_goals grind[fetch,KF,Ar8,Kw]
theorem Av9 {ops:List Oper} {o:Oper} {s1 s2:St} (hE: ∀ x∈o.op.operands,Lj s2.tmps x=Lj s1.tmps x) (hG:guardOf ops s2.tmps o.guard=guardOf ops s1.tmps o.guard)
 (hF: ∀ n∈LV o s1 (KF o s1),JA s2.Js n=JA s1.Js n) (h1: ∀ n∈(KO C ops o s1).new.map (·.1),s1.fresh n=true) (h2: ∀ n∈(KO C ops o s1).new.map (·.1),s2.fresh n=true) :
 KO C ops o s2=KO C ops o s1/\LV o s2 (KF o s2)=LV o s1 (KF o s1)/\KF o s2=KF o s1:=by grind[AmU,Ams]
theorem Ax7 {o:Oper} {vs:List A} {q off n:Nat} (h:oneOf C o.op vs=some (q,off,n)):bD o.op vs=some q/\ ∀ {f f':Fet} {cs cs':List A},MB f q=some cs->MB f' q=some cs'->cs'.length=cs.length->(∀ k,k<n->cs'.getD (off+k) .undef=cs.getD (off+k) .undef)->opX C o vs f'=opX C o vs f:=by
 obtain⟨dst,op,ty,pos,after,guard⟩:=o;dsimp only at h;unfold oneOf at h;split at h
 .injection h with h;injection h with h1 h2;subst h1;refine⟨rfl,fun {f f' cs cs'} h1 h2 h3 h4=> ?_⟩;unfold opX;dsimp only[a1];unfold Y8;dsimp only;rw[h1,h2];rfl
 .simp_all[opX,a1,WB,dU,Kv,oneOf,bD,Fet]
 .rename_i t _ o' off';cases ht:C.T t with
  | none=>rw[ht]at h;cases h
  | some ti =>
   rw[ht]at h;dsimp only at h;cases h0:Nat.blt 0 ti.cs.length with
   | false=>rw[h0]at h;cases h
   | true =>
   rw[h0]at h;injection h with h;injection h with h1 h2;injection h2 with h2 h3';subst h1;subst h2;subst h3';have h0:0<ti.cs.length:=by simpa [EM]using h0
   refine⟨rfl,fun {f f' cs cs'} h1 h2 h3 h4=> ?_⟩;unfold opX;dsimp only[a1];unfold Zu MJ;rw[ht];unfold Kv;dsimp only;rw[h1,h2];dsimp only;rw[h3];congr 1;unfold AbG;cases ti.agg with
   | false =>have:=h4 0 h0;simpa using this
   | true =>
    refine congrArg A.agg (Ji fun i=> ?_);rw[FY,FY];by_cases hi:i<ti.cs.length
    .rw[Dn hi,Dn hi,FZ,FZ];have:=h4 i hi;rw[Dj,Dj]at this;by_cases hl:off'+i<cs.length
     .simp_all[oneOf,bD,Fet,opX]
     .rw[Ed (by omega),Ed (by omega)]
    .rw[Dk hi,Dk hi]
 .cases h
def OM (fet:Fet) (δ :Dl):Prop:= ∀ e∈ δ.same,∃ cs,MB fet e.1=some cs/\ ∀ p∈ δ.upd,p.1=e.1-> ∃ cs',p.2= .box cs'/\cs'.length=cs.length/\cs'.getD e.2 .undef=cs.getD e.2 .undef
theorem Au9 {fet:Fet} (x:A) (j:Nat) {δ :Dl} (h:OM fet δ):OM fet (Ux fet x j δ):=by
 unfold Ux;split
 .rename_i q off;cases hb:MB fet q with
  | none=>exact h
  | some cs =>
   dsimp only;cases hc:Nat.blt j cs.length&& δ.upd.all (fun p=> !(Nat.beq p.1 q)||Aj7 cs.length p.2)with
   | false=>exact h
   | true =>
    rw[Dq,EM]at hc;have hset: ∀ ds:List A,ds.length=cs.length-> ∀ i,(ds.set j (cs.getD j .undef)).getD i .undef=if j=i then cs.getD j .undef else ds.getD i .undef:=by intro ds hd i;rw[Dj,FN];by_cases hij:j=i;all_goals simp_all[Fet,OM,Ux]
    have key: ∀ p0∈ δ.upd,Nat.beq p0.1 q=true-> ∃ ds,p0.2= .box ds/\ds.length=cs.length:=by
     intro p0 hp0 hq;have h1:=D8.1 hc.2 p0 hp0;rw[hq]at h1;have h1:Aj7 cs.length p0.2=true:=h1;obtain⟨n,y⟩:=p0;cases y with
     | box ds=>exact⟨ds,rfl,Dy h1⟩
     | _=>cases h1
    intro e he;rcases D7.1 (show e∈(q,j):: δ.same from he)with rfl | he
    .refine⟨cs,hb,fun p hp hpq=> ?_⟩;obtain⟨p0,hp0,rfl⟩:=DI.1 (show p∈ δ.upd.map _ from hp);cases hq:Nat.beq p0.1 q with
     | false=>simp_all[Fet,OM,Ux]
     | true=>grind[A0c]
    .obtain⟨cs0,h4,h5⟩:=h e he;refine⟨cs0,h4,fun p hp hpq=> ?_⟩;obtain⟨p0,hp0,rfl⟩:=DI.1 (show p∈ δ.upd.map _ from hp);cases hq:Nat.beq p0.1 q with
     | false=>rw[hq]at hpq;exact h5 p0 hp0 hpq
     | true =>rw[hq]at hpq;have hpq:p0.1=e.1:=hpq;obtain⟨ds,h2,h3⟩:=key p0 hp0 hq;obtain⟨cs',g1,g2,g3⟩:=h5 p0 hp0 hpq;all_goals simp_all[A0c,Fet,OM,Ux]
 .exact h
theorem AuB {fet:Fet} (xs:List A): ∀(ks:List (Nat×Nat)) {δ :Dl},OM fet δ ->OM fet (keepD fet xs ks δ):=by
 intro ks
 induction ks with
 | nil=>intro δ h;exact h
 | cons k ks ih=>intro δ h;exact ih (Au9 _ _ h)
theorem OM.nil {fet:Fet} {δ :Dl} (h: δ.same=[]):OM fet δ :=fun e he=>by rw[h]at he;cases he
theorem AjR {o:Oper} {s:St} (pre:List Bool):OM (Kw s (KF o s)) (TV C o s pre):=by
 cases hc:Af4 o.op with
 | false=>grind[OM.nil,TV]
 | true =>
  have key:OM (Kw s (KF o s)) (opX C o (KF o s) (Kw s (KF o s))):=by
   generalize KF o s=vs;generalize Kw s vs=fet;obtain⟨dst,op,ty,pos,after,guard⟩:=o;dsimp only at hc;unfold Af4 at hc;split at hc
   .cases vs with
    | nil=>exact OM.nil rfl
    | cons x xs =>
     rename_i f _ _;show OM fet (lY C fet (dst.getD 0) f xs);unfold lY;cases C.G f with
     | none=>exact OM.nil rfl
     | some sg=>exact AuB _ _ (OM.nil rfl)
   .cases hc
  intro e he;have he:e∈(bif Af4 o.op then(opX C o (KF o s) (Kw s (KF o s))).same else []):=he;rw[hc]at he;exact key e he
theorem Av8 {ops:List Oper} {o:Oper} {s:St}:OM (Kw s (KF o s)) (KO C ops o s):=by
 unfold KO;split
 .exact AjR _
 .grind[split,AjR,OM.nil]
 .exact OM.nil rfl
end
section
variable {P:Program} {C:Ctx} {V0:Nat->Value} {O0 O:Own} {w0 w:World} {m:Nat->Value} {st st':St} {a:Act}
structure AoH (C:Ctx) (ops:List Oper) (x:LG) (st:St):Prop where
 step:KO C ops x.o st=x.δ
 rd:LV x.o st (KF x.o st)=x.rd
 one:oneOf C x.o.op (KF x.o st)=x.one
def Adi (C:Ctx) (ops:List Oper):List LG->St->St->Prop
 | [],s,s'=>s=s'
 | x::r,s,s'=>AoH C ops x s/\Adi C ops r (apply s x.o x.δ) s'
theorem AuS: ∀(u:List Nat) {l:List (Nat×Obj)} {p:Nat×Obj},p∈Kz l u->p∈l:=by
 intro u
 induction u with
 | nil=>intro l p h;exact h
 | cons n r ih=>intro l p h;exact AhA (ih h)
theorem gW {x:LG} {n:Nat} (h:st.fresh n=true) (h1:n∉x.says) (h2:n∉x.keys):(apply st x.o x.δ).fresh n=true:=by
 obtain⟨f1,f2,f3,f4⟩:=N9 h;unfold LG.says at h1;simp only[DK,not_or]at h1
 have g1:has (apply st x.o x.δ).ids n=false:=by
  rw[<- Bool.not_eq_true];intro hh;rcases DK.1 (PN.1 hh)with hm | hm
  .obtain⟨c,hc,hi⟩:=Ep.1 hm;have hc:c∈put st.tmps x.o.dst x.δ.val:=hc
   have:c∈st.tmps\/c=x.δ.val:=by
    cases hd:x.o.dst with
    | none=>rw[hd]at hc;exact .inl hc
    | some d=>rw[hd]at hc;exact Io hc
   rcases this with hc | hc
   .exact f1 (D9 _ (Ep.2 ⟨c,hc,hi⟩))
   .rw[hc]at hi;exact h1.1.1 hi
  .obtain⟨p,hp,hi⟩:=Ep.1 hm;rcases mZ x.δ.new (show p∈JL (Kz (JL st.Js x.δ.upd) x.δ.del) x.δ.new from hp)with hp | hp
   .exact h1.2 (Ep.2 ⟨p,hp,hi⟩)
   .rcases mZ x.δ.upd (AuS _ hp)with hp | hp
    .exact h1.1.2 (Ep.2 ⟨p,hp,hi⟩)
    .exact f1 (DF _ (Ep.2 ⟨p,hp,hi⟩))
 have g2:JA (apply st x.o x.δ).Js n=none:=by rw[VC h2];exact f2
 all_goals grind[St.fresh,Xl]
theorem AuF {u:List (Nat×Obj)} {k:Nat} {x:Obj} (h:lastOf u k=some x):(k,x)∈u:=by
 induction u with
 | nil=>cases h
 | cons p r ih=>grind[lastOf]
theorem AyD {ops:List Oper} {x y:LG} (hx:AoH C ops x st) (hy:AoH C ops y (apply st x.o x.δ)) (h:calm x y=true) :
 (opX C x.o (KF x.o st) (Kw (apply st y.o y.δ) (KF x.o st))=opX C x.o (KF x.o st) (Kw st (KF x.o st))/\(∀ f,(opX C x.o (KF x.o st) f).upd=[])/\LV x.o (apply st y.o y.δ) (KF x.o st)=LV x.o st (KF x.o st)) \/
 (Kw (apply st y.o y.δ) (KF x.o st)=Kw st (KF x.o st)/\LV x.o (apply st y.o y.δ) (KF x.o st)=LV x.o st (KF x.o st)):=by
 unfold calm at h;cases ho:x.one with
 | none=>rw[ho]at h;cases h
 | some p =>
  obtain⟨q,off,n⟩:=p;rw[ho]at h;simp only[Dq,Eu]at h;obtain⟨h1,h2,h3,h4,h5⟩:=h;have hone:=hx.one;rw[ho]at hone;obtain⟨k1,k2⟩:=Ax7 hone;obtain⟨off',ev,hO⟩:=Adm (C:=C) k1;have hS:=Av8 (C:=C) (ops:=ops) (o:=y.o) (s:=apply st x.o x.δ);rw[hy.step]at hS;have hxk:JA (apply st x.o x.δ).Js q=JA st.Js q:=VC fun hm=>by have:=h1.symm.trans (PN.2 hm);cases this
  have hbox: ∀ e∈y.δ.same,e.1=q-> ∃ cs,JA st.Js q=some (.box cs)/\ ∀ p∈y.δ.upd,p.1=q-> ∃ cs',p.2= .box cs'/\cs'.length=cs.length/\cs'.getD e.2 .undef=cs.getD e.2 .undef:=by intro e he heq;obtain⟨cs,g1,g2⟩:=hS e he;rw[heq]at g1 g2;exact⟨cs,by rw[<- hxk];exact xU _ _ _ _ (LW g1),g2⟩
  obtain⟨e0,he0,heq0⟩:=Hr.1 h4;obtain⟨cs,g1,g2⟩:=hbox e0 he0 (Dy heq0);have hcell: ∀ k,k<n-> ∀ p∈y.δ.upd,p.1=q-> ∀ cs',p.2= .box cs'->cs'.getD (off+k) .undef=cs.getD (off+k) .undef:=by intro k hk p hp hpq cs' hcs;have:=D8.1 h5 k (Fe.2 hk);obtain⟨e,he,heq⟩:=Hr.1 this;rw[Dq]at heq;obtain⟨cs2,g3,g4⟩:=hbox e he (Dy heq.1);rw[g1]at g3;injection g3 with g3;injection g3 with g3;subst g3;obtain⟨cs3,g5,_,g6⟩:=g4 p hp hpq;rw[hcs]at g5;injection g5 with g5;subst g5;rw[Dy heq.2]at g6;exact g6
  have hnd:lastOf y.δ.new q=none:=Ag9 fun hm=>by have:=h3.symm.trans (PN.2 hm);cases this
  have hdl:q∉y.δ.del:=fun hm=>by rw[PN.2 hm]at h2;cases h2
  have hnew: ∃ cs',JA (apply st y.o y.δ).Js q=some (.box cs')/\cs'.length=cs.length/\ ∀ k,k<n->cs'.getD (off+k) .undef=cs.getD (off+k) .undef:=by
   rw[TG,hnd];dsimp only;rw[Dk hdl];cases hl:lastOf y.δ.upd q with
   | none=>exact⟨cs,g1,rfl,fun _ _=>rfl⟩
   | some z =>have hm:=AuF hl;obtain⟨cs',g3,g4,_⟩:=g2 _ hm rfl;dsimp only at g3;subst g3;exact⟨cs',rfl,g4,fun k hk=>hcell k hk _ hm rfl _ rfl⟩
  obtain⟨cs',g3,g4,g5⟩:=hnew;have hask: ∀ s,LV x.o s (KF x.o st)=bif yY x.o.op (KF x.o st)then []else [q]:=by intro s;unfold LV;rw[k1]
  refine .inl ⟨k2 ?_ ?_ g4 g5,fun f=>(hO f f rfl).2,by rw[hask,hask]⟩
  .rw[ev];unfold MB;rw[XL,g1]
  .rw[ev];unfold MB;rw[XL,g3]
theorem swap {ops:List Oper} {x y:LG} {r:List LG} (hi:indep ops x y=true) (hxF: ∀ n∈x.news,st.fresh n=true) (hyF: ∀ n∈y.news,st.fresh n=true) (h1:Vt y.news x.says=true) (h2:Vt y.news x.keys=true)
 (hs:Srt st.Js) (h:Adi C ops (x::y::r) st st'):Adi C ops (y::x::r) st st':=by
 unfold indep at hi;simp only[Dq]at hi;obtain⟨⟨⟨⟨⟨⟨i1,i2⟩,i3⟩,i4⟩,i5⟩,i6⟩,i7⟩:=hi;obtain⟨hx,hy,hr⟩:=h;have hkx: ∀ n,n∈x.keys->n∉y.keys:=MW i6;have hnx: ∀ n∈x.news,n∈x.keys:=fun n hn=>DF _ hn
 have cy:=Av9 (C:=C) (ops:=ops) (o:=y.o) (s1:=apply st x.o x.δ) (s2:=st)
  (fun z hz=>(Apq (fun t ht=>MW i2 t (o9.2 ht)) hz).symm) (Am7 (fun t ht=>MW i2 t (o9.2 ht))).symm
  (fun n hn=>(VC (fun hk=>MW i4 n hk (by rw[<- hy.rd];exact hn))).symm)
  (fun n hn=>by rw[hy.step]at hn;exact gW (hyF n hn) (MW h1 n hn) (MW h2 n hn))
  (fun n hn=>by rw[hy.step]at hn;exact hyF n hn)
 have cx:=AmU (C:=C) (ops:=ops) (o:=x.o) (s1:=st) (s2:=apply st y.o y.δ)
  (fun z hz=>Apq (fun t ht=>MW i3 t (o9.2 ht)) hz) (Am7 (fun t ht=>MW i3 t (o9.2 ht)))
  (by
    rcases Bool.or_eq_true_iff.1 i5 with i5 | i5
    .exact Ams (fun n hn=>VC (fun hk=>MW i5 n hk (by rw[<- hx.rd];exact hn)))
    .exact AyD hx hy i5)
  (fun n hn=>by rw[hx.step]at hn;exact hxF n hn)
  (fun n hn=>by rw[hx.step]at hn;exact gW (hxF n hn) (MW i7 n hn) (hkx n (hnx n hn)))
 have hst:apply (apply st y.o y.δ) x.o x.δ =apply (apply st x.o x.δ) y.o y.δ :=by
  have e1:(apply (apply st y.o y.δ) x.o x.δ).tmps=(apply (apply st x.o x.δ) y.o y.δ).tmps:=(put_comm st.tmps x.δ.val y.δ.val (fun t ht he=>MW i1 t (o9.2 ht) (o9.2 he))).symm
  have e2:(apply (apply st y.o y.δ) x.o x.δ).Js=(apply (apply st x.o x.δ) y.o y.δ).Js:=by
   refine Srt.ext ((hs.apply _ _).apply _ _) ((hs.apply _ _).apply _ _) fun k=> ?_;by_cases hk:k∈x.keys
   .have hky:=hkx k hk;rw[VC (o:=y.o) (δ :=y.δ) hky,TG (apply st y.o y.δ),VC (o:=y.o) (δ :=y.δ) hky,<- TG st]
   .rw[VC (o:=x.o) (δ :=x.δ) hk,TG (apply st x.o x.δ),VC (o:=x.o) (δ :=x.δ) hk,<- TG st]
  generalize apply (apply st y.o y.δ) x.o x.δ =s at *
  generalize apply (apply st x.o x.δ) y.o y.δ =s' at *
  cases s;cases s';dsimp only at e1 e2;rw[e1,e2]
 refine⟨⟨by rw[cy.1,hy.step],by rw[cy.2.1,hy.rd],by rw[cy.2.2,hy.one]⟩,⟨by rw[cx.1,hx.step],by rw[cx.2.1,hx.rd],by rw[cx.2.2,hx.one]⟩,?_⟩;rw[hst];exact hr
structure Pre (R:List LG) (st:St):Prop where
 srt:Srt st.Js
 fresh: ∀ z∈R,∀ n∈z.news,st.fresh n=true
 pairs:R.Pairwise (fun y z=>Vt z.news y.says=true/\Vt z.news y.keys=true)
theorem Pre.step {y:LG} {R:List LG} (h:Pre (y::R) st):Pre R (apply st y.o y.δ):=by obtain⟨h1,h2⟩:=EK.1 h.pairs;exact⟨h.srt.apply _ _,fun z hz n hn=>gW (h.fresh z (Dx _ hz) n hn) (MW (h1 z hz).1 n hn) (MW (h1 z hz).2 n hn),h2⟩
theorem front {ops:List Oper} {x:LG} {L2:List LG}: ∀(L1:List LG) {st:St},Pre (L1++x::L2) st->(∀ y∈L1,indep ops y x=true)->Adi C ops (L1++x::L2) st st'->Adi C ops (x::(L1++L2)) st st':=by
 intro L1
 induction L1 with
 | nil=>intro st _ _ h;exact h
 | cons y L1 ih =>intro st hP hi h;have h1:=ih (st:=apply st y.o y.δ) (hP.step) (fun z hz=>hi z (Dx _ hz)) h.2;have hx:x∈L1++x::L2:=DF _ Dv;obtain⟨p1,_⟩:=EK.1 hP.pairs;exact swap (hi y Dv) (hP.fresh y Dv) (hP.fresh x (Dx _ hx)) (p1 x hx).1 (p1 x hx).2 hP.srt ⟨h.1,h1⟩
theorem Awg {md:Region.Mode} {e:Edge} (h:Region.binds .any e=true):Region.binds md e=true:=by unfold Region.binds at h ⊢;all_goals grind
theorem fC {ops:List Oper} {i:Nat} {x y:LG} (h:iM ops i x y=true):Vt y.news x.says=true/\Vt y.news x.keys=true/\(i∈y.anc\/indep ops x y=true):=by unfold iM at h;simp only[Dq,EE]at h;exact⟨h.1.1,h.1.2,h.2.imp PN.1 id⟩
theorem Ap2 {l:Array Bool} {i:Nat} (h:i<l.size) (b c:Bool):l.getD i b=l.getD i c:=by grind
theorem Aul {α :Type} (f: α ->Nat): ∀(l:List α),l≠ []-> ∃ x∈l,∀ y∈l,f x<=f y:=by
 intro l
 induction l with
 | nil=>grind
 | cons a r ih =>
  intro _;by_cases hr:r=[]
  .simp_all
  .grind
theorem AyQ {ρ :Type} (hC:OG P C) {ops:Array Oper} {md:Region.Mode} {Q:Exit->Act->World->Prop} {v: ρ} {K:St->Option ρ} (hQ: ∀ O' m' st' a' w',Sim V0 O0 w0 O' m' st' a' w'->K st'=some v->Q .normal a' w')
 {ANC:List (List Nat)} (hanc: ∀(j:Nat) (o:Oper),ops[j]? =some o-> ∀ i∈ANC.getD j [],∃ e∈Zg o,i=e\/i∈ANC.getD e []) {rk:Nat->Nat} (hback: ∀(j:Nat) (o:Oper),ops[j]? =some o-> ∀ e∈o.after,Region.binds md e=true->e.on<ops.size/\rk e.on<rk j) :
 ∀(fuel:Nat) (R:List (Nat×LG)) (listed:Array Bool) {O:Own} {m:Nat->Value} {st:St} {a:Act} {w:World},R.length=fuel->R.Pairwise (fun p q=>p.1<q.1) ->
  (∀ p∈R,ops[p.1]? =some p.2.o/\JE p.2.δ.ok/\p.2.anc=ANC.getD p.1 [])->listed.size=ops.size->(∀ i,i<ops.size->(listed.getD i true=false↔i∈R.map (·.1))) ->
  (∀ e,listed.getD e false=true-> ∀ i∈ANC.getD e [],listed.getD i false=true)->R.Pairwise (fun p q=>iM ops.toList p.1 p.2 q.2=true)->(∀ p∈R,∀ n∈p.2.news,st.fresh n=true)->Srt st.Js ->
  Adi C ops.toList (R.map (·.2)) st st'->K st'=some v->Sim V0 O0 w0 O m st a w->wpAny P md ops Q fuel listed a w:=by
 intro fuel
 induction fuel with
 | zero =>
  intro R listed O m st a w hlen _ _ hsz hl _ _ _ _ hruns hK hS;have hR:R=[]:=Gy.1 hlen;subst hR;refine⟨?_,?_⟩
  .rw[List.eq_nil_iff_forall_not_mem];intro i hi;obtain⟨h1,o,h2,_⟩:=mem_ready.1 hi;have hlt:=(Ea.1 h2).1;have:=(hl i hlt).1 h1;simp at this
  .have:st=st':=hruns;subst this;exact hQ _ _ _ _ _ hS hK
 | succ fuel ih =>
  intro R listed O m st a w hlen hord hops hsz hl hcl hpr hfr hsrt hruns hK hS;have hin: ∀ p∈R,p.1<ops.size:=fun p hp=>(Ea.1 (hops p hp).1).1;refine⟨fun hnil=> ?_,fun i hi=> ?_⟩
  .exfalso;obtain⟨p,hpR,hmin⟩:=Aul (fun q:Nat×LG=>rk q.1) R (by intro h;rw[h]at hlen;simp at hlen);have hp:=hin p hpR
   have:p.1∈Region.ready md ops listed:=by
    refine mem_ready.2 ⟨(hl p.1 hp).2 (DI.2 ⟨p,hpR,rfl⟩),p.2.o,(hops p hpR).1,fun e he hb=> ?_⟩;obtain⟨hsize,hlt⟩:=hback _ _ (hops p hpR).1 e he hb;have hno:e.on∉R.map (·.1):=by intro hm;obtain⟨q,hq,hqe⟩:=DI.1 hm;have:=hmin q hq;rw[hqe]at this;omega
    have:listed.getD e.on true≠false:=fun h=>hno ((hl e.on hsize).1 h);rw[Ap2 (by rw[hsz];exact hsize) false true];simpa using this
   rw[hnil]at this;cases this
  .obtain⟨hi1,oi,hi2,hi3⟩:=mem_ready.1 hi;have hilt:=(Ea.1 hi2).1;obtain⟨p,hp,rfl⟩:=DI.1 ((hl i hilt).1 hi1);obtain⟨L1,L2,rfl⟩:=List.append_of_mem hp;obtain⟨i,x⟩:=p;dsimp only at hi hi1 hi2 hi3 hilt ⊢;obtain⟨hx1,hx2,hx3⟩:=hops (i,x) hp;dsimp only at hx1 hx2 hx3
   have hancl: ∀ j∈ANC.getD i [],listed.getD j false=true:=by
    intro j hj;obtain⟨e,he,hje⟩:=hanc i _ hx1 j hj;have hel:listed.getD e false=true:=by unfold Zg at he;obtain⟨ed,hed,hb⟩:=IZ.1 he;all_goals grind[Awg]
    rcases hje with rfl | hje
    .exact hel
    .exact hcl e hel j hje
   have hord':=H7.1 hord;have hpr':=H7.1 hpr;have hind: ∀ q∈L1,iM ops.toList q.1 q.2 x=true/\indep ops.toList q.2 x=true:=by intro q hq;have hpq:=hpr'.2.2 q hq (i,x) Dv;dsimp only at hpq;refine⟨hpq,(fC hpq).2.2.resolve_left fun hm=> ?_⟩;rw[hx3]at hm;have h1:=hancl _ hm;have hqR:q∈L1++(i,x)::L2:=D9 _ hq;have hqlt:=hin q hqR;have h2:=(hl q.1 hqlt).2 (DI.2 ⟨q,hqR,rfl⟩);rw[Ap2 (by rw[hsz];exact hqlt) true false,h1]at h2;cases h2
   have hPre:Pre ((L1++(i,x)::L2).map (·.2)) st:=by
    refine⟨hsrt,fun z hz n hn=> ?_,?_⟩
    .obtain⟨q,hq,rfl⟩:=DI.1 hz;exact hfr q hq n hn
    .rw[List.pairwise_map];exact hpr.imp fun h=>⟨(fC h).1,(fC h).2.1⟩
   have hfront:Adi C ops.toList (x::(L1.map (·.2)++L2.map (·.2))) st st':=by refine front (L1.map (·.2)) (by simpa using hPre) (fun y hy=> ?_) (by simpa using hruns);obtain⟨q,hq,rfl⟩:=DI.1 hy;exact(hind q hq).2
   obtain⟨hstep,hrest⟩:=hfront;have hsub:List.Sublist (L1++L2) (L1++(i,x)::L2):=List.Sublist.append_left (List.sublist_cons_self _ _) _
   have hnext: ∀ O' m' a' w',Sim V0 O0 w0 O' m' (apply st x.o (KO C ops.toList x.o st)) a' w'->wpAny P md ops Q fuel (listed.setIfInBounds i true) a' w':=by
    intro O' m' a' w' hS';rw[hstep.step]at hS';refine ih (L1++L2) _ (by simp at hlen ⊢;omega) (hord.sublist hsub) (fun q hq=>hops q (hsub.subset hq)) (by simpa using hsz) (fun j hj=> ?_) (fun e he j hj=> ?_) (hpr.sublist hsub) (fun q hq n hn=> ?_) (hsrt.apply _ _) (by simpa using hrest) hK hS'
    .by_cases hji:i=j
     .subst hji;have h1:(listed.setIfInBounds i true).getD i true=true:=by simp [Du,hsz,hj]
      rw[h1];refine⟨fun h=>(by cases h),fun h=> ?_⟩;obtain⟨q,hq,hqi⟩:=DI.1 h;rcases DK.1 hq with hq | hq
      .have:=hord'.2.2 q hq (i,x) Dv;dsimp only at this;omega
      .have:=(EK.1 hord'.2.1).1 q hq;dsimp only at this;omega
     .rw[getD_set_ne true hji,hl j hj];simp only[EX,Ee,DK,D7];constructor
      .rintro (h | h | h)
       .exact .inl h
       .exact absurd h.symm hji
       .exact .inr h
      .rintro (h | h)
       .exact .inl h
       .exact .inr (.inr h)
    .by_cases hei:i=e
     .subst hei;exact getD_set_true (hancl j hj)
     .rw[getD_set_ne false hei]at he;exact getD_set_true (hcl e he j hj)
    .have hq':=hsub.subset hq;have hf:=hfr q hq' n hn;rcases DK.1 hq with hq | hq
     .have hi':=(hind q hq).2;unfold indep at hi';simp only[Dq]at hi';exact gW hf (MW hi'.2 n hn) (MW hi'.1.2 n (DF _ hn))
     .have hpq:=fC ((EK.1 hpr'.2.1).1 q hq);exact gW hf (MW hpq.1 n hn) (MW hpq.2.1 n hn)
   have hw:=Akk hC hS (ops:=ops) (o:=x.o) (by rw[hstep.step];exact hx2) (wpAny P md ops Q fuel (listed.setIfInBounds i true)) Q hnext;unfold wpOp;rw[hx1];dsimp only;split
   .rename_i hwt;rw[Dn hwt]at hw;exact .inl hw
   .rename_i hwt;rw[Dk hwt]at hw;exact hw
end
section
variable {P:Program} {C:Ctx} {V0:Nat->Value} {O0 O:Own} {w0 w:World} {m:Nat->Value} {st st':St} {a:Act}
def enum:Nat->List LG->List (Nat×LG)
 | _,[]=>[]
 | i,x::r=>(i,x)::enum (i+1) r
theorem Ar5: ∀(l:List LG) (i:Nat),(enum i l).length=l.length:=by
 intro l
 induction l with
 | nil=>intro i;rfl
 | cons x r ih=>intro i;simp [enum,ih]
theorem AyZ: ∀(l:List LG) (i:Nat),(enum i l).map (·.2)=l:=by
 intro l
 induction l with
 | nil=>intro i;rfl
 | cons x r ih=>intro i;simp [enum,ih]
theorem Abl: ∀(l:List LG) (i:Nat) (p:Nat×LG),p∈enum i l-> ∃ k,p.1=i+k/\l[k]? =some p.2:=by
 intro l
 induction l with
 | nil=>intro i p h;cases h
 | cons x r ih =>
  intro i p h;rcases D7.1 h with rfl | h
  .exact⟨0,rfl,rfl⟩
  .obtain⟨k,h1,h2⟩:=ih (i+1) p h;exact⟨k+1,by omega,by simpa using h2⟩
theorem AyX: ∀(l:List LG) (i j:Nat),j∈(enum i l).map (·.1)↔i<=j/\j<i+l.length:=by
 intro l
 induction l with
 | nil=>intro i j;simp [enum]
 | cons x r ih=>grind[enum]
theorem AyY: ∀(l:List LG) (i:Nat),(enum i l).Pairwise (fun p q=>p.1<q.1):=by
 intro l
 induction l with
 | nil=>simp_all[enum]
 | cons x r ih =>intro i;refine List.Pairwise.cons (fun q hq=> ?_) (ih (i+1));all_goals grind[Abl]
theorem Auk {ops:List Oper}: ∀(l:List LG) (i:Nat),oD ops i l=true->(enum i l).Pairwise (fun p q=>iM ops p.1 p.2 q.2=true):=by
 intro l
 induction l with
 | nil=>intro i _;exact List.Pairwise.nil
 | cons x r ih =>intro i h;simp only[oD,Dq]at h;refine List.Pairwise.cons (fun q hq=> ?_) (ih (i+1) h.2);all_goals grind[Abl]
theorem Aw4 {o:Oper} {e:Nat} (h:e∈Zg o): ∃ ed∈o.after,ed.on=e/\Region.binds .any ed=true:=by grind[Zg]
theorem AmZ: ∀(l:List Oper) (i:Nat),backward i l=true-> ∀(k:Nat) (o:Oper),l[k]? =some o-> ∀ e∈o.after,e.on<i+k:=by
 intro l
 induction l with
 | nil=>intro i _ k o h;simp at h
 | cons x r ih =>
  intro i h k o hk e he;simp only[backward,Dq]at h;cases k with
  | zero =>simp at hk;subst hk;have:=D8.1 h.1 e (by simpa using he);rw[EM]at this;exact this
  | succ k=>grind[backward]
theorem Ak6: ∀(l:List Oper) (i:Nat),SB i l=true-> ∀(k:Nat) (o:Oper),l[k]? =some o-> ∀ e∈o.after,Region.binds .any e=true->e.on<i+k:=by
 intro l
 induction l with
 | nil=>intro i _ k o h;simp at h
 | cons x r ih =>
  intro i h k o hk e he hb;simp only[SB,Dq]at h;cases k with
  | zero =>simp at hk;subst hk;have:=D8.1 h.1 e (by simpa using he);all_goals simp_all[SB]
  | succ k=>grind[SB]
theorem AnF {md:Region.Mode} {n:Nat} {rk:List Nat}: ∀(l:List Oper) (i:Nat),dI md n rk i l=true-> ∀(k:Nat) (o:Oper),l[k]? =some o-> ∀ e∈o.after,Region.binds md e=true->e.on<n/\rk.getD e.on 0<rk.getD (i+k) 0:=by
 intro l
 induction l with
 | nil=>intro i _ k o h;simp at h
 | cons x r ih =>
  intro i h k o hk e he hb;simp only[dI,Dq]at h;cases k with
  | zero =>simp at hk;subst hk;have:=D8.1 h.1 e (by simpa using he);all_goals simp_all[dI]
  | succ k=>grind[dI]
theorem Aqj {ops:Array Oper} (h:ordered ops.toList=true) (md:Region.Mode): ∃ rk:Nat->Nat,∀(j:Nat) (o:Oper),ops[j]? =some o-> ∀ e∈o.after,Region.binds md e=true->e.on<ops.size/\rk e.on<rk j:=by
 unfold ordered at h;rw[Dq,EE]at h;rcases h.2 with h | h
 .refine⟨id,fun j o hj e he _=> ?_⟩;have h1:=AmZ _ _ h j o (by simpa using hj) e he;all_goals grind[ordered]
 .simp only[Dq]at h;have key:AjY md ops.toList=true:=by cases md<;>first | exact h.1.1 | exact h.1.2 | exact h.2
  refine⟨fun i=>(ranks md ops.toList ops.toList.length (ops.toList.map fun _=>0)).getD i 0,fun j o hj e he hb=> ?_⟩;have:=AnF _ _ key j o (by simpa using hj) e he hb;all_goals grind[ordered]
theorem Ale {α β :Type} {f g: α ->List β}: ∀(l:List α),(∀ x∈l,f x=g x)->l.flatMap f=l.flatMap g:=by
 intro l
 induction l with
 | nil=>intro _;rfl
 | cons x r ih=>grind
theorem Aut {ops:List Oper}: ∀(l:List Oper) (acc:List (List Nat)) (st:St),SB acc.length l=true->(V3 C ops l acc st).length=l.length /\
 ∀(k:Nat) (o:Oper),l[k]? =some o-> ∃ x,(V3 C ops l acc st)[k]? =some x/\x.o=o/\x.anc=(Zg o).flatMap (fun e=>e::(acc++(V3 C ops l acc st).map LG.anc).getD e []):=by
 intro l
 induction l with
 | nil=>intro acc st _;exact⟨rfl,fun k o h=>by simp at h⟩
 | cons o' r ih =>
  intro acc st h;have hb:=Ak6 _ _ h;simp only[SB,Dq]at h;let an:=(Zg o').flatMap (fun e=>e::acc.getD e []);let s1:=apply st o' (KO C ops o' st);have hf:V3 C ops (o'::r) acc st=⟨o',KO C ops o' st,LV o' st (KF o' st),oneOf C o'.op (KF o' st),an⟩::V3 C ops r (acc++[an]) s1:=rfl;obtain⟨g1,g2⟩:=ih (acc++[an]) s1 (by simpa using h.2);rw[hf];refine⟨by simp [g1],fun k o hk=> ?_⟩;cases k with
  | zero =>simp at hk;subst hk;refine⟨_,rfl,rfl,?_⟩;refine Ale _ fun e he=> ?_;obtain⟨ed,h1,h2,h3⟩:=Aw4 he;have hlt:=hb 0 o' rfl ed h1 h3;rw[Dj,Dj,Es (by omega)]
  | succ k =>obtain⟨x,h1,h2,h3⟩:=g2 k o (by simpa using hk);refine⟨x,by simpa using h1,h2,?_⟩;rw[h3];simp [DZ]
theorem Aus {ρ :Type} {ops:List Oper} {K:St->Option ρ} {v: ρ}: ∀(l:List Oper) (acc:List (List Nat)) (st:St),Yo C ops l st K=some v-> ∃ st',Adi C ops (V3 C ops l acc st) st st'/\K st'=some v/\ ∀ x∈V3 C ops l acc st,JE x.δ.ok:=by
 intro l
 induction l with
 | nil=>intro acc st h;exact⟨st,rfl,h,fun x hx=>by cases hx⟩
 | cons o r ih =>
  intro acc st h;obtain⟨h1,h2⟩:=VD (show allT (KO C ops o st).ok (Yo C ops r (apply st o (KO C ops o st)) K)=some v from h);obtain⟨st',h3,h4,h5⟩:=ih (acc++[(Zg o).flatMap (fun e=>e::acc.getD e [])]) _ h2;refine⟨st',⟨⟨rfl,rfl,rfl⟩,h3⟩,h4,fun x hx=> ?_⟩;rcases D7.1 hx with rfl | hx
  .exact h1
  .exact h5 x hx
theorem Sim.drew (hS:Sim V0 O0 w0 O m st a w):Sim V0 O0 w0 O m st a {w with drawn:=w.drawn+1} :=
 hS.next (st':=st) (d:=none) (v:=undef) (x:=.undef) (T:=fun _=>False) (Nw:=fun _=>False) ⟨rfl,rfl,rfl,DV _,fun _ _=>.inl rfl⟩ ⟨fun _ _ _ h=>h,fun _ _ _ _ h _=>h⟩ (fun _ _ _ h=>h) (fun _ y ho=>.inr ⟨y,ho,rfl,rfl⟩) (fun _ h=>h.elim) (fun _ h=>h.elim)
  (fun _ _ ho=>.inl ⟨id,ho,rfl⟩) rfl (fun h=>absurd rfl h)
theorem Aui {ρ :Type} (hC:OG P C) {fin:St->Option ρ} {v: ρ} (id:Nat) (ops:Array Oper) {O:Own} {m:Nat->Value} {st:St} {a:Act} {w:World} (K:Ex->St->Option ρ) (hS:Sim V0 O0 w0 O m st a w) (hd:UW C ops.toList st=true)
 (hx:Yo C ops.toList ops.toList st (fun st'=>K .normal st')=some v):(Code.region id ops true).wp P (Post V0 O0 w0 fin K v) a w:=by
 unfold UW at hd;dsimp only at hd;simp only[Dq]at hd;obtain⟨⟨⟨d1,d2⟩,d3⟩,d4⟩:=hd;have d1A:SB 0 ops.toList=true:=by all_goals grind[ordered]
 obtain⟨f1,f2⟩:=Aut (C:=C) (ops:=ops.toList) ops.toList [] st d1A;obtain⟨st',r1,r2,r3⟩:=Aus ops.toList [] st hx;generalize hfs:V3 C ops.toList ops.toList [] st=fs at *
 have hlen:fs.length=ops.size:=by rw[f1];simp
 have hsize:(enum 0 fs).length=ops.size:=by rw[Ar5,hlen]
 have hany: ∀ md,wpAny P md ops (Post V0 O0 w0 fin K v) ops.size (Array.replicate ops.size false) a {w with drawn:=w.drawn+1}:=by
  intro md;obtain⟨rk,hrk⟩:=Aqj d1 md
  refine AyQ (V0:=V0) (O0:=O0) (w0:=w0) hC (K:=fun st'=>K .normal st') (v:=v) (st':=st') (fun O' m' s a' w' h1 h2=>⟨O',m',s,h1,h2⟩) (ANC:=fs.map LG.anc) (rk:=rk) (fun j o hj i hi=> ?_) hrk
   ops.size (enum 0 fs) _ hsize (AyY _ _) (fun p hp=> ?_) (by simp) (fun i hi=> ?_) (fun e he i _=> ?_) (Auk _ _ d2) (fun p hp n hn=> ?_) (Av5 d4) (by rw[AyZ];exact r1) r2 hS.drew
  .obtain⟨x,h1,h2,h3⟩:=f2 j o (by simpa using hj);have e1:(fs.map LG.anc).getD j []=x.anc:=by rw[Dj,EC,h1];rfl
   rw[e1,h3]at hi;obtain⟨e,he,hie⟩:=Ep.1 hi;rcases D7.1 hie with h | h
   .exact⟨e,he,.inl h⟩
   .exact⟨e,he,.inr (by simpa using h)⟩
  .obtain⟨k,h1,h2⟩:=Abl _ _ _ hp;rw[DT]at h1
   have hk:k<ops.toList.length:=by
    rw[<- f1];rcases Ej k fs.length with h | h
    .exact h
    .rw[Ed h]at h2;cases h2
   obtain⟨x,h3,h4,h5⟩:=f2 k ops.toList[k] (by simp at hk ⊢);rw[h2]at h3;injection h3 with h3;refine⟨?_,r3 _ (H6 h2),?_⟩
   .rw[h1,h3,h4];simp at hk ⊢
   .rw[h1,Dj,EC,h2];rfl
  .rw[AyX];simp [Du,hi,hlen]
  .have:(Array.replicate ops.size false).getD e false=false:=by
    rw[Du,Array.getElem?_replicate];split<;>rfl
   rw[this]at he;cases he
  .grind[Abl]
 refine wp_region_draw fun t=> ?_;unfold Region.schedule;split
 .exact wpAny_sound _ _ _ _ _ (hany _)
 .exact wpAny_sound _ _ _ _ _ (hany _)
end
section
variable {P:Program} {C:Ctx}
def Aox:List (Nat×Sig)->Nat->Option Sig
 | [],_=>none
 | (k,x)::r,t=>bif Nat.beq k t then some x else Aox r t
theorem AwO: ∀ {l:List (Nat×Sig)} {t:Nat} {x:Sig},Aox l t=some x->(t,x)∈l:=by
 intro l
 induction l with
 | nil=>intro t x h;cases h
 | cons p r ih=>grind[Aox,Xl]
def A0N:List (Nat×Nrm)->Nat->Option Nrm
 | [],_=>none
 | (k,x)::r,t=>bif Nat.beq k t then some x else A0N r t
def Aol:List (Nat×Alt)->Nat->Option Alt
 | [],_=>none
 | (k,x)::r,t=>bif Nat.beq k t then some x else Aol r t
def Aot:List (Nat×(Nat->Sig))->Nat->Option (Nat->Sig)
 | [],_=>none
 | (k,x)::r,t=>bif Nat.beq k t then some x else Aot r t
def A0P:List (Nat×Nat×Nat×List Nat)->Nat->Option (Nat×Nat×List Nat)
 | [],_=>none
 | (k,x)::r,t=>bif Nat.beq k t then some x else A0P r t
def A0K:List (Nat×List (Nat×Nat))->Nat->List (Nat×Nat)
 | [],_=>[]
 | (k,x)::r,t=>bif Nat.beq k t then x else A0K r t
def ctx (P:Program) (gs:List (Nat×Sig)) (ns:List (Nat×Nrm)) (aa:List (Nat×Alt):=[]) (dd:List (Nat×(Nat->Sig)):=[]) (cc:List Nat:=[]) (bb:List Nat:=[]) (ss:List (Nat×Nat×Nat×List Nat):=[]) (kk:List (Nat×List (Nat×Nat)):=[]):Ctx:=⟨AvK P,Aox gs,A0N ns,Aol aa,Aot dd,cc,bb,fun _=>none,A0P ss,A0K kk⟩
def AaP (P:Program) (F:Nat->Sig):Prop:=(∀ xs,(F 0).ok xs=false)/\ ∀ f xs,(F (f+1)).ok xs=true->Spec P f (F (f+1))
def AoB (P:Program):List (Nat×(Nat->Sig))->Prop
 | []=>True
 | (_,F)::r=>AaP P F/\AoB P r
theorem AoB.look: ∀ {l:List (Nat×(Nat->Sig))},AoB P l-> ∀ t F,Aot l t=some F->AaP P F:=by
 intro l
 induction l with
 | nil=>intro _ t F h;cases h
 | cons p r ih=>grind[Aot,Xl,AoB,AaP]
def Atn (P:Program):List (Nat×Alt)->Prop
 | []=>True
 | (f,q)::r=>(Spec P f q.1/\Spec P f q.2.1)/\Atn P r
theorem Atn.look: ∀ {l:List (Nat×Alt)},Atn P l-> ∀ f q,Aol l f=some q->Spec P f q.1/\Spec P f q.2.1:=by
 intro l
 induction l with
 | nil=>intro _ f q h;cases h
 | cons p r ih =>
  intro h f q hq;obtain⟨k,x⟩:=p;simp only[Aol,Xl]at hq;by_cases hk:k=f
  .simp only[hk,I5,cond_true,F8]at hq;rw[<- hq,<- hk];exact h.1
  .rw[show decide (k=f)=false by simpa using hk]at hq;exact ih h.2 f q hq
def Air (P:Program):List (Nat×Sig)->Prop
 | []=>True
 | (f,sg)::r=>Spec P f sg/\Air P r
theorem Air.mem: ∀ {l:List (Nat×Sig)},Air P l-> ∀ p∈l,Spec P p.1 p.2:=by
 intro l
 induction l with
 | nil=>intro _ p hp;cases hp
 | cons q r ih=>grind[Air,Spec]
theorem Jw {gs:List (Nat×Sig)} {ns:List (Nat×Nrm)} {aa:List (Nat×Alt)} {dd:List (Nat×(Nat->Sig))} {cc bb:List Nat} {ss:List (Nat×Nat×Nat×List Nat)} {kk:List (Nat×List (Nat×Nat))} (hG:Air P gs) (hA:Atn P aa:=by trivial) (hD:AoB P dd:=by trivial):OG P (ctx P gs ns aa dd cc bb ss kk) :=
 ⟨fun _ _ h=>h,fun _ _ h=>hG.mem _ (AwO h),hA.look,hD.look⟩
theorem enters {f:FuncId} {fn:Func} (hf:P.funcs[f]? =some fn) (hb:fn.body.isNone=false) (hn:(fn.name== "runtime.NumGoroutine")=false) (args:Array Value) (w:World):(callFunc f args).run P w= .ok (.enter f args) w:=by
 have h1:fn.name≠ "runtime.NumGoroutine" :=by simpa using hn
 have h2:fn.body≠none:=by intro e;rw[e]at hb;cases hb
 simp [callFunc,hf,h1,h2]
def LP:(ks:List (Bool×CK))->List A->Option (tyl (ks.map (·.2))).Val
 | []=>fun
  | []=>some ()
  | _=>none
 | (_,.bool)::r=>fun
  | .bool b::cs=>(LP r cs).map (fun q=>Ty.mk2 _ b q)
  | _=>none
 | (_,.int k)::r=>fun
  | .int j n::cs=>bif A.kEq j k then(LP r cs).map (fun q=>Ty.mk2 _ n q)else none
  | _=>none
 | (_,.str)::r=>fun
  | .str s::cs=>(LP r cs).map (fun q=>Ty.mk2 _ s q)
  | _=>none
 | (false,.sl _ t)::r=>fun
  | .sl l::cs=>match l.cast t with
   | some xs=>(LP r cs).map (fun q=>Ty.mk2 _ xs q)
   | none=>none
  | _=>none
 | (true,.sl e t)::r=>fun
  | .usl z e' l::cs=>bif z&&Nat.beq e' e then match l.cast t with
   | some xs=>(LP r cs).map (fun q=>Ty.mk2 _ xs q)
   | none=>none
   else none
  | _=>none
 | (true,.sln e t)::r=>fun
  | .usl z e' l::cs=>bif !z&&Nat.beq e' e then match l.cast t with
   | some xs=>(LP r cs).map (fun q=>Ty.mk2 _ xs q)
   | none=>none
   else none
  | _=>none
 | (false,.sln _ t)::r=>fun
  | .sln l::cs=>match l.cast t with
   | some xs=>(LP r cs).map (fun q=>Ty.mk2 _ xs q)
   | none=>none
  | _=>none
 | (_,.ptr)::r=>fun
  | .Me::cs=>(LP r cs).map (fun q=>q)
  | _=>none
 | (_,.fn)::r=>fun
  | .fn n::cs=>(LP r cs).map (fun q=>Ty.mk2 _ n q)
  | _=>none
 | (_,.mp kt vt)::r=>fun
  | .ump l::cs=>match l.cast kt vt with
   | some xs=>(LP r cs).map (fun q=>Ty.mk2 _ xs q)
   | none=>none
  | _=>none
 | (true,.bx t)::r=>fun
  | .box ds::cs=>bif (t.mk (ds.map A.weak)).1&&ds.all A.AuZ then(LP r cs).map (fun q=>Ty.mk2 _ [(t.mk (ds.map A.weak)).2] q)else none
  | _=>none
 | (false,.bx _)::_=>fun _=>none
 | (_,.oth)::_=>fun _=>none
def NT:(ks:List (Bool×CK))->(tyl (ks.map (·.2))).Val->List A
 | [],_=>[]
 | (_,.bool)::r,v=>.bool (Ty.hd _ v)::NT r (Ty.tl _ v)
 | (_,.int k)::r,v=>.int k (Ty.hd _ v)::NT r (Ty.tl _ v)
 | (_,.str)::r,v=>.str (Ty.hd _ v)::NT r (Ty.tl _ v)
 | (false,.sl _ t)::r,v=>.sl ⟨t,Ty.hd _ v⟩::NT r (Ty.tl _ v)
 | (true,.sl e t)::r,v=>.usl true e ⟨t,Ty.hd _ v⟩::NT r (Ty.tl _ v)
 | (true,.sln e t)::r,v=>.usl false e ⟨t,Ty.hd _ v⟩::NT r (Ty.tl _ v)
 | (false,.sln _ t)::r,v=>.sln ⟨t,Ty.hd _ v⟩::NT r (Ty.tl _ v)
 | (_,.ptr)::r,v=>.Me::NT r v
 | (_,.fn)::r,v=>.fn (Ty.hd _ v)::NT r (Ty.tl _ v)
 | (_,.mp kt vt)::r,v=>.ump ⟨kt,vt,Ty.hd _ v⟩::NT r (Ty.tl _ v)
 | (true,.bx t)::r,v=>.box ((t.cells ((Ty.hd _ v).headD t.zero)).map A.strong)::NT r (Ty.tl _ v)
 | (false,.bx _)::_,_=>[]
 | (_,.oth)::_,_=>[]
theorem Ass: ∀(ds:List A),ds.all A.AuZ=true->(ds.map A.weak).map A.strong=ds:=by
 intro ds
 induction ds with
 | nil=>intro _;rfl
 | cons d ds ih =>intro h;rw[List.all_cons,Dq]at h;rw[Ee,Ee,ih h.2];congr 1;cases d<;>first | rfl | cases h.1
theorem pO: ∀(ks:List (Bool×CK)) (cs:List A) (v:(tyl (ks.map (·.2))).Val),LP ks cs=some v->cs=NT ks v:=by
 intro ks
 induction ks with
 | nil =>
  intro cs v h;cases cs with
  | nil=>rfl
  | cons _ _=>cases h
 | cons k ks ih =>
  intro cs v h;obtain⟨u,k⟩:=k;have none': ∀ {α :Type} {x: α},(none:Option α)=some x->False:=fun h=>by cases h
  cases k with
  | bool =>
   simp only[LP]at h;split at h
   .rename_i b cs;cases hd:LP ks cs with
    | none=>rw[hd]at h;cases h
    | some q =>rw[hd]at h;injection h with h;subst h;simp only[NT,Ty.PX,Ty.Qd];rw[<- ih cs q hd]
   .exact(none' h).elim
  | int k =>
   simp only[LP]at h;split at h
   .rename_i j n cs;cases hk:A.kEq j k with
    | false=>rw[hk]at h;exact(none' h).elim
    | true =>
     rw[hk]at h;cases hd:LP ks cs with
     | none=>rw[hd]at h;cases h
     | some q =>rw[hd]at h;injection h with h;subst h;simp only[NT,Ty.PX,Ty.Qd];rw[<- ih cs q hd,A.Ri hk]
   .exact(none' h).elim
  | str =>
   simp only[LP]at h;split at h
   .rename_i b cs;cases hd:LP ks cs with
    | none=>rw[hd]at h;cases h
    | some q =>rw[hd]at h;injection h with h;subst h;simp only[NT,Ty.PX,Ty.Qd];rw[<- ih cs q hd]
   .exact(none' h).elim
  | sl e t =>
   cases u with
   | false =>
    simp only[LP]at h;split at h
    .rename_i l cs;cases hc:l.cast t with
     | none=>rw[hc]at h;exact(none' h).elim
     | some xs =>
      rw[hc]at h;dsimp only at h;cases hd:LP ks cs with
      | none=>rw[hd]at h;cases h
      | some q =>rw[hd]at h;injection h with h;subst h;simp only[NT,Ty.PX,Ty.Qd];rw[<- ih cs q hd,Sl.QO hc]
    .exact(none' h).elim
   | true =>
    simp only[LP]at h;split at h
    .rename_i z e' l cs;cases he:z&&Nat.beq e' e with
     | false=>rw[he]at h;exact(none' h).elim
     | true =>
      rw[he]at h;dsimp only[cond_true]at h;cases hc:l.cast t with
      | none=>rw[hc]at h;exact(none' h).elim
      | some xs =>
       rw[hc]at h;dsimp only at h;cases hd:LP ks cs with
       | none=>rw[hd]at h;cases h
       | some q =>rw[hd]at h;injection h with h;subst h;simp only[NT,Ty.PX,Ty.Qd];rw[Dq]at he;rw[<- ih cs q hd,Sl.QO hc,Dy he.2,he.1]
    .exact(none' h).elim
  | ptr =>
   simp only[LP]at h;split at h
   .rename_i cs;cases hd:LP ks cs with
    | none=>rw[hd]at h;cases h
    | some q =>rw[hd]at h;injection h with h;subst h;simp only[NT];rw[<- ih cs _ hd]
   .exact(none' h).elim
  | fn =>
   simp only[LP]at h;split at h
   .rename_i b cs;cases hd:LP ks cs with
    | none=>rw[hd]at h;cases h
    | some q =>rw[hd]at h;injection h with h;subst h;simp only[NT,Ty.PX,Ty.Qd];rw[<- ih cs q hd]
   .exact(none' h).elim
  | sln e t =>
   cases u with
   | false =>
    simp only[LP]at h;split at h
    .rename_i l cs;cases hc:l.cast t with
     | none=>rw[hc]at h;exact(none' h).elim
     | some xs =>
      rw[hc]at h;dsimp only at h;cases hd:LP ks cs with
      | none=>rw[hd]at h;cases h
      | some q =>rw[hd]at h;injection h with h;subst h;simp only[NT,Ty.PX,Ty.Qd];rw[<- ih cs q hd,Sl.QO hc]
    .exact(none' h).elim
   | true =>
    simp only[LP]at h;split at h
    .rename_i z e' l cs;cases he: !z&&Nat.beq e' e with
     | false=>rw[he]at h;exact(none' h).elim
     | true =>
      rw[he]at h;dsimp only[cond_true]at h;cases hc:l.cast t with
      | none=>rw[hc]at h;exact(none' h).elim
      | some xs =>
       rw[hc]at h;dsimp only at h;cases hd:LP ks cs with
       | none=>rw[hd]at h;cases h
       | some q =>rw[hd]at h;injection h with h;subst h;simp only[NT,Ty.PX,Ty.Qd];rw[Dq]at he;rw[<- ih cs q hd,Sl.QO hc,Dy he.2,show z=false from by simpa using he.1]
    .exact(none' h).elim
  | mp kt vt =>
   simp only[LP]at h;split at h
   .rename_i l cs;cases hc:l.cast kt vt with
    | none=>rw[hc]at h;exact(none' h).elim
    | some xs =>
     rw[hc]at h;dsimp only at h;cases hd:LP ks cs with
     | none=>rw[hd]at h;cases h
     | some q =>rw[hd]at h;injection h with h;subst h;simp only[NT,Ty.PX,Ty.Qd];rw[<- ih cs q hd,Mp.QO hc]
   .exact(none' h).elim
  | bx t =>
   cases u with
   | false=>simp only[LP]at h;exact(none' h).elim
   | true =>
    simp only[LP]at h;split at h
    .rename_i ds cs;cases hk:(t.mk (ds.map A.weak)).1&&ds.all A.AuZ with
     | false=>rw[hk]at h;exact(none' h).elim
     | true =>
      rw[hk]at h;rw[Dq]at hk;cases hd:LP ks cs with
      | none=>rw[hd]at h;cases h
      | some q =>rw[hd]at h;injection h with h;subst h;simp only[NT,Ty.PX,Ty.Qd];rw[<- ih cs q hd];congr 2;show _=(t.cells (t.mk (ds.map A.weak)).2).map A.strong;rw[Ty.UC _ _ hk.1,Ass _ hk.2]
    .exact(none' h).elim
  | oth=>simp only[LP]at h;exact(none' h).elim
def Sh.ks:Sh->List (Bool×CK)
 | .cell u k=>[(u,k)]
 | .agg ks=>ks
 | .box ks=>ks
 | .clo _ ks=>ks
 | .map kt vt=>[(true,.mp kt vt)]
def Sh.T (s:Sh):Type:=(tyl (s.ks.map (·.2))).Val
def Sh.dec:(s:Sh)->A->Option s.T
 | .cell u k,x=>LP [(u,k)] [x]
 | .agg ks,.agg cs=>LP ks cs
 | .box ks,.box cs=>LP ks cs
 | .clo f ks,.cbx g cs=>bif Nat.beq f g then LP ks cs else none
 | .map kt vt,x=>LP [(true,.mp kt vt)] [x]
 | _,_=>none
def Sh.enc:(s:Sh)->s.T->A
 | .cell u k,v=>(NT [(u,k)] v).getD 0 .undef
 | .agg ks,v=>.agg (NT ks v)
 | .box ks,v=>.box (NT ks v)
 | .clo f ks,v=>.cbx f (NT ks v)
 | .map kt vt,v=>(NT [(true,.mp kt vt)] v).getD 0 .undef
theorem Sh.A1o {s:Sh} {x:A} {v:s.T} (h:s.dec x=some v):x=s.enc v:=by
 cases s with
 | cell u k =>have:=pO _ _ _ (show LP [(u,k)] [x]=some v from h);show x=(NT [(u,k)] v).getD 0 .undef;rw[<- this];rfl
 | agg ks =>
  cases x with
  | agg cs =>have:=pO _ _ _ (show LP ks cs=some v from h);show _=A.agg (NT ks v);rw[<- this]
  | _=>cases h
 | box ks =>
  cases x with
  | box cs =>have:=pO _ _ _ (show LP ks cs=some v from h);show _=A.box (NT ks v);rw[<- this]
  | _=>cases h
 | clo f ks =>
  cases x with
  | cbx g cs =>
   have h:(bif Nat.beq f g then LP ks cs else none)=some v:=h;cases hb:Nat.beq f g with
   | false=>rw[hb]at h;cases h
   | true =>rw[hb]at h;have:=pO _ _ _ (show LP ks cs=some v from h);show _=A.cbx f (NT ks v);rw[<- this,Dy hb]
  | _=>cases h
 | map kt vt =>have:=pO _ _ _ (show LP [(true,.mp kt vt)] [x]=some v from h);show x=(NT [(true,.mp kt vt)] v).getD 0 .undef;rw[<- this];rfl
def prS (s:Sh) (β :Type):List Sh->Type
 | []=>s.T
 | _::_=>s.T× β
def ShT:List Sh->Type
 | []=>Unit
 | s::r=>prS s (ShT r) r
def hdS (s:Sh):(r:List Sh)->prS s (ShT r) r->s.T
 | [],v=>v
 | _::_,v=>v.1
def tlS (s:Sh):(r:List Sh)->prS s (ShT r) r->ShT r
 | [],_=>()
 | _::_,v=>v.2
def mkS (s:Sh):(r:List Sh)->s.T->ShT r->prS s (ShT r) r
 | [],a,_=>a
 | _::_,a,b=>(a,b)
theorem A3b (s:Sh) (r:List Sh) (a:s.T) (b:ShT r):hdS s r (mkS s r a b)=a:=by cases r<;>rfl
theorem A3M (s:Sh) (r:List Sh) (a:s.T) (b:ShT r):tlS s r (mkS s r a b)=b:=by cases r<;>rfl
def Aoo (s:Sh) (r:List Sh):Option s.T->Option (ShT r)->Option (prS s (ShT r) r)
 | some a,some b=>some (mkS s r a b)
 | _,_=>none
theorem AtF {s:Sh} {r:List Sh} {x:Option s.T} {y:Option (ShT r)} {v:prS s (ShT r) r} (h:Aoo s r x y=some v): ∃ a b,x=some a/\y=some b/\v=mkS s r a b:=by
 cases x with
 | none=>cases h
 | some a =>
  cases y with
  | none=>cases h
  | some b=>grind[Sh,ShT,prS,Aoo,mkS]
def bP:(ss:List Sh)->List A->Option (ShT ss)
 | []=>fun
  | []=>some ()
  | _=>none
 | s::r=>fun
  | []=>none
  | x::xs=>Aoo s r (s.dec x) (bP r xs)
def encs:(ss:List Sh)->ShT ss->List A
 | [],_=>[]
 | s::r,v=>s.enc (hdS s r v)::encs r (tlS s r v)
theorem Apf: ∀(ss:List Sh) (xs:List A) (v:ShT ss),bP ss xs=some v->xs=encs ss v:=by
 intro ss
 induction ss with
 | nil =>
  intro xs v h;cases xs with
  | nil=>rfl
  | cons _ _=>cases h
 | cons s ss ih =>
  intro xs v h;cases xs with
  | nil=>cases h
  | cons x xs =>obtain⟨a,b,h1,h2,h3⟩:=AtF (show Aoo s ss (s.dec x) (bP ss xs)=some v from h);subst h3;show _=s.enc (hdS s ss (mkS s ss a b))::encs ss (tlS s ss (mkS s ss a b));rw[A3b,A3M,<- Sh.A1o h1,<- ih xs b h2]
def Sh.zero (s:Sh):s.T:=Ty.zero _
def zeroS:(ss:List Sh)->ShT ss
 | []=>()
 | s::r=>mkS s r s.zero (zeroS r)
def MV (J7 JP:List Sh):List Sh:=JP++J7.filterMap (fun | .box ks=>some (.agg ks) | .clo _ ks=>some (.agg ks) | .map kt vt=>some (.map kt vt) | _=>none)
def Sig.of (J7 JP:List Sh) (f:ShT J7->Option (ShT (MV J7 JP))):Sig where
 J7:=J7
 JP:=JP
 ok xs:=match bP J7 xs with
  | some a=>(f a).isSome
  | none=>false
 val xs:=match bP J7 xs with
  | some a=>encs (MV J7 JP) ((f a).getD (zeroS _))
  | none=>[]
def Abg (J7 JP:List Sh):List (Nat×(ShT J7->Option (ShT (MV J7 JP))))->Nat->ShT J7->Option (ShT (MV J7 JP))
 | [],_,_=>none
 | (f,g)::r,n,x=>bif Nat.beq n (f+1)then g x else Abg J7 JP r n x
def Adg (P:Program) (J7 JP:List Sh):List (Nat×(ShT J7->Option (ShT (MV J7 JP))))->Prop
 | []=>True
 | (f,g)::r=>Spec P f (Sig.of J7 JP g)/\Adg P J7 JP r
theorem Awy (J7 JP:List Sh): ∀(l:List (Nat×(ShT J7->Option (ShT (MV J7 JP))))) (x:ShT J7),Abg J7 JP l 0 x=none:=by
 intro l
 induction l with
 | nil=>intro x;rfl
 | cons p r ih=>intro x;obtain⟨f,g⟩:=p;simp only[Abg];exact ih x
theorem Awx {J7 JP:List Sh}: ∀ {l:List (Nat×(ShT J7->Option (ShT (MV J7 JP))))},Adg P J7 JP l-> ∀ f,(∀ x,Abg J7 JP l (f+1) x=none)\/Spec P f (Sig.of J7 JP (Abg J7 JP l (f+1))):=by
 intro l
 induction l with
 | nil=>intro _ f;exact .inl fun x=>rfl
 | cons p r ih=>grind[Abg,Xl,Sh,ShT,MV,Adg,Spec,Sig.of]
theorem AsI {J7 JP:List Sh} {l:List (Nat×(ShT J7->Option (ShT (MV J7 JP))))} (h:Adg P J7 JP l):AaP P (fun n=>Sig.of J7 JP (Abg J7 JP l n)):=by
 refine⟨fun xs=> ?_,fun f xs hok=> ?_⟩
 .show(match bP J7 xs with | some a=>(Abg J7 JP l 0 a).isSome | none=>false)=false;cases bP J7 xs with
  | none=>rfl
  | some a=>grind[Awy]
 .rcases Awx h f with h0 | h0
  .have hok':(match bP J7 xs with | some a=>(Abg J7 JP l (f+1) a).isSome | none=>false)=true:=hok;cases hd:bP J7 xs with
   | none=>rw[hd]at hok';cases hok'
   | some a=>simp_all[hd,Sh,ShT,MV,Adg,AaP,Sig.of]
  .exact h0
theorem Sig.Aaw {J7 JP:List Sh} {f:ShT J7->Option (ShT (MV J7 JP))} {xs rs:List A} (h:(Sig.of J7 JP f).F xs=some rs): ∃ a o,xs=encs J7 a/\f a=some o/\rs=encs _ o:=by
 unfold Sig.F Sig.of at h;dsimp only at h;cases hd:bP J7 xs with
 | none=>rw[hd]at h;cases h
 | some a =>
  rw[hd]at h;dsimp only at h;cases hf:f a with
  | none=>rw[hf]at h;cases h
  | some o =>rw[hf]at h;injection h with h;exact⟨a,o,Apf _ _ _ hd,hf,h.symm⟩
def jQ (C:Ctx) (J7 JP:List Sh) (outs:List (Nat×Option Nat)) (st:St):Option (ShT (MV J7 JP)) :=
 allT ((JS st.Js JP (P8 C outs st)).1++(JS st.Js (J7.map PU) (Qm J7 0)).1 ++
  [nodup ((Oh st.Js 256000 256 JP (P8 C outs st)++Oh st.Js 0 256 (J7.map PU) (Qm J7 0)).map (·.1)),!(JP.any wS||(J7.map PU).any wS)||((JS st.Js JP (P8 C outs st)).2.2.1.isEmpty&&(JS st.Js (J7.map PU) (Qm J7 0)).2.2.1.isEmpty)]++outs.flatMap (fun q=>(AhL C st q).1))
  (bP _ ((JS st.Js JP (P8 C outs st)).2.1++(L6 J7 0).map (fun i=>unbox ((JS st.Js (J7.map PU) (Qm J7 0)).2.1.getD i .undef))))
theorem A0Z {α β :Type} {l:List Bool} {x:Option α} {y: α} (h:allT l x=some y) (z: β):allT l (some z)=some z:=by
 induction l with
 | nil=>rfl
 | cons c cs ih=>grind[allT]
theorem AwF {C:Ctx} {J7 JP:List Sh} {outs:List (Nat×Option Nat)} {st:St} {o:ShT (MV J7 JP)} (h:jQ C J7 JP outs st=some o):finish C J7 JP outs st=some (encs _ o):=by unfold jQ at h;obtain⟨_,h2⟩:=VD h;all_goals grind[Apf,finish,A0Z]
theorem aO {ρ :Type} {fin:St->Option ρ} (hC:OG P C) (N:Nat) {f:FuncId} {fn:Func} {code:Code} {outs:List (Nat×Option Nat)} {J7 JP:List Sh} {g:ShT J7->Option (ShT (MV J7 JP))} (hf:P.funcs[f]? =some fn) (hb:fn.body=some code) (hn:(fn.name== "runtime.NumGoroutine")=false)
 (hout:fn.results=(outs.map rv).toArray) (hF: ∀ a o,g a=some o-> ∃ r,runK C N J7 fn.ntmps code fin (encs J7 a)=some r/\ ∀ st,fin st=some r->jQ C J7 JP outs st=some o):Spec P f (Sig.of J7 JP g) :=
 ⟨enters hf (by rw[hb];rfl) hn,fun _ _ _ xs rs hI hv hl h100 hx hrs=>by obtain⟨a,o,h1,h2,h3⟩:=Sig.Aaw hrs;subst h1;subst h3;obtain⟨r,h4,h5⟩:=hF a o h2;exact AxO (sg:=Sig.of J7 JP g) (o:=r) hC N (fun {_} hC' {_ _ _ _ _ _} id ops _ _ _ _ _ K hS hd hx=>Aui hC' id ops K hS hd hx) hf hb hout hI hv hl h100 hx h4 (fun st h=>AwF (h5 st h))⟩
end
def KC {α ρ :Type} (A:(α ->Option ρ)->Option ρ) (f: α ->Option ρ):Option ρ :=A f
def J6 {ρ :Type} (b:Bool) (k:Bool->Option ρ):Option ρ :=k b
def o8 {ρ :Type} (b:Bool) (k:Bool->Option ρ):J6 b k=k b:=rfl
def A3g {α β :Type}:Option (α ⊕ β)->Bool
 | some (.inr _)=>false
 | _=>true
def A2Y {α β :Type}:Option (α ⊕ β)->Option α
 | some (.inl x)=>some x
 | _=>none
def A2Z {α β :Type}:Option (α ⊕ β)->Option β
 | some (.inr x)=>some x
 | _=>none
def SC {α β ρ :Type} [Inhabited α] [Inhabited β] (o:Option (α ⊕ β)) (k: α ->Option ρ) (l: β ->Option ρ):Option ρ :=bif A3g o then Jr (A2Y o) k else Jr (A2Z o) l
def Uf {α β ρ :Type} [Inhabited α] [Inhabited β] (x: α) (k: α ->Option ρ) (l: β ->Option ρ):SC (some (.inl x)) k l=k x:=rfl
def QN {α β ρ :Type} [Inhabited α] [Inhabited β] (x: β) (k: α ->Option ρ) (l: β ->Option ρ):SC (some (.inr x)) k l=l x:=rfl
def strings_Join (_:Nat) (l:List Bs) (sep:Bs):Option Bs:=bif decide (l.length<=140737488355328)&&decide ((sep.intercalate l).length<=140737488355328)then some (sep.intercalate l)else none
def U2 {a0 a1 r:Type} (f:a0->a1->r) (x:a0×a1):r:=f x.1 x.2
def U3 {a0 a1 a2 r:Type} (f:a0->a1->a2->r) (x:a0×a1×a2):r:=f x.1 x.2.1 x.2.2
def U4 {a0 a1 a2 a3 r:Type} (f:a0->a1->a2->a3->r) (x:a0×a1×a2×a3):r:=f x.1 x.2.1 x.2.2.1 x.2.2.2
def U5 {a0 a1 a2 a3 a4 r:Type} (f:a0->a1->a2->a3->a4->r) (x:a0×a1×a2×a3×a4):r:=f x.1 x.2.1 x.2.2.1 x.2.2.2.1 x.2.2.2.2
def U6 {a0 a1 a2 a3 a4 a5 r:Type} (f:a0->a1->a2->a3->a4->a5->r) (x:a0×a1×a2×a3×a4×a5):r:=f x.1 x.2.1 x.2.2.1 x.2.2.2.1 x.2.2.2.2.1 x.2.2.2.2.2
def U7 {a0 a1 a2 a3 a4 a5 a6 r:Type} (f:a0->a1->a2->a3->a4->a5->a6->r) (x:a0×a1×a2×a3×a4×a5×a6):r:=f x.1 x.2.1 x.2.2.1 x.2.2.2.1 x.2.2.2.2.1 x.2.2.2.2.2.1 x.2.2.2.2.2.2
def U8 {a0 a1 a2 a3 a4 a5 a6 a7 r:Type} (f:a0->a1->a2->a3->a4->a5->a6->a7->r) (x:a0×a1×a2×a3×a4×a5×a6×a7):r:=f x.1 x.2.1 x.2.2.1 x.2.2.2.1 x.2.2.2.2.1 x.2.2.2.2.2.1 x.2.2.2.2.2.2.1 x.2.2.2.2.2.2.2
def U9 {a0 a1 a2 a3 a4 a5 a6 a7 a8 r:Type} (f:a0->a1->a2->a3->a4->a5->a6->a7->a8->r) (x:a0×a1×a2×a3×a4×a5×a6×a7×a8):r:=f x.1 x.2.1 x.2.2.1 x.2.2.2.1 x.2.2.2.2.1 x.2.2.2.2.2.1 x.2.2.2.2.2.2.1 x.2.2.2.2.2.2.2.1 x.2.2.2.2.2.2.2.2
def U10 {a0 a1 a2 a3 a4 a5 a6 a7 a8 a9 r:Type} (f:a0->a1->a2->a3->a4->a5->a6->a7->a8->a9->r) (x:a0×a1×a2×a3×a4×a5×a6×a7×a8×a9):r:=f x.1 x.2.1 x.2.2.1 x.2.2.2.1 x.2.2.2.2.1 x.2.2.2.2.2.1 x.2.2.2.2.2.2.1 x.2.2.2.2.2.2.2.1 x.2.2.2.2.2.2.2.2.1 x.2.2.2.2.2.2.2.2.2
def U11 {a0 a1 a2 a3 a4 a5 a6 a7 a8 a9 a10 r:Type} (f:a0->a1->a2->a3->a4->a5->a6->a7->a8->a9->a10->r) (x:a0×a1×a2×a3×a4×a5×a6×a7×a8×a9×a10):r:=f x.1 x.2.1 x.2.2.1 x.2.2.2.1 x.2.2.2.2.1 x.2.2.2.2.2.1 x.2.2.2.2.2.2.1 x.2.2.2.2.2.2.2.1 x.2.2.2.2.2.2.2.2.1 x.2.2.2.2.2.2.2.2.2.1 x.2.2.2.2.2.2.2.2.2.2
def U12 {a0 a1 a2 a3 a4 a5 a6 a7 a8 a9 a10 a11 r:Type} (f:a0->a1->a2->a3->a4->a5->a6->a7->a8->a9->a10->a11->r) (x:a0×a1×a2×a3×a4×a5×a6×a7×a8×a9×a10×a11):r:=f x.1 x.2.1 x.2.2.1 x.2.2.2.1 x.2.2.2.2.1 x.2.2.2.2.2.1 x.2.2.2.2.2.2.1 x.2.2.2.2.2.2.2.1 x.2.2.2.2.2.2.2.2.1 x.2.2.2.2.2.2.2.2.2.1 x.2.2.2.2.2.2.2.2.2.2.1 x.2.2.2.2.2.2.2.2.2.2.2
def U13 {a0 a1 a2 a3 a4 a5 a6 a7 a8 a9 a10 a11 a12 r:Type} (f:a0->a1->a2->a3->a4->a5->a6->a7->a8->a9->a10->a11->a12->r) (x:a0×a1×a2×a3×a4×a5×a6×a7×a8×a9×a10×a11×a12):r:=f x.1 x.2.1 x.2.2.1 x.2.2.2.1 x.2.2.2.2.1 x.2.2.2.2.2.1 x.2.2.2.2.2.2.1 x.2.2.2.2.2.2.2.1 x.2.2.2.2.2.2.2.2.1 x.2.2.2.2.2.2.2.2.2.1 x.2.2.2.2.2.2.2.2.2.2.1 x.2.2.2.2.2.2.2.2.2.2.2.1 x.2.2.2.2.2.2.2.2.2.2.2.2
def U14 {a0 a1 a2 a3 a4 a5 a6 a7 a8 a9 a10 a11 a12 a13 r:Type} (f:a0->a1->a2->a3->a4->a5->a6->a7->a8->a9->a10->a11->a12->a13->r) (x:a0×a1×a2×a3×a4×a5×a6×a7×a8×a9×a10×a11×a12×a13):r:=f x.1 x.2.1 x.2.2.1 x.2.2.2.1 x.2.2.2.2.1 x.2.2.2.2.2.1 x.2.2.2.2.2.2.1 x.2.2.2.2.2.2.2.1 x.2.2.2.2.2.2.2.2.1 x.2.2.2.2.2.2.2.2.2.1 x.2.2.2.2.2.2.2.2.2.2.1 x.2.2.2.2.2.2.2.2.2.2.2.1 x.2.2.2.2.2.2.2.2.2.2.2.2.1 x.2.2.2.2.2.2.2.2.2.2.2.2.2
def U15 {a0 a1 a2 a3 a4 a5 a6 a7 a8 a9 a10 a11 a12 a13 a14 r:Type} (f:a0->a1->a2->a3->a4->a5->a6->a7->a8->a9->a10->a11->a12->a13->a14->r) (x:a0×a1×a2×a3×a4×a5×a6×a7×a8×a9×a10×a11×a12×a13×a14):r:=f x.1 x.2.1 x.2.2.1 x.2.2.2.1 x.2.2.2.2.1 x.2.2.2.2.2.1 x.2.2.2.2.2.2.1 x.2.2.2.2.2.2.2.1 x.2.2.2.2.2.2.2.2.1 x.2.2.2.2.2.2.2.2.2.1 x.2.2.2.2.2.2.2.2.2.2.1 x.2.2.2.2.2.2.2.2.2.2.2.1 x.2.2.2.2.2.2.2.2.2.2.2.2.1 x.2.2.2.2.2.2.2.2.2.2.2.2.2.1 x.2.2.2.2.2.2.2.2.2.2.2.2.2.2
def U16 {a0 a1 a2 a3 a4 a5 a6 a7 a8 a9 a10 a11 a12 a13 a14 a15 r:Type} (f:a0->a1->a2->a3->a4->a5->a6->a7->a8->a9->a10->a11->a12->a13->a14->a15->r) (x:a0×a1×a2×a3×a4×a5×a6×a7×a8×a9×a10×a11×a12×a13×a14×a15):r:=f x.1 x.2.1 x.2.2.1 x.2.2.2.1 x.2.2.2.2.1 x.2.2.2.2.2.1 x.2.2.2.2.2.2.1 x.2.2.2.2.2.2.2.1 x.2.2.2.2.2.2.2.2.1 x.2.2.2.2.2.2.2.2.2.1 x.2.2.2.2.2.2.2.2.2.2.1 x.2.2.2.2.2.2.2.2.2.2.2.1 x.2.2.2.2.2.2.2.2.2.2.2.2.1 x.2.2.2.2.2.2.2.2.2.2.2.2.2.1 x.2.2.2.2.2.2.2.2.2.2.2.2.2.2.1 x.2.2.2.2.2.2.2.2.2.2.2.2.2.2.2
def U17 {a0 a1 a2 a3 a4 a5 a6 a7 a8 a9 a10 a11 a12 a13 a14 a15 a16 r:Type} (f:a0->a1->a2->a3->a4->a5->a6->a7->a8->a9->a10->a11->a12->a13->a14->a15->a16->r) (x:a0×a1×a2×a3×a4×a5×a6×a7×a8×a9×a10×a11×a12×a13×a14×a15×a16):r:=f x.1 x.2.1 x.2.2.1 x.2.2.2.1 x.2.2.2.2.1 x.2.2.2.2.2.1 x.2.2.2.2.2.2.1 x.2.2.2.2.2.2.2.1 x.2.2.2.2.2.2.2.2.1 x.2.2.2.2.2.2.2.2.2.1 x.2.2.2.2.2.2.2.2.2.2.1 x.2.2.2.2.2.2.2.2.2.2.2.1 x.2.2.2.2.2.2.2.2.2.2.2.2.1 x.2.2.2.2.2.2.2.2.2.2.2.2.2.1 x.2.2.2.2.2.2.2.2.2.2.2.2.2.2.1 x.2.2.2.2.2.2.2.2.2.2.2.2.2.2.2.1 x.2.2.2.2.2.2.2.2.2.2.2.2.2.2.2.2
def U18 {a0 a1 a2 a3 a4 a5 a6 a7 a8 a9 a10 a11 a12 a13 a14 a15 a16 a17 r:Type} (f:a0->a1->a2->a3->a4->a5->a6->a7->a8->a9->a10->a11->a12->a13->a14->a15->a16->a17->r) (x:a0×a1×a2×a3×a4×a5×a6×a7×a8×a9×a10×a11×a12×a13×a14×a15×a16×a17):r:=f x.1 x.2.1 x.2.2.1 x.2.2.2.1 x.2.2.2.2.1 x.2.2.2.2.2.1 x.2.2.2.2.2.2.1 x.2.2.2.2.2.2.2.1 x.2.2.2.2.2.2.2.2.1 x.2.2.2.2.2.2.2.2.2.1 x.2.2.2.2.2.2.2.2.2.2.1 x.2.2.2.2.2.2.2.2.2.2.2.1 x.2.2.2.2.2.2.2.2.2.2.2.2.1 x.2.2.2.2.2.2.2.2.2.2.2.2.2.1 x.2.2.2.2.2.2.2.2.2.2.2.2.2.2.1 x.2.2.2.2.2.2.2.2.2.2.2.2.2.2.2.1 x.2.2.2.2.2.2.2.2.2.2.2.2.2.2.2.2.1 x.2.2.2.2.2.2.2.2.2.2.2.2.2.2.2.2.2
def U19 {a0 a1 a2 a3 a4 a5 a6 a7 a8 a9 a10 a11 a12 a13 a14 a15 a16 a17 a18 r:Type} (f:a0->a1->a2->a3->a4->a5->a6->a7->a8->a9->a10->a11->a12->a13->a14->a15->a16->a17->a18->r) (x:a0×a1×a2×a3×a4×a5×a6×a7×a8×a9×a10×a11×a12×a13×a14×a15×a16×a17×a18):r:=f x.1 x.2.1 x.2.2.1 x.2.2.2.1 x.2.2.2.2.1 x.2.2.2.2.2.1 x.2.2.2.2.2.2.1 x.2.2.2.2.2.2.2.1 x.2.2.2.2.2.2.2.2.1 x.2.2.2.2.2.2.2.2.2.1 x.2.2.2.2.2.2.2.2.2.2.1 x.2.2.2.2.2.2.2.2.2.2.2.1 x.2.2.2.2.2.2.2.2.2.2.2.2.1 x.2.2.2.2.2.2.2.2.2.2.2.2.2.1 x.2.2.2.2.2.2.2.2.2.2.2.2.2.2.1 x.2.2.2.2.2.2.2.2.2.2.2.2.2.2.2.1 x.2.2.2.2.2.2.2.2.2.2.2.2.2.2.2.2.1 x.2.2.2.2.2.2.2.2.2.2.2.2.2.2.2.2.2.1 x.2.2.2.2.2.2.2.2.2.2.2.2.2.2.2.2.2.2
def U20 {a0 a1 a2 a3 a4 a5 a6 a7 a8 a9 a10 a11 a12 a13 a14 a15 a16 a17 a18 a19 r:Type} (f:a0->a1->a2->a3->a4->a5->a6->a7->a8->a9->a10->a11->a12->a13->a14->a15->a16->a17->a18->a19->r) (x:a0×a1×a2×a3×a4×a5×a6×a7×a8×a9×a10×a11×a12×a13×a14×a15×a16×a17×a18×a19):r:=f x.1 x.2.1 x.2.2.1 x.2.2.2.1 x.2.2.2.2.1 x.2.2.2.2.2.1 x.2.2.2.2.2.2.1 x.2.2.2.2.2.2.2.1 x.2.2.2.2.2.2.2.2.1 x.2.2.2.2.2.2.2.2.2.1 x.2.2.2.2.2.2.2.2.2.2.1 x.2.2.2.2.2.2.2.2.2.2.2.1 x.2.2.2.2.2.2.2.2.2.2.2.2.1 x.2.2.2.2.2.2.2.2.2.2.2.2.2.1 x.2.2.2.2.2.2.2.2.2.2.2.2.2.2.1 x.2.2.2.2.2.2.2.2.2.2.2.2.2.2.2.1 x.2.2.2.2.2.2.2.2.2.2.2.2.2.2.2.2.1 x.2.2.2.2.2.2.2.2.2.2.2.2.2.2.2.2.2.1 x.2.2.2.2.2.2.2.2.2.2.2.2.2.2.2.2.2.2.1 x.2.2.2.2.2.2.2.2.2.2.2.2.2.2.2.2.2.2.2
def U21 {a0 a1 a2 a3 a4 a5 a6 a7 a8 a9 a10 a11 a12 a13 a14 a15 a16 a17 a18 a19 a20 r:Type} (f:a0->a1->a2->a3->a4->a5->a6->a7->a8->a9->a10->a11->a12->a13->a14->a15->a16->a17->a18->a19->a20->r) (x:a0×a1×a2×a3×a4×a5×a6×a7×a8×a9×a10×a11×a12×a13×a14×a15×a16×a17×a18×a19×a20):r:=f x.1 x.2.1 x.2.2.1 x.2.2.2.1 x.2.2.2.2.1 x.2.2.2.2.2.1 x.2.2.2.2.2.2.1 x.2.2.2.2.2.2.2.1 x.2.2.2.2.2.2.2.2.1 x.2.2.2.2.2.2.2.2.2.1 x.2.2.2.2.2.2.2.2.2.2.1 x.2.2.2.2.2.2.2.2.2.2.2.1 x.2.2.2.2.2.2.2.2.2.2.2.2.1 x.2.2.2.2.2.2.2.2.2.2.2.2.2.1 x.2.2.2.2.2.2.2.2.2.2.2.2.2.2.1 x.2.2.2.2.2.2.2.2.2.2.2.2.2.2.2.1 x.2.2.2.2.2.2.2.2.2.2.2.2.2.2.2.2.1 x.2.2.2.2.2.2.2.2.2.2.2.2.2.2.2.2.2.1 x.2.2.2.2.2.2.2.2.2.2.2.2.2.2.2.2.2.2.1 x.2.2.2.2.2.2.2.2.2.2.2.2.2.2.2.2.2.2.2.1 x.2.2.2.2.2.2.2.2.2.2.2.2.2.2.2.2.2.2.2.2
def U23 {a0 a1 a2 a3 a4 a5 a6 a7 a8 a9 a10 a11 a12 a13 a14 a15 a16 a17 a18 a19 a20 a21 a22 r:Type} (f:a0->a1->a2->a3->a4->a5->a6->a7->a8->a9->a10->a11->a12->a13->a14->a15->a16->a17->a18->a19->a20->a21->a22->r) (x:a0×a1×a2×a3×a4×a5×a6×a7×a8×a9×a10×a11×a12×a13×a14×a15×a16×a17×a18×a19×a20×a21×a22):r:=f x.1 x.2.1 x.2.2.1 x.2.2.2.1 x.2.2.2.2.1 x.2.2.2.2.2.1 x.2.2.2.2.2.2.1 x.2.2.2.2.2.2.2.1 x.2.2.2.2.2.2.2.2.1 x.2.2.2.2.2.2.2.2.2.1 x.2.2.2.2.2.2.2.2.2.2.1 x.2.2.2.2.2.2.2.2.2.2.2.1 x.2.2.2.2.2.2.2.2.2.2.2.2.1 x.2.2.2.2.2.2.2.2.2.2.2.2.2.1 x.2.2.2.2.2.2.2.2.2.2.2.2.2.2.1 x.2.2.2.2.2.2.2.2.2.2.2.2.2.2.2.1 x.2.2.2.2.2.2.2.2.2.2.2.2.2.2.2.2.1 x.2.2.2.2.2.2.2.2.2.2.2.2.2.2.2.2.2.1 x.2.2.2.2.2.2.2.2.2.2.2.2.2.2.2.2.2.2.1 x.2.2.2.2.2.2.2.2.2.2.2.2.2.2.2.2.2.2.2.1 x.2.2.2.2.2.2.2.2.2.2.2.2.2.2.2.2.2.2.2.2.1 x.2.2.2.2.2.2.2.2.2.2.2.2.2.2.2.2.2.2.2.2.2.1 x.2.2.2.2.2.2.2.2.2.2.2.2.2.2.2.2.2.2.2.2.2.2
abbrev CW {a b c d e:Type} (x:a×b×c×d×e):e:=x.2.2.2.2
abbrev CX {a b c d e f g h i:Type} (x:a×b×c×d×e×f×g×h×i):i:=x.2.2.2.2.2.2.2.2
abbrev CY {a b c d e f g h i j k l m:Type} (x:a×b×c×d×e×f×g×h×i×j×k×l×m):m:=x.2.2.2.2.2.2.2.2.2.2.2.2
abbrev CZ {a b c d e f g h i j k l m n o p q:Type} (x:a×b×c×d×e×f×g×h×i×j×k×l×m×n×o×p×q):q:=x.2.2.2.2.2.2.2.2.2.2.2.2.2.2.2.2
abbrev Dc {a b c d e f g h i j k l m n o p q r s t u:Type} (x:a×b×c×d×e×f×g×h×i×j×k×l×m×n×o×p×q×r×s×t×u):u:=x.2.2.2.2.2.2.2.2.2.2.2.2.2.2.2.2.2.2.2.2
abbrev Df {a b c d e f g h i j k l m n o p q r s t u v w x y:Type} (x:a×b×c×d×e×f×g×h×i×j×k×l×m×n×o×p×q×r×s×t×u×v×w×x×y):y:=x.2.2.2.2.2.2.2.2.2.2.2.2.2.2.2.2.2.2.2.2.2.2.2.2
abbrev Dh {a b c d e f g h i j k l m n o p q r s t u v w x y z A B C:Type} (x:a×b×c×d×e×f×g×h×i×j×k×l×m×n×o×p×q×r×s×t×u×v×w×x×y×z×A×B×C):C:=x.2.2.2.2.2.2.2.2.2.2.2.2.2.2.2.2.2.2.2.2.2.2.2.2.2.2.2.2
abbrev Aa {ρ:Type} (b:Bool) (k:Option ρ):Option ρ:=chk (b||!b) k
abbrev Ac {ρ:Type} (b:Bool) (k:Option ρ):Option ρ:=Aa b (Aa b k)
abbrev Ad {ρ:Type} (b:Bool) (k:Option ρ):Option ρ:=Aa b (Ac b k)
abbrev Ae {ρ:Type} (b:Bool) (k:Option ρ):Option ρ:=Aa b (Ad b k)
abbrev Af {ρ:Type} (b:Bool) (k:Option ρ):Option ρ:=Aa b (Ae b k)
abbrev Ag {ρ:Type} (b:Bool) (k:Option ρ):Option ρ:=Aa b (Af b k)
abbrev Ah {ρ:Type} (b:Bool) (k:Option ρ):Option ρ:=chk (bif b then b else true) (chk (bif b then true else true) k)
abbrev Ai {ρ:Type} (b:Bool) (k:Option ρ):Option ρ:=chk (bif b then true else !b) (chk (bif b then true else true) k)
abbrev Aj {ρ:Type} (i:Int) (n:Nat) (k:Option ρ):Option ρ:=chk (decide (0<=i)) (chk (decide (i<(n:Int))) k)
abbrev Ak {ρ:Type} (p:Prop) [Decidable p] (k:Option ρ):Option ρ:=chk (decide p) k
abbrev Am {ρ:Type} (n:Nat) (k:Option ρ):Option ρ:=chk (decide (n<=140737488355328)) k
open Go.RowKit
def Below.moves {O:Own} {T:Nat->Prop} {w w':World} (h:Below w.heap.size w w'):Moves O T w w':=⟨h.os,h.tape,h.output,h.size,fun b hb=>.inl (h.block b hb)⟩
noncomputable def SX (e N:Nat):Sig:=.of [.cell false (.sl e (.str .nil)),.cell false .str] [.cell false .str] (fun a=>strings_Join N a.1 a.2)
def VE {O:Own} {w:World} {v:Value} {s:List UInt8} (h:JC O w v (.str s)):v= .string ⟨s.toArray⟩:=by
 cases h with
 | str s=>simp_all[Own,JC]
def lS {O:Own} {w w':World} {vs:Array Value} {e N:Nat} {s:List UInt8} (hb:Below w.heap.size w w'):Came O w vs (SX e N) [.str s] (.string ⟨s.toArray⟩) O w':=by
 refine⟨Below.moves hb,fun b k _ h=>h,fun b k _ h=>h,rfl,⟨#[.string ⟨s.toArray⟩],rfl,rfl,fun k hk=> ?_⟩,fun j i hj=> ?_⟩
 .have hk0:k=0:=by simp at hk;omega
  subst hk0;show JC O w' (.string ⟨s.toArray⟩) (.str s);exact JC.str (O:=O) (w:=w') ⟨s.toArray⟩
 .exact absurd hj (by show(L6 [.cell false (.sl e (.str .nil)),.cell false .str] 0)[j]? ≠some i;simp [L6,KJ])
def AoC (P:Program) (f:FuncId):Prop :=
 (∀(a:Option Addr) (c:Nat) (sep:ByteArray) (w:World),Calls P f #[.slice a 0 c,.string sep] w fun e w'=>e= .returned (.string ⟨#[]⟩)/\w'=w) /\
 (∀(bk o c:Nat) (xs:List ByteArray) (sep:ByteArray) (w:World),(∀(j:Nat) x,xs[j]? =some x->w.cell? ⟨bk,o+j,none⟩=some (.string x))->bk<w.heap.size->xs.length<=140737488355328->xs.length<=c->(Lib.join (xs.map (·.data.toList)) sep.data.toList).length<=140737488355328 ->
   Calls P f #[.slice (some ⟨bk,o,none⟩) xs.length c,.string sep] w fun e w'=>e= .returned (.string ⟨(Lib.join (xs.map (·.data.toList)) sep.data.toList).toArray⟩)/\Below w.heap.size w w')
def Aii {P:Program} {f:FuncId} {e N:Nat} (H:AoC P f) {O:Own} {w:World} {vs:Array Value} (l:List Bs) (sep o:Bs) (hl2:vs.size=2) (hx0:JC O w (vs.getD 0 undef) (.sl ⟨.str .nil,l⟩)) (hx1:JC O w (vs.getD 1 undef) (.str sep)) (h2':strings_Join N l sep=some o) :
 Calls P f vs w fun e' w'=> ∃ v O',e'= .returned v/\Came O w vs (SX e N) [.str o] v O' w':=by
 obtain⟨hn,hj⟩:=H
 have hvs:vs= #[vs.getD 0 undef,vs.getD 1 undef]:=by
  apply FI
  .simpa using hl2
  .intro i h1 h2;have:i=0\/i=1:=by simp at h2;omega
   rcases this with rfl | rfl
   .simp [Du,h1]
   .simp [Du,h1]
 rw[VE hx1]at hvs;unfold strings_Join at h2';cases hc:(decide (l.length<=140737488355328)&&decide ((sep.intercalate l).length<=140737488355328))with
 | false=>rw[hc]at h2';cases h2'
 | true =>
  rw[hc]at h2';injection h2' with h2';rw[Dq,D5,D5]at hc;subst h2';have hes0:(⟨.str .nil,l⟩:Sl).es=l.map (fun s:Bs=>[A.str s]):=rfl;generalize hv0:vs.getD 0 undef=v0 at *
  have hnil:l=[]-> ∀ a c,v0= .slice a 0 c->Calls P f vs w fun e' w'=> ∃ v O',e'= .returned v/\Came O w vs (SX e N) [.str (sep.intercalate l)] v O' w':=by
   intro hl0 a c hv0';have:=hn a c ⟨sep.toArray⟩ w;rw[<- hv0',<- hvs]at this;refine this.mono fun e' w' hq=> ?_;obtain⟨h4,h5⟩:=hq;subst h5;refine⟨_,O,h4,?_⟩;have:sep.intercalate l=[]:=by rw[hl0];rfl
   rw[this];exact lS (Below.refl _ _)
  have hsz:(⟨.str .nil,l⟩:Sl).sz=1:=rfl;generalize hL:(⟨.str .nil,l⟩:Sl)=L at hx0 hes0 hsz;have hlen:L.es.length=l.length:=by rw[hes0,Dz]
  have hes: ∀ j:Nat,L.es[j]? =(l[j]?).map (fun s=>[A.str s]):=fun j=>by rw[hes0,EC]
  cases hx0 with
  | nil t =>
   have:l=[]:=by injection hL with h1 h2;subst h1;exact Ja h2
   exact hnil this _ _ rfl
  | sl0 ad t =>
   have:l=[]:=by injection hL with h1 h2;subst h1;exact Ja h2
   exact hnil this _ _ rfl
  | @sl b off cap l' vs' hcap hm hr =>
   cases hl0:l with
   | nil=>rw[<- hl0];exact hnil hl0 _ cap (by rw[hlen,hl0];rfl)
   | cons s0 r =>
    have hb:b<w.heap.size:=by have:=(hm 0 0 (by rw[hlen,hl0];simp) (by omega)).2;exact cell_lt this
    rw[<- hl0]
    have hmap:(l.map (fun s=>(⟨s.toArray⟩:ByteArray))).map (·.data.toList)=l:=by
     rw[Fh]
     conv=>rhs;rw[<- Gp l]
     refine E5 fun s _=> ?_;simp
    have hJ:=hj b off cap (l.map (fun s=>(⟨s.toArray⟩:ByteArray))) ⟨sep.toArray⟩ w (fun j x hjx=>by
     rw[EC]at hjx;cases hlj:l[j]? with
     | none=>rw[hlj]at hjx;cases hjx
     | some s =>
      rw[hlj]at hjx;injection hjx with hjx
      have hjl:j<L.es.length:=by
       rw[hlen];rcases Ej j l.length with h | h
       .exact h
       .rw[Ed h]at hlj;cases hlj
      have hm1:=(hm j 0 hjl (by omega)).2;have hr1:=hr j 0 hjl (by omega);rw[Dj (l:=L.es),hes,hlj]at hr1;have:=VE (show JC O w (vs' j 0) (.str s)from hr1);rw[this]at hm1;rw[<- hjx];have e1:off+(j*L.sz+0)=off+j:=by rw[hsz];omega
      rw[e1]at hm1;exact hm1) hb (by rw[Dz];exact hc.1) (by rw[Dz,<- hlen];exact hcap) (by rw[hmap];show(List.intercalate _ l).length<=_;simpa using hc.2)
    rw[Dz,hmap,<- hlen,<- hvs]at hJ;refine hJ.mono fun e' w' hq=> ?_;have e2:Lib.join l (⟨sep.toArray⟩:ByteArray).data.toList=sep.intercalate l:=by show List.intercalate _ l=_;simp
    rw[e2]at hq;exact⟨_,O,hq.1,lS hq.2⟩
def Akl {P:Program} {f:FuncId} {e N:Nat} (hent: ∀ args w,(callFunc f args).run P w= .ok (.enter f args) w) (H:AoC P f):Spec P f (SX e N):=by refine⟨hent,fun O w vs xs rs _ hv hl _ hx hrs=> ?_⟩;obtain⟨a,o,h1,h2,h3⟩:=Sig.Aaw hrs;subst h1;have h3':rs=[.str o]:=h3;rw[h3'];exact Aii H a.1 a.2 o hv (hx 0 (by show 0<2;omega)) (hx 1 (by show 1<2;omega)) h2
end Go.Proofs.YtmgpaalplkkpnaaGreatDoor.Vm
