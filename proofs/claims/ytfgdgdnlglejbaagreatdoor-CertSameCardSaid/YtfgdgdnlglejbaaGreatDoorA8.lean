import Derived.Test.YtfgdgdnlglejbaaGreatDoorA7
import Derived.Orders
import Derived.OwnWalk
import Derived.Lib.Join
import Derived.Below
set_option linter.all false
namespace Go.Proofs.YtfgdgdnlglejbaaGreatDoor.Vm
open Classical
section
variable {P:Program} {C:Ctx} {V0:Nat->Value} {O0 O:Own} {w0 w:World} {m:Nat->Value} {st:St} {a:Act}
def Nj {a b:List Nat} (h:VG a b=true): ∀ n∈a,n∉b:=by intro n hn hb;have:=D7.1 h n hn;rw[Qa.2 hb]at this;cases this
def lastOf:List (Nat×Obj)->Nat->Option Obj
 | [],_=>none
 | (n,x)::r,k=>match lastOf r k with
  | some y=>some y
  | none=>if n=k then some x else none
theorem Aii {u:List (Nat×Obj)} {k:Nat} (h:k∉u.map (·.1)):lastOf u k=none:=by
 induction u with
 | nil=>rfl
 | cons p r ih=>grind[lastOf]
def AhQ (u:List (Nat×Obj)): ∀(l:List (Nat×Obj)) (k:Nat),J9 (JI l u) k=match lastOf u k with | some x=>some x | none=>J9 l k:=by
 induction u with
 | nil=>intro l k;rfl
 | cons p r ih=>grind[JI,KE,lastOf]
theorem Ua (st:St) (o:Oper) (δ :Dl) (k:Nat):J9 (apply st o δ).Ju k=match lastOf δ.new k with
 | some x=>some x
 | none=>if k∈ δ.del then none else match lastOf δ.upd k with
  | some x=>some x
  | none=>J9 st.Ju k:=by
 unfold apply;dsimp only;rw[AhQ,Vx,AhQ]
def Wj {st:St} {o:Oper} {δ :Dl} {k:Nat} (h:k∉ δ.upd.map (·.1)++ δ.del++ δ.new.map (·.1)):J9 (apply st o δ).Ju k=J9 st.Ju k:=by grind[Ua,Aii]
def Srt:List (Nat×Obj)->Prop:=List.Pairwise (fun p q=>p.1<q.1)
def Avu: ∀ {l:List (Nat×Obj)},sorted l=true->Srt l:=by
 intro l
 induction l with
 | nil=>intro _;exact List.Pairwise.nil
 | cons p r ih =>
  intro h;cases r with
  | nil=>exact G8 _ _
  | cons q r =>
   obtain⟨n,x⟩:=p;obtain⟨k,y⟩:=q;simp only[sorted,Dw,EF]at h;have hr:=ih h.2;refine List.Pairwise.cons (fun q hq=> ?_) hr;rcases D8.1 hq with rfl | hq
   .exact h.1
   .exact Nat.lt_trans h.1 ((EE.1 hr).1 q hq)
theorem Srt.TZ {l:List (Nat×Obj)} (h:Srt l) (n:Nat):Srt (Vm.TZ l n):=by
 induction l with
 | nil=>exact h
 | cons p r ih =>
  obtain⟨k,x⟩:=p;obtain⟨h1,h2⟩:=EE.1 h;rw[Ae9];split
  .exact ih h2
  .exact List.Pairwise.cons (fun q hq=>h1 q (Ajs hq)) (ih h2)
theorem Srt.jS {l:List (Nat×Obj)} (h:Srt l) {n:Nat} (y:Obj) (hn:J9 l n=none):Srt (Vm.jS l n y):=by
 induction l with
 | nil=>exact G8 _ _
 | cons p r ih =>
  obtain⟨k,x⟩:=p;obtain⟨h1,h2⟩:=EE.1 h;rw[O9]at hn;have hkn:k≠n:=fun e=>by rw[Dt e]at hn;cases hn
  rw[Du hkn]at hn;simp only[Vm.jS];cases hle:Nat.ble n k with
  | true =>have:=DR hle;refine List.Pairwise.cons (fun q hq=> ?_) h;all_goals grind[Obj,Srt,J9]
  | false =>
   have hlt:k<n:=by
    rcases Ef k n with h | h
    .exact h
    .rw[Nat.ble_eq_true_of_le h]at hle;cases hle
   refine List.Pairwise.cons (fun q hq=> ?_) (ih h2 hn);rcases AqG hq with rfl | hq
   .exact hlt
   .exact h1 q hq
theorem Srt.Md {l:List (Nat×Obj)} (h:Srt l) (n:Nat) (y:Obj):Srt (Vm.Md l n y):=(h.TZ n).jS y (by rw[vV,Dt rfl])
theorem Srt.JI: ∀(u:List (Nat×Obj)) {l:List (Nat×Obj)},Srt l->Srt (Vm.JI l u):=by
 intro u
 induction u with
 | nil=>intro l h;exact h
 | cons p r ih=>intro l h;obtain⟨n,x⟩:=p;exact ih (h.Md n x)
theorem Srt.Ky: ∀(u:List Nat) {l:List (Nat×Obj)},Srt l->Srt (Vm.Ky l u):=by
 intro u
 induction u with
 | nil=>intro l h;exact h
 | cons n r ih=>intro l h;exact ih (h.TZ n)
def Srt.apply {st:St} (h:Srt st.Ju) (o:Oper) (δ :Dl):Srt (Vm.apply st o δ).Ju:=((h.JI δ.upd).Ky δ.del).JI δ.new
theorem gX {n:Nat} {x:Obj} {r:List (Nat×Obj)}:J9 ((n,x)::r) n=some x:=by rw[O9,Dt rfl]
theorem AsL {l:List (Nat×Obj)} {k:Nat} (h: ∀ p∈l,k<p.1):J9 l k=none:=by
 cases hx:J9 l k with
 | none=>rfl
 | some x=>exact absurd (h _ (AiB hx)) (Nat.lt_irrefl _)
def Srt.ext: ∀ {l l':List (Nat×Obj)},Srt l->Srt l'->(∀ k,J9 l k=J9 l' k)->l=l':=by
 intro l
 induction l with
 | nil =>
  intro l' _ _ h;cases l' with
  | nil=>rfl
  | cons p r=>grind[gX,Obj,Srt,J9]
 | cons p r ih =>
  intro l' h1 h2 h;obtain⟨n,x⟩:=p;cases l' with
  | nil=>grind[gX,Obj,Srt,J9]
  | cons q r' =>
   obtain⟨k,y⟩:=q;obtain⟨a1,a2⟩:=EE.1 h1;obtain⟨b1,b2'⟩:=EE.1 h2;have hnk:n=k:=by all_goals grind[gX,AsL,a1]
   subst hnk;have hx:=h n;rw[gX,gX]at hx;injection hx with hx;subst hx;rw[ih a2 b2' (fun j=> ?_)];by_cases hj:n=j
   .grind[AsL,a1]
   .have:=h j;rw[O9,O9,Du hj,Du hj]at this;exact this
def put_comm (tmps:List A) {d e:Option Tmp} (x y:A) (h: ∀ t,d=some t->e≠some t):put (put tmps d x) e y=put (put tmps e y) d x:=by
 cases d with
 | none=>rfl
 | some d =>
  cases e with
  | none=>rfl
  | some e =>have:d≠e:=fun he=>h d rfl (by rw[he]);exact List.set_comm _ _ this
def Ato (tmps:List A) {d:Option Tmp} (x:A) {t:Nat} (h:d≠some t):(put tmps d x).getD t .undef=tmps.getD t .undef:=by
 cases d with
 | none=>rfl
 | some d=>grind[put]
def oW {o:Oper} {t:Nat}:t∈fK o↔o.dst=some t:=by grind[fK]
def Aqf {ops:List Oper} {o:Oper} {tmps:List A} {d:Option Tmp} {v:A} (h: ∀ t,d=some t->t∉slotsOf ops o) {x:Operand} (hx:x∈o.op.operands):Lp (put tmps d v) x=Lp tmps x:=by
 cases x with
 | tmp t =>refine Ato tmps v fun hd=>h t hd ?_;exact DF _ (IG.2 ⟨.tmp t,by simpa using hx,rfl⟩)
 | _=>rfl
def AnO {ops:List Oper} {o:Oper} {tmps:List A} {d:Option Tmp} {v:A} (h: ∀ t,d=some t->t∉slotsOf ops o):guardOf ops (put tmps d v) o.guard=guardOf ops tmps o.guard:=by
 cases hg:o.guard with
 | none=>rfl
 | some p =>
  obtain⟨j,want⟩:=p;unfold guardOf;dsimp only;cases hj:ops[j]? with
  | none=>rfl
  | some oj =>
   dsimp only;cases hd:oj.dst with
   | none=>rfl
   | some t =>dsimp only;rw[Ato tmps v (t:=t) (fun hd'=>h t hd' (by unfold slotsOf;refine DD _ ?_;rw[hg];dsimp only;rw[hj];dsimp only;rw[hd];simp))]
theorem ArU {Ju objs':List (Nat×Obj)}: ∀(l:List Nat),(∀ n∈l,J9 Ju n=J9 objs' n)->fetch Ju l=fetch objs' l:=by
 intro l
 induction l with
 | nil=>intro _;rfl
 | cons n r ih=>grind[fetch]
def ApL {op:Op} {vs:List A} (h:Aai op vs=true):(∃ x,op= .move x)\/(∃ x,op= .assign x)\/ ∃ t x k q,op= .load t x/\vs=[.clo k q]:=by unfold Aai at h;all_goals grind[split]
def iZ {α :Type} {x:Option α} {k: α ->Dl} (h: ∀ y,(k y).upd=[]):(Kv x k).upd=[]:=by
 cases x with
 | none=>rfl
 | some y=>exact h y
def Yq (s:St) (q off:Nat):J9 (Kz s [.ptr q off]) q=J9 s.Ju q:=by show J9 (fetch s.Ju [q]++fetch s.Ju ((fetch s.Ju [q]).flatMap (fun p=>p.2.ids))) q=_;all_goals grind[J9,fetch,O9]
def AeA {o:Oper} {vs:List A} {q:Nat} (h:cO o.op vs=some q): ∃ off,vs=[.ptr q off]/\ ∀ f f',MQ f q=MQ f' q->opX C o vs f=opX C o vs f'/\(opX C o vs f).upd=[]:=by
 obtain⟨dst,op,ty,pos,after,guard⟩:=o;dsimp only at h;unfold cO at h;split at h
 .injection h with h;subst h;refine⟨_,rfl,fun f f' hb=> ?_⟩;unfold opX;dsimp only[a1];unfold Zi;dsimp only;rw[hb];exact⟨rfl,by unfold Kv;split<;>rfl⟩
 .injection h with h;subst h;refine⟨_,rfl,fun f f' hb=> ?_⟩;unfold opX;dsimp only[a1];unfold Xt nO;dsimp only;rw[hb];refine⟨rfl,?_⟩;unfold MS;refine iZ fun ti=>iZ fun p=> ?_;exact iZ (fun _=>rfl)
 .injection h with h;subst h;refine⟨_,rfl,fun f f' hb=> ?_⟩;unfold opX;dsimp only[a1];unfold fO;dsimp only;rw[hb];refine⟨rfl,?_⟩;unfold MS;exact iZ fun ti=>iZ fun _=>rfl
 .cases h
theorem Aol {ops:List Oper} {o:Oper} {s1 s2:St} (hE: ∀ x∈o.op.operands,Lp s2.tmps x=Lp s1.tmps x) (hG:guardOf ops s2.tmps o.guard=guardOf ops s1.tmps o.guard)
 (key:(opX C o (KF o s1) (Kz s2 (KF o s1))=opX C o (KF o s1) (Kz s1 (KF o s1))/\(∀ f,(opX C o (KF o s1) f).upd=[])/\MG o s2 (KF o s1)=MG o s1 (KF o s1))\/(Kz s2 (KF o s1)=Kz s1 (KF o s1)/\MG o s2 (KF o s1)=MG o s1 (KF o s1))) (h1: ∀ n∈(KJ C ops o s1).new.map (·.1),s1.fresh n=true) (h2: ∀ n∈(KJ C ops o s1).new.map (·.1),s2.fresh n=true) :
 KJ C ops o s2=KJ C ops o s1/\MG o s2 (KF o s2)=MG o s1 (KF o s1)/\KF o s2=KF o s1:=by
 have hmap:o.op.operands.toList.map (Lp s2.tmps)=o.op.operands.toList.map (Lp s1.tmps):=Ea fun x hx=>hE x (by simpa using hx);have hvs:KF o s2=KF o s1:=by unfold KF;rw[hmap]
 have hop:opX C o (KF o s1) (Kz s2 (KF o s1))=opX C o (KF o s1) (Kz s1 (KF o s1)):=by
  rcases key with h | h
  .exact h.1
  .rw[h.1]
 refine⟨?_,by rw[hvs];rcases key with h | h;exact h.2.2;exact h.2,hvs⟩
 have hpl: ∀ pre,(∀ n∈(Ul C o s1 pre).new.map (·.1),s1.fresh n=true)->(∀ n∈(Ul C o s1 pre).new.map (·.1),s2.fresh n=true)->Ul C o s2 pre=Ul C o s1 pre:=by
  intro pre h1 h2;unfold Ul at h1 h2 ⊢;rw[hmap];dsimp only at h1 h2 ⊢;rw[show opX C o (Ls o.op (o.op.operands.toList.map (Lp s1.tmps))).2 (Kz s2 (Ls o.op (o.op.operands.toList.map (Lp s1.tmps))).2)=opX C o (Ls o.op (o.op.operands.toList.map (Lp s1.tmps))).2 (Kz s1 (Ls o.op (o.op.operands.toList.map (Lp s1.tmps))).2)from hop];generalize opX C o (Ls o.op (o.op.operands.toList.map (Lp s1.tmps))).2 (Kz s1 (Ls o.op (o.op.operands.toList.map (Lp s1.tmps))).2)= δ at *
  have a1: δ.new.all (fun p=>s1.fresh p.1)=true:=D7.2 fun p hp=>h1 p.1 (DJ.2 ⟨p,hp,rfl⟩);have a2: δ.new.all (fun p=>s2.fresh p.1)=true:=D7.2 fun p hp=>h2 p.1 (DJ.2 ⟨p,hp,rfl⟩);rw[a1,a2]
 unfold KJ at h1 h2 ⊢;rw[hG,hmap];have hfa':opX C o (Ls o.op (o.op.operands.toList.map (Lp s1.tmps))).2 (Kz s2 (Ls o.op (o.op.operands.toList.map (Lp s1.tmps))).2)=opX C o (Ls o.op (o.op.operands.toList.map (Lp s1.tmps))).2 (Kz s1 (Ls o.op (o.op.operands.toList.map (Lp s1.tmps))).2):=hop;cases hg:guardOf ops s1.tmps o.guard with
 | none=>rfl
 | some r =>
  cases r with
  | some g =>
   rw[hg]at h1 h2;dsimp only at h1 h2 ⊢;cases hde:Auf C o with
   | some b =>
    rw[hde]at h1 h2;cases b with
    | true=>exact hpl _ h1 h2
    | false=>rfl
   | none =>
   dsimp only;rcases key with h | h
   .have hu:=h.2.1 (Kz s1 (KF o s1));rw[hfa'];have hu':(opX C o (Ls o.op (o.op.operands.toList.map (Lp s1.tmps))).2 (Kz s1 (Ls o.op (o.op.operands.toList.map (Lp s1.tmps))).2)).upd=[]:=hu;simp only[hu',EN]
   .grind[Kz,Ls,Lp,guardOf,opX,KF,MG,KJ]
  | none =>rw[hg]at h1 h2;exact hpl _ h1 h2
theorem An8 {o:Oper} {s1 s2:St} (hF: ∀ n∈MG o s1 (KF o s1),J9 s2.Ju n=J9 s1.Ju n) :
 (opX C o (KF o s1) (Kz s2 (KF o s1))=opX C o (KF o s1) (Kz s1 (KF o s1))/\(∀ f,(opX C o (KF o s1) f).upd=[])/\MG o s2 (KF o s1)=MG o s1 (KF o s1))\/(Kz s2 (KF o s1)=Kz s1 (KF o s1)/\MG o s2 (KF o s1)=MG o s1 (KF o s1)):=by
 unfold MG at hF ⊢;cases hm:Aai o.op (KF o s1)with
 | true =>
  have hu: ∀(v:List A),(a1 (fun a=>.v a) v).upd=[]:=fun v=>by
   cases v with
   | nil=>rfl
   | cons x r=>cases r<;>rfl
  rcases ApL hm with ⟨x,e⟩ | ⟨x,e⟩ | ⟨t,x,k,q,e,ev⟩
  .grind[opX]
  .grind[opX]
  .have hl: ∀ f,(fO C f t (.clo k q)).upd=[]:=fun f=>by
    unfold fO MS Kv;cases C.T t<;>rfl
   exact .inl ⟨by unfold opX;rw[e,ev];rfl,fun f=>by unfold opX;rw[e,ev];exact hl f,rfl⟩
 | false =>
  rw[hm]at hF;cases h1':cO o.op (KF o s1)with
  | some q =>rw[h1']at hF;have hq:J9 s2.Ju q=J9 s1.Ju q:=hF q (Ei.2 rfl);obtain⟨off,ev,hO⟩:=AeA (C:=C) h1';refine .inl ⟨(hO _ _ ?_).1,fun f=>(hO f f rfl).2,rfl⟩;rw[ev];unfold MQ;rw[Yq,Yq,hq]
  | none =>
  all_goals grind[fetch,KF,ArU,Kz]
def Avw {ops:List Oper} {o:Oper} {s1 s2:St} (hE: ∀ x∈o.op.operands,Lp s2.tmps x=Lp s1.tmps x) (hG:guardOf ops s2.tmps o.guard=guardOf ops s1.tmps o.guard)
 (hF: ∀ n∈MG o s1 (KF o s1),J9 s2.Ju n=J9 s1.Ju n) (h1: ∀ n∈(KJ C ops o s1).new.map (·.1),s1.fresh n=true) (h2: ∀ n∈(KJ C ops o s1).new.map (·.1),s2.fresh n=true) :
 KJ C ops o s2=KJ C ops o s1/\MG o s2 (KF o s2)=MG o s1 (KF o s1)/\KF o s2=KF o s1:=by grind[Aol,An8]
def Axd {o:Oper} {vs:List A} {q off n:Nat} (h:oneOf C o.op vs=some (q,off,n)):cO o.op vs=some q/\ ∀ {f f':Fet} {cs cs':List A},MQ f q=some cs->MQ f' q=some cs'->cs'.length=cs.length->(∀ k,k<n->cs'.getD (off+k) .undef=cs.getD (off+k) .undef)->opX C o vs f'=opX C o vs f:=by
 obtain⟨dst,op,ty,pos,after,guard⟩:=o;dsimp only at h;unfold oneOf at h;split at h
 .injection h with h;injection h with h1 h2;subst h1;refine⟨rfl,fun {f f' cs cs'} h1 h2 h3 h4=> ?_⟩;unfold opX;dsimp only[a1];unfold Zi;dsimp only;rw[h1,h2];rfl
 .simp_all[opX,a1,Xt,nO,Kv,oneOf,cO,Fet]
 .rename_i t _ o' off';cases ht:C.T t with
  | none=>rw[ht]at h;cases h
  | some ti =>
   rw[ht]at h;dsimp only at h;cases h0:Nat.blt 0 ti.cs.length with
   | false=>rw[h0]at h;cases h
   | true =>
   rw[h0]at h;injection h with h;injection h with h1 h2;injection h2 with h2 h3';subst h1;subst h2;subst h3';have h0:0<ti.cs.length:=by simpa [EF]using h0
   refine⟨rfl,fun {f f' cs cs'} h1 h2 h3 h4=> ?_⟩;unfold opX;dsimp only[a1];unfold fO MS;rw[ht];unfold Kv;dsimp only;rw[h1,h2];dsimp only;rw[h3];congr 1;unfold Ahk;cases ti.agg with
   | false =>have:=h4 0 h0;simpa using this
   | true =>
    refine congrArg A.agg (IP fun i=> ?_);rw[FD,FD];by_cases hi:i<ti.cs.length
    .rw[Dt hi,Dt hi,Fa,Fa];have:=h4 i hi;rw[Dn,Dn]at this;by_cases hl:off'+i<cs.length
     .simp_all[oneOf,cO,Fet,opX]
     .rw[Ec (by omega),Ec (by omega)]
    .rw[Du hi,Du hi]
 .cases h
def OX (fet:Fet) (δ :Dl):Prop:= ∀ e∈ δ.same,∃ cs,MQ fet e.1=some cs/\ ∀ p∈ δ.upd,p.1=e.1-> ∃ cs',p.2= .box cs'/\cs'.length=cs.length/\cs'.getD e.2 .undef=cs.getD e.2 .undef
def AuB {fet:Fet} (x:A) (j:Nat) {δ :Dl} (h:OX fet δ):OX fet (UN fet x j δ):=by
 unfold UN;split
 .rename_i q off;cases hb:MQ fet q with
  | none=>exact h
  | some cs =>
   dsimp only;cases hc:Nat.blt j cs.length&& δ.upd.all (fun p=> !(Nat.beq p.1 q)||Alb cs.length p.2)with
   | false=>exact h
   | true =>
    rw[Dw,EF]at hc;have hset: ∀ ds:List A,ds.length=cs.length-> ∀ i,(ds.set j (cs.getD j .undef)).getD i .undef=if j=i then cs.getD j .undef else ds.getD i .undef:=by intro ds hd i;rw[Dn,FV];by_cases hij:j=i;all_goals simp_all[Fet,OX,UN]
    have key: ∀ p0∈ δ.upd,Nat.beq p0.1 q=true-> ∃ ds,p0.2= .box ds/\ds.length=cs.length:=by
     intro p0 hp0 hq;have h1:=D7.1 hc.2 p0 hp0;rw[hq]at h1;have h1:Alb cs.length p0.2=true:=h1;obtain⟨n,y⟩:=p0;cases y with
     | box ds=>exact⟨ds,rfl,Dx h1⟩
     | _=>cases h1
    intro e he;rcases D8.1 (show e∈(q,j):: δ.same from he)with rfl | he
    .refine⟨cs,hb,fun p hp hpq=> ?_⟩;obtain⟨p0,hp0,rfl⟩:=DJ.1 (show p∈ δ.upd.map _ from hp);cases hq:Nat.beq p0.1 q with
     | false=>simp_all[Fet,OX,UN]
     | true=>grind[Azb]
    .obtain⟨cs0,h4,h5⟩:=h e he;refine⟨cs0,h4,fun p hp hpq=> ?_⟩;obtain⟨p0,hp0,rfl⟩:=DJ.1 (show p∈ δ.upd.map _ from hp);cases hq:Nat.beq p0.1 q with
     | false=>rw[hq]at hpq;exact h5 p0 hp0 hpq
     | true =>rw[hq]at hpq;have hpq:p0.1=e.1:=hpq;obtain⟨ds,h2,h3⟩:=key p0 hp0 hq;obtain⟨cs',g1,g2,g3⟩:=h5 p0 hp0 hpq;all_goals simp_all[Azb,Fet,OX,UN]
 .exact h
def AuD {fet:Fet} (xs:List A): ∀(ks:List (Nat×Nat)) {δ :Dl},OX fet δ ->OX fet (keepD fet xs ks δ):=by
 intro ks
 induction ks with
 | nil=>intro δ h;exact h
 | cons k ks ih=>intro δ h;exact ih (AuB _ _ h)
theorem OX.nil {fet:Fet} {δ :Dl} (h: δ.same=[]):OX fet δ :=fun e he=>by rw[h]at he;cases he
theorem Al0 {o:Oper} {s:St} (pre:List Bool):OX (Kz s (KF o s)) (Ul C o s pre):=by
 cases hc:AgZ o.op with
 | false=>grind[OX.nil,Ul]
 | true =>
  have key:OX (Kz s (KF o s)) (opX C o (KF o s) (Kz s (KF o s))):=by
   generalize KF o s=vs;generalize Kz s vs=fet;obtain⟨dst,op,ty,pos,after,guard⟩:=o;dsimp only at hc;unfold AgZ at hc;split at hc
   .cases vs with
    | nil=>exact OX.nil rfl
    | cons x xs =>
     rename_i f _ _;show OX fet (nT C fet (dst.getD 0) f xs);unfold nT;cases C.G f with
     | none=>exact OX.nil rfl
     | some sg=>exact AuD _ _ (OX.nil rfl)
   .cases hc
  intro e he;have he:e∈(bif AgZ o.op then(opX C o (KF o s) (Kz s (KF o s))).same else []):=he;rw[hc]at he;exact key e he
def Avv {ops:List Oper} {o:Oper} {s:St}:OX (Kz s (KF o s)) (KJ C ops o s):=by
 unfold KJ;split
 .exact Al0 _
 .grind[split,Al0,OX.nil]
 .exact OX.nil rfl
end
section
variable {P:Program} {C:Ctx} {V0:Nat->Value} {O0 O:Own} {w0 w:World} {m:Nat->Value} {st st':St} {a:Act}
structure ApG (C:Ctx) (ops:List Oper) (x:LQ) (st:St):Prop where
 step:KJ C ops x.o st=x.δ
 rd:MG x.o st (KF x.o st)=x.rd
 one:oneOf C x.o.op (KF x.o st)=x.one
def Ae5 (C:Ctx) (ops:List Oper):List LQ->St->St->Prop
 | [],s,s'=>s=s'
 | x::r,s,s'=>ApG C ops x s/\Ae5 C ops r (apply s x.o x.δ) s'
def AuQ: ∀(u:List Nat) {l:List (Nat×Obj)} {p:Nat×Obj},p∈Ky l u->p∈l:=by
 intro u
 induction u with
 | nil=>intro l p h;exact h
 | cons n r ih=>intro l p h;exact Ajs (ih h)
def iK {x:LQ} {n:Nat} (h:st.fresh n=true) (h1:n∉x.says) (h2:n∉x.keys):(apply st x.o x.δ).fresh n=true:=by
 obtain⟨f1,f2,f3,f4⟩:=NC h;unfold LQ.says at h1;simp only[DV,not_or]at h1
 have g1:has (apply st x.o x.δ).ids n=false:=by
  rw[<- Bool.not_eq_true];intro hh;rcases DV.1 (Qa.1 hh)with hm | hm
  .obtain⟨c,hc,hi⟩:=Eg.1 hm;have hc:c∈put st.tmps x.o.dst x.δ.val:=hc
   have:c∈st.tmps\/c=x.δ.val:=by
    cases hd:x.o.dst with
    | none=>rw[hd]at hc;exact .inl hc
    | some d=>rw[hd]at hc;exact Hl hc
   rcases this with hc | hc
   .exact f1 (DF _ (Eg.2 ⟨c,hc,hi⟩))
   .rw[hc]at hi;exact h1.1.1 hi
  .obtain⟨p,hp,hi⟩:=Eg.1 hm;rcases o8 x.δ.new (show p∈JI (Ky (JI st.Ju x.δ.upd) x.δ.del) x.δ.new from hp)with hp | hp
   .exact h1.2 (Eg.2 ⟨p,hp,hi⟩)
   .rcases o8 x.δ.upd (AuQ _ hp)with hp | hp
    .exact h1.1.2 (Eg.2 ⟨p,hp,hi⟩)
    .exact f1 (DD _ (Eg.2 ⟨p,hp,hi⟩))
 have g2:J9 (apply st x.o x.δ).Ju n=none:=by rw[Wj h2];exact f2
 all_goals grind[St.fresh,XV]
def AuJ {u:List (Nat×Obj)} {k:Nat} {x:Obj} (h:lastOf u k=some x):(k,x)∈u:=by
 induction u with
 | nil=>cases h
 | cons p r ih=>grind[lastOf]
def AxS {ops:List Oper} {x y:LQ} (hx:ApG C ops x st) (hy:ApG C ops y (apply st x.o x.δ)) (h:calm x y=true) :
 (opX C x.o (KF x.o st) (Kz (apply st y.o y.δ) (KF x.o st))=opX C x.o (KF x.o st) (Kz st (KF x.o st))/\(∀ f,(opX C x.o (KF x.o st) f).upd=[])/\MG x.o (apply st y.o y.δ) (KF x.o st)=MG x.o st (KF x.o st)) \/
 (Kz (apply st y.o y.δ) (KF x.o st)=Kz st (KF x.o st)/\MG x.o (apply st y.o y.δ) (KF x.o st)=MG x.o st (KF x.o st)):=by
 unfold calm at h;cases ho:x.one with
 | none=>rw[ho]at h;cases h
 | some p =>
  obtain⟨q,off,n⟩:=p;rw[ho]at h;simp only[Dw,E5]at h;obtain⟨h1,h2,h3,h4,h5⟩:=h;have hone:=hx.one;rw[ho]at hone;obtain⟨k1,k2⟩:=Axd hone;obtain⟨off',ev,hO⟩:=AeA (C:=C) k1;have hS:=Avv (C:=C) (ops:=ops) (o:=y.o) (s:=apply st x.o x.δ);rw[hy.step]at hS;have hxk:J9 (apply st x.o x.δ).Ju q=J9 st.Ju q:=Wj fun hm=>by have:=h1.symm.trans (Qa.2 hm);cases this
  have hbox: ∀ e∈y.δ.same,e.1=q-> ∃ cs,J9 st.Ju q=some (.box cs)/\ ∀ p∈y.δ.upd,p.1=q-> ∃ cs',p.2= .box cs'/\cs'.length=cs.length/\cs'.getD e.2 .undef=cs.getD e.2 .undef:=by intro e he heq;obtain⟨cs,g1,g2⟩:=hS e he;rw[heq]at g1 g2;exact⟨cs,by rw[<- hxk];exact yY _ _ _ _ (MH g1),g2⟩
  obtain⟨e0,he0,heq0⟩:=FB.1 h4;obtain⟨cs,g1,g2⟩:=hbox e0 he0 (Dx heq0);have hcell: ∀ k,k<n-> ∀ p∈y.δ.upd,p.1=q-> ∀ cs',p.2= .box cs'->cs'.getD (off+k) .undef=cs.getD (off+k) .undef:=by intro k hk p hp hpq cs' hcs;have:=D7.1 h5 k (ES.2 hk);obtain⟨e,he,heq⟩:=FB.1 this;rw[Dw]at heq;obtain⟨cs2,g3,g4⟩:=hbox e he (Dx heq.1);rw[g1]at g3;injection g3 with g3;injection g3 with g3;subst g3;obtain⟨cs3,g5,_,g6⟩:=g4 p hp hpq;rw[hcs]at g5;injection g5 with g5;subst g5;rw[Dx heq.2]at g6;exact g6
  have hnd:lastOf y.δ.new q=none:=Aii fun hm=>by have:=h3.symm.trans (Qa.2 hm);cases this
  have hdl:q∉y.δ.del:=fun hm=>by rw[Qa.2 hm]at h2;cases h2
  have hnew: ∃ cs',J9 (apply st y.o y.δ).Ju q=some (.box cs')/\cs'.length=cs.length/\ ∀ k,k<n->cs'.getD (off+k) .undef=cs.getD (off+k) .undef:=by
   rw[Ua,hnd];dsimp only;rw[Du hdl];cases hl:lastOf y.δ.upd q with
   | none=>exact⟨cs,g1,rfl,fun _ _=>rfl⟩
   | some z =>have hm:=AuJ hl;obtain⟨cs',g3,g4,_⟩:=g2 _ hm rfl;dsimp only at g3;subst g3;exact⟨cs',rfl,g4,fun k hk=>hcell k hk _ hm rfl _ rfl⟩
  obtain⟨cs',g3,g4,g5⟩:=hnew;have hask: ∀ s,MG x.o s (KF x.o st)=bif Aai x.o.op (KF x.o st)then []else [q]:=by intro s;unfold MG;rw[k1]
  refine .inl ⟨k2 ?_ ?_ g4 g5,fun f=>(hO f f rfl).2,by rw[hask,hask]⟩
  .rw[ev];unfold MQ;rw[Yq,g1]
  .rw[ev];unfold MQ;rw[Yq,g3]
def swap {ops:List Oper} {x y:LQ} {r:List LQ} (hi:indep ops x y=true) (hxF: ∀ n∈x.news,st.fresh n=true) (hyF: ∀ n∈y.news,st.fresh n=true) (h1:VG y.news x.says=true) (h2:VG y.news x.keys=true)
 (hs:Srt st.Ju) (h:Ae5 C ops (x::y::r) st st'):Ae5 C ops (y::x::r) st st':=by
 unfold indep at hi;simp only[Dw]at hi;obtain⟨⟨⟨⟨⟨⟨i1,i2⟩,i3⟩,i4⟩,i5⟩,i6⟩,i7⟩:=hi;obtain⟨hx,hy,hr⟩:=h;have hkx: ∀ n,n∈x.keys->n∉y.keys:=Nj i6;have hnx: ∀ n∈x.news,n∈x.keys:=fun n hn=>DD _ hn
 have cy:=Avw (C:=C) (ops:=ops) (o:=y.o) (s1:=apply st x.o x.δ) (s2:=st)
  (fun z hz=>(Aqf (fun t ht=>Nj i2 t (oW.2 ht)) hz).symm) (AnO (fun t ht=>Nj i2 t (oW.2 ht))).symm
  (fun n hn=>(Wj (fun hk=>Nj i4 n hk (by rw[<- hy.rd];exact hn))).symm)
  (fun n hn=>by rw[hy.step]at hn;exact iK (hyF n hn) (Nj h1 n hn) (Nj h2 n hn))
  (fun n hn=>by rw[hy.step]at hn;exact hyF n hn)
 have cx:=Aol (C:=C) (ops:=ops) (o:=x.o) (s1:=st) (s2:=apply st y.o y.δ)
  (fun z hz=>Aqf (fun t ht=>Nj i3 t (oW.2 ht)) hz) (AnO (fun t ht=>Nj i3 t (oW.2 ht)))
  (by
    rcases Bool.or_eq_true_iff.1 i5 with i5 | i5
    .exact An8 (fun n hn=>Wj (fun hk=>Nj i5 n hk (by rw[<- hx.rd];exact hn)))
    .exact AxS hx hy i5)
  (fun n hn=>by rw[hx.step]at hn;exact hxF n hn)
  (fun n hn=>by rw[hx.step]at hn;exact iK (hxF n hn) (Nj i7 n hn) (hkx n (hnx n hn)))
 have hst:apply (apply st y.o y.δ) x.o x.δ =apply (apply st x.o x.δ) y.o y.δ :=by
  have e1:(apply (apply st y.o y.δ) x.o x.δ).tmps=(apply (apply st x.o x.δ) y.o y.δ).tmps:=(put_comm st.tmps x.δ.val y.δ.val (fun t ht he=>Nj i1 t (oW.2 ht) (oW.2 he))).symm
  have e2:(apply (apply st y.o y.δ) x.o x.δ).Ju=(apply (apply st x.o x.δ) y.o y.δ).Ju:=by
   refine Srt.ext ((hs.apply _ _).apply _ _) ((hs.apply _ _).apply _ _) fun k=> ?_;by_cases hk:k∈x.keys
   .have hky:=hkx k hk;rw[Wj (o:=y.o) (δ :=y.δ) hky,Ua (apply st y.o y.δ),Wj (o:=y.o) (δ :=y.δ) hky,<- Ua st]
   .rw[Wj (o:=x.o) (δ :=x.δ) hk,Ua (apply st x.o x.δ),Wj (o:=x.o) (δ :=x.δ) hk,<- Ua st]
  generalize apply (apply st y.o y.δ) x.o x.δ =s at *
  generalize apply (apply st x.o x.δ) y.o y.δ =s' at *
  cases s;cases s';dsimp only at e1 e2;rw[e1,e2]
 refine⟨⟨by rw[cy.1,hy.step],by rw[cy.2.1,hy.rd],by rw[cy.2.2,hy.one]⟩,⟨by rw[cx.1,hx.step],by rw[cx.2.1,hx.rd],by rw[cx.2.2,hx.one]⟩,?_⟩;rw[hst];exact hr
structure Pre (R:List LQ) (st:St):Prop where
 srt:Srt st.Ju
 fresh: ∀ z∈R,∀ n∈z.news,st.fresh n=true
 pairs:R.Pairwise (fun y z=>VG z.news y.says=true/\VG z.news y.keys=true)
def Pre.step {y:LQ} {R:List LQ} (h:Pre (y::R) st):Pre R (apply st y.o y.δ):=by obtain⟨h1,h2⟩:=EE.1 h.pairs;exact⟨h.srt.apply _ _,fun z hz n hn=>iK (h.fresh z (D5 _ hz) n hn) (Nj (h1 z hz).1 n hn) (Nj (h1 z hz).2 n hn),h2⟩
def front {ops:List Oper} {x:LQ} {L2:List LQ}: ∀(L1:List LQ) {st:St},Pre (L1++x::L2) st->(∀ y∈L1,indep ops y x=true)->Ae5 C ops (L1++x::L2) st st'->Ae5 C ops (x::(L1++L2)) st st':=by
 intro L1
 induction L1 with
 | nil=>intro st _ _ h;exact h
 | cons y L1 ih =>intro st hP hi h;have h1:=ih (st:=apply st y.o y.δ) (hP.step) (fun z hz=>hi z (D5 _ hz)) h.2;have hx:x∈L1++x::L2:=DD _ Dy;obtain⟨p1,_⟩:=EE.1 hP.pairs;exact swap (hi y Dy) (hP.fresh y Dy) (hP.fresh x (D5 _ hx)) (p1 x hx).1 (p1 x hx).2 hP.srt ⟨h.1,h1⟩
theorem AvS {md:Region.Mode} {e:Edge} (h:Region.binds .any e=true):Region.binds md e=true:=by unfold Region.binds at h ⊢;all_goals grind
def fZ {ops:List Oper} {i:Nat} {x y:LQ} (h:jC ops i x y=true):VG y.news x.says=true/\VG y.news x.keys=true/\(i∈y.anc\/indep ops x y=true):=by unfold jC at h;simp only[Dw,Gw]at h;exact⟨h.1.1,h.1.2,h.2.imp Qa.1 id⟩
def Aqt {l:Array Bool} {i:Nat} (h:i<l.size) (b c:Bool):l.getD i b=l.getD i c:=by grind
def Aus {α :Type} (f: α ->Nat): ∀(l:List α),l≠ []-> ∃ x∈l,∀ y∈l,f x<=f y:=by
 intro l
 induction l with
 | nil=>grind
 | cons a r ih =>
  intro _;by_cases hr:r=[]
  .simp_all
  .grind
def Ayh {ρ :Type} (hC:OT P C) {ops:Array Oper} {md:Region.Mode} {Q:Exit->Act->World->Prop} {v: ρ} {K:St->Option ρ} (hQ: ∀ O' m' st' a' w',Sim V0 O0 w0 O' m' st' a' w'->K st'=some v->Q .normal a' w')
 {ANC:List (List Nat)} (hanc: ∀(j:Nat) (o:Oper),ops[j]? =some o-> ∀ i∈ANC.getD j [],∃ e∈ZC o,i=e\/i∈ANC.getD e []) {rk:Nat->Nat} (hback: ∀(j:Nat) (o:Oper),ops[j]? =some o-> ∀ e∈o.after,Region.binds md e=true->e.on<ops.size/\rk e.on<rk j) :
 ∀(fuel:Nat) (R:List (Nat×LQ)) (listed:Array Bool) {O:Own} {m:Nat->Value} {st:St} {a:Act} {w:World},R.length=fuel->R.Pairwise (fun p q=>p.1<q.1) ->
  (∀ p∈R,ops[p.1]? =some p.2.o/\JD p.2.δ.ok/\p.2.anc=ANC.getD p.1 [])->listed.size=ops.size->(∀ i,i<ops.size->(listed.getD i true=false↔i∈R.map (·.1))) ->
  (∀ e,listed.getD e false=true-> ∀ i∈ANC.getD e [],listed.getD i false=true)->R.Pairwise (fun p q=>jC ops.toList p.1 p.2 q.2=true)->(∀ p∈R,∀ n∈p.2.news,st.fresh n=true)->Srt st.Ju ->
  Ae5 C ops.toList (R.map (·.2)) st st'->K st'=some v->Sim V0 O0 w0 O m st a w->wpAny P md ops Q fuel listed a w:=by
 intro fuel
 induction fuel with
 | zero =>
  intro R listed O m st a w hlen _ _ hsz hl _ _ _ _ hruns hK hS;have hR:R=[]:=List.length_eq_zero_iff.1 hlen;subst hR;refine⟨?_,?_⟩
  .rw[List.eq_nil_iff_forall_not_mem];intro i hi;obtain⟨h1,o,h2,_⟩:=mem_ready.1 hi;have hlt:=(DX.1 h2).1;have:=(hl i hlt).1 h1;simp at this
  .have:st=st':=hruns;subst this;exact hQ _ _ _ _ _ hS hK
 | succ fuel ih =>
  intro R listed O m st a w hlen hord hops hsz hl hcl hpr hfr hsrt hruns hK hS;have hin: ∀ p∈R,p.1<ops.size:=fun p hp=>(DX.1 (hops p hp).1).1;refine⟨fun hnil=> ?_,fun i hi=> ?_⟩
  .exfalso;obtain⟨p,hpR,hmin⟩:=Aus (fun q:Nat×LQ=>rk q.1) R (by intro h;rw[h]at hlen;simp at hlen);have hp:=hin p hpR
   have:p.1∈Region.ready md ops listed:=by
    refine mem_ready.2 ⟨(hl p.1 hp).2 (DJ.2 ⟨p,hpR,rfl⟩),p.2.o,(hops p hpR).1,fun e he hb=> ?_⟩;obtain⟨hsize,hlt⟩:=hback _ _ (hops p hpR).1 e he hb;have hno:e.on∉R.map (·.1):=by intro hm;obtain⟨q,hq,hqe⟩:=DJ.1 hm;have:=hmin q hq;rw[hqe]at this;omega
    have:listed.getD e.on true≠false:=fun h=>hno ((hl e.on hsize).1 h);rw[Aqt (by rw[hsz];exact hsize) false true];simpa using this
   rw[hnil]at this;cases this
  .obtain⟨hi1,oi,hi2,hi3⟩:=mem_ready.1 hi;have hilt:=(DX.1 hi2).1;obtain⟨p,hp,rfl⟩:=DJ.1 ((hl i hilt).1 hi1);obtain⟨L1,L2,rfl⟩:=List.append_of_mem hp;obtain⟨i,x⟩:=p;dsimp only at hi hi1 hi2 hi3 hilt ⊢;obtain⟨hx1,hx2,hx3⟩:=hops (i,x) hp;dsimp only at hx1 hx2 hx3
   have hancl: ∀ j∈ANC.getD i [],listed.getD j false=true:=by
    intro j hj;obtain⟨e,he,hje⟩:=hanc i _ hx1 j hj;have hel:listed.getD e false=true:=by unfold ZC at he;obtain⟨ed,hed,hb⟩:=IG.1 he;all_goals grind[AvS]
    rcases hje with rfl | hje
    .exact hel
    .exact hcl e hel j hje
   have hord':=GV.1 hord;have hpr':=GV.1 hpr;have hind: ∀ q∈L1,jC ops.toList q.1 q.2 x=true/\indep ops.toList q.2 x=true:=by intro q hq;have hpq:=hpr'.2.2 q hq (i,x) Dy;dsimp only at hpq;refine⟨hpq,(fZ hpq).2.2.resolve_left fun hm=> ?_⟩;rw[hx3]at hm;have h1:=hancl _ hm;have hqR:q∈L1++(i,x)::L2:=DF _ hq;have hqlt:=hin q hqR;have h2:=(hl q.1 hqlt).2 (DJ.2 ⟨q,hqR,rfl⟩);rw[Aqt (by rw[hsz];exact hqlt) true false,h1]at h2;cases h2
   have hPre:Pre ((L1++(i,x)::L2).map (·.2)) st:=by
    refine⟨hsrt,fun z hz n hn=> ?_,?_⟩
    .obtain⟨q,hq,rfl⟩:=DJ.1 hz;exact hfr q hq n hn
    .rw[IQ];exact hpr.imp fun h=>⟨(fZ h).1,(fZ h).2.1⟩
   have hfront:Ae5 C ops.toList (x::(L1.map (·.2)++L2.map (·.2))) st st':=by refine front (L1.map (·.2)) (by simpa using hPre) (fun y hy=> ?_) (by simpa using hruns);obtain⟨q,hq,rfl⟩:=DJ.1 hy;exact(hind q hq).2
   obtain⟨hstep,hrest⟩:=hfront;have hsub:List.Sublist (L1++L2) (L1++(i,x)::L2):=List.Sublist.append_left (List.sublist_cons_self _ _) _
   have hnext: ∀ O' m' a' w',Sim V0 O0 w0 O' m' (apply st x.o (KJ C ops.toList x.o st)) a' w'->wpAny P md ops Q fuel (listed.setIfInBounds i true) a' w':=by
    intro O' m' a' w' hS';rw[hstep.step]at hS';refine ih (L1++L2) _ (by simp at hlen ⊢;omega) (hord.sublist hsub) (fun q hq=>hops q (hsub.subset hq)) (by simpa using hsz) (fun j hj=> ?_) (fun e he j hj=> ?_) (hpr.sublist hsub) (fun q hq n hn=> ?_) (hsrt.apply _ _) (by simpa using hrest) hK hS'
    .by_cases hji:i=j
     .subst hji;have h1:(listed.setIfInBounds i true).getD i true=true:=by simp [Dq,hsz,hj]
      rw[h1];refine⟨fun h=>(by cases h),fun h=> ?_⟩;obtain⟨q,hq,hqi⟩:=DJ.1 h;rcases DV.1 hq with hq | hq
      .have:=hord'.2.2 q hq (i,x) Dy;dsimp only at this;omega
      .have:=(EE.1 hord'.2.1).1 q hq;dsimp only at this;omega
     .rw[getD_set_ne true hji,hl j hj];simp only[ET,Ee,DV,D8];constructor
      .rintro (h | h | h)
       .exact .inl h
       .exact absurd h.symm hji
       .exact .inr h
      .rintro (h | h)
       .exact .inl h
       .exact .inr (.inr h)
    .by_cases hei:i=e
     .subst hei;exact getD_set_true (hancl j hj)
     .rw[getD_set_ne false hei]at he;exact getD_set_true (hcl e he j hj)
    .have hq':=hsub.subset hq;have hf:=hfr q hq' n hn;rcases DV.1 hq with hq | hq
     .have hi':=(hind q hq).2;unfold indep at hi';simp only[Dw]at hi';exact iK hf (Nj hi'.2 n hn) (Nj hi'.1.2 n (DD _ hn))
     .have hpq:=fZ ((EE.1 hpr'.2.1).1 q hq);exact iK hf (Nj hpq.1 n hn) (Nj hpq.2.1 n hn)
   have hw:=AlL hC hS (ops:=ops) (o:=x.o) (by rw[hstep.step];exact hx2) (wpAny P md ops Q fuel (listed.setIfInBounds i true)) Q hnext;unfold wpOp;rw[hx1];dsimp only;split
   .rename_i hwt;rw[Dt hwt]at hw;exact .inl hw
   .rename_i hwt;rw[Du hwt]at hw;exact hw
end
section
variable {P:Program} {C:Ctx} {V0:Nat->Value} {O0 O:Own} {w0 w:World} {m:Nat->Value} {st st':St} {a:Act}
def enum:Nat->List LQ->List (Nat×LQ)
 | _,[]=>[]
 | i,x::r=>(i,x)::enum (i+1) r
def ArR: ∀(l:List LQ) (i:Nat),(enum i l).length=l.length:=by
 intro l
 induction l with
 | nil=>intro i;rfl
 | cons x r ih=>intro i;simp [enum,ih]
def Aym: ∀(l:List LQ) (i:Nat),(enum i l).map (·.2)=l:=by
 intro l
 induction l with
 | nil=>intro i;rfl
 | cons x r ih=>intro i;simp [enum,ih]
theorem Aca: ∀(l:List LQ) (i:Nat) (p:Nat×LQ),p∈enum i l-> ∃ k,p.1=i+k/\l[k]? =some p.2:=by
 intro l
 induction l with
 | nil=>intro i p h;cases h
 | cons x r ih =>
  intro i p h;rcases D8.1 h with rfl | h
  .exact⟨0,rfl,rfl⟩
  .obtain⟨k,h1,h2⟩:=ih (i+1) p h;exact⟨k+1,by omega,by simpa using h2⟩
def Ayk: ∀(l:List LQ) (i j:Nat),j∈(enum i l).map (·.1)↔i<=j/\j<i+l.length:=by
 intro l
 induction l with
 | nil=>intro i j;simp [enum]
 | cons x r ih=>grind[enum]
def Ayl: ∀(l:List LQ) (i:Nat),(enum i l).Pairwise (fun p q=>p.1<q.1):=by
 intro l
 induction l with
 | nil=>simp_all[enum]
 | cons x r ih =>intro i;refine List.Pairwise.cons (fun q hq=> ?_) (ih (i+1));all_goals grind[Aca]
def Auq {ops:List Oper}: ∀(l:List LQ) (i:Nat),pF ops i l=true->(enum i l).Pairwise (fun p q=>jC ops p.1 p.2 q.2=true):=by
 intro l
 induction l with
 | nil=>intro i _;exact List.Pairwise.nil
 | cons x r ih =>intro i h;simp only[pF,Dw]at h;refine List.Pairwise.cons (fun q hq=> ?_) (ih (i+1) h.2);all_goals grind[Aca]
def Awo {o:Oper} {e:Nat} (h:e∈ZC o): ∃ ed∈o.after,ed.on=e/\Region.binds .any ed=true:=by grind[ZC]
def Aos: ∀(l:List Oper) (i:Nat),backward i l=true-> ∀(k:Nat) (o:Oper),l[k]? =some o-> ∀ e∈o.after,e.on<i+k:=by
 intro l
 induction l with
 | nil=>intro i _ k o h;simp at h
 | cons x r ih =>
  intro i h k o hk e he;simp only[backward,Dw]at h;cases k with
  | zero =>simp at hk;subst hk;have:=D7.1 h.1 e (by simpa using he);rw[EF]at this;exact this
  | succ k=>grind[backward]
def Amd: ∀(l:List Oper) (i:Nat),Tc i l=true-> ∀(k:Nat) (o:Oper),l[k]? =some o-> ∀ e∈o.after,Region.binds .any e=true->e.on<i+k:=by
 intro l
 induction l with
 | nil=>intro i _ k o h;simp at h
 | cons x r ih =>
  intro i h k o hk e he hb;simp only[Tc,Dw]at h;cases k with
  | zero =>simp at hk;subst hk;have:=D7.1 h.1 e (by simpa using he);all_goals simp_all[Tc]
  | succ k=>grind[Tc]
def AoN {md:Region.Mode} {n:Nat} {rk:List Nat}: ∀(l:List Oper) (i:Nat),eP md n rk i l=true-> ∀(k:Nat) (o:Oper),l[k]? =some o-> ∀ e∈o.after,Region.binds md e=true->e.on<n/\rk.getD e.on 0<rk.getD (i+k) 0:=by
 intro l
 induction l with
 | nil=>intro i _ k o h;simp at h
 | cons x r ih =>
  intro i h k o hk e he hb;simp only[eP,Dw]at h;cases k with
  | zero =>simp at hk;subst hk;have:=D7.1 h.1 e (by simpa using he);all_goals simp_all[eP]
  | succ k=>grind[eP]
def AqT {ops:Array Oper} (h:ordered ops.toList=true) (md:Region.Mode): ∃ rk:Nat->Nat,∀(j:Nat) (o:Oper),ops[j]? =some o-> ∀ e∈o.after,Region.binds md e=true->e.on<ops.size/\rk e.on<rk j:=by
 unfold ordered at h;rw[Dw,Gw]at h;rcases h.2 with h | h
 .refine⟨id,fun j o hj e he _=> ?_⟩;have h1:=Aos _ _ h j o (by simpa using hj) e he;all_goals grind[ordered]
 .simp only[Dw]at h;have key:Al5 md ops.toList=true:=by cases md<;>first | exact h.1.1 | exact h.1.2 | exact h.2
  refine⟨fun i=>(ranks md ops.toList ops.toList.length (ops.toList.map fun _=>0)).getD i 0,fun j o hj e he hb=> ?_⟩;have:=AoN _ _ key j o (by simpa using hj) e he hb;all_goals grind[ordered]
def Am8 {α β :Type} {f g: α ->List β}: ∀(l:List α),(∀ x∈l,f x=g x)->l.flatMap f=l.flatMap g:=by
 intro l
 induction l with
 | nil=>intro _;rfl
 | cons x r ih=>grind
def Auz {ops:List Oper}: ∀(l:List Oper) (acc:List (List Nat)) (st:St),Tc acc.length l=true->(VR C ops l acc st).length=l.length /\
 ∀(k:Nat) (o:Oper),l[k]? =some o-> ∃ x,(VR C ops l acc st)[k]? =some x/\x.o=o/\x.anc=(ZC o).flatMap (fun e=>e::(acc++(VR C ops l acc st).map LQ.anc).getD e []):=by
 intro l
 induction l with
 | nil=>intro acc st _;exact⟨rfl,fun k o h=>by simp at h⟩
 | cons o' r ih =>
  intro acc st h;have hb:=Amd _ _ h;simp only[Tc,Dw]at h;let an:=(ZC o').flatMap (fun e=>e::acc.getD e []);let s1:=apply st o' (KJ C ops o' st);have hf:VR C ops (o'::r) acc st=⟨o',KJ C ops o' st,MG o' st (KF o' st),oneOf C o'.op (KF o' st),an⟩::VR C ops r (acc++[an]) s1:=rfl;obtain⟨g1,g2⟩:=ih (acc++[an]) s1 (by simpa using h.2);rw[hf];refine⟨by simp [g1],fun k o hk=> ?_⟩;cases k with
  | zero =>simp at hk;subst hk;refine⟨_,rfl,rfl,?_⟩;refine Am8 _ fun e he=> ?_;obtain⟨ed,h1,h2,h3⟩:=Awo he;have hlt:=hb 0 o' rfl ed h1 h3;rw[Dn,Dn,Ep (by omega)]
  | succ k =>obtain⟨x,h1,h2,h3⟩:=g2 k o (by simpa using hk);refine⟨x,by simpa using h1,h2,?_⟩;rw[h3];simp [Ed]
def Auy {ρ :Type} {ops:List Oper} {K:St->Option ρ} {v: ρ}: ∀(l:List Oper) (acc:List (List Nat)) (st:St),YN C ops l st K=some v-> ∃ st',Ae5 C ops (VR C ops l acc st) st st'/\K st'=some v/\ ∀ x∈VR C ops l acc st,JD x.δ.ok:=by
 intro l
 induction l with
 | nil=>intro acc st h;exact⟨st,rfl,h,fun x hx=>by cases hx⟩
 | cons o r ih =>
  intro acc st h;obtain⟨h1,h2⟩:=Wp (show allT (KJ C ops o st).ok (YN C ops r (apply st o (KJ C ops o st)) K)=some v from h);obtain⟨st',h3,h4,h5⟩:=ih (acc++[(ZC o).flatMap (fun e=>e::acc.getD e [])]) _ h2;refine⟨st',⟨⟨rfl,rfl,rfl⟩,h3⟩,h4,fun x hx=> ?_⟩;rcases D8.1 hx with rfl | hx
  .exact h1
  .exact h5 x hx
def Sim.drew (hS:Sim V0 O0 w0 O m st a w):Sim V0 O0 w0 O m st a {w with drawn:=w.drawn+1} :=
 hS.next (st':=st) (d:=none) (v:=undef) (x:=.undef) (T:=fun _=>False) (Nw:=fun _=>False) ⟨rfl,rfl,rfl,DW _,fun _ _=>.inl rfl⟩ ⟨fun _ _ _ h=>h,fun _ _ _ _ h _=>h⟩ (fun _ _ _ h=>h) (fun _ y ho=>.inr ⟨y,ho,rfl,rfl⟩) (fun _ h=>h.elim) (fun _ h=>h.elim)
  (fun _ _ ho=>.inl ⟨id,ho,rfl⟩) rfl (fun h=>absurd rfl h)
def Auo {ρ :Type} (hC:OT P C) {fin:St->Option ρ} {v: ρ} (id:Nat) (ops:Array Oper) {O:Own} {m:Nat->Value} {st:St} {a:Act} {w:World} (K:Ex->St->Option ρ) (hS:Sim V0 O0 w0 O m st a w) (hd:Vp C ops.toList st=true)
 (hx:YN C ops.toList ops.toList st (fun st'=>K .normal st')=some v):(Code.region id ops true).wp P (Post V0 O0 w0 fin K v) a w:=by
 unfold Vp at hd;dsimp only at hd;simp only[Dw]at hd;obtain⟨⟨⟨d1,d2⟩,d3⟩,d4⟩:=hd;have d1A:Tc 0 ops.toList=true:=by all_goals grind[ordered]
 obtain⟨f1,f2⟩:=Auz (C:=C) (ops:=ops.toList) ops.toList [] st d1A;obtain⟨st',r1,r2,r3⟩:=Auy ops.toList [] st hx;generalize hfs:VR C ops.toList ops.toList [] st=fs at *
 have hlen:fs.length=ops.size:=by rw[f1];simp
 have hsize:(enum 0 fs).length=ops.size:=by rw[ArR,hlen]
 have hany: ∀ md,wpAny P md ops (Post V0 O0 w0 fin K v) ops.size (Array.replicate ops.size false) a {w with drawn:=w.drawn+1}:=by
  intro md;obtain⟨rk,hrk⟩:=AqT d1 md
  refine Ayh (V0:=V0) (O0:=O0) (w0:=w0) hC (K:=fun st'=>K .normal st') (v:=v) (st':=st') (fun O' m' s a' w' h1 h2=>⟨O',m',s,h1,h2⟩) (ANC:=fs.map LQ.anc) (rk:=rk) (fun j o hj i hi=> ?_) hrk
   ops.size (enum 0 fs) _ hsize (Ayl _ _) (fun p hp=> ?_) (by simp) (fun i hi=> ?_) (fun e he i _=> ?_) (Auq _ _ d2) (fun p hp n hn=> ?_) (Avu d4) (by rw[Aym];exact r1) r2 hS.drew
  .obtain⟨x,h1,h2,h3⟩:=f2 j o (by simpa using hj);have e1:(fs.map LQ.anc).getD j []=x.anc:=by rw[Dn,Eu,h1];rfl
   rw[e1,h3]at hi;obtain⟨e,he,hie⟩:=Eg.1 hi;rcases D8.1 hie with h | h
   .exact⟨e,he,.inl h⟩
   .exact⟨e,he,.inr (by simpa using h)⟩
  .obtain⟨k,h1,h2⟩:=Aca _ _ _ hp;rw[DT]at h1
   have hk:k<ops.toList.length:=by
    rw[<- f1];rcases Ef k fs.length with h | h
    .exact h
    .rw[Ec h]at h2;cases h2
   obtain⟨x,h3,h4,h5⟩:=f2 k ops.toList[k] (by simp at hk ⊢);rw[h2]at h3;injection h3 with h3;refine⟨?_,r3 _ (GU h2),?_⟩
   .rw[h1,h3,h4];simp at hk ⊢
   .rw[h1,Dn,Eu,h2];rfl
  .rw[Ayk];simp [Dq,hi,hlen]
  .have:(Array.replicate ops.size false).getD e false=false:=by
    rw[Dq,Array.getElem?_replicate];split<;>rfl
   rw[this]at he;cases he
  .grind[Aca]
 refine wp_region_draw fun t=> ?_;unfold Region.schedule;split
 .exact wpAny_sound _ _ _ _ _ (hany _)
 .exact wpAny_sound _ _ _ _ _ (hany _)
end
section
variable {P:Program} {C:Ctx}
def Apy:List (Nat×Sig)->Nat->Option Sig
 | [],_=>none
 | (k,x)::r,t=>bif Nat.beq k t then some x else Apy r t
def Aw1: ∀ {l:List (Nat×Sig)} {t:Nat} {x:Sig},Apy l t=some x->(t,x)∈l:=by
 intro l
 induction l with
 | nil=>intro t x h;cases h
 | cons p r ih=>grind[Apy,XV]
def AzF:List (Nat×Nrm)->Nat->Option Nrm
 | [],_=>none
 | (k,x)::r,t=>bif Nat.beq k t then some x else AzF r t
def Apq:List (Nat×Alt)->Nat->Option Alt
 | [],_=>none
 | (k,x)::r,t=>bif Nat.beq k t then some x else Apq r t
def Apv:List (Nat×(Nat->Sig))->Nat->Option (Nat->Sig)
 | [],_=>none
 | (k,x)::r,t=>bif Nat.beq k t then some x else Apv r t
def AzO:List (Nat×Nat×Nat×List Nat)->Nat->Option (Nat×Nat×List Nat)
 | [],_=>none
 | (k,x)::r,t=>bif Nat.beq k t then some x else AzO r t
def AzC:List (Nat×List (Nat×Nat))->Nat->List (Nat×Nat)
 | [],_=>[]
 | (k,x)::r,t=>bif Nat.beq k t then x else AzC r t
def ctx (P:Program) (gs:List (Nat×Sig)) (ns:List (Nat×Nrm)) (aa:List (Nat×Alt):=[]) (dd:List (Nat×(Nat->Sig)):=[]) (cc:List Nat:=[]) (bb:List Nat:=[]) (ss:List (Nat×Nat×Nat×List Nat):=[]) (kk:List (Nat×List (Nat×Nat)):=[]):Ctx:=⟨An4 P,Apy gs,AzF ns,Apq aa,Apv dd,cc,bb,fun _=>none,AzO ss,AzC kk⟩
def Xi (P:Program) (F:Nat->Sig):Prop:=(∀ xs,(F 0).ok xs=false)/\ ∀ f xs,(F (f+1)).ok xs=true->Spec P f (F (f+1))
def ApA (P:Program):List (Nat×(Nat->Sig))->Prop
 | []=>True
 | (_,F)::r=>Xi P F/\ApA P r
def ApA.look: ∀ {l:List (Nat×(Nat->Sig))},ApA P l-> ∀ t F,Apv l t=some F->Xi P F:=by
 intro l
 induction l with
 | nil=>intro _ t F h;cases h
 | cons p r ih=>grind[Apv,XV,ApA,Xi]
def Atx (P:Program):List (Nat×Alt)->Prop
 | []=>True
 | (f,q)::r=>(Spec P f q.1/\Spec P f q.2.1)/\Atx P r
def Atx.look: ∀ {l:List (Nat×Alt)},Atx P l-> ∀ f q,Apq l f=some q->Spec P f q.1/\Spec P f q.2.1:=by
 intro l
 induction l with
 | nil=>intro _ f q h;cases h
 | cons p r ih =>
  intro h f q hq;obtain⟨k,x⟩:=p;simp only[Apq,XV]at hq;by_cases hk:k=f
  .simp only[hk,H7,cond_true,Fv]at hq;rw[<- hq,<- hk];exact h.1
  .rw[show decide (k=f)=false by simpa using hk]at hq;exact ih h.2 f q hq
def AjQ (P:Program):List (Nat×Sig)->Prop
 | []=>True
 | (f,sg)::r=>Spec P f sg/\AjQ P r
def AjQ.mem: ∀ {l:List (Nat×Sig)},AjQ P l-> ∀ p∈l,Spec P p.1 p.2:=by
 intro l
 induction l with
 | nil=>intro _ p hp;cases hp
 | cons q r ih=>grind[AjQ,Spec]
def Jv {gs:List (Nat×Sig)} {ns:List (Nat×Nrm)} {aa:List (Nat×Alt)} {dd:List (Nat×(Nat->Sig))} {cc bb:List Nat} {ss:List (Nat×Nat×Nat×List Nat)} {kk:List (Nat×List (Nat×Nat))} (hG:AjQ P gs) (hA:Atx P aa:=by trivial) (hD:ApA P dd:=by trivial):OT P (ctx P gs ns aa dd cc bb ss kk) :=
 ⟨fun _ _ h=>h,fun _ _ h=>hG.mem _ (Aw1 h),hA.look,hD.look⟩
def enters {f:FuncId} {fn:Func} (hf:P.funcs[f]? =some fn) (hb:fn.body.isNone=false) (hn:(fn.name== "runtime.NumGoroutine")=false) (args:Array Value) (w:World):(callFunc f args).run P w= .ok (.enter f args) w:=by
 have h1:fn.name≠ "runtime.NumGoroutine" :=by simpa using hn
 have h2:fn.body≠none:=by intro e;rw[e]at hb;cases hb
 simp [callFunc,hf,h1,h2]
def Me:(ks:List (Bool×CK))->List A->Option (tyl (ks.map (·.2))).Val
 | []=>fun
  | []=>some ()
  | _=>none
 | (_,.bool)::r=>fun
  | .bool b::cs=>(Me r cs).map (fun q=>Ty.mk2 _ b q)
  | _=>none
 | (_,.int k)::r=>fun
  | .int j n::cs=>bif A.kEq j k then(Me r cs).map (fun q=>Ty.mk2 _ n q)else none
  | _=>none
 | (_,.str)::r=>fun
  | .str s::cs=>(Me r cs).map (fun q=>Ty.mk2 _ s q)
  | _=>none
 | (false,.sl _ t)::r=>fun
  | .sl l::cs=>match l.cast t with
   | some xs=>(Me r cs).map (fun q=>Ty.mk2 _ xs q)
   | none=>none
  | _=>none
 | (true,.sl e t)::r=>fun
  | .usl z e' l::cs=>bif z&&Nat.beq e' e then match l.cast t with
   | some xs=>(Me r cs).map (fun q=>Ty.mk2 _ xs q)
   | none=>none
   else none
  | _=>none
 | (true,.sln e t)::r=>fun
  | .usl z e' l::cs=>bif !z&&Nat.beq e' e then match l.cast t with
   | some xs=>(Me r cs).map (fun q=>Ty.mk2 _ xs q)
   | none=>none
   else none
  | _=>none
 | (false,.sln _ t)::r=>fun
  | .sln l::cs=>match l.cast t with
   | some xs=>(Me r cs).map (fun q=>Ty.mk2 _ xs q)
   | none=>none
  | _=>none
 | (_,.ptr)::r=>fun
  | .MO::cs=>(Me r cs).map (fun q=>q)
  | _=>none
 | (_,.fn)::r=>fun
  | .fn n::cs=>(Me r cs).map (fun q=>Ty.mk2 _ n q)
  | _=>none
 | (_,.mp kt vt)::r=>fun
  | .ump l::cs=>match l.cast kt vt with
   | some xs=>(Me r cs).map (fun q=>Ty.mk2 _ xs q)
   | none=>none
  | _=>none
 | (true,.bx t)::r=>fun
  | .box ds::cs=>bif (t.mk (ds.map A.weak)).1&&ds.all A.AuV then(Me r cs).map (fun q=>Ty.mk2 _ [(t.mk (ds.map A.weak)).2] q)else none
  | _=>none
 | (false,.bx _)::_=>fun _=>none
 | (_,.oth)::_=>fun _=>none
def NI:(ks:List (Bool×CK))->(tyl (ks.map (·.2))).Val->List A
 | [],_=>[]
 | (_,.bool)::r,v=>.bool (Ty.hd _ v)::NI r (Ty.tl _ v)
 | (_,.int k)::r,v=>.int k (Ty.hd _ v)::NI r (Ty.tl _ v)
 | (_,.str)::r,v=>.str (Ty.hd _ v)::NI r (Ty.tl _ v)
 | (false,.sl _ t)::r,v=>.sl ⟨t,Ty.hd _ v⟩::NI r (Ty.tl _ v)
 | (true,.sl e t)::r,v=>.usl true e ⟨t,Ty.hd _ v⟩::NI r (Ty.tl _ v)
 | (true,.sln e t)::r,v=>.usl false e ⟨t,Ty.hd _ v⟩::NI r (Ty.tl _ v)
 | (false,.sln _ t)::r,v=>.sln ⟨t,Ty.hd _ v⟩::NI r (Ty.tl _ v)
 | (_,.ptr)::r,v=>.MO::NI r v
 | (_,.fn)::r,v=>.fn (Ty.hd _ v)::NI r (Ty.tl _ v)
 | (_,.mp kt vt)::r,v=>.ump ⟨kt,vt,Ty.hd _ v⟩::NI r (Ty.tl _ v)
 | (true,.bx t)::r,v=>.box ((t.cells ((Ty.hd _ v).headD t.zero)).map A.strong)::NI r (Ty.tl _ v)
 | (false,.bx _)::_,_=>[]
 | (_,.oth)::_,_=>[]
def As8: ∀(ds:List A),ds.all A.AuV=true->(ds.map A.weak).map A.strong=ds:=by
 intro ds
 induction ds with
 | nil=>intro _;rfl
 | cons d ds ih =>intro h;rw[List.all_cons,Dw]at h;rw[Ee,Ee,ih h.2];congr 1;cases d<;>first | rfl | cases h.1
def qP: ∀(ks:List (Bool×CK)) (cs:List A) (v:(tyl (ks.map (·.2))).Val),Me ks cs=some v->cs=NI ks v:=by
 intro ks
 induction ks with
 | nil =>
  intro cs v h;cases cs with
  | nil=>rfl
  | cons _ _=>cases h
 | cons k ks ih =>
  intro cs v h;obtain⟨u,k⟩:=k;have none': ∀ {α :Type} {x: α},(none:Option α)=some x->False:=fun h=>by cases h
  cases k with
  | bool =>
   simp only[Me]at h;split at h
   .rename_i b cs;cases hd:Me ks cs with
    | none=>rw[hd]at h;cases h
    | some q =>rw[hd]at h;injection h with h;subst h;simp only[NI,Ty.Qx,Ty.Q7];rw[<- ih cs q hd]
   .exact(none' h).elim
  | int k =>
   simp only[Me]at h;split at h
   .rename_i j n cs;cases hk:A.kEq j k with
    | false=>rw[hk]at h;exact(none' h).elim
    | true =>
     rw[hk]at h;cases hd:Me ks cs with
     | none=>rw[hd]at h;cases h
     | some q =>rw[hd]at h;injection h with h;subst h;simp only[NI,Ty.Qx,Ty.Q7];rw[<- ih cs q hd,A.RX hk]
   .exact(none' h).elim
  | str =>
   simp only[Me]at h;split at h
   .rename_i b cs;cases hd:Me ks cs with
    | none=>rw[hd]at h;cases h
    | some q =>rw[hd]at h;injection h with h;subst h;simp only[NI,Ty.Qx,Ty.Q7];rw[<- ih cs q hd]
   .exact(none' h).elim
  | sl e t =>
   cases u with
   | false =>
    simp only[Me]at h;split at h
    .rename_i l cs;cases hc:l.cast t with
     | none=>rw[hc]at h;exact(none' h).elim
     | some xs =>
      rw[hc]at h;dsimp only at h;cases hd:Me ks cs with
      | none=>rw[hd]at h;cases h
      | some q =>rw[hd]at h;injection h with h;subst h;simp only[NI,Ty.Qx,Ty.Q7];rw[<- ih cs q hd,Sl.Rj hc]
    .exact(none' h).elim
   | true =>
    simp only[Me]at h;split at h
    .rename_i z e' l cs;cases he:z&&Nat.beq e' e with
     | false=>rw[he]at h;exact(none' h).elim
     | true =>
      rw[he]at h;dsimp only[cond_true]at h;cases hc:l.cast t with
      | none=>rw[hc]at h;exact(none' h).elim
      | some xs =>
       rw[hc]at h;dsimp only at h;cases hd:Me ks cs with
       | none=>rw[hd]at h;cases h
       | some q =>rw[hd]at h;injection h with h;subst h;simp only[NI,Ty.Qx,Ty.Q7];rw[Dw]at he;rw[<- ih cs q hd,Sl.Rj hc,Dx he.2,he.1]
    .exact(none' h).elim
  | ptr =>
   simp only[Me]at h;split at h
   .rename_i cs;cases hd:Me ks cs with
    | none=>rw[hd]at h;cases h
    | some q =>rw[hd]at h;injection h with h;subst h;simp only[NI];rw[<- ih cs _ hd]
   .exact(none' h).elim
  | fn =>
   simp only[Me]at h;split at h
   .rename_i b cs;cases hd:Me ks cs with
    | none=>rw[hd]at h;cases h
    | some q =>rw[hd]at h;injection h with h;subst h;simp only[NI,Ty.Qx,Ty.Q7];rw[<- ih cs q hd]
   .exact(none' h).elim
  | sln e t =>
   cases u with
   | false =>
    simp only[Me]at h;split at h
    .rename_i l cs;cases hc:l.cast t with
     | none=>rw[hc]at h;exact(none' h).elim
     | some xs =>
      rw[hc]at h;dsimp only at h;cases hd:Me ks cs with
      | none=>rw[hd]at h;cases h
      | some q =>rw[hd]at h;injection h with h;subst h;simp only[NI,Ty.Qx,Ty.Q7];rw[<- ih cs q hd,Sl.Rj hc]
    .exact(none' h).elim
   | true =>
    simp only[Me]at h;split at h
    .rename_i z e' l cs;cases he: !z&&Nat.beq e' e with
     | false=>rw[he]at h;exact(none' h).elim
     | true =>
      rw[he]at h;dsimp only[cond_true]at h;cases hc:l.cast t with
      | none=>rw[hc]at h;exact(none' h).elim
      | some xs =>
       rw[hc]at h;dsimp only at h;cases hd:Me ks cs with
       | none=>rw[hd]at h;cases h
       | some q =>rw[hd]at h;injection h with h;subst h;simp only[NI,Ty.Qx,Ty.Q7];rw[Dw]at he;rw[<- ih cs q hd,Sl.Rj hc,Dx he.2,show z=false from by simpa using he.1]
    .exact(none' h).elim
  | mp kt vt =>
   simp only[Me]at h;split at h
   .rename_i l cs;cases hc:l.cast kt vt with
    | none=>rw[hc]at h;exact(none' h).elim
    | some xs =>
     rw[hc]at h;dsimp only at h;cases hd:Me ks cs with
     | none=>rw[hd]at h;cases h
     | some q =>rw[hd]at h;injection h with h;subst h;simp only[NI,Ty.Qx,Ty.Q7];rw[<- ih cs q hd,Mp.Rj hc]
   .exact(none' h).elim
  | bx t =>
   cases u with
   | false=>simp only[Me]at h;exact(none' h).elim
   | true =>
    simp only[Me]at h;split at h
    .rename_i ds cs;cases hk:(t.mk (ds.map A.weak)).1&&ds.all A.AuV with
     | false=>rw[hk]at h;exact(none' h).elim
     | true =>
      rw[hk]at h;rw[Dw]at hk;cases hd:Me ks cs with
      | none=>rw[hd]at h;cases h
      | some q =>rw[hd]at h;injection h with h;subst h;simp only[NI,Ty.Qx,Ty.Q7];rw[<- ih cs q hd];congr 2;show _=(t.cells (t.mk (ds.map A.weak)).2).map A.strong;rw[Ty.UT _ _ hk.1,As8 _ hk.2]
    .exact(none' h).elim
  | oth=>simp only[Me]at h;exact(none' h).elim
def Sh.ks:Sh->List (Bool×CK)
 | .cell u k=>[(u,k)]
 | .agg ks=>ks
 | .box ks=>ks
 | .clo _ ks=>ks
 | .map kt vt=>[(true,.mp kt vt)]
def Sh.T (s:Sh):Type:=(tyl (s.ks.map (·.2))).Val
def Sh.dec:(s:Sh)->A->Option s.T
 | .cell u k,x=>Me [(u,k)] [x]
 | .agg ks,.agg cs=>Me ks cs
 | .box ks,.box cs=>Me ks cs
 | .clo f ks,.cbx g cs=>bif Nat.beq f g then Me ks cs else none
 | .map kt vt,x=>Me [(true,.mp kt vt)] [x]
 | _,_=>none
def Sh.enc:(s:Sh)->s.T->A
 | .cell u k,v=>(NI [(u,k)] v).getD 0 .undef
 | .agg ks,v=>.agg (NI ks v)
 | .box ks,v=>.box (NI ks v)
 | .clo f ks,v=>.cbx f (NI ks v)
 | .map kt vt,v=>(NI [(true,.mp kt vt)] v).getD 0 .undef
def Sh.AsX {s:Sh} {x:A} {v:s.T} (h:s.dec x=some v):x=s.enc v:=by
 cases s with
 | cell u k =>have:=qP _ _ _ (show Me [(u,k)] [x]=some v from h);show x=(NI [(u,k)] v).getD 0 .undef;rw[<- this];rfl
 | agg ks =>
  cases x with
  | agg cs =>have:=qP _ _ _ (show Me ks cs=some v from h);show _=A.agg (NI ks v);rw[<- this]
  | _=>cases h
 | box ks =>
  cases x with
  | box cs =>have:=qP _ _ _ (show Me ks cs=some v from h);show _=A.box (NI ks v);rw[<- this]
  | _=>cases h
 | clo f ks =>
  cases x with
  | cbx g cs =>
   have h:(bif Nat.beq f g then Me ks cs else none)=some v:=h;cases hb:Nat.beq f g with
   | false=>rw[hb]at h;cases h
   | true =>rw[hb]at h;have:=qP _ _ _ (show Me ks cs=some v from h);show _=A.cbx f (NI ks v);rw[<- this,Dx hb]
  | _=>cases h
 | map kt vt =>have:=qP _ _ _ (show Me [(true,.mp kt vt)] [x]=some v from h);show x=(NI [(true,.mp kt vt)] v).getD 0 .undef;rw[<- this];rfl
def prS (s:Sh) (β :Type):List Sh->Type
 | []=>s.T
 | _::_=>s.T× β
def ShT:List Sh->Type
 | []=>Unit
 | s::r=>prS s (ShT r) r
def hdS (s:Sh):(r:List Sh)->prS s (ShT r) r->s.T
 | [],v=>v
 | _::_,v=>v.1
def tlS (s:Sh):(r:List Sh)->prS s (ShT r) r->ShT r
 | [],_=>()
 | _::_,v=>v.2
def mkS (s:Sh):(r:List Sh)->s.T->ShT r->prS s (ShT r) r
 | [],a,_=>a
 | _::_,a,b=>(a,b)
def A19 (s:Sh) (r:List Sh) (a:s.T) (b:ShT r):hdS s r (mkS s r a b)=a:=by cases r<;>rfl
def A2q (s:Sh) (r:List Sh) (a:s.T) (b:ShT r):tlS s r (mkS s r a b)=b:=by cases r<;>rfl
def vW (s:Sh) (r:List Sh):Option s.T->Option (ShT r)->Option (prS s (ShT r) r)
 | some a,some b=>some (mkS s r a b)
 | _,_=>none
def AbD {s:Sh} {r:List Sh} {x:Option s.T} {y:Option (ShT r)} {v:prS s (ShT r) r} (h:vW s r x y=some v): ∃ a b,x=some a/\y=some b/\v=mkS s r a b:=by
 cases x with
 | none=>cases h
 | some a =>
  cases y with
  | none=>cases h
  | some b=>grind[Sh,ShT,prS,vW,mkS]
def Uf:(ss:List Sh)->List A->Option (ShT ss)
 | []=>fun
  | []=>some ()
  | _=>none
 | s::r=>fun
  | []=>none
  | x::xs=>vW s r (s.dec x) (Uf r xs)
def encs:(ss:List Sh)->ShT ss->List A
 | [],_=>[]
 | s::r,v=>s.enc (hdS s r v)::encs r (tlS s r v)
theorem ApY: ∀(ss:List Sh) (xs:List A) (v:ShT ss),Uf ss xs=some v->xs=encs ss v:=by
 intro ss
 induction ss with
 | nil =>
  intro xs v h;cases xs with
  | nil=>rfl
  | cons _ _=>cases h
 | cons s ss ih =>
  intro xs v h;cases xs with
  | nil=>cases h
  | cons x xs =>obtain⟨a,b,h1,h2,h3⟩:=AbD (show vW s ss (s.dec x) (Uf ss xs)=some v from h);subst h3;show _=s.enc (hdS s ss (mkS s ss a b))::encs ss (tlS s ss (mkS s ss a b));rw[A19,A2q,<- Sh.AsX h1,<- ih xs b h2]
def Sh.zero (s:Sh):s.T:=Ty.zero _
def zeroS:(ss:List Sh)->ShT ss
 | []=>()
 | s::r=>mkS s r s.zero (zeroS r)
def MV (J6 JJ:List Sh):List Sh:=JJ++J6.filterMap (fun | .box ks=>some (.agg ks) | .clo _ ks=>some (.agg ks) | .map kt vt=>some (.map kt vt) | _=>none)
def Sig.of (J6 JJ:List Sh) (f:ShT J6->Option (ShT (MV J6 JJ))):Sig where
 J6:=J6
 JJ:=JJ
 ok xs:=match Uf J6 xs with
  | some a=>(f a).isSome
  | none=>false
 val xs:=match Uf J6 xs with
  | some a=>encs (MV J6 JJ) ((f a).getD (zeroS _))
  | none=>[]
def AbX (J6 JJ:List Sh):List (Nat×(ShT J6->Option (ShT (MV J6 JJ))))->Nat->ShT J6->Option (ShT (MV J6 JJ))
 | [],_,_=>none
 | (f,g)::r,n,x=>bif Nat.beq n (f+1)then g x else AbX J6 JJ r n x
def Ae2 (P:Program) (J6 JJ:List Sh):List (Nat×(ShT J6->Option (ShT (MV J6 JJ))))->Prop
 | []=>True
 | (f,g)::r=>Spec P f (Sig.of J6 JJ g)/\Ae2 P J6 JJ r
theorem Awl (J6 JJ:List Sh): ∀(l:List (Nat×(ShT J6->Option (ShT (MV J6 JJ))))) (x:ShT J6),AbX J6 JJ l 0 x=none:=by
 intro l
 induction l with
 | nil=>intro x;rfl
 | cons p r ih=>intro x;obtain⟨f,g⟩:=p;simp only[AbX];exact ih x
def Awk {J6 JJ:List Sh}: ∀ {l:List (Nat×(ShT J6->Option (ShT (MV J6 JJ))))},Ae2 P J6 JJ l-> ∀ f,(∀ x,AbX J6 JJ l (f+1) x=none)\/Spec P f (Sig.of J6 JJ (AbX J6 JJ l (f+1))):=by
 intro l
 induction l with
 | nil=>intro _ f;exact .inl fun x=>rfl
 | cons p r ih=>grind[AbX,XV,Sh,ShT,MV,Ae2,Spec,Sig.of]
def YY {J6 JJ:List Sh} {l:List (Nat×(ShT J6->Option (ShT (MV J6 JJ))))} (h:Ae2 P J6 JJ l):Xi P (fun n=>Sig.of J6 JJ (AbX J6 JJ l n)):=by
 refine⟨fun xs=> ?_,fun f xs hok=> ?_⟩
 .show(match Uf J6 xs with | some a=>(AbX J6 JJ l 0 a).isSome | none=>false)=false;cases Uf J6 xs with
  | none=>rfl
  | some a=>grind[Awl]
 .rcases Awk h f with h0 | h0
  .have hok':(match Uf J6 xs with | some a=>(AbX J6 JJ l (f+1) a).isSome | none=>false)=true:=hok;cases hd:Uf J6 xs with
   | none=>rw[hd]at hok';cases hok'
   | some a=>simp_all[hd,Sh,ShT,MV,Ae2,Xi,Sig.of]
  .exact h0
def Sig.Abf {J6 JJ:List Sh} {f:ShT J6->Option (ShT (MV J6 JJ))} {xs rs:List A} (h:(Sig.of J6 JJ f).F xs=some rs): ∃ a o,xs=encs J6 a/\f a=some o/\rs=encs _ o:=by
 unfold Sig.F Sig.of at h;dsimp only at h;cases hd:Uf J6 xs with
 | none=>rw[hd]at h;cases h
 | some a =>
  rw[hd]at h;dsimp only at h;cases hf:f a with
  | none=>rw[hf]at h;cases h
  | some o =>rw[hf]at h;injection h with h;exact⟨a,o,ApY _ _ _ hd,hf,h.symm⟩
def kK (C:Ctx) (J6 JJ:List Sh) (outs:List (Nat×Option Nat)) (st:St):Option (ShT (MV J6 JJ)) :=
 allT ((JU st.Ju JJ (PS C outs st)).1++(JU st.Ju (J6.map QE) (QF J6 0)).1 ++
  [nodup ((Ob st.Ju 256000 256 JJ (PS C outs st)++Ob st.Ju 0 256 (J6.map QE) (QF J6 0)).map (·.1)),!(JJ.any wS||(J6.map QE).any wS)||((JU st.Ju JJ (PS C outs st)).2.2.1.isEmpty&&(JU st.Ju (J6.map QE) (QF J6 0)).2.2.1.isEmpty)]++outs.flatMap (fun q=>(Aj1 C st q).1))
  (Uf _ ((JU st.Ju JJ (PS C outs st)).2.1++(L6 J6 0).map (fun i=>unbox ((JU st.Ju (J6.map QE) (QF J6 0)).2.1.getD i .undef))))
theorem AzX {α β :Type} {l:List Bool} {x:Option α} {y: α} (h:allT l x=some y) (z: β):allT l (some z)=some z:=by
 induction l with
 | nil=>rfl
 | cons c cs ih=>grind[allT]
def Aww {C:Ctx} {J6 JJ:List Sh} {outs:List (Nat×Option Nat)} {st:St} {o:ShT (MV J6 JJ)} (h:kK C J6 JJ outs st=some o):finish C J6 JJ outs st=some (encs _ o):=by unfold kK at h;obtain⟨_,h2⟩:=Wp h;all_goals grind[ApY,finish,AzX]
def bD {ρ :Type} {fin:St->Option ρ} (hC:OT P C) (N:Nat) {f:FuncId} {fn:Func} {code:Code} {outs:List (Nat×Option Nat)} {J6 JJ:List Sh} {g:ShT J6->Option (ShT (MV J6 JJ))} (hf:P.funcs[f]? =some fn) (hb:fn.body=some code) (hn:(fn.name== "runtime.NumGoroutine")=false)
 (hout:fn.results=(outs.map rv).toArray) (hF: ∀ a o,g a=some o-> ∃ r,runK C N J6 fn.ntmps code fin (encs J6 a)=some r/\ ∀ st,fin st=some r->kK C J6 JJ outs st=some o):Spec P f (Sig.of J6 JJ g) :=
 ⟨enters hf (by rw[hb];rfl) hn,fun _ _ _ xs rs hI hv hl h100 hx hrs=>by obtain⟨a,o,h1,h2,h3⟩:=Sig.Abf hrs;subst h1;subst h3;obtain⟨r,h4,h5⟩:=hF a o h2;exact Axr (sg:=Sig.of J6 JJ g) (o:=r) hC N (fun {_} hC' {_ _ _ _ _ _} id ops _ _ _ _ _ K hS hd hx=>Auo hC' id ops K hS hd hx) hf hb hout hI hv hl h100 hx h4 (fun st h=>Aww (h5 st h))⟩
end
def KY {α ρ :Type} (A:(α ->Option ρ)->Option ρ) (f: α ->Option ρ):Option ρ :=A f
def J5 {ρ :Type} (b:Bool) (k:Bool->Option ρ):Option ρ :=k b
def oU {ρ :Type} (b:Bool) (k:Bool->Option ρ):J5 b k=k b:=rfl
def A1D {α β :Type}:Option (α ⊕ β)->Bool
 | some (.inr _)=>false
 | _=>true
def A15 {α β :Type}:Option (α ⊕ β)->Option α
 | some (.inl x)=>some x
 | _=>none
def A16 {α β :Type}:Option (α ⊕ β)->Option β
 | some (.inr x)=>some x
 | _=>none
def PI {α β ρ :Type} [Inhabited α] [Inhabited β] (o:Option (α ⊕ β)) (k: α ->Option ρ) (l: β ->Option ρ):Option ρ :=bif A1D o then Jt (A15 o) k else Jt (A16 o) l
def NW {α β ρ :Type} [Inhabited α] [Inhabited β] (x: α) (k: α ->Option ρ) (l: β ->Option ρ):PI (some (.inl x)) k l=k x:=rfl
def strings_Join (_:Nat) (l:List Bs) (sep:Bs):Option Bs:=bif decide (l.length<=140737488355328)&&decide ((sep.intercalate l).length<=140737488355328)then some (sep.intercalate l)else none
def U2 {a0 a1 r:Type} (f:a0->a1->r) (x:a0×a1):r:=f x.1 x.2
def U3 {a0 a1 a2 r:Type} (f:a0->a1->a2->r) (x:a0×a1×a2):r:=f x.1 x.2.1 x.2.2
def U4 {a0 a1 a2 a3 r:Type} (f:a0->a1->a2->a3->r) (x:a0×a1×a2×a3):r:=f x.1 x.2.1 x.2.2.1 x.2.2.2
def U5 {a0 a1 a2 a3 a4 r:Type} (f:a0->a1->a2->a3->a4->r) (x:a0×a1×a2×a3×a4):r:=f x.1 x.2.1 x.2.2.1 x.2.2.2.1 x.2.2.2.2
def U6 {a0 a1 a2 a3 a4 a5 r:Type} (f:a0->a1->a2->a3->a4->a5->r) (x:a0×a1×a2×a3×a4×a5):r:=f x.1 x.2.1 x.2.2.1 x.2.2.2.1 x.2.2.2.2.1 x.2.2.2.2.2
def U7 {a0 a1 a2 a3 a4 a5 a6 r:Type} (f:a0->a1->a2->a3->a4->a5->a6->r) (x:a0×a1×a2×a3×a4×a5×a6):r:=f x.1 x.2.1 x.2.2.1 x.2.2.2.1 x.2.2.2.2.1 x.2.2.2.2.2.1 x.2.2.2.2.2.2
def U8 {a0 a1 a2 a3 a4 a5 a6 a7 r:Type} (f:a0->a1->a2->a3->a4->a5->a6->a7->r) (x:a0×a1×a2×a3×a4×a5×a6×a7):r:=f x.1 x.2.1 x.2.2.1 x.2.2.2.1 x.2.2.2.2.1 x.2.2.2.2.2.1 x.2.2.2.2.2.2.1 x.2.2.2.2.2.2.2
def U9 {a0 a1 a2 a3 a4 a5 a6 a7 a8 r:Type} (f:a0->a1->a2->a3->a4->a5->a6->a7->a8->r) (x:a0×a1×a2×a3×a4×a5×a6×a7×a8):r:=f x.1 x.2.1 x.2.2.1 x.2.2.2.1 x.2.2.2.2.1 x.2.2.2.2.2.1 x.2.2.2.2.2.2.1 x.2.2.2.2.2.2.2.1 x.2.2.2.2.2.2.2.2
def U10 {a0 a1 a2 a3 a4 a5 a6 a7 a8 a9 r:Type} (f:a0->a1->a2->a3->a4->a5->a6->a7->a8->a9->r) (x:a0×a1×a2×a3×a4×a5×a6×a7×a8×a9):r:=f x.1 x.2.1 x.2.2.1 x.2.2.2.1 x.2.2.2.2.1 x.2.2.2.2.2.1 x.2.2.2.2.2.2.1 x.2.2.2.2.2.2.2.1 x.2.2.2.2.2.2.2.2.1 x.2.2.2.2.2.2.2.2.2
def U11 {a0 a1 a2 a3 a4 a5 a6 a7 a8 a9 a10 r:Type} (f:a0->a1->a2->a3->a4->a5->a6->a7->a8->a9->a10->r) (x:a0×a1×a2×a3×a4×a5×a6×a7×a8×a9×a10):r:=f x.1 x.2.1 x.2.2.1 x.2.2.2.1 x.2.2.2.2.1 x.2.2.2.2.2.1 x.2.2.2.2.2.2.1 x.2.2.2.2.2.2.2.1 x.2.2.2.2.2.2.2.2.1 x.2.2.2.2.2.2.2.2.2.1 x.2.2.2.2.2.2.2.2.2.2
def U12 {a0 a1 a2 a3 a4 a5 a6 a7 a8 a9 a10 a11 r:Type} (f:a0->a1->a2->a3->a4->a5->a6->a7->a8->a9->a10->a11->r) (x:a0×a1×a2×a3×a4×a5×a6×a7×a8×a9×a10×a11):r:=f x.1 x.2.1 x.2.2.1 x.2.2.2.1 x.2.2.2.2.1 x.2.2.2.2.2.1 x.2.2.2.2.2.2.1 x.2.2.2.2.2.2.2.1 x.2.2.2.2.2.2.2.2.1 x.2.2.2.2.2.2.2.2.2.1 x.2.2.2.2.2.2.2.2.2.2.1 x.2.2.2.2.2.2.2.2.2.2.2
def U13 {a0 a1 a2 a3 a4 a5 a6 a7 a8 a9 a10 a11 a12 r:Type} (f:a0->a1->a2->a3->a4->a5->a6->a7->a8->a9->a10->a11->a12->r) (x:a0×a1×a2×a3×a4×a5×a6×a7×a8×a9×a10×a11×a12):r:=f x.1 x.2.1 x.2.2.1 x.2.2.2.1 x.2.2.2.2.1 x.2.2.2.2.2.1 x.2.2.2.2.2.2.1 x.2.2.2.2.2.2.2.1 x.2.2.2.2.2.2.2.2.1 x.2.2.2.2.2.2.2.2.2.1 x.2.2.2.2.2.2.2.2.2.2.1 x.2.2.2.2.2.2.2.2.2.2.2.1 x.2.2.2.2.2.2.2.2.2.2.2.2
def U19 {a0 a1 a2 a3 a4 a5 a6 a7 a8 a9 a10 a11 a12 a13 a14 a15 a16 a17 a18 r:Type} (f:a0->a1->a2->a3->a4->a5->a6->a7->a8->a9->a10->a11->a12->a13->a14->a15->a16->a17->a18->r) (x:a0×a1×a2×a3×a4×a5×a6×a7×a8×a9×a10×a11×a12×a13×a14×a15×a16×a17×a18):r:=f x.1 x.2.1 x.2.2.1 x.2.2.2.1 x.2.2.2.2.1 x.2.2.2.2.2.1 x.2.2.2.2.2.2.1 x.2.2.2.2.2.2.2.1 x.2.2.2.2.2.2.2.2.1 x.2.2.2.2.2.2.2.2.2.1 x.2.2.2.2.2.2.2.2.2.2.1 x.2.2.2.2.2.2.2.2.2.2.2.1 x.2.2.2.2.2.2.2.2.2.2.2.2.1 x.2.2.2.2.2.2.2.2.2.2.2.2.2.1 x.2.2.2.2.2.2.2.2.2.2.2.2.2.2.1 x.2.2.2.2.2.2.2.2.2.2.2.2.2.2.2.1 x.2.2.2.2.2.2.2.2.2.2.2.2.2.2.2.2.1 x.2.2.2.2.2.2.2.2.2.2.2.2.2.2.2.2.2.1 x.2.2.2.2.2.2.2.2.2.2.2.2.2.2.2.2.2.2
def U20 {a0 a1 a2 a3 a4 a5 a6 a7 a8 a9 a10 a11 a12 a13 a14 a15 a16 a17 a18 a19 r:Type} (f:a0->a1->a2->a3->a4->a5->a6->a7->a8->a9->a10->a11->a12->a13->a14->a15->a16->a17->a18->a19->r) (x:a0×a1×a2×a3×a4×a5×a6×a7×a8×a9×a10×a11×a12×a13×a14×a15×a16×a17×a18×a19):r:=f x.1 x.2.1 x.2.2.1 x.2.2.2.1 x.2.2.2.2.1 x.2.2.2.2.2.1 x.2.2.2.2.2.2.1 x.2.2.2.2.2.2.2.1 x.2.2.2.2.2.2.2.2.1 x.2.2.2.2.2.2.2.2.2.1 x.2.2.2.2.2.2.2.2.2.2.1 x.2.2.2.2.2.2.2.2.2.2.2.1 x.2.2.2.2.2.2.2.2.2.2.2.2.1 x.2.2.2.2.2.2.2.2.2.2.2.2.2.1 x.2.2.2.2.2.2.2.2.2.2.2.2.2.2.1 x.2.2.2.2.2.2.2.2.2.2.2.2.2.2.2.1 x.2.2.2.2.2.2.2.2.2.2.2.2.2.2.2.2.1 x.2.2.2.2.2.2.2.2.2.2.2.2.2.2.2.2.2.1 x.2.2.2.2.2.2.2.2.2.2.2.2.2.2.2.2.2.2.1 x.2.2.2.2.2.2.2.2.2.2.2.2.2.2.2.2.2.2.2
def U21 {a0 a1 a2 a3 a4 a5 a6 a7 a8 a9 a10 a11 a12 a13 a14 a15 a16 a17 a18 a19 a20 r:Type} (f:a0->a1->a2->a3->a4->a5->a6->a7->a8->a9->a10->a11->a12->a13->a14->a15->a16->a17->a18->a19->a20->r) (x:a0×a1×a2×a3×a4×a5×a6×a7×a8×a9×a10×a11×a12×a13×a14×a15×a16×a17×a18×a19×a20):r:=f x.1 x.2.1 x.2.2.1 x.2.2.2.1 x.2.2.2.2.1 x.2.2.2.2.2.1 x.2.2.2.2.2.2.1 x.2.2.2.2.2.2.2.1 x.2.2.2.2.2.2.2.2.1 x.2.2.2.2.2.2.2.2.2.1 x.2.2.2.2.2.2.2.2.2.2.1 x.2.2.2.2.2.2.2.2.2.2.2.1 x.2.2.2.2.2.2.2.2.2.2.2.2.1 x.2.2.2.2.2.2.2.2.2.2.2.2.2.1 x.2.2.2.2.2.2.2.2.2.2.2.2.2.2.1 x.2.2.2.2.2.2.2.2.2.2.2.2.2.2.2.1 x.2.2.2.2.2.2.2.2.2.2.2.2.2.2.2.2.1 x.2.2.2.2.2.2.2.2.2.2.2.2.2.2.2.2.2.1 x.2.2.2.2.2.2.2.2.2.2.2.2.2.2.2.2.2.2.1 x.2.2.2.2.2.2.2.2.2.2.2.2.2.2.2.2.2.2.2.1 x.2.2.2.2.2.2.2.2.2.2.2.2.2.2.2.2.2.2.2.2
def U22 {a0 a1 a2 a3 a4 a5 a6 a7 a8 a9 a10 a11 a12 a13 a14 a15 a16 a17 a18 a19 a20 a21 r:Type} (f:a0->a1->a2->a3->a4->a5->a6->a7->a8->a9->a10->a11->a12->a13->a14->a15->a16->a17->a18->a19->a20->a21->r) (x:a0×a1×a2×a3×a4×a5×a6×a7×a8×a9×a10×a11×a12×a13×a14×a15×a16×a17×a18×a19×a20×a21):r:=f x.1 x.2.1 x.2.2.1 x.2.2.2.1 x.2.2.2.2.1 x.2.2.2.2.2.1 x.2.2.2.2.2.2.1 x.2.2.2.2.2.2.2.1 x.2.2.2.2.2.2.2.2.1 x.2.2.2.2.2.2.2.2.2.1 x.2.2.2.2.2.2.2.2.2.2.1 x.2.2.2.2.2.2.2.2.2.2.2.1 x.2.2.2.2.2.2.2.2.2.2.2.2.1 x.2.2.2.2.2.2.2.2.2.2.2.2.2.1 x.2.2.2.2.2.2.2.2.2.2.2.2.2.2.1 x.2.2.2.2.2.2.2.2.2.2.2.2.2.2.2.1 x.2.2.2.2.2.2.2.2.2.2.2.2.2.2.2.2.1 x.2.2.2.2.2.2.2.2.2.2.2.2.2.2.2.2.2.1 x.2.2.2.2.2.2.2.2.2.2.2.2.2.2.2.2.2.2.1 x.2.2.2.2.2.2.2.2.2.2.2.2.2.2.2.2.2.2.2.1 x.2.2.2.2.2.2.2.2.2.2.2.2.2.2.2.2.2.2.2.2.1 x.2.2.2.2.2.2.2.2.2.2.2.2.2.2.2.2.2.2.2.2.2
def U23 {a0 a1 a2 a3 a4 a5 a6 a7 a8 a9 a10 a11 a12 a13 a14 a15 a16 a17 a18 a19 a20 a21 a22 r:Type} (f:a0->a1->a2->a3->a4->a5->a6->a7->a8->a9->a10->a11->a12->a13->a14->a15->a16->a17->a18->a19->a20->a21->a22->r) (x:a0×a1×a2×a3×a4×a5×a6×a7×a8×a9×a10×a11×a12×a13×a14×a15×a16×a17×a18×a19×a20×a21×a22):r:=f x.1 x.2.1 x.2.2.1 x.2.2.2.1 x.2.2.2.2.1 x.2.2.2.2.2.1 x.2.2.2.2.2.2.1 x.2.2.2.2.2.2.2.1 x.2.2.2.2.2.2.2.2.1 x.2.2.2.2.2.2.2.2.2.1 x.2.2.2.2.2.2.2.2.2.2.1 x.2.2.2.2.2.2.2.2.2.2.2.1 x.2.2.2.2.2.2.2.2.2.2.2.2.1 x.2.2.2.2.2.2.2.2.2.2.2.2.2.1 x.2.2.2.2.2.2.2.2.2.2.2.2.2.2.1 x.2.2.2.2.2.2.2.2.2.2.2.2.2.2.2.1 x.2.2.2.2.2.2.2.2.2.2.2.2.2.2.2.2.1 x.2.2.2.2.2.2.2.2.2.2.2.2.2.2.2.2.2.1 x.2.2.2.2.2.2.2.2.2.2.2.2.2.2.2.2.2.2.1 x.2.2.2.2.2.2.2.2.2.2.2.2.2.2.2.2.2.2.2.1 x.2.2.2.2.2.2.2.2.2.2.2.2.2.2.2.2.2.2.2.2.1 x.2.2.2.2.2.2.2.2.2.2.2.2.2.2.2.2.2.2.2.2.2.1 x.2.2.2.2.2.2.2.2.2.2.2.2.2.2.2.2.2.2.2.2.2.2
def U29 {a0 a1 a2 a3 a4 a5 a6 a7 a8 a9 a10 a11 a12 a13 a14 a15 a16 a17 a18 a19 a20 a21 a22 a23 a24 a25 a26 a27 a28 r:Type} (f:a0->a1->a2->a3->a4->a5->a6->a7->a8->a9->a10->a11->a12->a13->a14->a15->a16->a17->a18->a19->a20->a21->a22->a23->a24->a25->a26->a27->a28->r) (x:a0×a1×a2×a3×a4×a5×a6×a7×a8×a9×a10×a11×a12×a13×a14×a15×a16×a17×a18×a19×a20×a21×a22×a23×a24×a25×a26×a27×a28):r:=f x.1 x.2.1 x.2.2.1 x.2.2.2.1 x.2.2.2.2.1 x.2.2.2.2.2.1 x.2.2.2.2.2.2.1 x.2.2.2.2.2.2.2.1 x.2.2.2.2.2.2.2.2.1 x.2.2.2.2.2.2.2.2.2.1 x.2.2.2.2.2.2.2.2.2.2.1 x.2.2.2.2.2.2.2.2.2.2.2.1 x.2.2.2.2.2.2.2.2.2.2.2.2.1 x.2.2.2.2.2.2.2.2.2.2.2.2.2.1 x.2.2.2.2.2.2.2.2.2.2.2.2.2.2.1 x.2.2.2.2.2.2.2.2.2.2.2.2.2.2.2.1 x.2.2.2.2.2.2.2.2.2.2.2.2.2.2.2.2.1 x.2.2.2.2.2.2.2.2.2.2.2.2.2.2.2.2.2.1 x.2.2.2.2.2.2.2.2.2.2.2.2.2.2.2.2.2.2.1 x.2.2.2.2.2.2.2.2.2.2.2.2.2.2.2.2.2.2.2.1 x.2.2.2.2.2.2.2.2.2.2.2.2.2.2.2.2.2.2.2.2.1 x.2.2.2.2.2.2.2.2.2.2.2.2.2.2.2.2.2.2.2.2.2.1 x.2.2.2.2.2.2.2.2.2.2.2.2.2.2.2.2.2.2.2.2.2.2.1 x.2.2.2.2.2.2.2.2.2.2.2.2.2.2.2.2.2.2.2.2.2.2.2.1 x.2.2.2.2.2.2.2.2.2.2.2.2.2.2.2.2.2.2.2.2.2.2.2.2.1 x.2.2.2.2.2.2.2.2.2.2.2.2.2.2.2.2.2.2.2.2.2.2.2.2.2.1 x.2.2.2.2.2.2.2.2.2.2.2.2.2.2.2.2.2.2.2.2.2.2.2.2.2.2.1 x.2.2.2.2.2.2.2.2.2.2.2.2.2.2.2.2.2.2.2.2.2.2.2.2.2.2.2.1 x.2.2.2.2.2.2.2.2.2.2.2.2.2.2.2.2.2.2.2.2.2.2.2.2.2.2.2.2
abbrev CZ {a b c d e:Type} (x:a×b×c×d×e):e:=x.2.2.2.2
abbrev Dc {a b c d e f g h i:Type} (x:a×b×c×d×e×f×g×h×i):i:=x.2.2.2.2.2.2.2.2
abbrev Df {a b c d e f g h i j k l m:Type} (x:a×b×c×d×e×f×g×h×i×j×k×l×m):m:=x.2.2.2.2.2.2.2.2.2.2.2.2
abbrev Dh {a b c d e f g h i j k l m n o p q:Type} (x:a×b×c×d×e×f×g×h×i×j×k×l×m×n×o×p×q):q:=x.2.2.2.2.2.2.2.2.2.2.2.2.2.2.2.2
abbrev Di {a b c d e f g h i j k l m n o p q r s t u:Type} (x:a×b×c×d×e×f×g×h×i×j×k×l×m×n×o×p×q×r×s×t×u):u:=x.2.2.2.2.2.2.2.2.2.2.2.2.2.2.2.2.2.2.2.2
abbrev Dj {a b c d e f g h i j k l m n o p q r s t u v w x y:Type} (x:a×b×c×d×e×f×g×h×i×j×k×l×m×n×o×p×q×r×s×t×u×v×w×x×y):y:=x.2.2.2.2.2.2.2.2.2.2.2.2.2.2.2.2.2.2.2.2.2.2.2.2
abbrev Dk {a b c d e f g h i j k l m n o p q r s t u v w x y z A B C:Type} (x:a×b×c×d×e×f×g×h×i×j×k×l×m×n×o×p×q×r×s×t×u×v×w×x×y×z×A×B×C):C:=x.2.2.2.2.2.2.2.2.2.2.2.2.2.2.2.2.2.2.2.2.2.2.2.2.2.2.2.2
abbrev Aa {ρ:Type} (b:Bool) (k:Option ρ):Option ρ:=chk (b||!b) k
abbrev Ac {ρ:Type} (b:Bool) (k:Option ρ):Option ρ:=Aa b (Aa b k)
abbrev Ad {ρ:Type} (b:Bool) (k:Option ρ):Option ρ:=Aa b (Ac b k)
abbrev Ae {ρ:Type} (b:Bool) (k:Option ρ):Option ρ:=Aa b (Ad b k)
abbrev Af {ρ:Type} (b:Bool) (k:Option ρ):Option ρ:=Aa b (Ae b k)
abbrev Ag {ρ:Type} (b:Bool) (k:Option ρ):Option ρ:=Aa b (Af b k)
abbrev Ah {ρ:Type} (b:Bool) (k:Option ρ):Option ρ:=chk (bif b then b else true) (chk (bif b then true else true) k)
abbrev Ai {ρ:Type} (b:Bool) (k:Option ρ):Option ρ:=chk (bif b then true else !b) (chk (bif b then true else true) k)
abbrev Aj {ρ:Type} (i:Int) (n:Nat) (k:Option ρ):Option ρ:=chk (decide (0<=i)) (chk (decide (i<(n:Int))) k)
abbrev Ak {ρ:Type} (p:Prop) [Decidable p] (k:Option ρ):Option ρ:=chk (decide p) k
abbrev Am {ρ:Type} (n:Nat) (k:Option ρ):Option ρ:=chk (decide (n<=140737488355328)) k
open Go.RowKit
def Below.moves {O:Own} {T:Nat->Prop} {w w':World} (h:Below w.heap.size w w'):Moves O T w w':=⟨h.os,h.tape,h.output,h.size,fun b hb=>.inl (h.block b hb)⟩
noncomputable def TA (e N:Nat):Sig:=.of [.cell false (.sl e (.str .nil)),.cell false .str] [.cell false .str] (fun a=>strings_Join N a.1 a.2)
def Uz {O:Own} {w:World} {v:Value} {s:List UInt8} (h:JA O w v (.str s)):v= .string ⟨s.toArray⟩:=by
 cases h with
 | str s=>exact congrArg Value.string (by rw[Array.toArray_toList])
def nJ {O:Own} {w w':World} {vs:Array Value} {e N:Nat} {s:List UInt8} (hb:Below w.heap.size w w'):Came O w vs (TA e N) [.str s] (.string ⟨s.toArray⟩) O w':=by
 refine⟨Below.moves hb,fun b k _ h=>h,fun b k _ h=>h,rfl,⟨#[.string ⟨s.toArray⟩],rfl,rfl,fun k hk=> ?_⟩,fun j i hj=> ?_⟩
 .have hk0:k=0:=by simp at hk;omega
  subst hk0;show JA O w' (.string ⟨s.toArray⟩) (.str s);exact JA.str (O:=O) (w:=w') ⟨s.toArray⟩
 .exact absurd hj (by show(L6 [.cell false (.sl e (.str .nil)),.cell false .str] 0)[j]? ≠some i;simp [L6,KH])
def ApB (P:Program) (f:FuncId):Prop :=
 (∀(a:Option Addr) (c:Nat) (sep:ByteArray) (w:World),Calls P f #[.slice a 0 c,.string sep] w fun e w'=>e= .returned (.string ⟨#[]⟩)/\w'=w) /\
 (∀(bk o c:Nat) (xs:List ByteArray) (sep:ByteArray) (w:World),(∀(j:Nat) x,xs[j]? =some x->w.cell? ⟨bk,o+j,none⟩=some (.string x))->bk<w.heap.size->xs.length<=140737488355328->xs.length<=c->(Lib.join (xs.map (·.data.toList)) sep.data.toList).length<=140737488355328 ->
   Calls P f #[.slice (some ⟨bk,o,none⟩) xs.length c,.string sep] w fun e w'=>e= .returned (.string ⟨(Lib.join (xs.map (·.data.toList)) sep.data.toList).toArray⟩)/\Below w.heap.size w w')
def AjH {P:Program} {f:FuncId} {e N:Nat} (H:ApB P f) {O:Own} {w:World} {vs:Array Value} (l:List Bs) (sep o:Bs) (hl2:vs.size=2) (hx0:JA O w (vs.getD 0 undef) (.sl ⟨.str .nil,l⟩)) (hx1:JA O w (vs.getD 1 undef) (.str sep)) (h2':strings_Join N l sep=some o) :
 Calls P f vs w fun e' w'=> ∃ v O',e'= .returned v/\Came O w vs (TA e N) [.str o] v O' w':=by
 obtain⟨hn,hj⟩:=H
 have hvs:vs= #[vs.getD 0 undef,vs.getD 1 undef]:=by
  apply Fp
  .simpa using hl2
  .intro i h1 h2;have:i=0\/i=1:=by simp at h2;omega
   rcases this with rfl | rfl
   .simp [Dq,h1]
   .simp [Dq,h1]
 rw[Uz hx1]at hvs;unfold strings_Join at h2';cases hc:(decide (l.length<=140737488355328)&&decide ((sep.intercalate l).length<=140737488355328))with
 | false=>rw[hc]at h2';cases h2'
 | true =>
  rw[hc]at h2';injection h2' with h2';rw[Dw,DK,DK]at hc;subst h2';have hes0:(⟨.str .nil,l⟩:Sl).es=l.map (fun s:Bs=>[A.str s]):=rfl;generalize hv0:vs.getD 0 undef=v0 at *
  have hnil:l=[]-> ∀ a c,v0= .slice a 0 c->Calls P f vs w fun e' w'=> ∃ v O',e'= .returned v/\Came O w vs (TA e N) [.str (sep.intercalate l)] v O' w':=by
   intro hl0 a c hv0';have:=hn a c ⟨sep.toArray⟩ w;rw[<- hv0',<- hvs]at this;refine this.mono fun e' w' hq=> ?_;obtain⟨h4,h5⟩:=hq;subst h5;refine⟨_,O,h4,?_⟩;have:sep.intercalate l=[]:=by rw[hl0];rfl
   rw[this];exact nJ (Below.refl _ _)
  have hsz:(⟨.str .nil,l⟩:Sl).sz=1:=rfl;generalize hL:(⟨.str .nil,l⟩:Sl)=L at hx0 hes0 hsz;have hlen:L.es.length=l.length:=by rw[hes0,Dz]
  have hes: ∀ j:Nat,L.es[j]? =(l[j]?).map (fun s=>[A.str s]):=fun j=>by rw[hes0,Eu]
  cases hx0 with
  | nil t =>
   have:l=[]:=by injection hL with h1 h2;subst h1;exact II h2
   exact hnil this _ _ rfl
  | sl0 ad t =>
   have:l=[]:=by injection hL with h1 h2;subst h1;exact II h2
   exact hnil this _ _ rfl
  | @sl b off cap l' vs' hcap hm hr =>
   cases hl0:l with
   | nil=>rw[<- hl0];exact hnil hl0 _ cap (by rw[hlen,hl0];rfl)
   | cons s0 r =>
    have hb:b<w.heap.size:=by have:=(hm 0 0 (by rw[hlen,hl0];simp) (by omega)).2;exact cell_lt this
    rw[<- hl0]
    have hmap:(l.map (fun s=>(⟨s.toArray⟩:ByteArray))).map (·.data.toList)=l:=by
     rw[EC]
     conv=>rhs;rw[<- FY l]
     refine Ea fun s _=> ?_;simp
    have hJ:=hj b off cap (l.map (fun s=>(⟨s.toArray⟩:ByteArray))) ⟨sep.toArray⟩ w (fun j x hjx=>by
     rw[Eu]at hjx;cases hlj:l[j]? with
     | none=>rw[hlj]at hjx;cases hjx
     | some s =>
      rw[hlj]at hjx;injection hjx with hjx
      have hjl:j<L.es.length:=by
       rw[hlen];rcases Ef j l.length with h | h
       .exact h
       .rw[Ec h]at hlj;cases hlj
      have hm1:=(hm j 0 hjl (by omega)).2;have hr1:=hr j 0 hjl (by omega);rw[Dn (l:=L.es),hes,hlj]at hr1;have:=Uz (show JA O w (vs' j 0) (.str s)from hr1);rw[this]at hm1;rw[<- hjx];have e1:off+(j*L.sz+0)=off+j:=by rw[hsz];omega
      rw[e1]at hm1;exact hm1) hb (by rw[Dz];exact hc.1) (by rw[Dz,<- hlen];exact hcap) (by rw[hmap];show(List.intercalate _ l).length<=_;simpa using hc.2)
    rw[Dz,hmap,<- hlen,<- hvs]at hJ;refine hJ.mono fun e' w' hq=> ?_;have e2:Lib.join l (⟨sep.toArray⟩:ByteArray).data.toList=sep.intercalate l:=by show List.intercalate _ l=_;simp
    rw[e2]at hq;exact⟨_,O,hq.1,nJ hq.2⟩
def AlM {P:Program} {f:FuncId} {e N:Nat} (hent: ∀ args w,(callFunc f args).run P w= .ok (.enter f args) w) (H:ApB P f):Spec P f (TA e N):=by refine⟨hent,fun O w vs xs rs _ hv hl _ hx hrs=> ?_⟩;obtain⟨a,o,h1,h2,h3⟩:=Sig.Abf hrs;subst h1;have h3':rs=[.str o]:=h3;rw[h3'];exact AjH H a.1 a.2 o hv (hx 0 (by show 0<2;omega)) (hx 1 (by show 1<2;omega)) h2
end Go.Proofs.YtfgdgdnlglejbaaGreatDoor.Vm
