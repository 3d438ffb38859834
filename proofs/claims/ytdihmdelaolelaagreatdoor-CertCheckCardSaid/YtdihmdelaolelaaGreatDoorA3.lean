import Derived.Test.YtdihmdelaolelaaGreatDoorA2
import Derived.Laws.Small
import Derived.Laws.Tables
import Derived.Laws.Append
import Derived.Laws.AppendOwn
import Derived.Laws.OwnMore
set_option linter.all false
namespace Go.Proofs.YtdihmdelaolelaaGreatDoor.Vm
section
variable {P:Program} {C:Ctx} {O:Own} {Js:List (Nat×Obj)} {m:Nat->Value} {a:Act} {w:World} {o:Oper} {fet:Fet}
def AgU (w:World) (O:Own) (v:Value) (l:Sl):Prop :=
 (∃ ad,v= .slice ad 0 0/\l.xs=[])\/ ∃ b k c,v= .slice (some (at' b k)) l.es.length c/\l.es.length<=c /\
   ∀ i j,i<l.es.length->j<l.sz-> ∃ u,w.cell? (at' b (k+(i*l.sz+j)))=some u/\J5 O w u ((l.es.getD i []).getD j .undef)
def AgS {l:Sl} (h:l.es=[]):l.xs=[]:=by simp_all[Sl.es]
def J5.ofNil {l:Sl} (h:l.es=[]):J5 O w (.slice none 0 0) (.sl l):=by obtain⟨t,xs⟩:=l;have:xs=[]:=AgS h;subst this;exact .nil t
theorem AyP {x:A} {v:Value} (hf:FOk O Js m w fet) (hx:JG O Js m w v x) (hok:J7 (rd fet x).1):AgU w O v (rd fet x).2:=by
 rcases Ano hok with ⟨n,e,frz,l,rfl,hg,hl⟩ | ⟨rfl,hl⟩ | ⟨l,rfl,hl⟩<;>rw[hl]
 .obtain⟨h1,h0,h2⟩:=hx.own hf hg;rcases h2 with ⟨h3,h4,h5⟩ | ⟨h3,g,cap,cur,h4,h5,h6,h7,h8,h9,_⟩
  .exact .inl ⟨none,by rw[h1,h5],AgS h4⟩
  .refine .inr ⟨g,0,cap,by rw[h1,h4],h6,fun i j hi hj=> ?_⟩;obtain⟨u,h10,h11⟩:=h9 i j hi hj;exact⟨u,by rw[DY,h5.cell];exact h10,h11⟩
 .exact .inl ⟨none,hx,rfl⟩
 .have hx':J5 O w v (.sl l):=hx;cases hx' with
  | nil=>exact .inl ⟨none,rfl,rfl⟩
  | sl0 ad=>exact .inl ⟨some ad,rfl,rfl⟩
  | @sl b off cap _ vs hc hm hr=>exact .inr ⟨b,off,cap,rfl,hc,fun i j hi hj=>⟨vs i j,(hm i j hi hj).2,hr i j hi hj⟩⟩
def Aqb {t:Ty} {x:A} {v:Value} (hf:FOk O Js m w fet) (hx:JG O Js m w v x) (hok:J7 (rdT fet t x).1):AgU w O v ⟨t,(rdT fet t x).2⟩:=by
 by_cases hn:x= .Ls
 .subst hn;exact .inl ⟨none,hx,rfl⟩
 .have hr:rdT fet t x=match (rd fet x).2.cast t with | some xs=>((rd fet x).1,xs) | none=>([false],[]):=by
   cases x<;>first | rfl | exact absurd rfl hn
  rw[hr]at hok ⊢;cases hc:(rd fet x).2.cast t with
  | none=>simp_all[Ty,FOk,JG,J7,rdT,AgU]
  | some xs=>grind[AyP,Sl.QA]
def AtQ {n:Int} (h:isByte n=true):0<=n/\n<256:=by unfold isByte at h;simpa using h
def AmC {d:TypeDesc} (h:AfY d=true):d= .int .u8:=by grind[AfY]
def Aax {s t:Nat} {x:Operand} (hC:TOk P C) (hf:FOk O Js m w fet) (ho:o.op= .convert s t x) {x':A} (hx:JG O Js m w (a.eval x) x') (hok:J7 (Zy C fet s t x').ok) :
 Pure P O Js m a w o (Zy C fet s t x'):=by
 unfold Zy at hok ⊢;obtain⟨ts,hts,he⟩:=KG hok;rw[he]at hok ⊢;clear he;obtain⟨tt,htt,he⟩:=KG hok;rw[he]at hok ⊢;clear he;have hus:=(hC.is hts).run w;have hut:=(hC.is htt).run w;split at hok
 .rename_i k j n hd;rw[hd]at hut;have h1:=hx.int;refine⟨⟨.int k (k.wrap n),?_,.mkInt _ _⟩,rfl,rfl,rfl⟩;simp only[execOp,ho,convert,DU,hus,hut,Result.andThen_ok,h1];cases ts.d<;>simp [Conv.intToInt]
 .rename_i l hd;rw[hd]at hut;obtain⟨b,hb,hl⟩:=hx.str;refine⟨⟨.string b,?_,.mkStr _ hl⟩,rfl,rfl,rfl⟩;simp only[execOp,ho,convert,DU,hus,hut,Result.andThen_ok,hb];cases ts.d<;>simp
 .exact(JR hok).elim
 .rename_i y _ _ hd _ _;rw[hd]at hut;obtain⟨e,hel,he⟩:=JV hok;rw[he]at hok ⊢;clear he;obtain⟨te,hte,he⟩:=KG hok;rw[he]at hok ⊢;clear he;obtain⟨h1,h2⟩:=hok.cons;obtain⟨h2,h3⟩:=h2.append;have h3:=h3.cons.1;have hde:=AmC h1;have hes:=Uk hel;have hue:=(hC.is hte).d;rw[hde]at hue;have hus':=(hC.is hts).d;rw[hes]at hus';have hr:AgU w O (a.eval x) ⟨Tq,(rdB fet y).2⟩:=Aqb (t:=Tq) hf hx h2;generalize hL:(rdB fet y).2=bs at *
  have hes:(⟨Tq,bs⟩:Sl).es.length=bs.length:=Sl.KR _;rcases hr with ⟨ad,hv,hn⟩ | ⟨b,k,c,hv,hc,hcell⟩
  .have hn:bs=[]:=hn;refine⟨⟨.string .empty,?_,.mkStr _ (by rw[hn];rfl)⟩,rfl,rfl,rfl⟩;cases ad with
   | none =>have:=run_convert_bytes_string (P:=P) w s t e none 0 0 hus' hue (by rw[(hC.is htt).d,hd]);simp only[execOp,ho,hv,DU,this];rfl
   | some ad =>have:=run_convert_bytes_back (P:=P) w s t e ad 0 [] hus' hue (by rw[(hC.is htt).d,hd]) (fun j hj=>absurd hj (Iq j));simp only[List.length_nil]at this;simp only[execOp,ho,hv,DU,this];rfl
  .refine⟨⟨.string ⟨(List.map byteOf bs).toArray⟩,?_,.mkStr _ (by simp)⟩,rfl,rfl,rfl⟩
   have:=run_convert_bytes_back (P:=P) w s t e (at' b k) c (List.map byteOf bs) hus' hue (by rw[(hC.is htt).d,hd]) (fun j hj=>by
    have hj':j<bs.length:=by simpa using hj
    obtain⟨u,h4,h5⟩:=hcell j 0 (by rw[hes];exact hj') (by show 0<1;omega);have hb:isByte (bs.getD j 0)=true:=by refine(DF.1 h3) _ ?_;rw[Dn,D9 hj'];simp
    obtain⟨h7,h8⟩:=AtQ hb;have h6:(⟨Tq,bs⟩:Sl).es.getD j []=[A.int .u8 (bs.getD j 0)]:=by rw[<- Sl.at_eq _ hj'];rfl
    rw[h6]at h5;simp only[Gs]at h5;have hu:u= .int .u8 (bs.getD j 0):=by cases h5;rfl
    have h4':w.cell? (at' b (k+(j*1+0)))=some u:=h4;rw[RQ,show k+j=k+(j*1+0)from by omega,h4',hu];have:(List.map byteOf bs)[j]'hj=UInt8.ofNat (bs.getD j 0).toNat:=by rw[G8,Dn,D9 hj'];rfl
    rw[this];have:((UInt8.ofNat (bs.getD j 0).toNat).toNat:Int)=bs.getD j 0:=by rw[FH];omega
    rw[this])
   simp only[D7]at this;rw[hes]at hv;simp only[execOp,ho,hv,DU,this];rfl
 .exact(JR hok).elim
def AvS {c:Call} {x y:Operand} (ho:o.op= .call c) (hcal:c.callee= .builtin .min) (hargs:c.args= #[x,y]) {x' y':A} (hx:JG O Js m w (a.eval x) x') (hy:JG O Js m w (a.eval y) y')
 (hok:J7 (ArG x' y').ok):Pure P O Js m a w o (ArG x' y'):=by
 unfold ArG at hok ⊢;split at hok
 .rename_i k p k' q;cases hk:A.kEq k k' with
  | false=>rw[hk]at hok;exact(JR hok).elim
  | true =>
   have:=QW hk;subst this;refine⟨⟨.int k (if q<p then q else p),?_,?_⟩,rfl,rfl,rfl⟩
   .have h:=run_min_int2 (P:=P) (w:=w) c.argTypes o.type k k p q;simp [execOp,ho,resolve,hcal,hargs,invoke,builtin,hx.int,hy.int,h]
   .show JG O Js m w _ (.int k (bif decide (q<p)then q else p));by_cases h:q<p<;>simp only[h,FV,Hw,cond_true,cond_false,Jc,G7]<;>exact .mkInt _ _
 .exact(JR hok).elim
def AvR {c:Call} {x y:Operand} (ho:o.op= .call c) (hcal:c.callee= .builtin .max) (hargs:c.args= #[x,y]) {x' y':A} (hx:JG O Js m w (a.eval x) x') (hy:JG O Js m w (a.eval y) y')
 (hok:J7 (ArE x' y').ok):Pure P O Js m a w o (ArE x' y'):=by
 unfold ArE at hok ⊢;split at hok
 .rename_i k p k' q;cases hk:A.kEq k k' with
  | false=>rw[hk]at hok;exact(JR hok).elim
  | true =>
   have:=QW hk;subst this;refine⟨⟨.int k (if q>p then q else p),?_,?_⟩,rfl,rfl,rfl⟩
   .have h:=run_max_int2 (P:=P) (w:=w) c.argTypes o.type k k p q;simp [execOp,ho,resolve,hcal,hargs,invoke,builtin,hx.int,hy.int,h]
   .show JG O Js m w _ (.int k (bif decide (p<q)then q else p));by_cases h:p<q<;>simp only[h,gt_iff_lt,FV,Hw,cond_true,cond_false,Jc,G7]<;>exact .mkInt _ _
 .exact(JR hok).elim
end
section
variable {P:Program} {C:Ctx} {O:Own} {Js:List (Nat×Obj)} {m:Nat->Value} {a:Act} {w:World} {o:Oper} {fet:Fet}
def RP (O:Own) (Js:List (Nat×Obj)) (m:Nat->Value) (w:World) (vs:Array Value) (cs:List A):Prop :=
 vs.size=cs.length/\ ∀ j,j<cs.length->JI O Js m w (vs.getD j undef) (cs.getD j .undef)
def JI.one {v:Value} {x:A} (h:JI O Js m w v x):v.oneCell'=true:=by
 cases x with
 | undef=>exact h
 | bool _=>cases h;rfl
 | int _ _=>cases h;rfl
 | str _=>cases h;rfl
 | sl _=>cases h<;>rfl
 | sln _=>exact J5.one h
 | Ls=>have h':v=_:=h;subst h';rfl
 | Me=>cases h;rfl
 | ptr _ _=>exact h.1
 | own _=>exact h.1
 | Kt _ _ _=>exact h.1
 | clo _ _=>exact h.1
 | bsl _ _=>exact h.1
 | osl _ _=>exact h.1
 | elt _=>obtain⟨_,_,h,_⟩:=h;subst h;rfl
 | fn _=>cases h<;>rfl
 | _=>exact h.elim
def oneCell_cells {v:Value} (h:v.oneCell'=true):v.cells= #[v]:=by cases v<;>first | rfl | cases h
theorem JG.cells {v:Value} {x:A} (h:JG O Js m w v x) (hv:x.isVal=true):RP O Js m w v.cells x.cells:=by
 have cell:JI O Js m w v x->x.cells=[x]->RP O Js m w v.cells x.cells:=by
  intro hc he;rw[he,oneCell_cells hc.one];refine⟨rfl,fun j hj=> ?_⟩;have:j=0:=by simpa using hj
  subst this;exact hc
 cases x with
 | agg cs =>obtain⟨vs,h1,h2,h3⟩:=h;subst h1;exact⟨h2,h3⟩
 | undef=>cases hv
 | tup _=>cases hv
 | usl _ _ _=>cases hv
 | ump _=>cases hv
 | box _=>cases hv
 | cbx _ _=>cases hv
 | cnd _ _=>cases hv
 | _=>exact cell h rfl
def Wv (l:List Value): ∀(k off:Nat) (cs:Array Value) (i:Nat),off+k+l.length<=cs.size ->
 ((l.zipIdx k).foldl (fun cs (p:Value×Nat)=>cs.setIfInBounds (off+p.2) p.1) cs).size=cs.size /\
 ((l.zipIdx k).foldl (fun cs (p:Value×Nat)=>cs.setIfInBounds (off+p.2) p.1) cs).getD i undef=if off+k<=i/\i<off+k+l.length then l.getD (i - (off+k)) undef else cs.getD i undef:=by
 induction l with
 | nil =>intro k off cs i _;refine⟨rfl,?_⟩;rw[Dp (by simp)];rfl
 | cons v l ih =>
  intro k off cs i h;simp only[List.zipIdx_cons,List.foldl_cons];simp only[List.length_cons]at h ⊢;obtain⟨h1,h2⟩:=ih (k+1) off (cs.setIfInBounds (off+k) v) i (by simp;omega);refine⟨by rw[h1];simp,?_⟩;rw[h2];by_cases hi:off+(k+1)<=i/\i<off+(k+1)+l.length
  .rw[Du hi,A0z,show i - (off+k)=(i - (off+(k+1)))+1 from by omega];rfl
  .rw[Dp hi];by_cases hk:i=off+k
   .subst hk;rw[A0z,Dw,EZ];all_goals grind
   .rw[A0y,Dw,EZ,A0y,<- Dw]
def pI (l:List A) (off:Nat) (vs:List A) (i:Nat) (h:off+vs.length<=l.length):(splice l off vs).getD i .undef=if off<=i/\i<off+vs.length then vs.getD (i - off) .undef else l.getD i .undef:=by unfold splice;all_goals grind[splice]
def fF (l:List A) (off:Nat) (vs:List A) (h:off+vs.length<=l.length):(splice l off vs).length=l.length:=by unfold splice;simp;omega
theorem RP.splice {vs us:Array Value} {cs xs:List A} {off:Nat} (h:RP O Js m w vs cs) (hu:RP O Js m w us xs) (hle:off+xs.length<=cs.length) :
 RP O Js m w (us.zipIdx.foldl (fun cs (c,j)=>cs.setIfInBounds (off+j) c) vs) (splice cs off xs):=by
 have e:us.zipIdx.foldl (fun cs (c,j)=>cs.setIfInBounds (off+j) c) vs=(us.toList.zipIdx 0).foldl (fun cs (p:Value×Nat)=>cs.setIfInBounds (off+p.2) p.1) vs:=by rw[<- IU];simp
 rw[e];have hl:off+0+us.toList.length<=vs.size:=by rw[Array.length_toList,hu.1,h.1];omega
 refine⟨by rw[(Wv us.toList 0 off vs 0 hl).1,h.1,fF _ _ _ hle],fun j hj=> ?_⟩;rw[fF _ _ _ hle]at hj;rw[(Wv us.toList 0 off vs j hl).2,pI _ _ _ _ hle];rw[Array.length_toList,hu.1];by_cases hi:off<=j/\j<off+xs.length
 .rw[A0z,Du hi,Nat.add_zero];have:=hu.2 (j - off) (by omega);have e:us.toList.getD (j - off) undef=us.getD (j - off) undef:=by rw[Dw,Dn,EW]
  rw[e];exact this
 .rw[A0y,Dp hi];exact h.2 j hj
def kP (P:Program) (d:TypeDesc) (i:Nat):Option (Nat×Nat) :=
 match d with
 | .struct fs=>(fs[i]?).bind fun f=>(P.info? f.type).map fun j=>(f.offset,j.size)
 | .array _ e=>(P.info? e).map fun j=>(i*j.size,j.size)
 | _=>none
def Amn (hC:TOk P C) {d:TypeDesc} {place:Nat->Option (Nat×Nat)} (hp: ∀ i p,kP P d i=some p->place i=some p): ∀(xs:List (Nat×A)) (ps:List (Nat×Value)) (vs:Array Value) (cs cs':List A),
 xs.length=ps.length->(∀(j:Nat) (x:Nat×A) (p:Nat×Value),xs[j]? =some x->ps[j]? =some p->p.1=x.1/\JG O Js m w p.2 x.2)->RP O Js m w vs cs->fill C d xs cs=some cs' ->
 ∃ vs',Instr.fill place vs ps=some vs'/\RP O Js m w vs' cs':=by
 intro xs
 induction xs with
 | nil =>
  intro ps vs cs cs' hl _ hcs hf;cases ps with
  | nil=>simp only[fill]at hf;injection hf with hf;subst hf;exact⟨vs,rfl,hcs⟩
  | cons _ _=>simp at hl
 | cons x xs ih =>
  intro ps vs cs cs' hl hr hcs hf;cases ps with
  | nil=>simp at hl
  | cons p ps =>
   obtain⟨i,x⟩:=x;obtain⟨i',v⟩:=p;obtain⟨h1,h2⟩:=hr 0 (i,x) (i',v) rfl rfl;dsimp only at h1 h2;subst h1;simp only[fill]at hf;cases hpl:Ac2 C d i' with
   | none=>rw[hpl]at hf;cases hf
   | some q =>
    obtain⟨off,ti⟩:=q;rw[hpl]at hf;dsimp only at hf;cases hb:(x.isVal&&Nat.beq x.cells.length ti.cs.length&&Nat.ble (off+ti.cs.length) cs.length)with
    | false=>rw[hb]at hf;cases hf
    | true =>
     rw[hb]at hf;simp only[cond_true]at hf;simp only[Dx,XD,D6]at hb;obtain⟨⟨hb1,hb2⟩,hb3⟩:=hb;have hb3:=DX hb3;have hv:=h2.cells hb1
     have hpv:kP P d i'=some (off,ti.cs.length):=by
      unfold Ac2 at hpl;unfold kP;split at hpl
      .rename_i fs;split at hpl
       .rename_i f hf';split at hpl
        .rename_i tf htf;injection hpl with hpl;injection hpl with e1 e2;subst e1;subst e2;obtain⟨i0,z,h3,h4,_⟩:=(hC.is htf).i;have:fs[i']? =some f:=by simpa using hf'
         simp [this,h3,h4]
        .cases hpl
       .cases hpl
      .rename_i n e;split at hpl
       .rename_i tf htf;cases hlt:Nat.blt i' n with
        | false=>rw[hlt]at hpl;cases hpl
        | true =>rw[hlt]at hpl;injection hpl with hpl;injection hpl with e1 e2;subst e2;obtain⟨i0,z,h3,h4,_⟩:=(hC.is htf).i;simp [h3,h4,<- e1]
       .cases hpl
      .cases hpl
     have hnext:=hcs.splice (off:=off) hv (by omega);obtain⟨vs',h5,h6⟩:=ih ps _ _ _ (by simpa using hl) (fun j x p hx hp=>hr (j+1) x p (by simpa using hx) (by simpa using hp)) hnext hf;refine⟨vs',?_,h6⟩;simp only[Instr.fill,hp _ _ hpv];have: ¬(v.cells.size≠ti.cs.length||decide (off+v.cells.size>vs.size))=true:=by rw[hv.1,hcs.1,hb2];simp;omega
     rw[Dp (by simpa using this)];exact h5
def Wh: ∀(vs:List Value) (ks:List CK),KH vs ks=true->vs.length=ks.length/\ ∀ j,j<ks.length->JI O Js m w (vs.getD j undef) ((ks.map CK.zero).getD j .undef):=by
 intro vs
 induction vs with
 | nil=>intro ks h;cases ks with
  | nil=>exact⟨rfl,fun j hj=>by simp at hj⟩
  | cons _ _=>simp [KH]at h
 | cons v vs ih =>
  intro ks h;cases ks with
  | nil=>cases v<;>simp [KH]at h
  | cons k ks =>
   have step:KH vs ks=true->JI O Js m w v k.zero->(v::vs).length=(k::ks).length/\ ∀ j,j<(k::ks).length->JI O Js m w ((v::vs).getD j undef) (((k::ks).map CK.zero).getD j .undef):=by
    intro hz hv;obtain⟨h1,h2⟩:=ih ks hz;refine⟨by simp [h1],fun j hj=> ?_⟩;cases j with
    | zero=>exact hv
    | succ j=>simpa using h2 j (by simpa using hj)
   cases k with
   | bool=>cases v with
    | bool b=>cases b<;>simp [KH]at h;exact step h (.bool _)
    | _=>simp [KH]at h
   | int k'=>cases v with
    | int k'' n =>
     have h':A.kEq k'' k'=true/\n=0/\KH vs ks=true:=by clear step ih;unfold KH at h;split at h<;>simp_all
     obtain⟨h1,h2,h3⟩:=h';have:=QW h1;subst this;subst h2;exact step h3 (.int _ _)
    | _=>simp [KH]at h
   | str=>cases v with
    | string s =>
     simp only[KH,Dx]at h;have hs:s.data.toList=[]:=by simpa using h.1
     refine step h.2 ?_;show J5 O w (.string s) (.str []);rw[<- hs];exact .str s
    | _=>simp [KH]at h
   | sl e sz=>cases v with
    | slice ad l c =>
     have h':ad=none/\l=0/\c=0/\KH vs ks=true:=by clear step ih;unfold KH at h;split at h<;>simp_all
     obtain⟨h1,h2,h3,h4⟩:=h';subst h1;subst h2;subst h3;exact step h4 rfl
    | _=>simp [KH]at h
   | ptr=>cases v with
    | pointer ad=>cases ad<;>simp [KH]at h;exact step h .Me
    | _=>simp [KH]at h
   | fn=>cases v with
    | nilFunc=>simp [KH]at h;exact step h J5.vZ
    | _=>simp [KH]at h
   | sln _ _=>cases v<;>simp [KH]at h
   | mp _ _=>cases v<;>simp [KH]at h
   | bx _=>cases v<;>simp [KH]at h
   | oth =>
    have:v.oneCell'=true/\KH vs ks=true:=by cases v<;>simpa [KH]using h
    exact step this.2 this.1
theorem AiC {n t:Nat} {ks:List CK} (h:Qu P n t=some ks): ∃ i,P.info? t=some i:=by
 cases n with
 | zero=>simp [Qu]at h
 | succ n =>
  cases hi:P.info? t with
  | some i=>exact⟨i,rfl⟩
  | none =>
   have hu:P.underlying t=none:=by simp [Program.underlying,hi]
   simp [Qu,hu]at h
def Aov {n t:Nat} {ks:List CK} {fs:Array Field} (h:Qu P n t=some ks) (hu:P.underlying t=some (.struct fs)): ∀ f∈fs.toList,∃ i,P.info? f.type=some i:=by
 cases n with
 | zero=>simp [Qu]at h
 | succ n =>
  simp only[Qu,hu]at h;revert h;generalize fs.toList=l
  induction l generalizing ks with
  | nil=>intro _ f hf;cases hf
  | cons g l ih=>grind[AiC]
def AqL {n t c e:Nat} {ks:List CK} (h:Qu P n t=some ks) (hu:P.underlying t=some (.array c e)): ∃ i,P.info? e=some i:=by
 cases n with
 | zero=>simp [Qu]at h
 | succ n=>grind[Qu,AiC]
def AoR {P:Program}: ∀(l:List Field),(∀ f∈l,∃ i,P.info? f.type=some i)->l.mapM (fun f=>(P.info? f.type).map fun i=>(f.offset,i.size))=some (l.map fun f=>(f.offset,P.cellsOf f.type)):=by
 intro l
 induction l with
 | nil=>intro _;rfl
 | cons f l ih =>intro h;obtain⟨i,hi⟩:=h f Dy;have:=ih (fun g hg=>h g (D5 _ hg));simp [I4,hi,this,Program.cellsOf]
def Aod {t:Nat} {ti:TI} (hT:X0 P t ti): ∃ i z,P.info? t=some i/\i.zero=some z/\YC ti.d=AaM z/\RP O Js m w z.cells (ti.cs.map CK.zero):=by obtain⟨i,z,h1,h2,h3,h4,h5,h6⟩:=hT.i;obtain⟨h7,h8⟩:=Wh (O:=O) (Js:=Js) (m:=m) (w:=w) _ _ h5;all_goals simp_all[YC,AaM,RP,CK.zero]
def AqD {t:Nat} {ps:Array (Nat×Operand)} (hC:TOk P C) (ho:o.op= .build t ps) {xs:List (Nat×A)} (hl:xs.length=ps.size) (hx: ∀(j:Nat) (x:Nat×A) (p:Nat×Operand),xs[j]? =some x->ps[j]? =some p->p.1=x.1/\JG O Js m w (a.eval p.2) x.2)
 (hok:J7 (Aag C t xs).ok):Pure P O Js m a w o (Aag C t xs):=by
 unfold Aag at hok ⊢;obtain⟨ti,ht,he⟩:=KG hok;rw[he]at hok ⊢;clear he;obtain⟨cs,hcs,he⟩:=JV hok;rw[he]at hok ⊢;clear he;have hT:=hC.is ht;obtain⟨i,z,h1,h2,_,h3⟩:=Aod (O:=O) (Js:=Js) (m:=m) (w:=w) hT
 have key: ∃ place:Nat->Option (Nat×Nat),(∀ i p,kP P ti.d i=some p->place i=some p)/\ ∀ vs,Instr.fill place z.cells (ps.map (fun(i,x)=>(i,a.eval x))).toList=some vs->P.built t (ps.map (fun(i,x)=>(i,a.eval x))).toList=some vs:=by
  have hu:=hT.d;cases hd:ti.d with
  | struct fs =>
   rw[hd]at hu;have hinf:=Aov hT.ck hu;refine⟨fun i=>(fs.toList.map fun f=>(f.offset,P.cellsOf f.type)).toArray[i]?,fun i p hp=> ?_,fun vs hvs=> ?_⟩
   .simp only[kP]at hp;cases hf:fs[i]? with
    | none=>rw[hf]at hp;cases hp
    | some f =>
     rw[hf]at hp;simp only[Option.bind_some]at hp;cases hi:P.info? f.type with
     | none=>rw[hi]at hp;cases hp
     | some j =>rw[hi]at hp;simp at hp;subst hp;simp [hf,Program.cellsOf,hi]
   .unfold Program.built;simp only[h1,hu,h2,AoR _ hinf];exact hvs
  | array n e =>
   rw[hd]at hu;obtain⟨ie,hie⟩:=AqL hT.ck hu;refine⟨fun i=>some (i*ie.size,ie.size),fun i p hp=> ?_,fun vs hvs=> ?_⟩
   .grind[kP]
   .unfold Program.built;simp only[h1,hu,h2,hie];exact hvs
  | _ =>have:=hok.cons.1;rw[Aqx,hd]at this;cases this
 obtain⟨place,hp,hb⟩:=key
 obtain⟨vs,h4,h5⟩:=Amn (O:=O) (Js:=Js) (m:=m) (w:=w) hC hp xs (ps.map (fun(i,x)=>(i,a.eval x))).toList z.cells _ cs (by simp [hl]) (fun j x p hxj hpj=>by
  simp only[Ii,E8]at hpj;cases hq:ps.toList[j]? with
  | none=>rw[hq]at hpj;cases hpj
  | some q =>rw[hq]at hpj;injection hpj with hpj;subst hpj;exact hx j x q hxj (by simpa using hq)) h3 hcs
 have:=run_build (P:=P) w t _ _ (hb vs h4);refine⟨⟨.agg vs,?_,?_⟩,rfl,rfl,rfl⟩
 .simp only[execOp,ho,DU,this,Result.andThen_ok,Sem.run_pure]
 .exact⟨vs,rfl,h5.1,h5.2⟩
end
structure Sim (V0:Nat->Value) (O0:Own) (w0:World) (O:Own) (m:Nat->Value) (st:St) (a:Act) (w:World):Prop where
 defers:a.defers=[]
 size:a.tmps.size=st.tmps.length
 tmps: ∀ t,t<st.tmps.length->JG O st.Js m w (a.tmps.getD t undef) (st.tmps.getD t .undef)
 Js: ∀ o x,J4 st.Js o=some x->Ll O st.Js m w o x
 frame:Moves O0 (fun o=>o≠255) w0 w
 own: ∀ b k o,b<w0.heap.size->O b k=some o->o≠255-> ∃ o0,O0 b k=some o0/\o0≠255
 ids: ∀ o x,J4 st.Js o=some x->o≠255
 less: ∀ b k,b<w0.heap.size->O b k≠none->O0 b k≠none
 root: ∀ o,Za o=true->(J4 st.Js o).isSome->m o=V0 o
 oH: ∀ b k,b<w0.heap.size->O0 b k=some 255->O b k=some 255
 inv:Inv O0 w0
def Sim.AfT {V0:Nat->Value} {O0 O:Own} {w0 w:World} {m:Nat->Value} {st:St} {a:Act} (hS:Sim V0 O0 w0 O m st a w):Inv O w:=by
 refine⟨fun g j p ht=> ?_,fun g n ht=> ?_⟩
 .obtain⟨h1,v,h2,h3⟩:=hS.inv.1 g j p ht;have hb:=cell_lt h2;refine⟨?_,v,?_,h3⟩
  .cases h:O g j with
   | none=>rfl
   | some o=>exact absurd h1 (hS.less g j hb (by rw[h];simp))
  .rw[hS.frame.cell hb (fun o ho=>by rw[h1]at ho;cases ho)];exact h2
 .obtain⟨c,e,fr,h1,h2⟩:=hS.inv.2 g n ht;have hg:g<w0.heap.size:=(Eb.1 h1).1;rcases hS.frame.blk g hg with he | ⟨d,d',e',fr',k1,k2,k3,_⟩ | ⟨es,ck,es',ck',o,k1,_⟩;all_goals simp_all[Own,Inv]
def Moves.Azc {O0 O:Own} {T:Nat->Prop} {w0 w w':World} (h:Moves O0 (fun o=>o≠255) w0 w) (h':Moves O T w w') (hO: ∀ b k o,b<w0.heap.size->O b k=some o->o≠255-> ∃ o0,O0 b k=some o0/\o0≠255) (hT: ¬ T 255) :
 Moves O0 (fun o=>o≠255) w0 w':=by
 refine⟨h'.os.trans h.os,h'.tape.trans h.tape,h'.output.trans h.output,GI h.size h'.size,fun b hb=> ?_⟩;have hb':b<w.heap.size:=Fz hb h.size;have up: ∀ k o,O b k=some o->T o-> ∃ o',O0 b k=some o'/\o'≠255:=fun k o ho ht=>hO b k o hb ho (fun e=>hT (by rw[<- e];exact ht));rcases h'.blk b hb' with he' | ⟨c,c',e,fr,h1,h2,h3,h4,k,o,h5,h6,h7⟩ | ⟨es,ck,es',ck',o,h1,h2,h3,h4⟩
 .rcases h.blk b hb with he | ⟨d,d',e,fr,h1,h2,h3,h4,h5⟩ | ⟨es,ck,es',ck',o,h1,h2,h3,h4⟩
  .exact .inl (he'.trans he)
  .exact .inr (.inl ⟨d,d',e,fr,h1,he'.trans h2,h3,h4,h5⟩)
  .simp_all[Own]
 .obtain⟨o',ho',hne'⟩:=up k o h6 h7;rcases h.blk b hb with he | ⟨d,d',e',fr',g1,g2,g3,g4,g5⟩ | ⟨es,ck,es',ck',o1,g1,g2,g3,g4⟩
  .refine .inr (.inl ⟨c,c',e,fr,he▸h1,h2,h3,fun i hi=>h4 i (fun o'' ho'' ht=> ?_),k,o',h5,ho',hne'⟩);obtain⟨o3,ho3,hn3⟩:=up i o'' ho'' ht;exact hi o3 ho3 hn3
  .rw[g2]at h1;injection h1 with h1;injection h1 with q1 q2 q3;subst q1;subst q2;subst q3;refine .inr (.inl ⟨d,c',e',fr',g1,h2,h3.trans g3,fun i hi=> ?_,k,o',by omega,ho',hne'⟩);rw[h4 i (fun o'' ho'' ht=> ?_),g4 i hi];obtain⟨o3,ho3,hn3⟩:=up i o'' ho'' ht;exact hi o3 ho3 hn3
  .simp_all[Own]
 .obtain⟨o',ho',hne'⟩:=up 0 o h3 h4;rcases h.blk b hb with he | ⟨d,d',e',fr',g1,g2,g3,g4,g5⟩ | ⟨es1,ck1,es1',ck1',o1,g1,g2,g3,g4⟩
  .exact .inr (.inr ⟨es,ck,es',ck',o',he▸h1,h2,ho',hne'⟩)
  all_goals simp_all[Own]
def AeG (tmps:List A) (d:Option Tmp) (v:A) (t:Nat) (h:t<tmps.length):(put tmps d v).getD t .undef=if d=some t then v else tmps.getD t .undef:=by
 cases d with
 | none=>simp [put]
 | some d =>
  simp only[put,Dn,Gf];by_cases hd:d=t
  .subst hd;simp [h]
  .simp [hd]
def YR (tmps:List A) (d:Option Tmp) (v:A):(put tmps d v).length=tmps.length:=by cases d<;>simp [put]
def Aog (a:Act) (d:Option Tmp) (v:Value) (t:Nat) (h:t<a.tmps.size):(a.put d v).tmps.getD t undef=if d=some t then v else a.tmps.getD t undef:=by
 cases d with
 | none=>simp [Act.put]
 | some d =>
  simp only[Act.put,Dw,EZ];by_cases hd:d=t
  .subst hd;simp [h]
  .simp [hd]
def Aoh (a:Act) (d:Option Tmp) (v:Value):(a.put d v).tmps.size=a.tmps.size:=by cases d<;>simp [Act.put]
def Ajy (a:Act) (d:Option Tmp) (v:Value):(a.put d v).defers=a.defers:=by cases d<;>rfl
def kH {st:St} {t n:Nat} (ht:t<st.tmps.length) (h:n∈(st.tmps.getD t .undef).ids):n∈st.ids:=DL _ (Us ht h)
def AdM {l:List (Nat×Obj)} {o:Nat} {x:Obj} (h:J4 l o=some x):(o,x)∈l:=by
 induction l with
 | nil=>cases h
 | cons p r ih=>grind[Og]
def YH {st:St} {o n:Nat} {x:Obj} (ho:J4 st.Js o=some x) (h:n∈x.ids):n∈st.ids :=
 DJ _ (Et.2 ⟨(o,x),AdM ho,h⟩)
structure Qa (st:St) (n:Nat):Prop where
 ids:n∉st.ids
 Js:J4 st.Js n=none
 ne:n≠255
 root:Za n=false
def Qa.both {st:St} {n:Nat} (h:Qa st n):n∉st.ids/\Za n=false:=⟨h.ids,h.root⟩
def NJ {st:St} {n:Nat} (h:st.fresh n=true):Qa st n:=by
 unfold St.fresh at h;simp only[Dx,EX,Option.isNone_iff_eq_none]at h;refine⟨fun hm=> ?_,h.1.1.2,fun e=> ?_,h.2⟩
 .have:has st.ids n=true:=Gl.2 ⟨n,hm,by simp⟩;rw[this]at h;cases h.1.1.1
 .simp_all
def Sim.next {V0:Nat->Value} {O0 O O':Own} {w0 w w':World} {m m':Nat->Value} {st st':St} {a:Act} {T Nw:Nat->Prop} {d:Option Tmp} {v:Value} {x:A}
 (hS:Sim V0 O0 w0 O m st a w) (hM:Moves O T w w') (hP:Passes O O' T w.heap.size) (hO: ∀ b k,b<w.heap.size->O' b k≠none->O b k≠none)
 (hE:TB st.Js m st'.Js m' Nw) (hN: ∀ n,Nw n->n∉st.ids/\Za n=false)
 (hT: ∀ o,T o->(J4 st.Js o).isSome)
 (hobj: ∀ o y,J4 st'.Js o=some y->(¬ T o/\J4 st.Js o=some y/\m' o=m o)\/(Ll O' st'.Js m' w' o y/\o≠255))
 (ht:st'.tmps=put st.tmps d x) (hx:d≠none->JG O' st'.Js m' w' v x):Sim V0 O0 w0 O' m' st' (a.put d v) w':=by
 have hpr:=hM.Kr hP;have hT255: ¬ T 255:=fun h=>by obtain⟨x,hx⟩:=ET.1 (hT 255 h);exact hS.ids 255 x hx rfl
 refine⟨by rw[Ajy];exact hS.defers,by rw[Aoh,ht,YR];exact hS.size,fun t htl=> ?_,fun o y ho=> ?_,hS.frame.Azc hM hS.own hT255,fun b k q hb h hne=> ?_,fun o y ho=> ?_,fun b k hb h=>hS.less b k hb (hO b k (Fz hb hS.frame.size) h),fun o hr ho=> ?_,fun b k hb h=>hP.keep b k 255 (Fz hb hS.frame.size) (hS.oH b k hb h) hT255,hS.inv⟩
 .rw[ht,YR]at htl;rw[ht,AeG _ _ _ _ htl,Aog _ _ _ _ (by rw[hS.size];exact htl)];by_cases hd:d=some t
  .rw[Du hd,Du hd];exact hx (by rw[hd];simp)
  .rw[Dp hd,Dp hd];exact(hS.tmps t htl).step hpr hE (fun i hi hn=>(hN i hn).1 (kH htl hi))
 .rcases hobj o y ho with ⟨h1,h2,h3⟩ | h
  .exact(hS.Js o y h2).step hM hP hE h1 h3 (fun i hi hn=>(hN i hn).1 (YH h2 hi))
  .exact h.1
 .have hb':=Fz hb hS.frame.size;cases hq:O b k with
  | none=>exact absurd hq (hO b k hb' (by rw[h];simp))
  | some r =>
   by_cases hr:r=255
   .subst hr;have:=hP.keep b k 255 hb' hq hT255;rw[h]at this;injection this with this;exact absurd this hne
   .exact hS.own b k r hb hq hr
 .rcases hobj o y ho with ⟨_,h2,_⟩ | h
  .exact hS.ids o y h2
  .exact h.2
 .obtain⟨y,hy⟩:=ET.1 ho;rcases hE o y hy with h | ⟨x,h1,_,h3⟩
  .rw[(hN o h).2]at hr;cases hr
  .rw[h3];exact hS.root o hr (by rw[h1];rfl)
theorem Sim.put {V0:Nat->Value} {O0 O:Own} {w0 w:World} {m:Nat->Value} {st:St} {a:Act} (hS:Sim V0 O0 w0 O m st a w) (d:Option Tmp) {v:Value} {x:A} (hx:JG O st.Js m w v x) :
 Sim V0 O0 w0 O m {st with tmps:=Vm.put st.tmps d x} (a.put d v) w :=
 hS.next (st':= {st with tmps:=Vm.put st.tmps d x}) (T:=fun _=>False) (Nw:=fun _=>False) (Moves.refl O _ w) ⟨fun _ _ _ h=>h,fun _ _ _ _ h _=>h⟩ (fun _ _ _ h=>h) (fun _ y ho=>.inr ⟨y,ho,rfl,rfl⟩) (fun _ h=>h.elim) (fun _ h=>h.elim)
  (fun _ _ ho=>.inl ⟨id,ho,rfl⟩) rfl (fun _=>hx)
def Good (P:Program) (V0:Nat->Value) (O0:Own) (w0:World) (st':St) (o:Oper) (a:Act) (w:World):Prop :=
 ∀(next:Act->World->Prop) (Q:Exit->Act->World->Prop),(∀ O' m' a' w',Sim V0 O0 w0 O' m' st' a' w'->next a' w')->o.wp P a w next Q
def Pure.good {P:Program} {V0:Nat->Value} {O0 O:Own} {w0 w:World} {m:Nat->Value} {st:St} {a:Act} {o:Oper} {δ :Dl} (hS:Sim V0 O0 w0 O m st a w) (h:Pure P O st.Js m a w o δ):Good P V0 O0 w0 (apply st o δ) o a w:=by
 intro next Q hn
 obtain⟨v,hr,hx⟩:=h.run;unfold Oper.wp;rw[hr,Oper.upon_value];refine hn O m _ _ ?_;have:apply st o δ = {st with tmps:=put st.tmps o.dst δ.val}:=by unfold apply;rw[h.new,h.upd,h.del];rfl
 rw[this];exact hS.put o.dst hx
def Aei {V0:Nat->Value} {O0 O:Own} {w0 w:World} {m:Nat->Value} {st:St} {a:Act} (hS:Sim V0 O0 w0 O m st a w) (x:Operand):JG O st.Js m w (a.eval x) (KY st.tmps x):=by
 have cell: ∀ v:Value,JG O st.Js m w v (OQ v)/\(v.oneCell'=true->JI O st.Js m w v (OQ v)):=by
  intro v;unfold OQ;split
  .exact⟨.QZ _,fun _=>J5.bool _⟩
  .exact⟨.mkInt _ _,fun _=>J5.int _ _⟩
  .exact⟨.mkStr _ rfl,fun _=>J5.str _⟩
  .exact⟨rfl,fun _=>rfl⟩
  .exact⟨J5.Me,fun _=>J5.Me⟩
  .exact⟨J5.vZ,fun _=>J5.vZ⟩
  .exact⟨trivial,fun h=>h⟩
 cases x with
 | tmp t =>
  by_cases ht:t<st.tmps.length
  .exact hS.tmps t ht
  .have:KY st.tmps (.tmp t)= .undef:=by
    simp [KY,Dn,Ef (Ji ht)]
   rw[this];trivial
 | const v =>
  show JG O st.Js m w v (ofConst v);unfold ofConst;split
  .rename_i vs;cases hall:vs.toList.all Value.oneCell' with
   | false=>trivial
   | true =>
    rw[DF]at hall;refine⟨vs,rfl,by simp,fun j hj=> ?_⟩;have hj':j<vs.size:=by simpa using hj
    have e1:vs.getD j undef=vs[j]:=by rw[Dw,En hj'];rfl
    have e2:(vs.toList.map OQ).getD j .undef=OQ vs[j]:=by simp [Dn,hj']
    rw[e1,e2];exact(cell _).2 (hall _ (by simp))
  .exact(cell v).1
 | global g =>
  show JG O st.Js m w (.pointer (some ⟨g,0,none⟩)) (Aw3 (Aca g));cases hg:Aca g with
  | none=>trivial
  | some q =>
   obtain⟨k,ns⟩:=q;refine⟨g,0,rfl,fun j hj=> ?_⟩;have hj:j<ns.length:=by simpa using hj
   obtain⟨h1,v,h2,h3⟩:=hS.AfT.1 g j _ (by rw[AxT hg];exact Du hj);rw[DY];refine⟨h1,v,h2,?_⟩;have e:(ns.map (A.int k)).getD j .undef= .int k (ns.getD j 0):=by simp [Dn,hj]
   rw[e,h3];exact .int _ _
 | func f=>exact J5.fn f
def Moves.push {O:Own} {T:Nat->Prop} {w:World} (x:Go.Obj):Moves O T w (w.alloc x) :=
 ⟨rfl,rfl,rfl,by show _<=(w.heap.push x).size;simp,fun b hb=>.inl (heap_alloc_old w x hb)⟩
def Aeo (w:World) (x:Go.Obj):(w.alloc x).heap[w.heap.size]? =some x:=by show(w.heap.push x)[_]? =_;simp
def Moves.drew (O:Own) (T:Nat->Prop) (w:World):Moves O T w w.drew:=⟨rfl,rfl,rfl,DK _,fun _ _=>.inl rfl⟩
def Moves.then {O:Own} {T:Nat->Prop} {w w' w'':World} (h:Moves O T w w') (h':Moves O T w' w''):Moves O T w w'':=by
 refine⟨h'.os.trans h.os,h'.tape.trans h.tape,h'.output.trans h.output,GI h.size h'.size,fun b hb=> ?_⟩;have hb':b<w'.heap.size:=Fz hb h.size;rcases h'.blk b hb' with he' | ⟨c,c',e,fr,h1,h2,h3,h4,h5⟩ | ⟨es,ck,es',ck',o,h1,h2,h3,h4⟩
 .rcases h.blk b hb with he | ⟨d,d',e,fr,h1,h2,h3,h4,h5⟩ | ⟨es,ck,es',ck',o,h1,h2,h3,h4⟩
  .exact .inl (he'.trans he)
  .exact .inr (.inl ⟨d,d',e,fr,h1,he'.trans h2,h3,h4,h5⟩)
  .simp_all[Own]
 .rcases h.blk b hb with he | ⟨d,d',e',fr',g1,g2,g3,g4,g5⟩ | ⟨es,ck,es',ck',o,g1,g2,g3,g4⟩
  .exact .inr (.inl ⟨c,c',e,fr,he▸h1,h2,h3,h4,h5⟩)
  .rw[g2]at h1;injection h1 with h1;injection h1 with q1 q2 q3;subst q1;subst q2;subst q3;exact .inr (.inl ⟨d,c',e',fr',g1,h2,h3.trans g3,fun i hi=>by rw[h4 i hi,g4 i hi],g5⟩)
  .simp_all[Own]
 .rcases h.blk b hb with he | ⟨d,d',e',fr',g1,g2,g3,g4,g5⟩ | ⟨es1,ck1,es1',ck1',o1,g1,g2,g3,g4⟩
  .exact .inr (.inr ⟨es,ck,es',ck',o,he▸h1,h2,h3,h4⟩)
  all_goals simp_all[Own]
def Moves.row {O:Own} {T:Nat->Prop} {w w':World} {g:Nat} {c c':Array Value} {e:TypeId} {fr:Nat×Nat} (hos:w'.os=w.os) (ht:w'.tape=w.tape) (hout:w'.output=w.output) (hs:w'.heap.size=w.heap.size)
 (hg:w.heap[g]? =some (.cells c e fr)) (hg':w'.heap[g]? =some (.cells c' e fr)) (hoth: ∀ b,b≠g->w'.heap[b]? =w.heap[b]?) (hsz:c'.size=c.size) (hk: ∀ k,(∀ o,O g k=some o-> ¬ T o)->c'[k]? =c[k]?)
 (hex:(∃ k o,k<c.size/\O g k=some o/\T o)\/c'=c):Moves O T w w':=by
 refine⟨hos,ht,hout,by omega,fun b _=> ?_⟩;by_cases hb:b=g
 .subst hb;rcases hex with hex | hex
  .exact .inr (.inl ⟨c,c',e,fr,hg,hg',hsz,hk,hex⟩)
  .subst hex;exact .inl (hg'.trans hg.symm)
 .exact .inl (hoth b hb)
def Moves.map {O:Own} {T:Nat->Prop} {w w':World} {r:Nat} {es es':Array MapEntry} {ck ck':Nat} (hos:w'.os=w.os) (ht:w'.tape=w.tape) (hout:w'.output=w.output) (hs:w'.heap.size=w.heap.size)
 (hg:w.heap[r]? =some (.map es ck)) (hg':w'.heap[r]? =some (.map es' ck')) (hoth: ∀ b,b≠r->w'.heap[b]? =w.heap[b]?) {o:Nat} (ho:O r 0=some o) (hT:T o):Moves O T w w':=by
 refine⟨hos,ht,hout,by omega,fun b _=> ?_⟩;by_cases hb:b=r
 .simp_all[Own,hs]
 .exact .inl (hoth b hb)
def AnK (w:World) (b k:Nat) (v:Value) {c:Array Value} {e:TypeId} {fr:Nat×Nat} (hg:w.heap[b]? =some (.cells c e fr)) :
 (w.setCell (at' b k) v).heap[b]? =some (.cells (c.setIfInBounds k v) e fr)/\(∀ b',b'≠b->(w.setCell (at' b k) v).heap[b']? =w.heap[b']?)/\(w.setCell (at' b k) v).heap.size=w.heap.size:=by
 refine⟨?_,fun b' hb=> ?_,by simp [World.setCell]⟩
 .simp [World.setCell,I5,hg]
 .simp only[World.setCell,I5];rw[Dp (fun h=>hb h.symm)]
def fE (b:Nat): ∀(vs:List Value) (k:Nat) (w:World) {c:Array Value} {e:TypeId} {fr:Nat×Nat},w.heap[b]? =some (.cells c e fr)->k+vs.length<=c.size ->
 ∃ c',(w.setCells b k vs).heap[b]? =some (.cells c' e fr)/\c'.size=c.size/\(∀ i,c'.getD i undef=if k<=i/\i<k+vs.length then vs.getD (i - k) undef else c.getD i undef) /\
  (∀ b',b'≠b->(w.setCells b k vs).heap[b']? =w.heap[b']?)/\(w.setCells b k vs).heap.size=w.heap.size/\(w.setCells b k vs).os=w.os/\(w.setCells b k vs).tape=w.tape/\(w.setCells b k vs).output=w.output:=by
 intro vs
 induction vs with
 | nil=>intro k w c e fr hg _;exact⟨c,hg,rfl,fun i=>by rw[Dp (by simp)],fun _ _=>rfl,rfl,rfl,rfl,rfl⟩
 | cons v vs ih =>
  intro k w c e fr hg hle;simp only[List.length_cons]at hle;obtain⟨h1,h2,h3⟩:=AnK w b k v hg;obtain⟨c',h4,h5,h6,h7,h8,h9,h10,h11⟩:=ih (k+1) (w.setCell (at' b k) v) h1 (by simp;omega);refine⟨c',h4,by rw[h5];simp,fun i=> ?_,fun b' hb=>(h7 b' hb).trans (h2 b' hb),h8.trans h3,h9,h10,h11⟩;rw[h6 i];simp only[List.length_cons];by_cases hi:k+1<=i/\i<k+1+vs.length
  .rw[Du hi,A0z,show i - k=(i - (k+1))+1 from by omega];rfl
  .rw[Dp hi];by_cases hk:i=k
   .subst hk;rw[A0z,Dw,EZ,Du rfl,A0z];simp
   .rw[A0y,Dw,EZ,A0y,<- Dw]
def gU: ∀(ks:List CK) (cs:List A) (id:Nat),(Lj id ks cs).1.length=cs.length /\
 (∀ j,j<cs.length->(Lj id ks cs).1.getD j .undef=cs.getD j .undef\/(cs.getD j .undef= .Ls/\(Lj id ks cs).1.getD j .undef= .own (id+j)/\ ∃ e sz,(id+j,Obj.arr e false ⟨sz,[]⟩)∈(Lj id ks cs).2)) /\
 (∀ p∈(Lj id ks cs).2,(∃ e sz,p.2= .arr e false ⟨sz,[]⟩)/\ ∃ j,j<cs.length/\p.1=id+j):=by
 intro ks
 induction ks with
 | nil=>grind[Lj]
 | cons k ks ih =>
  intro cs id;cases cs with
  | nil=>grind[Lj]
  | cons c cs =>
   obtain⟨h1,h2,h3⟩:=ih cs (id+1)
   have other:Lj id (k::ks) (c::cs)=(c::(Lj (id+1) ks cs).1,(Lj (id+1) ks cs).2) ->
    (Lj id (k::ks) (c::cs)).1.length=(c::cs).length /\
    (∀ j,j<(c::cs).length->(Lj id (k::ks) (c::cs)).1.getD j .undef=(c::cs).getD j .undef\/((c::cs).getD j .undef= .Ls/\(Lj id (k::ks) (c::cs)).1.getD j .undef= .own (id+j)/\ ∃ e sz,(id+j,Obj.arr e false ⟨sz,[]⟩)∈(Lj id (k::ks) (c::cs)).2)) /\
    (∀ p∈(Lj id (k::ks) (c::cs)).2,(∃ e sz,p.2= .arr e false ⟨sz,[]⟩)/\ ∃ j,j<(c::cs).length/\p.1=id+j):=by
    intro he;rw[he];refine⟨by simp [h1],fun j hj=> ?_,fun p hp=> ?_⟩
    .cases j with
     | zero=>exact .inl rfl
     | succ j=>grind[CK,Lj]
    .obtain⟨ha,j,hj,hb⟩:=h3 p hp;exact⟨ha,j+1,by simpa using hj,by omega⟩
   by_cases hc:c= .Ls/\ ∃ e sz,k= .sl e sz
   .obtain⟨hc,e,sz,hk⟩:=hc;subst hc;subst hk;have he:Lj id (.sl e sz::ks) (.Ls::cs)=(.own id::(Lj (id+1) ks cs).1,(id,.arr e false ⟨sz,[]⟩)::(Lj (id+1) ks cs).2):=rfl;rw[he];refine⟨by simp [h1],fun j hj=> ?_,fun p hp=> ?_⟩
    .cases j with
     | zero=>grind[CK,Lj]
     | succ j=>grind[CK,Lj]
    .rcases D8.1 hp with rfl | hp
     .grind[CK,Lj]
     .obtain⟨ha,j,hj,hb⟩:=h3 p hp;exact⟨ha,j+1,by simpa using hj,by omega⟩
   .refine other ?_;cases k<;>cases c<;>first | rfl | exact absurd ⟨rfl,_,_,rfl⟩ hc
def P5 {l:List Nat} {n:Nat}:has l n=true↔n∈l:=by simp_all[has]
def ArJ: ∀ {l:List (Nat×Obj)},nodup (l.map (·.1))=true-> ∀ {n x y},(n,x)∈l->(n,y)∈l->x=y:=by
 intro l
 induction l with
 | nil=>intro _ n x y h;cases h
 | cons p l ih =>
  intro h n x y hx hy;simp only[Ei,nodup,Dx,EX]at h;have hno: ∀ z,(p.1,z)∉l:=by intro z hz;have:has (l.map (·.1)) p.1=true:=P5.2 (DN.2 ⟨_,hz,rfl⟩);rw[this]at h;cases h.1
  all_goals grind[Obj,nodup]
def Yn {Js:List (Nat×Obj)} {upd new:List (Nat×Obj)} {del:List Nat} {o:Nat} {x:Obj} (h:J4 (JL (KC (JL Js upd) del) new) o=some x) :
 (o,x)∈new\/((∀ y,(o,y)∉new)/\o∉del/\((o,x)∈upd\/((∀ y,(o,y)∉upd)/\J4 Js o=some x))):=by
 by_cases hn: ∃ p∈new,p.1=o
 .obtain⟨y,hy,he⟩:=O6 new (KC (JL Js upd) del) o hn;rw[he]at h;injection h with h;subst h;exact .inl hy
 .have hn': ∀ y,(o,y)∉new:=fun y hy=>hn ⟨_,hy,rfl⟩;rw[Nc _ _ _ (fun p hp e=>hn ⟨p,hp,e⟩),UX]at h;by_cases hd:o∈del
  .rw[Du hd]at h;cases h
  .rw[Dp hd]at h;refine .inr ⟨hn',hd,?_⟩;by_cases hu: ∃ p∈upd,p.1=o
   .obtain⟨y,hy,he⟩:=O6 upd Js o hu;rw[he]at h;injection h with h;subst h;exact .inl hy
   .grind[Nc]
def tZ {Js:List (Nat×Obj)} {upd new:List (Nat×Obj)} {del:List Nat} (hnd:nodup (new.map (·.1))=true) {o:Nat} {x:Obj} (h:(o,x)∈new):J4 (JL (KC (JL Js upd) del) new) o=some x:=by obtain⟨y,hy,he⟩:=O6 new (KC (JL Js upd) del) o ⟨_,h,rfl⟩;rw[he,ArJ hnd h hy]
section
variable {P:Program} {C:Ctx} {V0:Nat->Value} {O0 O:Own} {w0 w:World} {m:Nat->Value} {st:St} {a:Act} {o:Oper}
def JI.Ls {Js:List (Nat×Obj)} {v:Value} (h:JI O Js m w v .Ls):v= .slice none 0 0:=h
def RP.Ap8 {O':Own} {w':World} {objs':List (Nat×Obj)} {m':Nat->Value} {vs:Array Value} {cs:List A} {ks:List CK} {id:Nat} {Nw:Nat->Prop} (h:RP O st.Js m w vs cs) (hp:MW O w O' w') (hE:TB st.Js m objs' m' Nw)
 (hN: ∀ j,j<cs.length-> ∀ i∈(cs.getD j .undef).Nq,¬ Nw i) (hnew: ∀ p∈(Lj id ks cs).2,J4 objs' p.1=some p.2/\m' p.1= .slice none 0 0):RP O' objs' m' w' vs (Lj id ks cs).1:=by
 obtain⟨h1,h2,_⟩:=gU ks cs id;refine⟨by rw[h1];exact h.1,fun j hj=> ?_⟩;rw[h1]at hj;rcases h2 j hj with he | ⟨hn,he,e,sz,hm⟩
 .rw[he];exact(h.2 j hj).step hp hE (hN j hj)
 .have:=h.2 j hj;rw[hn]at this;have hv:=this.Ls;rw[he,hv];obtain⟨g1,g2⟩:=hnew _ hm;dsimp only at g1 g2;refine⟨rfl,?_⟩;rw[g1];exact g2.symm
theorem Aaj {x:A} (hv:x.isVal=true) {j:Nat} (hj:j<x.cells.length) {i:Nat} (hi:i∈(x.cells.getD j .undef).Nq):i∈x.ids:=by
 cases x with
 | agg cs=>exact Us (f:=A.Nq) hj hi
 | undef=>cases hv
 | tup _=>cases hv
 | usl _ _ _=>cases hv
 | ump _=>cases hv
 | box _=>cases hv
 | cbx _ _=>cases hv
 | cnd _ _=>cases hv
 | _ =>
  have:j=0:=by simpa [A.cells]using hj
  subst this;exact hi
def Ai7 {vs:Array Value} {cs:List A} {ks:List CK} {t:Nat} {r:Value} {y:A} {okl:List Bool} (hS:Sim V0 O0 w0 O m st a w) (hcs:RP O st.Js m w vs cs) (hids: ∀ j,j<cs.length-> ∀ i∈(cs.getD j .undef).Nq,i∈st.ids\/(J4 st.Js i).isSome) {d:Nat} (hd:o.dst=some d)
 (hr:(execOp a.eval o).run P w= .ok (.value r) (w.alloc (.cells vs t)))
 (hy: ∀(O':Own) (objs':List (Nat×Obj)) (m':Nat->Value) (w':World) (c:List A),J4 objs' (b2 d)=some (.box c)->m' (b2 d)= .pointer (some (at' w.heap.size 0))->JG O' objs' m' w' r y)
 (hfr: ∀ p∈(b2 d,Obj.box (Lj (b2 d+1) ks cs).1)::(Lj (b2 d+1) ks cs).2,st.fresh p.1=true) (hnd:nodup (((b2 d,Obj.box (Lj (b2 d+1) ks cs).1)::(Lj (b2 d+1) ks cs).2).map (·.1))=true) :
 Good P V0 O0 w0 (apply st o {ok:=okl,val:=y,new:=(b2 d,.box (Lj (b2 d+1) ks cs).1)::(Lj (b2 d+1) ks cs).2}) o a w:=by
 intro next Q hn
 unfold Oper.wp;rw[hr,Oper.upon_value];let ad:=Lj (b2 d+1) ks cs;let m':Nat->Value:=fun i=>if i=b2 d then .pointer (some (at' w.heap.size 0))else if has (ad.2.map (·.1)) i then .slice none 0 0 else m i;let O':Own:=fun b k=>if b=w.heap.size then some (b2 d)else O b k;let Nw:Nat->Prop:=fun i=> ∃ p∈((b2 d,Obj.box ad.1)::ad.2),p.1=i;have hNw: ∀ i,Nw i->Qa st i:=by rintro i ⟨p,hp,rfl⟩;exact NJ (hfr p hp)
 refine hn O' m' _ _ ?_;have hobjs:(apply st o {ok:=okl,val:=y,new:=(b2 d,.box ad.1)::ad.2}).Js=JL (KC (JL st.Js []) []) ((b2 d,.box ad.1)::ad.2):=rfl;have hnewO: ∀ p∈((b2 d,Obj.box ad.1)::ad.2),J4 (JL (KC (JL st.Js []) []) ((b2 d,.box ad.1)::ad.2)) p.1=some p.2:=fun p hp=>tZ hnd (by exact hp);have hb2:has (ad.2.map (·.1)) (b2 d)=false:=by simp only[Ei,nodup,Dx,EX]at hnd;exact hnd.1
 have hmad: ∀ p∈ad.2,m' p.1= .slice none 0 0:=by
  intro p hp;have h3:has (ad.2.map (·.1)) p.1=true:=P5.2 (DN.2 ⟨p,hp,rfl⟩);have h4:p.1≠b2 d:=fun e=>by rw[e,hb2]at h3;cases h3
  show(if p.1=b2 d then _ else _)=_;rw[Dp h4,Du h3]
 have hE:TB st.Js m (JL (KC (JL st.Js []) []) ((b2 d,.box ad.1)::ad.2)) m' Nw:=by
  intro i y hy;rcases Yn hy with hy' | ⟨hno,_,hy' | ⟨_,hy'⟩⟩
  .exact .inl ⟨_,hy',rfl⟩
  .cases hy'
  .refine .inr ⟨y,hy',rfl,?_⟩;have h3:i≠b2 d:=fun e=>hno (.box ad.1) (by rw[e];exact Dy)
   have h4:has (ad.2.map (·.1)) i=false:=by
    cases hh:has (ad.2.map (·.1)) i with
    | false=>rfl
    | true =>obtain⟨p,hp,hpe⟩:=DN.1 (P5.1 hh);exact absurd (D5 _ (by rw[<- hpe];exact hp)) (hno p.2)
   show(if i=b2 d then _ else _)=_;rw[Dp h3,h4];rfl
 have hM:Moves O (fun _=>False) w (w.alloc (.cells vs t)):=Moves.push _;have hP:Passes O O' (fun _=>False) w.heap.size:=⟨fun b k hb h=>by show(if b=_ then _ else _)=_;rw[Dp (Ij hb)];exact h,fun b k q hb h _=>by show(if b=_ then _ else _)=_;rw[Dp (Ij hb)];exact h⟩
 have hpr:=hM.Kr hP;have hnewblk: ∀ k,(w.alloc (.cells vs t)).cell? (at' w.heap.size k)=vs[k]? :=by intro k;exact World.cell?_alloc_at vs t _ _ rfl
 refine hS.next (T:=fun _=>False) (Nw:=Nw) hM hP (fun b k hb h=> ?_) hE (fun n hn'=>(hNw n hn').both) (fun _ h=>h.elim) (fun q y hy=> ?_) rfl (fun _=> ?_)
 .have:O' b k=O b k:=Dp (Ij hb);rw[this]at h;exact h
 .rcases Yn hy with hy' | ⟨hno,_,hy' | ⟨_,hy'⟩⟩
  .right;rcases D8.1 hy' with e | hy'
   .injection e with e1 e2;subst e1;subst e2;refine⟨⟨w.heap.size,0,Du rfl,fun j hj=> ?_⟩,(hNw _ ⟨_,Dy,rfl⟩).ne⟩
    have hcs':RP O' _ m' _ vs ad.1:=hcs.Ap8 (ks:=ks) (id:=b2 d+1) hpr hE (fun j hj i hi hn'=>by
     rcases hids j hj i hi with hh | hh
     .exact(hNw i hn').1 hh
     .rw[(hNw i hn').2]at hh;cases hh) (fun p hp=>⟨hnewO p (D5 _ hp),hmad p hp⟩)
    have hjs:j<vs.size:=by rw[hcs'.1];exact hj
    refine⟨Du rfl,by simp only[World.frozen?,Aeo];simp,vs.getD j undef,?_,hcs'.2 j hj⟩;rw[hnewblk];simp only[DY];exact getD_eq hjs
   .obtain⟨⟨e,sz,h3⟩,_⟩:=(gU ks cs (b2 d+1)).2.2 _ hy';dsimp only at h3;subst h3;exact⟨⟨by simp [Sl.es],.inl ⟨trivial,rfl,hmad _ hy'⟩⟩,(hNw _ ⟨_,D5 _ hy',rfl⟩).ne⟩
  .cases hy'
  .left;refine⟨id,hy',?_⟩;rcases hE q y hy with hn' | ⟨_,h3,_,h4⟩
   .rw[(hNw q hn').2]at hy';cases hy'
   .exact h4
 .exact hy _ _ _ _ _ (hnewO (b2 d,.box ad.1) Dy) (Du rfl)
def AlF {t:Nat} {v:Value} {x:A} (hC:TOk P C) (hS:Sim V0 O0 w0 O m st a w) (hx:JG O st.Js m w v x) (hids: ∀ i∈x.ids,i∈st.ids\/(J4 st.Js i).isSome) {d:Nat} (hd:o.dst=some d)
 (hrun: ∀ ti,C.T t=some ti->x.isVal=true->v.cells.size=ti.cs.length->(execOp a.eval o).run P w= .ok (.value (.pointer (some (at' w.heap.size 0)))) (w.alloc (.cells v.cells t)))
 (hok:J7 (X4 C d t x).ok) (hfr: ∀ p∈(X4 C d t x).new,st.fresh p.1=true) (hnd:nodup ((X4 C d t x).new.map (·.1))=true):Good P V0 O0 w0 (apply st o (X4 C d t x)) o a w:=by
 unfold X4 at *
 obtain⟨ti,ht,he⟩:=KG hok;rw[he]at hok hfr hnd ⊢;clear he;obtain⟨h1,h2⟩:=hok.cons;have h2:=Dz h2.cons.1;have hcs:=hx.cells h1;refine Ai7 (ks:=adK C d ti) hS hcs (fun j hj i hi=>hids i (Aaj h1 hj hi)) hd (hrun ti ht h1 (by rw[hcs.1,h2])) (fun O' objs' m' w' c hc hm=> ?_) hfr hnd;show JI O' objs' m' w' _ (.ptr (b2 d) 0);refine⟨rfl,?_⟩;rw[hc];exact⟨w.heap.size,0,hm,rfl⟩
end
open Classical
section
variable {P:Program} {C:Ctx} {V0:Nat->Value} {O0 O:Own} {w0 w:World} {m:Nat->Value} {st:St} {a:Act} {o:Oper}
def Sim.rD (hS:Sim V0 O0 w0 O m st a w) {q e:Nat} {f:Bool} {l:Sl} (hq:J4 st.Js q=some (.arr e f l)) :
 ∃ O',Sim V0 O0 w0 O' m {st with Js:=Np st.Js q (.arr e true l)} a w/\MW O w O' w/\(∀ b k,O' b k≠none->O b k≠none)/\J5 O' w (m q) (.sl l)/\ ∀ b k r,O b k=some r->r≠q->O' b k=some r:=by
 obtain⟨hsz,hr⟩:=hS.Js q _ hq;let O':Own:=fun b k=>if(∃ n cap,m q= .slice (some (at' b 0)) n cap)/\k<l.es.length*l.sz then none else O b k;have hno: ∀ b k,O b k=none->O' b k=none:=by intro b k h;show(if _ then _ else _)=_;split;rfl;exact h
 have hle: ∀ b k,O' b k≠none->O b k≠none:=by intro b k h h';exact h (hno b k h')
 have hkeep: ∀ b k r,O b k=some r->r≠q->O' b k=some r:=by
  intro b k r h hne;show(if _ then _ else _)=_;rw[Dp ?_]
  .exact h
  .rintro ⟨⟨n,cap,hm⟩,hk⟩;rcases hr with ⟨_,h2,_⟩ | ⟨_,g,cap',cur,h1,_,_,_,_,_,_,h8⟩;all_goals simp_all[J4,Np,MW,J5]
 have hp:MW O w O' w:=fun b k u h hc=>⟨hno b k h,hc⟩
 have hE:TB st.Js m (Np st.Js q (.arr e true l)) m (fun _=>False):=by
  intro r y hy;rw[KL]at hy;by_cases hrq:r=q
  .subst hrq;rw[Du rfl]at hy;injection hy with hy;subst hy;exact .inr ⟨_,hq,rfl,rfl⟩
  .rw[Dp hrq]at hy;exact .inr ⟨y,hy,rfl,rfl⟩
 have hO:Ll O' (Np st.Js q (.arr e true l)) m w q (.arr e true l):=by
  refine⟨hsz,?_⟩;rcases hr with h | ⟨h1,g,cap,cur,h2,h3,h4,h5,h6,h7,h8,h9⟩
  .exact .inl h
  .refine .inr ⟨h1,g,cap,cur,h2,h3,h4,h5,h6,fun i j hi hj=> ?_,fun k hk hge=> ?_,fun k hk=> ?_⟩
   .obtain⟨u,h10,h11⟩:=h7 i j hi hj;exact⟨u,h10,h11.Kr hp⟩
   .show(if _ then _ else _)=_;rw[Dp (by rintro ⟨_,h⟩;omega)];exact h8 k hk hge
   .show(if _ then _ else _)=_;rw[Du ⟨⟨_,_,h2⟩,hk⟩];rfl
 refine⟨O',⟨hS.defers,hS.size,fun t ht=>(hS.tmps t ht).step hp hE (fun _ _ h=>h),fun r y hy=> ?_,hS.frame,fun b k r hb h hne=> ?_,fun r y hy=> ?_,fun b k hb h=>hS.less b k hb (hle b k h),fun o hr ho=>hS.root o hr (by dsimp only at ho;rw[KL]at ho;by_cases hq':o=q;(rw [hq',hq];rfl);(rw [Dp hq']at ho;exact ho)),fun b k hb h=>hkeep b k 255 (hS.oH b k hb h) (fun e=>hS.ids q _ hq e.symm),hS.inv⟩,hp,hle,?_,hkeep⟩
 .have hy':=hy;rw[KL]at hy;by_cases hrq:r=q
  .subst hrq;rw[Du rfl]at hy;injection hy with hy;subst hy;exact hO
  .rw[Dp hrq]at hy;exact(hS.Js r y hy).step (T:=fun i=>i=q) (Moves.refl O _ w) ⟨fun b k _ h=>hno b k h,fun b k r' _ h hT=>hkeep b k r' h hT⟩ hE hrq rfl (fun _ _ h=>h)
 .have h':(if(∃ n cap,m q= .slice (some (at' b 0)) n cap)/\k<l.es.length*l.sz then none else O b k)=some r:=h;split at h'
  .cases h'
  .exact hS.own b k r hb h' hne
 .rw[KL]at hy;by_cases hrq:r=q
  .rw[hrq];exact hS.ids q _ hq
  .rw[Dp hrq]at hy;exact hS.ids r y hy
 .rcases hr with ⟨h1,h2,h3⟩ | ⟨h1,g,cap,cur,h2,h3,h4,h5,h6,h7,h8,h9⟩
  .rw[h3];exact J5.ofNil h2
  .rw[h2];have hv: ∀ i j,i<l.es.length->j<l.sz-> ∃ u,cur[i*l.sz+j]? =some u/\J5 O w u ((l.es.getD i []).getD j .undef):=h7;refine J5.sl (fun i j=>(cur[i*l.sz+j]?).getD undef) h4 (fun i j hi hj=> ?_) (fun i j hi hj=> ?_)
   .obtain⟨u,h10,_⟩:=hv i j hi hj;refine⟨?_,by rw[DY,h3.cell,h10];rfl⟩;show(if _ then _ else _)=_;rw[Du];refine⟨⟨_,_,h2⟩,?_⟩;have:(i+1)*l.sz<=l.es.length*l.sz:=DZ _ hi;rw[Ey]at this;omega
   .obtain⟨u,h10,h11⟩:=hv i j hi hj;rw[h10];exact h11.Kr hp
def Ll.frozen {Js:List (Nat×Obj)} {q e:Nat} {l:Sl} (h:Ll O Js m w q (.arr e true l)):J5 O w (m q) (.sl l):=by
 rcases h.2 with ⟨h1,h2,h3⟩ | ⟨h1,g,cap,cur,h2,h3,h4,h5,h6,h7,h8,h9⟩
 .rw[h3];exact J5.ofNil h2
 .rw[h2];refine J5.sl (fun i j=>(cur[i*l.sz+j]?).getD undef) h4 (fun i j hi hj=> ?_) (fun i j hi hj=> ?_)
  .obtain⟨u,h10,_⟩:=h7 i j hi hj;have:(i+1)*l.sz<=l.es.length*l.sz:=DZ _ hi;rw[Ey]at this;refine⟨by have:=h9 (i*l.sz+j) (by omega);simpa using this,by rw[DY,h3.cell,h10];rfl⟩
  .obtain⟨u,h10,h11⟩:=h7 i j hi hj;rw[h10];exact h11
def Frz (Js:List (Nat×Obj)) (U:List (Nat×Obj)):Prop:= ∀ p∈U,∃ e f l,J4 Js p.1=some (.arr e f l)/\p.2= .arr e true l
def NR (Js:List (Nat×Obj)) (q:Nat):Prop:= ∀ e f l,J4 Js q≠some (.arr e f l)
theorem NR.of {Js:List (Nat×Obj)} {q:Nat} {x:Obj} (h:J4 Js q=some x) (hx: ∀ e f l,x≠ .arr e f l):NR Js q:=by grind[Obj,J4,NR]
def Sim.freezes: ∀(U:List (Nat×Obj)) {O:Own} {st:St},Sim V0 O0 w0 O m st a w->Frz st.Js U ->
 ∃ O',Sim V0 O0 w0 O' m {st with Js:=JL st.Js U} a w/\MW O w O' w/\(∀ b k,O' b k≠none->O b k≠none)/\(∀ p∈U,∀ e l,p.2= .arr e true l->J5 O' w (m p.1) (.sl l)) /\
  TB st.Js m (JL st.Js U) m (fun _=>False)/\ ∀ b k r,O b k=some r->(NR st.Js r\/U=[])->O' b k=some r:=by
 intro U
 induction U with
 | nil=>intro O st hS _;exact⟨O,hS,fun _ _ _ h hc=>⟨h,hc⟩,fun _ _ h=>h,(fun p hp=>by cases hp),(fun o y hy=>.inr ⟨y,hy,rfl,rfl⟩),fun _ _ _ h _=>h⟩
 | cons p U ih =>
  intro O st hS hU;obtain⟨q,y⟩:=p;obtain⟨e,f,l,h1,h2⟩:=hU (q,y) Dy;dsimp only at h1 h2;subst h2;obtain⟨O1,hS1,hp1,hle1,hv1,hk1⟩:=hS.rD h1
  obtain⟨O2,hS2,hp2,hle2,hv2,hE2,hk2⟩:=ih hS1 (fun p hp=>by
   obtain⟨e',f',l',h3,h4⟩:=hU p (D5 _ hp);by_cases hq:p.1=q
   .refine⟨e',true,l',?_,h4⟩;rw[KL,Du hq];rw[hq,h1]at h3;injection h3 with h3;injection h3 with q1 q2 q3;subst q1;subst q3;rfl
   .exact⟨e',f',l',by rw[KL,Dp hq];exact h3,h4⟩)
  refine⟨O2,hS2,fun b k u h hc=>hp2 b k u (hp1 b k u h hc).1 hc,fun b k h=>hle1 b k (hle2 b k h),fun p hp e' l' he=> ?_,fun r y hy=> ?_,fun b k r h hb=> ?_⟩
  .rcases D8.1 hp with rfl | hp
   .injection he with q1 _ q3;subst q1;subst q3;exact hv1.Kr hp2
   .exact hv2 p hp _ _ he
  .rcases hE2 r y hy with h | ⟨z,h3,h4,_⟩
   .exact h.elim
   .right;dsimp only at h3;rw[KL]at h3;by_cases hr:r=q
    .subst hr;rw[Du rfl]at h3;injection h3 with h3;subst h3;exact⟨_,h1,h4,rfl⟩
    .rw[Dp hr]at h3;exact⟨z,h3,h4,rfl⟩
  .have hb:=hb.resolve_right (by simp);have hrq:r≠q:=fun h=>hb _ _ _ (by rw[h];exact h1);exact hk2 b k r (hk1 b k r h hrq) (.inl fun e' f' l'=>by dsimp only;rw[KL,Dp hrq];exact hb e' f' l')
theorem Ae8 {l:List (Nat×Obj)} {n:Nat} {p:Nat×Obj} (h:p∈TD l n):p∈l:=by
 induction l with
 | nil=>cases h
 | cons q r ih=>grind[zZ]
def AmQ {l:List (Nat×Obj)} {n:Nat} {y:Obj} {p:Nat×Obj} (h:p∈dU l n y):p=(n,y)\/p∈l:=by
 induction l with
 | nil=>grind[dU]
 | cons q r ih=>grind[dU]
def iI: ∀(u:List (Nat×Obj)) {l:List (Nat×Obj)} {p:Nat×Obj},p∈JL l u->p∈u\/p∈l:=by
 intro u
 induction u with
 | nil=>intro l p h;exact .inr h
 | cons q u ih =>
  intro l p h;obtain⟨n,y⟩:=q;rcases ih h with h | h
  .grind[Obj,JL]
  .rcases AmQ h with h | h;all_goals grind[Ae8]
def Qa.frz {n:Nat} {U:List (Nat×Obj)} (h:Qa st n) (hU:Frz st.Js U):Qa {st with Js:=JL st.Js U} n:=by
 refine⟨fun hm=> ?_,?_,h.ne,h.root⟩
 .rcases DR.1 hm with h1 | h1
  .exact h.1 (DL _ h1)
  .obtain⟨p,hp,hi⟩:=Et.1 h1;rcases iI U hp with hp | hp
   .obtain⟨e,f,l,_,h2⟩:=hU p hp;rw[h2]at hi;cases hi
   .exact h.1 (DJ _ (Et.2 ⟨p,hp,hi⟩))
 .rw[Nc _ _ _ (fun p hp he=> ?_)]
  .exact h.2
  .obtain⟨e,f,l,h1,_⟩:=hU p hp;rw[he,h.2]at h1;cases h1
def PO (Js:List (Nat×Obj)) (fet:Fet):Prop:= ∀ q x,J4 fet q=some x->J4 Js q=some x
def Anj {O:Own} {w:World} {k:CK} {v:Value} {l:Sl} (hok:J7 (AhX k l).1) (h:J5 O w v (.sl l)):J5 O w v (AhX k l).2:=by
 cases k<;>first
  | exact h
  | (have h0:=hok.cons.1
     exact .sln h fun he=>by simp [he]at h0)
def Awh {O:Own} {w:World} {v:Value} {l:Sl} (k:CK) (h:J5 O w v (.sln l)):J5 O w v (AyL k l):=by
 cases k<;>first
  | exact h
  | (cases h with
     | sln h _=>exact h)
def Ank {fet:Fet} {k:CK} {c:A} {v:Value} (hf:PO st.Js fet) (hc:JI O st.Js m w v c) (hok:J7 (pur fet k c).1) :
 Frz st.Js (pur fet k c).2.2/\ ∀ {O':Own},MW O w O' w->(∀ p∈(pur fet k c).2.2,∀ e l,p.2= .arr e true l->J5 O' w (m p.1) (.sl l))->J5 O' w v (pur fet k c).2.1:=by
 have triv:Frz st.Js []:=fun p hp=>by cases hp
 unfold pur at *
 cases c with
 | own q =>
  dsimp only at hok ⊢;cases hg:J4 fet q with
  | none=>simp_all[Fet,CK,PO,JI,J7,pur]
  | some x =>
   cases x with
   | box _=>simp_all[Fet,CK,PO,JI,J7,pur]
   | mp _=>simp_all[Fet,CK,PO,JI,J7,pur]
   | arr e f l =>
    rw[hg]at hok;dsimp only at hok ⊢;have h1:=hf q _ hg;refine⟨fun p hp=> ?_,fun hp hv=> ?_⟩
    .simp at hp;subst hp;exact⟨e,f,l,h1,rfl⟩
    .have h2:=hc.2;rw[h1]at h2;simp only[Option.map_some,Obj.shp]at h2;rw[h2];exact Anj hok (hv _ Dy e l rfl)
 | Ls =>
  have hv:=hc.Ls;cases k with
  | sl e sz=>subst hv;exact⟨triv,fun _ _=>.nil _⟩
  | sln e sz=>subst hv;exact⟨triv,fun _ _=>.sln (.nil _) fun _=>rfl⟩
  | _=>have:=hok false (by simp);cases this
 | bool _=>exact⟨triv,fun hp _=>J5.Kr hp hc⟩
 | int _ _=>exact⟨triv,fun hp _=>J5.Kr hp hc⟩
 | str _=>exact⟨triv,fun hp _=>J5.Kr hp hc⟩
 | sl _=>exact⟨triv,fun hp _=>Anj hok (J5.Kr hp hc)⟩
 | sln _=>exact⟨triv,fun hp _=>Awh k (J5.Kr hp hc)⟩
 | Me=>exact⟨triv,fun hp _=>J5.Kr hp hc⟩
 | fn _=>exact⟨triv,fun hp _=>J5.Kr hp hc⟩
 | _=>have:=hok false (by simp);cases this
def Frz.append {Js:List (Nat×Obj)} {U V:List (Nat×Obj)} (h:Frz Js U) (h':Frz Js V):Frz Js (U++V):=by grind[Obj,Frz]
def Yc {fet:Fet} (hf:PO st.Js fet): ∀(ks:List CK) (cs:List A) (f:Nat->Value),(∀ j,j<cs.length->JI O st.Js m w (f j) (cs.getD j .undef))->J7 (KO fet ks cs).1 ->
 (KO fet ks cs).2.1.length=ks.length/\cs.length=ks.length/\Frz st.Js (KO fet ks cs).2.2/\ ∀ {O':Own},MW O w O' w->(∀ p∈(KO fet ks cs).2.2,∀ e l,p.2= .arr e true l->J5 O' w (m p.1) (.sl l)) ->
   ∀ j,j<ks.length->J5 O' w (f j) ((KO fet ks cs).2.1.getD j .undef):=by
 intro ks
 induction ks with
 | nil =>
  intro cs f _ hok;cases cs with
  | nil=>simp_all[KO,Fet,PO,CK,JI,J7,Frz]
  | cons _ _=>have:=hok false (by simp [KO]);cases this
 | cons k ks ih =>
  intro cs f h hok;cases cs with
  | nil=>have:=hok false (by simp [KO]);cases this
  | cons c cs =>
   simp only[KO]at hok ⊢;obtain⟨hok1,hok2⟩:=hok.append;obtain⟨h1,h2⟩:=Ank hf (h 0 (by simp)) hok1;obtain⟨h3,h4,h5,h6⟩:=ih cs (fun j=>f (j+1)) (fun j hj=>by simpa using h (j+1) (by simpa using hj)) hok2;refine⟨by simp [h3],by simp [h4],h1.append h5,fun hp hv j hj=> ?_⟩;cases j with
   | zero=>exact h2 hp (fun p hp=>hv p (DL _ hp))
   | succ j=>simpa using h6 hp (fun p hp=>hv p (DJ _ hp)) j (by simpa using hj)
end
section
variable {P:Program} {C:Ctx} {V0:Nat->Value} {O0 O:Own} {w0 w:World} {m:Nat->Value} {st:St} {a:Act} {o:Oper}
def Held (O:Own) (w:World) (cur:Array Value) (sz:Nat) (es:List (List A)):Prop :=
 (∀ x∈es,x.length=sz)/\ ∀ i j,i<es.length->j<sz-> ∃ u,cur[i*sz+j]? =some u/\J5 O w u ((es.getD i []).getD j .undef)
def Ad9 (hS:Sim V0 O0 w0 O m st a w) {w2:World} (hM:Moves O (fun _=>False) w w2) {d:Tmp} {e cap:Nat} {frz:Bool} {l:Sl} {cur:Array Value} {del:List Nat} (hnew:NG w2 w.heap.size cur e)
 (hcap:l.es.length<=cap) (hmax:cap<=maxLen) (hcur:cur.size=cap*l.sz) (hh:Held O w cur l.sz l.es) (hfresh:Qa st (b2 d)) :
 ∃ O' m',Sim V0 O0 w0 O' m' {tmps:=st.tmps.set d (.own (b2 d)),Js:=JL (KC st.Js del) [(b2 d,.arr e frz l)]} (a.put (some d) (.slice (some (at' w.heap.size 0)) l.es.length cap)) w2:=by
 let id:=b2 d;let O':Own:=fun b k=>if b=w.heap.size then(if frz=true/\k<l.es.length*l.sz then none else some id)else O b k;let m':Nat->Value:=fun i=>if i=id then .slice (some (at' w.heap.size 0)) l.es.length cap else m i;have hlt: ∀ {b k},b<w.heap.size->O' b k=O b k:=fun hb=>Dp (Ij hb);have hP:Passes O O' (fun _=>False) w.heap.size:=⟨fun b k hb h=>by rw[hlt hb];exact h,fun b k q hb h _=>by rw[hlt hb];exact h⟩
 have hpr:=hM.Kr hP
 have hget: ∀ i y,J4 (JL (KC st.Js del) [(id,.arr e frz l)]) i=some y->(i=id/\y= .arr e frz l)\/(i≠id/\J4 st.Js i=some y):=by
  intro i y hy;simp only[JL]at hy;rw[KL]at hy;by_cases hi:i=id
  .rw[Du hi]at hy;injection hy with hy;exact .inl ⟨hi,hy.symm⟩
  .rw[Dp hi,UX]at hy;split at hy
   .cases hy
   .exact .inr ⟨hi,hy⟩
 have hE:TB st.Js m (JL (KC st.Js del) [(id,.arr e frz l)]) m' (fun i=>i=id):=by
  intro i y hy;rcases hget i y hy with ⟨h1,_⟩ | ⟨h1,h2⟩
  .exact .inl h1
  .exact .inr ⟨y,h2,rfl,Dp h1⟩
 refine⟨O',m',hS.next (st':= {tmps:=st.tmps.set d (.own (b2 d)),Js:=JL (KC st.Js del) [(id,.arr e frz l)]}) (x:=.own id) (T:=fun _=>False) (Nw:=fun i=>i=id) hM hP (fun b k hb h=>by rw[hlt hb]at h;exact h) hE (fun n hn=>by rw[hn];exact hfresh.both) (fun _ h=>h.elim) (fun i y hy=> ?_) rfl (fun _=> ?_)⟩
 .rcases hget i y hy with ⟨h1,h2⟩ | ⟨h1,h2⟩
  .right;subst h1;subst h2;refine⟨⟨hh.1,.inr ⟨trivial,w.heap.size,cap,cur,Du rfl,hnew,hcap,hmax,hcur,fun i j hi hj=> ?_,fun k hk hge=> ?_,fun k hk=> ?_⟩⟩,hfresh.ne⟩
   .obtain⟨u,h3,h4⟩:=hh.2 i j hi hj;exact⟨u,h3,h4.Kr hpr⟩
   .show(if _ then(if _ then _ else _)else _)=_;rw[Du rfl,A0y]
   .show(if _ then(if _ then _ else _)else _)=_;rw[Du rfl];cases frz
    .simp
    .simp [hk]
  .exact .inl ⟨fun h=>h,h2,Dp h1⟩
 .refine⟨rfl,?_⟩;all_goals grind[J4,JL,KC,KL,Obj.shp]
def YL (hS:Sim V0 O0 w0 O m st a w) {w1:World} (hM1:Moves O (fun _=>False) w w1) (hsz1:w1.heap.size=w.heap.size) {d:Tmp} {e cap:Nat} {frz:Bool} {l:Sl} {cur:Array Value} {del:List Nat}
 (hcap:l.es.length<=cap) (hmax:cap<=maxLen) (hcur:cur.size=cap*l.sz) (hh:Held O w cur l.sz l.es) (hfresh:Qa st (b2 d)) :
 ∃ O' m',Sim V0 O0 w0 O' m' {tmps:=st.tmps.set d (.own (b2 d)),Js:=JL (KC st.Js del) [(b2 d,.arr e frz l)]} (a.put (some d) (.slice (some (at' w.heap.size 0)) l.es.length cap)) (w1.alloc (.cells cur e)):=by
 exact Ad9 hS (hM1.then (by rw[<- hsz1]at *;exact Moves.push _)) ⟨_,by rw[<- hsz1];exact Aeo _ _,.inl rfl⟩ hcap hmax hcur hh hfresh
def vY (hS:Sim V0 O0 w0 O m st a w) {d:Tmp} {e:Nat} {frz:Bool} {t:Ty} {del:List Nat} {id:Nat} (hfresh:Qa st id) :
 ∃ O' m',Sim V0 O0 w0 O' m' {tmps:=st.tmps.set d (.own id),Js:=JL (KC st.Js del) [(id,.arr e frz ⟨t,[]⟩)]} (a.put (some d) (.slice none 0 0)) w:=by
 let m':Nat->Value:=fun i=>if i=id then .slice none 0 0 else m i
 have hget: ∀ i y,J4 (JL (KC st.Js del) [(id,.arr e frz ⟨t,[]⟩)]) i=some y->(i=id/\y= .arr e frz ⟨t,[]⟩)\/(i≠id/\J4 st.Js i=some y):=by
  intro i y hy;simp only[JL]at hy;rw[KL]at hy;by_cases hi:i=id
  .rw[Du hi]at hy;injection hy with hy;exact .inl ⟨hi,hy.symm⟩
  .rw[Dp hi,UX]at hy;split at hy
   .cases hy
   .exact .inr ⟨hi,hy⟩
 have hE:TB st.Js m (JL (KC st.Js del) [(id,.arr e frz ⟨t,[]⟩)]) m' (fun i=>i=id):=by
  intro i y hy;rcases hget i y hy with ⟨h1,_⟩ | ⟨h1,h2⟩
  .exact .inl h1
  .exact .inr ⟨y,h2,rfl,Dp h1⟩
 refine⟨O,m',hS.next (st':= {tmps:=st.tmps.set d (.own id),Js:=JL (KC st.Js del) [(id,.arr e frz ⟨t,[]⟩)]}) (x:=.own id) (T:=fun _=>False) (Nw:=fun i=>i=id) (Moves.refl _ _ _) ⟨fun _ _ _ h=>h,fun _ _ _ _ h _=>h⟩ (fun b k hb h=>h) hE (fun n hn=>by rw[hn];exact hfresh.both) (fun _ h=>h.elim) (fun i y hy=> ?_) rfl (fun _=> ?_)⟩
 .rcases hget i y hy with ⟨h1,h2⟩ | ⟨h1,h2⟩
  .right;subst h1;subst h2;exact⟨⟨by simp [Sl.es],.inl ⟨trivial,rfl,Du rfl⟩⟩,hfresh.ne⟩
  .exact .inl ⟨fun h=>h,h2,Dp h1⟩
 .refine⟨rfl,?_⟩;all_goals grind[J4,JL,KC,KL,Obj.shp]
def Ao7 (hS:Sim V0 O0 w0 O m st a w) {d:Tmp} {q e cap g:Nat} {frz:Bool} {l l':Sl} {ns:List (List A)} {cur:Array Value} {news:List Value}
 (hq:J4 st.Js q=some (.arr e frz l)) (hm:m q= .slice (some (at' g 0)) l.es.length cap) (hg:NG w g cur e) (hcap:l.es.length+ns.length<=cap) (hle:l'.es=l.es++ns) (hls:l'.sz=l.sz)
 (hl:news.length=ns.length*l.sz) (hns: ∀ x∈ns,x.length=l.sz) (hnv: ∀ i j,i<ns.length->j<l.sz->J5 O w (news.getD (i*l.sz+j) undef) ((ns.getD i []).getD j .undef)) (hfresh:Qa st (b2 d)) :
 ∃ O' m',Sim V0 O0 w0 O' m' {tmps:=st.tmps.set d (.own (b2 d)),Js:=JL (KC st.Js [q]) [(b2 d,.arr e frz l')]} (a.put (some d) (.slice (some (at' g 0)) (l.es.length+ns.length) cap)) (w.setCells g (l.es.length*l.sz) news):=by
 let id:=b2 d;have hidq:id≠q:=fun h=>by have:=hfresh.2;rw[show b2 d=id from rfl,h,hq]at this;cases this
 obtain⟨hsz,hr⟩:=hS.Js q _ hq
 obtain⟨g',cap',cur',h2,h3,h4,h5,h6,h7,h8,h9⟩: ∃ g' cap' cur',m q= .slice (some (at' g' 0)) l.es.length cap'/\NG w g' cur' e/\l.es.length<=cap'/\cap'<=maxLen/\cur'.size=cap'*l.sz /\
  (∀ i j,i<l.es.length->j<l.sz-> ∃ u,cur'[i*l.sz+j]? =some u/\J5 O w u ((l.es.getD i []).getD j .undef))/\(∀ k,k<cur'.size->l.es.length*l.sz<=k->O g' k=some q)/\(∀ k,k<l.es.length*l.sz->O g' k=if frz then none else some q):=by
  rcases hr with ⟨_,_,h⟩ | ⟨_,h⟩
  .rw[hm]at h;cases h
  .exact h
 rw[hm]at h2;injection h2 with h2 _ hcc;injection h2 with h2;injection h2 with h2;subst h2;subst hcc;obtain⟨h3,_⟩:=hg.inj h3;subst h3;obtain⟨fr,hg,hfr0⟩:=hg;have hmul:(l.es.length+ns.length)*l.sz<=cap*l.sz:=DZ _ hcap;rw[Ey]at hmul;obtain⟨c',g1,g2,g3,g4,g5,g6,g7,g8⟩:=fE g news (l.es.length*l.sz) w hg (by rw[hl,h6];exact hmul);let w':=w.setCells g (l.es.length*l.sz) news;let O':Own:=fun b k=>if b=g/\k<cur.size then(if frz=true/\k<(l.es.length+ns.length)*l.sz then none else some id)else O b k;let m':Nat->Value:=fun i=>if i=id then .slice (some (at' g 0)) (l.es.length+ns.length) cap else m i;have hsame: ∀ k,(k<l.es.length*l.sz\/(l.es.length+ns.length)*l.sz<=k)->c'[k]? =cur[k]? :=by all_goals grind[getD_eq]
 have hM:Moves O (fun i=>i=q) w w':=by refine Moves.row g6 g7 g8 g5 hg g1 g4 g2 (fun k hk=>hsame k ?_) ?_;all_goals grind[apply]
 have hg':g<w.heap.size:=(Eb.1 hg).1
 have own_g: ∀ k,k<cur.size->O g k=none\/O g k=some q:=by
  intro k hk;rcases Eo k (l.es.length*l.sz)with h | h
  .rw[h9 k h];cases frz<;>simp
  .exact .inr (h8 k hk h)
 have hP:Passes O O' (fun i=>i=q) w.heap.size:=by
  refine⟨fun b k _ h=> ?_,fun b k r _ h hne=> ?_⟩
  .show(if _ then(if _ then _ else _)else _)=_;by_cases hc:b=g/\k<cur.size
   .rw[Du hc];obtain⟨rfl,hk⟩:=hc;rcases Eo k (l.es.length*l.sz)with h' | h'
    .have:=h9 k h';rw[h]at this;cases frz
     .simp at this
     .rw[Du ⟨rfl,by rw[Ey];omega⟩]
    .rw[h8 k hk h']at h;cases h
   .rw[Dp hc];exact h
  .show(if _ then(if _ then _ else _)else _)=_;by_cases hc:b=g/\k<cur.size
   .obtain⟨rfl,hk⟩:=hc;rcases own_g k hk with h' | h'
    .rw[h]at h';cases h'
    .rw[h]at h';injection h' with h';exact absurd h' hne
   .rw[Dp hc];exact h
 have hpr:=hM.Kr hP
 have hget: ∀ i y,J4 (JL (KC st.Js [q]) [(id,.arr e frz l')]) i=some y->(i=id/\y= .arr e frz l')\/(i≠id/\i≠q/\J4 st.Js i=some y):=by
  intro i y hy;simp only[JL]at hy;rw[KL]at hy;by_cases hi:i=id
  .rw[Du hi]at hy;injection hy with hy;exact .inl ⟨hi,hy.symm⟩
  .rw[Dp hi,UX]at hy;split at hy
   .cases hy
   .rename_i hnd;exact .inr ⟨hi,by simpa using hnd,hy⟩
 have hE:TB st.Js m (JL (KC st.Js [q]) [(id,.arr e frz l')]) m' (fun i=>i=id):=by
  intro i y hy;rcases hget i y hy with ⟨h1,_⟩ | ⟨h1,_,h2⟩
  .exact .inl h1
  .exact .inr ⟨y,h2,rfl,Dp h1⟩
 refine⟨O',m',hS.next (st':= {tmps:=st.tmps.set d (.own (b2 d)),Js:=JL (KC st.Js [q]) [(id,.arr e frz l')]}) (x:=.own id) (T:=fun i=>i=q) (Nw:=fun i=>i=id) hM hP (fun b k hb h=> ?_) hE (fun n hn=>by rw[hn];exact hfresh.both) (fun o ho=>by rw[ho,hq];rfl) (fun i y hy=> ?_) rfl (fun _=> ?_)⟩
 .have h':(if b=g/\k<cur.size then(if frz=true/\k<(l.es.length+ns.length)*l.sz then none else some id)else O b k)≠none:=h;by_cases hc:b=g/\k<cur.size
  .rw[Du hc]at h';obtain⟨rfl,hk⟩:=hc;rcases Eo k (l.es.length*l.sz)with hlt | hge
   .rw[h9 k hlt];cases frz
    .simp
    .exfalso;refine h' ?_;rw[Du ⟨rfl,by rw[Ey];omega⟩]
   .rw[h8 k hk hge];simp
  .rw[Dp hc]at h';exact h'
 .rcases hget i y hy with ⟨h1,h2⟩ | ⟨h1,hiq,h2⟩
  .right;subst h1;subst h2;refine⟨?_,hfresh.ne⟩;simp only[Ll];rw[hle,hls];refine⟨fun x hx=>(DR.1 hx).elim (hsz x) (hns x),.inr ⟨trivial,g,cap,c',by rw[Dv];exact Du rfl,⟨fr,g1,by rw[g2];exact hfr0⟩,by rw[Dv];exact hcap,h5,by rw[g2];exact h6,fun i j hi hj=> ?_,fun k hk hge=> ?_,fun k hk=> ?_⟩⟩
   .rw[Dv]at hi;by_cases hil:i<l.es.length
    .obtain⟨u,h10,h11⟩:=h7 i j hil hj;have hlt:i*l.sz+j<l.es.length*l.sz:=by have:(i+1)*l.sz<=l.es.length*l.sz:=DZ _ hil;rw[Ey]at this;omega
     refine⟨u,by rw[hsame _ (.inl hlt)];exact h10,?_⟩;have e1:(l.es++ns).getD i []=l.es.getD i []:=by simp only[Dn];rw[E5 hil]
     rw[e1];exact h11.Kr hpr
    .obtain⟨i',rfl⟩: ∃ i',i=l.es.length+i':=⟨i - l.es.length,by omega⟩
     have hi':i'<ns.length:=by omega
     have hlt:i'*l.sz+j<ns.length*l.sz:=by have:(i'+1)*l.sz<=ns.length*l.sz:=DZ _ hi';rw[Ey]at this;omega
     have hidx:(l.es.length+i')*l.sz+j=l.es.length*l.sz+(i'*l.sz+j):=by rw[Ey];omega
     have hsz':l.es.length*l.sz+(i'*l.sz+j)<c'.size:=by rw[g2,h6];omega
     refine⟨news.getD (i'*l.sz+j) undef,?_,?_⟩
     .rw[hidx,getD_eq hsz',g3,Du ⟨by omega,by rw[hl];omega⟩];rw[show l.es.length*l.sz+(i'*l.sz+j) - l.es.length*l.sz=i'*l.sz+j from by omega]
     .have e1:(l.es++ns).getD (l.es.length+i') []=ns.getD i' []:=by
       simp only[Dn];rw[ED (by omega),GV]
      rw[e1];exact(hnv i' j hi' hj).Kr hpr
   .rw[g2]at hk;rw[Dv]at hge;show(if _ then(if _ then _ else _)else _)=_;rw[Du ⟨rfl,hk⟩,A0y]
   .rw[Dv]at hk;show(if _ then(if _ then _ else _)else _)=_;rw[Du ⟨rfl,by rw[Ey]at hk;omega⟩];cases frz
    .simp
    .simp [hk]
  .exact .inl ⟨hiq,h2,Dp h1⟩
 .refine⟨rfl,?_⟩;have:J4 (JL (KC st.Js [q]) [(id,.arr e frz l')]) id=some (.arr e frz l'):=by simp only[JL];rw[KL,Du rfl]
  show match (J4 (JL (KC st.Js [q]) [(id,.arr e frz l')]) id).map Obj.shp with | some (.arr _ _)=>_ | some .mp=>_ | _=>True
  rw[this];exact(Du rfl:m' id=_).symm
def AqO (hS:Sim V0 O0 w0 O m st a w) {d:Tmp} {q e cap g n:Nat} {l l':Sl} {cur:Array Value}
 (hq:J4 st.Js q=some (.arr e false l)) (hm:m q= .slice (some (at' g 0)) l.es.length cap) (hg:NG w g cur e) (hn:n<=l.es.length) (hle:l'.es=l.es.take n) (hls:l'.sz=l.sz) (hfresh:Qa st (b2 d)) :
 ∃ O' m',Sim V0 O0 w0 O' m' {tmps:=st.tmps.set d (.own (b2 d)),Js:=JL (KC st.Js [q]) [(b2 d,.arr e false l')]} (a.put (some d) (.slice (some (at' g 0)) n cap)) w:=by
 let id:=b2 d;obtain⟨hsz,hr⟩:=hS.Js q _ hq
 obtain⟨g',cap',cur',h2,h3,h4,h5,h6,h7,h8,h9⟩: ∃ g' cap' cur',m q= .slice (some (at' g' 0)) l.es.length cap'/\NG w g' cur' e/\l.es.length<=cap'/\cap'<=maxLen/\cur'.size=cap'*l.sz /\
  (∀ i j,i<l.es.length->j<l.sz-> ∃ u,cur'[i*l.sz+j]? =some u/\J5 O w u ((l.es.getD i []).getD j .undef))/\(∀ k,k<cur'.size->l.es.length*l.sz<=k->O g' k=some q)/\(∀ k,k<l.es.length*l.sz->O g' k=some q):=by
  rcases hr with ⟨_,_,h⟩ | ⟨_,h⟩
  .rw[hm]at h;cases h
  .simpa using h
 rw[hm]at h2;injection h2 with h2 _ hcc;injection h2 with h2;injection h2 with h2;subst h2;subst hcc;obtain⟨h3,_⟩:=hg.inj h3;subst h3
 have own_g: ∀ k,k<cur.size->O g k=some q:=by
  intro k hk;rcases Eo k (l.es.length*l.sz)with h | h
  .exact h9 k h
  .exact h8 k hk h
 let O':Own:=fun b k=>if b=g/\k<cur.size then some id else O b k;let m':Nat->Value:=fun i=>if i=id then .slice (some (at' g 0)) n cap else m i;have hM:Moves O (fun i=>i=q) w w:=Moves.refl _ _ _
 have hP:Passes O O' (fun i=>i=q) w.heap.size:=by
  refine⟨fun b k _ h=> ?_,fun b k r _ h hne=> ?_⟩
  .show(if _ then _ else _)=_;by_cases hc:b=g/\k<cur.size
   .obtain⟨rfl,hk⟩:=hc;rw[own_g k hk]at h;cases h
   .rw[Dp hc];exact h
  .show(if _ then _ else _)=_;by_cases hc:b=g/\k<cur.size
   .obtain⟨rfl,hk⟩:=hc;rw[own_g k hk]at h;injection h with h;exact absurd h.symm hne
   .rw[Dp hc];exact h
 have hpr:=hM.Kr hP
 have hget: ∀ i y,J4 (JL (KC st.Js [q]) [(id,.arr e false l')]) i=some y->(i=id/\y= .arr e false l')\/(i≠id/\i≠q/\J4 st.Js i=some y):=by
  intro i y hy;simp only[JL]at hy;rw[KL]at hy;by_cases hi:i=id
  .rw[Du hi]at hy;injection hy with hy;exact .inl ⟨hi,hy.symm⟩
  .rw[Dp hi,UX]at hy;split at hy
   .cases hy
   .rename_i hnd;exact .inr ⟨hi,by simpa using hnd,hy⟩
 have hE:TB st.Js m (JL (KC st.Js [q]) [(id,.arr e false l')]) m' (fun i=>i=id):=by
  intro i y hy;rcases hget i y hy with ⟨h1,_⟩ | ⟨h1,_,h2⟩
  .exact .inl h1
  .exact .inr ⟨y,h2,rfl,Dp h1⟩
 have hlen:l'.es.length=n:=by rw[hle,DD];omega
 have hmul:n*l.sz<=l.es.length*l.sz:=DZ _ hn;have hmul2:l.es.length*l.sz<=cap*l.sz:=DZ _ h4;refine⟨O',m',hS.next (st':= {tmps:=st.tmps.set d (.own (b2 d)),Js:=JL (KC st.Js [q]) [(id,.arr e false l')]}) (x:=.own id) (T:=fun i=>i=q) (Nw:=fun i=>i=id) hM hP (fun b k hb h=> ?_) hE (fun n hn=>by rw[hn];exact hfresh.both) (fun o ho=>by rw[ho,hq];rfl) (fun i y hy=> ?_) rfl (fun _=> ?_)⟩
 .have h':(if b=g/\k<cur.size then some id else O b k)≠none:=h;by_cases hc:b=g/\k<cur.size
  .obtain⟨rfl,hk⟩:=hc;rw[own_g k hk];simp
  .rw[Dp hc]at h';exact h'
 .rcases hget i y hy with ⟨h1,h2⟩ | ⟨h1,hiq,h2⟩
  .right;subst h1;subst h2;refine⟨?_,hfresh.ne⟩;simp only[Ll];rw[hls,hlen];refine⟨fun x hx=>hsz x (by rw[hle]at hx;exact FO hx),.inr ⟨trivial,g,cap,cur,Du rfl,hg,by omega,h5,h6,fun i j hi hj=> ?_,fun k hk hge=>Du ⟨rfl,hk⟩,fun k hk=> ?_⟩⟩
   .obtain⟨u,h10,h11⟩:=h7 i j (by omega) hj;refine⟨u,h10,?_⟩;have e1:l'.es.getD i []=l.es.getD i []:=by rw[hle];simp only[Dn,FW];rw[Du hi]
    rw[e1];exact h11.Kr hpr
   .show(if _ then _ else _)=_;rw[Du ⟨rfl,by omega⟩];rfl
  .exact .inl ⟨hiq,h2,Dp h1⟩
 .refine⟨rfl,?_⟩;have:J4 (JL (KC st.Js [q]) [(id,.arr e false l')]) id=some (.arr e false l'):=by simp only[JL];rw[KL,Du rfl]
  show match (J4 (JL (KC st.Js [q]) [(id,.arr e false l')]) id).map Obj.shp with | some (.arr _ _)=>_ | some .mp=>_ | _=>True
  rw[this];exact(Du rfl:m' id=_).symm
end
section
variable {P:Program} {C:Ctx} {V0:Nat->Value} {O0 O:Own} {w0 w:World} {m:Nat->Value} {st:St} {a:Act} {o:Oper}
def X3 {δ :Dl} {d:Tmp} (hd:o.dst=some d):apply st o δ = {tmps:=st.tmps.set d δ.val,Js:=JL (KC (JL st.Js δ.upd) δ.del) δ.new}:=by unfold apply;rw[hd];rfl
def XV {t:Nat} {k:Nat->TI->Dl} (hok:J7 (elemOf C t k).ok): ∃ ti e te,C.T t=some ti/\ti.d= .slice e/\C.T e=some te/\elemOf C t k=k e te:=by
 unfold elemOf at *
 obtain⟨ti,ht,he⟩:=KG hok;rw[he]at hok ⊢;clear he;obtain⟨e,hel,he⟩:=JV hok;rw[he]at hok ⊢;clear he;obtain⟨te,hte,he⟩:=KG hok;exact⟨ti,e,te,ht,Uk hel,hte,he⟩
def AtI {O':Own} {w':World} {fet:Fet} {te:TI} {ty:Ty} (hf:PO st.Js fet) (hp:MW O w O' w) (hw:w'=w): ∀(xs:List (Nat×A)) (ps:List (Nat×Value)) (vs:Array Value) (zs:List ty.Val),
 xs.length=ps.length->(∀(j:Nat) (x:Nat×A) (p:Nat×Value),xs[j]? =some x->ps[j]? =some p->p.1=x.1/\JG O st.Js m w p.2 x.2/\x.2.isVal=true) ->
 vs.size=zs.length*te.cs.length->Held O' w' vs te.cs.length (zs.map ty.cells)->J7 (Ol fet te ty xs zs).1 ->
 (∀ p∈(Ol fet te ty xs zs).2.2,∀ e l,p.2= .arr e true l->J5 O' w (m p.1) (.sl l)) ->
 (Ol fet te ty xs zs).2.1.length=zs.length/\ ∃ vs',Instr.fill (fun i=>some (i*te.cs.length,te.cs.length)) vs ps=some vs'/\vs'.size=vs.size/\Held O' w' vs' te.cs.length ((Ol fet te ty xs zs).2.1.map ty.cells):=by
 subst hw;intro xs
 induction xs with
 | nil =>
  intro ps vs zs hl _ hsz hh _ _;cases ps with
  | nil=>exact⟨rfl,vs,rfl,rfl,hh⟩
  | cons _ _=>simp at hl
 | cons x xs ih =>
  intro ps vs zs hl hr hsz hh hok hU;cases ps with
  | nil=>simp at hl
  | cons p ps =>
   obtain⟨i,x⟩:=x;obtain⟨i',v⟩:=p;obtain⟨h1,h2,hval⟩:=hr 0 (i,x) (i',v) rfl rfl;dsimp only at h1 h2 hval;subst h1;simp only[Ol]at hok hU ⊢;obtain⟨hok1,hok2⟩:=hok.append;obtain⟨hok0,hok1⟩:=hok1.append;obtain⟨hmk,hok1⟩:=hok1.cons;have hmk:=Ty.XC _ _ hmk;have hil':i'<zs.length:=by simpa [ER]using hok1.cons.1
   have hset:(zs.set i' (ty.mk (KO fet te.cs x.cells).2.1).2).map ty.cells=(zs.map ty.cells).set i' (KO fet te.cs x.cells).2.1:=by rw[List.map_set,hmk]
   have hzl:zs.length=(zs.map ty.cells).length:=by simp
   rw[hzl]at hsz hil';generalize hes:zs.map ty.cells=es at *
   have hil:i'<es.length:=hil';have hcs:=h2.cells hval;obtain⟨g1,g2,g3,g4⟩:=Yc hf te.cs x.cells (fun j=>v.cells.getD j undef) (fun j hj=>hcs.2 j hj) hok0;have g5:=g4 hp (fun p hp'=>hU p (DL _ hp'));have hvsz:v.cells.size=te.cs.length:=by rw[hcs.1,g2]
   have hle:i'*te.cs.length+te.cs.length<=vs.size:=by rw[hsz];have:(i'+1)*te.cs.length<=es.length*te.cs.length:=DZ _ hil;rw[Ey]at this;omega
   have e0:v.cells.zipIdx.foldl (fun cs (c,j)=>cs.setIfInBounds (i'*te.cs.length+j) c) vs=(v.cells.toList.zipIdx 0).foldl (fun cs (p:Value×Nat)=>cs.setIfInBounds (i'*te.cs.length+p.2) p.1) vs:=by rw[<- IU];simp
   have hl0:i'*te.cs.length+0+v.cells.toList.length<=vs.size:=by rw[Array.length_toList,hvsz];omega
   obtain⟨k1,_⟩:=Wv v.cells.toList 0 (i'*te.cs.length) vs 0 hl0;have k2:=fun j=>(Wv v.cells.toList 0 (i'*te.cs.length) vs j hl0).2;rw[<- e0]at k1
   have hh':Held O' w' (v.cells.zipIdx.foldl (fun cs (c,j)=>cs.setIfInBounds (i'*te.cs.length+j) c) vs) te.cs.length (es.set i' (KO fet te.cs x.cells).2.1):=by
    refine⟨fun y hy=> ?_,fun r j hrl hj=> ?_⟩
    .rcases Ie hy with h | h
     .exact hh.1 y h
     .rw[h,g1]
    .rw[FX]at hrl;have hlt:r*te.cs.length+j<vs.size:=by rw[hsz];have:(r+1)*te.cs.length<=es.length*te.cs.length:=DZ _ hrl;rw[Ey]at this;omega
     have hk:=k2 (r*te.cs.length+j);rw[<- e0]at hk;by_cases hri:r=i'
     .subst hri;rw[Du (by rw[Array.length_toList,hvsz];omega)]at hk;have e1:(es.set r (KO fet te.cs x.cells).2.1).getD r []=(KO fet te.cs x.cells).2.1:=by simp [Dn,hil]
      refine⟨_,getD_eq,?_⟩;rw[hk,e1,show r*te.cs.length+j - (r*te.cs.length+0)=j from by omega];have e2:v.cells.toList.getD j undef=v.cells.getD j undef:=by rw[Dw,Dn,EW]
      rw[e2];exact g5 j hj
     .have hno: ¬(i'*te.cs.length+0<=r*te.cs.length+j/\r*te.cs.length+j<i'*te.cs.length+0+v.cells.toList.length):=by
       rw[Array.length_toList,hvsz];rintro ⟨ha,hb⟩;rcases IV hri with h | h
       .have:(r+1)*te.cs.length<=i'*te.cs.length:=DZ _ h;rw[Ey]at this;omega
       .have:(i'+1)*te.cs.length<=r*te.cs.length:=DZ _ h;rw[Ey]at this;omega
      rw[Dp hno]at hk;obtain⟨u,h3,h4⟩:=hh.2 r j hrl hj;refine⟨u,?_,?_⟩
      .rw[getD_eq,hk,<- getD_eq hlt];exact h3
      .have e1:(es.set i' (KO fet te.cs x.cells).2.1).getD r []=es.getD r []:=by
        simp only[Dn,Gf];rw[Dp (fun h=>hri h.symm)]
       rw[e1];exact h4
   obtain⟨f1,vs',f2,f3,f4⟩:=ih ps _ (zs.set i' (ty.mk (KO fet te.cs x.cells).2.1).2) (by simpa using hl) (fun j x p hx hp=>hr (j+1) x p (by simpa using hx) (by simpa using hp)) (by rw[k1,hsz,FX,hzl]) (by rw[hset];exact hh') hok2
    (fun p hp'=>hU p (DJ _ hp'))
   refine⟨by rw[f1,FX],vs',?_,by rw[f3,k1],f4⟩;simp only[Instr.fill];have: ¬(v.cells.size≠te.cs.length||decide (i'*te.cs.length+v.cells.size>vs.size))=true:=by rw[hvsz];simp;omega
   rw[Dp (by simpa using this)];exact f2
end
end Go.Proofs.YtdihmdelaolelaaGreatDoor.Vm
