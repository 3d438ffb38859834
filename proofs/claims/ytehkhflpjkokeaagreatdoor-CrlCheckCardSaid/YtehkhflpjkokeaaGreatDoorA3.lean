import Derived.Test.YtehkhflpjkokeaaGreatDoorA2
import Derived.Laws.Small
import Derived.Laws.Tables
import Derived.Laws.Append
import Derived.Laws.AppendOwn
import Derived.Laws.OwnMore
set_option linter.all false
namespace Go.Proofs.YtehkhflpjkokeaaGreatDoor.Vm
section
variable {P:Program} {C:Ctx} {O:Own} {Jp:List (Nat×Obj)} {m:Nat->Value} {a:Act} {w:World} {o:Oper} {fet:Fet}
def Afx (w:World) (O:Own) (v:Value) (l:Sl):Prop :=
 (∃ ad,v= .slice ad 0 0/\l.xs=[])\/ ∃ b k c,v= .slice (some (at' b k)) l.es.length c/\l.es.length<=c /\
   ∀ i j,i<l.es.length->j<l.sz-> ∃ u,w.cell? (at' b (k+(i*l.sz+j)))=some u/\J3 O w u ((l.es.getD i []).getD j .undef)
def Afu {l:Sl} (h:l.es=[]):l.xs=[]:=by simp_all[Sl.es]
def J3.ofNil {l:Sl} (h:l.es=[]):J3 O w (.slice none 0 0) (.sl l):=by obtain⟨t,xs⟩:=l;have:xs=[]:=Afu h;subst this;exact .nil t
theorem AwN {x:A} {v:Value} (hf:FOk O Jp m w fet) (hx:J7 O Jp m w v x) (hok:J5 (rd fet x).1):Afx w O v (rd fet x).2:=by
 rcases Al0 hok with ⟨n,e,frz,l,rfl,hg,hl⟩ | ⟨rfl,hl⟩ | ⟨l,rfl,hl⟩<;>rw[hl]
 .obtain⟨h1,h0,h2⟩:=hx.own hf hg;rcases h2 with ⟨h3,h4,h5⟩ | ⟨h3,g,cap,cur,h4,h5,h6,h7,h8,h9,_⟩
  .exact .inl ⟨none,by rw[h1,h5],Afu h4⟩
  .refine .inr ⟨g,0,cap,by rw[h1,h4],h6,fun i j hi hj=> ?_⟩;obtain⟨u,h10,h11⟩:=h9 i j hi hj;exact⟨u,by rw[DV,h5.cell];exact h10,h11⟩
 .exact .inl ⟨none,hx,rfl⟩
 .have hx':J3 O w v (.sl l):=hx;cases hx' with
  | nil=>exact .inl ⟨none,rfl,rfl⟩
  | sl0 ad=>exact .inl ⟨some ad,rfl,rfl⟩
  | @sl b off cap _ vs hc hm hr=>exact .inr ⟨b,off,cap,rfl,hc,fun i j hi hj=>⟨vs i j,(hm i j hi hj).2,hr i j hi hj⟩⟩
def Aoe {t:Ty} {x:A} {v:Value} (hf:FOk O Jp m w fet) (hx:J7 O Jp m w v x) (hok:J5 (rdT fet t x).1):Afx w O v ⟨t,(rdT fet t x).2⟩:=by
 by_cases hn:x= .La
 .subst hn;exact .inl ⟨none,hx,rfl⟩
 .have hr:rdT fet t x=match (rd fet x).2.cast t with | some xs=>((rd fet x).1,xs) | none=>([false],[]):=by
   cases x<;>first | rfl | exact absurd rfl hn
  rw[hr]at hok ⊢;cases hc:(rd fet x).2.cast t with
  | none=>simp_all[Ty,FOk,J7,J5,rdT,Afx]
  | some xs=>grind[AwN,Sl.PR]
def Ar6 {n:Int} (h:isByte n=true):0<=n/\n<256:=by unfold isByte at h;simpa using h
def AkO {d:TypeDesc} (h:Ae0 d=true):d= .int .u8:=by grind[Ae0]
def xE {s t:Nat} {x:Operand} (hC:TOk P C) (hf:FOk O Jp m w fet) (ho:o.op= .convert s t x) {x':A} (hx:J7 O Jp m w (a.eval x) x') (hok:J5 (Yg C fet s t x').ok) :
 Pure P O Jp m a w o (Yg C fet s t x'):=by
 unfold Yg at hok ⊢;obtain⟨ts,hts,he⟩:=Ku hok;rw[he]at hok ⊢;clear he;obtain⟨tt,htt,he⟩:=Ku hok;rw[he]at hok ⊢;clear he;have hus:=(hC.is hts).run w;have hut:=(hC.is htt).run w;split at hok
 .rename_i k j n hd;rw[hd]at hut;have h1:=hx.int;refine⟨⟨.int k (k.wrap n),?_,.mkInt _ _⟩,rfl,rfl,rfl⟩;simp only[execOp,ho,convert,D8,hus,hut,Result.andThen_ok,h1];cases ts.d<;>simp [Conv.intToInt]
 .rename_i l hd;rw[hd]at hut;obtain⟨b,hb,hl⟩:=hx.str;refine⟨⟨.string b,?_,.mkStr _ hl⟩,rfl,rfl,rfl⟩;simp only[execOp,ho,convert,D8,hus,hut,Result.andThen_ok,hb];cases ts.d<;>simp
 .exact(JE hok).elim
 .rename_i y _ _ hd _ _;rw[hd]at hut;obtain⟨e,hel,he⟩:=JL hok;rw[he]at hok ⊢;clear he;obtain⟨te,hte,he⟩:=Ku hok;rw[he]at hok ⊢;clear he;obtain⟨h1,h2⟩:=hok.cons;obtain⟨h2,h3⟩:=h2.append;have h3:=h3.cons.1;have hde:=AkO h1;have hes:=QS hel;have hue:=(hC.is hte).d;rw[hde]at hue;have hus':=(hC.is hts).d;rw[hes]at hus';have hr:Afx w O (a.eval x) ⟨RZ,(rdB fet y).2⟩:=Aoe (t:=RZ) hf hx h2;generalize hL:(rdB fet y).2=bs at *
  have hes:(⟨RZ,bs⟩:Sl).es.length=bs.length:=Sl.KH _;rcases hr with ⟨ad,hv,hn⟩ | ⟨b,k,c,hv,hc,hcell⟩
  .have hn:bs=[]:=hn;refine⟨⟨.string .empty,?_,.mkStr _ (by rw[hn];rfl)⟩,rfl,rfl,rfl⟩;cases ad with
   | none =>have:=run_convert_bytes_string (P:=P) w s t e none 0 0 hus' hue (by rw[(hC.is htt).d,hd]);simp only[execOp,ho,hv,D8,this];rfl
   | some ad =>have:=run_convert_bytes_back (P:=P) w s t e ad 0 [] hus' hue (by rw[(hC.is htt).d,hd]) (fun j hj=>absurd hj (Iy j));simp only[List.length_nil]at this;simp only[execOp,ho,hv,D8,this];rfl
  .refine⟨⟨.string ⟨(List.map byteOf bs).toArray⟩,?_,.mkStr _ (by simp)⟩,rfl,rfl,rfl⟩
   have:=run_convert_bytes_back (P:=P) w s t e (at' b k) c (List.map byteOf bs) hus' hue (by rw[(hC.is htt).d,hd]) (fun j hj=>by
    have hj':j<bs.length:=by simpa using hj
    obtain⟨u,h4,h5⟩:=hcell j 0 (by rw[hes];exact hj') (by show 0<1;omega);have hb:isByte (bs.getD j 0)=true:=by refine(DD.1 h3) _ ?_;rw[Dj,DC hj'];simp
    obtain⟨h7,h8⟩:=Ar6 hb;have h6:(⟨RZ,bs⟩:Sl).es.getD j []=[A.int .u8 (bs.getD j 0)]:=by rw[<- Sl.at_eq _ hj'];rfl
    rw[h6]at h5;simp only[G6]at h5;have hu:u= .int .u8 (bs.getD j 0):=by cases h5;rfl
    have h4':w.cell? (at' b (k+(j*1+0)))=some u:=h4;rw[QK,show k+j=k+(j*1+0)from by omega,h4',hu];have:(List.map byteOf bs)[j]'hj=UInt8.ofNat (bs.getD j 0).toNat:=by rw[FX,Dj,DC hj'];rfl
    rw[this];have:((UInt8.ofNat (bs.getD j 0).toNat).toNat:Int)=bs.getD j 0:=by rw[Fp];omega
    rw[this])
   simp only[D5]at this;rw[hes]at hv;simp only[execOp,ho,hv,D8,this];rfl
 .exact(JE hok).elim
def Aub {c:Call} {x y:Operand} (ho:o.op= .call c) (hcal:c.callee= .builtin .min) (hargs:c.args= #[x,y]) {x' y':A} (hx:J7 O Jp m w (a.eval x) x') (hy:J7 O Jp m w (a.eval y) y')
 (hok:J5 (Ap8 x' y').ok):Pure P O Jp m a w o (Ap8 x' y'):=by
 unfold Ap8 at hok ⊢;split at hok
 .rename_i k p k' q;cases hk:A.kEq k k' with
  | false=>rw[hk]at hok;exact(JE hok).elim
  | true =>
   have:=Qk hk;subst this;refine⟨⟨.int k (if q<p then q else p),?_,?_⟩,rfl,rfl,rfl⟩
   .have h:=run_min_int2 (P:=P) (w:=w) c.argTypes o.type k k p q;simp [execOp,ho,resolve,hcal,hargs,invoke,builtin,hx.int,hy.int,h]
   .show J7 O Jp m w _ (.int k (bif decide (q<p)then q else p));by_cases h:q<p<;>simp only[h,Gf,Ia,cond_true,cond_false,Ji,GU]<;>exact .mkInt _ _
 .exact(JE hok).elim
def AtX {c:Call} {x y:Operand} (ho:o.op= .call c) (hcal:c.callee= .builtin .max) (hargs:c.args= #[x,y]) {x' y':A} (hx:J7 O Jp m w (a.eval x) x') (hy:J7 O Jp m w (a.eval y) y')
 (hok:J5 (Ap6 x' y').ok):Pure P O Jp m a w o (Ap6 x' y'):=by
 unfold Ap6 at hok ⊢;split at hok
 .rename_i k p k' q;cases hk:A.kEq k k' with
  | false=>rw[hk]at hok;exact(JE hok).elim
  | true =>
   have:=Qk hk;subst this;refine⟨⟨.int k (if q>p then q else p),?_,?_⟩,rfl,rfl,rfl⟩
   .have h:=run_max_int2 (P:=P) (w:=w) c.argTypes o.type k k p q;simp [execOp,ho,resolve,hcal,hargs,invoke,builtin,hx.int,hy.int,h]
   .show J7 O Jp m w _ (.int k (bif decide (p<q)then q else p));by_cases h:p<q<;>simp only[h,gt_iff_lt,Gf,Ia,cond_true,cond_false,Ji,GU]<;>exact .mkInt _ _
 .exact(JE hok).elim
end
section
variable {P:Program} {C:Ctx} {O:Own} {Jp:List (Nat×Obj)} {m:Nat->Value} {a:Act} {w:World} {o:Oper} {fet:Fet}
def QJ (O:Own) (Jp:List (Nat×Obj)) (m:Nat->Value) (w:World) (vs:Array Value) (cs:List A):Prop :=
 vs.size=cs.length/\ ∀ j,j<cs.length->JC O Jp m w (vs.getD j undef) (cs.getD j .undef)
def JC.one {v:Value} {x:A} (h:JC O Jp m w v x):v.oneCell'=true:=by
 cases x with
 | undef=>exact h
 | bool _=>cases h;rfl
 | int _ _=>cases h;rfl
 | str _=>cases h;rfl
 | sl _=>cases h<;>rfl
 | sln _=>exact J3.one h
 | La=>have h':v=_:=h;subst h';rfl
 | Lt=>cases h;rfl
 | ptr _ _=>exact h.1
 | own _=>exact h.1
 | Kq _ _ _=>exact h.1
 | clo _ _=>exact h.1
 | bsl _ _=>exact h.1
 | osl _ _=>exact h.1
 | elt _=>obtain⟨_,_,h,_⟩:=h;subst h;rfl
 | fn _=>cases h<;>rfl
 | _=>exact h.elim
def oneCell_cells {v:Value} (h:v.oneCell'=true):v.cells= #[v]:=by cases v<;>first | rfl | cases h
theorem J7.cells {v:Value} {x:A} (h:J7 O Jp m w v x) (hv:x.isVal=true):QJ O Jp m w v.cells x.cells:=by
 have cell:JC O Jp m w v x->x.cells=[x]->QJ O Jp m w v.cells x.cells:=by
  intro hc he;rw[he,oneCell_cells hc.one];refine⟨rfl,fun j hj=> ?_⟩;have:j=0:=by simpa using hj
  subst this;exact hc
 cases x with
 | agg cs =>obtain⟨vs,h1,h2,h3⟩:=h;subst h1;exact⟨h2,h3⟩
 | undef=>cases hv
 | tup _=>cases hv
 | usl _ _ _=>cases hv
 | ump _=>cases hv
 | box _=>cases hv
 | cbx _ _=>cases hv
 | cnd _ _=>cases hv
 | _=>exact cell h rfl
def Vt (l:List Value): ∀(k off:Nat) (cs:Array Value) (i:Nat),off+k+l.length<=cs.size ->
 ((l.zipIdx k).foldl (fun cs (p:Value×Nat)=>cs.setIfInBounds (off+p.2) p.1) cs).size=cs.size /\
 ((l.zipIdx k).foldl (fun cs (p:Value×Nat)=>cs.setIfInBounds (off+p.2) p.1) cs).getD i undef=if off+k<=i/\i<off+k+l.length then l.getD (i - (off+k)) undef else cs.getD i undef:=by
 induction l with
 | nil =>intro k off cs i _;refine⟨rfl,?_⟩;rw[Dk (by simp)];rfl
 | cons v l ih =>
  intro k off cs i h;simp only[List.zipIdx_cons,List.foldl_cons];simp only[List.length_cons]at h ⊢;obtain⟨h1,h2⟩:=ih (k+1) off (cs.setIfInBounds (off+k) v) i (by simp;omega);refine⟨by rw[h1];simp,?_⟩;rw[h2];by_cases hi:off+(k+1)<=i/\i<off+(k+1)+l.length
  .rw[Dp hi,AyA,show i - (off+k)=(i - (off+(k+1)))+1 from by omega];rfl
  .rw[Dk hi];by_cases hk:i=off+k
   .subst hk;rw[AyA,Dq,Ff];all_goals grind
   .rw[Ay9,Dq,Ff,Ay9,<- Dq]
def lD (l:List A) (off:Nat) (vs:List A) (i:Nat) (h:off+vs.length<=l.length):(splice l off vs).getD i .undef=if off<=i/\i<off+vs.length then vs.getD (i - off) .undef else l.getD i .undef:=by unfold splice;all_goals grind[splice]
def ZQ (l:List A) (off:Nat) (vs:List A) (h:off+vs.length<=l.length):(splice l off vs).length=l.length:=by unfold splice;simp;omega
theorem QJ.splice {vs us:Array Value} {cs xs:List A} {off:Nat} (h:QJ O Jp m w vs cs) (hu:QJ O Jp m w us xs) (hle:off+xs.length<=cs.length) :
 QJ O Jp m w (us.zipIdx.foldl (fun cs (c,j)=>cs.setIfInBounds (off+j) c) vs) (splice cs off xs):=by
 have e:us.zipIdx.foldl (fun cs (c,j)=>cs.setIfInBounds (off+j) c) vs=(us.toList.zipIdx 0).foldl (fun cs (p:Value×Nat)=>cs.setIfInBounds (off+p.2) p.1) vs:=by rw[<- IV];simp
 rw[e];have hl:off+0+us.toList.length<=vs.size:=by rw[Array.length_toList,hu.1,h.1];omega
 refine⟨by rw[(Vt us.toList 0 off vs 0 hl).1,h.1,ZQ _ _ _ hle],fun j hj=> ?_⟩;rw[ZQ _ _ _ hle]at hj;rw[(Vt us.toList 0 off vs j hl).2,lD _ _ _ _ hle];rw[Array.length_toList,hu.1];by_cases hi:off<=j/\j<off+xs.length
 .rw[AyA,Dp hi,Nat.add_zero];have:=hu.2 (j - off) (by omega);have e:us.toList.getD (j - off) undef=us.getD (j - off) undef:=by rw[Dq,Dj,Eg]
  rw[e];exact this
 .rw[Ay9,Dk hi];exact h.2 j hj
def fO (P:Program) (d:TypeDesc) (i:Nat):Option (Nat×Nat) :=
 match d with
 | .struct fs=>(fs[i]?).bind fun f=>(P.info? f.type).map fun j=>(f.offset,j.size)
 | .array _ e=>(P.info? e).map fun j=>(i*j.size,j.size)
 | _=>none
def Ak2 (hC:TOk P C) {d:TypeDesc} {place:Nat->Option (Nat×Nat)} (hp: ∀ i p,fO P d i=some p->place i=some p): ∀(xs:List (Nat×A)) (ps:List (Nat×Value)) (vs:Array Value) (cs cs':List A),
 xs.length=ps.length->(∀(j:Nat) (x:Nat×A) (p:Nat×Value),xs[j]? =some x->ps[j]? =some p->p.1=x.1/\J7 O Jp m w p.2 x.2)->QJ O Jp m w vs cs->fill C d xs cs=some cs' ->
 ∃ vs',Instr.fill place vs ps=some vs'/\QJ O Jp m w vs' cs':=by
 intro xs
 induction xs with
 | nil =>
  intro ps vs cs cs' hl _ hcs hf;cases ps with
  | nil=>simp only[fill]at hf;injection hf with hf;subst hf;exact⟨vs,rfl,hcs⟩
  | cons _ _=>simp at hl
 | cons x xs ih =>
  intro ps vs cs cs' hl hr hcs hf;cases ps with
  | nil=>simp at hl
  | cons p ps =>
   obtain⟨i,x⟩:=x;obtain⟨i',v⟩:=p;obtain⟨h1,h2⟩:=hr 0 (i,x) (i',v) rfl rfl;dsimp only at h1 h2;subst h1;simp only[fill]at hf;cases hpl:Abg C d i' with
   | none=>rw[hpl]at hf;cases hf
   | some q =>
    obtain⟨off,ti⟩:=q;rw[hpl]at hf;dsimp only at hf;cases hb:(x.isVal&&Nat.beq x.cells.length ti.cs.length&&Nat.ble (off+ti.cs.length) cs.length)with
    | false=>rw[hb]at hf;cases hf
    | true =>
     rw[hb]at hf;simp only[cond_true]at hf;simp only[Du,UO,Dz]at hb;obtain⟨⟨hb1,hb2⟩,hb3⟩:=hb;have hb3:=DW hb3;have hv:=h2.cells hb1
     have hpv:fO P d i'=some (off,ti.cs.length):=by
      unfold Abg at hpl;unfold fO;split at hpl
      .rename_i fs;split at hpl
       .rename_i f hf';split at hpl
        .rename_i tf htf;injection hpl with hpl;injection hpl with e1 e2;subst e1;subst e2;obtain⟨i0,z,h3,h4,_⟩:=(hC.is htf).i;have:fs[i']? =some f:=by simpa using hf'
         simp [this,h3,h4]
        .cases hpl
       .cases hpl
      .rename_i n e;split at hpl
       .rename_i tf htf;cases hlt:Nat.blt i' n with
        | false=>rw[hlt]at hpl;cases hpl
        | true =>rw[hlt]at hpl;injection hpl with hpl;injection hpl with e1 e2;subst e2;obtain⟨i0,z,h3,h4,_⟩:=(hC.is htf).i;simp [h3,h4,<- e1]
       .cases hpl
      .cases hpl
     have hnext:=hcs.splice (off:=off) hv (by omega);obtain⟨vs',h5,h6⟩:=ih ps _ _ _ (by simpa using hl) (fun j x p hx hp=>hr (j+1) x p (by simpa using hx) (by simpa using hp)) hnext hf;refine⟨vs',?_,h6⟩;simp only[Instr.fill,hp _ _ hpv];have: ¬(v.cells.size≠ti.cs.length||decide (off+v.cells.size>vs.size))=true:=by rw[hv.1,hcs.1,hb2];simp;omega
     rw[Dk (by simpa using this)];exact h5
def SY: ∀(vs:List Value) (ks:List CK),KD vs ks=true->vs.length=ks.length/\ ∀ j,j<ks.length->JC O Jp m w (vs.getD j undef) ((ks.map CK.zero).getD j .undef):=by
 intro vs
 induction vs with
 | nil=>intro ks h;cases ks with
  | nil=>exact⟨rfl,fun j hj=>by simp at hj⟩
  | cons _ _=>simp [KD]at h
 | cons v vs ih =>
  intro ks h;cases ks with
  | nil=>cases v<;>simp [KD]at h
  | cons k ks =>
   have step:KD vs ks=true->JC O Jp m w v k.zero->(v::vs).length=(k::ks).length/\ ∀ j,j<(k::ks).length->JC O Jp m w ((v::vs).getD j undef) (((k::ks).map CK.zero).getD j .undef):=by
    intro hz hv;obtain⟨h1,h2⟩:=ih ks hz;refine⟨by simp [h1],fun j hj=> ?_⟩;cases j with
    | zero=>exact hv
    | succ j=>simpa using h2 j (by simpa using hj)
   cases k with
   | bool=>cases v with
    | bool b=>cases b<;>simp [KD]at h;exact step h (.bool _)
    | _=>simp [KD]at h
   | int k'=>cases v with
    | int k'' n =>
     have h':A.kEq k'' k'=true/\n=0/\KD vs ks=true:=by clear step ih;unfold KD at h;split at h<;>simp_all
     obtain⟨h1,h2,h3⟩:=h';have:=Qk h1;subst this;subst h2;exact step h3 (.int _ _)
    | _=>simp [KD]at h
   | str=>cases v with
    | string s =>
     simp only[KD,Du]at h;have hs:s.data.toList=[]:=by simpa using h.1
     refine step h.2 ?_;show J3 O w (.string s) (.str []);rw[<- hs];exact .str s
    | _=>simp [KD]at h
   | sl e sz=>cases v with
    | slice ad l c =>
     have h':ad=none/\l=0/\c=0/\KD vs ks=true:=by clear step ih;unfold KD at h;split at h<;>simp_all
     obtain⟨h1,h2,h3,h4⟩:=h';subst h1;subst h2;subst h3;exact step h4 rfl
    | _=>simp [KD]at h
   | ptr=>cases v with
    | pointer ad=>cases ad<;>simp [KD]at h;exact step h .Lt
    | _=>simp [KD]at h
   | fn=>cases v with
    | nilFunc=>simp [KD]at h;exact step h J3.jI
    | _=>simp [KD]at h
   | sln _ _=>cases v<;>simp [KD]at h
   | mp _ _=>cases v<;>simp [KD]at h
   | bx _=>cases v<;>simp [KD]at h
   | oth =>
    have:v.oneCell'=true/\KD vs ks=true:=by cases v<;>simpa [KD]using h
    exact step this.2 this.1
theorem Ahl {n t:Nat} {ks:List CK} (h:ND P n t=some ks): ∃ i,P.info? t=some i:=by
 cases n with
 | zero=>simp [ND]at h
 | succ n =>
  cases hi:P.info? t with
  | some i=>exact⟨i,rfl⟩
  | none =>
   have hu:P.underlying t=none:=by simp [Program.underlying,hi]
   simp [ND,hu]at h
def Amx {n t:Nat} {ks:List CK} {fs:Array Field} (h:ND P n t=some ks) (hu:P.underlying t=some (.struct fs)): ∀ f∈fs.toList,∃ i,P.info? f.type=some i:=by
 cases n with
 | zero=>simp [ND]at h
 | succ n =>
  simp only[ND,hu]at h;revert h;generalize fs.toList=l
  induction l generalizing ks with
  | nil=>intro _ f hf;cases hf
  | cons g l ih=>grind[Ahl]
def AoB {n t c e:Nat} {ks:List CK} (h:ND P n t=some ks) (hu:P.underlying t=some (.array c e)): ∃ i,P.info? e=some i:=by
 cases n with
 | zero=>simp [ND]at h
 | succ n=>grind[ND,Ahl]
def AmX {P:Program}: ∀(l:List Field),(∀ f∈l,∃ i,P.info? f.type=some i)->l.mapM (fun f=>(P.info? f.type).map fun i=>(f.offset,i.size))=some (l.map fun f=>(f.offset,P.cellsOf f.type)):=by
 intro l
 induction l with
 | nil=>intro _;rfl
 | cons f l ih =>intro h;obtain⟨i,hi⟩:=h f Dv;have:=ih (fun g hg=>h g (Dw _ hg));simp [I5,hi,this,Program.cellsOf]
def Ami {t:Nat} {ti:TI} (hT:VB P t ti): ∃ i z,P.info? t=some i/\i.zero=some z/\Xy ti.d=eP z/\QJ O Jp m w z.cells (ti.cs.map CK.zero):=by obtain⟨i,z,h1,h2,h3,h4,h5,h6⟩:=hT.i;obtain⟨h7,h8⟩:=SY (O:=O) (Jp:=Jp) (m:=m) (w:=w) _ _ h5;all_goals simp_all[Xy,eP,QJ,CK.zero]
def Ao7 {t:Nat} {ps:Array (Nat×Operand)} (hC:TOk P C) (ho:o.op= .build t ps) {xs:List (Nat×A)} (hl:xs.length=ps.size) (hx: ∀(j:Nat) (x:Nat×A) (p:Nat×Operand),xs[j]? =some x->ps[j]? =some p->p.1=x.1/\J7 O Jp m w (a.eval p.2) x.2)
 (hok:J5 (wW C t xs).ok):Pure P O Jp m a w o (wW C t xs):=by
 unfold wW at hok ⊢;obtain⟨ti,ht,he⟩:=Ku hok;rw[he]at hok ⊢;clear he;obtain⟨cs,hcs,he⟩:=JL hok;rw[he]at hok ⊢;clear he;have hT:=hC.is ht;obtain⟨i,z,h1,h2,_,h3⟩:=Ami (O:=O) (Jp:=Jp) (m:=m) (w:=w) hT
 have key: ∃ place:Nat->Option (Nat×Nat),(∀ i p,fO P ti.d i=some p->place i=some p)/\ ∀ vs,Instr.fill place z.cells (ps.map (fun(i,x)=>(i,a.eval x))).toList=some vs->P.built t (ps.map (fun(i,x)=>(i,a.eval x))).toList=some vs:=by
  have hu:=hT.d;cases hd:ti.d with
  | struct fs =>
   rw[hd]at hu;have hinf:=Amx hT.ck hu;refine⟨fun i=>(fs.toList.map fun f=>(f.offset,P.cellsOf f.type)).toArray[i]?,fun i p hp=> ?_,fun vs hvs=> ?_⟩
   .simp only[fO]at hp;cases hf:fs[i]? with
    | none=>rw[hf]at hp;cases hp
    | some f =>
     rw[hf]at hp;simp only[Option.bind_some]at hp;cases hi:P.info? f.type with
     | none=>rw[hi]at hp;cases hp
     | some j =>rw[hi]at hp;simp at hp;subst hp;simp [hf,Program.cellsOf,hi]
   .unfold Program.built;simp only[h1,hu,h2,AmX _ hinf];exact hvs
  | array n e =>
   rw[hd]at hu;obtain⟨ie,hie⟩:=AoB hT.ck hu;refine⟨fun i=>some (i*ie.size,ie.size),fun i p hp=> ?_,fun vs hvs=> ?_⟩
   .grind[fO]
   .unfold Program.built;simp only[h1,hu,h2,hie];exact hvs
  | _ =>have:=hok.cons.1;rw[Adw,hd]at this;cases this
 obtain⟨place,hp,hb⟩:=key
 obtain⟨vs,h4,h5⟩:=Ak2 (O:=O) (Jp:=Jp) (m:=m) (w:=w) hC hp xs (ps.map (fun(i,x)=>(i,a.eval x))).toList z.cells _ cs (by simp [hl]) (fun j x p hxj hpj=>by
  simp only[Ip,EF]at hpj;cases hq:ps.toList[j]? with
  | none=>rw[hq]at hpj;cases hpj
  | some q =>rw[hq]at hpj;injection hpj with hpj;subst hpj;exact hx j x q hxj (by simpa using hq)) h3 hcs
 have:=run_build (P:=P) w t _ _ (hb vs h4);refine⟨⟨.agg vs,?_,?_⟩,rfl,rfl,rfl⟩
 .simp only[execOp,ho,D8,this,Result.andThen_ok,Sem.run_pure]
 .exact⟨vs,rfl,h5.1,h5.2⟩
end
structure Sim (V0:Nat->Value) (O0:Own) (w0:World) (O:Own) (m:Nat->Value) (st:St) (a:Act) (w:World):Prop where
 defers:a.defers=[]
 size:a.tmps.size=st.tmps.length
 tmps: ∀ t,t<st.tmps.length->J7 O st.Jp m w (a.tmps.getD t undef) (st.tmps.getD t .undef)
 Jp: ∀ o x,Jy st.Jp o=some x->KT O st.Jp m w o x
 frame:Moves O0 (fun o=>o≠255) w0 w
 own: ∀ b k o,b<w0.heap.size->O b k=some o->o≠255-> ∃ o0,O0 b k=some o0/\o0≠255
 ids: ∀ o x,Jy st.Jp o=some x->o≠255
 less: ∀ b k,b<w0.heap.size->O b k≠none->O0 b k≠none
 root: ∀ o,XQ o=true->(Jy st.Jp o).isSome->m o=V0 o
 kQ: ∀ b k,b<w0.heap.size->O0 b k=some 255->O b k=some 255
 inv:Inv O0 w0
def Sim.eH {V0:Nat->Value} {O0 O:Own} {w0 w:World} {m:Nat->Value} {st:St} {a:Act} (hS:Sim V0 O0 w0 O m st a w):Inv O w:=by
 refine⟨fun g j p ht=> ?_,fun g n ht=> ?_⟩
 .obtain⟨h1,v,h2,h3⟩:=hS.inv.1 g j p ht;have hb:=cell_lt h2;refine⟨?_,v,?_,h3⟩
  .cases h:O g j with
   | none=>rfl
   | some o=>exact absurd h1 (hS.less g j hb (by rw[h];simp))
  .rw[hS.frame.cell hb (fun o ho=>by rw[h1]at ho;cases ho)];exact h2
 .obtain⟨c,e,fr,h1,h2⟩:=hS.inv.2 g n ht;have hg:g<w0.heap.size:=(Ee.1 h1).1;rcases hS.frame.blk g hg with he | ⟨d,d',e',fr',k1,k2,k3,_⟩ | ⟨es,ck,es',ck',o,k1,_⟩;all_goals simp_all[Own,Inv]
def Moves.Axd {O0 O:Own} {T:Nat->Prop} {w0 w w':World} (h:Moves O0 (fun o=>o≠255) w0 w) (h':Moves O T w w') (hO: ∀ b k o,b<w0.heap.size->O b k=some o->o≠255-> ∃ o0,O0 b k=some o0/\o0≠255) (hT: ¬ T 255) :
 Moves O0 (fun o=>o≠255) w0 w':=by
 refine⟨h'.os.trans h.os,h'.tape.trans h.tape,h'.output.trans h.output,He h.size h'.size,fun b hb=> ?_⟩;have hb':b<w.heap.size:=F8 hb h.size;have up: ∀ k o,O b k=some o->T o-> ∃ o',O0 b k=some o'/\o'≠255:=fun k o ho ht=>hO b k o hb ho (fun e=>hT (by rw[<- e];exact ht));rcases h'.blk b hb' with he' | ⟨c,c',e,fr,h1,h2,h3,h4,k,o,h5,h6,h7⟩ | ⟨es,ck,es',ck',o,h1,h2,h3,h4⟩
 .rcases h.blk b hb with he | ⟨d,d',e,fr,h1,h2,h3,h4,h5⟩ | ⟨es,ck,es',ck',o,h1,h2,h3,h4⟩
  .exact .inl (he'.trans he)
  .exact .inr (.inl ⟨d,d',e,fr,h1,he'.trans h2,h3,h4,h5⟩)
  .simp_all[Own]
 .obtain⟨o',ho',hne'⟩:=up k o h6 h7;rcases h.blk b hb with he | ⟨d,d',e',fr',g1,g2,g3,g4,g5⟩ | ⟨es,ck,es',ck',o1,g1,g2,g3,g4⟩
  .refine .inr (.inl ⟨c,c',e,fr,he▸h1,h2,h3,fun i hi=>h4 i (fun o'' ho'' ht=> ?_),k,o',h5,ho',hne'⟩);obtain⟨o3,ho3,hn3⟩:=up i o'' ho'' ht;exact hi o3 ho3 hn3
  .rw[g2]at h1;injection h1 with h1;injection h1 with q1 q2 q3;subst q1;subst q2;subst q3;refine .inr (.inl ⟨d,c',e',fr',g1,h2,h3.trans g3,fun i hi=> ?_,k,o',by omega,ho',hne'⟩);rw[h4 i (fun o'' ho'' ht=> ?_),g4 i hi];obtain⟨o3,ho3,hn3⟩:=up i o'' ho'' ht;exact hi o3 ho3 hn3
  .simp_all[Own]
 .obtain⟨o',ho',hne'⟩:=up 0 o h3 h4;rcases h.blk b hb with he | ⟨d,d',e',fr',g1,g2,g3,g4,g5⟩ | ⟨es1,ck1,es1',ck1',o1,g1,g2,g3,g4⟩
  .exact .inr (.inr ⟨es,ck,es',ck',o',he▸h1,h2,ho',hne'⟩)
  all_goals simp_all[Own]
def Adb (tmps:List A) (d:Option Tmp) (v:A) (t:Nat) (h:t<tmps.length):(put tmps d v).getD t .undef=if d=some t then v else tmps.getD t .undef:=by
 cases d with
 | none=>simp [put]
 | some d =>
  simp only[put,Dj,FV];by_cases hd:d=t
  .subst hd;simp [h]
  .simp [hd]
def XE (tmps:List A) (d:Option Tmp) (v:A):(put tmps d v).length=tmps.length:=by cases d<;>simp [put]
def Amm (a:Act) (d:Option Tmp) (v:Value) (t:Nat) (h:t<a.tmps.size):(a.put d v).tmps.getD t undef=if d=some t then v else a.tmps.getD t undef:=by
 cases d with
 | none=>simp [Act.put]
 | some d =>
  simp only[Act.put,Dq,Ff];by_cases hd:d=t
  .subst hd;simp [h]
  .simp [hd]
def Amn (a:Act) (d:Option Tmp) (v:Value):(a.put d v).tmps.size=a.tmps.size:=by cases d<;>simp [Act.put]
def AhN (a:Act) (d:Option Tmp) (v:Value):(a.put d v).defers=a.defers:=by cases d<;>rfl
def fE {st:St} {t n:Nat} (ht:t<st.tmps.length) (h:n∈(st.tmps.getD t .undef).ids):n∈st.ids:=DL _ (Tu ht h)
def Acs {l:List (Nat×Obj)} {o:Nat} {x:Obj} (h:Jy l o=some x):(o,x)∈l:=by
 induction l with
 | nil=>cases h
 | cons p r ih=>grind[NL]
def X4 {st:St} {o n:Nat} {x:Obj} (ho:Jy st.Jp o=some x) (h:n∈x.ids):n∈st.ids :=
 DI _ (Ez.2 ⟨(o,x),Acs ho,h⟩)
structure Pj (st:St) (n:Nat):Prop where
 ids:n∉st.ids
 Jp:Jy st.Jp n=none
 ne:n≠255
 root:XQ n=false
def Pj.both {st:St} {n:Nat} (h:Pj st n):n∉st.ids/\XQ n=false:=⟨h.ids,h.root⟩
def MV {st:St} {n:Nat} (h:st.fresh n=true):Pj st n:=by
 unfold St.fresh at h;simp only[Du,EY,Option.isNone_iff_eq_none]at h;refine⟨fun hm=> ?_,h.1.1.2,fun e=> ?_,h.2⟩
 .have:has st.ids n=true:=Gy.2 ⟨n,hm,by simp⟩;rw[this]at h;cases h.1.1.1
 .simp_all
def Sim.next {V0:Nat->Value} {O0 O O':Own} {w0 w w':World} {m m':Nat->Value} {st st':St} {a:Act} {T Nw:Nat->Prop} {d:Option Tmp} {v:Value} {x:A}
 (hS:Sim V0 O0 w0 O m st a w) (hM:Moves O T w w') (hP:Passes O O' T w.heap.size) (hO: ∀ b k,b<w.heap.size->O' b k≠none->O b k≠none)
 (hE:Q9 st.Jp m st'.Jp m' Nw) (hN: ∀ n,Nw n->n∉st.ids/\XQ n=false)
 (hT: ∀ o,T o->(Jy st.Jp o).isSome)
 (hobj: ∀ o y,Jy st'.Jp o=some y->(¬ T o/\Jy st.Jp o=some y/\m' o=m o)\/(KT O' st'.Jp m' w' o y/\o≠255))
 (ht:st'.tmps=put st.tmps d x) (hx:d≠none->J7 O' st'.Jp m' w' v x):Sim V0 O0 w0 O' m' st' (a.put d v) w':=by
 have hpr:=hM.JW hP;have hT255: ¬ T 255:=fun h=>by obtain⟨x,hx⟩:=EU.1 (hT 255 h);exact hS.ids 255 x hx rfl
 refine⟨by rw[AhN];exact hS.defers,by rw[Amn,ht,XE];exact hS.size,fun t htl=> ?_,fun o y ho=> ?_,hS.frame.Axd hM hS.own hT255,fun b k q hb h hne=> ?_,fun o y ho=> ?_,fun b k hb h=>hS.less b k hb (hO b k (F8 hb hS.frame.size) h),fun o hr ho=> ?_,fun b k hb h=>hP.keep b k 255 (F8 hb hS.frame.size) (hS.kQ b k hb h) hT255,hS.inv⟩
 .rw[ht,XE]at htl;rw[ht,Adb _ _ _ _ htl,Amm _ _ _ _ (by rw[hS.size];exact htl)];by_cases hd:d=some t
  .rw[Dp hd,Dp hd];exact hx (by rw[hd];simp)
  .rw[Dk hd,Dk hd];exact(hS.tmps t htl).step hpr hE (fun i hi hn=>(hN i hn).1 (fE htl hi))
 .rcases hobj o y ho with ⟨h1,h2,h3⟩ | h
  .exact(hS.Jp o y h2).step hM hP hE h1 h3 (fun i hi hn=>(hN i hn).1 (X4 h2 hi))
  .exact h.1
 .have hb':=F8 hb hS.frame.size;cases hq:O b k with
  | none=>exact absurd hq (hO b k hb' (by rw[h];simp))
  | some r =>
   by_cases hr:r=255
   .subst hr;have:=hP.keep b k 255 hb' hq hT255;rw[h]at this;injection this with this;exact absurd this hne
   .exact hS.own b k r hb hq hr
 .rcases hobj o y ho with ⟨_,h2,_⟩ | h
  .exact hS.ids o y h2
  .exact h.2
 .obtain⟨y,hy⟩:=EU.1 ho;rcases hE o y hy with h | ⟨x,h1,_,h3⟩
  .rw[(hN o h).2]at hr;cases hr
  .rw[h3];exact hS.root o hr (by rw[h1];rfl)
theorem Sim.put {V0:Nat->Value} {O0 O:Own} {w0 w:World} {m:Nat->Value} {st:St} {a:Act} (hS:Sim V0 O0 w0 O m st a w) (d:Option Tmp) {v:Value} {x:A} (hx:J7 O st.Jp m w v x) :
 Sim V0 O0 w0 O m {st with tmps:=Vm.put st.tmps d x} (a.put d v) w :=
 hS.next (st':= {st with tmps:=Vm.put st.tmps d x}) (T:=fun _=>False) (Nw:=fun _=>False) (Moves.refl O _ w) ⟨fun _ _ _ h=>h,fun _ _ _ _ h _=>h⟩ (fun _ _ _ h=>h) (fun _ y ho=>.inr ⟨y,ho,rfl,rfl⟩) (fun _ h=>h.elim) (fun _ h=>h.elim)
  (fun _ _ ho=>.inl ⟨id,ho,rfl⟩) rfl (fun _=>hx)
def Good (P:Program) (V0:Nat->Value) (O0:Own) (w0:World) (st':St) (o:Oper) (a:Act) (w:World):Prop :=
 ∀(next:Act->World->Prop) (Q:Exit->Act->World->Prop),(∀ O' m' a' w',Sim V0 O0 w0 O' m' st' a' w'->next a' w')->o.wp P a w next Q
def Pure.good {P:Program} {V0:Nat->Value} {O0 O:Own} {w0 w:World} {m:Nat->Value} {st:St} {a:Act} {o:Oper} {δ :Dl} (hS:Sim V0 O0 w0 O m st a w) (h:Pure P O st.Jp m a w o δ):Good P V0 O0 w0 (apply st o δ) o a w:=by
 intro next Q hn
 obtain⟨v,hr,hx⟩:=h.run;unfold Oper.wp;rw[hr,Oper.upon_value];refine hn O m _ _ ?_;have:apply st o δ = {st with tmps:=put st.tmps o.dst δ.val}:=by unfold apply;rw[h.new,h.upd,h.del];rfl
 rw[this];exact hS.put o.dst hx
def Ac4 {V0:Nat->Value} {O0 O:Own} {w0 w:World} {m:Nat->Value} {st:St} {a:Act} (hS:Sim V0 O0 w0 O m st a w) (x:Operand):J7 O st.Jp m w (a.eval x) (KN st.tmps x):=by
 have cell: ∀ v:Value,J7 O st.Jp m w v (O6 v)/\(v.oneCell'=true->JC O st.Jp m w v (O6 v)):=by
  intro v;unfold O6;split
  .exact⟨.OX _,fun _=>J3.bool _⟩
  .exact⟨.mkInt _ _,fun _=>J3.int _ _⟩
  .exact⟨.mkStr _ rfl,fun _=>J3.str _⟩
  .exact⟨rfl,fun _=>rfl⟩
  .exact⟨J3.Lt,fun _=>J3.Lt⟩
  .exact⟨J3.jI,fun _=>J3.jI⟩
  .exact⟨trivial,fun h=>h⟩
 cases x with
 | tmp t =>
  by_cases ht:t<st.tmps.length
  .exact hS.tmps t ht
  .have:KN st.tmps (.tmp t)= .undef:=by
    simp [KN,Dj,Ei (Nat.le_of_not_lt ht)]
   rw[this];trivial
 | const v =>
  show J7 O st.Jp m w v (ofConst v);unfold ofConst;split
  .rename_i vs;cases hall:vs.toList.all Value.oneCell' with
   | false=>trivial
   | true =>
    rw[DD]at hall;refine⟨vs,rfl,by simp,fun j hj=> ?_⟩;have hj':j<vs.size:=by simpa using hj
    have e1:vs.getD j undef=vs[j]:=by rw[Dq,D7 hj'];rfl
    have e2:(vs.toList.map O6).getD j .undef=O6 vs[j]:=by simp [Dj,hj']
    rw[e1,e2];exact(cell _).2 (hall _ (by simp))
  .exact(cell v).1
 | global g =>
  show J7 O st.Jp m w (.pointer (some ⟨g,0,none⟩)) (Au5 (AaG g));cases hg:AaG g with
  | none=>trivial
  | some q =>
   obtain⟨k,ns⟩:=q;refine⟨g,0,rfl,fun j hj=> ?_⟩;have hj:j<ns.length:=by simpa using hj
   obtain⟨h1,v,h2,h3⟩:=hS.eH.1 g j _ (by rw[AvV hg];exact Dp hj);rw[DV];refine⟨h1,v,h2,?_⟩;have e:(ns.map (A.int k)).getD j .undef= .int k (ns.getD j 0):=by simp [Dj,hj]
   rw[e,h3];exact .int _ _
 | func f=>exact J3.fn f
def Moves.push {O:Own} {T:Nat->Prop} {w:World} (x:Go.Obj):Moves O T w (w.alloc x) :=
 ⟨rfl,rfl,rfl,by show _<=(w.heap.push x).size;simp,fun b hb=>.inl (heap_alloc_old w x hb)⟩
def qP (w:World) (x:Go.Obj):(w.alloc x).heap[w.heap.size]? =some x:=by show(w.heap.push x)[_]? =_;simp
def Moves.drew (O:Own) (T:Nat->Prop) (w:World):Moves O T w w.drew:=⟨rfl,rfl,rfl,DN _,fun _ _=>.inl rfl⟩
def Moves.then {O:Own} {T:Nat->Prop} {w w' w'':World} (h:Moves O T w w') (h':Moves O T w' w''):Moves O T w w'':=by
 refine⟨h'.os.trans h.os,h'.tape.trans h.tape,h'.output.trans h.output,He h.size h'.size,fun b hb=> ?_⟩;have hb':b<w'.heap.size:=F8 hb h.size;rcases h'.blk b hb' with he' | ⟨c,c',e,fr,h1,h2,h3,h4,h5⟩ | ⟨es,ck,es',ck',o,h1,h2,h3,h4⟩
 .rcases h.blk b hb with he | ⟨d,d',e,fr,h1,h2,h3,h4,h5⟩ | ⟨es,ck,es',ck',o,h1,h2,h3,h4⟩
  .exact .inl (he'.trans he)
  .exact .inr (.inl ⟨d,d',e,fr,h1,he'.trans h2,h3,h4,h5⟩)
  .simp_all[Own]
 .rcases h.blk b hb with he | ⟨d,d',e',fr',g1,g2,g3,g4,g5⟩ | ⟨es,ck,es',ck',o,g1,g2,g3,g4⟩
  .exact .inr (.inl ⟨c,c',e,fr,he▸h1,h2,h3,h4,h5⟩)
  .rw[g2]at h1;injection h1 with h1;injection h1 with q1 q2 q3;subst q1;subst q2;subst q3;exact .inr (.inl ⟨d,c',e',fr',g1,h2,h3.trans g3,fun i hi=>by rw[h4 i hi,g4 i hi],g5⟩)
  .simp_all[Own]
 .rcases h.blk b hb with he | ⟨d,d',e',fr',g1,g2,g3,g4,g5⟩ | ⟨es1,ck1,es1',ck1',o1,g1,g2,g3,g4⟩
  .exact .inr (.inr ⟨es,ck,es',ck',o,he▸h1,h2,h3,h4⟩)
  all_goals simp_all[Own]
def Moves.row {O:Own} {T:Nat->Prop} {w w':World} {g:Nat} {c c':Array Value} {e:TypeId} {fr:Nat×Nat} (hos:w'.os=w.os) (ht:w'.tape=w.tape) (hout:w'.output=w.output) (hs:w'.heap.size=w.heap.size)
 (hg:w.heap[g]? =some (.cells c e fr)) (hg':w'.heap[g]? =some (.cells c' e fr)) (hoth: ∀ b,b≠g->w'.heap[b]? =w.heap[b]?) (hsz:c'.size=c.size) (hk: ∀ k,(∀ o,O g k=some o-> ¬ T o)->c'[k]? =c[k]?)
 (hex:(∃ k o,k<c.size/\O g k=some o/\T o)\/c'=c):Moves O T w w':=by
 refine⟨hos,ht,hout,by omega,fun b _=> ?_⟩;by_cases hb:b=g
 .subst hb;rcases hex with hex | hex
  .exact .inr (.inl ⟨c,c',e,fr,hg,hg',hsz,hk,hex⟩)
  .subst hex;exact .inl (hg'.trans hg.symm)
 .exact .inl (hoth b hb)
def Moves.map {O:Own} {T:Nat->Prop} {w w':World} {r:Nat} {es es':Array MapEntry} {ck ck':Nat} (hos:w'.os=w.os) (ht:w'.tape=w.tape) (hout:w'.output=w.output) (hs:w'.heap.size=w.heap.size)
 (hg:w.heap[r]? =some (.map es ck)) (hg':w'.heap[r]? =some (.map es' ck')) (hoth: ∀ b,b≠r->w'.heap[b]? =w.heap[b]?) {o:Nat} (ho:O r 0=some o) (hT:T o):Moves O T w w':=by
 refine⟨hos,ht,hout,by omega,fun b _=> ?_⟩;by_cases hb:b=r
 .simp_all[Own,hs]
 .exact .inl (hoth b hb)
def AlR (w:World) (b k:Nat) (v:Value) {c:Array Value} {e:TypeId} {fr:Nat×Nat} (hg:w.heap[b]? =some (.cells c e fr)) :
 (w.setCell (at' b k) v).heap[b]? =some (.cells (c.setIfInBounds k v) e fr)/\(∀ b',b'≠b->(w.setCell (at' b k) v).heap[b']? =w.heap[b']?)/\(w.setCell (at' b k) v).heap.size=w.heap.size:=by
 refine⟨?_,fun b' hb=> ?_,by simp [World.setCell]⟩
 .simp [World.setCell,GI,hg]
 .simp only[World.setCell,GI];rw[Dk (fun h=>hb h.symm)]
def ZP (b:Nat): ∀(vs:List Value) (k:Nat) (w:World) {c:Array Value} {e:TypeId} {fr:Nat×Nat},w.heap[b]? =some (.cells c e fr)->k+vs.length<=c.size ->
 ∃ c',(w.setCells b k vs).heap[b]? =some (.cells c' e fr)/\c'.size=c.size/\(∀ i,c'.getD i undef=if k<=i/\i<k+vs.length then vs.getD (i - k) undef else c.getD i undef) /\
  (∀ b',b'≠b->(w.setCells b k vs).heap[b']? =w.heap[b']?)/\(w.setCells b k vs).heap.size=w.heap.size/\(w.setCells b k vs).os=w.os/\(w.setCells b k vs).tape=w.tape/\(w.setCells b k vs).output=w.output:=by
 intro vs
 induction vs with
 | nil=>intro k w c e fr hg _;exact⟨c,hg,rfl,fun i=>by rw[Dk (by simp)],fun _ _=>rfl,rfl,rfl,rfl,rfl⟩
 | cons v vs ih =>
  intro k w c e fr hg hle;simp only[List.length_cons]at hle;obtain⟨h1,h2,h3⟩:=AlR w b k v hg;obtain⟨c',h4,h5,h6,h7,h8,h9,h10,h11⟩:=ih (k+1) (w.setCell (at' b k) v) h1 (by simp;omega);refine⟨c',h4,by rw[h5];simp,fun i=> ?_,fun b' hb=>(h7 b' hb).trans (h2 b' hb),h8.trans h3,h9,h10,h11⟩;rw[h6 i];simp only[List.length_cons];by_cases hi:k+1<=i/\i<k+1+vs.length
  .rw[Dp hi,AyA,show i - k=(i - (k+1))+1 from by omega];rfl
  .rw[Dk hi];by_cases hk:i=k
   .subst hk;rw[AyA,Dq,Ff,Dp rfl,AyA];simp
   .rw[Ay9,Dq,Ff,Ay9,<- Dq]
def aO: ∀(ks:List CK) (cs:List A) (id:Nat),(KW id ks cs).1.length=cs.length /\
 (∀ j,j<cs.length->(KW id ks cs).1.getD j .undef=cs.getD j .undef\/(cs.getD j .undef= .La/\(KW id ks cs).1.getD j .undef= .own (id+j)/\ ∃ e sz,(id+j,Obj.arr e false ⟨sz,[]⟩)∈(KW id ks cs).2)) /\
 (∀ p∈(KW id ks cs).2,(∃ e sz,p.2= .arr e false ⟨sz,[]⟩)/\ ∃ j,j<cs.length/\p.1=id+j):=by
 intro ks
 induction ks with
 | nil=>grind[KW]
 | cons k ks ih =>
  intro cs id;cases cs with
  | nil=>grind[KW]
  | cons c cs =>
   obtain⟨h1,h2,h3⟩:=ih cs (id+1)
   have other:KW id (k::ks) (c::cs)=(c::(KW (id+1) ks cs).1,(KW (id+1) ks cs).2) ->
    (KW id (k::ks) (c::cs)).1.length=(c::cs).length /\
    (∀ j,j<(c::cs).length->(KW id (k::ks) (c::cs)).1.getD j .undef=(c::cs).getD j .undef\/((c::cs).getD j .undef= .La/\(KW id (k::ks) (c::cs)).1.getD j .undef= .own (id+j)/\ ∃ e sz,(id+j,Obj.arr e false ⟨sz,[]⟩)∈(KW id (k::ks) (c::cs)).2)) /\
    (∀ p∈(KW id (k::ks) (c::cs)).2,(∃ e sz,p.2= .arr e false ⟨sz,[]⟩)/\ ∃ j,j<(c::cs).length/\p.1=id+j):=by
    intro he;rw[he];refine⟨by simp [h1],fun j hj=> ?_,fun p hp=> ?_⟩
    .cases j with
     | zero=>exact .inl rfl
     | succ j=>grind[CK,KW]
    .obtain⟨ha,j,hj,hb⟩:=h3 p hp;exact⟨ha,j+1,by simpa using hj,by omega⟩
   by_cases hc:c= .La/\ ∃ e sz,k= .sl e sz
   .obtain⟨hc,e,sz,hk⟩:=hc;subst hc;subst hk;have he:KW id (.sl e sz::ks) (.La::cs)=(.own id::(KW (id+1) ks cs).1,(id,.arr e false ⟨sz,[]⟩)::(KW (id+1) ks cs).2):=rfl;rw[he];refine⟨by simp [h1],fun j hj=> ?_,fun p hp=> ?_⟩
    .cases j with
     | zero=>grind[CK,KW]
     | succ j=>grind[CK,KW]
    .rcases D6.1 hp with rfl | hp
     .grind[CK,KW]
     .obtain⟨ha,j,hj,hb⟩:=h3 p hp;exact⟨ha,j+1,by simpa using hj,by omega⟩
   .refine other ?_;cases k<;>cases c<;>first | rfl | exact absurd ⟨rfl,_,_,rfl⟩ hc
def OL {l:List Nat} {n:Nat}:has l n=true↔n∈l:=by simp_all[has]
def ApB: ∀ {l:List (Nat×Obj)},nodup (l.map (·.1))=true-> ∀ {n x y},(n,x)∈l->(n,y)∈l->x=y:=by
 intro l
 induction l with
 | nil=>intro _ n x y h;cases h
 | cons p l ih =>
  intro h n x y hx hy;simp only[Em,nodup,Du,EY]at h;have hno: ∀ z,(p.1,z)∉l:=by intro z hz;have:has (l.map (·.1)) p.1=true:=OL.2 (DF.2 ⟨_,hz,rfl⟩);rw[this]at h;cases h.1
  all_goals grind[Obj,nodup]
def Xf {Jp:List (Nat×Obj)} {upd new:List (Nat×Obj)} {del:List Nat} {o:Nat} {x:Obj} (h:Jy (JD (Ky (JD Jp upd) del) new) o=some x) :
 (o,x)∈new\/((∀ y,(o,y)∉new)/\o∉del/\((o,x)∈upd\/((∀ y,(o,y)∉upd)/\Jy Jp o=some x))):=by
 by_cases hn: ∃ p∈new,p.1=o
 .obtain⟨y,hy,he⟩:=Nl new (Ky (JD Jp upd) del) o hn;rw[he]at h;injection h with h;subst h;exact .inl hy
 .have hn': ∀ y,(o,y)∉new:=fun y hy=>hn ⟨_,hy,rfl⟩;rw[LJ _ _ _ (fun p hp e=>hn ⟨p,hp,e⟩),Ub]at h;by_cases hd:o∈del
  .rw[Dp hd]at h;cases h
  .rw[Dk hd]at h;refine .inr ⟨hn',hd,?_⟩;by_cases hu: ∃ p∈upd,p.1=o
   .obtain⟨y,hy,he⟩:=Nl upd Jp o hu;rw[he]at h;injection h with h;subst h;exact .inl hy
   .grind[LJ]
def oW {Jp:List (Nat×Obj)} {upd new:List (Nat×Obj)} {del:List Nat} (hnd:nodup (new.map (·.1))=true) {o:Nat} {x:Obj} (h:(o,x)∈new):Jy (JD (Ky (JD Jp upd) del) new) o=some x:=by obtain⟨y,hy,he⟩:=Nl new (Ky (JD Jp upd) del) o ⟨_,h,rfl⟩;rw[he,ApB hnd h hy]
section
variable {P:Program} {C:Ctx} {V0:Nat->Value} {O0 O:Own} {w0 w:World} {m:Nat->Value} {st:St} {a:Act} {o:Oper}
def JC.La {Jp:List (Nat×Obj)} {v:Value} (h:JC O Jp m w v .La):v= .slice none 0 0:=h
def QJ.AnF {O':Own} {w':World} {objs':List (Nat×Obj)} {m':Nat->Value} {vs:Array Value} {cs:List A} {ks:List CK} {id:Nat} {Nw:Nat->Prop} (h:QJ O st.Jp m w vs cs) (hp:MS O w O' w') (hE:Q9 st.Jp m objs' m' Nw)
 (hN: ∀ j,j<cs.length-> ∀ i∈(cs.getD j .undef).MP,¬ Nw i) (hnew: ∀ p∈(KW id ks cs).2,Jy objs' p.1=some p.2/\m' p.1= .slice none 0 0):QJ O' objs' m' w' vs (KW id ks cs).1:=by
 obtain⟨h1,h2,_⟩:=aO ks cs id;refine⟨by rw[h1];exact h.1,fun j hj=> ?_⟩;rw[h1]at hj;rcases h2 j hj with he | ⟨hn,he,e,sz,hm⟩
 .rw[he];exact(h.2 j hj).step hp hE (hN j hj)
 .have:=h.2 j hj;rw[hn]at this;have hv:=this.La;rw[he,hv];obtain⟨g1,g2⟩:=hnew _ hm;dsimp only at g1 g2;refine⟨rfl,?_⟩;rw[g1];exact g2.symm
theorem wZ {x:A} (hv:x.isVal=true) {j:Nat} (hj:j<x.cells.length) {i:Nat} (hi:i∈(x.cells.getD j .undef).MP):i∈x.ids:=by
 cases x with
 | agg cs=>exact Tu (f:=A.MP) hj hi
 | undef=>cases hv
 | tup _=>cases hv
 | usl _ _ _=>cases hv
 | ump _=>cases hv
 | box _=>cases hv
 | cbx _ _=>cases hv
 | cnd _ _=>cases hv
 | _ =>
  have:j=0:=by simpa [A.cells]using hj
  subst this;exact hi
def Ahh {vs:Array Value} {cs:List A} {ks:List CK} {t:Nat} {r:Value} {y:A} {okl:List Bool} (hS:Sim V0 O0 w0 O m st a w) (hcs:QJ O st.Jp m w vs cs) (hids: ∀ j,j<cs.length-> ∀ i∈(cs.getD j .undef).MP,i∈st.ids\/(Jy st.Jp i).isSome) {d:Nat} (hd:o.dst=some d)
 (hr:(execOp a.eval o).run P w= .ok (.value r) (w.alloc (.cells vs t)))
 (hy: ∀(O':Own) (objs':List (Nat×Obj)) (m':Nat->Value) (w':World) (c:List A),Jy objs' (b2 d)=some (.box c)->m' (b2 d)= .pointer (some (at' w.heap.size 0))->J7 O' objs' m' w' r y)
 (hfr: ∀ p∈(b2 d,Obj.box (KW (b2 d+1) ks cs).1)::(KW (b2 d+1) ks cs).2,st.fresh p.1=true) (hnd:nodup (((b2 d,Obj.box (KW (b2 d+1) ks cs).1)::(KW (b2 d+1) ks cs).2).map (·.1))=true) :
 Good P V0 O0 w0 (apply st o {ok:=okl,val:=y,new:=(b2 d,.box (KW (b2 d+1) ks cs).1)::(KW (b2 d+1) ks cs).2}) o a w:=by
 intro next Q hn
 unfold Oper.wp;rw[hr,Oper.upon_value];let ad:=KW (b2 d+1) ks cs;let m':Nat->Value:=fun i=>if i=b2 d then .pointer (some (at' w.heap.size 0))else if has (ad.2.map (·.1)) i then .slice none 0 0 else m i;let O':Own:=fun b k=>if b=w.heap.size then some (b2 d)else O b k;let Nw:Nat->Prop:=fun i=> ∃ p∈((b2 d,Obj.box ad.1)::ad.2),p.1=i;have hNw: ∀ i,Nw i->Pj st i:=by rintro i ⟨p,hp,rfl⟩;exact MV (hfr p hp)
 refine hn O' m' _ _ ?_;have hobjs:(apply st o {ok:=okl,val:=y,new:=(b2 d,.box ad.1)::ad.2}).Jp=JD (Ky (JD st.Jp []) []) ((b2 d,.box ad.1)::ad.2):=rfl;have hnewO: ∀ p∈((b2 d,Obj.box ad.1)::ad.2),Jy (JD (Ky (JD st.Jp []) []) ((b2 d,.box ad.1)::ad.2)) p.1=some p.2:=fun p hp=>oW hnd (by exact hp);have hb2:has (ad.2.map (·.1)) (b2 d)=false:=by simp only[Em,nodup,Du,EY]at hnd;exact hnd.1
 have hmad: ∀ p∈ad.2,m' p.1= .slice none 0 0:=by
  intro p hp;have h3:has (ad.2.map (·.1)) p.1=true:=OL.2 (DF.2 ⟨p,hp,rfl⟩);have h4:p.1≠b2 d:=fun e=>by rw[e,hb2]at h3;cases h3
  show(if p.1=b2 d then _ else _)=_;rw[Dk h4,Dp h3]
 have hE:Q9 st.Jp m (JD (Ky (JD st.Jp []) []) ((b2 d,.box ad.1)::ad.2)) m' Nw:=by
  intro i y hy;rcases Xf hy with hy' | ⟨hno,_,hy' | ⟨_,hy'⟩⟩
  .exact .inl ⟨_,hy',rfl⟩
  .cases hy'
  .refine .inr ⟨y,hy',rfl,?_⟩;have h3:i≠b2 d:=fun e=>hno (.box ad.1) (by rw[e];exact Dv)
   have h4:has (ad.2.map (·.1)) i=false:=by
    cases hh:has (ad.2.map (·.1)) i with
    | false=>rfl
    | true =>obtain⟨p,hp,hpe⟩:=DF.1 (OL.1 hh);exact absurd (Dw _ (by rw[<- hpe];exact hp)) (hno p.2)
   show(if i=b2 d then _ else _)=_;rw[Dk h3,h4];rfl
 have hM:Moves O (fun _=>False) w (w.alloc (.cells vs t)):=Moves.push _;have hP:Passes O O' (fun _=>False) w.heap.size:=⟨fun b k hb h=>by show(if b=_ then _ else _)=_;rw[Dk (Ib hb)];exact h,fun b k q hb h _=>by show(if b=_ then _ else _)=_;rw[Dk (Ib hb)];exact h⟩
 have hpr:=hM.JW hP;have hnewblk: ∀ k,(w.alloc (.cells vs t)).cell? (at' w.heap.size k)=vs[k]? :=by intro k;exact World.cell?_alloc_at vs t _ _ rfl
 refine hS.next (T:=fun _=>False) (Nw:=Nw) hM hP (fun b k hb h=> ?_) hE (fun n hn'=>(hNw n hn').both) (fun _ h=>h.elim) (fun q y hy=> ?_) rfl (fun _=> ?_)
 .have:O' b k=O b k:=Dk (Ib hb);rw[this]at h;exact h
 .rcases Xf hy with hy' | ⟨hno,_,hy' | ⟨_,hy'⟩⟩
  .right;rcases D6.1 hy' with e | hy'
   .injection e with e1 e2;subst e1;subst e2;refine⟨⟨w.heap.size,0,Dp rfl,fun j hj=> ?_⟩,(hNw _ ⟨_,Dv,rfl⟩).ne⟩
    have hcs':QJ O' _ m' _ vs ad.1:=hcs.AnF (ks:=ks) (id:=b2 d+1) hpr hE (fun j hj i hi hn'=>by
     rcases hids j hj i hi with hh | hh
     .exact(hNw i hn').1 hh
     .rw[(hNw i hn').2]at hh;cases hh) (fun p hp=>⟨hnewO p (Dw _ hp),hmad p hp⟩)
    have hjs:j<vs.size:=by rw[hcs'.1];exact hj
    refine⟨Dp rfl,by simp only[World.frozen?,qP];simp,vs.getD j undef,?_,hcs'.2 j hj⟩;rw[hnewblk];simp only[DV];exact getD_eq hjs
   .obtain⟨⟨e,sz,h3⟩,_⟩:=(aO ks cs (b2 d+1)).2.2 _ hy';dsimp only at h3;subst h3;exact⟨⟨by simp [Sl.es],.inl ⟨trivial,rfl,hmad _ hy'⟩⟩,(hNw _ ⟨_,Dw _ hy',rfl⟩).ne⟩
  .cases hy'
  .left;refine⟨id,hy',?_⟩;rcases hE q y hy with hn' | ⟨_,h3,_,h4⟩
   .rw[(hNw q hn').2]at hy';cases hy'
   .exact h4
 .exact hy _ _ _ _ _ (hnewO (b2 d,.box ad.1) Dv) (Dp rfl)
def AjR {t:Nat} {v:Value} {x:A} (hC:TOk P C) (hS:Sim V0 O0 w0 O m st a w) (hx:J7 O st.Jp m w v x) (hids: ∀ i∈x.ids,i∈st.ids\/(Jy st.Jp i).isSome) {d:Nat} (hd:o.dst=some d)
 (hrun: ∀ ti,C.T t=some ti->x.isVal=true->v.cells.size=ti.cs.length->(execOp a.eval o).run P w= .ok (.value (.pointer (some (at' w.heap.size 0)))) (w.alloc (.cells v.cells t)))
 (hok:J5 (Wq C d t x).ok) (hfr: ∀ p∈(Wq C d t x).new,st.fresh p.1=true) (hnd:nodup ((Wq C d t x).new.map (·.1))=true):Good P V0 O0 w0 (apply st o (Wq C d t x)) o a w:=by
 unfold Wq at *
 obtain⟨ti,ht,he⟩:=Ku hok;rw[he]at hok hfr hnd ⊢;clear he;obtain⟨h1,h2⟩:=hok.cons;have h2:=Dy h2.cons.1;have hcs:=hx.cells h1;refine Ahh (ks:=adK C d ti) hS hcs (fun j hj i hi=>hids i (wZ h1 hj hi)) hd (hrun ti ht h1 (by rw[hcs.1,h2])) (fun O' objs' m' w' c hc hm=> ?_) hfr hnd;show JC O' objs' m' w' _ (.ptr (b2 d) 0);refine⟨rfl,?_⟩;rw[hc];exact⟨w.heap.size,0,hm,rfl⟩
end
open Classical
section
variable {P:Program} {C:Ctx} {V0:Nat->Value} {O0 O:Own} {w0 w:World} {m:Nat->Value} {st:St} {a:Act} {o:Oper}
def Sim.nD (hS:Sim V0 O0 w0 O m st a w) {q e:Nat} {f:Bool} {l:Sl} (hq:Jy st.Jp q=some (.arr e f l)) :
 ∃ O',Sim V0 O0 w0 O' m {st with Jp:=Lj st.Jp q (.arr e true l)} a w/\MS O w O' w/\(∀ b k,O' b k≠none->O b k≠none)/\J3 O' w (m q) (.sl l)/\ ∀ b k r,O b k=some r->r≠q->O' b k=some r:=by
 obtain⟨hsz,hr⟩:=hS.Jp q _ hq;let O':Own:=fun b k=>if(∃ n cap,m q= .slice (some (at' b 0)) n cap)/\k<l.es.length*l.sz then none else O b k;have hno: ∀ b k,O b k=none->O' b k=none:=by intro b k h;show(if _ then _ else _)=_;split;rfl;exact h
 have hle: ∀ b k,O' b k≠none->O b k≠none:=by intro b k h h';exact h (hno b k h')
 have hkeep: ∀ b k r,O b k=some r->r≠q->O' b k=some r:=by
  intro b k r h hne;show(if _ then _ else _)=_;rw[Dk ?_]
  .exact h
  .rintro ⟨⟨n,cap,hm⟩,hk⟩;rcases hr with ⟨_,h2,_⟩ | ⟨_,g,cap',cur,h1,_,_,_,_,_,_,h8⟩;all_goals simp_all[Jy,Lj,MS,J3]
 have hp:MS O w O' w:=fun b k u h hc=>⟨hno b k h,hc⟩
 have hE:Q9 st.Jp m (Lj st.Jp q (.arr e true l)) m (fun _=>False):=by
  intro r y hy;rw[KA]at hy;by_cases hrq:r=q
  .subst hrq;rw[Dp rfl]at hy;injection hy with hy;subst hy;exact .inr ⟨_,hq,rfl,rfl⟩
  .rw[Dk hrq]at hy;exact .inr ⟨y,hy,rfl,rfl⟩
 have hO:KT O' (Lj st.Jp q (.arr e true l)) m w q (.arr e true l):=by
  refine⟨hsz,?_⟩;rcases hr with h | ⟨h1,g,cap,cur,h2,h3,h4,h5,h6,h7,h8,h9⟩
  .exact .inl h
  .refine .inr ⟨h1,g,cap,cur,h2,h3,h4,h5,h6,fun i j hi hj=> ?_,fun k hk hge=> ?_,fun k hk=> ?_⟩
   .obtain⟨u,h10,h11⟩:=h7 i j hi hj;exact⟨u,h10,h11.JW hp⟩
   .show(if _ then _ else _)=_;rw[Dk (by rintro ⟨_,h⟩;omega)];exact h8 k hk hge
   .show(if _ then _ else _)=_;rw[Dp ⟨⟨_,_,h2⟩,hk⟩];rfl
 refine⟨O',⟨hS.defers,hS.size,fun t ht=>(hS.tmps t ht).step hp hE (fun _ _ h=>h),fun r y hy=> ?_,hS.frame,fun b k r hb h hne=> ?_,fun r y hy=> ?_,fun b k hb h=>hS.less b k hb (hle b k h),fun o hr ho=>hS.root o hr (by dsimp only at ho;rw[KA]at ho;by_cases hq':o=q;(rw [hq',hq];rfl);(rw [Dk hq']at ho;exact ho)),fun b k hb h=>hkeep b k 255 (hS.kQ b k hb h) (fun e=>hS.ids q _ hq e.symm),hS.inv⟩,hp,hle,?_,hkeep⟩
 .have hy':=hy;rw[KA]at hy;by_cases hrq:r=q
  .subst hrq;rw[Dp rfl]at hy;injection hy with hy;subst hy;exact hO
  .rw[Dk hrq]at hy;exact(hS.Jp r y hy).step (T:=fun i=>i=q) (Moves.refl O _ w) ⟨fun b k _ h=>hno b k h,fun b k r' _ h hT=>hkeep b k r' h hT⟩ hE hrq rfl (fun _ _ h=>h)
 .have h':(if(∃ n cap,m q= .slice (some (at' b 0)) n cap)/\k<l.es.length*l.sz then none else O b k)=some r:=h;split at h'
  .cases h'
  .exact hS.own b k r hb h' hne
 .rw[KA]at hy;by_cases hrq:r=q
  .rw[hrq];exact hS.ids q _ hq
  .rw[Dk hrq]at hy;exact hS.ids r y hy
 .rcases hr with ⟨h1,h2,h3⟩ | ⟨h1,g,cap,cur,h2,h3,h4,h5,h6,h7,h8,h9⟩
  .rw[h3];exact J3.ofNil h2
  .rw[h2];have hv: ∀ i j,i<l.es.length->j<l.sz-> ∃ u,cur[i*l.sz+j]? =some u/\J3 O w u ((l.es.getD i []).getD j .undef):=h7;refine J3.sl (fun i j=>(cur[i*l.sz+j]?).getD undef) h4 (fun i j hi hj=> ?_) (fun i j hi hj=> ?_)
   .obtain⟨u,h10,_⟩:=hv i j hi hj;refine⟨?_,by rw[DV,h3.cell,h10];rfl⟩;show(if _ then _ else _)=_;rw[Dp];refine⟨⟨_,_,h2⟩,?_⟩;have:(i+1)*l.sz<=l.es.length*l.sz:=Ea _ hi;rw[E8]at this;omega
   .obtain⟨u,h10,h11⟩:=hv i j hi hj;rw[h10];exact h11.JW hp
def KT.frozen {Jp:List (Nat×Obj)} {q e:Nat} {l:Sl} (h:KT O Jp m w q (.arr e true l)):J3 O w (m q) (.sl l):=by
 rcases h.2 with ⟨h1,h2,h3⟩ | ⟨h1,g,cap,cur,h2,h3,h4,h5,h6,h7,h8,h9⟩
 .rw[h3];exact J3.ofNil h2
 .rw[h2];refine J3.sl (fun i j=>(cur[i*l.sz+j]?).getD undef) h4 (fun i j hi hj=> ?_) (fun i j hi hj=> ?_)
  .obtain⟨u,h10,_⟩:=h7 i j hi hj;have:(i+1)*l.sz<=l.es.length*l.sz:=Ea _ hi;rw[E8]at this;refine⟨by have:=h9 (i*l.sz+j) (by omega);simpa using this,by rw[DV,h3.cell,h10];rfl⟩
  .obtain⟨u,h10,h11⟩:=h7 i j hi hj;rw[h10];exact h11
def Frz (Jp:List (Nat×Obj)) (U:List (Nat×Obj)):Prop:= ∀ p∈U,∃ e f l,Jy Jp p.1=some (.arr e f l)/\p.2= .arr e true l
def NR (Jp:List (Nat×Obj)) (q:Nat):Prop:= ∀ e f l,Jy Jp q≠some (.arr e f l)
theorem NR.of {Jp:List (Nat×Obj)} {q:Nat} {x:Obj} (h:Jy Jp q=some x) (hx: ∀ e f l,x≠ .arr e f l):NR Jp q:=by grind[Obj,Jy,NR]
def Sim.freezes: ∀(U:List (Nat×Obj)) {O:Own} {st:St},Sim V0 O0 w0 O m st a w->Frz st.Jp U ->
 ∃ O',Sim V0 O0 w0 O' m {st with Jp:=JD st.Jp U} a w/\MS O w O' w/\(∀ b k,O' b k≠none->O b k≠none)/\(∀ p∈U,∀ e l,p.2= .arr e true l->J3 O' w (m p.1) (.sl l)) /\
  Q9 st.Jp m (JD st.Jp U) m (fun _=>False)/\ ∀ b k r,O b k=some r->(NR st.Jp r\/U=[])->O' b k=some r:=by
 intro U
 induction U with
 | nil=>intro O st hS _;exact⟨O,hS,fun _ _ _ h hc=>⟨h,hc⟩,fun _ _ h=>h,(fun p hp=>by cases hp),(fun o y hy=>.inr ⟨y,hy,rfl,rfl⟩),fun _ _ _ h _=>h⟩
 | cons p U ih =>
  intro O st hS hU;obtain⟨q,y⟩:=p;obtain⟨e,f,l,h1,h2⟩:=hU (q,y) Dv;dsimp only at h1 h2;subst h2;obtain⟨O1,hS1,hp1,hle1,hv1,hk1⟩:=hS.nD h1
  obtain⟨O2,hS2,hp2,hle2,hv2,hE2,hk2⟩:=ih hS1 (fun p hp=>by
   obtain⟨e',f',l',h3,h4⟩:=hU p (Dw _ hp);by_cases hq:p.1=q
   .refine⟨e',true,l',?_,h4⟩;rw[KA,Dp hq];rw[hq,h1]at h3;injection h3 with h3;injection h3 with q1 q2 q3;subst q1;subst q3;rfl
   .exact⟨e',f',l',by rw[KA,Dk hq];exact h3,h4⟩)
  refine⟨O2,hS2,fun b k u h hc=>hp2 b k u (hp1 b k u h hc).1 hc,fun b k h=>hle1 b k (hle2 b k h),fun p hp e' l' he=> ?_,fun r y hy=> ?_,fun b k r h hb=> ?_⟩
  .rcases D6.1 hp with rfl | hp
   .injection he with q1 _ q3;subst q1;subst q3;exact hv1.JW hp2
   .exact hv2 p hp _ _ he
  .rcases hE2 r y hy with h | ⟨z,h3,h4,_⟩
   .exact h.elim
   .right;dsimp only at h3;rw[KA]at h3;by_cases hr:r=q
    .subst hr;rw[Dp rfl]at h3;injection h3 with h3;subst h3;exact⟨_,h1,h4,rfl⟩
    .rw[Dk hr]at h3;exact⟨z,h3,h4,rfl⟩
  .have hb:=hb.resolve_right (by simp);have hrq:r≠q:=fun h=>hb _ _ _ (by rw[h];exact h1);exact hk2 b k r (hk1 b k r h hrq) (.inl fun e' f' l'=>by dsimp only;rw[KA,Dk hrq];exact hb e' f' l')
theorem AcT {l:List (Nat×Obj)} {n:Nat} {p:Nat×Obj} (h:p∈Sj l n):p∈l:=by
 induction l with
 | nil=>cases h
 | cons q r ih=>grind[wM]
def Alc {l:List (Nat×Obj)} {n:Nat} {y:Obj} {p:Nat×Obj} (h:p∈Z7 l n y):p=(n,y)\/p∈l:=by
 induction l with
 | nil=>grind[Z7]
 | cons q r ih=>grind[Z7]
def aZ: ∀(u:List (Nat×Obj)) {l:List (Nat×Obj)} {p:Nat×Obj},p∈JD l u->p∈u\/p∈l:=by
 intro u
 induction u with
 | nil=>intro l p h;exact .inr h
 | cons q u ih =>
  intro l p h;obtain⟨n,y⟩:=q;rcases ih h with h | h
  .grind[Obj,JD]
  .rcases Alc h with h | h;all_goals grind[AcT]
def Pj.frz {n:Nat} {U:List (Nat×Obj)} (h:Pj st n) (hU:Frz st.Jp U):Pj {st with Jp:=JD st.Jp U} n:=by
 refine⟨fun hm=> ?_,?_,h.ne,h.root⟩
 .rcases DJ.1 hm with h1 | h1
  .exact h.1 (DL _ h1)
  .obtain⟨p,hp,hi⟩:=Ez.1 h1;rcases aZ U hp with hp | hp
   .obtain⟨e,f,l,_,h2⟩:=hU p hp;rw[h2]at hi;cases hi
   .exact h.1 (DI _ (Ez.2 ⟨p,hp,hi⟩))
 .rw[LJ _ _ _ (fun p hp he=> ?_)]
  .exact h.2
  .obtain⟨e,f,l,h1,_⟩:=hU p hp;rw[he,h.2]at h1;cases h1
def Ob (Jp:List (Nat×Obj)) (fet:Fet):Prop:= ∀ q x,Jy fet q=some x->Jy Jp q=some x
def Alv {O:Own} {w:World} {k:CK} {v:Value} {l:Sl} (hok:J5 (Ag8 k l).1) (h:J3 O w v (.sl l)):J3 O w v (Ag8 k l).2:=by
 cases k<;>first
  | exact h
  | (have h0:=hok.cons.1
     exact .sln h fun he=>by simp [he]at h0)
def Auo {O:Own} {w:World} {v:Value} {l:Sl} (k:CK) (h:J3 O w v (.sln l)):J3 O w v (AwJ k l):=by
 cases k<;>first
  | exact h
  | (cases h with
     | sln h _=>exact h)
def Aly {fet:Fet} {k:CK} {c:A} {v:Value} (hf:Ob st.Jp fet) (hc:JC O st.Jp m w v c) (hok:J5 (pur fet k c).1) :
 Frz st.Jp (pur fet k c).2.2/\ ∀ {O':Own},MS O w O' w->(∀ p∈(pur fet k c).2.2,∀ e l,p.2= .arr e true l->J3 O' w (m p.1) (.sl l))->J3 O' w v (pur fet k c).2.1:=by
 have triv:Frz st.Jp []:=fun p hp=>by cases hp
 unfold pur at *
 cases c with
 | own q =>
  dsimp only at hok ⊢;cases hg:Jy fet q with
  | none=>simp_all[Fet,CK,Ob,JC,J5,pur]
  | some x =>
   cases x with
   | box _=>simp_all[Fet,CK,Ob,JC,J5,pur]
   | mp _=>simp_all[Fet,CK,Ob,JC,J5,pur]
   | arr e f l =>
    rw[hg]at hok;dsimp only at hok ⊢;have h1:=hf q _ hg;refine⟨fun p hp=> ?_,fun hp hv=> ?_⟩
    .simp at hp;subst hp;exact⟨e,f,l,h1,rfl⟩
    .have h2:=hc.2;rw[h1]at h2;simp only[Option.map_some,Obj.shp]at h2;rw[h2];exact Alv hok (hv _ Dv e l rfl)
 | La =>
  have hv:=hc.La;cases k with
  | sl e sz=>subst hv;exact⟨triv,fun _ _=>.nil _⟩
  | sln e sz=>subst hv;exact⟨triv,fun _ _=>.sln (.nil _) fun _=>rfl⟩
  | _=>have:=hok false (by simp);cases this
 | bool _=>exact⟨triv,fun hp _=>J3.JW hp hc⟩
 | int _ _=>exact⟨triv,fun hp _=>J3.JW hp hc⟩
 | str _=>exact⟨triv,fun hp _=>J3.JW hp hc⟩
 | sl _=>exact⟨triv,fun hp _=>Alv hok (J3.JW hp hc)⟩
 | sln _=>exact⟨triv,fun hp _=>Auo k (J3.JW hp hc)⟩
 | Lt=>exact⟨triv,fun hp _=>J3.JW hp hc⟩
 | fn _=>exact⟨triv,fun hp _=>J3.JW hp hc⟩
 | _=>have:=hok false (by simp);cases this
def Frz.append {Jp:List (Nat×Obj)} {U V:List (Nat×Obj)} (h:Frz Jp U) (h':Frz Jp V):Frz Jp (U++V):=by grind[Obj,Frz]
def UR {fet:Fet} (hf:Ob st.Jp fet): ∀(ks:List CK) (cs:List A) (f:Nat->Value),(∀ j,j<cs.length->JC O st.Jp m w (f j) (cs.getD j .undef))->J5 (KG fet ks cs).1 ->
 (KG fet ks cs).2.1.length=ks.length/\cs.length=ks.length/\Frz st.Jp (KG fet ks cs).2.2/\ ∀ {O':Own},MS O w O' w->(∀ p∈(KG fet ks cs).2.2,∀ e l,p.2= .arr e true l->J3 O' w (m p.1) (.sl l)) ->
   ∀ j,j<ks.length->J3 O' w (f j) ((KG fet ks cs).2.1.getD j .undef):=by
 intro ks
 induction ks with
 | nil =>
  intro cs f _ hok;cases cs with
  | nil=>simp_all[KG,Fet,Ob,CK,JC,J5,Frz]
  | cons _ _=>have:=hok false (by simp [KG]);cases this
 | cons k ks ih =>
  intro cs f h hok;cases cs with
  | nil=>have:=hok false (by simp [KG]);cases this
  | cons c cs =>
   simp only[KG]at hok ⊢;obtain⟨hok1,hok2⟩:=hok.append;obtain⟨h1,h2⟩:=Aly hf (h 0 (by simp)) hok1;obtain⟨h3,h4,h5,h6⟩:=ih cs (fun j=>f (j+1)) (fun j hj=>by simpa using h (j+1) (by simpa using hj)) hok2;refine⟨by simp [h3],by simp [h4],h1.append h5,fun hp hv j hj=> ?_⟩;cases j with
   | zero=>exact h2 hp (fun p hp=>hv p (DL _ hp))
   | succ j=>simpa using h6 hp (fun p hp=>hv p (DI _ hp)) j (by simpa using hj)
end
section
variable {P:Program} {C:Ctx} {V0:Nat->Value} {O0 O:Own} {w0 w:World} {m:Nat->Value} {st:St} {a:Act} {o:Oper}
def Held (O:Own) (w:World) (cur:Array Value) (sz:Nat) (es:List (List A)):Prop :=
 (∀ x∈es,x.length=sz)/\ ∀ i j,i<es.length->j<sz-> ∃ u,cur[i*sz+j]? =some u/\J3 O w u ((es.getD i []).getD j .undef)
def Ace (hS:Sim V0 O0 w0 O m st a w) {w2:World} (hM:Moves O (fun _=>False) w w2) {d:Tmp} {e cap:Nat} {frz:Bool} {l:Sl} {cur:Array Value} {del:List Nat} (hnew:Nk w2 w.heap.size cur e)
 (hcap:l.es.length<=cap) (hmax:cap<=maxLen) (hcur:cur.size=cap*l.sz) (hh:Held O w cur l.sz l.es) (hfresh:Pj st (b2 d)) :
 ∃ O' m',Sim V0 O0 w0 O' m' {tmps:=st.tmps.set d (.own (b2 d)),Jp:=JD (Ky st.Jp del) [(b2 d,.arr e frz l)]} (a.put (some d) (.slice (some (at' w.heap.size 0)) l.es.length cap)) w2:=by
 let id:=b2 d;let O':Own:=fun b k=>if b=w.heap.size then(if frz=true/\k<l.es.length*l.sz then none else some id)else O b k;let m':Nat->Value:=fun i=>if i=id then .slice (some (at' w.heap.size 0)) l.es.length cap else m i;have hlt: ∀ {b k},b<w.heap.size->O' b k=O b k:=fun hb=>Dk (Ib hb);have hP:Passes O O' (fun _=>False) w.heap.size:=⟨fun b k hb h=>by rw[hlt hb];exact h,fun b k q hb h _=>by rw[hlt hb];exact h⟩
 have hpr:=hM.JW hP
 have hget: ∀ i y,Jy (JD (Ky st.Jp del) [(id,.arr e frz l)]) i=some y->(i=id/\y= .arr e frz l)\/(i≠id/\Jy st.Jp i=some y):=by
  intro i y hy;simp only[JD]at hy;rw[KA]at hy;by_cases hi:i=id
  .rw[Dp hi]at hy;injection hy with hy;exact .inl ⟨hi,hy.symm⟩
  .rw[Dk hi,Ub]at hy;split at hy
   .cases hy
   .exact .inr ⟨hi,hy⟩
 have hE:Q9 st.Jp m (JD (Ky st.Jp del) [(id,.arr e frz l)]) m' (fun i=>i=id):=by
  intro i y hy;rcases hget i y hy with ⟨h1,_⟩ | ⟨h1,h2⟩
  .exact .inl h1
  .exact .inr ⟨y,h2,rfl,Dk h1⟩
 refine⟨O',m',hS.next (st':= {tmps:=st.tmps.set d (.own (b2 d)),Jp:=JD (Ky st.Jp del) [(id,.arr e frz l)]}) (x:=.own id) (T:=fun _=>False) (Nw:=fun i=>i=id) hM hP (fun b k hb h=>by rw[hlt hb]at h;exact h) hE (fun n hn=>by rw[hn];exact hfresh.both) (fun _ h=>h.elim) (fun i y hy=> ?_) rfl (fun _=> ?_)⟩
 .rcases hget i y hy with ⟨h1,h2⟩ | ⟨h1,h2⟩
  .right;subst h1;subst h2;refine⟨⟨hh.1,.inr ⟨trivial,w.heap.size,cap,cur,Dp rfl,hnew,hcap,hmax,hcur,fun i j hi hj=> ?_,fun k hk hge=> ?_,fun k hk=> ?_⟩⟩,hfresh.ne⟩
   .obtain⟨u,h3,h4⟩:=hh.2 i j hi hj;exact⟨u,h3,h4.JW hpr⟩
   .show(if _ then(if _ then _ else _)else _)=_;rw[Dp rfl,Ay9]
   .show(if _ then(if _ then _ else _)else _)=_;rw[Dp rfl];cases frz
    .simp
    .simp [hk]
  .exact .inl ⟨fun h=>h,h2,Dk h1⟩
 .refine⟨rfl,?_⟩;all_goals grind[Jy,JD,Ky,KA,Obj.shp]
def X9 (hS:Sim V0 O0 w0 O m st a w) {w1:World} (hM1:Moves O (fun _=>False) w w1) (hsz1:w1.heap.size=w.heap.size) {d:Tmp} {e cap:Nat} {frz:Bool} {l:Sl} {cur:Array Value} {del:List Nat}
 (hcap:l.es.length<=cap) (hmax:cap<=maxLen) (hcur:cur.size=cap*l.sz) (hh:Held O w cur l.sz l.es) (hfresh:Pj st (b2 d)) :
 ∃ O' m',Sim V0 O0 w0 O' m' {tmps:=st.tmps.set d (.own (b2 d)),Jp:=JD (Ky st.Jp del) [(b2 d,.arr e frz l)]} (a.put (some d) (.slice (some (at' w.heap.size 0)) l.es.length cap)) (w1.alloc (.cells cur e)):=by
 exact Ace hS (hM1.then (by rw[<- hsz1]at *;exact Moves.push _)) ⟨_,by rw[<- hsz1];exact qP _ _,.inl rfl⟩ hcap hmax hcur hh hfresh
def rD (hS:Sim V0 O0 w0 O m st a w) {d:Tmp} {e:Nat} {frz:Bool} {t:Ty} {del:List Nat} {id:Nat} (hfresh:Pj st id) :
 ∃ O' m',Sim V0 O0 w0 O' m' {tmps:=st.tmps.set d (.own id),Jp:=JD (Ky st.Jp del) [(id,.arr e frz ⟨t,[]⟩)]} (a.put (some d) (.slice none 0 0)) w:=by
 let m':Nat->Value:=fun i=>if i=id then .slice none 0 0 else m i
 have hget: ∀ i y,Jy (JD (Ky st.Jp del) [(id,.arr e frz ⟨t,[]⟩)]) i=some y->(i=id/\y= .arr e frz ⟨t,[]⟩)\/(i≠id/\Jy st.Jp i=some y):=by
  intro i y hy;simp only[JD]at hy;rw[KA]at hy;by_cases hi:i=id
  .rw[Dp hi]at hy;injection hy with hy;exact .inl ⟨hi,hy.symm⟩
  .rw[Dk hi,Ub]at hy;split at hy
   .cases hy
   .exact .inr ⟨hi,hy⟩
 have hE:Q9 st.Jp m (JD (Ky st.Jp del) [(id,.arr e frz ⟨t,[]⟩)]) m' (fun i=>i=id):=by
  intro i y hy;rcases hget i y hy with ⟨h1,_⟩ | ⟨h1,h2⟩
  .exact .inl h1
  .exact .inr ⟨y,h2,rfl,Dk h1⟩
 refine⟨O,m',hS.next (st':= {tmps:=st.tmps.set d (.own id),Jp:=JD (Ky st.Jp del) [(id,.arr e frz ⟨t,[]⟩)]}) (x:=.own id) (T:=fun _=>False) (Nw:=fun i=>i=id) (Moves.refl _ _ _) ⟨fun _ _ _ h=>h,fun _ _ _ _ h _=>h⟩ (fun b k hb h=>h) hE (fun n hn=>by rw[hn];exact hfresh.both) (fun _ h=>h.elim) (fun i y hy=> ?_) rfl (fun _=> ?_)⟩
 .rcases hget i y hy with ⟨h1,h2⟩ | ⟨h1,h2⟩
  .right;subst h1;subst h2;exact⟨⟨by simp [Sl.es],.inl ⟨trivial,rfl,Dp rfl⟩⟩,hfresh.ne⟩
  .exact .inl ⟨fun h=>h,h2,Dk h1⟩
 .refine⟨rfl,?_⟩;all_goals grind[Jy,JD,Ky,KA,Obj.shp]
def AmG (hS:Sim V0 O0 w0 O m st a w) {d:Tmp} {q e cap g:Nat} {frz:Bool} {l l':Sl} {ns:List (List A)} {cur:Array Value} {news:List Value}
 (hq:Jy st.Jp q=some (.arr e frz l)) (hm:m q= .slice (some (at' g 0)) l.es.length cap) (hg:Nk w g cur e) (hcap:l.es.length+ns.length<=cap) (hle:l'.es=l.es++ns) (hls:l'.sz=l.sz)
 (hl:news.length=ns.length*l.sz) (hns: ∀ x∈ns,x.length=l.sz) (hnv: ∀ i j,i<ns.length->j<l.sz->J3 O w (news.getD (i*l.sz+j) undef) ((ns.getD i []).getD j .undef)) (hfresh:Pj st (b2 d)) :
 ∃ O' m',Sim V0 O0 w0 O' m' {tmps:=st.tmps.set d (.own (b2 d)),Jp:=JD (Ky st.Jp [q]) [(b2 d,.arr e frz l')]} (a.put (some d) (.slice (some (at' g 0)) (l.es.length+ns.length) cap)) (w.setCells g (l.es.length*l.sz) news):=by
 let id:=b2 d;have hidq:id≠q:=fun h=>by have:=hfresh.2;rw[show b2 d=id from rfl,h,hq]at this;cases this
 obtain⟨hsz,hr⟩:=hS.Jp q _ hq
 obtain⟨g',cap',cur',h2,h3,h4,h5,h6,h7,h8,h9⟩: ∃ g' cap' cur',m q= .slice (some (at' g' 0)) l.es.length cap'/\Nk w g' cur' e/\l.es.length<=cap'/\cap'<=maxLen/\cur'.size=cap'*l.sz /\
  (∀ i j,i<l.es.length->j<l.sz-> ∃ u,cur'[i*l.sz+j]? =some u/\J3 O w u ((l.es.getD i []).getD j .undef))/\(∀ k,k<cur'.size->l.es.length*l.sz<=k->O g' k=some q)/\(∀ k,k<l.es.length*l.sz->O g' k=if frz then none else some q):=by
  rcases hr with ⟨_,_,h⟩ | ⟨_,h⟩
  .rw[hm]at h;cases h
  .exact h
 rw[hm]at h2;injection h2 with h2 _ hcc;injection h2 with h2;injection h2 with h2;subst h2;subst hcc;obtain⟨h3,_⟩:=hg.inj h3;subst h3;obtain⟨fr,hg,hfr0⟩:=hg;have hmul:(l.es.length+ns.length)*l.sz<=cap*l.sz:=Ea _ hcap;rw[E8]at hmul;obtain⟨c',g1,g2,g3,g4,g5,g6,g7,g8⟩:=ZP g news (l.es.length*l.sz) w hg (by rw[hl,h6];exact hmul);let w':=w.setCells g (l.es.length*l.sz) news;let O':Own:=fun b k=>if b=g/\k<cur.size then(if frz=true/\k<(l.es.length+ns.length)*l.sz then none else some id)else O b k;let m':Nat->Value:=fun i=>if i=id then .slice (some (at' g 0)) (l.es.length+ns.length) cap else m i;have hsame: ∀ k,(k<l.es.length*l.sz\/(l.es.length+ns.length)*l.sz<=k)->c'[k]? =cur[k]? :=by all_goals grind[getD_eq]
 have hM:Moves O (fun i=>i=q) w w':=by refine Moves.row g6 g7 g8 g5 hg g1 g4 g2 (fun k hk=>hsame k ?_) ?_;all_goals grind[apply]
 have hg':g<w.heap.size:=(Ee.1 hg).1
 have own_g: ∀ k,k<cur.size->O g k=none\/O g k=some q:=by
  intro k hk;rcases Es k (l.es.length*l.sz)with h | h
  .rw[h9 k h];cases frz<;>simp
  .exact .inr (h8 k hk h)
 have hP:Passes O O' (fun i=>i=q) w.heap.size:=by
  refine⟨fun b k _ h=> ?_,fun b k r _ h hne=> ?_⟩
  .show(if _ then(if _ then _ else _)else _)=_;by_cases hc:b=g/\k<cur.size
   .rw[Dp hc];obtain⟨rfl,hk⟩:=hc;rcases Es k (l.es.length*l.sz)with h' | h'
    .have:=h9 k h';rw[h]at this;cases frz
     .simp at this
     .rw[Dp ⟨rfl,by rw[E8];omega⟩]
    .rw[h8 k hk h']at h;cases h
   .rw[Dk hc];exact h
  .show(if _ then(if _ then _ else _)else _)=_;by_cases hc:b=g/\k<cur.size
   .obtain⟨rfl,hk⟩:=hc;rcases own_g k hk with h' | h'
    .rw[h]at h';cases h'
    .rw[h]at h';injection h' with h';exact absurd h' hne
   .rw[Dk hc];exact h
 have hpr:=hM.JW hP
 have hget: ∀ i y,Jy (JD (Ky st.Jp [q]) [(id,.arr e frz l')]) i=some y->(i=id/\y= .arr e frz l')\/(i≠id/\i≠q/\Jy st.Jp i=some y):=by
  intro i y hy;simp only[JD]at hy;rw[KA]at hy;by_cases hi:i=id
  .rw[Dp hi]at hy;injection hy with hy;exact .inl ⟨hi,hy.symm⟩
  .rw[Dk hi,Ub]at hy;split at hy
   .cases hy
   .rename_i hnd;exact .inr ⟨hi,by simpa using hnd,hy⟩
 have hE:Q9 st.Jp m (JD (Ky st.Jp [q]) [(id,.arr e frz l')]) m' (fun i=>i=id):=by
  intro i y hy;rcases hget i y hy with ⟨h1,_⟩ | ⟨h1,_,h2⟩
  .exact .inl h1
  .exact .inr ⟨y,h2,rfl,Dk h1⟩
 refine⟨O',m',hS.next (st':= {tmps:=st.tmps.set d (.own (b2 d)),Jp:=JD (Ky st.Jp [q]) [(id,.arr e frz l')]}) (x:=.own id) (T:=fun i=>i=q) (Nw:=fun i=>i=id) hM hP (fun b k hb h=> ?_) hE (fun n hn=>by rw[hn];exact hfresh.both) (fun o ho=>by rw[ho,hq];rfl) (fun i y hy=> ?_) rfl (fun _=> ?_)⟩
 .have h':(if b=g/\k<cur.size then(if frz=true/\k<(l.es.length+ns.length)*l.sz then none else some id)else O b k)≠none:=h;by_cases hc:b=g/\k<cur.size
  .rw[Dp hc]at h';obtain⟨rfl,hk⟩:=hc;rcases Es k (l.es.length*l.sz)with hlt | hge
   .rw[h9 k hlt];cases frz
    .simp
    .exfalso;refine h' ?_;rw[Dp ⟨rfl,by rw[E8];omega⟩]
   .rw[h8 k hk hge];simp
  .rw[Dk hc]at h';exact h'
 .rcases hget i y hy with ⟨h1,h2⟩ | ⟨h1,hiq,h2⟩
  .right;subst h1;subst h2;refine⟨?_,hfresh.ne⟩;simp only[KT];rw[hle,hls];refine⟨fun x hx=>(DJ.1 hx).elim (hsz x) (hns x),.inr ⟨trivial,g,cap,c',by rw[Dx];exact Dp rfl,⟨fr,g1,by rw[g2];exact hfr0⟩,by rw[Dx];exact hcap,h5,by rw[g2];exact h6,fun i j hi hj=> ?_,fun k hk hge=> ?_,fun k hk=> ?_⟩⟩
   .rw[Dx]at hi;by_cases hil:i<l.es.length
    .obtain⟨u,h10,h11⟩:=h7 i j hil hj;have hlt:i*l.sz+j<l.es.length*l.sz:=by have:(i+1)*l.sz<=l.es.length*l.sz:=Ea _ hil;rw[E8]at this;omega
     refine⟨u,by rw[hsame _ (.inl hlt)];exact h10,?_⟩;have e1:(l.es++ns).getD i []=l.es.getD i []:=by simp only[Dj];rw[Eu hil]
     rw[e1];exact h11.JW hpr
    .obtain⟨i',rfl⟩: ∃ i',i=l.es.length+i':=⟨i - l.es.length,by omega⟩
     have hi':i'<ns.length:=by omega
     have hlt:i'*l.sz+j<ns.length*l.sz:=by have:(i'+1)*l.sz<=ns.length*l.sz:=Ea _ hi';rw[E8]at this;omega
     have hidx:(l.es.length+i')*l.sz+j=l.es.length*l.sz+(i'*l.sz+j):=by rw[E8];omega
     have hsz':l.es.length*l.sz+(i'*l.sz+j)<c'.size:=by rw[g2,h6];omega
     refine⟨news.getD (i'*l.sz+j) undef,?_,?_⟩
     .rw[hidx,getD_eq hsz',g3,Dp ⟨by omega,by rw[hl];omega⟩];rw[show l.es.length*l.sz+(i'*l.sz+j) - l.es.length*l.sz=i'*l.sz+j from by omega]
     .have e1:(l.es++ns).getD (l.es.length+i') []=ns.getD i' []:=by
       simp only[Dj];rw[EC (by omega),Ht]
      rw[e1];exact(hnv i' j hi' hj).JW hpr
   .rw[g2]at hk;rw[Dx]at hge;show(if _ then(if _ then _ else _)else _)=_;rw[Dp ⟨rfl,hk⟩,Ay9]
   .rw[Dx]at hk;show(if _ then(if _ then _ else _)else _)=_;rw[Dp ⟨rfl,by rw[E8]at hk;omega⟩];cases frz
    .simp
    .simp [hk]
  .exact .inl ⟨hiq,h2,Dk h1⟩
 .refine⟨rfl,?_⟩;have:Jy (JD (Ky st.Jp [q]) [(id,.arr e frz l')]) id=some (.arr e frz l'):=by simp only[JD];rw[KA,Dp rfl]
  show match (Jy (JD (Ky st.Jp [q]) [(id,.arr e frz l')]) id).map Obj.shp with | some (.arr _ _)=>_ | some .mp=>_ | _=>True
  rw[this];exact(Dp rfl:m' id=_).symm
def AoG (hS:Sim V0 O0 w0 O m st a w) {d:Tmp} {q e cap g n:Nat} {l l':Sl} {cur:Array Value}
 (hq:Jy st.Jp q=some (.arr e false l)) (hm:m q= .slice (some (at' g 0)) l.es.length cap) (hg:Nk w g cur e) (hn:n<=l.es.length) (hle:l'.es=l.es.take n) (hls:l'.sz=l.sz) (hfresh:Pj st (b2 d)) :
 ∃ O' m',Sim V0 O0 w0 O' m' {tmps:=st.tmps.set d (.own (b2 d)),Jp:=JD (Ky st.Jp [q]) [(b2 d,.arr e false l')]} (a.put (some d) (.slice (some (at' g 0)) n cap)) w:=by
 let id:=b2 d;obtain⟨hsz,hr⟩:=hS.Jp q _ hq
 obtain⟨g',cap',cur',h2,h3,h4,h5,h6,h7,h8,h9⟩: ∃ g' cap' cur',m q= .slice (some (at' g' 0)) l.es.length cap'/\Nk w g' cur' e/\l.es.length<=cap'/\cap'<=maxLen/\cur'.size=cap'*l.sz /\
  (∀ i j,i<l.es.length->j<l.sz-> ∃ u,cur'[i*l.sz+j]? =some u/\J3 O w u ((l.es.getD i []).getD j .undef))/\(∀ k,k<cur'.size->l.es.length*l.sz<=k->O g' k=some q)/\(∀ k,k<l.es.length*l.sz->O g' k=some q):=by
  rcases hr with ⟨_,_,h⟩ | ⟨_,h⟩
  .rw[hm]at h;cases h
  .simpa using h
 rw[hm]at h2;injection h2 with h2 _ hcc;injection h2 with h2;injection h2 with h2;subst h2;subst hcc;obtain⟨h3,_⟩:=hg.inj h3;subst h3
 have own_g: ∀ k,k<cur.size->O g k=some q:=by
  intro k hk;rcases Es k (l.es.length*l.sz)with h | h
  .exact h9 k h
  .exact h8 k hk h
 let O':Own:=fun b k=>if b=g/\k<cur.size then some id else O b k;let m':Nat->Value:=fun i=>if i=id then .slice (some (at' g 0)) n cap else m i;have hM:Moves O (fun i=>i=q) w w:=Moves.refl _ _ _
 have hP:Passes O O' (fun i=>i=q) w.heap.size:=by
  refine⟨fun b k _ h=> ?_,fun b k r _ h hne=> ?_⟩
  .show(if _ then _ else _)=_;by_cases hc:b=g/\k<cur.size
   .obtain⟨rfl,hk⟩:=hc;rw[own_g k hk]at h;cases h
   .rw[Dk hc];exact h
  .show(if _ then _ else _)=_;by_cases hc:b=g/\k<cur.size
   .obtain⟨rfl,hk⟩:=hc;rw[own_g k hk]at h;injection h with h;exact absurd h.symm hne
   .rw[Dk hc];exact h
 have hpr:=hM.JW hP
 have hget: ∀ i y,Jy (JD (Ky st.Jp [q]) [(id,.arr e false l')]) i=some y->(i=id/\y= .arr e false l')\/(i≠id/\i≠q/\Jy st.Jp i=some y):=by
  intro i y hy;simp only[JD]at hy;rw[KA]at hy;by_cases hi:i=id
  .rw[Dp hi]at hy;injection hy with hy;exact .inl ⟨hi,hy.symm⟩
  .rw[Dk hi,Ub]at hy;split at hy
   .cases hy
   .rename_i hnd;exact .inr ⟨hi,by simpa using hnd,hy⟩
 have hE:Q9 st.Jp m (JD (Ky st.Jp [q]) [(id,.arr e false l')]) m' (fun i=>i=id):=by
  intro i y hy;rcases hget i y hy with ⟨h1,_⟩ | ⟨h1,_,h2⟩
  .exact .inl h1
  .exact .inr ⟨y,h2,rfl,Dk h1⟩
 have hlen:l'.es.length=n:=by rw[hle,DZ];omega
 have hmul:n*l.sz<=l.es.length*l.sz:=Ea _ hn;have hmul2:l.es.length*l.sz<=cap*l.sz:=Ea _ h4;refine⟨O',m',hS.next (st':= {tmps:=st.tmps.set d (.own (b2 d)),Jp:=JD (Ky st.Jp [q]) [(id,.arr e false l')]}) (x:=.own id) (T:=fun i=>i=q) (Nw:=fun i=>i=id) hM hP (fun b k hb h=> ?_) hE (fun n hn=>by rw[hn];exact hfresh.both) (fun o ho=>by rw[ho,hq];rfl) (fun i y hy=> ?_) rfl (fun _=> ?_)⟩
 .have h':(if b=g/\k<cur.size then some id else O b k)≠none:=h;by_cases hc:b=g/\k<cur.size
  .obtain⟨rfl,hk⟩:=hc;rw[own_g k hk];simp
  .rw[Dk hc]at h';exact h'
 .rcases hget i y hy with ⟨h1,h2⟩ | ⟨h1,hiq,h2⟩
  .right;subst h1;subst h2;refine⟨?_,hfresh.ne⟩;simp only[KT];rw[hls,hlen];refine⟨fun x hx=>hsz x (by rw[hle]at hx;exact F9 hx),.inr ⟨trivial,g,cap,cur,Dp rfl,hg,by omega,h5,h6,fun i j hi hj=> ?_,fun k hk hge=>Dp ⟨rfl,hk⟩,fun k hk=> ?_⟩⟩
   .obtain⟨u,h10,h11⟩:=h7 i j (by omega) hj;refine⟨u,h10,?_⟩;have e1:l'.es.getD i []=l.es.getD i []:=by rw[hle];simp only[Dj,Gg];rw[Dp hi]
    rw[e1];exact h11.JW hpr
   .show(if _ then _ else _)=_;rw[Dp ⟨rfl,by omega⟩];rfl
  .exact .inl ⟨hiq,h2,Dk h1⟩
 .refine⟨rfl,?_⟩;have:Jy (JD (Ky st.Jp [q]) [(id,.arr e false l')]) id=some (.arr e false l'):=by simp only[JD];rw[KA,Dp rfl]
  show match (Jy (JD (Ky st.Jp [q]) [(id,.arr e false l')]) id).map Obj.shp with | some (.arr _ _)=>_ | some .mp=>_ | _=>True
  rw[this];exact(Dp rfl:m' id=_).symm
end
section
variable {P:Program} {C:Ctx} {V0:Nat->Value} {O0 O:Own} {w0 w:World} {m:Nat->Value} {st:St} {a:Act} {o:Oper}
def Wp {δ :Dl} {d:Tmp} (hd:o.dst=some d):apply st o δ = {tmps:=st.tmps.set d δ.val,Jp:=JD (Ky (JD st.Jp δ.upd) δ.del) δ.new}:=by unfold apply;rw[hd];rfl
def WS {t:Nat} {k:Nat->TI->Dl} (hok:J5 (elemOf C t k).ok): ∃ ti e te,C.T t=some ti/\ti.d= .slice e/\C.T e=some te/\elemOf C t k=k e te:=by
 unfold elemOf at *
 obtain⟨ti,ht,he⟩:=Ku hok;rw[he]at hok ⊢;clear he;obtain⟨e,hel,he⟩:=JL hok;rw[he]at hok ⊢;clear he;obtain⟨te,hte,he⟩:=Ku hok;exact⟨ti,e,te,ht,QS hel,hte,he⟩
def Ar3 {O':Own} {w':World} {fet:Fet} {te:TI} {ty:Ty} (hf:Ob st.Jp fet) (hp:MS O w O' w) (hw:w'=w): ∀(xs:List (Nat×A)) (ps:List (Nat×Value)) (vs:Array Value) (zs:List ty.Val),
 xs.length=ps.length->(∀(j:Nat) (x:Nat×A) (p:Nat×Value),xs[j]? =some x->ps[j]? =some p->p.1=x.1/\J7 O st.Jp m w p.2 x.2/\x.2.isVal=true) ->
 vs.size=zs.length*te.cs.length->Held O' w' vs te.cs.length (zs.map ty.cells)->J5 (NS fet te ty xs zs).1 ->
 (∀ p∈(NS fet te ty xs zs).2.2,∀ e l,p.2= .arr e true l->J3 O' w (m p.1) (.sl l)) ->
 (NS fet te ty xs zs).2.1.length=zs.length/\ ∃ vs',Instr.fill (fun i=>some (i*te.cs.length,te.cs.length)) vs ps=some vs'/\vs'.size=vs.size/\Held O' w' vs' te.cs.length ((NS fet te ty xs zs).2.1.map ty.cells):=by
 subst hw;intro xs
 induction xs with
 | nil =>
  intro ps vs zs hl _ hsz hh _ _;cases ps with
  | nil=>exact⟨rfl,vs,rfl,rfl,hh⟩
  | cons _ _=>simp at hl
 | cons x xs ih =>
  intro ps vs zs hl hr hsz hh hok hU;cases ps with
  | nil=>simp at hl
  | cons p ps =>
   obtain⟨i,x⟩:=x;obtain⟨i',v⟩:=p;obtain⟨h1,h2,hval⟩:=hr 0 (i,x) (i',v) rfl rfl;dsimp only at h1 h2 hval;subst h1;simp only[NS]at hok hU ⊢;obtain⟨hok1,hok2⟩:=hok.append;obtain⟨hok0,hok1⟩:=hok1.append;obtain⟨hmk,hok1⟩:=hok1.cons;have hmk:=Ty.TA _ _ hmk;have hil':i'<zs.length:=by simpa [EK]using hok1.cons.1
   have hset:(zs.set i' (ty.mk (KG fet te.cs x.cells).2.1).2).map ty.cells=(zs.map ty.cells).set i' (KG fet te.cs x.cells).2.1:=by rw[List.map_set,hmk]
   have hzl:zs.length=(zs.map ty.cells).length:=by simp
   rw[hzl]at hsz hil';generalize hes:zs.map ty.cells=es at *
   have hil:i'<es.length:=hil';have hcs:=h2.cells hval;obtain⟨g1,g2,g3,g4⟩:=UR hf te.cs x.cells (fun j=>v.cells.getD j undef) (fun j hj=>hcs.2 j hj) hok0;have g5:=g4 hp (fun p hp'=>hU p (DL _ hp'));have hvsz:v.cells.size=te.cs.length:=by rw[hcs.1,g2]
   have hle:i'*te.cs.length+te.cs.length<=vs.size:=by rw[hsz];have:(i'+1)*te.cs.length<=es.length*te.cs.length:=Ea _ hil;rw[E8]at this;omega
   have e0:v.cells.zipIdx.foldl (fun cs (c,j)=>cs.setIfInBounds (i'*te.cs.length+j) c) vs=(v.cells.toList.zipIdx 0).foldl (fun cs (p:Value×Nat)=>cs.setIfInBounds (i'*te.cs.length+p.2) p.1) vs:=by rw[<- IV];simp
   have hl0:i'*te.cs.length+0+v.cells.toList.length<=vs.size:=by rw[Array.length_toList,hvsz];omega
   obtain⟨k1,_⟩:=Vt v.cells.toList 0 (i'*te.cs.length) vs 0 hl0;have k2:=fun j=>(Vt v.cells.toList 0 (i'*te.cs.length) vs j hl0).2;rw[<- e0]at k1
   have hh':Held O' w' (v.cells.zipIdx.foldl (fun cs (c,j)=>cs.setIfInBounds (i'*te.cs.length+j) c) vs) te.cs.length (es.set i' (KG fet te.cs x.cells).2.1):=by
    refine⟨fun y hy=> ?_,fun r j hrl hj=> ?_⟩
    .rcases GZ hy with h | h
     .exact hh.1 y h
     .rw[h,g1]
    .rw[EP]at hrl;have hlt:r*te.cs.length+j<vs.size:=by rw[hsz];have:(r+1)*te.cs.length<=es.length*te.cs.length:=Ea _ hrl;rw[E8]at this;omega
     have hk:=k2 (r*te.cs.length+j);rw[<- e0]at hk;by_cases hri:r=i'
     .subst hri;rw[Dp (by rw[Array.length_toList,hvsz];omega)]at hk;have e1:(es.set r (KG fet te.cs x.cells).2.1).getD r []=(KG fet te.cs x.cells).2.1:=by simp [Dj,hil]
      refine⟨_,getD_eq,?_⟩;rw[hk,e1,show r*te.cs.length+j - (r*te.cs.length+0)=j from by omega];have e2:v.cells.toList.getD j undef=v.cells.getD j undef:=by rw[Dq,Dj,Eg]
      rw[e2];exact g5 j hj
     .have hno: ¬(i'*te.cs.length+0<=r*te.cs.length+j/\r*te.cs.length+j<i'*te.cs.length+0+v.cells.toList.length):=by
       rw[Array.length_toList,hvsz];rintro ⟨ha,hb⟩;rcases IW hri with h | h
       .have:(r+1)*te.cs.length<=i'*te.cs.length:=Ea _ h;rw[E8]at this;omega
       .have:(i'+1)*te.cs.length<=r*te.cs.length:=Ea _ h;rw[E8]at this;omega
      rw[Dk hno]at hk;obtain⟨u,h3,h4⟩:=hh.2 r j hrl hj;refine⟨u,?_,?_⟩
      .rw[getD_eq,hk,<- getD_eq hlt];exact h3
      .have e1:(es.set i' (KG fet te.cs x.cells).2.1).getD r []=es.getD r []:=by
        simp only[Dj,FV];rw[Dk (fun h=>hri h.symm)]
       rw[e1];exact h4
   obtain⟨f1,vs',f2,f3,f4⟩:=ih ps _ (zs.set i' (ty.mk (KG fet te.cs x.cells).2.1).2) (by simpa using hl) (fun j x p hx hp=>hr (j+1) x p (by simpa using hx) (by simpa using hp)) (by rw[k1,hsz,EP,hzl]) (by rw[hset];exact hh') hok2
    (fun p hp'=>hU p (DI _ hp'))
   refine⟨by rw[f1,EP],vs',?_,by rw[f3,k1],f4⟩;simp only[Instr.fill];have: ¬(v.cells.size≠te.cs.length||decide (i'*te.cs.length+v.cells.size>vs.size))=true:=by rw[hvsz];simp;omega
   rw[Dk (by simpa using this)];exact f2
end
end Go.Proofs.YtehkhflpjkokeaaGreatDoor.Vm
