import Derived.Test.YtpaimpmokhihmaaGreatDoorA3
import Derived.Laws.Small
import Derived.Laws.Tables
set_option linter.all false
namespace Go.Proofs.YtpaimpmokhihmaaGreatDoor.Vm
section
variable {P:Program} {C:Ctx} {O:Own} {Jm:List (Nat×Obj)} {m:Nat->Value} {a:Act} {w:World} {o:Oper} {fet:Fet}
theorem Jt.cut {v:Value} {q:Sl} (h:Jt O w v (.sl q)) (l r:Nat) (hlr:l<=r) (hr:r<=q.es.length) :
 ∃ ad n c,v= .slice ad n c/\n=q.es.length/\n<=c/\(∀ cap',cap'=c->Jt O w (.slice (if cap'=l then ad else ad.map (·.add (l*q.sz))) (r - l) (cap' - l)) (.sl ⟨q.t,J7 q.xs l r⟩)):=by
 cases h with
 | nil =>
  have:r=0:=by simpa [Sl.es]using hr
  subst this;have:l=0:=by omega
  subst this;refine⟨none,0,0,rfl,rfl,DR _,fun cap' hc=> ?_⟩;subst hc;simp [J7];exact .nil _
 | sl0 ad t =>
  have:r=0:=by simpa [Sl.es]using hr
  subst this;have:l=0:=by omega
  subst this;refine⟨some ad,0,0,rfl,rfl,DR _,fun cap' hc=> ?_⟩;subst hc;simp [J7];exact .sl0 _ _
 | @sl b off cap _ vs hc hm hr' =>
  refine⟨_,_,_,rfl,rfl,hc,fun cap' hc'=> ?_⟩;subst hc';have hes:(⟨q.t,J7 q.xs l r⟩:Sl).es=J7 q.es l r:=q.AeY l r;have hlen:(J7 q.es l r).length=r - l:=by simp [J7];omega
  have hget: ∀ i,i<r - l->(J7 q.es l r).getD i []=q.es.getD (l+i) []:=by intro i hi;all_goals grind[J7]
  have hlen':(⟨q.t,J7 q.xs l r⟩:Sl).es.length=r - l:=by rw[hes];exact hlen
  by_cases hcl:cap'=l
  .have h0:r - l=0:=by omega
   rw[Dw hcl,<- hlen'];exact Jt.sl (b:=b) (off:=off) (cap:=cap' - l) (fun _ _=>undef) (by omega) (fun i j hi _=>absurd hi (by omega)) (fun i j hi _=>absurd hi (by omega))
  .rw[Du hcl];simp only[Option.map_some,Oe];rw[<- hlen'];refine Jt.sl (fun i j=>vs (l+i) j) (by omega) (fun i j hi hj=> ?_) (fun i j hi hj=> ?_)
   .have:=hm (l+i) j (by omega) hj;rw[DU]at this;rw[show off+l*q.sz+(i*(⟨q.t,J7 q.xs l r⟩:Sl).sz+j)=off+(l*q.sz+i*q.sz+j)from by show off+l*q.sz+(i*q.sz+j)=_;omega];exact this
   .rw[hes,hget i (by omega)];exact hr' (l+i) j (by omega) hj
theorem AfI {t:Nat} {x:Operand} {lo hi mx:Option Operand} (hC:TOk P C) (ho:o.op= .slice t x lo hi mx) (hmx:mx=none) {s:List UInt8} {lo' hi':Option A} (hx:Jy O Jm m w (a.eval x) (.str s))
 (hlo:ORl O Jm m w (lo.map a.eval) lo') (hhi:ORl O Jm m w (hi.map a.eval) hi')
 (hok:Jv (KR C fet t (.str s) lo' hi').ok):Pure P O Jm m a w o (KR C fet t (.str s) lo' hi'):=by
 subst hmx;unfold KR at hok ⊢;obtain⟨ti,ht,he⟩:=JI hok;rw[he]at hok ⊢;dsimp only at hok ⊢;obtain⟨r,hr,he⟩:=J9 hok;rw[he]at hok ⊢;obtain⟨h1,h2⟩:=hok.cons;have hd:=dQ h1;have hu:=(hC.is ht).run w;rw[hd]at hu;obtain⟨b,hb,hl⟩:=hx.str;subst hl;obtain⟨h3,h4,h5⟩:=Pv (isS:=false) (P:=P) (cap:=b.data.toList.length) hlo hhi (DR _) hr h2;refine⟨⟨.string (b.extract r.2.1 r.2.2),?_,.mkStr _ (jW _ _ _)⟩,rfl,rfl,rfl⟩;rw[<- Pz]at h3;simp only[execOp,ho,Instr.sliceAt,Dv,hu,Result.andThen_ok,Instr.slice,hb,Option.map_none,Option.isSome_none,Bool.false_eq_true,G8,h3,Sem.run_pure]
theorem AgI {t:Nat} {x:Operand} {lo hi mx:Option Operand} (hC:TOk P C) (ho:o.op= .slice t x lo hi mx) (hmx:mx=none) {l:Sl} {lo' hi':Option A} (hx:Jy O Jm m w (a.eval x) (.sl l))
 (hlo:ORl O Jm m w (lo.map a.eval) lo') (hhi:ORl O Jm m w (hi.map a.eval) hi')
 (hok:Jv (KR C fet t (.sl l) lo' hi').ok):Pure P O Jm m a w o (KR C fet t (.sl l) lo' hi'):=by
 subst hmx;unfold KR at hok ⊢;obtain⟨ti,ht,he⟩:=JI hok;rw[he]at hok ⊢;dsimp only at hok ⊢;obtain⟨r,hr,he⟩:=J9 hok;rw[he]at hok ⊢;obtain⟨e,hel,he⟩:=J9 hok;rw[he]at hok ⊢;obtain⟨te,hte,he⟩:=JI hok;rw[he]at hok ⊢;obtain⟨h1,h2⟩:=hok.cons;have hd:=Oj hel;have hu:=(hC.is ht).run w;rw[hd]at hu;have hs:=(hC.is hte).MQ w;have hsz:=Dk h1;rw[<- hsz]at hs;rw[<- Sl.JW]at hr;have hx':Jt O w (a.eval x) (.sl l):=hx;obtain⟨h4,h5⟩:r.2.1<=r.2.2/\r.2.2<=l.es.length:=(Pv (isS:=true) (P:=P) hlo hhi (DR _) hr h2).2;obtain⟨ad,n,c,hv,hn,hc,hcut⟩:=hx'.cut r.2.1 r.2.2 h4 h5;obtain⟨h3,_,_⟩:=Pv (isS:=true) (P:=P) (cap:=c) hlo hhi (by rw[<- hn];exact hc) hr h2;rw[<- hn]at h3;refine⟨⟨_,?_,hcut c rfl⟩,rfl,rfl,rfl⟩;simp only[execOp,ho,Instr.sliceAt,Dv,hu,Result.andThen_ok,Instr.slice,hv,Option.map_none,h3,hs,Sem.run_pure]
theorem Jt.AiK {v:Value} {l:Sl} (h:Jt O w v (.sln l)):Jt O w v (.sl l)/\(l.xs=[]->v= .slice none 0 0):=by cases h with | sln h hn=>exact⟨h,hn⟩
theorem AfH {t:Nat} {x:Operand} {lo hi mx:Option Operand} (hC:TOk P C) (ho:o.op= .slice t x lo hi mx) (hmx:mx=none) {l:Sl} {lo' hi':Option A} (hx:Jy O Jm m w (a.eval x) (.sln l))
 (hlo:ORl O Jm m w (lo.map a.eval) lo') (hhi:ORl O Jm m w (hi.map a.eval) hi')
 (hok:Jv (KR C fet t (.sln l) lo' hi').ok):Pure P O Jm m a w o (KR C fet t (.sln l) lo' hi'):=by
 subst hmx;unfold KR at hok ⊢;obtain⟨ti,ht,he⟩:=JI hok;rw[he]at hok ⊢;dsimp only at hok ⊢;obtain⟨r,hr,he⟩:=J9 hok;rw[he]at hok ⊢;obtain⟨e,hel,he⟩:=J9 hok;rw[he]at hok ⊢;obtain⟨te,hte,he⟩:=JI hok;rw[he]at hok ⊢;obtain⟨h0,hok⟩:=hok.cons;obtain⟨h1,h2⟩:=hok.cons;have hd:=Oj hel;have hu:=(hC.is ht).run w;rw[hd]at hu;have hs:=(hC.is hte).MQ w;have hsz:=Dk h1;rw[<- hsz]at hs;rw[<- Sl.JW]at hr;have hx':Jt O w (a.eval x) (.sln l):=hx;obtain⟨hx',hnil⟩:=hx'.AiK;obtain⟨h4,h5⟩:r.2.1<=r.2.2/\r.2.2<=l.es.length:=(Pv (isS:=true) (P:=P) hlo hhi (DR _) hr h2).2;obtain⟨ad,n,c,hv,hn,hc,hcut⟩:=hx'.cut r.2.1 r.2.2 h4 h5;obtain⟨h3,_,_⟩:=Pv (isS:=true) (P:=P) (cap:=c) hlo hhi (by rw[<- hn];exact hc) hr h2;rw[<- hn]at h3;refine⟨⟨_,?_,Jt.sln (hcut c rfl) fun hq=> ?_⟩,rfl,rfl,rfl⟩
 rotate_left
 .have hq:J7 l.xs r.2.1 r.2.2=[]:=hq;have h0:(l.xs.isEmpty|| !(J7 l.xs r.2.1 r.2.2).isEmpty)=true:=h0;rw[hq]at h0;have he:l.xs=[]:=by simpa using h0
  have hz:=hnil he;rw[hv]at hz;injection hz with z1 z2 z3;subst z1;subst z2;subst z3;rw[<- hn]at h5;have e1:r.2.2=0:=by omega
  have e2:r.2.1=0:=by omega
  rw[e1,e2];rfl
 simp only[execOp,ho,Instr.sliceAt,Dv,hu,Result.andThen_ok,Instr.slice,hv,Option.map_none,h3,hs,Sem.run_pure]
theorem Ag3 {fet:Fet} {x:A} {p:Nat×Mp} (h:mp? fet x=some p):x= .own p.1/\Jr fet p.1=some (.mp p.2):=by
 unfold mp? at h;split at h
 .split at h
  .rename_i l hg;injection h with h;subst h;exact⟨rfl,hg⟩
  .cases h
 .cases h
theorem qC (hF:FOk O Jm m w fet) {x:A} {v:Value} {p:Nat×Mp} (hx:Jy O Jm m w v x) (h:mp? fet x=some p) :
 Jr Jm p.1=some (.mp p.2)/\v=m p.1/\LP O w p.1 (m p.1) p.2:=by
 obtain⟨rfl,hg⟩:=Ag3 h;obtain⟨h1,h2⟩:=hF _ _ hg;have hc:J4 O Jm m w v (.own p.1):=hx;have hc:=hc.2;rw[h1]at hc;exact⟨h1,hc,h2⟩
theorem LP.lists {q:Nat} {v:Value} {l:Mp} (h:LP O w q v l): ∃ r es ck,v= .map (some r)/\w.heap[r]? =some (.map es ck)/\O r 0=some q/\es.toList.length=l.l.length /\
 (∀(i:Nat) (e:MapEntry) (p:l.kt.Val×l.vt.Val),es.toList[i]? =some e->l.l[i]? =some p->LM O w e.key (MW (l.kt.cells p.1))/\LM O w e.val (MW (l.vt.cells p.2))):=by grind[LP,LM,MW]
theorem Aia {n e:Nat} {frz:Bool} {l:Sl} (hg:Jr fet n=some (.arr e frz l)):rd fet (.own n)=([],l):=by grind[Jr,rd]
theorem Abw {x:A} (hok:Jv (rd fet x).1):(∃ n e frz l,x= .own n/\Jr fet n=some (.arr e frz l)/\(rd fet x).2=l)\/(x= .KD/\(rd fet x).2=default)\/ ∃ l,x= .sl l/\(rd fet x).2=l:=by
 cases x with
 | own n =>
  cases hg:Jr fet n with
  | none=>simp_all[rd,Jr,Jv]
  | some y =>
   cases y with
   | box cs=>simp_all[rd,Jr,Jv]
   | arr e frz l=>grind[Aia,Jv,rd,Jr]
   | mp l=>simp_all[rd,Jr,Jv]
 | KD=>exact .inr (.inl ⟨rfl,rfl⟩)
 | sl l=>exact .inr (.inr ⟨l,rfl,rfl⟩)
 | _=>simp_all[rd,Jv,Jr]
theorem AhZ {x:A} {v:Value} (hf:FOk O Jm m w fet) (hx:Jy O Jm m w v x) (hok:Jv (rd fet x).1): ∃ ad c,v= .slice ad (rd fet x).2.xs.length c:=by
 rcases Abw hok with ⟨n,e,frz,l,rfl,hg,hl⟩ | ⟨rfl,hl⟩ | ⟨l,rfl,hl⟩<;>rw[hl]
 .obtain⟨h1,_,h2⟩:=hx.own hf hg;rw[<- Sl.JW];rcases h2 with ⟨_,h3,h4⟩ | ⟨_,g,cap,cur,h4,_⟩;all_goals simp_all[at',FOk,Jy,Jv,rd]
 .exact⟨none,0,hx⟩
 .have hx':Jt O w v (.sl l):=hx;cases hx' with
  | nil=>exact⟨none,0,rfl⟩
  | sl0 ad=>exact⟨some ad,0,rfl⟩
  | sl=>grind[Sl.JW]
theorem Agx {c:Call} {t:Nat} {x:Operand} (hC:TOk P C) (hf:FOk O Jm m w fet) (ho:o.op= .call c) (hcal:c.callee= .builtin .len) (hargs:c.args= #[x]) (hty:c.argTypes.toList=[t]) {x':A} (hx:Jy O Jm m w (a.eval x) x')
 (hok:Jv (uY C fet t x').ok):Pure P O Jm m a w o (uY C fet t x'):=by
 have hat:c.argTypes= #[t]:=by have:=congrArg List.toArray hty;simpa using this
 unfold uY at hok ⊢;obtain⟨ti,ht,he⟩:=JI hok;rw[he]at hok ⊢;have hu:=(hC.is ht).run w;split at hok
 .rename_i hd;rw[hd]at hu;obtain⟨s,hs,he⟩:=J9 hok;rw[he]at hok ⊢;have:=gX hs;subst this;obtain⟨b,hb,hl⟩:=hx.str;subst hl;refine⟨⟨.int .i64 b.size,?_,?_⟩,rfl,rfl,rfl⟩
  .simp [execOp,ho,resolve,hcal,hargs,hat,invoke,builtin,Builtin.len_,hu,hb,goInt]
  .rw[Pz];exact .mkInt _ _
 .rename_i n e hd;rw[hd]at hu;refine⟨⟨.int .i64 n,?_,.mkInt _ _⟩,rfl,rfl,rfl⟩;simp [execOp,ho,resolve,hcal,hargs,hat,invoke,builtin,Builtin.len_,hu,goInt]
 .rename_i e hd;rw[hd]at hu;split at hok
  .rename_i q k;obtain⟨cs,hb,he⟩:=J9 hok;rw[he];have hc:J4 O Jm m w (a.eval x) (.bsl q k):=hx;have hc:=hc.2;rw[(hf _ _ (KN hb)).1]at hc;obtain⟨b,base,_,hv⟩:=hc;refine⟨⟨.int .i64 (k:Int),?_,.mkInt _ _⟩,rfl,rfl,rfl⟩;simp [execOp,ho,resolve,hcal,hargs,hat,invoke,builtin,Builtin.len_,hu,hv,goInt]
  .rename_i y hne;obtain⟨ad,cp,hv⟩:=AhZ hf hx hok;refine⟨⟨.int .i64 (rd fet x').2.xs.length,?_,.mkInt _ _⟩,rfl,rfl,rfl⟩;simp [execOp,ho,resolve,hcal,hargs,hat,invoke,builtin,Builtin.len_,hu,hv,goInt]
 .rename_i kt et hd;rw[hd]at hu;obtain⟨p,hp,he⟩:=J9 hok;rw[he]at hok ⊢;obtain⟨_,hv,hM⟩:=qC hf hx hp;obtain⟨r,es,ck,h1,h2,h3,h4,h5⟩:=hM.lists;have hsz:(es.size:Int)=(p.2.l.length:Int):=by rw[<- h4,Array.length_toList]
  refine⟨⟨.int .i64 (p.2.l.length:Int),?_,.mkInt _ _⟩,rfl,rfl,rfl⟩;have hg:(getObj r).run P w= .ok (.map es ck) w:=by simp [getObj,Sem.run,h2]
  simp [execOp,ho,resolve,hcal,hargs,hat,invoke,builtin,Builtin.len_,hu,hv,h1,hg,hsz,goInt]
 .exact(J5 hok).elim
theorem AaC {i:Nat} {x:Operand} (ho:o.op= .extract x i) {x':A} (hx:Jy O Jm m w (a.eval x) x') (hok:Jv (YF i x').ok):Pure P O Jm m a w o (YF i x'):=by
 unfold YF at hok ⊢;obtain⟨l,hl,he⟩:=J9 hok;rw[he]at hok ⊢;have:x'= .tup l:=by unfold Aio at hl;split at hl<;>simp_all
 subst this;obtain⟨vs,h1,h2,h3⟩:=hx;have hi:i<l.length:=by simpa [Dl.g,Ql]using hok.cons.1
 refine⟨⟨vs.getD i undef,?_,(h3 i hi).toT⟩,rfl,rfl,rfl⟩;have:vs[i]? =some (vs.getD i undef):=by rw[Dj,Dt (by omega)];simp
 generalize vs.getD i undef=z at *
 simp only[execOp,ho,Instr.extract,h1,this,Dv,Sem.run_pure,Result.andThen_ok]
end
section
variable {P:Program} {C:Ctx} {O:Own} {Jm:List (Nat×Obj)} {m:Nat->Value} {a:Act} {w:World} {o:Oper} {fet:Fet}
theorem getD_eq {vs:Array Value} {j:Nat} (h:j<vs.size:=by omega):vs[j]? =some (vs.getD j undef):=by simp_all
theorem Ag6 {t:Nat} {ti:TI} (hT:Qj P t ti) {vs:Array Value} {cs:List A} {off:Nat} (h1:vs.size=cs.length) (h2: ∀ j,j<cs.length->J4 O Jm m w (vs.getD j undef) (cs.getD j .undef))
 (h3:off+ti.cs.length<=cs.length) (h4:0<ti.cs.length): ∃ v,(part t vs off).run P w= .ok v w/\T1 O Jm m w v (YW ti cs off):=by
 unfold part YW;simp only[Dv,hT.AbG,Result.andThen_ok];cases hg:ti.agg with
 | true =>
  refine⟨.agg (vs.extract off (off+ti.cs.length)),by simp [hT.MQ],_,rfl,by simp;omega,fun j hj=> ?_⟩;simp only[En,EL]at hj;have hb:=h2 (off+j) (by omega);have e1:(vs.extract off (off+ti.cs.length)).getD j undef=vs.getD (off+j) undef:=by rw[Dj,Dj,Array.getElem?_extract];rw[Ajk]
  all_goals grind[J4,T1,YW]
 | false =>
  have hb:=h2 off (by omega);refine⟨vs.getD off undef,?_,?_⟩
  .have:=getD_eq (vs:=vs) (j:=off);generalize vs.getD off undef=z at *
   simp [this]
  .simp only[cond_false];generalize cs.getD off .undef=c at *
   cases c<;>first | exact hb | exact hb.elim
theorem kH {d:TypeDesc} {f:Nat} {p:Nat×TI} (h:qL C d f=some p): ∃ fs x,d= .struct fs/\fs[f]? =some x/\x.offset=p.1/\C.T x.type=some p.2:=by unfold qL at h;all_goals grind[split]
theorem Ad6 {t f:Nat} {x:Operand} (hC:TOk P C) (ho:o.op= .field t x f) {x':A} (hx:Jy O Jm m w (a.eval x) x') (hok:Jv (oO C t f x').ok):Pure P O Jm m a w o (oO C t f x'):=by
 unfold oO at hok ⊢;obtain⟨ti,ht,he⟩:=JI hok;rw[he]at hok ⊢;clear he;obtain⟨p,hp,he⟩:=J9 hok;rw[he]at hok ⊢;clear he;obtain⟨cs,hcs,he⟩:=J9 hok;rw[he]at hok ⊢;clear he;obtain⟨fs,fx,hd,hfx,hoff,htf⟩:=kH hp;have:x'= .agg cs:=by unfold AhA at hcs;split at hcs<;>simp_all
 subst this;obtain⟨vs,h1,h2,h3⟩:=hx;obtain⟨h4,h5⟩:=hok.cons;have h5:=h5.cons.1;have h4:=D7 h4;have h5:0<p.2.cs.length:=by simpa [DZ]using h5
 have hu:=(hC.is ht).run w;rw[hd]at hu;obtain⟨v,hv,hr⟩:=Ag6 (off:=p.1) (hC.is htf) h2 h3 h4 h5;refine⟨⟨v,?_,hr.toT⟩,rfl,rfl,rfl⟩;simp [execOp,ho,Instr.field,hu,hfx,h1,asAgg,hoff,hv]
theorem AfW {x':A} {v:Value} {off n:Nat} (hf:FOk O Jm m w fet) (hx:Jy O Jm m w v x') (hok:Jv (Tt off n fet x').ok) :
 ∃ b k,v= .pointer (some (at' b k))/\Jy O Jm m w (.pointer (some (at' b (k+off)))) (Tt off n fet x').val/\(Tt off n fet x').new=[]/\(Tt off n fet x').upd=[]/\(Tt off n fet x').del=[]:=by
 unfold Tt at hok ⊢;split at hok
 .obtain⟨cs,hcs,he⟩:=J9 hok;rw[he]at hok ⊢;clear he;rename_i q p;obtain⟨b,base,h1,h2,h3⟩:=hx.ptr hf (KN hcs);refine⟨b,base+p,h2,?_,rfl,rfl,rfl⟩;have hg:=(hf _ _ (KN hcs)).1;show J4 O Jm m w _ (.ptr q (p+off));simp only[J4,hg,Option.map_some,Obj.shp];exact⟨rfl,b,base,h1,by rw[Eg]⟩
 .rename_i cs;obtain⟨b,k,h1,h2⟩:=(show J4 O Jm m w v (.elt cs)from hx)
  refine⟨b,k,h1,?_,rfl,rfl,rfl⟩;refine⟨b,k+off,rfl,fun j hj=> ?_⟩;simp only[EL]at hj;have:=h2 (off+j) (by omega);rw[Eg];all_goals simp_all[FOk,Jy,Jv,Tt,at']
 .rename_i q i p;obtain⟨r,hr,he⟩:=J9 hok;rw[he]at hok ⊢;clear he;have hi:i<r.l.es.length:=by rw[Sl.JW];simpa [Dl.g]using hok.cons.1
  have hx':J4 O Jm m w v (.KG q i p):=hx;have hg:=(hf _ _ (LD hr)).1;simp only[J4,hg,Option.map_some,Obj.shp]at hx';obtain⟨g,n',cap,h1,h2⟩:=hx'.2 hi;refine⟨g,_,h2,?_,rfl,rfl,rfl⟩;show J4 O Jm m w _ (.KG q i (p+off));simp only[J4,hg,Option.map_some,Obj.shp];refine⟨rfl,fun _=> ?_⟩;exact⟨g,n',cap,h1,by rw[Eg]⟩
 .exact(J5 hok).elim
theorem uK {t f:Nat} {x:Operand} (hC:TOk P C) (hf:FOk O Jm m w fet) (ho:o.op= .fieldAddr t x f) {x':A} (hx:Jy O Jm m w (a.eval x) x') (hok:Jv (Qc C fet t f x').ok):Pure P O Jm m a w o (Qc C fet t f x'):=by
 unfold Qc at hok ⊢;obtain⟨ti,ht,he⟩:=JI hok;rw[he]at hok ⊢;clear he;obtain⟨p,hp,he⟩:=J9 hok;rw[he]at hok ⊢;clear he;obtain⟨fs,fx,hd,hfx,hoff,htf⟩:=kH hp;obtain⟨h1,h2⟩:=hok.cons;have h1:0<p.2.cs.length:=by simpa [DZ]using h1
 obtain⟨b,k,h3,h4,h5,h6,h7⟩:=AfW hf hx h2;have hu:=(hC.is ht).run w;rw[hd]at hu;have hs:=(hC.is htf).MQ w;refine⟨⟨_,?_,h4⟩,h5,h6,h7⟩;have h0:p.2.cs.length≠0:=by omega
 simp [execOp,ho,Instr.fieldAt,hu,hfx,h3,Instr.sureAddr,fieldPlace,hs,h0,Oe,hoff]
theorem uV {t:Nat} {x i:Operand} (hC:TOk P C) (hf:FOk O Jm m w fet) (ho:o.op= .indexAddr t x i) {x' i':A} (hx:Jy O Jm m w (a.eval x) x') (hi:Jy O Jm m w (a.eval i) i')
 (hok:Jv (Vd C fet t x' i').ok):Pure P O Jm m a w o (Vd C fet t x' i'):=by
 unfold Vd at hok ⊢;split at hok
 .rename_i q i0 off0;obtain⟨n,hn,he⟩:=J9 hok;rw[he]at hok ⊢;clear he;obtain⟨k,rfl⟩:=PQ hn;have hi:=hi.int;obtain⟨ti,ht,he⟩:=JI hok;rw[he]at hok ⊢;clear he;obtain⟨p,hp,he⟩:=J9 hok;rw[he]at hok ⊢;clear he;obtain⟨te,hte,he⟩:=JI hok;rw[he]at hok ⊢;clear he;obtain⟨r,hr,he⟩:=J9 hok;rw[he]at hok ⊢;clear he;obtain⟨h1,h2⟩:=hok.cons;obtain⟨h2,h3⟩:=h2.cons;obtain⟨h3,h4⟩:=h3.cons;obtain⟨h4,h5⟩:=h4.cons;obtain⟨h5,h6⟩:=h5.cons;have h6:=h6.cons.1;have h1:=Dk h1;have h2:=Dk h2;have h3:=Dk h3;subst h1;subst h2;have h4:0<=n:=by simpa using h4
  have h5:n<(p.1:Int):=by simpa using h5
  have h6:n.toNat<r.l.es.length:=by rw[Sl.JW];simpa using h6
  have hx':J4 O Jm m w (a.eval x) (.KG q 0 0):=hx;have hg:=(hf _ _ (LD hr)).1;simp only[J4,hg,Option.map_some,Obj.shp]at hx';obtain⟨g,n',cap,e1,e2⟩:=hx'.2 (by omega)
  have hd:ti.d= .array p.1 p.2:=by
   unfold Yw at hp;split at hp
   .rename_i hd;injection hp with hp;rw[hd,<- hp]
   .cases hp
  have hu:=(hC.is ht).run w;rw[hd]at hu;have hs:=(hC.is hte).MQ w;refine⟨⟨.pointer (some (at' g (n.toNat*te.cs.length))),?_,?_⟩,rfl,rfl,rfl⟩
  .have e2':a.eval x= .pointer (some (at' g 0)):=by rw[e2];simp
   simp [execOp,ho,Instr.indexAt,hi,asIntOf,hu,e2',Instr.sureAddr,h4,h5,hs,Oe]
  .show J4 O Jm m w _ (.KG q n.toNat 0);simp only[J4,hg,Option.map_some,Obj.shp];refine⟨rfl,fun _=>⟨g,n',cap,e1,by rw[h3];rfl⟩⟩
 .rename_i cs;obtain⟨n,hn,he⟩:=J9 hok;rw[he]at hok ⊢;clear he;obtain⟨k,rfl⟩:=PQ hn;have hi:=hi.int;obtain⟨m',e,kk,te,he,hu,hte,hcs,_⟩:=Aam hC hok;rw[he]at hok ⊢;obtain⟨h1,h2,h3,h4,h5⟩:=Abi hok;obtain⟨b,off,g1,g2⟩:=(show J4 O Jm m w _ (.elt cs)from hx)
  have hs:=(hC.is hte).MQ w;have hrun:=DD hu w;refine⟨⟨.pointer (some (at' b (off+n.toNat))),?_,?_⟩,rfl,rfl,rfl⟩
  .simp [execOp,ho,Instr.indexAt,hi,asIntOf,hrun,g1,Instr.sureAddr,h2,h3,hs,hcs,Oe]
  .refine⟨b,off+n.toNat,rfl,fun j hj=> ?_⟩;have:j=0:=by simpa using hj
   subst this;obtain⟨a1,u,a2,a3⟩:=g2 n.toNat h4;rw[h5]at a3;exact⟨a1,u,a2,a3⟩
 .rename_i y hne _;clear hne;obtain⟨n,hn,he⟩:=J9 hok;rw[he]at hok ⊢;clear he;obtain⟨k,rfl⟩:=PQ hn;have hi:=hi.int;unfold elemOf at hok ⊢;obtain⟨ti,ht,he⟩:=JI hok;rw[he]at hok ⊢;clear he;obtain⟨e,hel,he⟩:=J9 hok;rw[he]at hok ⊢;clear he;obtain⟨te,hte,he⟩:=JI hok;rw[he]at hok ⊢;clear he;have hu:=(hC.is ht).run w;rw[Oj hel]at hu;have hs:=(hC.is hte).MQ w;have run: ∀ b off len cap,a.eval x= .slice (some (at' b off)) len cap->0<=n->n<(len:Int)->(execOp a.eval o).run P w= .ok (.value (.pointer (some (at' b (off+n.toNat*te.cs.length))))) w:=by intro b off len cap h1 h2 h3;simp [execOp,ho,Instr.indexAt,hi,asIntOf,hu,h1,h2,h3,hs,Oe]
  dsimp only at hok ⊢;split at hok
  .rename_i q _;obtain⟨r,hr,he⟩:=J9 hok;rw[he]at hok;rw[he];clear he;obtain⟨h1,h2⟩:=hok.cons;obtain⟨h2,h3⟩:=h2.cons;have h3:=h3.cons.1;have h1:=Dk h1;have h2:0<=n:=by simpa using h2
   have h3:n<(r.l.es.length:Int):=by rw[Sl.JW];simpa using h3
   obtain⟨h4,_,h5⟩:=hx.own hf (LD hr);have hg:=(hf _ _ (LD hr)).1;rcases h5 with ⟨_,h6,_⟩ | ⟨_,g,cap,cur,h6,_⟩
   .rw[h6]at h3;simp at h3;omega
   .refine⟨⟨_,run g 0 _ cap (by rw[h4,h6]) h2 h3,?_⟩,rfl,rfl,rfl⟩;show J4 O Jm m w _ (.KG q n.toNat 0);simp only[J4,hg,Option.map_some,Obj.shp];refine⟨rfl,fun _=> ?_⟩;exact⟨g,_,_,h6,by rw[<- h1];simp⟩
  .rename_i l _;obtain⟨h1,h2⟩:=hok.cons;obtain⟨h0,h2⟩:=h2.cons;obtain⟨h2,h3⟩:=h2.cons;have h3:=h3.cons.1;have h1:=Dk h1;have h2:0<=n:=by simpa using h2
   have h3:n<(l.es.length:Int):=by rw[Sl.JW];simpa using h3
   have hx':Jt O w (a.eval x) (.sl l):=hx;generalize hv:a.eval x=v at hx';cases hx' with
   | nil=>simp [Sl.es]at h3;omega
   | sl0=>simp [Sl.es]at h3;omega
   | @sl b off cap _ vs hc hm hr =>
    refine⟨⟨_,run b off _ cap hv h2 h3,?_⟩,rfl,rfl,rfl⟩;have hj:n.toNat<l.es.length:=by omega
    refine⟨b,_,rfl,fun j hjj=> ?_⟩;rw[Sl.Ae7]at hjj;obtain⟨h4,h5⟩:=hm n.toNat j hj hjj;rw[<- h1,Eg];rw[l.at_eq (by rw[<- Sl.JW];exact hj)];exact⟨h4,_,h5,hr n.toNat j hj hjj⟩
  .rename_i q k _;obtain⟨cs,hb,he⟩:=J9 hok;rw[he]at hok;rw[he];clear he;obtain⟨h1,h2⟩:=hok.cons;obtain⟨h2,h3⟩:=h2.cons;have h3:=h3.cons.1;have h1:=Dk h1;have h2:0<=n:=by simpa using h2
   rw[DZ]at h3;have hg:=(hf _ _ (KN hb)).1;have hc:J4 O Jm m w (a.eval x) (.bsl q k):=hx;have hc:=hc.2;rw[hg]at hc;obtain⟨b,base,e1,e2⟩:=hc;refine⟨⟨_,run b base _ k e2 h2 (by omega),?_⟩,rfl,rfl,rfl⟩;show J4 O Jm m w _ (.ptr q n.toNat);refine⟨rfl,?_⟩;rw[hg,h1,Es];exact⟨b,base,e1,rfl⟩
  .exact(J5 hok).elim
theorem yB {x:Operand} (hf:FOk O Jm m w fet) (ho:o.op= .nilCheck x) {x':A} (hx:Jy O Jm m w (a.eval x) x') (hok:Jv (QU fet x').ok):Pure P O Jm m a w o (QU fet x'):=by
 unfold QU at hok ⊢;split at hok
 .obtain⟨cs,hcs,he⟩:=J9 hok;rw[he]at hok ⊢;clear he;obtain⟨b,base,h1,h2,h3⟩:=hx.ptr hf (KN hcs);refine⟨⟨a.eval x,?_,hx⟩,rfl,rfl,rfl⟩;rw[h2];simp [execOp,ho,h2]
 .exact(J5 hok).elim
theorem Jt.one {u:Value} {c:A} (h:Jt O w u c):u.oneCell'=true:=by
 induction h<;>first | rfl | assumption
theorem dG {k:CK} {u:Value} {c:A} (h:Jt O w u c) (hok:Jv (force k c).1):J4 O Jm m w u (force k c).2:=by
 cases k with
 | bool=>have:=hok.cons.1;cases h<;>simp [A.isB]at this;exact .bool _
 | int k =>have:=hok.cons.1;cases h<;>simp [A.isI]at this;have:=NL this;subst this;exact .int _ _
 | str=>have:=hok.cons.1;cases h<;>simp [A.isS]at this;exact .str _
 | sl e sz =>
  have:=hok.cons.1;cases h with
  | nil t=>exact .nil _
  | sl0 a t=>exact Jt.sl0 _ _
  | sl vs h1 h2 h3=>exact .sl vs h1 h2 h3
  | _=>simp [A.lK]at this
 | ptr=>have:=hok.cons.1;cases h<;>simp [A.VK]at this;exact .KQ
 | fn =>
  have:=hok.cons.1;cases h<;>simp [A.isFn]at this
  .exact Jt.fn _
  .exact Jt.Xc
 | mp _ _=>have:=hok.cons.1;cases this
 | bx _=>have:=hok.cons.1;cases this
 | sln e sz =>
  have:=hok.cons.1;cases h with
  | sln h hn=>exact .sln h hn
  | _=>simp [A.YO]at this
 | oth=>exact h.one
theorem oU (cs:List A) (ks:List CK): ∀ off,(forces cs ks off).2.length=ks.length:=by
 induction ks with
 | nil=>intro off;rfl
 | cons k ks ih=>grind[forces]
theorem AdA (cs:List A) (ks:List CK): ∀(off:Nat) (f:Nat->Value),(∀ j,j<ks.length->Jt O w (f j) (cs.getD (off+j) .undef))->Jv (forces cs ks off).1 ->
 ∀ j,j<ks.length->J4 O Jm m w (f j) ((forces cs ks off).2.getD j .undef):=by
 induction ks with
 | nil=>intro off f _ _ j hj;simp at hj
 | cons k ks ih =>
  intro off f h hok j hj;obtain⟨h1,h2⟩:=hok.append;cases j with
  | zero=>exact dG (by have:=h 0 (by simp);simpa using this) h1
  | succ j =>have:=ih (off+1) (fun j=>f (j+1)) (fun j hj=>by have:=h (j+1) (by simpa using hj);rwa [show off+(j+1)=off+1+j from by omega]at this) h2 j (by simpa using hj);simpa [forces]using this
theorem Q4 {t:Nat} {ti:TI} (hT:Qj P t ti) {b k:Nat} (f:Nat->Value) (hc: ∀ j,j<ti.cs.length->w.cell? (at' b (k+j))=some (f j)) (h0:ti.agg=false->0<ti.cs.length) :
 (loadVar t (at' b k)).run P w= .ok (if ti.agg then .agg ((List.range ti.cs.length).map f).toArray else f 0) w:=by
 unfold loadVar;simp only[Dv,hT.AbG,Result.andThen_ok];cases hg:ti.agg with
 | true =>have:=run_loadCells (P:=P) w (at' b k) ti.cs.length f (fun j hj=>by rw[Oe];exact hc j hj);simp [hT.MQ,this]
 | false =>have:=hc 0 (h0 hg);all_goals simp_all[at']
theorem wZ {α :Type} {l:List α} {k: α} (h:one? l=some k):l=[k]:=by unfold one? at h;split at h<;>simp_all
theorem dS {t:Nat} {ti:TI} (hT:Qj P t ti) {b k off:Nat} {cs:List A} {pre:List Bool} (hc: ∀ j,j<ti.cs.length-> ∃ u,w.cell? (at' b (k+j))=some u/\Jt O w u (cs.getD (off+j) .undef))
 (hok:Jv (Q3 ti cs off pre).ok): ∃ v,(loadVar t (at' b k)).run P w= .ok v w/\Jy O Jm m w v (Q3 ti cs off pre).val/\(Q3 ti cs off pre).new=[]/\(Q3 ti cs off pre).upd=[]/\(Q3 ti cs off pre).del=[]:=by
 have hf: ∀ j,j<ti.cs.length->w.cell? (at' b (k+j))=some ((w.cell? (at' b (k+j))).getD undef)/\Jt O w ((w.cell? (at' b (k+j))).getD undef) (cs.getD (off+j) .undef):=by intro j hj;obtain⟨u,h1,h2⟩:=hc j hj;rw[h1];exact⟨rfl,h2⟩
 unfold Q3 at hok ⊢;cases hg:ti.agg with
 | true =>
  rw[hg]at hok;simp only[cond_true]at hok ⊢;obtain⟨_,h2⟩:=hok.append;refine⟨_,Q4 hT (fun j=>(w.cell? (at' b (k+j))).getD undef) (fun j hj=>(hf j hj).1) (by simp [hg]),?_,rfl,rfl,rfl⟩;rw[hg];refine⟨_,rfl,by simp [oU],fun j hj=> ?_⟩;rw[oU]at hj;have:=AdA (Jm:=Jm) (m:=m) cs ti.cs off (fun j=>(w.cell? (at' b (k+j))).getD undef) (fun j hj=>(hf j hj).2) h2 j hj;have e:(((List.range ti.cs.length).map fun j=>(w.cell? (at' b (k+j))).getD undef).toArray).getD j undef=(w.cell? (at' b (k+j))).getD undef:=by rw[Dj];simp [hj]
  rw[e];exact this
 | false =>
  rw[hg]at hok;simp only[cond_false]at hok ⊢;obtain⟨kk,hk,he⟩:=J9 hok;rw[he]at hok ⊢;clear he;have hone:=wZ hk;obtain⟨_,h2⟩:=hok.append;have h0:0<ti.cs.length:=by rw[hone];simp
  refine⟨_,Q4 hT (fun j=>(w.cell? (at' b (k+j))).getD undef) (fun j hj=>(hf j hj).1) (fun _=>h0),?_,rfl,rfl,rfl⟩;rw[hg];have:=(hf 0 h0).2;exact(dG this h2).toT
theorem wU {l:List CK} (h:pM l=true):l=[.ptr]:=by grind[pM,split]
theorem wW {t:Nat} {x:Operand} (hC:TOk P C) (hf:FOk O Jm m w fet) (ho:o.op= .load t x) {x':A} (hx:Jy O Jm m w (a.eval x) x') (hok:Jv (RD C fet t x').ok):Pure P O Jm m a w o (RD C fet t x'):=by
 unfold RD at hok ⊢;obtain⟨ti,ht,he⟩:=JI hok;rw[he]at hok ⊢;clear he;have hT:=hC.is ht;have run: ∀ b k v,a.eval x= .pointer (some (at' b k))->(loadVar t (at' b k)).run P w= .ok v w->(execOp a.eval o).run P w= .ok (.value v) w:=by intro b k v h1 h2;simp [execOp,ho,Instr.loadAt,Instr.sureAddr,h1,h2]
 split at hok
 .obtain⟨cs,hcs,he⟩:=J9 hok;rw[he]at hok;rw[he];clear he;rename_i q off;obtain⟨b,base,h1,h2,h3⟩:=hx.ptr hf (KN hcs);obtain⟨h4,h5⟩:=hok.cons;have h4:=D7 h4;have h5:0<ti.cs.length:=by simpa [DZ]using h5.cons.1
  have hc: ∀ j,j<ti.cs.length->w.cell? (at' b (base+off+j))=some ((w.cell? (at' b (base+off+j))).getD undef)/\J4 O Jm m w ((w.cell? (at' b (base+off+j))).getD undef) (cs.getD (off+j) .undef):=by intro j hj;obtain⟨_,_,u,h6,h7⟩:=h3 (off+j) (by omega);rw[Eg,h6];exact⟨rfl,h7⟩
  have hl:=Q4 hT (fun j=>(w.cell? (at' b (base+off+j))).getD undef) (fun j hj=>(hc j hj).1) (fun _=>h5);refine⟨⟨_,run _ _ _ h2 hl,?_⟩,rfl,rfl,rfl⟩;simp only[Dl.g,YW];cases hg:ti.agg with
  | true =>
   refine⟨_,rfl,by simp;omega,fun j hj=> ?_⟩;simp only[En,EL]at hj;have e:(((List.range ti.cs.length).map fun j=>(w.cell? (at' b (base+off+j))).getD undef).toArray).getD j undef=(w.cell? (at' b (base+off+j))).getD undef:=by rw[Dj];simp [show j<ti.cs.length from by omega]
   all_goals grind[TOk,FOk,Jy,Jv,RD]
  | false=>exact(hc 0 h5).2.toT
 .rename_i cs;obtain⟨b,k,h1,h2⟩:=(show J4 O Jm m w _ (.elt cs)from hx)
  have hle:ti.cs.length<=cs.length:=by
   have hA:Jv [Nat.ble ti.cs.length cs.length]:=by
    unfold Q3 at hok;cases hg:ti.agg with
    | true=>rw[hg]at hok;exact(hok.append).1
    | false =>rw[hg]at hok;obtain⟨kk,hk,he⟩:=J9 hok;simp only[cond_false]at hok;rw[he]at hok;exact(hok.append).1
   exact D7 hA.cons.1
  obtain⟨v,h3,h4,h5,h6,h7⟩:=dS (Jm:=Jm) (m:=m) (k:=k) (off:=0) hT (fun j hj=>by obtain⟨_,u,h8,h9⟩:=h2 j (by omega);exact⟨u,h8,by simpa using h9⟩) hok;exact⟨⟨v,run _ _ _ h1 h3,h4⟩,h5,h6,h7⟩
 .rename_i k q;obtain⟨h1,h2⟩:=hok.cons;obtain⟨h2,h3⟩:=h2.cons;have h3:ti.agg=false:=by simpa using h3.cons.1
  have h1:=Dk h1;subst h1;have h2:=wU h2;obtain⟨_,p,hp1,⟨b,j,e1,e2,e3⟩,hc⟩:=(show J4 O Jm m w (a.eval x) (.clo 0 q)from hx)
  have hl:=Q4 (P:=P) (w:=w) hT (b:=b) (k:=j) (fun _=>p) (fun i hi=>by
   have:i=0:=by rw[h2]at hi;simpa using hi
   subst this;exact e3) (fun _=>by rw[h2];decide)
  rw[h3]at hl;refine⟨⟨_,run _ _ _ e1 hl,?_⟩,rfl,rfl,rfl⟩;exact⟨hp1,hc⟩
 .rename_i q i off;obtain⟨r,hr,he⟩:=J9 hok;rw[he]at hok;rw[he];clear he;cases hrow:isRow ti r.l i off with
  | true =>
   rw[hrow]at hok;simp only[cond_true]at hok ⊢;simp only[isRow,Dn]at hrow;obtain⟨⟨⟨r4,r1⟩,r3⟩,r2⟩:=hrow;have r1:=Dk r1;have r2:=Dk r2;have r3:=Dk r3;have r4:1<ti.cs.length:=by simpa [DZ]using r4
   subst r2;subst r3
   have hA:Jv [Nat.ble ti.cs.length r.l.xs.length,true]:=by
    unfold Q3 at hok;cases hg:ti.agg with
    | true=>rw[hg]at hok;exact(hok.append).1
    | false =>rw[hg]at hok;obtain⟨kk,hk,he⟩:=J9 hok;simp only[cond_false]at hok;rw[he]at hok;exact(hok.append).1
   have hle':=D7 hA.cons.1;have hle:ti.cs.length<=r.l.es.length:=by rw[Sl.JW];exact hle'
   obtain⟨hg,hsz,hO⟩:=hf _ _ (LD hr);have hx':J4 O Jm m w (a.eval x) (.KG q 0 0):=hx;simp only[J4,hg,Option.map_some,Obj.shp]at hx';obtain⟨g,n',cap,h1,h2⟩:=hx'.2 (by omega);rcases hO with ⟨_,h3,_⟩ | ⟨_,g',cap',cur,h3,h4,h5,h6,h7,h8,_⟩
   .rw[h3,List.length_nil]at hle;omega
   .rw[h1]at h3;injection h3 with h3 h3' h3'';injection h3 with h3;injection h3 with h3;subst h3
    obtain⟨v,h13,h14,h15,h16,h17⟩:=dS (Jm:=Jm) (m:=m) (O:=O) (b:=g) (k:=0*r.l.sz+0) (off:=0) (cs:=Zl r.l ti.cs.length) hT (fun j hj=>by
     obtain⟨u,h9,h10⟩:=h8 j 0 (by omega) (by omega);have e:(Zl r.l ti.cs.length).getD (0+j) .undef=(r.l.es.getD j []).getD 0 .undef:=by rw[<- r.l.at_eq (EG hj hle')];simp [Zl,Di,hj]
     rw[e];refine⟨u,?_,h10⟩;rw[h4.cell,r1,Es,Nat.add_zero]at *
     simpa using h9) hok
    exact⟨⟨v,run _ _ _ h2 h13,h14⟩,h15,h16,h17⟩
  | false =>
  rw[hrow]at hok;simp only[cond_false]at hok ⊢
  have hA:Jv [Nat.ble (off+ti.cs.length) r.l.sz,decide (i<r.l.xs.length)]:=by
   unfold Q3 at hok;cases hg:ti.agg with
   | true=>rw[hg]at hok;exact(hok.append).1
   | false =>rw[hg]at hok;obtain⟨kk,hk,he⟩:=J9 hok;simp only[cond_false]at hok;rw[he]at hok;exact(hok.append).1
  obtain⟨hle,hi⟩:=hA.cons;have hle:=D7 hle;have hi':i<r.l.xs.length:=by simpa using hi.cons.1
  have hi:i<r.l.es.length:=by rw[Sl.JW];exact hi'
  obtain⟨hg,hsz,hO⟩:=hf _ _ (LD hr);have hx':J4 O Jm m w (a.eval x) (.KG q i off):=hx;simp only[J4,hg,Option.map_some,Obj.shp]at hx';obtain⟨g,n',cap,h1,h2⟩:=hx'.2 hi;rcases hO with ⟨_,h3,_⟩ | ⟨_,g',cap',cur,h3,h4,h5,h6,h7,h8,_⟩
  .rw[h3]at hi;simp at hi
  .rw[h1]at h3;injection h3 with h3 h3' h3'';injection h3 with h3;injection h3 with h3;subst h3;obtain⟨v,h13,h14,h15,h16,h17⟩:=dS (Jm:=Jm) (m:=m) (O:=O) (b:=g) (k:=i*r.l.sz+off) (off:=off) (cs:=r.l.at i) hT (fun j hj=>by obtain⟨u,h9,h10⟩:=h8 i (off+j) hi (by omega);rw[r.l.at_eq hi'];refine⟨u,?_,h10⟩;rw[h4.cell,Eg];exact h9) hok;exact⟨⟨v,run _ _ _ h2 h13,h14⟩,h15,h16,h17⟩
 .exact(J5 hok).elim
end
section
variable {P:Program} {C:Ctx} {O:Own} {Jm:List (Nat×Obj)} {m:Nat->Value} {a:Act} {w:World} {o:Oper} {fet:Fet}
def rV (w:World) (O:Own) (v:Value) (l:Sl):Prop :=
 (∃ ad,v= .slice ad 0 0/\l.xs=[])\/ ∃ b k c,v= .slice (some (at' b k)) l.es.length c/\l.es.length<=c /\
   ∀ i j,i<l.es.length->j<l.sz-> ∃ u,w.cell? (at' b (k+(i*l.sz+j)))=some u/\Jt O w u ((l.es.getD i []).getD j .undef)
theorem rP {l:Sl} (h:l.es=[]):l.xs=[]:=by simp_all[Sl.es]
theorem Jt.ofNil {l:Sl} (h:l.es=[]):Jt O w (.slice none 0 0) (.sl l):=by obtain⟨t,xs⟩:=l;have:xs=[]:=rP h;subst this;exact .nil t
theorem Aib {x:A} {v:Value} (hf:FOk O Jm m w fet) (hx:Jy O Jm m w v x) (hok:Jv (rd fet x).1):rV w O v (rd fet x).2:=by
 rcases Abw hok with ⟨n,e,frz,l,rfl,hg,hl⟩ | ⟨rfl,hl⟩ | ⟨l,rfl,hl⟩<;>rw[hl]
 .obtain⟨h1,h0,h2⟩:=hx.own hf hg;rcases h2 with ⟨h3,h4,h5⟩ | ⟨h3,g,cap,cur,h4,h5,h6,h7,h8,h9,_⟩
  .exact .inl ⟨none,by rw[h1,h5],rP h4⟩
  .refine .inr ⟨g,0,cap,by rw[h1,h4],h6,fun i j hi hj=> ?_⟩;obtain⟨u,h10,h11⟩:=h9 i j hi hj;exact⟨u,by rw[DF,h5.cell];exact h10,h11⟩
 .exact .inl ⟨none,hx,rfl⟩
 .have hx':Jt O w v (.sl l):=hx;cases hx' with
  | nil=>exact .inl ⟨none,rfl,rfl⟩
  | sl0 ad=>exact .inl ⟨some ad,rfl,rfl⟩
  | @sl b off cap _ vs hc hm hr=>exact .inr ⟨b,off,cap,rfl,hc,fun i j hi hj=>⟨vs i j,(hm i j hi hj).2,hr i j hi hj⟩⟩
theorem Adc {t:Ty} {x:A} {v:Value} (hf:FOk O Jm m w fet) (hx:Jy O Jm m w v x) (hok:Jv (rdT fet t x).1):rV w O v ⟨t,(rdT fet t x).2⟩:=by
 by_cases hn:x= .KD
 .subst hn;exact .inl ⟨none,hx,rfl⟩
 .have hr:rdT fet t x=match (rd fet x).2.cast t with | some xs=>((rd fet x).1,xs) | none=>([false],[]):=by
   cases x<;>first | rfl | exact absurd rfl hn
  rw[hr]at hok ⊢;cases hc:(rd fet x).2.cast t with
  | none=>simp_all[Ty,FOk,Jy,Jv,rdT,rV]
  | some xs=>grind[Aib,Sl.NC]
theorem Afi {n:Int} (h:isByte n=true):0<=n/\n<256:=by unfold isByte at h;simpa using h
theorem AaV {d:TypeDesc} (h:pU d=true):d= .int .u8:=by grind[pU]
theorem aW {s t:Nat} {x:Operand} (hC:TOk P C) (hf:FOk O Jm m w fet) (ho:o.op= .convert s t x) {x':A} (hx:Jy O Jm m w (a.eval x) x') (hok:Jv (SL C fet s t x').ok) :
 Pure P O Jm m a w o (SL C fet s t x'):=by
 unfold SL at hok ⊢;obtain⟨ts,hts,he⟩:=JI hok;rw[he]at hok ⊢;clear he;obtain⟨tt,htt,he⟩:=JI hok;rw[he]at hok ⊢;clear he;have hus:=(hC.is hts).run w;have hut:=(hC.is htt).run w;split at hok
 .rename_i k j n hd;rw[hd]at hut;have h1:=hx.int;refine⟨⟨.int k (k.wrap n),?_,.mkInt _ _⟩,rfl,rfl,rfl⟩;simp only[execOp,ho,convert,Dv,hus,hut,Result.andThen_ok,h1];cases ts.d<;>simp [Conv.intToInt]
 .rename_i l hd;rw[hd]at hut;obtain⟨b,hb,hl⟩:=hx.str;refine⟨⟨.string b,?_,.mkStr _ hl⟩,rfl,rfl,rfl⟩;simp only[execOp,ho,convert,Dv,hus,hut,Result.andThen_ok,hb];cases ts.d<;>simp
 .exact(J5 hok).elim
 .rename_i y _ _ hd _ _;rw[hd]at hut;obtain⟨e,hel,he⟩:=J9 hok;rw[he]at hok ⊢;clear he;obtain⟨te,hte,he⟩:=JI hok;rw[he]at hok ⊢;clear he;obtain⟨h1,h2⟩:=hok.cons;obtain⟨h2,h3⟩:=h2.append;have h3:=h3.cons.1;have hde:=AaV h1;have hes:=Oj hel;have hue:=(hC.is hte).d;rw[hde]at hue;have hus':=(hC.is hts).d;rw[hes]at hus';have hr:rV w O (a.eval x) ⟨OA,(rdB fet y).2⟩:=Adc (t:=OA) hf hx h2;generalize hL:(rdB fet y).2=bs at *
  have hes:(⟨OA,bs⟩:Sl).es.length=bs.length:=Sl.JW _;rcases hr with ⟨ad,hv,hn⟩ | ⟨b,k,c,hv,hc,hcell⟩
  .have hn:bs=[]:=hn;refine⟨⟨.string .empty,?_,.mkStr _ (by rw[hn];rfl)⟩,rfl,rfl,rfl⟩;cases ad with
   | none =>have:=run_convert_bytes_string (P:=P) w s t e none 0 0 hus' hue (by rw[(hC.is htt).d,hd]);simp only[execOp,ho,hv,Dv,this];rfl
   | some ad =>have:=run_convert_bytes_back (P:=P) w s t e ad 0 [] hus' hue (by rw[(hC.is htt).d,hd]) (fun j hj=>absurd hj (FT j));simp only[List.length_nil]at this;simp only[execOp,ho,hv,Dv,this];rfl
  .refine⟨⟨.string ⟨(List.map byteOf bs).toArray⟩,?_,.mkStr _ (by simp)⟩,rfl,rfl,rfl⟩
   have:=run_convert_bytes_back (P:=P) w s t e (at' b k) c (List.map byteOf bs) hus' hue (by rw[(hC.is htt).d,hd]) (fun j hj=>by
    have hj':j<bs.length:=by simpa using hj
    obtain⟨u,h4,h5⟩:=hcell j 0 (by rw[hes];exact hj') (by show 0<1;omega);have hb:isByte (bs.getD j 0)=true:=by refine(DK.1 h3) _ ?_;rw[Di,D9 hj'];simp
    obtain⟨h7,h8⟩:=Afi hb;have h6:(⟨OA,bs⟩:Sl).es.getD j []=[A.int .u8 (bs.getD j 0)]:=by rw[<- Sl.at_eq _ hj'];rfl
    rw[h6]at h5;simp only[Gh]at h5;have hu:u= .int .u8 (bs.getD j 0):=by cases h5;rfl
    have h4':w.cell? (at' b (k+(j*1+0)))=some u:=h4;rw[Oe,show k+j=k+(j*1+0)from by omega,h4',hu];have:(List.map byteOf bs)[j]'hj=UInt8.ofNat (bs.getD j 0).toNat:=by rw[EF,Di,D9 hj'];rfl
    rw[this];have:((UInt8.ofNat (bs.getD j 0).toNat).toNat:Int)=bs.getD j 0:=by rw[UInt8.toNat_ofNat'];omega
    rw[this])
   simp only[D5]at this;rw[hes]at hv;simp only[execOp,ho,hv,Dv,this];rfl
 .exact(J5 hok).elim
theorem Ag2 {c:Call} {x y:Operand} (ho:o.op= .call c) (hcal:c.callee= .builtin .min) (hargs:c.args= #[x,y]) {x' y':A} (hx:Jy O Jm m w (a.eval x) x') (hy:Jy O Jm m w (a.eval y) y')
 (hok:Jv (AdX x' y').ok):Pure P O Jm m a w o (AdX x' y'):=by
 unfold AdX at hok ⊢;split at hok
 .rename_i k p k' q;cases hk:A.kEq k k' with
  | false=>rw[hk]at hok;exact(J5 hok).elim
  | true =>
   have:=NL hk;subst this;refine⟨⟨.int k (if q<p then q else p),?_,?_⟩,rfl,rfl,rfl⟩
   .have h:=run_min_int2 (P:=P) (w:=w) c.argTypes o.type k k p q;simp [execOp,ho,resolve,hcal,hargs,invoke,builtin,hx.int,hy.int,h]
   .show Jy O Jm m w _ (.int k (bif decide (q<p)then q else p));by_cases h:q<p<;>simp only[h,FU,decide_false,cond_true,cond_false,if_true,G8]<;>exact .mkInt _ _
 .exact(J5 hok).elim
theorem Ag0 {c:Call} {x y:Operand} (ho:o.op= .call c) (hcal:c.callee= .builtin .max) (hargs:c.args= #[x,y]) {x' y':A} (hx:Jy O Jm m w (a.eval x) x') (hy:Jy O Jm m w (a.eval y) y')
 (hok:Jv (AdV x' y').ok):Pure P O Jm m a w o (AdV x' y'):=by
 unfold AdV at hok ⊢;split at hok
 .rename_i k p k' q;cases hk:A.kEq k k' with
  | false=>rw[hk]at hok;exact(J5 hok).elim
  | true =>
   have:=NL hk;subst this;refine⟨⟨.int k (if q>p then q else p),?_,?_⟩,rfl,rfl,rfl⟩
   .have h:=run_max_int2 (P:=P) (w:=w) c.argTypes o.type k k p q;simp [execOp,ho,resolve,hcal,hargs,invoke,builtin,hx.int,hy.int,h]
   .show Jy O Jm m w _ (.int k (bif decide (p<q)then q else p));by_cases h:p<q<;>simp only[h,gt_iff_lt,FU,decide_false,cond_true,cond_false,if_true,G8]<;>exact .mkInt _ _
 .exact(J5 hok).elim
end
section
variable {P:Program} {C:Ctx} {O:Own} {Jm:List (Nat×Obj)} {m:Nat->Value} {a:Act} {w:World} {o:Oper} {fet:Fet}
def Ob (O:Own) (Jm:List (Nat×Obj)) (m:Nat->Value) (w:World) (vs:Array Value) (cs:List A):Prop :=
 vs.size=cs.length/\ ∀ j,j<cs.length->J4 O Jm m w (vs.getD j undef) (cs.getD j .undef)
theorem J4.one {v:Value} {x:A} (h:J4 O Jm m w v x):v.oneCell'=true:=by
 cases x with
 | undef=>exact h
 | bool _=>cases h;rfl
 | int _ _=>cases h;rfl
 | str _=>cases h;rfl
 | sl _=>cases h<;>rfl
 | sln _=>exact Jt.one h
 | KD=>have h':v=_:=h;subst h';rfl
 | KQ=>cases h;rfl
 | ptr _ _=>exact h.1
 | own _=>exact h.1
 | KG _ _ _=>exact h.1
 | clo _ _=>exact h.1
 | bsl _ _=>exact h.1
 | osl _ _=>exact h.1
 | elt _=>obtain⟨_,_,h,_⟩:=h;subst h;rfl
 | fn _=>cases h<;>rfl
 | _=>exact h.elim
theorem oneCell_cells {v:Value} (h:v.oneCell'=true):v.cells= #[v]:=by cases v<;>first | rfl | cases h
theorem Jy.cells {v:Value} {x:A} (h:Jy O Jm m w v x) (hv:x.isVal=true):Ob O Jm m w v.cells x.cells:=by
 have cell:J4 O Jm m w v x->x.cells=[x]->Ob O Jm m w v.cells x.cells:=by
  intro hc he;rw[he,oneCell_cells hc.one];refine⟨rfl,fun j hj=> ?_⟩;have:j=0:=by simpa using hj
  subst this;exact hc
 cases x with
 | agg cs =>obtain⟨vs,h1,h2,h3⟩:=h;subst h1;exact⟨h2,h3⟩
 | undef=>cases hv
 | tup _=>cases hv
 | usl _ _ _=>cases hv
 | ump _=>cases hv
 | box _=>cases hv
 | cbx _ _=>cases hv
 | cnd _ _=>cases hv
 | _=>exact cell h rfl
theorem Qd (l:List Value): ∀(k off:Nat) (cs:Array Value) (i:Nat),off+k+l.length<=cs.size ->
 ((l.zipIdx k).foldl (fun cs (p:Value×Nat)=>cs.setIfInBounds (off+p.2) p.1) cs).size=cs.size /\
 ((l.zipIdx k).foldl (fun cs (p:Value×Nat)=>cs.setIfInBounds (off+p.2) p.1) cs).getD i undef=if off+k<=i/\i<off+k+l.length then l.getD (i - (off+k)) undef else cs.getD i undef:=by
 induction l with
 | nil =>intro k off cs i _;refine⟨rfl,?_⟩;rw[Du (by simp)];rfl
 | cons v l ih =>
  intro k off cs i h;simp only[List.zipIdx_cons,List.foldl_cons];simp only[List.length_cons]at h ⊢;obtain⟨h1,h2⟩:=ih (k+1) off (cs.setIfInBounds (off+k) v) i (by simp;omega);refine⟨by rw[h1];simp,?_⟩;rw[h2];by_cases hi:off+(k+1)<=i/\i<off+(k+1)+l.length
  .rw[Dw hi,Ajk,show i - (off+k)=(i - (off+(k+1)))+1 from by omega];rfl
  .rw[Du hi];by_cases hk:i=off+k
   .subst hk;rw[Ajk,Dj,Ep];all_goals grind
   .rw[Du,Dj,Ep,Du,<- Dj]
theorem XC (l:List A) (off:Nat) (vs:List A) (i:Nat) (h:off+vs.length<=l.length):(splice l off vs).getD i .undef=if off<=i/\i<off+vs.length then vs.getD (i - off) .undef else l.getD i .undef:=by unfold splice;all_goals grind[splice]
theorem UC (l:List A) (off:Nat) (vs:List A) (h:off+vs.length<=l.length):(splice l off vs).length=l.length:=by unfold splice;simp;omega
theorem Ob.splice {vs us:Array Value} {cs xs:List A} {off:Nat} (h:Ob O Jm m w vs cs) (hu:Ob O Jm m w us xs) (hle:off+xs.length<=cs.length) :
 Ob O Jm m w (us.zipIdx.foldl (fun cs (c,j)=>cs.setIfInBounds (off+j) c) vs) (splice cs off xs):=by
 have e:us.zipIdx.foldl (fun cs (c,j)=>cs.setIfInBounds (off+j) c) vs=(us.toList.zipIdx 0).foldl (fun cs (p:Value×Nat)=>cs.setIfInBounds (off+p.2) p.1) vs:=by rw[<- Gn];simp
 rw[e];have hl:off+0+us.toList.length<=vs.size:=by rw[Array.length_toList,hu.1,h.1];omega
 refine⟨by rw[(Qd us.toList 0 off vs 0 hl).1,h.1,UC _ _ _ hle],fun j hj=> ?_⟩;rw[UC _ _ _ hle]at hj;rw[(Qd us.toList 0 off vs j hl).2,XC _ _ _ _ hle];rw[Array.length_toList,hu.1];by_cases hi:off<=j/\j<off+xs.length
 .rw[Ajk,Dw hi,Nat.add_zero];have:=hu.2 (j - off) (by omega);have e:us.toList.getD (j - off) undef=us.getD (j - off) undef:=by rw[Dj,Di,DJ]
  rw[e];exact this
 .rw[Du,Du hi];exact h.2 j hj
def VX (P:Program) (d:TypeDesc) (i:Nat):Option (Nat×Nat) :=
 match d with
 | .struct fs=>(fs[i]?).bind fun f=>(P.info? f.type).map fun j=>(f.offset,j.size)
 | .array _ e=>(P.info? e).map fun j=>(i*j.size,j.size)
 | _=>none
theorem AaD (hC:TOk P C) {d:TypeDesc} {place:Nat->Option (Nat×Nat)} (hp: ∀ i p,VX P d i=some p->place i=some p): ∀(xs:List (Nat×A)) (ps:List (Nat×Value)) (vs:Array Value) (cs cs':List A),
 xs.length=ps.length->(∀(j:Nat) (x:Nat×A) (p:Nat×Value),xs[j]? =some x->ps[j]? =some p->p.1=x.1/\Jy O Jm m w p.2 x.2)->Ob O Jm m w vs cs->fill C d xs cs=some cs' ->
 ∃ vs',Instr.fill place vs ps=some vs'/\Ob O Jm m w vs' cs':=by
 intro xs
 induction xs with
 | nil =>
  intro ps vs cs cs' hl _ hcs hf;cases ps with
  | nil=>simp only[fill]at hf;injection hf with hf;subst hf;exact⟨vs,rfl,hcs⟩
  | cons _ _=>simp at hl
 | cons x xs ih =>
  intro ps vs cs cs' hl hr hcs hf;cases ps with
  | nil=>simp at hl
  | cons p ps =>
   obtain⟨i,x⟩:=x;obtain⟨i',v⟩:=p;obtain⟨h1,h2⟩:=hr 0 (i,x) (i',v) rfl rfl;dsimp only at h1 h2;subst h1;simp only[fill]at hf;cases hpl:iL C d i' with
   | none=>rw[hpl]at hf;cases hf
   | some q =>
    obtain⟨off,ti⟩:=q;rw[hpl]at hf;dsimp only at hf;cases hb:(x.isVal&&Nat.beq x.cells.length ti.cs.length&&Nat.ble (off+ti.cs.length) cs.length)with
    | false=>rw[hb]at hf;cases hf
    | true =>
     rw[hb]at hf;simp only[cond_true]at hf;simp only[Dn,Ql,Eh]at hb;obtain⟨⟨hb1,hb2⟩,hb3⟩:=hb;have hb3:=D7 hb3;have hv:=h2.cells hb1
     have hpv:VX P d i'=some (off,ti.cs.length):=by
      unfold iL at hpl;unfold VX;split at hpl
      .rename_i fs;split at hpl
       .rename_i f hf';split at hpl
        .rename_i tf htf;injection hpl with hpl;injection hpl with e1 e2;subst e1;subst e2;obtain⟨i0,z,h3,h4,_⟩:=(hC.is htf).i;have:fs[i']? =some f:=by simpa using hf'
         simp [this,h3,h4]
        .cases hpl
       .cases hpl
      .rename_i n e;split at hpl
       .rename_i tf htf;cases hlt:Nat.blt i' n with
        | false=>rw[hlt]at hpl;cases hpl
        | true =>rw[hlt]at hpl;injection hpl with hpl;injection hpl with e1 e2;subst e2;obtain⟨i0,z,h3,h4,_⟩:=(hC.is htf).i;simp [h3,h4,<- e1]
       .cases hpl
      .cases hpl
     have hnext:=hcs.splice (off:=off) hv (by omega);obtain⟨vs',h5,h6⟩:=ih ps _ _ _ (by simpa using hl) (fun j x p hx hp=>hr (j+1) x p (by simpa using hx) (by simpa using hp)) hnext hf;refine⟨vs',?_,h6⟩;simp only[Instr.fill,hp _ _ hpv];have: ¬(v.cells.size≠ti.cs.length||decide (off+v.cells.size>vs.size))=true:=by rw[hv.1,hcs.1,hb2];simp;omega
     rw[Du (by simpa using this)];exact h5
theorem OQ: ∀(vs:List Value) (ks:List CK),JQ vs ks=true->vs.length=ks.length/\ ∀ j,j<ks.length->J4 O Jm m w (vs.getD j undef) ((ks.map CK.zero).getD j .undef):=by
 intro vs
 induction vs with
 | nil=>intro ks h;cases ks with
  | nil=>exact⟨rfl,fun j hj=>by simp at hj⟩
  | cons _ _=>simp [JQ]at h
 | cons v vs ih =>
  intro ks h;cases ks with
  | nil=>cases v<;>simp [JQ]at h
  | cons k ks =>
   have step:JQ vs ks=true->J4 O Jm m w v k.zero->(v::vs).length=(k::ks).length/\ ∀ j,j<(k::ks).length->J4 O Jm m w ((v::vs).getD j undef) (((k::ks).map CK.zero).getD j .undef):=by
    intro hz hv;obtain⟨h1,h2⟩:=ih ks hz;refine⟨by simp [h1],fun j hj=> ?_⟩;cases j with
    | zero=>exact hv
    | succ j=>simpa using h2 j (by simpa using hj)
   cases k with
   | bool=>cases v with
    | bool b=>cases b<;>simp [JQ]at h;exact step h (.bool _)
    | _=>simp [JQ]at h
   | int k'=>cases v with
    | int k'' n =>
     have h':A.kEq k'' k'=true/\n=0/\JQ vs ks=true:=by clear step ih;unfold JQ at h;split at h<;>simp_all
     obtain⟨h1,h2,h3⟩:=h';have:=NL h1;subst this;subst h2;exact step h3 (.int _ _)
    | _=>simp [JQ]at h
   | str=>cases v with
    | string s =>
     simp only[JQ,Dn]at h;have hs:s.data.toList=[]:=by simpa using h.1
     refine step h.2 ?_;show Jt O w (.string s) (.str []);rw[<- hs];exact .str s
    | _=>simp [JQ]at h
   | sl e sz=>cases v with
    | slice ad l c =>
     have h':ad=none/\l=0/\c=0/\JQ vs ks=true:=by clear step ih;unfold JQ at h;split at h<;>simp_all
     obtain⟨h1,h2,h3,h4⟩:=h';subst h1;subst h2;subst h3;exact step h4 rfl
    | _=>simp [JQ]at h
   | ptr=>cases v with
    | pointer ad=>cases ad<;>simp [JQ]at h;exact step h .KQ
    | _=>simp [JQ]at h
   | fn=>cases v with
    | nilFunc=>simp [JQ]at h;exact step h Jt.Xc
    | _=>simp [JQ]at h
   | sln _ _=>cases v<;>simp [JQ]at h
   | mp _ _=>cases v<;>simp [JQ]at h
   | bx _=>cases v<;>simp [JQ]at h
   | oth =>
    have:v.oneCell'=true/\JQ vs ks=true:=by cases v<;>simpa [JQ]using h
    exact step this.2 this.1
theorem wL {n t:Nat} {ks:List CK} (h:MB P n t=some ks): ∃ i,P.info? t=some i:=by
 cases n with
 | zero=>simp [MB]at h
 | succ n =>
  cases hi:P.info? t with
  | some i=>exact⟨i,rfl⟩
  | none =>
   have hu:P.underlying t=none:=by simp [Program.underlying,hi]
   simp [MB,hu]at h
theorem Acb {n t:Nat} {ks:List CK} {fs:Array Field} (h:MB P n t=some ks) (hu:P.underlying t=some (.struct fs)): ∀ f∈fs.toList,∃ i,P.info? f.type=some i:=by
 cases n with
 | zero=>simp [MB]at h
 | succ n =>
  simp only[MB,hu]at h;revert h;generalize fs.toList=l
  induction l generalizing ks with
  | nil=>intro _ f hf;cases hf
  | cons g l ih=>grind[wL]
theorem Adr {n t c e:Nat} {ks:List CK} (h:MB P n t=some ks) (hu:P.underlying t=some (.array c e)): ∃ i,P.info? e=some i:=by
 cases n with
 | zero=>simp [MB]at h
 | succ n=>grind[MB,wL]
theorem Ac5 {P:Program}: ∀(l:List Field),(∀ f∈l,∃ i,P.info? f.type=some i)->l.mapM (fun f=>(P.info? f.type).map fun i=>(f.offset,i.size))=some (l.map fun f=>(f.offset,P.cellsOf f.type)):=by
 intro l
 induction l with
 | nil=>intro _;rfl
 | cons f l ih =>intro h;obtain⟨i,hi⟩:=h f Dp;have:=ih (fun g hg=>h g (Dq _ hg));simp [FV,hi,this,Program.cellsOf]
theorem AbS {t:Nat} {ti:TI} (hT:Qj P t ti): ∃ i z,P.info? t=some i/\i.zero=some z/\Ry ti.d=VJ z/\Ob O Jm m w z.cells (ti.cs.map CK.zero):=by obtain⟨i,z,h1,h2,h3,h4,h5,h6⟩:=hT.i;obtain⟨h7,h8⟩:=OQ (O:=O) (Jm:=Jm) (m:=m) (w:=w) _ _ h5;all_goals simp_all[Ry,VJ,Ob,CK.zero]
theorem Adn {t:Nat} {ps:Array (Nat×Operand)} (hC:TOk P C) (ho:o.op= .build t ps) {xs:List (Nat×A)} (hl:xs.length=ps.size) (hx: ∀(j:Nat) (x:Nat×A) (p:Nat×Operand),xs[j]? =some x->ps[j]? =some p->p.1=x.1/\Jy O Jm m w (a.eval p.2) x.2)
 (hok:Jv (aS C t xs).ok):Pure P O Jm m a w o (aS C t xs):=by
 unfold aS at hok ⊢;obtain⟨ti,ht,he⟩:=JI hok;rw[he]at hok ⊢;clear he;obtain⟨cs,hcs,he⟩:=J9 hok;rw[he]at hok ⊢;clear he;have hT:=hC.is ht;obtain⟨i,z,h1,h2,_,h3⟩:=AbS (O:=O) (Jm:=Jm) (m:=m) (w:=w) hT
 have key: ∃ place:Nat->Option (Nat×Nat),(∀ i p,VX P ti.d i=some p->place i=some p)/\ ∀ vs,Instr.fill place z.cells (ps.map (fun(i,x)=>(i,a.eval x))).toList=some vs->P.built t (ps.map (fun(i,x)=>(i,a.eval x))).toList=some vs:=by
  have hu:=hT.d;cases hd:ti.d with
  | struct fs =>
   rw[hd]at hu;have hinf:=Acb hT.ck hu;refine⟨fun i=>(fs.toList.map fun f=>(f.offset,P.cellsOf f.type)).toArray[i]?,fun i p hp=> ?_,fun vs hvs=> ?_⟩
   .simp only[VX]at hp;cases hf:fs[i]? with
    | none=>rw[hf]at hp;cases hp
    | some f =>
     rw[hf]at hp;simp only[Option.bind_some]at hp;cases hi:P.info? f.type with
     | none=>rw[hi]at hp;cases hp
     | some j =>rw[hi]at hp;simp at hp;subst hp;simp [hf,Program.cellsOf,hi]
   .unfold Program.built;simp only[h1,hu,h2,Ac5 _ hinf];exact hvs
  | array n e =>
   rw[hd]at hu;obtain⟨ie,hie⟩:=Adr hT.ck hu;refine⟨fun i=>some (i*ie.size,ie.size),fun i p hp=> ?_,fun vs hvs=> ?_⟩
   .grind[VX]
   .unfold Program.built;simp only[h1,hu,h2,hie];exact hvs
  | _ =>have:=hok.cons.1;rw[mW,hd]at this;cases this
 obtain⟨place,hp,hb⟩:=key
 obtain⟨vs,h4,h5⟩:=AaD (O:=O) (Jm:=Jm) (m:=m) (w:=w) hC hp xs (ps.map (fun(i,x)=>(i,a.eval x))).toList z.cells _ cs (by simp [hl]) (fun j x p hxj hpj=>by
  simp only[FI,DW]at hpj;cases hq:ps.toList[j]? with
  | none=>rw[hq]at hpj;cases hpj
  | some q =>rw[hq]at hpj;injection hpj with hpj;subst hpj;exact hx j x q hxj (by simpa using hq)) h3 hcs
 have:=run_build (P:=P) w t _ _ (hb vs h4);refine⟨⟨.agg vs,?_,?_⟩,rfl,rfl,rfl⟩
 .simp only[execOp,ho,Dv,this,Result.andThen_ok,Sem.run_pure]
 .exact⟨vs,rfl,h5.1,h5.2⟩
end
end Go.Proofs.YtpaimpmokhihmaaGreatDoor.Vm
