import Derived.Test.YtacidcemomccpaaGreatDoorA3
import Derived.Laws.MakeOwn
import Derived.Lib.ConvBytes
set_option linter.all false
namespace Go.Proofs.YtacidcemomccpaaGreatDoor.Vm
open Classical
section
variable {P:Program} {C:Ctx} {V0:Nat->Value} {O0 O:Own} {w0 w:World} {m:Nat->Value} {st:St} {a:Act} {o:Oper}
def Atb {t:Nat} {lo co:Operand} (hC:TOk P C) (hS:Sim V0 O0 w0 O m st a w) {d:Tmp} (hd:o.dst=some d) (ho:o.op= .makeSlice t lo co) {l c:A} (hl:JC O st.Jr m w (a.eval lo) l) (hc:JC O st.Jr m w (a.eval co) c)
 (hok:J6 (vI C d t l c).ok) (hfr: ∀ p∈(vI C d t l c).new,st.fresh p.1=true):Good P V0 O0 w0 (apply st o (vI C d t l c)) o a w:=by
 intro next Q hn
 unfold vI at *
 obtain⟨n,hn1,he⟩:=JU hok;rw[he]at hok hfr hn;clear he;obtain⟨n',hn2,he⟩:=JU hok;rw[he]at hok hfr hn;clear he;obtain⟨ti,e,te,ht,hte,hd',he⟩:=XM hok;rw[he]at hok hfr hn;clear he;obtain⟨k1,rfl⟩:=VM hn1;obtain⟨k2,rfl⟩:=VM hn2;obtain⟨h1,h2⟩:=hok.cons;obtain⟨h2,h3⟩:=h2.cons;obtain⟨h3,h4⟩:=h3.cons;obtain⟨h4,h5⟩:=h4.cons;have h5:=h5.cons.1;have h1:n<=n':=by simpa using h1
 have h2:0<=n:=by simpa using h2
 have h3:n'*((te.bytes:Int)+1)<=140737488355328:=by simpa using h3
 have h4:0<te.cs.length:=by simpa [EF]using h4
 have hl:=hl.int;have hc:=hc.int;obtain⟨k,rfl⟩:=EU h2;obtain⟨c,rfl⟩:=EU (Int.le_trans h2 h1);have hkc:k<=c:=by omega
 have hT:=hC.is hd';obtain⟨i,z,g1,g2,g3,g4,g5,g6⟩:=hT.i;have hu:=(hC.is ht).d;rw[hte]at hu
 have h3':c*te.bytes+c<=140737488355328:=by
  have e0:(c:Int)*((te.bytes:Int)+1)=((c*te.bytes+c:Nat):Int):=by rw[Int.mul_add,Int.natCast_add,Int.natCast_mul,Int.mul_one]
  have h3:(c:Int)*((te.bytes:Int)+1)<=140737488355328:=h3;rw[e0]at h3;omega
 obtain⟨hz1,hz2⟩:=uU (O:=O) (w:=w) hT (by rw[g1];exact g4) h5 h4 c;have hz2:=hz2.less hkc
 have hr:(execOp a.eval o).run P w= .ok (.value (.slice (some (at' w.heap.size 0)) k c)) (w.alloc (.cells (zeros z (c*te.cs.length)) e)):=by
  have e1:(i.bytes:Int)*(c:Int)<=281474976710656:=by
   have:(i.bytes:Int)*c=((c*te.bytes:Nat):Int):=by rw[g3,Ji,Int.natCast_mul]
   rw[this];omega
  have:=run_make (P:=P) w t e i z hu g1 g4 k1 k2 k c (by omega) (by omega) e1 (by omega);simp only[Int.toNat_natCast,g2]at this;have hl':a.eval lo= .int k1 (k:Int):=hl;have hc':a.eval co= .int k2 (c:Int):=hc;simp only[execOp,ho,DL,hl',hc',this,Result.andThen_ok,Sem.run_pure];rfl
 unfold Oper.wp;rw[hr,Oper.upon_value,hd];obtain⟨O',m',h⟩:=YA hS (Moves.refl _ _ w) rfl (d:=d) (e:=e) (cap:=c) (frz:=false) (l:=⟨tyl te.cs,List.replicate k (tyl te.cs).zero⟩) (del:=[]) (by rw[Sl.KT,Ee];exact hkc) (by unfold maxLen;omega) (by rw[hz1];show _=_*(tyl te.cs).len;rw[WM]) (by show Held _ _ _ (tyl te.cs).len _;rw[WM,Sl.jL _ _ h5];exact hz2) (NQ (hfr _ Dy));rw[Sl.KT,Ee]at h;refine hn O' m' _ _ ?_;rw[X0 hd];exact h
theorem Aki {t:Nat} {x:Operand} {lo hi mx:Option Operand} (hC:TOk P C) (hS:Sim V0 O0 w0 O m st a w) (ho:o.op= .slice t x lo hi mx) (hmx:mx=none) {fet:Fet} (hf:P8 st.Jr fet) {q:Nat} {lo' hi':Option A}
 (hx:JC O st.Jr m w (a.eval x) (.own q)) (hlo:ORl O st.Jr m w (lo.map a.eval) lo') (hhi:ORl O st.Jr m w (hi.map a.eval) hi')
 (hok:J6 (MQ C fet t (.own q) lo' hi').ok):Good P V0 O0 w0 (apply st o (MQ C fet t (.own q) lo' hi')) o a w:=by
 subst hmx;intro next Q hn
 unfold MQ at *
 obtain⟨ti,ht,he⟩:=KF hok;rw[he]at hok hn;clear he;dsimp only at hok hn;obtain⟨ro,hro,he⟩:=JU hok;rw[he]at hok hn;clear he;obtain⟨r,hr,he⟩:=JU hok;rw[he]at hok hn;clear he;obtain⟨e,hel,he⟩:=JU hok;rw[he]at hok hn;clear he;obtain⟨te,hte,he⟩:=KF hok;rw[he]at hok hn;clear he;obtain⟨h1,h2⟩:=hok.cons;rw[<- Sl.KT]at hr;have hsz:=Dx h1;have hq:=hf q _ (NP hro)
 have key: ∃ O1,Sim V0 O0 w0 O1 m {st with Jr:=JH st.Jr (bif ro.frz then []else [(q,.arr ro.e true ro.l)])} a w/\J5 O1 w (m q) (.sl ro.l):=by
  cases hfz:ro.frz with
  | false =>obtain⟨O1,hS1,_,_,hv1,_⟩:=hS.qO hq;exact⟨O1,hS1,hv1⟩
  | true =>rw[hfz]at hq;exact⟨O,hS,(hS.Jr q _ hq).frozen⟩
 obtain⟨O1,hS1,hv1⟩:=key;have hd:=Ur hel;have hu:=(hC.is ht).run w;rw[hd]at hu;have hs:=(hC.is hte).OX w;rw[<- hsz]at hs;have hxv:a.eval x=m q:=by have h2:JG O st.Jr m w (a.eval x) (.own q):=hx;have h2:=h2.2;rw[hq]at h2;exact h2
 obtain⟨h4,h5⟩:r.2.1<=r.2.2/\r.2.2<=ro.l.es.length:=(XK (isS:=true) (P:=P) hlo hhi (DD _) hr h2).2;obtain⟨ad,n,c,hv,hn',hc,hcut⟩:=hv1.cut r.2.1 r.2.2 h4 h5;obtain⟨h3,_,_⟩:=XK (isS:=true) (P:=P) (cap:=c) hlo hhi (by rw[<- hn'];exact hc) hr h2;rw[<- hn']at h3;have hrun:(execOp a.eval o).run P w= .ok (.value (.slice (if c=r.2.1 then ad else ad.map (·.add (r.2.1*ro.l.sz))) (r.2.2 - r.2.1) (c - r.2.1))) w:=by simp only[execOp,ho,Instr.sliceAt,DL,hu,Result.andThen_ok,Instr.slice,hxv,hv,Option.map_none,h3,hs,Sem.run_pure]
 unfold Oper.wp;rw[hrun,Oper.upon_value];refine hn O1 m _ _ ?_;have:=hS1.put o.dst (x:=.sl ⟨ro.l.t,J4 ro.l.xs r.2.1 r.2.2⟩) (v:=.slice (if c=r.2.1 then ad else ad.map (·.add (r.2.1*ro.l.sz))) (r.2.2 - r.2.1) (c - r.2.1)) (hcut c rfl);exact this
def Au8 {t:Nat} {x h:Operand} (hC:TOk P C) (hS:Sim V0 O0 w0 O m st a w) {d:Tmp} (hd:o.dst=some d) (ho:o.op= .slice t x none (some h) none) {fet:Fet} (hf:P8 st.Jr fet) {x' b':A}
 (hx:JC O st.Jr m w (a.eval x) x') (hb:JC O st.Jr m w (a.eval h) b') (hok:J6 (Aah C fet d t x' b').ok) (hfr: ∀ p∈(Aah C fet d t x' b').new,st.fresh p.1=true) :
 Good P V0 O0 w0 (apply st o (Aah C fet d t x' b')) o a w:=by
 intro next Q hn
 unfold Aah at *
 obtain⟨ti,ht,he⟩:=KF hok;rw[he]at hok hn hfr;clear he;cases x' with
 | own q =>
  dsimp only at hok hn hfr;obtain⟨ro,hro,he⟩:=JU hok;rw[he]at hok hn hfr;clear he;obtain⟨r,hr,he⟩:=JU hok;rw[he]at hok hn hfr;clear he;obtain⟨e,hel,he⟩:=JU hok;rw[he]at hok hn hfr;clear he;obtain⟨te,hte,he⟩:=KF hok;rw[he]at hok hn hfr;clear he;obtain⟨hok,hfz⟩:=hok.append;obtain⟨h1,h2⟩:=hok.cons;have hfz:ro.frz=false:=by simpa using hfz.cons.1
  rw[<- Sl.KT]at hr;have hsz:=Dx h1;have hq:=hf q _ (NP hro);rw[hfz]at hq;have hd':=Ur hel;have hu:=(hC.is ht).run w;rw[hd']at hu;have hs:=(hC.is hte).OX w;rw[<- hsz]at hs;have hxv:a.eval x=m q:=by have h2:JG O st.Jr m w (a.eval x) (.own q):=hx;have h2:=h2.2;rw[hq]at h2;exact h2
  have hh:ORl O st.Jr m w (some (a.eval h)) (some b'):=hb;have hlo0:ORl O st.Jr m w none none:=trivial;obtain⟨h4,h5⟩:r.2.1<=r.2.2/\r.2.2<=ro.l.es.length:=(XK (isS:=true) (P:=P) hlo0 hh (DD _) hr h2).2
  have hr0:r.2.1=0:=by
   unfold AdI at hr;split at hr<;>first | (injection hr with hr;rw[<- hr];done) | (injection hr with hr;rw[<- hr]) | cases hr
   all_goals (first | rfl | (rename_i hc _;cases hc))
  have hfresh:Qk st (b2 d):=NQ (hfr _ Dy);have hes:(⟨ro.l.t,J4 ro.l.xs r.2.1 r.2.2⟩:Sl).es=ro.l.es.take r.2.2:=by rw[Sl.As6,hr0];simp [J4]
  obtain⟨hszs,hrow⟩:=hS.Jr q _ hq;have hgoal: ∀ v,(∀ cap:Nat,True)->(execOp a.eval o).run P w= .ok (.value v) w->(∃ O' m',Sim V0 O0 w0 O' m' {tmps:=st.tmps.set d (.own (b2 d)),Jr:=JH (KC st.Jr [q]) [(b2 d,.arr ro.e false ⟨ro.l.t,J4 ro.l.xs r.2.1 r.2.2⟩)]} (a.put (some d) v) w)->o.wp P a w next Q:=by intro v _ hrun ⟨O',m',h⟩;unfold Oper.wp;rw[hrun,Oper.upon_value,hd];refine hn O' m' _ _ ?_;unfold apply;rw[hd];exact h
  rcases hrow with ⟨_,hnil,hm⟩ | ⟨_,g,cap,cur,hm,hg,hcap,_⟩
  .have h0:r.2.2=0:=by rw[hnil]at h5;simpa using h5
   obtain⟨h3,_,_⟩:=XK (isS:=true) (P:=P) (w:=w) (cap:=0) hlo0 hh (by rw[hnil];exact DD _) hr h2;rw[hnil]at h3;refine hgoal (.slice none 0 0) (λ_=>trivial) ?_ ?_
   .have h3:(Instr.sliceBounds true 0 0 none (some (a.eval h)) none).run P w= .ok (r.2.1,r.2.2,0) w:=h3;rw[hr0,h0]at h3;simp only[execOp,ho,Instr.sliceAt,DL,hu,Result.andThen_ok,Instr.slice,hxv,hm,Option.map_none,Option.map_some,h3,hs,Sem.run_pure];rfl
   .have hxs:J4 ro.l.xs r.2.1 r.2.2=[]:=by
     have:ro.l.xs=[]:=Ag1 hnil;rw[this];simp [J4]
    rw[hxs];exact vK hS hfresh
  .obtain⟨h3,_,_⟩:=XK (isS:=true) (P:=P) (w:=w) (cap:=cap) hlo0 hh hcap hr h2;refine hgoal (.slice (some (at' g 0)) r.2.2 cap) (λ_=>trivial) ?_ ?_
   .have h3:(Instr.sliceBounds true ro.l.es.length cap none (some (a.eval h)) none).run P w= .ok (r.2.1,r.2.2,cap) w:=h3;rw[hr0]at h3;simp only[execOp,ho,Instr.sliceAt,DL,hu,Result.andThen_ok,Instr.slice,hxv,hm,Option.map_none,Option.map_some,h3,hs,Sem.run_pure];simp [Si]
   .exact ApR hS hq hm hg h5 hes rfl hfresh
 | _=>exact(JJ hok).elim
end
section
variable {P:Program} {C:Ctx} {V0:Nat->Value} {O0 O:Own} {w0 w:World} {m:Nat->Value} {st:St} {a:Act} {o:Oper}
structure Src (P:Program) (O:Own) (w:World) (sz:Nat) (y:Value) (ns:List (List A)) (news:List Value):Prop where
 len: ∀ w',(Builtin.lenOf y).run P w'= .ok ns.length w'
 cells: ∀ w',(∀ b k u,w.cell? (at' b k)=some u->w'.cell? (at' b k)=some u)->(Builtin.firstCells sz ns.length y).run P w'= .ok news.toArray w'
 size:news.length=ns.length*sz
 each: ∀ x∈ns,x.length=sz
 rel: ∀ i j,i<ns.length->j<sz->J5 O w (news.getD (i*sz+j) undef) ((ns.getD i []).getD j .undef)
def Src.one {sz:Nat} {y:Value} {ns:List (List A)} {news:List Value} (h:Src P O w sz y ns news) (h0:0<sz): ∀ v∈news,v.oneCell'=true:=by
 intro v hv;obtain⟨k,hk,hke⟩:=FP.1 hv;have hd:k=(k / sz)*sz+k % sz:=by rw[Hy];exact(Nat.div_add_mod k sz).symm
 have hlt:k / sz<ns.length:=by rw[IE h0,<- h.size];exact hk
 have:=h.rel (k / sz) (k % sz) hlt (Nat.mod_lt _ h0);rw[<- hd,Dn,D8 hk]at this;simp only[Option.getD_some,hke]at this;exact this.one
def Ayv {l:Sl} {v:Value} (h:Ag3 w O v l): ∃ news,Src P O w l.sz v l.es news:=by
 rcases h with ⟨ad,hv,hn⟩ | ⟨b,k,c,hv,hc,hcell⟩
 .have hn:l.es=[]:=by simp [Sl.es,hn]
  refine⟨[],⟨λw'=>by rw[hv,hn];rfl,λw' _=>by
   rw[hv,hn];cases ad with
   | none=>rfl
   | some ad =>show(Builtin.firstCells l.sz 0 (.slice (some ad) 0 0)).run P w'=_;simp only[Builtin.firstCells,Hz];exact run_loadCells (P:=P) w' ad 0 (λ_=>undef) (λi hi=>absurd hi (Iy i)),by rw[hn];simp,l.es_len,λi j hi=>by rw[hn]at hi;simp at hi⟩⟩
 .let news:List Value:=(List.range (l.es.length*l.sz)).map λi=>(w.cell? (at' b (k+i))).getD undef
  have hcells: ∀ i,i<l.es.length*l.sz-> ∃ u,w.cell? (at' b (k+i))=some u:=by
   intro i hi
   have h0:0<l.sz:=by
    rcases Jj l.sz with h | h
    .rw[h]at hi;simp at hi
    .exact h
   have hd:i=(i / l.sz)*l.sz+i % l.sz:=by rw[Hy];exact(Nat.div_add_mod i l.sz).symm
   obtain⟨u,hu,_⟩:=hcell (i / l.sz) (i % l.sz) (by rw[IE h0];exact hi) (Nat.mod_lt _ h0);rw[<- hd]at hu;exact⟨u,hu⟩
  refine⟨news,⟨λw'=>by rw[hv];rfl,λw' hw'=> ?_,by simp [news],l.es_len,λi j hi hj=> ?_⟩⟩
  .rw[hv];simp only[Builtin.firstCells];have:=run_loadCells (P:=P) w' (at' b k) (l.es.length*l.sz) (λi=>(w.cell? (at' b (k+i))).getD undef) (λi hi=>by obtain⟨u,hu⟩:=hcells i hi;rw[Si,hw' _ _ _ hu,hu];rfl);exact this
  .obtain⟨u,h3,h4⟩:=hcell i j hi hj;have hlt:i*l.sz+j<l.es.length*l.sz:=by have:(i+1)*l.sz<=l.es.length*l.sz:=DY _ hi;rw[Et]at this;omega
   all_goals grind[Ag3]
def src_of {fet:Fet} {t:Ty} {y:A} {v:Value} (hf:FOk O st.Jr m w fet) (hy:JC O st.Jr m w v y) (hok:J6 (Rk fet t y).1): ∃ news,Src P O w t.len v (⟨t,(Rk fet t y).2⟩:Sl).es news:=by
 have hrd:J6 (rdT fet t y).1-> ∃ news,Src P O w t.len v (⟨t,(rdT fet t y).2⟩:Sl).es news:=λhok=>Ayv (Apf hf hy hok);by_cases hs: ∃ s,y= .str s
 .obtain⟨s,rfl⟩:=hs;by_cases ht:t= .int .u8 .nil
  .subst ht;obtain⟨b,hb,hl⟩:=hy.str;have hbl:b.size=s.length:=by rw[Vj,hl]
   have hes:(⟨.int .u8 .nil,(Rk fet (.int .u8 .nil) (.str s)).2⟩:Sl).es=s.map (fun(x:UInt8)=>[A.int .u8 (x.toNat:Int)]):=by show List.map (Ty.int IntKind.u8 Ty.nil).cells (List.map (fun(b:UInt8)=>((b.toNat:Int))) s)=_;exact ES.trans rfl
   rw[hes];refine⟨s.map (fun(x:UInt8)=>Value.int .u8 (x.toNat:Int)),⟨λw'=>by rw[hb];simp [Builtin.lenOf,hbl],λw' _=> ?_,by simp [Ty.len],by simp [Ty.len],λi j hi hj=> ?_⟩⟩
   .rw[hb];simp only[Builtin.firstCells,D5,Sem.run_pure];congr 1;all_goals grind[Ada,Vj,J4,apply]
   .have hj0:j=0:=by simp [Ty.len]at hj;omega
    subst hj0;have hi':i<s.length:=by simpa using hi
    simp [Dn,hi',Ty.len];exact .int _ _
  .simp_all[Rk,hok,Fet,Ty,FOk,JC,J6]
 .simp_all[Rk,rdT,hs,hok,Fet,Ty,FOk,JC,J6]
def Af3 {d:TypeDesc} (h:Z7 d=true):(∃ e,d= .slice e)\/d= .string:=by unfold Z7 at h;split at h<;>simp_all
def y7 {t u ty e n sLen sCap:Nat} {i:TypeInfo} {du:TypeDesc} {base:Option Addr} {y:Value} {news:List Value} {w':World} (hu:P.underlying t=some (.slice e)) (hu2:P.underlying u=some du) (hdu:Z7 du=true) (hi:P.info? e=some i)
 (hlen:(Builtin.lenOf y).run P w= .ok n w) (hnew:(Builtin.firstCells i.size n y).run P w= .ok news.toArray w) (hle:sLen+n<=sCap)
 (hst:match base with | some ad=>(storeCells (ad.add (sLen*i.size)) news).run P w= .ok () w' | none=>w'=w) :
 (Builtin.append_ #[t,u] ty #[.slice base sLen sCap,y]).run P w= .ok (.slice base (sLen+n) sCap) w':=by
 rcases Af3 hdu with ⟨e',rfl⟩ | rfl
 .cases base with
  | none=>subst hst;simp [Builtin.append_,Ew hu,Ew hu2,sizeOf,typeInfo,hi,hlen,hnew,hle]
  | some ad=>dsimp only at hst;simp [Builtin.append_,Ew hu,Ew hu2,sizeOf,typeInfo,hi,hlen,hnew,hle,hst]
 .cases base with
  | none=>subst hst;simp [Builtin.append_,Ew hu,Ew hu2,sizeOf,typeInfo,hi,hlen,hnew,hle]
  | some ad=>dsimp only at hst;simp [Builtin.append_,Ew hu,Ew hu2,sizeOf,typeInfo,hi,hlen,hnew,hle,hst]
def rY {t u ty e n sLen sCap:Nat} {i:TypeInfo} {z:Value} {du:TypeDesc} {base:Option Addr} {y:Value} {olds news:List Value} (hu:P.underlying t=some (.slice e)) (hu2:P.underlying u=some du) (hdu:Z7 du=true) (hi:P.info? e=some i) (hz:i.zero=some z)
 (hlen:(Builtin.lenOf y).run P w= .ok n w) (hold:(Builtin.firstCells i.size sLen (.slice base sLen sCap)).run P w.drew= .ok olds.toArray w.drew) (hnew:(Builtin.firstCells i.size n y).run P w.drew= .ok news.toArray w.drew) (hgt:sCap<sLen+n)
 (hb:(sLen+n)*i.bytes<=140737488355328) (h0:0<i.bytes\/((sLen+n:Nat):Int)<=9223372036854775807) :
 (Builtin.append_ #[t,u] ty #[.slice base sLen sCap,y]).run P w =
   .ok (.slice (some (at' w.heap.size 0)) (sLen+n) (grownCap w (sLen+n) sCap e)) (w.drew.alloc (.cells (olds.toArray++news.toArray++Builtin.zeroCells z.cells (grownCap w (sLen+n) sCap e - (sLen+n))) e)):=by
 have hn: ¬(sLen+n<=sCap):=by omega
 have hfit:=growslice_fits hgt hb;have h48': ¬(281474976710656<Builtin.nextslicecap (sLen+n) sCap*i.bytes):=by omega
 have h63: ¬(((sLen:Int)+(n:Int))>9223372036854775807/\i.bytes=0):=by
  rintro ⟨ha,hb'⟩;rcases h0 with h0 | h0
  .omega
  .rw[Int.natCast_add]at h0;omega
 have h63': ¬(9223372036854775807<((sLen:Int)+(n:Int))/\i.bytes=0):=h63;rcases Af3 hdu with ⟨e',rfl⟩ | rfl
 .simp [Builtin.append_,Ew hu,Ew hu2,sizeOf,typeInfo,zeroValue,hi,hz,hlen,hn,h63',h48',Question.forced,hold,hnew,newRow,grownCap];all_goals grind[apply]
 .simp [Builtin.append_,Ew hu,Ew hu2,sizeOf,typeInfo,zeroValue,hi,hz,hlen,hn,h63',h48',Question.forced,hold,hnew,newRow,grownCap];all_goals grind[apply]
end
section
variable {P:Program} {C:Ctx} {V0:Nat->Value} {O0 O:Own} {w0 w:World} {m:Nat->Value} {st:St} {a:Act} {o:Oper}
def Afu {sz cap:Nat} {es ns:List (List A)} {olds news:List Value} {z:Array Value} (hes: ∀ x∈es,x.length=sz) (hns: ∀ x∈ns,x.length=sz) (hol:olds.length=es.length*sz) (hnl:news.length=ns.length*sz) (hz:z.size=sz) (hcap:es.length+ns.length<=cap)
 (ho: ∀ i j,i<es.length->j<sz->J5 O w (olds.getD (i*sz+j) undef) ((es.getD i []).getD j .undef)) (hn: ∀ i j,i<ns.length->j<sz->J5 O w (news.getD (i*sz+j) undef) ((ns.getD i []).getD j .undef)) :
 (olds.toArray++news.toArray++Builtin.zeroCells z (cap - (es.length+ns.length))).size=cap*sz/\Held O w (olds.toArray++news.toArray++Builtin.zeroCells z (cap - (es.length+ns.length))) sz (es++ns):=by
 refine⟨?_,λx hx=>(DN.1 hx).elim (hes x) (hns x),λi j hi hj=> ?_⟩
 .simp only[Array.size_append,List.size_toArray,hol,hnl,size_zeroCells,hz];rw[<- Et,<- Et];congr 1;omega
 .rw[Dp]at hi;by_cases hil:i<es.length
  .have hlt:i*sz+j<es.length*sz:=by
    have:(i+1)*sz<=es.length*sz:=DY _ hil;rw[Et]at this;omega
   refine⟨olds.getD (i*sz+j) undef,?_,?_⟩
   .rw[Jk,EJ (by simp;omega)];all_goals simp_all[J5,Held]
   .have e1:(es++ns).getD i []=es.getD i []:=by
     all_goals simp_all[J5,Held]
    rw[e1];exact ho i j hil hj
  .obtain⟨i',rfl⟩: ∃ i',i=es.length+i':=⟨i - es.length,by omega⟩
   have hi':i'<ns.length:=by omega
   have hlt:i'*sz+j<ns.length*sz:=by have:(i'+1)*sz<=ns.length*sz:=DY _ hi';rw[Et]at this;omega
   have hidx:(es.length+i')*sz+j=es.length*sz+(i'*sz+j):=by rw[Et];omega
   refine⟨news.getD (i'*sz+j) undef,?_,?_⟩
   .rw[hidx,Jk,FB (by simp;omega),EJ (by simp;omega)];all_goals simp_all[J5,Held]
   .have e1:(es++ns).getD (es.length+i') []=ns.getD i' []:=by
     all_goals simp_all[J5,Held]
    rw[e1];exact hn i' j hi' hj
def Asz (w:World) (b k:Nat):w.drew.cell? (at' b k)=w.cell? (at' b k):=rfl
def AcU {c:Call} {s y:Operand} {t u e:Nat} {te tu:TI} {ti:TI} (hC:TOk P C) (hS:Sim V0 O0 w0 O m st a w) {d:Tmp} (hd:o.dst=some d) (ho:o.op= .call c) (hcal:c.callee= .builtin .append) (hargs:c.args= #[s,y]) (hty:c.argTypes.toList=[t,u])
 (ht:C.T t=some ti) (hte:ti.d= .slice e) (hte':C.T e=some te) (htu:C.T u=some tu) (hsl:Z7 tu.d=true) {frz:Bool} {l l':Sl} {ns:List (List A)} {news:List Value} {del:List Nat}
 (hsrc:Src P O w te.cs.length (a.eval y) ns news) (h0:0<te.cs.length) (hb:(l.es.length+ns.length)*(te.bytes+1)<=140737488355328) (hfresh:Qk st (b2 d))
 (hel:l'.es=l.es++ns) (hls:l.sz=te.cs.length) (hls':l'.sz=te.cs.length)
 (hx:(True/\l.es=[]/\a.eval s= .slice none 0 0)\/(True/\ ∃ q g cap cur,del=[q]/\J3 st.Jr q=some (.arr e frz l)/\m q= .slice (some (at' g 0)) l.es.length cap/\a.eval s= .slice (some (at' g 0)) l.es.length cap/\NM w g cur e)) :
 ∀(next:Act->World->Prop) (Q:Exit->Act->World->Prop),(∀ O' m' a' w',Sim V0 O0 w0 O' m' {tmps:=st.tmps.set d (.own (b2 d)),Jr:=JH (KC st.Jr del) [(b2 d,.arr e frz l')]} a' w'->next a' w')->o.wp P a w next Q:=by
 intro next Q hn
 have hat:c.argTypes= #[t,u]:=by have:=congrArg List.toArray hty;simpa using this
 have hu:=(hC.is ht).d;rw[hte]at hu;have hu2:=(hC.is htu).d;have hT:=hC.is hte';obtain⟨i,z,g1,g2,g3,g4,g5,g6⟩:=hT.i;have hzs:z.cells.size=te.cs.length:=by rw[<- Array.length_toList];exact(We (O:=O) (Jr:=[]) (m:=λ_=>undef) (w:=w) _ _ g5).1
 have hbb:(l.es.length+ns.length)*te.bytes<=140737488355328/\l.es.length+ns.length<=140737488355328:=by rw[AzR,F6]at hb;omega
 have hexec: ∀ v w',(Builtin.append_ #[t,u] o.type #[a.eval s,a.eval y]).run P w= .ok v w'->(execOp a.eval o).run P w= .ok (.value v) w':=by
  intro v w' h;simp only[execOp,ho,resolve,hcal,hargs,hat,DL,Sem.run_pure,Result.andThen_ok,invoke,builtin];have:(#[s,y].map a.eval)= #[a.eval s,a.eval y]:=by simp
  rw[this,h];rfl
 have hlen:=hsrc.len w;have hcells:=hsrc.cells w (λ_ _ _ h=>h);have hcells':=hsrc.cells w.drew (λ_ _ _ h=>h);rcases hx with ⟨_,hes,hsv⟩ | ⟨_,q,g,cap,cur,hdel,hq,hmq,hsv,hg⟩
 .rw[hes]at hel hbb;simp only[List.nil_append]at hel;simp only[List.length_nil,DV]at hbb;by_cases hn0:ns.length=0
  .have hns:ns=[]:=FU hn0;have:=y7 (P:=P) (w:=w) (w':=w) (t:=t) (u:=u) (ty:=o.type) (base:=none) (sLen:=0) (sCap:=0) (news:=news) hu hu2 hsl g1 hlen (by rw[g2];exact hcells) (by simp [hn0]) rfl;rw[<- hsv,hn0]at this;unfold Oper.wp;rw[hexec _ _ this,Oper.upon_value,hd];obtain⟨t',xs'⟩:=l';have hxs:xs'=[]:=Ag1 (l:=⟨t',xs'⟩) (by rw[hel,hns]);subst hxs;obtain⟨O',m',h⟩:=vK hS (d:=d) (e:=e) (t:=t') (frz:=frz) (del:=del) hfresh;exact hn O' m' _ _ h
  .have:=rY (P:=P) (w:=w) (t:=t) (u:=u) (ty:=o.type) (base:=none) (sLen:=0) (sCap:=0) (olds:=[]) (news:=news) hu hu2 hsl g1 g4 hlen rfl (by rw[g2];exact hcells') (by omega) (by rw[g3];simpa using hbb.1) (.inr (by have:=hbb.2;omega));rw[<- hsv]at this;unfold Oper.wp;rw[hexec _ _ this,Oper.upon_value,hd];have hge:=grownCap_ge w (0+ns.length) 0 e;obtain⟨k1,k2⟩:=Afu (O:=O) (w:=w) (cap:=grownCap w (0+ns.length) 0 e) (z:=z.cells) (es:=[]) (olds:=[]) (by simp) hsrc.each (by simp) hsrc.size hzs (by simpa using hge) (λi j hi=>by simp at hi) hsrc.rel;obtain⟨O',m',h⟩:=YA hS (Moves.drew _ _ w) rfl (d:=d) (e:=e) (cap:=grownCap w (0+ns.length) 0 e) (frz:=frz) (l:=l') (del:=del) (by rw[hel];simpa using hge) (grownCap_le_maxLen w _ _ _ (by unfold maxLen;have:=hbb.2;omega)) (by rw[hls'];exact k1) (by rw[hls',hel];exact k2) hfresh;refine hn O' m' _ _ ?_;rw[hel]at h;simpa using h
 .subst hdel;obtain⟨hsz,hr⟩:=hS.Jr q _ hq;rw[hls]at hsz
  obtain⟨g',cap',cur',h2,h3,h4,h5,h6,h7,h8,h9⟩: ∃ g' cap' cur',m q= .slice (some (at' g' 0)) l.es.length cap'/\NM w g' cur' e/\l.es.length<=cap'/\cap'<=maxLen/\cur'.size=cap'*te.cs.length /\
   (∀ i j,i<l.es.length->j<te.cs.length-> ∃ u,cur'[i*te.cs.length+j]? =some u/\J5 O w u ((l.es.getD i []).getD j .undef))/\(∀ k,k<cur'.size->l.es.length*te.cs.length<=k->O g' k=some q)/\(∀ k,k<l.es.length*te.cs.length->O g' k=if frz then none else some q):=by
   rcases hr with ⟨_,_,h⟩ | ⟨_,h⟩
   .rw[hmq]at h;cases h
   .rw[hls]at h;exact h
  rw[hmq]at h2;injection h2 with h2 _ hcc;injection h2 with h2;injection h2 with h2;subst h2;subst hcc;obtain⟨h3,_⟩:=hg.inj h3;subst h3;by_cases hroom:l.es.length+ns.length<=cap
  .have hst:(storeCells ((at' g 0).add (l.es.length*i.size)) news).run P w= .ok () (w.setCells g (l.es.length*te.cs.length) news):=by
    rw[Si,DV,g2];have hmul:(l.es.length+ns.length)*te.cs.length<=cap*te.cs.length:=DY _ hroom;rw[Et]at hmul
    have:=run_storeCells_cells (P:=P) g (l.es.length*te.cs.length) news 0 w (λj hj=>by
     rw[hg.cell];rw[hsrc.size]at hj;have hlt:l.es.length*te.cs.length+j<cur.size:=by omega
     simp [hlt]) (λj hj=>by rw[hsrc.size]at hj;exact hg.frozen (by omega)) (hsrc.one h0)
    simpa using this
   have:=y7 (P:=P) (w:=w) (t:=t) (u:=u) (ty:=o.type) (base:=some (at' g 0)) (sLen:=l.es.length) (sCap:=cap) (news:=news) hu hu2 hsl g1 hlen (by rw[g2];exact hcells) hroom hst;rw[<- hsv]at this;unfold Oper.wp;rw[hexec _ _ this,Oper.upon_value,hd];obtain⟨O',m',h⟩:=AnA hS hq hmq hg hroom hel (by rw[hls',hls]) (by rw[hls];exact hsrc.size) (by rw[hls];exact hsrc.each) (by rw[hls];exact hsrc.rel) hfresh;rw[hls]at h;exact hn O' m' _ _ h
  .have hcur: ∀ k,k<l.es.length*te.cs.length-> ∃ u,cur[k]? =some u:=by
    intro k hk;have:l.es.length*te.cs.length<=cap*te.cs.length:=DY _ h4;exact⟨cur[k]'(by omega),by simp [show k<cur.size from by omega]⟩
   let olds:List Value:=(List.range (l.es.length*te.cs.length)).map λk=>cur.getD k undef;have hold:(Builtin.firstCells i.size l.es.length (.slice (some (at' g 0)) l.es.length cap)).run P w.drew= .ok olds.toArray w.drew:=by simp only[Builtin.firstCells,g2];exact run_loadCells (P:=P) w.drew (at' g 0) (l.es.length*te.cs.length) (λk=>cur.getD k undef) (λk hk=>by obtain⟨u,hu'⟩:=hcur k hk;rw[Si,DV,Asz,hg.cell];rw[Dv,hu'];rfl)
   have:=rY (P:=P) (w:=w) (t:=t) (u:=u) (ty:=o.type) (base:=some (at' g 0)) (sLen:=l.es.length) (sCap:=cap) (olds:=olds) (news:=news) hu hu2 hsl g1 g4 hlen hold (by rw[g2];exact hcells') (by omega) (by rw[g3];exact hbb.1) (.inr (by have:=hbb.2;omega));rw[<- hsv]at this;unfold Oper.wp;rw[hexec _ _ this,Oper.upon_value,hd];have hge:=grownCap_ge w (l.es.length+ns.length) cap e
   obtain⟨k1,k2⟩:=Afu (O:=O) (w:=w) (cap:=grownCap w (l.es.length+ns.length) cap e) (z:=z.cells) (es:=l.es) (olds:=olds) hsz hsrc.each (by simp [olds]) hsrc.size hzs hge (λi j hi hj=>by
    obtain⟨u,h10,h11⟩:=h7 i j hi hj;have hlt:i*te.cs.length+j<l.es.length*te.cs.length:=by have:(i+1)*te.cs.length<=l.es.length*te.cs.length:=DY _ hi;rw[Et]at this;omega
    have e1:olds.getD (i*te.cs.length+j) undef=u:=by simp [olds,Dn,hlt,h10]
    rw[e1];exact h11) hsrc.rel
   obtain⟨O',m',h⟩:=YA hS (Moves.drew _ _ w) rfl (d:=d) (e:=e) (cap:=grownCap w (l.es.length+ns.length) cap e) (frz:=frz) (l:=l') (del:=[q]) (by rw[hel,Dp];exact hge) (grownCap_le_maxLen w _ _ _ (by unfold maxLen;have:=hbb.2;omega)) (by rw[hls'];exact k1) (by rw[hls',hel];exact k2) hfresh;rw[hel,Dp]at h;exact hn O' m' _ _ h
end
section
variable {P:Program} {C:Ctx} {V0:Nat->Value} {O0 O:Own} {w0 w:World} {m:Nat->Value} {st:St} {a:Act} {o:Oper}
def Anu {c:Call} {s y:Operand} {t u:Nat} {tu:TI} (hC:TOk P C) (hS:Sim V0 O0 w0 O m st a w) {d:Tmp} (hd:o.dst=some d) (ho:o.op= .call c) (hcal:c.callee= .builtin .append) (hargs:c.args= #[s,y]) (hty:c.argTypes.toList=[t,u])
 (htu:C.T u=some tu) (hsl:Z7 tu.d=true) {fet:Fet} (hf:P8 st.Jr fet) {x' y':A} (hx:JC O st.Jr m w (a.eval s) x') (hy:JC O st.Jr m w (a.eval y) y')
 (hok:J6 (pJ C fet d t x' y').ok) (hfr: ∀ p∈(pJ C fet d t x' y').new,st.fresh p.1=true):Good P V0 O0 w0 (apply st o (pJ C fet d t x' y')) o a w:=by
 intro next Q hn
 have hF:FOk O st.Jr m w fet:=λq x h=>⟨hf q x h,hS.Jr q x (hf q x h)⟩
 unfold pJ at *
 obtain⟨ti,e,te,ht,hte,hd',he⟩:=XM hok;rw[he]at hok hfr hn;clear he;split at hok
 .rename_i q;obtain⟨r,hr,he⟩:=JU hok;rw[he]at hok;dsimp only at hfr hn;rw[he]at hfr hn;clear he;obtain⟨hok1,hok2⟩:=hok.append;obtain⟨h1,h2⟩:=hok2.cons;obtain⟨h2,h3⟩:=h2.cons;obtain⟨h3,h4⟩:=h3.cons;have h1:=Dx h1;have h2:=Dx h2;have h3:0<te.cs.length:=by rw[<- h2];simpa [EF]using h3
  have h2:r.l.t.len=te.cs.length:=h2;have h4:(r.l.xs.length+(Rk fet r.l.t y').2.length)*(te.bytes+1)<=140737488355328:=by simpa using h4.cons.1
  obtain⟨news,hsrc⟩:=src_of (P:=P) hF hy hok1;have hq:=NP hr;obtain⟨hv,hO⟩:=hx.own hF hq;have hq':=hf _ _ hq;rw[h2]at hsrc;refine AcU (frz:=r.frz) (l:=r.l) (l':=⟨r.l.t,r.l.xs++(Rk fet r.l.t y').2⟩) (del:=[q]) hC hS hd ho hcal hargs hty ht hte hd' htu hsl hsrc h3 (by rw[Sl.KT,Sl.KT];exact h4) (NQ (hfr _ Dy)) (Sl.As5 _ _ _) h2 h2 ?_ next Q (λO' m' a' w' h=>hn O' m' a' w' ?_)
  .rcases hO.2 with ⟨h5,h6,h7⟩ | ⟨h5,g,cap,cur,h6,h7,_⟩
   .exact .inl ⟨h5,h6,by rw[hv,h7]⟩
   .refine .inr ⟨h5,q,g,cap,cur,rfl,?_,h6,by rw[hv,h6],?_⟩
    .rw[hq',h1]
    .rw[h1];exact h7
  .rw[X0 hd];rw[h1]at h;exact h
 .obtain⟨hok1,hok2⟩:=hok.append;obtain⟨h3,h4⟩:=hok2.cons;have h3:0<te.cs.length:=by simpa [EF]using h3
  have h4:(Rk fet (tyl te.cs) y').2.length*(te.bytes+1)<=140737488355328:=by simpa using h4.cons.1
  obtain⟨news,hsrc⟩:=src_of (P:=P) hF hy hok1;rw[WM]at hsrc;refine AcU (frz:=false) (l:=⟨tyl te.cs,[]⟩) (l':=⟨tyl te.cs,(Rk fet (tyl te.cs) y').2⟩) (del:=[]) hC hS hd ho hcal hargs hty ht hte hd' htu hsl hsrc h3 (by rw[Sl.As7,Sl.KT];simpa using h4) (NQ (hfr _ Dy)) (by rw[Sl.As7];rfl) (WM _) (WM _) (.inl ⟨trivial,rfl,hx⟩) next Q (λO' m' a' w' h=>hn O' m' a' w' ?_)
  rw[X0 hd];exact h
 .exact(JJ hok).elim
def ApG {t:Nat} {x:Operand} (hC:TOk P C) (hS:Sim V0 O0 w0 O m st a w) {d:Tmp} (hd:o.dst=some d) (ho:o.op= .box t x) {x':A} (hx:JC O st.Jr m w (a.eval x) x') (hids: ∀ i∈x'.ids,i∈st.ids\/(J3 st.Jr i).isSome)
 (hok:J6 (X3 C d t x').ok) (hfr: ∀ p∈(X3 C d t x').new,st.fresh p.1=true) (hnd:nodup ((X3 C d t x').new.map (·.1))=true):Good P V0 O0 w0 (apply st o (X3 C d t x')) o a w:=by
 refine AkX hC hS hx hids hd (λti ht hv hs=> ?_) hok hfr hnd;simp only[execOp,ho,Instr.box,newVar,newRow,DL];rfl
def AkR {t:Nat} {ti:TI} (hC:TOk P C) (hS:Sim V0 O0 w0 O m st a w) {d:Tmp} (hd:o.dst=some d) (ho:o.op= .alloc t) (ht:C.T t=some ti)
 (hok:J6 (X3 C d t (.agg (ti.cs.map CK.zero))).ok) (hfr: ∀ p∈(X3 C d t (.agg (ti.cs.map CK.zero))).new,st.fresh p.1=true) (hnd:nodup ((X3 C d t (.agg (ti.cs.map CK.zero))).new.map (·.1))=true) :
 Good P V0 O0 w0 (apply st o (X3 C d t (.agg (ti.cs.map CK.zero)))) o a w:=by
 obtain⟨i,z,h1,h2,_,h3⟩:=Anm (O:=O) (Jr:=st.Jr) (m:=m) (w:=w) (hC.is ht);refine AkX (v:=.agg z.cells) (x:=.agg (ti.cs.map CK.zero)) hC hS ⟨z.cells,rfl,h3.1,h3.2⟩ (λj hj=> ?_) hd (λti ht hv hs=> ?_) hok hfr hnd
 .exfalso
  have: ∀ ks:List CK,(ks.map CK.zero).flatMap A.Nu=[]:=by
   intro ks
   induction ks with
   | nil=>rfl
   | cons k ks ih=>rw[Em,Fq,ih];cases k<;>rfl
  have hj':j∈(ti.cs.map CK.zero).flatMap A.Nu:=hj;rw[this]at hj';cases hj'
 .simp only[execOp,ho,Instr.alloc,DL,zeroValue,typeInfo,run_program,Result.andThen_ok,h1,h2,Sem.run_pure,newVar,newRow];rfl
def AbD {t:Nat} {ti:TI} (hT:Xz P t ti) {v:Value} {b k:Nat} (hs:v.cells.size=ti.cs.length) (h1: ∀ j,j<v.cells.size->(v.cells.getD j undef).oneCell'=true) (hc: ∀ j,j<v.cells.size->(w.cell? (at' b (k+j))).isSome=true) (hf: ∀ j,j<v.cells.size->w.frozen? (at' b (k+j))=false) :
 (storeVar t (at' b k) v).run P w= .ok () (w.setCells b k v.cells.toList):=by
 have:=run_storeCells_cells (P:=P) b k v.cells.toList 0 w (λj hj=>by simpa using hc j (by simpa using hj)) (λj hj=>by simpa using hf j (by simpa using hj)) (λu hu=>by obtain⟨j,hj,he⟩:=FP.1 hu;have:=h1 j (by simpa using hj);rw[Dv,En (by simpa using hj)]at this;rw[<- he];simpa using this);unfold storeVar;simp only[DL,hT.OX,Result.andThen_ok];all_goals simp_all[hs,at']
def Akj {t:Nat} {x y:Operand} (hC:TOk P C) (hS:Sim V0 O0 w0 O m st a w) (hd:o.dst=none) (ho:o.op= .store t x y) {fet:Fet} (hf:P8 st.Jr fet) {q off:Nat} {v':A} (hx:JC O st.Jr m w (a.eval x) (.ptr q off)) (hy:JC O st.Jr m w (a.eval y) v')
 (hids: ∀ i∈v'.ids,i∈st.ids\/(J3 st.Jr i).isSome)
 (hok:J6 (VW C fet t (.ptr q off) v').ok) (hfr: ∀ p∈(VW C fet t (.ptr q off) v').new,st.fresh p.1=true) (hnd:nodup ((VW C fet t (.ptr q off) v').new.map (·.1))=true):Good P V0 O0 w0 (apply st o (VW C fet t (.ptr q off) v')) o a w:=by
 intro next Q hn
 have hF:FOk O st.Jr m w fet:=λq x h=>⟨hf q x h,hS.Jr q x (hf q x h)⟩
 unfold VW at *
 obtain⟨ti,ht,he⟩:=KF hok;rw[he]at hok hfr hnd hn;clear he;dsimp only at hok hfr hnd hn;obtain⟨cs,hcs,he⟩:=JU hok;rw[he]at hok hfr hnd hn;clear he;obtain⟨h1,h2⟩:=hok.cons;obtain⟨h2,h3⟩:=h2.cons;have h2:=Dx h2;obtain⟨h3,h30⟩:=h3.cons;have h3:=DR h3;have h30:0<ti.cs.length:=by simpa [EF]using h30.cons.1
 have hT:=hC.is ht;obtain⟨b,base,g1,g2,g3⟩:=hx.ptr hF (Lj hcs);have hq:=hf _ _ (Lj hcs);have hvc:=hy.cells h1;have hvs:v'.cells.length=ti.cs.length:=h2;have hsz:(a.eval y).cells.size=ti.cs.length:=by rw[hvc.1,h2]
 have hr:(execOp a.eval o).run P w= .ok .skip (w.setCells b (base+off) (a.eval y).cells.toList):=by
  have:=AbD (P:=P) (w:=w) (b:=b) (k:=base+off) hT hsz (λj hj=>(hvc.2 j (by rw[<- hvc.1];exact hj)).one) (λj hj=>by
   obtain⟨_,_,u,g4,_⟩:=g3 (off+j) (by omega);rw[EE,g4];rfl) (λj hj=>by
   obtain⟨_,g4,_⟩:=g3 (off+j) (by omega);rw[EE];exact g4)
  simp only[execOp,ho,Instr.storeAt,Instr.sureAddr,g2,DL,Sem.run_pure,Result.andThen_ok,this]
 unfold Oper.wp;rw[hr,Oper.upon_skip];obtain⟨_,_,u0,hu0,_⟩:=g3 off (by omega)
 obtain⟨c,e,fr,hblk⟩: ∃ c e fr,w.heap[b]? =some (.cells c e fr):=by
  unfold World.cell? at hu0;dsimp only at hu0;split at hu0
  .rename_i c e fr hh;exact⟨c,e,fr,hh⟩
  .cases hu0
 have hcell: ∀ k u,w.cell? (at' b k)=some u->c[k]? =some u:=by intro k u hu;simp only[World.cell?,hblk]at hu;simpa using hu
 have hend:base+off+(a.eval y).cells.toList.length<=c.size:=by rw[Array.length_toList,hsz];obtain⟨_,_,u,hu,_⟩:=g3 (off+(ti.cs.length - 1)) (by omega);have:=hcell _ _ hu;have:=(DX.1 this).1;omega
 obtain⟨c',k1,k2,k3,k4,k5,k6,k7,k8⟩:=dV b (a.eval y).cells.toList (base+off) w hblk hend;rw[Array.length_toList,hsz]at k3;have hout: ∀ k,(k<base+off\/base+off+ti.cs.length<=k)->c'[k]? =c[k]? :=by all_goals grind[getD_eq]
 have hown: ∀ k,base+off<=k->k<base+off+ti.cs.length->O b k=some q:=by intro k hk1 hk2;have:=(g3 (k - base) (by omega)).1;rwa [show base+(k - base)=k from by omega]at this
 let w':=w.setCells b (base+off) (a.eval y).cells.toList
 have hM:Moves O (λi=>i=q) w w':=by
  refine Moves.row k6 k7 k8 k5 hblk k1 k4 k2 (λk hk=>hout k ?_) (.inl ⟨base+off,q,?_,hown _ (DD _) (by omega),rfl⟩)
  .rcases Eh k (base+off)with h | h
   .exact .inl h
   .right;rcases Eh k (base+off+ti.cs.length)with h' | h'
    .exact absurd rfl (hk q (hown k h h'))
    .exact h'
  .rw[Array.length_toList,hsz]at hend;omega
 have hP:Passes O O (λi=>i=q) w.heap.size:=⟨λ_ _ _ h=>h,λ_ _ _ _ h _=>h⟩
 have hpr:=hM.Kr hP;let ad:=Ll (MR fet q+1+off) ti.cs v'.cells;let m':Nat->Value:=λi=>if has (ad.2.map (·.1)) i then .slice none 0 0 else m i;let Nw:Nat->Prop:=λi=> ∃ p∈ad.2,p.1=i;have hNw: ∀ i,Nw i->Qk st i:=by rintro i ⟨p,hp,rfl⟩;exact NQ (hfr p hp)
 have hm_not: ∀ i,¬ Nw i->m' i=m i:=by intro i hi;refine Dt (λh=>hi ?_);obtain⟨p,hp,hpe⟩:=DK.1 (NF.1 h);exact⟨p,hp,hpe⟩
 have hmad: ∀ p∈ad.2,m' p.1= .slice none 0 0:=λp hp=>Du (NF.2 (DK.2 ⟨p,hp,rfl⟩));have hqN: ¬ Nw q:=λh=>by rw[(hNw q h).2]at hq;cases hq
 let objs':=JH (KC (JH st.Jr [(q,.box (splice cs off ad.1))]) []) ad.2;have hnewO: ∀ p∈ad.2,J3 objs' p.1=some p.2:=λp hp=>sQ hnd (by exact hp)
 have hget: ∀ i z,J3 objs' i=some z->(i,z)∈ad.2\/(¬ Nw i/\i=q/\z= .box (splice cs off ad.1))\/(¬ Nw i/\i≠q/\J3 st.Jr i=some z):=by
  intro i z hz;rcases Ye hz with h | ⟨hno,_,h⟩
  .exact .inl h
  .have hni: ¬ Nw i:=by rintro ⟨p,hp,rfl⟩;exact hno p.2 hp
   rcases h with h | ⟨hno',h⟩
   .simp only[Ec]at h;injection h with e1 e2;exact .inr (.inl ⟨hni,e1,e2⟩)
   .exact .inr (.inr ⟨hni,λhiq=>hno' (.box (splice cs off ad.1)) (by rw[hiq];exact List.mem_singleton_self _),h⟩)
 have hE:TC st.Jr m objs' m' Nw:=by
  intro i z hz;rcases hget i z hz with h | ⟨hni,h1',h2'⟩ | ⟨hni,_,h⟩
  .exact .inl ⟨_,h,rfl⟩
  .subst h1';subst h2';exact .inr ⟨_,hq,rfl,hm_not _ hni⟩
  .exact .inr ⟨z,h,rfl,hm_not _ hni⟩
 have hadl:ad.1.length=ti.cs.length:=by rw[(fC ti.cs v'.cells (MR fet q+1+off)).1,hvs]
 have happ:apply st o {ok:=[v'.isVal,Nat.beq v'.cells.length ti.cs.length,Nat.ble (off+ti.cs.length) cs.length,Nat.blt 0 ti.cs.length],val:=.undef,upd:=[(q,.box (splice cs off ad.1))],new:=ad.2}= {tmps:=put st.tmps none .undef,Jr:=objs'}:=by unfold apply;rw[hd]
 refine hn O m' _ _ ?_;rw[happ,hd];refine hS.next (st':= {tmps:=put st.tmps none .undef,Jr:=objs'}) (d:=none) (x:=.undef) (T:=λi=>i=q) (Nw:=Nw) hM hP (λb k _ h=>h) hE (λn hn'=>(hNw n hn').both) (λr hr=>by rw[hr,hq];rfl) (λi z hz=> ?_) rfl (λh=>absurd rfl h);rcases hget i z hz with h | ⟨hni,h1',h2'⟩ | ⟨hni,hiq,h⟩
 .right;obtain⟨⟨e',sz',h4⟩,_⟩:=(fC ti.cs v'.cells (MR fet q+1+off)).2.2 _ h;dsimp only at h4;subst h4;exact⟨⟨by simp [Sl.es],.inl ⟨trivial,rfl,hmad _ h⟩⟩,(hNw _ ⟨_,h,rfl⟩).ne⟩
 .right;subst h1';subst h2'
  have hcs':RZ O objs' m' w' (a.eval y).cells ad.1:=hvc.Ao5 (ks:=ti.cs) (id:=MR fet i+1+off) hpr hE (λj hj r hr' hn'=>by
   rcases hids r (zT h1 hj hr')with hh | hh
   .exact(hNw r hn').1 hh
   .rw[(hNw r hn').2]at hh;cases hh) (λp hp=>⟨hnewO p hp,hmad p hp⟩)
  refine⟨⟨b,base,by rw[hm_not _ hni];exact g1,λj hj=> ?_⟩,hS.ids _ _ hq⟩;rw[dW _ _ _ (by rw[hadl];omega)]at hj;obtain⟨g4,g5,u,g6,g7⟩:=g3 j hj;refine⟨g4,by rw[hM.frozen (cell_lt g6)];exact g5,?_⟩;rw[oP _ _ _ _ (by rw[hadl];omega),hadl];have hcell': ∀ k,w'.cell? (at' b k)=c'[k]? :=by intro k;simp only[World.cell?];rw[k1];rfl
  rw[hcell'];have hjs:base+j<c.size:=(DX.1 (hcell _ _ g6)).1;by_cases hin:off<=j/\j<off+ti.cs.length
  .rw[Du hin];refine⟨_,getD_eq,?_⟩;rw[k3,A0h];have e1:(a.eval y).cells.toList.getD (base+j - (base+off)) undef=(a.eval y).cells.getD (j - off) undef:=by rw[Dv,Dn,ET,show base+j - (base+off)=j - off from by omega]
   rw[e1];exact hcs'.2 (j - off) (by rw[hadl];omega)
  .rw[Dt hin,hout _ (by omega)];exact⟨u,hcell _ _ g6,g7.step hpr hE (λr hr' hn'=>(hNw r hn').1 (Y6 hq (Uy hj hr')))⟩
 .exact .inl ⟨hiq,h,hm_not _ hni⟩
end
section
variable {P:Program} {C:Ctx} {V0:Nat->Value} {O0 O:Own} {w0 w:World} {m:Nat->Value} {st:St} {a:Act} {o:Oper}
def AbC (hS:Sim V0 O0 w0 O m st a w) {q e g cap k0:Nat} {l l':Sl} {cur:Array Value} {vs:List Value} {xs:List A}
 (hq:J3 st.Jr q=some (.arr e false l)) (hm:m q= .slice (some (at' g 0)) l.es.length cap) (hg:NM w g cur e) (hln:l'.es.length=l.es.length) (hls:l'.sz=l.sz) (hle:k0+xs.length<=l.es.length*l.sz) (hl:vs.length=xs.length) (h0:0<xs.length)
 (hel: ∀ r j,r<l.es.length->j<l.sz->(l'.es.getD r []).getD j .undef=if k0<=r*l.sz+j/\r*l.sz+j<k0+xs.length then xs.getD (r*l.sz+j - k0) .undef else(l.es.getD r []).getD j .undef)
 (hv: ∀ j,j<xs.length->J5 O w (vs.getD j undef) (xs.getD j .undef)) :
 Sim V0 O0 w0 O m {st with Jr:=Ns st.Jr q (.arr e false l')} a (w.setCells g k0 vs):=by
 obtain⟨hsz,hr⟩:=hS.Jr q _ hq
 obtain⟨g',cap',cur',h2,h3,h4,h5,h6,h7,h8,h9⟩: ∃ g' cap' cur',m q= .slice (some (at' g' 0)) l.es.length cap'/\NM w g' cur' e/\l.es.length<=cap'/\cap'<=maxLen/\cur'.size=cap'*l.sz /\
  (∀ i j,i<l.es.length->j<l.sz-> ∃ u,cur'[i*l.sz+j]? =some u/\J5 O w u ((l.es.getD i []).getD j .undef))/\(∀ k,k<cur'.size->l.es.length*l.sz<=k->O g' k=some q)/\(∀ k,k<l.es.length*l.sz->O g' k=if false then none else some q):=by
  rcases hr with ⟨_,_,h⟩ | ⟨_,h⟩
  .rw[hm]at h;cases h
  .exact h
 rw[hm]at h2;injection h2 with h2 _ hcc;injection h2 with h2;injection h2 with h2;subst h2;subst hcc;obtain⟨h3,_⟩:=hg.inj h3;subst h3;obtain⟨fr,hg,hfr0⟩:=hg;have hmul:l.es.length*l.sz<=cap*l.sz:=DY _ h4;obtain⟨c',k1,k2,k3,k4,k5,k6,k7,k8⟩:=dV g vs k0 w hg (by rw[hl];omega);rw[hl]at k3;let w':=w.setCells g k0 vs;have hout: ∀ k,(k<k0\/k0+xs.length<=k)->c'[k]? =cur[k]? :=by all_goals grind[getD_eq]
 have hown: ∀ k,k<l.es.length*l.sz->O g k=some q:=by intro k hk;simpa using h9 k hk
 have hM:Moves O (λi=>i=q) w w':=by
  refine Moves.row k6 k7 k8 k5 hg k1 k4 k2 (λk hk=>hout k ?_) (.inl ⟨k0,q,by omega,hown _ (by omega),rfl⟩);rcases Eh k k0 with h | h
  .exact .inl h
  .right;rcases Eh k (k0+xs.length)with h' | h'
   .exact absurd rfl (hk q (hown k (by omega)))
   .exact h'
 have hP:Passes O O (λi=>i=q) w.heap.size:=⟨λ_ _ _ h=>h,λ_ _ _ _ h _=>h⟩
 have hpr:=hM.Kr hP;have hE:TC st.Jr m (Ns st.Jr q (.arr e false l')) m (λ_=>False):=by intro r y hy;all_goals grind[KO,Obj.shp]
 have:=hS.next (st':= {st with Jr:=Ns st.Jr q (.arr e false l')}) (d:=none) (v:=undef) (x:=.undef) (T:=λi=>i=q) (Nw:=λ_=>False) hM hP (λb k _ h=>h) hE (λ_ h=>h.elim) (λr hr=>by rw[hr,hq];rfl) (λr y hy=> ?_) rfl (λh=>absurd rfl h)
 .exact this
 .rw[KO]at hy;by_cases hrq:r=q
  .right;subst hrq;rw[Du rfl]at hy;injection hy with hy;subst hy;refine⟨?_,hS.ids _ _ hq⟩;simp only[Lm];rw[hln];refine⟨λx hx=>Sl.es_len _ x hx,.inr ⟨trivial,g,cap,c',hm,⟨fr,k1,by rw[k2];exact hfr0⟩,h4,h5,by rw[k2,hls];exact h6,λr' j hr' hj=> ?_,λk hk hge=> ?_,λk hk=> ?_⟩⟩
   .rw[hls]at hj ⊢;obtain⟨u,h10,h11⟩:=h7 r' j hr' hj;have hlt:r'*l.sz+j<l.es.length*l.sz:=by have:(r'+1)*l.sz<=l.es.length*l.sz:=DY _ hr';rw[Et]at this;omega
    rw[hel r' j hr' hj];by_cases hin:k0<=r'*l.sz+j/\r'*l.sz+j<k0+xs.length
    .rw[Du hin];refine⟨_,getD_eq,?_⟩;rw[k3,Du hin];exact(hv _ (by omega)).Kr hpr
    .rw[Dt hin,hout _ (by omega)];exact⟨u,h10,h11.Kr hpr⟩
   .rw[hls]at hge;rw[k2]at hk;exact h8 k hk hge
   .rw[hls]at hk;simpa using hown k hk
  .rw[Dt hrq]at hy;exact .inl ⟨hrq,hy,rfl⟩
def Aqi {t:Ty} {cs:List A} (h:(iC t cs).1=true):(⟨t,(iC t cs).2⟩:Sl).es=cs.map λc=>[c]:=by simp_all[iC,Sl.es,Ty.XA,Ty]
def Aor: ∀(l:List (Nat×Obj)) (u:List (Nat×Obj)) (p:Nat×Obj),JH l (u++[p])=Ns (JH l u) p.1 p.2:=by
 intro l u p
 induction u generalizing l with
 | nil=>rfl
 | cons s u ih=>exact ih _
def Akk {t:Nat} {x y:Operand} (hC:TOk P C) (hS:Sim V0 O0 w0 O m st a w) (hd:o.dst=none) (ho:o.op= .store t x y) {fet:Fet} (hf:P8 st.Jr fet) {q i off:Nat} {v':A} (hx:JC O st.Jr m w (a.eval x) (.Ku q i off)) (hy:JC O st.Jr m w (a.eval y) v')
 (hok:J6 (VW C fet t (.Ku q i off) v').ok):Good P V0 O0 w0 (apply st o (VW C fet t (.Ku q i off) v')) o a w:=by
 intro next Q hn
 unfold VW at *
 obtain⟨ti,ht,he⟩:=KF hok;rw[he]at hok hn;clear he;dsimp only at hok hn;obtain⟨r,hr,he⟩:=JU hok;rw[he]at hok hn;clear he
 have main: ∀(l':Sl) (δ :Dl),J6 (KQ fet ti.cs v'.cells).1->r.frz=false->has ((KQ fet ti.cs v'.cells).2.2.map (·.1)) q=false->i<r.l.es.length->i*r.l.sz+off+ti.cs.length<=r.l.es.length*r.l.sz->0<ti.cs.length ->
  l'.es.length=r.l.es.length->l'.sz=r.l.sz->(∀ r' j,r'<r.l.es.length->j<r.l.sz->(l'.es.getD r' []).getD j .undef=if i*r.l.sz+off<=r'*r.l.sz+j/\r'*r.l.sz+j<i*r.l.sz+off+(KQ fet ti.cs v'.cells).2.1.length then(KQ fet ti.cs v'.cells).2.1.getD (r'*r.l.sz+j - (i*r.l.sz+off)) .undef else(r.l.es.getD r' []).getD j .undef) ->
  δ = {ok:= δ.ok,val:=.undef,upd:=(KQ fet ti.cs v'.cells).2.2++[(q,.arr r.e false l')]}->(∀ O' m' a' w',Sim V0 O0 w0 O' m' (apply st o δ) a' w'->next a' w')->o.wp P a w next Q:=by
  intro l' δ hok1 h1 hno h3 hrow' h4 hln hls hel hδ hn;have hT:=hC.is ht;have hval:=vY hok1;have hvc:=hy.cells hval;obtain⟨g1,g2,g3,g4⟩:=XU hf ti.cs v'.cells (λj=>(a.eval y).cells.getD j undef) (λj hj=>hvc.2 j hj) hok1;obtain⟨O1,hS1,hp1,hle1,hv1,hE1,_⟩:=hS.freezes _ g3;have hq:=hf _ _ (NP hr);have hqU: ∀ p∈(KQ fet ti.cs v'.cells).2.2,p.1≠q:=by intro p hp he;have:has ((KQ fet ti.cs v'.cells).2.2.map (·.1)) q=true:=NF.2 (DK.2 ⟨p,hp,he⟩);rw[this]at hno;cases hno
  have hq1:J3 (JH st.Jr (KQ fet ti.cs v'.cells).2.2) q=some (.arr r.e false r.l):=by rw[Nl _ _ _ hqU,hq,h1]
  have hx':JG O st.Jr m w (a.eval x) (.Ku q i off):=hx;obtain⟨_,hx'⟩:=hx';rw[hq]at hx';simp only[Option.map_some,Obj.shp]at hx';obtain⟨g,n',cap,h5,h6⟩:=hx' h3;obtain⟨hsz,hr'⟩:=hS1.Jr q _ hq1
  obtain⟨cur,h7,h8⟩: ∃ cur,m q= .slice (some (at' g 0)) r.l.es.length cap/\NM w g cur r.e/\cur.size=cap*r.l.sz/\r.l.es.length<=cap:=by
   rcases hr' with ⟨_,h9,_⟩ | ⟨h9,g',cap',cur,h10,h11,h12,h13,h14,_⟩
   .rw[h9]at h3;simp at h3
   .have h10':=h10;rw[h5]at h10';injection h10' with q1 q2 q3;injection q1 with q1;injection q1 with q1;subst q1;subst q3;exact⟨cur,h10,h11,h14,h12⟩
  obtain⟨h8,h9,h10⟩:=h8;have hsz2:(a.eval y).cells.size=ti.cs.length:=by rw[hvc.1,g2]
  have hrow:i*r.l.sz+off+ti.cs.length<=cur.size:=by have:r.l.es.length*r.l.sz<=cap*r.l.sz:=DY _ h10;omega
  have hrun:(execOp a.eval o).run P w= .ok .skip (w.setCells g (i*r.l.sz+off) (a.eval y).cells.toList):=by
   have:=AbD (P:=P) (w:=w) (b:=g) (k:=i*r.l.sz+off) hT hsz2 (λj hj=>(hvc.2 j (by rw[<- hvc.1];exact hj)).one) (λj hj=>by
    have hlt:i*r.l.sz+off+j<cur.size:=by omega
    rw[h8.cell];simp [hlt]) (λj hj=>h8.frozen (by omega))
   simp only[execOp,ho,Instr.storeAt,Instr.sureAddr,h6,DL,Sem.run_pure,Result.andThen_ok,this]
  unfold Oper.wp;rw[hrun,Oper.upon_skip]
  have hfin:=AbC hS1 (k0:=i*r.l.sz+off) (l':=l') (vs:=(a.eval y).cells.toList) (xs:=(KQ fet ti.cs v'.cells).2.1) hq1 h7 h8 hln hls (by rw[g1];exact hrow') (by rw[Array.length_toList,hsz2,g1]) (by rw[g1];exact h4) hel (λj hj=>by
   rw[g1]at hj;have e1:(a.eval y).cells.toList.getD j undef=(a.eval y).cells.getD j undef:=by rw[Dv,Dn,ET]
   rw[e1];exact g4 hp1 hv1 j hj)
  refine hn O1 m _ _ ?_;have happ:apply st o δ = {tmps:=st.tmps,Jr:=Ns (JH st.Jr (KQ fet ti.cs v'.cells).2.2) q (.arr r.e false l')}:=by rw[hδ];unfold apply;rw[hd,Aor];rfl
  rw[happ,hd];exact hfin
 cases hrow:isRow ti r.l i off with
 | true =>
  rw[hrow]at hok hn;simp only[cond_true]at hok hn;obtain⟨hok1,hok2⟩:=hok.append;obtain⟨h1,h2⟩:=hok2.cons;obtain⟨hset,h2⟩:=h2.cons;obtain⟨h2,h3⟩:=h2.cons;obtain⟨_,h3⟩:=h3.cons;obtain⟨h4,hno⟩:=h3.cons;have hno:=hno.cons.1;simp only[isRow,Dw]at hrow;obtain⟨⟨⟨r4,r1⟩,r3⟩,r2⟩:=hrow;have r1:=Dx r1;have r2:=Dx r2;have r3:=Dx r3;have h2:=Dx h2;have h4:0<ti.cs.length:=by simpa [EF]using h4
  have hpl:(KQ fet ti.cs v'.cells).2.1.length=ti.cs.length:=(XU hf ti.cs v'.cells (λj=>(a.eval y).cells.getD j undef) (λj hj=>(hy.cells (vY hok1)).2 j hj) hok1).1;have hes:=Aqi hset;have hxl:ti.cs.length=r.l.es.length:=by rw[Sl.KT];exact h2
  subst r2;subst r3;refine main ⟨r.l.t,(iC r.l.t (KQ fet ti.cs v'.cells).2.1).2⟩ _ hok1 (by simpa using h1) (by simpa using hno) (by omega) (by rw[r1];omega) h4 (by rw[hes,D5,hpl,hxl]) rfl (λr' j hr' hj=> ?_) rfl hn;rw[r1]at hj ⊢;have:j=0:=by omega
  subst this;rw[hes,A0h];have e:r'*1+0 - (0*1+0)=r':=by omega
  rw[e];simp [Dn,show r'<(KQ fet ti.cs v'.cells).2.1.length by omega]
 | false =>
  rw[hrow]at hok hn;simp only[cond_false]at hok hn;obtain⟨hok1,hok2⟩:=hok.append;obtain⟨h1,h2⟩:=hok2.cons;obtain⟨hset,h2⟩:=h2.cons;obtain⟨h2,h3⟩:=h2.cons;obtain⟨h3,h4⟩:=h3.cons;obtain⟨h4,hno⟩:=h4.cons;have hno:=hno.cons.1;have h4:0<ti.cs.length:=by simpa [EF]using h4
  have h2:=DR h2;have h3':i<r.l.xs.length:=by simpa using h3
  have h3:i<r.l.es.length:=by rw[Sl.KT];exact h3'
  have hpl:(KQ fet ti.cs v'.cells).2.1.length=ti.cs.length:=(XU hf ti.cs v'.cells (λj=>(a.eval y).cells.getD j undef) (λj hj=>(hy.cells (vY hok1)).2 j hj) hok1).1;have hes:=Sl.AxL r.l h3' hset;have hmul: ∀ {x y:Nat},x<y->x*r.l.sz+r.l.sz<=y*r.l.sz:=λh=>by have:=DY r.l.sz h;rw[Nat.succ_mul]at this;exact this
  refine main (r.l.set i off (KQ fet ti.cs v'.cells).2.1).2 _ hok1 (by simpa using h1) (by simpa using hno) h3 (by have:=hmul h3;omega) h4 (by rw[hes,FN]) rfl (λr' j hr' hj=> ?_) rfl hn;have hei:(r.l.es.getD i []).length=r.l.sz:=Sl.es_len _ _ (by rw[Dn,D8 h3];simp);rw[hes];by_cases hri:r'=i
  .subst hri;have e1:(r.l.es.set r' (splice (r.l.es.getD r' []) off (KQ fet ti.cs v'.cells).2.1)).getD r' []=splice (r.l.es.getD r' []) off (KQ fet ti.cs v'.cells).2.1:=by simp [Dn,hr']
   rw[e1,oP _ _ _ _ (by omega)];by_cases hin:off<=j/\j<off+(KQ fet ti.cs v'.cells).2.1.length
   .rw[Du hin,A0h,show r'*r.l.sz+j - (r'*r.l.sz+off)=j - off from by omega]
   .rw[Dt hin,A0g]
  .have e1:(r.l.es.set i (splice (r.l.es.getD i []) off (KQ fet ti.cs v'.cells).2.1)).getD r' []=r.l.es.getD r' []:=by
    simp only[Dn,Gj];rw[Dt (λh=>hri h.symm)]
   rw[e1,Dt ?_];rcases Jh hri with h | h
   .have:=hmul h;omega
   .have:=hmul h;omega
def AtJ {fet:Fet} {t:Nat} {x l:Operand} (hC:TOk P C) (hf:FOk O st.Jr m w fet) (ho:o.op= .slice t x (some l) none none) {x' l':A} (hx:JC O st.Jr m w (a.eval x) x') (hl:JC O st.Jr m w (a.eval l) l')
 (hok:J6 (xC C fet t x' l').ok):Pure P O st.Jr m a w o (xC C fet t x' l'):=by
 unfold xC at hok ⊢;obtain⟨ti,ht,he⟩:=KF hok;rw[he]at hok ⊢;clear he;cases x' with
 | own q =>
  dsimp only at hok ⊢;obtain⟨ro,hro,he⟩:=JU hok;rw[he]at hok ⊢;clear he;obtain⟨n,hn,he⟩:=JU hok;rw[he]at hok ⊢;clear he;obtain⟨e,hel,he⟩:=JU hok;rw[he]at hok ⊢;clear he;obtain⟨te,hte,he⟩:=KF hok;rw[he]at hok ⊢;clear he;obtain⟨h1,h2⟩:=hok.cons;obtain⟨h2,h3⟩:=h2.cons;have h3:=h3.cons.1;have h1:=Dx h1;have h2:0<=n:=by simpa using h2
  obtain⟨k,rfl⟩:=EU h2;have h3:k<ro.l.es.length:=by all_goals grind[Sl.KT]
  obtain⟨kk,rfl⟩:=VM hn;have hl:=hl.int;obtain⟨h4,_,h5⟩:=hx.own hf (NP hro);have hg:=(hf _ _ (NP hro)).1;rcases h5 with ⟨_,h6,_⟩ | ⟨_,g,cap,cur,h6,h7,h8,_⟩
  .rw[h6]at h3;simp at h3
  .have hd:=Ur hel;have hu:=(hC.is ht).run w;rw[hd]at hu;have hs:=(hC.is hte).OX w
   have hb:(Instr.sliceBounds true ro.l.es.length cap (some (a.eval l)) none none).run P w= .ok (k,ro.l.es.length,cap) w:=by
    have:k<=ro.l.es.length:=by omega
    simp [Instr.sliceBounds,Instr.sliceBound,hl,asIntOf,this]
   refine⟨⟨.slice (some (at' g (k*ro.l.sz))) (ro.l.es.length - k) (cap - k),?_,?_⟩,rfl,rfl,rfl⟩
   .have hne: ¬ cap=k:=by omega
    simp only[execOp,ho,Instr.sliceAt,DL,hu,Result.andThen_ok,Instr.slice,h4,h6,Option.map_none,Option.map_some,hb,hs,Sem.run_pure,Dt hne,<- h1];simp [Si]
   .show JG O st.Jr m w _ (.osl q k);simp only[JG,hg,Option.map_some,Obj.shp];exact⟨rfl,λ_=>⟨g,cap,h6,rfl⟩⟩
 | _=>exact(JJ hok).elim
def Asr {c:Call} {x y:Operand} {ts':List Nat} (hC:TOk P C) (hS:Sim V0 O0 w0 O m st a w) (ho:o.op= .call c) (hcal:c.callee= .builtin .copy) (hargs:c.args= #[x,y]) (hts:c.argTypes.toList=ts') {fet:Fet} (hf:P8 st.Jr fet) {x' y':A}
 (hx:JC O st.Jr m w (a.eval x) x') (hy:JC O st.Jr m w (a.eval y) y') (hok:J6 (Akx C fet ts' x' y').ok):Good P V0 O0 w0 (apply st o (Akx C fet ts' x' y')) o a w:=by
 intro next Q hn
 unfold Akx at *
 split at hok
 .rename_i t u;dsimp only at hn;obtain⟨ti,e,te,ht,hte,hd',he⟩:=XM hok;rw[he]at hok hn;clear he;cases x' with
  | osl q k =>
   dsimp only at hok hn;obtain⟨r,hr,he⟩:=JU hok;rw[he]at hok hn;clear he;obtain⟨ys,hys,he⟩:=JU hok;rw[he]at hok hn;clear he;obtain⟨s,hs,he⟩:=JU hok;rw[he]at hok hn;clear he;obtain⟨h1,h2⟩:=hok.cons;obtain⟨h2,h3⟩:=h2.cons;obtain⟨h3,h4⟩:=h3.cons;obtain⟨h4,h5⟩:=h4.cons;have h5:k+s.length<=ys.length:=by simpa using h5.cons.1
   have h40:0<s.length:=by simpa using h4
   have hz:r.frz=false:=by simpa using h3
   clear h3;have h2:=Dx h2;have:=AbE hs;subst this;have hrl:=Sl.QK hys;clear hys;obtain⟨ys,rfl⟩: ∃ zs:List Int,zs=ys:=⟨ys,rfl⟩
   obtain⟨re,rf,rl⟩:=r;have h5':k+s.length<=ys.length:=h5;clear h5;dsimp only at hrl hz hn;subst hrl;subst hz;have hq:=hf q _ (NP hr);dsimp only at hq;have hes: ∀ zs:List Int,(⟨Tq,zs⟩:Sl).es=zs.map λz=>[A.int .u8 z]:=λzs=>rfl;have hlen:(⟨Tq,ys⟩:Sl).es.length=ys.length:=by rw[hes,D5]
   obtain⟨bs,hb,hbl⟩:=hy.str;have hsz:bs.size=s.length:=by rw[Vj,hbl]
   obtain⟨_,hrow⟩:=hS.Jr q _ hq;have hx':JG O st.Jr m w (a.eval x) (.osl q k):=hx;simp only[JG,hq,Option.map_some,Obj.shp]at hx';obtain⟨g,cap,g1,g2⟩:=hx'.2 (by rw[hlen];omega);rcases hrow with ⟨_,h6,_⟩ | ⟨_,g',cap',cur,k1,k2,k3,k4,k5,k6,k7,k8⟩
   .rw[hes]at h6;have h6:=congrArg List.length h6;rw[D5,List.length_nil]at h6;omega
   .rw[g1]at k1;injection k1 with q1 q2 q3;injection q1 with q1;injection q1 with q1;subst q1;subst q3;have hszb:(⟨Tq,ys⟩:Sl).sz=1:=rfl;rw[hszb]at g2 k5 k7 k8;rw[hlen]at g2 k3 k7 k8;let vs:List Value:=bs.data.toList.map λb=>Value.int .u8 (b.toNat:Int);have hvl:vs.length=s.length:=by show(List.map _ _).length=_;rw[D5,<- hbl]
    have hfit:k+s.length<=cur.size:=by omega
    have hst:=run_storeCells_cells (P:=P) g k vs 0 w (λj hj=>by
     rw[Nat.add_zero];have:k+j<cur.size:=by omega
     have:=k2.cell (k+j);rw[this,En (by omega)];rfl) (λj hj=>by rw[Nat.add_zero];exact k2.frozen (by omega)) (λv hv=>by obtain⟨b,_,rfl⟩:=DK.1 hv;rfl)
    have hu:=(hC.is ht).run w;rw[hte]at hu;have hsize:=(hC.is hd').OX w;have hmin:Nat.min s.length (ys.length - k)=s.length:=Iz (by omega);have hfc:(Builtin.firstCells te.cs.length s.length (.string bs)).run P w= .ok vs.toArray w:=by rw[<- hsz];simp [Builtin.firstCells,vs];rw[<- Ho];simp
    have hat:c.argTypes= #[t,u]:=by have:=congrArg List.toArray hts;simpa using this
    have hrun:(execOp a.eval o).run P w= .ok (.value (.int .i64 (s.length:Int))) (w.setCells g k vs):=by simp only[execOp,ho,resolve,hcal,hargs,hat,invoke,builtin,Builtin.copy_];simp [hu,g2,hb,Builtin.lenOf,hsize,hsz];simp [hmin,hfc,hst,goInt]
    unfold Oper.wp;rw[hrun,Oper.upon_value];have hput:(oI ys k s).length=ys.length:=by unfold oI;simp;omega
    have hsim:=AbC hS (k0:=k) (l':=⟨Tq,oI ys k s⟩) (vs:=vs) (xs:=s.map λb=>A.int .u8 (b.toNat:Int)) hq g1 k2 (by rw[hes,hes,D5,D5,hput]) rfl (by rw[D5,hlen,hszb];omega) (by rw[hvl,D5]) (by rw[D5];exact h40) (λr' j hr' hj=>by
     rw[hszb]at hj ⊢;have:j=0:=by omega
     subst this;rw[hlen]at hr';have e1: ∀ zs:List Int,r'<zs.length->((⟨Tq,zs⟩:Sl).es.getD r' []).getD 0 .undef= .int .u8 (zs.getD r' 0):=by intro zs hz;rw[hes];simp [Dn,hz]
     rw[e1 _ (by rw[hput];exact hr'),e1 _ hr',D5,F6,Nat.add_zero];unfold oI;rw[Dn,Ea,IU,D9,Iz (by omega)];by_cases h0:r'<k
     .rw[Du h0,A0g,GL h0,<- Dn]
     .rw[Dt h0,IU,D5];by_cases h7:r' - k<s.length
      .rw[Du h7,A0h];simp [Dn,h7]
      .rw[Dt h7,A0g,FK,show k+s.length+(r' - k - s.length)=r' by omega,<- Dn]) (λj hj=>by
     rw[D5]at hj;have e1:vs.getD j undef= .int .u8 ((s.getD j 0).toNat:Int):=by simp [vs,Dn,hbl,hj]
     have e2:(s.map λb=>A.int .u8 (b.toNat:Int)).getD j .undef= .int .u8 ((s.getD j 0).toNat:Int):=by simp [Dn,hj]
     rw[e1,e2];exact .int _ _)
    refine hn O m _ _ ?_;have hfin:=hsim.put o.dst (x:=.int .i64 (s.length:Int)) (v:=.int .i64 (s.length:Int)) (.mkInt _ _);exact hfin
  | _=>exact(JJ hok).elim
 .exact(JJ hok).elim
end
open Go.Lib (bytesWorld bytesCells bytesWorld_at_old bytesWorld_at_new bytesWorld_size)
section
variable {P:Program} {C:Ctx} {V0:Nat->Value} {O0 O:Own} {w0 w:World} {m:Nat->Value} {st:St} {a:Act} {o:Oper}
def Anx (w:World) (e:TypeId) (s:ByteArray):Moves O (λ_=>False) w (bytesWorld w e s):=by refine⟨rfl,rfl,rfl,?_,λb hb=>.inl (bytesWorld_at_old w e s b hb)⟩;rw[bytesWorld_size];omega
def ApI {s t:Nat} {x:Operand} (hC:TOk P C) (hS:Sim V0 O0 w0 O m st a w) {d:Tmp} (hd:o.dst=some d) (ho:o.op= .convert s t x) {l:List UInt8} (hx:JC O st.Jr m w (a.eval x) (.str l))
 (hok:J6 (zQ C d s t l).ok) (hfr: ∀ p∈(zQ C d s t l).new,st.fresh p.1=true):Good P V0 O0 w0 (apply st o (zQ C d s t l)) o a w:=by
 intro next Q hn
 unfold zQ at *
 obtain⟨ts,hts,he⟩:=KF hok;rw[he]at hok hfr hn;clear he;obtain⟨ti,e,te,ht,hte,hd',he⟩:=XM hok;rw[he]at hok hfr hn;clear he;obtain⟨h1,h2⟩:=hok.cons;have h2:=h2.cons.1;have hlen:l.length<=140737488355328:=by simpa using h2
 have hde:=AlS h1;have hue:=(hC.is hd').d;rw[hde]at hue;have hut:=(hC.is ht).d;rw[hte]at hut;obtain⟨b,hb,hl⟩:=hx.str;have hbl:b.size=l.length:=by rw[Vj,hl]
 have hr:(execOp a.eval o).run P w= .ok (.value (.slice (some (at' w.heap.size 0)) b.size (grownCap w b.size 0 e))) (bytesWorld w e b):=by have:=Go.Lib.run_convert_string_bytes (P:=P) w s t e b (hC.is hts).d hut hue;simp only[execOp,ho,hb,DL,this];rfl
 unfold Oper.wp;rw[hr,Oper.upon_value,hd];have hge:=grownCap_ge w b.size 0 e;have hes:(⟨Tq,l.map (fun(b:UInt8)=>((b.toNat:Int)))⟩:Sl).es=l.map (fun(x:UInt8)=>[A.int .u8 (x.toNat:Int)]):=by show List.map (Ty.int IntKind.u8 Ty.nil).cells (List.map (fun(b:UInt8)=>((b.toNat:Int))) l)=_;exact ES.trans rfl
 have hesl:(⟨Tq,l.map (fun(b:UInt8)=>((b.toNat:Int)))⟩:Sl).es.length=b.size:=by rw[hes,D5,hbl]
 have hcs:(bytesCells w e b).size=grownCap w b.size 0 e:=by simp [bytesCells];have:b.data.size=b.size:=rfl;omega
 obtain⟨O',m',h⟩:=Adi hS (Anx w e b) (d:=d) (e:=e) (cap:=grownCap w b.size 0 e) (frz:=false) (l:=⟨Tq,l.map (fun(b:UInt8)=>((b.toNat:Int)))⟩) (del:=[]) (cur:=bytesCells w e b)
  ⟨_,bytesWorld_at_new w e b,.inr (DD _)⟩ (by rw[hesl];exact hge) (grownCap_le_maxLen w _ _ _ (by unfold maxLen;omega)) (by rw[hcs];show _=_*1;omega) ⟨Sl.es_len _,λi j hi hj=>by
    have hj0:j=0:=by have:j<1:=hj;omega
    subst hj0;rw[hesl]at hi;have hi':i<l.length:=by omega
    have hi2:i<b.data.toList.length:=by rw[hl];exact hi'
    refine⟨.int .u8 (l.getD i 0).toNat,?_,?_⟩
    .have hlt:i<b.data.size:=hi;show(bytesCells w e b)[i*1+0]? =_;rw[F6,Nat.add_zero];unfold bytesCells;rw[EJ (by simpa using hlt)];rw[Array.getElem?_map];have:b.data[i]? =some (l.getD i 0):=by rw[<- ET,hl,Dn,D8 hi'];rfl
     rw[this];rfl
    .rw[hes];have:(l.map (fun(x:UInt8)=>[A.int .u8 (x.toNat:Int)])).getD i []=[A.int .u8 ((l.getD i 0).toNat:Int)]:=by simp [Dn,hi']
     rw[this];exact .int _ _⟩ (NQ (hfr _ Dy))
 rw[hesl]at h;refine hn O' m' _ _ ?_;rw[X0 hd];exact h
def Asq {s t:Nat} {x:Operand} (hC:TOk P C) (hS:Sim V0 O0 w0 O m st a w) (ho:o.op= .convert s t x) {fet:Fet} (hf:P8 st.Jr fet) {x':A} (hx:JC O st.Jr m w (a.eval x) x')
 (hok:J6 (AbP C o fet s t x').ok) (hfr: ∀ p∈(AbP C o fet s t x').new,st.fresh p.1=true):Good P V0 O0 w0 (apply st o (AbP C o fet s t x')) o a w:=by
 have hF:FOk O st.Jr m w fet:=λq x h=>⟨hf q x h,hS.Jr q x (hf q x h)⟩
 by_cases hs: ∃ l,x'= .str l
 .obtain⟨l,rfl⟩:=hs;unfold AbP at *
  dsimp only at hok hfr ⊢;obtain⟨tt,htt,he⟩:=KF hok;rw[he]at hok hfr ⊢;clear he;cases hb:AlR tt.d with
  | true =>rw[hb]at hok hfr;simp only[cond_true]at hok hfr ⊢;obtain⟨d,hd,he⟩:=JU hok;rw[he]at hok hfr ⊢;clear he;exact ApI hC hS hd ho hx hok hfr
  | false =>rw[hb]at hok;simp only[cond_false]at hok ⊢;exact(Aaf hC hF ho hx hok).good hS
 .have e:AbP C o fet s t x'=Zt C fet s t x':=by
   cases x'<;>first | rfl | exact absurd ⟨_,rfl⟩ hs
  rw[e]at hok ⊢;exact(Aaf hC hF ho hx hok).good hS
def AwL (n:Nat) (cs:List CK) {i j:Nat} (hi:i<n) (hj:j<cs.length):((List.replicate n cs).flatten).getD (i*cs.length+j) .oth=cs.getD j .oth:=by
 induction n generalizing i with
 | zero=>omega
 | succ n ih =>
  rw[List.replicate_succ,List.flatten_cons,Dn];cases i with
  | zero=>rw[Ez (by omega),Hz,DV,<- Dn]
  | succ i =>rw[Et,Nat.one_mul,EI (by omega),show i*cs.length+cs.length+j - cs.length=i*cs.length+j from by omega,<- Dn];exact ih (by omega)
def AaO {t n:Nat} {l:Sl} {cur:Array Value} (hS:Sim V0 O0 w0 O m st a w) {d:Tmp} (hd:o.dst=some d) (hr:(execOp a.eval o).run P w= .ok (.value (.pointer (some (at' w.heap.size 0)))) (w.alloc (.cells cur t)))
 (hn:l.xs.length=n) (hmax:n<=16777216) (hsz:cur.size=n*l.sz) (hheld:Held O w cur l.sz l.es) (hfresh:Qk st (b2 d)) :
 Good P V0 O0 w0 {tmps:=st.tmps.set d (.Ku (b2 d) 0 0),Jr:=JH (KC st.Jr []) [(b2 d,.arr t false l)]} o a w:=by
 intro next Q hnx
 unfold Oper.wp;rw[hr,Oper.upon_value,hd];obtain⟨O',m',h⟩:=YA hS (Moves.refl _ _ w) rfl (d:=d) (e:=t) (cap:=n) (frz:=false) (l:=l) (cur:=cur) (del:=[]) (by rw[Sl.KT,hn];exact DD _) (by unfold maxLen;omega) hsz hheld hfresh;rw[Sl.KT,hn]at h;refine hnx O' m' _ _ ?_;by_cases hdt:d<st.tmps.length
 .
  have hslot:=h.tmps d (by simpa using hdt)
  have hself:(a.put (some d) (.slice (some (at' w.heap.size 0)) n n)).tmps.getD d undef= .slice (some (at' w.heap.size 0)) n n:=by
   have hs:d<a.tmps.size:=by rw[hS.size];exact hdt
   simp [Act.put,Dv,hs]
  have hself2:(st.tmps.set d (.own (b2 d))).getD d .undef= .own (b2 d):=by simp [Dn,hdt]
  rw[hself,hself2]at hslot;have hc:JG O' (JH (KC st.Jr []) [(b2 d,.arr t false l)]) m' (w.alloc (.cells cur t)) (.slice (some (at' w.heap.size 0)) n n) (.own (b2 d)):=hslot;have hg:J3 (JH (KC st.Jr []) [(b2 d,Obj.arr t false l)]) (b2 d)=some (.arr t false l):=by simp only[JH];rw[KO,Du rfl]
  have hm: .slice (some (at' w.heap.size 0)) n n=m' (b2 d):=by have:=hc.2;rw[hg]at this;exact this
  have hcr:JG O' (JH (KC st.Jr []) [(b2 d,.arr t false l)]) m' (w.alloc (.cells cur t)) (.pointer (some (at' w.heap.size 0))) (.Ku (b2 d) 0 0):=by simp only[JG,hg,Option.map_some,Obj.shp];exact⟨rfl,λ_=>⟨w.heap.size,n,n,hm.symm,by simp⟩⟩
  have hnew:=h.put (some d) (x:=.Ku (b2 d) 0 0) (v:=.pointer (some (at' w.heap.size 0))) hcr.toT;have e1:put (st.tmps.set d (.own (b2 d))) (some d) (.Ku (b2 d) 0 0)=st.tmps.set d (.Ku (b2 d) 0 0):=by simp [put]
  have e2:(a.put (some d) (.slice (some (at' w.heap.size 0)) n n)).put (some d) (.pointer (some (at' w.heap.size 0)))=a.put (some d) (.pointer (some (at' w.heap.size 0))):=by simp [Act.put]
  rw[e2]at hnew;dsimp only at hnew;rw[e1]at hnew;exact hnew
 .have e1: ∀ x,st.tmps.set d x=st.tmps:=λx=>List.set_eq_of_length_le (Nat.le_of_not_lt hdt)
  have e2: ∀ v,a.put (some d) v=a:=by
   intro v;have hs: ¬ d<a.tmps.size:=by rw[hS.size];exact hdt
   have:a.tmps.setIfInBounds d v=a.tmps:=by simp [Array.setIfInBounds,hs]
   simp only[Act.put,this]
  rw[e1,e2]at h;rw[e1,e2];exact h
def Aja {t n e:Nat} {ti te:TI} (hC:TOk P C) (hS:Sim V0 O0 w0 O m st a w) {d:Tmp} (hd:o.dst=some d) (ho:o.op= .alloc t) (ht:C.T t=some ti)
 (hp:te.cs.all CK.plain=true) (h0:0<te.cs.length) (hn0:0<n) (hn:n<=16777216) (hcs:ti.cs=(List.replicate n te.cs).flatten) (hfresh:Qk st (b2 d)) :
 Good P V0 O0 w0 {tmps:=st.tmps.set d (.Ku (b2 d) 0 0),Jr:=JH (KC st.Jr []) [(b2 d,.arr t false ⟨tyl te.cs,List.replicate n (tyl te.cs).zero⟩)]} o a w:=by
 have hT:=hC.is ht;obtain⟨i,z,g1,g2,g3,g4,g5,g6⟩:=hT.i;have hsz:z.cells.size=ti.cs.length:=by rw[<- Array.length_toList];exact(We (O:=O) (Jr:=[]) (m:=λ_=>undef) (w:=w) _ _ g5).1
 have hlen:ti.cs.length=n*te.cs.length:=by rw[hcs];simp
 have hpl:ti.cs.all CK.plain=true:=by rw[hcs,DI];intro k hk;obtain⟨l,hl,hkl⟩:=List.mem_flatten.1 hk;rw[FO hl]at hkl;exact DI.1 hp k hkl
 have hv:=yB (O:=O) (w:=w) _ _ g5 hpl;have hr:(execOp a.eval o).run P w= .ok (.value (.pointer (some (at' w.heap.size 0)))) (w.alloc (.cells z.cells t)):=by simp only[execOp,ho,Instr.alloc,DL,zeroValue,typeInfo,run_program,Result.andThen_ok,g1,g4,Sem.run_pure,newVar,newRow];rfl
 have hel:(⟨tyl te.cs,List.replicate n (tyl te.cs).zero⟩:Sl).es=List.replicate n (te.cs.map CK.Qo):=Sl.jL _ _ hp;have hsl:(⟨tyl te.cs,List.replicate n (tyl te.cs).zero⟩:Sl).sz=te.cs.length:=WM _
 exact AaO hS hd hr (by rw[Ee]) hn (by rw[hsz,hlen,hsl])
  ⟨Sl.es_len _,λr j hrl hj=>by
    rw[hsl]at hj ⊢;rw[Sl.KT,Ee]at hrl;have hlt:r*te.cs.length+j<n*te.cs.length:=by have:(r+1)*te.cs.length<=n*te.cs.length:=DY _ hrl;rw[Et]at this;omega
    refine⟨z.cells.toList.getD (r*te.cs.length+j) undef,?_,?_⟩
    .rw[Dn,ET];rw[En (by omega)];rfl
    .have:=hv (r*te.cs.length+j) (by omega)
     have e1:(ti.cs.map CK.Qo).getD (r*te.cs.length+j) .undef=(te.cs.map CK.Qo).getD j .undef:=by
      have e2:(ti.cs.map CK.Qo).getD (r*te.cs.length+j) .undef=(ti.cs.getD (r*te.cs.length+j) .oth).Qo:=by
       have:r*te.cs.length+j<ti.cs.length:=by omega
       simp [Dn,this]
      have e3:(te.cs.map CK.Qo).getD j .undef=(te.cs.getD j .oth).Qo:=by simp [Dn,hj]
      rw[e2,e3,hcs,AwL n te.cs hrl hj]
     rw[e1]at this;rw[hel];have e4:(List.replicate n (te.cs.map CK.Qo)).getD r []=te.cs.map CK.Qo:=by simp [Dn,hrl]
     rw[e4];exact this⟩ hfresh
def Asd {t:Nat} {x:Operand} {y:A} (hC:TOk P C) (hS:Sim V0 O0 w0 O m st a w) {d:Tmp} (hd:o.dst=some d) (ho:o.op= .box t x) (hx:JC O st.Jr m w (a.eval x) y) (hids: ∀ i∈y.ids,i∈st.ids\/(J3 st.Jr i).isSome)
 (hok:J6 (zM C d t y).ok) (hfr: ∀ p∈(zM C d t y).new,st.fresh p.1=true) (hnd:nodup ((zM C d t y).new.map (·.1))=true):Good P V0 O0 w0 (apply st o (zM C d t y)) o a w:=by
 unfold zM at *
 cases hI:AvU C t with
 | none=>rw[hI]at hok hfr hnd;exact ApG hC hS hd ho hx hids hok hfr hnd
 | some q =>
  obtain⟨n,k⟩:=q;rw[hI]at hok hfr hnd;dsimp only at hok hfr hnd ⊢;cases y with
  | agg cs =>
   dsimp only at hok hfr hnd ⊢;obtain⟨h1,h2⟩:=hok.cons;obtain⟨h2,h3⟩:=h2.cons;have h3:=DR h3.cons.1;have h2:=Dx h2;obtain⟨vs,g1,g2,g3⟩:=hx;have hr:(execOp a.eval o).run P w= .ok (.value (.pointer (some (at' w.heap.size 0)))) (w.alloc (.cells vs t)):=by simp only[execOp,ho,Instr.box,g1,DL,Sem.run_pure,Result.andThen_ok,newVar,newRow];rfl
   rw[X0 hd];refine AaO (n:=n) hS hd hr (by show(cs.map A.toI).length=n;rw[D5,h2]) h3 (by show vs.size=n*1;rw[g2,h2,F6]) ⟨Sl.es_len _,λr j hr hj=> ?_⟩ (NQ (hfr _ Dy));have hj:j<1:=hj;have:j=0:=by omega
   subst this;have hr:r<cs.length:=by rw[Sl.KT]at hr;have hr:r<(cs.map A.toI).length:=hr;rwa [D5]at hr
   refine⟨vs.getD r undef,?_,?_⟩
   .show vs[r*1+0]? =_;rw[F6,Nat.add_zero,Dv,En (by omega)];rfl
   .have h4:=g3 r hr;have h5:=DI.1 h1 cs[r] (Ej hr);have e1:cs.getD r .undef=cs[r]:=by simp [Dn,hr]
    have e2:((⟨.int k .nil,cs.map A.toI⟩:Sl).es.getD r []).getD 0 .undef= .int k cs[r].toI:=by have:(⟨.int k .nil,cs.map A.toI⟩:Sl).es=cs.map λc=>[A.int k c.toI]:=ES (f:=A.toI) (g:=λx=>[A.int k x]) (l:=cs);rw[this];simp [Dn,hr]
    rw[e2];rw[e1]at h4;generalize cs[r]=c at h4 h5
    cases c<;>first
     | (rename_i k' x;have:=Rf (show A.kEq k k'=true from h5);subst this;exact h4)
     | cases h5
  | _=>exact(JJ hok).elim
def Ant {t:Nat} (hC:TOk P C) (hS:Sim V0 O0 w0 O m st a w) {d:Tmp} (hd:o.dst=some d) (ho:o.op= .alloc t)
 (hok:J6 (aS C d t).ok) (hfr: ∀ p∈(aS C d t).new,st.fresh p.1=true) (hnd:nodup ((aS C d t).new.map (·.1))=true):Good P V0 O0 w0 (apply st o (aS C d t)) o a w:=by
 unfold aS at *
 obtain⟨ti,ht,he⟩:=KF hok;rw[he]at hok hfr hnd ⊢;clear he;cases ha:sU ti.d with
 | some p =>obtain⟨n,e⟩:=p;rw[ha]at hok hfr;dsimp only at hok hfr ⊢;obtain⟨te,hte,he⟩:=KF hok;rw[he]at hok hfr ⊢;clear he;obtain⟨h1,h2⟩:=hok.cons;obtain⟨h2,h3⟩:=h2.cons;obtain⟨h3,h4⟩:=h3.cons;obtain⟨h4,h5⟩:=h4.cons;have h5:=h5.cons.1;rw[X0 hd];exact Aja (n:=n) (e:=e) hC hS hd ho ht h1 (by simpa [EF]using h2) (by simpa [EF]using h3) (DR h4) (by simpa using h5) (NQ (hfr _ Dy))
 | none =>rw[ha]at hok hfr hnd;exact AkR hC hS hd ho ht hok hfr hnd
end
def IC (O:Own) (w:World) (id:Nat) (v:Value):A->Prop
 | .usl z e l=>Lm O [] (λ_=>v) w id (.arr e z l)
 | .box cs=> ∃ b base,v= .pointer (some (at' b base))/\ ∀ j,j<cs.length->O b (base+j)=some id/\w.frozen? (at' b (base+j))=false/\ ∃ u,w.cell? (at' b (base+j))=some u/\J5 O w u (cs.getD j .undef)
 | a=>J5 O w v a
def IR (O:Own) (w:World) (id:Nat) (v:Value):A->Prop
 | .agg cs=> ∃ vs:Array Value,v= .agg vs/\vs.size=cs.length/\ ∀ j,j<cs.length->IC O w (id+1+j) (vs.getD j undef) (cs.getD j .undef)
 | .box cs=> ∃ b base,v= .pointer (some (at' b base))/\ ∀ j,j<cs.length->O b (base+j)=some id/\w.frozen? (at' b (base+j))=false/\ ∃ u,w.cell? (at' b (base+j))=some u/\IC O w (id+1+j) u (cs.getD j .undef)
 | .cbx k cs=> ∃ b base,fB O w k v (.pointer (some (at' b base)))/\ ∀ j,j<cs.length->O b (base+j)=some id/\w.frozen? (at' b (base+j))=false/\ ∃ u,w.cell? (at' b (base+j))=some u/\IC O w (id+1+j) u (cs.getD j .undef)
 | .ump l=>QD O w id v l
 | a=>IC O w id v a
section
variable {P:Program} {C:Ctx} {V0:Nat->Value} {O0 O:Own} {w0 w:World} {m:Nat->Value} {st:St} {a:Act} {o:Oper}
def J5.ic {id:Nat} {v:Value} {x:A} (h:J5 O w v x):IC O w id v x:=by cases h<;>first | exact .bool _ | exact .int _ _ | exact .str _ | exact .nil _ | exact .Mc | exact .fn _ | exact .vM | exact J5.sl0 _ _ | (rename_i vs a1 a2 a3;exact J5.sl vs a1 a2 a3) | (rename_i h hn;exact J5.sln h hn)
def O5 (O:Own) (ρ :Nat->Option Nat):Own:=λb k=>match O b k with
 | none=>none
 | some o=>match ρ o with
  | some i=>some i
  | none=>some 255
def WG {ρ :Nat->Option Nat} {b k:Nat}:O5 O ρ b k=none↔O b k=none:=by grind[O5]
def WI {ρ :Nat->Option Nat} {b k o i:Nat} (h:O b k=some o) (hr: ρ o=some i):O5 O ρ b k=some i:=by unfold O5;rw[h];simp [hr]
def WH (ρ :Nat->Option Nat):Nz O w (O5 O ρ) w:=λ_ _ _ h hc=>⟨WG.2 h,hc⟩
theorem Lm.O5 {ρ :Nat->Option Nat} {q i e:Nat} {z:Bool} {l:Sl} {Jr objs':List (Nat×Obj)} {m m':Nat->Value} (h:Lm O Jr m w q (.arr e z l)) (hr: ρ q=some i) (hm:m' i=m q) :
 Lm (O5 O ρ) objs' m' w i (.arr e z l):=by
 refine⟨h.1,?_⟩;rcases h.2 with ⟨h1,h2,h3⟩ | ⟨h1,g,cap,cur,h2,h3,h4,h5,h6,h7,h8,h9⟩
 .exact .inl ⟨h1,h2,by rw[hm];exact h3⟩
 .refine .inr ⟨h1,g,cap,cur,by rw[hm];exact h2,h3,h4,h5,h6,λr j hr' hj=> ?_,λk hk hge=>WI (h8 k hk hge) hr,λk hk=> ?_⟩
  .obtain⟨u,h10,h11⟩:=h7 r j hr' hj;exact⟨u,h10,h11.Kr (WH ρ)⟩
  .have:=h9 k hk;cases z with
   | true=>exact WG.2 this
   | false=>exact WI this hr
def Lm.keep {O':Own} {q e:Nat} {l:Sl} {Jr objs':List (Nat×Obj)} {m:Nat->Value} (h:Lm O Jr m w q (.arr e false l)) (hp:Nz O w O' w) (hk: ∀ b k,O b k=some q->O' b k=some q):Lm O' objs' m w q (.arr e false l):=by
 refine⟨h.1,?_⟩;rcases h.2 with h0 | ⟨h1,g,cap,cur,h2,h3,h4,h5,h6,h7,h8,h9⟩
 .exact .inl h0
 .refine .inr ⟨h1,g,cap,cur,h2,h3,h4,h5,h6,λr j hr' hj=> ?_,λk a b=>hk _ _ (h8 k a b),λk a=>hk _ _ (h9 k a)⟩;obtain⟨u,h10,h11⟩:=h7 r j hr' hj;exact⟨u,h10,h11.Kr hp⟩
def Wu {W:Prop} {fet:Fet} (hf:P8 st.Jr fet) (hS: ∀ q y,J3 st.Jr q=some y->Lm O st.Jr m w q y): ∀(ks:List (Bool×CK)) (cs:List A) (id:Nat) (f:Nat->Value),(ks.any wC=true->W)->(∀ j,j<cs.length->JG O st.Jr m w (f j) (cs.getD j .undef))->J6 (J8 fet ks cs).1 ->
 (J8 fet ks cs).2.1.length=ks.length/\cs.length=ks.length/\Frz st.Jr (J8 fet ks cs).2.2.1/\(J8 fet ks cs).2.2.2=(LK id ks cs).map (·.1) /\
 ∀ {O':Own} {objs':List (Nat×Obj)} {ρ :Nat->Option Nat},Nz O w O' w->(∀ p∈(J8 fet ks cs).2.2.1,∀ e l,p.2= .arr e true l->J5 O' w (m p.1) (.sl l)) ->
  (∀ p∈(J8 fet ks cs).2.2.1,Lm O' objs' m w p.1 p.2)->(∀ b k q,O b k=some q->(NR st.Jr q\/W)->O' b k=some q)->(∀ p∈LK id ks cs,ρ p.1=some p.2) ->
  ∀ j,j<ks.length->IC (O5 O' ρ) w (id+j) (f j) ((J8 fet ks cs).2.1.getD j .undef):=by
 intro ks
 induction ks with
 | nil =>
  intro cs id f _ _ hok;cases cs with
  | nil=>exact⟨rfl,rfl,(λp hp=>by simp [J8]at hp),rfl,λ_ _ _ _ _ j hj=>by simp at hj⟩
  | cons _ _=>have:=hok false (by simp [J8]);cases this
 | cons k ks ih =>
  intro cs id f hW h hok;obtain⟨u,k⟩:=k;cases cs with
  | nil=>have:=hok false (by cases u<;>simp [J8]);cases this
  | cons c cs =>
   have hrest:=λhok2=>ih cs (id+1) (λj=>f (j+1)) (λh=>hW (by rw[List.any_cons,h,EP])) (λj hj=>by simpa using h (j+1) (by simpa using hj)) hok2;cases u with
   | false =>
    simp only[J8]at hok ⊢;obtain⟨hok1,hok2⟩:=hok.append;obtain⟨h1,h2⟩:=Am4 hf (h 0 (by simp)) hok1;obtain⟨h3,h4,h5,h6,h7⟩:=hrest hok2;have hnames:LK id ((false,k)::ks) (c::cs)=LK (id+1) ks cs:=by cases c<;>rfl
    refine⟨by simp [h3],by simp [h4],h1.append h5,by rw[hnames];exact h6,λ{O' objs' ρ} hp hv hO hbx hρ j hj=> ?_⟩;rw[hnames]at hρ;cases j with
    | zero =>have hvr:=(h2 hp (λp hp=>hv p (DJ _ hp))).Kr (WH ρ);exact hvr.ic
    | succ j =>have:=h7 hp (λp hp=>hv p (DF _ hp)) (λp hp=>hO p (DF _ hp)) hbx hρ j (by simpa using hj);rw[show id+(j+1)=id+1+j from by omega];simpa using this
   | true =>
    cases k with
    | sl e sz =>
     cases c with
     | own q =>
      simp only[J8]at hok ⊢;cases hg:J3 fet q with
      | none=>rw[hg]at hok;have:=hok false (by simp);cases this
      | some x =>
       cases x with
       | box _=>rw[hg]at hok;have:=hok false (by simp);cases this
       | mp _=>rw[hg]at hok;have:=hok false (by simp);cases this
       | arr e' fz l =>
        rw[hg]at hok;dsimp only at hok ⊢;obtain⟨hok1,hok2⟩:=hok.append;obtain⟨e1,e2⟩:=hok1.cons;have e1:=Dx e1;subst e1;obtain⟨h3,h4,h5,h6,h7⟩:=hrest hok2;have hq:=hf q _ hg;refine⟨by simp [h3],by simp [h4],λp hp=> ?_,?_,λ{O' objs' ρ} hp hv hO hbx hρ j hj=> ?_⟩
        .rcases D7.1 hp with rfl | hp
         .exact⟨e,fz,l,hq,rfl⟩
         .exact h5 p hp
        .simp only[LK,Em,h6]
        .cases j with
         | zero =>have hc:JG O st.Jr m w (f 0) (.own q):=h 0 (by simp);have hc:=hc.2;rw[hq]at hc;simp only[Option.map_some,Obj.shp]at hc;have:=hO _ Dy;exact this.O5 (objs':=[]) (m':=λ_=>f 0) (hρ (q,id) Dy) hc
         | succ j =>have:=h7 hp (λp hp=>hv p (Dz _ hp)) (λp hp=>hO p (Dz _ hp)) hbx (λp hp=>hρ p (Dz _ hp)) j (by simpa using hj);rw[show id+(j+1)=id+1+j from by omega];simpa using this
     | Lt =>
      simp only[J8]at hok ⊢;obtain⟨h3,h4,h5,h6,h7⟩:=hrest hok;have hnames:LK id ((true,.sl e sz)::ks) (.Lt::cs)=LK (id+1) ks cs:=rfl;refine⟨by simp [h3],by simp [h4],h5,by rw[hnames];exact h6,λ{O' objs' ρ} hp hv hO hbx hρ j hj=> ?_⟩;rw[hnames]at hρ;cases j with
      | zero =>have hc:JG O st.Jr m w (f 0) .Lt:=h 0 (by simp);have hc:f 0= .slice none 0 0:=hc;show Lm _ [] (λ_=>f 0) w _ (.arr e true ⟨sz,[]⟩);exact⟨by simp [Sl.es],.inl ⟨trivial,rfl,hc⟩⟩
      | succ j =>have:=h7 hp hv hO hbx hρ j (by simpa using hj);rw[show id+(j+1)=id+1+j from by omega];simpa using this
     | _=>have:=hok false (by simp [J8]);cases this
    | sln e sz =>
     cases c with
     | own q =>
      simp only[J8]at hok ⊢;cases hg:J3 fet q with
      | none=>rw[hg]at hok;have:=hok false (by simp);cases this
      | some x =>
       cases x with
       | box _=>rw[hg]at hok;have:=hok false (by simp);cases this
       | mp _=>rw[hg]at hok;have:=hok false (by simp);cases this
       | arr e' fz l =>
        rw[hg]at hok;dsimp only at hok ⊢;obtain⟨hok1,hok2⟩:=hok.append;obtain⟨e1,e2⟩:=hok1.cons;obtain⟨_,e3⟩:=e2.cons;have e3:fz=false:=by simpa using e3.cons.1
        subst e3;have e1:=Dx e1;subst e1;obtain⟨h3,h4,h5,h6,h7⟩:=hrest hok2;have hq:=hf q _ hg;refine⟨by simp [h3],by simp [h4],h5,?_,λ{O' objs' ρ} hp hv hO hbx hρ j hj=> ?_⟩
        .simp only[LK,Em,h6]
        .cases j with
         | zero =>have hc:JG O st.Jr m w (f 0) (.own q):=h 0 (by simp);have hc:=hc.2;rw[hq]at hc;simp only[Option.map_some,Obj.shp]at hc;exact(Lm.keep (objs':=st.Jr) (hS q _ hq) hp λb k hb=>hbx b k q hb (.inr (hW rfl))).O5 (objs':=[]) (m':=λ_=>f 0) (hρ (q,id) Dy) hc
         | succ j =>have:=h7 hp hv hO hbx (λp hp=>hρ p (Dz _ hp)) j (by simpa using hj);rw[show id+(j+1)=id+1+j from by omega];simpa using this
     | Lt =>
      simp only[J8]at hok ⊢;obtain⟨h3,h4,h5,h6,h7⟩:=hrest hok;have hnames:LK id ((true,.sln e sz)::ks) (.Lt::cs)=LK (id+1) ks cs:=rfl;refine⟨by simp [h3],by simp [h4],h5,by rw[hnames];exact h6,λ{O' objs' ρ} hp hv hO hbx hρ j hj=> ?_⟩;rw[hnames]at hρ;cases j with
      | zero =>have hc:JG O st.Jr m w (f 0) .Lt:=h 0 (by simp);have hc:f 0= .slice none 0 0:=hc;show Lm _ [] (λ_=>f 0) w _ (.arr e false ⟨sz,[]⟩);exact⟨by simp [Sl.es],.inl ⟨trivial,rfl,hc⟩⟩
      | succ j =>have:=h7 hp hv hO hbx hρ j (by simpa using hj);rw[show id+(j+1)=id+1+j from by omega];simpa using this
     | _=>have:=hok false (by simp [J8]);cases this
    | bx t =>
     cases c with
     | ptr q off =>
      simp only[J8]at hok ⊢;cases hg:L8 fet q with
      | none=>rw[hg]at hok;have:=hok false (by simp);cases this
      | some zs =>
       rw[hg]at hok;dsimp only at hok ⊢;obtain⟨hok0,hok1⟩:=hok.cons;obtain⟨hok1,hok2⟩:=hok1.append;have hok0:=Dx hok0;subst hok0;obtain⟨h3,h4,h5,h6,h7⟩:=hrest hok2;have hq:=hf q _ (Lj hg);obtain⟨b,base,g1,g2⟩:=hS q _ hq;have hv0:f 0= .pointer (some (at' b base)):=by have hc:JG O st.Jr m w (f 0) (.ptr q 0):=h 0 (by simp);have hc:=hc.2;rw[hq]at hc;simp only[Option.map_some,Obj.shp]at hc;obtain⟨b',base',g3,g4⟩:=hc;rw[g1]at g3;injection g3 with g3;injection g3 with g3;injection g3 with e1 e2;subst e1;subst e2;exact g4
       have hfc: ∀ j,j<zs.length->w.cell? (at' b (base+j))=some ((w.cell? (at' b (base+j))).getD undef)/\JG O st.Jr m w ((w.cell? (at' b (base+j))).getD undef) (zs.getD j .undef):=by intro j hj;obtain⟨_,_,u,h3,h4⟩:=g2 j hj;rw[h3];exact⟨rfl,h4⟩
       obtain⟨p1,p2,p3,p4⟩:=XU hf (tck t) zs (λj=>(w.cell? (at' b (base+j))).getD undef) (λj hj=>(hfc j hj).2) hok1;refine⟨by simp [h3],by simp [h4],p3.append h5,?_,λ{O' objs' ρ} hp hv hO hbx hρ j hj=> ?_⟩
       .simp only[LK,Em,h6]
       .cases j with
        | zero =>
         refine⟨b,base,hv0,λj hj=> ?_⟩;have hj:j<(KQ fet (tck t) zs).2.1.length:=hj;rw[p1]at hj;have hj':j<zs.length:=by rw[p2];exact hj
         obtain⟨k1,k2,_⟩:=g2 j hj';exact⟨WI (hbx _ _ _ k1 (.inl (.of hq (λ_ _ _ h=>by cases h)))) (hρ (q,id) Dy),k2,_,(hfc j hj').1,(p4 hp (λp hp=>hv p (DJ _ hp)) j hj).Kr (WH ρ)⟩
        | succ j =>have:=h7 hp (λp hp=>hv p (DF _ hp)) (λp hp=>hO p (DF _ hp)) hbx (λp hp=>hρ p (Dz _ hp)) j (by simpa using hj);rw[show id+(j+1)=id+1+j from by omega];simpa using this
     | _=>have:=hok false (by simp [J8]);cases this
    | _=>have:=hok false (by simp [J8]);cases this
end
end Go.Proofs.YtacidcemomccpaaGreatDoor.Vm
