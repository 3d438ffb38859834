import Derived.Test.YtpaimpmokhihmaaGreatDoorA6
import Derived.Lib.ConvBytes
set_option linter.all false
namespace Go.Proofs.YtpaimpmokhihmaaGreatDoor.Vm
open Classical
section
variable {P:Program} {C:Ctx} {V0:Nat->Value} {O0 O:Own} {w0 w:World} {m:Nat->Value} {st:St} {a:Act} {o:Oper}
theorem gB (hS:Sim V0 O0 w0 O m st a w) {q e g cap k0:Nat} {l l':Sl} {cur:Array Value} {vs:List Value} {xs:List A}
 (hq:Jr st.Jm q=some (.arr e false l)) (hm:m q= .slice (some (at' g 0)) l.es.length cap) (hg:L8 w g cur e) (hln:l'.es.length=l.es.length) (hls:l'.sz=l.sz) (hle:k0+xs.length<=l.es.length*l.sz) (hl:vs.length=xs.length) (h0:0<xs.length)
 (hel: ∀ r j,r<l.es.length->j<l.sz->(l'.es.getD r []).getD j .undef=if k0<=r*l.sz+j/\r*l.sz+j<k0+xs.length then xs.getD (r*l.sz+j - k0) .undef else(l.es.getD r []).getD j .undef)
 (hv: ∀ j,j<xs.length->Jt O w (vs.getD j undef) (xs.getD j .undef)) :
 Sim V0 O0 w0 O m {st with Jm:=KG st.Jm q (.arr e false l')} a (w.setCells g k0 vs):=by
 obtain⟨hsz,hr⟩:=hS.Jm q _ hq
 obtain⟨g',cap',cur',h2,h3,h4,h5,h6,h7,h8,h9⟩: ∃ g' cap' cur',m q= .slice (some (at' g' 0)) l.es.length cap'/\L8 w g' cur' e/\l.es.length<=cap'/\cap'<=maxLen/\cur'.size=cap'*l.sz /\
  (∀ i j,i<l.es.length->j<l.sz-> ∃ u,cur'[i*l.sz+j]? =some u/\Jt O w u ((l.es.getD i []).getD j .undef))/\(∀ k,k<cur'.size->l.es.length*l.sz<=k->O g' k=some q)/\(∀ k,k<l.es.length*l.sz->O g' k=if false then none else some q):=by
  rcases hr with ⟨_,_,h⟩ | ⟨_,h⟩
  .rw[hm]at h;cases h
  .exact h
 rw[hm]at h2;injection h2 with h2 _ hcc;injection h2 with h2;injection h2 with h2;subst h2;subst hcc;obtain⟨h3,_⟩:=hg.inj h3;subst h3;obtain⟨fr,hg,hfr0⟩:=hg;have hmul:l.es.length*l.sz<=cap*l.sz:=D9 _ h4;obtain⟨c',k1,k2,k3,k4,k5,k6,k7,k8⟩:=Ux g vs k0 w hg (by rw[hl];omega);rw[hl]at k3;let w':=w.setCells g k0 vs;have hout: ∀ k,(k<k0\/k0+xs.length<=k)->c'[k]? =cur[k]? :=by all_goals grind[getD_eq]
 have hown: ∀ k,k<l.es.length*l.sz->O g k=some q:=by intro k hk;simpa using h9 k hk
 have hM:Moves O (fun i=>i=q) w w':=by
  refine Moves.row k6 k7 k8 k5 hg k1 k4 k2 (fun k hk=>hout k ?_) (.inl ⟨k0,q,by omega,hown _ (by omega),rfl⟩);rcases DN k k0 with h | h
  .exact .inl h
  .right;rcases DN k (k0+xs.length)with h' | h'
   .exact absurd rfl (hk q (hown k (by omega)))
   .exact h'
 have hP:Passes O O (fun i=>i=q) w.heap.size:=⟨fun _ _ _ h=>h,fun _ _ _ _ h _=>h⟩
 have hpr:=hM.JE hP;have hE:NY st.Jm m (KG st.Jm q (.arr e false l')) m (fun _=>False):=by intro r y hy;all_goals grind[JL,Obj.shp]
 have:=hS.next (st':= {st with Jm:=KG st.Jm q (.arr e false l')}) (d:=none) (v:=undef) (x:=.undef) (T:=fun i=>i=q) (Nw:=fun _=>False) hM hP (fun b k _ h=>h) hE (fun _ h=>h.elim) (fun r hr=>by rw[hr,hq];rfl) (fun r y hy=> ?_) rfl (fun h=>absurd rfl h)
 .exact this
 .rw[JL]at hy;by_cases hrq:r=q
  .right;subst hrq;rw[Dw rfl]at hy;injection hy with hy;subst hy;refine⟨?_,hS.ids _ _ hq⟩;simp only[Kv];rw[hln];refine⟨fun x hx=>Sl.es_len _ x hx,.inr ⟨trivial,g,cap,c',hm,⟨fr,k1,by rw[k2];exact hfr0⟩,h4,h5,by rw[k2,hls];exact h6,fun r' j hr' hj=> ?_,fun k hk hge=> ?_,fun k hk=> ?_⟩⟩
   .rw[hls]at hj ⊢;obtain⟨u,h10,h11⟩:=h7 r' j hr' hj;have hlt:r'*l.sz+j<l.es.length*l.sz:=by have:(r'+1)*l.sz<=l.es.length*l.sz:=D9 _ hr';rw[DT]at this;omega
    rw[hel r' j hr' hj];by_cases hin:k0<=r'*l.sz+j/\r'*l.sz+j<k0+xs.length
    .rw[Dw hin];refine⟨_,getD_eq,?_⟩;rw[k3,Dw hin];exact(hv _ (by omega)).JE hpr
    .rw[Du hin,hout _ (by omega)];exact⟨u,h10,h11.JE hpr⟩
   .rw[hls]at hge;rw[k2]at hk;exact h8 k hk hge
   .rw[hls]at hk;simpa using hown k hk
  .rw[Du hrq]at hy;exact .inl ⟨hrq,hy,rfl⟩
theorem Adw {t:Ty} {cs:List A} (h:(Vj t cs).1=true):(⟨t,(Vj t cs).2⟩:Sl).es=cs.map fun c=>[c]:=by simp_all[Vj,Sl.es,Ty.OX,Ty]
theorem Ac6: ∀(l:List (Nat×Obj)) (u:List (Nat×Obj)) (p:Nat×Obj),J3 l (u++[p])=KG (J3 l u) p.1 p.2:=by
 intro l u p
 induction u generalizing l with
 | nil=>rfl
 | cons s u ih=>exact ih _
theorem zC {t:Nat} {x y:Operand} (hC:TOk P C) (hS:Sim V0 O0 w0 O m st a w) (hd:o.dst=none) (ho:o.op= .store t x y) {fet:Fet} (hf:MP st.Jm fet) {q i off:Nat} {v':A} (hx:Jw O st.Jm m w (a.eval x) (.KD q i off)) (hy:Jw O st.Jm m w (a.eval y) v')
 (hok:Jv (PR C fet t (.KD q i off) v').ok):Good P V0 O0 w0 (apply st o (PR C fet t (.KD q i off) v')) o a w:=by
 intro next Q hn
 unfold PR at *
 obtain⟨ti,ht,he⟩:=JH hok;rw[he]at hok hn;clear he;dsimp only at hok hn;obtain⟨r,hr,he⟩:=J8 hok;rw[he]at hok hn;clear he
 have main: ∀(l':Sl) (δ :Dl),Jv (JS fet ti.cs v'.cells).1->r.frz=false->has ((JS fet ti.cs v'.cells).2.2.map (·.1)) q=false->i<r.l.es.length->i*r.l.sz+off+ti.cs.length<=r.l.es.length*r.l.sz->0<ti.cs.length ->
  l'.es.length=r.l.es.length->l'.sz=r.l.sz->(∀ r' j,r'<r.l.es.length->j<r.l.sz->(l'.es.getD r' []).getD j .undef=if i*r.l.sz+off<=r'*r.l.sz+j/\r'*r.l.sz+j<i*r.l.sz+off+(JS fet ti.cs v'.cells).2.1.length then(JS fet ti.cs v'.cells).2.1.getD (r'*r.l.sz+j - (i*r.l.sz+off)) .undef else(r.l.es.getD r' []).getD j .undef) ->
  δ = {ok:= δ.ok,val:=.undef,upd:=(JS fet ti.cs v'.cells).2.2++[(q,.arr r.e false l')]}->(∀ O' m' a' w',Sim V0 O0 w0 O' m' (apply st o δ) a' w'->next a' w')->o.wp P a w next Q:=by
  intro l' δ hok1 h1 hno h3 hrow' h4 hln hls hel hδ hn;have hT:=hC.is ht;have hval:=YU hok1;have hvc:=hy.cells hval;obtain⟨g1,g2,g3,g4⟩:=PN hf ti.cs v'.cells (fun j=>(a.eval y).cells.getD j undef) (fun j hj=>hvc.2 j hj) hok1;obtain⟨O1,hS1,hp1,hle1,hv1,hE1,_⟩:=hS.freezes _ g3;have hq:=hf _ _ (L9 hr);have hqU: ∀ p∈(JS fet ti.cs v'.cells).2.2,p.1≠q:=by intro p hp he;have:has ((JS fet ti.cs v'.cells).2.2.map (·.1)) q=true:=MS.2 (D8.2 ⟨p,hp,he⟩);rw[this]at hno;cases hno
  have hq1:Jr (J3 st.Jm (JS fet ti.cs v'.cells).2.2) q=some (.arr r.e false r.l):=by rw[KW _ _ _ hqU,hq,h1]
  have hx':J4 O st.Jm m w (a.eval x) (.KD q i off):=hx;obtain⟨_,hx'⟩:=hx';rw[hq]at hx';simp only[Option.map_some,Obj.shp]at hx';obtain⟨g,n',cap,h5,h6⟩:=hx' h3;obtain⟨hsz,hr'⟩:=hS1.Jm q _ hq1
  obtain⟨cur,h7,h8⟩: ∃ cur,m q= .slice (some (at' g 0)) r.l.es.length cap/\L8 w g cur r.e/\cur.size=cap*r.l.sz/\r.l.es.length<=cap:=by
   rcases hr' with ⟨_,h9,_⟩ | ⟨h9,g',cap',cur,h10,h11,h12,h13,h14,_⟩
   .rw[h9]at h3;simp at h3
   .have h10':=h10;rw[h5]at h10';injection h10' with q1 q2 q3;injection q1 with q1;injection q1 with q1;subst q1;subst q3;exact⟨cur,h10,h11,h14,h12⟩
  obtain⟨h8,h9,h10⟩:=h8;have hsz2:(a.eval y).cells.size=ti.cs.length:=by rw[hvc.1,g2]
  have hrow:i*r.l.sz+off+ti.cs.length<=cur.size:=by have:r.l.es.length*r.l.sz<=cap*r.l.sz:=D9 _ h10;omega
  have hrun:(execOp a.eval o).run P w= .ok .skip (w.setCells g (i*r.l.sz+off) (a.eval y).cells.toList):=by
   have:=gG (P:=P) (w:=w) (b:=g) (k:=i*r.l.sz+off) hT hsz2 (fun j hj=>(hvc.2 j (by rw[<- hvc.1];exact hj)).one) (fun j hj=>by
    have hlt:i*r.l.sz+off+j<cur.size:=by omega
    rw[h8.cell];simp [hlt]) (fun j hj=>h8.frozen (by omega))
   simp only[execOp,ho,Instr.storeAt,Instr.sureAddr,h6,Dv,Sem.run_pure,Result.andThen_ok,this]
  unfold Oper.wp;rw[hrun,Oper.upon_skip]
  have hfin:=gB hS1 (k0:=i*r.l.sz+off) (l':=l') (vs:=(a.eval y).cells.toList) (xs:=(JS fet ti.cs v'.cells).2.1) hq1 h7 h8 hln hls (by rw[g1];exact hrow') (by rw[Array.length_toList,hsz2,g1]) (by rw[g1];exact h4) hel (fun j hj=>by
   rw[g1]at hj;have e1:(a.eval y).cells.toList.getD j undef=(a.eval y).cells.getD j undef:=by rw[Dj,Di,DF]
   rw[e1];exact g4 hp1 hv1 j hj)
  refine hn O1 m _ _ ?_;have happ:apply st o δ = {tmps:=st.tmps,Jm:=KG (J3 st.Jm (JS fet ti.cs v'.cells).2.2) q (.arr r.e false l')}:=by rw[hδ];unfold apply;rw[hd,Ac6];rfl
  rw[happ,hd];exact hfin
 cases hrow:isRow ti r.l i off with
 | true =>
  rw[hrow]at hok hn;simp only[cond_true]at hok hn;obtain⟨hok1,hok2⟩:=hok.append;obtain⟨h1,h2⟩:=hok2.cons;obtain⟨hset,h2⟩:=h2.cons;obtain⟨h2,h3⟩:=h2.cons;obtain⟨_,h3⟩:=h3.cons;obtain⟨h4,hno⟩:=h3.cons;have hno:=hno.cons.1;simp only[isRow,Dn]at hrow;obtain⟨⟨⟨r4,r1⟩,r3⟩,r2⟩:=hrow;have r1:=Dk r1;have r2:=Dk r2;have r3:=Dk r3;have h2:=Dk h2;have h4:0<ti.cs.length:=by simpa [DY]using h4
  have hpl:(JS fet ti.cs v'.cells).2.1.length=ti.cs.length:=(PN hf ti.cs v'.cells (fun j=>(a.eval y).cells.getD j undef) (fun j hj=>(hy.cells (YU hok1)).2 j hj) hok1).1;have hes:=Adw hset;have hxl:ti.cs.length=r.l.es.length:=by rw[Sl.JV];exact h2
  subst r2;subst r3;refine main ⟨r.l.t,(Vj r.l.t (JS fet ti.cs v'.cells).2.1).2⟩ _ hok1 (by simpa using h1) (by simpa using hno) (by omega) (by rw[r1];omega) h4 (by rw[hes,D5,hpl,hxl]) rfl (fun r' j hr' hj=> ?_) rfl hn;rw[r1]at hj ⊢;have:j=0:=by omega
  subst this;rw[hes,AiD];have e:r'*1+0 - (0*1+0)=r':=by omega
  rw[e];simp [Di,show r'<(JS fet ti.cs v'.cells).2.1.length by omega]
 | false =>
  rw[hrow]at hok hn;simp only[cond_false]at hok hn;obtain⟨hok1,hok2⟩:=hok.append;obtain⟨h1,h2⟩:=hok2.cons;obtain⟨hset,h2⟩:=h2.cons;obtain⟨h2,h3⟩:=h2.cons;obtain⟨h3,h4⟩:=h3.cons;obtain⟨h4,hno⟩:=h4.cons;have hno:=hno.cons.1;have h4:0<ti.cs.length:=by simpa [DY]using h4
  have h2:=D6 h2;have h3':i<r.l.xs.length:=by simpa using h3
  have h3:i<r.l.es.length:=by rw[Sl.JV];exact h3'
  have hpl:(JS fet ti.cs v'.cells).2.1.length=ti.cs.length:=(PN hf ti.cs v'.cells (fun j=>(a.eval y).cells.getD j undef) (fun j hj=>(hy.cells (YU hok1)).2 j hj) hok1).1;have hes:=Sl.Ahu r.l h3' hset;have hmul: ∀ {x y:Nat},x<y->x*r.l.sz+r.l.sz<=y*r.l.sz:=fun h=>by have:=D9 r.l.sz h;rw[Nat.succ_mul]at this;exact this
  refine main (r.l.set i off (JS fet ti.cs v'.cells).2.1).2 _ hok1 (by simpa using h1) (by simpa using hno) h3 (by have:=hmul h3;omega) h4 (by rw[hes,EI]) rfl (fun r' j hr' hj=> ?_) rfl hn;have hei:(r.l.es.getD i []).length=r.l.sz:=Sl.es_len _ _ (by rw[Di,D7 h3];simp);rw[hes];by_cases hri:r'=i
  .subst hri;have e1:(r.l.es.set r' (splice (r.l.es.getD r' []) off (JS fet ti.cs v'.cells).2.1)).getD r' []=splice (r.l.es.getD r' []) off (JS fet ti.cs v'.cells).2.1:=by simp [Di,hr']
   rw[e1,X5 _ _ _ _ (by omega)];by_cases hin:off<=j/\j<off+(JS fet ti.cs v'.cells).2.1.length
   .rw[Dw hin,AiD,show r'*r.l.sz+j - (r'*r.l.sz+off)=j - off from by omega]
   .rw[Du hin,Du]
  .have e1:(r.l.es.set i (splice (r.l.es.getD i []) off (JS fet ti.cs v'.cells).2.1)).getD r' []=r.l.es.getD r' []:=by
    simp only[Di,E8];rw[Du (fun h=>hri h.symm)]
   rw[e1,Du ?_];rcases Gg hri with h | h
   .have:=hmul h;omega
   .have:=hmul h;omega
theorem Af9 {fet:Fet} {t:Nat} {x l:Operand} (hC:TOk P C) (hf:FOk O st.Jm m w fet) (ho:o.op= .slice t x (some l) none none) {x' l':A} (hx:Jw O st.Jm m w (a.eval x) x') (hl:Jw O st.Jm m w (a.eval l) l')
 (hok:Jv (Zl C fet t x' l').ok):Pure P O st.Jm m a w o (Zl C fet t x' l'):=by
 unfold Zl at hok ⊢;obtain⟨ti,ht,he⟩:=JH hok;rw[he]at hok ⊢;clear he;cases x' with
 | own q =>
  dsimp only at hok ⊢;obtain⟨ro,hro,he⟩:=J8 hok;rw[he]at hok ⊢;clear he;obtain⟨n,hn,he⟩:=J8 hok;rw[he]at hok ⊢;clear he;obtain⟨e,hel,he⟩:=J8 hok;rw[he]at hok ⊢;clear he;obtain⟨te,hte,he⟩:=JH hok;rw[he]at hok ⊢;clear he;obtain⟨h1,h2⟩:=hok.cons;obtain⟨h2,h3⟩:=h2.cons;have h3:=h3.cons.1;have h1:=Dk h1;have h2:0<=n:=by simpa using h2
  obtain⟨k,rfl⟩:=Eh h2;have h3:k<ro.l.es.length:=by all_goals grind[Sl.JV]
  obtain⟨kk,rfl⟩:=PM hn;have hl:=hl.int;obtain⟨h4,_,h5⟩:=hx.own hf (L9 hro);have hg:=(hf _ _ (L9 hro)).1;rcases h5 with ⟨_,h6,_⟩ | ⟨_,g,cap,cur,h6,h7,h8,_⟩
  .rw[h6]at h3;simp at h3
  .have hd:=Ol hel;have hu:=(hC.is ht).run w;rw[hd]at hu;have hs:=(hC.is hte).MM w
   have hb:(Instr.sliceBounds true ro.l.es.length cap (some (a.eval l)) none none).run P w= .ok (k,ro.l.es.length,cap) w:=by
    have:k<=ro.l.es.length:=by omega
    simp [Instr.sliceBounds,Instr.sliceBound,hl,asIntOf,this]
   refine⟨⟨.slice (some (at' g (k*ro.l.sz))) (ro.l.es.length - k) (cap - k),?_,?_⟩,rfl,rfl,rfl⟩
   .have hne: ¬ cap=k:=by omega
    simp only[execOp,ho,Instr.sliceAt,Dv,hu,Result.andThen_ok,Instr.slice,h4,h6,Option.map_none,Option.map_some,hb,hs,Sem.run_pure,Du hne,<- h1];simp [Og]
   .show J4 O st.Jm m w _ (.osl q k);simp only[J4,hg,Option.map_some,Obj.shp];exact⟨rfl,fun _=>⟨g,cap,h6,rfl⟩⟩
 | _=>exact(J5 hok).elim
theorem Ae7 {c:Call} {x y:Operand} {ts':List Nat} (hC:TOk P C) (hS:Sim V0 O0 w0 O m st a w) (ho:o.op= .call c) (hcal:c.callee= .builtin .copy) (hargs:c.args= #[x,y]) (hts:c.argTypes.toList=ts') {fet:Fet} (hf:MP st.Jm fet) {x' y':A}
 (hx:Jw O st.Jm m w (a.eval x) x') (hy:Jw O st.Jm m w (a.eval y) y') (hok:Jv (zN C fet ts' x' y').ok):Good P V0 O0 w0 (apply st o (zN C fet ts' x' y')) o a w:=by
 intro next Q hn
 unfold zN at *
 split at hok
 .rename_i t u;dsimp only at hn;obtain⟨ti,e,te,ht,hte,hd',he⟩:=QP hok;rw[he]at hok hn;clear he;cases x' with
  | osl q k =>
   dsimp only at hok hn;obtain⟨r,hr,he⟩:=J8 hok;rw[he]at hok hn;clear he;obtain⟨ys,hys,he⟩:=J8 hok;rw[he]at hok hn;clear he;obtain⟨s,hs,he⟩:=J8 hok;rw[he]at hok hn;clear he;obtain⟨h1,h2⟩:=hok.cons;obtain⟨h2,h3⟩:=h2.cons;obtain⟨h3,h4⟩:=h3.cons;obtain⟨h4,h5⟩:=h4.cons;have h5:k+s.length<=ys.length:=by simpa using h5.cons.1
   have h40:0<s.length:=by simpa using h4
   have hz:r.frz=false:=by simpa using h3
   clear h3;have h2:=Dk h2;have:=gI hs;subst this;have hrl:=Sl.NC hys;clear hys;obtain⟨ys,rfl⟩: ∃ zs:List Int,zs=ys:=⟨ys,rfl⟩
   obtain⟨re,rf,rl⟩:=r;have h5':k+s.length<=ys.length:=h5;clear h5;dsimp only at hrl hz hn;subst hrl;subst hz;have hq:=hf q _ (L9 hr);dsimp only at hq;have hes: ∀ zs:List Int,(⟨O9,zs⟩:Sl).es=zs.map fun z=>[A.int .u8 z]:=fun zs=>rfl;have hlen:(⟨O9,ys⟩:Sl).es.length=ys.length:=by rw[hes,D5]
   obtain⟨bs,hb,hbl⟩:=hy.str;have hsz:bs.size=s.length:=by rw[Py,hbl]
   obtain⟨_,hrow⟩:=hS.Jm q _ hq;have hx':J4 O st.Jm m w (a.eval x) (.osl q k):=hx;simp only[J4,hq,Option.map_some,Obj.shp]at hx';obtain⟨g,cap,g1,g2⟩:=hx'.2 (by rw[hlen];omega);rcases hrow with ⟨_,h6,_⟩ | ⟨_,g',cap',cur,k1,k2,k3,k4,k5,k6,k7,k8⟩
   .rw[hes]at h6;have h6:=congrArg List.length h6;rw[D5,List.length_nil]at h6;omega
   .rw[g1]at k1;injection k1 with q1 q2 q3;injection q1 with q1;injection q1 with q1;subst q1;subst q3;have hszb:(⟨O9,ys⟩:Sl).sz=1:=rfl;rw[hszb]at g2 k5 k7 k8;rw[hlen]at g2 k3 k7 k8;let vs:List Value:=bs.data.toList.map fun b=>Value.int .u8 (b.toNat:Int);have hvl:vs.length=s.length:=by show(List.map _ _).length=_;rw[D5,<- hbl]
    have hfit:k+s.length<=cur.size:=by omega
    have hst:=run_storeCells_cells (P:=P) g k vs 0 w (fun j hj=>by
     rw[Nat.add_zero];have:k+j<cur.size:=by omega
     have:=k2.cell (k+j);rw[this,Dt (by omega)];rfl) (fun j hj=>by rw[Nat.add_zero];exact k2.frozen (by omega)) (fun v hv=>by obtain⟨b,_,rfl⟩:=D8.1 hv;rfl)
    have hu:=(hC.is ht).run w;rw[hte]at hu;have hsize:=(hC.is hd').MM w;have hmin:Nat.min s.length (ys.length - k)=s.length:=G6 (by omega);have hfc:(Builtin.firstCells te.cs.length s.length (.string bs)).run P w= .ok vs.toArray w:=by rw[<- hsz];simp [Builtin.firstCells,vs];rw[<- Array.toList_inj];simp
    have hat:c.argTypes= #[t,u]:=by have:=congrArg List.toArray hts;simpa using this
    have hrun:(execOp a.eval o).run P w= .ok (.value (.int .i64 (s.length:Int))) (w.setCells g k vs):=by simp only[execOp,ho,resolve,hcal,hargs,hat,invoke,builtin,Builtin.copy_];simp [hu,g2,hb,Builtin.lenOf,hsize,hsz];simp [hmin,hfc,hst,goInt]
    unfold Oper.wp;rw[hrun,Oper.upon_value];have hput:(Abm ys k s).length=ys.length:=by unfold Abm;simp;omega
    have hsim:=gB hS (k0:=k) (l':=⟨O9,Abm ys k s⟩) (vs:=vs) (xs:=s.map fun b=>A.int .u8 (b.toNat:Int)) hq g1 k2 (by rw[hes,hes,D5,D5,hput]) rfl (by rw[D5,hlen,hszb];omega) (by rw[hvl,D5]) (by rw[D5];exact h40) (fun r' j hr' hj=>by
     rw[hszb]at hj ⊢;have:j=0:=by omega
     subst this;rw[hlen]at hr';have e1: ∀ zs:List Int,r'<zs.length->((⟨O9,zs⟩:Sl).es.getD r' []).getD 0 .undef= .int .u8 (zs.getD r' 0):=by intro zs hz;rw[hes];simp [Di,hz]
     rw[e1 _ (by rw[hput];exact hr'),e1 _ hr',D5,Eo,Nat.add_zero];unfold Abm;rw[Di,EN,FU,EG,G6 (by omega)];by_cases h0:r'<k
     .rw[Dw h0,Du,EU h0,<- Di]
     .rw[Du h0,FU,D5];by_cases h7:r' - k<s.length
      .rw[Dw h7,AiD];simp [Di,h7]
      .rw[Du h7,Du,EJ,show k+s.length+(r' - k - s.length)=r' by omega,<- Di]) (fun j hj=>by
     rw[D5]at hj;have e1:vs.getD j undef= .int .u8 ((s.getD j 0).toNat:Int):=by simp [vs,Di,hbl,hj]
     have e2:(s.map fun b=>A.int .u8 (b.toNat:Int)).getD j .undef= .int .u8 ((s.getD j 0).toNat:Int):=by simp [Di,hj]
     rw[e1,e2];exact .int _ _)
    refine hn O m _ _ ?_;have hfin:=hsim.put o.dst (x:=.int .i64 (s.length:Int)) (v:=.int .i64 (s.length:Int)) (.mkInt _ _);exact hfin
  | _=>exact(J5 hok).elim
 .exact(J5 hok).elim
end
open Go.Lib (bytesWorld bytesCells bytesWorld_at_old bytesWorld_at_new bytesWorld_size)
section
variable {P:Program} {C:Ctx} {V0:Nat->Value} {O0 O:Own} {w0 w:World} {m:Nat->Value} {st:St} {a:Act} {o:Oper}
theorem AbP (w:World) (e:TypeId) (s:ByteArray):Moves O (fun _=>False) w (bytesWorld w e s):=by refine⟨rfl,rfl,rfl,?_,fun b hb=>.inl (bytesWorld_at_old w e s b hb)⟩;rw[bytesWorld_size];omega
theorem Adc {s t:Nat} {x:Operand} (hC:TOk P C) (hS:Sim V0 O0 w0 O m st a w) {d:Tmp} (hd:o.dst=some d) (ho:o.op= .convert s t x) {l:List UInt8} (hx:Jw O st.Jm m w (a.eval x) (.str l))
 (hok:Jv (aN C d s t l).ok) (hfr: ∀ p∈(aN C d s t l).new,st.fresh p.1=true):Good P V0 O0 w0 (apply st o (aN C d s t l)) o a w:=by
 intro next Q hn
 unfold aN at *
 obtain⟨ts,hts,he⟩:=JH hok;rw[he]at hok hfr hn;clear he;obtain⟨ti,e,te,ht,hte,hd',he⟩:=QP hok;rw[he]at hok hfr hn;clear he;obtain⟨h1,h2⟩:=hok.cons;have h2:=h2.cons.1;have hlen:l.length<=140737488355328:=by simpa using h2
 have hde:=AaO h1;have hue:=(hC.is hd').d;rw[hde]at hue;have hut:=(hC.is ht).d;rw[hte]at hut;obtain⟨b,hb,hl⟩:=hx.str;have hbl:b.size=l.length:=by rw[Py,hl]
 have hr:(execOp a.eval o).run P w= .ok (.value (.slice (some (at' w.heap.size 0)) b.size (grownCap w b.size 0 e))) (bytesWorld w e b):=by have:=Go.Lib.run_convert_string_bytes (P:=P) w s t e b (hC.is hts).d hut hue;simp only[execOp,ho,hb,Dv,this];rfl
 unfold Oper.wp;rw[hr,Oper.upon_value,hd];have hge:=grownCap_ge w b.size 0 e;have hes:(⟨O9,l.map (fun(b:UInt8)=>((b.toNat:Int)))⟩:Sl).es=l.map (fun(x:UInt8)=>[A.int .u8 (x.toNat:Int)]):=by show List.map (Ty.int IntKind.u8 Ty.nil).cells (List.map (fun(b:UInt8)=>((b.toNat:Int))) l)=_;exact EP.trans rfl
 have hesl:(⟨O9,l.map (fun(b:UInt8)=>((b.toNat:Int)))⟩:Sl).es.length=b.size:=by rw[hes,D5,hbl]
 have hcs:(bytesCells w e b).size=grownCap w b.size 0 e:=by simp [bytesCells];have:b.data.size=b.size:=rfl;omega
 obtain⟨O',m',h⟩:=jV hS (AbP w e b) (d:=d) (e:=e) (cap:=grownCap w b.size 0 e) (frz:=false) (l:=⟨O9,l.map (fun(b:UInt8)=>((b.toNat:Int)))⟩) (del:=[]) (cur:=bytesCells w e b)
  ⟨_,bytesWorld_at_new w e b,.inr (DR _)⟩ (by rw[hesl];exact hge) (grownCap_le_maxLen w _ _ _ (by unfold maxLen;omega)) (by rw[hcs];show _=_*1;omega) ⟨Sl.es_len _,fun i j hi hj=>by
    have hj0:j=0:=by have:j<1:=hj;omega
    subst hj0;rw[hesl]at hi;have hi':i<l.length:=by omega
    have hi2:i<b.data.toList.length:=by rw[hl];exact hi'
    refine⟨.int .u8 (l.getD i 0).toNat,?_,?_⟩
    .have hlt:i<b.data.size:=hi;show(bytesCells w e b)[i*1+0]? =_;rw[Eo,Nat.add_zero];unfold bytesCells;rw[Ei (by simpa using hlt)];rw[Array.getElem?_map];have:b.data[i]? =some (l.getD i 0):=by rw[<- DF,hl,Di,D7 hi'];rfl
     rw[this];rfl
    .rw[hes];have:(l.map (fun(x:UInt8)=>[A.int .u8 (x.toNat:Int)])).getD i []=[A.int .u8 ((l.getD i 0).toNat:Int)]:=by simp [Di,hi']
     rw[this];exact .int _ _⟩ (Ls (hfr _ Dp))
 rw[hesl]at h;refine hn O' m' _ _ ?_;rw[Q5 hd];exact h
theorem Ae6 {s t:Nat} {x:Operand} (hC:TOk P C) (hS:Sim V0 O0 w0 O m st a w) (ho:o.op= .convert s t x) {fet:Fet} (hf:MP st.Jm fet) {x':A} (hx:Jw O st.Jm m w (a.eval x) x')
 (hok:Jv (gX C o fet s t x').ok) (hfr: ∀ p∈(gX C o fet s t x').new,st.fresh p.1=true):Good P V0 O0 w0 (apply st o (gX C o fet s t x')) o a w:=by
 have hF:FOk O st.Jm m w fet:=fun q x h=>⟨hf q x h,hS.Jm q x (hf q x h)⟩
 by_cases hs: ∃ l,x'= .str l
 .obtain⟨l,rfl⟩:=hs;unfold gX at *
  dsimp only at hok hfr ⊢;obtain⟨tt,htt,he⟩:=JH hok;rw[he]at hok hfr ⊢;clear he;cases hb:AaN tt.d with
  | true =>rw[hb]at hok hfr;simp only[cond_true]at hok hfr ⊢;obtain⟨d,hd,he⟩:=J8 hok;rw[he]at hok hfr ⊢;clear he;exact Adc hC hS hd ho hx hok hfr
  | false =>rw[hb]at hok;simp only[cond_false]at hok ⊢;exact(aQ hC hF ho hx hok).good hS
 .have e:gX C o fet s t x'=SG C fet s t x':=by
   cases x'<;>first | rfl | exact absurd ⟨_,rfl⟩ hs
  rw[e]at hok ⊢;exact(aQ hC hF ho hx hok).good hS
theorem AgQ (n:Nat) (cs:List CK) {i j:Nat} (hi:i<n) (hj:j<cs.length):((List.replicate n cs).flatten).getD (i*cs.length+j) .oth=cs.getD j .oth:=by
 induction n generalizing i with
 | zero=>omega
 | succ n ih =>
  rw[List.replicate_succ,List.flatten_cons,Di];cases i with
  | zero=>rw[DU (by omega),FC,DD,<- Di]
  | succ i =>rw[DT,Nat.one_mul,Ea (by omega),show i*cs.length+cs.length+j - cs.length=i*cs.length+j from by omega,<- Di];exact ih (by omega)
theorem dP {t n:Nat} {l:Sl} {cur:Array Value} (hS:Sim V0 O0 w0 O m st a w) {d:Tmp} (hd:o.dst=some d) (hr:(execOp a.eval o).run P w= .ok (.value (.pointer (some (at' w.heap.size 0)))) (w.alloc (.cells cur t)))
 (hn:l.xs.length=n) (hmax:n<=16777216) (hsz:cur.size=n*l.sz) (hheld:Held O w cur l.sz l.es) (hfresh:Nl st (b2 d)) :
 Good P V0 O0 w0 {tmps:=st.tmps.set d (.KD (b2 d) 0 0),Jm:=J3 (JK st.Jm []) [(b2 d,.arr t false l)]} o a w:=by
 intro next Q hnx
 unfold Oper.wp;rw[hr,Oper.upon_value,hd];obtain⟨O',m',h⟩:=RF hS (Moves.refl _ _ w) rfl (d:=d) (e:=t) (cap:=n) (frz:=false) (l:=l) (cur:=cur) (del:=[]) (by rw[Sl.JV,hn];exact DR _) (by unfold maxLen;omega) hsz hheld hfresh;rw[Sl.JV,hn]at h;refine hnx O' m' _ _ ?_;by_cases hdt:d<st.tmps.length
 .
  have hslot:=h.tmps d (by simpa using hdt)
  have hself:(a.put (some d) (.slice (some (at' w.heap.size 0)) n n)).tmps.getD d undef= .slice (some (at' w.heap.size 0)) n n:=by
   have hs:d<a.tmps.size:=by rw[hS.size];exact hdt
   simp [Act.put,Dj,hs]
  have hself2:(st.tmps.set d (.own (b2 d))).getD d .undef= .own (b2 d):=by simp [Di,hdt]
  rw[hself,hself2]at hslot;have hc:J4 O' (J3 (JK st.Jm []) [(b2 d,.arr t false l)]) m' (w.alloc (.cells cur t)) (.slice (some (at' w.heap.size 0)) n n) (.own (b2 d)):=hslot;have hg:Jr (J3 (JK st.Jm []) [(b2 d,Obj.arr t false l)]) (b2 d)=some (.arr t false l):=by simp only[J3];rw[JL,Dw rfl]
  have hm: .slice (some (at' w.heap.size 0)) n n=m' (b2 d):=by have:=hc.2;rw[hg]at this;exact this
  have hcr:J4 O' (J3 (JK st.Jm []) [(b2 d,.arr t false l)]) m' (w.alloc (.cells cur t)) (.pointer (some (at' w.heap.size 0))) (.KD (b2 d) 0 0):=by simp only[J4,hg,Option.map_some,Obj.shp];exact⟨rfl,fun _=>⟨w.heap.size,n,n,hm.symm,by simp⟩⟩
  have hnew:=h.put (some d) (x:=.KD (b2 d) 0 0) (v:=.pointer (some (at' w.heap.size 0))) hcr.toT;have e1:put (st.tmps.set d (.own (b2 d))) (some d) (.KD (b2 d) 0 0)=st.tmps.set d (.KD (b2 d) 0 0):=by simp [put]
  have e2:(a.put (some d) (.slice (some (at' w.heap.size 0)) n n)).put (some d) (.pointer (some (at' w.heap.size 0)))=a.put (some d) (.pointer (some (at' w.heap.size 0))):=by simp [Act.put]
  rw[e2]at hnew;dsimp only at hnew;rw[e1]at hnew;exact hnew
 .have e1: ∀ x,st.tmps.set d x=st.tmps:=fun x=>List.set_eq_of_length_le (Gx hdt)
  have e2: ∀ v,a.put (some d) v=a:=by
   intro v;have hs: ¬ d<a.tmps.size:=by rw[hS.size];exact hdt
   have:a.tmps.setIfInBounds d v=a.tmps:=by simp [Array.setIfInBounds,hs]
   simp only[Act.put,this]
  rw[e1,e2]at h;rw[e1,e2];exact h
theorem wZ {t n e:Nat} {ti te:TI} (hC:TOk P C) (hS:Sim V0 O0 w0 O m st a w) {d:Tmp} (hd:o.dst=some d) (ho:o.op= .alloc t) (ht:C.T t=some ti)
 (hp:te.cs.all CK.plain=true) (h0:0<te.cs.length) (hn0:0<n) (hn:n<=16777216) (hcs:ti.cs=(List.replicate n te.cs).flatten) (hfresh:Nl st (b2 d)) :
 Good P V0 O0 w0 {tmps:=st.tmps.set d (.KD (b2 d) 0 0),Jm:=J3 (JK st.Jm []) [(b2 d,.arr t false ⟨tyl te.cs,List.replicate n (tyl te.cs).zero⟩)]} o a w:=by
 have hT:=hC.is ht;obtain⟨i,z,g1,g2,g3,g4,g5,g6⟩:=hT.i;have hsz:z.cells.size=ti.cs.length:=by rw[<- Array.length_toList];exact(OM (O:=O) (Jm:=[]) (m:=fun _=>undef) (w:=w) _ _ g5).1
 have hlen:ti.cs.length=n*te.cs.length:=by rw[hcs];simp
 have hpl:ti.cs.all CK.plain=true:=by rw[hcs,DI];intro k hk;obtain⟨l,hl,hkl⟩:=List.mem_flatten.1 hk;rw[EH hl]at hkl;exact DI.1 hp k hkl
 have hv:=U1 (O:=O) (w:=w) _ _ g5 hpl;have hr:(execOp a.eval o).run P w= .ok (.value (.pointer (some (at' w.heap.size 0)))) (w.alloc (.cells z.cells t)):=by simp only[execOp,ho,Instr.alloc,Dv,zeroValue,typeInfo,run_program,Result.andThen_ok,g1,g4,Sem.run_pure,newVar,newRow];rfl
 have hel:(⟨tyl te.cs,List.replicate n (tyl te.cs).zero⟩:Sl).es=List.replicate n (te.cs.map CK.MG):=Sl.V7 _ _ hp;have hsl:(⟨tyl te.cs,List.replicate n (tyl te.cs).zero⟩:Sl).sz=te.cs.length:=Qe _
 exact dP hS hd hr (by rw[Eb]) hn (by rw[hsz,hlen,hsl])
  ⟨Sl.es_len _,fun r j hrl hj=>by
    rw[hsl]at hj ⊢;rw[Sl.JV,Eb]at hrl;have hlt:r*te.cs.length+j<n*te.cs.length:=by have:(r+1)*te.cs.length<=n*te.cs.length:=D9 _ hrl;rw[DT]at this;omega
    refine⟨z.cells.toList.getD (r*te.cs.length+j) undef,?_,?_⟩
    .rw[Di,DF];rw[Dt (by omega)];rfl
    .have:=hv (r*te.cs.length+j) (by omega)
     have e1:(ti.cs.map CK.MG).getD (r*te.cs.length+j) .undef=(te.cs.map CK.MG).getD j .undef:=by
      have e2:(ti.cs.map CK.MG).getD (r*te.cs.length+j) .undef=(ti.cs.getD (r*te.cs.length+j) .oth).MG:=by
       have:r*te.cs.length+j<ti.cs.length:=by omega
       simp [Di,this]
      have e3:(te.cs.map CK.MG).getD j .undef=(te.cs.getD j .oth).MG:=by simp [Di,hj]
      rw[e2,e3,hcs,AgQ n te.cs hrl hj]
     rw[e1]at this;rw[hel];have e4:(List.replicate n (te.cs.map CK.MG)).getD r []=te.cs.map CK.MG:=by simp [Di,hrl]
     rw[e4];exact this⟩ hfresh
theorem Ae0 {t:Nat} {x:Operand} {y:A} (hC:TOk P C) (hS:Sim V0 O0 w0 O m st a w) {d:Tmp} (hd:o.dst=some d) (ho:o.op= .box t x) (hx:Jw O st.Jm m w (a.eval x) y) (hids: ∀ i∈y.ids,i∈st.ids\/(Jr st.Jm i).isSome)
 (hok:Jv (aI C d t y).ok) (hfr: ∀ p∈(aI C d t y).new,st.fresh p.1=true) (hnd:nodup ((aI C d t y).new.map (·.1))=true):Good P V0 O0 w0 (apply st o (aI C d t y)) o a w:=by
 unfold aI at *
 cases hI:AgB C t with
 | none=>rw[hI]at hok hfr hnd;exact Ada hC hS hd ho hx hids hok hfr hnd
 | some q =>
  obtain⟨n,k⟩:=q;rw[hI]at hok hfr hnd;dsimp only at hok hfr hnd ⊢;cases y with
  | agg cs =>
   dsimp only at hok hfr hnd ⊢;obtain⟨h1,h2⟩:=hok.cons;obtain⟨h2,h3⟩:=h2.cons;have h3:=D6 h3.cons.1;have h2:=Dk h2;obtain⟨vs,g1,g2,g3⟩:=hx;have hr:(execOp a.eval o).run P w= .ok (.value (.pointer (some (at' w.heap.size 0)))) (w.alloc (.cells vs t)):=by simp only[execOp,ho,Instr.box,g1,Dv,Sem.run_pure,Result.andThen_ok,newVar,newRow];rfl
   rw[Q5 hd];refine dP (n:=n) hS hd hr (by show(cs.map A.toI).length=n;rw[D5,h2]) h3 (by show vs.size=n*1;rw[g2,h2,Eo]) ⟨Sl.es_len _,fun r j hr hj=> ?_⟩ (Ls (hfr _ Dp));have hj:j<1:=hj;have:j=0:=by omega
   subst this;have hr:r<cs.length:=by rw[Sl.JV]at hr;have hr:r<(cs.map A.toI).length:=hr;rwa [D5]at hr
   refine⟨vs.getD r undef,?_,?_⟩
   .show vs[r*1+0]? =_;rw[Eo,Nat.add_zero,Dj,Dt (by omega)];rfl
   .have h4:=g3 r hr;have h5:=DI.1 h1 cs[r] (EF hr);have e1:cs.getD r .undef=cs[r]:=by simp [Di,hr]
    have e2:((⟨.int k .nil,cs.map A.toI⟩:Sl).es.getD r []).getD 0 .undef= .int k cs[r].toI:=by have:(⟨.int k .nil,cs.map A.toI⟩:Sl).es=cs.map fun c=>[A.int k c.toI]:=EP (f:=A.toI) (g:=fun x=>[A.int k x]) (l:=cs);rw[this];simp [Di,hr]
    rw[e2];rw[e1]at h4;generalize cs[r]=c at h4 h5
    cases c<;>first
     | (rename_i k' x;have:=NL (show A.kEq k k'=true from h5);subst this;exact h4)
     | cases h5
  | _=>exact(J5 hok).elim
theorem AbM {t:Nat} (hC:TOk P C) (hS:Sim V0 O0 w0 O m st a w) {d:Tmp} (hd:o.dst=some d) (ho:o.op= .alloc t)
 (hok:Jv (TC C d t).ok) (hfr: ∀ p∈(TC C d t).new,st.fresh p.1=true) (hnd:nodup ((TC C d t).new.map (·.1))=true):Good P V0 O0 w0 (apply st o (TC C d t)) o a w:=by
 unfold TC at *
 obtain⟨ti,ht,he⟩:=JH hok;rw[he]at hok hfr hnd ⊢;clear he;cases ha:Yp ti.d with
 | some p =>obtain⟨n,e⟩:=p;rw[ha]at hok hfr;dsimp only at hok hfr ⊢;obtain⟨te,hte,he⟩:=JH hok;rw[he]at hok hfr ⊢;clear he;obtain⟨h1,h2⟩:=hok.cons;obtain⟨h2,h3⟩:=h2.cons;obtain⟨h3,h4⟩:=h3.cons;obtain⟨h4,h5⟩:=h4.cons;have h5:=h5.cons.1;rw[Q5 hd];exact wZ (n:=n) (e:=e) hC hS hd ho ht h1 (by simpa [DY]using h2) (by simpa [DY]using h3) (D6 h4) (by simpa using h5) (Ls (hfr _ Dp))
 | none =>rw[ha]at hok hfr hnd;exact Aad hC hS hd ho ht hok hfr hnd
end
end Go.Proofs.YtpaimpmokhihmaaGreatDoor.Vm
