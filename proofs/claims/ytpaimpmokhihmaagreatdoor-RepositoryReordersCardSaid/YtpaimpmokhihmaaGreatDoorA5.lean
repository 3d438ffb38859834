import Derived.Test.YtpaimpmokhihmaaGreatDoorA4
import Derived.Laws.Append
import Derived.Laws.AppendOwn
set_option linter.all false
namespace Go.Proofs.YtpaimpmokhihmaaGreatDoor.Vm
structure Sim (V0:Nat->Value) (O0:Own) (w0:World) (O:Own) (m:Nat->Value) (st:St) (a:Act) (w:World):Prop where
 defers:a.defers=[]
 size:a.tmps.size=st.tmps.length
 tmps: ∀ t,t<st.tmps.length->Jy O st.Jm m w (a.tmps.getD t undef) (st.tmps.getD t .undef)
 Jm: ∀ o x,Jr st.Jm o=some x->Kz O st.Jm m w o x
 frame:Moves O0 (fun o=>o≠255) w0 w
 own: ∀ b k o,b<w0.heap.size->O b k=some o->o≠255-> ∃ o0,O0 b k=some o0/\o0≠255
 ids: ∀ o x,Jr st.Jm o=some x->o≠255
 less: ∀ b k,b<w0.heap.size->O b k≠none->O0 b k≠none
 root: ∀ o,Su o=true->(Jr st.Jm o).isSome->m o=V0 o
 VM: ∀ b k,b<w0.heap.size->O0 b k=some 255->O b k=some 255
 inv:Inv O0 w0
def Sim.pK {V0:Nat->Value} {O0 O:Own} {w0 w:World} {m:Nat->Value} {st:St} {a:Act} (hS:Sim V0 O0 w0 O m st a w):Inv O w:=by
 refine⟨fun g j p ht=> ?_,fun g n ht=> ?_⟩
 .obtain⟨h1,v,h2,h3⟩:=hS.inv.1 g j p ht;have hb:=cell_lt h2;refine⟨?_,v,?_,h3⟩
  .cases h:O g j with
   | none=>rfl
   | some o=>exact absurd h1 (hS.less g j hb (by rw[h];simp))
  .rw[hS.frame.cell hb (fun o ho=>by rw[h1]at ho;cases ho)];exact h2
 .obtain⟨c,e,fr,h1,h2⟩:=hS.inv.2 g n ht;have hg:g<w0.heap.size:=(DL.1 h1).1;rcases hS.frame.blk g hg with he | ⟨d,d',e',fr',k1,k2,k3,_⟩ | ⟨es,ck,es',ck',o,k1,_⟩;all_goals simp_all[Own,Inv]
def Moves.Aim {O0 O:Own} {T:Nat->Prop} {w0 w w':World} (h:Moves O0 (fun o=>o≠255) w0 w) (h':Moves O T w w') (hO: ∀ b k o,b<w0.heap.size->O b k=some o->o≠255-> ∃ o0,O0 b k=some o0/\o0≠255) (hT: ¬ T 255) :
 Moves O0 (fun o=>o≠255) w0 w':=by
 refine⟨h'.os.trans h.os,h'.tape.trans h.tape,h'.output.trans h.output,FK h.size h'.size,fun b hb=> ?_⟩;have hb':b<w.heap.size:=EG hb h.size;have up: ∀ k o,O b k=some o->T o-> ∃ o',O0 b k=some o'/\o'≠255:=fun k o ho ht=>hO b k o hb ho (fun e=>hT (by rw[<- e];exact ht));rcases h'.blk b hb' with he' | ⟨c,c',e,fr,h1,h2,h3,h4,k,o,h5,h6,h7⟩ | ⟨es,ck,es',ck',o,h1,h2,h3,h4⟩
 .rcases h.blk b hb with he | ⟨d,d',e,fr,h1,h2,h3,h4,h5⟩ | ⟨es,ck,es',ck',o,h1,h2,h3,h4⟩
  .exact .inl (he'.trans he)
  .exact .inr (.inl ⟨d,d',e,fr,h1,he'.trans h2,h3,h4,h5⟩)
  .simp_all[Own]
 .obtain⟨o',ho',hne'⟩:=up k o h6 h7;rcases h.blk b hb with he | ⟨d,d',e',fr',g1,g2,g3,g4,g5⟩ | ⟨es,ck,es',ck',o1,g1,g2,g3,g4⟩
  .refine .inr (.inl ⟨c,c',e,fr,he▸h1,h2,h3,fun i hi=>h4 i (fun o'' ho'' ht=> ?_),k,o',h5,ho',hne'⟩);obtain⟨o3,ho3,hn3⟩:=up i o'' ho'' ht;exact hi o3 ho3 hn3
  .rw[g2]at h1;injection h1 with h1;injection h1 with q1 q2 q3;subst q1;subst q2;subst q3;refine .inr (.inl ⟨d,c',e',fr',g1,h2,h3.trans g3,fun i hi=> ?_,k,o',by omega,ho',hne'⟩);rw[h4 i (fun o'' ho'' ht=> ?_),g4 i hi];obtain⟨o3,ho3,hn3⟩:=up i o'' ho'' ht;exact hi o3 ho3 hn3
  .simp_all[Own]
 .obtain⟨o',ho',hne'⟩:=up 0 o h3 h4;rcases h.blk b hb with he | ⟨d,d',e',fr',g1,g2,g3,g4,g5⟩ | ⟨es1,ck1,es1',ck1',o1,g1,g2,g3,g4⟩
  .exact .inr (.inr ⟨es,ck,es',ck',o',he▸h1,h2,ho',hne'⟩)
  all_goals simp_all[Own]
def lW (tmps:List A) (d:Option Tmp) (v:A) (t:Nat) (h:t<tmps.length):(put tmps d v).getD t .undef=if d=some t then v else tmps.getD t .undef:=by
 cases d with
 | none=>simp [put]
 | some d =>
  simp only[put,Di,ED];by_cases hd:d=t
  .subst hd;simp [h]
  .simp [hd]
def RQ (tmps:List A) (d:Option Tmp) (v:A):(put tmps d v).length=tmps.length:=by cases d<;>simp [put]
def AbT (a:Act) (d:Option Tmp) (v:Value) (t:Nat) (h:t<a.tmps.size):(a.put d v).tmps.getD t undef=if d=some t then v else a.tmps.getD t undef:=by
 cases d with
 | none=>simp [Act.put]
 | some d =>
  simp only[Act.put,Dj,Ep];by_cases hd:d=t
  .subst hd;simp [h]
  .simp [hd]
def AbU (a:Act) (d:Option Tmp) (v:Value):(a.put d v).tmps.size=a.tmps.size:=by cases d<;>simp [Act.put]
def xG (a:Act) (d:Option Tmp) (v:Value):(a.put d v).defers=a.defers:=by cases d<;>rfl
def VS {st:St} {t n:Nat} (ht:t<st.tmps.length) (h:n∈(st.tmps.getD t .undef).ids):n∈st.ids:=Dx _ (OX ht h)
def kW {l:List (Nat×Obj)} {o:Nat} {x:Obj} (h:Jr l o=some x):(o,x)∈l:=by
 induction l with
 | nil=>cases h
 | cons p r ih=>grind[LX]
def RG {st:St} {o n:Nat} {x:Obj} (ho:Jr st.Jm o=some x) (h:n∈x.ids):n∈st.ids :=
 Dy _ (DX.2 ⟨(o,x),kW ho,h⟩)
structure Ns (st:St) (n:Nat):Prop where
 ids:n∉st.ids
 Jm:Jr st.Jm n=none
 ne:n≠255
 root:Su n=false
def Ns.both {st:St} {n:Nat} (h:Ns st n):n∉st.ids/\Su n=false:=⟨h.ids,h.root⟩
def Lu {st:St} {n:Nat} (h:st.fresh n=true):Ns st n:=by
 unfold St.fresh at h;simp only[Dn,Eo,Option.isNone_iff_eq_none]at h;refine⟨fun hm=> ?_,h.1.1.2,fun e=> ?_,h.2⟩
 .have:has st.ids n=true:=EX.2 ⟨n,hm,by simp⟩;rw[this]at h;cases h.1.1.1
 .simp_all
def Sim.next {V0:Nat->Value} {O0 O O':Own} {w0 w w':World} {m m':Nat->Value} {st st':St} {a:Act} {T Nw:Nat->Prop} {d:Option Tmp} {v:Value} {x:A}
 (hS:Sim V0 O0 w0 O m st a w) (hM:Moves O T w w') (hP:Passes O O' T w.heap.size) (hO: ∀ b k,b<w.heap.size->O' b k≠none->O b k≠none)
 (hE:NW st.Jm m st'.Jm m' Nw) (hN: ∀ n,Nw n->n∉st.ids/\Su n=false)
 (hT: ∀ o,T o->(Jr st.Jm o).isSome)
 (hobj: ∀ o y,Jr st'.Jm o=some y->(¬ T o/\Jr st.Jm o=some y/\m' o=m o)\/(Kz O' st'.Jm m' w' o y/\o≠255))
 (ht:st'.tmps=put st.tmps d x) (hx:d≠none->Jy O' st'.Jm m' w' v x):Sim V0 O0 w0 O' m' st' (a.put d v) w':=by
 have hpr:=hM.JE hP;have hT255: ¬ T 255:=fun h=>by obtain⟨x,hx⟩:=Ei.1 (hT 255 h);exact hS.ids 255 x hx rfl
 refine⟨by rw[xG];exact hS.defers,by rw[AbU,ht,RQ];exact hS.size,fun t htl=> ?_,fun o y ho=> ?_,hS.frame.Aim hM hS.own hT255,fun b k q hb h hne=> ?_,fun o y ho=> ?_,fun b k hb h=>hS.less b k hb (hO b k (EG hb hS.frame.size) h),fun o hr ho=> ?_,fun b k hb h=>hP.keep b k 255 (EG hb hS.frame.size) (hS.VM b k hb h) hT255,hS.inv⟩
 .rw[ht,RQ]at htl;rw[ht,lW _ _ _ _ htl,AbT _ _ _ _ (by rw[hS.size];exact htl)];by_cases hd:d=some t
  .rw[Dw hd,Dw hd];exact hx (by rw[hd];simp)
  .rw[Du hd,Du hd];exact(hS.tmps t htl).step hpr hE (fun i hi hn=>(hN i hn).1 (VS htl hi))
 .rcases hobj o y ho with ⟨h1,h2,h3⟩ | h
  .exact(hS.Jm o y h2).step hM hP hE h1 h3 (fun i hi hn=>(hN i hn).1 (RG h2 hi))
  .exact h.1
 .have hb':=EG hb hS.frame.size;cases hq:O b k with
  | none=>exact absurd hq (hO b k hb' (by rw[h];simp))
  | some r =>
   by_cases hr:r=255
   .subst hr;have:=hP.keep b k 255 hb' hq hT255;rw[h]at this;injection this with this;exact absurd this hne
   .exact hS.own b k r hb hq hr
 .rcases hobj o y ho with ⟨_,h2,_⟩ | h
  .exact hS.ids o y h2
  .exact h.2
 .obtain⟨y,hy⟩:=Ei.1 ho;rcases hE o y hy with h | ⟨x,h1,_,h3⟩
  .rw[(hN o h).2]at hr;cases hr
  .rw[h3];exact hS.root o hr (by rw[h1];rfl)
theorem Sim.put {V0:Nat->Value} {O0 O:Own} {w0 w:World} {m:Nat->Value} {st:St} {a:Act} (hS:Sim V0 O0 w0 O m st a w) (d:Option Tmp) {v:Value} {x:A} (hx:Jy O st.Jm m w v x) :
 Sim V0 O0 w0 O m {st with tmps:=Vm.put st.tmps d x} (a.put d v) w :=
 hS.next (st':= {st with tmps:=Vm.put st.tmps d x}) (T:=fun _=>False) (Nw:=fun _=>False) (Moves.refl O _ w) ⟨fun _ _ _ h=>h,fun _ _ _ _ h _=>h⟩ (fun _ _ _ h=>h) (fun _ y ho=>.inr ⟨y,ho,rfl,rfl⟩) (fun _ h=>h.elim) (fun _ h=>h.elim)
  (fun _ _ ho=>.inl ⟨id,ho,rfl⟩) rfl (fun _=>hx)
def Good (P:Program) (V0:Nat->Value) (O0:Own) (w0:World) (st':St) (o:Oper) (a:Act) (w:World):Prop :=
 ∀(next:Act->World->Prop) (Q:Exit->Act->World->Prop),(∀ O' m' a' w',Sim V0 O0 w0 O' m' st' a' w'->next a' w')->o.wp P a w next Q
def Pure.good {P:Program} {V0:Nat->Value} {O0 O:Own} {w0 w:World} {m:Nat->Value} {st:St} {a:Act} {o:Oper} {δ :Dl} (hS:Sim V0 O0 w0 O m st a w) (h:Pure P O st.Jm m a w o δ):Good P V0 O0 w0 (apply st o δ) o a w:=by
 intro next Q hn
 obtain⟨v,hr,hx⟩:=h.run;unfold Oper.wp;rw[hr,Oper.upon_value];refine hn O m _ _ ?_;have:apply st o δ = {st with tmps:=put st.tmps o.dst δ.val}:=by unfold apply;rw[h.new,h.upd,h.del];rfl
 rw[this];exact hS.put o.dst hx
def lC {V0:Nat->Value} {O0 O:Own} {w0 w:World} {m:Nat->Value} {st:St} {a:Act} (hS:Sim V0 O0 w0 O m st a w) (x:Operand):Jy O st.Jm m w (a.eval x) (Kq st.tmps x):=by
 have cell: ∀ v:Value,Jy O st.Jm m w v (MR v)/\(v.oneCell'=true->J4 O st.Jm m w v (MR v)):=by
  intro v;unfold MR;split
  .exact⟨.Nl _,fun _=>Jt.bool _⟩
  .exact⟨.mkInt _ _,fun _=>Jt.int _ _⟩
  .exact⟨.mkStr _ rfl,fun _=>Jt.str _⟩
  .exact⟨rfl,fun _=>rfl⟩
  .exact⟨Jt.KQ,fun _=>Jt.KQ⟩
  .exact⟨Jt.Xc,fun _=>Jt.Xc⟩
  .exact⟨trivial,fun h=>h⟩
 cases x with
 | tmp t =>
  by_cases ht:t<st.tmps.length
  .exact hS.tmps t ht
  .have:Kq st.tmps (.tmp t)= .undef:=by
    simp [Kq,Di,DN (G9 ht)]
   rw[this];trivial
 | const v =>
  show Jy O st.Jm m w v (ofConst v);unfold ofConst;split
  .rename_i vs;cases hall:vs.toList.all Value.oneCell' with
   | false=>trivial
   | true =>
    rw[DK]at hall;refine⟨vs,rfl,by simp,fun j hj=> ?_⟩;have hj':j<vs.size:=by simpa using hj
    have e1:vs.getD j undef=vs[j]:=by rw[Dj,Dt hj'];rfl
    have e2:(vs.toList.map MR).getD j .undef=MR vs[j]:=by simp [Di,hj']
    rw[e1,e2];exact(cell _).2 (hall _ (by simp))
  .exact(cell v).1
 | global g =>
  show Jy O st.Jm m w (.pointer (some ⟨g,0,none⟩)) (AgM (gZ g));cases hg:gZ g with
  | none=>trivial
  | some q =>
   obtain⟨k,ns⟩:=q;refine⟨g,0,rfl,fun j hj=> ?_⟩;have hj:j<ns.length:=by simpa using hj
   obtain⟨h1,v,h2,h3⟩:=hS.pK.1 g j _ (by rw[Ahw hg];exact Dw hj);rw[DF];refine⟨h1,v,h2,?_⟩;have e:(ns.map (A.int k)).getD j .undef= .int k (ns.getD j 0):=by simp [Di,hj]
   rw[e,h3];exact .int _ _
 | func f=>exact Jt.fn f
def Moves.push {O:Own} {T:Nat->Prop} {w:World} (x:Go.Obj):Moves O T w (w.alloc x) :=
 ⟨rfl,rfl,rfl,by show _<=(w.heap.push x).size;simp,fun b hb=>.inl (heap_alloc_old w x hb)⟩
def YH (w:World) (x:Go.Obj):(w.alloc x).heap[w.heap.size]? =some x:=by show(w.heap.push x)[_]? =_;simp
def Moves.drew (O:Own) (T:Nat->Prop) (w:World):Moves O T w w.drew:=⟨rfl,rfl,rfl,DR _,fun _ _=>.inl rfl⟩
def Moves.then {O:Own} {T:Nat->Prop} {w w' w'':World} (h:Moves O T w w') (h':Moves O T w' w''):Moves O T w w'':=by
 refine⟨h'.os.trans h.os,h'.tape.trans h.tape,h'.output.trans h.output,FK h.size h'.size,fun b hb=> ?_⟩;have hb':b<w'.heap.size:=EG hb h.size;rcases h'.blk b hb' with he' | ⟨c,c',e,fr,h1,h2,h3,h4,h5⟩ | ⟨es,ck,es',ck',o,h1,h2,h3,h4⟩
 .rcases h.blk b hb with he | ⟨d,d',e,fr,h1,h2,h3,h4,h5⟩ | ⟨es,ck,es',ck',o,h1,h2,h3,h4⟩
  .exact .inl (he'.trans he)
  .exact .inr (.inl ⟨d,d',e,fr,h1,he'.trans h2,h3,h4,h5⟩)
  .simp_all[Own]
 .rcases h.blk b hb with he | ⟨d,d',e',fr',g1,g2,g3,g4,g5⟩ | ⟨es,ck,es',ck',o,g1,g2,g3,g4⟩
  .exact .inr (.inl ⟨c,c',e,fr,he▸h1,h2,h3,h4,h5⟩)
  .rw[g2]at h1;injection h1 with h1;injection h1 with q1 q2 q3;subst q1;subst q2;subst q3;exact .inr (.inl ⟨d,c',e',fr',g1,h2,h3.trans g3,fun i hi=>by rw[h4 i hi,g4 i hi],g5⟩)
  .simp_all[Own]
 .rcases h.blk b hb with he | ⟨d,d',e',fr',g1,g2,g3,g4,g5⟩ | ⟨es1,ck1,es1',ck1',o1,g1,g2,g3,g4⟩
  .exact .inr (.inr ⟨es,ck,es',ck',o,he▸h1,h2,h3,h4⟩)
  all_goals simp_all[Own]
def Moves.row {O:Own} {T:Nat->Prop} {w w':World} {g:Nat} {c c':Array Value} {e:TypeId} {fr:Nat×Nat} (hos:w'.os=w.os) (ht:w'.tape=w.tape) (hout:w'.output=w.output) (hs:w'.heap.size=w.heap.size)
 (hg:w.heap[g]? =some (.cells c e fr)) (hg':w'.heap[g]? =some (.cells c' e fr)) (hoth: ∀ b,b≠g->w'.heap[b]? =w.heap[b]?) (hsz:c'.size=c.size) (hk: ∀ k,(∀ o,O g k=some o-> ¬ T o)->c'[k]? =c[k]?)
 (hex:(∃ k o,k<c.size/\O g k=some o/\T o)\/c'=c):Moves O T w w':=by
 refine⟨hos,ht,hout,by omega,fun b _=> ?_⟩;by_cases hb:b=g
 .subst hb;rcases hex with hex | hex
  .exact .inr (.inl ⟨c,c',e,fr,hg,hg',hsz,hk,hex⟩)
  .subst hex;exact .inl (hg'.trans hg.symm)
 .exact .inl (hoth b hb)
def Moves.map {O:Own} {T:Nat->Prop} {w w':World} {r:Nat} {es es':Array MapEntry} {ck ck':Nat} (hos:w'.os=w.os) (ht:w'.tape=w.tape) (hout:w'.output=w.output) (hs:w'.heap.size=w.heap.size)
 (hg:w.heap[r]? =some (.map es ck)) (hg':w'.heap[r]? =some (.map es' ck')) (hoth: ∀ b,b≠r->w'.heap[b]? =w.heap[b]?) {o:Nat} (ho:O r 0=some o) (hT:T o):Moves O T w w':=by
 refine⟨hos,ht,hout,by omega,fun b _=> ?_⟩;by_cases hb:b=r
 .simp_all[Own,hs]
 .exact .inl (hoth b hb)
def AbI (w:World) (b k:Nat) (v:Value) {c:Array Value} {e:TypeId} {fr:Nat×Nat} (hg:w.heap[b]? =some (.cells c e fr)) :
 (w.setCell (at' b k) v).heap[b]? =some (.cells (c.setIfInBounds k v) e fr)/\(∀ b',b'≠b->(w.setCell (at' b k) v).heap[b']? =w.heap[b']?)/\(w.setCell (at' b k) v).heap.size=w.heap.size:=by
 refine⟨?_,fun b' hb=> ?_,by simp [World.setCell]⟩
 .simp [World.setCell,EW,hg]
 .simp only[World.setCell,EW];rw[Du (fun h=>hb h.symm)]
def UB (b:Nat): ∀(vs:List Value) (k:Nat) (w:World) {c:Array Value} {e:TypeId} {fr:Nat×Nat},w.heap[b]? =some (.cells c e fr)->k+vs.length<=c.size ->
 ∃ c',(w.setCells b k vs).heap[b]? =some (.cells c' e fr)/\c'.size=c.size/\(∀ i,c'.getD i undef=if k<=i/\i<k+vs.length then vs.getD (i - k) undef else c.getD i undef) /\
  (∀ b',b'≠b->(w.setCells b k vs).heap[b']? =w.heap[b']?)/\(w.setCells b k vs).heap.size=w.heap.size/\(w.setCells b k vs).os=w.os/\(w.setCells b k vs).tape=w.tape/\(w.setCells b k vs).output=w.output:=by
 intro vs
 induction vs with
 | nil=>intro k w c e fr hg _;exact⟨c,hg,rfl,fun i=>by rw[Du (by simp)],fun _ _=>rfl,rfl,rfl,rfl,rfl⟩
 | cons v vs ih =>
  intro k w c e fr hg hle;simp only[List.length_cons]at hle;obtain⟨h1,h2,h3⟩:=AbI w b k v hg;obtain⟨c',h4,h5,h6,h7,h8,h9,h10,h11⟩:=ih (k+1) (w.setCell (at' b k) v) h1 (by simp;omega);refine⟨c',h4,by rw[h5];simp,fun i=> ?_,fun b' hb=>(h7 b' hb).trans (h2 b' hb),h8.trans h3,h9,h10,h11⟩;rw[h6 i];simp only[List.length_cons];by_cases hi:k+1<=i/\i<k+1+vs.length
  .rw[Dw hi,Ajk,show i - k=(i - (k+1))+1 from by omega];rfl
  .rw[Du hi];by_cases hk:i=k
   .subst hk;rw[Ajk,Dj,Ep,Dw rfl,Ajk];simp
   .rw[Du,Dj,Ep,Du,<- Dj]
def UW: ∀(ks:List CK) (cs:List A) (id:Nat),(Ky id ks cs).1.length=cs.length /\
 (∀ j,j<cs.length->(Ky id ks cs).1.getD j .undef=cs.getD j .undef\/(cs.getD j .undef= .KD/\(Ky id ks cs).1.getD j .undef= .own (id+j)/\ ∃ e sz,(id+j,Obj.arr e false ⟨sz,[]⟩)∈(Ky id ks cs).2)) /\
 (∀ p∈(Ky id ks cs).2,(∃ e sz,p.2= .arr e false ⟨sz,[]⟩)/\ ∃ j,j<cs.length/\p.1=id+j):=by
 intro ks
 induction ks with
 | nil=>grind[Ky]
 | cons k ks ih =>
  intro cs id;cases cs with
  | nil=>grind[Ky]
  | cons c cs =>
   obtain⟨h1,h2,h3⟩:=ih cs (id+1)
   have other:Ky id (k::ks) (c::cs)=(c::(Ky (id+1) ks cs).1,(Ky (id+1) ks cs).2) ->
    (Ky id (k::ks) (c::cs)).1.length=(c::cs).length /\
    (∀ j,j<(c::cs).length->(Ky id (k::ks) (c::cs)).1.getD j .undef=(c::cs).getD j .undef\/((c::cs).getD j .undef= .KD/\(Ky id (k::ks) (c::cs)).1.getD j .undef= .own (id+j)/\ ∃ e sz,(id+j,Obj.arr e false ⟨sz,[]⟩)∈(Ky id (k::ks) (c::cs)).2)) /\
    (∀ p∈(Ky id (k::ks) (c::cs)).2,(∃ e sz,p.2= .arr e false ⟨sz,[]⟩)/\ ∃ j,j<(c::cs).length/\p.1=id+j):=by
    intro he;rw[he];refine⟨by simp [h1],fun j hj=> ?_,fun p hp=> ?_⟩
    .cases j with
     | zero=>exact .inl rfl
     | succ j=>grind[CK,Ky]
    .obtain⟨ha,j,hj,hb⟩:=h3 p hp;exact⟨ha,j+1,by simpa using hj,by omega⟩
   by_cases hc:c= .KD/\ ∃ e sz,k= .sl e sz
   .obtain⟨hc,e,sz,hk⟩:=hc;subst hc;subst hk;have he:Ky id (.sl e sz::ks) (.KD::cs)=(.own id::(Ky (id+1) ks cs).1,(id,.arr e false ⟨sz,[]⟩)::(Ky (id+1) ks cs).2):=rfl;rw[he];refine⟨by simp [h1],fun j hj=> ?_,fun p hp=> ?_⟩
    .cases j with
     | zero=>grind[CK,Ky]
     | succ j=>grind[CK,Ky]
    .rcases Dz.1 hp with rfl | hp
     .grind[CK,Ky]
     .obtain⟨ha,j,hj,hb⟩:=h3 p hp;exact⟨ha,j+1,by simpa using hj,by omega⟩
   .refine other ?_;cases k<;>cases c<;>first | rfl | exact absurd ⟨rfl,_,_,rfl⟩ hc
def MZ {l:List Nat} {n:Nat}:has l n=true↔n∈l:=by simp_all[has]
def AdY: ∀ {l:List (Nat×Obj)},nodup (l.map (·.1))=true-> ∀ {n x y},(n,x)∈l->(n,y)∈l->x=y:=by
 intro l
 induction l with
 | nil=>intro _ n x y h;cases h
 | cons p l ih =>
  intro h n x y hx hy;simp only[DY,nodup,Dn,Eo]at h;have hno: ∀ z,(p.1,z)∉l:=by intro z hz;have:has (l.map (·.1)) p.1=true:=MZ.2 (D6.2 ⟨_,hz,rfl⟩);rw[this]at h;cases h.1
  all_goals grind[Obj,nodup]
def Rj {Jm:List (Nat×Obj)} {upd new:List (Nat×Obj)} {del:List Nat} {o:Nat} {x:Obj} (h:Jr (J3 (JM (J3 Jm upd) del) new) o=some x) :
 (o,x)∈new\/((∀ y,(o,y)∉new)/\o∉del/\((o,x)∈upd\/((∀ y,(o,y)∉upd)/\Jr Jm o=some x))):=by
 by_cases hn: ∃ p∈new,p.1=o
 .obtain⟨y,hy,he⟩:=MG new (JM (J3 Jm upd) del) o hn;rw[he]at h;injection h with h;subst h;exact .inl hy
 .have hn': ∀ y,(o,y)∉new:=fun y hy=>hn ⟨_,hy,rfl⟩;rw[KY _ _ _ (fun p hp e=>hn ⟨p,hp,e⟩),Pq]at h;by_cases hd:o∈del
  .rw[Dw hd]at h;cases h
  .rw[Du hd]at h;refine .inr ⟨hn',hd,?_⟩;by_cases hu: ∃ p∈upd,p.1=o
   .obtain⟨y,hy,he⟩:=MG upd Jm o hu;rw[he]at h;injection h with h;subst h;exact .inl hy
   .grind[KY]
def Yu {Jm:List (Nat×Obj)} {upd new:List (Nat×Obj)} {del:List Nat} (hnd:nodup (new.map (·.1))=true) {o:Nat} {x:Obj} (h:(o,x)∈new):Jr (J3 (JM (J3 Jm upd) del) new) o=some x:=by obtain⟨y,hy,he⟩:=MG new (JM (J3 Jm upd) del) o ⟨_,h,rfl⟩;rw[he,AdY hnd h hy]
section
variable {P:Program} {C:Ctx} {V0:Nat->Value} {O0 O:Own} {w0 w:World} {m:Nat->Value} {st:St} {a:Act} {o:Oper}
theorem J4.KD {Jm:List (Nat×Obj)} {v:Value} (h:J4 O Jm m w v .KD):v= .slice none 0 0:=h
theorem Ob.AcU {O':Own} {w':World} {objs':List (Nat×Obj)} {m':Nat->Value} {vs:Array Value} {cs:List A} {ks:List CK} {id:Nat} {Nw:Nat->Prop} (h:Ob O st.Jm m w vs cs) (hp:Lt O w O' w') (hE:NW st.Jm m objs' m' Nw)
 (hN: ∀ j,j<cs.length-> ∀ i∈(cs.getD j .undef).Ls,¬ Nw i) (hnew: ∀ p∈(Ky id ks cs).2,Jr objs' p.1=some p.2/\m' p.1= .slice none 0 0):Ob O' objs' m' w' vs (Ky id ks cs).1:=by
 obtain⟨h1,h2,_⟩:=UW ks cs id;refine⟨by rw[h1];exact h.1,fun j hj=> ?_⟩;rw[h1]at hj;rcases h2 j hj with he | ⟨hn,he,e,sz,hm⟩
 .rw[he];exact(h.2 j hj).step hp hE (hN j hj)
 .have:=h.2 j hj;rw[hn]at this;have hv:=this.KD;rw[he,hv];obtain⟨g1,g2⟩:=hnew _ hm;dsimp only at g1 g2;refine⟨rfl,?_⟩;rw[g1];exact g2.symm
theorem aV {x:A} (hv:x.isVal=true) {j:Nat} (hj:j<x.cells.length) {i:Nat} (hi:i∈(x.cells.getD j .undef).Ls):i∈x.ids:=by
 cases x with
 | agg cs=>exact OX (f:=A.Ls) hj hi
 | undef=>cases hv
 | tup _=>cases hv
 | usl _ _ _=>cases hv
 | ump _=>cases hv
 | box _=>cases hv
 | cbx _ _=>cases hv
 | cnd _ _=>cases hv
 | _ =>
  have:j=0:=by simpa [A.cells]using hj
  subst this;exact hi
theorem wJ {vs:Array Value} {cs:List A} {ks:List CK} {t:Nat} {r:Value} {y:A} {okl:List Bool} (hS:Sim V0 O0 w0 O m st a w) (hcs:Ob O st.Jm m w vs cs) (hids: ∀ j,j<cs.length-> ∀ i∈(cs.getD j .undef).Ls,i∈st.ids\/(Jr st.Jm i).isSome) {d:Nat} (hd:o.dst=some d)
 (hr:(execOp a.eval o).run P w= .ok (.value r) (w.alloc (.cells vs t)))
 (hy: ∀(O':Own) (objs':List (Nat×Obj)) (m':Nat->Value) (w':World) (c:List A),Jr objs' (b2 d)=some (.box c)->m' (b2 d)= .pointer (some (at' w.heap.size 0))->Jy O' objs' m' w' r y)
 (hfr: ∀ p∈(b2 d,Obj.box (Ky (b2 d+1) ks cs).1)::(Ky (b2 d+1) ks cs).2,st.fresh p.1=true) (hnd:nodup (((b2 d,Obj.box (Ky (b2 d+1) ks cs).1)::(Ky (b2 d+1) ks cs).2).map (·.1))=true) :
 Good P V0 O0 w0 (apply st o {ok:=okl,val:=y,new:=(b2 d,.box (Ky (b2 d+1) ks cs).1)::(Ky (b2 d+1) ks cs).2}) o a w:=by
 intro next Q hn
 unfold Oper.wp;rw[hr,Oper.upon_value];let ad:=Ky (b2 d+1) ks cs;let m':Nat->Value:=fun i=>if i=b2 d then .pointer (some (at' w.heap.size 0))else if has (ad.2.map (·.1)) i then .slice none 0 0 else m i;let O':Own:=fun b k=>if b=w.heap.size then some (b2 d)else O b k;let Nw:Nat->Prop:=fun i=> ∃ p∈((b2 d,Obj.box ad.1)::ad.2),p.1=i;have hNw: ∀ i,Nw i->Ns st i:=by rintro i ⟨p,hp,rfl⟩;exact Lu (hfr p hp)
 refine hn O' m' _ _ ?_;have hobjs:(apply st o {ok:=okl,val:=y,new:=(b2 d,.box ad.1)::ad.2}).Jm=J3 (JM (J3 st.Jm []) []) ((b2 d,.box ad.1)::ad.2):=rfl;have hnewO: ∀ p∈((b2 d,Obj.box ad.1)::ad.2),Jr (J3 (JM (J3 st.Jm []) []) ((b2 d,.box ad.1)::ad.2)) p.1=some p.2:=fun p hp=>Yu hnd (by exact hp);have hb2:has (ad.2.map (·.1)) (b2 d)=false:=by simp only[DY,nodup,Dn,Eo]at hnd;exact hnd.1
 have hmad: ∀ p∈ad.2,m' p.1= .slice none 0 0:=by
  intro p hp;have h3:has (ad.2.map (·.1)) p.1=true:=MZ.2 (D6.2 ⟨p,hp,rfl⟩);have h4:p.1≠b2 d:=fun e=>by rw[e,hb2]at h3;cases h3
  show(if p.1=b2 d then _ else _)=_;rw[Du h4,Dw h3]
 have hE:NW st.Jm m (J3 (JM (J3 st.Jm []) []) ((b2 d,.box ad.1)::ad.2)) m' Nw:=by
  intro i y hy;rcases Rj hy with hy' | ⟨hno,_,hy' | ⟨_,hy'⟩⟩
  .exact .inl ⟨_,hy',rfl⟩
  .cases hy'
  .refine .inr ⟨y,hy',rfl,?_⟩;have h3:i≠b2 d:=fun e=>hno (.box ad.1) (by rw[e];exact Dp)
   have h4:has (ad.2.map (·.1)) i=false:=by
    cases hh:has (ad.2.map (·.1)) i with
    | false=>rfl
    | true =>obtain⟨p,hp,hpe⟩:=D6.1 (MZ.1 hh);exact absurd (Dq _ (by rw[<- hpe];exact hp)) (hno p.2)
   show(if i=b2 d then _ else _)=_;rw[Du h3,h4];rfl
 have hM:Moves O (fun _=>False) w (w.alloc (.cells vs t)):=Moves.push _;have hP:Passes O O' (fun _=>False) w.heap.size:=⟨fun b k hb h=>by show(if b=_ then _ else _)=_;rw[Du (Fz hb)];exact h,fun b k q hb h _=>by show(if b=_ then _ else _)=_;rw[Du (Fz hb)];exact h⟩
 have hpr:=hM.JE hP;have hnewblk: ∀ k,(w.alloc (.cells vs t)).cell? (at' w.heap.size k)=vs[k]? :=by intro k;exact World.cell?_alloc_at vs t _ _ rfl
 refine hS.next (T:=fun _=>False) (Nw:=Nw) hM hP (fun b k hb h=> ?_) hE (fun n hn'=>(hNw n hn').both) (fun _ h=>h.elim) (fun q y hy=> ?_) rfl (fun _=> ?_)
 .have:O' b k=O b k:=Du (Fz hb);rw[this]at h;exact h
 .rcases Rj hy with hy' | ⟨hno,_,hy' | ⟨_,hy'⟩⟩
  .right;rcases Dz.1 hy' with e | hy'
   .injection e with e1 e2;subst e1;subst e2;refine⟨⟨w.heap.size,0,Dw rfl,fun j hj=> ?_⟩,(hNw _ ⟨_,Dp,rfl⟩).ne⟩
    have hcs':Ob O' _ m' _ vs ad.1:=hcs.AcU (ks:=ks) (id:=b2 d+1) hpr hE (fun j hj i hi hn'=>by
     rcases hids j hj i hi with hh | hh
     .exact(hNw i hn').1 hh
     .rw[(hNw i hn').2]at hh;cases hh) (fun p hp=>⟨hnewO p (Dq _ hp),hmad p hp⟩)
    have hjs:j<vs.size:=by rw[hcs'.1];exact hj
    refine⟨Dw rfl,by simp only[World.frozen?,YH];simp,vs.getD j undef,?_,hcs'.2 j hj⟩;rw[hnewblk];simp only[DF];exact getD_eq hjs
   .obtain⟨⟨e,sz,h3⟩,_⟩:=(UW ks cs (b2 d+1)).2.2 _ hy';dsimp only at h3;subst h3;exact⟨⟨by simp [Sl.es],.inl ⟨trivial,rfl,hmad _ hy'⟩⟩,(hNw _ ⟨_,Dq _ hy',rfl⟩).ne⟩
  .cases hy'
  .left;refine⟨id,hy',?_⟩;rcases hE q y hy with hn' | ⟨_,h3,_,h4⟩
   .rw[(hNw q hn').2]at hy';cases hy'
   .exact h4
 .exact hy _ _ _ _ _ (hnewO (b2 d,.box ad.1) Dp) (Dw rfl)
theorem Aar {t:Nat} {v:Value} {x:A} (hC:TOk P C) (hS:Sim V0 O0 w0 O m st a w) (hx:Jy O st.Jm m w v x) (hids: ∀ i∈x.ids,i∈st.ids\/(Jr st.Jm i).isSome) {d:Nat} (hd:o.dst=some d)
 (hrun: ∀ ti,C.T t=some ti->x.isVal=true->v.cells.size=ti.cs.length->(execOp a.eval o).run P w= .ok (.value (.pointer (some (at' w.heap.size 0)))) (w.alloc (.cells v.cells t)))
 (hok:Jv (QA C d t x).ok) (hfr: ∀ p∈(QA C d t x).new,st.fresh p.1=true) (hnd:nodup ((QA C d t x).new.map (·.1))=true):Good P V0 O0 w0 (apply st o (QA C d t x)) o a w:=by
 unfold QA at *
 obtain⟨ti,ht,he⟩:=JI hok;rw[he]at hok hfr hnd ⊢;clear he;obtain⟨h1,h2⟩:=hok.cons;have h2:=Dk h2.cons.1;have hcs:=hx.cells h1;refine wJ (ks:=adK C d ti) hS hcs (fun j hj i hi=>hids i (aV h1 hj hi)) hd (hrun ti ht h1 (by rw[hcs.1,h2])) (fun O' objs' m' w' c hc hm=> ?_) hfr hnd;show J4 O' objs' m' w' _ (.ptr (b2 d) 0);refine⟨rfl,?_⟩;rw[hc];exact⟨w.heap.size,0,hm,rfl⟩
end
open Classical
section
variable {P:Program} {C:Ctx} {V0:Nat->Value} {O0 O:Own} {w0 w:World} {m:Nat->Value} {st:St} {a:Act} {o:Oper}
theorem Sim.XX (hS:Sim V0 O0 w0 O m st a w) {q e:Nat} {f:Bool} {l:Sl} (hq:Jr st.Jm q=some (.arr e f l)) :
 ∃ O',Sim V0 O0 w0 O' m {st with Jm:=KI st.Jm q (.arr e true l)} a w/\Lt O w O' w/\(∀ b k,O' b k≠none->O b k≠none)/\Jt O' w (m q) (.sl l)/\ ∀ b k r,O b k=some r->r≠q->O' b k=some r:=by
 obtain⟨hsz,hr⟩:=hS.Jm q _ hq;let O':Own:=fun b k=>if(∃ n cap,m q= .slice (some (at' b 0)) n cap)/\k<l.es.length*l.sz then none else O b k;have hno: ∀ b k,O b k=none->O' b k=none:=by intro b k h;show(if _ then _ else _)=_;split;rfl;exact h
 have hle: ∀ b k,O' b k≠none->O b k≠none:=by intro b k h h';exact h (hno b k h')
 have hkeep: ∀ b k r,O b k=some r->r≠q->O' b k=some r:=by
  intro b k r h hne;show(if _ then _ else _)=_;rw[Du ?_]
  .exact h
  .rintro ⟨⟨n,cap,hm⟩,hk⟩;rcases hr with ⟨_,h2,_⟩ | ⟨_,g,cap',cur,h1,_,_,_,_,_,_,h8⟩;all_goals simp_all[Jr,KI,Lt,Jt]
 have hp:Lt O w O' w:=fun b k u h hc=>⟨hno b k h,hc⟩
 have hE:NW st.Jm m (KI st.Jm q (.arr e true l)) m (fun _=>False):=by
  intro r y hy;rw[JO]at hy;by_cases hrq:r=q
  .subst hrq;rw[Dw rfl]at hy;injection hy with hy;subst hy;exact .inr ⟨_,hq,rfl,rfl⟩
  .rw[Du hrq]at hy;exact .inr ⟨y,hy,rfl,rfl⟩
 have hO:Kz O' (KI st.Jm q (.arr e true l)) m w q (.arr e true l):=by
  refine⟨hsz,?_⟩;rcases hr with h | ⟨h1,g,cap,cur,h2,h3,h4,h5,h6,h7,h8,h9⟩
  .exact .inl h
  .refine .inr ⟨h1,g,cap,cur,h2,h3,h4,h5,h6,fun i j hi hj=> ?_,fun k hk hge=> ?_,fun k hk=> ?_⟩
   .obtain⟨u,h10,h11⟩:=h7 i j hi hj;exact⟨u,h10,h11.JE hp⟩
   .show(if _ then _ else _)=_;rw[Du (by rintro ⟨_,h⟩;omega)];exact h8 k hk hge
   .show(if _ then _ else _)=_;rw[Dw ⟨⟨_,_,h2⟩,hk⟩];rfl
 refine⟨O',⟨hS.defers,hS.size,fun t ht=>(hS.tmps t ht).step hp hE (fun _ _ h=>h),fun r y hy=> ?_,hS.frame,fun b k r hb h hne=> ?_,fun r y hy=> ?_,fun b k hb h=>hS.less b k hb (hle b k h),fun o hr ho=>hS.root o hr (by dsimp only at ho;rw[JO]at ho;by_cases hq':o=q;(rw [hq',hq];rfl);(rw [Du hq']at ho;exact ho)),fun b k hb h=>hkeep b k 255 (hS.VM b k hb h) (fun e=>hS.ids q _ hq e.symm),hS.inv⟩,hp,hle,?_,hkeep⟩
 .have hy':=hy;rw[JO]at hy;by_cases hrq:r=q
  .subst hrq;rw[Dw rfl]at hy;injection hy with hy;subst hy;exact hO
  .rw[Du hrq]at hy;exact(hS.Jm r y hy).step (T:=fun i=>i=q) (Moves.refl O _ w) ⟨fun b k _ h=>hno b k h,fun b k r' _ h hT=>hkeep b k r' h hT⟩ hE hrq rfl (fun _ _ h=>h)
 .have h':(if(∃ n cap,m q= .slice (some (at' b 0)) n cap)/\k<l.es.length*l.sz then none else O b k)=some r:=h;split at h'
  .cases h'
  .exact hS.own b k r hb h' hne
 .rw[JO]at hy;by_cases hrq:r=q
  .rw[hrq];exact hS.ids q _ hq
  .rw[Du hrq]at hy;exact hS.ids r y hy
 .rcases hr with ⟨h1,h2,h3⟩ | ⟨h1,g,cap,cur,h2,h3,h4,h5,h6,h7,h8,h9⟩
  .rw[h3];exact Jt.ofNil h2
  .rw[h2];have hv: ∀ i j,i<l.es.length->j<l.sz-> ∃ u,cur[i*l.sz+j]? =some u/\Jt O w u ((l.es.getD i []).getD j .undef):=h7;refine Jt.sl (fun i j=>(cur[i*l.sz+j]?).getD undef) h4 (fun i j hi hj=> ?_) (fun i j hi hj=> ?_)
   .obtain⟨u,h10,_⟩:=hv i j hi hj;refine⟨?_,by rw[DF,h3.cell,h10];rfl⟩;show(if _ then _ else _)=_;rw[Dw];refine⟨⟨_,_,h2⟩,?_⟩;have:(i+1)*l.sz<=l.es.length*l.sz:=DC _ hi;rw[DU]at this;omega
   .obtain⟨u,h10,h11⟩:=hv i j hi hj;rw[h10];exact h11.JE hp
theorem Kz.frozen {Jm:List (Nat×Obj)} {q e:Nat} {l:Sl} (h:Kz O Jm m w q (.arr e true l)):Jt O w (m q) (.sl l):=by
 rcases h.2 with ⟨h1,h2,h3⟩ | ⟨h1,g,cap,cur,h2,h3,h4,h5,h6,h7,h8,h9⟩
 .rw[h3];exact Jt.ofNil h2
 .rw[h2];refine Jt.sl (fun i j=>(cur[i*l.sz+j]?).getD undef) h4 (fun i j hi hj=> ?_) (fun i j hi hj=> ?_)
  .obtain⟨u,h10,_⟩:=h7 i j hi hj;have:(i+1)*l.sz<=l.es.length*l.sz:=DC _ hi;rw[DU]at this;refine⟨by have:=h9 (i*l.sz+j) (by omega);simpa using this,by rw[DF,h3.cell,h10];rfl⟩
  .obtain⟨u,h10,h11⟩:=h7 i j hi hj;rw[h10];exact h11
def Frz (Jm:List (Nat×Obj)) (U:List (Nat×Obj)):Prop:= ∀ p∈U,∃ e f l,Jr Jm p.1=some (.arr e f l)/\p.2= .arr e true l
def NR (Jm:List (Nat×Obj)) (q:Nat):Prop:= ∀ e f l,Jr Jm q≠some (.arr e f l)
theorem NR.of {Jm:List (Nat×Obj)} {q:Nat} {x:Obj} (h:Jr Jm q=some x) (hx: ∀ e f l,x≠ .arr e f l):NR Jm q:=by grind[Obj,Jr,NR]
theorem Sim.freezes: ∀(U:List (Nat×Obj)) {O:Own} {st:St},Sim V0 O0 w0 O m st a w->Frz st.Jm U ->
 ∃ O',Sim V0 O0 w0 O' m {st with Jm:=J3 st.Jm U} a w/\Lt O w O' w/\(∀ b k,O' b k≠none->O b k≠none)/\(∀ p∈U,∀ e l,p.2= .arr e true l->Jt O' w (m p.1) (.sl l)) /\
  NW st.Jm m (J3 st.Jm U) m (fun _=>False)/\ ∀ b k r,O b k=some r->(NR st.Jm r\/U=[])->O' b k=some r:=by
 intro U
 induction U with
 | nil=>intro O st hS _;exact⟨O,hS,fun _ _ _ h hc=>⟨h,hc⟩,fun _ _ h=>h,(fun p hp=>by cases hp),(fun o y hy=>.inr ⟨y,hy,rfl,rfl⟩),fun _ _ _ h _=>h⟩
 | cons p U ih =>
  intro O st hS hU;obtain⟨q,y⟩:=p;obtain⟨e,f,l,h1,h2⟩:=hU (q,y) Dp;dsimp only at h1 h2;subst h2;obtain⟨O1,hS1,hp1,hle1,hv1,hk1⟩:=hS.XX h1
  obtain⟨O2,hS2,hp2,hle2,hv2,hE2,hk2⟩:=ih hS1 (fun p hp=>by
   obtain⟨e',f',l',h3,h4⟩:=hU p (Dq _ hp);by_cases hq:p.1=q
   .refine⟨e',true,l',?_,h4⟩;rw[JO,Dw hq];rw[hq,h1]at h3;injection h3 with h3;injection h3 with q1 q2 q3;subst q1;subst q3;rfl
   .exact⟨e',f',l',by rw[JO,Du hq];exact h3,h4⟩)
  refine⟨O2,hS2,fun b k u h hc=>hp2 b k u (hp1 b k u h hc).1 hc,fun b k h=>hle1 b k (hle2 b k h),fun p hp e' l' he=> ?_,fun r y hy=> ?_,fun b k r h hb=> ?_⟩
  .rcases Dz.1 hp with rfl | hp
   .injection he with q1 _ q3;subst q1;subst q3;exact hv1.JE hp2
   .exact hv2 p hp _ _ he
  .rcases hE2 r y hy with h | ⟨z,h3,h4,_⟩
   .exact h.elim
   .right;dsimp only at h3;rw[JO]at h3;by_cases hr:r=q
    .subst hr;rw[Dw rfl]at h3;injection h3 with h3;subst h3;exact⟨_,h1,h4,rfl⟩
    .rw[Du hr]at h3;exact⟨z,h3,h4,rfl⟩
  .have hb:=hb.resolve_right (by simp);have hrq:r≠q:=fun h=>hb _ _ _ (by rw[h];exact h1);exact hk2 b k r (hk1 b k r h hrq) (.inl fun e' f' l'=>by dsimp only;rw[JO,Du hrq];exact hb e' f' l')
theorem lS {l:List (Nat×Obj)} {n:Nat} {p:Nat×Obj} (h:p∈OB l n):p∈l:=by
 induction l with
 | nil=>cases h
 | cons q r ih=>grind[aJ]
theorem Abf {l:List (Nat×Obj)} {n:Nat} {y:Obj} {p:Nat×Obj} (h:p∈Ul l n y):p=(n,y)\/p∈l:=by
 induction l with
 | nil=>grind[Ul]
 | cons q r ih=>grind[Ul]
theorem Ve: ∀(u:List (Nat×Obj)) {l:List (Nat×Obj)} {p:Nat×Obj},p∈J3 l u->p∈u\/p∈l:=by
 intro u
 induction u with
 | nil=>intro l p h;exact .inr h
 | cons q u ih =>
  intro l p h;obtain⟨n,y⟩:=q;rcases ih h with h | h
  .grind[Obj,J3]
  .rcases Abf h with h | h;all_goals grind[lS]
theorem Ns.frz {n:Nat} {U:List (Nat×Obj)} (h:Ns st n) (hU:Frz st.Jm U):Ns {st with Jm:=J3 st.Jm U} n:=by
 refine⟨fun hm=> ?_,?_,h.ne,h.root⟩
 .rcases DI.1 hm with h1 | h1
  .exact h.1 (Dx _ h1)
  .obtain⟨p,hp,hi⟩:=DX.1 h1;rcases Ve U hp with hp | hp
   .obtain⟨e,f,l,_,h2⟩:=hU p hp;rw[h2]at hi;cases hi
   .exact h.1 (Dy _ (DX.2 ⟨p,hp,hi⟩))
 .rw[KY _ _ _ (fun p hp he=> ?_)]
  .exact h.2
  .obtain⟨e,f,l,h1,_⟩:=hU p hp;rw[he,h.2]at h1;cases h1
def MV (Jm:List (Nat×Obj)) (fet:Fet):Prop:= ∀ q x,Jr fet q=some x->Jr Jm q=some x
theorem Abt {O:Own} {w:World} {k:CK} {v:Value} {l:Sl} (hok:Jv (vI k l).1) (h:Jt O w v (.sl l)):Jt O w v (vI k l).2:=by
 cases k<;>first
  | exact h
  | (have h0:=hok.cons.1
     exact .sln h fun he=>by simp [he]at h0)
theorem AgA {O:Own} {w:World} {v:Value} {l:Sl} (k:CK) (h:Jt O w v (.sln l)):Jt O w v (AhY k l):=by
 cases k<;>first
  | exact h
  | (cases h with
     | sln h _=>exact h)
theorem Abu {fet:Fet} {k:CK} {c:A} {v:Value} (hf:MV st.Jm fet) (hc:J4 O st.Jm m w v c) (hok:Jv (pur fet k c).1) :
 Frz st.Jm (pur fet k c).2.2/\ ∀ {O':Own},Lt O w O' w->(∀ p∈(pur fet k c).2.2,∀ e l,p.2= .arr e true l->Jt O' w (m p.1) (.sl l))->Jt O' w v (pur fet k c).2.1:=by
 have triv:Frz st.Jm []:=fun p hp=>by cases hp
 unfold pur at *
 cases c with
 | own q =>
  dsimp only at hok ⊢;cases hg:Jr fet q with
  | none=>simp_all[Fet,CK,MV,J4,Jv,pur]
  | some x =>
   cases x with
   | box _=>simp_all[Fet,CK,MV,J4,Jv,pur]
   | mp _=>simp_all[Fet,CK,MV,J4,Jv,pur]
   | arr e f l =>
    rw[hg]at hok;dsimp only at hok ⊢;have h1:=hf q _ hg;refine⟨fun p hp=> ?_,fun hp hv=> ?_⟩
    .simp at hp;subst hp;exact⟨e,f,l,h1,rfl⟩
    .have h2:=hc.2;rw[h1]at h2;simp only[Option.map_some,Obj.shp]at h2;rw[h2];exact Abt hok (hv _ Dp e l rfl)
 | KD =>
  have hv:=hc.KD;cases k with
  | sl e sz=>subst hv;exact⟨triv,fun _ _=>.nil _⟩
  | sln e sz=>subst hv;exact⟨triv,fun _ _=>.sln (.nil _) fun _=>rfl⟩
  | _=>have:=hok false (by simp);cases this
 | bool _=>exact⟨triv,fun hp _=>Jt.JE hp hc⟩
 | int _ _=>exact⟨triv,fun hp _=>Jt.JE hp hc⟩
 | str _=>exact⟨triv,fun hp _=>Jt.JE hp hc⟩
 | sl _=>exact⟨triv,fun hp _=>Abt hok (Jt.JE hp hc)⟩
 | sln _=>exact⟨triv,fun hp _=>AgA k (Jt.JE hp hc)⟩
 | KQ=>exact⟨triv,fun hp _=>Jt.JE hp hc⟩
 | fn _=>exact⟨triv,fun hp _=>Jt.JE hp hc⟩
 | _=>have:=hok false (by simp);cases this
theorem Frz.append {Jm:List (Nat×Obj)} {U V:List (Nat×Obj)} (h:Frz Jm U) (h':Frz Jm V):Frz Jm (U++V):=by grind[Obj,Frz]
theorem PR {fet:Fet} (hf:MV st.Jm fet): ∀(ks:List CK) (cs:List A) (f:Nat->Value),(∀ j,j<cs.length->J4 O st.Jm m w (f j) (cs.getD j .undef))->Jv (JV fet ks cs).1 ->
 (JV fet ks cs).2.1.length=ks.length/\cs.length=ks.length/\Frz st.Jm (JV fet ks cs).2.2/\ ∀ {O':Own},Lt O w O' w->(∀ p∈(JV fet ks cs).2.2,∀ e l,p.2= .arr e true l->Jt O' w (m p.1) (.sl l)) ->
   ∀ j,j<ks.length->Jt O' w (f j) ((JV fet ks cs).2.1.getD j .undef):=by
 intro ks
 induction ks with
 | nil =>
  intro cs f _ hok;cases cs with
  | nil=>simp_all[JV,Fet,MV,CK,J4,Jv,Frz]
  | cons _ _=>have:=hok false (by simp [JV]);cases this
 | cons k ks ih =>
  intro cs f h hok;cases cs with
  | nil=>have:=hok false (by simp [JV]);cases this
  | cons c cs =>
   simp only[JV]at hok ⊢;obtain⟨hok1,hok2⟩:=hok.append;obtain⟨h1,h2⟩:=Abu hf (h 0 (by simp)) hok1;obtain⟨h3,h4,h5,h6⟩:=ih cs (fun j=>f (j+1)) (fun j hj=>by simpa using h (j+1) (by simpa using hj)) hok2;refine⟨by simp [h3],by simp [h4],h1.append h5,fun hp hv j hj=> ?_⟩;cases j with
   | zero=>exact h2 hp (fun p hp=>hv p (Dx _ hp))
   | succ j=>simpa using h6 hp (fun p hp=>hv p (Dy _ hp)) j (by simpa using hj)
end
section
variable {P:Program} {C:Ctx} {V0:Nat->Value} {O0 O:Own} {w0 w:World} {m:Nat->Value} {st:St} {a:Act} {o:Oper}
def Held (O:Own) (w:World) (cur:Array Value) (sz:Nat) (es:List (List A)):Prop :=
 (∀ x∈es,x.length=sz)/\ ∀ i j,i<es.length->j<sz-> ∃ u,cur[i*sz+j]? =some u/\Jt O w u ((es.getD i []).getD j .undef)
theorem kE (hS:Sim V0 O0 w0 O m st a w) {w2:World} (hM:Moves O (fun _=>False) w w2) {d:Tmp} {e cap:Nat} {frz:Bool} {l:Sl} {cur:Array Value} {del:List Nat} (hnew:LC w2 w.heap.size cur e)
 (hcap:l.es.length<=cap) (hmax:cap<=maxLen) (hcur:cur.size=cap*l.sz) (hh:Held O w cur l.sz l.es) (hfresh:Ns st (b2 d)) :
 ∃ O' m',Sim V0 O0 w0 O' m' {tmps:=st.tmps.set d (.own (b2 d)),Jm:=J3 (JM st.Jm del) [(b2 d,.arr e frz l)]} (a.put (some d) (.slice (some (at' w.heap.size 0)) l.es.length cap)) w2:=by
 let id:=b2 d;let O':Own:=fun b k=>if b=w.heap.size then(if frz=true/\k<l.es.length*l.sz then none else some id)else O b k;let m':Nat->Value:=fun i=>if i=id then .slice (some (at' w.heap.size 0)) l.es.length cap else m i;have hlt: ∀ {b k},b<w.heap.size->O' b k=O b k:=fun hb=>Du (Fz hb);have hP:Passes O O' (fun _=>False) w.heap.size:=⟨fun b k hb h=>by rw[hlt hb];exact h,fun b k q hb h _=>by rw[hlt hb];exact h⟩
 have hpr:=hM.JE hP
 have hget: ∀ i y,Jr (J3 (JM st.Jm del) [(id,.arr e frz l)]) i=some y->(i=id/\y= .arr e frz l)\/(i≠id/\Jr st.Jm i=some y):=by
  intro i y hy;simp only[J3]at hy;rw[JO]at hy;by_cases hi:i=id
  .rw[Dw hi]at hy;injection hy with hy;exact .inl ⟨hi,hy.symm⟩
  .rw[Du hi,Pq]at hy;split at hy
   .cases hy
   .exact .inr ⟨hi,hy⟩
 have hE:NW st.Jm m (J3 (JM st.Jm del) [(id,.arr e frz l)]) m' (fun i=>i=id):=by
  intro i y hy;rcases hget i y hy with ⟨h1,_⟩ | ⟨h1,h2⟩
  .exact .inl h1
  .exact .inr ⟨y,h2,rfl,Du h1⟩
 refine⟨O',m',hS.next (st':= {tmps:=st.tmps.set d (.own (b2 d)),Jm:=J3 (JM st.Jm del) [(id,.arr e frz l)]}) (x:=.own id) (T:=fun _=>False) (Nw:=fun i=>i=id) hM hP (fun b k hb h=>by rw[hlt hb]at h;exact h) hE (fun n hn=>by rw[hn];exact hfresh.both) (fun _ h=>h.elim) (fun i y hy=> ?_) rfl (fun _=> ?_)⟩
 .rcases hget i y hy with ⟨h1,h2⟩ | ⟨h1,h2⟩
  .right;subst h1;subst h2;refine⟨⟨hh.1,.inr ⟨trivial,w.heap.size,cap,cur,Dw rfl,hnew,hcap,hmax,hcur,fun i j hi hj=> ?_,fun k hk hge=> ?_,fun k hk=> ?_⟩⟩,hfresh.ne⟩
   .obtain⟨u,h3,h4⟩:=hh.2 i j hi hj;exact⟨u,h3,h4.JE hpr⟩
   .show(if _ then(if _ then _ else _)else _)=_;rw[Dw rfl,Du]
   .show(if _ then(if _ then _ else _)else _)=_;rw[Dw rfl];cases frz
    .simp
    .simp [hk]
  .exact .inl ⟨fun h=>h,h2,Du h1⟩
 .refine⟨rfl,?_⟩;all_goals grind[Jr,J3,JM,JO,Obj.shp]
theorem RJ (hS:Sim V0 O0 w0 O m st a w) {w1:World} (hM1:Moves O (fun _=>False) w w1) (hsz1:w1.heap.size=w.heap.size) {d:Tmp} {e cap:Nat} {frz:Bool} {l:Sl} {cur:Array Value} {del:List Nat}
 (hcap:l.es.length<=cap) (hmax:cap<=maxLen) (hcur:cur.size=cap*l.sz) (hh:Held O w cur l.sz l.es) (hfresh:Ns st (b2 d)) :
 ∃ O' m',Sim V0 O0 w0 O' m' {tmps:=st.tmps.set d (.own (b2 d)),Jm:=J3 (JM st.Jm del) [(b2 d,.arr e frz l)]} (a.put (some d) (.slice (some (at' w.heap.size 0)) l.es.length cap)) (w1.alloc (.cells cur e)):=by
 exact kE hS (hM1.then (by rw[<- hsz1]at *;exact Moves.push _)) ⟨_,by rw[<- hsz1];exact YH _ _,.inl rfl⟩ hcap hmax hcur hh hfresh
theorem YS (hS:Sim V0 O0 w0 O m st a w) {d:Tmp} {e:Nat} {frz:Bool} {t:Ty} {del:List Nat} {id:Nat} (hfresh:Ns st id) :
 ∃ O' m',Sim V0 O0 w0 O' m' {tmps:=st.tmps.set d (.own id),Jm:=J3 (JM st.Jm del) [(id,.arr e frz ⟨t,[]⟩)]} (a.put (some d) (.slice none 0 0)) w:=by
 let m':Nat->Value:=fun i=>if i=id then .slice none 0 0 else m i
 have hget: ∀ i y,Jr (J3 (JM st.Jm del) [(id,.arr e frz ⟨t,[]⟩)]) i=some y->(i=id/\y= .arr e frz ⟨t,[]⟩)\/(i≠id/\Jr st.Jm i=some y):=by
  intro i y hy;simp only[J3]at hy;rw[JO]at hy;by_cases hi:i=id
  .rw[Dw hi]at hy;injection hy with hy;exact .inl ⟨hi,hy.symm⟩
  .rw[Du hi,Pq]at hy;split at hy
   .cases hy
   .exact .inr ⟨hi,hy⟩
 have hE:NW st.Jm m (J3 (JM st.Jm del) [(id,.arr e frz ⟨t,[]⟩)]) m' (fun i=>i=id):=by
  intro i y hy;rcases hget i y hy with ⟨h1,_⟩ | ⟨h1,h2⟩
  .exact .inl h1
  .exact .inr ⟨y,h2,rfl,Du h1⟩
 refine⟨O,m',hS.next (st':= {tmps:=st.tmps.set d (.own id),Jm:=J3 (JM st.Jm del) [(id,.arr e frz ⟨t,[]⟩)]}) (x:=.own id) (T:=fun _=>False) (Nw:=fun i=>i=id) (Moves.refl _ _ _) ⟨fun _ _ _ h=>h,fun _ _ _ _ h _=>h⟩ (fun b k hb h=>h) hE (fun n hn=>by rw[hn];exact hfresh.both) (fun _ h=>h.elim) (fun i y hy=> ?_) rfl (fun _=> ?_)⟩
 .rcases hget i y hy with ⟨h1,h2⟩ | ⟨h1,h2⟩
  .right;subst h1;subst h2;exact⟨⟨by simp [Sl.es],.inl ⟨trivial,rfl,Dw rfl⟩⟩,hfresh.ne⟩
  .exact .inl ⟨fun h=>h,h2,Du h1⟩
 .refine⟨rfl,?_⟩;all_goals grind[Jr,J3,JM,JO,Obj.shp]
theorem Acx (hS:Sim V0 O0 w0 O m st a w) {d:Tmp} {q e cap g:Nat} {frz:Bool} {l l':Sl} {ns:List (List A)} {cur:Array Value} {news:List Value}
 (hq:Jr st.Jm q=some (.arr e frz l)) (hm:m q= .slice (some (at' g 0)) l.es.length cap) (hg:LC w g cur e) (hcap:l.es.length+ns.length<=cap) (hle:l'.es=l.es++ns) (hls:l'.sz=l.sz)
 (hl:news.length=ns.length*l.sz) (hns: ∀ x∈ns,x.length=l.sz) (hnv: ∀ i j,i<ns.length->j<l.sz->Jt O w (news.getD (i*l.sz+j) undef) ((ns.getD i []).getD j .undef)) (hfresh:Ns st (b2 d)) :
 ∃ O' m',Sim V0 O0 w0 O' m' {tmps:=st.tmps.set d (.own (b2 d)),Jm:=J3 (JM st.Jm [q]) [(b2 d,.arr e frz l')]} (a.put (some d) (.slice (some (at' g 0)) (l.es.length+ns.length) cap)) (w.setCells g (l.es.length*l.sz) news):=by
 let id:=b2 d;have hidq:id≠q:=fun h=>by have:=hfresh.2;rw[show b2 d=id from rfl,h,hq]at this;cases this
 obtain⟨hsz,hr⟩:=hS.Jm q _ hq
 obtain⟨g',cap',cur',h2,h3,h4,h5,h6,h7,h8,h9⟩: ∃ g' cap' cur',m q= .slice (some (at' g' 0)) l.es.length cap'/\LC w g' cur' e/\l.es.length<=cap'/\cap'<=maxLen/\cur'.size=cap'*l.sz /\
  (∀ i j,i<l.es.length->j<l.sz-> ∃ u,cur'[i*l.sz+j]? =some u/\Jt O w u ((l.es.getD i []).getD j .undef))/\(∀ k,k<cur'.size->l.es.length*l.sz<=k->O g' k=some q)/\(∀ k,k<l.es.length*l.sz->O g' k=if frz then none else some q):=by
  rcases hr with ⟨_,_,h⟩ | ⟨_,h⟩
  .rw[hm]at h;cases h
  .exact h
 rw[hm]at h2;injection h2 with h2 _ hcc;injection h2 with h2;injection h2 with h2;subst h2;subst hcc;obtain⟨h3,_⟩:=hg.inj h3;subst h3;obtain⟨fr,hg,hfr0⟩:=hg;have hmul:(l.es.length+ns.length)*l.sz<=cap*l.sz:=DC _ hcap;rw[DU]at hmul;obtain⟨c',g1,g2,g3,g4,g5,g6,g7,g8⟩:=UB g news (l.es.length*l.sz) w hg (by rw[hl,h6];exact hmul);let w':=w.setCells g (l.es.length*l.sz) news;let O':Own:=fun b k=>if b=g/\k<cur.size then(if frz=true/\k<(l.es.length+ns.length)*l.sz then none else some id)else O b k;let m':Nat->Value:=fun i=>if i=id then .slice (some (at' g 0)) (l.es.length+ns.length) cap else m i;have hsame: ∀ k,(k<l.es.length*l.sz\/(l.es.length+ns.length)*l.sz<=k)->c'[k]? =cur[k]? :=by all_goals grind[getD_eq]
 have hM:Moves O (fun i=>i=q) w w':=by refine Moves.row g6 g7 g8 g5 hg g1 g4 g2 (fun k hk=>hsame k ?_) ?_;all_goals grind[apply]
 have hg':g<w.heap.size:=(DL.1 hg).1
 have own_g: ∀ k,k<cur.size->O g k=none\/O g k=some q:=by
  intro k hk;rcases DT k (l.es.length*l.sz)with h | h
  .rw[h9 k h];cases frz<;>simp
  .exact .inr (h8 k hk h)
 have hP:Passes O O' (fun i=>i=q) w.heap.size:=by
  refine⟨fun b k _ h=> ?_,fun b k r _ h hne=> ?_⟩
  .show(if _ then(if _ then _ else _)else _)=_;by_cases hc:b=g/\k<cur.size
   .rw[Dw hc];obtain⟨rfl,hk⟩:=hc;rcases DT k (l.es.length*l.sz)with h' | h'
    .have:=h9 k h';rw[h]at this;cases frz
     .simp at this
     .rw[Dw ⟨rfl,by rw[DU];omega⟩]
    .rw[h8 k hk h']at h;cases h
   .rw[Du hc];exact h
  .show(if _ then(if _ then _ else _)else _)=_;by_cases hc:b=g/\k<cur.size
   .obtain⟨rfl,hk⟩:=hc;rcases own_g k hk with h' | h'
    .rw[h]at h';cases h'
    .rw[h]at h';injection h' with h';exact absurd h' hne
   .rw[Du hc];exact h
 have hpr:=hM.JE hP
 have hget: ∀ i y,Jr (J3 (JM st.Jm [q]) [(id,.arr e frz l')]) i=some y->(i=id/\y= .arr e frz l')\/(i≠id/\i≠q/\Jr st.Jm i=some y):=by
  intro i y hy;simp only[J3]at hy;rw[JO]at hy;by_cases hi:i=id
  .rw[Dw hi]at hy;injection hy with hy;exact .inl ⟨hi,hy.symm⟩
  .rw[Du hi,Pq]at hy;split at hy
   .cases hy
   .rename_i hnd;exact .inr ⟨hi,by simpa using hnd,hy⟩
 have hE:NW st.Jm m (J3 (JM st.Jm [q]) [(id,.arr e frz l')]) m' (fun i=>i=id):=by
  intro i y hy;rcases hget i y hy with ⟨h1,_⟩ | ⟨h1,_,h2⟩
  .exact .inl h1
  .exact .inr ⟨y,h2,rfl,Du h1⟩
 refine⟨O',m',hS.next (st':= {tmps:=st.tmps.set d (.own (b2 d)),Jm:=J3 (JM st.Jm [q]) [(id,.arr e frz l')]}) (x:=.own id) (T:=fun i=>i=q) (Nw:=fun i=>i=id) hM hP (fun b k hb h=> ?_) hE (fun n hn=>by rw[hn];exact hfresh.both) (fun o ho=>by rw[ho,hq];rfl) (fun i y hy=> ?_) rfl (fun _=> ?_)⟩
 .have h':(if b=g/\k<cur.size then(if frz=true/\k<(l.es.length+ns.length)*l.sz then none else some id)else O b k)≠none:=h;by_cases hc:b=g/\k<cur.size
  .rw[Dw hc]at h';obtain⟨rfl,hk⟩:=hc;rcases DT k (l.es.length*l.sz)with hlt | hge
   .rw[h9 k hlt];cases frz
    .simp
    .exfalso;refine h' ?_;rw[Dw ⟨rfl,by rw[DU];omega⟩]
   .rw[h8 k hk hge];simp
  .rw[Du hc]at h';exact h'
 .rcases hget i y hy with ⟨h1,h2⟩ | ⟨h1,hiq,h2⟩
  .right;subst h1;subst h2;refine⟨?_,hfresh.ne⟩;simp only[Kz];rw[hle,hls];refine⟨fun x hx=>(DI.1 hx).elim (hsz x) (hns x),.inr ⟨trivial,g,cap,c',by rw[Ed];exact Dw rfl,⟨fr,g1,by rw[g2];exact hfr0⟩,by rw[Ed];exact hcap,h5,by rw[g2];exact h6,fun i j hi hj=> ?_,fun k hk hge=> ?_,fun k hk=> ?_⟩⟩
   .rw[Ed]at hi;by_cases hil:i<l.es.length
    .obtain⟨u,h10,h11⟩:=h7 i j hil hj;have hlt:i*l.sz+j<l.es.length*l.sz:=by have:(i+1)*l.sz<=l.es.length*l.sz:=DC _ hil;rw[DU]at this;omega
     refine⟨u,by rw[hsame _ (.inl hlt)];exact h10,?_⟩;have e1:(l.es++ns).getD i []=l.es.getD i []:=by simp only[Di];rw[DV hil]
     rw[e1];exact h11.JE hpr
    .obtain⟨i',rfl⟩: ∃ i',i=l.es.length+i':=⟨i - l.es.length,by omega⟩
     have hi':i'<ns.length:=by omega
     have hlt:i'*l.sz+j<ns.length*l.sz:=by have:(i'+1)*l.sz<=ns.length*l.sz:=DC _ hi';rw[DU]at this;omega
     have hidx:(l.es.length+i')*l.sz+j=l.es.length*l.sz+(i'*l.sz+j):=by rw[DU];omega
     have hsz':l.es.length*l.sz+(i'*l.sz+j)<c'.size:=by rw[g2,h6];omega
     refine⟨news.getD (i'*l.sz+j) undef,?_,?_⟩
     .rw[hidx,getD_eq hsz',g3,Dw ⟨by omega,by rw[hl];omega⟩];rw[show l.es.length*l.sz+(i'*l.sz+j) - l.es.length*l.sz=i'*l.sz+j from by omega]
     .have e1:(l.es++ns).getD (l.es.length+i') []=ns.getD i' []:=by
       simp only[Di];rw[Eb (by omega),Fe]
      rw[e1];exact(hnv i' j hi' hj).JE hpr
   .rw[g2]at hk;rw[Ed]at hge;show(if _ then(if _ then _ else _)else _)=_;rw[Dw ⟨rfl,hk⟩,Du]
   .rw[Ed]at hk;show(if _ then(if _ then _ else _)else _)=_;rw[Dw ⟨rfl,by rw[DU]at hk;omega⟩];cases frz
    .simp
    .simp [hk]
  .exact .inl ⟨hiq,h2,Du h1⟩
 .refine⟨rfl,?_⟩;have:Jr (J3 (JM st.Jm [q]) [(id,.arr e frz l')]) id=some (.arr e frz l'):=by simp only[J3];rw[JO,Dw rfl]
  show match (Jr (J3 (JM st.Jm [q]) [(id,.arr e frz l')]) id).map Obj.shp with | some (.arr _ _)=>_ | some .mp=>_ | _=>True
  rw[this];exact(Dw rfl:m' id=_).symm
theorem Adu (hS:Sim V0 O0 w0 O m st a w) {d:Tmp} {q e cap g n:Nat} {l l':Sl} {cur:Array Value}
 (hq:Jr st.Jm q=some (.arr e false l)) (hm:m q= .slice (some (at' g 0)) l.es.length cap) (hg:LC w g cur e) (hn:n<=l.es.length) (hle:l'.es=l.es.take n) (hls:l'.sz=l.sz) (hfresh:Ns st (b2 d)) :
 ∃ O' m',Sim V0 O0 w0 O' m' {tmps:=st.tmps.set d (.own (b2 d)),Jm:=J3 (JM st.Jm [q]) [(b2 d,.arr e false l')]} (a.put (some d) (.slice (some (at' g 0)) n cap)) w:=by
 let id:=b2 d;obtain⟨hsz,hr⟩:=hS.Jm q _ hq
 obtain⟨g',cap',cur',h2,h3,h4,h5,h6,h7,h8,h9⟩: ∃ g' cap' cur',m q= .slice (some (at' g' 0)) l.es.length cap'/\LC w g' cur' e/\l.es.length<=cap'/\cap'<=maxLen/\cur'.size=cap'*l.sz /\
  (∀ i j,i<l.es.length->j<l.sz-> ∃ u,cur'[i*l.sz+j]? =some u/\Jt O w u ((l.es.getD i []).getD j .undef))/\(∀ k,k<cur'.size->l.es.length*l.sz<=k->O g' k=some q)/\(∀ k,k<l.es.length*l.sz->O g' k=some q):=by
  rcases hr with ⟨_,_,h⟩ | ⟨_,h⟩
  .rw[hm]at h;cases h
  .simpa using h
 rw[hm]at h2;injection h2 with h2 _ hcc;injection h2 with h2;injection h2 with h2;subst h2;subst hcc;obtain⟨h3,_⟩:=hg.inj h3;subst h3
 have own_g: ∀ k,k<cur.size->O g k=some q:=by
  intro k hk;rcases DT k (l.es.length*l.sz)with h | h
  .exact h9 k h
  .exact h8 k hk h
 let O':Own:=fun b k=>if b=g/\k<cur.size then some id else O b k;let m':Nat->Value:=fun i=>if i=id then .slice (some (at' g 0)) n cap else m i;have hM:Moves O (fun i=>i=q) w w:=Moves.refl _ _ _
 have hP:Passes O O' (fun i=>i=q) w.heap.size:=by
  refine⟨fun b k _ h=> ?_,fun b k r _ h hne=> ?_⟩
  .show(if _ then _ else _)=_;by_cases hc:b=g/\k<cur.size
   .obtain⟨rfl,hk⟩:=hc;rw[own_g k hk]at h;cases h
   .rw[Du hc];exact h
  .show(if _ then _ else _)=_;by_cases hc:b=g/\k<cur.size
   .obtain⟨rfl,hk⟩:=hc;rw[own_g k hk]at h;injection h with h;exact absurd h.symm hne
   .rw[Du hc];exact h
 have hpr:=hM.JE hP
 have hget: ∀ i y,Jr (J3 (JM st.Jm [q]) [(id,.arr e false l')]) i=some y->(i=id/\y= .arr e false l')\/(i≠id/\i≠q/\Jr st.Jm i=some y):=by
  intro i y hy;simp only[J3]at hy;rw[JO]at hy;by_cases hi:i=id
  .rw[Dw hi]at hy;injection hy with hy;exact .inl ⟨hi,hy.symm⟩
  .rw[Du hi,Pq]at hy;split at hy
   .cases hy
   .rename_i hnd;exact .inr ⟨hi,by simpa using hnd,hy⟩
 have hE:NW st.Jm m (J3 (JM st.Jm [q]) [(id,.arr e false l')]) m' (fun i=>i=id):=by
  intro i y hy;rcases hget i y hy with ⟨h1,_⟩ | ⟨h1,_,h2⟩
  .exact .inl h1
  .exact .inr ⟨y,h2,rfl,Du h1⟩
 have hlen:l'.es.length=n:=by rw[hle,En];omega
 have hmul:n*l.sz<=l.es.length*l.sz:=DC _ hn;have hmul2:l.es.length*l.sz<=cap*l.sz:=DC _ h4;refine⟨O',m',hS.next (st':= {tmps:=st.tmps.set d (.own (b2 d)),Jm:=J3 (JM st.Jm [q]) [(id,.arr e false l')]}) (x:=.own id) (T:=fun i=>i=q) (Nw:=fun i=>i=id) hM hP (fun b k hb h=> ?_) hE (fun n hn=>by rw[hn];exact hfresh.both) (fun o ho=>by rw[ho,hq];rfl) (fun i y hy=> ?_) rfl (fun _=> ?_)⟩
 .have h':(if b=g/\k<cur.size then some id else O b k)≠none:=h;by_cases hc:b=g/\k<cur.size
  .obtain⟨rfl,hk⟩:=hc;rw[own_g k hk];simp
  .rw[Du hc]at h';exact h'
 .rcases hget i y hy with ⟨h1,h2⟩ | ⟨h1,hiq,h2⟩
  .right;subst h1;subst h2;refine⟨?_,hfresh.ne⟩;simp only[Kz];rw[hls,hlen];refine⟨fun x hx=>hsz x (by rw[hle]at hx;exact FY hx),.inr ⟨trivial,g,cap,cur,Dw rfl,hg,by omega,h5,h6,fun i j hi hj=> ?_,fun k hk hge=>Dw ⟨rfl,hk⟩,fun k hk=> ?_⟩⟩
   .obtain⟨u,h10,h11⟩:=h7 i j (by omega) hj;refine⟨u,h10,?_⟩;have e1:l'.es.getD i []=l.es.getD i []:=by rw[hle];simp only[Di,F8];rw[Dw hi]
    rw[e1];exact h11.JE hpr
   .show(if _ then _ else _)=_;rw[Dw ⟨rfl,by omega⟩];rfl
  .exact .inl ⟨hiq,h2,Du h1⟩
 .refine⟨rfl,?_⟩;have:Jr (J3 (JM st.Jm [q]) [(id,.arr e false l')]) id=some (.arr e false l'):=by simp only[J3];rw[JO,Dw rfl]
  show match (Jr (J3 (JM st.Jm [q]) [(id,.arr e false l')]) id).map Obj.shp with | some (.arr _ _)=>_ | some .mp=>_ | _=>True
  rw[this];exact(Dw rfl:m' id=_).symm
end
end Go.Proofs.YtpaimpmokhihmaaGreatDoor.Vm
