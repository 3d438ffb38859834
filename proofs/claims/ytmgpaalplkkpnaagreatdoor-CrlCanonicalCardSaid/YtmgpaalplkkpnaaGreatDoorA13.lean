import Derived.Test.YtmgpaalplkkpnaaGreatDoorA12
import Derived.Defers
set_option linter.all false
namespace Go.Proofs.YtmgpaalplkkpnaaGreatDoor.Vm
open Go.RowKit
def Art: ∀(ks:List CK) (i j:Nat),j<ks.length->(L6 (ks.map fun k=>Sh.box [(false,k)]) i)[j]? =some (i+j):=by
 intro ks
 induction ks with
 | nil=>intro i j h;simp at h
 | cons k ks ih =>
  intro i j h;show(i::L6 (ks.map fun k=>Sh.box [(false,k)]) (i+1))[j]? =_;cases j with
  | zero=>rfl
  | succ j=>rw[List.getElem?_cons_succ,ih (i+1) j (by simpa using h)];congr 1;omega
def Amu {P:Program} {f:FuncId} {sg:Sig} (hsp:Spec P f sg) {ks:List CK} (hp:sg.J7=ks.map fun k=>.box [(false,k)]) (gs:List Nat) (xs:List A) (hl:gs.length=ks.length) (hlx:xs.length=ks.length) (h100:ks.length<=100) (hnd:gs.Nodup)
 {O0:Own} {w:World} (hI:Inv O0 w) (hIg: ∀ g∈gs,∀ j p,yS g j≠some p) (hc: ∀ i,i<gs.length->w.cell? (at' (gs.getD i 0) 0)=some (rvA (xs.getD i .undef))/\w.frozen? (at' (gs.getD i 0) 0)=false/\(xs.getD i .undef).flat=true)
 {rs:List A} (hF:sg.F (xs.map fun x=>.box [x])=some rs) :
 Calls P f ((gs.map fun g=>Value.pointer (some (at' g 0))).toArray) w fun e w'=> ∃ v O',e= .returned v/\(∀ b,b<w.heap.size->b∉gs->w'.heap[b]? =w.heap[b]?)/\w.heap.size<=w'.heap.size/\w'.os=w.os/\w'.tape=w.tape/\w'.output=w.output /\
  (∃ us:Array Value,us.size=sg.JP.length/\v=(if h:us.size=1 then us[0]else .tuple us)/\ ∀ k,k<us.size->IR O' w' (A0O k) (us.getD k undef) (rs.getD k .undef)) /\
  ∀ i,i<gs.length-> ∀ x,AfD (rs.getD (sg.JP.length+i) .undef)= .box [x]->x.flat=true->w'.cell? (at' (gs.getD i 0) 0)=some (rvA x)/\w'.frozen? (at' (gs.getD i 0) 0)=false:=by
 let O:Own:=fun b k=>if k=0/\b∈gs then some (256*gs.idxOf b)else none
 have hO: ∀ i,i<gs.length->O (gs.getD i 0) 0=some (256*i):=by
  intro i hi;have e:gs.getD i 0=gs[i]:=by simp [Dj,hi]
  show(if 0=0/\gs.getD i 0∈gs then _ else _)=_;rw[e,Dn ⟨rfl,Eo hi⟩,List.Nodup.idxOf_getElem hnd]
 refine(hsp.2 O w _ (xs.map fun x=>.box [x]) rs ⟨fun g j p ht=>⟨?_,(hI.1 g j p ht).2⟩,hI.2⟩ (by simp [hl,hlx]) (by rw[Dz,hlx,hp,Dz]) (by rw[Dz,hlx];exact h100) (fun j hj=> ?_) hF).mono ?_
 .show(if j=0/\g∈gs then _ else _)=_;exact Dk fun h=>hIg g h.2 j p ht
 .rw[Dz]at hj;have hj':j<gs.length:=by omega
  obtain⟨h1,h2,h3⟩:=hc j hj';have e1:((gs.map fun g=>Value.pointer (some (at' g 0))).toArray).getD j undef= .pointer (some (at' (gs.getD j 0) 0)):=by simp [Du,Dj,hj']
  have e2:(xs.map fun x=>A.box [x]).getD j .undef= .box [xs.getD j .undef]:=by simp [Dj,hj]
  rw[e1,e2];refine⟨_,_,rfl,fun k hk=> ?_⟩;have:k=0:=by simpa using hk
  subst this;refine⟨hO j hj',h2,_,h1,?_⟩;show IC O w _ (rvA (xs.getD j .undef)) (xs.getD j .undef);generalize xs.getD j .undef=x at h3;cases x with
  | bool b=>exact JC.bool b
  | int k n=>exact JC.int k n
  | str s=>exact JC.str (O:=O) (w:=w) ⟨s.toArray⟩
  | _=>cases h3
 .rintro e w' ⟨v,O',rfl,hcame⟩;have hM:=hcame.moves;refine⟨v,O',rfl,fun b hb hn=> ?_,hM.size,hM.os,hM.tape,hM.output,hcame.res,fun i hi x hx hf=> ?_⟩
  .have no: ∀ k o,O b k≠some o:=fun k o h=>by
    have h:(if k=0/\b∈gs then some (256*gs.idxOf b)else none)=some o:=h;rw[Dk fun h=>hn h.2]at h;cases h
   rcases hM.blk b hb with h | ⟨_,_,_,_,_,_,_,_,k,o,_,h,_⟩ | ⟨_,_,_,_,o,_,_,h,_⟩
   .exact h
   .exact absurd h (no k o)
   .exact absurd h (no 0 o)
  .have hb:=hcame.boxes i i (by rw[hp];have:=Art ks 0 i (by omega);rw[DT]at this;exact this);rw[hx]at hb;have e1:((gs.map fun g=>Value.pointer (some (at' g 0))).toArray).getD i undef= .pointer (some (at' (gs.getD i 0) 0)):=by simp [Du,Dj,hi]
   have e2:sg.J7.getD i (.agg [])= .box [(false,ks.getD i .oth)]:=by rw[hp];simp [Dj,show i<ks.length by omega]
   rw[e1,e2]at hb;obtain⟨b,base,h1,h2⟩:=hb;have h1:Value.pointer (some (at' (gs.getD i 0) 0))= .pointer (some (at' b base)):=h1;injection h1 with h1;injection h1 with h1;injection h1 with q1 q2;subst q1;subst q2;obtain⟨_,h3,u,h4,h5⟩:=h2 0 (by simp);refine⟨?_,h3⟩;refine(show w'.cell? (at' (gs.getD i 0) 0)=some u from h4).trans (congrArg some ?_);have h5:IC O' w' _ u x:=h5;cases x with
   | bool b=>have h':JC O' w' u (.bool b):=h5;cases h';rfl
   | int k n=>have h':JC O' w' u (.int k n):=h5;cases h';rfl
   | str s=>exact VE (show JC O' w' u (.str s)from h5)
   | _=>cases hf
structure Nc (gs:List Nat) (w w':World):Prop where
 blk: ∀ b,b<w.heap.size->b∉gs->w'.heap[b]? =w.heap[b]?
 size:w.heap.size<=w'.heap.size
 os:w'.os=w.os
 tape:w'.tape=w.tape
 output:w'.output=w.output
def Nc.cell {gs:List Nat} {w w':World} (h:Nc gs w w') {b k:Nat} (hb:b<w.heap.size) (hn:b∉gs):w'.cell? ⟨b,k,none⟩=w.cell? ⟨b,k,none⟩:=by simp [World.cell?,h.blk b hb hn]
def Nc.frozen {gs:List Nat} {w w':World} (h:Nc gs w w') {b k:Nat} (hb:b<w.heap.size) (hn:b∉gs):w'.frozen? ⟨b,k,none⟩=w.frozen? ⟨b,k,none⟩:=by simp [World.frozen?,h.blk b hb hn]
def Awf (N:Nat) {O0:Own} {w:World} (hI:Inv O0 w) {g:Nat} {b:Bool} (hg: ∀ j p,yS g j≠some p) (hc:w.cell? ⟨g,0,none⟩=some (.bool b)) (hf:w.frozen? ⟨g,0,none⟩=false) :
 Calls Tryz.prog 49 #[.pointer (some ⟨g,0,none⟩)] w fun e w'=>e= .returned (.bool b)/\Nc [g] w w':=by
 refine(Amu (Vr N) (ks:=[.bool]) rfl [g] [.bool b] rfl rfl (by decide) (by simp) hI (fun g' h j p=>by rw[DR.1 h];exact hg j p) (fun i hi=> ?_) (rs:=[.bool b,.agg [.bool b]]) (by kernel_rfl)).mono ?_
 .have:i=0:=by simpa using hi
  subst this;exact⟨hc,hf,rfl⟩
 .rintro e w' ⟨v,O',rfl,h1,h2,h3,h4,h5,⟨us,h6,h7,h8⟩,_⟩;have h6:us.size=1:=h6;refine⟨?_,h1,h2,h3,h4,h5⟩;have h9:JC O' w' (us.getD 0 undef) (.bool b):=h8 0 (by omega);rw[h7,Iq h6];have e:us[0]=us.getD 0 undef:=by simp [Du,h6]
  rw[e];generalize us.getD 0 undef=u at h9;cases h9;rfl
def Aso (N:Nat) {O0:Own} {w:World} (hI:Inv O0 w) {g g1 g2:Nat} {tbs sig s t' u':Bs} {bad:Bool} (hn: [g,g1,g2].Nodup) (hg: ∀ x∈ [g,g1,g2],∀ j p,yS x j≠some p) (hc:w.cell? ⟨g,0,none⟩=some (.bool false)) (hf:w.frozen? ⟨g,0,none⟩=false)
 (hc1:w.cell? ⟨g1,0,none⟩=some (.string ⟨tbs.toArray⟩)) (hf1:w.frozen? ⟨g1,0,none⟩=false) (hc2:w.cell? ⟨g2,0,none⟩=some (.string ⟨sig.toArray⟩)) (hf2:w.frozen? ⟨g2,0,none⟩=false) (hs:OJ N false tbs sig=some (s,bad,t',u')) :
 Calls Tryz.prog 105 #[.pointer (some ⟨g,0,none⟩),.pointer (some ⟨g1,0,none⟩),.pointer (some ⟨g2,0,none⟩)] w fun e w'=>e= .returned (.string ⟨s.toArray⟩)/\Nc [g,g1,g2] w w'/\w'.cell? ⟨g,0,none⟩=some (.bool bad)/\w'.frozen? ⟨g,0,none⟩=false:=by
 have hF:(Qs N).F [.box [.bool false],.box [.str tbs],.box [.str sig]]=some [.str s,.agg [.bool bad],.agg [.str t'],.agg [.str u']]:=by
  have h1:(Qs N).F [.box [.bool false],.box [.str tbs],.box [.str sig]]=(bif (OJ N false tbs sig).isSome then some (encs (MV (Qs N).J7 (Qs N).JP) ((show Option (ShT (MV (Qs N).J7 (Qs N).JP))from OJ N false tbs sig).getD (zeroS _)))else none):=by kernel_rfl
  rw[h1,hs];rfl
 refine(Amu (Ahe N) (ks:=[.bool,.str,.str]) rfl [g,g1,g2] [.bool false,.str tbs,.str sig] rfl rfl (by decide) hn hI hg (fun i hi=> ?_) hF).mono ?_
 .have:i=0\/i=1\/i=2:=by simp at hi;omega
  rcases this with rfl | rfl | rfl
  .exact⟨hc,hf,rfl⟩
  .exact⟨hc1,hf1,rfl⟩
  .exact⟨hc2,hf2,rfl⟩
 .rintro e w' ⟨v,O',rfl,h1,h2,h3,h4,h5,⟨us,h6,h7,h8⟩,hb⟩;have h6:us.size=1:=h6;refine⟨?_,⟨h1,h2,h3,h4,h5⟩,hb 0 (by simp) (.bool bad) rfl rfl⟩;have h9:JC O' w' (us.getD 0 undef) (.str s):=h8 0 (by omega);rw[h7,Iq h6];have e:us[0]=us.getD 0 undef:=by simp [Du,h6]
  rw[e,VE h9]
def Nc.refl (gs:List Nat) (w:World):Nc gs w w:=⟨fun _ _ _=>rfl,DV _,rfl,rfl,rfl⟩
def Nc.mono {gs gs':List Nat} {w w':World} (h:Nc gs w w') (hs: ∀ g∈gs,g∈gs'):Nc gs' w w':=⟨fun b hb hn=>h.blk b hb fun hm=>hn (hs b hm),h.size,h.os,h.tape,h.output⟩
def Nc.set {gs:List Nat} {w w':World} (h:Nc gs w w') {p:Addr} (hp:p.block∈gs) (v:Value):Nc gs w (w'.setCell p v) :=
 ⟨fun b hb hn=>(Below.heap_setCell w' p v b fun e=>hn (by rw[e];exact hp)).trans (h.blk b hb hn),by simpa using h.size,h.os,h.tape,h.output⟩
def Inv.below {O0:Own} {w W:World} (hI:Inv O0 w) (hb:Below w.heap.size w W):Inv (fun _ _=>none) W:=by
 refine⟨fun g j p h=> ?_,fun g n h=> ?_⟩
 .obtain⟨_,v,h2,h3⟩:=hI.1 g j p h;exact⟨rfl,v,(hb.cell (p:=at' g j) (cell_lt h2)).trans h2,h3⟩
 .obtain⟨c,e,fr,h1,h2⟩:=hI.2 g n h;exact⟨c,e,fr,(hb.block g (Ea.1 h1).1).trans h1,h2⟩
def Inv.new {O0:Own} {w:World} (hI:Inv O0 w) {g:Nat} (hg:w.heap.size<=g): ∀ j p,yS g j≠some p:=by intro j p h;obtain⟨_,v,h2,_⟩:=hI.1 g j p h;have:g<w.heap.size:=cell_lt h2;omega
set_option maxHeartbeats 1000000 in
set_option maxRecDepth 100000 in
def Arc (N:Nat) {O0:Own} {w:World} (hI:Inv O0 w) {g pw ps pe:Nat} {b:Bool} {s:ByteArray} {x:Int} (u:FrameMode) (hg: ∀ j p,yS g j≠some p) (h1:ps≠g) (h2:pe≠g) (h3:ps≠pe) (l1:ps<w.heap.size) (l2:pe<w.heap.size)
 (hc:w.cell? ⟨pw,0,none⟩=some (.pointer (some ⟨g,0,none⟩))) (hb:w.cell? ⟨g,0,none⟩=some (.bool b)) (hbf:w.frozen? ⟨g,0,none⟩=false) (hs:w.cell? ⟨ps,0,none⟩=some (.string s)) (hsf:w.frozen? ⟨ps,0,none⟩=false)
 (he:w.cell? ⟨pe,0,none⟩=some (.int .i64 x)) (hef:w.frozen? ⟨pe,0,none⟩=false) :
 CallsD Tryz.prog 169 #[.pointer (some ⟨pw,0,none⟩),.pointer (some ⟨ps,0,none⟩),.pointer (some ⟨pe,0,none⟩)] u w fun e u' w'=>u'=u/\e= .returned (.tuple #[])/\Nc [g,ps,pe] w w' /\
  w'.cell? ⟨ps,0,none⟩=some (.string (if b then⟨#[]⟩else s))/\w'.cell? ⟨pe,0,none⟩=some (.int .i64 (if b then 2 else x)):=by
 have hB:=Awf N hI hg hb hbf;clear hI hg hb hbf;cases b with
 | false =>
  go_enter_d Tryz.func169,Tryz.ntmps169
  go_wp2_with (go_at_call 49;refine hB.mono ?_;rintro e w2 ⟨rfl,hk⟩)
  go_end0
  exact⟨rfl,hk.mono (by simp),(hk.cell l1 (by simpa using h1)).trans hs,(hk.cell l2 (by simpa using h2)).trans he⟩
 | true =>
  go_enter_d Tryz.func169,Tryz.ntmps169
  go_wp2_with (go_at_call 49;refine hB.mono ?_;rintro e w2 ⟨rfl,hk⟩;have k1:=(hk.cell (k:=0) l1 (by simpa using h1)).trans hs;have k2:=(hk.cell (k:=0) l2 (by simpa using h2)).trans he;have k3:=(hk.frozen (k:=0) l1 (by simpa using h1)).trans hsf;have k4:=(hk.frozen (k:=0) l2 (by simpa using h2)).trans hef)
  go_end0
  refine⟨rfl,((hk.mono (by simp)).set (by simp) _).set (by simp) _,?_,?_⟩
  .rw[Gm _ _ _ _ (by simp),Gu _ _ _ k1]
  .rw[Gu _ _ _ ((Gm _ _ _ _ (by simp)).trans k2)]
def Arf {w w':World} (h:Below w.heap.size w w'):Nc [] w w':=⟨fun b hb _=>h.block b hb,h.size,h.os,h.tape,h.output⟩
def Nc.trans {gs gs':List Nat} {w w1 w2:World} (h:Nc gs w w1) (k:Nc gs' w1 w2) (hs: ∀ g∈gs',g∈gs\/w.heap.size<=g):Nc gs w w2 :=
 ⟨fun b hb hn=>(k.blk b (Fz hb h.size) fun hm=>(hs b hm).elim hn (by omega)).trans (h.blk b hb hn),Gs h.size k.size,k.os.trans h.os,k.tape.trans h.tape,k.output.trans h.output⟩
def Off (g:Nat):Prop:=(∀ j p,yS g j≠some p)/\ ∀ n,A0l g≠some n
def Inv.off {O0:Own} {w:World} (hI:Inv O0 w) {g:Nat} (hg:w.heap.size<=g):Off g :=
 ⟨hI.new hg,fun n h=>by obtain⟨c,e,fr,h1,_⟩:=hI.2 g n h;have:=(Ea.1 h1).1;omega⟩
def Inv.keeps {O0:Own} {w W:World} {gs:List Nat} (hI:Inv O0 w) (hk:Nc gs w W) (hg: ∀ g∈gs,Off g):Inv (fun _ _=>none) W:=by
 refine⟨fun g j p h=> ?_,fun g n h=> ?_⟩
 .obtain⟨_,v,h2,h3⟩:=hI.1 g j p h;exact⟨rfl,v,(hk.cell (cell_lt h2) fun hm=>(hg g hm).1 j p h).trans h2,h3⟩
 .obtain⟨c,e,fr,h1,h2⟩:=hI.2 g n h;exact⟨c,e,fr,(hk.blk g (Ea.1 h1).1 fun hm=>(hg g hm).2 n h).trans h1,h2⟩
set_option maxHeartbeats 4000000 in
set_option maxRecDepth 100000 in
def As2 (N:Nat) {O0:Own} {w:World} (hI:Inv O0 w) {g1 g2:Nat} {tbs sig s t' u':Bs} {bad:Bool} {ra:ByteArray} {re:Int} (hra:ra=if bad then⟨#[]⟩else⟨s.toArray⟩) (hre:re=if bad then 2 else 0) (hn:g1≠g2) (hg1:Off g1) (hg2:Off g2) (l1:g1<w.heap.size) (l2:g2<w.heap.size)
 (hc1:w.cell? ⟨g1,0,none⟩=some (.string ⟨tbs.toArray⟩)) (hf1:w.frozen? ⟨g1,0,none⟩=false) (hc2:w.cell? ⟨g2,0,none⟩=some (.string ⟨sig.toArray⟩)) (hf2:w.frozen? ⟨g2,0,none⟩=false) (hs:OJ N false tbs sig=some (s,bad,t',u')) :
 Calls Tryz.prog 104 #[.func (.func 105) #[] #[.pointer (some ⟨g1,0,none⟩),.pointer (some ⟨g2,0,none⟩)]] w fun e w'=>e= .returned (.tuple #[.string ra,.int .i64 re])/\Nc [g1,g2] w w':=by
 have hmf: ∀(fn:Fn) (first cap:Array Value) (w:World),(Instr.makeFunc fn first cap).run Tryz.prog w= .ok (.func fn first cap) w:=fun _ _ _ _=>rfl;have hI0:=hI;obtain⟨W,hW⟩: ∃ W,W=(((w.alloc (Obj.cells #[Value.string {data:= #[]}] 9)).alloc (Obj.cells #[Value.int IntKind.i64 0] 40)).alloc (Obj.cells #[Value.bool false] 90)).alloc (Obj.cells #[Value.pointer (some {block:=w.heap.size+1+1,off:=0})] 88):=⟨_,rfl⟩
 have Hb:Below w.heap.size w W:=by rw[hW];exact((((Below.refl _ w).alloc (DV _) _).alloc (by simp) _).alloc (by simp;omega) _).alloc (by simp;omega) _
 have hsz:W.heap.size=w.heap.size+4:=by rw[hW];simp
 have Hc: ∀ j,w.heap.size<=j->Off j:=fun j hj=>hI.off hj;have Hn:W.cell? ⟨w.heap.size,0,none⟩=some (.string ⟨#[]⟩)/\W.frozen? ⟨w.heap.size,0,none⟩=false:=by rw[hW];constructor<;>simp [go_sem]
 have He:W.cell? ⟨w.heap.size+1,0,none⟩=some (.int .i64 0)/\W.frozen? ⟨w.heap.size+1,0,none⟩=false:=by rw[hW];constructor<;>simp [go_sem]
 have Hx:W.cell? ⟨w.heap.size+1+1,0,none⟩=some (.bool false)/\W.frozen? ⟨w.heap.size+1+1,0,none⟩=false:=by rw[hW];constructor<;>simp [go_sem]
 have Hp:W.cell? ⟨w.heap.size+1+1+1,0,none⟩=some (.pointer (some ⟨w.heap.size+1+1,0,none⟩)):=by rw[hW];simp [go_sem]
 have hS:=Aso N (hI.below Hb) (g:=w.heap.size+1+1) (g1:=g1) (g2:=g2) (by simp [hn];omega)
  (fun x hx=>by
    simp only[D7,Fp,GK]at hx;rcases hx with rfl | rfl | rfl
    .exact(Hc _ (by omega)).1
    .exact hg1.1
    .exact hg2.1) Hx.1 Hx.2 ((Hb.cell l1).trans hc1) ((Hb.frozen l1).trans hf1) ((Hb.cell l2).trans hc2) ((Hb.frozen l2).trans hf2) hs
 have hS':Calls Tryz.prog 105 #[.pointer (some ⟨w.heap.size+1+1,0,none⟩),.pointer (some ⟨g1,0,none⟩),.pointer (some ⟨g2,0,none⟩)] W fun e w2=>e= .returned (.string ⟨s.toArray⟩)/\Inv (fun _ _=>none) w2/\Nc [g1,g2] w w2/\w2.heap.size>=w.heap.size+4 /\
  (w2.cell? ⟨w.heap.size,0,none⟩=some (.string ⟨#[]⟩)/\w2.frozen? ⟨w.heap.size,0,none⟩=false)/\(w2.cell? ⟨w.heap.size+1,0,none⟩=some (.int .i64 0)/\w2.frozen? ⟨w.heap.size+1,0,none⟩=false) /\
  (w2.cell? ⟨w.heap.size+1+1,0,none⟩=some (.bool bad)/\w2.frozen? ⟨w.heap.size+1+1,0,none⟩=false)/\w2.cell? ⟨w.heap.size+1+1+1,0,none⟩=some (.pointer (some ⟨w.heap.size+1+1,0,none⟩)):=by
  refine hS.mono ?_;rintro e w2 ⟨rfl,hk,k1,k2⟩;have hk0:Nc [g1,g2] w w2:=((Arf Hb).mono (gs':=[g1,g2]) (by simp)).trans hk (by simp;omega);have hz:=hk.size;refine⟨rfl,(hI.below Hb).keeps hk (fun x hx=> ?_),hk0,by omega,⟨(hk.cell (by omega) ?_).trans Hn.1,(hk.frozen (by omega) ?_).trans Hn.2⟩,⟨(hk.cell (by omega) ?_).trans He.1,(hk.frozen (by omega) ?_).trans He.2⟩,⟨k1,k2⟩,(hk.cell (by omega) ?_).trans Hp⟩
  .simp only[D7,Fp,GK]at hx;rcases hx with rfl | rfl | rfl
   .exact Hc _ (by omega)
   .exact hg1
   .exact hg2
  all_goals simp only[D7,Fp,GK];omega
 clear hS Hb Hn He Hx Hp hsz;subst hW
 go_enter_defers Tryz.func104,Tryz.ntmps104
 go_wp2_with (go_at_call 105;refine hS'.mono ?_;rintro e w2 ⟨rfl,hI2,hk,hz,⟨n1,n2⟩,⟨e1,e2⟩,⟨b1,b2⟩,p1⟩)
 refine leaves_cons (f:=169) (args:= #[.pointer (some ⟨w.heap.size+1+1+1,0,none⟩),.pointer (some ⟨w.heap.size,0,none⟩),.pointer (some ⟨w.heap.size+1,0,none⟩)]) (by simp) (by simp [go_sem]) ?_;have hk3:Nc [w.heap.size,w.heap.size+1] w2 ((w2.setCell ⟨w.heap.size,0,none⟩ (.string ⟨s.toArray⟩)).setCell ⟨w.heap.size+1,0,none⟩ (.int .i64 0)):=((Nc.refl _ w2).set (by simp) _).set (by simp) _;obtain⟨W3,hW3⟩: ∃ W3,W3=(w2.setCell ⟨w.heap.size,0,none⟩ (.string ⟨s.toArray⟩)).setCell ⟨w.heap.size+1,0,none⟩ (.int .i64 0):=⟨_,rfl⟩
 have q1:W3.cell? ⟨w.heap.size,0,none⟩=some (.string ⟨s.toArray⟩):=by rw[hW3,Gm _ _ _ _ (by simp),Gu _ _ _ n1]
 have q2:W3.cell? ⟨w.heap.size+1,0,none⟩=some (.int .i64 0):=by rw[hW3,Gu _ _ _ ((Gm _ _ _ _ (by simp)).trans e1)]
 have q3:W3.frozen? ⟨w.heap.size,0,none⟩=false:=by rw[hW3];simpa using n2
 have q4:W3.frozen? ⟨w.heap.size+1,0,none⟩=false:=by rw[hW3];simpa using e2
 rw[<- hW3]at hk3;rw[<- hW3];have hz3:=hk3.size;have hI3:=hI2.keeps hk3 (fun x hx=>by simp only[D7,Fp,GK]at hx;exact Hc _ (by omega))
 refine(Arc N hI3 (g:=w.heap.size+1+1) (pw:=w.heap.size+1+1+1) (ps:=w.heap.size) (pe:=w.heap.size+1) (b:=bad) (s:=⟨s.toArray⟩) (x:=0) .returning (Hc _ (by omega)).1 (by omega) (by omega) (by omega) (by omega) (by omega)
  ((hk3.cell (by omega) (by simp;omega)).trans p1) ((hk3.cell (by omega) (by simp;omega)).trans b1) ((hk3.frozen (by omega) (by simp;omega)).trans b2) q1 q3 q2 q4).mono ?_
 rintro e u' w4 ⟨rfl,rfl,hk4,r1,r2⟩;rw[<- hra]at r1;rw[<- hre]at r2;have hk5:Nc [g1,g2] w w4:=(hk.trans hk3 (by simp)).trans hk4 (by simp;omega);simp [Leaves,settle,results,Tryz.results104,go_sem,r1,r2,hk5]
def Nc.below' {gs:List Nat} {n:Nat} {w w':World} (h:Nc gs w w') (hn:n<=w.heap.size) (hg: ∀ g∈gs,n<=g):Below n w w':=⟨h.os,h.tape,h.output,h.size,fun b hb=>h.blk b (Fz hb hn) fun hm=>by have:=hg b hm;omega⟩
def Nc.below {w w':World} (h:Nc [] w w'):Below w.heap.size w w':=⟨h.os,h.tape,h.output,h.size,fun b hb=>h.blk b hb (by simp)⟩
def Ax6 (N:Nat) {O0:Own} {w:World} (hI:Inv O0 w) {tbs b c:Bs} {a d:Int} (h:OB N tbs 48=some ((a,b,c),d)) :
 Calls Tryz.prog 75 #[.string ⟨tbs.toArray⟩,.int .i64 48] w fun e w'=>e= .returned (.tuple #[.agg #[.int .i64 a,.string ⟨b.toArray⟩,.string ⟨c.toArray⟩],.int .i64 d])/\Below w.heap.size w w':=by
 have hF:(Pq N).F [.str tbs,.int .i64 48]=some [.agg [.int .i64 a,.str b,.str c],.int .i64 d]:=by
  have h1:(Pq N).F [.str tbs,.int .i64 48]=(bif (OB N tbs 48).isSome then some (encs (MV (Pq N).J7 (Pq N).JP) ((show Option (ShT (MV (Pq N).J7 (Pq N).JP))from OB N tbs 48).getD (zeroS _)))else none):=by kernel_rfl
  rw[h1,h];rfl
 refine((TP N).2 (fun _ _=>none) w _ [.str tbs,.int .i64 48] _ ⟨fun g j p ht=>⟨rfl,(hI.1 g j p ht).2⟩,hI.2⟩ rfl rfl (by simp) (fun j hj=> ?_) hF).mono ?_
 .have:j=0\/j=1:=by simp at hj;omega
  rcases this with rfl | rfl
  .exact JC.str (O:=fun _ _=>none) (w:=w) ⟨tbs.toArray⟩
  .exact JC.int .i64 48
 .rintro e w' ⟨v,O',rfl,hcame⟩;have hM:=hcame.moves;obtain⟨us,h6,h7,h8⟩:=hcame.res;have h6:us.size=2:=h6;refine⟨?_,⟨hM.os,hM.tape,hM.output,hM.size,fun b hb=> ?_⟩⟩
  .obtain⟨vs,e1,e2,e3⟩:=h8 0 (by omega);have e2:vs.size=3:=e2;have k0:JC O' w' (vs.getD 0 undef) (.int .i64 a):=e3 0 (by simp);have k1:JC O' w' (vs.getD 1 undef) (.str b):=e3 1 (by simp);have k2:JC O' w' (vs.getD 2 undef) (.str c):=e3 2 (by simp);have k3:JC O' w' (us.getD 1 undef) (.int .i64 d):=h8 1 (by omega);have i1: ∀ {v:Value} {k:IntKind} {n:Int},JC O' w' v (.int k n)->v= .int k n:=fun h=>by cases h;rfl
   rw[h7,Jg (by omega)]
   have a1:us= #[us.getD 0 undef,us.getD 1 undef]:=by
    apply FI
    .simp [h6]
    .intro i p q;have:i=0\/i=1:=by omega
     rcases this with rfl | rfl<;>simp [Du,h6]
   have a2:vs= #[vs.getD 0 undef,vs.getD 1 undef,vs.getD 2 undef]:=by
    apply FI
    .simp [e2]
    .intro i p q;have:i=0\/i=1\/i=2:=by omega
     rcases this with rfl | rfl | rfl<;>simp [Du,e2]
   rw[a1,e1,a2,i1 k0,VE k1,VE k2,i1 k3]
  .rcases hM.blk b hb with h | ⟨_,_,_,_,_,_,_,_,k,o,_,h,_⟩ | ⟨_,_,_,_,o,_,_,h,_⟩
   .exact h
   .cases h
   .cases h
set_option maxHeartbeats 4000000 in
set_option maxRecDepth 100000 in
def AmS (N:Nat) {O0:Own} {w:World} (hI:Inv O0 w) {tbs sig b c s t' u':Bs} {a d:Int} {bad:Bool} {ra:ByteArray} {re:Int} (h1:OB N tbs 48=some ((a,b,c),d)) (h2:d=0->OJ N false tbs sig=some (s,bad,t',u'))
 (hra:ra=if d=0 then if bad then⟨#[]⟩else⟨s.toArray⟩else⟨#[]⟩) (hre:re=if d=0 then if bad then 2 else 0 else d) :
 Calls Tryz.prog 50 #[.string ⟨tbs.toArray⟩,.string ⟨sig.toArray⟩] w fun e w'=>e= .returned (.tuple #[.string ra,.int .i64 re])/\Below w.heap.size w w':=by
 have hmf: ∀(fn:Fn) (first cap:Array Value) (w:World),(Instr.makeFunc fn first cap).run Tryz.prog w= .ok (.func fn first cap) w:=fun _ _ _ _=>rfl
 have hO:Calls Tryz.prog 75 #[.string ⟨tbs.toArray⟩,.int .i64 48] ((w.alloc (Obj.cells #[Value.string ⟨tbs.toArray⟩] 9)).alloc (Obj.cells #[Value.string ⟨sig.toArray⟩] 9)) fun e w2=>e= .returned (.tuple #[.agg #[.int .i64 a,.string ⟨b.toArray⟩,.string ⟨c.toArray⟩],.int .i64 d])/\(Inv (fun _ _=>none) w2/\Below w.heap.size w w2) /\
  w2.heap.size>=w.heap.size+2/\(w2.cell? ⟨w.heap.size,0,none⟩=some (.string ⟨tbs.toArray⟩)/\w2.frozen? ⟨w.heap.size,0,none⟩=false)/\(w2.cell? ⟨w.heap.size+1,0,none⟩=some (.string ⟨sig.toArray⟩)/\w2.frozen? ⟨w.heap.size+1,0,none⟩=false):=by
  have hb0:=((Below.refl w.heap.size w).alloc (DV _) (Obj.cells #[Value.string ⟨tbs.toArray⟩] 9)).alloc (by simp) (Obj.cells #[Value.string ⟨sig.toArray⟩] 9);refine(Ax6 N (hI.below hb0) h1).mono ?_;rintro e w2 ⟨rfl,hb⟩;have hz:=hb.size;have hz':w2.heap.size>=w.heap.size+2:=by simpa using hz
  have hb2:=hb0.trans (hb.mono hb0.size);refine⟨rfl,⟨hI.below hb2,hb2⟩,hz',⟨(hb.cell (p:=⟨w.heap.size,0,none⟩) (by simp;omega)).trans (by simp [go_sem]),(hb.frozen (p:=⟨w.heap.size,0,none⟩) (by simp;omega)).trans (by simp [go_sem])⟩,⟨(hb.cell (p:=⟨w.heap.size+1,0,none⟩) (by simp)).trans (by simp [go_sem]),(hb.frozen (p:=⟨w.heap.size+1,0,none⟩) (by simp)).trans (by simp [go_sem])⟩⟩
 clear h1;by_cases hd:d=0
 .subst hd;have h3:=h2 rfl;rw[Dn rfl]at hra hre;clear h2
  have hwr: ∀ w2,Inv (fun _ _=>none) w2/\Below w.heap.size w w2->w2.heap.size>=w.heap.size+2->(w2.cell? ⟨w.heap.size,0,none⟩=some (.string ⟨tbs.toArray⟩)/\w2.frozen? ⟨w.heap.size,0,none⟩=false)->(w2.cell? ⟨w.heap.size+1,0,none⟩=some (.string ⟨sig.toArray⟩)/\w2.frozen? ⟨w.heap.size+1,0,none⟩=false) ->
   Calls Tryz.prog 104 #[.func (.func 105) #[] #[.pointer (some ⟨w.heap.size,0,none⟩),.pointer (some ⟨w.heap.size+1,0,none⟩)]] (w2.alloc (Obj.cells #[Value.int .i64 a,Value.string ⟨b.toArray⟩,Value.string ⟨c.toArray⟩] 71)) fun e w'=>e= .returned (.tuple #[.string ra,.int .i64 re])/\Below w.heap.size w w':=by
   intro w2 hIb hz ht hs;have hb1:=hIb.2.alloc (by omega) (Obj.cells #[Value.int .i64 a,Value.string ⟨b.toArray⟩,Value.string ⟨c.toArray⟩] 71);have hb3:=(Below.refl w2.heap.size w2).alloc (DV _) (Obj.cells #[Value.int .i64 a,Value.string ⟨b.toArray⟩,Value.string ⟨c.toArray⟩] 71);refine(As2 N (hI.below hb1) hra hre (g1:=w.heap.size) (g2:=w.heap.size+1) (by omega) (hI.off (by omega)) (hI.off (by omega)) (by simp;omega) (by simp;omega) ((hb3.cell (p:=⟨w.heap.size,0,none⟩) (by show w.heap.size<_;omega)).trans ht.1) ((hb3.frozen (p:=⟨w.heap.size,0,none⟩) (by show w.heap.size<_;omega)).trans ht.2) ((hb3.cell (p:=⟨w.heap.size+1,0,none⟩) (by show w.heap.size+1<_;omega)).trans hs.1) ((hb3.frozen (p:=⟨w.heap.size+1,0,none⟩) (by show w.heap.size+1<_;omega)).trans hs.2) h3).mono ?_;rintro e w4 ⟨rfl,hk⟩;exact⟨rfl,hb1.trans (hk.below' (by simp;omega) (by simp))⟩
  clear hra hre h3
  go_enter Tryz.func50,Tryz.ntmps50
  go_wp2_with (first | (go_at_call 75;refine hO.mono ?_;rintro e w2 ⟨rfl,⟨hI2,hb⟩,hz,⟨t1,t2⟩,⟨t3,t4⟩⟩) | (go_at_call 104;refine((hwr w2 ⟨hI2,hb⟩ hz ⟨t1,t2⟩ ⟨t3,t4⟩)).mono ?_;rintro e w4 ⟨rfl,hb4⟩))
  go_ret2
  exact⟨rfl,hb4⟩
 .rw[Dk hd]at hra hre;subst hra;subst hre;clear h2
  go_enter Tryz.func50,Tryz.ntmps50
  go_wp2_with (go_at_call 75;refine hO.mono ?_;rintro e w2 ⟨rfl,⟨hI2,hb⟩,hz,⟨t1,t2⟩,⟨t3,t4⟩⟩)
  go_ret2
  exact⟨rfl,hb.alloc (by omega) _⟩
def Amw {α β :Type} [Inhabited α] {x:Option α} {f: α ->Option β} {o: β} (h:Jr x f=some o): ∃ r,x=some r/\f r=some o:=by
 cases x with
 | none=>cases h
 | some r=>exact⟨r,rfl,h⟩
def Ay3 (N:Nat) (b:Bool):(NL N b)=some (b,b):=by kernel_rfl
def A0a (N:Nat) {O:Own} {w:World} (hI:Inv O w) {tbs sig R:Bs} {E:Int} (hg:gG N tbs sig=some (R,E)) :
 Calls Tryz.prog 50 #[.string ⟨tbs.toArray⟩,.string ⟨sig.toArray⟩] w fun e w'=>e= .returned (.tuple #[.string ⟨R.toArray⟩,.int .i64 E])/\Below w.heap.size w w':=by
 unfold gG at hg;obtain⟨⟨⟨a,b,c⟩,d⟩,h1,hg⟩:=Amw hg;by_cases hd:d=0
 .subst hd;have hg:(Jr (OJ N false tbs sig) fun x=>Jr (NL N x.2.1) fun y=>bif y.1 then some (([]:Bs),(2:Int))else some (x.1,0))=some (R,E):=hg;obtain⟨⟨s,bad,t',u'⟩,h2,hg⟩:=Amw hg;rw[Ay3]at hg;have hg:(bif bad then some (([]:Bs),(2:Int))else some (s,0))=some (R,E):=hg;refine AmS N hI h1 (fun _=>h2) ?_ ?_
  .rw[Dn rfl];cases bad<;>(injection hg with hg;injection hg with q1 q2;subst q1;rfl)
  .rw[Dn rfl];cases bad<;>(injection hg with hg;injection hg with q1 q2;subst q2;rfl)
 .have hb:(d != (0:Int))=true:=FK.2 hd;have hg:(bif (d != (0:Int))then some (([]:Bs),d)else _)=some (R,E):=hg;rw[hb]at hg;injection hg with hg;injection hg with q1 q2;subst q1;subst q2;exact AmS N (s:=[]) (bad:=false) (t':=[]) (u':=[]) hI h1 (fun h=>absurd h hd) (by rw[Dk hd]) (by rw[Dk hd])
noncomputable def Agt (N:Nat):Sig:=.of [.cell false .str,.cell false .str] [.cell false .str,.cell false (.int .i64)] (fun a=>gG N a.1 a.2)
def Ak9 (N:Nat):Spec Tryz.prog 50 (Agt N):=by refine VJ (by rfl) (by rfl) (enters (fn:=Tryz.f50) (by kernel_rfl) (by kernel_rfl) (by decide)) ?_;intro O w a o hI hg;exact A0a N hI (R:=o.1) (E:=o.2) hg
end Go.Proofs.YtmgpaalplkkpnaaGreatDoor.Vm
