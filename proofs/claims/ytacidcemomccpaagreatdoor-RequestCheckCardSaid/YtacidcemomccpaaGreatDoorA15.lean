import Derived.Test.YtacidcemomccpaaGreatDoorA12
set_option linter.all false
namespace Go.Proofs.YtacidcemomccpaaGreatDoor.Vm
open Go.RowKit
def Anw: ∀(ks:List CK) (i j:Nat),j<ks.length->(Le (ks.map λk=>Sh.box [(false,k)]) i)[j]? =some (i+j):=by
 intro ks
 induction ks with
 | nil=>intro i j h;simp at h
 | cons k ks ih =>
  intro i j h;show(i::Le (ks.map λk=>Sh.box [(false,k)]) (i+1))[j]? =_;cases j with
  | zero=>rfl
  | succ j=>rw[List.getElem?_cons_succ,ih (i+1) j (by simpa using h)];congr 1;omega
def Aif {P:Program} {f:FuncId} {sg:Sig} (hsp:Spec P f sg) {ks:List CK} (hp:sg.Jt=ks.map λk=>.box [(false,k)]) (gs:List Nat) (xs:List A) (hl:gs.length=ks.length) (hlx:xs.length=ks.length) (h100:ks.length<=100) (hnd:gs.Nodup)
 {O0:Own} {w:World} (hI:Inv O0 w) (hIg: ∀ g∈gs,∀ j p,oU g j≠some p) (hc: ∀ i,i<gs.length->w.cell? (at' (gs.getD i 0) 0)=some (rvA (xs.getD i .undef))/\w.frozen? (at' (gs.getD i 0) 0)=false/\(xs.getD i .undef).flat=true)
 {rs:List A} (hF:sg.F (xs.map λx=>.box [x])=some rs) :
 Calls P f ((gs.map λg=>Value.pointer (some (at' g 0))).toArray) w λe w'=> ∃ v O',e= .returned v/\(∀ b,b<w.heap.size->b∉gs->w'.heap[b]? =w.heap[b]?)/\w.heap.size<=w'.heap.size/\w'.os=w.os/\w'.tape=w.tape/\w'.output=w.output /\
  (∃ us:Array Value,us.size=sg.J7.length/\v=(if h:us.size=1 then us[0]else .tuple us)/\ ∀ k,k<us.size->IR O' w' (Awr k) (us.getD k undef) (rs.getD k .undef)) /\
  ∀ i,i<gs.length-> ∀ x,Ach (rs.getD (sg.J7.length+i) .undef)= .box [x]->x.flat=true->w'.cell? (at' (gs.getD i 0) 0)=some (rvA x)/\w'.frozen? (at' (gs.getD i 0) 0)=false:=by
 let O:Own:=λb k=>if k=0/\b∈gs then some (256*gs.idxOf b)else none
 have hO: ∀ i,i<gs.length->O (gs.getD i 0) 0=some (256*i):=by
  intro i hi;have e:gs.getD i 0=gs[i]:=by simp [Dn,hi]
  show(if 0=0/\gs.getD i 0∈gs then _ else _)=_;rw[e,Du ⟨rfl,Ej hi⟩,List.Nodup.idxOf_getElem hnd]
 refine(hsp.2 O w _ (xs.map λx=>.box [x]) rs ⟨λg j p ht=>⟨?_,(hI.1 g j p ht).2⟩,hI.2⟩ (by simp [hl,hlx]) (by rw[D5,hlx,hp,D5]) (by rw[D5,hlx];exact h100) (λj hj=> ?_) hF).mono ?_
 .show(if j=0/\g∈gs then _ else _)=_;exact Dt λh=>hIg g h.2 j p ht
 .rw[D5]at hj;have hj':j<gs.length:=by omega
  obtain⟨h1,h2,h3⟩:=hc j hj';have e1:((gs.map λg=>Value.pointer (some (at' g 0))).toArray).getD j undef= .pointer (some (at' (gs.getD j 0) 0)):=by simp [Dv,Dn,hj']
  have e2:(xs.map λx=>A.box [x]).getD j .undef= .box [xs.getD j .undef]:=by simp [Dn,hj]
  rw[e1,e2];refine⟨_,_,rfl,λk hk=> ?_⟩;have:k=0:=by simpa using hk
  subst this;refine⟨hO j hj',h2,_,h1,?_⟩;show IC O w _ (rvA (xs.getD j .undef)) (xs.getD j .undef);generalize xs.getD j .undef=x at h3;cases x with
  | bool b=>exact J5.bool b
  | int k n=>exact J5.int k n
  | str s=>exact J5.str (O:=O) (w:=w) ⟨s.toArray⟩
  | _=>cases h3
 .rintro e w' ⟨v,O',rfl,hcame⟩;have hM:=hcame.moves;refine⟨v,O',rfl,λb hb hn=> ?_,hM.size,hM.os,hM.tape,hM.output,hcame.res,λi hi x hx hf=> ?_⟩
  .have no: ∀ k o,O b k≠some o:=λk o h=>by
    have h:(if k=0/\b∈gs then some (256*gs.idxOf b)else none)=some o:=h;rw[Dt λh=>hn h.2]at h;cases h
   rcases hM.blk b hb with h | ⟨_,_,_,_,_,_,_,_,k,o,_,h,_⟩ | ⟨_,_,_,_,o,_,_,h,_⟩
   .exact h
   .exact absurd h (no k o)
   .exact absurd h (no 0 o)
  .have hb:=hcame.boxes i i (by rw[hp];have:=Anw ks 0 i (by omega);rw[DV]at this;exact this);rw[hx]at hb;have e1:((gs.map λg=>Value.pointer (some (at' g 0))).toArray).getD i undef= .pointer (some (at' (gs.getD i 0) 0)):=by simp [Dv,Dn,hi]
   have e2:sg.Jt.getD i (.agg [])= .box [(false,ks.getD i .oth)]:=by rw[hp];simp [Dn,show i<ks.length by omega]
   rw[e1,e2]at hb;obtain⟨b,base,h1,h2⟩:=hb;have h1:Value.pointer (some (at' (gs.getD i 0) 0))= .pointer (some (at' b base)):=h1;injection h1 with h1;injection h1 with h1;injection h1 with q1 q2;subst q1;subst q2;obtain⟨_,h3,u,h4,h5⟩:=h2 0 (by simp);refine⟨?_,h3⟩;refine(show w'.cell? (at' (gs.getD i 0) 0)=some u from h4).trans (congrArg some ?_);have h5:IC O' w' _ u x:=h5;cases x with
   | bool b=>have h':J5 O' w' u (.bool b):=h5;cases h';rfl
   | int k n=>have h':J5 O' w' u (.int k n):=h5;cases h';rfl
   | str s=>exact SV (show J5 O' w' u (.str s)from h5)
   | _=>cases hf
structure MS (gs:List Nat) (w w':World):Prop where
 blk: ∀ b,b<w.heap.size->b∉gs->w'.heap[b]? =w.heap[b]?
 size:w.heap.size<=w'.heap.size
 os:w'.os=w.os
 tape:w'.tape=w.tape
 output:w'.output=w.output
def MS.cell {gs:List Nat} {w w':World} (h:MS gs w w') {b k:Nat} (hb:b<w.heap.size) (hn:b∉gs):w'.cell? ⟨b,k,none⟩=w.cell? ⟨b,k,none⟩:=by simp [World.cell?,h.blk b hb hn]
def MS.frozen {gs:List Nat} {w w':World} (h:MS gs w w') {b k:Nat} (hb:b<w.heap.size) (hn:b∉gs):w'.frozen? ⟨b,k,none⟩=w.frozen? ⟨b,k,none⟩:=by simp [World.frozen?,h.blk b hb hn]
def ArZ (N:Nat) {O0:Own} {w:World} (hI:Inv O0 w) {g:Nat} {b:Bool} (hg: ∀ j p,oU g j≠some p) (hc:w.cell? ⟨g,0,none⟩=some (.bool b)) (hf:w.frozen? ⟨g,0,none⟩=false) :
 Calls Tryz.prog 31 #[.pointer (some ⟨g,0,none⟩)] w λe w'=>e= .returned (.bool b)/\MS [g] w w':=by
 refine(Aif (Ry N) (ks:=[.bool]) rfl [g] [.bool b] rfl rfl (by decide) (by simp) hI (λg' h j p=>by rw[Ec.1 h];exact hg j p) (λi hi=> ?_) (rs:=[.bool b,.agg [.bool b]]) (by kernel_rfl)).mono ?_
 .have:i=0:=by simpa using hi
  subst this;exact⟨hc,hf,rfl⟩
 .rintro e w' ⟨v,O',rfl,h1,h2,h3,h4,h5,⟨us,h6,h7,h8⟩,_⟩;have h6:us.size=1:=h6;refine⟨?_,h1,h2,h3,h4,h5⟩;have h9:J5 O' w' (us.getD 0 undef) (.bool b):=h8 0 (by omega);rw[h7,IG h6];have e:us[0]=us.getD 0 undef:=by simp [Dv,h6]
  rw[e];generalize us.getD 0 undef=u at h9;cases h9;rfl
def Aoq (N:Nat) {O0:Own} {w:World} (hI:Inv O0 w) {g g1 g2:Nat} {tbs sig s t' u':Bs} {bad:Bool} (hn: [g,g1,g2].Nodup) (hg: ∀ x∈ [g,g1,g2],∀ j p,oU x j≠some p) (hc:w.cell? ⟨g,0,none⟩=some (.bool false)) (hf:w.frozen? ⟨g,0,none⟩=false)
 (hc1:w.cell? ⟨g1,0,none⟩=some (.string ⟨tbs.toArray⟩)) (hf1:w.frozen? ⟨g1,0,none⟩=false) (hc2:w.cell? ⟨g2,0,none⟩=some (.string ⟨sig.toArray⟩)) (hf2:w.frozen? ⟨g2,0,none⟩=false) (hs:QL N false tbs sig=some (s,bad,t',u')) :
 Calls Tryz.prog 215 #[.pointer (some ⟨g,0,none⟩),.pointer (some ⟨g1,0,none⟩),.pointer (some ⟨g2,0,none⟩)] w λe w'=>e= .returned (.string ⟨s.toArray⟩)/\MS [g,g1,g2] w w'/\w'.cell? ⟨g,0,none⟩=some (.bool bad)/\w'.frozen? ⟨g,0,none⟩=false:=by
 have hF:(Qx N).F [.box [.bool false],.box [.str tbs],.box [.str sig]]=some [.str s,.agg [.bool bad],.agg [.str t'],.agg [.str u']]:=by
  have h1:(Qx N).F [.box [.bool false],.box [.str tbs],.box [.str sig]]=(bif (QL N false tbs sig).isSome then some (encs (KY (Qx N).Jt (Qx N).J7) ((show Option (ShT (KY (Qx N).Jt (Qx N).J7))from QL N false tbs sig).getD (zeroS _)))else none):=by kernel_rfl
  rw[h1,hs];rfl
 refine(Aif (Adz N) (ks:=[.bool,.str,.str]) rfl [g,g1,g2] [.bool false,.str tbs,.str sig] rfl rfl (by decide) hn hI hg (λi hi=> ?_) hF).mono ?_
 .have:i=0\/i=1\/i=2:=by simp at hi;omega
  rcases this with rfl | rfl | rfl
  .exact⟨hc,hf,rfl⟩
  .exact⟨hc1,hf1,rfl⟩
  .exact⟨hc2,hf2,rfl⟩
 .rintro e w' ⟨v,O',rfl,h1,h2,h3,h4,h5,⟨us,h6,h7,h8⟩,hb⟩;have h6:us.size=1:=h6;refine⟨?_,⟨h1,h2,h3,h4,h5⟩,hb 0 (by simp) (.bool bad) rfl rfl⟩;have h9:J5 O' w' (us.getD 0 undef) (.str s):=h8 0 (by omega);rw[h7,IG h6];have e:us[0]=us.getD 0 undef:=by simp [Dv,h6]
  rw[e,SV h9]
def MS.refl (gs:List Nat) (w:World):MS gs w w:=⟨λ_ _ _=>rfl,DD _,rfl,rfl,rfl⟩
def MS.mono {gs gs':List Nat} {w w':World} (h:MS gs w w') (hs: ∀ g∈gs,g∈gs'):MS gs' w w':=⟨λb hb hn=>h.blk b hb λhm=>hn (hs b hm),h.size,h.os,h.tape,h.output⟩
def MS.set {gs:List Nat} {w w':World} (h:MS gs w w') {p:Addr} (hp:p.block∈gs) (v:Value):MS gs w (w'.setCell p v) :=
 ⟨λb hb hn=>(Below.heap_setCell w' p v b λe=>hn (by rw[e];exact hp)).trans (h.blk b hb hn),by simpa using h.size,h.os,h.tape,h.output⟩
def Inv.below {O0:Own} {w W:World} (hI:Inv O0 w) (hb:Below w.heap.size w W):Inv (λ_ _=>none) W:=by
 refine⟨λg j p h=> ?_,λg n h=> ?_⟩
 .obtain⟨_,v,h2,h3⟩:=hI.1 g j p h;exact⟨rfl,v,(hb.cell (p:=at' g j) (cell_lt h2)).trans h2,h3⟩
 .obtain⟨c,e,fr,h1,h2⟩:=hI.2 g n h;exact⟨c,e,fr,(hb.block g (DX.1 h1).1).trans h1,h2⟩
def Inv.new {O0:Own} {w:World} (hI:Inv O0 w) {g:Nat} (hg:w.heap.size<=g): ∀ j p,oU g j≠some p:=by intro j p h;obtain⟨_,v,h2,_⟩:=hI.1 g j p h;have:g<w.heap.size:=cell_lt h2;omega
set_option maxHeartbeats 1000000 in
set_option maxRecDepth 100000 in
def Ank (N:Nat) {O0:Own} {w:World} (hI:Inv O0 w) {g pw ps pe:Nat} {b:Bool} {s:ByteArray} {x:Int} (u:FrameMode) (hg: ∀ j p,oU g j≠some p) (h1:ps≠g) (h2:pe≠g) (h3:ps≠pe) (l1:ps<w.heap.size) (l2:pe<w.heap.size)
 (hc:w.cell? ⟨pw,0,none⟩=some (.pointer (some ⟨g,0,none⟩))) (hb:w.cell? ⟨g,0,none⟩=some (.bool b)) (hbf:w.frozen? ⟨g,0,none⟩=false) (hs:w.cell? ⟨ps,0,none⟩=some (.string s)) (hsf:w.frozen? ⟨ps,0,none⟩=false)
 (he:w.cell? ⟨pe,0,none⟩=some (.int .i64 x)) (hef:w.frozen? ⟨pe,0,none⟩=false) :
 CallsD Tryz.prog 287 #[.pointer (some ⟨pw,0,none⟩),.pointer (some ⟨ps,0,none⟩),.pointer (some ⟨pe,0,none⟩)] u w λe u' w'=>u'=u/\e= .returned (.tuple #[])/\MS [g,ps,pe] w w' /\
  w'.cell? ⟨ps,0,none⟩=some (.string (if b then⟨#[]⟩else s))/\w'.cell? ⟨pe,0,none⟩=some (.int .i64 (if b then 2 else x)):=by
 have hB:=ArZ N hI hg hb hbf;clear hI hg hb hbf;cases b with
 | false =>
  go_enter_d Tryz.func287,Tryz.ntmps287
  go_wp2_with (go_at_call 31;refine hB.mono ?_;rintro e w2 ⟨rfl,hk⟩)
  go_end0
  exact⟨rfl,hk.mono (by simp),(hk.cell l1 (by simpa using h1)).trans hs,(hk.cell l2 (by simpa using h2)).trans he⟩
 | true =>
  go_enter_d Tryz.func287,Tryz.ntmps287
  go_wp2_with (go_at_call 31;refine hB.mono ?_;rintro e w2 ⟨rfl,hk⟩;have k1:=(hk.cell (k:=0) l1 (by simpa using h1)).trans hs;have k2:=(hk.cell (k:=0) l2 (by simpa using h2)).trans he;have k3:=(hk.frozen (k:=0) l1 (by simpa using h1)).trans hsf;have k4:=(hk.frozen (k:=0) l2 (by simpa using h2)).trans hef)
  go_end0
  refine⟨rfl,((hk.mono (by simp)).set (by simp) _).set (by simp) _,?_,?_⟩
  .rw[Gp _ _ _ _ (by simp),Gq _ _ _ k1]
  .rw[Gq _ _ _ ((Gp _ _ _ _ (by simp)).trans k2)]
def Ann {w w':World} (h:Below w.heap.size w w'):MS [] w w':=⟨λb hb _=>h.block b hb,h.size,h.os,h.tape,h.output⟩
def MS.trans {gs gs':List Nat} {w w1 w2:World} (h:MS gs w w1) (k:MS gs' w1 w2) (hs: ∀ g∈gs',g∈gs\/w.heap.size<=g):MS gs w w2 :=
 ⟨λb hb hn=>(k.blk b (EX hb h.size) λhm=>(hs b hm).elim hn (by omega)).trans (h.blk b hb hn),GK h.size k.size,k.os.trans h.os,k.tape.trans h.tape,k.output.trans h.output⟩
def Off (g:Nat):Prop:=(∀ j p,oU g j≠some p)/\ ∀ n,AvI g≠some n
def Inv.off {O0:Own} {w:World} (hI:Inv O0 w) {g:Nat} (hg:w.heap.size<=g):Off g :=
 ⟨hI.new hg,λn h=>by obtain⟨c,e,fr,h1,_⟩:=hI.2 g n h;have:=(DX.1 h1).1;omega⟩
def Inv.keeps {O0:Own} {w W:World} {gs:List Nat} (hI:Inv O0 w) (hk:MS gs w W) (hg: ∀ g∈gs,Off g):Inv (λ_ _=>none) W:=by
 refine⟨λg j p h=> ?_,λg n h=> ?_⟩
 .obtain⟨_,v,h2,h3⟩:=hI.1 g j p h;exact⟨rfl,v,(hk.cell (cell_lt h2) λhm=>(hg g hm).1 j p h).trans h2,h3⟩
 .obtain⟨c,e,fr,h1,h2⟩:=hI.2 g n h;exact⟨c,e,fr,(hk.blk g (DX.1 h1).1 λhm=>(hg g hm).2 n h).trans h1,h2⟩
def wrW (w:World):World:=(((w.alloc (Obj.cells #[Value.string {data:= #[]}] 9)).alloc (Obj.cells #[Value.int IntKind.i64 0] 45)).alloc (Obj.cells #[Value.bool false] 66)).alloc (Obj.cells #[Value.pointer (some {block:=w.heap.size+1+1,off:=0})] 64)
def AtV (w:World):Below w.heap.size w (wrW w)/\(wrW w).heap.size=w.heap.size+4/\(wrW w).cell? ⟨w.heap.size+1+1,0,none⟩=some (.bool false)/\(wrW w).frozen? ⟨w.heap.size+1+1,0,none⟩=false :=
 ⟨((((Below.refl _ w).alloc (DD _) _).alloc (by simp) _).alloc (by simp;omega) _).alloc (by simp;omega) _,by simp [wrW],by simp [wrW,go_sem],by simp [wrW,go_sem]⟩
def WrS (w:World) (gs:List Nat) (bad:Bool) (w2:World):Prop:=Inv (λ_ _=>none) w2/\MS gs w w2/\w2.heap.size>=w.heap.size+4 /\
 (w2.cell? ⟨w.heap.size,0,none⟩=some (.string ⟨#[]⟩)/\w2.frozen? ⟨w.heap.size,0,none⟩=false)/\(w2.cell? ⟨w.heap.size+1,0,none⟩=some (.int .i64 0)/\w2.frozen? ⟨w.heap.size+1,0,none⟩=false) /\
 (w2.cell? ⟨w.heap.size+1+1,0,none⟩=some (.bool bad)/\w2.frozen? ⟨w.heap.size+1+1,0,none⟩=false)/\w2.cell? ⟨w.heap.size+1+1+1,0,none⟩=some (.pointer (some ⟨w.heap.size+1+1,0,none⟩))
def Azo {O0:Own} {w:World} (hI:Inv O0 w) {f:FuncId} {args:Array Value} {gs:List Nat} {bad:Bool} {s:ByteArray} (hg: ∀ g∈gs,Off g/\g<w.heap.size)
 (hS:Calls Tryz.prog f args (wrW w) λe w2=>e= .returned (.string s)/\MS ((w.heap.size+1+1)::gs) (wrW w) w2/\w2.cell? ⟨w.heap.size+1+1,0,none⟩=some (.bool bad)/\w2.frozen? ⟨w.heap.size+1+1,0,none⟩=false):Calls Tryz.prog f args (wrW w) λe w2=>e= .returned (.string s)/\WrS w gs bad w2:=by
 obtain⟨Hb,hsz,_⟩:=AtV w
 have no: ∀ j,w.heap.size<=j->j≠w.heap.size+1+1->j∉(w.heap.size+1+1)::gs:=λj h h' hm=>by
  rcases D7.1 hm with e | e
  .exact h' e
  .have:=(hg j e).2;omega
 refine hS.mono ?_;rintro e w2 ⟨rfl,hk,k1,k2⟩;have hz:=hk.size;refine⟨rfl,(hI.below Hb).keeps hk (λx hx=> ?_),((Ann Hb).mono (gs':=gs) (by simp)).trans hk (λg h=>(D7.1 h).elim (λe=>.inr (by omega)) .inl),by omega,⟨(hk.cell (by omega) (no _ (by omega) (by omega))).trans ?_,(hk.frozen (by omega) (no _ (by omega) (by omega))).trans ?_⟩,⟨(hk.cell (by omega) (no _ (by omega) (by omega))).trans ?_,(hk.frozen (by omega) (no _ (by omega) (by omega))).trans ?_⟩,⟨k1,k2⟩,(hk.cell (by omega) (no _ (by omega) (by omega))).trans ?_⟩
 .exact(D7.1 hx).elim (λe=>e▸hI.off (by omega)) λe=>(hg x e).1
 all_goals simp [wrW,go_sem]
def Azp (N:Nat) {O0:Own} {w:World} (hI:Inv O0 w) {gs:List Nat} {bad:Bool} {s:ByteArray} (hg: ∀ g∈gs,Off g/\g<w.heap.size) {w2:World} (h:WrS w gs bad w2) :
 CallsD Tryz.prog 287 #[.pointer (some ⟨w.heap.size+1+1+1,0,none⟩),.pointer (some ⟨w.heap.size,0,none⟩),.pointer (some ⟨w.heap.size+1,0,none⟩)] .returning ((w2.setCell ⟨w.heap.size,0,none⟩ (.string s)).setCell ⟨w.heap.size+1,0,none⟩ (.int .i64 0)) λe u' w'=>u'= .returning/\e= .returned (.tuple #[])/\MS gs w w' /\
  w'.cell? ⟨w.heap.size,0,none⟩=some (.string (if bad then⟨#[]⟩else s))/\w'.cell? ⟨w.heap.size+1,0,none⟩=some (.int .i64 (if bad then 2 else 0)):=by
 obtain⟨hI2,hk,hz,⟨n1,n2⟩,⟨e1,e2⟩,⟨b1,b2⟩,p1⟩:=h;have hk3:MS [w.heap.size,w.heap.size+1] w2 ((w2.setCell ⟨w.heap.size,0,none⟩ (.string s)).setCell ⟨w.heap.size+1,0,none⟩ (.int .i64 0)):=((MS.refl _ w2).set (by simp) _).set (by simp) _;have hz3:=hk3.size;have hI3:=hI2.keeps hk3 (λx hx=>by simp only[D7,Fe,GN]at hx;exact hI.off (by omega))
 refine(Ank N hI3 (g:=w.heap.size+1+1) (b:=bad) (s:=s) (x:=0) .returning (hI.off (by omega)).1 (by omega) (by omega) (by omega) (by omega) (by omega)
  ((hk3.cell (by omega) (by simp;omega)).trans p1) ((hk3.cell (by omega) (by simp;omega)).trans b1) ((hk3.frozen (by omega) (by simp;omega)).trans b2) ?_ (by simpa using n2) ?_ (by simpa using e2)).mono ?_
 .rw[Gp _ _ _ _ (by simp),Gq _ _ _ n1]
 .rw[Gq _ _ _ ((Gp _ _ _ _ (by simp)).trans e1)]
 .rintro e u' w4 ⟨rfl,rfl,hk4,r⟩;exact⟨rfl,rfl,(hk.trans hk3 (by simp)).trans hk4 (by simp;omega),r⟩
set_option maxHeartbeats 4000000 in
set_option maxRecDepth 100000 in
def Ao3 (N:Nat) {O0:Own} {w:World} (hI:Inv O0 w) {g1 g2:Nat} {tbs sig s t' u':Bs} {bad:Bool} {ra:ByteArray} {re:Int} (hra:ra=if bad then⟨#[]⟩else⟨s.toArray⟩) (hre:re=if bad then 2 else 0) (hn:g1≠g2) (hg1:Off g1) (hg2:Off g2) (l1:g1<w.heap.size) (l2:g2<w.heap.size)
 (hc1:w.cell? ⟨g1,0,none⟩=some (.string ⟨tbs.toArray⟩)) (hf1:w.frozen? ⟨g1,0,none⟩=false) (hc2:w.cell? ⟨g2,0,none⟩=some (.string ⟨sig.toArray⟩)) (hf2:w.frozen? ⟨g2,0,none⟩=false) (hs:QL N false tbs sig=some (s,bad,t',u')) :
 Calls Tryz.prog 214 #[.func (.func 215) #[] #[.pointer (some ⟨g1,0,none⟩),.pointer (some ⟨g2,0,none⟩)]] w λe w'=>e= .returned (.tuple #[.string ra,.int .i64 re])/\MS [g1,g2] w w':=by
 have hmf: ∀(fn:Fn) (first cap:Array Value) (w:World),(Instr.makeFunc fn first cap).run Tryz.prog w= .ok (.func fn first cap) w:=λ_ _ _ _=>rfl;obtain⟨Hb,hsz,Hx⟩:=AtV w;have hg: ∀ g∈ [g1,g2],Off g/\g<w.heap.size:=by simp [hg1,hg2,l1,l2]
 have hS:=Azo hI hg (Aoq N (hI.below Hb) (g:=w.heap.size+1+1) (g1:=g1) (g2:=g2) (by simp [hn];omega)
  (λx hx=>by
    simp only[D7,Fe,GN]at hx;rcases hx with rfl | rfl | rfl
    .exact(hI.off (by omega)).1
    .exact hg1.1
    .exact hg2.1) Hx.1 Hx.2 ((Hb.cell l1).trans hc1) ((Hb.frozen l1).trans hf1) ((Hb.cell l2).trans hc2) ((Hb.frozen l2).trans hf2) hs)
 have hT:=λw2 (h:WrS w [g1,g2] bad w2)=>Azp N hI (s:=⟨s.toArray⟩) hg h;clear Hb hsz Hx;dsimp only[wrW]at hS
 go_enter_defers Tryz.func214,Tryz.ntmps214
 go_wp2_with (go_at_call 215;refine hS.mono ?_;rintro e w2 ⟨rfl,h2⟩;have h3:=hT w2 h2;obtain⟨-,-,hz,⟨n1,n2⟩,⟨e1,e2⟩,-⟩:=h2)
 refine leaves_cons (f:=287) (args:= #[.pointer (some ⟨w.heap.size+1+1+1,0,none⟩),.pointer (some ⟨w.heap.size,0,none⟩),.pointer (some ⟨w.heap.size+1,0,none⟩)]) (by simp) (by simp [go_sem]) (h3.mono ?_);rintro e u' w4 ⟨rfl,rfl,hk5,r1,r2⟩;rw[<- hra]at r1;rw[<- hre]at r2;simp [Leaves,settle,results,Tryz.results214,go_sem,r1,r2,hk5]
def MS.below' {gs:List Nat} {n:Nat} {w w':World} (h:MS gs w w') (hn:n<=w.heap.size) (hg: ∀ g∈gs,n<=g):Below n w w':=⟨h.os,h.tape,h.output,h.size,λb hb=>h.blk b (EX hb hn) λhm=>by have:=hg b hm;omega⟩
def MS.below {w w':World} (h:MS [] w w'):Below w.heap.size w w':=⟨h.os,h.tape,h.output,h.size,λb hb=>h.blk b hb (by simp)⟩
def Atm (N:Nat) {O0:Own} {w:World} (hI:Inv O0 w) {tbs b c:Bs} {a d:Int} (h:Zu N tbs 48=some ((a,b,c),d)) :
 Calls Tryz.prog 126 #[.string ⟨tbs.toArray⟩,.int .i64 48] w λe w'=>e= .returned (.tuple #[.agg #[.int .i64 a,.string ⟨b.toArray⟩,.string ⟨c.toArray⟩],.int .i64 d])/\Below w.heap.size w w':=by
 have hF:(Ug N).F [.str tbs,.int .i64 48]=some [.agg [.int .i64 a,.str b,.str c],.int .i64 d]:=by
  have h1:(Ug N).F [.str tbs,.int .i64 48]=(bif (Zu N tbs 48).isSome then some (encs (KY (Ug N).Jt (Ug N).J7) ((show Option (ShT (KY (Ug N).Jt (Ug N).J7))from Zu N tbs 48).getD (zeroS _)))else none):=by kernel_rfl
  rw[h1,h];rfl
 refine((Aaj N).2 (λ_ _=>none) w _ [.str tbs,.int .i64 48] _ ⟨λg j p ht=>⟨rfl,(hI.1 g j p ht).2⟩,hI.2⟩ rfl rfl (by simp) (λj hj=> ?_) hF).mono ?_
 .have:j=0\/j=1:=by simp at hj;omega
  rcases this with rfl | rfl
  .exact J5.str (O:=λ_ _=>none) (w:=w) ⟨tbs.toArray⟩
  .exact J5.int .i64 48
 .rintro e w' ⟨v,O',rfl,hcame⟩;have hM:=hcame.moves;obtain⟨us,h6,h7,h8⟩:=hcame.res;have h6:us.size=2:=h6;refine⟨?_,⟨hM.os,hM.tape,hM.output,hM.size,λb hb=> ?_⟩⟩
  .obtain⟨vs,e1,e2,e3⟩:=h8 0 (by omega);have e2:vs.size=3:=e2;have k0:J5 O' w' (vs.getD 0 undef) (.int .i64 a):=e3 0 (by simp);have k1:J5 O' w' (vs.getD 1 undef) (.str b):=e3 1 (by simp);have k2:J5 O' w' (vs.getD 2 undef) (.str c):=e3 2 (by simp);have k3:J5 O' w' (us.getD 1 undef) (.int .i64 d):=h8 1 (by omega);have i1: ∀ {v:Value} {k:IntKind} {n:Int},J5 O' w' v (.int k n)->v= .int k n:=λh=>by cases h;rfl
   rw[h7,dif_neg (by omega)]
   have a1:us= #[us.getD 0 undef,us.getD 1 undef]:=by
    apply FC
    .simp [h6]
    .intro i p q;have:i=0\/i=1:=by omega
     rcases this with rfl | rfl<;>simp [Dv,h6]
   have a2:vs= #[vs.getD 0 undef,vs.getD 1 undef,vs.getD 2 undef]:=by
    apply FC
    .simp [e2]
    .intro i p q;have:i=0\/i=1\/i=2:=by omega
     rcases this with rfl | rfl | rfl<;>simp [Dv,e2]
   rw[a1,e1,a2,i1 k0,SV k1,SV k2,i1 k3]
  .rcases hM.blk b hb with h | ⟨_,_,_,_,_,_,_,_,k,o,_,h,_⟩ | ⟨_,_,_,_,o,_,_,h,_⟩
   .exact h
   .cases h
   .cases h
set_option maxHeartbeats 4000000 in
set_option maxRecDepth 100000 in
def AiO (N:Nat) {O0:Own} {w:World} (hI:Inv O0 w) {tbs sig b c s t' u':Bs} {a d:Int} {bad:Bool} {ra:ByteArray} {re:Int} (h1:Zu N tbs 48=some ((a,b,c),d)) (h2:d=0->QL N false tbs sig=some (s,bad,t',u'))
 (hra:ra=if d=0 then if bad then⟨#[]⟩else⟨s.toArray⟩else⟨#[]⟩) (hre:re=if d=0 then if bad then 2 else 0 else d) :
 Calls Tryz.prog 118 #[.string ⟨tbs.toArray⟩,.string ⟨sig.toArray⟩] w λe w'=>e= .returned (.tuple #[.string ra,.int .i64 re])/\Below w.heap.size w w':=by
 have hmf: ∀(fn:Fn) (first cap:Array Value) (w:World),(Instr.makeFunc fn first cap).run Tryz.prog w= .ok (.func fn first cap) w:=λ_ _ _ _=>rfl
 have hO:Calls Tryz.prog 126 #[.string ⟨tbs.toArray⟩,.int .i64 48] ((w.alloc (Obj.cells #[Value.string ⟨tbs.toArray⟩] 9)).alloc (Obj.cells #[Value.string ⟨sig.toArray⟩] 9)) λe w2=>e= .returned (.tuple #[.agg #[.int .i64 a,.string ⟨b.toArray⟩,.string ⟨c.toArray⟩],.int .i64 d])/\(Inv (λ_ _=>none) w2/\Below w.heap.size w w2) /\
  w2.heap.size>=w.heap.size+2/\(w2.cell? ⟨w.heap.size,0,none⟩=some (.string ⟨tbs.toArray⟩)/\w2.frozen? ⟨w.heap.size,0,none⟩=false)/\(w2.cell? ⟨w.heap.size+1,0,none⟩=some (.string ⟨sig.toArray⟩)/\w2.frozen? ⟨w.heap.size+1,0,none⟩=false):=by
  have hb0:=((Below.refl w.heap.size w).alloc (DD _) (Obj.cells #[Value.string ⟨tbs.toArray⟩] 9)).alloc (by simp) (Obj.cells #[Value.string ⟨sig.toArray⟩] 9);refine(Atm N (hI.below hb0) h1).mono ?_;rintro e w2 ⟨rfl,hb⟩;have hz:=hb.size;have hz':w2.heap.size>=w.heap.size+2:=by simpa using hz
  have hb2:=hb0.trans (hb.mono hb0.size);refine⟨rfl,⟨hI.below hb2,hb2⟩,hz',⟨(hb.cell (p:=⟨w.heap.size,0,none⟩) (by simp;omega)).trans (by simp [go_sem]),(hb.frozen (p:=⟨w.heap.size,0,none⟩) (by simp;omega)).trans (by simp [go_sem])⟩,⟨(hb.cell (p:=⟨w.heap.size+1,0,none⟩) (by simp)).trans (by simp [go_sem]),(hb.frozen (p:=⟨w.heap.size+1,0,none⟩) (by simp)).trans (by simp [go_sem])⟩⟩
 clear h1;by_cases hd:d=0
 .subst hd;have h3:=h2 rfl;rw[Du rfl]at hra hre;clear h2
  have hwr: ∀ w2,Inv (λ_ _=>none) w2/\Below w.heap.size w w2->w2.heap.size>=w.heap.size+2->(w2.cell? ⟨w.heap.size,0,none⟩=some (.string ⟨tbs.toArray⟩)/\w2.frozen? ⟨w.heap.size,0,none⟩=false)->(w2.cell? ⟨w.heap.size+1,0,none⟩=some (.string ⟨sig.toArray⟩)/\w2.frozen? ⟨w.heap.size+1,0,none⟩=false) ->
   Calls Tryz.prog 214 #[.func (.func 215) #[] #[.pointer (some ⟨w.heap.size,0,none⟩),.pointer (some ⟨w.heap.size+1,0,none⟩)]] (w2.alloc (Obj.cells #[Value.int .i64 a,Value.string ⟨b.toArray⟩,Value.string ⟨c.toArray⟩] 164)) λe w'=>e= .returned (.tuple #[.string ra,.int .i64 re])/\Below w.heap.size w w':=by
   intro w2 hIb hz ht hs;have hb1:=hIb.2.alloc (by omega) (Obj.cells #[Value.int .i64 a,Value.string ⟨b.toArray⟩,Value.string ⟨c.toArray⟩] 164);have hb3:=(Below.refl w2.heap.size w2).alloc (DD _) (Obj.cells #[Value.int .i64 a,Value.string ⟨b.toArray⟩,Value.string ⟨c.toArray⟩] 164);refine(Ao3 N (hI.below hb1) hra hre (g1:=w.heap.size) (g2:=w.heap.size+1) (by omega) (hI.off (by omega)) (hI.off (by omega)) (by simp;omega) (by simp;omega) ((hb3.cell (p:=⟨w.heap.size,0,none⟩) (by show w.heap.size<_;omega)).trans ht.1) ((hb3.frozen (p:=⟨w.heap.size,0,none⟩) (by show w.heap.size<_;omega)).trans ht.2) ((hb3.cell (p:=⟨w.heap.size+1,0,none⟩) (by show w.heap.size+1<_;omega)).trans hs.1) ((hb3.frozen (p:=⟨w.heap.size+1,0,none⟩) (by show w.heap.size+1<_;omega)).trans hs.2) h3).mono ?_;rintro e w4 ⟨rfl,hk⟩;exact⟨rfl,hb1.trans (hk.below' (by simp;omega) (by simp))⟩
  clear hra hre h3
  go_enter Tryz.func118,Tryz.ntmps118
  go_wp2_with (first | (go_at_call 126;refine hO.mono ?_;rintro e w2 ⟨rfl,⟨hI2,hb⟩,hz,⟨t1,t2⟩,⟨t3,t4⟩⟩) | (go_at_call 214;refine((hwr w2 ⟨hI2,hb⟩ hz ⟨t1,t2⟩ ⟨t3,t4⟩)).mono ?_;rintro e w4 ⟨rfl,hb4⟩))
  go_ret2
  exact⟨rfl,hb4⟩
 .rw[Dt hd]at hra hre;subst hra;subst hre;clear h2
  go_enter Tryz.func118,Tryz.ntmps118
  go_wp2_with (go_at_call 126;refine hO.mono ?_;rintro e w2 ⟨rfl,⟨hI2,hb⟩,hz,⟨t1,t2⟩,⟨t3,t4⟩⟩)
  go_ret2
  exact⟨rfl,hb.alloc (by omega) _⟩
def Aij {α β :Type} [Inhabited α] {x:Option α} {f: α ->Option β} {o: β} (h:Jq x f=some o): ∃ r,x=some r/\f r=some o:=by
 cases x with
 | none=>cases h
 | some r=>exact⟨r,rfl,h⟩
def Aus (N:Nat) (b:Bool):(MC N b)=some (b,b):=by kernel_rfl
def Av1 (N:Nat) {O:Own} {w:World} (hI:Inv O w) {tbs sig R:Bs} {E:Int} (hg:lL N tbs sig=some (R,E)) :
 Calls Tryz.prog 118 #[.string ⟨tbs.toArray⟩,.string ⟨sig.toArray⟩] w λe w'=>e= .returned (.tuple #[.string ⟨R.toArray⟩,.int .i64 E])/\Below w.heap.size w w':=by
 unfold lL at hg;obtain⟨⟨⟨a,b,c⟩,d⟩,h1,hg⟩:=Aij hg;by_cases hd:d=0
 .subst hd;have hg:(Jq (QL N false tbs sig) λx=>Jq (MC N x.2.1) λy=>bif y.1 then some (([]:Bs),(2:Int))else some (x.1,0))=some (R,E):=hg;obtain⟨⟨s,bad,t',u'⟩,h2,hg⟩:=Aij hg;rw[Aus]at hg;have hg:(bif bad then some (([]:Bs),(2:Int))else some (s,0))=some (R,E):=hg;refine AiO N hI h1 (λ_=>h2) ?_ ?_
  .rw[Du rfl];cases bad<;>(injection hg with hg;injection hg with q1 q2;subst q1;rfl)
  .rw[Du rfl];cases bad<;>(injection hg with hg;injection hg with q1 q2;subst q2;rfl)
 .have hb:(d != (0:Int))=true:=EM.2 hd;have hg:(bif (d != (0:Int))then some (([]:Bs),d)else _)=some (R,E):=hg;rw[hb]at hg;injection hg with hg;injection hg with q1 q2;subst q1;subst q2;exact AiO N (s:=[]) (bad:=false) (t':=[]) (u':=[]) hI h1 (λh=>absurd h hd) (by rw[Dt hd]) (by rw[Dt hd])
noncomputable def AcX (N:Nat):Sig:=.of [.cell false .str,.cell false .str] [.cell false .str,.cell false (.int .i64)] (λa=>lL N a.1 a.2)
def AgF (N:Nat):Spec Tryz.prog 118 (AcX N):=by refine VG (by rfl) (by rfl) (enters (fn:=Tryz.f118) (by kernel_rfl) (by kernel_rfl) (by decide)) ?_;intro O w a o hI hg;exact Av1 N hI (R:=o.1) (E:=o.2) hg
end Go.Proofs.YtacidcemomccpaaGreatDoor.Vm
