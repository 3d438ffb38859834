import Derived.Test.YtfgdgdnlglejbaaGreatDoorA14
set_option linter.all false
namespace Go.Proofs.YtfgdgdnlglejbaaGreatDoor.Vm
open Go.RowKit
def Moves.below {T:Nat->Prop} {w w':World} (h:Moves (fun _ _=>none) T w w'):Below w.heap.size w w' :=
 ⟨h.os,h.tape,h.output,h.size,fun b hb=>by
   rcases h.blk b hb with e | ⟨c,c',e,fr,_,_,_,_,k,o,_,ho,_⟩ | ⟨_,_,_,_,o,_,_,ho,_⟩
   .exact e
   .cases ho
   .cases ho⟩
def Sig.AyD {J6 JJ:List Sh} {f:ShT J6->Option (ShT (MV J6 JJ))} {xs:List A} {a:ShT J6} {o:ShT (MV J6 JJ)} (hd:Uf J6 xs=some a) (hf:f a=some o):(Sig.of J6 JJ f).F xs=some (encs (MV J6 JJ) o):=by unfold Sig.F Sig.of;dsimp only;rw[hd];dsimp only;rw[hf];rfl
def AwE {P:Program} {f:FuncId} {sg:Sig} (h:Spec P f sg) {xs:List A} {vs:Array Value} {W:World} (hF:sg.F xs=some [.bool true]) (hress:sg.JJ=[.cell false .bool]) (hv:vs.size=xs.length) (hl:xs.length=sg.J6.length) (h100:xs.length<=100)
 (hx: ∀ j,j<xs.length->IR (fun _ _=>none) W (256*j) (vs.getD j undef) (xs.getD j .undef)) (hI:Inv (fun _ _=>none) W):Calls P f vs W fun e w'=>e= .returned (.bool true)/\Below W.heap.size W w':=by
 refine(h.2 (fun _ _=>none) W vs xs _ hI hv hl h100 hx hF).mono fun e w' hq=> ?_;obtain⟨v,O',he,hc⟩:=hq;obtain⟨us,h1,h2,h3⟩:=hc.res;rw[hress]at h1;have h1':us.size=1:=h1;have h4:JA O' w' (us.getD 0 undef) (.bool true):=h3 0 (by omega);have h5:us.getD 0 undef= .bool true:=by generalize us.getD 0 undef=z at h4;cases h4;rfl
 have h6:v= .bool true:=by rw[h2,GM h1',<- h5];simp [Dq,h1']
 exact⟨by rw[he,h6],hc.moves.below⟩
def Sig.A1N {J6 JJ:List Sh} {f:ShT J6->Option (ShT (MV J6 JJ))} {xs rs:List A} (h:(Sig.of J6 JJ f).F xs=some rs): ∃ a o,Uf J6 xs=some a/\f a=some o/\rs=encs _ o:=by
 unfold Sig.F Sig.of at h;dsimp only at h;cases hd:Uf J6 xs with
 | none=>rw[hd]at h;cases h
 | some a =>
  rw[hd]at h;dsimp only at h;cases hf:f a with
  | none=>rw[hf]at h;cases h
  | some o =>rw[hf]at h;injection h with h;exact⟨a,o,rfl,hf,h.symm⟩
def IC.val {O:Own} {w:World} {id:Nat} {v:Value} {x:A} (hx:x.isVal=true) (h:IC O w id v x):JA O w v x:=by cases x<;>first | (cases hx;done) | exact h
def ow1 (g:Nat):Own:=fun b _=>if b=g then some 0 else none
def ow2 (g g1:Nat):Own:=fun b k=>if b=g/\k=0 then some 0 else if b=g1/\k<30 then some 256 else none
def Avz (N:Nat) {O0:Own} {W:World} (hI:Inv O0 W) {g g1:Nat} {ws:Array Value} {cs:List A} {a:ShT (MZ N).J6} {s:Bs} {bad:Bool} {c':ShT (MZ N).J6} (hn:g≠g1) (hg: ∀ j p,lM g j≠some p) (hg1: ∀ j p,lM g1 j≠some p)
 (hc:W.cell? ⟨g,0,none⟩=some (.bool false)) (hf:W.frozen? ⟨g,0,none⟩=false) (hd:Uf (MZ N).J6 [.agg cs]=some a) (hl:cs.length=30)
 (hv: ∀ j,j<30->W.frozen? ⟨g1,j,none⟩=false/\W.cell? ⟨g1,j,none⟩=some (ws.getD j undef)) (hx: ∀ j,j<30->JA (ow2 g g1) W (ws.getD j undef) (cs.getD j .undef)) (hs:Xn N false a=some (s,bad,c')) :
 Calls Tryz.prog 86 #[.pointer (some ⟨g,0,none⟩),.pointer (some ⟨g1,0,none⟩)] W fun e w'=>e= .returned (.string ⟨s.toArray⟩)/\LZ [g,g1] W w'/\w'.cell? ⟨g,0,none⟩=some (.bool bad)/\w'.frozen? ⟨g,0,none⟩=false:=by
 have hd':Uf (OZ N).J6 [.box [.bool false],.box cs]=some (false,a):=by
  obtain⟨a',b',h1,_,h3⟩:=AbD (show vW _ [] (Sh.dec _ (.agg cs)) _=some a from hd);have h3:a=a':=h3;subst h3;have h1':Sh.dec ((OZ N).J6.getD 1 (.agg [])) (.box cs)=some a:=h1;have key: ∀ x:Option (Sh.T ((OZ N).J6.getD 1 (.agg []))),x=some a->vW (.box [(false,.bool)]) [(OZ N).J6.getD 1 (.agg [])] (some (show Sh.T (.box [(false,.bool)])from false)) (vW ((OZ N).J6.getD 1 (.agg [])) [] x (some ()))=some (false,a):=by rintro _ rfl;rfl
  exact key _ h1'
 have hF:(OZ N).F [.box [.bool false],.box cs]=some (encs (MV (OZ N).J6 (OZ N).JJ) (s,bad,c')):=Sig.AyD hd' hs;have o1:ow2 g g1 g 0=some 0:=Dt ⟨rfl,rfl⟩;have o2: ∀ k,k<30->ow2 g g1 g1 k=some 256:=fun k hk=>(Du fun h=>hn h.1.symm).trans (Dt ⟨rfl,hk⟩);have o3: ∀ b k,b≠g->b≠g1->ow2 g g1 b k=none:=fun b k h h'=>(Du fun e=>h e.1).trans (Du fun e=>h' e.1);refine((Akg N).2 (ow2 g g1) W _ [.box [.bool false],.box cs] _ ⟨fun b j p ht=>⟨o3 b j (fun e=>hg j p (by rw[<- e];exact ht)) (fun e=>hg1 j p (by rw[<- e];exact ht)),(hI.1 b j p ht).2⟩,hI.2⟩ rfl rfl (by simp) (fun j hj=> ?_) hF).mono ?_
 .have:j=0\/j=1:=by simp at hj;omega
  rcases this with rfl | rfl
  .refine⟨g,0,rfl,fun k hk=> ?_⟩;have:k=0:=by simpa using hk
   subst this;exact⟨o1,hf,_,hc,JA.bool false⟩
  .refine⟨g1,0,rfl,fun k hk=> ?_⟩;have hk:k<30:=by rw[<- hl];exact hk
   rw[DT];exact⟨o2 k hk,(hv k hk).1,_,(hv k hk).2,(hx k hk).ic⟩
 .rintro e w' ⟨v,O',rfl,hcame⟩;have hM:=hcame.moves;obtain⟨us,h6,h7,h8⟩:=hcame.res;have h6:us.size=1:=h6;have h9:JA O' w' (us.getD 0 undef) (.str s):=h8 0 (by omega);refine⟨?_,⟨fun b hb hn'=> ?_,hM.size,hM.os,hM.tape,hM.output⟩,?_⟩
  .rw[h7,GM h6];have e:us[0]=us.getD 0 undef:=by simp [Dq,h6]
   rw[e,Uz h9]
  .have no: ∀ k o,ow2 g g1 b k≠some o:=fun k o h=>by
    rw[o3 b k (fun e=>hn' (by simp [e])) (fun e=>hn' (by simp [e]))]at h;cases h
   rcases hM.blk b hb with h | ⟨_,_,_,_,_,_,_,_,k,o,_,h,_⟩ | ⟨_,_,_,_,o,_,_,h,_⟩
   .exact h
   .exact absurd h (no k o)
   .exact absurd h (no 0 o)
  .have hb:IR O' w' 0 (.pointer (some (at' g 0))) (.box [.bool bad]):=hcame.boxes 0 0 rfl;obtain⟨b,base,h1,h2⟩:=hb;injection h1 with h1;injection h1 with h1;injection h1 with q1 q2;subst q1;subst q2;obtain⟨_,h3,u,h4,h5⟩:=h2 0 (by simp);refine⟨?_,h3⟩;refine(show w'.cell? (at' g 0)=some u from h4).trans (congrArg some ?_);have h':JA O' w' u (.bool bad):=h5;cases h';rfl
def ArM (N:Nat) {O0 O:Own} {w:World} (hI:Inv O0 w) {ws:Array Value} {cs:List A} {a:ShT (MZ N).J6} {d:Int} (hws:ws.size=30) (hl:cs.length=30) (hd:Uf (MZ N).J6 [.agg cs]=some a) (hx: ∀ j,j<30->JA O w (ws.getD j undef) (cs.getD j .undef)) (h:U0 N a=some d) :
 Calls Tryz.prog 85 #[.agg ws] w fun e w'=>e= .returned (.int .i64 d)/\Below w.heap.size w w':=by
 have hF:(MZ N).F [.agg cs]=some [.int .i64 d]:=Sig.AyD hd h;refine((vZ N).2 (fun _ _=>none) w _ [.agg cs] _ ⟨fun g j p ht=>⟨rfl,(hI.1 g j p ht).2⟩,hI.2⟩ rfl rfl (by simp) (fun j hj=> ?_) hF).mono ?_
 .have:j=0:=by simpa using hj
  subst this;exact⟨ws,rfl,by rw[hws,hl],fun k hk=>((hx k (by rw[<- hl];exact hk)).Ko (O':=fun _ _=>none) fun _ _ _ _ hc=>⟨rfl,hc⟩).ic⟩
 .rintro e w' ⟨v,O',rfl,hcame⟩;obtain⟨us,h6,h7,h8⟩:=hcame.res;have h6:us.size=1:=h6;have h9:JA O' w' (us.getD 0 undef) (.int .i64 d):=h8 0 (by omega);refine⟨?_,hcame.moves.below⟩;rw[h7,GM h6];have e:us[0]=us.getD 0 undef:=by simp [Dq,h6]
  rw[e];generalize us.getD 0 undef=u at h9;cases h9;rfl
set_option maxHeartbeats 4000000 in
set_option maxRecDepth 100000 in
def Ar9 (N:Nat) {O0:Own} {w:World} (hI:Inv O0 w) {g1:Nat} {ws:Array Value} {cs:List A} {a c':ShT (MZ N).J6} {s:Bs} {bad:Bool} {ra:ByteArray} {re:Int} (hra:ra=if bad then⟨#[]⟩else⟨s.toArray⟩) (hre:re=if bad then 2 else 0) (hg1:Off g1) (l1:g1<w.heap.size)
 (hd:Uf (MZ N).J6 [.agg cs]=some a) (hl:cs.length=30) (hv: ∀ j,j<30->w.frozen? ⟨g1,j,none⟩=false/\w.cell? ⟨g1,j,none⟩=some (ws.getD j undef)) (hx: ∀ j,j<30->JA (ow1 g1) w (ws.getD j undef) (cs.getD j .undef)) (hs:Xn N false a=some (s,bad,c')) :
 Calls Tryz.prog 74 #[.func (.func 86) #[] #[.pointer (some ⟨g1,0,none⟩)]] w fun e w'=>e= .returned (.tuple #[.string ra,.int .i64 re])/\LZ [g1] w w':=by
 have hmf: ∀(fn:Fn) (first cap:Array Value) (w:World),(Instr.makeFunc fn first cap).run Tryz.prog w= .ok (.func fn first cap) w:=fun _ _ _ _=>rfl;have hI0:=hI;obtain⟨W,hW⟩: ∃ W,W=(((w.alloc (Obj.cells #[Value.string {data:= #[]}] 9)).alloc (Obj.cells #[Value.int IntKind.i64 0] 40)).alloc (Obj.cells #[Value.bool false] 108)).alloc (Obj.cells #[Value.pointer (some {block:=w.heap.size+1+1,off:=0})] 106):=⟨_,rfl⟩
 have Hb:Below w.heap.size w W:=by rw[hW];exact((((Below.refl _ w).alloc (DW _) _).alloc (by simp) _).alloc (by simp;omega) _).alloc (by simp;omega) _
 have hsz:W.heap.size=w.heap.size+4:=by rw[hW];simp
 have Hc: ∀ j,w.heap.size<=j->Off j:=fun j hj=>hI.off hj;have Hn:W.cell? ⟨w.heap.size,0,none⟩=some (.string ⟨#[]⟩)/\W.frozen? ⟨w.heap.size,0,none⟩=false:=by rw[hW];constructor<;>simp [go_sem]
 have He:W.cell? ⟨w.heap.size+1,0,none⟩=some (.int .i64 0)/\W.frozen? ⟨w.heap.size+1,0,none⟩=false:=by rw[hW];constructor<;>simp [go_sem]
 have Hx:W.cell? ⟨w.heap.size+1+1,0,none⟩=some (.bool false)/\W.frozen? ⟨w.heap.size+1+1,0,none⟩=false:=by rw[hW];constructor<;>simp [go_sem]
 have Hp:W.cell? ⟨w.heap.size+1+1+1,0,none⟩=some (.pointer (some ⟨w.heap.size+1+1,0,none⟩)):=by rw[hW];simp [go_sem]
 have pr:N9 (ow1 g1) w (ow2 (w.heap.size+1+1) g1) W:=fun b k u hb hc=>by
  have hlt:=cell_lt hc;have hne:b≠g1:=fun e=>by rw[e]at hb;simp [ow1]at hb
  exact⟨(Du (fun e=>by omega)).trans (Du fun e=>hne e.1),(Hb.cell (p:=at' b k) hlt).trans hc⟩
 have hS:=Avz N (hI.below Hb) (g:=w.heap.size+1+1) (g1:=g1) (by omega) (Hc _ (by omega)).1 hg1.1 Hx.1 Hx.2 hd hl (fun j hj=>⟨(Hb.frozen l1).trans (hv j hj).1,(Hb.cell l1).trans (hv j hj).2⟩) (fun j hj=>(hx j hj).Ko pr) hs
 have hS':Calls Tryz.prog 86 #[.pointer (some ⟨w.heap.size+1+1,0,none⟩),.pointer (some ⟨g1,0,none⟩)] W fun e w2=>e= .returned (.string ⟨s.toArray⟩)/\Inv (fun _ _=>none) w2/\LZ [g1] w w2/\w2.heap.size>=w.heap.size+4 /\
  (w2.cell? ⟨w.heap.size,0,none⟩=some (.string ⟨#[]⟩)/\w2.frozen? ⟨w.heap.size,0,none⟩=false)/\(w2.cell? ⟨w.heap.size+1,0,none⟩=some (.int .i64 0)/\w2.frozen? ⟨w.heap.size+1,0,none⟩=false) /\
  (w2.cell? ⟨w.heap.size+1+1,0,none⟩=some (.bool bad)/\w2.frozen? ⟨w.heap.size+1+1,0,none⟩=false)/\w2.cell? ⟨w.heap.size+1+1+1,0,none⟩=some (.pointer (some ⟨w.heap.size+1+1,0,none⟩)):=by
  refine hS.mono ?_;rintro e w2 ⟨rfl,hk,k1,k2⟩;have hk0:LZ [g1] w w2:=((AhP Hb).mono (gs':=[g1]) (by simp)).trans hk (by simp;omega);have hz:=hk.size;refine⟨rfl,(hI.below Hb).keeps hk (fun x hx=> ?_),hk0,by omega,⟨(hk.cell (by omega) ?_).trans Hn.1,(hk.frozen (by omega) ?_).trans Hn.2⟩,⟨(hk.cell (by omega) ?_).trans He.1,(hk.frozen (by omega) ?_).trans He.2⟩,⟨k1,k2⟩,(hk.cell (by omega) ?_).trans Hp⟩
  .simp only[D8,Ew,Fz]at hx;rcases hx with rfl | rfl
   .exact Hc _ (by omega)
   .exact hg1
  all_goals simp only[D8,Ew,Fz];omega
 clear hS Hb Hn He Hx Hp hsz pr hv hx hd hl hs;subst hW
 go_enter_defers Tryz.func74,Tryz.ntmps74
 go_wp2_with (go_at_call 86;refine hS'.mono ?_;rintro e w2 ⟨rfl,hI2,hk,hz,⟨n1,n2⟩,⟨e1,e2⟩,⟨b1,b2⟩,p1⟩)
 refine leaves_cons (f:=149) (args:= #[.pointer (some ⟨w.heap.size+1+1+1,0,none⟩),.pointer (some ⟨w.heap.size,0,none⟩),.pointer (some ⟨w.heap.size+1,0,none⟩)]) (by simp) (by simp [go_sem]) ?_;have hk3:LZ [w.heap.size,w.heap.size+1] w2 ((w2.setCell ⟨w.heap.size,0,none⟩ (.string ⟨s.toArray⟩)).setCell ⟨w.heap.size+1,0,none⟩ (.int .i64 0)):=((LZ.refl _ w2).set (by simp) _).set (by simp) _;obtain⟨W3,hW3⟩: ∃ W3,W3=(w2.setCell ⟨w.heap.size,0,none⟩ (.string ⟨s.toArray⟩)).setCell ⟨w.heap.size+1,0,none⟩ (.int .i64 0):=⟨_,rfl⟩
 have q1:W3.cell? ⟨w.heap.size,0,none⟩=some (.string ⟨s.toArray⟩):=by rw[hW3,Fh _ _ _ _ (by simp),Fq _ _ _ n1]
 have q2:W3.cell? ⟨w.heap.size+1,0,none⟩=some (.int .i64 0):=by rw[hW3,Fq _ _ _ ((Fh _ _ _ _ (by simp)).trans e1)]
 have q3:W3.frozen? ⟨w.heap.size,0,none⟩=false:=by rw[hW3];simpa using n2
 have q4:W3.frozen? ⟨w.heap.size+1,0,none⟩=false:=by rw[hW3];simpa using e2
 rw[<- hW3]at hk3;rw[<- hW3];have hz3:=hk3.size;have hI3:=hI2.keeps hk3 (fun x hx=>by simp only[D8,Ew,Fz]at hx;exact Hc _ (by omega))
 refine(AgM N hI3 (g:=w.heap.size+1+1) (pw:=w.heap.size+1+1+1) (ps:=w.heap.size) (pe:=w.heap.size+1) (b:=bad) (s:=⟨s.toArray⟩) (x:=0) .returning (Hc _ (by omega)).1 (by omega) (by omega) (by omega) (by omega) (by omega)
  ((hk3.cell (by omega) (by simp;omega)).trans p1) ((hk3.cell (by omega) (by simp;omega)).trans b1) ((hk3.frozen (by omega) (by simp;omega)).trans b2) q1 q3 q2 q4).mono ?_
 rintro e u' w4 ⟨rfl,rfl,hk4,r1,r2⟩;rw[<- hra]at r1;rw[<- hre]at r2;have hk5:LZ [g1] w w4:=(hk.trans hk3 (by simp)).trans hk4 (by simp;omega);simp [Leaves,settle,results,Tryz.results74,go_sem,r1,r2,hk5]
def Ax4 {P:Program} {o:Oper} {a:Act} {w w':World} {v:Value} {K:Act->World->Prop} {Q:Exit->Act->World->Prop} (hrun:(execOp a.eval o).run P w= .ok (.value v) w') (hK:K (a.put o.dst v) w'):o.wp P a w K Q:=by unfold Oper.wp;simp only[hrun];exact hK
def AnU {w:World} {g:Nat} {ws:Array Value} (hws:ws.size=30) (hc: ∀ j,j<30->w.cell? ⟨g,j,none⟩=some (ws.getD j undef)) {a:Act} {o:Oper} {x:Operand} (ho:o.op= .load 57 x) (hx:a.eval x= .pointer (some ⟨g,0,none⟩)):(execOp a.eval o).run Tryz.prog w= .ok (.value (.agg ws)) w:=by
 obtain⟨ti,h1,h2,h3⟩: ∃ ti,An4 Tryz.prog 57=some ti/\ti.agg=true/\ti.cs.length=30:=by
  have h:(An4 Tryz.prog 57).map (fun t=>(t.agg,t.cs.length))=some (true,30):=by kernel_rfl
  obtain⟨ti,h1,h2⟩:=H9.1 h;injection h2 with h2 h3;exact⟨ti,h1,h2,h3⟩
 have h:=Vs (P:=Tryz.prog) (w:=w) (Atu h1) (b:=g) (k:=0) (fun j=>ws.getD j undef) (fun j hj=>by rw[DT];exact hc j (by omega)) (fun h=>by rw[h2]at h;cases h);rw[h2,h3,Dt rfl]at h
 have e:((List.range 30).map fun j=>ws.getD j undef).toArray=ws:=by
  apply Fp
  .simp [hws]
  .intro i h1 h2;simp [Dq,h2]
 rw[e]at h;simp [execOp,ho,Instr.loadAt,Instr.sureAddr,hx,h]
set_option maxHeartbeats 4000000 in
set_option maxRecDepth 100000 in
def Ar0 (N:Nat) {O:Own} {w:World} (hI:Inv O w) {ws:Array Value} {cs:List A} {a c':ShT (MZ N).J6} {s:Bs} {bad:Bool} {d:Int} {ra:ByteArray} {re:Int} (hws:ws.size=30) (hl:cs.length=30) (hd:Uf (MZ N).J6 [.agg cs]=some a) (hx: ∀ j,j<30->JA O w (ws.getD j undef) (cs.getD j .undef))
 (h1:U0 N a=some d) (h2:d=0->Xn N false a=some (s,bad,c')) (hra:ra=if d=0 then if bad then⟨#[]⟩else⟨s.toArray⟩else⟨#[]⟩) (hre:re=if d=0 then if bad then 2 else 0 else d) :
 Calls Tryz.prog 25 #[.agg ws] w fun e w'=>e= .returned (.tuple #[.string ra,.int .i64 re])/\Below w.heap.size w w':=by
 have hmf: ∀(fn:Fn) (first cap:Array Value) (w:World),(Instr.makeFunc fn first cap).run Tryz.prog w= .ok (.func fn first cap) w:=fun _ _ _ _=>rfl;have hb0:=(Below.refl w.heap.size w).alloc (DW _) (Obj.cells ws 57);have pr: ∀ W,Below w.heap.size w W->N9 O w (ow1 w.heap.size) W:=fun W hb b k u _ hc=>by have hlt:=cell_lt hc;exact⟨Du (by omega),(hb.cell (p:=at' b k) hlt).trans hc⟩
 have hv0: ∀ j,j<30->(w.alloc (Obj.cells ws 57)).frozen? ⟨w.heap.size,j,none⟩=false/\(w.alloc (Obj.cells ws 57)).cell? ⟨w.heap.size,j,none⟩=some (ws.getD j undef):=fun j hj=>by constructor<;>simp [go_sem,hws,hj]
 have hO:Calls Tryz.prog 85 #[.agg ws] (w.alloc (Obj.cells ws 57)) fun e w2=>e= .returned (.int .i64 d)/\(Inv (fun _ _=>none) w2/\Below w.heap.size w w2)/\w2.heap.size>=w.heap.size+1/\ ∀ j,j<30->w2.frozen? ⟨w.heap.size,j,none⟩=false/\w2.cell? ⟨w.heap.size,j,none⟩=some (ws.getD j undef):=by
  refine(ArM N (hI.below hb0) hws hl hd (fun j hj=>(hx j hj).Ko (pr _ hb0)) h1).mono ?_;rintro e w2 ⟨rfl,hb⟩;have hz:=hb.size;have hz':w2.heap.size>=w.heap.size+1:=by simpa using hz
  have hb2:=hb0.trans (hb.mono hb0.size);exact⟨rfl,⟨hI.below hb2,hb2⟩,hz',fun j hj=>⟨(hb.frozen (p:=⟨w.heap.size,j,none⟩) (by simp)).trans (hv0 j hj).1,(hb.cell (p:=⟨w.heap.size,j,none⟩) (by simp)).trans (hv0 j hj).2⟩⟩
 by_cases hd0:d=0
 .subst hd0;have h3:=h2 rfl;rw[Dt rfl]at hra hre
  have hwr: ∀ w2,Inv (fun _ _=>none) w2/\Below w.heap.size w w2->w2.heap.size>=w.heap.size+1->(∀ j,j<30->w2.frozen? ⟨w.heap.size,j,none⟩=false/\w2.cell? ⟨w.heap.size,j,none⟩=some (ws.getD j undef)) ->
   Calls Tryz.prog 74 #[.func (.func 86) #[] #[.pointer (some ⟨w.heap.size,0,none⟩)]] w2 fun e w'=>e= .returned (.tuple #[.string ra,.int .i64 re])/\Below w.heap.size w w':=by
   intro w2 hIb hz hv;refine(Ar9 N hIb.1 hra hre (g1:=w.heap.size) (hI.off (DW _)) (by omega) hd hl hv (fun j hj=>(hx j hj).Ko (pr _ hIb.2)) h3).mono ?_;rintro e w4 ⟨rfl,hk⟩;exact⟨rfl,hIb.2.trans (hk.below' (by omega) (by simp))⟩
  clear hra hre h3 h2 h1 hx hd pr
  go_enter Tryz.func25,Tryz.ntmps25
  iterate 19 go_step
  refine Ax4 (AnU hws (fun j hj=>(hv0 j hj).2) rfl rfl) ?_;clear hv0
  go_wp2_with (first | (go_at_call 85;refine hO.mono ?_;rintro e w2 ⟨rfl,hIb,hz,hv⟩) | (go_at_call 74;refine(hwr _ hIb hz hv).mono ?_;rintro e w4 ⟨rfl,hb4⟩))
  go_ret2
  exact⟨rfl,hb4⟩
 .rw[Du hd0]at hra hre;subst hra;subst hre;clear h2 h1 hx hd pr
  go_enter Tryz.func25,Tryz.ntmps25
  iterate 19 go_step
  refine Ax4 (AnU hws (fun j hj=>(hv0 j hj).2) rfl rfl) ?_;clear hv0
  go_wp2_with (go_at_call 85;refine hO.mono ?_;rintro e w2 ⟨rfl,hIb,hz,hv⟩)
  go_ret2
  exact⟨rfl,hIb.2⟩
noncomputable def nU (N:Nat):Sig:=.of (MZ N).J6 [.cell false .str,.cell false (.int .i64)] (fun a=>U1 N a)
def Adl (N:Nat):Spec Tryz.prog 25 (nU N):=by
 refine⟨enters (fn:=Tryz.f25) (by kernel_rfl) (by kernel_rfl) (by decide),fun O w vs xs rs hI hv hl _ hx hrs=> ?_⟩;obtain⟨a,⟨R,E⟩,hd,hf,rfl⟩:=Sig.A1N hrs
 obtain⟨x0,rfl⟩: ∃ x,xs=[x]:=by
  have hl:xs.length=1:=hl
  match xs,hl with
  | [x],_=>exact⟨x,rfl⟩
 obtain⟨cs,rfl,hcs⟩: ∃ cs,x0= .agg cs/\cs=NI _ a:=by obtain⟨a',b',h1,_,h3⟩:=AbD (show vW _ [] (Sh.dec _ x0) _=some a from hd);have h3:a=a':=h3;subst h3;have h2:=Sh.AsX h1;exact⟨_,h2,rfl⟩
 have hl30:cs.length=30:=by rw[hcs];rfl
 have hval: ∀ j,j<30->(cs.getD j .undef).isVal=true:=by
  have h:cs.all A.isVal=true:=by rw[hcs];rfl
  intro j hj;rw[Dn,D9 (by omega)];exact D7.1 h _ (EU _)
 obtain⟨ws,hv0,hws,hxs⟩:=(show IR O w (256*0) (vs.getD 0 undef) (.agg cs)from hx 0 (by simp))
 have hvs:vs= #[.agg ws]:=by
  have hv1:vs.size=1:=hv;apply Fp
  .simp [hv1]
  .intro i h1 h2;have:i=0:=by simp at h2;omega
   subst this;rw[<- hv0];simp [Dq,h1]
 have hws:ws.size=30:=hws.trans hl30;have hx': ∀ j,j<30->JA O w (ws.getD j undef) (cs.getD j .undef):=fun j hj=>IC.val (hval j hj) (hxs j (by omega))
 have fin:Calls Tryz.prog 25 #[.agg ws] w fun e w'=>e= .returned (.tuple #[.string ⟨R.toArray⟩,.int .i64 E])/\Below w.heap.size w w':=by
  have hf:U1 N a=some (R,E):=hf;unfold U1 at hf;obtain⟨d,h1,hf⟩:=vY hf;by_cases hd0:d=0
  .subst hd0;have hf:(Jt (Xn N false a) fun x=>Jt (OE N x.2.1) fun y=>bif y.1 then some (([]:Bs),(2:Int))else some (x.1,0))=some (R,E):=hf;obtain⟨⟨s,bad,c'⟩,h2,hf⟩:=vY hf;rw[ApP]at hf;have hf:(bif bad then some (([]:Bs),(2:Int))else some (s,0))=some (R,E):=hf;refine Ar0 N hI hws hl30 hd hx' h1 (fun _=>h2) ?_ ?_
   .rw[Dt rfl];cases bad<;>(injection hf with hf;injection hf with q1 q2;subst q1;rfl)
   .rw[Dt rfl];cases bad<;>(injection hf with hf;injection hf with q1 q2;subst q2;rfl)
  .have hb:(d != (0:Int))=true:=Gl.2 hd0;have hf:(bif (d != (0:Int))then some (([]:Bs),d)else _)=some (R,E):=hf;rw[hb]at hf;injection hf with hf;injection hf with q1 q2;subst q1;subst q2;exact Ar0 N (s:=[]) (bad:=false) (c':=a) hI hws hl30 hd hx' h1 (fun h=>absurd h hd0) (by rw[Du hd0]) (by rw[Du hd0])
 rw[hvs];refine fin.mono ?_;rintro e w' ⟨rfl,hb⟩;have hix:L6 (nU N).J6 0=[]:=rfl;refine⟨_,O,rfl,Below.moves hb,fun b k _ h=>h,fun b k _ h=>h,by rw[hix];rfl,⟨#[.string ⟨R.toArray⟩,.int .i64 E],rfl,rfl,fun k hk=> ?_⟩,fun j i hj=>by rw[hix]at hj;cases hj⟩;have:k=0\/k=1:=by simp at hk;omega
 rcases this with rfl | rfl
 .exact JA.str (O:=O) (w:=w') ⟨R.toArray⟩
 .exact JA.int .i64 E
end Go.Proofs.YtfgdgdnlglejbaaGreatDoor.Vm
