import Derived.Test.YtdihmdelaolelaaGreatDoorA13
import Derived.Test.YtdihmdelaolelaaGreatDoorA18
set_option linter.all false
namespace Go.Proofs.YtdihmdelaolelaaGreatDoor.Vm
open Go.RowKit
def Sig.AyE {Ju JB:List Sh} {f:ShT Ju->Option (ShT (Lm Ju JB))} {xs rs:List A} (h:(Sig.of Ju JB f).F xs=some rs): ∃ a o,Tc Ju xs=some a/\f a=some o/\rs=encs _ o:=by
 unfold Sig.F Sig.of at h;dsimp only at h;cases hd:Tc Ju xs with
 | none=>rw[hd]at h;cases h
 | some a =>
  rw[hd]at h;dsimp only at h;cases hf:f a with
  | none=>rw[hf]at h;cases h
  | some o =>rw[hf]at h;injection h with h;exact⟨a,o,rfl,hf,h.symm⟩
def IC.val {O:Own} {w:World} {id:Nat} {v:Value} {x:A} (hx:x.isVal=true) (h:IC O w id v x):J5 O w v x:=by cases x<;>first | (cases hx;done) | exact h
def ow1 (g:Nat):Own:=fun b _=>if b=g then some 0 else none
def ow2 (g g1:Nat):Own:=fun b k=>if b=g/\k=0 then some 0 else if b=g1/\k<30 then some 256 else none
def Asz (N:Nat) {O0:Own} {W:World} (hI:Inv O0 W) {g g1:Nat} {ws:Array Value} {cs:List A} {a:ShT (LQ N).Ju} {s:Bs} {bad:Bool} {c':ShT (LQ N).Ju} (hn:g≠g1) (hg: ∀ j p,fG g j≠some p) (hg1: ∀ j p,fG g1 j≠some p)
 (hc:W.cell? ⟨g,0,none⟩=some (.bool false)) (hf:W.frozen? ⟨g,0,none⟩=false) (hd:Tc (LQ N).Ju [.agg cs]=some a) (hl:cs.length=30)
 (hv: ∀ j,j<30->W.frozen? ⟨g1,j,none⟩=false/\W.cell? ⟨g1,j,none⟩=some (ws.getD j undef)) (hx: ∀ j,j<30->J5 (ow2 g g1) W (ws.getD j undef) (cs.getD j .undef)) (hs:RY N false a=some (s,bad,c')) :
 Calls Tryz.prog 25 #[.pointer (some ⟨g,0,none⟩),.pointer (some ⟨g1,0,none⟩)] W fun e w'=>e= .returned (.string ⟨s.toArray⟩)/\Mc [g,g1] W w'/\w'.cell? ⟨g,0,none⟩=some (.bool bad)/\w'.frozen? ⟨g,0,none⟩=false:=by
 have hd':Tc (O8 N).Ju [.box [.bool false],.box cs]=some (false,a):=by
  obtain⟨a',b',h1,_,h3⟩:=uF (show lY _ [] (Sh.dec _ (.agg cs)) _=some a from hd);have h3:a=a':=h3;subst h3;have h1':Sh.dec ((O8 N).Ju.getD 1 (.agg [])) (.box cs)=some a:=h1;have key: ∀ x:Option (Sh.T ((O8 N).Ju.getD 1 (.agg []))),x=some a->lY (.box [(false,.bool)]) [(O8 N).Ju.getD 1 (.agg [])] (some (show Sh.T (.box [(false,.bool)])from false)) (lY ((O8 N).Ju.getD 1 (.agg [])) [] x (some ()))=some (false,a):=by rintro _ rfl;rfl
  exact key _ h1'
 have hF:(O8 N).F [.box [.bool false],.box cs]=some (encs (Lm (O8 N).Ju (O8 N).JB) (s,bad,c')):=Sig.ArM hd' hs;have o1:ow2 g g1 g 0=some 0:=Du ⟨rfl,rfl⟩;have o2: ∀ k,k<30->ow2 g g1 g1 k=some 256:=fun k hk=>(Dp fun h=>hn h.1.symm).trans (Du ⟨rfl,hk⟩);have o3: ∀ b k,b≠g->b≠g1->ow2 g g1 b k=none:=fun b k h h'=>(Dp fun e=>h e.1).trans (Dp fun e=>h' e.1);refine((Afp N).2 (ow2 g g1) W _ [.box [.bool false],.box cs] _ ⟨fun b j p ht=>⟨o3 b j (fun e=>hg j p (by rw[<- e];exact ht)) (fun e=>hg1 j p (by rw[<- e];exact ht)),(hI.1 b j p ht).2⟩,hI.2⟩ rfl rfl (by simp) (fun j hj=> ?_) hF).mono ?_
 .have:j=0\/j=1:=by simp at hj;omega
  rcases this with rfl | rfl
  .refine⟨g,0,rfl,fun k hk=> ?_⟩;have:k=0:=by simpa using hk
   subst this;exact⟨o1,hf,_,hc,J5.bool false⟩
  .refine⟨g1,0,rfl,fun k hk=> ?_⟩;have hk:k<30:=by rw[<- hl];exact hk
   rw[DY];exact⟨o2 k hk,(hv k hk).1,_,(hv k hk).2,(hx k hk).ic⟩
 .rintro e w' ⟨v,O',rfl,hcame⟩;have hM:=hcame.moves;obtain⟨us,h6,h7,h8⟩:=hcame.res;have h6:us.size=1:=h6;have h9:J5 O' w' (us.getD 0 undef) (.str s):=h8 0 (by omega);refine⟨?_,⟨fun b hb hn'=> ?_,hM.size,hM.os,hM.tape,hM.output⟩,?_⟩
  .rw[h7,Ih h6];have e:us[0]=us.getD 0 undef:=by simp [Dw,h6]
   rw[e,QP h9]
  .have no: ∀ k o,ow2 g g1 b k≠some o:=fun k o h=>by
    rw[o3 b k (fun e=>hn' (by simp [e])) (fun e=>hn' (by simp [e]))]at h;cases h
   rcases hM.blk b hb with h | ⟨_,_,_,_,_,_,_,_,k,o,_,h,_⟩ | ⟨_,_,_,_,o,_,_,h,_⟩
   .exact h
   .exact absurd h (no k o)
   .exact absurd h (no 0 o)
  .have hb:IR O' w' 0 (.pointer (some (at' g 0))) (.box [.bool bad]):=hcame.boxes 0 0 rfl;obtain⟨b,base,h1,h2⟩:=hb;injection h1 with h1;injection h1 with h1;injection h1 with q1 q2;subst q1;subst q2;obtain⟨_,h3,u,h4,h5⟩:=h2 0 (by simp);refine⟨?_,h3⟩;refine(show w'.cell? (at' g 0)=some u from h4).trans (congrArg some ?_);have h':J5 O' w' u (.bool bad):=h5;cases h';rfl
def Aot (N:Nat) {O0 O:Own} {w:World} (hI:Inv O0 w) {ws:Array Value} {cs:List A} {a:ShT (LQ N).Ju} {d:Int} (hws:ws.size=30) (hl:cs.length=30) (hd:Tc (LQ N).Ju [.agg cs]=some a) (hx: ∀ j,j<30->J5 O w (ws.getD j undef) (cs.getD j .undef)) (h:RV N a=some d) :
 Calls Tryz.prog 10 #[.agg ws] w fun e w'=>e= .returned (.int .i64 d)/\Below w.heap.size w w':=by
 have hF:(LQ N).F [.agg cs]=some [.int .i64 d]:=Sig.ArM hd h;refine((Yp N).2 (fun _ _=>none) w _ [.agg cs] _ ⟨fun g j p ht=>⟨rfl,(hI.1 g j p ht).2⟩,hI.2⟩ rfl rfl (by simp) (fun j hj=> ?_) hF).mono ?_
 .have:j=0:=by simpa using hj
  subst this;exact⟨ws,rfl,by rw[hws,hl],fun k hk=>((hx k (by rw[<- hl];exact hk)).Kr (O':=fun _ _=>none) fun _ _ _ _ hc=>⟨rfl,hc⟩).ic⟩
 .rintro e w' ⟨v,O',rfl,hcame⟩;obtain⟨us,h6,h7,h8⟩:=hcame.res;have h6:us.size=1:=h6;have h9:J5 O' w' (us.getD 0 undef) (.int .i64 d):=h8 0 (by omega);refine⟨?_,hcame.moves.below⟩;rw[h7,Ih h6];have e:us[0]=us.getD 0 undef:=by simp [Dw,h6]
  rw[e];generalize us.getD 0 undef=u at h9;cases h9;rfl
set_option maxHeartbeats 4000000 in
set_option maxRecDepth 100000 in
def Aoc (N:Nat) {O0:Own} {w:World} (hI:Inv O0 w) {g1:Nat} {ws:Array Value} {cs:List A} {a c':ShT (LQ N).Ju} {s:Bs} {bad:Bool} {ra:ByteArray} {re:Int} (hra:ra=if bad then⟨#[]⟩else⟨s.toArray⟩) (hre:re=if bad then 2 else 0) (hg1:Off g1) (l1:g1<w.heap.size)
 (hd:Tc (LQ N).Ju [.agg cs]=some a) (hl:cs.length=30) (hv: ∀ j,j<30->w.frozen? ⟨g1,j,none⟩=false/\w.cell? ⟨g1,j,none⟩=some (ws.getD j undef)) (hx: ∀ j,j<30->J5 (ow1 g1) w (ws.getD j undef) (cs.getD j .undef)) (hs:RY N false a=some (s,bad,c')) :
 Calls Tryz.prog 24 #[.func (.func 25) #[] #[.pointer (some ⟨g1,0,none⟩)]] w fun e w'=>e= .returned (.tuple #[.string ra,.int .i64 re])/\Mc [g1] w w':=by
 have hmf: ∀(fn:Fn) (first cap:Array Value) (w:World),(Instr.makeFunc fn first cap).run Tryz.prog w= .ok (.func fn first cap) w:=fun _ _ _ _=>rfl;obtain⟨Hb,hsz,Hx⟩:=Aoa w;have hg: ∀ g∈ [g1],Off g/\g<w.heap.size:=by simp [hg1,l1]
 have pr:MW (ow1 g1) w (ow2 (w.heap.size+1+1) g1) (wrW w):=fun b k u hb hc=>by
  have hlt:=cell_lt hc;have hne:b≠g1:=fun e=>by rw[e]at hb;simp [ow1]at hb
  exact⟨(Dp (fun e=>by omega)).trans (Dp fun e=>hne e.1),(Hb.cell (p:=at' b k) hlt).trans hc⟩
 have hS:=Azj hI hg (Asz N (hI.below Hb) (g:=w.heap.size+1+1) (g1:=g1) (by omega) (hI.off (by omega)).1 hg1.1 Hx.1 Hx.2 hd hl (fun j hj=>⟨(Hb.frozen l1).trans (hv j hj).1,(Hb.cell l1).trans (hv j hj).2⟩) (fun j hj=>(hx j hj).Kr pr) hs);have hT:=fun w2 (h:WrS w [g1] bad w2)=>Azk N hI (s:=⟨s.toArray⟩) hg h;clear Hb hsz Hx pr hv hx hd hl hs;dsimp only[wrW]at hS
 go_enter_defers Tryz.func24,Tryz.ntmps24
 go_wp2_with (go_at_call 25;refine hS.mono ?_;rintro e w2 ⟨rfl,h2⟩;have h3:=hT w2 h2;obtain⟨-,-,hz,⟨n1,n2⟩,⟨e1,e2⟩,-⟩:=h2)
 refine leaves_cons (f:=75) (args:= #[.pointer (some ⟨w.heap.size+1+1+1,0,none⟩),.pointer (some ⟨w.heap.size,0,none⟩),.pointer (some ⟨w.heap.size+1,0,none⟩)]) (by simp) (by simp [go_sem]) (h3.mono ?_);rintro e u' w4 ⟨rfl,rfl,hk5,r1,r2⟩;rw[<- hra]at r1;rw[<- hre]at r2;simp [Leaves,settle,results,Tryz.results24,go_sem,r1,r2,hk5]
def AuK {P:Program} {o:Oper} {a:Act} {w w':World} {v:Value} {K:Act->World->Prop} {Q:Exit->Act->World->Prop} (hrun:(execOp a.eval o).run P w= .ok (.value v) w') (hK:K (a.put o.dst v) w'):o.wp P a w K Q:=by unfold Oper.wp;simp only[hrun];exact hK
def AiV {w:World} {g:Nat} {ws:Array Value} (hws:ws.size=30) (hc: ∀ j,j<30->w.cell? ⟨g,j,none⟩=some (ws.getD j undef)) {a:Act} {o:Oper} {x:Operand} (ho:o.op= .load 37 x) (hx:a.eval x= .pointer (some ⟨g,0,none⟩)):(execOp a.eval o).run Tryz.prog w= .ok (.value (.agg ws)) w:=by
 obtain⟨ti,h1,h2,h3⟩: ∃ ti,Ai0 Tryz.prog 37=some ti/\ti.agg=true/\ti.cs.length=30:=by
  have h:(Ai0 Tryz.prog 37).map (fun t=>(t.agg,t.cs.length))=some (true,30):=by kernel_rfl
  obtain⟨ti,h1,h2⟩:=Iw.1 h;injection h2 with h2 h3;exact⟨ti,h1,h2,h3⟩
 have h:=UO (P:=Tryz.prog) (w:=w) (Aqj h1) (b:=g) (k:=0) (fun j=>ws.getD j undef) (fun j hj=>by rw[DY];exact hc j (by omega)) (fun h=>by rw[h2]at h;cases h);rw[h2,h3,Du rfl]at h
 have e:((List.range 30).map fun j=>ws.getD j undef).toArray=ws:=by
  apply F5
  .simp [hws]
  .intro i h1 h2;simp [Dw,h2]
 rw[e]at h;simp [execOp,ho,Instr.loadAt,Instr.sureAddr,hx,h]
set_option maxHeartbeats 4000000 in
set_option maxRecDepth 100000 in
def AnS (N:Nat) {O:Own} {w:World} (hI:Inv O w) {ws:Array Value} {cs:List A} {a c':ShT (LQ N).Ju} {s:Bs} {bad:Bool} {d:Int} {ra:ByteArray} {re:Int} (hws:ws.size=30) (hl:cs.length=30) (hd:Tc (LQ N).Ju [.agg cs]=some a) (hx: ∀ j,j<30->J5 O w (ws.getD j undef) (cs.getD j .undef))
 (h1:RV N a=some d) (h2:d=0->RY N false a=some (s,bad,c')) (hra:ra=if d=0 then if bad then⟨#[]⟩else⟨s.toArray⟩else⟨#[]⟩) (hre:re=if d=0 then if bad then 2 else 0 else d) :
 Calls Tryz.prog 8 #[.agg ws] w fun e w'=>e= .returned (.tuple #[.string ra,.int .i64 re])/\Below w.heap.size w w':=by
 have hmf: ∀(fn:Fn) (first cap:Array Value) (w:World),(Instr.makeFunc fn first cap).run Tryz.prog w= .ok (.func fn first cap) w:=fun _ _ _ _=>rfl;have hb0:=(Below.refl w.heap.size w).alloc (DK _) (Obj.cells ws 37);have pr: ∀ W,Below w.heap.size w W->MW O w (ow1 w.heap.size) W:=fun W hb b k u _ hc=>by have hlt:=cell_lt hc;exact⟨A0y,(hb.cell (p:=at' b k) hlt).trans hc⟩
 have hv0: ∀ j,j<30->(w.alloc (Obj.cells ws 37)).frozen? ⟨w.heap.size,j,none⟩=false/\(w.alloc (Obj.cells ws 37)).cell? ⟨w.heap.size,j,none⟩=some (ws.getD j undef):=fun j hj=>by constructor<;>simp [go_sem,hws,hj]
 have hO:Calls Tryz.prog 10 #[.agg ws] (w.alloc (Obj.cells ws 37)) fun e w2=>e= .returned (.int .i64 d)/\(Inv (fun _ _=>none) w2/\Below w.heap.size w w2)/\w2.heap.size>=w.heap.size+1/\ ∀ j,j<30->w2.frozen? ⟨w.heap.size,j,none⟩=false/\w2.cell? ⟨w.heap.size,j,none⟩=some (ws.getD j undef):=by
  refine(Aot N (hI.below hb0) hws hl hd (fun j hj=>(hx j hj).Kr (pr _ hb0)) h1).mono ?_;rintro e w2 ⟨rfl,hb⟩;have hz:=hb.size;have hz':w2.heap.size>=w.heap.size+1:=by simpa using hz
  have hb2:=hb0.trans (hb.mono hb0.size);exact⟨rfl,⟨hI.below hb2,hb2⟩,hz',fun j hj=>⟨(hb.frozen (p:=⟨w.heap.size,j,none⟩) (by simp)).trans (hv0 j hj).1,(hb.cell (p:=⟨w.heap.size,j,none⟩) (by simp)).trans (hv0 j hj).2⟩⟩
 by_cases hd0:d=0
 .subst hd0;have h3:=h2 rfl;rw[Du rfl]at hra hre
  have hwr: ∀ w2,Inv (fun _ _=>none) w2/\Below w.heap.size w w2->w2.heap.size>=w.heap.size+1->(∀ j,j<30->w2.frozen? ⟨w.heap.size,j,none⟩=false/\w2.cell? ⟨w.heap.size,j,none⟩=some (ws.getD j undef)) ->
   Calls Tryz.prog 24 #[.func (.func 25) #[] #[.pointer (some ⟨w.heap.size,0,none⟩)]] w2 fun e w'=>e= .returned (.tuple #[.string ra,.int .i64 re])/\Below w.heap.size w w':=by
   intro w2 hIb hz hv;refine(Aoc N hIb.1 hra hre (g1:=w.heap.size) (hI.off (DK _)) (by omega) hd hl hv (fun j hj=>(hx j hj).Kr (pr _ hIb.2)) h3).mono ?_;rintro e w4 ⟨rfl,hk⟩;exact⟨rfl,hIb.2.trans (hk.below' (by omega) (by simp))⟩
  clear hra hre h3 h2 h1 hx hd pr
  go_enter Tryz.func8,Tryz.ntmps8
  iterate 19 go_step
  refine AuK (AiV hws (fun j hj=>(hv0 j hj).2) rfl rfl) ?_;clear hv0
  go_wp2_with (first | (go_at_call 10;refine hO.mono ?_;rintro e w2 ⟨rfl,hIb,hz,hv⟩) | (go_at_call 24;refine(hwr _ hIb hz hv).mono ?_;rintro e w4 ⟨rfl,hb4⟩))
  go_ret2
  exact⟨rfl,hb4⟩
 .rw[Dp hd0]at hra hre;subst hra;subst hre;clear h2 h1 hx hd pr
  go_enter Tryz.func8,Tryz.ntmps8
  iterate 19 go_step
  refine AuK (AiV hws (fun j hj=>(hv0 j hj).2) rfl rfl) ?_;clear hv0
  go_wp2_with (go_at_call 10;refine hO.mono ?_;rintro e w2 ⟨rfl,hIb,hz,hv⟩)
  go_ret2
  exact⟨rfl,hIb.2⟩
noncomputable def Yr (N:Nat):Sig:=.of (LQ N).Ju [.cell false .str,.cell false (.int .i64)] (fun a=>Qr N a)
def dX (N:Nat):Spec Tryz.prog 8 (Yr N):=by
 refine⟨enters (fn:=Tryz.f8) (by kernel_rfl) (by kernel_rfl) (by decide),fun O w vs xs rs hI hv hl _ hx hrs=> ?_⟩;obtain⟨a,⟨R,E⟩,hd,hf,rfl⟩:=Sig.AyE hrs
 obtain⟨x0,rfl⟩: ∃ x,xs=[x]:=by
  have hl:xs.length=1:=hl
  match xs,hl with
  | [x],_=>exact⟨x,rfl⟩
 obtain⟨cs,rfl,hcs⟩: ∃ cs,x0= .agg cs/\cs=N8 _ a:=by obtain⟨a',b',h1,_,h3⟩:=uF (show lY _ [] (Sh.dec _ x0) _=some a from hd);have h3:a=a':=h3;subst h3;have h2:=Sh.ApJ h1;exact⟨_,h2,rfl⟩
 have hl30:cs.length=30:=by rw[hcs];rfl
 have hval: ∀ j,j<30->(cs.getD j .undef).isVal=true:=by
  have h:cs.all A.isVal=true:=by rw[hcs];rfl
  intro j hj;rw[Dn,D9 (by omega)];exact DF.1 h _ (Ec _)
 obtain⟨ws,hv0,hws,hxs⟩:=(show IR O w (256*0) (vs.getD 0 undef) (.agg cs)from hx 0 (by simp))
 have hvs:vs= #[.agg ws]:=by
  have hv1:vs.size=1:=hv;apply F5
  .simp [hv1]
  .intro i h1 h2;have:i=0:=by simp at h2;omega
   subst this;rw[<- hv0];simp [Dw,h1]
 have hws:ws.size=30:=hws.trans hl30;have hx': ∀ j,j<30->J5 O w (ws.getD j undef) (cs.getD j .undef):=fun j hj=>IC.val (hval j hj) (hxs j (by omega))
 have fin:Calls Tryz.prog 8 #[.agg ws] w fun e w'=>e= .returned (.tuple #[.string ⟨R.toArray⟩,.int .i64 E])/\Below w.heap.size w w':=by
  have hf:Qr N a=some (R,E):=hf;unfold Qr at hf;obtain⟨d,h1,hf⟩:=mD hf;by_cases hd0:d=0
  .subst hd0;have hf:(Jr (RY N false a) fun x=>Jr (Md N x.2.1) fun y=>bif y.1 then some (([]:Bs),(2:Int))else some (x.1,0))=some (R,E):=hf;obtain⟨⟨s,bad,c'⟩,h2,hf⟩:=mD hf;rw[AlD]at hf;have hf:(bif bad then some (([]:Bs),(2:Int))else some (s,0))=some (R,E):=hf;refine AnS N hI hws hl30 hd hx' h1 (fun _=>h2) ?_ ?_
   .rw[Du rfl];cases bad<;>(injection hf with hf;injection hf with q1 q2;subst q1;rfl)
   .rw[Du rfl];cases bad<;>(injection hf with hf;injection hf with q1 q2;subst q2;rfl)
  .have hb:(d != (0:Int))=true:=EE.2 hd0;have hf:(bif (d != (0:Int))then some (([]:Bs),d)else _)=some (R,E):=hf;rw[hb]at hf;injection hf with hf;injection hf with q1 q2;subst q1;subst q2;exact AnS N (s:=[]) (bad:=false) (c':=a) hI hws hl30 hd hx' h1 (fun h=>absurd h hd0) (by rw[Dp hd0]) (by rw[Dp hd0])
 rw[hvs];refine fin.mono ?_;rintro e w' ⟨rfl,hb⟩;have hix:La (Yr N).Ju 0=[]:=rfl;refine⟨_,O,rfl,Below.moves hb,fun b k _ h=>h,fun b k _ h=>h,by rw[hix];rfl,⟨#[.string ⟨R.toArray⟩,.int .i64 E],rfl,rfl,fun k hk=> ?_⟩,fun j i hj=>by rw[hix]at hj;cases hj⟩;have:k=0\/k=1:=by simp at hk;omega
 rcases this with rfl | rfl
 .exact J5.str (O:=O) (w:=w') ⟨R.toArray⟩
 .exact J5.int .i64 E
end Go.Proofs.YtdihmdelaolelaaGreatDoor.Vm
