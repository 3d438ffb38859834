import Derived.Test.YtacidcemomccpaaGreatDoorA12
import Derived.Maps.OwnSet
import Derived.Maps.OwnOps
import Derived.Maps.Views
set_option linter.all false
namespace Go.Proofs.YtacidcemomccpaaGreatDoor.Vm
open Go.RowKit
def Moves.below {T:Nat->Prop} {w w':World} (h:Moves (λ_ _=>none) T w w'):Below w.heap.size w w' :=
 ⟨h.os,h.tape,h.output,h.size,λb hb=>by
   rcases h.blk b hb with e | ⟨c,c',e,fr,_,_,_,_,k,o,_,ho,_⟩ | ⟨_,_,_,_,o,_,_,ho,_⟩
   .exact e
   .cases ho
   .cases ho⟩
def Sig.Ayc {Jt J7:List Sh} {f:ShT Jt->Option (ShT (KY Jt J7))} {xs:List A} {a:ShT Jt} {o:ShT (KY Jt J7)} (hd:WQ Jt xs=some a) (hf:f a=some o):(Sig.of Jt J7 f).F xs=some (encs (KY Jt J7) o):=by unfold Sig.F Sig.of;dsimp only;rw[hd];dsimp only;rw[hf];rfl
def AsU {P:Program} {f:FuncId} {sg:Sig} (h:Spec P f sg) {xs:List A} {vs:Array Value} {W:World} (hF:sg.F xs=some [.bool true]) (hress:sg.J7=[.cell false .bool]) (hv:vs.size=xs.length) (hl:xs.length=sg.Jt.length) (h100:xs.length<=100)
 (hx: ∀ j,j<xs.length->IR (λ_ _=>none) W (256*j) (vs.getD j undef) (xs.getD j .undef)) (hI:Inv (λ_ _=>none) W):Calls P f vs W λe w'=>e= .returned (.bool true)/\Below W.heap.size W w':=by
 refine(h.2 (λ_ _=>none) W vs xs _ hI hv hl h100 hx hF).mono λe w' hq=> ?_;obtain⟨v,O',he,hc⟩:=hq;obtain⟨us,h1,h2,h3⟩:=hc.res;rw[hress]at h1;have h1':us.size=1:=h1;have h4:J5 O' w' (us.getD 0 undef) (.bool true):=h3 0 (by omega);have h5:us.getD 0 undef= .bool true:=by generalize us.getD 0 undef=z at h4;cases h4;rfl
 have h6:v= .bool true:=by rw[h2,IG h1',<- h5];simp [Dv,h1']
 exact⟨by rw[he,h6],hc.moves.below⟩
open Go.Proofs Go.RowKit Go.Maps Go.WideMaps
def Ave:Keyed Tryz.prog 9:=string_keyed Tryz.underlying9
def Awm (w:World):(zeroValue 3).run Tryz.prog w= .ok (.int .i64 0) w:=by kernel_rfl
def ArH (w:World) (b o:Nat) (xs:List (Bs×Bool×Bs)):Prop:= ∀ k,k<xs.length->w.cell? ⟨b,o+k*3,none⟩=some (.string ⟨((xs.getD k ([],false,[])).1).toArray⟩)/\w.cell? ⟨b,o+k*3+1,none⟩=some (.bool (xs.getD k ([],false,[])).2.1)/\w.cell? ⟨b,o+k*3+2,none⟩=some (.string ⟨((xs.getD k ([],false,[])).2.2).toArray⟩)
def Tz (s:Bs):Lit:=.string s
def Avg:Tryz.prog.underlying 183=some (.map 9 3):=by kernel_rfl
def key_ok (s:Bs) (h:s.length<=1048576):keyOf Tryz.prog 9 (.string ⟨s.toArray⟩)=some (Tz s):=keyOf_string_mk Tryz.underlying9 (by show s.toArray.size<=_;simp only[maxLen,List.size_toArray];omega)
def kwf: ∀ k:Nat,k<25->(Lit.int .i64 (k:Int)).wf=true:=by decide
def QH (xs:List (Bs×Bool×Bs)):Nat->DataW Unit
 | 0=>.map []
 | n+1=>bif Maps.has (QH xs n) (Tz (xs.getD n ([],false,[])).1)then QH xs n else(QH xs n).put (Tz (xs.getD n ([],false,[])).1) (.lit (.int .i64 n))
set_option maxHeartbeats 4000000 in
set_option maxRecDepth 100000 in
def Aq0 (w:World) (b o c:Nat) (xs:List (Bs×Bool×Bs)) (hb:b<w.heap.size) (hc:ArH w b o xs) (hl:xs.length<=24) (hsz: ∀ x∈xs,x.1.length<=1048576) :
 Calls Tryz.prog 179 #[.slice (some ⟨b,o,none⟩) xs.length c] w λe w'=>e= .returned (.map (some w.heap.size))/\w'.ownsMap Tryz.prog 9 (plainElem Tryz.prog 3) w.heap.size xs.length (QH xs xs.length)/\Below w.heap.size w w':=by
 have hmm:= @run_makeMap Tryz.prog;generalize hn:xs.length=n at hl ⊢
 have hkx: ∀ k x,x=xs.getD k ([],false,[])->keyOf Tryz.prog 9 (.string ⟨x.1.toArray⟩)=some (Tz x.1):=λk x hx=>key_ok x.1 (by
  rw[hx];by_cases hk:k<xs.length
  .rw[List.getD,D8 hk];exact hsz _ (Ej hk)
  .rw[List.getD,Ed (by omega)];exact Eb _)
 go_enter Tryz.func179,Tryz.ntmps179
 go_wp2
 go_loopw [11] (λi wr=> ∃ k:Nat,k<=n/\i= .int .i64 k/\wr.ownsMap Tryz.prog 9 (plainElem Tryz.prog 3) w.heap.size k (QH xs k)/\Below w.heap.size w wr)
  (λi _=>n - (intOf i).toNat)
 case atStart=>exact⟨0,Eb _,rfl,World.ownsMap_made _ _ _ _,(Below.refl _ _).alloc (DD _) _⟩
 case round =>
  obtain⟨k,hk,rfl,hown,hnx⟩:=hrel;obtain⟨x,hx⟩: ∃ x,x=xs.getD k ([],false,[]):=⟨_,rfl⟩
  have c0:k<n->wr.cell? ⟨b,o+k*3,none⟩=some (.string ⟨x.1.toArray⟩):=λh=>by rw[hx];exact(hnx.cell (by exact hb)).trans (hc k (by omega)).1
  have c1:k<n->wr.cell? ⟨b,o+k*3+1,none⟩=some (.bool x.2.1):=λh=>by rw[hx];exact(hnx.cell (by exact hb)).trans (hc k (by omega)).2.1
  have c2:k<n->wr.cell? ⟨b,o+k*3+2,none⟩=some (.string ⟨x.2.2.toArray⟩):=λh=>by rw[hx];exact(hnx.cell (by exact hb)).trans (hc k (by omega)).2.2
  have hkey:keyOf Tryz.prog 9 (.string ⟨x.1.toArray⟩)=some (Tz x.1):=hkx k x hx;have hD:QH xs (k+1)=bif Maps.has (QH xs k) (Tz x.1)then QH xs k else(QH xs k).put (Tz x.1) (.lit (.int .i64 k)):=by rw[hx];rfl
  clear hx hc
  go_wp2_with (first
   | (at_lookup;refine wpList_lookup_own_ok_int _ rfl _ _ 183 rfl 9 3 .i64 Ave Avg Tryz.underlying3 (Awm _) w.heap.size k (QH xs k) rfl (hown.alloc _) _ _ rfl hkey ?_;intro c0 hat hwc)
   | (at_mapUpdate;refine wpList_mapUpdate_own _ rfl _ _ _ 183 rfl 9 3 Ave Avg _ w.heap.size k _ rfl (hown.alloc _) (by unfold maxLen;omega) _ _ _ rfl rfl hkey _ [] (plainElem_int Tryz.underlying3 (kwf k (by omega))) ?_;intro w1 hown1 hgrow1)
   | go_in)
  .rename_i hh;rw[show Maps.has (QH xs k) (Tz x.1)=false by simpa using hh]at hD;exact⟨⟨k+1,by omega,by rw[Int.natCast_add];rfl,(congrArg _ hD).mpr hown1,(hnx.alloc hnx.size _).grown hgrow1 (hnx.alloc hnx.size _).size (λj hj=>by cases hj;exact DD _)⟩,by simp [intOf];omega⟩
  .rename_i hh;rw[show Maps.has (QH xs k) (Tz x.1)=true by simpa using hh]at hD;exact⟨⟨k+1,by omega,by rw[Int.natCast_add];rfl,(congrArg _ hD).mpr ((hown.alloc _).mono (Nat.le_succ k)),hnx.alloc hnx.size _⟩,by simp [intOf];omega⟩
  .have:k=n:=by omega
   subst this
   go_ret
   exact⟨rfl,hown,hnx⟩
def AxU {a b:Bs} (h:a≠b):Tz a≠Tz b:=λe=>h (by injection e)
def AbY (xs:List (Bs×Bool×Bs)): ∀ m,IsMap (QH xs m)
 | 0=>⟨[],rfl⟩
 | m+1=>by
  rw[QH];cases Maps.has (QH xs m) (Tz (xs.getD m ([],false,[])).1)with
  | true=>exact AbY xs m
  | false=>exact(AbY xs m).put _ _
def fs (xs:List (Bs×Bool×Bs)) (s:Bs):Nat->Option Nat
 | 0=>none
 | m+1=>match fs xs s m with | some c=>some c | none=>bif (xs.getD m ([],false,[])).1==s then some m else none
def Awe {xs:List (Bs×Bool×Bs)} {s:Bs} {c:Nat}: ∀ {m:Nat},fs xs s m=some c->c<m
 | 0,h=>by cases h
 | m+1,h=>by
  rw[fs]at h;cases hm:fs xs s m with
  | some d=>rw[hm]at h;injection h with h;have:=Awe hm;omega
  | none =>
   rw[hm]at h;cases hb:(xs.getD m ([],false,[])).1==s with
   | true=>simp only[hb,cond_true]at h;injection h with h;omega
   | false=>simp only[hb,cond_false]at h;cases h
def Aqp {xs:List (Bs×Bool×Bs)} {s:Bs} {c m:Nat} (h:fs xs s m=some c): ∀ d,fs xs s (m+d)=some c
 | 0=>h
 | d+1=>by rw[<- EE,fs,Aqp h d]
def AsE (xs:List (Bs×Bool×Bs)) (s:Bs): ∀ m,m<=xs.length->(fs xs s m).isSome=(xs.take m).any λy=>y.1==s
 | 0,_=>rfl
 | m+1,h=>by
  rw[fs,EY,D8 h,List.any_append,<- AsE xs s m (by omega),show xs.getD m ([],false,[])=xs[m] by rw[List.getD,D8 h];rfl];cases fs xs s m with
  | some c=>rfl
  | none=>show(bif (xs[m]).1==s then some m else none).isSome=(false||((xs[m]).1==s||false));cases (xs[m]).1==s<;>rfl
def AlN (xs:List (Bs×Bool×Bs)) (s:Bs): ∀ m,Maps.has (QH xs m) (Tz s)=(fs xs s m).isSome/\ ∀ c,fs xs s m=some c-> ∀ z,(QH xs m).atKey (Tz s) z= .lit (.int .i64 (c:Int))
 | 0=>⟨rfl,λc h=>by cases h⟩
 | m+1=>by
  obtain⟨h1,h2⟩:=AlN xs s m;rw[QH,fs];by_cases e:(xs.getD m ([],false,[])).1=s
  .rw[e,h1];cases hf:fs xs s m with
   | some c =>
    refine⟨?_,λd hd=> ?_⟩
    .exact h1.trans (by rw[hf])
    .exact h2 d (hf.trans hd)
   | none =>simp only[Es,cond_true,Option.isSome_none,cond_false,Option.isSome_some];refine⟨Maps.has_put_same (AbY xs m) (by trivial) _,λc hc z=> ?_⟩;injection hc with hc;rw[<- hc];exact Maps.atKey_put_same (AbY xs m) (by trivial) _ z
  .have e':=AxU (λh=>e h.symm);rw[Ei e];have hs:(match fs xs s m with | some c=>some c | none=>bif false then some m else none)=fs xs s m:=by cases fs xs s m<;>rfl
   rw[hs];cases Maps.has (QH xs m) (Tz (xs.getD m ([],false,[])).1)with
   | true=>exact⟨h1,h2⟩
   | false=>exact⟨(Maps.has_put_other e' _).trans h1,λc hc z=>(Maps.atKey_put_other e' _ z).trans (h2 c hc z)⟩
def AsJ (xs:List (Bs×Bool×Bs)) (k:Nat) (hk:k<xs.length): ∃ j:Nat,(∀ z,(QH xs xs.length).atKey (Tz (xs.getD k ([],false,[])).1) z= .lit (.int .i64 (j:Int)))/\decide ((j:Int)<(k:Int))=(xs.take k).any λy=>y.1==(xs.getD k ([],false,[])).1:=by
 generalize hs:(xs.getD k ([],false,[])).1=s;rw[<- AsE xs s k (by omega)];cases hf:fs xs s k with
 | some j =>have h1:=Aqp hf (xs.length - k);rw[show k+(xs.length - k)=xs.length by omega]at h1;exact⟨j,(AlN xs s _).2 j h1,Dk (by have:=Awe hf;omega)⟩
 | none =>
  have h0:fs xs s (k+1)=some k:=by rw[fs,hf,hs];simp
  have h1:=Aqp h0 (xs.length - (k+1));rw[show k+1+(xs.length - (k+1))=xs.length by omega]at h1;exact⟨k,(AlN xs s _).2 k h1,A0f⟩
def Ail {P:Program} {f:FuncId} {Jt J7:List Sh} {g:ShT Jt->Option (ShT (KY Jt J7))} (hS:Spec P f (Sig.of Jt J7 g)) (hp:Jt.all Sh.flat=true) (hr:(KY Jt J7).all Sh.flat=true) {a:ShT Jt} {o:ShT (KY Jt J7)} (h:g a=some o) (hd:WQ Jt (encs Jt a)=some a) (hn:Jt.length<=100/\J7.length=(KY Jt J7).length) {w:World} (hI:Inv (λ_ _=>none) w) :
 Calls P f ((encs Jt a).map rvA).toArray w λe w'=>e= .returned (AeB ((encs (KY Jt J7) o).map rvA).toArray)/\Below w.heap.size w w':=by
 refine(hS.2 (λ_ _=>none) w _ (encs Jt a) _ hI (by simp) (uJ Jt a) (by rw[uJ];exact hn.1) (λj hj=> ?_) (Sig.Ayc hd h)).mono ?_
 .rw[ZV _ j hj];exact Aph (lU (aZ Jt a hp) hj)
 .rintro e w' ⟨v,O',rfl,hcame⟩;obtain⟨us,h6,h7,h8⟩:=hcame.res;have hz:us.size=(encs (KY Jt J7) o).length:=h6.trans (hn.2.trans (uJ _ o).symm)
  have hu:us=((encs (KY Jt J7) o).map rvA).toArray:=by
   apply FC
   .simp [hz]
   .intro i h1 h2;have:=AoQ (lU (aZ _ o hr) (by omega)) (h8 i h1);rw[<- ZV _ i (by omega)]at this;simpa [Dv,h1,show i<(encs (KY Jt J7) o).length by omega]using this
  exact⟨by rw[h7,<- hu];rfl,hcame.moves.below⟩
def tl {N:Nat} {r q:Bool} {s:Bs} {f:Option Int} {d:Int} (h:(bif !r then some 11 else bif q then some 10 else Jq (SL N s) λr=>bif r != (0:Int)then some r else f)=some d):(r=false->d=11)/\(r=true->q=true->d=10)/\(r=true->q=false-> ∃ t,SL N s=some t/\(t≠0->d=t)/\(t=0->f=some d)):=by
 refine⟨?_,?_,?_⟩<;>rintro rfl
 .injection h with h;exact h.symm
 .rintro rfl;injection h with h;exact h.symm
 .rintro rfl;cases ht:SL N s with
  | none=>rw[ht]at h;cases h
  | some t =>
   rw[ht]at h;refine⟨t,rfl,λh0=> ?_,λh0=> ?_⟩
   .replace h:(bif t != 0 then some t else f)=some d:=h;rw[EM.2 h0]at h;injection h with h;exact h.symm
   .subst h0;exact h
def Aty {r:Bool} (h:(!r)=false):r=true:=by simpa using h
def Gd (w:World) (n:Nat) (D:DataW Unit) (W:World):Prop:=W.ownsMap Tryz.prog 9 (plainElem Tryz.prog 3) w.heap.size n D/\Below w.heap.size w W/\w.heap.size<W.heap.size
def Gd.step {w W W':World} {n:Nat} {D:DataW Unit} (h:Gd w n D W) (hb:Below W.heap.size W W'):Gd w n D W':=by obtain⟨⟨es,cl,h1,h2⟩,h3,h4⟩:=h;have:=hb.size;exact⟨⟨es,cl,(hb.block _ h4).trans h1,h2⟩,h3.trans (hb.mono (by omega)),by omega⟩
def Gd.inv {O0:Own} {w W:World} {n:Nat} {D:DataW Unit} (h:Gd w n D W) (hI:Inv O0 w):Inv (λ_ _=>none) W:=by
 refine⟨λg j p h'=> ?_,λg n h'=> ?_⟩
 .obtain⟨_,v,h2,h3⟩:=hI.1 g j p h';exact⟨rfl,v,(h.2.1.cell (p:=at' g j) (cell_lt h2)).trans h2,h3⟩
 .obtain⟨c,e,fr,h1,h2⟩:=hI.2 g n h';exact⟨c,e,fr,(h.2.1.block g (DX.1 h1).1).trans h1,h2⟩
set_option maxHeartbeats 4000000 in
set_option maxRecDepth 100000 in
def ApN (N:Nat) {O0:Own} (w:World) (hI:Inv O0 w) (b o c:Nat) (xs:List (Bs×Bool×Bs)) (hb:b<w.heap.size) (hc:ArH w b o xs) (h0:0<xs.length) (hl:xs.length<=24) (hsz: ∀ x∈xs,x.1.length<=1048576) {d:Int} (hd:Us N [] xs=some d) :
 Calls Tryz.prog 68 #[.slice (some ⟨b,o,none⟩) xs.length c] w λe w'=>e= .returned (.int .i64 d)/\Below w.heap.size w w':=by
 have hix:=Aq0 w b o c xs hb hc hl hsz;have hfi:=AsJ xs;have hkx:=λk (h:k<xs.length)=>key_ok (xs.getD k ([],false,[])).1 (by rw[List.getD,D8 h];exact hsz _ (Ej h));generalize hn:xs.length=n at hl h0 hix hfi hkx ⊢
 go_enter Tryz.func68,Tryz.ntmps68
 go_wp2_with (first | (go_at_call 179;refine hix.mono ?_;rintro e w1 ⟨rfl,hown,hB1⟩) | go_in)
 go_loopw [17] (λi wr=> ∃ k:Nat,k<=n/\i= .int .i64 k/\Gd w n (QH xs n) wr/\Us N (xs.take k) (xs.drop k)=some d)
  (λi _=>n - (intOf i).toNat)
 case atStart=>exact⟨0,Eb _,rfl,⟨hown,hB1,hown.lt⟩,hd⟩
 case round =>
  obtain⟨k,hk,rfl,hG,hrest⟩:=hrel;rcases Eh k n with hkn | hkn
  .have hkey:=hkx k hkn;obtain⟨j,hj1,hj2⟩:=hfi k hkn;have hrow:=hc k (by omega);generalize hx:xs.getD k ([],false,[])=x at hkey hj1 hj2 hrow;have e:xs[k]=x:=by rw[<- hx,List.getD,D8 (by omega)];rfl
   have e2:xs.take k++[x]=xs.take (k+1):=by rw[<- e,EY,D8 (by omega)];rfl
   have hg:=λp=>hG.2.1.cell (p:=⟨b,p,none⟩) hb;have c0:=(hg _).trans hrow.1;have c1:=(hg _).trans hrow.2.1;have c2:=(hg _).trans hrow.2.2;rw[EN (by omega),e,Us,<- hj2,e2]at hrest;cases hr:Pj N x.1 with
   | none=>rw[hr]at hrest;cases hrest
   | some r =>
   rw[hr]at hrest;obtain⟨t1,t2,t3⟩:=tl hrest;obtain⟨W,hW⟩: ∃ W,W=wr.alloc (Obj.cells #[Value.string ⟨x.1.toArray⟩,Value.bool x.2.1,Value.string ⟨x.2.2.toArray⟩] 118):=⟨_,rfl⟩
   have hGW:Gd w n (QH xs n) W:=by rw[hW];exact hG.step ((Below.refl _ _).alloc (DD _) _)
   have hz:wr.heap.size<W.heap.size:=by rw[hW];simp
   have d0:W.cell? ⟨wr.heap.size,0,none⟩=some (.string ⟨x.1.toArray⟩)/\W.cell? ⟨wr.heap.size,2,none⟩=some (.string ⟨x.2.2.toArray⟩):=by rw[hW];constructor<;>simp [go_sem]
   have C1:Calls Tryz.prog 180 #[.string ⟨x.1.toArray⟩] W λe w'=>e= .returned (.bool r)/\Below W.heap.size W w':=Ail (TV N) rfl rfl hr rfl (by decide) (hGW.inv hI);have C2: ∀ {V:World} {t:Int},Gd w n (QH xs n) V->SL N x.2.2=some t->Calls Tryz.prog 181 #[.string ⟨x.2.2.toArray⟩] V λe w'=>e= .returned (.int .i64 t)/\Below V.heap.size V w':=λhV ht=>Ail (sJ N) rfl rfl ht rfl (by decide) (hV.inv hI);clear hx e e2 hrow hfi hkx hix hr hg hrest
   go_wp2_with (first
    | (go_at_call 180;rw[<- hW];refine C1.mono ?_;rintro e w2 ⟨rfl,hb2⟩;have hG2:=hGW.step hb2;have d1:=(hb2.cell (p:=⟨wr.heap.size,0,none⟩) hz).trans d0.1;have d2:=(hb2.cell (p:=⟨wr.heap.size,2,none⟩) hz).trans d0.2)
    | (at_lookup;refine wpList_lookup_own_int _ rfl _ _ 183 rfl 9 3 .i64 Ave Avg Tryz.underlying3 (Awm _) w.heap.size n (QH xs n) rfl hG2.1 _ _ rfl hkey ?_;intro cI hat hwc;obtain rfl:cI=(j:Int):=by(have h:=hat.symm.trans (hj1 _));injection h with h;injection h)
    | (go_at_call 181;obtain⟨t,ht,t4,t5⟩:=t3 (Aty (by assumption)) (A0f);refine(C2 hG2 ht).mono ?_;rintro e w3 ⟨rfl,hb3⟩;have hG3:=hG2.step hb3)
    | go_in)
   .rename_i h;obtain rfl:=t1 (by simpa using h)
    go_ret
    exact⟨rfl,hG2.2.1⟩
   .obtain rfl:=t2 (Aty (by assumption)) (Dk)
    go_ret
    exact⟨rfl,hG2.2.1⟩
   .rename_i h;obtain rfl:=t4 (EM.1 h)
    go_ret
    exact⟨rfl,hG3.2.1⟩
   .rename_i h;exact⟨⟨k+1,by omega,by rw[Int.natCast_add];rfl,hG3,t5 (by simpa using h)⟩,by simp [intOf];omega⟩
  .rw[List.drop_of_length_le (by omega)]at hrest;injection hrest with e;subst e
   go_wp2
   go_ret
   exact⟨rfl,hG.2.1⟩
def uB (a:Option Addr) (c:Nat) (w:World):Calls Tryz.prog 68 #[.slice a 0 c] w λe w'=>e= .returned (.int .i64 7)/\Below w.heap.size w w':=by
 go_enter Tryz.func68,Tryz.ntmps68
 go_wp2
 go_ret
 exact⟨rfl,Below.refl _ _⟩
def ApL (a:Option Addr) (n c:Nat) (w:World) (h:24<n):Calls Tryz.prog 68 #[.slice a n c] w λe w'=>e= .returned (.int .i64 2)/\Below w.heap.size w w':=by
 go_enter Tryz.func68,Tryz.ntmps68
 go_wp2
 all_goals first | (exfalso;omega) | skip
 go_ret
 exact⟨rfl,Below.refl _ _⟩
noncomputable def ZR (N:Nat):Sig:=.of [.cell false (.sl 118 (.str (.bool (.str .nil))))] [.cell false (.int .i64)] (λa=>VF N a)
def Aji {N:Nat} {O:Own} {w:World} (hI:Inv O w) {vs:Array Value} (l:List (Bs×Bool×Bs)) (out:Int) (hv:vs.size=1) (hx0:J5 O w (vs.getD 0 undef) (.sl ⟨.str (.bool (.str .nil)),l⟩)) (h2':VF N l=some out) :
 Calls Tryz.prog 68 vs w λe' w'=> ∃ v O',e'= .returned v/\Came O w vs (ZR N) [.int .i64 out] v O' w':=by
 have hv1:vs= #[vs.getD 0 undef]:=by
  apply FC
  .exact hv
  .intro i h1 h2;have:i=0:=by simp at h2;omega
   subst this;simp [Dv,h1]
 have fin:Calls Tryz.prog 68 vs w (λe w'=>e= .returned (.int .i64 out)/\Below w.heap.size w w')->Calls Tryz.prog 68 vs w λe' w'=> ∃ v O',e'= .returned v/\Came O w vs (ZR N) [.int .i64 out] v O' w':=λhw=>hw.mono λe' w' hq =>
  ⟨_,O,hq.1,Below.moves hq.2,λb k _ h=>h,λb k _ h=>h,rfl,⟨#[.int .i64 out],rfl,rfl,λk hk=>by
    have hk0:k=0:=by simp at hk;omega
    subst hk0;exact J5.int (O:=O) (w:=w') .i64 out⟩,λj i hj=>absurd hj (by show(Le [.cell false (.sl 118 (.str (.bool (.str .nil))))] 0)[j]? ≠some i;simp [Le,KE])⟩
 refine fin ?_;unfold VF at h2';rw[hv1];generalize vs.getD 0 undef=v0 at hx0;have hes0:(⟨.str (.bool (.str .nil)),l⟩:Sl).es=l.map (λx=>[A.str x.1,A.bool x.2.1,A.str x.2.2]):=rfl;have hsz:(⟨.str (.bool (.str .nil)),l⟩:Sl).sz=3:=rfl;generalize hL:(⟨.str (.bool (.str .nil)),l⟩:Sl)=L at hx0 hes0 hsz;have hlen:L.es.length=l.length:=by rw[hes0,D5]
 have nil7: ∀ t,(⟨.str (.bool (.str .nil)),l⟩:Sl)=⟨t,[]⟩->7=out:=λt e=>by
  have:l=[]:=by injection e with h1 h2;subst h1;exact I4 h2
  rw[this]at h2';injection h2'
 cases hx0 with
 | nil t=>rw[<- nil7 t hL];exact uB _ _ _
 | sl0 ad t=>rw[<- nil7 t hL];exact uB _ _ _
 | @sl b off cap l' vs' hcap hm hr =>
  rw[hlen];cases he:l.isEmpty with
  | true =>rw[he]at h2';injection h2' with h2';rw[show l.length=0 by rw[G9.1 he];rfl,<- h2'];exact uB _ _ _
  | false =>
   rw[he,cond_false]at h2'
   have h0:0<l.length:=by
    cases l with
    | nil=>cases he
    | cons _ _=>simp
   by_cases h24:24<l.length
   .rw[Dk h24]at h2';injection h2' with h2';rw[<- h2'];exact ApL _ _ _ _ h24
   .rw[Dq h24,cond_false]at h2';cases ha:l.all (λx=>decide (x.1.length<=1048576))with
    | false=>rw[ha]at h2';cases h2'
    | true =>
     rw[ha,cond_true]at h2';have row: ∀ k,k<l.length->L.es.getD k []=[A.str (l.getD k ([],false,[])).1,A.bool (l.getD k ([],false,[])).2.1,A.str (l.getD k ([],false,[])).2.2]:=λk hk=>by rw[hes0];simp [Dn,hk]
     have cell: ∀ k j,k<l.length->j<3->w.cell? ⟨b,off+(k*3+j),none⟩=some (vs' k j)/\J5 O w (vs' k j) ((L.es.getD k []).getD j .undef):=λk j hk hj=>by have h1:=(hm k j (by rw[hlen];exact hk) (by rw[hsz];exact hj)).2;rw[hsz]at h1;exact⟨h1,hr k j (by rw[hlen];exact hk) (by rw[hsz];exact hj)⟩
     refine ApN N w hI b off cap l (cell_lt (cell 0 0 h0 (by omega)).1) (λk hk=> ?_) h0 (by omega) (λx hx=>DC (DI.1 ha x hx)) h2';obtain⟨a1,a2⟩:=cell k 0 hk (by omega);obtain⟨b1,b2⟩:=cell k 1 hk (by omega);obtain⟨d1,d2⟩:=cell k 2 hk (by omega);rw[row k hk]at a2 b2 d2;refine⟨a1.trans (congrArg some (SV a2)),b1.trans (congrArg some ?_),d1.trans (congrArg some (SV d2))⟩;have b2':J5 O w (vs' k 1) (.bool (l.getD k ([],false,[])).2.1):=b2;generalize vs' k 1=u at b2';cases b2';rfl
def Ahc (N:Nat):Spec Tryz.prog 68 (ZR N):=by refine⟨enters (fn:=Tryz.f68) (by kernel_rfl) (by kernel_rfl) (by decide),λO w vs xs rs hI hv hl _ hx hrs=> ?_⟩;obtain⟨l,out,h1,h2,h3⟩:=Sig.XR (Jt:=[.cell false (.sl 118 (.str (.bool (.str .nil))))]) (J7:=[.cell false (.int .i64)]) (f:=λa=>VF N a) hrs;subst h1;have h3':rs=[.int .i64 out]:=h3;subst h3';exact Aji hI l out hv (hx 0 (by show 0<1;omega)) h2
end Go.Proofs.YtacidcemomccpaaGreatDoor.Vm
