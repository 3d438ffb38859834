import Derived.Test.YtfgdgdnlglejbaaGreatDoorA1
import Derived.WalkKit
import Derived.Laws.IdiomCopy
import Derived.Laws.Cells
import Derived.Laws.Rows
import Derived.Laws.IdiomStrings
import Derived.Deep.MidRow
import Derived.ChangeKeysEq
import Derived.Lib.SmallJoins
import Derived.Lib.IndexBytes
import Derived.Laws.Cover3
import Derived.Laws.Pointers
import Derived.Laws.StructEq
set_option linter.all false
namespace Go.Proofs.YtfgdgdnlglejbaaGreatDoor.Vm
abbrev Own:=Nat->Nat->Option Nat
abbrev at' (b k:Nat):Addr:=⟨b,k,none⟩
inductive JA (O:Own) (w:World):Value->A->Prop
 | bool (b:Bool):JA O w (.bool b) (.bool b)
 | int (k:IntKind) (n:Int):JA O w (.int k n) (.int k n)
 | str (s:ByteArray):JA O w (.string s) (.str s.data.toList)
 | nil (t:Ty):JA O w (.slice none 0 0) (.sl ⟨t,[]⟩)
 | sl {b off cap:Nat} {l:Sl} (vs:Nat->Nat->Value) (hc:l.es.length<=cap)
    (hm: ∀ i j,i<l.es.length->j<l.sz->O b (off+(i*l.sz+j))=none/\w.cell? (at' b (off+(i*l.sz+j)))=some (vs i j))
    (hr: ∀ i j,i<l.es.length->j<l.sz->JA O w (vs i j) ((l.es.getD i []).getD j .undef)):JA O w (.slice (some (at' b off)) l.es.length cap) (.sl l)
 | sln {v:Value} {l:Sl} (h:JA O w v (.sl l)) (hn:l.xs=[]->v= .slice none 0 0):JA O w v (.sln l)
 | MO:JA O w (.pointer none) .MO
 | fn (f:Nat):JA O w (.func (.func f) #[] #[]) (.fn (f+1))
 | wZ:JA O w .nilFunc (.fn 0)
 | sl0 (a:Addr) (t:Ty):JA O w (.slice (some a) 0 0) (.sl ⟨t,[]⟩)
def N9 (O:Own) (w:World) (O':Own) (w':World):Prop:= ∀ b k u,O b k=none->w.cell? (at' b k)=some u->O' b k=none/\w'.cell? (at' b k)=some u
def Inv (O:Own) (w:World):Prop:=(∀ g j p,lM g j=some p->O g j=none/\ ∃ v,w.cell? (at' g j)=some v/\p v)/\ ∀ g n,Azi g=some n-> ∃ c e fr,w.heap[g]? =some (.cells c e fr)/\c.size=n
def JA.Ko {O O':Own} {w w':World} (hp:N9 O w O' w') {v:Value} {a:A} (h:JA O w v a):JA O' w' v a:=by
 induction h with
 | bool b=>exact .bool b
 | int k n=>exact .int k n
 | str s=>exact .str s
 | nil t=>exact .nil t
 | sl vs hc hm hr ih =>refine .sl vs hc (fun i j hi hj=> ?_) (fun i j hi hj=>ih i j hi hj);all_goals simp_all[hi,Own,N9,JA]
 | sln h hn ih=>exact .sln ih hn
 | MO=>exact .MO
 | fn f=>exact .fn f
 | wZ=>exact .wZ
 | sl0 a t=>exact .sl0 a t
inductive Shp where
 | box
 | arr (sz len:Nat)
 | mp
def Obj.shp:Obj->Shp
 | .box _=>.box
 | .arr _ _ l=>.arr l.sz l.es.length
 | .mp _=>.mp
def NU (w:World) (g:Nat) (cur:Array Value) (e:TypeId):Prop:= ∃ fr,w.heap[g]? =some (.cells cur e fr)/\(fr=(0,0)\/cur.size<=fr.1)
def NU.cell {w:World} {g:Nat} {cur:Array Value} {e:TypeId} (h:NU w g cur e) (k:Nat):w.cell? (at' g k)=cur[k]? :=by obtain⟨fr,h1,_⟩:=h;simp [World.cell?,h1]
def NU.frozen {w:World} {g:Nat} {cur:Array Value} {e:TypeId} (h:NU w g cur e) {k:Nat} (hk:k<cur.size):w.frozen? (at' g k)=false:=by obtain⟨fr,h1,h2⟩:=h;simp only[World.frozen?,h1];all_goals grind
def NU.lt {w:World} {g:Nat} {cur:Array Value} {e:TypeId} (h:NU w g cur e):g<w.heap.size:=by grind[NU]
theorem NU.same {w w':World} {g:Nat} {cur:Array Value} {e:TypeId} (h:NU w g cur e) (hb:w'.heap[g]? =w.heap[g]?):NU w' g cur e:=by grind[NU]
def NU.inj {w:World} {g:Nat} {cur cur':Array Value} {e e':TypeId} (h:NU w g cur e) (h':NU w g cur' e'):cur=cur'/\e=e':=by grind[NU]
def Oe (O:Own) (w:World) (v:Value):A->Prop
 | .agg cs=> ∃ vs:Array Value,v= .agg vs/\vs.size=cs.length/\ ∀ j,j<cs.length->JA O w (vs.getD j undef) (cs.getD j .undef)
 | a=>JA O w v a
def Oe.Ko {O O':Own} {w w':World} (hp:N9 O w O' w') {v:Value} {a:A} (h:Oe O w v a):Oe O' w' v a:=by
 cases a with
 | agg cs=>obtain⟨vs,h1,h2,h3⟩:=h;exact⟨vs,h1,h2,fun j hj=>(h3 j hj).Ko hp⟩
 | _=>exact JA.Ko hp h
def PX (O:Own) (w:World) (o:Nat) (v:Value) (l:Mp):Prop :=
 ∃ r es ck,v= .map (some r)/\w.heap[r]? =some (.map es ck)/\O r 0=some o/\es.size=l.l.length /\
  ∀(i:Nat) (p:l.kt.Val×l.vt.Val),l.l[i]? =some p-> ∃ e,es[i]? =some e/\Oe O w e.key (Qc (l.kt.cells p.1))/\Oe O w e.val (Qc (l.vt.cells p.2))
def A2T:Nat->Value->Value
 | 0,p=>p
 | f+1,p=>.func (.func f) #[] #[p]
def nM (O:Own) (w:World) (k:Nat) (v p:Value):Prop:= ∃ b j,v=A2T k (.pointer (some (at' b j)))/\O b j=none/\w.cell? (at' b j)=some p
def nM.Ko {O O':Own} {w w':World} (hp:N9 O w O' w') {k:Nat} {v p:Value} (h:nM O w k v p):nM O' w' k v p:=by obtain⟨b,j,h1,h2,h3⟩:=h;exact⟨b,j,h1,hp _ _ _ h2 h3⟩
section
variable (O:Own) (Ju:List (Nat×Obj)) (m:Nat->Value) (w:World)
def JP (v:Value):A->Prop
 | .undef=>v.oneCell'=true
 | .LJ=>v= .slice none 0 0
 | .ptr o off=>v.oneCell'=true/\match (J9 Ju o).map Obj.shp with
  | some .box=> ∃ b base,m o= .pointer (some (at' b base))/\v= .pointer (some (at' b (base+off)))
  | _=>True
 | .own o=>v.oneCell'=true/\match (J9 Ju o).map Obj.shp with
  | some (.arr _ _)=>v=m o
  | some .mp=>v=m o
  | _=>True
 | .Kr o i off=>v.oneCell'=true/\match (J9 Ju o).map Obj.shp with
  | some (.arr sz len)=>i<len-> ∃ g n cap,m o= .slice (some (at' g 0)) n cap/\v= .pointer (some (at' g (i*sz+off)))
  | _=>True
 | .clo k o=>v.oneCell'=true/\ ∃ p,p.oneCell'=true/\nM O w k v p/\match (J9 Ju o).map Obj.shp with
  | some .box=> ∃ b base,m o= .pointer (some (at' b base))/\p= .pointer (some (at' b base))
  | _=>True
 | .bsl o n=>v.oneCell'=true/\match (J9 Ju o).map Obj.shp with
  | some .box=> ∃ b base,m o= .pointer (some (at' b base))/\v= .slice (some (at' b base)) n n
  | _=>True
 | .osl o k=>v.oneCell'=true/\match (J9 Ju o).map Obj.shp with
  | some (.arr sz len)=>k<len-> ∃ g cap,m o= .slice (some (at' g 0)) len cap/\v= .slice (some (at' g (k*sz))) (len - k) (cap - k)
  | _=>True
 | .elt cs=> ∃ b off,v= .pointer (some (at' b off))/\ ∀ j,j<cs.length->O b (off+j)=none/\ ∃ u,w.cell? (at' b (off+j))=some u/\JA O w u (cs.getD j .undef)
 | .fn f=>JA O w v (.fn f)
 | .bool b=>JA O w v (.bool b)
 | .int k n=>JA O w v (.int k n)
 | .str s=>JA O w v (.str s)
 | .sl l=>JA O w v (.sl l)
 | .sln l=>JA O w v (.sln l)
 | .MO=>JA O w v .MO
 | _=>False
def T1 (v:Value):A->Prop
 | .agg cs=> ∃ vs:Array Value,v= .agg vs/\vs.size=cs.length/\ ∀ j,j<cs.length->JP O Ju m w (vs.getD j undef) (cs.getD j .undef)
 | a=>JP O Ju m w v a
def JH (v:Value):A->Prop
 | .undef=>True
 | .tup l=> ∃ vs:Array Value,v= .tuple vs/\vs.size=l.length/\ ∀ j,j<l.length->T1 O Ju m w (vs.getD j undef) (l.getD j .undef)
 | .cnd g a=>(g=true->T1 O Ju m w v a)/\(g=false->v=undef)
 | a=>T1 O Ju m w v a
def LK (o:Nat):Obj->Prop
 | .box cs=> ∃ b base,m o= .pointer (some (at' b base))/\ ∀ j,j<cs.length->O b (base+j)=some o/\w.frozen? (at' b (base+j))=false /\
  ∃ u,w.cell? (at' b (base+j))=some u/\JP O Ju m w u (cs.getD j .undef)
 | .arr e frz l=>(∀ x∈l.es,x.length=l.sz)/\((True/\l.es=[]/\m o= .slice none 0 0) \/
  (True/\ ∃ g cap cur,m o= .slice (some (at' g 0)) l.es.length cap/\NU w g cur e/\l.es.length<=cap/\cap<=maxLen/\cur.size=cap*l.sz /\
    (∀ i j,i<l.es.length->j<l.sz-> ∃ u,cur[i*l.sz+j]? =some u/\JA O w u ((l.es.getD i []).getD j .undef)) /\
    (∀ k,k<cur.size->l.es.length*l.sz<=k->O g k=some o)/\(∀ k,k<l.es.length*l.sz->O g k=if frz then none else some o)))
 | .mp l=>PX O w o (m o) l
end
structure Moves (O:Own) (T:Nat->Prop) (w w':World):Prop where
 os:w'.os=w.os
 tape:w'.tape=w.tape
 output:w'.output=w.output
 size:w.heap.size<=w'.heap.size
 blk: ∀ b,b<w.heap.size->w'.heap[b]? =w.heap[b]? \/(∃ c c' e fr,w.heap[b]? =some (.cells c e fr)/\w'.heap[b]? =some (.cells c' e fr)/\c'.size=c.size /\
  (∀ k,(∀ o,O b k=some o-> ¬ T o)->c'[k]? =c[k]?)/\ ∃ k o,k<c.size/\O b k=some o/\T o) \/
  ∃ es ck es' ck' o,w.heap[b]? =some (.map es ck)/\w'.heap[b]? =some (.map es' ck')/\O b 0=some o/\T o
def Moves.refl (O:Own) (T:Nat->Prop) (w:World):Moves O T w w:=⟨rfl,rfl,rfl,DW _,fun _ _=>.inl rfl⟩
def cell_lt {w:World} {b k:Nat} {u:Value} (h:w.cell? (at' b k)=some u):b<w.heap.size:=by
 rcases Ef b w.heap.size with hb | hb
 .exact hb
 .simp [World.cell?,FO hb]at h
def Moves.cell {O:Own} {T:Nat->Prop} {w w':World} (h:Moves O T w w') {b k:Nat} (hb:b<w.heap.size) (hk: ∀ o,O b k=some o-> ¬ T o) :
 w'.cell? (at' b k)=w.cell? (at' b k):=by
 rcases h.blk b hb with he | ⟨c,c',e,fr,h1,h2,_,h4,_⟩ | ⟨es,ck,es',ck',o,h1,h2,_,_⟩
 .simp [World.cell?,he]
 .simp [World.cell?,h1,h2,h4 k hk]
 .simp [World.cell?,h1,h2]
def Moves.frozen {O:Own} {T:Nat->Prop} {w w':World} (h:Moves O T w w') {b k:Nat} (hb:b<w.heap.size):w'.frozen? (at' b k)=w.frozen? (at' b k):=by
 rcases h.blk b hb with he | ⟨c,c',e,fr,h1,h2,_,_,_⟩ | ⟨es,ck,es',ck',o,h1,h2,_,_⟩
 .simp [World.frozen?,he]
 .simp [World.frozen?,h1,h2]
 .simp [World.frozen?,h1,h2]
structure Passes (O O':Own) (T:Nat->Prop) (n:Nat):Prop where
 none: ∀ b k,b<n->O b k=none->O' b k=none
 keep: ∀ b k o,b<n->O b k=some o-> ¬ T o->O' b k=some o
def Moves.Ko {O O':Own} {T:Nat->Prop} {w w':World} (h:Moves O T w w') (hp:Passes O O' T w.heap.size):N9 O w O' w':=by intro b k u hn hc;have hb:=cell_lt hc;exact⟨hp.none b k hb hn,by rw[h.cell hb (fun o ho=>by rw[hn]at ho;cases ho)];exact hc⟩
def SB (Ju:List (Nat×Obj)) (m:Nat->Value) (objs':List (Nat×Obj)) (m':Nat->Value) (Nw:Nat->Prop):Prop :=
 ∀ o x',J9 objs' o=some x'->Nw o\/ ∃ x,J9 Ju o=some x/\x.shp=x'.shp/\m' o=m o
def JP.step {O O':Own} {Ju objs':List (Nat×Obj)} {m m':Nat->Value} {w w':World} {Nw:Nat->Prop} (hp:N9 O w O' w') (he:SB Ju m objs' m' Nw)
 {v:Value} {a:A} (hn: ∀ o∈a.Nz,¬ Nw o) (h:JP O Ju m w v a):JP O' objs' m' w' v a:=by
 have key: ∀ o,o∈a.Nz-> ∀ x',J9 objs' o=some x'-> ∃ x,J9 Ju o=some x/\x.shp=x'.shp/\m' o=m o :=
  fun o ho x' hx=>(he o x' hx).resolve_left (hn o ho)
 cases a with
 | undef=>exact h
 | LJ=>exact h
 | ptr o off =>
  simp only[JP]at *
  refine⟨h.1,?_⟩;have h:=h.2;cases hx:J9 objs' o with
  | none=>simp
  | some x' =>obtain⟨x,h1,h2,h3⟩:=key o (by simp [A.Nz]) x' hx;rw[h1]at h;simp only[Option.map_some,h2]at h;simp only[Option.map_some,h3];exact h
 | own o =>
  simp only[JP]at *
  refine⟨h.1,?_⟩;have h:=h.2;cases hx:J9 objs' o with
  | none=>simp
  | some x' =>obtain⟨x,h1,h2,h3⟩:=key o (by simp [A.Nz]) x' hx;rw[h1]at h;simp only[Option.map_some,h2]at h;simp only[Option.map_some,h3];exact h
 | Kr o i off =>
  simp only[JP]at *
  refine⟨h.1,?_⟩;have h:=h.2;cases hx:J9 objs' o with
  | none=>simp
  | some x' =>obtain⟨x,h1,h2,h3⟩:=key o (by simp [A.Nz]) x' hx;rw[h1]at h;simp only[Option.map_some,h2]at h;simp only[Option.map_some,h3];exact h
 | clo k o =>
  simp only[JP]at *
  obtain⟨h0,p,h4,h5,h⟩:=h;refine⟨h0,p,h4,h5.Ko hp,?_⟩;cases hx:J9 objs' o with
  | none=>simp
  | some x' =>obtain⟨x,h1,h2,h3⟩:=key o (by simp [A.Nz]) x' hx;rw[h1]at h;simp only[Option.map_some,h2]at h;simp only[Option.map_some,h3];exact h
 | bsl o n =>
  simp only[JP]at *
  refine⟨h.1,?_⟩;have h:=h.2;cases hx:J9 objs' o with
  | none=>simp
  | some x' =>obtain⟨x,h1,h2,h3⟩:=key o (by simp [A.Nz]) x' hx;rw[h1]at h;simp only[Option.map_some,h2]at h;simp only[Option.map_some,h3];exact h
 | osl o n =>
  simp only[JP]at *
  refine⟨h.1,?_⟩;have h:=h.2;cases hx:J9 objs' o with
  | none=>simp
  | some x' =>obtain⟨x,h1,h2,h3⟩:=key o (by simp [A.Nz]) x' hx;rw[h1]at h;simp only[Option.map_some,h2]at h;simp only[Option.map_some,h3];exact h
 | elt cs =>obtain⟨b,off,hv,hc⟩:=h;refine⟨b,off,hv,fun j hj=> ?_⟩;obtain⟨h1,u,h2,h3⟩:=hc j hj;obtain⟨h4,h5⟩:=hp _ _ _ h1 h2;exact⟨h4,u,h5,h3.Ko hp⟩
 | fn f=>exact JA.Ko hp h
 | ump _=>exact h
 | bool b=>exact JA.Ko hp h
 | int k n=>exact JA.Ko hp h
 | str s=>exact JA.Ko hp h
 | sl l=>exact JA.Ko hp h
 | sln l=>exact JA.Ko hp h
 | MO=>exact JA.Ko hp h
 | usl _ _ _=>exact h
 | agg _=>exact h
 | tup _=>exact h
 | box _=>exact h
 | cbx _ _=>exact h
 | cnd _ _=>exact h
def UO {α β :Type} {f: α ->List β} {l:List α} {d: α} {j:Nat} (hj:j<l.length) {x: β} (hx:x∈f (l.getD j d)):x∈l.flatMap f:=by grind
def T1.step {O O':Own} {Ju objs':List (Nat×Obj)} {m m':Nat->Value} {w w':World} {Nw:Nat->Prop} (hp:N9 O w O' w') (he:SB Ju m objs' m' Nw)
 {v:Value} {a:A} (hn: ∀ o∈a.Ayu,¬ Nw o) (h:T1 O Ju m w v a):T1 O' objs' m' w' v a:=by
 cases a with
 | agg cs =>obtain⟨vs,h1,h2,h3⟩:=h;exact⟨vs,h1,h2,fun j hj=>(h3 j hj).step hp he fun o ho=>hn o (UO hj ho)⟩
 | cnd g a=>exact h
 | _ =>simp only[T1]at h ⊢;refine JP.step hp he ?_ h;exact hn
def JH.step {O O':Own} {Ju objs':List (Nat×Obj)} {m m':Nat->Value} {w w':World} {Nw:Nat->Prop} (hp:N9 O w O' w') (he:SB Ju m objs' m' Nw)
 {v:Value} {a:A} (hn: ∀ o∈a.ids,¬ Nw o) (h:JH O Ju m w v a):JH O' objs' m' w' v a:=by
 cases a with
 | undef=>trivial
 | tup l =>obtain⟨vs,h1,h2,h3⟩:=h;exact⟨vs,h1,h2,fun j hj=>(h3 j hj).step hp he fun o ho=>hn o (UO hj ho)⟩
 | cnd g a =>
  refine⟨fun hg=> ?_,h.2⟩;have h':=h.1 hg;cases a with
  | cnd _ _=>exact h'
  | _=>exact T1.step hp he hn h'
 | _ =>simp only[JH]at h ⊢;refine T1.step hp he ?_ h;exact hn
def PX.step {O O':Own} {w w':World} {T:Nat->Prop} (hm:Moves O T w w') (hp:Passes O O' T w.heap.size) {o:Nat} {v:Value} {l:Mp} (ho: ¬ T o) (h:PX O w o v l):PX O' w' o v l:=by
 obtain⟨r,es,ck,h1,h2,h3,h4,h5⟩:=h;have hr:r<w.heap.size:=(DX.1 h2).1;refine⟨r,es,ck,h1,?_,hp.keep _ _ _ hr h3 ho,h4,fun i p hip=> ?_⟩
 .rcases hm.blk r hr with he | ⟨c,c',e,fr,g1,_⟩ | ⟨es1,ck1,es',ck',o',g1,g2,g3,g4⟩;all_goals grind
 .obtain⟨e,k1,k2,k3⟩:=h5 i p hip;exact⟨e,k1,k2.Ko (hm.Ko hp),k3.Ko (hm.Ko hp)⟩
def LK.step {O O':Own} {Ju objs':List (Nat×Obj)} {m m':Nat->Value} {w w':World} {Nw T:Nat->Prop} (hm:Moves O T w w') (hp:Passes O O' T w.heap.size) (he:SB Ju m objs' m' Nw)
 {o:Nat} {x:Obj} (ho: ¬ T o) (hmo:m' o=m o) (hn: ∀ i∈x.ids,¬ Nw i) (h:LK O Ju m w o x):LK O' objs' m' w' o x:=by
 have hpr:=hm.Ko hp;cases x with
 | box cs =>obtain⟨b,base,h1,h2⟩:=h;refine⟨b,base,by rw[hmo];exact h1,fun j hj=> ?_⟩;obtain⟨h3,h4,u,h5,h6⟩:=h2 j hj;have hb:=cell_lt h5;refine⟨hp.keep _ _ _ hb h3 ho,by rw[hm.frozen hb];exact h4,u,?_,h6.step hpr he fun i hi=>hn i (UO hj hi)⟩;rw[hm.cell hb (fun o' ho'=>by rw[h3]at ho';injection ho' with ho';subst ho';exact ho)];exact h5
 | arr e frz l =>
  obtain⟨h0,h⟩:=h;refine⟨h0,?_⟩;rcases h with ⟨h1,h2,h3⟩ | ⟨h1,g,cap,cur,h2,h3,h4,h5,h6,h7,h8,h9⟩
  .grind
  .refine .inr ⟨h1,g,cap,cur,by rw[hmo];exact h2,?_,h4,h5,h6,?_,?_,?_⟩
   .have hg:g<w.heap.size:=h3.lt;rcases hm.blk g hg with hE | ⟨c,c',e',fr,hA,hB,hC,hD,k,o',hk,hK,hT⟩ | ⟨es1,ck1,es',ck',o',g1,_⟩
    .exact h3.same hE
    .obtain⟨fr0,h3,_⟩:=h3;all_goals grind
    .obtain⟨fr0,h3,_⟩:=h3;rw[h3]at g1;injection g1 with g1;cases g1
   .intro i j hi hj;obtain⟨u,hu,hr⟩:=h7 i j hi hj;exact⟨u,hu,hr.Ko hpr⟩
   .intro k hk hge;have hg:g<w.heap.size:=h3.lt;exact hp.keep _ _ _ hg (h8 k hk hge) ho
   .intro k hk;have hg:g<w.heap.size:=h3.lt;have:=h9 k hk;cases frz
    .simp at this ⊢;exact hp.keep _ _ _ hg this ho
    .simp at this ⊢;exact hp.none _ _ hg this
 | mp l =>have h:PX O w o (m o) l:=h;show PX O' w' o (m' o) l;rw[hmo];exact h.step hm hp ho
theorem XV (a b:Nat):Nat.beq a b=decide (a=b):=by
 cases h:Nat.beq a b with
 | true=>simp_all
 | false=>simp [Nat.ne_of_beq_eq_false h]
theorem O9 (q:Nat) (x:Obj) (r:List (Nat×Obj)) (k:Nat):J9 ((q,x)::r) k=if q=k then some x else J9 r k:=by grind[J9,XV]
theorem Ae9 (q:Nat) (x:Obj) (r:List (Nat×Obj)) (n:Nat):TZ ((q,x)::r) n=if q=n then TZ r n else(q,x)::TZ r n:=by grind[TZ,XV]
theorem vV (l:List (Nat×Obj)) (n k:Nat):J9 (TZ l n) k=if k=n then none else J9 l k:=by
 induction l with
 | nil=>simp [TZ,J9]
 | cons p r ih=>grind[Ae9,O9]
theorem AvH (l:List (Nat×Obj)) (n:Nat) (y:Obj) (k:Nat) (hn:J9 l n=none):J9 (jS l n y) k=if k=n then some y else J9 l k:=by
 induction l with
 | nil=>grind[jS,O9]
 | cons p r ih=>grind[O9,jS]
theorem KE (l:List (Nat×Obj)) (n:Nat) (y:Obj) (k:Nat):J9 (Md l n y) k=if k=n then some y else J9 l k:=by grind[Md,AvH,vV]
def Vx (d:List Nat): ∀(l:List (Nat×Obj)) (k:Nat),J9 (Ky l d) k=if k∈d then none else J9 l k:=by
 induction d with
 | nil=>grind[Ky]
 | cons n r ih=>grind[Ky,vV]
theorem Na (u:List (Nat×Obj)): ∀(l:List (Nat×Obj)) (k:Nat),(∀ p∈u,p.1≠k)->J9 (JI l u) k=J9 l k:=by
 induction u with
 | nil=>intro l k _;rfl
 | cons p r ih=>grind[JI,KE]
def OY (u:List (Nat×Obj)): ∀(l:List (Nat×Obj)) (k:Nat),(∃ p∈u,p.1=k)-> ∃ x,(k,x)∈u/\J9 (JI l u) k=some x:=by
 induction u with
 | nil=>grind
 | cons p r ih =>
  obtain⟨n,x⟩:=p;intro l k h;by_cases hr: ∃ p∈r,p.1=k
  .obtain⟨y,hy,he⟩:=ih (Md l n x) k hr;exact⟨y,D5 _ hy,he⟩
  .grind[JI,Na,KE]
structure XM (P:Program) (t:Nat) (ti:TI):Prop where
 d:P.underlying t=some ti.d
 ck:OU P 20 t=some ti.cs
 cmp:ti.cmp=Aua P t ti.d
 i: ∃ i z,P.info? t=some i/\i.size=ti.cs.length/\i.bytes=ti.bytes/\i.zero=some z/\KL z.cells.toList ti.cs=true/\ZK ti.d=rE z
def Atu {P:Program} {t:Nat} {ti:TI} (h:An4 P t=some ti):XM P t ti:=by
 unfold An4 at h;split at h
 .rename_i d i cs hd hi hc;split at h
  .rename_i z hz;cases hb:(Nat.beq i.size cs.length&&KL z.cells.toList cs&&(ZK d==rE z))with
   | false=>rw[hb]at h;cases h
   | true =>rw[hb]at h;injection h with h;subst h;simp only[Dw]at hb;exact⟨hd,hc,rfl,i,z,hi,Dx hb.1.1,rfl,hz,hb.1.2,by simpa using hb.2⟩
  .cases h
 .cases h
def TOk (P:Program) (C:Ctx):Prop:= ∀ t ti,C.T t=some ti->An4 P t=some ti
def TOk.is {P:Program} {C:Ctx} (h:TOk P C) {t:Nat} {ti:TI} (ht:C.T t=some ti):XM P t ti:=Atu (h t ti ht)
section
variable {P:Program} {t:Nat} {ti:TI} (w:World)
def XM.run (h:XM P t ti):(underlying t).run P w= .ok ti.d w:=DY h.d w
def XM.Ql (h:XM P t ti):(sizeOf t).run P w= .ok ti.cs.length w:=by obtain⟨i,z,h1,h2,_⟩:=h.i;simp [sizeOf,typeInfo,h1,h2]
def XM.Aru (h:XM P t ti):(isAgg t).run P w= .ok ti.agg w:=by simp only[isAgg,DI,h.run,Result.andThen_ok,TI.agg];cases ti.d<;>rfl
def AjS (ti:TI):ti.agg=ZK ti.d:=by grind[TI.agg,ZK]
end
def JD (l:List Bool):Prop:= ∀ b∈l,b=true
theorem Wp {α :Type} {l:List Bool} {r:Option α} {x: α} (h:allT l r=some x):JD l/\r=some x:=by
 induction l with
 | nil=>grind[allT,JD]
 | cons c cs ih=>grind[allT,JD]
def JD.append {a b:List Bool} (h:JD (a++b)):JD a/\JD b:=by simp_all[JD]
def JD.cons {c:Bool} {a:List Bool} (h:JD (c::a)):c=true/\JD a:=by simp_all[JD]
theorem JD.nil:JD []:=fun _ h=>by cases h
theorem JQ: ¬ JD Dl.no.ok:=by simp_all[Dl.no,JD]
section
variable {P:Program} {C:Ctx} {O:Own} {Ju:List (Nat×Obj)} {m:Nat->Value} {a:Act} {w:World} {o:Oper}
def JP.toT {v:Value} {x:A} (h:JP O Ju m w v x):JH O Ju m w v x:=by cases x<;>first | trivial | exact h | exact h.elim
def T1.toT {v:Value} {x:A} (h:T1 O Ju m w v x):JH O Ju m w v x:=by cases x<;>first | trivial | exact h | exact h.elim
structure Pure (P:Program) (O:Own) (Ju:List (Nat×Obj)) (m:Nat->Value) (a:Act) (w:World) (o:Oper) (δ :Dl):Prop where
 run: ∃ v,(execOp a.eval o).run P w= .ok (.value v) w/\JH O Ju m w v δ.val
 new: δ.new=[]
 upd: δ.upd=[]
 del: δ.del=[]
def JH.int {v:Value} {k:IntKind} {n:Int} (h:JH O Ju m w v (.int k n)):v= .int k n:=by cases h;rfl
def JH.bool {v:Value} {b:Bool} (h:JH O Ju m w v (.bool b)):v= .bool b:=by cases h;rfl
def JH.str {v:Value} {s:List UInt8} (h:JH O Ju m w v (.str s)): ∃ b:ByteArray,v= .string b/\b.data.toList=s:=by cases h;exact⟨_,rfl,rfl⟩
def JH.mkInt (k:IntKind) (n:Int):JH O Ju m w (.int k n) (.int k n):=JA.int k n
def JH.RZ (b:Bool):JH O Ju m w (.bool b) (.bool b):=JA.bool b
def JH.mkStr (s:ByteArray) {l:List UInt8} (h:s.data.toList=l):JH O Ju m w (.string s) (.str l):=by subst h;exact JA.str s
def yA (s:ByteArray):s.toList=s.data.toList:=ByteArray.toList_eq s
def V7 (s:ByteArray):s.size=s.data.toList.length:=by rw[Array.length_toList];rfl
def AnZ {x:Operand} (ho:o.op= .move x\/o.op= .assign x) {y:A} (hx:JH O Ju m w (a.eval x) y):Pure P O Ju m a w o (.v y):=by refine⟨⟨a.eval x,?_,hx⟩,rfl,rfl,rfl⟩;rcases ho with ho | ho<;>simp [execOp,ho]
def Adc {v:Value} {x:A} (h:JH O Ju m w v x) (hg:x.Q5.1=true):JH O Ju m w v x.Q5.2:=by
 cases x with
 | cnd g y =>have:=h.1 hg;cases y<;>first | trivial | exact this | exact this.elim
 | _=>exact h
def Axj {c x y:Operand} (ho:o.op= .pick c x y) {c' x' y':A} (hc:JH O Ju m w (a.eval c) c') (hx:JH O Ju m w (a.eval x) x') (hy:JH O Ju m w (a.eval y) y')
 (hok:JD (Ap7 c' x' y').ok):Pure P O Ju m a w o (Ap7 c' x' y'):=by
 obtain⟨h0,h1⟩:=hok.cons;obtain⟨h1,h2⟩:=h1.cons;obtain⟨h2,h3⟩:=h2.cons;have h3:=h3.cons.1;refine⟨?_,rfl,rfl,rfl⟩;have hc':=Adc hc h0;unfold Ap7;simp only[Dl.g];generalize c'.Q5.2=cc at *
 obtain⟨q,rfl⟩: ∃ q,cc= .bool q:=by cases cc<;>simp [A.isB]at h1;exact⟨_,rfl⟩
 have:=hc'.bool;cases q with
 | true =>
  simp only[A.toB,cond_true]at h2 h3 ⊢;have hx':=Adc hx h2;generalize x'.Q5.2=xx at *
  cases xx<;>simp [A.isB]at h3;exact⟨a.eval x,by simp [execOp,ho,asBool,this],hx'⟩
 | false =>
  simp only[A.toB,cond_false]at h2 h3 ⊢;have hy':=Adc hy h2;generalize y'.Q5.2=yy at *
  cases yy<;>simp [A.isB]at h3;exact⟨a.eval y,by simp [execOp,ho,asBool,this],hy'⟩
theorem RX {j k:IntKind} (h:A.kEq j k=true):j=k:=by cases j<;>cases k<;>first | rfl | cases h
def AxM {op:BinOp} {k:IntKind} {x y:Int} (hok:JD (AeC op k x y).ok) (t:TypeId) (hop:op≠ .shl) (hop':op≠ .shr) :
 ∃ v,(binOp op t (.int k x) (.int k y)).run P w= .ok v w/\JH O Ju m w v (AeC op k x y).val/\(AeC op k x y).new=[]/\(AeC op k x y).upd=[]/\(AeC op k x y).del=[]:=by
 have ha: ∀ op,op= .add\/op= .sub\/op= .mul->binOp op t (.int k x) (.int k y)=Op.intArith op k x y:=by rintro op (rfl | rfl | rfl)<;>simp [binOp]
 have hd: ∀ op,op= .quo\/op= .rem->binOp op t (.int k x) (.int k y)=Op.intDiv op k x y:=by rintro op (rfl | rfl)<;>simp [binOp]
 have hb: ∀ op,op= .and\/op= .or\/op= .xor\/op= .andNot->binOp op t (.int k x) (.int k y)=Op.intBits op k x y:=by rintro op (rfl | rfl | rfl | rfl)<;>simp [binOp]
 have hc: ∀ op,op= .eql\/op= .neq\/op= .lss\/op= .leq\/op= .gtr\/op= .geq->binOp op t (.int k x) (.int k y)=Op.intCmp op x y:=by rintro op (rfl | rfl | rfl | rfl | rfl | rfl)<;>simp [binOp]
 cases op with
 | shl=>exact absurd rfl hop
 | shr=>exact absurd rfl hop'
 | add=>rw[ha _ (by simp)];exact⟨_,rfl,.mkInt _ _,rfl,rfl,rfl⟩
 | sub=>rw[ha _ (by simp)];exact⟨_,rfl,.mkInt _ _,rfl,rfl,rfl⟩
 | mul=>rw[ha _ (by simp)];exact⟨_,rfl,.mkInt _ _,rfl,rfl,rfl⟩
 | quo =>
  have h0:y≠0:=by simpa [AeC,Dl.g]using hok.cons.1
  rw[hd _ (by simp)];exact⟨.int k (k.wrap (x.tdiv y)),by simp [Op.intDiv,h0],.mkInt _ _,rfl,rfl,rfl⟩
 | rem =>
  have h0:y≠0:=by simpa [AeC,Dl.g]using hok.cons.1
  rw[hd _ (by simp)];exact⟨.int k (x.tmod y),by simp [Op.intDiv,h0],.mkInt _ _,rfl,rfl,rfl⟩
 | and=>rw[hb _ (by simp)];exact⟨_,rfl,.mkInt _ _,rfl,rfl,rfl⟩
 | or=>rw[hb _ (by simp)];exact⟨_,rfl,.mkInt _ _,rfl,rfl,rfl⟩
 | xor=>rw[hb _ (by simp)];exact⟨_,rfl,.mkInt _ _,rfl,rfl,rfl⟩
 | andNot=>rw[hb _ (by simp)];exact⟨_,rfl,.mkInt _ _,rfl,rfl,rfl⟩
 | eql=>rw[hc _ (by simp)];exact⟨_,rfl,.RZ _,rfl,rfl,rfl⟩
 | neq=>rw[hc _ (by simp)];exact⟨_,rfl,.RZ _,rfl,rfl,rfl⟩
 | lss=>rw[hc _ (by simp)];exact⟨_,rfl,.RZ _,rfl,rfl,rfl⟩
 | leq=>rw[hc _ (by simp)];exact⟨_,rfl,.RZ _,rfl,rfl,rfl⟩
 | gtr=>rw[hc _ (by simp)];exact⟨_,rfl,.RZ _,rfl,rfl,rfl⟩
 | geq=>rw[hc _ (by simp)];exact⟨_,rfl,.RZ _,rfl,rfl,rfl⟩
def AxN {op:BinOp} {x y:ByteArray} {x' y':List UInt8} (hx:x.data.toList=x') (hy:y.data.toList=y') (hok:JD (AeD op x' y').ok) (t:TypeId) :
 ∃ v,(binOp op t (.string x) (.string y)).run P w= .ok v w/\JH O Ju m w v (AeD op x' y').val/\(AeD op x' y').new=[]/\(AeD op x' y').upd=[]/\(AeD op x' y').del=[]:=by
 subst hx hy;have hs: ∀ op,op≠ .shl->op≠ .shr->binOp op t (.string x) (.string y)=Op.stringOp op x y:=by intro op _ _;cases op<;>rfl
 cases op<;>first
  | exact(JQ hok).elim
  | (rw [hs _ (by simp) (by simp)]
     refine⟨_,rfl,?_,rfl,rfl,rfl⟩;simp only[AeD,Dl.v,yA,bytesLess];exact .RZ _)
  | (have h0:x.data.toList.length+y.data.toList.length<=140737488355328:=by simpa [AeD,Dl.g]using hok.cons.1
     rw[hs _ (by simp) (by simp)];refine⟨.string (x++y),?_,?_,rfl,rfl,rfl⟩
     .have: ¬(((x.size+y.size:Nat):Int)>IntKind.i64.max):=by
       rw[<- V7,<- V7]at h0;rw[show IntKind.i64.max=9223372036854775807 from rfl];omega
      simp only[Op.stringOp,this,FZ];rfl
     .exact .mkStr _ (Go.Joins.data_append x y))
end
def Aqe {P:Program} {w:World} {op:BinOp} {t:TypeId} {x y:Operand} {v u:Value} (h: ∀ cs,v≠ .agg cs) (h':v≠ .nilIface):(eqGuard op t x y v u).run P w= .ok () w:=by unfold eqGuard;all_goals simp_all
section
variable {P:Program} {C:Ctx} {O:Own} {Ju:List (Nat×Obj)} {m:Nat->Value} {a:Act} {w:World} {o:Oper} {fet:Fet}
def FOk (O:Own) (Ju:List (Nat×Obj)) (m:Nat->Value) (w:World) (fet:Fet):Prop:= ∀ o x,J9 fet o=some x->J9 Ju o=some x/\LK O Ju m w o x
def JV {α :Type} {x:Option α} {k: α ->Dl} (hok:JD (Kv x k).ok): ∃ y,x=some y/\Kv x k=k y:=by
 cases x with
 | none=>exact(JQ hok).elim
 | some y=>exact⟨y,rfl,rfl⟩
theorem KC {t:Nat} {k:TI->Dl} (hok:JD (MS C t k).ok): ∃ ti,C.T t=some ti/\MS C t k=k ti:=JV hok
def MH {n:Nat} {cs:List A} (h:MQ fet n=some cs):J9 fet n=some (.box cs):=by unfold MQ at h;split at h<;>simp_all
def NV {n:Nat} {r:Arr} (h:jT fet n=some r):J9 fet n=some (.arr r.e r.frz r.l):=by unfold jT at h;all_goals grind
def UK {d:TypeDesc} {e:Nat} (h:elem? d=some e):d= .slice e:=by unfold elem? at h;split at h<;>simp_all
def JH.own {v:Value} {n:Nat} {e:Nat} {frz:Bool} {l:Sl} (hf:FOk O Ju m w fet) (h:JH O Ju m w v (.own n)) (hx:J9 fet n=some (.arr e frz l)) :
 v=m n/\LK O Ju m w n (.arr e frz l):=by
 obtain⟨h1,h2⟩:=hf _ _ hx;refine⟨?_,h2⟩;have h':JP O Ju m w v (.own n):=h;all_goals grind[JP,Obj.shp]
def JH.ptr {v:Value} {n off:Nat} {cs:List A} (hf:FOk O Ju m w fet) (h:JH O Ju m w v (.ptr n off)) (hx:J9 fet n=some (.box cs)) :
 ∃ b base,m n= .pointer (some (at' b base))/\v= .pointer (some (at' b (base+off)))/\ ∀ j,j<cs.length->O b (base+j)=some n/\w.frozen? (at' b (base+j))=false /\
  ∃ u,w.cell? (at' b (base+j))=some u/\JP O Ju m w u (cs.getD j .undef):=by
 obtain⟨h1,b,base,h2,h3⟩:=hf _ _ hx;have h':JP O Ju m w v (.ptr n off):=h;all_goals grind[JP,Obj.shp]
def JH.MO {v:Value} (h:JH O Ju m w v .MO):v= .pointer none:=by cases h;rfl
def AqI {t e:Nat} {v:Value} {b:Bool} (hu:P.underlying t=some (.slice e)) (h:(v= .slice none 0 0/\b=true)\/(∃ ad l c,v= .slice (some ad) l c)/\b=false) :
 (Op.equal t v (.slice none 0 0)).run P w= .ok b w:=by
 rcases h with ⟨rfl,rfl⟩ | ⟨⟨ad,l,c,rfl⟩,rfl⟩<;>rw[run_equal_slice_nil w t e _ _ _ hu]<;>rfl
def AwS {t e:Nat} {v:Value} {b:Bool} (hu:P.underlying t=some (.pointer e)) (h:(v= .pointer none/\b=true)\/(∃ ad,v= .pointer (some ad))/\b=false) :
 (Op.equal t v (.pointer none)).run P w= .ok b w:=by
 have hu':P.underlying t=some (.pointer (P.pointee t)):=by rw[hu];simp [Program.pointee,hu]
 rcases h with ⟨rfl,rfl⟩ | ⟨⟨ad,rfl⟩,rfl⟩<;>rw[run_equal_pointer_nil w t _ hu']<;>rfl
def Aoa {s:Bool} {t:Nat} {d:TypeDesc} {x:A} {v:Value} {b:Bool} (hd:P.underlying t=some d) (hf:FOk O Ju m w fet) (hx:JH O Ju m w v x) (h:Alj fet s d x=some b) :
 (s=true/\(Op.equal t v (.slice none 0 0)).run P w= .ok b w/\ ∃ a l c,v= .slice a l c)\/(s=false/\(Op.equal t v (.pointer none)).run P w= .ok b w/\ ∃ a,v= .pointer a):=by
 unfold Alj at h;split at h
 .injection h with h;subst h;have hx':v= .slice none 0 0:=hx;exact .inl ⟨rfl,AqI hd (.inl ⟨hx',rfl⟩),_,_,_,hx'⟩
 .injection h with h;subst h;rename_i l;have hx':JA O w v (.sln l):=hx;cases hx' with
  | sln h hn =>
   cases hq:l.xs.isEmpty with
   | true=>simp_all[AqI,hd,FOk,JH,Alj]
   | false =>
    cases h with
    | nil=>cases hq
    | sl0=>cases hq
    | sl vs _ _ _=>simp_all[AqI,hd,FOk,JH,Alj]
 .injection h with h;subst h;cases hx;exact .inr ⟨rfl,AwS hd (.inl ⟨rfl,rfl⟩),_,rfl⟩
 .rename_i n off;cases hr:MQ fet n with
  | none=>rw[hr]at h;cases h
  | some cs =>rw[hr]at h;injection h with h;subst h;obtain⟨b,base,_,h2,_⟩:=hx.ptr hf (MH hr);exact .inr ⟨rfl,AwS hd (.inr ⟨⟨_,h2⟩,rfl⟩),_,h2⟩
 .cases h
def AsN {t:Nat} {x y:Bool} (hd:P.underlying t=some .bool):(Op.equal t (.bool x) (.bool y)).run P w= .ok (x==y) w:=by
 have: ∀ d,(Op.equalIn (d+1) t (.bool x) (.bool y)).run P w= .ok (x==y) w:=by intro d;simp [Op.equalIn,DY hd]
 exact this 9999
def Aly {t:Nat} {vs:Array Value} {off:Nat} {d:TypeDesc} (hd:P.underlying t=some d) (hp:ZK d=false) (h:off<vs.size):(part t vs off).run P w= .ok (vs.getD off undef) w:=by
 have hg:vs[off]? =some (vs.getD off undef):=by rw[Dq,DC h];rfl
 have ha:(isAgg t).run P w= .ok false w:=by simp only[isAgg,DI,DY hd,Result.andThen_ok];cases d<;>first | rfl | cases hp
 unfold part;all_goals simp_all
def JP.Az2 {v:Value} {b:Bool} (h:JP O Ju m w v (.bool b)):v= .bool b:=by cases h;rfl
def JP.A1C {v:Value} {k:IntKind} {n:Int} (h:JP O Ju m w v (.int k n)):v= .int k n:=by cases h;rfl
def JP.A2l {v:Value} {s:List UInt8} (h:JP O Ju m w v (.str s)): ∃ b:ByteArray,v= .string b/\b.data.toList=s:=by cases h;exact⟨_,rfl,rfl⟩
def AtW {d ty:Nat} {k:CK} {td:TypeDesc} {a b:A} {v u:Value} (hk:(k= .bool/\td= .bool)\/(∃ i,k= .int i/\td= .int i)\/(k= .str/\td= .string)) (hd:P.underlying ty=some td) (h1:JP O Ju m w v a) (h2:JP O Ju m w u b) (hok:(pM k a b).1=true) :
 (Op.equalIn (d+1) ty v u).run P w= .ok (pM k a b).2 w:=by
 rcases hk with ⟨rfl,rfl⟩ | ⟨i,rfl,rfl⟩ | ⟨rfl,rfl⟩
 .cases a<;>first | (cases hok;done) | skip
  cases b<;>first | (cases hok;done) | skip
  rw[h1.Az2,h2.Az2];exact run_equalIn_bool' w d ty _ _ hd
 .cases a<;>first | (cases hok;done) | skip
  cases b<;>first | (cases hok;done) | skip
  rename_i j x j' y;simp only[pM,Dw]at hok;rw[h1.A1C,h2.A1C,RX hok.1,RX hok.2];exact run_equalIn_int w d ty i i _ _ hd
 .cases a<;>first | (cases hok;done) | skip
  cases b<;>first | (cases hok;done) | skip
  obtain⟨s1,e1,l1⟩:=h1.A2l;obtain⟨s2,e2,l2⟩:=h2.A2l;rw[e1,e2,run_equalIn_string w d ty _ _ hd];simp only[pM,yA,l1,l2]
def Aqd {d:Nat} {vs us:Array Value} {x y:List A} (hx:vs.size=x.length) (hy:us.size=y.length) (hxr: ∀ j,j<x.length->JP O Ju m w (vs.getD j undef) (x.getD j .undef)) (hyr: ∀ j,j<y.length->JP O Ju m w (us.getD j undef) (y.getD j .undef)) :
 ∀(fs:List Field) (n:Nat) (ks:List CK),ZE P fs n=some ks->(Rq ks (x.drop n) (y.drop n)).1=true->(Op.eqFields (d+1) vs us fs).run P w= .ok (Rq ks (x.drop n) (y.drop n)).2 w:=by
 intro fs
 induction fs with
 | nil =>
  intro n ks h hok;injection h with h;subst h
  have:Rq [] (x.drop n) (y.drop n)=(true,true):=by
   cases hx:x.drop n with
   | nil=>cases hy:y.drop n with
    | nil=>rfl
    | cons _ _=>rw[hx,hy]at hok;cases hok
   | cons _ _=>rw[hx]at hok;cases hok
  rw[this];rfl
 | cons f fs ih =>
  intro n ks h hok
  have key: ∀(k:CK) (td:TypeDesc) (ks':List CK),((k= .bool/\td= .bool)\/(∃ i,k= .int i/\td= .int i)\/(k= .str/\td= .string))->P.underlying f.type=some td->ZE P fs (n+1)=some ks'->(f.name != "_" &&Nat.beq f.offset n)=true->ks=k::ks' ->
   (Op.eqFields (d+1) vs us (f::fs)).run P w= .ok (Rq ks (x.drop n) (y.drop n)).2 w:=by
   intro k td ks' hk hd hf hn hks;subst hks;rw[Dw]at hn;have hnm:f.name≠ "_" :=by simpa using hn.1
   have hoff:=Dx hn.2;cases hxd:x.drop n with
   | nil=>rw[hxd]at hok;cases hok
   | cons a xr =>
    cases hyd:y.drop n with
    | nil=>rw[hxd,hyd]at hok;cases hok
    | cons b yr =>
     rw[hxd,hyd]at hok;simp only[Rq,Dw]at hok ⊢
     have hnx:n<x.length:=by
      rcases Ef n x.length with h | h
      .exact h
      .rw[GI h]at hxd;cases hxd
     have hny:n<y.length:=by
      rcases Ef n y.length with h | h
      .exact h
      .rw[GI h]at hyd;cases hyd
     have e1:x.getD n .undef=a:=by have:=congrArg List.head? hxd;rw[Jf]at this;rw[Dn,this];rfl
     have e2:y.getD n .undef=b:=by have:=congrArg List.head? hyd;rw[Jf]at this;rw[Dn,this];rfl
     have e3:x.drop (n+1)=xr:=by rw[<- Gz,hxd];rfl
     have e4:y.drop (n+1)=yr:=by rw[<- Gz,hyd];rfl
     have r1:=hxr n hnx;have r2:=hyr n hny;rw[e1]at r1;rw[e2]at r2;have hagg:ZK td=false:=by rcases hk with ⟨_,rfl⟩ | ⟨i,_,rfl⟩ | ⟨_,rfl⟩<;>rfl
     have p1:=Aly (P:=P) (w:=w) (vs:=vs) (off:=n) hd hagg (by omega);have p2:=Aly (P:=P) (w:=w) (vs:=us) (off:=n) hd hagg (by omega);have q:=AtW (d:=d) hk hd r1 r2 hok.1;have hrest:=ih (n+1) ks' hf (by rw[e3,e4];exact hok.2);rw[e3,e4]at hrest;simp only[Op.eqFields,hnm,ne_eq,not_false_eq_true,HY,DI,hoff,p1,p2,Result.andThen_ok,q];cases (pM k a b).2 with
     | false=>simp
     | true=>simpa using hrest
  unfold ZE at h;all_goals grind
def AsT {t:Nat} {ti:TI} (hT:XM P t ti) {vs us:Array Value} {x y:List A} (hx:vs.size=x.length) (hy:us.size=y.length) (hxr: ∀ j,j<x.length->JP O Ju m w (vs.getD j undef) (x.getD j .undef)) (hyr: ∀ j,j<y.length->JP O Ju m w (us.getD j undef) (y.getD j .undef))
 (h1:ti.cmp.isEmpty=false) (h2:(Rq ti.cmp x y).1=true):P.eqGuardType P.depth t=false/\(Op.equalIn 10000 t (.agg vs) (.agg us)).run P w= .ok (Rq ti.cmp x y).2 w:=by
 have hc:=hT.cmp;have hd:=hT.d;unfold Aua at hc;split at hc
 .rename_i fs hfs;split at hc
  .rename_i ks hks;cases hb:(!(P.stoodInHeld t)&& !(P.eqGuardType P.depth t))with
   | false=>grind
   | true =>
    rw[hb]at hc;simp only[cond_true]at hc;rw[hc]at h2 ⊢;rw[Dw,E5,E5]at hb;rw[hfs]at hd;have hf:P.fieldsOf t=fs:=by simp only[Program.fieldsOf,hd]
    refine⟨hb.2,?_⟩;rw[run_equalIn_agg w 9999 t vs us (by rw[hf];exact hd) hb.1,hf];exact Aqd (d:=9998) hx hy hxr hyr fs.toList 0 ks hks h2
  .grind
 .grind
def AxO {op:BinOp} {t ty:Nat} {x y:Operand} (hC:TOk P C) (hf:FOk O Ju m w fet) (ho:o.op= .binOp op t x y ty) {x' y':A} (hx:JH O Ju m w (a.eval x) x') (hy:JH O Ju m w (a.eval y) y')
 (hok:JD (AtL C fet op t x' y').ok):Pure P O Ju m a w o (AtL C fet op t x' y'):=by
 have fin: ∀ {v u:Value} {δ :Dl},a.eval x=v->a.eval y=u->(∀ cs,v≠ .agg cs)->v≠ .nilIface->(∃ r,(binOp op t v u).run P w= .ok r w/\JH O Ju m w r δ.val/\ δ.new=[]/\ δ.upd=[]/\ δ.del=[])->Pure P O Ju m a w o δ :=by intro v u δ hv hu h1 h2 ⟨r,h3,h4,h5,h6,h7⟩;refine⟨⟨r,?_,h4⟩,h5,h6,h7⟩;simp only[execOp,ho,hv,hu,DI,Aqe h1 h2,Result.andThen_ok,h3,Sem.run_pure]
 unfold AtL at hok ⊢;split at hok
 .rename_i k p k' q;have h1:=hx.int;have h2:=hy.int;split at hok
  .have h0:0<=q:=by simpa [Dl.g]using hok.cons.1
   refine fin h1 h2 (by simp) (by simp) ⟨_,?_,.mkInt _ _,rfl,rfl,rfl⟩;have: ¬ q<0:=by omega
   simp [binOp,Op.shift,this]
  .have h0:0<=q:=by simpa [Dl.g]using hok.cons.1
   refine fin h1 h2 (by simp) (by simp) ⟨_,?_,.mkInt _ _,rfl,rfl,rfl⟩;have: ¬ q<0:=by omega
   simp [binOp,Op.shift,this]
  .rename_i h3 h4;cases hk:A.kEq k k' with
   | false=>rw[hk]at hok;exact(JQ hok).elim
   | true =>rw[hk]at hok;have:=RX hk;subst this;exact fin h1 h2 (by simp) (by simp) (AxM hok t h3 h4)
 .obtain⟨s1,h1,h2⟩:=hx.str;obtain⟨s2,h3,h4⟩:=hy.str;exact fin h1 h3 (by simp) (by simp) (AxN h2 h4 hok t)
 .have h1:=hx.bool;have h2:=hy.bool;split at hok
  .unfold Aps at *
   obtain⟨ti,ht,he⟩:=KC hok;rw[he]at hok ⊢;have hd:ti.d= .bool:=by have:=hok.cons.1;unfold AmG at this;split at this<;>simp_all
   refine fin h1 h2 (by simp) (by simp) ⟨_,?_,.RZ _,rfl,rfl,rfl⟩;have hu:=(hC.is ht).d;rw[hd]at hu;simp only[binOp,DI,AsN hu,Result.andThen_ok,Sem.run_pure]
  .unfold Aps at *
   obtain⟨ti,ht,he⟩:=KC hok;rw[he]at hok ⊢;have hd:ti.d= .bool:=by have:=hok.cons.1;unfold AmG at this;split at this<;>simp_all
   refine fin h1 h2 (by simp) (by simp) ⟨_,?_,.RZ _,rfl,rfl,rfl⟩;have hu:=(hC.is ht).d;rw[hd]at hu;simp only[binOp,DI,AsN hu,Result.andThen_ok,Sem.run_pure]
  .exact(JQ hok).elim
 .rename_i x y;obtain⟨vs,e1,l1,r1⟩:=(show T1 O Ju m w _ (.agg x)from hx)
  obtain⟨us,e2,l2,r2⟩:=(show T1 O Ju m w _ (.agg y)from hy)
  obtain⟨ti,ht,he⟩:=KC hok;rw[he]at hok ⊢;split at hok
  .obtain⟨c1,c2⟩:=hok.cons;obtain⟨g1,g2⟩:=AsT (hC.is ht) l1 l2 r1 r2 (by simpa using c1) c2.cons.1;refine⟨⟨_,?_,.RZ _⟩,rfl,rfl,rfl⟩;simp only[execOp,ho,e1,e2,DI,run_eqGuard_agg w _ _ _ _ _ _ g1,Result.andThen_ok,run_eql_struct w,g2,Sem.run_pure]
  .obtain⟨c1,c2⟩:=hok.cons;obtain⟨g1,g2⟩:=AsT (hC.is ht) l1 l2 r1 r2 (by simpa using c1) c2.cons.1;refine⟨⟨_,?_,.RZ _⟩,rfl,rfl,rfl⟩;simp only[execOp,ho,e1,e2,DI,run_eqGuard_agg w _ _ _ _ _ _ g1,Result.andThen_ok,run_neq_struct w,g2,Sem.run_pure]
  .exact(JQ hok).elim
 .have h2:a.eval y= .slice none 0 0:=hy;split at hok
  all_goals first
   | exact(JQ hok).elim
   | (unfold AmU at *
      obtain⟨ti,ht,he⟩:=KC hok;rw[he]at hok ⊢;obtain⟨b,hb,he'⟩:=JV hok;rw[he'];have hu:=(hC.is ht).d;rcases Aoa hu hf hx hb with ⟨_,h3,al,l,c,h4⟩ | ⟨hs,_⟩
      .rw[h4]at h3;refine fin h4 h2 (by simp) (by simp) ⟨_,?_,.RZ _,rfl,rfl,rfl⟩;simp only[binOp,DI,h3,Result.andThen_ok,Sem.run_pure]
      .cases hs)
 .have h2:=hy.MO;split at hok
  all_goals first
   | exact(JQ hok).elim
   | (unfold AmU at *
      obtain⟨ti,ht,he⟩:=KC hok;rw[he]at hok ⊢;obtain⟨b,hb,he'⟩:=JV hok;rw[he'];have hu:=(hC.is ht).d;rcases Aoa hu hf hx hb with ⟨hs,_⟩ | ⟨_,h3,al,h4⟩
      .cases hs
      .rw[h4]at h3;refine fin h4 h2 (by simp) (by simp) ⟨_,?_,.RZ _,rfl,rfl,rfl⟩;simp only[binOp,DI,h3,Result.andThen_ok,Sem.run_pure])
 .exact(JQ hok).elim
end
def SY (b k n:Nat):(at' b k).add n=at' b (k+n):=by
 unfold Addr.add;split
 .grind
 .rfl
section
variable {P:Program} {C:Ctx} {O:Own} {Ju:List (Nat×Obj)} {m:Nat->Value} {a:Act} {w:World} {o:Oper} {fet:Fet}
def A0T {op:UnOp} {t:Nat} {x:Operand} (ho:o.op= .unOp op t x) {x':A} (hx:JH O Ju m w (a.eval x) x') (hok:JD (unX op x').ok):Pure P O Ju m a w o (unX op x'):=by
 unfold unX at hok ⊢;split at hok
 .have h1:=hx.bool;exact⟨⟨_,by simp only[execOp,ho,h1,Op.unary];rfl,.RZ _⟩,rfl,rfl,rfl⟩
 .have h1:=hx.int;exact⟨⟨_,by simp only[execOp,ho,h1,Op.unary];rfl,.mkInt _ _⟩,rfl,rfl,rfl⟩
 .have h1:=hx.int;exact⟨⟨_,by simp only[execOp,ho,h1,Op.unary];rfl,.mkInt _ _⟩,rfl,rfl,rfl⟩
 .grind[JQ]
def WL {x:A} {n:Int} (h:int? x=some n): ∃ k,x= .int k n:=by unfold int? at h;split at h<;>simp_all
def AgC {x:A} {s:List UInt8} (h:Ary x=some s):x= .str s:=by unfold Ary at h;split at h<;>simp_all
def AfB {d:TypeDesc} (h:AfA d=true):d= .string:=by grind[AfA]
def ApJ {t:Nat} {k:Nat->IntKind->Dl} (hC:TOk P C) (hok:JD (AjT C t k).ok): ∃ n e kk te,AjT C t k=k n kk/\(P.underlying t=some (.array n e))/\C.T e=some te/\te.cs=[.int kk]/\te.agg=false:=by
 unfold AjT at hok ⊢;obtain⟨ti,ht,he⟩:=KC hok;rw[he]at hok ⊢;obtain⟨p,hp,he⟩:=JV hok;rw[he]at hok ⊢;obtain⟨te,hte,he⟩:=KC hok;rw[he]at hok ⊢;cases hag:te.agg with
 | true=>rw[hag]at hok;exact(JQ hok).elim
 | false =>
  rw[hag]at hok;simp only[cond_false]at hok ⊢;obtain⟨c,hc,he⟩:=JV hok;rw[he]at hok ⊢;obtain⟨kk,hk,he⟩:=JV hok;rw[he]at hok ⊢;refine⟨p.1,p.2,kk,te,rfl,?_,hte,?_,hag⟩
  .rw[(hC.is ht).d];unfold AbC at hp;split at hp
   .rename_i hd;injection hp with hp;rw[hd,<- hp]
   .cases hp
  .have e1:te.cs=[c]:=by unfold one? at hc;split at hc<;>simp_all
   have e2:c= .int kk:=by unfold AzB at hk;split at hk<;>simp_all
   rw[e1,e2]
def AqJ {cs:List A} {kk:IntKind} {n:Int} {m:Nat} (h:JD [cs.all (A.isI kk),Nat.beq cs.length m,decide (0<=n),decide (n<(m:Int))]):cs.length=m/\0<=n/\n<(m:Int)/\n.toNat<cs.length/\cs.getD n.toNat .undef= .int kk (Ac4 cs n):=by
 obtain⟨h1,h2⟩:=h.cons;obtain⟨h2,h3⟩:=h2.cons;obtain⟨h3,h4⟩:=h3.cons;have h4:n<(m:Int):=by simpa using h4.cons.1
 have h3:0<=n:=by simpa using h3
 have h2:=Dx h2;have hlt:n.toNat<cs.length:=by omega
 refine⟨h2,h3,h4,hlt,?_⟩;have h5:=D7.1 h1 cs[n.toNat] (EU hlt);have e:Ac4 cs n=cs[n.toNat].toI:=by simp [Ac4,Dn,hlt]
 rw[e,Dn,D9 hlt];generalize cs[n.toNat]=c at h5
 cases c<;>first
  | (rename_i k' x;have:=RX (show A.kEq kk k'=true from h5);subst this;rfl)
  | cases h5
def Au6 {t:Nat} {x i:Operand} (hC:TOk P C) (ho:o.op= .index t x i) {x' i':A} (hx:JH O Ju m w (a.eval x) x') (hi:JH O Ju m w (a.eval i) i')
 (hok:JD (AkP C t x' i').ok):Pure P O Ju m a w o (AkP C t x' i'):=by
 unfold AkP at hok ⊢;obtain⟨n,hn,he⟩:=JV hok;rw[he]at hok ⊢;clear he;obtain⟨k,rfl⟩:=WL hn;split at hok
 .rename_i cs;obtain⟨m',e,kk,te,he,hu,hte,hcs,hag⟩:=ApJ hC hok;rw[he]at hok ⊢;obtain⟨h1,h2,h3,h4,h5⟩:=AqJ hok;obtain⟨vs,g1,g2,g3⟩:=hx;have h6:JA O w (vs.getD n.toNat undef) (.int kk (Ac4 cs n)):=by have:=g3 n.toNat h4;rw[h5]at this;exact this
  have h6:vs.getD n.toNat undef= .int kk (Ac4 cs n):=by generalize vs.getD n.toNat undef=z at h6;cases h6;rfl
  have hi:=hi.int;have hs:=(hC.is hte).Ql w;have hag':=(hC.is hte).Aru w;rw[hag]at hag';have hlt:n.toNat<vs.size:=by omega
  have hg6:vs[n.toNat]? =some (.int kk (Ac4 cs n)):=by rw[Dq,DC hlt]at h6;rw[DC hlt];exact congrArg some h6
  have hrun:=DY hu w;refine⟨⟨.int kk (Ac4 cs n),?_,.mkInt _ _⟩,rfl,rfl,rfl⟩;simp [execOp,ho,Instr.index,hi,asIntOf,hrun,g1,h2,h3,hs,hcs,part,hag',hg6]
 .rename_i y _;obtain⟨s,hs,he⟩:=JV hok;rw[he]at hok ⊢;obtain⟨ti,ht,he⟩:=KC hok;rw[he]at hok ⊢;have:=AgC hs;subst this;obtain⟨h1,h2⟩:=hok.cons;obtain⟨h2,h3⟩:=h2.cons;have h3:=h3.cons.1;have hd:=AfB h1;have hu:=(hC.is ht).run w;rw[hd]at hu;have hi:=hi.int;obtain⟨b,hb,hl⟩:=hx.str;have h2:0<=n:=by simpa using h2
  have h3:n<(s.length:Int):=by simpa using h3
  obtain⟨j,rfl⟩:=EP h2;have hj:j<b.size:=by rw[V7,hl];omega
  refine⟨⟨.int .u8 (b[j].toNat:Int),?_,?_⟩,rfl,rfl,rfl⟩
  .simp [execOp,ho,Instr.index,hi,hb,asIntOf,hu,hj]
  .have:s.getD (Int.ofNat j).toNat 0=b[j]:=by
    subst hl;show b.data.toList.getD j 0=b[j];rw[Dn,D9 (by rw[<- V7];exact hj)];obtain⟨⟨l⟩⟩:=b;rfl
   simp only[Dl.g];rw[show((j:Int)).toNat=(Int.ofNat j).toNat from rfl,this];exact .mkInt _ _
def ORl (O:Own) (Ju:List (Nat×Obj)) (m:Nat->Value) (w:World):Option Value->Option A->Prop
 | none,none=>True
 | some v,some x=>JH O Ju m w v x
 | _,_=>False
def YX {isS:Bool} {len cap:Nat} {lo hi:Option Value} {lo' hi':Option A} (hl:ORl O Ju m w lo lo') (hh:ORl O Ju m w hi hi') (hc:len<=cap) {r:List Bool×Nat×Nat} (h:AiW len lo' hi'=some r) (hok:JD r.1) :
 (Instr.sliceBounds isS len cap lo hi none).run P w= .ok (r.2.1,r.2.2,cap) w/\r.2.1<=r.2.2/\r.2.2<=len:=by
 unfold AiW at h;split at h
 .injection h with h;subst h;cases lo<;>cases hi<;>simp [ORl]at hl hh;simp [Instr.sliceBounds]
 .injection h with h;subst h;cases lo<;>cases hi<;>simp only[ORl]at hl hh;obtain⟨h1,h2⟩:=hok.cons;have h2:=h2.cons.1;simp at h1 h2;have hl:=hl.int;rename_i q _ _ _;obtain⟨j,rfl⟩:=EP h1;have:j<=len:=by simpa using h2
  simp [Instr.sliceBounds,Instr.sliceBound,hl,asIntOf,this]
 .injection h with h;subst h;cases lo<;>cases hi<;>simp only[ORl]at hl hh;obtain⟨h1,h2⟩:=hok.cons;have h2:=h2.cons.1;simp at h1 h2;have hh:=hh.int;rename_i q _ _ _;obtain⟨j,rfl⟩:=EP h1;have:j<=len:=by simpa using h2
  have h3:j<=cap:=by omega
  simp [Instr.sliceBounds,Instr.sliceBound,hh,asIntOf,h3,this]
 .injection h with h;subst h;cases lo<;>cases hi<;>simp only[ORl]at hl hh;obtain⟨h1,h2⟩:=hok.cons;obtain⟨h2,h3⟩:=h2.cons;have h3:=h3.cons.1;simp at h1 h2 h3;have hl:=hl.int;have hh:=hh.int;rename_i p _ q _ _ _;obtain⟨j,rfl⟩:=EP h1;obtain⟨i,rfl⟩:=EP (Int.le_trans h1 h2);have h4:i<=len:=by simpa using h3
  have h5:j<=i:=by simpa using h2
  have h6:i<=cap:=by omega
  simp [Instr.sliceBounds,Instr.sliceBound,hl,hh,asIntOf,h4,h5,h6]
 .cases h
def AhZ (s:ByteArray) (i j:Nat):(s.extract i j).data.toList=JB s.data.toList i j:=by simp [JB,ByteArray.data_extract,List.drop_take]
end
section
variable {P:Program} {C:Ctx} {O:Own} {Ju:List (Nat×Obj)} {m:Nat->Value} {a:Act} {w:World} {o:Oper} {fet:Fet}
def JA.cut {v:Value} {q:Sl} (h:JA O w v (.sl q)) (l r:Nat) (hlr:l<=r) (hr:r<=q.es.length) :
 ∃ ad n c,v= .slice ad n c/\n=q.es.length/\n<=c/\(∀ cap',cap'=c->JA O w (.slice (if cap'=l then ad else ad.map (·.add (l*q.sz))) (r - l) (cap' - l)) (.sl ⟨q.t,JB q.xs l r⟩)):=by
 cases h with
 | nil =>
  have:r=0:=by simpa [Sl.es]using hr
  subst this;have:l=0:=by omega
  subst this;refine⟨none,0,0,rfl,rfl,DW _,fun cap' hc=> ?_⟩;subst hc;simp [JB];exact .nil _
 | sl0 ad t =>
  have:r=0:=by simpa [Sl.es]using hr
  subst this;have:l=0:=by omega
  subst this;refine⟨some ad,0,0,rfl,rfl,DW _,fun cap' hc=> ?_⟩;subst hc;simp [JB];exact .sl0 _ _
 | @sl b off cap _ vs hc hm hr' =>
  refine⟨_,_,_,rfl,rfl,hc,fun cap' hc'=> ?_⟩;subst hc';have hes:(⟨q.t,JB q.xs l r⟩:Sl).es=JB q.es l r:=q.Aws l r;have hlen:(JB q.es l r).length=r - l:=by simp [JB];omega
  have hget: ∀ i,i<r - l->(JB q.es l r).getD i []=q.es.getD (l+i) []:=by intro i hi;all_goals grind[JB]
  have hlen':(⟨q.t,JB q.xs l r⟩:Sl).es.length=r - l:=by rw[hes];exact hlen
  by_cases hcl:cap'=l
  .have h0:r - l=0:=by omega
   rw[Dt hcl,<- hlen'];exact JA.sl (b:=b) (off:=off) (cap:=cap' - l) (fun _ _=>undef) (by omega) (fun i j hi _=>absurd hi (by omega)) (fun i j hi _=>absurd hi (by omega))
  .rw[Du hcl];simp only[Option.map_some,SY];rw[<- hlen'];refine JA.sl (fun i j=>vs (l+i) j) (by omega) (fun i j hi hj=> ?_) (fun i j hi hj=> ?_)
   .have:=hm (l+i) j (by omega) hj;rw[Eh]at this;rw[show off+l*q.sz+(i*(⟨q.t,JB q.xs l r⟩:Sl).sz+j)=off+(l*q.sz+i*q.sz+j)from by show off+l*q.sz+(i*q.sz+j)=_;omega];exact this
   .rw[hes,hget i (by omega)];exact hr' (l+i) j (by omega) hj
def Axv {t:Nat} {x:Operand} {lo hi mx:Option Operand} (hC:TOk P C) (ho:o.op= .slice t x lo hi mx) (hmx:mx=none) {s:List UInt8} {lo' hi':Option A} (hx:JH O Ju m w (a.eval x) (.str s))
 (hlo:ORl O Ju m w (lo.map a.eval) lo') (hhi:ORl O Ju m w (hi.map a.eval) hi')
 (hok:JD (Nl C fet t (.str s) lo' hi').ok):Pure P O Ju m a w o (Nl C fet t (.str s) lo' hi'):=by
 subst hmx;unfold Nl at hok ⊢;obtain⟨ti,ht,he⟩:=KC hok;rw[he]at hok ⊢;dsimp only at hok ⊢;obtain⟨r,hr,he⟩:=JV hok;rw[he]at hok ⊢;obtain⟨h1,h2⟩:=hok.cons;have hd:=AfB h1;have hu:=(hC.is ht).run w;rw[hd]at hu;obtain⟨b,hb,hl⟩:=hx.str;subst hl;obtain⟨h3,h4,h5⟩:=YX (isS:=false) (P:=P) (cap:=b.data.toList.length) hlo hhi (DW _) hr h2;refine⟨⟨.string (b.extract r.2.1 r.2.2),?_,.mkStr _ (AhZ _ _ _)⟩,rfl,rfl,rfl⟩;rw[<- V7]at h3;simp only[execOp,ho,Instr.sliceAt,DI,hu,Result.andThen_ok,Instr.slice,hb,Option.map_none,Option.isSome_none,GZ,FZ,h3,Sem.run_pure]
def Azd {t:Nat} {x:Operand} {lo hi mx:Option Operand} (hC:TOk P C) (ho:o.op= .slice t x lo hi mx) (hmx:mx=none) {l:Sl} {lo' hi':Option A} (hx:JH O Ju m w (a.eval x) (.sl l))
 (hlo:ORl O Ju m w (lo.map a.eval) lo') (hhi:ORl O Ju m w (hi.map a.eval) hi')
 (hok:JD (Nl C fet t (.sl l) lo' hi').ok):Pure P O Ju m a w o (Nl C fet t (.sl l) lo' hi'):=by
 subst hmx;unfold Nl at hok ⊢;obtain⟨ti,ht,he⟩:=KC hok;rw[he]at hok ⊢;dsimp only at hok ⊢;obtain⟨r,hr,he⟩:=JV hok;rw[he]at hok ⊢;obtain⟨e,hel,he⟩:=JV hok;rw[he]at hok ⊢;obtain⟨te,hte,he⟩:=KC hok;rw[he]at hok ⊢;obtain⟨h1,h2⟩:=hok.cons;have hd:=UK hel;have hu:=(hC.is ht).run w;rw[hd]at hu;have hs:=(hC.is hte).Ql w;have hsz:=Dx h1;rw[<- hsz]at hs;rw[<- Sl.KX]at hr;have hx':JA O w (a.eval x) (.sl l):=hx;obtain⟨h4,h5⟩:r.2.1<=r.2.2/\r.2.2<=l.es.length:=(YX (isS:=true) (P:=P) hlo hhi (DW _) hr h2).2;obtain⟨ad,n,c,hv,hn,hc,hcut⟩:=hx'.cut r.2.1 r.2.2 h4 h5;obtain⟨h3,_,_⟩:=YX (isS:=true) (P:=P) (cap:=c) hlo hhi (by rw[<- hn];exact hc) hr h2;rw[<- hn]at h3;refine⟨⟨_,?_,hcut c rfl⟩,rfl,rfl,rfl⟩;simp only[execOp,ho,Instr.sliceAt,DI,hu,Result.andThen_ok,Instr.slice,hv,Option.map_none,h3,hs,Sem.run_pure]
def AyB {fet:Fet} {x:A} {p:Nat×Mp} (h:mp? fet x=some p):x= .own p.1/\J9 fet p.1=some (.mp p.2):=by
 unfold mp? at h;split at h
 .split at h
  .rename_i l hg;injection h with h;subst h;exact⟨rfl,hg⟩
  .cases h
 .cases h
def Ap2 (hF:FOk O Ju m w fet) {x:A} {v:Value} {p:Nat×Mp} (hx:JH O Ju m w v x) (h:mp? fet x=some p) :
 J9 Ju p.1=some (.mp p.2)/\v=m p.1/\PX O w p.1 (m p.1) p.2:=by
 obtain⟨rfl,hg⟩:=AyB h;obtain⟨h1,h2⟩:=hF _ _ hg;have hc:JP O Ju m w v (.own p.1):=hx;have hc:=hc.2;rw[h1]at hc;exact⟨h1,hc,h2⟩
def PX.lists {q:Nat} {v:Value} {l:Mp} (h:PX O w q v l): ∃ r es ck,v= .map (some r)/\w.heap[r]? =some (.map es ck)/\O r 0=some q/\es.toList.length=l.l.length /\
 (∀(i:Nat) (e:MapEntry) (p:l.kt.Val×l.vt.Val),es.toList[i]? =some e->l.l[i]? =some p->Oe O w e.key (Qc (l.kt.cells p.1))/\Oe O w e.val (Qc (l.vt.cells p.2))):=by grind[PX,Oe,Qc]
theorem A1Z {n e:Nat} {frz:Bool} {l:Sl} (hg:J9 fet n=some (.arr e frz l)):rd fet (.own n)=([],l):=by grind[J9,rd]
def Ard {x:A} (hok:JD (rd fet x).1):(∃ n e frz l,x= .own n/\J9 fet n=some (.arr e frz l)/\(rd fet x).2=l)\/(x= .LJ/\(rd fet x).2=default)\/ ∃ l,x= .sl l/\(rd fet x).2=l:=by
 cases x with
 | own n =>
  cases hg:J9 fet n with
  | none=>simp_all[rd,J9,JD]
  | some y =>
   cases y with
   | box cs=>simp_all[rd,J9,JD]
   | arr e frz l=>grind[A1Z,JD,rd,J9]
   | mp l=>simp_all[rd,J9,JD]
 | LJ=>exact .inr (.inl ⟨rfl,rfl⟩)
 | sl l=>exact .inr (.inr ⟨l,rfl,rfl⟩)
 | _=>simp_all[rd,JD,J9]
def A1Y {x:A} {v:Value} (hf:FOk O Ju m w fet) (hx:JH O Ju m w v x) (hok:JD (rd fet x).1): ∃ ad c,v= .slice ad (rd fet x).2.xs.length c:=by
 rcases Ard hok with ⟨n,e,frz,l,rfl,hg,hl⟩ | ⟨rfl,hl⟩ | ⟨l,rfl,hl⟩<;>rw[hl]
 .obtain⟨h1,_,h2⟩:=hx.own hf hg;rw[<- Sl.KX];rcases h2 with ⟨_,h3,h4⟩ | ⟨_,g,cap,cur,h4,_⟩;all_goals simp_all[at',FOk,JH,JD,rd]
 .exact⟨none,0,hx⟩
 .have hx':JA O w v (.sl l):=hx;cases hx' with
  | nil=>exact⟨none,0,rfl⟩
  | sl0 ad=>exact⟨some ad,0,rfl⟩
  | sl=>grind[Sl.KX]
def Ay2 {c:Call} {t:Nat} {x:Operand} (hC:TOk P C) (hf:FOk O Ju m w fet) (ho:o.op= .call c) (hcal:c.callee= .builtin .len) (hargs:c.args= #[x]) (hty:c.argTypes.toList=[t]) {x':A} (hx:JH O Ju m w (a.eval x) x')
 (hok:JD (AmI C fet t x').ok):Pure P O Ju m a w o (AmI C fet t x'):=by
 have hat:c.argTypes= #[t]:=by have:=congrArg List.toArray hty;simpa using this
 unfold AmI at hok ⊢;obtain⟨ti,ht,he⟩:=KC hok;rw[he]at hok ⊢;have hu:=(hC.is ht).run w;split at hok
 .rename_i hd;rw[hd]at hu;obtain⟨s,hs,he⟩:=JV hok;rw[he]at hok ⊢;have:=AgC hs;subst this;obtain⟨b,hb,hl⟩:=hx.str;subst hl;refine⟨⟨.int .i64 b.size,?_,?_⟩,rfl,rfl,rfl⟩
  .simp [execOp,ho,resolve,hcal,hargs,hat,invoke,builtin,Builtin.len_,hu,hb,goInt]
  .rw[V7];exact .mkInt _ _
 .rename_i n e hd;rw[hd]at hu;refine⟨⟨.int .i64 n,?_,.mkInt _ _⟩,rfl,rfl,rfl⟩;simp [execOp,ho,resolve,hcal,hargs,hat,invoke,builtin,Builtin.len_,hu,goInt]
 .rename_i e hd;rw[hd]at hu;split at hok
  .rename_i q k;obtain⟨cs,hb,he⟩:=JV hok;rw[he];have hc:JP O Ju m w (a.eval x) (.bsl q k):=hx;have hc:=hc.2;rw[(hf _ _ (MH hb)).1]at hc;obtain⟨b,base,_,hv⟩:=hc;refine⟨⟨.int .i64 (k:Int),?_,.mkInt _ _⟩,rfl,rfl,rfl⟩;simp [execOp,ho,resolve,hcal,hargs,hat,invoke,builtin,Builtin.len_,hu,hv,goInt]
  .rename_i y hne;obtain⟨ad,cp,hv⟩:=A1Y hf hx hok;refine⟨⟨.int .i64 (rd fet x').2.xs.length,?_,.mkInt _ _⟩,rfl,rfl,rfl⟩;simp [execOp,ho,resolve,hcal,hargs,hat,invoke,builtin,Builtin.len_,hu,hv,goInt]
 .rename_i kt et hd;rw[hd]at hu;obtain⟨p,hp,he⟩:=JV hok;rw[he]at hok ⊢;obtain⟨_,hv,hM⟩:=Ap2 hf hx hp;obtain⟨r,es,ck,h1,h2,h3,h4,h5⟩:=hM.lists;have hsz:(es.size:Int)=(p.2.l.length:Int):=by rw[<- h4,Array.length_toList]
  refine⟨⟨.int .i64 (p.2.l.length:Int),?_,.mkInt _ _⟩,rfl,rfl,rfl⟩;have hg:(getObj r).run P w= .ok (.map es ck) w:=by simp [getObj,Sem.run,h2]
  simp [execOp,ho,resolve,hcal,hargs,hat,invoke,builtin,Builtin.len_,hu,hv,h1,hg,hsz,goInt]
 .exact(JQ hok).elim
def Aqm {i:Nat} {x:Operand} (ho:o.op= .extract x i) {x':A} (hx:JH O Ju m w (a.eval x) x') (hok:JD (Acb i x').ok):Pure P O Ju m a w o (Acb i x'):=by
 unfold Acb at hok ⊢;obtain⟨l,hl,he⟩:=JV hok;rw[he]at hok ⊢;have:x'= .tup l:=by unfold A2u at hl;split at hl<;>simp_all
 subst this;obtain⟨vs,h1,h2,h3⟩:=hx;have hi:i<l.length:=by simpa [Dl.g,XV]using hok.cons.1
 refine⟨⟨vs.getD i undef,?_,(h3 i hi).toT⟩,rfl,rfl,rfl⟩;have:vs[i]? =some (vs.getD i undef):=by rw[Dq,DC (by omega)];simp
 generalize vs.getD i undef=z at *
 simp only[execOp,ho,Instr.extract,h1,this,DI,Sem.run_pure,Result.andThen_ok]
end
section
variable {P:Program} {C:Ctx} {O:Own} {Ju:List (Nat×Obj)} {m:Nat->Value} {a:Act} {w:World} {o:Oper} {fet:Fet}
theorem getD_eq {vs:Array Value} {j:Nat} (h:j<vs.size):vs[j]? =some (vs.getD j undef):=by rw[Dq,DC h];rfl
def AyF {t:Nat} {ti:TI} (hT:XM P t ti) {vs:Array Value} {cs:List A} {off:Nat} (h1:vs.size=cs.length) (h2: ∀ j,j<cs.length->JP O Ju m w (vs.getD j undef) (cs.getD j .undef))
 (h3:off+ti.cs.length<=cs.length) (h4:0<ti.cs.length): ∃ v,(part t vs off).run P w= .ok v w/\T1 O Ju m w v (Ahk ti cs off):=by
 unfold part Ahk;simp only[DI,hT.Aru,Result.andThen_ok];cases hg:ti.agg with
 | true =>
  refine⟨.agg (vs.extract off (off+ti.cs.length)),by simp [hT.Ql],_,rfl,by simp;omega,fun j hj=> ?_⟩;simp only[DZ,Et]at hj;have hb:=h2 (off+j) (by omega);have e1:(vs.extract off (off+ti.cs.length)).getD j undef=vs.getD (off+j) undef:=by rw[Dq,Dq,Array.getElem?_extract];rw[Dt (by omega)]
  have e2:((cs.drop off).take ti.cs.length).getD j .undef=cs.getD (off+j) .undef:=by simp only[Dn,FD,Fa];rw[Dt (by omega)]
  rw[e1];simp only[e2];exact hb
 | false =>
  have hb:=h2 off (by omega);refine⟨vs.getD off undef,?_,?_⟩
  .have:=getD_eq (vs:=vs) (j:=off) (by omega);generalize vs.getD off undef=z at *
   simp [this]
  .simp only[cond_false];generalize cs.getD off .undef=c at *
   cases c<;>first | exact hb | exact hb.elim
def Aiv {d:TypeDesc} {f:Nat} {p:Nat×TI} (h:Alz C d f=some p): ∃ fs x,d= .struct fs/\fs[f]? =some x/\x.offset=p.1/\C.T x.type=some p.2:=by
 unfold Alz at h;split at h
 .rename_i fs;split at h
  .rename_i x hx;split at h
   .rename_i ti ht;injection h with h;subst h;exact⟨fs,x,rfl,by simpa using hx,rfl,ht⟩
   .cases h
  .cases h
 .cases h
def Auv {t f:Nat} {x:Operand} (hC:TOk P C) (ho:o.op= .field t x f) {x':A} (hx:JH O Ju m w (a.eval x) x') (hok:JD (Ak7 C t f x').ok):Pure P O Ju m a w o (Ak7 C t f x'):=by
 unfold Ak7 at hok ⊢;obtain⟨ti,ht,he⟩:=KC hok;rw[he]at hok ⊢;clear he;obtain⟨p,hp,he⟩:=JV hok;rw[he]at hok ⊢;clear he;obtain⟨cs,hcs,he⟩:=JV hok;rw[he]at hok ⊢;clear he;obtain⟨fs,fx,hd,hfx,hoff,htf⟩:=Aiv hp;have:x'= .agg cs:=by unfold A1o at hcs;split at hcs<;>simp_all
 subst this;obtain⟨vs,h1,h2,h3⟩:=hx;obtain⟨h4,h5⟩:=hok.cons;have h5:=h5.cons.1;have h4:=DR h4;have h5:0<p.2.cs.length:=by simpa [EF]using h5
 have hu:=(hC.is ht).run w;rw[hd]at hu;obtain⟨v,hv,hr⟩:=AyF (off:=p.1) (hC.is htf) h2 h3 h4 h5;refine⟨⟨v,?_,hr.toT⟩,rfl,rfl,rfl⟩;simp [execOp,ho,Instr.field,hu,hfx,h1,asAgg,hoff,hv]
def AxG {x':A} {v:Value} {off n:Nat} (hf:FOk O Ju m w fet) (hx:JH O Ju m w v x') (hok:JD (nO off n fet x').ok) :
 ∃ b k,v= .pointer (some (at' b k))/\JH O Ju m w (.pointer (some (at' b (k+off)))) (nO off n fet x').val/\(nO off n fet x').new=[]/\(nO off n fet x').upd=[]/\(nO off n fet x').del=[]:=by
 unfold nO at hok ⊢;split at hok
 .obtain⟨cs,hcs,he⟩:=JV hok;rw[he]at hok ⊢;clear he;rename_i q p;obtain⟨b,base,h1,h2,h3⟩:=hx.ptr hf (MH hcs);refine⟨b,base+p,h2,?_,rfl,rfl,rfl⟩;have hg:=(hf _ _ (MH hcs)).1;show JP O Ju m w _ (.ptr q (p+off));simp only[JP,hg,Option.map_some,Obj.shp];exact⟨rfl,b,base,h1,by rw[EJ]⟩
 .rename_i cs;obtain⟨b,k,h1,h2⟩:=(show JP O Ju m w v (.elt cs)from hx)
  refine⟨b,k,h1,?_,rfl,rfl,rfl⟩;refine⟨b,k+off,rfl,fun j hj=> ?_⟩;simp only[Et]at hj;have:=h2 (off+j) (by omega);rw[EJ];have e:(cs.drop off).getD j .undef=cs.getD (off+j) .undef:=by simp [Dn,Fa]
  rw[e];exact this
 .rename_i q i p;obtain⟨r,hr,he⟩:=JV hok;rw[he]at hok ⊢;clear he;have hi:i<r.l.es.length:=by rw[Sl.KX];simpa [Dl.g]using hok.cons.1
  have hx':JP O Ju m w v (.Kr q i p):=hx;have hg:=(hf _ _ (NV hr)).1;simp only[JP,hg,Option.map_some,Obj.shp]at hx';obtain⟨g,n',cap,h1,h2⟩:=hx'.2 hi;refine⟨g,_,h2,?_,rfl,rfl,rfl⟩;show JP O Ju m w _ (.Kr q i (p+off));simp only[JP,hg,Option.map_some,Obj.shp];refine⟨rfl,fun _=> ?_⟩;exact⟨g,n',cap,h1,by rw[EJ]⟩
 .exact(JQ hok).elim
def Am7 {t f:Nat} {x:Operand} (hC:TOk P C) (hf:FOk O Ju m w fet) (ho:o.op= .fieldAddr t x f) {x':A} (hx:JH O Ju m w (a.eval x) x') (hok:JD (Xt C fet t f x').ok):Pure P O Ju m a w o (Xt C fet t f x'):=by
 unfold Xt at hok ⊢;obtain⟨ti,ht,he⟩:=KC hok;rw[he]at hok ⊢;clear he;obtain⟨p,hp,he⟩:=JV hok;rw[he]at hok ⊢;clear he;obtain⟨fs,fx,hd,hfx,hoff,htf⟩:=Aiv hp;obtain⟨h1,h2⟩:=hok.cons;have h1:0<p.2.cs.length:=by simpa [EF]using h1
 obtain⟨b,k,h3,h4,h5,h6,h7⟩:=AxG hf hx h2;have hu:=(hC.is ht).run w;rw[hd]at hu;have hs:=(hC.is htf).Ql w;refine⟨⟨_,?_,h4⟩,h5,h6,h7⟩;have h0:p.2.cs.length≠0:=by omega
 simp [execOp,ho,Instr.fieldAt,hu,hfx,h3,Instr.sureAddr,fieldPlace,hs,h0,SY,hoff]
def AmF {t:Nat} {x i:Operand} (hC:TOk P C) (hf:FOk O Ju m w fet) (ho:o.op= .indexAddr t x i) {x' i':A} (hx:JH O Ju m w (a.eval x) x') (hi:JH O Ju m w (a.eval i) i')
 (hok:JD (o7 C fet t x' i').ok):Pure P O Ju m a w o (o7 C fet t x' i'):=by
 unfold o7 at hok ⊢;split at hok
 .rename_i q i0 off0;obtain⟨n,hn,he⟩:=JV hok;rw[he]at hok ⊢;clear he;obtain⟨k,rfl⟩:=WL hn;have hi:=hi.int;obtain⟨ti,ht,he⟩:=KC hok;rw[he]at hok ⊢;clear he;obtain⟨p,hp,he⟩:=JV hok;rw[he]at hok ⊢;clear he;obtain⟨te,hte,he⟩:=KC hok;rw[he]at hok ⊢;clear he;obtain⟨r,hr,he⟩:=JV hok;rw[he]at hok ⊢;clear he;obtain⟨h1,h2⟩:=hok.cons;obtain⟨h2,h3⟩:=h2.cons;obtain⟨h3,h4⟩:=h3.cons;obtain⟨h4,h5⟩:=h4.cons;obtain⟨h5,h6⟩:=h5.cons;have h6:=h6.cons.1;have h1:=Dx h1;have h2:=Dx h2;have h3:=Dx h3;subst h1;subst h2;have h4:0<=n:=by simpa using h4
  have h5:n<(p.1:Int):=by simpa using h5
  have h6:n.toNat<r.l.es.length:=by rw[Sl.KX];simpa using h6
  have hx':JP O Ju m w (a.eval x) (.Kr q 0 0):=hx;have hg:=(hf _ _ (NV hr)).1;simp only[JP,hg,Option.map_some,Obj.shp]at hx';obtain⟨g,n',cap,e1,e2⟩:=hx'.2 (by omega)
  have hd:ti.d= .array p.1 p.2:=by
   unfold AbC at hp;split at hp
   .rename_i hd;injection hp with hp;rw[hd,<- hp]
   .cases hp
  have hu:=(hC.is ht).run w;rw[hd]at hu;have hs:=(hC.is hte).Ql w;refine⟨⟨.pointer (some (at' g (n.toNat*te.cs.length))),?_,?_⟩,rfl,rfl,rfl⟩
  .have e2':a.eval x= .pointer (some (at' g 0)):=by rw[e2];simp
   simp [execOp,ho,Instr.indexAt,hi,asIntOf,hu,e2',Instr.sureAddr,h4,h5,hs,SY]
  .show JP O Ju m w _ (.Kr q n.toNat 0);simp only[JP,hg,Option.map_some,Obj.shp];refine⟨rfl,fun _=>⟨g,n',cap,e1,by rw[h3];rfl⟩⟩
 .rename_i cs;obtain⟨n,hn,he⟩:=JV hok;rw[he]at hok ⊢;clear he;obtain⟨k,rfl⟩:=WL hn;have hi:=hi.int;obtain⟨m',e,kk,te,he,hu,hte,hcs,_⟩:=ApJ hC hok;rw[he]at hok ⊢;obtain⟨h1,h2,h3,h4,h5⟩:=AqJ hok;obtain⟨b,off,g1,g2⟩:=(show JP O Ju m w _ (.elt cs)from hx)
  have hs:=(hC.is hte).Ql w;have hrun:=DY hu w;refine⟨⟨.pointer (some (at' b (off+n.toNat))),?_,?_⟩,rfl,rfl,rfl⟩
  .simp [execOp,ho,Instr.indexAt,hi,asIntOf,hrun,g1,Instr.sureAddr,h2,h3,hs,hcs,SY]
  .refine⟨b,off+n.toNat,rfl,fun j hj=> ?_⟩;have:j=0:=by simpa using hj
   subst this;obtain⟨a1,u,a2,a3⟩:=g2 n.toNat h4;rw[h5]at a3;exact⟨a1,u,a2,a3⟩
 .rename_i y hne _;clear hne;obtain⟨n,hn,he⟩:=JV hok;rw[he]at hok ⊢;clear he;obtain⟨k,rfl⟩:=WL hn;have hi:=hi.int;unfold elemOf at hok ⊢;obtain⟨ti,ht,he⟩:=KC hok;rw[he]at hok ⊢;clear he;obtain⟨e,hel,he⟩:=JV hok;rw[he]at hok ⊢;clear he;obtain⟨te,hte,he⟩:=KC hok;rw[he]at hok ⊢;clear he;have hu:=(hC.is ht).run w;rw[UK hel]at hu;have hs:=(hC.is hte).Ql w;have run: ∀ b off len cap,a.eval x= .slice (some (at' b off)) len cap->0<=n->n<(len:Int)->(execOp a.eval o).run P w= .ok (.value (.pointer (some (at' b (off+n.toNat*te.cs.length))))) w:=by intro b off len cap h1 h2 h3;simp [execOp,ho,Instr.indexAt,hi,asIntOf,hu,h1,h2,h3,hs,SY]
  dsimp only at hok ⊢;split at hok
  .rename_i q _;obtain⟨r,hr,he⟩:=JV hok;rw[he]at hok;rw[he];clear he;obtain⟨h1,h2⟩:=hok.cons;obtain⟨h2,h3⟩:=h2.cons;have h3:=h3.cons.1;have h1:=Dx h1;have h2:0<=n:=by simpa using h2
   have h3:n<(r.l.es.length:Int):=by rw[Sl.KX];simpa using h3
   obtain⟨h4,_,h5⟩:=hx.own hf (NV hr);have hg:=(hf _ _ (NV hr)).1;rcases h5 with ⟨_,h6,_⟩ | ⟨_,g,cap,cur,h6,_⟩
   .rw[h6]at h3;simp at h3;omega
   .refine⟨⟨_,run g 0 _ cap (by rw[h4,h6]) h2 h3,?_⟩,rfl,rfl,rfl⟩;show JP O Ju m w _ (.Kr q n.toNat 0);simp only[JP,hg,Option.map_some,Obj.shp];refine⟨rfl,fun _=> ?_⟩;exact⟨g,_,_,h6,by rw[<- h1];simp⟩
  .rename_i l _;obtain⟨h1,h2⟩:=hok.cons;obtain⟨h0,h2⟩:=h2.cons;obtain⟨h2,h3⟩:=h2.cons;have h3:=h3.cons.1;have h1:=Dx h1;have h2:0<=n:=by simpa using h2
   have h3:n<(l.es.length:Int):=by rw[Sl.KX];simpa using h3
   have hx':JA O w (a.eval x) (.sl l):=hx;generalize hv:a.eval x=v at hx';cases hx' with
   | nil=>simp [Sl.es]at h3;omega
   | sl0=>simp [Sl.es]at h3;omega
   | @sl b off cap _ vs hc hm hr =>
    refine⟨⟨_,run b off _ cap hv h2 h3,?_⟩,rfl,rfl,rfl⟩;have hj:n.toNat<l.es.length:=by omega
    refine⟨b,_,rfl,fun j hjj=> ?_⟩;rw[Sl.AvL]at hjj;obtain⟨h4,h5⟩:=hm n.toNat j hj hjj;rw[<- h1,EJ];rw[l.at_eq (by rw[<- Sl.KX];exact hj)];exact⟨h4,_,h5,hr n.toNat j hj hjj⟩
  .rename_i q k _;obtain⟨cs,hb,he⟩:=JV hok;rw[he]at hok;rw[he];clear he;obtain⟨h1,h2⟩:=hok.cons;obtain⟨h2,h3⟩:=h2.cons;have h3:=h3.cons.1;have h1:=Dx h1;have h2:0<=n:=by simpa using h2
   rw[EF]at h3;have hg:=(hf _ _ (MH hb)).1;have hc:JP O Ju m w (a.eval x) (.bsl q k):=hx;have hc:=hc.2;rw[hg]at hc;obtain⟨b,base,e1,e2⟩:=hc;refine⟨⟨_,run b base _ k e2 h2 (by omega),?_⟩,rfl,rfl,rfl⟩;show JP O Ju m w _ (.ptr q n.toNat);refine⟨rfl,?_⟩;rw[hg,h1,EZ];exact⟨b,base,e1,rfl⟩
  .exact(JQ hok).elim
def AoC {x:Operand} (hf:FOk O Ju m w fet) (ho:o.op= .nilCheck x) {x':A} (hx:JH O Ju m w (a.eval x) x') (hok:JD (Zi fet x').ok):Pure P O Ju m a w o (Zi fet x'):=by
 unfold Zi at hok ⊢;split at hok
 .obtain⟨cs,hcs,he⟩:=JV hok;rw[he]at hok ⊢;clear he;obtain⟨b,base,h1,h2,h3⟩:=hx.ptr hf (MH hcs);refine⟨⟨a.eval x,?_,hx⟩,rfl,rfl,rfl⟩;rw[h2];simp [execOp,ho,h2]
 .exact(JQ hok).elim
def JA.one {u:Value} {c:A} (h:JA O w u c):u.oneCell'=true:=by
 induction h<;>first | rfl | assumption
def Afy {k:CK} {u:Value} {c:A} (h:JA O w u c) (hok:JD (force k c).1):JP O Ju m w u (force k c).2:=by
 cases k with
 | bool=>have:=hok.cons.1;cases h<;>simp [A.isB]at this;exact .bool _
 | int k =>have:=hok.cons.1;cases h<;>simp [A.isI]at this;have:=RX this;subst this;exact .int _ _
 | str=>have:=hok.cons.1;cases h<;>simp [A.isS]at this;exact .str _
 | sl e sz =>
  have:=hok.cons.1;cases h with
  | nil t=>exact .nil _
  | sl0 a t=>exact JA.sl0 _ _
  | sl vs h1 h2 h3=>exact .sl vs h1 h2 h3
  | _=>simp [A.AmH]at this
 | ptr=>have:=hok.cons.1;cases h<;>simp [A.AaR]at this;exact .MO
 | fn =>
  have:=hok.cons.1;cases h<;>simp [A.isFn]at this
  .exact JA.fn _
  .exact JA.wZ
 | mp _ _=>have:=hok.cons.1;cases this
 | bx _=>have:=hok.cons.1;cases this
 | sln e sz =>
  have:=hok.cons.1;cases h with
  | sln h hn=>exact .sln h hn
  | _=>simp [A.Aha]at this
 | oth=>exact h.one
def AkB (cs:List A) (ks:List CK): ∀ off,(forces cs ks off).2.length=ks.length:=by
 induction ks with
 | nil=>intro off;rfl
 | cons k ks ih=>intro off;simp [forces,ih]
def Au0 (cs:List A) (ks:List CK): ∀(off:Nat) (f:Nat->Value),(∀ j,j<ks.length->JA O w (f j) (cs.getD (off+j) .undef))->JD (forces cs ks off).1 ->
 ∀ j,j<ks.length->JP O Ju m w (f j) ((forces cs ks off).2.getD j .undef):=by
 induction ks with
 | nil=>intro off f _ _ j hj;simp at hj
 | cons k ks ih =>
  intro off f h hok j hj;obtain⟨h1,h2⟩:=hok.append;cases j with
  | zero=>exact Afy (by have:=h 0 (by simp);simpa using this) h1
  | succ j =>have:=ih (off+1) (fun j=>f (j+1)) (fun j hj=>by have:=h (j+1) (by simpa using hj);rwa [show off+(j+1)=off+1+j from by omega]at this) h2 j (by simpa using hj);simpa [forces]using this
def Vs {t:Nat} {ti:TI} (hT:XM P t ti) {b k:Nat} (f:Nat->Value) (hc: ∀ j,j<ti.cs.length->w.cell? (at' b (k+j))=some (f j)) (h0:ti.agg=false->0<ti.cs.length) :
 (loadVar t (at' b k)).run P w= .ok (if ti.agg then .agg ((List.range ti.cs.length).map f).toArray else f 0) w:=by
 unfold loadVar;simp only[DI,hT.Aru,Result.andThen_ok];cases hg:ti.agg with
 | true =>have:=run_loadCells (P:=P) w (at' b k) ti.cs.length f (fun j hj=>by rw[SY];exact hc j hj);simp [hT.Ql,this]
 | false =>have:=hc 0 (h0 hg);simp only[Nat.add_zero]at this;simp [this]
def Aof {α :Type} {l:List α} {k: α} (h:one? l=some k):l=[k]:=by unfold one? at h;split at h<;>simp_all
def AfD {t:Nat} {ti:TI} (hT:XM P t ti) {b k off:Nat} {cs:List A} {pre:List Bool} (hc: ∀ j,j<ti.cs.length-> ∃ u,w.cell? (at' b (k+j))=some u/\JA O w u (cs.getD (off+j) .undef))
 (hok:JD (Yw ti cs off pre).ok): ∃ v,(loadVar t (at' b k)).run P w= .ok v w/\JH O Ju m w v (Yw ti cs off pre).val/\(Yw ti cs off pre).new=[]/\(Yw ti cs off pre).upd=[]/\(Yw ti cs off pre).del=[]:=by
 have hf: ∀ j,j<ti.cs.length->w.cell? (at' b (k+j))=some ((w.cell? (at' b (k+j))).getD undef)/\JA O w ((w.cell? (at' b (k+j))).getD undef) (cs.getD (off+j) .undef):=by intro j hj;obtain⟨u,h1,h2⟩:=hc j hj;rw[h1];exact⟨rfl,h2⟩
 unfold Yw at hok ⊢;cases hg:ti.agg with
 | true =>
  rw[hg]at hok;simp only[cond_true]at hok ⊢;obtain⟨_,h2⟩:=hok.append;refine⟨_,Vs hT (fun j=>(w.cell? (at' b (k+j))).getD undef) (fun j hj=>(hf j hj).1) (by simp [hg]),?_,rfl,rfl,rfl⟩;rw[hg];refine⟨_,rfl,by simp [AkB],fun j hj=> ?_⟩;rw[AkB]at hj;have:=Au0 (Ju:=Ju) (m:=m) cs ti.cs off (fun j=>(w.cell? (at' b (k+j))).getD undef) (fun j hj=>(hf j hj).2) h2 j hj;have e:(((List.range ti.cs.length).map fun j=>(w.cell? (at' b (k+j))).getD undef).toArray).getD j undef=(w.cell? (at' b (k+j))).getD undef:=by rw[Dq];simp [hj]
  rw[e];exact this
 | false =>
  rw[hg]at hok;simp only[cond_false]at hok ⊢;obtain⟨kk,hk,he⟩:=JV hok;rw[he]at hok ⊢;clear he;have hone:=Aof hk;obtain⟨_,h2⟩:=hok.append;have h0:0<ti.cs.length:=by rw[hone];simp
  refine⟨_,Vs hT (fun j=>(w.cell? (at' b (k+j))).getD undef) (fun j hj=>(hf j hj).1) (fun _=>h0),?_,rfl,rfl,rfl⟩;rw[hg];have:=(hf 0 h0).2;exact(Afy this h2).toT
def AnQ {l:List CK} (h:AkT l=true):l=[.ptr]:=by
 unfold AkT at h;split at h
 .rfl
 .cases h
def AnV {t:Nat} {x:Operand} (hC:TOk P C) (hf:FOk O Ju m w fet) (ho:o.op= .load t x) {x':A} (hx:JH O Ju m w (a.eval x) x') (hok:JD (fO C fet t x').ok):Pure P O Ju m a w o (fO C fet t x'):=by
 unfold fO at hok ⊢;obtain⟨ti,ht,he⟩:=KC hok;rw[he]at hok ⊢;clear he;have hT:=hC.is ht;have run: ∀ b k v,a.eval x= .pointer (some (at' b k))->(loadVar t (at' b k)).run P w= .ok v w->(execOp a.eval o).run P w= .ok (.value v) w:=by intro b k v h1 h2;simp [execOp,ho,Instr.loadAt,Instr.sureAddr,h1,h2]
 split at hok
 .obtain⟨cs,hcs,he⟩:=JV hok;rw[he]at hok;rw[he];clear he;rename_i q off;obtain⟨b,base,h1,h2,h3⟩:=hx.ptr hf (MH hcs);obtain⟨h4,h5⟩:=hok.cons;have h4:=DR h4;have h5:0<ti.cs.length:=by simpa [EF]using h5.cons.1
  have hc: ∀ j,j<ti.cs.length->w.cell? (at' b (base+off+j))=some ((w.cell? (at' b (base+off+j))).getD undef)/\JP O Ju m w ((w.cell? (at' b (base+off+j))).getD undef) (cs.getD (off+j) .undef):=by intro j hj;obtain⟨_,_,u,h6,h7⟩:=h3 (off+j) (by omega);rw[EJ,h6];exact⟨rfl,h7⟩
  have hl:=Vs hT (fun j=>(w.cell? (at' b (base+off+j))).getD undef) (fun j hj=>(hc j hj).1) (fun _=>h5);refine⟨⟨_,run _ _ _ h2 hl,?_⟩,rfl,rfl,rfl⟩;simp only[Dl.g,Ahk];cases hg:ti.agg with
  | true =>
   refine⟨_,rfl,by simp;omega,fun j hj=> ?_⟩;simp only[DZ,Et]at hj;have e:(((List.range ti.cs.length).map fun j=>(w.cell? (at' b (base+off+j))).getD undef).toArray).getD j undef=(w.cell? (at' b (base+off+j))).getD undef:=by rw[Dq];simp [show j<ti.cs.length from by omega]
   have e2:((cs.drop off).take ti.cs.length).getD j .undef=cs.getD (off+j) .undef:=by simp only[Dn,FD,Fa];rw[Dt (by omega)]
   simp only[e2];rw[e];exact(hc j (by omega)).2
  | false=>exact(hc 0 h5).2.toT
 .rename_i cs;obtain⟨b,k,h1,h2⟩:=(show JP O Ju m w _ (.elt cs)from hx)
  have hle:ti.cs.length<=cs.length:=by
   have hA:JD [Nat.ble ti.cs.length cs.length]:=by
    unfold Yw at hok;cases hg:ti.agg with
    | true=>rw[hg]at hok;exact(hok.append).1
    | false =>rw[hg]at hok;obtain⟨kk,hk,he⟩:=JV hok;simp only[cond_false]at hok;rw[he]at hok;exact(hok.append).1
   exact DR hA.cons.1
  obtain⟨v,h3,h4,h5,h6,h7⟩:=AfD (Ju:=Ju) (m:=m) (k:=k) (off:=0) hT (fun j hj=>by obtain⟨_,u,h8,h9⟩:=h2 j (by omega);exact⟨u,h8,by simpa using h9⟩) hok;exact⟨⟨v,run _ _ _ h1 h3,h4⟩,h5,h6,h7⟩
 .rename_i k q;obtain⟨h1,h2⟩:=hok.cons;obtain⟨h2,h3⟩:=h2.cons;have h3:ti.agg=false:=by simpa using h3.cons.1
  have h1:=Dx h1;subst h1;have h2:=AnQ h2;obtain⟨_,p,hp1,⟨b,j,e1,e2,e3⟩,hc⟩:=(show JP O Ju m w (a.eval x) (.clo 0 q)from hx)
  have hl:=Vs (P:=P) (w:=w) hT (b:=b) (k:=j) (fun _=>p) (fun i hi=>by
   have:i=0:=by rw[h2]at hi;simpa using hi
   subst this;exact e3) (fun _=>by rw[h2];decide)
  rw[h3]at hl;refine⟨⟨_,run _ _ _ e1 hl,?_⟩,rfl,rfl,rfl⟩;exact⟨hp1,hc⟩
 .rename_i q i off;obtain⟨r,hr,he⟩:=JV hok;rw[he]at hok;rw[he];clear he;cases hrow:isRow ti r.l i off with
  | true =>
   rw[hrow]at hok;simp only[cond_true]at hok ⊢;simp only[isRow,Dw]at hrow;obtain⟨⟨⟨r4,r1⟩,r3⟩,r2⟩:=hrow;have r1:=Dx r1;have r2:=Dx r2;have r3:=Dx r3;have r4:1<ti.cs.length:=by simpa [EF]using r4
   subst r2;subst r3
   have hA:JD [Nat.ble ti.cs.length r.l.xs.length,true]:=by
    unfold Yw at hok;cases hg:ti.agg with
    | true=>rw[hg]at hok;exact(hok.append).1
    | false =>rw[hg]at hok;obtain⟨kk,hk,he⟩:=JV hok;simp only[cond_false]at hok;rw[he]at hok;exact(hok.append).1
   have hle':=DR hA.cons.1;have hle:ti.cs.length<=r.l.es.length:=by rw[Sl.KX];exact hle'
   obtain⟨hg,hsz,hO⟩:=hf _ _ (NV hr);have hx':JP O Ju m w (a.eval x) (.Kr q 0 0):=hx;simp only[JP,hg,Option.map_some,Obj.shp]at hx';obtain⟨g,n',cap,h1,h2⟩:=hx'.2 (by omega);rcases hO with ⟨_,h3,_⟩ | ⟨_,g',cap',cur,h3,h4,h5,h6,h7,h8,_⟩
   .rw[h3,List.length_nil]at hle;omega
   .rw[h1]at h3;injection h3 with h3 h3' h3'';injection h3 with h3;injection h3 with h3;subst h3
    obtain⟨v,h13,h14,h15,h16,h17⟩:=AfD (Ju:=Ju) (m:=m) (O:=O) (b:=g) (k:=0*r.l.sz+0) (off:=0) (cs:=AcY r.l ti.cs.length) hT (fun j hj=>by
     obtain⟨u,h9,h10⟩:=h8 j 0 (by omega) (by omega);have e:(AcY r.l ti.cs.length).getD (0+j) .undef=(r.l.es.getD j []).getD 0 .undef:=by rw[<- r.l.at_eq (Fj hj hle')];simp [AcY,Dn,hj]
     rw[e];refine⟨u,?_,h10⟩;rw[h4.cell,r1,EZ,Nat.add_zero]at *
     simpa using h9) hok
    exact⟨⟨v,run _ _ _ h2 h13,h14⟩,h15,h16,h17⟩
  | false =>
  rw[hrow]at hok;simp only[cond_false]at hok ⊢
  have hA:JD [Nat.ble (off+ti.cs.length) r.l.sz,decide (i<r.l.xs.length)]:=by
   unfold Yw at hok;cases hg:ti.agg with
   | true=>rw[hg]at hok;exact(hok.append).1
   | false =>rw[hg]at hok;obtain⟨kk,hk,he⟩:=JV hok;simp only[cond_false]at hok;rw[he]at hok;exact(hok.append).1
  obtain⟨hle,hi⟩:=hA.cons;have hle:=DR hle;have hi':i<r.l.xs.length:=by simpa using hi.cons.1
  have hi:i<r.l.es.length:=by rw[Sl.KX];exact hi'
  obtain⟨hg,hsz,hO⟩:=hf _ _ (NV hr);have hx':JP O Ju m w (a.eval x) (.Kr q i off):=hx;simp only[JP,hg,Option.map_some,Obj.shp]at hx';obtain⟨g,n',cap,h1,h2⟩:=hx'.2 hi;rcases hO with ⟨_,h3,_⟩ | ⟨_,g',cap',cur,h3,h4,h5,h6,h7,h8,_⟩
  .rw[h3]at hi;simp at hi
  .rw[h1]at h3;injection h3 with h3 h3' h3'';injection h3 with h3;injection h3 with h3;subst h3;obtain⟨v,h13,h14,h15,h16,h17⟩:=AfD (Ju:=Ju) (m:=m) (O:=O) (b:=g) (k:=i*r.l.sz+off) (off:=off) (cs:=r.l.at i) hT (fun j hj=>by obtain⟨u,h9,h10⟩:=h8 i (off+j) hi (by omega);rw[r.l.at_eq hi'];refine⟨u,?_,h10⟩;rw[h4.cell,EJ];exact h9) hok;exact⟨⟨v,run _ _ _ h2 h13,h14⟩,h15,h16,h17⟩
 .exact(JQ hok).elim
end
end Go.Proofs.YtfgdgdnlglejbaaGreatDoor.Vm
