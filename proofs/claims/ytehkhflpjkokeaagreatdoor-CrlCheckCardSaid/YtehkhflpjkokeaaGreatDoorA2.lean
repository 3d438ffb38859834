import Derived.Test.YtehkhflpjkokeaaGreatDoorA1
import Derived.WalkKit
import Derived.Laws.IdiomCopy
import Derived.Laws.Cells
import Derived.Laws.Rows
import Derived.Laws.IdiomStrings
import Derived.Deep.MidRow
import Derived.ChangeKeysEq
import Derived.Lib.SmallJoins
import Derived.Lib.IndexBytes
import Derived.Laws.Cover3
import Derived.Laws.Pointers
import Derived.Laws.StructEq
set_option linter.all false
namespace Go.Proofs.YtehkhflpjkokeaaGreatDoor.Vm
abbrev Own:=Nat->Nat->Option Nat
abbrev at' (b k:Nat):Addr:=⟨b,k,none⟩
inductive J3 (O:Own) (w:World):Value->A->Prop
 | bool (b:Bool):J3 O w (.bool b) (.bool b)
 | int (k:IntKind) (n:Int):J3 O w (.int k n) (.int k n)
 | str (s:ByteArray):J3 O w (.string s) (.str s.data.toList)
 | nil (t:Ty):J3 O w (.slice none 0 0) (.sl ⟨t,[]⟩)
 | sl {b off cap:Nat} {l:Sl} (vs:Nat->Nat->Value) (hc:l.es.length<=cap)
    (hm: ∀ i j,i<l.es.length->j<l.sz->O b (off+(i*l.sz+j))=none/\w.cell? (at' b (off+(i*l.sz+j)))=some (vs i j))
    (hr: ∀ i j,i<l.es.length->j<l.sz->J3 O w (vs i j) ((l.es.getD i []).getD j .undef)):J3 O w (.slice (some (at' b off)) l.es.length cap) (.sl l)
 | sln {v:Value} {l:Sl} (h:J3 O w v (.sl l)) (hn:l.xs=[]->v= .slice none 0 0):J3 O w v (.sln l)
 | Lt:J3 O w (.pointer none) .Lt
 | fn (f:Nat):J3 O w (.func (.func f) #[] #[]) (.fn (f+1))
 | jI:J3 O w .nilFunc (.fn 0)
 | sl0 (a:Addr) (t:Ty):J3 O w (.slice (some a) 0 0) (.sl ⟨t,[]⟩)
def MS (O:Own) (w:World) (O':Own) (w':World):Prop:= ∀ b k u,O b k=none->w.cell? (at' b k)=some u->O' b k=none/\w'.cell? (at' b k)=some u
def Inv (O:Own) (w:World):Prop:=(∀ g j p,lG g j=some p->O g j=none/\ ∃ v,w.cell? (at' g j)=some v/\p v)/\ ∀ g n,Au6 g=some n-> ∃ c e fr,w.heap[g]? =some (.cells c e fr)/\c.size=n
def J3.JW {O O':Own} {w w':World} (hp:MS O w O' w') {v:Value} {a:A} (h:J3 O w v a):J3 O' w' v a:=by
 induction h with
 | bool b=>exact .bool b
 | int k n=>exact .int k n
 | str s=>exact .str s
 | nil t=>exact .nil t
 | sl vs hc hm hr ih =>refine .sl vs hc (fun i j hi hj=> ?_) (fun i j hi hj=>ih i j hi hj);all_goals simp_all[hi,Own,MS,J3]
 | sln h hn ih=>exact .sln ih hn
 | Lt=>exact .Lt
 | fn f=>exact .fn f
 | jI=>exact .jI
 | sl0 a t=>exact .sl0 a t
inductive Shp where
 | box
 | arr (sz len:Nat)
 | mp
def Obj.shp:Obj->Shp
 | .box _=>.box
 | .arr _ _ l=>.arr l.sz l.es.length
 | .mp _=>.mp
def Nk (w:World) (g:Nat) (cur:Array Value) (e:TypeId):Prop:= ∃ fr,w.heap[g]? =some (.cells cur e fr)/\(fr=(0,0)\/cur.size<=fr.1)
def Nk.cell {w:World} {g:Nat} {cur:Array Value} {e:TypeId} (h:Nk w g cur e) (k:Nat):w.cell? (at' g k)=cur[k]? :=by obtain⟨fr,h1,_⟩:=h;simp [World.cell?,h1]
def Nk.frozen {w:World} {g:Nat} {cur:Array Value} {e:TypeId} (h:Nk w g cur e) {k:Nat} (hk:k<cur.size):w.frozen? (at' g k)=false:=by obtain⟨fr,h1,h2⟩:=h;simp only[World.frozen?,h1];all_goals grind
def Nk.lt {w:World} {g:Nat} {cur:Array Value} {e:TypeId} (h:Nk w g cur e):g<w.heap.size:=by grind[Nk]
theorem Nk.same {w w':World} {g:Nat} {cur:Array Value} {e:TypeId} (h:Nk w g cur e) (hb:w'.heap[g]? =w.heap[g]?):Nk w' g cur e:=by grind[Nk]
def Nk.inj {w:World} {g:Nat} {cur cur':Array Value} {e e':TypeId} (h:Nk w g cur e) (h':Nk w g cur' e'):cur=cur'/\e=e':=by grind[Nk]
def Nv (O:Own) (w:World) (v:Value):A->Prop
 | .agg cs=> ∃ vs:Array Value,v= .agg vs/\vs.size=cs.length/\ ∀ j,j<cs.length->J3 O w (vs.getD j undef) (cs.getD j .undef)
 | a=>J3 O w v a
def Nv.JW {O O':Own} {w w':World} (hp:MS O w O' w') {v:Value} {a:A} (h:Nv O w v a):Nv O' w' v a:=by
 cases a with
 | agg cs=>obtain⟨vs,h1,h2,h3⟩:=h;exact⟨vs,h1,h2,fun j hj=>(h3 j hj).JW hp⟩
 | _=>exact J3.JW hp h
def Ny (O:Own) (w:World) (o:Nat) (v:Value) (l:Mp):Prop :=
 ∃ r es ck,v= .map (some r)/\w.heap[r]? =some (.map es ck)/\O r 0=some o/\es.size=l.l.length /\
  ∀(i:Nat) (p:l.kt.Val×l.vt.Val),l.l[i]? =some p-> ∃ e,es[i]? =some e/\Nv O w e.key (OA (l.kt.cells p.1))/\Nv O w e.val (OA (l.vt.cells p.2))
def Ax4:Nat->Value->Value
 | 0,p=>p
 | f+1,p=>.func (.func f) #[] #[p]
def aN (O:Own) (w:World) (k:Nat) (v p:Value):Prop:= ∃ b j,v=Ax4 k (.pointer (some (at' b j)))/\O b j=none/\w.cell? (at' b j)=some p
def aN.JW {O O':Own} {w w':World} (hp:MS O w O' w') {k:Nat} {v p:Value} (h:aN O w k v p):aN O' w' k v p:=by obtain⟨b,j,h1,h2,h3⟩:=h;exact⟨b,j,h1,hp _ _ _ h2 h3⟩
section
variable (O:Own) (Jp:List (Nat×Obj)) (m:Nat->Value) (w:World)
def JC (v:Value):A->Prop
 | .undef=>v.oneCell'=true
 | .La=>v= .slice none 0 0
 | .ptr o off=>v.oneCell'=true/\match (Jy Jp o).map Obj.shp with
  | some .box=> ∃ b base,m o= .pointer (some (at' b base))/\v= .pointer (some (at' b (base+off)))
  | _=>True
 | .own o=>v.oneCell'=true/\match (Jy Jp o).map Obj.shp with
  | some (.arr _ _)=>v=m o
  | some .mp=>v=m o
  | _=>True
 | .Kq o i off=>v.oneCell'=true/\match (Jy Jp o).map Obj.shp with
  | some (.arr sz len)=>i<len-> ∃ g n cap,m o= .slice (some (at' g 0)) n cap/\v= .pointer (some (at' g (i*sz+off)))
  | _=>True
 | .clo k o=>v.oneCell'=true/\ ∃ p,p.oneCell'=true/\aN O w k v p/\match (Jy Jp o).map Obj.shp with
  | some .box=> ∃ b base,m o= .pointer (some (at' b base))/\p= .pointer (some (at' b base))
  | _=>True
 | .bsl o n=>v.oneCell'=true/\match (Jy Jp o).map Obj.shp with
  | some .box=> ∃ b base,m o= .pointer (some (at' b base))/\v= .slice (some (at' b base)) n n
  | _=>True
 | .osl o k=>v.oneCell'=true/\match (Jy Jp o).map Obj.shp with
  | some (.arr sz len)=>k<len-> ∃ g cap,m o= .slice (some (at' g 0)) len cap/\v= .slice (some (at' g (k*sz))) (len - k) (cap - k)
  | _=>True
 | .elt cs=> ∃ b off,v= .pointer (some (at' b off))/\ ∀ j,j<cs.length->O b (off+j)=none/\ ∃ u,w.cell? (at' b (off+j))=some u/\J3 O w u (cs.getD j .undef)
 | .fn f=>J3 O w v (.fn f)
 | .bool b=>J3 O w v (.bool b)
 | .int k n=>J3 O w v (.int k n)
 | .str s=>J3 O w v (.str s)
 | .sl l=>J3 O w v (.sl l)
 | .sln l=>J3 O w v (.sln l)
 | .Lt=>J3 O w v .Lt
 | _=>False
def T1 (v:Value):A->Prop
 | .agg cs=> ∃ vs:Array Value,v= .agg vs/\vs.size=cs.length/\ ∀ j,j<cs.length->JC O Jp m w (vs.getD j undef) (cs.getD j .undef)
 | a=>JC O Jp m w v a
def J7 (v:Value):A->Prop
 | .undef=>True
 | .tup l=> ∃ vs:Array Value,v= .tuple vs/\vs.size=l.length/\ ∀ j,j<l.length->T1 O Jp m w (vs.getD j undef) (l.getD j .undef)
 | .cnd g a=>(g=true->T1 O Jp m w v a)/\(g=false->v=undef)
 | a=>T1 O Jp m w v a
def KT (o:Nat):Obj->Prop
 | .box cs=> ∃ b base,m o= .pointer (some (at' b base))/\ ∀ j,j<cs.length->O b (base+j)=some o/\w.frozen? (at' b (base+j))=false /\
  ∃ u,w.cell? (at' b (base+j))=some u/\JC O Jp m w u (cs.getD j .undef)
 | .arr e frz l=>(∀ x∈l.es,x.length=l.sz)/\((True/\l.es=[]/\m o= .slice none 0 0) \/
  (True/\ ∃ g cap cur,m o= .slice (some (at' g 0)) l.es.length cap/\Nk w g cur e/\l.es.length<=cap/\cap<=maxLen/\cur.size=cap*l.sz /\
    (∀ i j,i<l.es.length->j<l.sz-> ∃ u,cur[i*l.sz+j]? =some u/\J3 O w u ((l.es.getD i []).getD j .undef)) /\
    (∀ k,k<cur.size->l.es.length*l.sz<=k->O g k=some o)/\(∀ k,k<l.es.length*l.sz->O g k=if frz then none else some o)))
 | .mp l=>Ny O w o (m o) l
end
structure Moves (O:Own) (T:Nat->Prop) (w w':World):Prop where
 os:w'.os=w.os
 tape:w'.tape=w.tape
 output:w'.output=w.output
 size:w.heap.size<=w'.heap.size
 blk: ∀ b,b<w.heap.size->w'.heap[b]? =w.heap[b]? \/(∃ c c' e fr,w.heap[b]? =some (.cells c e fr)/\w'.heap[b]? =some (.cells c' e fr)/\c'.size=c.size /\
  (∀ k,(∀ o,O b k=some o-> ¬ T o)->c'[k]? =c[k]?)/\ ∃ k o,k<c.size/\O b k=some o/\T o) \/
  ∃ es ck es' ck' o,w.heap[b]? =some (.map es ck)/\w'.heap[b]? =some (.map es' ck')/\O b 0=some o/\T o
def Moves.refl (O:Own) (T:Nat->Prop) (w:World):Moves O T w w:=⟨rfl,rfl,rfl,DN _,fun _ _=>.inl rfl⟩
def cell_lt {w:World} {b k:Nat} {u:Value} (h:w.cell? (at' b k)=some u):b<w.heap.size:=by
 rcases Es b w.heap.size with hb | hb
 .exact hb
 .simp [World.cell?,H7 hb]at h
def Moves.cell {O:Own} {T:Nat->Prop} {w w':World} (h:Moves O T w w') {b k:Nat} (hb:b<w.heap.size) (hk: ∀ o,O b k=some o-> ¬ T o) :
 w'.cell? (at' b k)=w.cell? (at' b k):=by
 rcases h.blk b hb with he | ⟨c,c',e,fr,h1,h2,_,h4,_⟩ | ⟨es,ck,es',ck',o,h1,h2,_,_⟩
 .simp [World.cell?,he]
 .simp [World.cell?,h1,h2,h4 k hk]
 .simp [World.cell?,h1,h2]
def Moves.frozen {O:Own} {T:Nat->Prop} {w w':World} (h:Moves O T w w') {b k:Nat} (hb:b<w.heap.size):w'.frozen? (at' b k)=w.frozen? (at' b k):=by
 rcases h.blk b hb with he | ⟨c,c',e,fr,h1,h2,_,_,_⟩ | ⟨es,ck,es',ck',o,h1,h2,_,_⟩
 .simp [World.frozen?,he]
 .simp [World.frozen?,h1,h2]
 .simp [World.frozen?,h1,h2]
structure Passes (O O':Own) (T:Nat->Prop) (n:Nat):Prop where
 none: ∀ b k,b<n->O b k=none->O' b k=none
 keep: ∀ b k o,b<n->O b k=some o-> ¬ T o->O' b k=some o
def Moves.JW {O O':Own} {T:Nat->Prop} {w w':World} (h:Moves O T w w') (hp:Passes O O' T w.heap.size):MS O w O' w':=by intro b k u hn hc;have hb:=cell_lt hc;exact⟨hp.none b k hb hn,by rw[h.cell hb (fun o ho=>by rw[hn]at ho;cases ho)];exact hc⟩
def Q9 (Jp:List (Nat×Obj)) (m:Nat->Value) (objs':List (Nat×Obj)) (m':Nat->Value) (Nw:Nat->Prop):Prop :=
 ∀ o x',Jy objs' o=some x'->Nw o\/ ∃ x,Jy Jp o=some x/\x.shp=x'.shp/\m' o=m o
def JC.step {O O':Own} {Jp objs':List (Nat×Obj)} {m m':Nat->Value} {w w':World} {Nw:Nat->Prop} (hp:MS O w O' w') (he:Q9 Jp m objs' m' Nw)
 {v:Value} {a:A} (hn: ∀ o∈a.MP,¬ Nw o) (h:JC O Jp m w v a):JC O' objs' m' w' v a:=by
 have key: ∀ o,o∈a.MP-> ∀ x',Jy objs' o=some x'-> ∃ x,Jy Jp o=some x/\x.shp=x'.shp/\m' o=m o :=
  fun o ho x' hx=>(he o x' hx).resolve_left (hn o ho)
 cases a with
 | undef=>exact h
 | La=>exact h
 | ptr o off =>
  simp only[JC]at *
  refine⟨h.1,?_⟩;have h:=h.2;cases hx:Jy objs' o with
  | none=>simp
  | some x' =>obtain⟨x,h1,h2,h3⟩:=key o (by simp [A.MP]) x' hx;rw[h1]at h;simp only[Option.map_some,h2]at h;simp only[Option.map_some,h3];exact h
 | own o =>
  simp only[JC]at *
  refine⟨h.1,?_⟩;have h:=h.2;cases hx:Jy objs' o with
  | none=>simp
  | some x' =>obtain⟨x,h1,h2,h3⟩:=key o (by simp [A.MP]) x' hx;rw[h1]at h;simp only[Option.map_some,h2]at h;simp only[Option.map_some,h3];exact h
 | Kq o i off =>
  simp only[JC]at *
  refine⟨h.1,?_⟩;have h:=h.2;cases hx:Jy objs' o with
  | none=>simp
  | some x' =>obtain⟨x,h1,h2,h3⟩:=key o (by simp [A.MP]) x' hx;rw[h1]at h;simp only[Option.map_some,h2]at h;simp only[Option.map_some,h3];exact h
 | clo k o =>
  simp only[JC]at *
  obtain⟨h0,p,h4,h5,h⟩:=h;refine⟨h0,p,h4,h5.JW hp,?_⟩;cases hx:Jy objs' o with
  | none=>simp
  | some x' =>obtain⟨x,h1,h2,h3⟩:=key o (by simp [A.MP]) x' hx;rw[h1]at h;simp only[Option.map_some,h2]at h;simp only[Option.map_some,h3];exact h
 | bsl o n =>
  simp only[JC]at *
  refine⟨h.1,?_⟩;have h:=h.2;cases hx:Jy objs' o with
  | none=>simp
  | some x' =>obtain⟨x,h1,h2,h3⟩:=key o (by simp [A.MP]) x' hx;rw[h1]at h;simp only[Option.map_some,h2]at h;simp only[Option.map_some,h3];exact h
 | osl o n =>
  simp only[JC]at *
  refine⟨h.1,?_⟩;have h:=h.2;cases hx:Jy objs' o with
  | none=>simp
  | some x' =>obtain⟨x,h1,h2,h3⟩:=key o (by simp [A.MP]) x' hx;rw[h1]at h;simp only[Option.map_some,h2]at h;simp only[Option.map_some,h3];exact h
 | elt cs =>obtain⟨b,off,hv,hc⟩:=h;refine⟨b,off,hv,fun j hj=> ?_⟩;obtain⟨h1,u,h2,h3⟩:=hc j hj;obtain⟨h4,h5⟩:=hp _ _ _ h1 h2;exact⟨h4,u,h5,h3.JW hp⟩
 | fn f=>exact J3.JW hp h
 | ump _=>exact h
 | bool b=>exact J3.JW hp h
 | int k n=>exact J3.JW hp h
 | str s=>exact J3.JW hp h
 | sl l=>exact J3.JW hp h
 | sln l=>exact J3.JW hp h
 | Lt=>exact J3.JW hp h
 | usl _ _ _=>exact h
 | agg _=>exact h
 | tup _=>exact h
 | box _=>exact h
 | cbx _ _=>exact h
 | cnd _ _=>exact h
def Tu {α β :Type} {f: α ->List β} {l:List α} {d: α} {j:Nat} (hj:j<l.length) {x: β} (hx:x∈f (l.getD j d)):x∈l.flatMap f:=by grind
def T1.step {O O':Own} {Jp objs':List (Nat×Obj)} {m m':Nat->Value} {w w':World} {Nw:Nat->Prop} (hp:MS O w O' w') (he:Q9 Jp m objs' m' Nw)
 {v:Value} {a:A} (hn: ∀ o∈a.AtF,¬ Nw o) (h:T1 O Jp m w v a):T1 O' objs' m' w' v a:=by
 cases a with
 | agg cs =>obtain⟨vs,h1,h2,h3⟩:=h;exact⟨vs,h1,h2,fun j hj=>(h3 j hj).step hp he fun o ho=>hn o (Tu hj ho)⟩
 | cnd g a=>exact h
 | _ =>simp only[T1]at h ⊢;refine JC.step hp he ?_ h;exact hn
def J7.step {O O':Own} {Jp objs':List (Nat×Obj)} {m m':Nat->Value} {w w':World} {Nw:Nat->Prop} (hp:MS O w O' w') (he:Q9 Jp m objs' m' Nw)
 {v:Value} {a:A} (hn: ∀ o∈a.ids,¬ Nw o) (h:J7 O Jp m w v a):J7 O' objs' m' w' v a:=by
 cases a with
 | undef=>trivial
 | tup l =>obtain⟨vs,h1,h2,h3⟩:=h;exact⟨vs,h1,h2,fun j hj=>(h3 j hj).step hp he fun o ho=>hn o (Tu hj ho)⟩
 | cnd g a =>
  refine⟨fun hg=> ?_,h.2⟩;have h':=h.1 hg;cases a with
  | cnd _ _=>exact h'
  | _=>exact T1.step hp he hn h'
 | _ =>simp only[J7]at h ⊢;refine T1.step hp he ?_ h;exact hn
def Ny.step {O O':Own} {w w':World} {T:Nat->Prop} (hm:Moves O T w w') (hp:Passes O O' T w.heap.size) {o:Nat} {v:Value} {l:Mp} (ho: ¬ T o) (h:Ny O w o v l):Ny O' w' o v l:=by
 obtain⟨r,es,ck,h1,h2,h3,h4,h5⟩:=h;have hr:r<w.heap.size:=(Ee.1 h2).1;refine⟨r,es,ck,h1,?_,hp.keep _ _ _ hr h3 ho,h4,fun i p hip=> ?_⟩
 .rcases hm.blk r hr with he | ⟨c,c',e,fr,g1,_⟩ | ⟨es1,ck1,es',ck',o',g1,g2,g3,g4⟩;all_goals grind
 .obtain⟨e,k1,k2,k3⟩:=h5 i p hip;exact⟨e,k1,k2.JW (hm.JW hp),k3.JW (hm.JW hp)⟩
def KT.step {O O':Own} {Jp objs':List (Nat×Obj)} {m m':Nat->Value} {w w':World} {Nw T:Nat->Prop} (hm:Moves O T w w') (hp:Passes O O' T w.heap.size) (he:Q9 Jp m objs' m' Nw)
 {o:Nat} {x:Obj} (ho: ¬ T o) (hmo:m' o=m o) (hn: ∀ i∈x.ids,¬ Nw i) (h:KT O Jp m w o x):KT O' objs' m' w' o x:=by
 have hpr:=hm.JW hp;cases x with
 | box cs =>obtain⟨b,base,h1,h2⟩:=h;refine⟨b,base,by rw[hmo];exact h1,fun j hj=> ?_⟩;obtain⟨h3,h4,u,h5,h6⟩:=h2 j hj;have hb:=cell_lt h5;refine⟨hp.keep _ _ _ hb h3 ho,by rw[hm.frozen hb];exact h4,u,?_,h6.step hpr he fun i hi=>hn i (Tu hj hi)⟩;rw[hm.cell hb (fun o' ho'=>by rw[h3]at ho';injection ho' with ho';subst ho';exact ho)];exact h5
 | arr e frz l =>
  obtain⟨h0,h⟩:=h;refine⟨h0,?_⟩;rcases h with ⟨h1,h2,h3⟩ | ⟨h1,g,cap,cur,h2,h3,h4,h5,h6,h7,h8,h9⟩
  .grind
  .refine .inr ⟨h1,g,cap,cur,by rw[hmo];exact h2,?_,h4,h5,h6,?_,?_,?_⟩
   .have hg:g<w.heap.size:=h3.lt;rcases hm.blk g hg with hE | ⟨c,c',e',fr,hA,hB,hC,hD,k,o',hk,hK,hT⟩ | ⟨es1,ck1,es',ck',o',g1,_⟩
    .exact h3.same hE
    .obtain⟨fr0,h3,_⟩:=h3;all_goals grind
    .obtain⟨fr0,h3,_⟩:=h3;rw[h3]at g1;injection g1 with g1;cases g1
   .intro i j hi hj;obtain⟨u,hu,hr⟩:=h7 i j hi hj;exact⟨u,hu,hr.JW hpr⟩
   .intro k hk hge;have hg:g<w.heap.size:=h3.lt;exact hp.keep _ _ _ hg (h8 k hk hge) ho
   .intro k hk;have hg:g<w.heap.size:=h3.lt;have:=h9 k hk;cases frz
    .simp at this ⊢;exact hp.keep _ _ _ hg this ho
    .simp at this ⊢;exact hp.none _ _ hg this
 | mp l =>have h:Ny O w o (m o) l:=h;show Ny O' w' o (m' o) l;rw[hmo];exact h.step hm hp ho
theorem UO (a b:Nat):Nat.beq a b=decide (a=b):=by
 cases h:Nat.beq a b with
 | true=>simp_all
 | false=>simp [Nat.ne_of_beq_eq_false h]
theorem NL (q:Nat) (x:Obj) (r:List (Nat×Obj)) (k:Nat):Jy ((q,x)::r) k=if q=k then some x else Jy r k:=by grind[Jy,UO]
theorem wM (q:Nat) (x:Obj) (r:List (Nat×Obj)) (n:Nat):Sj ((q,x)::r) n=if q=n then Sj r n else(q,x)::Sj r n:=by grind[Sj,UO]
theorem iR (l:List (Nat×Obj)) (n k:Nat):Jy (Sj l n) k=if k=n then none else Jy l k:=by
 induction l with
 | nil=>simp [Sj,Jy]
 | cons p r ih=>grind[wM,NL]
theorem Aq7 (l:List (Nat×Obj)) (n:Nat) (y:Obj) (k:Nat) (hn:Jy l n=none):Jy (Z7 l n y) k=if k=n then some y else Jy l k:=by
 induction l with
 | nil=>grind[Z7,NL]
 | cons p r ih=>grind[NL,Z7]
theorem KA (l:List (Nat×Obj)) (n:Nat) (y:Obj) (k:Nat):Jy (Lj l n y) k=if k=n then some y else Jy l k:=by grind[Lj,Aq7,iR]
def Ub (d:List Nat): ∀(l:List (Nat×Obj)) (k:Nat),Jy (Ky l d) k=if k∈d then none else Jy l k:=by
 induction d with
 | nil=>grind[Ky]
 | cons n r ih=>grind[Ky,iR]
theorem LJ (u:List (Nat×Obj)): ∀(l:List (Nat×Obj)) (k:Nat),(∀ p∈u,p.1≠k)->Jy (JD l u) k=Jy l k:=by
 induction u with
 | nil=>intro l k _;rfl
 | cons p r ih=>grind[JD,KA]
def Nl (u:List (Nat×Obj)): ∀(l:List (Nat×Obj)) (k:Nat),(∃ p∈u,p.1=k)-> ∃ x,(k,x)∈u/\Jy (JD l u) k=some x:=by
 induction u with
 | nil=>grind
 | cons p r ih =>
  obtain⟨n,x⟩:=p;intro l k h;by_cases hr: ∃ p∈r,p.1=k
  .obtain⟨y,hy,he⟩:=ih (Lj l n x) k hr;exact⟨y,Dw _ hy,he⟩
  .grind[JD,LJ,KA]
structure VB (P:Program) (t:Nat) (ti:TI):Prop where
 d:P.underlying t=some ti.d
 ck:ND P 20 t=some ti.cs
 cmp:ti.cmp=Ajm P t ti.d
 i: ∃ i z,P.info? t=some i/\i.size=ti.cs.length/\i.bytes=ti.bytes/\i.zero=some z/\KD z.cells.toList ti.cs=true/\Xy ti.d=eP z
def AvY {P:Program} {t:Nat} {ti:TI} (h:Aqw P t=some ti):VB P t ti:=by
 unfold Aqw at h;split at h
 .rename_i d i cs hd hi hc;split at h
  .rename_i z hz;cases hb:(Nat.beq i.size cs.length&&KD z.cells.toList cs&&(Xy d==eP z))with
   | false=>rw[hb]at h;cases h
   | true =>rw[hb]at h;injection h with h;subst h;simp only[Du]at hb;exact⟨hd,hc,rfl,i,z,hi,Dy hb.1.1,rfl,hz,hb.1.2,by simpa using hb.2⟩
  .cases h
 .cases h
def TOk (P:Program) (C:Ctx):Prop:= ∀ t ti,C.T t=some ti->Aqw P t=some ti
def TOk.is {P:Program} {C:Ctx} (h:TOk P C) {t:Nat} {ti:TI} (ht:C.T t=some ti):VB P t ti:=AvY (h t ti ht)
section
variable {P:Program} {t:Nat} {ti:TI} (w:World)
def VB.run (h:VB P t ti):(underlying t).run P w= .ok ti.d w:=Eb h.d w
def VB.O5 (h:VB P t ti):(sizeOf t).run P w= .ok ti.cs.length w:=by obtain⟨i,z,h1,h2,_⟩:=h.i;simp [sizeOf,typeInfo,h1,h2]
def VB.AlM (h:VB P t ti):(isAgg t).run P w= .ok ti.agg w:=by simp only[isAgg,D8,h.run,Result.andThen_ok,TI.agg];cases ti.d<;>rfl
def Adw (ti:TI):ti.agg=Xy ti.d:=by grind[TI.agg,Xy]
end
def J5 (l:List Bool):Prop:= ∀ b∈l,b=true
theorem U0 {α :Type} {l:List Bool} {r:Option α} {x: α} (h:allT l r=some x):J5 l/\r=some x:=by
 induction l with
 | nil=>grind[allT,J5]
 | cons c cs ih=>grind[allT,J5]
def J5.append {a b:List Bool} (h:J5 (a++b)):J5 a/\J5 b:=by simp_all[J5]
def J5.cons {c:Bool} {a:List Bool} (h:J5 (c::a)):c=true/\J5 a:=by simp_all[J5]
theorem J5.nil:J5 []:=fun _ h=>by cases h
theorem JE: ¬ J5 Dl.no.ok:=by simp_all[Dl.no,J5]
section
variable {P:Program} {C:Ctx} {O:Own} {Jp:List (Nat×Obj)} {m:Nat->Value} {a:Act} {w:World} {o:Oper}
def JC.toT {v:Value} {x:A} (h:JC O Jp m w v x):J7 O Jp m w v x:=by cases x<;>first | trivial | exact h | exact h.elim
def T1.toT {v:Value} {x:A} (h:T1 O Jp m w v x):J7 O Jp m w v x:=by cases x<;>first | trivial | exact h | exact h.elim
structure Pure (P:Program) (O:Own) (Jp:List (Nat×Obj)) (m:Nat->Value) (a:Act) (w:World) (o:Oper) (δ :Dl):Prop where
 run: ∃ v,(execOp a.eval o).run P w= .ok (.value v) w/\J7 O Jp m w v δ.val
 new: δ.new=[]
 upd: δ.upd=[]
 del: δ.del=[]
def J7.int {v:Value} {k:IntKind} {n:Int} (h:J7 O Jp m w v (.int k n)):v= .int k n:=by cases h;rfl
def J7.bool {v:Value} {b:Bool} (h:J7 O Jp m w v (.bool b)):v= .bool b:=by cases h;rfl
def J7.str {v:Value} {s:List UInt8} (h:J7 O Jp m w v (.str s)): ∃ b:ByteArray,v= .string b/\b.data.toList=s:=by cases h;exact⟨_,rfl,rfl⟩
def J7.mkInt (k:IntKind) (n:Int):J7 O Jp m w (.int k n) (.int k n):=J3.int k n
def J7.OX (b:Bool):J7 O Jp m w (.bool b) (.bool b):=J3.bool b
def J7.mkStr (s:ByteArray) {l:List UInt8} (h:s.data.toList=l):J7 O Jp m w (.string s) (.str l):=by subst h;exact J3.str s
def jT (s:ByteArray):s.toList=s.data.toList:=ByteArray.toList_eq s
theorem Uf (s:ByteArray):s.size=s.data.toList.length:=by rw[Array.length_toList];rfl
def Ah8 {x:Operand} (ho:o.op= .move x\/o.op= .assign x) {y:A} (hx:J7 O Jp m w (a.eval x) y):Pure P O Jp m a w o (.v y):=by refine⟨⟨a.eval x,?_,hx⟩,rfl,rfl,rfl⟩;rcases ho with ho | ho<;>simp [execOp,ho]
def sV {v:Value} {x:A} (h:J7 O Jp m w v x) (hg:x.Pg.1=true):J7 O Jp m w v x.Pg.2:=by
 cases x with
 | cnd g y =>have:=h.1 hg;cases y<;>first | trivial | exact this | exact this.elim
 | _=>exact h
def Asi {c x y:Operand} (ho:o.op= .pick c x y) {c' x' y':A} (hc:J7 O Jp m w (a.eval c) c') (hx:J7 O Jp m w (a.eval x) x') (hy:J7 O Jp m w (a.eval y) y')
 (hok:J5 (Aj1 c' x' y').ok):Pure P O Jp m a w o (Aj1 c' x' y'):=by
 obtain⟨h0,h1⟩:=hok.cons;obtain⟨h1,h2⟩:=h1.cons;obtain⟨h2,h3⟩:=h2.cons;have h3:=h3.cons.1;refine⟨?_,rfl,rfl,rfl⟩;have hc':=sV hc h0;unfold Aj1;simp only[Dl.g];generalize c'.Pg.2=cc at *
 obtain⟨q,rfl⟩: ∃ q,cc= .bool q:=by cases cc<;>simp [A.isB]at h1;exact⟨_,rfl⟩
 have:=hc'.bool;cases q with
 | true =>
  simp only[A.toB,cond_true]at h2 h3 ⊢;have hx':=sV hx h2;generalize x'.Pg.2=xx at *
  cases xx<;>simp [A.isB]at h3;exact⟨a.eval x,by simp [execOp,ho,asBool,this],hx'⟩
 | false =>
  simp only[A.toB,cond_false]at h2 h3 ⊢;have hy':=sV hy h2;generalize y'.Pg.2=yy at *
  cases yy<;>simp [A.isB]at h3;exact⟨a.eval y,by simp [execOp,ho,asBool,this],hy'⟩
theorem Qk {j k:IntKind} (h:A.kEq j k=true):j=k:=by cases j<;>cases k<;>first | rfl | cases h
def Atb {op:BinOp} {k:IntKind} {x y:Int} (hok:J5 (wQ op k x y).ok) (t:TypeId) (hop:op≠ .shl) (hop':op≠ .shr) :
 ∃ v,(binOp op t (.int k x) (.int k y)).run P w= .ok v w/\J7 O Jp m w v (wQ op k x y).val/\(wQ op k x y).new=[]/\(wQ op k x y).upd=[]/\(wQ op k x y).del=[]:=by
 have ha: ∀ op,op= .add\/op= .sub\/op= .mul->binOp op t (.int k x) (.int k y)=Op.intArith op k x y:=by rintro op (rfl | rfl | rfl)<;>simp [binOp]
 have hd: ∀ op,op= .quo\/op= .rem->binOp op t (.int k x) (.int k y)=Op.intDiv op k x y:=by rintro op (rfl | rfl)<;>simp [binOp]
 have hb: ∀ op,op= .and\/op= .or\/op= .xor\/op= .andNot->binOp op t (.int k x) (.int k y)=Op.intBits op k x y:=by rintro op (rfl | rfl | rfl | rfl)<;>simp [binOp]
 have hc: ∀ op,op= .eql\/op= .neq\/op= .lss\/op= .leq\/op= .gtr\/op= .geq->binOp op t (.int k x) (.int k y)=Op.intCmp op x y:=by rintro op (rfl | rfl | rfl | rfl | rfl | rfl)<;>simp [binOp]
 cases op with
 | shl=>exact absurd rfl hop
 | shr=>exact absurd rfl hop'
 | add=>rw[ha _ (by simp)];exact⟨_,rfl,.mkInt _ _,rfl,rfl,rfl⟩
 | sub=>rw[ha _ (by simp)];exact⟨_,rfl,.mkInt _ _,rfl,rfl,rfl⟩
 | mul=>rw[ha _ (by simp)];exact⟨_,rfl,.mkInt _ _,rfl,rfl,rfl⟩
 | quo =>
  have h0:y≠0:=by simpa [wQ,Dl.g]using hok.cons.1
  rw[hd _ (by simp)];exact⟨.int k (k.wrap (x.tdiv y)),by simp [Op.intDiv,h0],.mkInt _ _,rfl,rfl,rfl⟩
 | rem =>
  have h0:y≠0:=by simpa [wQ,Dl.g]using hok.cons.1
  rw[hd _ (by simp)];exact⟨.int k (x.tmod y),by simp [Op.intDiv,h0],.mkInt _ _,rfl,rfl,rfl⟩
 | and=>rw[hb _ (by simp)];exact⟨_,rfl,.mkInt _ _,rfl,rfl,rfl⟩
 | or=>rw[hb _ (by simp)];exact⟨_,rfl,.mkInt _ _,rfl,rfl,rfl⟩
 | xor=>rw[hb _ (by simp)];exact⟨_,rfl,.mkInt _ _,rfl,rfl,rfl⟩
 | andNot=>rw[hb _ (by simp)];exact⟨_,rfl,.mkInt _ _,rfl,rfl,rfl⟩
 | eql=>rw[hc _ (by simp)];exact⟨_,rfl,.OX _,rfl,rfl,rfl⟩
 | neq=>rw[hc _ (by simp)];exact⟨_,rfl,.OX _,rfl,rfl,rfl⟩
 | lss=>rw[hc _ (by simp)];exact⟨_,rfl,.OX _,rfl,rfl,rfl⟩
 | leq=>rw[hc _ (by simp)];exact⟨_,rfl,.OX _,rfl,rfl,rfl⟩
 | gtr=>rw[hc _ (by simp)];exact⟨_,rfl,.OX _,rfl,rfl,rfl⟩
 | geq=>rw[hc _ (by simp)];exact⟨_,rfl,.OX _,rfl,rfl,rfl⟩
def Atc {op:BinOp} {x y:ByteArray} {x' y':List UInt8} (hx:x.data.toList=x') (hy:y.data.toList=y') (hok:J5 (wR op x' y').ok) (t:TypeId) :
 ∃ v,(binOp op t (.string x) (.string y)).run P w= .ok v w/\J7 O Jp m w v (wR op x' y').val/\(wR op x' y').new=[]/\(wR op x' y').upd=[]/\(wR op x' y').del=[]:=by
 subst hx hy;have hs: ∀ op,op≠ .shl->op≠ .shr->binOp op t (.string x) (.string y)=Op.stringOp op x y:=by intro op _ _;cases op<;>rfl
 cases op<;>first
  | exact(JE hok).elim
  | (rw [hs _ (by simp) (by simp)]
     refine⟨_,rfl,?_,rfl,rfl,rfl⟩;simp only[wR,Dl.v,jT,bytesLess];exact .OX _)
  | (have h0:x.data.toList.length+y.data.toList.length<=140737488355328:=by simpa [wR,Dl.g]using hok.cons.1
     rw[hs _ (by simp) (by simp)];refine⟨.string (x++y),?_,?_,rfl,rfl,rfl⟩
     .have: ¬(((x.size+y.size:Nat):Int)>IntKind.i64.max):=by
       rw[<- Uf,<- Uf]at h0;rw[show IntKind.i64.max=9223372036854775807 from rfl];omega
      simp only[Op.stringOp,this,GU];rfl
     .exact .mkStr _ (Go.Joins.data_append x y))
end
def dW {P:Program} {w:World} {op:BinOp} {t:TypeId} {x y:Operand} {v u:Value} (h: ∀ cs,v≠ .agg cs:=by simp) (h':v≠ .nilIface:=by simp):(eqGuard op t x y v u).run P w= .ok () w:=by unfold eqGuard;all_goals simp_all
section
variable {P:Program} {C:Ctx} {O:Own} {Jp:List (Nat×Obj)} {m:Nat->Value} {a:Act} {w:World} {o:Oper} {fet:Fet}
def FOk (O:Own) (Jp:List (Nat×Obj)) (m:Nat->Value) (w:World) (fet:Fet):Prop:= ∀ o x,Jy fet o=some x->Jy Jp o=some x/\KT O Jp m w o x
def JL {α :Type} {x:Option α} {k: α ->Dl} (hok:J5 (Kt x k).ok): ∃ y,x=some y/\Kt x k=k y:=by
 cases x with
 | none=>exact(JE hok).elim
 | some y=>exact⟨y,rfl,rfl⟩
def Ku {t:Nat} {k:TI->Dl} (hok:J5 (Lr C t k).ok): ∃ ti,C.T t=some ti/\Lr C t k=k ti:=JL hok
def Lp {n:Nat} {cs:List A} (h:L6 fet n=some cs):Jy fet n=some (.box cs):=by unfold L6 at h;split at h<;>simp_all
def Np {n:Nat} {r:Arr} (h:Z8 fet n=some r):Jy fet n=some (.arr r.e r.frz r.l):=by unfold Z8 at h;all_goals grind
def QS {d:TypeDesc} {e:Nat} (h:elem? d=some e):d= .slice e:=by unfold elem? at h;split at h<;>simp_all
def J7.own {v:Value} {n:Nat} {e:Nat} {frz:Bool} {l:Sl} (hf:FOk O Jp m w fet) (h:J7 O Jp m w v (.own n)) (hx:Jy fet n=some (.arr e frz l)) :
 v=m n/\KT O Jp m w n (.arr e frz l):=by
 obtain⟨h1,h2⟩:=hf _ _ hx;refine⟨?_,h2⟩;have h':JC O Jp m w v (.own n):=h;all_goals grind[JC,Obj.shp]
def J7.ptr {v:Value} {n off:Nat} {cs:List A} (hf:FOk O Jp m w fet) (h:J7 O Jp m w v (.ptr n off)) (hx:Jy fet n=some (.box cs)) :
 ∃ b base,m n= .pointer (some (at' b base))/\v= .pointer (some (at' b (base+off)))/\ ∀ j,j<cs.length->O b (base+j)=some n/\w.frozen? (at' b (base+j))=false /\
  ∃ u,w.cell? (at' b (base+j))=some u/\JC O Jp m w u (cs.getD j .undef):=by
 obtain⟨h1,b,base,h2,h3⟩:=hf _ _ hx;have h':JC O Jp m w v (.ptr n off):=h;all_goals grind[JC,Obj.shp]
def J7.Lt {v:Value} (h:J7 O Jp m w v .Lt):v= .pointer none:=by cases h;rfl
def Ale {t e:Nat} {v:Value} {b:Bool} (hu:P.underlying t=some (.slice e)) (h:(v= .slice none 0 0/\b=true)\/(∃ ad l c,v= .slice (some ad) l c)/\b=false) :
 (Op.equal t v (.slice none 0 0)).run P w= .ok b w:=by
 rcases h with ⟨rfl,rfl⟩ | ⟨⟨ad,l,c,rfl⟩,rfl⟩<;>rw[run_equal_slice_nil w t e _ _ _ hu]<;>rfl
def ArT {t e:Nat} {v:Value} {b:Bool} (hu:P.underlying t=some (.pointer e)) (h:(v= .pointer none/\b=true)\/(∃ ad,v= .pointer (some ad))/\b=false) :
 (Op.equal t v (.pointer none)).run P w= .ok b w:=by
 have hu':P.underlying t=some (.pointer (P.pointee t)):=by rw[hu];simp [Program.pointee,hu]
 rcases h with ⟨rfl,rfl⟩ | ⟨⟨ad,rfl⟩,rfl⟩<;>rw[run_equal_pointer_nil w t _ hu']<;>rfl
def Ah9 {s:Bool} {t:Nat} {d:TypeDesc} {x:A} {v:Value} {b:Bool} (hd:P.underlying t=some d) (hf:FOk O Jp m w fet) (hx:J7 O Jp m w v x) (h:AeH fet s d x=some b) :
 (s=true/\(Op.equal t v (.slice none 0 0)).run P w= .ok b w/\ ∃ a l c,v= .slice a l c)\/(s=false/\(Op.equal t v (.pointer none)).run P w= .ok b w/\ ∃ a,v= .pointer a):=by
 unfold AeH at h;split at h
 .injection h with h;subst h;have hx':v= .slice none 0 0:=hx;exact .inl ⟨rfl,Ale hd (.inl ⟨hx',rfl⟩),_,_,_,hx'⟩
 .injection h with h;subst h;rename_i l;have hx':J3 O w v (.sln l):=hx;cases hx' with
  | sln h hn =>
   cases hq:l.xs.isEmpty with
   | true=>simp_all[Ale,hd,FOk,J7,AeH]
   | false =>
    cases h with
    | nil=>cases hq
    | sl0=>cases hq
    | sl vs _ _ _=>simp_all[Ale,hd,FOk,J7,AeH]
 .injection h with h;subst h;cases hx;exact .inr ⟨rfl,ArT hd (.inl ⟨rfl,rfl⟩),_,rfl⟩
 .rename_i n off;cases hr:L6 fet n with
  | none=>rw[hr]at h;cases h
  | some cs =>rw[hr]at h;injection h with h;subst h;obtain⟨b,base,_,h2,_⟩:=hx.ptr hf (Lp hr);exact .inr ⟨rfl,ArT hd (.inr ⟨⟨_,h2⟩,rfl⟩),_,h2⟩
 .cases h
def AnK {t:Nat} {x y:Bool} (hd:P.underlying t=some .bool):(Op.equal t (.bool x) (.bool y)).run P w= .ok (x==y) w:=by
 have: ∀ d,(Op.equalIn (d+1) t (.bool x) (.bool y)).run P w= .ok (x==y) w:=by intro d;simp [Op.equalIn,Eb hd]
 exact this 9999
def AeQ {t:Nat} {vs:Array Value} {off:Nat} {d:TypeDesc} (hd:P.underlying t=some d) (hp:Xy d=false) (h:off<vs.size):(part t vs off).run P w= .ok (vs.getD off undef) w:=by
 have hg:vs[off]? =some (vs.getD off undef):=by rw[Dq,D7 h];rfl
 have ha:(isAgg t).run P w= .ok false w:=by simp only[isAgg,D8,Eb hd,Result.andThen_ok];cases d<;>first | rfl | cases hp
 unfold part;all_goals simp_all
def JC.AuL {v:Value} {b:Bool} (h:JC O Jp m w v (.bool b)):v= .bool b:=by cases h;rfl
def JC.Aw1 {v:Value} {k:IntKind} {n:Int} (h:JC O Jp m w v (.int k n)):v= .int k n:=by cases h;rfl
def JC.AwX {v:Value} {s:List UInt8} (h:JC O Jp m w v (.str s)): ∃ b:ByteArray,v= .string b/\b.data.toList=s:=by cases h;exact⟨_,rfl,rfl⟩
def Ao9 {d ty:Nat} {k:CK} {td:TypeDesc} {a b:A} {v u:Value} (hk:(k= .bool/\td= .bool)\/(∃ i,k= .int i/\td= .int i)\/(k= .str/\td= .string)) (hd:P.underlying ty=some td) (h1:JC O Jp m w v a) (h2:JC O Jp m w u b) (hok:(dH k a b).1=true) :
 (Op.equalIn (d+1) ty v u).run P w= .ok (dH k a b).2 w:=by
 rcases hk with ⟨rfl,rfl⟩ | ⟨i,rfl,rfl⟩ | ⟨rfl,rfl⟩
 .cases a<;>first | (cases hok;done) | skip
  cases b<;>first | (cases hok;done) | skip
  rw[h1.AuL,h2.AuL];exact run_equalIn_bool' w d ty _ _ hd
 .cases a<;>first | (cases hok;done) | skip
  cases b<;>first | (cases hok;done) | skip
  rename_i j x j' y;simp only[dH,Du]at hok;rw[h1.Aw1,h2.Aw1,Qk hok.1,Qk hok.2];exact run_equalIn_int w d ty i i _ _ hd
 .cases a<;>first | (cases hok;done) | skip
  cases b<;>first | (cases hok;done) | skip
  obtain⟨s1,e1,l1⟩:=h1.AwX;obtain⟨s2,e2,l2⟩:=h2.AwX;rw[e1,e2,run_equalIn_string w d ty _ _ hd];simp only[dH,jT,l1,l2]
def Akt {d:Nat} {vs us:Array Value} {x y:List A} (hx:vs.size=x.length) (hy:us.size=y.length) (hxr: ∀ j,j<x.length->JC O Jp m w (vs.getD j undef) (x.getD j .undef)) (hyr: ∀ j,j<y.length->JC O Jp m w (us.getD j undef) (y.getD j .undef)) :
 ∀(fs:List Field) (n:Nat) (ks:List CK),QT P fs n=some ks->(Pm ks (x.drop n) (y.drop n)).1=true->(Op.eqFields (d+1) vs us fs).run P w= .ok (Pm ks (x.drop n) (y.drop n)).2 w:=by
 intro fs
 induction fs with
 | nil =>
  intro n ks h hok;injection h with h;subst h
  have:Pm [] (x.drop n) (y.drop n)=(true,true):=by
   cases hx:x.drop n with
   | nil=>cases hy:y.drop n with
    | nil=>rfl
    | cons _ _=>rw[hx,hy]at hok;cases hok
   | cons _ _=>rw[hx]at hok;cases hok
  rw[this];rfl
 | cons f fs ih =>
  intro n ks h hok
  have key: ∀(k:CK) (td:TypeDesc) (ks':List CK),((k= .bool/\td= .bool)\/(∃ i,k= .int i/\td= .int i)\/(k= .str/\td= .string))->P.underlying f.type=some td->QT P fs (n+1)=some ks'->(f.name != "_" &&Nat.beq f.offset n)=true->ks=k::ks' ->
   (Op.eqFields (d+1) vs us (f::fs)).run P w= .ok (Pm ks (x.drop n) (y.drop n)).2 w:=by
   intro k td ks' hk hd hf hn hks;subst hks;rw[Du]at hn;have hnm:f.name≠ "_" :=by simpa using hn.1
   have hoff:=Dy hn.2;cases hxd:x.drop n with
   | nil=>rw[hxd]at hok;cases hok
   | cons a xr =>
    cases hyd:y.drop n with
    | nil=>rw[hxd,hyd]at hok;cases hok
    | cons b yr =>
     rw[hxd,hyd]at hok;simp only[Pm,Du]at hok ⊢
     have hnx:n<x.length:=by
      rcases Es n x.length with h | h
      .exact h
      .rw[FZ h]at hxd;cases hxd
     have hny:n<y.length:=by
      rcases Es n y.length with h | h
      .exact h
      .rw[FZ h]at hyd;cases hyd
     have e1:x.getD n .undef=a:=by have:=congrArg List.head? hxd;rw[List.head?_drop]at this;rw[Dj,this];rfl
     have e2:y.getD n .undef=b:=by have:=congrArg List.head? hyd;rw[List.head?_drop]at this;rw[Dj,this];rfl
     have e3:x.drop (n+1)=xr:=by rw[<- FN,hxd];rfl
     have e4:y.drop (n+1)=yr:=by rw[<- FN,hyd];rfl
     have r1:=hxr n hnx;have r2:=hyr n hny;rw[e1]at r1;rw[e2]at r2;have hagg:Xy td=false:=by rcases hk with ⟨_,rfl⟩ | ⟨i,_,rfl⟩ | ⟨_,rfl⟩<;>rfl
     have p1:=AeQ (P:=P) (w:=w) (vs:=vs) (off:=n) hd hagg (by omega);have p2:=AeQ (P:=P) (w:=w) (vs:=us) (off:=n) hd hagg (by omega);have q:=Ao9 (d:=d) hk hd r1 r2 hok.1;have hrest:=ih (n+1) ks' hf (by rw[e3,e4];exact hok.2);rw[e3,e4]at hrest;simp only[Op.eqFields,hnm,ne_eq,not_false_eq_true,Ji,D8,hoff,p1,p2,Result.andThen_ok,q];cases (dH k a b).2 with
     | false=>simp
     | true=>simpa using hrest
  unfold QT at h;all_goals grind
def AfD {t:Nat} {ti:TI} (hT:VB P t ti) {vs us:Array Value} {x y:List A} (hx:vs.size=x.length) (hy:us.size=y.length) (hxr: ∀ j,j<x.length->JC O Jp m w (vs.getD j undef) (x.getD j .undef)) (hyr: ∀ j,j<y.length->JC O Jp m w (us.getD j undef) (y.getD j .undef))
 (h1:ti.cmp.isEmpty=false) (h2:(Pm ti.cmp x y).1=true):P.eqGuardType P.depth t=false/\(Op.equalIn 10000 t (.agg vs) (.agg us)).run P w= .ok (Pm ti.cmp x y).2 w:=by
 have hc:=hT.cmp;have hd:=hT.d;unfold Ajm at hc;split at hc
 .rename_i fs hfs;split at hc
  .rename_i ks hks;cases hb:(!(P.stoodInHeld t)&& !(P.eqGuardType P.depth t))with
   | false=>grind
   | true =>
    rw[hb]at hc;simp only[cond_true]at hc;rw[hc]at h2 ⊢;rw[Du,EY,EY]at hb;rw[hfs]at hd;have hf:P.fieldsOf t=fs:=by simp only[Program.fieldsOf,hd]
    refine⟨hb.2,?_⟩;rw[run_equalIn_agg w 9999 t vs us (by rw[hf];exact hd) hb.1,hf];exact Akt (d:=9998) hx hy hxr hyr fs.toList 0 ks hks h2
  .grind
 .grind
def Atd {op:BinOp} {t ty:Nat} {x y:Operand} (hC:TOk P C) (hf:FOk O Jp m w fet) (ho:o.op= .binOp op t x y ty) {x' y':A} (hx:J7 O Jp m w (a.eval x) x') (hy:J7 O Jp m w (a.eval y) y')
 (hok:J5 (AjQ C fet op t x' y').ok):Pure P O Jp m a w o (AjQ C fet op t x' y'):=by
 have fin: ∀ {v u:Value} {δ :Dl},a.eval x=v->a.eval y=u->(∀ cs,v≠ .agg cs)->v≠ .nilIface->(∃ r,(binOp op t v u).run P w= .ok r w/\J7 O Jp m w r δ.val/\ δ.new=[]/\ δ.upd=[]/\ δ.del=[])->Pure P O Jp m a w o δ :=by intro v u δ hv hu h1 h2 ⟨r,h3,h4,h5,h6,h7⟩;refine⟨⟨r,?_,h4⟩,h5,h6,h7⟩;simp only[execOp,ho,hv,hu,D8,dW h1 h2,Result.andThen_ok,h3,Sem.run_pure]
 unfold AjQ at hok ⊢;split at hok
 .rename_i k p k' q;have h1:=hx.int;have h2:=hy.int;split at hok
  .have h0:0<=q:=by simpa [Dl.g]using hok.cons.1
   refine fin h1 h2 (by simp) (by simp) ⟨_,?_,.mkInt _ _,rfl,rfl,rfl⟩;have: ¬ q<0:=by omega
   simp [binOp,Op.shift,this]
  .have h0:0<=q:=by simpa [Dl.g]using hok.cons.1
   refine fin h1 h2 (by simp) (by simp) ⟨_,?_,.mkInt _ _,rfl,rfl,rfl⟩;have: ¬ q<0:=by omega
   simp [binOp,Op.shift,this]
  .rename_i h3 h4;cases hk:A.kEq k k' with
   | false=>rw[hk]at hok;exact(JE hok).elim
   | true =>rw[hk]at hok;have:=Qk hk;subst this;exact fin h1 h2 (by simp) (by simp) (Atb hok t h3 h4)
 .obtain⟨s1,h1,h2⟩:=hx.str;obtain⟨s2,h3,h4⟩:=hy.str;exact fin h1 h3 (by simp) (by simp) (Atc h2 h4 hok t)
 .have h1:=hx.bool;have h2:=hy.bool;split at hok
  .unfold Ajj at *
   obtain⟨ti,ht,he⟩:=Ku hok;rw[he]at hok ⊢;have hd:ti.d= .bool:=by have:=hok.cons.1;unfold Agu at this;split at this<;>simp_all
   refine fin h1 h2 (by simp) (by simp) ⟨_,?_,.OX _,rfl,rfl,rfl⟩;have hu:=(hC.is ht).d;rw[hd]at hu;simp only[binOp,D8,AnK hu,Result.andThen_ok,Sem.run_pure]
  .unfold Ajj at *
   obtain⟨ti,ht,he⟩:=Ku hok;rw[he]at hok ⊢;have hd:ti.d= .bool:=by have:=hok.cons.1;unfold Agu at this;split at this<;>simp_all
   refine fin h1 h2 (by simp) (by simp) ⟨_,?_,.OX _,rfl,rfl,rfl⟩;have hu:=(hC.is ht).d;rw[hd]at hu;simp only[binOp,D8,AnK hu,Result.andThen_ok,Sem.run_pure]
  .exact(JE hok).elim
 .rename_i x y;obtain⟨vs,e1,l1,r1⟩:=(show T1 O Jp m w _ (.agg x)from hx)
  obtain⟨us,e2,l2,r2⟩:=(show T1 O Jp m w _ (.agg y)from hy)
  obtain⟨ti,ht,he⟩:=Ku hok;rw[he]at hok ⊢;split at hok
  .obtain⟨c1,c2⟩:=hok.cons;obtain⟨g1,g2⟩:=AfD (hC.is ht) l1 l2 r1 r2 (by simpa using c1) c2.cons.1;refine⟨⟨_,?_,.OX _⟩,rfl,rfl,rfl⟩;simp only[execOp,ho,e1,e2,D8,run_eqGuard_agg w _ _ _ _ _ _ g1,Result.andThen_ok,run_eql_struct w,g2,Sem.run_pure]
  .obtain⟨c1,c2⟩:=hok.cons;obtain⟨g1,g2⟩:=AfD (hC.is ht) l1 l2 r1 r2 (by simpa using c1) c2.cons.1;refine⟨⟨_,?_,.OX _⟩,rfl,rfl,rfl⟩;simp only[execOp,ho,e1,e2,D8,run_eqGuard_agg w _ _ _ _ _ _ g1,Result.andThen_ok,run_neq_struct w,g2,Sem.run_pure]
  .exact(JE hok).elim
 .have h2:a.eval y= .slice none 0 0:=hy;split at hok
  all_goals first
   | exact(JE hok).elim
   | (unfold Ag0 at *
      obtain⟨ti,ht,he⟩:=Ku hok;rw[he]at hok ⊢;obtain⟨b,hb,he'⟩:=JL hok;rw[he'];have hu:=(hC.is ht).d;rcases Ah9 hu hf hx hb with ⟨_,h3,al,l,c,h4⟩ | ⟨hs,_⟩
      .rw[h4]at h3;refine fin h4 h2 (by simp) (by simp) ⟨_,?_,.OX _,rfl,rfl,rfl⟩;simp only[binOp,D8,h3,Result.andThen_ok,Sem.run_pure]
      .cases hs)
 .have h2:=hy.Lt;split at hok
  all_goals first
   | exact(JE hok).elim
   | (unfold Ag0 at *
      obtain⟨ti,ht,he⟩:=Ku hok;rw[he]at hok ⊢;obtain⟨b,hb,he'⟩:=JL hok;rw[he'];have hu:=(hC.is ht).d;rcases Ah9 hu hf hx hb with ⟨hs,_⟩ | ⟨_,h3,al,h4⟩
      .cases hs
      .rw[h4]at h3;refine fin h4 h2 (by simp) (by simp) ⟨_,?_,.OX _,rfl,rfl,rfl⟩;simp only[binOp,D8,h3,Result.andThen_ok,Sem.run_pure])
 .exact(JE hok).elim
end
def QK (b k n:Nat):(at' b k).add n=at' b (k+n):=by
 unfold Addr.add;split
 .grind
 .rfl
section
variable {P:Program} {C:Ctx} {O:Own} {Jp:List (Nat×Obj)} {m:Nat->Value} {a:Act} {w:World} {o:Oper} {fet:Fet}
def AvZ {op:UnOp} {t:Nat} {x:Operand} (ho:o.op= .unOp op t x) {x':A} (hx:J7 O Jp m w (a.eval x) x') (hok:J5 (unX op x').ok):Pure P O Jp m a w o (unX op x'):=by
 unfold unX at hok ⊢;split at hok
 .have h1:=hx.bool;exact⟨⟨_,by simp only[execOp,ho,h1,Op.unary];rfl,.OX _⟩,rfl,rfl,rfl⟩
 .have h1:=hx.int;exact⟨⟨_,by simp only[execOp,ho,h1,Op.unary];rfl,.mkInt _ _⟩,rfl,rfl,rfl⟩
 .have h1:=hx.int;exact⟨⟨_,by simp only[execOp,ho,h1,Op.unary];rfl,.mkInt _ _⟩,rfl,rfl,rfl⟩
 .grind[JE]
def UM {x:A} {n:Int} (h:int? x=some n): ∃ k,x= .int k n:=by unfold int? at h;split at h<;>simp_all
def AaE {x:A} {s:List UInt8} (h:AlX x=some s):x= .str s:=by unfold AlX at h;split at h<;>simp_all
def yZ {d:TypeDesc} (h:yY d=true):d= .string:=by grind[yY]
def AjJ {t:Nat} {k:Nat->IntKind->Dl} (hC:TOk P C) (hok:J5 (Ady C t k).ok): ∃ n e kk te,Ady C t k=k n kk/\(P.underlying t=some (.array n e))/\C.T e=some te/\te.cs=[.int kk]/\te.agg=false:=by
 unfold Ady at hok ⊢;obtain⟨ti,ht,he⟩:=Ku hok;rw[he]at hok ⊢;obtain⟨p,hp,he⟩:=JL hok;rw[he]at hok ⊢;obtain⟨te,hte,he⟩:=Ku hok;rw[he]at hok ⊢;cases hag:te.agg with
 | true=>rw[hag]at hok;exact(JE hok).elim
 | false =>
  rw[hag]at hok;simp only[cond_false]at hok ⊢;obtain⟨c,hc,he⟩:=JL hok;rw[he]at hok ⊢;obtain⟨kk,hk,he⟩:=JL hok;rw[he]at hok ⊢;refine⟨p.1,p.2,kk,te,rfl,?_,hte,?_,hag⟩
  .rw[(hC.is ht).d];unfold oZ at hp;split at hp
   .rename_i hd;injection hp with hp;rw[hd,<- hp]
   .cases hp
  .have e1:te.cs=[c]:=by unfold one? at hc;split at hc<;>simp_all
   have e2:c= .int kk:=by unfold AuS at hk;split at hk<;>simp_all
   rw[e1,e2]
def Alf {cs:List A} {kk:IntKind} {n:Int} {m:Nat} (h:J5 [cs.all (A.isI kk),Nat.beq cs.length m,decide (0<=n),decide (n<(m:Int))]):cs.length=m/\0<=n/\n<(m:Int)/\n.toNat<cs.length/\cs.getD n.toNat .undef= .int kk (rE cs n):=by
 obtain⟨h1,h2⟩:=h.cons;obtain⟨h2,h3⟩:=h2.cons;obtain⟨h3,h4⟩:=h3.cons;have h4:n<(m:Int):=by simpa using h4.cons.1
 have h3:0<=n:=by simpa using h3
 have h2:=Dy h2;have hlt:n.toNat<cs.length:=by omega
 refine⟨h2,h3,h4,hlt,?_⟩;have h5:=DD.1 h1 cs[n.toNat] (Ef hlt);have e:rE cs n=cs[n.toNat].toI:=by simp [rE,Dj,hlt]
 rw[e,Dj,DC hlt];generalize cs[n.toNat]=c at h5
 cases c<;>first
  | (rename_i k' x;have:=Qk (show A.kEq kk k'=true from h5);subst this;rfl)
  | cases h5
def Apl {t:Nat} {x i:Operand} (hC:TOk P C) (ho:o.op= .index t x i) {x' i':A} (hx:J7 O Jp m w (a.eval x) x') (hi:J7 O Jp m w (a.eval i) i')
 (hok:J5 (Aev C t x' i').ok):Pure P O Jp m a w o (Aev C t x' i'):=by
 unfold Aev at hok ⊢;obtain⟨n,hn,he⟩:=JL hok;rw[he]at hok ⊢;clear he;obtain⟨k,rfl⟩:=UM hn;split at hok
 .rename_i cs;obtain⟨m',e,kk,te,he,hu,hte,hcs,hag⟩:=AjJ hC hok;rw[he]at hok ⊢;obtain⟨h1,h2,h3,h4,h5⟩:=Alf hok;obtain⟨vs,g1,g2,g3⟩:=hx;have h6:J3 O w (vs.getD n.toNat undef) (.int kk (rE cs n)):=by have:=g3 n.toNat h4;rw[h5]at this;exact this
  have h6:vs.getD n.toNat undef= .int kk (rE cs n):=by generalize vs.getD n.toNat undef=z at h6;cases h6;rfl
  have hi:=hi.int;have hs:=(hC.is hte).O5 w;have hag':=(hC.is hte).AlM w;rw[hag]at hag';have hlt:n.toNat<vs.size:=by omega
  have hg6:vs[n.toNat]? =some (.int kk (rE cs n)):=by rw[Dq,D7 hlt]at h6;rw[D7 hlt];exact congrArg some h6
  have hrun:=Eb hu w;refine⟨⟨.int kk (rE cs n),?_,.mkInt _ _⟩,rfl,rfl,rfl⟩;simp [execOp,ho,Instr.index,hi,asIntOf,hrun,g1,h2,h3,hs,hcs,part,hag',hg6]
 .rename_i y _;obtain⟨s,hs,he⟩:=JL hok;rw[he]at hok ⊢;obtain⟨ti,ht,he⟩:=Ku hok;rw[he]at hok ⊢;have:=AaE hs;subst this;obtain⟨h1,h2⟩:=hok.cons;obtain⟨h2,h3⟩:=h2.cons;have h3:=h3.cons.1;have hd:=yZ h1;have hu:=(hC.is ht).run w;rw[hd]at hu;have hi:=hi.int;obtain⟨b,hb,hl⟩:=hx.str;have h2:0<=n:=by simpa using h2
  have h3:n<(s.length:Int):=by simpa using h3
  obtain⟨j,rfl⟩:=EO h2;have hj:j<b.size:=by rw[Uf,hl];omega
  refine⟨⟨.int .u8 (b[j].toNat:Int),?_,?_⟩,rfl,rfl,rfl⟩
  .simp [execOp,ho,Instr.index,hi,hb,asIntOf,hu,hj]
  .have:s.getD (Int.ofNat j).toNat 0=b[j]:=by
    subst hl;show b.data.toList.getD j 0=b[j];rw[Dj,DC (by rw[<- Uf];exact hj)];obtain⟨⟨l⟩⟩:=b;rfl
   simp only[Dl.g];rw[show((j:Int)).toNat=(Int.ofNat j).toNat from rfl,this];exact .mkInt _ _
def ORl (O:Own) (Jp:List (Nat×Obj)) (m:Nat->Value) (w:World):Option Value->Option A->Prop
 | none,none=>True
 | some v,some x=>J7 O Jp m w v x
 | _,_=>False
def Ud {isS:Bool} {len cap:Nat} {lo hi:Option Value} {lo' hi':Option A} (hl:ORl O Jp m w lo lo') (hh:ORl O Jp m w hi hi') (hc:len<=cap) {r:List Bool×Nat×Nat} (h:xO len lo' hi'=some r) (hok:J5 r.1) :
 (Instr.sliceBounds isS len cap lo hi none).run P w= .ok (r.2.1,r.2.2,cap) w/\r.2.1<=r.2.2/\r.2.2<=len:=by
 unfold xO at h;split at h
 .injection h with h;subst h;cases lo<;>cases hi<;>simp [ORl]at hl hh;simp [Instr.sliceBounds]
 .injection h with h;subst h;cases lo<;>cases hi<;>simp only[ORl]at hl hh;obtain⟨h1,h2⟩:=hok.cons;have h2:=h2.cons.1;simp at h1 h2;have hl:=hl.int;rename_i q _ _ _;obtain⟨j,rfl⟩:=EO h1;have:j<=len:=by simpa using h2
  simp [Instr.sliceBounds,Instr.sliceBound,hl,asIntOf,this]
 .injection h with h;subst h;cases lo<;>cases hi<;>simp only[ORl]at hl hh;obtain⟨h1,h2⟩:=hok.cons;have h2:=h2.cons.1;simp at h1 h2;have hh:=hh.int;rename_i q _ _ _;obtain⟨j,rfl⟩:=EO h1;have:j<=len:=by simpa using h2
  have h3:j<=cap:=by omega
  simp [Instr.sliceBounds,Instr.sliceBound,hh,asIntOf,h3,this]
 .injection h with h;subst h;cases lo<;>cases hi<;>simp only[ORl]at hl hh;obtain⟨h1,h2⟩:=hok.cons;obtain⟨h2,h3⟩:=h2.cons;have h3:=h3.cons.1;simp at h1 h2 h3;have hl:=hl.int;have hh:=hh.int;rename_i p _ q _ _ _;obtain⟨j,rfl⟩:=EO h1;obtain⟨i,rfl⟩:=EO (Int.le_trans h1 h2);have h4:i<=len:=by simpa using h3
  have h5:j<=i:=by simpa using h2
  have h6:i<=cap:=by omega
  simp [Instr.sliceBounds,Instr.sliceBound,hl,hh,asIntOf,h4,h5,h6]
 .cases h
theorem AbS (s:ByteArray) (i j:Nat):(s.extract i j).data.toList=J6 s.data.toList i j:=by simp [J6,ByteArray.data_extract,List.drop_take]
end
section
variable {P:Program} {C:Ctx} {O:Own} {Jp:List (Nat×Obj)} {m:Nat->Value} {a:Act} {w:World} {o:Oper} {fet:Fet}
def J3.cut {v:Value} {q:Sl} (h:J3 O w v (.sl q)) (l r:Nat) (hlr:l<=r) (hr:r<=q.es.length) :
 ∃ ad n c,v= .slice ad n c/\n=q.es.length/\n<=c/\(∀ cap',cap'=c->J3 O w (.slice (if cap'=l then ad else ad.map (·.add (l*q.sz))) (r - l) (cap' - l)) (.sl ⟨q.t,J6 q.xs l r⟩)):=by
 cases h with
 | nil =>
  have:r=0:=by simpa [Sl.es]using hr
  subst this;have:l=0:=by omega
  subst this;refine⟨none,0,0,rfl,rfl,DN _,fun cap' hc=> ?_⟩;subst hc;simp [J6];exact .nil _
 | sl0 ad t =>
  have:r=0:=by simpa [Sl.es]using hr
  subst this;have:l=0:=by omega
  subst this;refine⟨some ad,0,0,rfl,rfl,DN _,fun cap' hc=> ?_⟩;subst hc;simp [J6];exact .sl0 _ _
 | @sl b off cap _ vs hc hm hr' =>
  refine⟨_,_,_,rfl,rfl,hc,fun cap' hc'=> ?_⟩;subst hc';have hes:(⟨q.t,J6 q.xs l r⟩:Sl).es=J6 q.es l r:=q.Arm l r;have hlen:(J6 q.es l r).length=r - l:=by simp [J6];omega
  have hget: ∀ i,i<r - l->(J6 q.es l r).getD i []=q.es.getD (l+i) []:=by intro i hi;all_goals grind[J6]
  have hlen':(⟨q.t,J6 q.xs l r⟩:Sl).es.length=r - l:=by rw[hes];exact hlen
  by_cases hcl:cap'=l
  .have h0:r - l=0:=by omega
   rw[Dp hcl,<- hlen'];exact J3.sl (b:=b) (off:=off) (cap:=cap' - l) (fun _ _=>undef) (by omega) (fun i j hi _=>absurd hi (by omega)) (fun i j hi _=>absurd hi (by omega))
  .rw[Dk hcl];simp only[Option.map_some,QK];rw[<- hlen'];refine J3.sl (fun i j=>vs (l+i) j) (by omega) (fun i j hi hj=> ?_) (fun i j hi hj=> ?_)
   .have:=hm (l+i) j (by omega) hj;rw[E8]at this;rw[show off+l*q.sz+(i*(⟨q.t,J6 q.xs l r⟩:Sl).sz+j)=off+(l*q.sz+i*q.sz+j)from by show off+l*q.sz+(i*q.sz+j)=_;omega];exact this
   .rw[hes,hget i (by omega)];exact hr' (l+i) j (by omega) hj
def Asz {t:Nat} {x:Operand} {lo hi mx:Option Operand} (hC:TOk P C) (ho:o.op= .slice t x lo hi mx) (hmx:mx=none) {s:List UInt8} {lo' hi':Option A} (hx:J7 O Jp m w (a.eval x) (.str s))
 (hlo:ORl O Jp m w (lo.map a.eval) lo') (hhi:ORl O Jp m w (hi.map a.eval) hi')
 (hok:J5 (Lu C fet t (.str s) lo' hi').ok):Pure P O Jp m a w o (Lu C fet t (.str s) lo' hi'):=by
 subst hmx;unfold Lu at hok ⊢;obtain⟨ti,ht,he⟩:=Ku hok;rw[he]at hok ⊢;dsimp only at hok ⊢;obtain⟨r,hr,he⟩:=JL hok;rw[he]at hok ⊢;obtain⟨h1,h2⟩:=hok.cons;have hd:=yZ h1;have hu:=(hC.is ht).run w;rw[hd]at hu;obtain⟨b,hb,hl⟩:=hx.str;subst hl;obtain⟨h3,h4,h5⟩:=Ud (isS:=false) (P:=P) (cap:=b.data.toList.length) hlo hhi (DN _) hr h2;refine⟨⟨.string (b.extract r.2.1 r.2.2),?_,.mkStr _ (AbS _ _ _)⟩,rfl,rfl,rfl⟩;rw[<- Uf]at h3;simp only[execOp,ho,Instr.sliceAt,D8,hu,Result.andThen_ok,Instr.slice,hb,Option.map_none,Option.isSome_none,Ij,GU,h3,Sem.run_pure]
def Au0 {t:Nat} {x:Operand} {lo hi mx:Option Operand} (hC:TOk P C) (ho:o.op= .slice t x lo hi mx) (hmx:mx=none) {l:Sl} {lo' hi':Option A} (hx:J7 O Jp m w (a.eval x) (.sl l))
 (hlo:ORl O Jp m w (lo.map a.eval) lo') (hhi:ORl O Jp m w (hi.map a.eval) hi')
 (hok:J5 (Lu C fet t (.sl l) lo' hi').ok):Pure P O Jp m a w o (Lu C fet t (.sl l) lo' hi'):=by
 subst hmx;unfold Lu at hok ⊢;obtain⟨ti,ht,he⟩:=Ku hok;rw[he]at hok ⊢;dsimp only at hok ⊢;obtain⟨r,hr,he⟩:=JL hok;rw[he]at hok ⊢;obtain⟨e,hel,he⟩:=JL hok;rw[he]at hok ⊢;obtain⟨te,hte,he⟩:=Ku hok;rw[he]at hok ⊢;obtain⟨h1,h2⟩:=hok.cons;have hd:=QS hel;have hu:=(hC.is ht).run w;rw[hd]at hu;have hs:=(hC.is hte).O5 w;have hsz:=Dy h1;rw[<- hsz]at hs;rw[<- Sl.KH]at hr;have hx':J3 O w (a.eval x) (.sl l):=hx;obtain⟨h4,h5⟩:r.2.1<=r.2.2/\r.2.2<=l.es.length:=(Ud (isS:=true) (P:=P) hlo hhi (DN _) hr h2).2;obtain⟨ad,n,c,hv,hn,hc,hcut⟩:=hx'.cut r.2.1 r.2.2 h4 h5;obtain⟨h3,_,_⟩:=Ud (isS:=true) (P:=P) (cap:=c) hlo hhi (by rw[<- hn];exact hc) hr h2;rw[<- hn]at h3;refine⟨⟨_,?_,hcut c rfl⟩,rfl,rfl,rfl⟩;simp only[execOp,ho,Instr.sliceAt,D8,hu,Result.andThen_ok,Instr.slice,hv,Option.map_none,h3,hs,Sem.run_pure]
def J3.AxI {v:Value} {l:Sl} (h:J3 O w v (.sln l)):J3 O w v (.sl l)/\(l.xs=[]->v= .slice none 0 0):=by cases h with | sln h hn=>exact⟨h,hn⟩
def Asy {t:Nat} {x:Operand} {lo hi mx:Option Operand} (hC:TOk P C) (ho:o.op= .slice t x lo hi mx) (hmx:mx=none) {l:Sl} {lo' hi':Option A} (hx:J7 O Jp m w (a.eval x) (.sln l))
 (hlo:ORl O Jp m w (lo.map a.eval) lo') (hhi:ORl O Jp m w (hi.map a.eval) hi')
 (hok:J5 (Lu C fet t (.sln l) lo' hi').ok):Pure P O Jp m a w o (Lu C fet t (.sln l) lo' hi'):=by
 subst hmx;unfold Lu at hok ⊢;obtain⟨ti,ht,he⟩:=Ku hok;rw[he]at hok ⊢;dsimp only at hok ⊢;obtain⟨r,hr,he⟩:=JL hok;rw[he]at hok ⊢;obtain⟨e,hel,he⟩:=JL hok;rw[he]at hok ⊢;obtain⟨te,hte,he⟩:=Ku hok;rw[he]at hok ⊢;obtain⟨h0,hok⟩:=hok.cons;obtain⟨h1,h2⟩:=hok.cons;have hd:=QS hel;have hu:=(hC.is ht).run w;rw[hd]at hu;have hs:=(hC.is hte).O5 w;have hsz:=Dy h1;rw[<- hsz]at hs;rw[<- Sl.KH]at hr;have hx':J3 O w (a.eval x) (.sln l):=hx;obtain⟨hx',hnil⟩:=hx'.AxI;obtain⟨h4,h5⟩:r.2.1<=r.2.2/\r.2.2<=l.es.length:=(Ud (isS:=true) (P:=P) hlo hhi (DN _) hr h2).2;obtain⟨ad,n,c,hv,hn,hc,hcut⟩:=hx'.cut r.2.1 r.2.2 h4 h5;obtain⟨h3,_,_⟩:=Ud (isS:=true) (P:=P) (cap:=c) hlo hhi (by rw[<- hn];exact hc) hr h2;rw[<- hn]at h3;refine⟨⟨_,?_,J3.sln (hcut c rfl) fun hq=> ?_⟩,rfl,rfl,rfl⟩
 rotate_left
 .have hq:J6 l.xs r.2.1 r.2.2=[]:=hq;have h0:(l.xs.isEmpty|| !(J6 l.xs r.2.1 r.2.2).isEmpty)=true:=h0;rw[hq]at h0;have he:l.xs=[]:=by simpa using h0
  have hz:=hnil he;rw[hv]at hz;injection hz with z1 z2 z3;subst z1;subst z2;subst z3;rw[<- hn]at h5;have e1:r.2.2=0:=by omega
  have e2:r.2.1=0:=by omega
  rw[e1,e2];rfl
 simp only[execOp,ho,Instr.sliceAt,D8,hu,Result.andThen_ok,Instr.slice,hv,Option.map_none,h3,hs,Sem.run_pure]
def Auc {fet:Fet} {x:A} {p:Nat×Mp} (h:mp? fet x=some p):x= .own p.1/\Jy fet p.1=some (.mp p.2):=by
 unfold mp? at h;split at h
 .split at h
  .rename_i l hg;injection h with h;subst h;exact⟨rfl,hg⟩
  .cases h
 .cases h
def AeG (hF:FOk O Jp m w fet) {x:A} {v:Value} {p:Nat×Mp} (hx:J7 O Jp m w v x) (h:mp? fet x=some p) :
 Jy Jp p.1=some (.mp p.2)/\v=m p.1/\Ny O w p.1 (m p.1) p.2:=by
 obtain⟨rfl,hg⟩:=Auc h;obtain⟨h1,h2⟩:=hF _ _ hg;have hc:JC O Jp m w v (.own p.1):=hx;have hc:=hc.2;rw[h1]at hc;exact⟨h1,hc,h2⟩
def Ny.lists {q:Nat} {v:Value} {l:Mp} (h:Ny O w q v l): ∃ r es ck,v= .map (some r)/\w.heap[r]? =some (.map es ck)/\O r 0=some q/\es.toList.length=l.l.length /\
 (∀(i:Nat) (e:MapEntry) (p:l.kt.Val×l.vt.Val),es.toList[i]? =some e->l.l[i]? =some p->Nv O w e.key (OA (l.kt.cells p.1))/\Nv O w e.val (OA (l.vt.cells p.2))):=by grind[Ny,Nv,OA]
theorem AwM {n e:Nat} {frz:Bool} {l:Sl} (hg:Jy fet n=some (.arr e frz l)):rd fet (.own n)=([],l):=by grind[Jy,rd]
def Al0 {x:A} (hok:J5 (rd fet x).1):(∃ n e frz l,x= .own n/\Jy fet n=some (.arr e frz l)/\(rd fet x).2=l)\/(x= .La/\(rd fet x).2=default)\/ ∃ l,x= .sl l/\(rd fet x).2=l:=by
 cases x with
 | own n =>
  cases hg:Jy fet n with
  | none=>simp_all[rd,Jy,J5]
  | some y =>
   cases y with
   | box cs=>simp_all[rd,Jy,J5]
   | arr e frz l=>grind[AwM,J5,rd,Jy]
   | mp l=>simp_all[rd,Jy,J5]
 | La=>exact .inr (.inl ⟨rfl,rfl⟩)
 | sl l=>exact .inr (.inr ⟨l,rfl,rfl⟩)
 | _=>simp_all[rd,J5,Jy]
def AwL {x:A} {v:Value} (hf:FOk O Jp m w fet) (hx:J7 O Jp m w v x) (hok:J5 (rd fet x).1): ∃ ad c,v= .slice ad (rd fet x).2.xs.length c:=by
 rcases Al0 hok with ⟨n,e,frz,l,rfl,hg,hl⟩ | ⟨rfl,hl⟩ | ⟨l,rfl,hl⟩<;>rw[hl]
 .obtain⟨h1,_,h2⟩:=hx.own hf hg;rw[<- Sl.KH];rcases h2 with ⟨_,h3,h4⟩ | ⟨_,g,cap,cur,h4,_⟩;all_goals simp_all[at',FOk,J7,J5,rd]
 .exact⟨none,0,hx⟩
 .have hx':J3 O w v (.sl l):=hx;cases hx' with
  | nil=>exact⟨none,0,rfl⟩
  | sl0 ad=>exact⟨some ad,0,rfl⟩
  | sl=>grind[Sl.KH]
def AtQ {c:Call} {t:Nat} {x:Operand} (hC:TOk P C) (hf:FOk O Jp m w fet) (ho:o.op= .call c) (hcal:c.callee= .builtin .len) (hargs:c.args= #[x]) (hty:c.argTypes.toList=[t]) {x':A} (hx:J7 O Jp m w (a.eval x) x')
 (hok:J5 (Agv C fet t x').ok):Pure P O Jp m a w o (Agv C fet t x'):=by
 have hat:c.argTypes= #[t]:=by have:=congrArg List.toArray hty;simpa using this
 unfold Agv at hok ⊢;obtain⟨ti,ht,he⟩:=Ku hok;rw[he]at hok ⊢;have hu:=(hC.is ht).run w;split at hok
 .rename_i hd;rw[hd]at hu;obtain⟨s,hs,he⟩:=JL hok;rw[he]at hok ⊢;have:=AaE hs;subst this;obtain⟨b,hb,hl⟩:=hx.str;subst hl;refine⟨⟨.int .i64 b.size,?_,?_⟩,rfl,rfl,rfl⟩
  .simp [execOp,ho,resolve,hcal,hargs,hat,invoke,builtin,Builtin.len_,hu,hb,goInt]
  .rw[Uf];exact .mkInt _ _
 .rename_i n e hd;rw[hd]at hu;refine⟨⟨.int .i64 n,?_,.mkInt _ _⟩,rfl,rfl,rfl⟩;simp [execOp,ho,resolve,hcal,hargs,hat,invoke,builtin,Builtin.len_,hu,goInt]
 .rename_i e hd;rw[hd]at hu;split at hok
  .rename_i q k;obtain⟨cs,hb,he⟩:=JL hok;rw[he];have hc:JC O Jp m w (a.eval x) (.bsl q k):=hx;have hc:=hc.2;rw[(hf _ _ (Lp hb)).1]at hc;obtain⟨b,base,_,hv⟩:=hc;refine⟨⟨.int .i64 (k:Int),?_,.mkInt _ _⟩,rfl,rfl,rfl⟩;simp [execOp,ho,resolve,hcal,hargs,hat,invoke,builtin,Builtin.len_,hu,hv,goInt]
  .rename_i y hne;obtain⟨ad,cp,hv⟩:=AwL hf hx hok;refine⟨⟨.int .i64 (rd fet x').2.xs.length,?_,.mkInt _ _⟩,rfl,rfl,rfl⟩;simp [execOp,ho,resolve,hcal,hargs,hat,invoke,builtin,Builtin.len_,hu,hv,goInt]
 .rename_i kt et hd;rw[hd]at hu;obtain⟨p,hp,he⟩:=JL hok;rw[he]at hok ⊢;obtain⟨_,hv,hM⟩:=AeG hf hx hp;obtain⟨r,es,ck,h1,h2,h3,h4,h5⟩:=hM.lists;have hsz:(es.size:Int)=(p.2.l.length:Int):=by rw[<- h4,Array.length_toList]
  refine⟨⟨.int .i64 (p.2.l.length:Int),?_,.mkInt _ _⟩,rfl,rfl,rfl⟩;have hg:(getObj r).run P w= .ok (.map es ck) w:=by simp [getObj,Sem.run,h2]
  simp [execOp,ho,resolve,hcal,hargs,hat,invoke,builtin,Builtin.len_,hu,hv,h1,hg,hsz,goInt]
 .exact(JE hok).elim
def Ak0 {i:Nat} {x:Operand} (ho:o.op= .extract x i) {x':A} (hx:J7 O Jp m w (a.eval x) x') (hok:J5 (qJ i x').ok):Pure P O Jp m a w o (qJ i x'):=by
 unfold qJ at hok ⊢;obtain⟨l,hl,he⟩:=JL hok;rw[he]at hok ⊢;have:x'= .tup l:=by unfold Axg at hl;split at hl<;>simp_all
 subst this;obtain⟨vs,h1,h2,h3⟩:=hx;have hi:i<l.length:=by simpa [Dl.g,UO]using hok.cons.1
 refine⟨⟨vs.getD i undef,?_,(h3 i hi).toT⟩,rfl,rfl,rfl⟩;have:vs[i]? =some (vs.getD i undef):=by rw[Dq,D7 (by omega)];simp
 generalize vs.getD i undef=z at *
 simp only[execOp,ho,Instr.extract,h1,this,D8,Sem.run_pure,Result.andThen_ok]
end
section
variable {P:Program} {C:Ctx} {O:Own} {Jp:List (Nat×Obj)} {m:Nat->Value} {a:Act} {w:World} {o:Oper} {fet:Fet}
theorem getD_eq {vs:Array Value} {j:Nat} (h:j<vs.size:=by omega):vs[j]? =some (vs.getD j undef):=by simp_all
def Auj {t:Nat} {ti:TI} (hT:VB P t ti) {vs:Array Value} {cs:List A} {off:Nat} (h1:vs.size=cs.length) (h2: ∀ j,j<cs.length->JC O Jp m w (vs.getD j undef) (cs.getD j .undef))
 (h3:off+ti.cs.length<=cs.length) (h4:0<ti.cs.length): ∃ v,(part t vs off).run P w= .ok v w/\T1 O Jp m w v (rP ti cs off):=by
 unfold part rP;simp only[D8,hT.AlM,Result.andThen_ok];cases hg:ti.agg with
 | true =>
  refine⟨.agg (vs.extract off (off+ti.cs.length)),by simp [hT.O5],_,rfl,by simp;omega,fun j hj=> ?_⟩;simp only[DZ,EJ]at hj;have hb:=h2 (off+j) (by omega);have e1:(vs.extract off (off+ti.cs.length)).getD j undef=vs.getD (off+j) undef:=by rw[Dq,Dq,Array.getElem?_extract];rw[AyA]
  all_goals grind[JC,T1,rP]
 | false =>
  have hb:=h2 off (by omega);refine⟨vs.getD off undef,?_,?_⟩
  .have:=getD_eq (vs:=vs) (j:=off);generalize vs.getD off undef=z at *
   simp [this]
  .simp only[cond_false];generalize cs.getD off .undef=c at *
   cases c<;>first | exact hb | exact hb.elim
def Ach {d:TypeDesc} {f:Nat} {p:Nat×TI} (h:AeR C d f=some p): ∃ fs x,d= .struct fs/\fs[f]? =some x/\x.offset=p.1/\C.T x.type=some p.2:=by unfold AeR at h;all_goals grind[split]
def AoV {t f:Nat} {x:Operand} (hC:TOk P C) (ho:o.op= .field t x f) {x':A} (hx:J7 O Jp m w (a.eval x) x') (hok:J5 (Aee C t f x').ok):Pure P O Jp m a w o (Aee C t f x'):=by
 unfold Aee at hok ⊢;obtain⟨ti,ht,he⟩:=Ku hok;rw[he]at hok ⊢;clear he;obtain⟨p,hp,he⟩:=JL hok;rw[he]at hok ⊢;clear he;obtain⟨cs,hcs,he⟩:=JL hok;rw[he]at hok ⊢;clear he;obtain⟨fs,fx,hd,hfx,hoff,htf⟩:=Ach hp;have:x'= .agg cs:=by unfold Awm at hcs;split at hcs<;>simp_all
 subst this;obtain⟨vs,h1,h2,h3⟩:=hx;obtain⟨h4,h5⟩:=hok.cons;have h5:=h5.cons.1;have h4:=DW h4;have h5:0<p.2.cs.length:=by simpa [EK]using h5
 have hu:=(hC.is ht).run w;rw[hd]at hu;obtain⟨v,hv,hr⟩:=Auj (off:=p.1) (hC.is htf) h2 h3 h4 h5;refine⟨⟨v,?_,hr.toT⟩,rfl,rfl,rfl⟩;simp [execOp,ho,Instr.field,hu,hfx,h1,asAgg,hoff,hv]
def AsO {x':A} {v:Value} {off n:Nat} (hf:FOk O Jp m w fet) (hx:J7 O Jp m w v x') (hok:J5 (Y5 off n fet x').ok) :
 ∃ b k,v= .pointer (some (at' b k))/\J7 O Jp m w (.pointer (some (at' b (k+off)))) (Y5 off n fet x').val/\(Y5 off n fet x').new=[]/\(Y5 off n fet x').upd=[]/\(Y5 off n fet x').del=[]:=by
 unfold Y5 at hok ⊢;split at hok
 .obtain⟨cs,hcs,he⟩:=JL hok;rw[he]at hok ⊢;clear he;rename_i q p;obtain⟨b,base,h1,h2,h3⟩:=hx.ptr hf (Lp hcs);refine⟨b,base+p,h2,?_,rfl,rfl,rfl⟩;have hg:=(hf _ _ (Lp hcs)).1;show JC O Jp m w _ (.ptr q (p+off));simp only[JC,hg,Option.map_some,Obj.shp];exact⟨rfl,b,base,h1,by rw[EL]⟩
 .rename_i cs;obtain⟨b,k,h1,h2⟩:=(show JC O Jp m w v (.elt cs)from hx)
  refine⟨b,k,h1,?_,rfl,rfl,rfl⟩;refine⟨b,k+off,rfl,fun j hj=> ?_⟩;simp only[EJ]at hj;have:=h2 (off+j) (by omega);rw[EL];all_goals simp_all[FOk,J7,J5,Y5,at']
 .rename_i q i p;obtain⟨r,hr,he⟩:=JL hok;rw[he]at hok ⊢;clear he;have hi:i<r.l.es.length:=by rw[Sl.KH];simpa [Dl.g]using hok.cons.1
  have hx':JC O Jp m w v (.Kq q i p):=hx;have hg:=(hf _ _ (Np hr)).1;simp only[JC,hg,Option.map_some,Obj.shp]at hx';obtain⟨g,n',cap,h1,h2⟩:=hx'.2 hi;refine⟨g,_,h2,?_,rfl,rfl,rfl⟩;show JC O Jp m w _ (.Kq q i (p+off));simp only[JC,hg,Option.map_some,Obj.shp];refine⟨rfl,fun _=> ?_⟩;exact⟨g,n',cap,h1,by rw[EL]⟩
 .exact(JE hok).elim
def Agj {t f:Nat} {x:Operand} (hC:TOk P C) (hf:FOk O Jp m w fet) (ho:o.op= .fieldAddr t x f) {x':A} (hx:J7 O Jp m w (a.eval x) x') (hok:J5 (Vs C fet t f x').ok):Pure P O Jp m a w o (Vs C fet t f x'):=by
 unfold Vs at hok ⊢;obtain⟨ti,ht,he⟩:=Ku hok;rw[he]at hok ⊢;clear he;obtain⟨p,hp,he⟩:=JL hok;rw[he]at hok ⊢;clear he;obtain⟨fs,fx,hd,hfx,hoff,htf⟩:=Ach hp;obtain⟨h1,h2⟩:=hok.cons;have h1:0<p.2.cs.length:=by simpa [EK]using h1
 obtain⟨b,k,h3,h4,h5,h6,h7⟩:=AsO hf hx h2;have hu:=(hC.is ht).run w;rw[hd]at hu;have hs:=(hC.is htf).O5 w;refine⟨⟨_,?_,h4⟩,h5,h6,h7⟩;have h0:p.2.cs.length≠0:=by omega
 simp [execOp,ho,Instr.fieldAt,hu,hfx,h3,Instr.sureAddr,fieldPlace,hs,h0,QK,hoff]
def Agt {t:Nat} {x i:Operand} (hC:TOk P C) (hf:FOk O Jp m w fet) (ho:o.op= .indexAddr t x i) {x' i':A} (hx:J7 O Jp m w (a.eval x) x') (hi:J7 O Jp m w (a.eval i) i')
 (hok:J5 (aY C fet t x' i').ok):Pure P O Jp m a w o (aY C fet t x' i'):=by
 unfold aY at hok ⊢;split at hok
 .rename_i q i0 off0;obtain⟨n,hn,he⟩:=JL hok;rw[he]at hok ⊢;clear he;obtain⟨k,rfl⟩:=UM hn;have hi:=hi.int;obtain⟨ti,ht,he⟩:=Ku hok;rw[he]at hok ⊢;clear he;obtain⟨p,hp,he⟩:=JL hok;rw[he]at hok ⊢;clear he;obtain⟨te,hte,he⟩:=Ku hok;rw[he]at hok ⊢;clear he;obtain⟨r,hr,he⟩:=JL hok;rw[he]at hok ⊢;clear he;obtain⟨h1,h2⟩:=hok.cons;obtain⟨h2,h3⟩:=h2.cons;obtain⟨h3,h4⟩:=h3.cons;obtain⟨h4,h5⟩:=h4.cons;obtain⟨h5,h6⟩:=h5.cons;have h6:=h6.cons.1;have h1:=Dy h1;have h2:=Dy h2;have h3:=Dy h3;subst h1;subst h2;have h4:0<=n:=by simpa using h4
  have h5:n<(p.1:Int):=by simpa using h5
  have h6:n.toNat<r.l.es.length:=by rw[Sl.KH];simpa using h6
  have hx':JC O Jp m w (a.eval x) (.Kq q 0 0):=hx;have hg:=(hf _ _ (Np hr)).1;simp only[JC,hg,Option.map_some,Obj.shp]at hx';obtain⟨g,n',cap,e1,e2⟩:=hx'.2 (by omega)
  have hd:ti.d= .array p.1 p.2:=by
   unfold oZ at hp;split at hp
   .rename_i hd;injection hp with hp;rw[hd,<- hp]
   .cases hp
  have hu:=(hC.is ht).run w;rw[hd]at hu;have hs:=(hC.is hte).O5 w;refine⟨⟨.pointer (some (at' g (n.toNat*te.cs.length))),?_,?_⟩,rfl,rfl,rfl⟩
  .have e2':a.eval x= .pointer (some (at' g 0)):=by rw[e2];simp
   simp [execOp,ho,Instr.indexAt,hi,asIntOf,hu,e2',Instr.sureAddr,h4,h5,hs,QK]
  .show JC O Jp m w _ (.Kq q n.toNat 0);simp only[JC,hg,Option.map_some,Obj.shp];refine⟨rfl,fun _=>⟨g,n',cap,e1,by rw[h3];rfl⟩⟩
 .rename_i cs;obtain⟨n,hn,he⟩:=JL hok;rw[he]at hok ⊢;clear he;obtain⟨k,rfl⟩:=UM hn;have hi:=hi.int;obtain⟨m',e,kk,te,he,hu,hte,hcs,_⟩:=AjJ hC hok;rw[he]at hok ⊢;obtain⟨h1,h2,h3,h4,h5⟩:=Alf hok;obtain⟨b,off,g1,g2⟩:=(show JC O Jp m w _ (.elt cs)from hx)
  have hs:=(hC.is hte).O5 w;have hrun:=Eb hu w;refine⟨⟨.pointer (some (at' b (off+n.toNat))),?_,?_⟩,rfl,rfl,rfl⟩
  .simp [execOp,ho,Instr.indexAt,hi,asIntOf,hrun,g1,Instr.sureAddr,h2,h3,hs,hcs,QK]
  .refine⟨b,off+n.toNat,rfl,fun j hj=> ?_⟩;have:j=0:=by simpa using hj
   subst this;obtain⟨a1,u,a2,a3⟩:=g2 n.toNat h4;rw[h5]at a3;exact⟨a1,u,a2,a3⟩
 .rename_i y hne _;clear hne;obtain⟨n,hn,he⟩:=JL hok;rw[he]at hok ⊢;clear he;obtain⟨k,rfl⟩:=UM hn;have hi:=hi.int;unfold elemOf at hok ⊢;obtain⟨ti,ht,he⟩:=Ku hok;rw[he]at hok ⊢;clear he;obtain⟨e,hel,he⟩:=JL hok;rw[he]at hok ⊢;clear he;obtain⟨te,hte,he⟩:=Ku hok;rw[he]at hok ⊢;clear he;have hu:=(hC.is ht).run w;rw[QS hel]at hu;have hs:=(hC.is hte).O5 w;have run: ∀ b off len cap,a.eval x= .slice (some (at' b off)) len cap->0<=n->n<(len:Int)->(execOp a.eval o).run P w= .ok (.value (.pointer (some (at' b (off+n.toNat*te.cs.length))))) w:=by intro b off len cap h1 h2 h3;simp [execOp,ho,Instr.indexAt,hi,asIntOf,hu,h1,h2,h3,hs,QK]
  dsimp only at hok ⊢;split at hok
  .rename_i q _;obtain⟨r,hr,he⟩:=JL hok;rw[he]at hok;rw[he];clear he;obtain⟨h1,h2⟩:=hok.cons;obtain⟨h2,h3⟩:=h2.cons;have h3:=h3.cons.1;have h1:=Dy h1;have h2:0<=n:=by simpa using h2
   have h3:n<(r.l.es.length:Int):=by rw[Sl.KH];simpa using h3
   obtain⟨h4,_,h5⟩:=hx.own hf (Np hr);have hg:=(hf _ _ (Np hr)).1;rcases h5 with ⟨_,h6,_⟩ | ⟨_,g,cap,cur,h6,_⟩
   .rw[h6]at h3;simp at h3;omega
   .refine⟨⟨_,run g 0 _ cap (by rw[h4,h6]) h2 h3,?_⟩,rfl,rfl,rfl⟩;show JC O Jp m w _ (.Kq q n.toNat 0);simp only[JC,hg,Option.map_some,Obj.shp];refine⟨rfl,fun _=> ?_⟩;exact⟨g,_,_,h6,by rw[<- h1];simp⟩
  .rename_i l _;obtain⟨h1,h2⟩:=hok.cons;obtain⟨h0,h2⟩:=h2.cons;obtain⟨h2,h3⟩:=h2.cons;have h3:=h3.cons.1;have h1:=Dy h1;have h2:0<=n:=by simpa using h2
   have h3:n<(l.es.length:Int):=by rw[Sl.KH];simpa using h3
   have hx':J3 O w (a.eval x) (.sl l):=hx;generalize hv:a.eval x=v at hx';cases hx' with
   | nil=>simp [Sl.es]at h3;omega
   | sl0=>simp [Sl.es]at h3;omega
   | @sl b off cap _ vs hc hm hr =>
    refine⟨⟨_,run b off _ cap hv h2 h3,?_⟩,rfl,rfl,rfl⟩;have hj:n.toNat<l.es.length:=by omega
    refine⟨b,_,rfl,fun j hjj=> ?_⟩;rw[Sl.AqD]at hjj;obtain⟨h4,h5⟩:=hm n.toNat j hj hjj;rw[<- h1,EL];rw[l.at_eq (by rw[<- Sl.KH];exact hj)];exact⟨h4,_,h5,hr n.toNat j hj hjj⟩
  .rename_i q k _;obtain⟨cs,hb,he⟩:=JL hok;rw[he]at hok;rw[he];clear he;obtain⟨h1,h2⟩:=hok.cons;obtain⟨h2,h3⟩:=h2.cons;have h3:=h3.cons.1;have h1:=Dy h1;have h2:0<=n:=by simpa using h2
   rw[EK]at h3;have hg:=(hf _ _ (Lp hb)).1;have hc:JC O Jp m w (a.eval x) (.bsl q k):=hx;have hc:=hc.2;rw[hg]at hc;obtain⟨b,base,e1,e2⟩:=hc;refine⟨⟨_,run b base _ k e2 h2 (by omega),?_⟩,rfl,rfl,rfl⟩;show JC O Jp m w _ (.ptr q n.toNat);refine⟨rfl,?_⟩;rw[hg,h1,Fh];exact⟨b,base,e1,rfl⟩
  .exact(JE hok).elim
def Aiv {x:Operand} (hf:FOk O Jp m w fet) (ho:o.op= .nilCheck x) {x':A} (hx:J7 O Jp m w (a.eval x) x') (hok:J5 (WV fet x').ok):Pure P O Jp m a w o (WV fet x'):=by
 unfold WV at hok ⊢;split at hok
 .obtain⟨cs,hcs,he⟩:=JL hok;rw[he]at hok ⊢;clear he;obtain⟨b,base,h1,h2,h3⟩:=hx.ptr hf (Lp hcs);refine⟨⟨a.eval x,?_,hx⟩,rfl,rfl,rfl⟩;rw[h2];simp [execOp,ho,h2]
 .exact(JE hok).elim
def J3.one {u:Value} {c:A} (h:J3 O w u c):u.oneCell'=true:=by
 induction h<;>first | rfl | assumption
def yK {k:CK} {u:Value} {c:A} (h:J3 O w u c) (hok:J5 (force k c).1):JC O Jp m w u (force k c).2:=by
 cases k with
 | bool=>have:=hok.cons.1;cases h<;>simp [A.isB]at this;exact .bool _
 | int k =>have:=hok.cons.1;cases h<;>simp [A.isI]at this;have:=Qk this;subst this;exact .int _ _
 | str=>have:=hok.cons.1;cases h<;>simp [A.isS]at this;exact .str _
 | sl e sz =>
  have:=hok.cons.1;cases h with
  | nil t=>exact .nil _
  | sl0 a t=>exact J3.sl0 _ _
  | sl vs h1 h2 h3=>exact .sl vs h1 h2 h3
  | _=>simp [A.AcG]at this
 | ptr=>have:=hok.cons.1;cases h<;>simp [A.eQ]at this;exact .Lt
 | fn =>
  have:=hok.cons.1;cases h<;>simp [A.isFn]at this
  .exact J3.fn _
  .exact J3.jI
 | mp _ _=>have:=hok.cons.1;cases this
 | bx _=>have:=hok.cons.1;cases this
 | sln e sz =>
  have:=hok.cons.1;cases h with
  | sln h hn=>exact .sln h hn
  | _=>simp [A.qU]at this
 | oth=>exact h.one
def Aek (cs:List A) (ks:List CK): ∀ off,(forces cs ks off).2.length=ks.length:=by
 induction ks with
 | nil=>intro off;rfl
 | cons k ks ih=>grind[forces]
def Apa (cs:List A) (ks:List CK): ∀(off:Nat) (f:Nat->Value),(∀ j,j<ks.length->J3 O w (f j) (cs.getD (off+j) .undef))->J5 (forces cs ks off).1 ->
 ∀ j,j<ks.length->JC O Jp m w (f j) ((forces cs ks off).2.getD j .undef):=by
 induction ks with
 | nil=>intro off f _ _ j hj;simp at hj
 | cons k ks ih =>
  intro off f h hok j hj;obtain⟨h1,h2⟩:=hok.append;cases j with
  | zero=>exact yK (by have:=h 0 (by simp);simpa using this) h1
  | succ j =>have:=ih (off+1) (fun j=>f (j+1)) (fun j hj=>by have:=h (j+1) (by simpa using hj);rwa [show off+(j+1)=off+1+j from by omega]at this) h2 j (by simpa using hj);simpa [forces]using this
def Wj {t:Nat} {ti:TI} (hT:VB P t ti) {b k:Nat} (f:Nat->Value) (hc: ∀ j,j<ti.cs.length->w.cell? (at' b (k+j))=some (f j)) (h0:ti.agg=false->0<ti.cs.length) :
 (loadVar t (at' b k)).run P w= .ok (if ti.agg then .agg ((List.range ti.cs.length).map f).toArray else f 0) w:=by
 unfold loadVar;simp only[D8,hT.AlM,Result.andThen_ok];cases hg:ti.agg with
 | true =>have:=run_loadCells (P:=P) w (at' b k) ti.cs.length f (fun j hj=>by rw[QK];exact hc j hj);simp [hT.O5,this]
 | false =>have:=hc 0 (h0 hg);all_goals simp_all[at']
def AhB {α :Type} {l:List α} {k: α} (h:one? l=some k):l=[k]:=by unfold one? at h;split at h<;>simp_all
def zF {t:Nat} {ti:TI} (hT:VB P t ti) {b k off:Nat} {cs:List A} {pre:List Bool} (hc: ∀ j,j<ti.cs.length-> ∃ u,w.cell? (at' b (k+j))=some u/\J3 O w u (cs.getD (off+j) .undef))
 (hok:J5 (Wi ti cs off pre).ok): ∃ v,(loadVar t (at' b k)).run P w= .ok v w/\J7 O Jp m w v (Wi ti cs off pre).val/\(Wi ti cs off pre).new=[]/\(Wi ti cs off pre).upd=[]/\(Wi ti cs off pre).del=[]:=by
 have hf: ∀ j,j<ti.cs.length->w.cell? (at' b (k+j))=some ((w.cell? (at' b (k+j))).getD undef)/\J3 O w ((w.cell? (at' b (k+j))).getD undef) (cs.getD (off+j) .undef):=by intro j hj;obtain⟨u,h1,h2⟩:=hc j hj;rw[h1];exact⟨rfl,h2⟩
 unfold Wi at hok ⊢;cases hg:ti.agg with
 | true =>
  rw[hg]at hok;simp only[cond_true]at hok ⊢;obtain⟨_,h2⟩:=hok.append;refine⟨_,Wj hT (fun j=>(w.cell? (at' b (k+j))).getD undef) (fun j hj=>(hf j hj).1) (by simp [hg]),?_,rfl,rfl,rfl⟩;rw[hg];refine⟨_,rfl,by simp [Aek],fun j hj=> ?_⟩;rw[Aek]at hj;have:=Apa (Jp:=Jp) (m:=m) cs ti.cs off (fun j=>(w.cell? (at' b (k+j))).getD undef) (fun j hj=>(hf j hj).2) h2 j hj;have e:(((List.range ti.cs.length).map fun j=>(w.cell? (at' b (k+j))).getD undef).toArray).getD j undef=(w.cell? (at' b (k+j))).getD undef:=by rw[Dq];simp [hj]
  rw[e];exact this
 | false =>
  rw[hg]at hok;simp only[cond_false]at hok ⊢;obtain⟨kk,hk,he⟩:=JL hok;rw[he]at hok ⊢;clear he;have hone:=AhB hk;obtain⟨_,h2⟩:=hok.append;have h0:0<ti.cs.length:=by rw[hone];simp
  refine⟨_,Wj hT (fun j=>(w.cell? (at' b (k+j))).getD undef) (fun j hj=>(hf j hj).1) (fun _=>h0),?_,rfl,rfl,rfl⟩;rw[hg];have:=(hf 0 h0).2;exact(yK this h2).toT
def Ahz {l:List CK} (h:Aex l=true):l=[.ptr]:=by grind[Aex,split]
def Ah4 {t:Nat} {x:Operand} (hC:TOk P C) (hf:FOk O Jp m w fet) (ho:o.op= .load t x) {x':A} (hx:J7 O Jp m w (a.eval x) x') (hok:J5 (X0 C fet t x').ok):Pure P O Jp m a w o (X0 C fet t x'):=by
 unfold X0 at hok ⊢;obtain⟨ti,ht,he⟩:=Ku hok;rw[he]at hok ⊢;clear he;have hT:=hC.is ht;have run: ∀ b k v,a.eval x= .pointer (some (at' b k))->(loadVar t (at' b k)).run P w= .ok v w->(execOp a.eval o).run P w= .ok (.value v) w:=by intro b k v h1 h2;simp [execOp,ho,Instr.loadAt,Instr.sureAddr,h1,h2]
 split at hok
 .obtain⟨cs,hcs,he⟩:=JL hok;rw[he]at hok;rw[he];clear he;rename_i q off;obtain⟨b,base,h1,h2,h3⟩:=hx.ptr hf (Lp hcs);obtain⟨h4,h5⟩:=hok.cons;have h4:=DW h4;have h5:0<ti.cs.length:=by simpa [EK]using h5.cons.1
  have hc: ∀ j,j<ti.cs.length->w.cell? (at' b (base+off+j))=some ((w.cell? (at' b (base+off+j))).getD undef)/\JC O Jp m w ((w.cell? (at' b (base+off+j))).getD undef) (cs.getD (off+j) .undef):=by intro j hj;obtain⟨_,_,u,h6,h7⟩:=h3 (off+j) (by omega);rw[EL,h6];exact⟨rfl,h7⟩
  have hl:=Wj hT (fun j=>(w.cell? (at' b (base+off+j))).getD undef) (fun j hj=>(hc j hj).1) (fun _=>h5);refine⟨⟨_,run _ _ _ h2 hl,?_⟩,rfl,rfl,rfl⟩;simp only[Dl.g,rP];cases hg:ti.agg with
  | true =>
   refine⟨_,rfl,by simp;omega,fun j hj=> ?_⟩;simp only[DZ,EJ]at hj;have e:(((List.range ti.cs.length).map fun j=>(w.cell? (at' b (base+off+j))).getD undef).toArray).getD j undef=(w.cell? (at' b (base+off+j))).getD undef:=by rw[Dq];simp [show j<ti.cs.length from by omega]
   all_goals grind[TOk,FOk,J7,J5,X0]
  | false=>exact(hc 0 h5).2.toT
 .rename_i cs;obtain⟨b,k,h1,h2⟩:=(show JC O Jp m w _ (.elt cs)from hx)
  have hle:ti.cs.length<=cs.length:=by
   have hA:J5 [Nat.ble ti.cs.length cs.length]:=by
    unfold Wi at hok;cases hg:ti.agg with
    | true=>rw[hg]at hok;exact(hok.append).1
    | false =>rw[hg]at hok;obtain⟨kk,hk,he⟩:=JL hok;simp only[cond_false]at hok;rw[he]at hok;exact(hok.append).1
   exact DW hA.cons.1
  obtain⟨v,h3,h4,h5,h6,h7⟩:=zF (Jp:=Jp) (m:=m) (k:=k) (off:=0) hT (fun j hj=>by obtain⟨_,u,h8,h9⟩:=h2 j (by omega);exact⟨u,h8,by simpa using h9⟩) hok;exact⟨⟨v,run _ _ _ h1 h3,h4⟩,h5,h6,h7⟩
 .rename_i k q;obtain⟨h1,h2⟩:=hok.cons;obtain⟨h2,h3⟩:=h2.cons;have h3:ti.agg=false:=by simpa using h3.cons.1
  have h1:=Dy h1;subst h1;have h2:=Ahz h2;obtain⟨_,p,hp1,⟨b,j,e1,e2,e3⟩,hc⟩:=(show JC O Jp m w (a.eval x) (.clo 0 q)from hx)
  have hl:=Wj (P:=P) (w:=w) hT (b:=b) (k:=j) (fun _=>p) (fun i hi=>by
   have:i=0:=by rw[h2]at hi;simpa using hi
   subst this;exact e3) (fun _=>by rw[h2];decide)
  rw[h3]at hl;refine⟨⟨_,run _ _ _ e1 hl,?_⟩,rfl,rfl,rfl⟩;exact⟨hp1,hc⟩
 .rename_i q i off;obtain⟨r,hr,he⟩:=JL hok;rw[he]at hok;rw[he];clear he;cases hrow:isRow ti r.l i off with
  | true =>
   rw[hrow]at hok;simp only[cond_true]at hok ⊢;simp only[isRow,Du]at hrow;obtain⟨⟨⟨r4,r1⟩,r3⟩,r2⟩:=hrow;have r1:=Dy r1;have r2:=Dy r2;have r3:=Dy r3;have r4:1<ti.cs.length:=by simpa [EK]using r4
   subst r2;subst r3
   have hA:J5 [Nat.ble ti.cs.length r.l.xs.length,true]:=by
    unfold Wi at hok;cases hg:ti.agg with
    | true=>rw[hg]at hok;exact(hok.append).1
    | false =>rw[hg]at hok;obtain⟨kk,hk,he⟩:=JL hok;simp only[cond_false]at hok;rw[he]at hok;exact(hok.append).1
   have hle':=DW hA.cons.1;have hle:ti.cs.length<=r.l.es.length:=by rw[Sl.KH];exact hle'
   obtain⟨hg,hsz,hO⟩:=hf _ _ (Np hr);have hx':JC O Jp m w (a.eval x) (.Kq q 0 0):=hx;simp only[JC,hg,Option.map_some,Obj.shp]at hx';obtain⟨g,n',cap,h1,h2⟩:=hx'.2 (by omega);rcases hO with ⟨_,h3,_⟩ | ⟨_,g',cap',cur,h3,h4,h5,h6,h7,h8,_⟩
   .rw[h3,List.length_nil]at hle;omega
   .rw[h1]at h3;injection h3 with h3 h3' h3'';injection h3 with h3;injection h3 with h3;subst h3
    obtain⟨v,h13,h14,h15,h16,h17⟩:=zF (Jp:=Jp) (m:=m) (O:=O) (b:=g) (k:=0*r.l.sz+0) (off:=0) (cs:=sH r.l ti.cs.length) hT (fun j hj=>by
     obtain⟨u,h9,h10⟩:=h8 j 0 (by omega) (by omega);have e:(sH r.l ti.cs.length).getD (0+j) .undef=(r.l.es.getD j []).getD 0 .undef:=by rw[<- r.l.at_eq (F8 hj hle')];simp [sH,Dj,hj]
     rw[e];refine⟨u,?_,h10⟩;rw[h4.cell,r1,Fh,Nat.add_zero]at *
     simpa using h9) hok
    exact⟨⟨v,run _ _ _ h2 h13,h14⟩,h15,h16,h17⟩
  | false =>
  rw[hrow]at hok;simp only[cond_false]at hok ⊢
  have hA:J5 [Nat.ble (off+ti.cs.length) r.l.sz,decide (i<r.l.xs.length)]:=by
   unfold Wi at hok;cases hg:ti.agg with
   | true=>rw[hg]at hok;exact(hok.append).1
   | false =>rw[hg]at hok;obtain⟨kk,hk,he⟩:=JL hok;simp only[cond_false]at hok;rw[he]at hok;exact(hok.append).1
  obtain⟨hle,hi⟩:=hA.cons;have hle:=DW hle;have hi':i<r.l.xs.length:=by simpa using hi.cons.1
  have hi:i<r.l.es.length:=by rw[Sl.KH];exact hi'
  obtain⟨hg,hsz,hO⟩:=hf _ _ (Np hr);have hx':JC O Jp m w (a.eval x) (.Kq q i off):=hx;simp only[JC,hg,Option.map_some,Obj.shp]at hx';obtain⟨g,n',cap,h1,h2⟩:=hx'.2 hi;rcases hO with ⟨_,h3,_⟩ | ⟨_,g',cap',cur,h3,h4,h5,h6,h7,h8,_⟩
  .rw[h3]at hi;simp at hi
  .rw[h1]at h3;injection h3 with h3 h3' h3'';injection h3 with h3;injection h3 with h3;subst h3;obtain⟨v,h13,h14,h15,h16,h17⟩:=zF (Jp:=Jp) (m:=m) (O:=O) (b:=g) (k:=i*r.l.sz+off) (off:=off) (cs:=r.l.at i) hT (fun j hj=>by obtain⟨u,h9,h10⟩:=h8 i (off+j) hi (by omega);rw[r.l.at_eq hi'];refine⟨u,?_,h10⟩;rw[h4.cell,EL];exact h9) hok;exact⟨⟨v,run _ _ _ h2 h13,h14⟩,h15,h16,h17⟩
 .exact(JE hok).elim
end
end Go.Proofs.YtehkhflpjkokeaaGreatDoor.Vm
