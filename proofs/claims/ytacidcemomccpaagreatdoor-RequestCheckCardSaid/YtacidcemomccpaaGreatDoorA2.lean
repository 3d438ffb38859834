import Derived.Test.YtacidcemomccpaaGreatDoorA1
import Derived.WalkKit
import Derived.Laws.IdiomCopy
import Derived.Laws.Cells
import Derived.Laws.Rows
import Derived.Laws.IdiomStrings
import Derived.Deep.MidRow
import Derived.ChangeKeysEq
import Derived.Lib.SmallJoins
import Derived.Lib.IndexBytes
import Derived.Laws.Cover3
import Derived.Laws.Pointers
import Derived.Laws.StructEq
import Derived.Laws.Small
set_option linter.all false
namespace Go.Proofs.YtacidcemomccpaaGreatDoor.Vm
abbrev Own:=Nat->Nat->Option Nat
abbrev at' (b k:Nat):Addr:=⟨b,k,none⟩
inductive J5 (O:Own) (w:World):Value->A->Prop
 | bool (b:Bool):J5 O w (.bool b) (.bool b)
 | int (k:IntKind) (n:Int):J5 O w (.int k n) (.int k n)
 | str (s:ByteArray):J5 O w (.string s) (.str s.data.toList)
 | nil (t:Ty):J5 O w (.slice none 0 0) (.sl ⟨t,[]⟩)
 | sl {b off cap:Nat} {l:Sl} (vs:Nat->Nat->Value) (hc:l.es.length<=cap)
    (hm: ∀ i j,i<l.es.length->j<l.sz->O b (off+(i*l.sz+j))=none/\w.cell? (at' b (off+(i*l.sz+j)))=some (vs i j))
    (hr: ∀ i j,i<l.es.length->j<l.sz->J5 O w (vs i j) ((l.es.getD i []).getD j .undef)):J5 O w (.slice (some (at' b off)) l.es.length cap) (.sl l)
 | sln {v:Value} {l:Sl} (h:J5 O w v (.sl l)) (hn:l.xs=[]->v= .slice none 0 0):J5 O w v (.sln l)
 | Mc:J5 O w (.pointer none) .Mc
 | fn (f:Nat):J5 O w (.func (.func f) #[] #[]) (.fn (f+1))
 | vM:J5 O w .nilFunc (.fn 0)
 | sl0 (a:Addr) (t:Ty):J5 O w (.slice (some a) 0 0) (.sl ⟨t,[]⟩)
def Nz (O:Own) (w:World) (O':Own) (w':World):Prop:= ∀ b k u,O b k=none->w.cell? (at' b k)=some u->O' b k=none/\w'.cell? (at' b k)=some u
def Inv (O:Own) (w:World):Prop:=(∀ g j p,oU g j=some p->O g j=none/\ ∃ v,w.cell? (at' g j)=some v/\p v)/\ ∀ g n,AvI g=some n-> ∃ c e fr,w.heap[g]? =some (.cells c e fr)/\c.size=n
def J5.Kr {O O':Own} {w w':World} (hp:Nz O w O' w') {v:Value} {a:A} (h:J5 O w v a):J5 O' w' v a:=by
 induction h with
 | bool b=>exact .bool b
 | int k n=>exact .int k n
 | str s=>exact .str s
 | nil t=>exact .nil t
 | sl vs hc hm hr ih =>refine .sl vs hc (λi j hi hj=> ?_) (λi j hi hj=>ih i j hi hj);all_goals simp_all[hi,Own,Nz,J5]
 | sln h hn ih=>exact .sln ih hn
 | Mc=>exact .Mc
 | fn f=>exact .fn f
 | vM=>exact .vM
 | sl0 a t=>exact .sl0 a t
inductive Shp where
 | box
 | arr (sz len:Nat)
 | mp
def Obj.shp:Obj->Shp
 | .box _=>.box
 | .arr _ _ l=>.arr l.sz l.es.length
 | .mp _=>.mp
def NM (w:World) (g:Nat) (cur:Array Value) (e:TypeId):Prop:= ∃ fr,w.heap[g]? =some (.cells cur e fr)/\(fr=(0,0)\/cur.size<=fr.1)
def NM.cell {w:World} {g:Nat} {cur:Array Value} {e:TypeId} (h:NM w g cur e) (k:Nat):w.cell? (at' g k)=cur[k]? :=by obtain⟨fr,h1,_⟩:=h;simp [World.cell?,h1]
def NM.frozen {w:World} {g:Nat} {cur:Array Value} {e:TypeId} (h:NM w g cur e) {k:Nat} (hk:k<cur.size):w.frozen? (at' g k)=false:=by obtain⟨fr,h1,h2⟩:=h;simp only[World.frozen?,h1];all_goals grind
def NM.lt {w:World} {g:Nat} {cur:Array Value} {e:TypeId} (h:NM w g cur e):g<w.heap.size:=by grind[NM]
theorem NM.same {w w':World} {g:Nat} {cur:Array Value} {e:TypeId} (h:NM w g cur e) (hb:w'.heap[g]? =w.heap[g]?):NM w' g cur e:=by grind[NM]
def NM.inj {w:World} {g:Nat} {cur cur':Array Value} {e e':TypeId} (h:NM w g cur e) (h':NM w g cur' e'):cur=cur'/\e=e':=by grind[NM]
def zB (O:Own) (w:World) (v:Value):A->Prop
 | .agg cs=> ∃ vs:Array Value,v= .agg vs/\vs.size=cs.length/\ ∀ j,j<cs.length->J5 O w (vs.getD j undef) (cs.getD j .undef)
 | a=>J5 O w v a
def zB.Kr {O O':Own} {w w':World} (hp:Nz O w O' w') {v:Value} {a:A} (h:zB O w v a):zB O' w' v a:=by
 cases a with
 | agg cs=>obtain⟨vs,h1,h2,h3⟩:=h;exact⟨vs,h1,h2,λj hj=>(h3 j hj).Kr hp⟩
 | _=>exact J5.Kr hp h
def QD (O:Own) (w:World) (o:Nat) (v:Value) (l:Mp):Prop :=
 ∃ r es ck,v= .map (some r)/\w.heap[r]? =some (.map es ck)/\O r 0=some o/\es.size=l.l.length /\
  ∀(i:Nat) (p:l.kt.Val×l.vt.Val),l.l[i]? =some p-> ∃ e,es[i]? =some e/\zB O w e.key (Aml (l.kt.cells p.1))/\zB O w e.val (Aml (l.vt.cells p.2))
def AyT:Nat->Value->Value
 | 0,p=>p
 | f+1,p=>.func (.func f) #[] #[p]
def fB (O:Own) (w:World) (k:Nat) (v p:Value):Prop:= ∃ b j,v=AyT k (.pointer (some (at' b j)))/\O b j=none/\w.cell? (at' b j)=some p
def fB.Kr {O O':Own} {w w':World} (hp:Nz O w O' w') {k:Nat} {v p:Value} (h:fB O w k v p):fB O' w' k v p:=by obtain⟨b,j,h1,h2,h3⟩:=h;exact⟨b,j,h1,hp _ _ _ h2 h3⟩
section
variable (O:Own) (Jr:List (Nat×Obj)) (m:Nat->Value) (w:World)
def JG (v:Value):A->Prop
 | .undef=>v.oneCell'=true
 | .Lt=>v= .slice none 0 0
 | .ptr o off=>v.oneCell'=true/\match (J3 Jr o).map Obj.shp with
  | some .box=> ∃ b base,m o= .pointer (some (at' b base))/\v= .pointer (some (at' b (base+off)))
  | _=>True
 | .own o=>v.oneCell'=true/\match (J3 Jr o).map Obj.shp with
  | some (.arr _ _)=>v=m o
  | some .mp=>v=m o
  | _=>True
 | .Ku o i off=>v.oneCell'=true/\match (J3 Jr o).map Obj.shp with
  | some (.arr sz len)=>i<len-> ∃ g n cap,m o= .slice (some (at' g 0)) n cap/\v= .pointer (some (at' g (i*sz+off)))
  | _=>True
 | .clo k o=>v.oneCell'=true/\ ∃ p,p.oneCell'=true/\fB O w k v p/\match (J3 Jr o).map Obj.shp with
  | some .box=> ∃ b base,m o= .pointer (some (at' b base))/\p= .pointer (some (at' b base))
  | _=>True
 | .bsl o n=>v.oneCell'=true/\match (J3 Jr o).map Obj.shp with
  | some .box=> ∃ b base,m o= .pointer (some (at' b base))/\v= .slice (some (at' b base)) n n
  | _=>True
 | .osl o k=>v.oneCell'=true/\match (J3 Jr o).map Obj.shp with
  | some (.arr sz len)=>k<len-> ∃ g cap,m o= .slice (some (at' g 0)) len cap/\v= .slice (some (at' g (k*sz))) (len - k) (cap - k)
  | _=>True
 | .elt cs=> ∃ b off,v= .pointer (some (at' b off))/\ ∀ j,j<cs.length->O b (off+j)=none/\ ∃ u,w.cell? (at' b (off+j))=some u/\J5 O w u (cs.getD j .undef)
 | .fn f=>J5 O w v (.fn f)
 | .bool b=>J5 O w v (.bool b)
 | .int k n=>J5 O w v (.int k n)
 | .str s=>J5 O w v (.str s)
 | .sl l=>J5 O w v (.sl l)
 | .sln l=>J5 O w v (.sln l)
 | .Mc=>J5 O w v .Mc
 | _=>False
def T1 (v:Value):A->Prop
 | .agg cs=> ∃ vs:Array Value,v= .agg vs/\vs.size=cs.length/\ ∀ j,j<cs.length->JG O Jr m w (vs.getD j undef) (cs.getD j .undef)
 | a=>JG O Jr m w v a
def JC (v:Value):A->Prop
 | .undef=>True
 | .tup l=> ∃ vs:Array Value,v= .tuple vs/\vs.size=l.length/\ ∀ j,j<l.length->T1 O Jr m w (vs.getD j undef) (l.getD j .undef)
 | .cnd g a=>(g=true->T1 O Jr m w v a)/\(g=false->v=undef)
 | a=>T1 O Jr m w v a
def Lm (o:Nat):Obj->Prop
 | .box cs=> ∃ b base,m o= .pointer (some (at' b base))/\ ∀ j,j<cs.length->O b (base+j)=some o/\w.frozen? (at' b (base+j))=false /\
  ∃ u,w.cell? (at' b (base+j))=some u/\JG O Jr m w u (cs.getD j .undef)
 | .arr e frz l=>(∀ x∈l.es,x.length=l.sz)/\((True/\l.es=[]/\m o= .slice none 0 0) \/
  (True/\ ∃ g cap cur,m o= .slice (some (at' g 0)) l.es.length cap/\NM w g cur e/\l.es.length<=cap/\cap<=maxLen/\cur.size=cap*l.sz /\
    (∀ i j,i<l.es.length->j<l.sz-> ∃ u,cur[i*l.sz+j]? =some u/\J5 O w u ((l.es.getD i []).getD j .undef)) /\
    (∀ k,k<cur.size->l.es.length*l.sz<=k->O g k=some o)/\(∀ k,k<l.es.length*l.sz->O g k=if frz then none else some o)))
 | .mp l=>QD O w o (m o) l
end
structure Moves (O:Own) (T:Nat->Prop) (w w':World):Prop where
 os:w'.os=w.os
 tape:w'.tape=w.tape
 output:w'.output=w.output
 size:w.heap.size<=w'.heap.size
 blk: ∀ b,b<w.heap.size->w'.heap[b]? =w.heap[b]? \/(∃ c c' e fr,w.heap[b]? =some (.cells c e fr)/\w'.heap[b]? =some (.cells c' e fr)/\c'.size=c.size /\
  (∀ k,(∀ o,O b k=some o-> ¬ T o)->c'[k]? =c[k]?)/\ ∃ k o,k<c.size/\O b k=some o/\T o) \/
  ∃ es ck es' ck' o,w.heap[b]? =some (.map es ck)/\w'.heap[b]? =some (.map es' ck')/\O b 0=some o/\T o
def Moves.refl (O:Own) (T:Nat->Prop) (w:World):Moves O T w w:=⟨rfl,rfl,rfl,DD _,λ_ _=>.inl rfl⟩
def cell_lt {w:World} {b k:Nat} {u:Value} (h:w.cell? (at' b k)=some u):b<w.heap.size:=by
 rcases Eh b w.heap.size with hb | hb
 .exact hb
 .simp [World.cell?,Ha hb]at h
def Moves.cell {O:Own} {T:Nat->Prop} {w w':World} (h:Moves O T w w') {b k:Nat} (hb:b<w.heap.size) (hk: ∀ o,O b k=some o-> ¬ T o) :
 w'.cell? (at' b k)=w.cell? (at' b k):=by
 rcases h.blk b hb with he | ⟨c,c',e,fr,h1,h2,_,h4,_⟩ | ⟨es,ck,es',ck',o,h1,h2,_,_⟩
 .simp [World.cell?,he]
 .simp [World.cell?,h1,h2,h4 k hk]
 .simp [World.cell?,h1,h2]
def Moves.frozen {O:Own} {T:Nat->Prop} {w w':World} (h:Moves O T w w') {b k:Nat} (hb:b<w.heap.size):w'.frozen? (at' b k)=w.frozen? (at' b k):=by
 rcases h.blk b hb with he | ⟨c,c',e,fr,h1,h2,_,_,_⟩ | ⟨es,ck,es',ck',o,h1,h2,_,_⟩
 .simp [World.frozen?,he]
 .simp [World.frozen?,h1,h2]
 .simp [World.frozen?,h1,h2]
structure Passes (O O':Own) (T:Nat->Prop) (n:Nat):Prop where
 none: ∀ b k,b<n->O b k=none->O' b k=none
 keep: ∀ b k o,b<n->O b k=some o-> ¬ T o->O' b k=some o
def Moves.Kr {O O':Own} {T:Nat->Prop} {w w':World} (h:Moves O T w w') (hp:Passes O O' T w.heap.size):Nz O w O' w':=by intro b k u hn hc;have hb:=cell_lt hc;exact⟨hp.none b k hb hn,by rw[h.cell hb (λo ho=>by rw[hn]at ho;cases ho)];exact hc⟩
def TC (Jr:List (Nat×Obj)) (m:Nat->Value) (objs':List (Nat×Obj)) (m':Nat->Value) (Nw:Nat->Prop):Prop :=
 ∀ o x',J3 objs' o=some x'->Nw o\/ ∃ x,J3 Jr o=some x/\x.shp=x'.shp/\m' o=m o
def JG.step {O O':Own} {Jr objs':List (Nat×Obj)} {m m':Nat->Value} {w w':World} {Nw:Nat->Prop} (hp:Nz O w O' w') (he:TC Jr m objs' m' Nw)
 {v:Value} {a:A} (hn: ∀ o∈a.Nu,¬ Nw o) (h:JG O Jr m w v a):JG O' objs' m' w' v a:=by
 have key: ∀ o,o∈a.Nu-> ∀ x',J3 objs' o=some x'-> ∃ x,J3 Jr o=some x/\x.shp=x'.shp/\m' o=m o :=
  λo ho x' hx=>(he o x' hx).resolve_left (hn o ho)
 cases a with
 | undef=>exact h
 | Lt=>exact h
 | ptr o off =>
  simp only[JG]at *
  refine⟨h.1,?_⟩;have h:=h.2;cases hx:J3 objs' o with
  | none=>simp
  | some x' =>obtain⟨x,h1,h2,h3⟩:=key o (by simp [A.Nu]) x' hx;rw[h1]at h;simp only[Option.map_some,h2]at h;simp only[Option.map_some,h3];exact h
 | own o =>
  simp only[JG]at *
  refine⟨h.1,?_⟩;have h:=h.2;cases hx:J3 objs' o with
  | none=>simp
  | some x' =>obtain⟨x,h1,h2,h3⟩:=key o (by simp [A.Nu]) x' hx;rw[h1]at h;simp only[Option.map_some,h2]at h;simp only[Option.map_some,h3];exact h
 | Ku o i off =>
  simp only[JG]at *
  refine⟨h.1,?_⟩;have h:=h.2;cases hx:J3 objs' o with
  | none=>simp
  | some x' =>obtain⟨x,h1,h2,h3⟩:=key o (by simp [A.Nu]) x' hx;rw[h1]at h;simp only[Option.map_some,h2]at h;simp only[Option.map_some,h3];exact h
 | clo k o =>
  simp only[JG]at *
  obtain⟨h0,p,h4,h5,h⟩:=h;refine⟨h0,p,h4,h5.Kr hp,?_⟩;cases hx:J3 objs' o with
  | none=>simp
  | some x' =>obtain⟨x,h1,h2,h3⟩:=key o (by simp [A.Nu]) x' hx;rw[h1]at h;simp only[Option.map_some,h2]at h;simp only[Option.map_some,h3];exact h
 | bsl o n =>
  simp only[JG]at *
  refine⟨h.1,?_⟩;have h:=h.2;cases hx:J3 objs' o with
  | none=>simp
  | some x' =>obtain⟨x,h1,h2,h3⟩:=key o (by simp [A.Nu]) x' hx;rw[h1]at h;simp only[Option.map_some,h2]at h;simp only[Option.map_some,h3];exact h
 | osl o n =>
  simp only[JG]at *
  refine⟨h.1,?_⟩;have h:=h.2;cases hx:J3 objs' o with
  | none=>simp
  | some x' =>obtain⟨x,h1,h2,h3⟩:=key o (by simp [A.Nu]) x' hx;rw[h1]at h;simp only[Option.map_some,h2]at h;simp only[Option.map_some,h3];exact h
 | elt cs =>obtain⟨b,off,hv,hc⟩:=h;refine⟨b,off,hv,λj hj=> ?_⟩;obtain⟨h1,u,h2,h3⟩:=hc j hj;obtain⟨h4,h5⟩:=hp _ _ _ h1 h2;exact⟨h4,u,h5,h3.Kr hp⟩
 | fn f=>exact J5.Kr hp h
 | ump _=>exact h
 | bool b=>exact J5.Kr hp h
 | int k n=>exact J5.Kr hp h
 | str s=>exact J5.Kr hp h
 | sl l=>exact J5.Kr hp h
 | sln l=>exact J5.Kr hp h
 | Mc=>exact J5.Kr hp h
 | usl _ _ _=>exact h
 | agg _=>exact h
 | tup _=>exact h
 | box _=>exact h
 | cbx _ _=>exact h
 | cnd _ _=>exact h
def Uy {α β :Type} {f: α ->List β} {l:List α} {d: α} {j:Nat} (hj:j<l.length) {x: β} (hx:x∈f (l.getD j d)):x∈l.flatMap f:=by grind
def T1.step {O O':Own} {Jr objs':List (Nat×Obj)} {m m':Nat->Value} {w w':World} {Nw:Nat->Prop} (hp:Nz O w O' w') (he:TC Jr m objs' m' Nw)
 {v:Value} {a:A} (hn: ∀ o∈a.AuQ,¬ Nw o) (h:T1 O Jr m w v a):T1 O' objs' m' w' v a:=by
 cases a with
 | agg cs =>obtain⟨vs,h1,h2,h3⟩:=h;exact⟨vs,h1,h2,λj hj=>(h3 j hj).step hp he λo ho=>hn o (Uy hj ho)⟩
 | cnd g a=>exact h
 | _ =>simp only[T1]at h ⊢;refine JG.step hp he ?_ h;exact hn
def JC.step {O O':Own} {Jr objs':List (Nat×Obj)} {m m':Nat->Value} {w w':World} {Nw:Nat->Prop} (hp:Nz O w O' w') (he:TC Jr m objs' m' Nw)
 {v:Value} {a:A} (hn: ∀ o∈a.ids,¬ Nw o) (h:JC O Jr m w v a):JC O' objs' m' w' v a:=by
 cases a with
 | undef=>trivial
 | tup l =>obtain⟨vs,h1,h2,h3⟩:=h;exact⟨vs,h1,h2,λj hj=>(h3 j hj).step hp he λo ho=>hn o (Uy hj ho)⟩
 | cnd g a =>
  refine⟨λhg=> ?_,h.2⟩;have h':=h.1 hg;cases a with
  | cnd _ _=>exact h'
  | _=>exact T1.step hp he hn h'
 | _ =>simp only[JC]at h ⊢;refine T1.step hp he ?_ h;exact hn
def QD.step {O O':Own} {w w':World} {T:Nat->Prop} (hm:Moves O T w w') (hp:Passes O O' T w.heap.size) {o:Nat} {v:Value} {l:Mp} (ho: ¬ T o) (h:QD O w o v l):QD O' w' o v l:=by
 obtain⟨r,es,ck,h1,h2,h3,h4,h5⟩:=h;have hr:r<w.heap.size:=(DX.1 h2).1;refine⟨r,es,ck,h1,?_,hp.keep _ _ _ hr h3 ho,h4,λi p hip=> ?_⟩
 .rcases hm.blk r hr with he | ⟨c,c',e,fr,g1,_⟩ | ⟨es1,ck1,es',ck',o',g1,g2,g3,g4⟩;all_goals grind
 .obtain⟨e,k1,k2,k3⟩:=h5 i p hip;exact⟨e,k1,k2.Kr (hm.Kr hp),k3.Kr (hm.Kr hp)⟩
def Lm.step {O O':Own} {Jr objs':List (Nat×Obj)} {m m':Nat->Value} {w w':World} {Nw T:Nat->Prop} (hm:Moves O T w w') (hp:Passes O O' T w.heap.size) (he:TC Jr m objs' m' Nw)
 {o:Nat} {x:Obj} (ho: ¬ T o) (hmo:m' o=m o) (hn: ∀ i∈x.ids,¬ Nw i) (h:Lm O Jr m w o x):Lm O' objs' m' w' o x:=by
 have hpr:=hm.Kr hp;cases x with
 | box cs =>obtain⟨b,base,h1,h2⟩:=h;refine⟨b,base,by rw[hmo];exact h1,λj hj=> ?_⟩;obtain⟨h3,h4,u,h5,h6⟩:=h2 j hj;have hb:=cell_lt h5;refine⟨hp.keep _ _ _ hb h3 ho,by rw[hm.frozen hb];exact h4,u,?_,h6.step hpr he λi hi=>hn i (Uy hj hi)⟩;rw[hm.cell hb (λo' ho'=>by rw[h3]at ho';injection ho' with ho';subst ho';exact ho)];exact h5
 | arr e frz l =>
  obtain⟨h0,h⟩:=h;refine⟨h0,?_⟩;rcases h with ⟨h1,h2,h3⟩ | ⟨h1,g,cap,cur,h2,h3,h4,h5,h6,h7,h8,h9⟩
  .grind
  .refine .inr ⟨h1,g,cap,cur,by rw[hmo];exact h2,?_,h4,h5,h6,?_,?_,?_⟩
   .have hg:g<w.heap.size:=h3.lt;rcases hm.blk g hg with hE | ⟨c,c',e',fr,hA,hB,hC,hD,k,o',hk,hK,hT⟩ | ⟨es1,ck1,es',ck',o',g1,_⟩
    .exact h3.same hE
    .obtain⟨fr0,h3,_⟩:=h3;all_goals grind
    .obtain⟨fr0,h3,_⟩:=h3;rw[h3]at g1;injection g1 with g1;cases g1
   .intro i j hi hj;obtain⟨u,hu,hr⟩:=h7 i j hi hj;exact⟨u,hu,hr.Kr hpr⟩
   .intro k hk hge;have hg:g<w.heap.size:=h3.lt;exact hp.keep _ _ _ hg (h8 k hk hge) ho
   .intro k hk;have hg:g<w.heap.size:=h3.lt;have:=h9 k hk;cases frz
    .simp at this ⊢;exact hp.keep _ _ _ hg this ho
    .simp at this ⊢;exact hp.none _ _ hg this
 | mp l =>have h:QD O w o (m o) l:=h;show QD O' w' o (m' o) l;rw[hmo];exact h.step hm hp ho
theorem XB (a b:Nat):Nat.beq a b=decide (a=b):=by
 cases h:Nat.beq a b with
 | true=>simp_all
 | false=>simp [Nat.ne_of_beq_eq_false h]
theorem Ol (q:Nat) (x:Obj) (r:List (Nat×Obj)) (k:Nat):J3 ((q,x)::r) k=if q=k then some x else J3 r k:=by grind[J3,XB]
theorem zH (q:Nat) (x:Obj) (r:List (Nat×Obj)) (n:Nat):TE ((q,x)::r) n=if q=n then TE r n else(q,x)::TE r n:=by grind[TE,XB]
theorem lH (l:List (Nat×Obj)) (n k:Nat):J3 (TE l n) k=if k=n then none else J3 l k:=by
 induction l with
 | nil=>simp [TE,J3]
 | cons p r ih=>grind[zH,Ol]
theorem ArP (l:List (Nat×Obj)) (n:Nat) (y:Obj) (k:Nat) (hn:J3 l n=none):J3 (dE l n y) k=if k=n then some y else J3 l k:=by
 induction l with
 | nil=>grind[dE,Ol]
 | cons p r ih=>grind[Ol,dE]
theorem KO (l:List (Nat×Obj)) (n:Nat) (y:Obj) (k:Nat):J3 (Ns l n y) k=if k=n then some y else J3 l k:=by grind[Ns,ArP,lH]
def Va (d:List Nat): ∀(l:List (Nat×Obj)) (k:Nat),J3 (KC l d) k=if k∈d then none else J3 l k:=by
 induction d with
 | nil=>grind[KC]
 | cons n r ih=>grind[KC,lH]
theorem Nl (u:List (Nat×Obj)): ∀(l:List (Nat×Obj)) (k:Nat),(∀ p∈u,p.1≠k)->J3 (JH l u) k=J3 l k:=by
 induction u with
 | nil=>intro l k _;rfl
 | cons p r ih=>grind[JH,KO]
def OA (u:List (Nat×Obj)): ∀(l:List (Nat×Obj)) (k:Nat),(∃ p∈u,p.1=k)-> ∃ x,(k,x)∈u/\J3 (JH l u) k=some x:=by
 induction u with
 | nil=>grind
 | cons p r ih =>
  obtain⟨n,x⟩:=p;intro l k h;by_cases hr: ∃ p∈r,p.1=k
  .obtain⟨y,hy,he⟩:=ih (Ns l n x) k hr;exact⟨y,Dz _ hy,he⟩
  .grind[JH,Nl,KO]
structure Xz (P:Program) (t:Nat) (ti:TI):Prop where
 d:P.underlying t=some ti.d
 ck:Q3 P 20 t=some ti.cs
 cmp:ti.cmp=ApP P t ti.d
 i: ∃ i z,P.info? t=some i/\i.size=ti.cs.length/\i.bytes=ti.bytes/\i.zero=some z/\KH z.cells.toList ti.cs=true/\Y1 ti.d=Aa4 z
def Axu {P:Program} {t:Nat} {ti:TI} (h:ArA P t=some ti):Xz P t ti:=by
 unfold ArA at h;split at h
 .rename_i d i cs hd hi hc;split at h
  .rename_i z hz;cases hb:(Nat.beq i.size cs.length&&KH z.cells.toList cs&&(Y1 d==Aa4 z))with
   | false=>rw[hb]at h;cases h
   | true =>rw[hb]at h;injection h with h;subst h;simp only[Dw]at hb;exact⟨hd,hc,rfl,i,z,hi,Dx hb.1.1,rfl,hz,hb.1.2,by simpa using hb.2⟩
  .cases h
 .cases h
def TOk (P:Program) (C:Ctx):Prop:= ∀ t ti,C.T t=some ti->ArA P t=some ti
def TOk.is {P:Program} {C:Ctx} (h:TOk P C) {t:Nat} {ti:TI} (ht:C.T t=some ti):Xz P t ti:=Axu (h t ti ht)
section
variable {P:Program} {t:Nat} {ti:TI} (w:World)
def Xz.run (h:Xz P t ti):(underlying t).run P w= .ok ti.d w:=Ew h.d w
def Xz.OX (h:Xz P t ti):(sizeOf t).run P w= .ok ti.cs.length w:=by obtain⟨i,z,h1,h2,_⟩:=h.i;simp [sizeOf,typeInfo,h1,h2]
def Xz.AmU (h:Xz P t ti):(isAgg t).run P w= .ok ti.agg w:=by simp only[isAgg,DL,h.run,Result.andThen_ok,TI.agg];cases ti.d<;>rfl
def Ap0 (ti:TI):ti.agg=Y1 ti.d:=by grind[TI.agg,Y1]
end
def J6 (l:List Bool):Prop:= ∀ b∈l,b=true
theorem QJ {α :Type} {l:List Bool} {r:Option α} {x: α} (h:allT l r=some x):J6 l/\r=some x:=by
 induction l with
 | nil=>grind[allT,J6]
 | cons c cs ih=>grind[allT,J6]
def J6.append {a b:List Bool} (h:J6 (a++b)):J6 a/\J6 b:=by simp_all[J6]
def J6.cons {c:Bool} {a:List Bool} (h:J6 (c::a)):c=true/\J6 a:=by simp_all[J6]
theorem J6.nil:J6 []:=λ_ h=>by cases h
theorem JJ: ¬ J6 Dl.no.ok:=by simp_all[Dl.no,J6]
section
variable {P:Program} {C:Ctx} {O:Own} {Jr:List (Nat×Obj)} {m:Nat->Value} {a:Act} {w:World} {o:Oper}
def JG.toT {v:Value} {x:A} (h:JG O Jr m w v x):JC O Jr m w v x:=by cases x<;>first | trivial | exact h | exact h.elim
def T1.toT {v:Value} {x:A} (h:T1 O Jr m w v x):JC O Jr m w v x:=by cases x<;>first | trivial | exact h | exact h.elim
structure Pure (P:Program) (O:Own) (Jr:List (Nat×Obj)) (m:Nat->Value) (a:Act) (w:World) (o:Oper) (δ :Dl):Prop where
 run: ∃ v,(execOp a.eval o).run P w= .ok (.value v) w/\JC O Jr m w v δ.val
 new: δ.new=[]
 upd: δ.upd=[]
 del: δ.del=[]
def JC.int {v:Value} {k:IntKind} {n:Int} (h:JC O Jr m w v (.int k n)):v= .int k n:=by cases h;rfl
def JC.bool {v:Value} {b:Bool} (h:JC O Jr m w v (.bool b)):v= .bool b:=by cases h;rfl
def JC.str {v:Value} {s:List UInt8} (h:JC O Jr m w v (.str s)): ∃ b:ByteArray,v= .string b/\b.data.toList=s:=by cases h;exact⟨_,rfl,rfl⟩
def JC.mkInt (k:IntKind) (n:Int):JC O Jr m w (.int k n) (.int k n):=J5.int k n
def JC.Rj (b:Bool):JC O Jr m w (.bool b) (.bool b):=J5.bool b
def JC.mkStr (s:ByteArray) {l:List UInt8} (h:s.data.toList=l):JC O Jr m w (.string s) (.str l):=by subst h;exact J5.str s
def AiU (s:ByteArray):s.toList=s.data.toList:=ByteArray.toList_eq s
theorem Vj (s:ByteArray):s.size=s.data.toList.length:=by rw[Array.length_toList];rfl
def AiC {x:Operand} (ho:o.op= .move x\/o.op= .assign x) {y:A} (hx:JC O Jr m w (a.eval x) y):Pure P O Jr m a w o (.v y):=by refine⟨⟨a.eval x,?_,hx⟩,rfl,rfl,rfl⟩;rcases ho with ho | ho<;>simp [execOp,ho]
def wY {v:Value} {x:A} (h:JC O Jr m w v x) (hg:x.Qi.1=true):JC O Jr m w v x.Qi.2:=by
 cases x with
 | cnd g y =>have:=h.1 hg;cases y<;>first | trivial | exact this | exact this.elim
 | _=>exact h
def Atu {c x y:Operand} (ho:o.op= .pick c x y) {c' x' y':A} (hc:JC O Jr m w (a.eval c) c') (hx:JC O Jr m w (a.eval x) x') (hy:JC O Jr m w (a.eval y) y')
 (hok:J6 (AkA c' x' y').ok):Pure P O Jr m a w o (AkA c' x' y'):=by
 obtain⟨h0,h1⟩:=hok.cons;obtain⟨h1,h2⟩:=h1.cons;obtain⟨h2,h3⟩:=h2.cons;have h3:=h3.cons.1;refine⟨?_,rfl,rfl,rfl⟩;have hc':=wY hc h0;unfold AkA;simp only[Dl.g];generalize c'.Qi.2=cc at *
 obtain⟨q,rfl⟩: ∃ q,cc= .bool q:=by cases cc<;>simp [A.isB]at h1;exact⟨_,rfl⟩
 have:=hc'.bool;cases q with
 | true =>
  simp only[A.toB,cond_true]at h2 h3 ⊢;have hx':=wY hx h2;generalize x'.Qi.2=xx at *
  cases xx<;>simp [A.isB]at h3;exact⟨a.eval x,by simp [execOp,ho,asBool,this],hx'⟩
 | false =>
  simp only[A.toB,cond_false]at h2 h3 ⊢;have hy':=wY hy h2;generalize y'.Qi.2=yy at *
  cases yy<;>simp [A.isB]at h3;exact⟨a.eval y,by simp [execOp,ho,asBool,this],hy'⟩
theorem Rf {j k:IntKind} (h:A.kEq j k=true):j=k:=by cases j<;>cases k<;>first | rfl | cases h
def Auv {op:BinOp} {k:IntKind} {x y:Int} (hok:J6 (zK op k x y).ok) (t:TypeId) (hop:op≠ .shl) (hop':op≠ .shr) :
 ∃ v,(binOp op t (.int k x) (.int k y)).run P w= .ok v w/\JC O Jr m w v (zK op k x y).val/\(zK op k x y).new=[]/\(zK op k x y).upd=[]/\(zK op k x y).del=[]:=by
 have ha: ∀ op,op= .add\/op= .sub\/op= .mul->binOp op t (.int k x) (.int k y)=Op.intArith op k x y:=by rintro op (rfl | rfl | rfl)<;>simp [binOp]
 have hd: ∀ op,op= .quo\/op= .rem->binOp op t (.int k x) (.int k y)=Op.intDiv op k x y:=by rintro op (rfl | rfl)<;>simp [binOp]
 have hb: ∀ op,op= .and\/op= .or\/op= .xor\/op= .andNot->binOp op t (.int k x) (.int k y)=Op.intBits op k x y:=by rintro op (rfl | rfl | rfl | rfl)<;>simp [binOp]
 have hc: ∀ op,op= .eql\/op= .neq\/op= .lss\/op= .leq\/op= .gtr\/op= .geq->binOp op t (.int k x) (.int k y)=Op.intCmp op x y:=by rintro op (rfl | rfl | rfl | rfl | rfl | rfl)<;>simp [binOp]
 cases op with
 | shl=>exact absurd rfl hop
 | shr=>exact absurd rfl hop'
 | add=>rw[ha _ (by simp)];exact⟨_,rfl,.mkInt _ _,rfl,rfl,rfl⟩
 | sub=>rw[ha _ (by simp)];exact⟨_,rfl,.mkInt _ _,rfl,rfl,rfl⟩
 | mul=>rw[ha _ (by simp)];exact⟨_,rfl,.mkInt _ _,rfl,rfl,rfl⟩
 | quo =>
  have h0:y≠0:=by simpa [zK,Dl.g]using hok.cons.1
  rw[hd _ (by simp)];exact⟨.int k (k.wrap (x.tdiv y)),by simp [Op.intDiv,h0],.mkInt _ _,rfl,rfl,rfl⟩
 | rem =>
  have h0:y≠0:=by simpa [zK,Dl.g]using hok.cons.1
  rw[hd _ (by simp)];exact⟨.int k (x.tmod y),by simp [Op.intDiv,h0],.mkInt _ _,rfl,rfl,rfl⟩
 | and=>rw[hb _ (by simp)];exact⟨_,rfl,.mkInt _ _,rfl,rfl,rfl⟩
 | or=>rw[hb _ (by simp)];exact⟨_,rfl,.mkInt _ _,rfl,rfl,rfl⟩
 | xor=>rw[hb _ (by simp)];exact⟨_,rfl,.mkInt _ _,rfl,rfl,rfl⟩
 | andNot=>rw[hb _ (by simp)];exact⟨_,rfl,.mkInt _ _,rfl,rfl,rfl⟩
 | eql=>rw[hc _ (by simp)];exact⟨_,rfl,.Rj _,rfl,rfl,rfl⟩
 | neq=>rw[hc _ (by simp)];exact⟨_,rfl,.Rj _,rfl,rfl,rfl⟩
 | lss=>rw[hc _ (by simp)];exact⟨_,rfl,.Rj _,rfl,rfl,rfl⟩
 | leq=>rw[hc _ (by simp)];exact⟨_,rfl,.Rj _,rfl,rfl,rfl⟩
 | gtr=>rw[hc _ (by simp)];exact⟨_,rfl,.Rj _,rfl,rfl,rfl⟩
 | geq=>rw[hc _ (by simp)];exact⟨_,rfl,.Rj _,rfl,rfl,rfl⟩
def Auw {op:BinOp} {x y:ByteArray} {x' y':List UInt8} (hx:x.data.toList=x') (hy:y.data.toList=y') (hok:J6 (zL op x' y').ok) (t:TypeId) :
 ∃ v,(binOp op t (.string x) (.string y)).run P w= .ok v w/\JC O Jr m w v (zL op x' y').val/\(zL op x' y').new=[]/\(zL op x' y').upd=[]/\(zL op x' y').del=[]:=by
 subst hx hy;have hs: ∀ op,op≠ .shl->op≠ .shr->binOp op t (.string x) (.string y)=Op.stringOp op x y:=by intro op _ _;cases op<;>rfl
 cases op<;>first
  | exact(JJ hok).elim
  | (rw [hs _ (by simp) (by simp)]
     refine⟨_,rfl,?_,rfl,rfl,rfl⟩;simp only[zL,Dl.v,AiU,bytesLess];exact .Rj _)
  | (have h0:x.data.toList.length+y.data.toList.length<=140737488355328:=by simpa [zL,Dl.g]using hok.cons.1
     rw[hs _ (by simp) (by simp)];refine⟨.string (x++y),?_,?_,rfl,rfl,rfl⟩
     .have: ¬(((x.size+y.size:Nat):Int)>IntKind.i64.max):=by
       rw[<- Vj,<- Vj]at h0;rw[show IntKind.i64.max=9223372036854775807 from rfl];omega
      simp only[Op.stringOp,this,G8];rfl
     .exact .mkStr _ (Go.Joins.data_append x y))
end
def Alr {P:Program} {w:World} {op:BinOp} {t:TypeId} {x y:Operand} {v u:Value} (h: ∀ cs,v≠ .agg cs) (h':v≠ .nilIface):(eqGuard op t x y v u).run P w= .ok () w:=by unfold eqGuard;all_goals simp_all
section
variable {P:Program} {C:Ctx} {O:Own} {Jr:List (Nat×Obj)} {m:Nat->Value} {a:Act} {w:World} {o:Oper} {fet:Fet}
def FOk (O:Own) (Jr:List (Nat×Obj)) (m:Nat->Value) (w:World) (fet:Fet):Prop:= ∀ o x,J3 fet o=some x->J3 Jr o=some x/\Lm O Jr m w o x
def JU {α :Type} {x:Option α} {k: α ->Dl} (hok:J6 (KA x k).ok): ∃ y,x=some y/\KA x k=k y:=by
 cases x with
 | none=>exact(JJ hok).elim
 | some y=>exact⟨y,rfl,rfl⟩
theorem KF {t:Nat} {k:TI->Dl} (hok:J6 (ML C t k).ok): ∃ ti,C.T t=some ti/\ML C t k=k ti:=JU hok
def Lj {n:Nat} {cs:List A} (h:L8 fet n=some cs):J3 fet n=some (.box cs):=by unfold L8 at h;split at h<;>simp_all
def NP {n:Nat} {r:Arr} (h:dF fet n=some r):J3 fet n=some (.arr r.e r.frz r.l):=by unfold dF at h;all_goals grind
def Ur {d:TypeDesc} {e:Nat} (h:elem? d=some e):d= .slice e:=by unfold elem? at h;split at h<;>simp_all
def JC.own {v:Value} {n:Nat} {e:Nat} {frz:Bool} {l:Sl} (hf:FOk O Jr m w fet) (h:JC O Jr m w v (.own n)) (hx:J3 fet n=some (.arr e frz l)) :
 v=m n/\Lm O Jr m w n (.arr e frz l):=by
 obtain⟨h1,h2⟩:=hf _ _ hx;refine⟨?_,h2⟩;have h':JG O Jr m w v (.own n):=h;all_goals grind[JG,Obj.shp]
def JC.ptr {v:Value} {n off:Nat} {cs:List A} (hf:FOk O Jr m w fet) (h:JC O Jr m w v (.ptr n off)) (hx:J3 fet n=some (.box cs)) :
 ∃ b base,m n= .pointer (some (at' b base))/\v= .pointer (some (at' b (base+off)))/\ ∀ j,j<cs.length->O b (base+j)=some n/\w.frozen? (at' b (base+j))=false /\
  ∃ u,w.cell? (at' b (base+j))=some u/\JG O Jr m w u (cs.getD j .undef):=by
 obtain⟨h1,b,base,h2,h3⟩:=hf _ _ hx;have h':JG O Jr m w v (.ptr n off):=h;all_goals grind[JG,Obj.shp]
def JC.Mc {v:Value} (h:JC O Jr m w v .Mc):v= .pointer none:=by cases h;rfl
def Ami {t e:Nat} {v:Value} {b:Bool} (hu:P.underlying t=some (.slice e)) (h:(v= .slice none 0 0/\b=true)\/(∃ ad l c,v= .slice (some ad) l c)/\b=false) :
 (Op.equal t v (.slice none 0 0)).run P w= .ok b w:=by
 rcases h with ⟨rfl,rfl⟩ | ⟨⟨ad,l,c,rfl⟩,rfl⟩<;>rw[run_equal_slice_nil w t e _ _ _ hu]<;>rfl
def Atf {t e:Nat} {v:Value} {b:Bool} (hu:P.underlying t=some (.pointer e)) (h:(v= .pointer none/\b=true)\/(∃ ad,v= .pointer (some ad))/\b=false) :
 (Op.equal t v (.pointer none)).run P w= .ok b w:=by
 have hu':P.underlying t=some (.pointer (P.pointee t)):=by rw[hu];simp [Program.pointee,hu]
 rcases h with ⟨rfl,rfl⟩ | ⟨⟨ad,rfl⟩,rfl⟩<;>rw[run_equal_pointer_nil w t _ hu']<;>rfl
def AiE {s:Bool} {t:Nat} {d:TypeDesc} {x:A} {v:Value} {b:Bool} (hd:P.underlying t=some d) (hf:FOk O Jr m w fet) (hx:JC O Jr m w v x) (h:AfN fet s d x=some b) :
 (s=true/\(Op.equal t v (.slice none 0 0)).run P w= .ok b w/\ ∃ a l c,v= .slice a l c)\/(s=false/\(Op.equal t v (.pointer none)).run P w= .ok b w/\ ∃ a,v= .pointer a):=by
 unfold AfN at h;split at h
 .injection h with h;subst h;have hx':v= .slice none 0 0:=hx;exact .inl ⟨rfl,Ami hd (.inl ⟨hx',rfl⟩),_,_,_,hx'⟩
 .injection h with h;subst h;rename_i l;have hx':J5 O w v (.sln l):=hx;cases hx' with
  | sln h hn =>
   cases hq:l.xs.isEmpty with
   | true=>simp_all[Ami,hd,FOk,JC,AfN]
   | false =>
    cases h with
    | nil=>cases hq
    | sl0=>cases hq
    | sl vs _ _ _=>simp_all[Ami,hd,FOk,JC,AfN]
 .injection h with h;subst h;cases hx;exact .inr ⟨rfl,Atf hd (.inl ⟨rfl,rfl⟩),_,rfl⟩
 .rename_i n off;cases hr:L8 fet n with
  | none=>rw[hr]at h;cases h
  | some cs =>rw[hr]at h;injection h with h;subst h;obtain⟨b,base,_,h2,_⟩:=hx.ptr hf (Lj hr);exact .inr ⟨rfl,Atf hd (.inr ⟨⟨_,h2⟩,rfl⟩),_,h2⟩
 .cases h
def AoA {t:Nat} {x y:Bool} (hd:P.underlying t=some .bool):(Op.equal t (.bool x) (.bool y)).run P w= .ok (x==y) w:=by
 have: ∀ d,(Op.equalIn (d+1) t (.bool x) (.bool y)).run P w= .ok (x==y) w:=by intro d;simp [Op.equalIn,Ew hd]
 exact this 9999
def AfX {t:Nat} {vs:Array Value} {off:Nat} {d:TypeDesc} (hd:P.underlying t=some d) (hp:Y1 d=false) (h:off<vs.size):(part t vs off).run P w= .ok (vs.getD off undef) w:=by
 have hg:vs[off]? =some (vs.getD off undef):=by rw[Dv,En h];rfl
 have ha:(isAgg t).run P w= .ok false w:=by simp only[isAgg,DL,Ew hd,Result.andThen_ok];cases d<;>first | rfl | cases hp
 unfold part;all_goals simp_all
def JG.AvX {v:Value} {b:Bool} (h:JG O Jr m w v (.bool b)):v= .bool b:=by cases h;rfl
def JG.AxQ {v:Value} {k:IntKind} {n:Int} (h:JG O Jr m w v (.int k n)):v= .int k n:=by cases h;rfl
def JG.Ayw {v:Value} {s:List UInt8} (h:JG O Jr m w v (.str s)): ∃ b:ByteArray,v= .string b/\b.data.toList=s:=by cases h;exact⟨_,rfl,rfl⟩
def ApJ {d ty:Nat} {k:CK} {td:TypeDesc} {a b:A} {v u:Value} (hk:(k= .bool/\td= .bool)\/(∃ i,k= .int i/\td= .int i)\/(k= .str/\td= .string)) (hd:P.underlying ty=some td) (h1:JG O Jr m w v a) (h2:JG O Jr m w u b) (hok:(iR k a b).1=true) :
 (Op.equalIn (d+1) ty v u).run P w= .ok (iR k a b).2 w:=by
 rcases hk with ⟨rfl,rfl⟩ | ⟨i,rfl,rfl⟩ | ⟨rfl,rfl⟩
 .cases a<;>first | (cases hok;done) | skip
  cases b<;>first | (cases hok;done) | skip
  rw[h1.AvX,h2.AvX];exact run_equalIn_bool' w d ty _ _ hd
 .cases a<;>first | (cases hok;done) | skip
  cases b<;>first | (cases hok;done) | skip
  rename_i j x j' y;simp only[iR,Dw]at hok;rw[h1.AxQ,h2.AxQ,Rf hok.1,Rf hok.2];exact run_equalIn_int w d ty i i _ _ hd
 .cases a<;>first | (cases hok;done) | skip
  cases b<;>first | (cases hok;done) | skip
  obtain⟨s1,e1,l1⟩:=h1.Ayw;obtain⟨s2,e2,l2⟩:=h2.Ayw;rw[e1,e2,run_equalIn_string w d ty _ _ hd];simp only[iR,AiU,l1,l2]
def Alq {d:Nat} {vs us:Array Value} {x y:List A} (hx:vs.size=x.length) (hy:us.size=y.length) (hxr: ∀ j,j<x.length->JG O Jr m w (vs.getD j undef) (x.getD j .undef)) (hyr: ∀ j,j<y.length->JG O Jr m w (us.getD j undef) (y.getD j .undef)) :
 ∀(fs:List Field) (n:Nat) (ks:List CK),Yv P fs n=some ks->(QT ks (x.drop n) (y.drop n)).1=true->(Op.eqFields (d+1) vs us fs).run P w= .ok (QT ks (x.drop n) (y.drop n)).2 w:=by
 intro fs
 induction fs with
 | nil =>
  intro n ks h hok;injection h with h;subst h
  have:QT [] (x.drop n) (y.drop n)=(true,true):=by
   cases hx:x.drop n with
   | nil=>cases hy:y.drop n with
    | nil=>rfl
    | cons _ _=>rw[hx,hy]at hok;cases hok
   | cons _ _=>rw[hx]at hok;cases hok
  rw[this];rfl
 | cons f fs ih =>
  intro n ks h hok
  have key: ∀(k:CK) (td:TypeDesc) (ks':List CK),((k= .bool/\td= .bool)\/(∃ i,k= .int i/\td= .int i)\/(k= .str/\td= .string))->P.underlying f.type=some td->Yv P fs (n+1)=some ks'->(f.name != "_" &&Nat.beq f.offset n)=true->ks=k::ks' ->
   (Op.eqFields (d+1) vs us (f::fs)).run P w= .ok (QT ks (x.drop n) (y.drop n)).2 w:=by
   intro k td ks' hk hd hf hn hks;subst hks;rw[Dw]at hn;have hnm:f.name≠ "_" :=by simpa using hn.1
   have hoff:=Dx hn.2;cases hxd:x.drop n with
   | nil=>rw[hxd]at hok;cases hok
   | cons a xr =>
    cases hyd:y.drop n with
    | nil=>rw[hxd,hyd]at hok;cases hok
    | cons b yr =>
     rw[hxd,hyd]at hok;simp only[QT,Dw]at hok ⊢
     have hnx:n<x.length:=by
      rcases Eh n x.length with h | h
      .exact h
      .rw[He h]at hxd;cases hxd
     have hny:n<y.length:=by
      rcases Eh n y.length with h | h
      .exact h
      .rw[He h]at hyd;cases hyd
     have e1:x.getD n .undef=a:=by have:=congrArg List.head? hxd;rw[List.head?_drop]at this;rw[Dn,this];rfl
     have e2:y.getD n .undef=b:=by have:=congrArg List.head? hyd;rw[List.head?_drop]at this;rw[Dn,this];rfl
     have e3:x.drop (n+1)=xr:=by rw[<- Fj,hxd];rfl
     have e4:y.drop (n+1)=yr:=by rw[<- Fj,hyd];rfl
     have r1:=hxr n hnx;have r2:=hyr n hny;rw[e1]at r1;rw[e2]at r2;have hagg:Y1 td=false:=by rcases hk with ⟨_,rfl⟩ | ⟨i,_,rfl⟩ | ⟨_,rfl⟩<;>rfl
     have p1:=AfX (P:=P) (w:=w) (vs:=vs) (off:=n) hd hagg (by omega);have p2:=AfX (P:=P) (w:=w) (vs:=us) (off:=n) hd hagg (by omega);have q:=ApJ (d:=d) hk hd r1 r2 hok.1;have hrest:=ih (n+1) ks' hf (by rw[e3,e4];exact hok.2);rw[e3,e4]at hrest;simp only[Op.eqFields,hnm,ne_eq,not_false_eq_true,Jo,DL,hoff,p1,p2,Result.andThen_ok,q];cases (iR k a b).2 with
     | false=>simp
     | true=>simpa using hrest
  unfold Yv at h;all_goals grind
def AoD {t:Nat} {ti:TI} (hT:Xz P t ti) {vs us:Array Value} {x y:List A} (hx:vs.size=x.length) (hy:us.size=y.length) (hxr: ∀ j,j<x.length->JG O Jr m w (vs.getD j undef) (x.getD j .undef)) (hyr: ∀ j,j<y.length->JG O Jr m w (us.getD j undef) (y.getD j .undef))
 (h1:ti.cmp.isEmpty=false) (h2:(QT ti.cmp x y).1=true):P.eqGuardType P.depth t=false/\(Op.equalIn 10000 t (.agg vs) (.agg us)).run P w= .ok (QT ti.cmp x y).2 w:=by
 have hc:=hT.cmp;have hd:=hT.d;unfold ApP at hc;split at hc
 .rename_i fs hfs;split at hc
  .rename_i ks hks;cases hb:(!(P.stoodInHeld t)&& !(P.eqGuardType P.depth t))with
   | false=>grind
   | true =>
    rw[hb]at hc;simp only[cond_true]at hc;rw[hc]at h2 ⊢;rw[Dw,EH,EH]at hb;rw[hfs]at hd;have hf:P.fieldsOf t=fs:=by simp only[Program.fieldsOf,hd]
    refine⟨hb.2,?_⟩;rw[run_equalIn_agg w 9999 t vs us (by rw[hf];exact hd) hb.1,hf];exact Alq (d:=9998) hx hy hxr hyr fs.toList 0 ks hks h2
  .grind
 .grind
def Aux {op:BinOp} {t ty:Nat} {x y:Operand} (hC:TOk P C) (hf:FOk O Jr m w fet) (ho:o.op= .binOp op t x y ty) {x' y':A} (hx:JC O Jr m w (a.eval x) x') (hy:JC O Jr m w (a.eval y) y')
 (hok:J6 (Ap8 C fet op t x' y').ok):Pure P O Jr m a w o (Ap8 C fet op t x' y'):=by
 have fin: ∀ {v u:Value} {δ :Dl},a.eval x=v->a.eval y=u->(∀ cs,v≠ .agg cs)->v≠ .nilIface->(∃ r,(binOp op t v u).run P w= .ok r w/\JC O Jr m w r δ.val/\ δ.new=[]/\ δ.upd=[]/\ δ.del=[])->Pure P O Jr m a w o δ :=by intro v u δ hv hu h1 h2 ⟨r,h3,h4,h5,h6,h7⟩;refine⟨⟨r,?_,h4⟩,h5,h6,h7⟩;simp only[execOp,ho,hv,hu,DL,Alr h1 h2,Result.andThen_ok,h3,Sem.run_pure]
 unfold Ap8 at hok ⊢;split at hok
 .rename_i k p k' q;have h1:=hx.int;have h2:=hy.int;split at hok
  .have h0:0<=q:=by simpa [Dl.g]using hok.cons.1
   refine fin h1 h2 (by simp) (by simp) ⟨_,?_,.mkInt _ _,rfl,rfl,rfl⟩;have: ¬ q<0:=by omega
   simp [binOp,Op.shift,this]
  .have h0:0<=q:=by simpa [Dl.g]using hok.cons.1
   refine fin h1 h2 (by simp) (by simp) ⟨_,?_,.mkInt _ _,rfl,rfl,rfl⟩;have: ¬ q<0:=by omega
   simp [binOp,Op.shift,this]
  .rename_i h3 h4;cases hk:A.kEq k k' with
   | false=>rw[hk]at hok;exact(JJ hok).elim
   | true =>rw[hk]at hok;have:=Rf hk;subst this;exact fin h1 h2 (by simp) (by simp) (Auv hok t h3 h4)
 .obtain⟨s1,h1,h2⟩:=hx.str;obtain⟨s2,h3,h4⟩:=hy.str;exact fin h1 h3 (by simp) (by simp) (Auw h2 h4 hok t)
 .have h1:=hx.bool;have h2:=hy.bool;split at hok
  .unfold Akt at *
   obtain⟨ti,ht,he⟩:=KF hok;rw[he]at hok ⊢;have hd:ti.d= .bool:=by have:=hok.cons.1;unfold Aho at this;split at this<;>simp_all
   refine fin h1 h2 (by simp) (by simp) ⟨_,?_,.Rj _,rfl,rfl,rfl⟩;have hu:=(hC.is ht).d;rw[hd]at hu;simp only[binOp,DL,AoA hu,Result.andThen_ok,Sem.run_pure]
  .unfold Akt at *
   obtain⟨ti,ht,he⟩:=KF hok;rw[he]at hok ⊢;have hd:ti.d= .bool:=by have:=hok.cons.1;unfold Aho at this;split at this<;>simp_all
   refine fin h1 h2 (by simp) (by simp) ⟨_,?_,.Rj _,rfl,rfl,rfl⟩;have hu:=(hC.is ht).d;rw[hd]at hu;simp only[binOp,DL,AoA hu,Result.andThen_ok,Sem.run_pure]
  .exact(JJ hok).elim
 .rename_i x y;obtain⟨vs,e1,l1,r1⟩:=(show T1 O Jr m w _ (.agg x)from hx)
  obtain⟨us,e2,l2,r2⟩:=(show T1 O Jr m w _ (.agg y)from hy)
  obtain⟨ti,ht,he⟩:=KF hok;rw[he]at hok ⊢;split at hok
  .obtain⟨c1,c2⟩:=hok.cons;obtain⟨g1,g2⟩:=AoD (hC.is ht) l1 l2 r1 r2 (by simpa using c1) c2.cons.1;refine⟨⟨_,?_,.Rj _⟩,rfl,rfl,rfl⟩;simp only[execOp,ho,e1,e2,DL,run_eqGuard_agg w _ _ _ _ _ _ g1,Result.andThen_ok,run_eql_struct w,g2,Sem.run_pure]
  .obtain⟨c1,c2⟩:=hok.cons;obtain⟨g1,g2⟩:=AoD (hC.is ht) l1 l2 r1 r2 (by simpa using c1) c2.cons.1;refine⟨⟨_,?_,.Rj _⟩,rfl,rfl,rfl⟩;simp only[execOp,ho,e1,e2,DL,run_eqGuard_agg w _ _ _ _ _ _ g1,Result.andThen_ok,run_neq_struct w,g2,Sem.run_pure]
  .exact(JJ hok).elim
 .have h2:a.eval y= .slice none 0 0:=hy;split at hok
  all_goals first
   | exact(JJ hok).elim
   | (unfold Ahw at *
      obtain⟨ti,ht,he⟩:=KF hok;rw[he]at hok ⊢;obtain⟨b,hb,he'⟩:=JU hok;rw[he'];have hu:=(hC.is ht).d;rcases AiE hu hf hx hb with ⟨_,h3,al,l,c,h4⟩ | ⟨hs,_⟩
      .rw[h4]at h3;refine fin h4 h2 (by simp) (by simp) ⟨_,?_,.Rj _,rfl,rfl,rfl⟩;simp only[binOp,DL,h3,Result.andThen_ok,Sem.run_pure]
      .cases hs)
 .have h2:=hy.Mc;split at hok
  all_goals first
   | exact(JJ hok).elim
   | (unfold Ahw at *
      obtain⟨ti,ht,he⟩:=KF hok;rw[he]at hok ⊢;obtain⟨b,hb,he'⟩:=JU hok;rw[he'];have hu:=(hC.is ht).d;rcases AiE hu hf hx hb with ⟨hs,_⟩ | ⟨_,h3,al,h4⟩
      .cases hs
      .rw[h4]at h3;refine fin h4 h2 (by simp) (by simp) ⟨_,?_,.Rj _,rfl,rfl,rfl⟩;simp only[binOp,DL,h3,Result.andThen_ok,Sem.run_pure])
 .exact(JJ hok).elim
end
def Si (b k n:Nat):(at' b k).add n=at' b (k+n):=by
 unfold Addr.add;split
 .grind
 .rfl
section
variable {P:Program} {C:Ctx} {O:Own} {Jr:List (Nat×Obj)} {m:Nat->Value} {a:Act} {w:World} {o:Oper} {fet:Fet}
def Axv {op:UnOp} {t:Nat} {x:Operand} (ho:o.op= .unOp op t x) {x':A} (hx:JC O Jr m w (a.eval x) x') (hok:J6 (unX op x').ok):Pure P O Jr m a w o (unX op x'):=by
 unfold unX at hok ⊢;split at hok
 .have h1:=hx.bool;exact⟨⟨_,by simp only[execOp,ho,h1,Op.unary];rfl,.Rj _⟩,rfl,rfl,rfl⟩
 .have h1:=hx.int;exact⟨⟨_,by simp only[execOp,ho,h1,Op.unary];rfl,.mkInt _ _⟩,rfl,rfl,rfl⟩
 .have h1:=hx.int;exact⟨⟨_,by simp only[execOp,ho,h1,Op.unary];rfl,.mkInt _ _⟩,rfl,rfl,rfl⟩
 .grind[JJ]
def VM {x:A} {n:Int} (h:int? x=some n): ∃ k,x= .int k n:=by unfold int? at h;split at h<;>simp_all
def AbE {x:A} {s:List UInt8} (h:Anc x=some s):x= .str s:=by unfold Anc at h;split at h<;>simp_all
def Ai7 {d:TypeDesc} (h:Af4 d=true):d= .string:=by grind[Af4]
def AkS {t:Nat} {k:Nat->IntKind->Dl} (hC:TOk P C) (hok:J6 (AeF C t k).ok): ∃ n e kk te,AeF C t k=k n kk/\(P.underlying t=some (.array n e))/\C.T e=some te/\te.cs=[.int kk]/\te.agg=false:=by
 unfold AeF at hok ⊢;obtain⟨ti,ht,he⟩:=KF hok;rw[he]at hok ⊢;obtain⟨p,hp,he⟩:=JU hok;rw[he]at hok ⊢;obtain⟨te,hte,he⟩:=KF hok;rw[he]at hok ⊢;cases hag:te.agg with
 | true=>rw[hag]at hok;exact(JJ hok).elim
 | false =>
  rw[hag]at hok;simp only[cond_false]at hok ⊢;obtain⟨c,hc,he⟩:=JU hok;rw[he]at hok ⊢;obtain⟨kk,hk,he⟩:=JU hok;rw[he]at hok ⊢;refine⟨p.1,p.2,kk,te,rfl,?_,hte,?_,hag⟩
  .rw[(hC.is ht).d];unfold sU at hp;split at hp
   .rename_i hd;injection hp with hp;rw[hd,<- hp]
   .cases hp
  .have e1:te.cs=[c]:=by unfold one? at hc;split at hc<;>simp_all
   have e2:c= .int kk:=by unfold Awi at hk;split at hk<;>simp_all
   rw[e1,e2]
def Amj {cs:List A} {kk:IntKind} {n:Int} {m:Nat} (h:J6 [cs.all (A.isI kk),Nat.beq cs.length m,decide (0<=n),decide (n<(m:Int))]):cs.length=m/\0<=n/\n<(m:Int)/\n.toNat<cs.length/\cs.getD n.toNat .undef= .int kk (vN cs n):=by
 obtain⟨h1,h2⟩:=h.cons;obtain⟨h2,h3⟩:=h2.cons;obtain⟨h3,h4⟩:=h3.cons;have h4:n<(m:Int):=by simpa using h4.cons.1
 have h3:0<=n:=by simpa using h3
 have h2:=Dx h2;have hlt:n.toNat<cs.length:=by omega
 refine⟨h2,h3,h4,hlt,?_⟩;have h5:=DI.1 h1 cs[n.toNat] (Ej hlt);have e:vN cs n=cs[n.toNat].toI:=by simp [vN,Dn,hlt]
 rw[e,Dn,D8 hlt];generalize cs[n.toNat]=c at h5
 cases c<;>first
  | (rename_i k' x;have:=Rf (show A.kEq kk k'=true from h5);subst this;rfl)
  | cases h5
def Aqz {t:Nat} {x i:Operand} (hC:TOk P C) (ho:o.op= .index t x i) {x' i':A} (hx:JC O Jr m w (a.eval x) x') (hi:JC O Jr m w (a.eval i) i')
 (hok:J6 (Afy C t x' i').ok):Pure P O Jr m a w o (Afy C t x' i'):=by
 unfold Afy at hok ⊢;obtain⟨n,hn,he⟩:=JU hok;rw[he]at hok ⊢;clear he;obtain⟨k,rfl⟩:=VM hn;split at hok
 .rename_i cs;obtain⟨m',e,kk,te,he,hu,hte,hcs,hag⟩:=AkS hC hok;rw[he]at hok ⊢;obtain⟨h1,h2,h3,h4,h5⟩:=Amj hok;obtain⟨vs,g1,g2,g3⟩:=hx;have h6:J5 O w (vs.getD n.toNat undef) (.int kk (vN cs n)):=by have:=g3 n.toNat h4;rw[h5]at this;exact this
  have h6:vs.getD n.toNat undef= .int kk (vN cs n):=by generalize vs.getD n.toNat undef=z at h6;cases h6;rfl
  have hi:=hi.int;have hs:=(hC.is hte).OX w;have hag':=(hC.is hte).AmU w;rw[hag]at hag';have hlt:n.toNat<vs.size:=by omega
  have hg6:vs[n.toNat]? =some (.int kk (vN cs n)):=by rw[Dv,En hlt]at h6;rw[En hlt];exact congrArg some h6
  have hrun:=Ew hu w;refine⟨⟨.int kk (vN cs n),?_,.mkInt _ _⟩,rfl,rfl,rfl⟩;simp [execOp,ho,Instr.index,hi,asIntOf,hrun,g1,h2,h3,hs,hcs,part,hag',hg6]
 .rename_i y _;obtain⟨s,hs,he⟩:=JU hok;rw[he]at hok ⊢;obtain⟨ti,ht,he⟩:=KF hok;rw[he]at hok ⊢;have:=AbE hs;subst this;obtain⟨h1,h2⟩:=hok.cons;obtain⟨h2,h3⟩:=h2.cons;have h3:=h3.cons.1;have hd:=Ai7 h1;have hu:=(hC.is ht).run w;rw[hd]at hu;have hi:=hi.int;obtain⟨b,hb,hl⟩:=hx.str;have h2:0<=n:=by simpa using h2
  have h3:n<(s.length:Int):=by simpa using h3
  obtain⟨j,rfl⟩:=EU h2;have hj:j<b.size:=by rw[Vj,hl];omega
  refine⟨⟨.int .u8 (b[j].toNat:Int),?_,?_⟩,rfl,rfl,rfl⟩
  .simp [execOp,ho,Instr.index,hi,hb,asIntOf,hu,hj]
  .have:s.getD (Int.ofNat j).toNat 0=b[j]:=by
    subst hl;show b.data.toList.getD j 0=b[j];rw[Dn,D8 (by rw[<- Vj];exact hj)];obtain⟨⟨l⟩⟩:=b;rfl
   simp only[Dl.g];rw[show((j:Int)).toNat=(Int.ofNat j).toNat from rfl,this];exact .mkInt _ _
def ORl (O:Own) (Jr:List (Nat×Obj)) (m:Nat->Value) (w:World):Option Value->Option A->Prop
 | none,none=>True
 | some v,some x=>JC O Jr m w v x
 | _,_=>False
def XK {isS:Bool} {len cap:Nat} {lo hi:Option Value} {lo' hi':Option A} (hl:ORl O Jr m w lo lo') (hh:ORl O Jr m w hi hi') (hc:len<=cap) {r:List Bool×Nat×Nat} (h:AdI len lo' hi'=some r) (hok:J6 r.1) :
 (Instr.sliceBounds isS len cap lo hi none).run P w= .ok (r.2.1,r.2.2,cap) w/\r.2.1<=r.2.2/\r.2.2<=len:=by
 unfold AdI at h;split at h
 .injection h with h;subst h;cases lo<;>cases hi<;>simp [ORl]at hl hh;simp [Instr.sliceBounds]
 .injection h with h;subst h;cases lo<;>cases hi<;>simp only[ORl]at hl hh;obtain⟨h1,h2⟩:=hok.cons;have h2:=h2.cons.1;simp at h1 h2;have hl:=hl.int;rename_i q _ _ _;obtain⟨j,rfl⟩:=EU h1;have:j<=len:=by simpa using h2
  simp [Instr.sliceBounds,Instr.sliceBound,hl,asIntOf,this]
 .injection h with h;subst h;cases lo<;>cases hi<;>simp only[ORl]at hl hh;obtain⟨h1,h2⟩:=hok.cons;have h2:=h2.cons.1;simp at h1 h2;have hh:=hh.int;rename_i q _ _ _;obtain⟨j,rfl⟩:=EU h1;have:j<=len:=by simpa using h2
  have h3:j<=cap:=by omega
  simp [Instr.sliceBounds,Instr.sliceBound,hh,asIntOf,h3,this]
 .injection h with h;subst h;cases lo<;>cases hi<;>simp only[ORl]at hl hh;obtain⟨h1,h2⟩:=hok.cons;obtain⟨h2,h3⟩:=h2.cons;have h3:=h3.cons.1;simp at h1 h2 h3;have hl:=hl.int;have hh:=hh.int;rename_i p _ q _ _ _;obtain⟨j,rfl⟩:=EU h1;obtain⟨i,rfl⟩:=EU (Int.le_trans h1 h2);have h4:i<=len:=by simpa using h3
  have h5:j<=i:=by simpa using h2
  have h6:i<=cap:=by omega
  simp [Instr.sliceBounds,Instr.sliceBound,hl,hh,asIntOf,h4,h5,h6]
 .cases h
theorem Ada (s:ByteArray) (i j:Nat):(s.extract i j).data.toList=J4 s.data.toList i j:=by simp [J4,ByteArray.data_extract,I9]
end
section
variable {P:Program} {C:Ctx} {O:Own} {Jr:List (Nat×Obj)} {m:Nat->Value} {a:Act} {w:World} {o:Oper} {fet:Fet}
def J5.cut {v:Value} {q:Sl} (h:J5 O w v (.sl q)) (l r:Nat) (hlr:l<=r) (hr:r<=q.es.length) :
 ∃ ad n c,v= .slice ad n c/\n=q.es.length/\n<=c/\(∀ cap',cap'=c->J5 O w (.slice (if cap'=l then ad else ad.map (·.add (l*q.sz))) (r - l) (cap' - l)) (.sl ⟨q.t,J4 q.xs l r⟩)):=by
 cases h with
 | nil =>
  have:r=0:=by simpa [Sl.es]using hr
  subst this;have:l=0:=by omega
  subst this;refine⟨none,0,0,rfl,rfl,DD _,λcap' hc=> ?_⟩;subst hc;simp [J4];exact .nil _
 | sl0 ad t =>
  have:r=0:=by simpa [Sl.es]using hr
  subst this;have:l=0:=by omega
  subst this;refine⟨some ad,0,0,rfl,rfl,DD _,λcap' hc=> ?_⟩;subst hc;simp [J4];exact .sl0 _ _
 | @sl b off cap _ vs hc hm hr' =>
  refine⟨_,_,_,rfl,rfl,hc,λcap' hc'=> ?_⟩;subst hc';have hes:(⟨q.t,J4 q.xs l r⟩:Sl).es=J4 q.es l r:=q.As6 l r;have hlen:(J4 q.es l r).length=r - l:=by simp [J4];omega
  have hget: ∀ i,i<r - l->(J4 q.es l r).getD i []=q.es.getD (l+i) []:=by intro i hi;all_goals grind[J4]
  have hlen':(⟨q.t,J4 q.xs l r⟩:Sl).es.length=r - l:=by rw[hes];exact hlen
  by_cases hcl:cap'=l
  .have h0:r - l=0:=by omega
   rw[Du hcl,<- hlen'];exact J5.sl (b:=b) (off:=off) (cap:=cap' - l) (λ_ _=>undef) (by omega) (λi j hi _=>absurd hi (by omega)) (λi j hi _=>absurd hi (by omega))
  .rw[Dt hcl];simp only[Option.map_some,Si];rw[<- hlen'];refine J5.sl (λi j=>vs (l+i) j) (by omega) (λi j hi hj=> ?_) (λi j hi hj=> ?_)
   .have:=hm (l+i) j (by omega) hj;rw[Et]at this;rw[show off+l*q.sz+(i*(⟨q.t,J4 q.xs l r⟩:Sl).sz+j)=off+(l*q.sz+i*q.sz+j)from by show off+l*q.sz+(i*q.sz+j)=_;omega];exact this
   .rw[hes,hget i (by omega)];exact hr' (l+i) j (by omega) hj
def At8 {t:Nat} {x:Operand} {lo hi mx:Option Operand} (hC:TOk P C) (ho:o.op= .slice t x lo hi mx) (hmx:mx=none) {s:List UInt8} {lo' hi':Option A} (hx:JC O Jr m w (a.eval x) (.str s))
 (hlo:ORl O Jr m w (lo.map a.eval) lo') (hhi:ORl O Jr m w (hi.map a.eval) hi')
 (hok:J6 (MQ C fet t (.str s) lo' hi').ok):Pure P O Jr m a w o (MQ C fet t (.str s) lo' hi'):=by
 subst hmx;unfold MQ at hok ⊢;obtain⟨ti,ht,he⟩:=KF hok;rw[he]at hok ⊢;dsimp only at hok ⊢;obtain⟨r,hr,he⟩:=JU hok;rw[he]at hok ⊢;obtain⟨h1,h2⟩:=hok.cons;have hd:=Ai7 h1;have hu:=(hC.is ht).run w;rw[hd]at hu;obtain⟨b,hb,hl⟩:=hx.str;subst hl;obtain⟨h3,h4,h5⟩:=XK (isS:=false) (P:=P) (cap:=b.data.toList.length) hlo hhi (DD _) hr h2;refine⟨⟨.string (b.extract r.2.1 r.2.2),?_,.mkStr _ (Ada _ _ _)⟩,rfl,rfl,rfl⟩;rw[<- Vj]at h3;simp only[execOp,ho,Instr.sliceAt,DL,hu,Result.andThen_ok,Instr.slice,hb,Option.map_none,Option.isSome_none,Ib,G8,h3,Sem.run_pure]
def AvA {t:Nat} {x:Operand} {lo hi mx:Option Operand} (hC:TOk P C) (ho:o.op= .slice t x lo hi mx) (hmx:mx=none) {l:Sl} {lo' hi':Option A} (hx:JC O Jr m w (a.eval x) (.sl l))
 (hlo:ORl O Jr m w (lo.map a.eval) lo') (hhi:ORl O Jr m w (hi.map a.eval) hi')
 (hok:J6 (MQ C fet t (.sl l) lo' hi').ok):Pure P O Jr m a w o (MQ C fet t (.sl l) lo' hi'):=by
 subst hmx;unfold MQ at hok ⊢;obtain⟨ti,ht,he⟩:=KF hok;rw[he]at hok ⊢;dsimp only at hok ⊢;obtain⟨r,hr,he⟩:=JU hok;rw[he]at hok ⊢;obtain⟨e,hel,he⟩:=JU hok;rw[he]at hok ⊢;obtain⟨te,hte,he⟩:=KF hok;rw[he]at hok ⊢;obtain⟨h1,h2⟩:=hok.cons;have hd:=Ur hel;have hu:=(hC.is ht).run w;rw[hd]at hu;have hs:=(hC.is hte).OX w;have hsz:=Dx h1;rw[<- hsz]at hs;rw[<- Sl.KT]at hr;have hx':J5 O w (a.eval x) (.sl l):=hx;obtain⟨h4,h5⟩:r.2.1<=r.2.2/\r.2.2<=l.es.length:=(XK (isS:=true) (P:=P) hlo hhi (DD _) hr h2).2;obtain⟨ad,n,c,hv,hn,hc,hcut⟩:=hx'.cut r.2.1 r.2.2 h4 h5;obtain⟨h3,_,_⟩:=XK (isS:=true) (P:=P) (cap:=c) hlo hhi (by rw[<- hn];exact hc) hr h2;rw[<- hn]at h3;refine⟨⟨_,?_,hcut c rfl⟩,rfl,rfl,rfl⟩;simp only[execOp,ho,Instr.sliceAt,DL,hu,Result.andThen_ok,Instr.slice,hv,Option.map_none,h3,hs,Sem.run_pure]
def Avf {fet:Fet} {x:A} {p:Nat×Mp} (h:mp? fet x=some p):x= .own p.1/\J3 fet p.1=some (.mp p.2):=by
 unfold mp? at h;split at h
 .split at h
  .rename_i l hg;injection h with h;subst h;exact⟨rfl,hg⟩
  .cases h
 .cases h
def AyL (hF:FOk O Jr m w fet) {x:A} {v:Value} {p:Nat×Mp} (hx:JC O Jr m w v x) (h:mp? fet x=some p) :
 J3 Jr p.1=some (.mp p.2)/\v=m p.1/\QD O w p.1 (m p.1) p.2:=by
 obtain⟨rfl,hg⟩:=Avf h;obtain⟨h1,h2⟩:=hF _ _ hg;have hc:JG O Jr m w v (.own p.1):=hx;have hc:=hc.2;rw[h1]at hc;exact⟨h1,hc,h2⟩
def QD.lists {q:Nat} {v:Value} {l:Mp} (h:QD O w q v l): ∃ r es ck,v= .map (some r)/\w.heap[r]? =some (.map es ck)/\O r 0=some q/\es.toList.length=l.l.length /\
 (∀(i:Nat) (e:MapEntry) (p:l.kt.Val×l.vt.Val),es.toList[i]? =some e->l.l[i]? =some p->zB O w e.key (Aml (l.kt.cells p.1))/\zB O w e.val (Aml (l.vt.cells p.2))):=by grind[QD,zB,Aml]
theorem Ayp {n e:Nat} {frz:Bool} {l:Sl} (hg:J3 fet n=some (.arr e frz l)):rd fet (.own n)=([],l):=by grind[J3,rd]
def Am7 {x:A} (hok:J6 (rd fet x).1):(∃ n e frz l,x= .own n/\J3 fet n=some (.arr e frz l)/\(rd fet x).2=l)\/(x= .Lt/\(rd fet x).2=default)\/ ∃ l,x= .sl l/\(rd fet x).2=l:=by
 cases x with
 | own n =>
  cases hg:J3 fet n with
  | none=>simp_all[rd,J3,J6]
  | some y =>
   cases y with
   | box cs=>simp_all[rd,J3,J6]
   | arr e frz l=>grind[Ayp,J6,rd,J3]
   | mp l=>simp_all[rd,J3,J6]
 | Lt=>exact .inr (.inl ⟨rfl,rfl⟩)
 | sl l=>exact .inr (.inr ⟨l,rfl,rfl⟩)
 | _=>simp_all[rd,J6,J3]
def Ayo {x:A} {v:Value} (hf:FOk O Jr m w fet) (hx:JC O Jr m w v x) (hok:J6 (rd fet x).1): ∃ ad c,v= .slice ad (rd fet x).2.xs.length c:=by
 rcases Am7 hok with ⟨n,e,frz,l,rfl,hg,hl⟩ | ⟨rfl,hl⟩ | ⟨l,rfl,hl⟩<;>rw[hl]
 .obtain⟨h1,_,h2⟩:=hx.own hf hg;rw[<- Sl.KT];rcases h2 with ⟨_,h3,h4⟩ | ⟨_,g,cap,cur,h4,_⟩;all_goals simp_all[at',FOk,JC,J6,rd]
 .exact⟨none,0,hx⟩
 .have hx':J5 O w v (.sl l):=hx;cases hx' with
  | nil=>exact⟨none,0,rfl⟩
  | sl0 ad=>exact⟨some ad,0,rfl⟩
  | sl=>grind[Sl.KT]
def AuX {c:Call} {t:Nat} {x:Operand} (hC:TOk P C) (hf:FOk O Jr m w fet) (ho:o.op= .call c) (hcal:c.callee= .builtin .len) (hargs:c.args= #[x]) (hty:c.argTypes.toList=[t]) {x':A} (hx:JC O Jr m w (a.eval x) x')
 (hok:J6 (Ahs C fet t x').ok):Pure P O Jr m a w o (Ahs C fet t x'):=by
 have hat:c.argTypes= #[t]:=by have:=congrArg List.toArray hty;simpa using this
 unfold Ahs at hok ⊢;obtain⟨ti,ht,he⟩:=KF hok;rw[he]at hok ⊢;have hu:=(hC.is ht).run w;split at hok
 .rename_i hd;rw[hd]at hu;obtain⟨s,hs,he⟩:=JU hok;rw[he]at hok ⊢;have:=AbE hs;subst this;obtain⟨b,hb,hl⟩:=hx.str;subst hl;refine⟨⟨.int .i64 b.size,?_,?_⟩,rfl,rfl,rfl⟩
  .simp [execOp,ho,resolve,hcal,hargs,hat,invoke,builtin,Builtin.len_,hu,hb,goInt]
  .rw[Vj];exact .mkInt _ _
 .rename_i n e hd;rw[hd]at hu;refine⟨⟨.int .i64 n,?_,.mkInt _ _⟩,rfl,rfl,rfl⟩;simp [execOp,ho,resolve,hcal,hargs,hat,invoke,builtin,Builtin.len_,hu,goInt]
 .rename_i e hd;rw[hd]at hu;split at hok
  .rename_i q k;obtain⟨cs,hb,he⟩:=JU hok;rw[he];have hc:JG O Jr m w (a.eval x) (.bsl q k):=hx;have hc:=hc.2;rw[(hf _ _ (Lj hb)).1]at hc;obtain⟨b,base,_,hv⟩:=hc;refine⟨⟨.int .i64 (k:Int),?_,.mkInt _ _⟩,rfl,rfl,rfl⟩;simp [execOp,ho,resolve,hcal,hargs,hat,invoke,builtin,Builtin.len_,hu,hv,goInt]
  .rename_i y hne;obtain⟨ad,cp,hv⟩:=Ayo hf hx hok;refine⟨⟨.int .i64 (rd fet x').2.xs.length,?_,.mkInt _ _⟩,rfl,rfl,rfl⟩;simp [execOp,ho,resolve,hcal,hargs,hat,invoke,builtin,Builtin.len_,hu,hv,goInt]
 .rename_i kt et hd;rw[hd]at hu;obtain⟨p,hp,he⟩:=JU hok;rw[he]at hok ⊢;obtain⟨_,hv,hM⟩:=AyL hf hx hp;obtain⟨r,es,ck,h1,h2,h3,h4,h5⟩:=hM.lists;have hsz:(es.size:Int)=(p.2.l.length:Int):=by rw[<- h4,Array.length_toList]
  refine⟨⟨.int .i64 (p.2.l.length:Int),?_,.mkInt _ _⟩,rfl,rfl,rfl⟩;have hg:(getObj r).run P w= .ok (.map es ck) w:=by simp [getObj,Sem.run,h2]
  simp [execOp,ho,resolve,hcal,hargs,hat,invoke,builtin,Builtin.len_,hu,hv,h1,hg,hsz,goInt]
 .exact(JJ hok).elim
def Alz {i:Nat} {x:Operand} (ho:o.op= .extract x i) {x':A} (hx:JC O Jr m w (a.eval x) x') (hok:J6 (uN i x').ok):Pure P O Jr m a w o (uN i x'):=by
 unfold uN at hok ⊢;obtain⟨l,hl,he⟩:=JU hok;rw[he]at hok ⊢;have:x'= .tup l:=by unfold Ay6 at hl;split at hl<;>simp_all
 subst this;obtain⟨vs,h1,h2,h3⟩:=hx;have hi:i<l.length:=by simpa [Dl.g,XB]using hok.cons.1
 refine⟨⟨vs.getD i undef,?_,(h3 i hi).toT⟩,rfl,rfl,rfl⟩;have:vs[i]? =some (vs.getD i undef):=by rw[Dv,En (by omega)];simp
 generalize vs.getD i undef=z at *
 simp only[execOp,ho,Instr.extract,h1,this,DL,Sem.run_pure,Result.andThen_ok]
end
section
variable {P:Program} {C:Ctx} {O:Own} {Jr:List (Nat×Obj)} {m:Nat->Value} {a:Act} {w:World} {o:Oper} {fet:Fet}
theorem getD_eq {vs:Array Value} {j:Nat} (h:j<vs.size:=by omega):vs[j]? =some (vs.getD j undef):=by simp_all
def Avp {t:Nat} {ti:TI} (hT:Xz P t ti) {vs:Array Value} {cs:List A} {off:Nat} (h1:vs.size=cs.length) (h2: ∀ j,j<cs.length->JG O Jr m w (vs.getD j undef) (cs.getD j .undef))
 (h3:off+ti.cs.length<=cs.length) (h4:0<ti.cs.length): ∃ v,(part t vs off).run P w= .ok v w/\T1 O Jr m w v (vW ti cs off):=by
 unfold part vW;simp only[DL,hT.AmU,Result.andThen_ok];cases hg:ti.agg with
 | true =>
  refine⟨.agg (vs.extract off (off+ti.cs.length)),by simp [hT.OX],_,rfl,by simp;omega,λj hj=> ?_⟩;simp only[D9,DU]at hj;have hb:=h2 (off+j) (by omega);have e1:(vs.extract off (off+ti.cs.length)).getD j undef=vs.getD (off+j) undef:=by rw[Dv,Dv,Array.getElem?_extract];rw[A0h]
  all_goals grind[JG,T1,vW]
 | false =>
  have hb:=h2 off (by omega);refine⟨vs.getD off undef,?_,?_⟩
  .have:=getD_eq (vs:=vs) (j:=off);generalize vs.getD off undef=z at *
   simp [this]
  .simp only[cond_false];generalize cs.getD off .undef=c at *
   cases c<;>first | exact hb | exact hb.elim
def Adm {d:TypeDesc} {f:Nat} {p:Nat×TI} (h:AfZ C d f=some p): ∃ fs x,d= .struct fs/\fs[f]? =some x/\x.offset=p.1/\C.T x.type=some p.2:=by unfold AfZ at h;all_goals grind[split]
def Aqh {t f:Nat} {x:Operand} (hC:TOk P C) (ho:o.op= .field t x f) {x':A} (hx:JC O Jr m w (a.eval x) x') (hok:J6 (Afn C t f x').ok):Pure P O Jr m a w o (Afn C t f x'):=by
 unfold Afn at hok ⊢;obtain⟨ti,ht,he⟩:=KF hok;rw[he]at hok ⊢;clear he;obtain⟨p,hp,he⟩:=JU hok;rw[he]at hok ⊢;clear he;obtain⟨cs,hcs,he⟩:=JU hok;rw[he]at hok ⊢;clear he;obtain⟨fs,fx,hd,hfx,hoff,htf⟩:=Adm hp;have:x'= .agg cs:=by unfold AxB at hcs;split at hcs<;>simp_all
 subst this;obtain⟨vs,h1,h2,h3⟩:=hx;obtain⟨h4,h5⟩:=hok.cons;have h5:=h5.cons.1;have h4:=DR h4;have h5:0<p.2.cs.length:=by simpa [EF]using h5
 have hu:=(hC.is ht).run w;rw[hd]at hu;obtain⟨v,hv,hr⟩:=Avp (off:=p.1) (hC.is htf) h2 h3 h4 h5;refine⟨⟨v,?_,hr.toT⟩,rfl,rfl,rfl⟩;simp [execOp,ho,Instr.field,hu,hfx,h1,asAgg,hoff,hv]
def Auj {x':A} {v:Value} {off n:Nat} (hf:FOk O Jr m w fet) (hx:JC O Jr m w v x') (hok:J6 (ZO off n fet x').ok) :
 ∃ b k,v= .pointer (some (at' b k))/\JC O Jr m w (.pointer (some (at' b (k+off)))) (ZO off n fet x').val/\(ZO off n fet x').new=[]/\(ZO off n fet x').upd=[]/\(ZO off n fet x').del=[]:=by
 unfold ZO at hok ⊢;split at hok
 .obtain⟨cs,hcs,he⟩:=JU hok;rw[he]at hok ⊢;clear he;rename_i q p;obtain⟨b,base,h1,h2,h3⟩:=hx.ptr hf (Lj hcs);refine⟨b,base+p,h2,?_,rfl,rfl,rfl⟩;have hg:=(hf _ _ (Lj hcs)).1;show JG O Jr m w _ (.ptr q (p+off));simp only[JG,hg,Option.map_some,Obj.shp];exact⟨rfl,b,base,h1,by rw[EE]⟩
 .rename_i cs;obtain⟨b,k,h1,h2⟩:=(show JG O Jr m w v (.elt cs)from hx)
  refine⟨b,k,h1,?_,rfl,rfl,rfl⟩;refine⟨b,k+off,rfl,λj hj=> ?_⟩;simp only[DU]at hj;have:=h2 (off+j) (by omega);rw[EE];all_goals simp_all[FOk,JC,J6,ZO,at']
 .rename_i q i p;obtain⟨r,hr,he⟩:=JU hok;rw[he]at hok ⊢;clear he;have hi:i<r.l.es.length:=by rw[Sl.KT];simpa [Dl.g]using hok.cons.1
  have hx':JG O Jr m w v (.Ku q i p):=hx;have hg:=(hf _ _ (NP hr)).1;simp only[JG,hg,Option.map_some,Obj.shp]at hx';obtain⟨g,n',cap,h1,h2⟩:=hx'.2 hi;refine⟨g,_,h2,?_,rfl,rfl,rfl⟩;show JG O Jr m w _ (.Ku q i (p+off));simp only[JG,hg,Option.map_some,Obj.shp];refine⟨rfl,λ_=> ?_⟩;exact⟨g,n',cap,h1,by rw[EE]⟩
 .exact(JJ hok).elim
def Ahd {t f:Nat} {x:Operand} (hC:TOk P C) (hf:FOk O Jr m w fet) (ho:o.op= .fieldAddr t x f) {x':A} (hx:JC O Jr m w (a.eval x) x') (hok:J6 (Wq C fet t f x').ok):Pure P O Jr m a w o (Wq C fet t f x'):=by
 unfold Wq at hok ⊢;obtain⟨ti,ht,he⟩:=KF hok;rw[he]at hok ⊢;clear he;obtain⟨p,hp,he⟩:=JU hok;rw[he]at hok ⊢;clear he;obtain⟨fs,fx,hd,hfx,hoff,htf⟩:=Adm hp;obtain⟨h1,h2⟩:=hok.cons;have h1:0<p.2.cs.length:=by simpa [EF]using h1
 obtain⟨b,k,h3,h4,h5,h6,h7⟩:=Auj hf hx h2;have hu:=(hC.is ht).run w;rw[hd]at hu;have hs:=(hC.is htf).OX w;refine⟨⟨_,?_,h4⟩,h5,h6,h7⟩;have h0:p.2.cs.length≠0:=by omega
 simp [execOp,ho,Instr.fieldAt,hu,hfx,h3,Instr.sureAddr,fieldPlace,hs,h0,Si,hoff]
def Ahn {t:Nat} {x i:Operand} (hC:TOk P C) (hf:FOk O Jr m w fet) (ho:o.op= .indexAddr t x i) {x' i':A} (hx:JC O Jr m w (a.eval x) x') (hi:JC O Jr m w (a.eval i) i')
 (hok:J6 (fU C fet t x' i').ok):Pure P O Jr m a w o (fU C fet t x' i'):=by
 unfold fU at hok ⊢;split at hok
 .rename_i q i0 off0;obtain⟨n,hn,he⟩:=JU hok;rw[he]at hok ⊢;clear he;obtain⟨k,rfl⟩:=VM hn;have hi:=hi.int;obtain⟨ti,ht,he⟩:=KF hok;rw[he]at hok ⊢;clear he;obtain⟨p,hp,he⟩:=JU hok;rw[he]at hok ⊢;clear he;obtain⟨te,hte,he⟩:=KF hok;rw[he]at hok ⊢;clear he;obtain⟨r,hr,he⟩:=JU hok;rw[he]at hok ⊢;clear he;obtain⟨h1,h2⟩:=hok.cons;obtain⟨h2,h3⟩:=h2.cons;obtain⟨h3,h4⟩:=h3.cons;obtain⟨h4,h5⟩:=h4.cons;obtain⟨h5,h6⟩:=h5.cons;have h6:=h6.cons.1;have h1:=Dx h1;have h2:=Dx h2;have h3:=Dx h3;subst h1;subst h2;have h4:0<=n:=by simpa using h4
  have h5:n<(p.1:Int):=by simpa using h5
  have h6:n.toNat<r.l.es.length:=by rw[Sl.KT];simpa using h6
  have hx':JG O Jr m w (a.eval x) (.Ku q 0 0):=hx;have hg:=(hf _ _ (NP hr)).1;simp only[JG,hg,Option.map_some,Obj.shp]at hx';obtain⟨g,n',cap,e1,e2⟩:=hx'.2 (by omega)
  have hd:ti.d= .array p.1 p.2:=by
   unfold sU at hp;split at hp
   .rename_i hd;injection hp with hp;rw[hd,<- hp]
   .cases hp
  have hu:=(hC.is ht).run w;rw[hd]at hu;have hs:=(hC.is hte).OX w;refine⟨⟨.pointer (some (at' g (n.toNat*te.cs.length))),?_,?_⟩,rfl,rfl,rfl⟩
  .have e2':a.eval x= .pointer (some (at' g 0)):=by rw[e2];simp
   simp [execOp,ho,Instr.indexAt,hi,asIntOf,hu,e2',Instr.sureAddr,h4,h5,hs,Si]
  .show JG O Jr m w _ (.Ku q n.toNat 0);simp only[JG,hg,Option.map_some,Obj.shp];refine⟨rfl,λ_=>⟨g,n',cap,e1,by rw[h3];rfl⟩⟩
 .rename_i cs;obtain⟨n,hn,he⟩:=JU hok;rw[he]at hok ⊢;clear he;obtain⟨k,rfl⟩:=VM hn;have hi:=hi.int;obtain⟨m',e,kk,te,he,hu,hte,hcs,_⟩:=AkS hC hok;rw[he]at hok ⊢;obtain⟨h1,h2,h3,h4,h5⟩:=Amj hok;obtain⟨b,off,g1,g2⟩:=(show JG O Jr m w _ (.elt cs)from hx)
  have hs:=(hC.is hte).OX w;have hrun:=Ew hu w;refine⟨⟨.pointer (some (at' b (off+n.toNat))),?_,?_⟩,rfl,rfl,rfl⟩
  .simp [execOp,ho,Instr.indexAt,hi,asIntOf,hrun,g1,Instr.sureAddr,h2,h3,hs,hcs,Si]
  .refine⟨b,off+n.toNat,rfl,λj hj=> ?_⟩;have:j=0:=by simpa using hj
   subst this;obtain⟨a1,u,a2,a3⟩:=g2 n.toNat h4;rw[h5]at a3;exact⟨a1,u,a2,a3⟩
 .rename_i y hne _;clear hne;obtain⟨n,hn,he⟩:=JU hok;rw[he]at hok ⊢;clear he;obtain⟨k,rfl⟩:=VM hn;have hi:=hi.int;unfold elemOf at hok ⊢;obtain⟨ti,ht,he⟩:=KF hok;rw[he]at hok ⊢;clear he;obtain⟨e,hel,he⟩:=JU hok;rw[he]at hok ⊢;clear he;obtain⟨te,hte,he⟩:=KF hok;rw[he]at hok ⊢;clear he;have hu:=(hC.is ht).run w;rw[Ur hel]at hu;have hs:=(hC.is hte).OX w;have run: ∀ b off len cap,a.eval x= .slice (some (at' b off)) len cap->0<=n->n<(len:Int)->(execOp a.eval o).run P w= .ok (.value (.pointer (some (at' b (off+n.toNat*te.cs.length))))) w:=by intro b off len cap h1 h2 h3;simp [execOp,ho,Instr.indexAt,hi,asIntOf,hu,h1,h2,h3,hs,Si]
  dsimp only at hok ⊢;split at hok
  .rename_i q _;obtain⟨r,hr,he⟩:=JU hok;rw[he]at hok;rw[he];clear he;obtain⟨h1,h2⟩:=hok.cons;obtain⟨h2,h3⟩:=h2.cons;have h3:=h3.cons.1;have h1:=Dx h1;have h2:0<=n:=by simpa using h2
   have h3:n<(r.l.es.length:Int):=by rw[Sl.KT];simpa using h3
   obtain⟨h4,_,h5⟩:=hx.own hf (NP hr);have hg:=(hf _ _ (NP hr)).1;rcases h5 with ⟨_,h6,_⟩ | ⟨_,g,cap,cur,h6,_⟩
   .rw[h6]at h3;simp at h3;omega
   .refine⟨⟨_,run g 0 _ cap (by rw[h4,h6]) h2 h3,?_⟩,rfl,rfl,rfl⟩;show JG O Jr m w _ (.Ku q n.toNat 0);simp only[JG,hg,Option.map_some,Obj.shp];refine⟨rfl,λ_=> ?_⟩;exact⟨g,_,_,h6,by rw[<- h1];simp⟩
  .rename_i l _;obtain⟨h1,h2⟩:=hok.cons;obtain⟨h0,h2⟩:=h2.cons;obtain⟨h2,h3⟩:=h2.cons;have h3:=h3.cons.1;have h1:=Dx h1;have h2:0<=n:=by simpa using h2
   have h3:n<(l.es.length:Int):=by rw[Sl.KT];simpa using h3
   have hx':J5 O w (a.eval x) (.sl l):=hx;generalize hv:a.eval x=v at hx';cases hx' with
   | nil=>simp [Sl.es]at h3;omega
   | sl0=>simp [Sl.es]at h3;omega
   | @sl b off cap _ vs hc hm hr =>
    refine⟨⟨_,run b off _ cap hv h2 h3,?_⟩,rfl,rfl,rfl⟩;have hj:n.toNat<l.es.length:=by omega
    refine⟨b,_,rfl,λj hjj=> ?_⟩;rw[Sl.ArV]at hjj;obtain⟨h4,h5⟩:=hm n.toNat j hj hjj;rw[<- h1,EE];rw[l.at_eq (by rw[<- Sl.KT];exact hj)];exact⟨h4,_,h5,hr n.toNat j hj hjj⟩
  .rename_i q k _;obtain⟨cs,hb,he⟩:=JU hok;rw[he]at hok;rw[he];clear he;obtain⟨h1,h2⟩:=hok.cons;obtain⟨h2,h3⟩:=h2.cons;have h3:=h3.cons.1;have h1:=Dx h1;have h2:0<=n:=by simpa using h2
   rw[EF]at h3;have hg:=(hf _ _ (Lj hb)).1;have hc:JG O Jr m w (a.eval x) (.bsl q k):=hx;have hc:=hc.2;rw[hg]at hc;obtain⟨b,base,e1,e2⟩:=hc;refine⟨⟨_,run b base _ k e2 h2 (by omega),?_⟩,rfl,rfl,rfl⟩;show JG O Jr m w _ (.ptr q n.toNat);refine⟨rfl,?_⟩;rw[hg,h1,F6];exact⟨b,base,e1,rfl⟩
  .exact(JJ hok).elim
def Aj4 {x:Operand} (hf:FOk O Jr m w fet) (ho:o.op= .nilCheck x) {x':A} (hx:JC O Jr m w (a.eval x) x') (hok:J6 (XQ fet x').ok):Pure P O Jr m a w o (XQ fet x'):=by
 unfold XQ at hok ⊢;split at hok
 .obtain⟨cs,hcs,he⟩:=JU hok;rw[he]at hok ⊢;clear he;obtain⟨b,base,h1,h2,h3⟩:=hx.ptr hf (Lj hcs);refine⟨⟨a.eval x,?_,hx⟩,rfl,rfl,rfl⟩;rw[h2];simp [execOp,ho,h2]
 .exact(JJ hok).elim
def J5.one {u:Value} {c:A} (h:J5 O w u c):u.oneCell'=true:=by
 induction h<;>first | rfl | assumption
def Aat {k:CK} {u:Value} {c:A} (h:J5 O w u c) (hok:J6 (force k c).1):JG O Jr m w u (force k c).2:=by
 cases k with
 | bool=>have:=hok.cons.1;cases h<;>simp [A.isB]at this;exact .bool _
 | int k =>have:=hok.cons.1;cases h<;>simp [A.isI]at this;have:=Rf this;subst this;exact .int _ _
 | str=>have:=hok.cons.1;cases h<;>simp [A.isS]at this;exact .str _
 | sl e sz =>
  have:=hok.cons.1;cases h with
  | nil t=>exact .nil _
  | sl0 a t=>exact J5.sl0 _ _
  | sl vs h1 h2 h3=>exact .sl vs h1 h2 h3
  | _=>simp [A.Ahp]at this
 | ptr=>have:=hok.cons.1;cases h<;>simp [A.qR]at this;exact .Mc
 | fn =>
  have:=hok.cons.1;cases h<;>simp [A.isFn]at this
  .exact J5.fn _
  .exact J5.vM
 | mp _ _=>have:=hok.cons.1;cases this
 | bx _=>have:=hok.cons.1;cases this
 | sln e sz =>
  have:=hok.cons.1;cases h with
  | sln h hn=>exact .sln h hn
  | _=>simp [A.Aca]at this
 | oth=>exact h.one
def Afr (cs:List A) (ks:List CK): ∀ off,(forces cs ks off).2.length=ks.length:=by
 induction ks with
 | nil=>intro off;rfl
 | cons k ks ih=>grind[forces]
def Aqn (cs:List A) (ks:List CK): ∀(off:Nat) (f:Nat->Value),(∀ j,j<ks.length->J5 O w (f j) (cs.getD (off+j) .undef))->J6 (forces cs ks off).1 ->
 ∀ j,j<ks.length->JG O Jr m w (f j) ((forces cs ks off).2.getD j .undef):=by
 induction ks with
 | nil=>intro off f _ _ j hj;simp at hj
 | cons k ks ih =>
  intro off f h hok j hj;obtain⟨h1,h2⟩:=hok.append;cases j with
  | zero=>exact Aat (by have:=h 0 (by simp);simpa using this) h1
  | succ j =>have:=ih (off+1) (λj=>f (j+1)) (λj hj=>by have:=h (j+1) (by simpa using hj);rwa [show off+(j+1)=off+1+j from by omega]at this) h2 j (by simpa using hj);simpa [forces]using this
def Xq {t:Nat} {ti:TI} (hT:Xz P t ti) {b k:Nat} (f:Nat->Value) (hc: ∀ j,j<ti.cs.length->w.cell? (at' b (k+j))=some (f j)) (h0:ti.agg=false->0<ti.cs.length) :
 (loadVar t (at' b k)).run P w= .ok (if ti.agg then .agg ((List.range ti.cs.length).map f).toArray else f 0) w:=by
 unfold loadVar;simp only[DL,hT.AmU,Result.andThen_ok];cases hg:ti.agg with
 | true =>have:=run_loadCells (P:=P) w (at' b k) ti.cs.length f (λj hj=>by rw[Si];exact hc j hj);simp [hT.OX,this]
 | false =>have:=hc 0 (h0 hg);all_goals simp_all[at']
def AiH {α :Type} {l:List α} {k: α} (h:one? l=some k):l=[k]:=by unfold one? at h;split at h<;>simp_all
def Aa6 {t:Nat} {ti:TI} (hT:Xz P t ti) {b k off:Nat} {cs:List A} {pre:List Bool} (hc: ∀ j,j<ti.cs.length-> ∃ u,w.cell? (at' b (k+j))=some u/\J5 O w u (cs.getD (off+j) .undef))
 (hok:J6 (Xp ti cs off pre).ok): ∃ v,(loadVar t (at' b k)).run P w= .ok v w/\JC O Jr m w v (Xp ti cs off pre).val/\(Xp ti cs off pre).new=[]/\(Xp ti cs off pre).upd=[]/\(Xp ti cs off pre).del=[]:=by
 have hf: ∀ j,j<ti.cs.length->w.cell? (at' b (k+j))=some ((w.cell? (at' b (k+j))).getD undef)/\J5 O w ((w.cell? (at' b (k+j))).getD undef) (cs.getD (off+j) .undef):=by intro j hj;obtain⟨u,h1,h2⟩:=hc j hj;rw[h1];exact⟨rfl,h2⟩
 unfold Xp at hok ⊢;cases hg:ti.agg with
 | true =>
  rw[hg]at hok;simp only[cond_true]at hok ⊢;obtain⟨_,h2⟩:=hok.append;refine⟨_,Xq hT (λj=>(w.cell? (at' b (k+j))).getD undef) (λj hj=>(hf j hj).1) (by simp [hg]),?_,rfl,rfl,rfl⟩;rw[hg];refine⟨_,rfl,by simp [Afr],λj hj=> ?_⟩;rw[Afr]at hj;have:=Aqn (Jr:=Jr) (m:=m) cs ti.cs off (λj=>(w.cell? (at' b (k+j))).getD undef) (λj hj=>(hf j hj).2) h2 j hj;have e:(((List.range ti.cs.length).map λj=>(w.cell? (at' b (k+j))).getD undef).toArray).getD j undef=(w.cell? (at' b (k+j))).getD undef:=by rw[Dv];simp [hj]
  rw[e];exact this
 | false =>
  rw[hg]at hok;simp only[cond_false]at hok ⊢;obtain⟨kk,hk,he⟩:=JU hok;rw[he]at hok ⊢;clear he;have hone:=AiH hk;obtain⟨_,h2⟩:=hok.append;have h0:0<ti.cs.length:=by rw[hone];simp
  refine⟨_,Xq hT (λj=>(w.cell? (at' b (k+j))).getD undef) (λj hj=>(hf j hj).1) (λ_=>h0),?_,rfl,rfl,rfl⟩;rw[hg];have:=(hf 0 h0).2;exact(Aat this h2).toT
def Ai6 {l:List CK} (h:Af1 l=true):l=[.ptr]:=by grind[Af1,split]
def Aa7 {t:Nat} {x:Operand} (hC:TOk P C) (hf:FOk O Jr m w fet) (ho:o.op= .load t x) {x':A} (hx:JC O Jr m w (a.eval x) x') (hok:J6 (Xr C fet t x').ok):Pure P O Jr m a w o (Xr C fet t x'):=by
 unfold Xr at hok ⊢;obtain⟨ti,ht,he⟩:=KF hok;rw[he]at hok ⊢;clear he;have hT:=hC.is ht;have run: ∀ b k v,a.eval x= .pointer (some (at' b k))->(loadVar t (at' b k)).run P w= .ok v w->(execOp a.eval o).run P w= .ok (.value v) w:=by intro b k v h1 h2;simp [execOp,ho,Instr.loadAt,Instr.sureAddr,h1,h2]
 split at hok
 .obtain⟨cs,hcs,he⟩:=JU hok;rw[he]at hok;rw[he];clear he;rename_i q off;obtain⟨b,base,h1,h2,h3⟩:=hx.ptr hf (Lj hcs);obtain⟨h4,h5⟩:=hok.cons;have h4:=DR h4;have h5:0<ti.cs.length:=by simpa [EF]using h5.cons.1
  have hc: ∀ j,j<ti.cs.length->w.cell? (at' b (base+off+j))=some ((w.cell? (at' b (base+off+j))).getD undef)/\JG O Jr m w ((w.cell? (at' b (base+off+j))).getD undef) (cs.getD (off+j) .undef):=by intro j hj;obtain⟨_,_,u,h6,h7⟩:=h3 (off+j) (by omega);rw[EE,h6];exact⟨rfl,h7⟩
  have hl:=Xq hT (λj=>(w.cell? (at' b (base+off+j))).getD undef) (λj hj=>(hc j hj).1) (λ_=>h5);refine⟨⟨_,run _ _ _ h2 hl,?_⟩,rfl,rfl,rfl⟩;simp only[Dl.g,vW];cases hg:ti.agg with
  | true =>
   refine⟨_,rfl,by simp;omega,λj hj=> ?_⟩;simp only[D9,DU]at hj;have e:(((List.range ti.cs.length).map λj=>(w.cell? (at' b (base+off+j))).getD undef).toArray).getD j undef=(w.cell? (at' b (base+off+j))).getD undef:=by rw[Dv];simp [show j<ti.cs.length from by omega]
   all_goals grind[TOk,FOk,JC,J6,Xr]
  | false=>exact(hc 0 h5).2.toT
 .rename_i cs;obtain⟨b,k,h1,h2⟩:=(show JG O Jr m w _ (.elt cs)from hx)
  have hle:ti.cs.length<=cs.length:=by
   have hA:J6 [Nat.ble ti.cs.length cs.length]:=by
    unfold Xp at hok;cases hg:ti.agg with
    | true=>rw[hg]at hok;exact(hok.append).1
    | false =>rw[hg]at hok;obtain⟨kk,hk,he⟩:=JU hok;simp only[cond_false]at hok;rw[he]at hok;exact(hok.append).1
   exact DR hA.cons.1
  obtain⟨v,h3,h4,h5,h6,h7⟩:=Aa6 (Jr:=Jr) (m:=m) (k:=k) (off:=0) hT (λj hj=>by obtain⟨_,u,h8,h9⟩:=h2 j (by omega);exact⟨u,h8,by simpa using h9⟩) hok;exact⟨⟨v,run _ _ _ h1 h3,h4⟩,h5,h6,h7⟩
 .rename_i k q;obtain⟨h1,h2⟩:=hok.cons;obtain⟨h2,h3⟩:=h2.cons;have h3:ti.agg=false:=by simpa using h3.cons.1
  have h1:=Dx h1;subst h1;have h2:=Ai6 h2;obtain⟨_,p,hp1,⟨b,j,e1,e2,e3⟩,hc⟩:=(show JG O Jr m w (a.eval x) (.clo 0 q)from hx)
  have hl:=Xq (P:=P) (w:=w) hT (b:=b) (k:=j) (λ_=>p) (λi hi=>by
   have:i=0:=by rw[h2]at hi;simpa using hi
   subst this;exact e3) (λ_=>by rw[h2];decide)
  rw[h3]at hl;refine⟨⟨_,run _ _ _ e1 hl,?_⟩,rfl,rfl,rfl⟩;exact⟨hp1,hc⟩
 .rename_i q i off;obtain⟨r,hr,he⟩:=JU hok;rw[he]at hok;rw[he];clear he;cases hrow:isRow ti r.l i off with
  | true =>
   rw[hrow]at hok;simp only[cond_true]at hok ⊢;simp only[isRow,Dw]at hrow;obtain⟨⟨⟨r4,r1⟩,r3⟩,r2⟩:=hrow;have r1:=Dx r1;have r2:=Dx r2;have r3:=Dx r3;have r4:1<ti.cs.length:=by simpa [EF]using r4
   subst r2;subst r3
   have hA:J6 [Nat.ble ti.cs.length r.l.xs.length,true]:=by
    unfold Xp at hok;cases hg:ti.agg with
    | true=>rw[hg]at hok;exact(hok.append).1
    | false =>rw[hg]at hok;obtain⟨kk,hk,he⟩:=JU hok;simp only[cond_false]at hok;rw[he]at hok;exact(hok.append).1
   have hle':=DR hA.cons.1;have hle:ti.cs.length<=r.l.es.length:=by rw[Sl.KT];exact hle'
   obtain⟨hg,hsz,hO⟩:=hf _ _ (NP hr);have hx':JG O Jr m w (a.eval x) (.Ku q 0 0):=hx;simp only[JG,hg,Option.map_some,Obj.shp]at hx';obtain⟨g,n',cap,h1,h2⟩:=hx'.2 (by omega);rcases hO with ⟨_,h3,_⟩ | ⟨_,g',cap',cur,h3,h4,h5,h6,h7,h8,_⟩
   .rw[h3,List.length_nil]at hle;omega
   .rw[h1]at h3;injection h3 with h3 h3' h3'';injection h3 with h3;injection h3 with h3;subst h3
    obtain⟨v,h13,h14,h15,h16,h17⟩:=Aa6 (Jr:=Jr) (m:=m) (O:=O) (b:=g) (k:=0*r.l.sz+0) (off:=0) (cs:=wP r.l ti.cs.length) hT (λj hj=>by
     obtain⟨u,h9,h10⟩:=h8 j 0 (by omega) (by omega);have e:(wP r.l ti.cs.length).getD (0+j) .undef=(r.l.es.getD j []).getD 0 .undef:=by rw[<- r.l.at_eq (EX hj hle')];simp [wP,Dn,hj]
     rw[e];refine⟨u,?_,h10⟩;rw[h4.cell,r1,F6,Nat.add_zero]at *
     simpa using h9) hok
    exact⟨⟨v,run _ _ _ h2 h13,h14⟩,h15,h16,h17⟩
  | false =>
  rw[hrow]at hok;simp only[cond_false]at hok ⊢
  have hA:J6 [Nat.ble (off+ti.cs.length) r.l.sz,decide (i<r.l.xs.length)]:=by
   unfold Xp at hok;cases hg:ti.agg with
   | true=>rw[hg]at hok;exact(hok.append).1
   | false =>rw[hg]at hok;obtain⟨kk,hk,he⟩:=JU hok;simp only[cond_false]at hok;rw[he]at hok;exact(hok.append).1
  obtain⟨hle,hi⟩:=hA.cons;have hle:=DR hle;have hi':i<r.l.xs.length:=by simpa using hi.cons.1
  have hi:i<r.l.es.length:=by rw[Sl.KT];exact hi'
  obtain⟨hg,hsz,hO⟩:=hf _ _ (NP hr);have hx':JG O Jr m w (a.eval x) (.Ku q i off):=hx;simp only[JG,hg,Option.map_some,Obj.shp]at hx';obtain⟨g,n',cap,h1,h2⟩:=hx'.2 hi;rcases hO with ⟨_,h3,_⟩ | ⟨_,g',cap',cur,h3,h4,h5,h6,h7,h8,_⟩
  .rw[h3]at hi;simp at hi
  .rw[h1]at h3;injection h3 with h3 h3' h3'';injection h3 with h3;injection h3 with h3;subst h3;obtain⟨v,h13,h14,h15,h16,h17⟩:=Aa6 (Jr:=Jr) (m:=m) (O:=O) (b:=g) (k:=i*r.l.sz+off) (off:=off) (cs:=r.l.at i) hT (λj hj=>by obtain⟨u,h9,h10⟩:=h8 i (off+j) hi (by omega);rw[r.l.at_eq hi'];refine⟨u,?_,h10⟩;rw[h4.cell,EE];exact h9) hok;exact⟨⟨v,run _ _ _ h2 h13,h14⟩,h15,h16,h17⟩
 .exact(JJ hok).elim
end
section
variable {P:Program} {C:Ctx} {O:Own} {Jr:List (Nat×Obj)} {m:Nat->Value} {a:Act} {w:World} {o:Oper} {fet:Fet}
def Ag3 (w:World) (O:Own) (v:Value) (l:Sl):Prop :=
 (∃ ad,v= .slice ad 0 0/\l.xs=[])\/ ∃ b k c,v= .slice (some (at' b k)) l.es.length c/\l.es.length<=c /\
   ∀ i j,i<l.es.length->j<l.sz-> ∃ u,w.cell? (at' b (k+(i*l.sz+j)))=some u/\J5 O w u ((l.es.getD i []).getD j .undef)
def Ag1 {l:Sl} (h:l.es=[]):l.xs=[]:=by simp_all[Sl.es]
def J5.ofNil {l:Sl} (h:l.es=[]):J5 O w (.slice none 0 0) (.sl l):=by obtain⟨t,xs⟩:=l;have:xs=[]:=Ag1 h;subst this;exact .nil t
theorem Ayq {x:A} {v:Value} (hf:FOk O Jr m w fet) (hx:JC O Jr m w v x) (hok:J6 (rd fet x).1):Ag3 w O v (rd fet x).2:=by
 rcases Am7 hok with ⟨n,e,frz,l,rfl,hg,hl⟩ | ⟨rfl,hl⟩ | ⟨l,rfl,hl⟩<;>rw[hl]
 .obtain⟨h1,h0,h2⟩:=hx.own hf hg;rcases h2 with ⟨h3,h4,h5⟩ | ⟨h3,g,cap,cur,h4,h5,h6,h7,h8,h9,_⟩
  .exact .inl ⟨none,by rw[h1,h5],Ag1 h4⟩
  .refine .inr ⟨g,0,cap,by rw[h1,h4],h6,λi j hi hj=> ?_⟩;obtain⟨u,h10,h11⟩:=h9 i j hi hj;exact⟨u,by rw[DV,h5.cell];exact h10,h11⟩
 .exact .inl ⟨none,hx,rfl⟩
 .have hx':J5 O w v (.sl l):=hx;cases hx' with
  | nil=>exact .inl ⟨none,rfl,rfl⟩
  | sl0 ad=>exact .inl ⟨some ad,rfl,rfl⟩
  | @sl b off cap _ vs hc hm hr=>exact .inr ⟨b,off,cap,rfl,hc,λi j hi hj=>⟨vs i j,(hm i j hi hj).2,hr i j hi hj⟩⟩
def Apf {t:Ty} {x:A} {v:Value} (hf:FOk O Jr m w fet) (hx:JC O Jr m w v x) (hok:J6 (rdT fet t x).1):Ag3 w O v ⟨t,(rdT fet t x).2⟩:=by
 by_cases hn:x= .Lt
 .subst hn;exact .inl ⟨none,hx,rfl⟩
 .have hr:rdT fet t x=match (rd fet x).2.cast t with | some xs=>((rd fet x).1,xs) | none=>([false],[]):=by
   cases x<;>first | rfl | exact absurd rfl hn
  rw[hr]at hok ⊢;cases hc:(rd fet x).2.cast t with
  | none=>simp_all[Ty,FOk,JC,J6,rdT,Ag3]
  | some xs=>grind[Ayq,Sl.QK]
def AsN {n:Int} (h:isByte n=true):0<=n/\n<256:=by unfold isByte at h;simpa using h
def AlS {d:TypeDesc} (h:Af5 d=true):d= .int .u8:=by grind[Af5]
def Aaf {s t:Nat} {x:Operand} (hC:TOk P C) (hf:FOk O Jr m w fet) (ho:o.op= .convert s t x) {x':A} (hx:JC O Jr m w (a.eval x) x') (hok:J6 (Zt C fet s t x').ok) :
 Pure P O Jr m a w o (Zt C fet s t x'):=by
 unfold Zt at hok ⊢;obtain⟨ts,hts,he⟩:=KF hok;rw[he]at hok ⊢;clear he;obtain⟨tt,htt,he⟩:=KF hok;rw[he]at hok ⊢;clear he;have hus:=(hC.is hts).run w;have hut:=(hC.is htt).run w;split at hok
 .rename_i k j n hd;rw[hd]at hut;have h1:=hx.int;refine⟨⟨.int k (k.wrap n),?_,.mkInt _ _⟩,rfl,rfl,rfl⟩;simp only[execOp,ho,convert,DL,hus,hut,Result.andThen_ok,h1];cases ts.d<;>simp [Conv.intToInt]
 .rename_i l hd;rw[hd]at hut;obtain⟨b,hb,hl⟩:=hx.str;refine⟨⟨.string b,?_,.mkStr _ hl⟩,rfl,rfl,rfl⟩;simp only[execOp,ho,convert,DL,hus,hut,Result.andThen_ok,hb];cases ts.d<;>simp
 .exact(JJ hok).elim
 .rename_i y _ _ hd _ _;rw[hd]at hut;obtain⟨e,hel,he⟩:=JU hok;rw[he]at hok ⊢;clear he;obtain⟨te,hte,he⟩:=KF hok;rw[he]at hok ⊢;clear he;obtain⟨h1,h2⟩:=hok.cons;obtain⟨h2,h3⟩:=h2.append;have h3:=h3.cons.1;have hde:=AlS h1;have hes:=Ur hel;have hue:=(hC.is hte).d;rw[hde]at hue;have hus':=(hC.is hts).d;rw[hes]at hus';have hr:Ag3 w O (a.eval x) ⟨Tq,(rdB fet y).2⟩:=Apf (t:=Tq) hf hx h2;generalize hL:(rdB fet y).2=bs at *
  have hes:(⟨Tq,bs⟩:Sl).es.length=bs.length:=Sl.KT _;rcases hr with ⟨ad,hv,hn⟩ | ⟨b,k,c,hv,hc,hcell⟩
  .have hn:bs=[]:=hn;refine⟨⟨.string .empty,?_,.mkStr _ (by rw[hn];rfl)⟩,rfl,rfl,rfl⟩;cases ad with
   | none =>have:=run_convert_bytes_string (P:=P) w s t e none 0 0 hus' hue (by rw[(hC.is htt).d,hd]);simp only[execOp,ho,hv,DL,this];rfl
   | some ad =>have:=run_convert_bytes_back (P:=P) w s t e ad 0 [] hus' hue (by rw[(hC.is htt).d,hd]) (λj hj=>absurd hj (Iy j));simp only[List.length_nil]at this;simp only[execOp,ho,hv,DL,this];rfl
  .refine⟨⟨.string ⟨(List.map byteOf bs).toArray⟩,?_,.mkStr _ (by simp)⟩,rfl,rfl,rfl⟩
   have:=run_convert_bytes_back (P:=P) w s t e (at' b k) c (List.map byteOf bs) hus' hue (by rw[(hC.is htt).d,hd]) (λj hj=>by
    have hj':j<bs.length:=by simpa using hj
    obtain⟨u,h4,h5⟩:=hcell j 0 (by rw[hes];exact hj') (by show 0<1;omega);have hb:isByte (bs.getD j 0)=true:=by refine(DI.1 h3) _ ?_;rw[Dn,D8 hj'];simp
    obtain⟨h7,h8⟩:=AsN hb;have h6:(⟨Tq,bs⟩:Sl).es.getD j []=[A.int .u8 (bs.getD j 0)]:=by rw[<- Sl.at_eq _ hj'];rfl
    rw[h6]at h5;simp only[FW]at h5;have hu:u= .int .u8 (bs.getD j 0):=by cases h5;rfl
    have h4':w.cell? (at' b (k+(j*1+0)))=some u:=h4;rw[Si,show k+j=k+(j*1+0)from by omega,h4',hu];have:(List.map byteOf bs)[j]'hj=UInt8.ofNat (bs.getD j 0).toNat:=by rw[Hm,Dn,D8 hj'];rfl
    rw[this];have:((UInt8.ofNat (bs.getD j 0).toNat).toNat:Int)=bs.getD j 0:=by rw[FH];omega
    rw[this])
   simp only[D5]at this;rw[hes]at hv;simp only[execOp,ho,hv,DL,this];rfl
 .exact(JJ hok).elim
def Avd {c:Call} {x y:Operand} (ho:o.op= .call c) (hcal:c.callee= .builtin .min) (hargs:c.args= #[x,y]) {x' y':A} (hx:JC O Jr m w (a.eval x) x') (hy:JC O Jr m w (a.eval y) y')
 (hok:J6 (AqH x' y').ok):Pure P O Jr m a w o (AqH x' y'):=by
 unfold AqH at hok ⊢;split at hok
 .rename_i k p k' q;cases hk:A.kEq k k' with
  | false=>rw[hk]at hok;exact(JJ hok).elim
  | true =>
   have:=Rf hk;subst this;refine⟨⟨.int k (if q<p then q else p),?_,?_⟩,rfl,rfl,rfl⟩
   .have h:=run_min_int2 (P:=P) (w:=w) c.argTypes o.type k k p q;simp [execOp,ho,resolve,hcal,hargs,invoke,builtin,hx.int,hy.int,h]
   .show JC O Jr m w _ (.int k (bif decide (q<p)then q else p));by_cases h:q<p<;>simp only[h,Gv,Hw,cond_true,cond_false,Jo,G8]<;>exact .mkInt _ _
 .exact(JJ hok).elim
def Avc {c:Call} {x y:Operand} (ho:o.op= .call c) (hcal:c.callee= .builtin .max) (hargs:c.args= #[x,y]) {x' y':A} (hx:JC O Jr m w (a.eval x) x') (hy:JC O Jr m w (a.eval y) y')
 (hok:J6 (AqF x' y').ok):Pure P O Jr m a w o (AqF x' y'):=by
 unfold AqF at hok ⊢;split at hok
 .rename_i k p k' q;cases hk:A.kEq k k' with
  | false=>rw[hk]at hok;exact(JJ hok).elim
  | true =>
   have:=Rf hk;subst this;refine⟨⟨.int k (if q>p then q else p),?_,?_⟩,rfl,rfl,rfl⟩
   .have h:=run_max_int2 (P:=P) (w:=w) c.argTypes o.type k k p q;simp [execOp,ho,resolve,hcal,hargs,invoke,builtin,hx.int,hy.int,h]
   .show JC O Jr m w _ (.int k (bif decide (p<q)then q else p));by_cases h:p<q<;>simp only[h,gt_iff_lt,Gv,Hw,cond_true,cond_false,Jo,G8]<;>exact .mkInt _ _
 .exact(JJ hok).elim
end
end Go.Proofs.YtacidcemomccpaaGreatDoor.Vm
