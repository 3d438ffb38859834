import Derived.Test.YtpaimpmokhihmaaGreatDoorA2
import Derived.WalkKit
import Derived.Laws.IdiomCopy
import Derived.Laws.Cells
import Derived.Laws.Rows
import Derived.Laws.IdiomStrings
import Derived.Deep.MidRow
import Derived.ChangeKeysEq
import Derived.Lib.SmallJoins
import Derived.Lib.IndexBytes
import Derived.Laws.Cover3
import Derived.Laws.Pointers
import Derived.Laws.StructEq
set_option linter.all false
namespace Go.Proofs.YtpaimpmokhihmaaGreatDoor.Vm
abbrev Own:=Nat->Nat->Option Nat
abbrev at' (b k:Nat):Addr:=⟨b,k,none⟩
inductive Jt (O:Own) (w:World):Value->A->Prop
 | bool (b:Bool):Jt O w (.bool b) (.bool b)
 | int (k:IntKind) (n:Int):Jt O w (.int k n) (.int k n)
 | str (s:ByteArray):Jt O w (.string s) (.str s.data.toList)
 | nil (t:Ty):Jt O w (.slice none 0 0) (.sl ⟨t,[]⟩)
 | sl {b off cap:Nat} {l:Sl} (vs:Nat->Nat->Value) (hc:l.es.length<=cap)
    (hm: ∀ i j,i<l.es.length->j<l.sz->O b (off+(i*l.sz+j))=none/\w.cell? (at' b (off+(i*l.sz+j)))=some (vs i j))
    (hr: ∀ i j,i<l.es.length->j<l.sz->Jt O w (vs i j) ((l.es.getD i []).getD j .undef)):Jt O w (.slice (some (at' b off)) l.es.length cap) (.sl l)
 | sln {v:Value} {l:Sl} (h:Jt O w v (.sl l)) (hn:l.xs=[]->v= .slice none 0 0):Jt O w v (.sln l)
 | KQ:Jt O w (.pointer none) .KQ
 | fn (f:Nat):Jt O w (.func (.func f) #[] #[]) (.fn (f+1))
 | Xc:Jt O w .nilFunc (.fn 0)
 | sl0 (a:Addr) (t:Ty):Jt O w (.slice (some a) 0 0) (.sl ⟨t,[]⟩)
def Lt (O:Own) (w:World) (O':Own) (w':World):Prop:= ∀ b k u,O b k=none->w.cell? (at' b k)=some u->O' b k=none/\w'.cell? (at' b k)=some u
def Inv (O:Own) (w:World):Prop:=(∀ g j p,Aew g j=some p->O g j=none/\ ∃ v,w.cell? (at' g j)=some v/\p v)/\ ∀ g n,Aii g=some n-> ∃ c e fr,w.heap[g]? =some (.cells c e fr)/\c.size=n
def Jt.JE {O O':Own} {w w':World} (hp:Lt O w O' w') {v:Value} {a:A} (h:Jt O w v a):Jt O' w' v a:=by
 induction h with
 | bool b=>exact .bool b
 | int k n=>exact .int k n
 | str s=>exact .str s
 | nil t=>exact .nil t
 | sl vs hc hm hr ih =>refine .sl vs hc (fun i j hi hj=> ?_) (fun i j hi hj=>ih i j hi hj);all_goals simp_all[hi,Own,Lt,Jt]
 | sln h hn ih=>exact .sln ih hn
 | KQ=>exact .KQ
 | fn f=>exact .fn f
 | Xc=>exact .Xc
 | sl0 a t=>exact .sl0 a t
inductive Shp where
 | box
 | arr (sz len:Nat)
 | mp
def Obj.shp:Obj->Shp
 | .box _=>.box
 | .arr _ _ l=>.arr l.sz l.es.length
 | .mp _=>.mp
def LC (w:World) (g:Nat) (cur:Array Value) (e:TypeId):Prop:= ∃ fr,w.heap[g]? =some (.cells cur e fr)/\(fr=(0,0)\/cur.size<=fr.1)
def LC.cell {w:World} {g:Nat} {cur:Array Value} {e:TypeId} (h:LC w g cur e) (k:Nat):w.cell? (at' g k)=cur[k]? :=by obtain⟨fr,h1,_⟩:=h;simp [World.cell?,h1]
def LC.frozen {w:World} {g:Nat} {cur:Array Value} {e:TypeId} (h:LC w g cur e) {k:Nat} (hk:k<cur.size):w.frozen? (at' g k)=false:=by obtain⟨fr,h1,h2⟩:=h;simp only[World.frozen?,h1];all_goals grind
def LC.lt {w:World} {g:Nat} {cur:Array Value} {e:TypeId} (h:LC w g cur e):g<w.heap.size:=by grind[LC]
theorem LC.same {w w':World} {g:Nat} {cur:Array Value} {e:TypeId} (h:LC w g cur e) (hb:w'.heap[g]? =w.heap[g]?):LC w' g cur e:=by grind[LC]
def LC.inj {w:World} {g:Nat} {cur cur':Array Value} {e e':TypeId} (h:LC w g cur e) (h':LC w g cur' e'):cur=cur'/\e=e':=by grind[LC]
def LM (O:Own) (w:World) (v:Value):A->Prop
 | .agg cs=> ∃ vs:Array Value,v= .agg vs/\vs.size=cs.length/\ ∀ j,j<cs.length->Jt O w (vs.getD j undef) (cs.getD j .undef)
 | a=>Jt O w v a
def LM.JE {O O':Own} {w w':World} (hp:Lt O w O' w') {v:Value} {a:A} (h:LM O w v a):LM O' w' v a:=by
 cases a with
 | agg cs=>obtain⟨vs,h1,h2,h3⟩:=h;exact⟨vs,h1,h2,fun j hj=>(h3 j hj).JE hp⟩
 | _=>exact Jt.JE hp h
def LP (O:Own) (w:World) (o:Nat) (v:Value) (l:Mp):Prop :=
 ∃ r es ck,v= .map (some r)/\w.heap[r]? =some (.map es ck)/\O r 0=some o/\es.size=l.l.length /\
  ∀(i:Nat) (p:l.kt.Val×l.vt.Val),l.l[i]? =some p-> ∃ e,es[i]? =some e/\LM O w e.key (MW (l.kt.cells p.1))/\LM O w e.val (MW (l.vt.cells p.2))
def AiD:Nat->Value->Value
 | 0,p=>p
 | f+1,p=>.func (.func f) #[] #[p]
def UU (O:Own) (w:World) (k:Nat) (v p:Value):Prop:= ∃ b j,v=AiD k (.pointer (some (at' b j)))/\O b j=none/\w.cell? (at' b j)=some p
def UU.JE {O O':Own} {w w':World} (hp:Lt O w O' w') {k:Nat} {v p:Value} (h:UU O w k v p):UU O' w' k v p:=by obtain⟨b,j,h1,h2,h3⟩:=h;exact⟨b,j,h1,hp _ _ _ h2 h3⟩
section
variable (O:Own) (Jm:List (Nat×Obj)) (m:Nat->Value) (w:World)
def J4 (v:Value):A->Prop
 | .undef=>v.oneCell'=true
 | .KD=>v= .slice none 0 0
 | .ptr o off=>v.oneCell'=true/\match (Jr Jm o).map Obj.shp with
  | some .box=> ∃ b base,m o= .pointer (some (at' b base))/\v= .pointer (some (at' b (base+off)))
  | _=>True
 | .own o=>v.oneCell'=true/\match (Jr Jm o).map Obj.shp with
  | some (.arr _ _)=>v=m o
  | some .mp=>v=m o
  | _=>True
 | .KG o i off=>v.oneCell'=true/\match (Jr Jm o).map Obj.shp with
  | some (.arr sz len)=>i<len-> ∃ g n cap,m o= .slice (some (at' g 0)) n cap/\v= .pointer (some (at' g (i*sz+off)))
  | _=>True
 | .clo k o=>v.oneCell'=true/\ ∃ p,p.oneCell'=true/\UU O w k v p/\match (Jr Jm o).map Obj.shp with
  | some .box=> ∃ b base,m o= .pointer (some (at' b base))/\p= .pointer (some (at' b base))
  | _=>True
 | .bsl o n=>v.oneCell'=true/\match (Jr Jm o).map Obj.shp with
  | some .box=> ∃ b base,m o= .pointer (some (at' b base))/\v= .slice (some (at' b base)) n n
  | _=>True
 | .osl o k=>v.oneCell'=true/\match (Jr Jm o).map Obj.shp with
  | some (.arr sz len)=>k<len-> ∃ g cap,m o= .slice (some (at' g 0)) len cap/\v= .slice (some (at' g (k*sz))) (len - k) (cap - k)
  | _=>True
 | .elt cs=> ∃ b off,v= .pointer (some (at' b off))/\ ∀ j,j<cs.length->O b (off+j)=none/\ ∃ u,w.cell? (at' b (off+j))=some u/\Jt O w u (cs.getD j .undef)
 | .fn f=>Jt O w v (.fn f)
 | .bool b=>Jt O w v (.bool b)
 | .int k n=>Jt O w v (.int k n)
 | .str s=>Jt O w v (.str s)
 | .sl l=>Jt O w v (.sl l)
 | .sln l=>Jt O w v (.sln l)
 | .KQ=>Jt O w v .KQ
 | _=>False
def T1 (v:Value):A->Prop
 | .agg cs=> ∃ vs:Array Value,v= .agg vs/\vs.size=cs.length/\ ∀ j,j<cs.length->J4 O Jm m w (vs.getD j undef) (cs.getD j .undef)
 | a=>J4 O Jm m w v a
def Jy (v:Value):A->Prop
 | .undef=>True
 | .tup l=> ∃ vs:Array Value,v= .tuple vs/\vs.size=l.length/\ ∀ j,j<l.length->T1 O Jm m w (vs.getD j undef) (l.getD j .undef)
 | .cnd g a=>(g=true->T1 O Jm m w v a)/\(g=false->v=undef)
 | a=>T1 O Jm m w v a
def Kz (o:Nat):Obj->Prop
 | .box cs=> ∃ b base,m o= .pointer (some (at' b base))/\ ∀ j,j<cs.length->O b (base+j)=some o/\w.frozen? (at' b (base+j))=false /\
  ∃ u,w.cell? (at' b (base+j))=some u/\J4 O Jm m w u (cs.getD j .undef)
 | .arr e frz l=>(∀ x∈l.es,x.length=l.sz)/\((True/\l.es=[]/\m o= .slice none 0 0) \/
  (True/\ ∃ g cap cur,m o= .slice (some (at' g 0)) l.es.length cap/\LC w g cur e/\l.es.length<=cap/\cap<=maxLen/\cur.size=cap*l.sz /\
    (∀ i j,i<l.es.length->j<l.sz-> ∃ u,cur[i*l.sz+j]? =some u/\Jt O w u ((l.es.getD i []).getD j .undef)) /\
    (∀ k,k<cur.size->l.es.length*l.sz<=k->O g k=some o)/\(∀ k,k<l.es.length*l.sz->O g k=if frz then none else some o)))
 | .mp l=>LP O w o (m o) l
end
structure Moves (O:Own) (T:Nat->Prop) (w w':World):Prop where
 os:w'.os=w.os
 tape:w'.tape=w.tape
 output:w'.output=w.output
 size:w.heap.size<=w'.heap.size
 blk: ∀ b,b<w.heap.size->w'.heap[b]? =w.heap[b]? \/(∃ c c' e fr,w.heap[b]? =some (.cells c e fr)/\w'.heap[b]? =some (.cells c' e fr)/\c'.size=c.size /\
  (∀ k,(∀ o,O b k=some o-> ¬ T o)->c'[k]? =c[k]?)/\ ∃ k o,k<c.size/\O b k=some o/\T o) \/
  ∃ es ck es' ck' o,w.heap[b]? =some (.map es ck)/\w'.heap[b]? =some (.map es' ck')/\O b 0=some o/\T o
def Moves.refl (O:Own) (T:Nat->Prop) (w:World):Moves O T w w:=⟨rfl,rfl,rfl,DR _,fun _ _=>.inl rfl⟩
def cell_lt {w:World} {b k:Nat} {u:Value} (h:w.cell? (at' b k)=some u):b<w.heap.size:=by
 rcases DT b w.heap.size with hb | hb
 .exact hb
 .simp [World.cell?,Fj hb]at h
def Moves.cell {O:Own} {T:Nat->Prop} {w w':World} (h:Moves O T w w') {b k:Nat} (hb:b<w.heap.size) (hk: ∀ o,O b k=some o-> ¬ T o) :
 w'.cell? (at' b k)=w.cell? (at' b k):=by
 rcases h.blk b hb with he | ⟨c,c',e,fr,h1,h2,_,h4,_⟩ | ⟨es,ck,es',ck',o,h1,h2,_,_⟩
 .simp [World.cell?,he]
 .simp [World.cell?,h1,h2,h4 k hk]
 .simp [World.cell?,h1,h2]
def Moves.frozen {O:Own} {T:Nat->Prop} {w w':World} (h:Moves O T w w') {b k:Nat} (hb:b<w.heap.size):w'.frozen? (at' b k)=w.frozen? (at' b k):=by
 rcases h.blk b hb with he | ⟨c,c',e,fr,h1,h2,_,_,_⟩ | ⟨es,ck,es',ck',o,h1,h2,_,_⟩
 .simp [World.frozen?,he]
 .simp [World.frozen?,h1,h2]
 .simp [World.frozen?,h1,h2]
structure Passes (O O':Own) (T:Nat->Prop) (n:Nat):Prop where
 none: ∀ b k,b<n->O b k=none->O' b k=none
 keep: ∀ b k o,b<n->O b k=some o-> ¬ T o->O' b k=some o
def Moves.JE {O O':Own} {T:Nat->Prop} {w w':World} (h:Moves O T w w') (hp:Passes O O' T w.heap.size):Lt O w O' w':=by intro b k u hn hc;have hb:=cell_lt hc;exact⟨hp.none b k hb hn,by rw[h.cell hb (fun o ho=>by rw[hn]at ho;cases ho)];exact hc⟩
def NW (Jm:List (Nat×Obj)) (m:Nat->Value) (objs':List (Nat×Obj)) (m':Nat->Value) (Nw:Nat->Prop):Prop :=
 ∀ o x',Jr objs' o=some x'->Nw o\/ ∃ x,Jr Jm o=some x/\x.shp=x'.shp/\m' o=m o
def J4.step {O O':Own} {Jm objs':List (Nat×Obj)} {m m':Nat->Value} {w w':World} {Nw:Nat->Prop} (hp:Lt O w O' w') (he:NW Jm m objs' m' Nw)
 {v:Value} {a:A} (hn: ∀ o∈a.Ls,¬ Nw o) (h:J4 O Jm m w v a):J4 O' objs' m' w' v a:=by
 have key: ∀ o,o∈a.Ls-> ∀ x',Jr objs' o=some x'-> ∃ x,Jr Jm o=some x/\x.shp=x'.shp/\m' o=m o :=
  fun o ho x' hx=>(he o x' hx).resolve_left (hn o ho)
 cases a with
 | undef=>exact h
 | KD=>exact h
 | ptr o off =>
  simp only[J4]at *
  refine⟨h.1,?_⟩;have h:=h.2;cases hx:Jr objs' o with
  | none=>simp
  | some x' =>obtain⟨x,h1,h2,h3⟩:=key o (by simp [A.Ls]) x' hx;rw[h1]at h;simp only[Option.map_some,h2]at h;simp only[Option.map_some,h3];exact h
 | own o =>
  simp only[J4]at *
  refine⟨h.1,?_⟩;have h:=h.2;cases hx:Jr objs' o with
  | none=>simp
  | some x' =>obtain⟨x,h1,h2,h3⟩:=key o (by simp [A.Ls]) x' hx;rw[h1]at h;simp only[Option.map_some,h2]at h;simp only[Option.map_some,h3];exact h
 | KG o i off =>
  simp only[J4]at *
  refine⟨h.1,?_⟩;have h:=h.2;cases hx:Jr objs' o with
  | none=>simp
  | some x' =>obtain⟨x,h1,h2,h3⟩:=key o (by simp [A.Ls]) x' hx;rw[h1]at h;simp only[Option.map_some,h2]at h;simp only[Option.map_some,h3];exact h
 | clo k o =>
  simp only[J4]at *
  obtain⟨h0,p,h4,h5,h⟩:=h;refine⟨h0,p,h4,h5.JE hp,?_⟩;cases hx:Jr objs' o with
  | none=>simp
  | some x' =>obtain⟨x,h1,h2,h3⟩:=key o (by simp [A.Ls]) x' hx;rw[h1]at h;simp only[Option.map_some,h2]at h;simp only[Option.map_some,h3];exact h
 | bsl o n =>
  simp only[J4]at *
  refine⟨h.1,?_⟩;have h:=h.2;cases hx:Jr objs' o with
  | none=>simp
  | some x' =>obtain⟨x,h1,h2,h3⟩:=key o (by simp [A.Ls]) x' hx;rw[h1]at h;simp only[Option.map_some,h2]at h;simp only[Option.map_some,h3];exact h
 | osl o n =>
  simp only[J4]at *
  refine⟨h.1,?_⟩;have h:=h.2;cases hx:Jr objs' o with
  | none=>simp
  | some x' =>obtain⟨x,h1,h2,h3⟩:=key o (by simp [A.Ls]) x' hx;rw[h1]at h;simp only[Option.map_some,h2]at h;simp only[Option.map_some,h3];exact h
 | elt cs =>obtain⟨b,off,hv,hc⟩:=h;refine⟨b,off,hv,fun j hj=> ?_⟩;obtain⟨h1,u,h2,h3⟩:=hc j hj;obtain⟨h4,h5⟩:=hp _ _ _ h1 h2;exact⟨h4,u,h5,h3.JE hp⟩
 | fn f=>exact Jt.JE hp h
 | ump _=>exact h
 | bool b=>exact Jt.JE hp h
 | int k n=>exact Jt.JE hp h
 | str s=>exact Jt.JE hp h
 | sl l=>exact Jt.JE hp h
 | sln l=>exact Jt.JE hp h
 | KQ=>exact Jt.JE hp h
 | usl _ _ _=>exact h
 | agg _=>exact h
 | tup _=>exact h
 | box _=>exact h
 | cbx _ _=>exact h
 | cnd _ _=>exact h
def OX {α β :Type} {f: α ->List β} {l:List α} {d: α} {j:Nat} (hj:j<l.length) {x: β} (hx:x∈f (l.getD j d)):x∈l.flatMap f:=by grind
def T1.step {O O':Own} {Jm objs':List (Nat×Obj)} {m m':Nat->Value} {w w':World} {Nw:Nat->Prop} (hp:Lt O w O' w') (he:NW Jm m objs' m' Nw)
 {v:Value} {a:A} (hn: ∀ o∈a.Ags,¬ Nw o) (h:T1 O Jm m w v a):T1 O' objs' m' w' v a:=by
 cases a with
 | agg cs =>obtain⟨vs,h1,h2,h3⟩:=h;exact⟨vs,h1,h2,fun j hj=>(h3 j hj).step hp he fun o ho=>hn o (OX hj ho)⟩
 | cnd g a=>exact h
 | _ =>simp only[T1]at h ⊢;refine J4.step hp he ?_ h;exact hn
def Jy.step {O O':Own} {Jm objs':List (Nat×Obj)} {m m':Nat->Value} {w w':World} {Nw:Nat->Prop} (hp:Lt O w O' w') (he:NW Jm m objs' m' Nw)
 {v:Value} {a:A} (hn: ∀ o∈a.ids,¬ Nw o) (h:Jy O Jm m w v a):Jy O' objs' m' w' v a:=by
 cases a with
 | undef=>trivial
 | tup l =>obtain⟨vs,h1,h2,h3⟩:=h;exact⟨vs,h1,h2,fun j hj=>(h3 j hj).step hp he fun o ho=>hn o (OX hj ho)⟩
 | cnd g a =>
  refine⟨fun hg=> ?_,h.2⟩;have h':=h.1 hg;cases a with
  | cnd _ _=>exact h'
  | _=>exact T1.step hp he hn h'
 | _ =>simp only[Jy]at h ⊢;refine T1.step hp he ?_ h;exact hn
def LP.step {O O':Own} {w w':World} {T:Nat->Prop} (hm:Moves O T w w') (hp:Passes O O' T w.heap.size) {o:Nat} {v:Value} {l:Mp} (ho: ¬ T o) (h:LP O w o v l):LP O' w' o v l:=by
 obtain⟨r,es,ck,h1,h2,h3,h4,h5⟩:=h;have hr:r<w.heap.size:=(DL.1 h2).1;refine⟨r,es,ck,h1,?_,hp.keep _ _ _ hr h3 ho,h4,fun i p hip=> ?_⟩
 .rcases hm.blk r hr with he | ⟨c,c',e,fr,g1,_⟩ | ⟨es1,ck1,es',ck',o',g1,g2,g3,g4⟩;all_goals grind
 .obtain⟨e,k1,k2,k3⟩:=h5 i p hip;exact⟨e,k1,k2.JE (hm.JE hp),k3.JE (hm.JE hp)⟩
def Kz.step {O O':Own} {Jm objs':List (Nat×Obj)} {m m':Nat->Value} {w w':World} {Nw T:Nat->Prop} (hm:Moves O T w w') (hp:Passes O O' T w.heap.size) (he:NW Jm m objs' m' Nw)
 {o:Nat} {x:Obj} (ho: ¬ T o) (hmo:m' o=m o) (hn: ∀ i∈x.ids,¬ Nw i) (h:Kz O Jm m w o x):Kz O' objs' m' w' o x:=by
 have hpr:=hm.JE hp;cases x with
 | box cs =>obtain⟨b,base,h1,h2⟩:=h;refine⟨b,base,by rw[hmo];exact h1,fun j hj=> ?_⟩;obtain⟨h3,h4,u,h5,h6⟩:=h2 j hj;have hb:=cell_lt h5;refine⟨hp.keep _ _ _ hb h3 ho,by rw[hm.frozen hb];exact h4,u,?_,h6.step hpr he fun i hi=>hn i (OX hj hi)⟩;rw[hm.cell hb (fun o' ho'=>by rw[h3]at ho';injection ho' with ho';subst ho';exact ho)];exact h5
 | arr e frz l =>
  obtain⟨h0,h⟩:=h;refine⟨h0,?_⟩;rcases h with ⟨h1,h2,h3⟩ | ⟨h1,g,cap,cur,h2,h3,h4,h5,h6,h7,h8,h9⟩
  .grind
  .refine .inr ⟨h1,g,cap,cur,by rw[hmo];exact h2,?_,h4,h5,h6,?_,?_,?_⟩
   .have hg:g<w.heap.size:=h3.lt;rcases hm.blk g hg with hE | ⟨c,c',e',fr,hA,hB,hC,hD,k,o',hk,hK,hT⟩ | ⟨es1,ck1,es',ck',o',g1,_⟩
    .exact h3.same hE
    .obtain⟨fr0,h3,_⟩:=h3;all_goals grind
    .obtain⟨fr0,h3,_⟩:=h3;rw[h3]at g1;injection g1 with g1;cases g1
   .intro i j hi hj;obtain⟨u,hu,hr⟩:=h7 i j hi hj;exact⟨u,hu,hr.JE hpr⟩
   .intro k hk hge;have hg:g<w.heap.size:=h3.lt;exact hp.keep _ _ _ hg (h8 k hk hge) ho
   .intro k hk;have hg:g<w.heap.size:=h3.lt;have:=h9 k hk;cases frz
    .simp at this ⊢;exact hp.keep _ _ _ hg this ho
    .simp at this ⊢;exact hp.none _ _ hg this
 | mp l =>have h:LP O w o (m o) l:=h;show LP O' w' o (m' o) l;rw[hmo];exact h.step hm hp ho
theorem Ql (a b:Nat):Nat.beq a b=decide (a=b):=by
 cases h:Nat.beq a b with
 | true=>simp_all
 | false=>simp [Nat.ne_of_beq_eq_false h]
theorem LX (q:Nat) (x:Obj) (r:List (Nat×Obj)) (k:Nat):Jr ((q,x)::r) k=if q=k then some x else Jr r k:=by grind[Jr,Ql]
theorem aJ (q:Nat) (x:Obj) (r:List (Nat×Obj)) (n:Nat):OB ((q,x)::r) n=if q=n then OB r n else(q,x)::OB r n:=by grind[OB,Ql]
theorem WU (l:List (Nat×Obj)) (n k:Nat):Jr (OB l n) k=if k=n then none else Jr l k:=by
 induction l with
 | nil=>simp [OB,Jr]
 | cons p r ih=>grind[aJ,LX]
theorem Ae5 (l:List (Nat×Obj)) (n:Nat) (y:Obj) (k:Nat) (hn:Jr l n=none):Jr (Ul l n y) k=if k=n then some y else Jr l k:=by
 induction l with
 | nil=>grind[Ul,LX]
 | cons p r ih=>grind[LX,Ul]
theorem JO (l:List (Nat×Obj)) (n:Nat) (y:Obj) (k:Nat):Jr (KI l n y) k=if k=n then some y else Jr l k:=by grind[KI,Ae5,WU]
def Pq (d:List Nat): ∀(l:List (Nat×Obj)) (k:Nat),Jr (JM l d) k=if k∈d then none else Jr l k:=by
 induction d with
 | nil=>grind[JM]
 | cons n r ih=>grind[JM,WU]
theorem KY (u:List (Nat×Obj)): ∀(l:List (Nat×Obj)) (k:Nat),(∀ p∈u,p.1≠k)->Jr (J3 l u) k=Jr l k:=by
 induction u with
 | nil=>intro l k _;rfl
 | cons p r ih=>grind[J3,JO]
def MG (u:List (Nat×Obj)): ∀(l:List (Nat×Obj)) (k:Nat),(∃ p∈u,p.1=k)-> ∃ x,(k,x)∈u/\Jr (J3 l u) k=some x:=by
 induction u with
 | nil=>grind
 | cons p r ih =>
  obtain⟨n,x⟩:=p;intro l k h;by_cases hr: ∃ p∈r,p.1=k
  .obtain⟨y,hy,he⟩:=ih (KI l n x) k hr;exact⟨y,Dq _ hy,he⟩
  .grind[J3,KY,JO]
structure Qj (P:Program) (t:Nat) (ti:TI):Prop where
 d:P.underlying t=some ti.d
 ck:MB P 20 t=some ti.cs
 cmp:ti.cmp=zV P t ti.d
 i: ∃ i z,P.info? t=some i/\i.size=ti.cs.length/\i.bytes=ti.bytes/\i.zero=some z/\JQ z.cells.toList ti.cs=true/\Ry ti.d=VJ z
def Ahx {P:Program} {t:Nat} {ti:TI} (h:Ae2 P t=some ti):Qj P t ti:=by
 unfold Ae2 at h;split at h
 .rename_i d i cs hd hi hc;split at h
  .rename_i z hz;cases hb:(Nat.beq i.size cs.length&&JQ z.cells.toList cs&&(Ry d==VJ z))with
   | false=>rw[hb]at h;cases h
   | true =>rw[hb]at h;injection h with h;subst h;simp only[Dn]at hb;exact⟨hd,hc,rfl,i,z,hi,Dk hb.1.1,rfl,hz,hb.1.2,by simpa using hb.2⟩
  .cases h
 .cases h
def TOk (P:Program) (C:Ctx):Prop:= ∀ t ti,C.T t=some ti->Ae2 P t=some ti
def TOk.is {P:Program} {C:Ctx} (h:TOk P C) {t:Nat} {ti:TI} (ht:C.T t=some ti):Qj P t ti:=Ahx (h t ti ht)
section
variable {P:Program} {t:Nat} {ti:TI} (w:World)
theorem Qj.run (h:Qj P t ti):(underlying t).run P w= .ok ti.d w:=DD h.d w
theorem Qj.MQ (h:Qj P t ti):(sizeOf t).run P w= .ok ti.cs.length w:=by obtain⟨i,z,h1,h2,_⟩:=h.i;simp [sizeOf,typeInfo,h1,h2]
theorem Qj.AbG (h:Qj P t ti):(isAgg t).run P w= .ok ti.agg w:=by simp only[isAgg,Dv,h.run,Result.andThen_ok,TI.agg];cases ti.d<;>rfl
theorem mW (ti:TI):ti.agg=Ry ti.d:=by grind[TI.agg,Ry]
end
def Jv (l:List Bool):Prop:= ∀ b∈l,b=true
theorem PL {α :Type} {l:List Bool} {r:Option α} {x: α} (h:allT l r=some x):Jv l/\r=some x:=by
 induction l with
 | nil=>grind[allT,Jv]
 | cons c cs ih=>grind[allT,Jv]
def Jv.append {a b:List Bool} (h:Jv (a++b)):Jv a/\Jv b:=by simp_all[Jv]
def Jv.cons {c:Bool} {a:List Bool} (h:Jv (c::a)):c=true/\Jv a:=by simp_all[Jv]
theorem Jv.nil:Jv []:=fun _ h=>by cases h
theorem J5: ¬ Jv Dl.no.ok:=by simp_all[Dl.no,Jv]
section
variable {P:Program} {C:Ctx} {O:Own} {Jm:List (Nat×Obj)} {m:Nat->Value} {a:Act} {w:World} {o:Oper}
theorem J4.toT {v:Value} {x:A} (h:J4 O Jm m w v x):Jy O Jm m w v x:=by cases x<;>first | trivial | exact h | exact h.elim
theorem T1.toT {v:Value} {x:A} (h:T1 O Jm m w v x):Jy O Jm m w v x:=by cases x<;>first | trivial | exact h | exact h.elim
structure Pure (P:Program) (O:Own) (Jm:List (Nat×Obj)) (m:Nat->Value) (a:Act) (w:World) (o:Oper) (δ :Dl):Prop where
 run: ∃ v,(execOp a.eval o).run P w= .ok (.value v) w/\Jy O Jm m w v δ.val
 new: δ.new=[]
 upd: δ.upd=[]
 del: δ.del=[]
theorem Jy.int {v:Value} {k:IntKind} {n:Int} (h:Jy O Jm m w v (.int k n)):v= .int k n:=by cases h;rfl
theorem Jy.bool {v:Value} {b:Bool} (h:Jy O Jm m w v (.bool b)):v= .bool b:=by cases h;rfl
theorem Jy.str {v:Value} {s:List UInt8} (h:Jy O Jm m w v (.str s)): ∃ b:ByteArray,v= .string b/\b.data.toList=s:=by cases h;exact⟨_,rfl,rfl⟩
theorem Jy.mkInt (k:IntKind) (n:Int):Jy O Jm m w (.int k n) (.int k n):=Jt.int k n
theorem Jy.Nl (b:Bool):Jy O Jm m w (.bool b) (.bool b):=Jt.bool b
theorem Jy.mkStr (s:ByteArray) {l:List UInt8} (h:s.data.toList=l):Jy O Jm m w (.string s) (.str l):=by subst h;exact Jt.str s
theorem Xk (s:ByteArray):s.toList=s.data.toList:=ByteArray.toList_eq s
theorem Pz (s:ByteArray):s.size=s.data.toList.length:=by rw[Array.length_toList];rfl
theorem wX {x:Operand} (ho:o.op= .move x\/o.op= .assign x) {y:A} (hx:Jy O Jm m w (a.eval x) y):Pure P O Jm m a w o (.v y):=by refine⟨⟨a.eval x,?_,hx⟩,rfl,rfl,rfl⟩;rcases ho with ho | ho<;>simp [execOp,ho]
theorem Zo {v:Value} {x:A} (h:Jy O Jm m w v x) (hg:x.Nq.1=true):Jy O Jm m w v x.Nq.2:=by
 cases x with
 | cnd g y =>have:=h.1 hg;cases y<;>first | trivial | exact this | exact this.elim
 | _=>exact h
theorem Af9 {c x y:Operand} (ho:o.op= .pick c x y) {c' x' y':A} (hc:Jy O Jm m w (a.eval c) c') (hx:Jy O Jm m w (a.eval x) x') (hy:Jy O Jm m w (a.eval y) y')
 (hok:Jv (Aaf c' x' y').ok):Pure P O Jm m a w o (Aaf c' x' y'):=by
 obtain⟨h0,h1⟩:=hok.cons;obtain⟨h1,h2⟩:=h1.cons;obtain⟨h2,h3⟩:=h2.cons;have h3:=h3.cons.1;refine⟨?_,rfl,rfl,rfl⟩;have hc':=Zo hc h0;unfold Aaf;simp only[Dl.g];generalize c'.Nq.2=cc at *
 obtain⟨q,rfl⟩: ∃ q,cc= .bool q:=by cases cc<;>simp [A.isB]at h1;exact⟨_,rfl⟩
 have:=hc'.bool;cases q with
 | true =>
  simp only[A.toB,cond_true]at h2 h3 ⊢;have hx':=Zo hx h2;generalize x'.Nq.2=xx at *
  cases xx<;>simp [A.isB]at h3;exact⟨a.eval x,by simp [execOp,ho,asBool,this],hx'⟩
 | false =>
  simp only[A.toB,cond_false]at h2 h3 ⊢;have hy':=Zo hy h2;generalize y'.Nq.2=yy at *
  cases yy<;>simp [A.isB]at h3;exact⟨a.eval y,by simp [execOp,ho,asBool,this],hy'⟩
theorem NL {j k:IntKind} (h:A.kEq j k=true):j=k:=by cases j<;>cases k<;>first | rfl | cases h
theorem AfZ {op:BinOp} {k:IntKind} {x y:Int} (hok:Jv (aN op k x y).ok) (t:TypeId) (hop:op≠ .shl) (hop':op≠ .shr) :
 ∃ v,(binOp op t (.int k x) (.int k y)).run P w= .ok v w/\Jy O Jm m w v (aN op k x y).val/\(aN op k x y).new=[]/\(aN op k x y).upd=[]/\(aN op k x y).del=[]:=by
 have ha: ∀ op,op= .add\/op= .sub\/op= .mul->binOp op t (.int k x) (.int k y)=Op.intArith op k x y:=by rintro op (rfl | rfl | rfl)<;>simp [binOp]
 have hd: ∀ op,op= .quo\/op= .rem->binOp op t (.int k x) (.int k y)=Op.intDiv op k x y:=by rintro op (rfl | rfl)<;>simp [binOp]
 have hb: ∀ op,op= .and\/op= .or\/op= .xor\/op= .andNot->binOp op t (.int k x) (.int k y)=Op.intBits op k x y:=by rintro op (rfl | rfl | rfl | rfl)<;>simp [binOp]
 have hc: ∀ op,op= .eql\/op= .neq\/op= .lss\/op= .leq\/op= .gtr\/op= .geq->binOp op t (.int k x) (.int k y)=Op.intCmp op x y:=by rintro op (rfl | rfl | rfl | rfl | rfl | rfl)<;>simp [binOp]
 cases op with
 | shl=>exact absurd rfl hop
 | shr=>exact absurd rfl hop'
 | add=>rw[ha _ (by simp)];exact⟨_,rfl,.mkInt _ _,rfl,rfl,rfl⟩
 | sub=>rw[ha _ (by simp)];exact⟨_,rfl,.mkInt _ _,rfl,rfl,rfl⟩
 | mul=>rw[ha _ (by simp)];exact⟨_,rfl,.mkInt _ _,rfl,rfl,rfl⟩
 | quo =>
  have h0:y≠0:=by simpa [aN,Dl.g]using hok.cons.1
  rw[hd _ (by simp)];exact⟨.int k (k.wrap (x.tdiv y)),by simp [Op.intDiv,h0],.mkInt _ _,rfl,rfl,rfl⟩
 | rem =>
  have h0:y≠0:=by simpa [aN,Dl.g]using hok.cons.1
  rw[hd _ (by simp)];exact⟨.int k (x.tmod y),by simp [Op.intDiv,h0],.mkInt _ _,rfl,rfl,rfl⟩
 | and=>rw[hb _ (by simp)];exact⟨_,rfl,.mkInt _ _,rfl,rfl,rfl⟩
 | or=>rw[hb _ (by simp)];exact⟨_,rfl,.mkInt _ _,rfl,rfl,rfl⟩
 | xor=>rw[hb _ (by simp)];exact⟨_,rfl,.mkInt _ _,rfl,rfl,rfl⟩
 | andNot=>rw[hb _ (by simp)];exact⟨_,rfl,.mkInt _ _,rfl,rfl,rfl⟩
 | eql=>rw[hc _ (by simp)];exact⟨_,rfl,.Nl _,rfl,rfl,rfl⟩
 | neq=>rw[hc _ (by simp)];exact⟨_,rfl,.Nl _,rfl,rfl,rfl⟩
 | lss=>rw[hc _ (by simp)];exact⟨_,rfl,.Nl _,rfl,rfl,rfl⟩
 | leq=>rw[hc _ (by simp)];exact⟨_,rfl,.Nl _,rfl,rfl,rfl⟩
 | gtr=>rw[hc _ (by simp)];exact⟨_,rfl,.Nl _,rfl,rfl,rfl⟩
 | geq=>rw[hc _ (by simp)];exact⟨_,rfl,.Nl _,rfl,rfl,rfl⟩
theorem Aga {op:BinOp} {x y:ByteArray} {x' y':List UInt8} (hx:x.data.toList=x') (hy:y.data.toList=y') (hok:Jv (aO op x' y').ok) (t:TypeId) :
 ∃ v,(binOp op t (.string x) (.string y)).run P w= .ok v w/\Jy O Jm m w v (aO op x' y').val/\(aO op x' y').new=[]/\(aO op x' y').upd=[]/\(aO op x' y').del=[]:=by
 subst hx hy;have hs: ∀ op,op≠ .shl->op≠ .shr->binOp op t (.string x) (.string y)=Op.stringOp op x y:=by intro op _ _;cases op<;>rfl
 cases op<;>first
  | exact(J5 hok).elim
  | (rw [hs _ (by simp) (by simp)]
     refine⟨_,rfl,?_,rfl,rfl,rfl⟩;simp only[aO,Dl.v,Xk,bytesLess];exact .Nl _)
  | (have h0:x.data.toList.length+y.data.toList.length<=140737488355328:=by simpa [aO,Dl.g]using hok.cons.1
     rw[hs _ (by simp) (by simp)];refine⟨.string (x++y),?_,?_,rfl,rfl,rfl⟩
     .have: ¬(((x.size+y.size:Nat):Int)>IntKind.i64.max):=by
       rw[<- Pz,<- Pz]at h0;rw[show IntKind.i64.max=9223372036854775807 from rfl];omega
      simp only[Op.stringOp,this,G8];rfl
     .exact .mkStr _ (Go.Joins.data_append x y))
end
def VD {P:Program} {w:World} {op:BinOp} {t:TypeId} {x y:Operand} {v u:Value} (h: ∀ cs,v≠ .agg cs:=by simp) (h':v≠ .nilIface:=by simp):(eqGuard op t x y v u).run P w= .ok () w:=by unfold eqGuard;all_goals simp_all
section
variable {P:Program} {C:Ctx} {O:Own} {Jm:List (Nat×Obj)} {m:Nat->Value} {a:Act} {w:World} {o:Oper} {fet:Fet}
def FOk (O:Own) (Jm:List (Nat×Obj)) (m:Nat->Value) (w:World) (fet:Fet):Prop:= ∀ o x,Jr fet o=some x->Jr Jm o=some x/\Kz O Jm m w o x
theorem J9 {α :Type} {x:Option α} {k: α ->Dl} (hok:Jv (JH x k).ok): ∃ y,x=some y/\JH x k=k y:=by
 cases x with
 | none=>exact(J5 hok).elim
 | some y=>exact⟨y,rfl,rfl⟩
theorem JI {t:Nat} {k:TI->Dl} (hok:Jv (KP C t k).ok): ∃ ti,C.T t=some ti/\KP C t k=k ti:=J9 hok
theorem KN {n:Nat} {cs:List A} (h:KT fet n=some cs):Jr fet n=some (.box cs):=by unfold KT at h;split at h<;>simp_all
theorem LD {n:Nat} {r:Arr} (h:Um fet n=some r):Jr fet n=some (.arr r.e r.frz r.l):=by unfold Um at h;all_goals grind
theorem Oj {d:TypeDesc} {e:Nat} (h:elem? d=some e):d= .slice e:=by unfold elem? at h;split at h<;>simp_all
theorem Jy.own {v:Value} {n:Nat} {e:Nat} {frz:Bool} {l:Sl} (hf:FOk O Jm m w fet) (h:Jy O Jm m w v (.own n)) (hx:Jr fet n=some (.arr e frz l)) :
 v=m n/\Kz O Jm m w n (.arr e frz l):=by
 obtain⟨h1,h2⟩:=hf _ _ hx;refine⟨?_,h2⟩;have h':J4 O Jm m w v (.own n):=h;all_goals grind[J4,Obj.shp]
theorem Jy.ptr {v:Value} {n off:Nat} {cs:List A} (hf:FOk O Jm m w fet) (h:Jy O Jm m w v (.ptr n off)) (hx:Jr fet n=some (.box cs)) :
 ∃ b base,m n= .pointer (some (at' b base))/\v= .pointer (some (at' b (base+off)))/\ ∀ j,j<cs.length->O b (base+j)=some n/\w.frozen? (at' b (base+j))=false /\
  ∃ u,w.cell? (at' b (base+j))=some u/\J4 O Jm m w u (cs.getD j .undef):=by
 obtain⟨h1,b,base,h2,h3⟩:=hf _ _ hx;have h':J4 O Jm m w v (.ptr n off):=h;all_goals grind[J4,Obj.shp]
theorem Jy.KQ {v:Value} (h:Jy O Jm m w v .KQ):v= .pointer none:=by cases h;rfl
theorem Abh {t e:Nat} {v:Value} {b:Bool} (hu:P.underlying t=some (.slice e)) (h:(v= .slice none 0 0/\b=true)\/(∃ ad l c,v= .slice (some ad) l c)/\b=false) :
 (Op.equal t v (.slice none 0 0)).run P w= .ok b w:=by
 rcases h with ⟨rfl,rfl⟩ | ⟨⟨ad,l,c,rfl⟩,rfl⟩<;>rw[run_equal_slice_nil w t e _ _ _ hu]<;>rfl
theorem Afx {t e:Nat} {v:Value} {b:Bool} (hu:P.underlying t=some (.pointer e)) (h:(v= .pointer none/\b=true)\/(∃ ad,v= .pointer (some ad))/\b=false) :
 (Op.equal t v (.pointer none)).run P w= .ok b w:=by
 have hu':P.underlying t=some (.pointer (P.pointee t)):=by rw[hu];simp [Program.pointee,hu]
 rcases h with ⟨rfl,rfl⟩ | ⟨⟨ad,rfl⟩,rfl⟩<;>rw[run_equal_pointer_nil w t _ hu']<;>rfl
theorem wY {s:Bool} {t:Nat} {d:TypeDesc} {x:A} {v:Value} {b:Bool} (hd:P.underlying t=some d) (hf:FOk O Jm m w fet) (hx:Jy O Jm m w v x) (h:qE fet s d x=some b) :
 (s=true/\(Op.equal t v (.slice none 0 0)).run P w= .ok b w/\ ∃ a l c,v= .slice a l c)\/(s=false/\(Op.equal t v (.pointer none)).run P w= .ok b w/\ ∃ a,v= .pointer a):=by
 unfold qE at h;split at h
 .injection h with h;subst h;have hx':v= .slice none 0 0:=hx;exact .inl ⟨rfl,Abh hd (.inl ⟨hx',rfl⟩),_,_,_,hx'⟩
 .injection h with h;subst h;rename_i l;have hx':Jt O w v (.sln l):=hx;cases hx' with
  | sln h hn =>
   cases hq:l.xs.isEmpty with
   | true=>simp_all[Abh,hd,FOk,Jy,qE]
   | false =>
    cases h with
    | nil=>cases hq
    | sl0=>cases hq
    | sl vs _ _ _=>simp_all[Abh,hd,FOk,Jy,qE]
 .injection h with h;subst h;cases hx;exact .inr ⟨rfl,Afx hd (.inl ⟨rfl,rfl⟩),_,rfl⟩
 .rename_i n off;cases hr:KT fet n with
  | none=>rw[hr]at h;cases h
  | some cs =>rw[hr]at h;injection h with h;subst h;obtain⟨b,base,_,h2,_⟩:=hx.ptr hf (KN hr);exact .inr ⟨rfl,Afx hd (.inr ⟨⟨_,h2⟩,rfl⟩),_,h2⟩
 .cases h
theorem AcW {t:Nat} {x y:Bool} (hd:P.underlying t=some .bool):(Op.equal t (.bool x) (.bool y)).run P w= .ok (x==y) w:=by
 have: ∀ d,(Op.equalIn (d+1) t (.bool x) (.bool y)).run P w= .ok (x==y) w:=by intro d;simp [Op.equalIn,DD hd]
 exact this 9999
theorem qK {t:Nat} {vs:Array Value} {off:Nat} {d:TypeDesc} (hd:P.underlying t=some d) (hp:Ry d=false) (h:off<vs.size):(part t vs off).run P w= .ok (vs.getD off undef) w:=by
 have hg:vs[off]? =some (vs.getD off undef):=by rw[Dj,Dt h];rfl
 have ha:(isAgg t).run P w= .ok false w:=by simp only[isAgg,Dv,DD hd,Result.andThen_ok];cases d<;>first | rfl | cases hp
 unfold part;all_goals simp_all
theorem J4.AgV {v:Value} {b:Bool} (h:J4 O Jm m w v (.bool b)):v= .bool b:=by cases h;rfl
theorem J4.AhM {v:Value} {k:IntKind} {n:Int} (h:J4 O Jm m w v (.int k n)):v= .int k n:=by cases h;rfl
theorem J4.Aig {v:Value} {s:List UInt8} (h:J4 O Jm m w v (.str s)): ∃ b:ByteArray,v= .string b/\b.data.toList=s:=by cases h;exact⟨_,rfl,rfl⟩
theorem Adp {d ty:Nat} {k:CK} {td:TypeDesc} {a b:A} {v u:Value} (hk:(k= .bool/\td= .bool)\/(∃ i,k= .int i/\td= .int i)\/(k= .str/\td= .string)) (hd:P.underlying ty=some td) (h1:J4 O Jm m w v a) (h2:J4 O Jm m w u b) (hok:(V4 k a b).1=true) :
 (Op.equalIn (d+1) ty v u).run P w= .ok (V4 k a b).2 w:=by
 rcases hk with ⟨rfl,rfl⟩ | ⟨i,rfl,rfl⟩ | ⟨rfl,rfl⟩
 .cases a<;>first | (cases hok;done) | skip
  cases b<;>first | (cases hok;done) | skip
  rw[h1.AgV,h2.AgV];exact run_equalIn_bool' w d ty _ _ hd
 .cases a<;>first | (cases hok;done) | skip
  cases b<;>first | (cases hok;done) | skip
  rename_i j x j' y;simp only[V4,Dn]at hok;rw[h1.AhM,h2.AhM,NL hok.1,NL hok.2];exact run_equalIn_int w d ty i i _ _ hd
 .cases a<;>first | (cases hok;done) | skip
  cases b<;>first | (cases hok;done) | skip
  obtain⟨s1,e1,l1⟩:=h1.Aig;obtain⟨s2,e2,l2⟩:=h2.Aig;rw[e1,e2,run_equalIn_string w d ty _ _ hd];simp only[V4,Xk,l1,l2]
theorem Aa6 {d:Nat} {vs us:Array Value} {x y:List A} (hx:vs.size=x.length) (hy:us.size=y.length) (hxr: ∀ j,j<x.length->J4 O Jm m w (vs.getD j undef) (x.getD j .undef)) (hyr: ∀ j,j<y.length->J4 O Jm m w (us.getD j undef) (y.getD j .undef)) :
 ∀(fs:List Field) (n:Nat) (ks:List CK),Ol P fs n=some ks->(Nu ks (x.drop n) (y.drop n)).1=true->(Op.eqFields (d+1) vs us fs).run P w= .ok (Nu ks (x.drop n) (y.drop n)).2 w:=by
 intro fs
 induction fs with
 | nil =>
  intro n ks h hok;injection h with h;subst h
  have:Nu [] (x.drop n) (y.drop n)=(true,true):=by
   cases hx:x.drop n with
   | nil=>cases hy:y.drop n with
    | nil=>rfl
    | cons _ _=>rw[hx,hy]at hok;cases hok
   | cons _ _=>rw[hx]at hok;cases hok
  rw[this];rfl
 | cons f fs ih =>
  intro n ks h hok
  have key: ∀(k:CK) (td:TypeDesc) (ks':List CK),((k= .bool/\td= .bool)\/(∃ i,k= .int i/\td= .int i)\/(k= .str/\td= .string))->P.underlying f.type=some td->Ol P fs (n+1)=some ks'->(f.name != "_" &&Nat.beq f.offset n)=true->ks=k::ks' ->
   (Op.eqFields (d+1) vs us (f::fs)).run P w= .ok (Nu ks (x.drop n) (y.drop n)).2 w:=by
   intro k td ks' hk hd hf hn hks;subst hks;rw[Dn]at hn;have hnm:f.name≠ "_" :=by simpa using hn.1
   have hoff:=Dk hn.2;cases hxd:x.drop n with
   | nil=>rw[hxd]at hok;cases hok
   | cons a xr =>
    cases hyd:y.drop n with
    | nil=>rw[hxd,hyd]at hok;cases hok
    | cons b yr =>
     rw[hxd,hyd]at hok;simp only[Nu,Dn]at hok ⊢
     have hnx:n<x.length:=by
      rcases DT n x.length with h | h
      .exact h
      .rw[Fp h]at hxd;cases hxd
     have hny:n<y.length:=by
      rcases DT n y.length with h | h
      .exact h
      .rw[Fp h]at hyd;cases hyd
     have e1:x.getD n .undef=a:=by have:=congrArg List.head? hxd;rw[GL]at this;rw[Di,this];rfl
     have e2:y.getD n .undef=b:=by have:=congrArg List.head? hyd;rw[GL]at this;rw[Di,this];rfl
     have e3:x.drop (n+1)=xr:=by rw[<- Fb,hxd];rfl
     have e4:y.drop (n+1)=yr:=by rw[<- Fb,hyd];rfl
     have r1:=hxr n hnx;have r2:=hyr n hny;rw[e1]at r1;rw[e2]at r2;have hagg:Ry td=false:=by rcases hk with ⟨_,rfl⟩ | ⟨i,_,rfl⟩ | ⟨_,rfl⟩<;>rfl
     have p1:=qK (P:=P) (w:=w) (vs:=vs) (off:=n) hd hagg (by omega);have p2:=qK (P:=P) (w:=w) (vs:=us) (off:=n) hd hagg (by omega);have q:=Adp (d:=d) hk hd r1 r2 hok.1;have hrest:=ih (n+1) ks' hf (by rw[e3,e4];exact hok.2);rw[e3,e4]at hrest;simp only[Op.eqFields,hnm,ne_eq,not_false_eq_true,if_true,Dv,hoff,p1,p2,Result.andThen_ok,q];cases (V4 k a b).2 with
     | false=>simp
     | true=>simpa using hrest
  unfold Ol at h;all_goals grind
theorem sG {t:Nat} {ti:TI} (hT:Qj P t ti) {vs us:Array Value} {x y:List A} (hx:vs.size=x.length) (hy:us.size=y.length) (hxr: ∀ j,j<x.length->J4 O Jm m w (vs.getD j undef) (x.getD j .undef)) (hyr: ∀ j,j<y.length->J4 O Jm m w (us.getD j undef) (y.getD j .undef))
 (h1:ti.cmp.isEmpty=false) (h2:(Nu ti.cmp x y).1=true):P.eqGuardType P.depth t=false/\(Op.equalIn 10000 t (.agg vs) (.agg us)).run P w= .ok (Nu ti.cmp x y).2 w:=by
 have hc:=hT.cmp;have hd:=hT.d;unfold zV at hc;split at hc
 .rename_i fs hfs;split at hc
  .rename_i ks hks;cases hb:(!(P.stoodInHeld t)&& !(P.eqGuardType P.depth t))with
   | false=>grind
   | true =>
    rw[hb]at hc;simp only[cond_true]at hc;rw[hc]at h2 ⊢;rw[Dn,Eo,Eo]at hb;rw[hfs]at hd;have hf:P.fieldsOf t=fs:=by simp only[Program.fieldsOf,hd]
    refine⟨hb.2,?_⟩;rw[run_equalIn_agg w 9999 t vs us (by rw[hf];exact hd) hb.1,hf];exact Aa6 (d:=9998) hx hy hxr hyr fs.toList 0 ks hks h2
  .grind
 .grind
theorem Agb {op:BinOp} {t ty:Nat} {x y:Operand} (hC:TOk P C) (hf:FOk O Jm m w fet) (ho:o.op= .binOp op t x y ty) {x' y':A} (hx:Jy O Jm m w (a.eval x) x') (hy:Jy O Jm m w (a.eval y) y')
 (hok:Jv (Aaq C fet op t x' y').ok):Pure P O Jm m a w o (Aaq C fet op t x' y'):=by
 have fin: ∀ {v u:Value} {δ :Dl},a.eval x=v->a.eval y=u->(∀ cs,v≠ .agg cs)->v≠ .nilIface->(∃ r,(binOp op t v u).run P w= .ok r w/\Jy O Jm m w r δ.val/\ δ.new=[]/\ δ.upd=[]/\ δ.del=[])->Pure P O Jm m a w o δ :=by intro v u δ hv hu h1 h2 ⟨r,h3,h4,h5,h6,h7⟩;refine⟨⟨r,?_,h4⟩,h5,h6,h7⟩;simp only[execOp,ho,hv,hu,Dv,VD h1 h2,Result.andThen_ok,h3,Sem.run_pure]
 unfold Aaq at hok ⊢;split at hok
 .rename_i k p k' q;have h1:=hx.int;have h2:=hy.int;split at hok
  .have h0:0<=q:=by simpa [Dl.g]using hok.cons.1
   refine fin h1 h2 (by simp) (by simp) ⟨_,?_,.mkInt _ _,rfl,rfl,rfl⟩;have: ¬ q<0:=by omega
   simp [binOp,Op.shift,this]
  .have h0:0<=q:=by simpa [Dl.g]using hok.cons.1
   refine fin h1 h2 (by simp) (by simp) ⟨_,?_,.mkInt _ _,rfl,rfl,rfl⟩;have: ¬ q<0:=by omega
   simp [binOp,Op.shift,this]
  .rename_i h3 h4;cases hk:A.kEq k k' with
   | false=>rw[hk]at hok;exact(J5 hok).elim
   | true =>rw[hk]at hok;have:=NL hk;subst this;exact fin h1 h2 (by simp) (by simp) (AfZ hok t h3 h4)
 .obtain⟨s1,h1,h2⟩:=hx.str;obtain⟨s2,h3,h4⟩:=hy.str;exact fin h1 h3 (by simp) (by simp) (Aga h2 h4 hok t)
 .have h1:=hx.bool;have h2:=hy.bool;split at hok
  .unfold zS at *
   obtain⟨ti,ht,he⟩:=JI hok;rw[he]at hok ⊢;have hd:ti.d= .bool:=by have:=hok.cons.1;unfold uX at this;split at this<;>simp_all
   refine fin h1 h2 (by simp) (by simp) ⟨_,?_,.Nl _,rfl,rfl,rfl⟩;have hu:=(hC.is ht).d;rw[hd]at hu;simp only[binOp,Dv,AcW hu,Result.andThen_ok,Sem.run_pure]
  .unfold zS at *
   obtain⟨ti,ht,he⟩:=JI hok;rw[he]at hok ⊢;have hd:ti.d= .bool:=by have:=hok.cons.1;unfold uX at this;split at this<;>simp_all
   refine fin h1 h2 (by simp) (by simp) ⟨_,?_,.Nl _,rfl,rfl,rfl⟩;have hu:=(hC.is ht).d;rw[hd]at hu;simp only[binOp,Dv,AcW hu,Result.andThen_ok,Sem.run_pure]
  .exact(J5 hok).elim
 .rename_i x y;obtain⟨vs,e1,l1,r1⟩:=(show T1 O Jm m w _ (.agg x)from hx)
  obtain⟨us,e2,l2,r2⟩:=(show T1 O Jm m w _ (.agg y)from hy)
  obtain⟨ti,ht,he⟩:=JI hok;rw[he]at hok ⊢;split at hok
  .obtain⟨c1,c2⟩:=hok.cons;obtain⟨g1,g2⟩:=sG (hC.is ht) l1 l2 r1 r2 (by simpa using c1) c2.cons.1;refine⟨⟨_,?_,.Nl _⟩,rfl,rfl,rfl⟩;simp only[execOp,ho,e1,e2,Dv,run_eqGuard_agg w _ _ _ _ _ _ g1,Result.andThen_ok,run_eql_struct w,g2,Sem.run_pure]
  .obtain⟨c1,c2⟩:=hok.cons;obtain⟨g1,g2⟩:=sG (hC.is ht) l1 l2 r1 r2 (by simpa using c1) c2.cons.1;refine⟨⟨_,?_,.Nl _⟩,rfl,rfl,rfl⟩;simp only[execOp,ho,e1,e2,Dv,run_eqGuard_agg w _ _ _ _ _ _ g1,Result.andThen_ok,run_neq_struct w,g2,Sem.run_pure]
  .exact(J5 hok).elim
 .have h2:a.eval y= .slice none 0 0:=hy;split at hok
  all_goals first
   | exact(J5 hok).elim
   | (unfold vC at *
      obtain⟨ti,ht,he⟩:=JI hok;rw[he]at hok ⊢;obtain⟨b,hb,he'⟩:=J9 hok;rw[he'];have hu:=(hC.is ht).d;rcases wY hu hf hx hb with ⟨_,h3,al,l,c,h4⟩ | ⟨hs,_⟩
      .rw[h4]at h3;refine fin h4 h2 (by simp) (by simp) ⟨_,?_,.Nl _,rfl,rfl,rfl⟩;simp only[binOp,Dv,h3,Result.andThen_ok,Sem.run_pure]
      .cases hs)
 .have h2:=hy.KQ;split at hok
  all_goals first
   | exact(J5 hok).elim
   | (unfold vC at *
      obtain⟨ti,ht,he⟩:=JI hok;rw[he]at hok ⊢;obtain⟨b,hb,he'⟩:=J9 hok;rw[he'];have hu:=(hC.is ht).d;rcases wY hu hf hx hb with ⟨hs,_⟩ | ⟨_,h3,al,h4⟩
      .cases hs
      .rw[h4]at h3;refine fin h4 h2 (by simp) (by simp) ⟨_,?_,.Nl _,rfl,rfl,rfl⟩;simp only[binOp,Dv,h3,Result.andThen_ok,Sem.run_pure])
 .exact(J5 hok).elim
end
def Oe (b k n:Nat):(at' b k).add n=at' b (k+n):=by
 unfold Addr.add;split
 .grind
 .rfl
section
variable {P:Program} {C:Ctx} {O:Own} {Jm:List (Nat×Obj)} {m:Nat->Value} {a:Act} {w:World} {o:Oper} {fet:Fet}
theorem Ahy {op:UnOp} {t:Nat} {x:Operand} (ho:o.op= .unOp op t x) {x':A} (hx:Jy O Jm m w (a.eval x) x') (hok:Jv (unX op x').ok):Pure P O Jm m a w o (unX op x'):=by
 unfold unX at hok ⊢;split at hok
 .have h1:=hx.bool;exact⟨⟨_,by simp only[execOp,ho,h1,Op.unary];rfl,.Nl _⟩,rfl,rfl,rfl⟩
 .have h1:=hx.int;exact⟨⟨_,by simp only[execOp,ho,h1,Op.unary];rfl,.mkInt _ _⟩,rfl,rfl,rfl⟩
 .have h1:=hx.int;exact⟨⟨_,by simp only[execOp,ho,h1,Op.unary];rfl,.mkInt _ _⟩,rfl,rfl,rfl⟩
 .grind[J5]
theorem PQ {x:A} {n:Int} (h:int? x=some n): ∃ k,x= .int k n:=by unfold int? at h;split at h<;>simp_all
theorem gX {x:A} {s:List UInt8} (h:AbJ x=some s):x= .str s:=by unfold AbJ at h;split at h<;>simp_all
theorem dQ {d:TypeDesc} (h:dP d=true):d= .string:=by grind[dP]
theorem Aam {t:Nat} {k:Nat->IntKind->Dl} (hC:TOk P C) (hok:Jv (mX C t k).ok): ∃ n e kk te,mX C t k=k n kk/\(P.underlying t=some (.array n e))/\C.T e=some te/\te.cs=[.int kk]/\te.agg=false:=by
 unfold mX at hok ⊢;obtain⟨ti,ht,he⟩:=JI hok;rw[he]at hok ⊢;obtain⟨p,hp,he⟩:=J9 hok;rw[he]at hok ⊢;obtain⟨te,hte,he⟩:=JI hok;rw[he]at hok ⊢;cases hag:te.agg with
 | true=>rw[hag]at hok;exact(J5 hok).elim
 | false =>
  rw[hag]at hok;simp only[cond_false]at hok ⊢;obtain⟨c,hc,he⟩:=J9 hok;rw[he]at hok ⊢;obtain⟨kk,hk,he⟩:=J9 hok;rw[he]at hok ⊢;refine⟨p.1,p.2,kk,te,rfl,?_,hte,?_,hag⟩
  .rw[(hC.is ht).d];unfold Yw at hp;split at hp
   .rename_i hd;injection hp with hp;rw[hd,<- hp]
   .cases hp
  .have e1:te.cs=[c]:=by unfold one? at hc;split at hc<;>simp_all
   have e2:c= .int kk:=by unfold AgX at hk;split at hk<;>simp_all
   rw[e1,e2]
theorem Abi {cs:List A} {kk:IntKind} {n:Int} {m:Nat} (h:Jv [cs.all (A.isI kk),Nat.beq cs.length m,decide (0<=n),decide (n<(m:Int))]):cs.length=m/\0<=n/\n<(m:Int)/\n.toNat<cs.length/\cs.getD n.toNat .undef= .int kk (YU cs n):=by
 obtain⟨h1,h2⟩:=h.cons;obtain⟨h2,h3⟩:=h2.cons;obtain⟨h3,h4⟩:=h3.cons;have h4:n<(m:Int):=by simpa using h4.cons.1
 have h3:0<=n:=by simpa using h3
 have h2:=Dk h2;have hlt:n.toNat<cs.length:=by omega
 refine⟨h2,h3,h4,hlt,?_⟩;have h5:=DK.1 h1 cs[n.toNat] (EE hlt);have e:YU cs n=cs[n.toNat].toI:=by simp [YU,Di,hlt]
 rw[e,Di,D9 hlt];generalize cs[n.toNat]=c at h5
 cases c<;>first
  | (rename_i k' x;have:=NL (show A.kEq kk k'=true from h5);subst this;rfl)
  | cases h5
theorem AdF {t:Nat} {x i:Operand} (hC:TOk P C) (ho:o.op= .index t x i) {x' i':A} (hx:Jy O Jm m w (a.eval x) x') (hi:Jy O Jm m w (a.eval i) i')
 (hok:Jv (pJ C t x' i').ok):Pure P O Jm m a w o (pJ C t x' i'):=by
 unfold pJ at hok ⊢;obtain⟨n,hn,he⟩:=J9 hok;rw[he]at hok ⊢;clear he;obtain⟨k,rfl⟩:=PQ hn;split at hok
 .rename_i cs;obtain⟨m',e,kk,te,he,hu,hte,hcs,hag⟩:=Aam hC hok;rw[he]at hok ⊢;obtain⟨h1,h2,h3,h4,h5⟩:=Abi hok;obtain⟨vs,g1,g2,g3⟩:=hx;have h6:Jt O w (vs.getD n.toNat undef) (.int kk (YU cs n)):=by have:=g3 n.toNat h4;rw[h5]at this;exact this
  have h6:vs.getD n.toNat undef= .int kk (YU cs n):=by generalize vs.getD n.toNat undef=z at h6;cases h6;rfl
  have hi:=hi.int;have hs:=(hC.is hte).MQ w;have hag':=(hC.is hte).AbG w;rw[hag]at hag';have hlt:n.toNat<vs.size:=by omega
  have hg6:vs[n.toNat]? =some (.int kk (YU cs n)):=by rw[Dj,Dt hlt]at h6;rw[Dt hlt];exact congrArg some h6
  have hrun:=DD hu w;refine⟨⟨.int kk (YU cs n),?_,.mkInt _ _⟩,rfl,rfl,rfl⟩;simp [execOp,ho,Instr.index,hi,asIntOf,hrun,g1,h2,h3,hs,hcs,part,hag',hg6]
 .rename_i y _;obtain⟨s,hs,he⟩:=J9 hok;rw[he]at hok ⊢;obtain⟨ti,ht,he⟩:=JI hok;rw[he]at hok ⊢;have:=gX hs;subst this;obtain⟨h1,h2⟩:=hok.cons;obtain⟨h2,h3⟩:=h2.cons;have h3:=h3.cons.1;have hd:=dQ h1;have hu:=(hC.is ht).run w;rw[hd]at hu;have hi:=hi.int;obtain⟨b,hb,hl⟩:=hx.str;have h2:0<=n:=by simpa using h2
  have h3:n<(s.length:Int):=by simpa using h3
  obtain⟨j,rfl⟩:=Ej h2;have hj:j<b.size:=by rw[Pz,hl];omega
  refine⟨⟨.int .u8 (b[j].toNat:Int),?_,?_⟩,rfl,rfl,rfl⟩
  .simp [execOp,ho,Instr.index,hi,hb,asIntOf,hu,hj]
  .have:s.getD (Int.ofNat j).toNat 0=b[j]:=by
    subst hl;show b.data.toList.getD j 0=b[j];rw[Di,D9 (by rw[<- Pz];exact hj)];obtain⟨⟨l⟩⟩:=b;rfl
   simp only[Dl.g];rw[show((j:Int)).toNat=(Int.ofNat j).toNat from rfl,this];exact .mkInt _ _
def ORl (O:Own) (Jm:List (Nat×Obj)) (m:Nat->Value) (w:World):Option Value->Option A->Prop
 | none,none=>True
 | some v,some x=>Jy O Jm m w v x
 | _,_=>False
theorem Pv {isS:Bool} {len cap:Nat} {lo hi:Option Value} {lo' hi':Option A} (hl:ORl O Jm m w lo lo') (hh:ORl O Jm m w hi hi') (hc:len<=cap) {r:List Bool×Nat×Nat} (h:bM len lo' hi'=some r) (hok:Jv r.1) :
 (Instr.sliceBounds isS len cap lo hi none).run P w= .ok (r.2.1,r.2.2,cap) w/\r.2.1<=r.2.2/\r.2.2<=len:=by
 unfold bM at h;split at h
 .injection h with h;subst h;cases lo<;>cases hi<;>simp [ORl]at hl hh;simp [Instr.sliceBounds]
 .injection h with h;subst h;cases lo<;>cases hi<;>simp only[ORl]at hl hh;obtain⟨h1,h2⟩:=hok.cons;have h2:=h2.cons.1;simp at h1 h2;have hl:=hl.int;rename_i q _ _ _;obtain⟨j,rfl⟩:=Ej h1;have:j<=len:=by simpa using h2
  simp [Instr.sliceBounds,Instr.sliceBound,hl,asIntOf,this]
 .injection h with h;subst h;cases lo<;>cases hi<;>simp only[ORl]at hl hh;obtain⟨h1,h2⟩:=hok.cons;have h2:=h2.cons.1;simp at h1 h2;have hh:=hh.int;rename_i q _ _ _;obtain⟨j,rfl⟩:=Ej h1;have:j<=len:=by simpa using h2
  have h3:j<=cap:=by omega
  simp [Instr.sliceBounds,Instr.sliceBound,hh,asIntOf,h3,this]
 .injection h with h;subst h;cases lo<;>cases hi<;>simp only[ORl]at hl hh;obtain⟨h1,h2⟩:=hok.cons;obtain⟨h2,h3⟩:=h2.cons;have h3:=h3.cons.1;simp at h1 h2 h3;have hl:=hl.int;have hh:=hh.int;rename_i p _ q _ _ _;obtain⟨j,rfl⟩:=Ej h1;obtain⟨i,rfl⟩:=Ej (Int.le_trans h1 h2);have h4:i<=len:=by simpa using h3
  have h5:j<=i:=by simpa using h2
  have h6:i<=cap:=by omega
  simp [Instr.sliceBounds,Instr.sliceBound,hl,hh,asIntOf,h4,h5,h6]
 .cases h
theorem jW (s:ByteArray) (i j:Nat):(s.extract i j).data.toList=J7 s.data.toList i j:=by simp [J7,ByteArray.data_extract,List.drop_take]
end
end Go.Proofs.YtpaimpmokhihmaaGreatDoor.Vm
