/-
  CertextCheck: the law returns true whatever the input; machine, functions, plain law (part 3 of 47.)
-/
import Derived.Test.YtadefjgbcapakaaGreatDoorA2
import Derived.Laws.Sem
import Derived.WalkKit
import Derived.Laws.IdiomCopy
import Derived.Laws.Cells
import Derived.Laws.Rows
import Derived.Laws.IdiomStrings
import Derived.Deep.MidRow
import Derived.ChangeKeysEq
import Derived.Lib.SmallJoins
import Derived.Lib.IndexBytes
set_option linter.unusedVariables false
set_option linter.unusedSimpArgs false
namespace Go.Proofs.YtadefjgbcapakaaGreatDoor.Vm
def Eg (P:Program):Nat→Nat→Option (List CK)
  | 0,_=>none
  | n+1,t=>match P.underlying t with
    | some .bool=>some [.bool]
    | some (.int k)=>some [.int k]
    | some .string=>some [.str]
    | some (.slice e)=>match Eg P n e with
      | some cs=>bif cs.all CK.plain then some [.sl e (tyl cs)]else some [.oth]
      | none=>some [.oth]
    | some (.pointer _)=>some [.ptr]
    | some (.struct fs)=>fs.toList.foldr (fun f acc=>match Eg P n f.type,acc with | some a,some b=>some (a++b) | _,_=>none) (some [])
    | some (.array m e)=>match Eg P n e with
      | some a=>bif Nat.ble (m*a.length) 4096 then some ((List.replicate m a).flatten)else none
      | none=>none
    | some (.tuple _)=>none
    | some (.func _ _ _)=>some [.fn]
    | some _=>some [.oth]
    | none=>none
def BD:List Value→List CK→Bool
  | [],[]=>true
  | .bool false::vs,.bool::ks=>BD vs ks
  | .int k 0::vs,.int k'::ks=>A.kEq k k'&&BD vs ks
  | .string s::vs,.str::ks=>s.data.toList.isEmpty&&BD vs ks
  | .slice none 0 0::vs,.sl _ _::ks=>BD vs ks
  | .pointer none::vs,.ptr::ks=>BD vs ks
  | .nilFunc::vs,.fn::ks=>BD vs ks
  | v::vs,.oth::ks=>v.oneCell'&&BD vs ks
  | _,_=>false
def Ro:TypeDesc→Bool
  | .struct _ | .array _ _=>true
  | _=>false
def XO:Value→Bool
  | .agg _=>true
  | _=>false
def OU (P:Program):List Field→Nat→Option (List CK)
  | [],_=>some []
  | f::r,n=>match P.underlying f.type,OU P r (n+1)with
    | some .bool,some ks=>bif f.name != "_" &&Nat.beq f.offset n then some (.bool::ks)else none
    | some (.int k),some ks=>bif f.name != "_" &&Nat.beq f.offset n then some (.int k::ks)else none
    | some .string,some ks=>bif f.name != "_" &&Nat.beq f.offset n then some (.str::ks)else none
    | _,_=>none
def Aid (P:Program) (t:Nat):TypeDesc→List CK
  | .struct fs=>match OU P fs.toList 0 with
    | some ks=>bif !(P.stoodInHeld t)&& !(P.eqGuardType P.depth t)then ks else []
    | none=>[]
  | _=>[]
def Aj1 (P:Program) (t:Nat):Option TI :=
  match P.underlying t,P.info? t,Eg P 20 t with
  | some d,some i,some cs=>match i.zero with
    | some z=>bif Nat.beq i.size cs.length&&BD z.cells.toList cs&&(Ro d==XO z)then some ⟨d,cs,i.bytes,Aid P t d⟩else none
    | none=>none
  | _,_,_=>none
abbrev Own:=Nat→Nat→Option Nat
abbrev at' (b k:Nat):Addr:=⟨b,k,none⟩
inductive Am (O:Own) (w:World):Value→A→Prop
  | bool (b:Bool):Am O w (.bool b) (.bool b)
  | int (k:IntKind) (n:Int):Am O w (.int k n) (.int k n)
  | str (s:ByteArray):Am O w (.string s) (.str s.data.toList)
  | nil (t:Ty):Am O w (.slice none 0 0) (.sl ⟨t,[]⟩)
  | sl {b off cap:Nat} {l:Sl} (vs:Nat→Nat→Value) (hc:l.es.length≤cap)
      (hm: ∀ i j,i<l.es.length→j<l.sz→O b (off+(i*l.sz+j))=none∧w.cell? (at' b (off+(i*l.sz+j)))=some (vs i j))
      (hr: ∀ i j,i<l.es.length→j<l.sz→Am O w (vs i j) ((l.es.getD i []).getD j .undef)):Am O w (.slice (some (at' b off)) l.es.length cap) (.sl l)
  | sln {v:Value} {l:Sl} (h:Am O w v (.sl l)) (hn:l.xs=[]→v= .slice none 0 0):Am O w v (.sln l)
  | Dw:Am O w (.pointer none) .Dw
  | fn (f:Nat):Am O w (.func (.func f) #[] #[]) (.fn (f+1))
  | VM:Am O w .nilFunc (.fn 0)
  | sl0 (a:Addr) (t:Ty):Am O w (.slice (some a) 0 0) (.sl ⟨t,[]⟩)
def Ep (O:Own) (w:World) (O':Own) (w':World):Prop:= ∀ b k u,O b k=none→w.cell? (at' b k)=some u→O' b k=none∧w'.cell? (at' b k)=some u
def Inv (O:Own) (w:World):Prop:=(∀ g j p,Aof g j=some p→O g j=none∧ ∃ v,w.cell? (at' g j)=some v∧p v)∧ ∀ g n,Aoe g=some n→ ∃ c e fr,w.heap[g]? =some (.cells c e fr)∧c.size=n
theorem Am.Bj {O O':Own} {w w':World} (hp:Ep O w O' w') {v:Value} {a:A} (h:Am O w v a):Am O' w' v a:=by
  induction h with
  | bool b=>exact .bool b
  | int k n=>exact .int k n
  | str s=>exact .str s
  | nil t=>exact .nil t
  | sl vs hc hm hr ih =>
    refine .sl vs hc (fun i j hi hj=> ?_) (fun i j hi hj=>ih i j hi hj)
    obtain⟨h1,h2⟩:=hm i j hi hj
    exact hp _ _ _ h1 h2
  | sln h hn ih=>exact .sln ih hn
  | Dw=>exact .Dw
  | fn f=>exact .fn f
  | VM=>exact .VM
  | sl0 a t=>exact .sl0 a t
inductive Shp where
  | box
  | arr (sz len:Nat)
  | mp
def Obj.shp:Obj→Shp
  | .box _=>.box
  | .arr _ _ l=>.arr l.sz l.es.length
  | .mp _=>.mp
def Es (w:World) (g:Nat) (cur:Array Value) (e:TypeId):Prop:= ∃ fr,w.heap[g]? =some (.cells cur e fr)∧(fr=(0,0)∨cur.size≤fr.1)
theorem Es.cell {w:World} {g:Nat} {cur:Array Value} {e:TypeId} (h:Es w g cur e) (k:Nat):w.cell? (at' g k)=cur[k]? :=by
  obtain⟨fr,h1,_⟩:=h
  simp [World.cell?,h1]
theorem Es.frozen {w:World} {g:Nat} {cur:Array Value} {e:TypeId} (h:Es w g cur e) {k:Nat} (hk:k<cur.size):w.frozen? (at' g k)=false:=by
  obtain⟨fr,h1,h2⟩:=h
  simp only[World.frozen?,h1]
  rcases h2 with h2 | h2
  ·subst h2;simp
  ·simp;omega
theorem Es.lt {w:World} {g:Nat} {cur:Array Value} {e:TypeId} (h:Es w g cur e):g<w.heap.size:=by
  obtain⟨fr,h1,_⟩:=h
  exact(Array.getElem?_eq_some_iff.1 h1).1
theorem Es.same {w w':World} {g:Nat} {cur:Array Value} {e:TypeId} (h:Es w g cur e) (hb:w'.heap[g]? =w.heap[g]?):Es w' g cur e:=by
  obtain⟨fr,h1,h2⟩:=h
  exact⟨fr,by rw[hb];exact h1,h2⟩
theorem Es.inj {w:World} {g:Nat} {cur cur':Array Value} {e e':TypeId} (h:Es w g cur e) (h':Es w g cur' e'):cur=cur'∧e=e':=by
  obtain⟨fr,h1,_⟩:=h
  obtain⟨fr',h1',_⟩:=h'
  rw[h1]at h1'
  injection h1' with h1';injection h1' with a b c
  exact⟨a,b⟩
def Ee (O:Own) (w:World) (v:Value):A→Prop
  | .agg cs=> ∃ vs:Array Value,v= .agg vs∧vs.size=cs.length∧ ∀ j,j<cs.length→Am O w (vs.getD j undef) (cs.getD j .undef)
  | a=>Am O w v a
theorem Ee.Bj {O O':Own} {w w':World} (hp:Ep O w O' w') {v:Value} {a:A} (h:Ee O w v a):Ee O' w' v a:=by
  cases a with
  | agg cs=>obtain⟨vs,h1,h2,h3⟩:=h;exact⟨vs,h1,h2,fun j hj=>(h3 j hj).Bj hp⟩
  | _=>exact Am.Bj hp h
def FB (O:Own) (w:World) (o:Nat) (v:Value) (l:Mp):Prop :=
  ∃ r es ck,v= .map (some r)∧w.heap[r]? =some (.map es ck)∧O r 0=some o∧es.size=l.l.length ∧
    ∀(i:Nat) (p:l.kt.Val×l.vt.Val),l.l[i]? =some p→ ∃ e,es[i]? =some e∧Ee O w e.key (Fj (l.kt.cells p.1))∧Ee O w e.val (Fj (l.vt.cells p.2))
section
variable (O:Own) (Aa:List (Nat×Obj)) (m:Nat→Value) (w:World)
def AV (v:Value):A→Prop
  | .undef=>v.oneCell'=true
  | .CJ=>v= .slice none 0 0
  | .ptr o off=>v.oneCell'=true∧match (Ai Aa o).map Obj.shp with
    | some .box=> ∃ b base,m o= .pointer (some (at' b base))∧v= .pointer (some (at' b (base+off)))
    | _=>True
  | .own o=>v.oneCell'=true∧match (Ai Aa o).map Obj.shp with
    | some (.arr _ _)=>v=m o
    | some .mp=>v=m o
    | _=>True
  | .CB o i off=>v.oneCell'=true∧match (Ai Aa o).map Obj.shp with
    | some (.arr sz len)=>i<len→ ∃ g n cap,m o= .slice (some (at' g 0)) n cap∧v= .pointer (some (at' g (i*sz+off)))
    | _=>True
  | .elt cs=> ∃ b off,v= .pointer (some (at' b off))∧ ∀ j,j<cs.length→O b (off+j)=none∧ ∃ u,w.cell? (at' b (off+j))=some u∧Am O w u (cs.getD j .undef)
  | .fn f=>Am O w v (.fn f)
  | .bool b=>Am O w v (.bool b)
  | .int k n=>Am O w v (.int k n)
  | .str s=>Am O w v (.str s)
  | .sl l=>Am O w v (.sl l)
  | .sln l=>Am O w v (.sln l)
  | .Dw=>Am O w v .Dw
  | _=>False
def T1 (v:Value):A→Prop
  | .agg cs=> ∃ vs:Array Value,v= .agg vs∧vs.size=cs.length∧ ∀ j,j<cs.length→AV O Aa m w (vs.getD j undef) (cs.getD j .undef)
  | a=>AV O Aa m w v a
def AB (v:Value):A→Prop
  | .undef=>True
  | .tup l=> ∃ vs:Array Value,v= .tuple vs∧vs.size=l.length∧ ∀ j,j<l.length→T1 O Aa m w (vs.getD j undef) (l.getD j .undef)
  | .cnd g a=>(g=true→T1 O Aa m w v a)∧(g=false→v=undef)
  | a=>T1 O Aa m w v a
def Dc (o:Nat):Obj→Prop
  | .box cs=> ∃ b base,m o= .pointer (some (at' b base))∧ ∀ j,j<cs.length→O b (base+j)=some o∧w.frozen? (at' b (base+j))=false ∧
      ∃ u,w.cell? (at' b (base+j))=some u∧AV O Aa m w u (cs.getD j .undef)
  | .arr e frz l=>(∀ x∈l.es,x.length=l.sz)∧((True∧l.es=[]∧m o= .slice none 0 0) ∨
      (True∧ ∃ g cap cur,m o= .slice (some (at' g 0)) l.es.length cap∧Es w g cur e∧l.es.length≤cap∧cap≤maxLen∧cur.size=cap*l.sz ∧
        (∀ i j,i<l.es.length→j<l.sz→ ∃ u,cur[i*l.sz+j]? =some u∧Am O w u ((l.es.getD i []).getD j .undef)) ∧
        (∀ k,k<cur.size→l.es.length*l.sz≤k→O g k=some o)∧(∀ k,k<l.es.length*l.sz→O g k=if frz then none else some o)))
  | .mp l=>FB O w o (m o) l
end
structure Moves (O:Own) (T:Nat→Prop) (w w':World):Prop where
  os:w'.os=w.os
  tape:w'.tape=w.tape
  output:w'.output=w.output
  size:w.heap.size≤w'.heap.size
  blk: ∀ b,b<w.heap.size→w'.heap[b]? =w.heap[b]? ∨(∃ c c' e fr,w.heap[b]? =some (.cells c e fr)∧w'.heap[b]? =some (.cells c' e fr)∧c'.size=c.size ∧
    (∀ k,(∀ o,O b k=some o→ ¬ T o)→c'[k]? =c[k]?)∧ ∃ k o,k<c.size∧O b k=some o∧T o) ∨
    ∃ es ck es' ck' o,w.heap[b]? =some (.map es ck)∧w'.heap[b]? =some (.map es' ck')∧O b 0=some o∧T o
theorem Moves.refl (O:Own) (T:Nat→Prop) (w:World):Moves O T w w:=⟨rfl,rfl,rfl,Nat.le_refl _,fun _ _=>.inl rfl⟩
theorem cell_lt {w:World} {b k:Nat} {u:Value} (h:w.cell? (at' b k)=some u):b<w.heap.size:=by
  rcases Nat.lt_or_ge b w.heap.size with hb | hb
  ·exact hb
  ·simp [World.cell?,Array.getElem?_eq_none hb]at h
theorem Moves.cell {O:Own} {T:Nat→Prop} {w w':World} (h:Moves O T w w') {b k:Nat} (hb:b<w.heap.size) (hk: ∀ o,O b k=some o→ ¬ T o) :
    w'.cell? (at' b k)=w.cell? (at' b k):=by
  rcases h.blk b hb with he | ⟨c,c',e,fr,h1,h2,_,h4,_⟩ | ⟨es,ck,es',ck',o,h1,h2,_,_⟩
  ·simp [World.cell?,he]
  ·simp [World.cell?,h1,h2,h4 k hk]
  ·simp [World.cell?,h1,h2]
theorem Moves.frozen {O:Own} {T:Nat→Prop} {w w':World} (h:Moves O T w w') {b k:Nat} (hb:b<w.heap.size):w'.frozen? (at' b k)=w.frozen? (at' b k):=by
  rcases h.blk b hb with he | ⟨c,c',e,fr,h1,h2,_,_,_⟩ | ⟨es,ck,es',ck',o,h1,h2,_,_⟩
  ·simp [World.frozen?,he]
  ·simp [World.frozen?,h1,h2]
  ·simp [World.frozen?,h1,h2]
structure Passes (O O':Own) (T:Nat→Prop) (n:Nat):Prop where
  none: ∀ b k,b<n→O b k=none→O' b k=none
  keep: ∀ b k o,b<n→O b k=some o→ ¬ T o→O' b k=some o
theorem Moves.Bj {O O':Own} {T:Nat→Prop} {w w':World} (h:Moves O T w w') (hp:Passes O O' T w.heap.size):Ep O w O' w':=by
  intro b k u hn hc
  have hb:=cell_lt hc
  exact⟨hp.none b k hb hn,by rw[h.cell hb (fun o ho=>by rw[hn]at ho;cases ho)];exact hc⟩
def Hr (Aa:List (Nat×Obj)) (m:Nat→Value) (objs':List (Nat×Obj)) (m':Nat→Value) (Nw:Nat→Prop):Prop :=
  ∀ o x',Ai objs' o=some x'→Nw o∨ ∃ x,Ai Aa o=some x∧x.shp=x'.shp∧m' o=m o
theorem AV.step {O O':Own} {Aa objs':List (Nat×Obj)} {m m':Nat→Value} {w w':World} {Nw:Nat→Prop} (hp:Ep O w O' w') (he:Hr Aa m objs' m' Nw)
    {v:Value} {a:A} (hn: ∀ o∈a.FK,¬ Nw o) (h:AV O Aa m w v a):AV O' objs' m' w' v a:=by
  have key: ∀ o,o∈a.FK→ ∀ x',Ai objs' o=some x'→ ∃ x,Ai Aa o=some x∧x.shp=x'.shp∧m' o=m o :=
    fun o ho x' hx=>(he o x' hx).resolve_left (hn o ho)
  cases a with
  | undef=>exact h
  | CJ=>exact h
  | ptr o off =>
    simp only[AV]at *
    refine⟨h.1,?_⟩
    have h:=h.2
    cases hx:Ai objs' o with
    | none=>simp
    | some x' =>
      obtain⟨x,h1,h2,h3⟩:=key o (by simp [A.FK]) x' hx
      rw[h1]at h;simp only[Option.map_some,h2]at h;simp only[Option.map_some,h3];exact h
  | own o =>
    simp only[AV]at *
    refine⟨h.1,?_⟩
    have h:=h.2
    cases hx:Ai objs' o with
    | none=>simp
    | some x' =>
      obtain⟨x,h1,h2,h3⟩:=key o (by simp [A.FK]) x' hx
      rw[h1]at h;simp only[Option.map_some,h2]at h;simp only[Option.map_some,h3];exact h
  | CB o i off =>
    simp only[AV]at *
    refine⟨h.1,?_⟩
    have h:=h.2
    cases hx:Ai objs' o with
    | none=>simp
    | some x' =>
      obtain⟨x,h1,h2,h3⟩:=key o (by simp [A.FK]) x' hx
      rw[h1]at h;simp only[Option.map_some,h2]at h;simp only[Option.map_some,h3];exact h
  | elt cs =>
    obtain⟨b,off,hv,hc⟩:=h
    refine⟨b,off,hv,fun j hj=> ?_⟩
    obtain⟨h1,u,h2,h3⟩:=hc j hj
    obtain⟨h4,h5⟩:=hp _ _ _ h1 h2
    exact⟨h4,u,h5,h3.Bj hp⟩
  | fn f=>exact Am.Bj hp h
  | ump _=>exact h
  | bool b=>exact Am.Bj hp h
  | int k n=>exact Am.Bj hp h
  | str s=>exact Am.Bj hp h
  | sl l=>exact Am.Bj hp h
  | sln l=>exact Am.Bj hp h
  | Dw=>exact Am.Bj hp h
  | usl _ _=>exact h
  | agg _=>exact h
  | tup _=>exact h
  | box _=>exact h
  | cnd _ _=>exact h
theorem KY {α β :Type} {f: α →List β} {l:List α} {d: α} {j:Nat} (hj:j<l.length) {x: β} (hx:x∈f (l.getD j d)):x∈l.flatMap f:=by
  refine List.mem_flatMap.2 ⟨l.getD j d,?_,hx⟩
  rw[List.getD_eq_getElem?_getD,List.getElem?_eq_getElem hj];simp
theorem T1.step {O O':Own} {Aa objs':List (Nat×Obj)} {m m':Nat→Value} {w w':World} {Nw:Nat→Prop} (hp:Ep O w O' w') (he:Hr Aa m objs' m' Nw)
    {v:Value} {a:A} (hn: ∀ o∈a.AlK,¬ Nw o) (h:T1 O Aa m w v a):T1 O' objs' m' w' v a:=by
  cases a with
  | agg cs =>
    obtain⟨vs,h1,h2,h3⟩:=h
    exact⟨vs,h1,h2,fun j hj=>(h3 j hj).step hp he fun o ho=>hn o (KY hj ho)⟩
  | cnd g a=>exact h
  | _ =>
    simp only[T1]at h ⊢
    refine AV.step hp he ?_ h
    exact hn
theorem AB.step {O O':Own} {Aa objs':List (Nat×Obj)} {m m':Nat→Value} {w w':World} {Nw:Nat→Prop} (hp:Ep O w O' w') (he:Hr Aa m objs' m' Nw)
    {v:Value} {a:A} (hn: ∀ o∈a.ids,¬ Nw o) (h:AB O Aa m w v a):AB O' objs' m' w' v a:=by
  cases a with
  | undef=>trivial
  | tup l =>
    obtain⟨vs,h1,h2,h3⟩:=h
    exact⟨vs,h1,h2,fun j hj=>(h3 j hj).step hp he fun o ho=>hn o (KY hj ho)⟩
  | cnd g a =>
    refine⟨fun hg=> ?_,h.2⟩
    have h':=h.1 hg
    cases a with
    | cnd _ _=>exact h'
    | _=>exact T1.step hp he hn h'
  | _ =>
    simp only[AB]at h ⊢
    refine T1.step hp he ?_ h
    exact hn
theorem FB.step {O O':Own} {w w':World} {T:Nat→Prop} (hm:Moves O T w w') (hp:Passes O O' T w.heap.size) {o:Nat} {v:Value} {l:Mp} (ho: ¬ T o) (h:FB O w o v l):FB O' w' o v l:=by
  obtain⟨r,es,ck,h1,h2,h3,h4,h5⟩:=h
  have hr:r<w.heap.size:=(Array.getElem?_eq_some_iff.1 h2).1
  refine⟨r,es,ck,h1,?_,hp.keep _ _ _ hr h3 ho,h4,fun i p hip=> ?_⟩
  ·rcases hm.blk r hr with he | ⟨c,c',e,fr,g1,_⟩ | ⟨es1,ck1,es',ck',o',g1,g2,g3,g4⟩
   ·rw[he];exact h2
   ·rw[h2]at g1;injection g1 with g1;cases g1
   ·rw[h3]at g3;injection g3 with g3;subst g3;exact absurd g4 ho
  ·obtain⟨e,k1,k2,k3⟩:=h5 i p hip
   exact⟨e,k1,k2.Bj (hm.Bj hp),k3.Bj (hm.Bj hp)⟩
theorem Dc.step {O O':Own} {Aa objs':List (Nat×Obj)} {m m':Nat→Value} {w w':World} {Nw T:Nat→Prop} (hm:Moves O T w w') (hp:Passes O O' T w.heap.size) (he:Hr Aa m objs' m' Nw)
    {o:Nat} {x:Obj} (ho: ¬ T o) (hmo:m' o=m o) (hn: ∀ i∈x.ids,¬ Nw i) (h:Dc O Aa m w o x):Dc O' objs' m' w' o x:=by
  have hpr:=hm.Bj hp
  cases x with
  | box cs =>
    obtain⟨b,base,h1,h2⟩:=h
    refine⟨b,base,by rw[hmo];exact h1,fun j hj=> ?_⟩
    obtain⟨h3,h4,u,h5,h6⟩:=h2 j hj
    have hb:=cell_lt h5
    refine⟨hp.keep _ _ _ hb h3 ho,by rw[hm.frozen hb];exact h4,u,?_,h6.step hpr he fun i hi=>hn i (KY hj hi)⟩
    rw[hm.cell hb (fun o' ho'=>by rw[h3]at ho';injection ho' with ho';subst ho';exact ho)];exact h5
  | arr e frz l =>
    obtain⟨h0,h⟩:=h
    refine⟨h0,?_⟩
    rcases h with ⟨h1,h2,h3⟩ | ⟨h1,g,cap,cur,h2,h3,h4,h5,h6,h7,h8,h9⟩
    ·exact .inl ⟨h1,h2,by rw[hmo];exact h3⟩
    ·refine .inr ⟨h1,g,cap,cur,by rw[hmo];exact h2,?_,h4,h5,h6,?_,?_,?_⟩
     ·have hg:g<w.heap.size:=h3.lt
      rcases hm.blk g hg with hE | ⟨c,c',e',fr,hA,hB,hC,hD,k,o',hk,hK,hT⟩ | ⟨es1,ck1,es',ck',o',g1,_⟩
      ·exact h3.same hE
      ·obtain⟨fr0,h3,_⟩:=h3
       rw[h3]at hA
       injection hA with hA;injection hA with hA1 hA2 hA3
       subst hA1
       exfalso
       rcases Nat.lt_or_ge k (l.es.length*l.sz)with hlt | hge
       ·have:=h9 k hlt
        rw[hK]at this
        cases frz
        ·simp at this;subst this;exact ho hT
        ·simp at this
       ·have:=h8 k hk hge
        rw[hK]at this;injection this with this;subst this;exact ho hT
      ·obtain⟨fr0,h3,_⟩:=h3
       rw[h3]at g1;injection g1 with g1;cases g1
     ·intro i j hi hj
      obtain⟨u,hu,hr⟩:=h7 i j hi hj
      exact⟨u,hu,hr.Bj hpr⟩
     ·intro k hk hge
      have hg:g<w.heap.size:=h3.lt
      exact hp.keep _ _ _ hg (h8 k hk hge) ho
     ·intro k hk
      have hg:g<w.heap.size:=h3.lt
      have:=h9 k hk
      cases frz
      ·simp at this ⊢;exact hp.keep _ _ _ hg this ho
      ·simp at this ⊢;exact hp.none _ _ hg this
  | mp l =>
    have h:FB O w o (m o) l:=h
    show FB O' w' o (m' o) l
    rw[hmo];exact h.step hm hp ho
theorem KZ (a b:Nat):Nat.beq a b=decide (a=b):=by
  cases h:Nat.beq a b with
  | true=>simp [Nat.eq_of_beq_eq_true h]
  | false=>simp [Nat.ne_of_beq_eq_false h]
theorem Cm (q:Nat) (x:Obj) (r:List (Nat×Obj)) (k:Nat):Ai ((q,x)::r) k=if q=k then some x else Ai r k:=by
  simp only[Ai,KZ];by_cases h:q=k<;>simp [h]
theorem fC (q:Nat) (x:Obj) (r:List (Nat×Obj)) (n:Nat):IM ((q,x)::r) n=if q=n then IM r n else(q,x)::IM r n:=by
  simp only[IM,KZ];by_cases h:q=n<;>simp [h]
theorem QX (l:List (Nat×Obj)) (n k:Nat):Ai (IM l n) k=if k=n then none else Ai l k:=by
  induction l with
  | nil=>simp [IM,Ai]
  | cons p r ih =>
    obtain⟨q,x⟩:=p
    rw[fC]
    by_cases hq:q=n
    ·rw[if_pos hq,ih,Cm]
     by_cases hk:k=n
     ·simp [hk]
     ·have:q≠k:=fun e=>hk (by omega)
      simp [hk,this]
    ·rw[if_neg hq,Cm,Cm,ih]
     by_cases hk:q=k
     ·have:k≠n:=by omega
      simp [hk,this]
     ·simp [hk]
theorem Aj6 (l:List (Nat×Obj)) (n:Nat) (y:Obj) (k:Nat) (hn:Ai l n=none):Ai (RX l n y) k=if k=n then some y else Ai l k:=by
  induction l with
  | nil =>
    simp only[RX,Cm]
    by_cases h:n=k
    ·simp [h]
    ·have:k≠n:=by omega
     simp [h,this]
  | cons p r ih =>
    obtain⟨q,x⟩:=p
    rw[Cm]at hn
    have hqn:q≠n:=fun e=>by simp [e]at hn
    rw[if_neg hqn]at hn
    simp only[RX]
    cases hle:Nat.ble n q with
    | true =>
      simp only[cond_true,Cm]
      by_cases h:n=k
      ·simp [h]
      ·have:k≠n:=by omega
       simp [h,this]
    | false =>
      simp only[cond_false,Cm,ih hn]
      by_cases h:q=k
      ·have:k≠n:=by omega
       simp [h,this]
      ·simp [h]
theorem Bv (l:List (Nat×Obj)) (n:Nat) (y:Obj) (k:Nat):Ai (C9 l n y) k=if k=n then some y else Ai l k:=by
  unfold C9
  rw[Aj6 _ _ _ _ (by simp [QX]),QX]
  by_cases h:k=n<;>simp [h]
theorem JW (d:List Nat): ∀(l:List (Nat×Obj)) (k:Nat),Ai (Bl l d) k=if k∈d then none else Ai l k:=by
  induction d with
  | nil=>intro l k;simp [Bl]
  | cons n r ih =>
    intro l k
    rw[Bl,ih,QX]
    by_cases h:k∈r
    ·simp [h]
    ·by_cases h':k=n<;>simp [h,h']
theorem Di (u:List (Nat×Obj)): ∀(l:List (Nat×Obj)) (k:Nat),(∀ p∈u,p.1≠k)→Ai (Au l u) k=Ai l k:=by
  induction u with
  | nil=>intro l k _;rfl
  | cons p r ih =>
    obtain⟨n,x⟩:=p
    intro l k h
    rw[Au,ih _ _ (fun p hp=>h p (List.mem_cons_of_mem _ hp)),Bv]
    have:k≠n:=fun e=>h (n,x) (List.mem_cons_self) e.symm
    simp [this]
theorem Et (u:List (Nat×Obj)): ∀(l:List (Nat×Obj)) (k:Nat),(∃ p∈u,p.1=k)→ ∃ x,(k,x)∈u∧Ai (Au l u) k=some x:=by
  induction u with
  | nil=>intro l k ⟨p,hp,_⟩;cases hp
  | cons p r ih =>
    obtain⟨n,x⟩:=p
    intro l k h
    by_cases hr: ∃ p∈r,p.1=k
    ·obtain⟨y,hy,he⟩:=ih (C9 l n x) k hr
     exact⟨y,List.mem_cons_of_mem _ hy,he⟩
    ·obtain⟨p,hp,rfl⟩:=h
     rcases List.mem_cons.1 hp with rfl | hp
     ·refine⟨x,List.mem_cons_self,?_⟩
      rw[Au,Di _ _ _ (fun q hq e=>hr ⟨q,hq,e⟩),Bv]
      simp
     ·exact absurd ⟨p,hp,rfl⟩ hr
end Go.Proofs.YtadefjgbcapakaaGreatDoor.Vm
namespace Go.Proofs.YtadefjgbcapakaaGreatDoor.Vm
structure MI (P:Program) (t:Nat) (ti:TI):Prop where
  d:P.underlying t=some ti.d
  ck:Eg P 20 t=some ti.cs
  cmp:ti.cmp=Aid P t ti.d
  i: ∃ i z,P.info? t=some i∧i.size=ti.cs.length∧i.bytes=ti.bytes∧i.zero=some z∧BD z.cells.toList ti.cs=true∧Ro ti.d=XO z
theorem Ant {P:Program} {t:Nat} {ti:TI} (h:Aj1 P t=some ti):MI P t ti:=by
  unfold Aj1 at h
  split at h
  ·rename_i d i cs hd hi hc
   split at h
   ·rename_i z hz
    cases hb:(Nat.beq i.size cs.length&&BD z.cells.toList cs&&(Ro d==XO z))with
    | false=>rw[hb]at h;cases h
    | true =>
      rw[hb]at h
      injection h with h
      subst h
      simp only[Bool.and_eq_true]at hb
      exact⟨hd,hc,rfl,i,z,hi,Nat.eq_of_beq_eq_true hb.1.1,rfl,hz,hb.1.2,by simpa using hb.2⟩
   ·cases h
  ·cases h
def TOk (P:Program) (C:Ctx):Prop:= ∀ t ti,C.T t=some ti→Aj1 P t=some ti
theorem TOk.is {P:Program} {C:Ctx} (h:TOk P C) {t:Nat} {ti:TI} (ht:C.T t=some ti):MI P t ti:=Ant (h t ti ht)
section
variable {P:Program} {t:Nat} {ti:TI} (w:World)
theorem MI.run (h:MI P t ti):(underlying t).run P w= .ok ti.d w:=run_underlying h.d w
theorem MI.JZ (h:MI P t ti):(sizeOf t).run P w= .ok ti.cs.length w:=by
  obtain⟨i,z,h1,h2,_⟩:=h.i
  simp [sizeOf,typeInfo,h1,h2]
theorem MI.AkK (h:MI P t ti):(isAgg t).run P w= .ok ti.agg w:=by
  simp only[isAgg,Sem.run_bind,h.run,Result.andThen_ok,TI.agg]
  cases ti.d<;>rfl
theorem wV (ti:TI):ti.agg=Ro ti.d:=by unfold TI.agg Ro;cases ti.d<;>rfl
end
def AA (l:List Bool):Prop:= ∀ b∈l,b=true
theorem Jl {α :Type} {l:List Bool} {r:Option α} {x: α} (h:allT l r=some x):AA l∧r=some x:=by
  induction l with
  | nil=>exact⟨fun b hb=>(by cases hb),h⟩
  | cons c cs ih =>
    cases c with
    | false=>cases h
    | true =>
      obtain⟨h1,h2⟩:=ih h
      exact⟨fun b hb=>by rcases List.mem_cons.1 hb with rfl | hb;rfl;exact h1 b hb,h2⟩
theorem AA.append {a b:List Bool} (h:AA (a++b)):AA a∧AA b:=⟨fun x hx=>h x (List.mem_append_left _ hx),fun x hx=>h x (List.mem_append_right _ hx)⟩
theorem AA.cons {c:Bool} {a:List Bool} (h:AA (c::a)):c=true∧AA a:=⟨h c List.mem_cons_self,fun x hx=>h x (List.mem_cons_of_mem _ hx)⟩
theorem AA.nil:AA []:=fun _ h=>by cases h
theorem AU: ¬ AA Dl.no.ok:=fun h=>by have:=h false (by simp [Dl.no]);cases this
section
variable {P:Program} {C:Ctx} {O:Own} {Aa:List (Nat×Obj)} {m:Nat→Value} {a:Act} {w:World} {o:Oper}
theorem AV.toT {v:Value} {x:A} (h:AV O Aa m w v x):AB O Aa m w v x:=by cases x<;>first | trivial | exact h | exact h.elim
theorem T1.toT {v:Value} {x:A} (h:T1 O Aa m w v x):AB O Aa m w v x:=by cases x<;>first | trivial | exact h | exact h.elim
structure Pure (P:Program) (O:Own) (Aa:List (Nat×Obj)) (m:Nat→Value) (a:Act) (w:World) (o:Oper) (δ :Dl):Prop where
  run: ∃ v,(execOp a.eval o).run P w= .ok (.value v) w∧AB O Aa m w v δ.val
  new: δ.new=[]
  upd: δ.upd=[]
  del: δ.del=[]
theorem AB.int {v:Value} {k:IntKind} {n:Int} (h:AB O Aa m w v (.int k n)):v= .int k n:=by cases h;rfl
theorem AB.bool {v:Value} {b:Bool} (h:AB O Aa m w v (.bool b)):v= .bool b:=by cases h;rfl
theorem AB.str {v:Value} {s:List UInt8} (h:AB O Aa m w v (.str s)): ∃ b:ByteArray,v= .string b∧b.data.toList=s:=by cases h;exact⟨_,rfl,rfl⟩
theorem AB.mkInt (k:IntKind) (n:Int):AB O Aa m w (.int k n) (.int k n):=Am.int k n
theorem AB.GM (b:Bool):AB O Aa m w (.bool b) (.bool b):=Am.bool b
theorem AB.mkStr (s:ByteArray) {l:List UInt8} (h:s.data.toList=l):AB O Aa m w (.string s) (.str l):=by subst h;exact Am.str s
theorem Wi (s:ByteArray):s.toList=s.data.toList:=ByteArray.toList_eq s
theorem Mc (s:ByteArray):s.size=s.data.toList.length:=by rw[Array.length_toList];rfl
theorem Acn {x:Operand} (ho:o.op= .move x∨o.op= .assign x) {y:A} (hx:AB O Aa m w (a.eval x) y):Pure P O Aa m a w o (.v y):=by
  refine⟨⟨a.eval x,?_,hx⟩,rfl,rfl,rfl⟩
  rcases ho with ho | ho<;>simp [execOp,ho]
theorem ZV {v:Value} {x:A} (h:AB O Aa m w v x) (hg:x.Gm.1=true):AB O Aa m w v x.Gm.2:=by
  cases x with
  | cnd g y =>
    have:=h.1 hg
    cases y<;>first | trivial | exact this | exact this.elim
  | _=>exact h
theorem AkF {c x y:Operand} (ho:o.op= .pick c x y) {c' x' y':A} (hc:AB O Aa m w (a.eval c) c') (hx:AB O Aa m w (a.eval x) x') (hy:AB O Aa m w (a.eval y) y')
    (hok:AA (Ael c' x' y').ok):Pure P O Aa m a w o (Ael c' x' y'):=by
  obtain⟨h0,h1⟩:=hok.cons
  obtain⟨h1,h2⟩:=h1.cons
  obtain⟨h2,h3⟩:=h2.cons
  have h3:=h3.cons.1
  refine⟨?_,rfl,rfl,rfl⟩
  have hc':=ZV hc h0
  unfold Ael
  simp only[Dl.g]
  generalize c'.Gm.2=cc at *
  obtain⟨q,rfl⟩: ∃ q,cc= .bool q:=by cases cc<;>simp [A.isB]at h1;exact⟨_,rfl⟩
  have:=hc'.bool
  cases q with
  | true =>
    simp only[A.toB,cond_true]at h2 h3 ⊢
    have hx':=ZV hx h2
    generalize x'.Gm.2=xx at *
    cases xx<;>simp [A.isB]at h3
    exact⟨a.eval x,by simp [execOp,ho,asBool,this],hx'⟩
  | false =>
    simp only[A.toB,cond_false]at h2 h3 ⊢
    have hy':=ZV hy h2
    generalize y'.Gm.2=yy at *
    cases yy<;>simp [A.isB]at h3
    exact⟨a.eval y,by simp [execOp,ho,asBool,this],hy'⟩
theorem JL {j k:IntKind} (h:A.kEq j k=true):j=k:=by cases j<;>cases k<;>first | rfl | cases h
theorem Als {op:BinOp} {k:IntKind} {x y:Int} (hok:AA (fF op k x y).ok) (t:TypeId) (hop:op≠ .shl) (hop':op≠ .shr) :
    ∃ v,(binOp op t (.int k x) (.int k y)).run P w= .ok v w∧AB O Aa m w v (fF op k x y).val∧(fF op k x y).new=[]∧(fF op k x y).upd=[]∧(fF op k x y).del=[]:=by
  have ha: ∀ op,op= .add∨op= .sub∨op= .mul→binOp op t (.int k x) (.int k y)=Op.intArith op k x y:=by
    rintro op (rfl | rfl | rfl)<;>simp [binOp]
  have hd: ∀ op,op= .quo∨op= .rem→binOp op t (.int k x) (.int k y)=Op.intDiv op k x y:=by
    rintro op (rfl | rfl)<;>simp [binOp]
  have hb: ∀ op,op= .and∨op= .or∨op= .xor∨op= .andNot→binOp op t (.int k x) (.int k y)=Op.intBits op k x y:=by
    rintro op (rfl | rfl | rfl | rfl)<;>simp [binOp]
  have hc: ∀ op,op= .eql∨op= .neq∨op= .lss∨op= .leq∨op= .gtr∨op= .geq→binOp op t (.int k x) (.int k y)=Op.intCmp op x y:=by
    rintro op (rfl | rfl | rfl | rfl | rfl | rfl)<;>simp [binOp]
  cases op with
  | shl=>exact absurd rfl hop
  | shr=>exact absurd rfl hop'
  | add=>rw[ha _ (by simp)];exact⟨_,rfl,.mkInt _ _,rfl,rfl,rfl⟩
  | sub=>rw[ha _ (by simp)];exact⟨_,rfl,.mkInt _ _,rfl,rfl,rfl⟩
  | mul=>rw[ha _ (by simp)];exact⟨_,rfl,.mkInt _ _,rfl,rfl,rfl⟩
  | quo =>
    have h0:y≠0:=by simpa [fF,Dl.g]using hok.cons.1
    rw[hd _ (by simp)]
    exact⟨.int k (k.wrap (x.tdiv y)),by simp [Op.intDiv,h0],.mkInt _ _,rfl,rfl,rfl⟩
  | rem =>
    have h0:y≠0:=by simpa [fF,Dl.g]using hok.cons.1
    rw[hd _ (by simp)]
    exact⟨.int k (x.tmod y),by simp [Op.intDiv,h0],.mkInt _ _,rfl,rfl,rfl⟩
  | and=>rw[hb _ (by simp)];exact⟨_,rfl,.mkInt _ _,rfl,rfl,rfl⟩
  | or=>rw[hb _ (by simp)];exact⟨_,rfl,.mkInt _ _,rfl,rfl,rfl⟩
  | xor=>rw[hb _ (by simp)];exact⟨_,rfl,.mkInt _ _,rfl,rfl,rfl⟩
  | andNot=>rw[hb _ (by simp)];exact⟨_,rfl,.mkInt _ _,rfl,rfl,rfl⟩
  | eql=>rw[hc _ (by simp)];exact⟨_,rfl,.GM _,rfl,rfl,rfl⟩
  | neq=>rw[hc _ (by simp)];exact⟨_,rfl,.GM _,rfl,rfl,rfl⟩
  | lss=>rw[hc _ (by simp)];exact⟨_,rfl,.GM _,rfl,rfl,rfl⟩
  | leq=>rw[hc _ (by simp)];exact⟨_,rfl,.GM _,rfl,rfl,rfl⟩
  | gtr=>rw[hc _ (by simp)];exact⟨_,rfl,.GM _,rfl,rfl,rfl⟩
  | geq=>rw[hc _ (by simp)];exact⟨_,rfl,.GM _,rfl,rfl,rfl⟩
theorem Alu {op:BinOp} {x y:ByteArray} {x' y':List UInt8} (hx:x.data.toList=x') (hy:y.data.toList=y') (hok:AA (fG op x' y').ok) (t:TypeId) :
    ∃ v,(binOp op t (.string x) (.string y)).run P w= .ok v w∧AB O Aa m w v (fG op x' y').val∧(fG op x' y').new=[]∧(fG op x' y').upd=[]∧(fG op x' y').del=[]:=by
  subst hx hy
  have hs: ∀ op,op≠ .shl→op≠ .shr→binOp op t (.string x) (.string y)=Op.stringOp op x y:=by
    intro op _ _;cases op<;>rfl
  cases op<;>first
    | exact(AU hok).elim
    | (rw [hs _ (by simp) (by simp)]
       refine⟨_,rfl,?_,rfl,rfl,rfl⟩
       simp only[fG,Dl.v,Wi,bytesLess]
       exact .GM _)
    | (have h0:x.data.toList.length+y.data.toList.length≤140737488355328:=by simpa [fG,Dl.g]using hok.cons.1
       rw[hs _ (by simp) (by simp)]
       refine⟨.string (x++y),?_,?_,rfl,rfl,rfl⟩
       ·have: ¬(((x.size+y.size:Nat):Int)>IntKind.i64.max):=by
          rw[← Mc, ←Mc]at h0
          rw[show IntKind.i64.max=9223372036854775807 from rfl];omega
        simp only[Op.stringOp,this,if_false];rfl
       ·exact .mkStr _ (Go.Joins.data_append x y))
end
