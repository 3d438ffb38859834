import Derived.Test.YtadefjgbcapakaaGreatDoorA1
import Derived.WalkKit
import Derived.Laws.IdiomCopy
import Derived.Laws.Cells
import Derived.Laws.Rows
import Derived.Laws.IdiomStrings
import Derived.Deep.MidRow
import Derived.ChangeKeysEq
import Derived.Lib.SmallJoins
import Derived.Lib.IndexBytes
import Derived.Laws.Cover3
import Derived.Laws.Pointers
import Derived.Laws.StructEq
set_option linter.all false
namespace Go.Proofs.YtadefjgbcapakaaGreatDoor.Vm
def ET (P:Program):Nat->Nat->Option (List CK)
  | 0,_=>none
  | n+1,t=>match P.underlying t with
    | some .bool=>some [.bool]
    | some (.int k)=>some [.int k]
    | some .string=>some [.str]
    | some (.slice e)=>match ET P n e with
      | some cs=>bif cs.all CK.plain then some [.sl e (tyl cs)]else some [.oth]
      | none=>some [.oth]
    | some (.pointer _)=>some [.ptr]
    | some (.struct fs)=>fs.toList.foldr (fun f acc=>match ET P n f.type,acc with | some a,some b=>some (a++b) | _,_=>none) (some [])
    | some (.array m e)=>match ET P n e with
      | some a=>bif Nat.ble (m*a.length) 4096 then some ((List.replicate m a).flatten)else none
      | none=>none
    | some (.tuple _)=>none
    | some (.func _ _ _)=>some [.fn]
    | some _=>some [.oth]
    | none=>none
def BC:List Value->List CK->Bool
  | [],[]=>true
  | .bool false::vs,.bool::ks=>BC vs ks
  | .int k 0::vs,.int k'::ks=>A.kEq k k'&&BC vs ks
  | .string s::vs,.str::ks=>s.data.toList.isEmpty&&BC vs ks
  | .slice none 0 0::vs,.sl _ _::ks=>BC vs ks
  | .pointer none::vs,.ptr::ks=>BC vs ks
  | .nilFunc::vs,.fn::ks=>BC vs ks
  | v::vs,.oth::ks=>v.oneCell'&&BC vs ks
  | _,_=>false
def QH:TypeDesc->Bool
  | .struct _ | .array _ _=>true
  | _=>false
def XM:Value->Bool
  | .agg _=>true
  | _=>false
def Oz (P:Program):List Field->Nat->Option (List CK)
  | [],_=>some []
  | f::r,n=>match P.underlying f.type,Oz P r (n+1)with
    | some .bool,some ks=>bif f.name != "_" &&Nat.beq f.offset n then some (.bool::ks)else none
    | some (.int k),some ks=>bif f.name != "_" &&Nat.beq f.offset n then some (.int k::ks)else none
    | some .string,some ks=>bif f.name != "_" &&Nat.beq f.offset n then some (.str::ks)else none
    | _,_=>none
def Agn (P:Program) (t:Nat):TypeDesc->List CK
  | .struct fs=>match Oz P fs.toList 0 with
    | some ks=>bif !(P.stoodInHeld t)&& !(P.eqGuardType P.depth t)then ks else []
    | none=>[]
  | _=>[]
def AhY (P:Program) (t:Nat):Option TI :=
  match P.underlying t,P.info? t,ET P 20 t with
  | some d,some i,some cs=>match i.zero with
    | some z=>bif Nat.beq i.size cs.length&&BC z.cells.toList cs&&(QH d==XM z)then some ⟨d,cs,i.bytes,Agn P t d⟩else none
    | none=>none
  | _,_,_=>none
abbrev Own:=Nat->Nat->Option Nat
abbrev at' (b k:Nat):Addr:=⟨b,k,none⟩
inductive Ai (O:Own) (w:World):Value->A->Prop
  | bool (b:Bool):Ai O w (.bool b) (.bool b)
  | int (k:IntKind) (n:Int):Ai O w (.int k n) (.int k n)
  | str (s:ByteArray):Ai O w (.string s) (.str s.data.toList)
  | nil (t:Ty):Ai O w (.slice none 0 0) (.sl ⟨t,[]⟩)
  | sl {b off cap:Nat} {l:Sl} (vs:Nat->Nat->Value) (hc:l.es.length<=cap)
      (hm: ∀ i j,i<l.es.length->j<l.sz->O b (off+(i*l.sz+j))=none/\w.cell? (at' b (off+(i*l.sz+j)))=some (vs i j))
      (hr: ∀ i j,i<l.es.length->j<l.sz->Ai O w (vs i j) ((l.es.getD i []).getD j .undef)):Ai O w (.slice (some (at' b off)) l.es.length cap) (.sl l)
  | sln {v:Value} {l:Sl} (h:Ai O w v (.sl l)) (hn:l.xs=[]->v= .slice none 0 0):Ai O w v (.sln l)
  | Dj:Ai O w (.pointer none) .Dj
  | fn (f:Nat):Ai O w (.func (.func f) #[] #[]) (.fn (f+1))
  | V4:Ai O w .nilFunc (.fn 0)
  | sl0 (a:Addr) (t:Ty):Ai O w (.slice (some a) 0 0) (.sl ⟨t,[]⟩)
def ES (O:Own) (w:World) (O':Own) (w':World):Prop:= ∀ b k u,O b k=none->w.cell? (at' b k)=some u->O' b k=none/\w'.cell? (at' b k)=some u
def Inv (O:Own) (w:World):Prop:=(∀ g j p,AoF g j=some p->O g j=none/\ ∃ v,w.cell? (at' g j)=some v/\p v)/\ ∀ g n,AoE g=some n-> ∃ c e fr,w.heap[g]? =some (.cells c e fr)/\c.size=n
theorem Ai.Bf {O O':Own} {w w':World} (hp:ES O w O' w') {v:Value} {a:A} (h:Ai O w v a):Ai O' w' v a:=by
  induction h with
  | bool b=>exact .bool b
  | int k n=>exact .int k n
  | str s=>exact .str s
  | nil t=>exact .nil t
  | sl vs hc hm hr ih =>
    refine .sl vs hc (fun i j hi hj=> ?_) (fun i j hi hj=>ih i j hi hj)
    obtain⟨h1,h2⟩:=hm i j hi hj
    exact hp _ _ _ h1 h2
  | sln h hn ih=>exact .sln ih hn
  | Dj=>exact .Dj
  | fn f=>exact .fn f
  | V4=>exact .V4
  | sl0 a t=>exact .sl0 a t
inductive Shp where
  | box
  | arr (sz len:Nat)
  | mp
def Obj.shp:Obj->Shp
  | .box _=>.box
  | .arr _ _ l=>.arr l.sz l.es.length
  | .mp _=>.mp
def EU (w:World) (g:Nat) (cur:Array Value) (e:TypeId):Prop:= ∃ fr,w.heap[g]? =some (.cells cur e fr)/\(fr=(0,0)\/cur.size<=fr.1)
theorem EU.cell {w:World} {g:Nat} {cur:Array Value} {e:TypeId} (h:EU w g cur e) (k:Nat):w.cell? (at' g k)=cur[k]? :=by
  obtain⟨fr,h1,_⟩:=h
  simp [World.cell?,h1]
theorem EU.frozen {w:World} {g:Nat} {cur:Array Value} {e:TypeId} (h:EU w g cur e) {k:Nat} (hk:k<cur.size):w.frozen? (at' g k)=false:=by
  obtain⟨fr,h1,h2⟩:=h
  simp only[World.frozen?,h1]
  rcases h2 with h2 | h2
  ·subst h2;simp
  ·simp;omega
theorem EU.lt {w:World} {g:Nat} {cur:Array Value} {e:TypeId} (h:EU w g cur e):g<w.heap.size:=by
  obtain⟨fr,h1,_⟩:=h
  exact(Array.getElem?_eq_some_iff.1 h1).1
theorem EU.same {w w':World} {g:Nat} {cur:Array Value} {e:TypeId} (h:EU w g cur e) (hb:w'.heap[g]? =w.heap[g]?):EU w' g cur e:=by
  obtain⟨fr,h1,h2⟩:=h
  exact⟨fr,by rw[hb];exact h1,h2⟩
theorem EU.inj {w:World} {g:Nat} {cur cur':Array Value} {e e':TypeId} (h:EU w g cur e) (h':EU w g cur' e'):cur=cur'/\e=e':=by
  obtain⟨fr,h1,_⟩:=h
  obtain⟨fr',h1',_⟩:=h'
  rw[h1]at h1'
  injection h1' with h1';injection h1' with a b c
  exact⟨a,b⟩
def EC (O:Own) (w:World) (v:Value):A->Prop
  | .agg cs=> ∃ vs:Array Value,v= .agg vs/\vs.size=cs.length/\ ∀ j,j<cs.length->Ai O w (vs.getD j undef) (cs.getD j .undef)
  | a=>Ai O w v a
theorem EC.Bf {O O':Own} {w w':World} (hp:ES O w O' w') {v:Value} {a:A} (h:EC O w v a):EC O' w' v a:=by
  cases a with
  | agg cs=>obtain⟨vs,h1,h2,h3⟩:=h;exact⟨vs,h1,h2,fun j hj=>(h3 j hj).Bf hp⟩
  | _=>exact Ai.Bf hp h
def Gj (O:Own) (w:World) (o:Nat) (v:Value) (l:Mp):Prop :=
  ∃ r es ck,v= .map (some r)/\w.heap[r]? =some (.map es ck)/\O r 0=some o/\es.size=l.l.length /\
    ∀(i:Nat) (p:l.kt.Val×l.vt.Val),l.l[i]? =some p-> ∃ e,es[i]? =some e/\EC O w e.key (FW (l.kt.cells p.1))/\EC O w e.val (FW (l.vt.cells p.2))
def Ap7:Nat->Value->Value
  | 0,p=>p
  | f+1,p=>.func (.func f) #[] #[p]
def RN (O:Own) (w:World) (k:Nat) (v p:Value):Prop:= ∃ b j,v=Ap7 k (.pointer (some (at' b j)))/\O b j=none/\w.cell? (at' b j)=some p
theorem RN.Bf {O O':Own} {w w':World} (hp:ES O w O' w') {k:Nat} {v p:Value} (h:RN O w k v p):RN O' w' k v p:=by
  obtain⟨b,j,h1,h2,h3⟩:=h
  exact⟨b,j,h1,hp _ _ _ h2 h3⟩
section
variable (O:Own) (Aa:List (Nat×Obj)) (m:Nat->Value) (w:World)
def AB (v:Value):A->Prop
  | .undef=>v.oneCell'=true
  | .Df=>v= .slice none 0 0
  | .ptr o off=>v.oneCell'=true/\match (Ah Aa o).map Obj.shp with
    | some .box=> ∃ b base,m o= .pointer (some (at' b base))/\v= .pointer (some (at' b (base+off)))
    | _=>True
  | .own o=>v.oneCell'=true/\match (Ah Aa o).map Obj.shp with
    | some (.arr _ _)=>v=m o
    | some .mp=>v=m o
    | _=>True
  | .CZ o i off=>v.oneCell'=true/\match (Ah Aa o).map Obj.shp with
    | some (.arr sz len)=>i<len-> ∃ g n cap,m o= .slice (some (at' g 0)) n cap/\v= .pointer (some (at' g (i*sz+off)))
    | _=>True
  | .clo k o=>v.oneCell'=true/\ ∃ p,p.oneCell'=true/\RN O w k v p/\match (Ah Aa o).map Obj.shp with
    | some .box=> ∃ b base,m o= .pointer (some (at' b base))/\p= .pointer (some (at' b base))
    | _=>True
  | .bsl o n=>v.oneCell'=true/\match (Ah Aa o).map Obj.shp with
    | some .box=> ∃ b base,m o= .pointer (some (at' b base))/\v= .slice (some (at' b base)) n n
    | _=>True
  | .elt cs=> ∃ b off,v= .pointer (some (at' b off))/\ ∀ j,j<cs.length->O b (off+j)=none/\ ∃ u,w.cell? (at' b (off+j))=some u/\Ai O w u (cs.getD j .undef)
  | .fn f=>Ai O w v (.fn f)
  | .bool b=>Ai O w v (.bool b)
  | .int k n=>Ai O w v (.int k n)
  | .str s=>Ai O w v (.str s)
  | .sl l=>Ai O w v (.sl l)
  | .sln l=>Ai O w v (.sln l)
  | .Dj=>Ai O w v .Dj
  | _=>False
def T1 (v:Value):A->Prop
  | .agg cs=> ∃ vs:Array Value,v= .agg vs/\vs.size=cs.length/\ ∀ j,j<cs.length->AB O Aa m w (vs.getD j undef) (cs.getD j .undef)
  | a=>AB O Aa m w v a
def Aq (v:Value):A->Prop
  | .undef=>True
  | .tup l=> ∃ vs:Array Value,v= .tuple vs/\vs.size=l.length/\ ∀ j,j<l.length->T1 O Aa m w (vs.getD j undef) (l.getD j .undef)
  | .cnd g a=>(g=true->T1 O Aa m w v a)/\(g=false->v=undef)
  | a=>T1 O Aa m w v a
def Dv (o:Nat):Obj->Prop
  | .box cs=> ∃ b base,m o= .pointer (some (at' b base))/\ ∀ j,j<cs.length->O b (base+j)=some o/\w.frozen? (at' b (base+j))=false /\
      ∃ u,w.cell? (at' b (base+j))=some u/\AB O Aa m w u (cs.getD j .undef)
  | .arr e frz l=>(∀ x∈l.es,x.length=l.sz)/\((True/\l.es=[]/\m o= .slice none 0 0) \/
      (True/\ ∃ g cap cur,m o= .slice (some (at' g 0)) l.es.length cap/\EU w g cur e/\l.es.length<=cap/\cap<=maxLen/\cur.size=cap*l.sz /\
        (∀ i j,i<l.es.length->j<l.sz-> ∃ u,cur[i*l.sz+j]? =some u/\Ai O w u ((l.es.getD i []).getD j .undef)) /\
        (∀ k,k<cur.size->l.es.length*l.sz<=k->O g k=some o)/\(∀ k,k<l.es.length*l.sz->O g k=if frz then none else some o)))
  | .mp l=>Gj O w o (m o) l
end
structure Moves (O:Own) (T:Nat->Prop) (w w':World):Prop where
  os:w'.os=w.os
  tape:w'.tape=w.tape
  output:w'.output=w.output
  size:w.heap.size<=w'.heap.size
  blk: ∀ b,b<w.heap.size->w'.heap[b]? =w.heap[b]? \/(∃ c c' e fr,w.heap[b]? =some (.cells c e fr)/\w'.heap[b]? =some (.cells c' e fr)/\c'.size=c.size /\
    (∀ k,(∀ o,O b k=some o-> ¬ T o)->c'[k]? =c[k]?)/\ ∃ k o,k<c.size/\O b k=some o/\T o) \/
    ∃ es ck es' ck' o,w.heap[b]? =some (.map es ck)/\w'.heap[b]? =some (.map es' ck')/\O b 0=some o/\T o
theorem Moves.refl (O:Own) (T:Nat->Prop) (w:World):Moves O T w w:=⟨rfl,rfl,rfl,Nat.le_refl _,fun _ _=>.inl rfl⟩
theorem cell_lt {w:World} {b k:Nat} {u:Value} (h:w.cell? (at' b k)=some u):b<w.heap.size:=by
  rcases Nat.lt_or_ge b w.heap.size with hb | hb
  ·exact hb
  ·simp [World.cell?,Array.getElem?_eq_none hb]at h
theorem Moves.cell {O:Own} {T:Nat->Prop} {w w':World} (h:Moves O T w w') {b k:Nat} (hb:b<w.heap.size) (hk: ∀ o,O b k=some o-> ¬ T o) :
    w'.cell? (at' b k)=w.cell? (at' b k):=by
  rcases h.blk b hb with he | ⟨c,c',e,fr,h1,h2,_,h4,_⟩ | ⟨es,ck,es',ck',o,h1,h2,_,_⟩
  ·simp [World.cell?,he]
  ·simp [World.cell?,h1,h2,h4 k hk]
  ·simp [World.cell?,h1,h2]
theorem Moves.frozen {O:Own} {T:Nat->Prop} {w w':World} (h:Moves O T w w') {b k:Nat} (hb:b<w.heap.size):w'.frozen? (at' b k)=w.frozen? (at' b k):=by
  rcases h.blk b hb with he | ⟨c,c',e,fr,h1,h2,_,_,_⟩ | ⟨es,ck,es',ck',o,h1,h2,_,_⟩
  ·simp [World.frozen?,he]
  ·simp [World.frozen?,h1,h2]
  ·simp [World.frozen?,h1,h2]
structure Passes (O O':Own) (T:Nat->Prop) (n:Nat):Prop where
  none: ∀ b k,b<n->O b k=none->O' b k=none
  keep: ∀ b k o,b<n->O b k=some o-> ¬ T o->O' b k=some o
theorem Moves.Bf {O O':Own} {T:Nat->Prop} {w w':World} (h:Moves O T w w') (hp:Passes O O' T w.heap.size):ES O w O' w':=by
  intro b k u hn hc
  have hb:=cell_lt hc
  exact⟨hp.none b k hb hn,by rw[h.cell hb (fun o ho=>by rw[hn]at ho;cases ho)];exact hc⟩
def H5 (Aa:List (Nat×Obj)) (m:Nat->Value) (objs':List (Nat×Obj)) (m':Nat->Value) (Nw:Nat->Prop):Prop :=
  ∀ o x',Ah objs' o=some x'->Nw o\/ ∃ x,Ah Aa o=some x/\x.shp=x'.shp/\m' o=m o
theorem AB.step {O O':Own} {Aa objs':List (Nat×Obj)} {m m':Nat->Value} {w w':World} {Nw:Nat->Prop} (hp:ES O w O' w') (he:H5 Aa m objs' m' Nw)
    {v:Value} {a:A} (hn: ∀ o∈a.Ec,¬ Nw o) (h:AB O Aa m w v a):AB O' objs' m' w' v a:=by
  have key: ∀ o,o∈a.Ec-> ∀ x',Ah objs' o=some x'-> ∃ x,Ah Aa o=some x/\x.shp=x'.shp/\m' o=m o :=
    fun o ho x' hx=>(he o x' hx).resolve_left (hn o ho)
  cases a with
  | undef=>exact h
  | Df=>exact h
  | ptr o off =>
    simp only[AB]at *
    refine⟨h.1,?_⟩
    have h:=h.2
    cases hx:Ah objs' o with
    | none=>simp
    | some x' =>
      obtain⟨x,h1,h2,h3⟩:=key o (by simp [A.Ec]) x' hx
      rw[h1]at h;simp only[Option.map_some,h2]at h;simp only[Option.map_some,h3];exact h
  | own o =>
    simp only[AB]at *
    refine⟨h.1,?_⟩
    have h:=h.2
    cases hx:Ah objs' o with
    | none=>simp
    | some x' =>
      obtain⟨x,h1,h2,h3⟩:=key o (by simp [A.Ec]) x' hx
      rw[h1]at h;simp only[Option.map_some,h2]at h;simp only[Option.map_some,h3];exact h
  | CZ o i off =>
    simp only[AB]at *
    refine⟨h.1,?_⟩
    have h:=h.2
    cases hx:Ah objs' o with
    | none=>simp
    | some x' =>
      obtain⟨x,h1,h2,h3⟩:=key o (by simp [A.Ec]) x' hx
      rw[h1]at h;simp only[Option.map_some,h2]at h;simp only[Option.map_some,h3];exact h
  | clo k o =>
    simp only[AB]at *
    obtain⟨h0,p,h4,h5,h⟩:=h
    refine⟨h0,p,h4,h5.Bf hp,?_⟩
    cases hx:Ah objs' o with
    | none=>simp
    | some x' =>
      obtain⟨x,h1,h2,h3⟩:=key o (by simp [A.Ec]) x' hx
      rw[h1]at h;simp only[Option.map_some,h2]at h;simp only[Option.map_some,h3];exact h
  | bsl o n =>
    simp only[AB]at *
    refine⟨h.1,?_⟩
    have h:=h.2
    cases hx:Ah objs' o with
    | none=>simp
    | some x' =>
      obtain⟨x,h1,h2,h3⟩:=key o (by simp [A.Ec]) x' hx
      rw[h1]at h;simp only[Option.map_some,h2]at h;simp only[Option.map_some,h3];exact h
  | elt cs =>
    obtain⟨b,off,hv,hc⟩:=h
    refine⟨b,off,hv,fun j hj=> ?_⟩
    obtain⟨h1,u,h2,h3⟩:=hc j hj
    obtain⟨h4,h5⟩:=hp _ _ _ h1 h2
    exact⟨h4,u,h5,h3.Bf hp⟩
  | fn f=>exact Ai.Bf hp h
  | ump _=>exact h
  | bool b=>exact Ai.Bf hp h
  | int k n=>exact Ai.Bf hp h
  | str s=>exact Ai.Bf hp h
  | sl l=>exact Ai.Bf hp h
  | sln l=>exact Ai.Bf hp h
  | Dj=>exact Ai.Bf hp h
  | usl _ _=>exact h
  | agg _=>exact h
  | tup _=>exact h
  | box _=>exact h
  | cbx _ _=>exact h
  | cnd _ _=>exact h
theorem J5 {α β :Type} {f: α ->List β} {l:List α} {d: α} {j:Nat} (hj:j<l.length) {x: β} (hx:x∈f (l.getD j d)):x∈l.flatMap f:=by
  refine List.mem_flatMap.2 ⟨l.getD j d,?_,hx⟩
  rw[List.getD_eq_getElem?_getD,List.getElem?_eq_getElem hj];simp
theorem T1.step {O O':Own} {Aa objs':List (Nat×Obj)} {m m':Nat->Value} {w w':World} {Nw:Nat->Prop} (hp:ES O w O' w') (he:H5 Aa m objs' m' Nw)
    {v:Value} {a:A} (hn: ∀ o∈a.Ali,¬ Nw o) (h:T1 O Aa m w v a):T1 O' objs' m' w' v a:=by
  cases a with
  | agg cs =>
    obtain⟨vs,h1,h2,h3⟩:=h
    exact⟨vs,h1,h2,fun j hj=>(h3 j hj).step hp he fun o ho=>hn o (J5 hj ho)⟩
  | cnd g a=>exact h
  | _ =>
    simp only[T1]at h ⊢
    refine AB.step hp he ?_ h
    exact hn
theorem Aq.step {O O':Own} {Aa objs':List (Nat×Obj)} {m m':Nat->Value} {w w':World} {Nw:Nat->Prop} (hp:ES O w O' w') (he:H5 Aa m objs' m' Nw)
    {v:Value} {a:A} (hn: ∀ o∈a.ids,¬ Nw o) (h:Aq O Aa m w v a):Aq O' objs' m' w' v a:=by
  cases a with
  | undef=>trivial
  | tup l =>
    obtain⟨vs,h1,h2,h3⟩:=h
    exact⟨vs,h1,h2,fun j hj=>(h3 j hj).step hp he fun o ho=>hn o (J5 hj ho)⟩
  | cnd g a =>
    refine⟨fun hg=> ?_,h.2⟩
    have h':=h.1 hg
    cases a with
    | cnd _ _=>exact h'
    | _=>exact T1.step hp he hn h'
  | _ =>
    simp only[Aq]at h ⊢
    refine T1.step hp he ?_ h
    exact hn
theorem Gj.step {O O':Own} {w w':World} {T:Nat->Prop} (hm:Moves O T w w') (hp:Passes O O' T w.heap.size) {o:Nat} {v:Value} {l:Mp} (ho: ¬ T o) (h:Gj O w o v l):Gj O' w' o v l:=by
  obtain⟨r,es,ck,h1,h2,h3,h4,h5⟩:=h
  have hr:r<w.heap.size:=(Array.getElem?_eq_some_iff.1 h2).1
  refine⟨r,es,ck,h1,?_,hp.keep _ _ _ hr h3 ho,h4,fun i p hip=> ?_⟩
  ·rcases hm.blk r hr with he | ⟨c,c',e,fr,g1,_⟩ | ⟨es1,ck1,es',ck',o',g1,g2,g3,g4⟩
   ·rw[he];exact h2
   ·rw[h2]at g1;injection g1 with g1;cases g1
   ·rw[h3]at g3;injection g3 with g3;subst g3;exact absurd g4 ho
  ·obtain⟨e,k1,k2,k3⟩:=h5 i p hip
   exact⟨e,k1,k2.Bf (hm.Bf hp),k3.Bf (hm.Bf hp)⟩
theorem Dv.step {O O':Own} {Aa objs':List (Nat×Obj)} {m m':Nat->Value} {w w':World} {Nw T:Nat->Prop} (hm:Moves O T w w') (hp:Passes O O' T w.heap.size) (he:H5 Aa m objs' m' Nw)
    {o:Nat} {x:Obj} (ho: ¬ T o) (hmo:m' o=m o) (hn: ∀ i∈x.ids,¬ Nw i) (h:Dv O Aa m w o x):Dv O' objs' m' w' o x:=by
  have hpr:=hm.Bf hp
  cases x with
  | box cs =>
    obtain⟨b,base,h1,h2⟩:=h
    refine⟨b,base,by rw[hmo];exact h1,fun j hj=> ?_⟩
    obtain⟨h3,h4,u,h5,h6⟩:=h2 j hj
    have hb:=cell_lt h5
    refine⟨hp.keep _ _ _ hb h3 ho,by rw[hm.frozen hb];exact h4,u,?_,h6.step hpr he fun i hi=>hn i (J5 hj hi)⟩
    rw[hm.cell hb (fun o' ho'=>by rw[h3]at ho';injection ho' with ho';subst ho';exact ho)];exact h5
  | arr e frz l =>
    obtain⟨h0,h⟩:=h
    refine⟨h0,?_⟩
    rcases h with ⟨h1,h2,h3⟩ | ⟨h1,g,cap,cur,h2,h3,h4,h5,h6,h7,h8,h9⟩
    ·exact .inl ⟨h1,h2,by rw[hmo];exact h3⟩
    ·refine .inr ⟨h1,g,cap,cur,by rw[hmo];exact h2,?_,h4,h5,h6,?_,?_,?_⟩
     ·have hg:g<w.heap.size:=h3.lt
      rcases hm.blk g hg with hE | ⟨c,c',e',fr,hA,hB,hC,hD,k,o',hk,hK,hT⟩ | ⟨es1,ck1,es',ck',o',g1,_⟩
      ·exact h3.same hE
      ·obtain⟨fr0,h3,_⟩:=h3
       rw[h3]at hA
       injection hA with hA;injection hA with hA1 hA2 hA3
       subst hA1
       exfalso
       rcases Nat.lt_or_ge k (l.es.length*l.sz)with hlt | hge
       ·have:=h9 k hlt
        rw[hK]at this
        cases frz
        ·simp at this;subst this;exact ho hT
        ·simp at this
       ·have:=h8 k hk hge
        rw[hK]at this;injection this with this;subst this;exact ho hT
      ·obtain⟨fr0,h3,_⟩:=h3
       rw[h3]at g1;injection g1 with g1;cases g1
     ·intro i j hi hj
      obtain⟨u,hu,hr⟩:=h7 i j hi hj
      exact⟨u,hu,hr.Bf hpr⟩
     ·intro k hk hge
      have hg:g<w.heap.size:=h3.lt
      exact hp.keep _ _ _ hg (h8 k hk hge) ho
     ·intro k hk
      have hg:g<w.heap.size:=h3.lt
      have:=h9 k hk
      cases frz
      ·simp at this ⊢;exact hp.keep _ _ _ hg this ho
      ·simp at this ⊢;exact hp.none _ _ hg this
  | mp l =>
    have h:Gj O w o (m o) l:=h
    show Gj O' w' o (m' o) l
    rw[hmo];exact h.step hm hp ho
theorem Ld (a b:Nat):Nat.beq a b=decide (a=b):=by
  cases h:Nat.beq a b with
  | true=>simp [Nat.eq_of_beq_eq_true h]
  | false=>simp [Nat.ne_of_beq_eq_false h]
theorem CW (q:Nat) (x:Obj) (r:List (Nat×Obj)) (k:Nat):Ah ((q,x)::r) k=if q=k then some x else Ah r k:=by
  simp only[Ah,Ld];by_cases h:q=k<;>simp [h]
theorem aS (q:Nat) (x:Obj) (r:List (Nat×Obj)) (n:Nat):IP ((q,x)::r) n=if q=n then IP r n else(q,x)::IP r n:=by
  simp only[IP,Ld];by_cases h:q=n<;>simp [h]
theorem Qy (l:List (Nat×Obj)) (n k:Nat):Ah (IP l n) k=if k=n then none else Ah l k:=by
  induction l with
  | nil=>simp [IP,Ah]
  | cons p r ih =>
    obtain⟨q,x⟩:=p
    rw[aS]
    by_cases hq:q=n
    ·rw[if_pos hq,ih,CW]
     by_cases hk:k=n
     ·simp [hk]
     ·have:q≠k:=fun e=>hk (by omega)
      simp [hk,this]
    ·rw[if_neg hq,CW,CW,ih]
     by_cases hk:q=k
     ·have:k≠n:=by omega
      simp [hk,this]
     ·simp [hk]
theorem Aig (l:List (Nat×Obj)) (n:Nat) (y:Obj) (k:Nat) (hn:Ah l n=none):Ah (QP l n y) k=if k=n then some y else Ah l k:=by
  induction l with
  | nil =>
    simp only[QP,CW]
    by_cases h:n=k
    ·simp [h]
    ·have:k≠n:=by omega
     simp [h,this]
  | cons p r ih =>
    obtain⟨q,x⟩:=p
    rw[CW]at hn
    have hqn:q≠n:=fun e=>by simp [e]at hn
    rw[if_neg hqn]at hn
    simp only[QP]
    cases hle:Nat.ble n q with
    | true =>
      simp only[cond_true,CW]
      by_cases h:n=k
      ·simp [h]
      ·have:k≠n:=by omega
       simp [h,this]
    | false =>
      simp only[cond_false,CW,ih hn]
      by_cases h:q=k
      ·have:k≠n:=by omega
       simp [h,this]
      ·simp [h]
theorem Bl (l:List (Nat×Obj)) (n:Nat) (y:Obj) (k:Nat):Ah (CX l n y) k=if k=n then some y else Ah l k:=by
  unfold CX
  rw[Aig _ _ _ _ (by simp [Qy]),Qy]
  by_cases h:k=n<;>simp [h]
theorem JS (d:List Nat): ∀(l:List (Nat×Obj)) (k:Nat),Ah (Bj l d) k=if k∈d then none else Ah l k:=by
  induction d with
  | nil=>intro l k;simp [Bj]
  | cons n r ih =>
    intro l k
    rw[Bj,ih,Qy]
    by_cases h:k∈r
    ·simp [h]
    ·by_cases h':k=n<;>simp [h,h']
theorem Dw (u:List (Nat×Obj)): ∀(l:List (Nat×Obj)) (k:Nat),(∀ p∈u,p.1≠k)->Ah (Ak l u) k=Ah l k:=by
  induction u with
  | nil=>intro l k _;rfl
  | cons p r ih =>
    obtain⟨n,x⟩:=p
    intro l k h
    rw[Ak,ih _ _ (fun p hp=>h p (List.mem_cons_of_mem _ hp)),Bl]
    have:k≠n:=fun e=>h (n,x) (List.mem_cons_self) e.symm
    simp [this]
theorem EW (u:List (Nat×Obj)): ∀(l:List (Nat×Obj)) (k:Nat),(∃ p∈u,p.1=k)-> ∃ x,(k,x)∈u/\Ah (Ak l u) k=some x:=by
  induction u with
  | nil=>intro l k ⟨p,hp,_⟩;cases hp
  | cons p r ih =>
    obtain⟨n,x⟩:=p
    intro l k h
    by_cases hr: ∃ p∈r,p.1=k
    ·obtain⟨y,hy,he⟩:=ih (CX l n x) k hr
     exact⟨y,List.mem_cons_of_mem _ hy,he⟩
    ·obtain⟨p,hp,rfl⟩:=h
     rcases List.mem_cons.1 hp with rfl | hp
     ·refine⟨x,List.mem_cons_self,?_⟩
      rw[Ak,Dw _ _ _ (fun q hq e=>hr ⟨q,hq,e⟩),Bl]
      simp
     ·exact absurd ⟨p,hp,rfl⟩ hr
end Go.Proofs.YtadefjgbcapakaaGreatDoor.Vm
namespace Go.Proofs.YtadefjgbcapakaaGreatDoor.Vm
structure MC (P:Program) (t:Nat) (ti:TI):Prop where
  d:P.underlying t=some ti.d
  ck:ET P 20 t=some ti.cs
  cmp:ti.cmp=Agn P t ti.d
  i: ∃ i z,P.info? t=some i/\i.size=ti.cs.length/\i.bytes=ti.bytes/\i.zero=some z/\BC z.cells.toList ti.cs=true/\QH ti.d=XM z
theorem AnA {P:Program} {t:Nat} {ti:TI} (h:AhY P t=some ti):MC P t ti:=by
  unfold AhY at h
  split at h
  ·rename_i d i cs hd hi hc
   split at h
   ·rename_i z hz
    cases hb:(Nat.beq i.size cs.length&&BC z.cells.toList cs&&(QH d==XM z))with
    | false=>rw[hb]at h;cases h
    | true =>
      rw[hb]at h
      injection h with h
      subst h
      simp only[Bool.and_eq_true]at hb
      exact⟨hd,hc,rfl,i,z,hi,Nat.eq_of_beq_eq_true hb.1.1,rfl,hz,hb.1.2,by simpa using hb.2⟩
   ·cases h
  ·cases h
def TOk (P:Program) (C:Ctx):Prop:= ∀ t ti,C.T t=some ti->AhY P t=some ti
theorem TOk.is {P:Program} {C:Ctx} (h:TOk P C) {t:Nat} {ti:TI} (ht:C.T t=some ti):MC P t ti:=AnA (h t ti ht)
section
variable {P:Program} {t:Nat} {ti:TI} (w:World)
theorem MC.run (h:MC P t ti):(underlying t).run P w= .ok ti.d w:=run_underlying h.d w
theorem MC.Jj (h:MC P t ti):(sizeOf t).run P w= .ok ti.cs.length w:=by
  obtain⟨i,z,h1,h2,_⟩:=h.i
  simp [sizeOf,typeInfo,h1,h2]
theorem MC.Akb (h:MC P t ti):(isAgg t).run P w= .ok ti.agg w:=by
  simp only[isAgg,Sem.run_bind,h.run,Result.andThen_ok,TI.agg]
  cases ti.d<;>rfl
theorem qV (ti:TI):ti.agg=QH ti.d:=by unfold TI.agg QH;cases ti.d<;>rfl
end
def Am (l:List Bool):Prop:= ∀ b∈l,b=true
theorem KI {α :Type} {l:List Bool} {r:Option α} {x: α} (h:allT l r=some x):Am l/\r=some x:=by
  induction l with
  | nil=>exact⟨fun b hb=>(by cases hb),h⟩
  | cons c cs ih =>
    cases c with
    | false=>cases h
    | true =>
      obtain⟨h1,h2⟩:=ih h
      exact⟨fun b hb=>by rcases List.mem_cons.1 hb with rfl | hb;rfl;exact h1 b hb,h2⟩
theorem Am.append {a b:List Bool} (h:Am (a++b)):Am a/\Am b:=⟨fun x hx=>h x (List.mem_append_left _ hx),fun x hx=>h x (List.mem_append_right _ hx)⟩
theorem Am.cons {c:Bool} {a:List Bool} (h:Am (c::a)):c=true/\Am a:=⟨h c List.mem_cons_self,fun x hx=>h x (List.mem_cons_of_mem _ hx)⟩
theorem Am.nil:Am []:=fun _ h=>by cases h
theorem AO: ¬ Am Dl.no.ok:=fun h=>by have:=h false (by simp [Dl.no]);cases this
section
variable {P:Program} {C:Ctx} {O:Own} {Aa:List (Nat×Obj)} {m:Nat->Value} {a:Act} {w:World} {o:Oper}
theorem AB.toT {v:Value} {x:A} (h:AB O Aa m w v x):Aq O Aa m w v x:=by cases x<;>first | trivial | exact h | exact h.elim
theorem T1.toT {v:Value} {x:A} (h:T1 O Aa m w v x):Aq O Aa m w v x:=by cases x<;>first | trivial | exact h | exact h.elim
structure Pure (P:Program) (O:Own) (Aa:List (Nat×Obj)) (m:Nat->Value) (a:Act) (w:World) (o:Oper) (δ :Dl):Prop where
  run: ∃ v,(execOp a.eval o).run P w= .ok (.value v) w/\Aq O Aa m w v δ.val
  new: δ.new=[]
  upd: δ.upd=[]
  del: δ.del=[]
theorem Aq.int {v:Value} {k:IntKind} {n:Int} (h:Aq O Aa m w v (.int k n)):v= .int k n:=by cases h;rfl
theorem Aq.bool {v:Value} {b:Bool} (h:Aq O Aa m w v (.bool b)):v= .bool b:=by cases h;rfl
theorem Aq.str {v:Value} {s:List UInt8} (h:Aq O Aa m w v (.str s)): ∃ b:ByteArray,v= .string b/\b.data.toList=s:=by cases h;exact⟨_,rfl,rfl⟩
theorem Aq.mkInt (k:IntKind) (n:Int):Aq O Aa m w (.int k n) (.int k n):=Ai.int k n
theorem Aq.Hq (b:Bool):Aq O Aa m w (.bool b) (.bool b):=Ai.bool b
theorem Aq.mkStr (s:ByteArray) {l:List UInt8} (h:s.data.toList=l):Aq O Aa m w (.string s) (.str l):=by subst h;exact Ai.str s
theorem VG (s:ByteArray):s.toList=s.data.toList:=ByteArray.toList_eq s
theorem LU (s:ByteArray):s.size=s.data.toList.length:=by rw[Array.length_toList];rfl
theorem AaJ {x:Operand} (ho:o.op= .move x\/o.op= .assign x) {y:A} (hx:Aq O Aa m w (a.eval x) y):Pure P O Aa m a w o (.v y):=by
  refine⟨⟨a.eval x,?_,hx⟩,rfl,rfl,rfl⟩
  rcases ho with ho | ho<;>simp [execOp,ho]
theorem Zl {v:Value} {x:A} (h:Aq O Aa m w v x) (hg:x.GG.1=true):Aq O Aa m w v x.GG.2:=by
  cases x with
  | cnd g y =>
    have:=h.1 hg
    cases y<;>first | trivial | exact this | exact this.elim
  | _=>exact h
theorem AjQ {c x y:Operand} (ho:o.op= .pick c x y) {c' x' y':A} (hc:Aq O Aa m w (a.eval c) c') (hx:Aq O Aa m w (a.eval x) x') (hy:Aq O Aa m w (a.eval y) y')
    (hok:Am (Acs c' x' y').ok):Pure P O Aa m a w o (Acs c' x' y'):=by
  obtain⟨h0,h1⟩:=hok.cons
  obtain⟨h1,h2⟩:=h1.cons
  obtain⟨h2,h3⟩:=h2.cons
  have h3:=h3.cons.1
  refine⟨?_,rfl,rfl,rfl⟩
  have hc':=Zl hc h0
  unfold Acs
  simp only[Dl.g]
  generalize c'.GG.2=cc at *
  obtain⟨q,rfl⟩: ∃ q,cc= .bool q:=by cases cc<;>simp [A.isB]at h1;exact⟨_,rfl⟩
  have:=hc'.bool
  cases q with
  | true =>
    simp only[A.toB,cond_true]at h2 h3 ⊢
    have hx':=Zl hx h2
    generalize x'.GG.2=xx at *
    cases xx<;>simp [A.isB]at h3
    exact⟨a.eval x,by simp [execOp,ho,asBool,this],hx'⟩
  | false =>
    simp only[A.toB,cond_false]at h2 h3 ⊢
    have hy':=Zl hy h2
    generalize y'.GG.2=yy at *
    cases yy<;>simp [A.isB]at h3
    exact⟨a.eval y,by simp [execOp,ho,asBool,this],hy'⟩
theorem JM {j k:IntKind} (h:A.kEq j k=true):j=k:=by cases j<;>cases k<;>first | rfl | cases h
theorem AkE {op:BinOp} {k:IntKind} {x y:Int} (hok:Am (aV op k x y).ok) (t:TypeId) (hop:op≠ .shl) (hop':op≠ .shr) :
    ∃ v,(binOp op t (.int k x) (.int k y)).run P w= .ok v w/\Aq O Aa m w v (aV op k x y).val/\(aV op k x y).new=[]/\(aV op k x y).upd=[]/\(aV op k x y).del=[]:=by
  have ha: ∀ op,op= .add\/op= .sub\/op= .mul->binOp op t (.int k x) (.int k y)=Op.intArith op k x y:=by
    rintro op (rfl | rfl | rfl)<;>simp [binOp]
  have hd: ∀ op,op= .quo\/op= .rem->binOp op t (.int k x) (.int k y)=Op.intDiv op k x y:=by
    rintro op (rfl | rfl)<;>simp [binOp]
  have hb: ∀ op,op= .and\/op= .or\/op= .xor\/op= .andNot->binOp op t (.int k x) (.int k y)=Op.intBits op k x y:=by
    rintro op (rfl | rfl | rfl | rfl)<;>simp [binOp]
  have hc: ∀ op,op= .eql\/op= .neq\/op= .lss\/op= .leq\/op= .gtr\/op= .geq->binOp op t (.int k x) (.int k y)=Op.intCmp op x y:=by
    rintro op (rfl | rfl | rfl | rfl | rfl | rfl)<;>simp [binOp]
  cases op with
  | shl=>exact absurd rfl hop
  | shr=>exact absurd rfl hop'
  | add=>rw[ha _ (by simp)];exact⟨_,rfl,.mkInt _ _,rfl,rfl,rfl⟩
  | sub=>rw[ha _ (by simp)];exact⟨_,rfl,.mkInt _ _,rfl,rfl,rfl⟩
  | mul=>rw[ha _ (by simp)];exact⟨_,rfl,.mkInt _ _,rfl,rfl,rfl⟩
  | quo =>
    have h0:y≠0:=by simpa [aV,Dl.g]using hok.cons.1
    rw[hd _ (by simp)]
    exact⟨.int k (k.wrap (x.tdiv y)),by simp [Op.intDiv,h0],.mkInt _ _,rfl,rfl,rfl⟩
  | rem =>
    have h0:y≠0:=by simpa [aV,Dl.g]using hok.cons.1
    rw[hd _ (by simp)]
    exact⟨.int k (x.tmod y),by simp [Op.intDiv,h0],.mkInt _ _,rfl,rfl,rfl⟩
  | and=>rw[hb _ (by simp)];exact⟨_,rfl,.mkInt _ _,rfl,rfl,rfl⟩
  | or=>rw[hb _ (by simp)];exact⟨_,rfl,.mkInt _ _,rfl,rfl,rfl⟩
  | xor=>rw[hb _ (by simp)];exact⟨_,rfl,.mkInt _ _,rfl,rfl,rfl⟩
  | andNot=>rw[hb _ (by simp)];exact⟨_,rfl,.mkInt _ _,rfl,rfl,rfl⟩
  | eql=>rw[hc _ (by simp)];exact⟨_,rfl,.Hq _,rfl,rfl,rfl⟩
  | neq=>rw[hc _ (by simp)];exact⟨_,rfl,.Hq _,rfl,rfl,rfl⟩
  | lss=>rw[hc _ (by simp)];exact⟨_,rfl,.Hq _,rfl,rfl,rfl⟩
  | leq=>rw[hc _ (by simp)];exact⟨_,rfl,.Hq _,rfl,rfl,rfl⟩
  | gtr=>rw[hc _ (by simp)];exact⟨_,rfl,.Hq _,rfl,rfl,rfl⟩
  | geq=>rw[hc _ (by simp)];exact⟨_,rfl,.Hq _,rfl,rfl,rfl⟩
theorem AkF {op:BinOp} {x y:ByteArray} {x' y':List UInt8} (hx:x.data.toList=x') (hy:y.data.toList=y') (hok:Am (aW op x' y').ok) (t:TypeId) :
    ∃ v,(binOp op t (.string x) (.string y)).run P w= .ok v w/\Aq O Aa m w v (aW op x' y').val/\(aW op x' y').new=[]/\(aW op x' y').upd=[]/\(aW op x' y').del=[]:=by
  subst hx hy
  have hs: ∀ op,op≠ .shl->op≠ .shr->binOp op t (.string x) (.string y)=Op.stringOp op x y:=by
    intro op _ _;cases op<;>rfl
  cases op<;>first
    | exact(AO hok).elim
    | (rw [hs _ (by simp) (by simp)]
       refine⟨_,rfl,?_,rfl,rfl,rfl⟩
       simp only[aW,Dl.v,VG,bytesLess]
       exact .Hq _)
    | (have h0:x.data.toList.length+y.data.toList.length<=140737488355328:=by simpa [aW,Dl.g]using hok.cons.1
       rw[hs _ (by simp) (by simp)]
       refine⟨.string (x++y),?_,?_,rfl,rfl,rfl⟩
       ·have: ¬(((x.size+y.size:Nat):Int)>IntKind.i64.max):=by
          rw[<- LU,<- LU]at h0
          rw[show IntKind.i64.max=9223372036854775807 from rfl];omega
        simp only[Op.stringOp,this,if_false];rfl
       ·exact .mkStr _ (Go.Joins.data_append x y))
end
end Go.Proofs.YtadefjgbcapakaaGreatDoor.Vm
namespace Go.Proofs.YtadefjgbcapakaaGreatDoor.Vm
theorem AcO {P:Program} {w:World} {op:BinOp} {t:TypeId} {x y:Operand} {v u:Value} (h: ∀ cs,v≠ .agg cs) (h':v≠ .nilIface):(eqGuard op t x y v u).run P w= .ok () w:=by
  unfold eqGuard
  cases op<;>first | rfl | (cases v<;>first | rfl | exact absurd rfl h' | exact absurd rfl (h _))
section
variable {P:Program} {C:Ctx} {O:Own} {Aa:List (Nat×Obj)} {m:Nat->Value} {a:Act} {w:World} {o:Oper} {fet:Fet}
def FOk (O:Own) (Aa:List (Nat×Obj)) (m:Nat->Value) (w:World) (fet:Fet):Prop:= ∀ o x,Ah fet o=some x->Ah Aa o=some x/\Dv O Aa m w o x
theorem Ba {α :Type} {x:Option α} {k: α ->Dl} (hok:Am (BB x k).ok): ∃ y,x=some y/\BB x k=k y:=by
  cases x with
  | none=>exact(AO hok).elim
  | some y=>exact⟨y,rfl,rfl⟩
theorem Bz {t:Nat} {k:TI->Dl} (hok:Am (DT C t k).ok): ∃ ti,C.T t=some ti/\DT C t k=k ti:=Ba hok
theorem D6 {n:Nat} {cs:List A} (h:F7 fet n=some cs):Ah fet n=some (.box cs):=by
  unfold F7 at h;split at h<;>simp_all
theorem GM {n:Nat} {r:Arr} (h:VI fet n=some r):Ah fet n=some (.arr r.e r.frz r.l):=by
  unfold VI at h
  split at h
  ·rename_i h';injection h with h;subst h;exact h'
  ·cases h
theorem LD {d:TypeDesc} {e:Nat} (h:elem? d=some e):d= .slice e:=by
  unfold elem? at h;split at h<;>simp_all
theorem Aq.own {v:Value} {n:Nat} {e:Nat} {frz:Bool} {l:Sl} (hf:FOk O Aa m w fet) (h:Aq O Aa m w v (.own n)) (hx:Ah fet n=some (.arr e frz l)) :
    v=m n/\Dv O Aa m w n (.arr e frz l):=by
  obtain⟨h1,h2⟩:=hf _ _ hx
  refine⟨?_,h2⟩
  have h':AB O Aa m w v (.own n):=h
  simp only[AB,h1,Option.map_some,Obj.shp]at h'
  exact h'.2
theorem Aq.ptr {v:Value} {n off:Nat} {cs:List A} (hf:FOk O Aa m w fet) (h:Aq O Aa m w v (.ptr n off)) (hx:Ah fet n=some (.box cs)) :
    ∃ b base,m n= .pointer (some (at' b base))/\v= .pointer (some (at' b (base+off)))/\ ∀ j,j<cs.length->O b (base+j)=some n/\w.frozen? (at' b (base+j))=false /\
      ∃ u,w.cell? (at' b (base+j))=some u/\AB O Aa m w u (cs.getD j .undef):=by
  obtain⟨h1,b,base,h2,h3⟩:=hf _ _ hx
  have h':AB O Aa m w v (.ptr n off):=h
  simp only[AB,h1,Option.map_some,Obj.shp]at h'
  obtain⟨_,b',base',h4,h5⟩:=h'
  rw[h2]at h4
  injection h4 with h4;injection h4 with h4;injection h4 with h4 h6
  subst h4;subst h6
  exact⟨b,base,h2,h5,h3⟩
theorem Aq.Dj {v:Value} (h:Aq O Aa m w v .Dj):v= .pointer none:=by cases h;rfl
theorem Ad9 {t e:Nat} {v:Value} {b:Bool} (hu:P.underlying t=some (.slice e)) (h:(v= .slice none 0 0/\b=true)\/(∃ ad l c,v= .slice (some ad) l c)/\b=false) :
    (Op.equal t v (.slice none 0 0)).run P w= .ok b w:=by
  rcases h with ⟨rfl,rfl⟩ | ⟨⟨ad,l,c,rfl⟩,rfl⟩<;>rw[run_equal_slice_nil w t e _ _ _ hu]<;>rfl
theorem AjB {t e:Nat} {v:Value} {b:Bool} (hu:P.underlying t=some (.pointer e)) (h:(v= .pointer none/\b=true)\/(∃ ad,v= .pointer (some ad))/\b=false) :
    (Op.equal t v (.pointer none)).run P w= .ok b w:=by
  have hu':P.underlying t=some (.pointer (P.pointee t)):=by rw[hu];simp [Program.pointee,hu]
  rcases h with ⟨rfl,rfl⟩ | ⟨⟨ad,rfl⟩,rfl⟩<;>rw[run_equal_pointer_nil w t _ hu']<;>rfl
theorem AaL {s:Bool} {t:Nat} {d:TypeDesc} {x:A} {v:Value} {b:Bool} (hd:P.underlying t=some d) (hf:FOk O Aa m w fet) (hx:Aq O Aa m w v x) (h:Ahm fet s d x=some b) :
    (s=true/\(Op.equal t v (.slice none 0 0)).run P w= .ok b w/\ ∃ a l c,v= .slice a l c)\/(s=false/\(Op.equal t v (.pointer none)).run P w= .ok b w/\ ∃ a,v= .pointer a):=by
  unfold Ahm at h
  split at h
  ·injection h with h;subst h
   have hx':v= .slice none 0 0:=hx
   exact .inl ⟨rfl,Ad9 hd (.inl ⟨hx',rfl⟩),_,_,_,hx'⟩
  ·injection h with h;subst h
   rename_i l
   have hx':Ai O w v (.sln l):=hx
   cases hx' with
   | sln h hn =>
     cases hq:l.xs.isEmpty with
     | true =>
       have hx':=hn (List.isEmpty_iff.1 hq)
       exact .inl ⟨rfl,Ad9 hd (.inl ⟨hx',rfl⟩),_,_,_,hx'⟩
     | false =>
       cases h with
       | nil=>cases hq
       | sl0=>cases hq
       | sl vs _ _ _=>exact .inl ⟨rfl,Ad9 hd (.inr ⟨⟨_,_,_,rfl⟩,rfl⟩),_,_,_,rfl⟩
  ·injection h with h;subst h
   cases hx
   exact .inr ⟨rfl,AjB hd (.inl ⟨rfl,rfl⟩),_,rfl⟩
  ·rename_i n off
   cases hr:F7 fet n with
   | none=>rw[hr]at h;cases h
   | some cs =>
     rw[hr]at h;injection h with h;subst h
     obtain⟨b,base,_,h2,_⟩:=hx.ptr hf (D6 hr)
     exact .inr ⟨rfl,AjB hd (.inr ⟨⟨_,h2⟩,rfl⟩),_,h2⟩
  ·cases h
theorem Afs {t:Nat} {x y:Bool} (hd:P.underlying t=some .bool):(Op.equal t (.bool x) (.bool y)).run P w= .ok (x==y) w:=by
  have: ∀ d,(Op.equalIn (d+1) t (.bool x) (.bool y)).run P w= .ok (x==y) w:=by intro d;simp [Op.equalIn,run_underlying hd]
  exact this 9999
theorem vT {t:Nat} {vs:Array Value} {off:Nat} {d:TypeDesc} (hd:P.underlying t=some d) (hp:QH d=false) (h:off<vs.size):(part t vs off).run P w= .ok (vs.getD off undef) w:=by
  have hg:vs[off]? =some (vs.getD off undef):=by rw[Array.getD_eq_getD_getElem?,Array.getElem?_eq_getElem h];rfl
  have ha:(isAgg t).run P w= .ok false w:=by
    simp only[isAgg,Sem.run_bind,run_underlying hd,Result.andThen_ok]
    cases d<;>first | rfl | cases hp
  unfold part
  generalize vs.getD off undef=z at *
  simp [ha,hg]
theorem AB.Amt {v:Value} {b:Bool} (h:AB O Aa m w v (.bool b)):v= .bool b:=by cases h;rfl
theorem AB.Aoj {v:Value} {k:IntKind} {n:Int} (h:AB O Aa m w v (.int k n)):v= .int k n:=by cases h;rfl
theorem AB.AoD {v:Value} {s:List UInt8} (h:AB O Aa m w v (.str s)): ∃ b:ByteArray,v= .string b/\b.data.toList=s:=by cases h;exact⟨_,rfl,rfl⟩
theorem Agk {d ty:Nat} {k:CK} {td:TypeDesc} {a b:A} {v u:Value} (hk:(k= .bool/\td= .bool)\/(∃ i,k= .int i/\td= .int i)\/(k= .str/\td= .string)) (hd:P.underlying ty=some td) (h1:AB O Aa m w v a) (h2:AB O Aa m w u b) (hok:(Tn k a b).1=true) :
    (Op.equalIn (d+1) ty v u).run P w= .ok (Tn k a b).2 w:=by
  rcases hk with ⟨rfl,rfl⟩ | ⟨i,rfl,rfl⟩ | ⟨rfl,rfl⟩
  ·cases a<;>first | (cases hok;done) | skip
   cases b<;>first | (cases hok;done) | skip
   rw[h1.Amt,h2.Amt]
   exact run_equalIn_bool' w d ty _ _ hd
  ·cases a<;>first | (cases hok;done) | skip
   cases b<;>first | (cases hok;done) | skip
   rename_i j x j' y
   simp only[Tn,Bool.and_eq_true]at hok
   rw[h1.Aoj,h2.Aoj,JM hok.1,JM hok.2]
   exact run_equalIn_int w d ty i i _ _ hd
  ·cases a<;>first | (cases hok;done) | skip
   cases b<;>first | (cases hok;done) | skip
   obtain⟨s1,e1,l1⟩:=h1.AoD
   obtain⟨s2,e2,l2⟩:=h2.AoD
   rw[e1,e2,run_equalIn_string w d ty _ _ hd]
   simp only[Tn,VG,l1,l2]
theorem AcN {d:Nat} {vs us:Array Value} {x y:List A} (hx:vs.size=x.length) (hy:us.size=y.length) (hxr: ∀ j,j<x.length->AB O Aa m w (vs.getD j undef) (x.getD j .undef)) (hyr: ∀ j,j<y.length->AB O Aa m w (us.getD j undef) (y.getD j .undef)) :
    ∀(fs:List Field) (n:Nat) (ks:List CK),Oz P fs n=some ks->(GV ks (x.drop n) (y.drop n)).1=true->(Op.eqFields (d+1) vs us fs).run P w= .ok (GV ks (x.drop n) (y.drop n)).2 w:=by
  intro fs
  induction fs with
  | nil =>
    intro n ks h hok
    injection h with h
    subst h
    have:GV [] (x.drop n) (y.drop n)=(true,true):=by
      cases hx:x.drop n with
      | nil=>cases hy:y.drop n with
        | nil=>rfl
        | cons _ _=>rw[hx,hy]at hok;cases hok
      | cons _ _=>rw[hx]at hok;cases hok
    rw[this];rfl
  | cons f fs ih =>
    intro n ks h hok
    have key: ∀(k:CK) (td:TypeDesc) (ks':List CK),((k= .bool/\td= .bool)\/(∃ i,k= .int i/\td= .int i)\/(k= .str/\td= .string))->P.underlying f.type=some td->Oz P fs (n+1)=some ks'->(f.name != "_" &&Nat.beq f.offset n)=true->ks=k::ks' ->
        (Op.eqFields (d+1) vs us (f::fs)).run P w= .ok (GV ks (x.drop n) (y.drop n)).2 w:=by
      intro k td ks' hk hd hf hn hks
      subst hks
      rw[Bool.and_eq_true]at hn
      have hnm:f.name≠ "_" :=by simpa using hn.1
      have hoff:=Nat.eq_of_beq_eq_true hn.2
      cases hxd:x.drop n with
      | nil=>rw[hxd]at hok;cases hok
      | cons a xr =>
        cases hyd:y.drop n with
        | nil=>rw[hxd,hyd]at hok;cases hok
        | cons b yr =>
          rw[hxd,hyd]at hok
          simp only[GV,Bool.and_eq_true]at hok ⊢
          have hnx:n<x.length:=by
            rcases Nat.lt_or_ge n x.length with h | h
            ·exact h
            ·rw[List.drop_eq_nil_of_le h]at hxd;cases hxd
          have hny:n<y.length:=by
            rcases Nat.lt_or_ge n y.length with h | h
            ·exact h
            ·rw[List.drop_eq_nil_of_le h]at hyd;cases hyd
          have e1:x.getD n .undef=a:=by
            have:=congrArg List.head? hxd
            rw[List.head?_drop]at this
            rw[List.getD_eq_getElem?_getD,this];rfl
          have e2:y.getD n .undef=b:=by
            have:=congrArg List.head? hyd
            rw[List.head?_drop]at this
            rw[List.getD_eq_getElem?_getD,this];rfl
          have e3:x.drop (n+1)=xr:=by rw[<- List.drop_drop,hxd];rfl
          have e4:y.drop (n+1)=yr:=by rw[<- List.drop_drop,hyd];rfl
          have r1:=hxr n hnx
          have r2:=hyr n hny
          rw[e1]at r1;rw[e2]at r2
          have hagg:QH td=false:=by rcases hk with ⟨_,rfl⟩ | ⟨i,_,rfl⟩ | ⟨_,rfl⟩<;>rfl
          have p1:=vT (P:=P) (w:=w) (vs:=vs) (off:=n) hd hagg (by omega)
          have p2:=vT (P:=P) (w:=w) (vs:=us) (off:=n) hd hagg (by omega)
          have q:=Agk (d:=d) hk hd r1 r2 hok.1
          have hrest:=ih (n+1) ks' hf (by rw[e3,e4];exact hok.2)
          rw[e3,e4]at hrest
          simp only[Op.eqFields,hnm,ne_eq,not_false_eq_true,if_true,Sem.run_bind,hoff,p1,p2,Result.andThen_ok,q]
          cases (Tn k a b).2 with
          | false=>simp
          | true=>simpa using hrest
    unfold Oz at h
    split at h
    ·rename_i ks' hd hf
     cases hb:(f.name != "_" &&Nat.beq f.offset n)with
     | false=>rw[hb]at h;cases h
     | true=>rw[hb]at h;injection h with h;exact key _ _ _ (.inl ⟨rfl,rfl⟩) hd hf hb h.symm
    ·rename_i k ks' hd hf
     cases hb:(f.name != "_" &&Nat.beq f.offset n)with
     | false=>rw[hb]at h;cases h
     | true=>rw[hb]at h;injection h with h;exact key _ _ _ (.inr (.inl ⟨k,rfl,rfl⟩)) hd hf hb h.symm
    ·rename_i ks' hd hf
     cases hb:(f.name != "_" &&Nat.beq f.offset n)with
     | false=>rw[hb]at h;cases h
     | true=>rw[hb]at h;injection h with h;exact key _ _ _ (.inr (.inr ⟨rfl,rfl⟩)) hd hf hb h.symm
    ·cases h
theorem Afv {t:Nat} {ti:TI} (hT:MC P t ti) {vs us:Array Value} {x y:List A} (hx:vs.size=x.length) (hy:us.size=y.length) (hxr: ∀ j,j<x.length->AB O Aa m w (vs.getD j undef) (x.getD j .undef)) (hyr: ∀ j,j<y.length->AB O Aa m w (us.getD j undef) (y.getD j .undef))
    (h1:ti.cmp.isEmpty=false) (h2:(GV ti.cmp x y).1=true):P.eqGuardType P.depth t=false/\(Op.equalIn 10000 t (.agg vs) (.agg us)).run P w= .ok (GV ti.cmp x y).2 w:=by
  have hc:=hT.cmp
  have hd:=hT.d
  unfold Agn at hc
  split at hc
  ·rename_i fs hfs
   split at hc
   ·rename_i ks hks
    cases hb:(!(P.stoodInHeld t)&& !(P.eqGuardType P.depth t))with
    | false=>rw[hb]at hc;rw[hc]at h1;cases h1
    | true =>
      rw[hb]at hc
      simp only[cond_true]at hc
      rw[hc]at h2 ⊢
      rw[Bool.and_eq_true,Bool.not_eq_true',Bool.not_eq_true']at hb
      rw[hfs]at hd
      have hf:P.fieldsOf t=fs:=by simp only[Program.fieldsOf,hd]
      refine⟨hb.2,?_⟩
      rw[run_equalIn_agg w 9999 t vs us (by rw[hf];exact hd) hb.1,hf]
      exact AcN (d:=9998) hx hy hxr hyr fs.toList 0 ks hks h2
   ·rw[hc]at h1;cases h1
  ·rw[hc]at h1;cases h1
theorem AkG {op:BinOp} {t ty:Nat} {x y:Operand} (hC:TOk P C) (hf:FOk O Aa m w fet) (ho:o.op= .binOp op t x y ty) {x' y':A} (hx:Aq O Aa m w (a.eval x) x') (hy:Aq O Aa m w (a.eval y) y')
    (hok:Am (Aga C fet op t x' y').ok):Pure P O Aa m a w o (Aga C fet op t x' y'):=by
  have fin: ∀ {v u:Value} {δ :Dl},a.eval x=v->a.eval y=u->(∀ cs,v≠ .agg cs)->v≠ .nilIface->(∃ r,(binOp op t v u).run P w= .ok r w/\Aq O Aa m w r δ.val/\ δ.new=[]/\ δ.upd=[]/\ δ.del=[])->Pure P O Aa m a w o δ :=by
    intro v u δ hv hu h1 h2 ⟨r,h3,h4,h5,h6,h7⟩
    refine⟨⟨r,?_,h4⟩,h5,h6,h7⟩
    simp only[execOp,ho,hv,hu,Sem.run_bind,AcO h1 h2,Result.andThen_ok,h3,Sem.run_pure]
  unfold Aga at hok ⊢
  split at hok
  ·rename_i k p k' q
   have h1:=hx.int
   have h2:=hy.int
   split at hok
   ·have h0:0<=q:=by simpa [Dl.g]using hok.cons.1
    refine fin h1 h2 (by simp) (by simp) ⟨_,?_,.mkInt _ _,rfl,rfl,rfl⟩
    have: ¬ q<0:=by omega
    simp [binOp,Op.shift,this]
   ·have h0:0<=q:=by simpa [Dl.g]using hok.cons.1
    refine fin h1 h2 (by simp) (by simp) ⟨_,?_,.mkInt _ _,rfl,rfl,rfl⟩
    have: ¬ q<0:=by omega
    simp [binOp,Op.shift,this]
   ·rename_i h3 h4
    cases hk:A.kEq k k' with
    | false=>rw[hk]at hok;exact(AO hok).elim
    | true =>
      rw[hk]at hok
      have:=JM hk
      subst this
      exact fin h1 h2 (by simp) (by simp) (AkE hok t h3 h4)
  ·obtain⟨s1,h1,h2⟩:=hx.str
   obtain⟨s2,h3,h4⟩:=hy.str
   exact fin h1 h3 (by simp) (by simp) (AkF h2 h4 hok t)
  ·have h1:=hx.bool
   have h2:=hy.bool
   split at hok
   ·unfold Acb at *
    obtain⟨ti,ht,he⟩:=Bz hok
    rw[he]at hok ⊢
    have hd:ti.d= .bool:=by
      have:=hok.cons.1
      unfold zL at this;split at this<;>simp_all
    refine fin h1 h2 (by simp) (by simp) ⟨_,?_,.Hq _,rfl,rfl,rfl⟩
    have hu:=(hC.is ht).d
    rw[hd]at hu
    simp only[binOp,Sem.run_bind,Afs hu,Result.andThen_ok,Sem.run_pure]
   ·unfold Acb at *
    obtain⟨ti,ht,he⟩:=Bz hok
    rw[he]at hok ⊢
    have hd:ti.d= .bool:=by
      have:=hok.cons.1
      unfold zL at this;split at this<;>simp_all
    refine fin h1 h2 (by simp) (by simp) ⟨_,?_,.Hq _,rfl,rfl,rfl⟩
    have hu:=(hC.is ht).d
    rw[hd]at hu
    simp only[binOp,Sem.run_bind,Afs hu,Result.andThen_ok,Sem.run_pure]
   ·exact(AO hok).elim
  ·rename_i x y
   obtain⟨vs,e1,l1,r1⟩:=(show T1 O Aa m w _ (.agg x)from hx)
   obtain⟨us,e2,l2,r2⟩:=(show T1 O Aa m w _ (.agg y)from hy)
   obtain⟨ti,ht,he⟩:=Bz hok
   rw[he]at hok ⊢
   split at hok
   ·obtain⟨c1,c2⟩:=hok.cons
    obtain⟨g1,g2⟩:=Afv (hC.is ht) l1 l2 r1 r2 (by simpa using c1) c2.cons.1
    refine⟨⟨_,?_,.Hq _⟩,rfl,rfl,rfl⟩
    simp only[execOp,ho,e1,e2,Sem.run_bind,run_eqGuard_agg w _ _ _ _ _ _ g1,Result.andThen_ok,run_eql_struct w,g2,Sem.run_pure]
   ·obtain⟨c1,c2⟩:=hok.cons
    obtain⟨g1,g2⟩:=Afv (hC.is ht) l1 l2 r1 r2 (by simpa using c1) c2.cons.1
    refine⟨⟨_,?_,.Hq _⟩,rfl,rfl,rfl⟩
    simp only[execOp,ho,e1,e2,Sem.run_bind,run_eqGuard_agg w _ _ _ _ _ _ g1,Result.andThen_ok,run_neq_struct w,g2,Sem.run_pure]
   ·exact(AO hok).elim
  ·have h2:a.eval y= .slice none 0 0:=hy
   split at hok
   all_goals first
     | exact(AO hok).elim
     | (unfold zZ at *
        obtain⟨ti,ht,he⟩:=Bz hok
        rw[he]at hok ⊢
        obtain⟨b,hb,he'⟩:=Ba hok
        rw[he']
        have hu:=(hC.is ht).d
        rcases AaL hu hf hx hb with ⟨_,h3,al,l,c,h4⟩ | ⟨hs,_⟩
        ·rw[h4]at h3
         refine fin h4 h2 (by simp) (by simp) ⟨_,?_,.Hq _,rfl,rfl,rfl⟩
         simp only[binOp,Sem.run_bind,h3,Result.andThen_ok,Sem.run_pure]
        ·cases hs)
  ·have h2:=hy.Dj
   split at hok
   all_goals first
     | exact(AO hok).elim
     | (unfold zZ at *
        obtain⟨ti,ht,he⟩:=Bz hok
        rw[he]at hok ⊢
        obtain⟨b,hb,he'⟩:=Ba hok
        rw[he']
        have hu:=(hC.is ht).d
        rcases AaL hu hf hx hb with ⟨hs,_⟩ | ⟨_,h3,al,h4⟩
        ·cases hs
        ·rw[h4]at h3
         refine fin h4 h2 (by simp) (by simp) ⟨_,?_,.Hq _,rfl,rfl,rfl⟩
         simp only[binOp,Sem.run_bind,h3,Result.andThen_ok,Sem.run_pure])
  ·exact(AO hok).elim
end
end Go.Proofs.YtadefjgbcapakaaGreatDoor.Vm
namespace Go.Proofs.YtadefjgbcapakaaGreatDoor.Vm
theorem JE (b k n:Nat):(at' b k).add n=at' b (k+n):=by
  unfold Addr.add;split
  ·rename_i h;subst h;rfl
  ·rfl
section
variable {P:Program} {C:Ctx} {O:Own} {Aa:List (Nat×Obj)} {m:Nat->Value} {a:Act} {w:World} {o:Oper} {fet:Fet}
theorem AnB {op:UnOp} {t:Nat} {x:Operand} (ho:o.op= .unOp op t x) {x':A} (hx:Aq O Aa m w (a.eval x) x') (hok:Am (unX op x').ok):Pure P O Aa m a w o (unX op x'):=by
  unfold unX at hok ⊢
  split at hok
  ·have h1:=hx.bool
   exact⟨⟨_,by simp only[execOp,ho,h1,Op.unary];rfl,.Hq _⟩,rfl,rfl,rfl⟩
  ·have h1:=hx.int
   exact⟨⟨_,by simp only[execOp,ho,h1,Op.unary];rfl,.mkInt _ _⟩,rfl,rfl,rfl⟩
  ·have h1:=hx.int
   exact⟨⟨_,by simp only[execOp,ho,h1,Op.unary];rfl,.mkInt _ _⟩,rfl,rfl,rfl⟩
  ·exact(AO hok).elim
theorem QG {x:A} {n:Int} (h:int? x=some n): ∃ k,x= .int k n:=by
  unfold int? at h;split at h<;>simp_all
theorem Abg {x:A} {s:List UInt8} (h:AhJ x=some s):x= .str s:=by
  unfold AhJ at h;split at h<;>simp_all
theorem fA {d:TypeDesc} (h:eY d=true):d= .string:=by
  unfold eY at h;split at h<;>simp_all
theorem AgL {t:Nat} {x i:Operand} (hC:TOk P C) (ho:o.op= .index t x i) {x' i':A} (hx:Aq O Aa m w (a.eval x) x') (hi:Aq O Aa m w (a.eval i) i')
    (hok:Am (uH C t x' i').ok):Pure P O Aa m a w o (uH C t x' i'):=by
  unfold uH at hok ⊢
  obtain⟨n,hn,he⟩:=Ba hok
  rw[he]at hok ⊢
  obtain⟨s,hs,he⟩:=Ba hok
  rw[he]at hok ⊢
  obtain⟨ti,ht,he⟩:=Bz hok
  rw[he]at hok ⊢
  obtain⟨k,rfl⟩:=QG hn
  have:=Abg hs
  subst this
  obtain⟨h1,h2⟩:=hok.cons
  obtain⟨h2,h3⟩:=h2.cons
  have h3:=h3.cons.1
  have hd:=fA h1
  have hu:=(hC.is ht).run w
  rw[hd]at hu
  have hi:=hi.int
  obtain⟨b,hb,hl⟩:=hx.str
  have h2:0<=n:=by simpa using h2
  have h3:n<(s.length:Int):=by simpa using h3
  obtain⟨j,rfl⟩:=Int.eq_ofNat_of_zero_le h2
  have hj:j<b.size:=by rw[LU,hl];omega
  refine⟨⟨.int .u8 (b[j].toNat:Int),?_,?_⟩,rfl,rfl,rfl⟩
  ·simp [execOp,ho,Instr.index,hi,hb,asIntOf,hu,hj]
  ·have:s.getD (Int.ofNat j).toNat 0=b[j]:=by
     subst hl
     show b.data.toList.getD j 0=b[j]
     rw[List.getD_eq_getElem?_getD,List.getElem?_eq_getElem (by rw[<- LU];exact hj)]
     obtain⟨⟨l⟩⟩:=b;rfl
   simp only[Dl.g]
   rw[show((j:Int)).toNat=(Int.ofNat j).toNat from rfl,this]
   exact .mkInt _ _
def ORl (O:Own) (Aa:List (Nat×Obj)) (m:Nat->Value) (w:World):Option Value->Option A->Prop
  | none,none=>True
  | some v,some x=>Aq O Aa m w v x
  | _,_=>False
theorem NM {isS:Bool} {len cap:Nat} {lo hi:Option Value} {lo' hi':Option A} (hl:ORl O Aa m w lo lo') (hh:ORl O Aa m w hi hi') (hc:len<=cap) {r:List Bool×Nat×Nat} (h:nZ len lo' hi'=some r) (hok:Am r.1) :
    (Instr.sliceBounds isS len cap lo hi none).run P w= .ok (r.2.1,r.2.2,cap) w/\r.2.1<=r.2.2/\r.2.2<=len:=by
  unfold nZ at h
  split at h
  ·injection h with h;subst h
   cases lo<;>cases hi<;>simp [ORl]at hl hh
   simp [Instr.sliceBounds]
  ·injection h with h;subst h
   cases lo<;>cases hi<;>simp only[ORl]at hl hh
   obtain⟨h1,h2⟩:=hok.cons
   have h2:=h2.cons.1
   simp at h1 h2
   have hl:=hl.int
   rename_i q _ _ _
   obtain⟨j,rfl⟩:=Int.eq_ofNat_of_zero_le h1
   have:j<=len:=by simpa using h2
   simp [Instr.sliceBounds,Instr.sliceBound,hl,asIntOf,this]
  ·injection h with h;subst h
   cases lo<;>cases hi<;>simp only[ORl]at hl hh
   obtain⟨h1,h2⟩:=hok.cons
   have h2:=h2.cons.1
   simp at h1 h2
   have hh:=hh.int
   rename_i q _ _ _
   obtain⟨j,rfl⟩:=Int.eq_ofNat_of_zero_le h1
   have:j<=len:=by simpa using h2
   have h3:j<=cap:=by omega
   simp [Instr.sliceBounds,Instr.sliceBound,hh,asIntOf,h3,this]
  ·injection h with h;subst h
   cases lo<;>cases hi<;>simp only[ORl]at hl hh
   obtain⟨h1,h2⟩:=hok.cons
   obtain⟨h2,h3⟩:=h2.cons
   have h3:=h3.cons.1
   simp at h1 h2 h3
   have hl:=hl.int
   have hh:=hh.int
   rename_i p _ q _ _ _
   obtain⟨j,rfl⟩:=Int.eq_ofNat_of_zero_le h1
   obtain⟨i,rfl⟩:=Int.eq_ofNat_of_zero_le (Int.le_trans h1 h2)
   have h4:i<=len:=by simpa using h3
   have h5:j<=i:=by simpa using h2
   have h6:i<=cap:=by omega
   simp [Instr.sliceBounds,Instr.sliceBound,hl,hh,asIntOf,h4,h5,h6]
  ·cases h
theorem l7 (s:ByteArray) (i j:Nat):(s.extract i j).data.toList=AA s.data.toList i j:=by
  simp [AA,ByteArray.data_extract,List.drop_take]
end
