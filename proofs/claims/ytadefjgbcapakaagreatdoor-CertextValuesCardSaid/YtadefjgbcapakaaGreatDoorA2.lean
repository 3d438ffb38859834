import Derived.Test.YtadefjgbcapakaaGreatDoorA1
import Derived.WalkKit
import Derived.Laws.IdiomCopy
import Derived.Laws.Cells
import Derived.Laws.Rows
import Derived.Laws.IdiomStrings
import Derived.Deep.MidRow
import Derived.ChangeKeysEq
import Derived.Lib.SmallJoins
import Derived.Lib.IndexBytes
import Derived.Laws.Cover3
import Derived.Laws.Pointers
import Derived.Laws.StructEq
set_option linter.all false
namespace Go.Proofs.YtadefjgbcapakaaGreatDoor.Vm
theorem Ty.Dz: ∀(t:Ty) (v:t.Val),(t.cells v).length=t.len
  | .nil,_=>rfl
  | .bool r,v=>by simp [Ty.cells,Ty.len,Ty.Dz r]
  | .int _ r,v=>by simp [Ty.cells,Ty.len,Ty.Dz r]
  | .str r,v=>by simp [Ty.cells,Ty.len,Ty.Dz r]
  | .sl _ _ r,v=>by simp [Ty.cells,Ty.len,Ty.Dz r]
  | .ptr r,v=>by simp [Ty.cells,Ty.len,Ty.Dz r v]
  | .fn r,v=>by simp [Ty.cells,Ty.len,Ty.Dz r]
  | .mp _ _ r,v=>by simp [Ty.cells,Ty.len,Ty.Dz r]
theorem Ty.Ff {α :Type} (r:Ty) (a: α) (b:r.Val):r.hd (r.mk2 a b)=a:=by cases r<;>rfl
theorem Ty.Fp {α :Type} (r:Ty) (a: α) (b:r.Val):r.tl (r.mk2 a b)=b:=by cases r<;>rfl
theorem Sl.BC (l:Sl):l.es.length=l.xs.length:=by simp [Sl.es]
theorem Sl.es_len (l:Sl): ∀ e∈l.es,e.length=l.sz:=by
  intro e he
  obtain⟨v,_,rfl⟩:=List.mem_map.1 he
  exact Ty.Dz _ _
theorem Sl.at_eq (l:Sl) {i:Nat} (h:i<l.xs.length):l.at i=l.es.getD i []:=by
  simp [Sl.at,Sl.es,List.getD_eq_getElem?_getD,h]
theorem Sl.Ac0 (l:Sl) (i:Nat):(l.at i).length=l.sz:=Ty.Dz _ _
theorem Sl.GN {l:Sl} {t:Ty} {xs:List t.Val} (h:l.cast t=some xs):l=⟨t,xs⟩:=by
  unfold Sl.cast at h
  split at h
  ·rename_i e _
   obtain⟨s,ys⟩:=l
   dsimp only at e
   subst e
   injection h with h
   rw[<- h]
  ·cases h
theorem Sl.QG (t:Ty) (xs:List t.Val):(⟨t,xs⟩:Sl).cast t=some xs:=by
  unfold Sl.cast
  split
  ·rfl
  ·rename_i h _;exact absurd rfl h
theorem Mp.GN {l:Mp} {kt vt:Ty} {xs:List (kt.Val×vt.Val)} (h:l.cast kt vt=some xs):l=⟨kt,vt,xs⟩:=by
  unfold Mp.cast at h
  split at h
  ·rename_i e _
   obtain⟨k,v,ys⟩:=l
   dsimp only at e
   subst e
   split at h
   ·rename_i e' _
    dsimp only at e'
    subst e'
    injection h with h
    rw[<- h]
   ·cases h
  ·cases h
theorem Mp.QG (kt vt:Ty) (xs:List (kt.Val×vt.Val)):(⟨kt,vt,xs⟩:Mp).cast kt vt=some xs:=by
  unfold Mp.cast
  split
  ·split
   ·rfl
   ·rename_i h _;exact absurd rfl h
  ·rename_i h _;exact absurd rfl h
theorem A.H6 {j k:IntKind} (h:A.kEq j k=true):j=k:=by cases j<;>cases k<;>first | rfl | cases h
theorem Ty.Gi: ∀(t:Ty) (cs:List A),(t.mk cs).1=true->t.cells (t.mk cs).2=cs:=by
  intro t
  induction t with
  | nil =>
    intro cs h
    cases cs with
    | nil=>rfl
    | cons _ _=>simp [Ty.mk]at h
  | fn r ih =>
    intro cs h
    unfold Ty.mk at h ⊢
    split at h
    ·rename_i b cs
     simp only[Ty.cells,Ty.Ff,Ty.Fp];rw[ih cs h]
    ·simp at h
  | mp kt vt r _ _ ih =>
    intro cs h
    unfold Ty.mk at h ⊢
    split at h
    ·rename_i l cs
     cases hc:l.cast kt vt with
     | none=>rw[hc]at h;simp at h
     | some xs =>
       rw[hc]at h
       dsimp only at h ⊢
       simp only[Ty.cells,Ty.Ff,Ty.Fp]
       rw[ih cs h,Mp.GN hc]
    ·simp at h
  | bool r ih =>
    intro cs h
    unfold Ty.mk at h ⊢
    split at h
    ·rename_i b cs
     simp only[Ty.cells,Ty.Ff,Ty.Fp];rw[ih cs h]
    ·simp at h
  | int k r ih =>
    intro cs h
    unfold Ty.mk at h ⊢
    split at h
    ·rename_i b n cs
     simp only[Bool.and_eq_true]at h
     simp only[Ty.cells,Ty.Ff,Ty.Fp];rw[ih cs h.2,A.H6 h.1]
    ·simp at h
  | str r ih =>
    intro cs h
    unfold Ty.mk at h ⊢
    split at h
    ·rename_i b cs
     simp only[Ty.cells,Ty.Ff,Ty.Fp];rw[ih cs h]
    ·simp at h
  | sl e t r _ ih =>
    intro cs h
    unfold Ty.mk at h ⊢
    split at h
    ·rename_i l cs
     cases hc:l.cast t with
     | none=>rw[hc]at h;simp at h
     | some xs =>
       rw[hc]at h
       dsimp only at h ⊢
       simp only[Ty.cells,Ty.Ff,Ty.Fp]
       rw[ih cs h,Sl.GN hc]
    ·simp at h
  | ptr r ih =>
    intro cs h
    unfold Ty.mk at h ⊢
    split at h
    ·rename_i cs
     show A.Cc::r.cells (r.mk cs).2=_
     rw[ih cs h]
    ·simp at h
theorem Ty.jS: ∀(ks:List CK),ks.all CK.plain=true->(tyl ks).cells (tyl ks).zero=ks.map CK.Ea:=by
  intro ks
  induction ks with
  | nil=>intro _;rfl
  | cons k ks ih =>
    intro h
    simp only[List.all_cons,Bool.and_eq_true]at h
    have:=ih h.2
    cases k<;>first
      | (have:=h.1;cases this;done)
      | (simp only[tyl,Ty.zero,Ty.cells,Ty.Ff,Ty.Fp,List.map_cons,CK.Ea,CK.zero];rw[this])
theorem Jj (ks:List CK):(tyl ks).len=ks.length:=by
  induction ks with
  | nil=>rfl
  | cons k ks ih=>cases k<;>simp [tyl,Ty.len,ih]
theorem Sl.Agx (l:Sl) {i off:Nat} {cs:List A} (hi:i<l.xs.length) (h:(l.set i off cs).1=true):(l.set i off cs).2.es=l.es.set i (splice (l.es.getD i []) off cs):=by
  have:=Ty.Gi _ _ h
  rw[<- l.at_eq hi]
  simp only[Sl.set,Sl.es,List.map_set]
  rw[this]
theorem Sl.AcU (t:Ty) (xs ys:List t.Val):(⟨t,xs++ys⟩:Sl).es=(⟨t,xs⟩:Sl).es++(⟨t,ys⟩:Sl).es:=by simp [Sl.es]
theorem Sl.AcV (l:Sl) (a b:Nat):(⟨l.t,AV l.xs a b⟩:Sl).es=AV l.es a b:=by simp [Sl.es,AV,List.map_take,List.map_drop]
theorem Sl.PY (ks:List CK) (n:Nat) (h:ks.all CK.plain=true):(⟨tyl ks,List.replicate n (tyl ks).zero⟩:Sl).es=List.replicate n (ks.map CK.Ea):=by
  simp [Sl.es,List.map_replicate,Ty.jS ks h]
theorem Sl.AcW (t:Ty):(⟨t,[]⟩:Sl).es=[]:=rfl
def DR (P:Program):Nat->Nat->Option (List CK)
  | 0,_=>none
  | n+1,t=>match P.underlying t with
    | some .bool=>some [.bool]
    | some (.int k)=>some [.int k]
    | some .string=>some [.str]
    | some (.slice e)=>match DR P n e with
      | some cs=>bif cs.all CK.plain then some [.sl e (tyl cs)]else some [.oth]
      | none=>some [.oth]
    | some (.pointer _)=>some [.ptr]
    | some (.struct fs)=>fs.toList.foldr (fun f acc=>match DR P n f.type,acc with | some a,some b=>some (a++b) | _,_=>none) (some [])
    | some (.array m e)=>match DR P n e with
      | some a=>bif Nat.ble (m*a.length) 4096 then some ((List.replicate m a).flatten)else none
      | none=>none
    | some (.tuple _)=>none
    | some (.func _ _ _)=>some [.fn]
    | some _=>some [.oth]
    | none=>none
def Bj:List Value->List CK->Bool
  | [],[]=>true
  | .bool false::vs,.bool::ks=>Bj vs ks
  | .int k 0::vs,.int k'::ks=>A.kEq k k'&&Bj vs ks
  | .string s::vs,.str::ks=>s.data.toList.isEmpty&&Bj vs ks
  | .slice none 0 0::vs,.sl _ _::ks=>Bj vs ks
  | .pointer none::vs,.ptr::ks=>Bj vs ks
  | .nilFunc::vs,.fn::ks=>Bj vs ks
  | v::vs,.oth::ks=>v.oneCell'&&Bj vs ks
  | _,_=>false
def N8:TypeDesc->Bool
  | .struct _ | .array _ _=>true
  | _=>false
def Tm:Value->Bool
  | .agg _=>true
  | _=>false
def Kz (P:Program):List Field->Nat->Option (List CK)
  | [],_=>some []
  | f::r,n=>match P.underlying f.type,Kz P r (n+1)with
    | some .bool,some ks=>bif f.name != "_" &&Nat.beq f.offset n then some (.bool::ks)else none
    | some (.int k),some ks=>bif f.name != "_" &&Nat.beq f.offset n then some (.int k::ks)else none
    | some .string,some ks=>bif f.name != "_" &&Nat.beq f.offset n then some (.str::ks)else none
    | _,_=>none
def AaB (P:Program) (t:Nat):TypeDesc->List CK
  | .struct fs=>match Kz P fs.toList 0 with
    | some ks=>bif !(P.stoodInHeld t)&& !(P.eqGuardType P.depth t)then ks else []
    | none=>[]
  | _=>[]
def Acn (P:Program) (t:Nat):Option TI :=
  match P.underlying t,P.info? t,DR P 20 t with
  | some d,some i,some cs=>match i.zero with
    | some z=>bif Nat.beq i.size cs.length&&Bj z.cells.toList cs&&(N8 d==Tm z)then some ⟨d,cs,i.bytes,AaB P t d⟩else none
    | none=>none
  | _,_,_=>none
abbrev Own:=Nat->Nat->Option Nat
abbrev at' (b k:Nat):Addr:=⟨b,k,none⟩
inductive Ai (O:Own) (w:World):Value->A->Prop
  | bool (b:Bool):Ai O w (.bool b) (.bool b)
  | int (k:IntKind) (n:Int):Ai O w (.int k n) (.int k n)
  | str (s:ByteArray):Ai O w (.string s) (.str s.data.toList)
  | nil (t:Ty):Ai O w (.slice none 0 0) (.sl ⟨t,[]⟩)
  | sl {b off cap:Nat} {l:Sl} (vs:Nat->Nat->Value) (hc:l.es.length<=cap)
      (hm: ∀ i j,i<l.es.length->j<l.sz->O b (off+(i*l.sz+j))=none/\w.cell? (at' b (off+(i*l.sz+j)))=some (vs i j))
      (hr: ∀ i j,i<l.es.length->j<l.sz->Ai O w (vs i j) ((l.es.getD i []).getD j .undef)):Ai O w (.slice (some (at' b off)) l.es.length cap) (.sl l)
  | sln {v:Value} {l:Sl} (h:Ai O w v (.sl l)) (hn:l.xs=[]->v= .slice none 0 0):Ai O w v (.sln l)
  | Cc:Ai O w (.pointer none) .Cc
  | fn (f:Nat):Ai O w (.func (.func f) #[] #[]) (.fn (f+1))
  | QQ:Ai O w .nilFunc (.fn 0)
  | sl0 (a:Addr) (t:Ty):Ai O w (.slice (some a) 0 0) (.sl ⟨t,[]⟩)
def DN (O:Own) (w:World) (O':Own) (w':World):Prop:= ∀ b k u,O b k=none->w.cell? (at' b k)=some u->O' b k=none/\w'.cell? (at' b k)=some u
def Inv (O:Own) (w:World):Prop:=(∀ g j p,AgR g j=some p->O g j=none/\ ∃ v,w.cell? (at' g j)=some v/\p v)/\ ∀ g n,AgQ g=some n-> ∃ c e fr,w.heap[g]? =some (.cells c e fr)/\c.size=n
theorem Ai.AX {O O':Own} {w w':World} (hp:DN O w O' w') {v:Value} {a:A} (h:Ai O w v a):Ai O' w' v a:=by
  induction h with
  | bool b=>exact .bool b
  | int k n=>exact .int k n
  | str s=>exact .str s
  | nil t=>exact .nil t
  | sl vs hc hm hr ih =>
    refine .sl vs hc (fun i j hi hj=> ?_) (fun i j hi hj=>ih i j hi hj)
    obtain⟨h1,h2⟩:=hm i j hi hj
    exact hp _ _ _ h1 h2
  | sln h hn ih=>exact .sln ih hn
  | Cc=>exact .Cc
  | fn f=>exact .fn f
  | QQ=>exact .QQ
  | sl0 a t=>exact .sl0 a t
inductive Shp where
  | box
  | arr (sz len:Nat)
  | mp
def Obj.shp:Obj->Shp
  | .box _=>.box
  | .arr _ _ l=>.arr l.sz l.es.length
  | .mp _=>.mp
def DT (w:World) (g:Nat) (cur:Array Value) (e:TypeId):Prop:= ∃ fr,w.heap[g]? =some (.cells cur e fr)/\(fr=(0,0)\/cur.size<=fr.1)
theorem DT.cell {w:World} {g:Nat} {cur:Array Value} {e:TypeId} (h:DT w g cur e) (k:Nat):w.cell? (at' g k)=cur[k]? :=by
  obtain⟨fr,h1,_⟩:=h
  simp [World.cell?,h1]
theorem DT.frozen {w:World} {g:Nat} {cur:Array Value} {e:TypeId} (h:DT w g cur e) {k:Nat} (hk:k<cur.size):w.frozen? (at' g k)=false:=by
  obtain⟨fr,h1,h2⟩:=h
  simp only[World.frozen?,h1]
  rcases h2 with h2 | h2
  ·subst h2;simp
  ·simp;omega
theorem DT.lt {w:World} {g:Nat} {cur:Array Value} {e:TypeId} (h:DT w g cur e):g<w.heap.size:=by
  obtain⟨fr,h1,_⟩:=h
  exact(Array.getElem?_eq_some_iff.1 h1).1
theorem DT.same {w w':World} {g:Nat} {cur:Array Value} {e:TypeId} (h:DT w g cur e) (hb:w'.heap[g]? =w.heap[g]?):DT w' g cur e:=by
  obtain⟨fr,h1,h2⟩:=h
  exact⟨fr,by rw[hb];exact h1,h2⟩
theorem DT.inj {w:World} {g:Nat} {cur cur':Array Value} {e e':TypeId} (h:DT w g cur e) (h':DT w g cur' e'):cur=cur'/\e=e':=by
  obtain⟨fr,h1,_⟩:=h
  obtain⟨fr',h1',_⟩:=h'
  rw[h1]at h1'
  injection h1' with h1';injection h1' with a b c
  exact⟨a,b⟩
def D6 (O:Own) (w:World) (v:Value):A->Prop
  | .agg cs=> ∃ vs:Array Value,v= .agg vs/\vs.size=cs.length/\ ∀ j,j<cs.length->Ai O w (vs.getD j undef) (cs.getD j .undef)
  | a=>Ai O w v a
theorem D6.AX {O O':Own} {w w':World} (hp:DN O w O' w') {v:Value} {a:A} (h:D6 O w v a):D6 O' w' v a:=by
  cases a with
  | agg cs=>obtain⟨vs,h1,h2,h3⟩:=h;exact⟨vs,h1,h2,fun j hj=>(h3 j hj).AX hp⟩
  | _=>exact Ai.AX hp h
def Ey (O:Own) (w:World) (o:Nat) (v:Value) (l:Mp):Prop :=
  ∃ r es ck,v= .map (some r)/\w.heap[r]? =some (.map es ck)/\O r 0=some o/\es.size=l.l.length /\
    ∀(i:Nat) (p:l.kt.Val×l.vt.Val),l.l[i]? =some p-> ∃ e,es[i]? =some e/\D6 O w e.key (Ep (l.kt.cells p.1))/\D6 O w e.val (Ep (l.vt.cells p.2))
def Ahy:Nat->Value->Value
  | 0,p=>p
  | f+1,p=>.func (.func f) #[] #[p]
def OA (O:Own) (w:World) (k:Nat) (v p:Value):Prop:= ∃ b j,v=Ahy k (.pointer (some (at' b j)))/\O b j=none/\w.cell? (at' b j)=some p
theorem OA.AX {O O':Own} {w w':World} (hp:DN O w O' w') {k:Nat} {v p:Value} (h:OA O w k v p):OA O' w' k v p:=by
  obtain⟨b,j,h1,h2,h3⟩:=h
  exact⟨b,j,h1,hp _ _ _ h2 h3⟩
section
variable (O:Own) (Aa:List (Nat×Obj)) (m:Nat->Value) (w:World)
def Au (v:Value):A->Prop
  | .undef=>v.oneCell'=true
  | .BU=>v= .slice none 0 0
  | .ptr o off=>v.oneCell'=true/\match (Ag Aa o).map Obj.shp with
    | some .box=> ∃ b base,m o= .pointer (some (at' b base))/\v= .pointer (some (at' b (base+off)))
    | _=>True
  | .own o=>v.oneCell'=true/\match (Ag Aa o).map Obj.shp with
    | some (.arr _ _)=>v=m o
    | some .mp=>v=m o
    | _=>True
  | .BQ o i off=>v.oneCell'=true/\match (Ag Aa o).map Obj.shp with
    | some (.arr sz len)=>i<len-> ∃ g n cap,m o= .slice (some (at' g 0)) n cap/\v= .pointer (some (at' g (i*sz+off)))
    | _=>True
  | .clo k o=>v.oneCell'=true/\ ∃ p,p.oneCell'=true/\OA O w k v p/\match (Ag Aa o).map Obj.shp with
    | some .box=> ∃ b base,m o= .pointer (some (at' b base))/\p= .pointer (some (at' b base))
    | _=>True
  | .bsl o n=>v.oneCell'=true/\match (Ag Aa o).map Obj.shp with
    | some .box=> ∃ b base,m o= .pointer (some (at' b base))/\v= .slice (some (at' b base)) n n
    | _=>True
  | .elt cs=> ∃ b off,v= .pointer (some (at' b off))/\ ∀ j,j<cs.length->O b (off+j)=none/\ ∃ u,w.cell? (at' b (off+j))=some u/\Ai O w u (cs.getD j .undef)
  | .fn f=>Ai O w v (.fn f)
  | .bool b=>Ai O w v (.bool b)
  | .int k n=>Ai O w v (.int k n)
  | .str s=>Ai O w v (.str s)
  | .sl l=>Ai O w v (.sl l)
  | .sln l=>Ai O w v (.sln l)
  | .Cc=>Ai O w v .Cc
  | _=>False
def T1 (v:Value):A->Prop
  | .agg cs=> ∃ vs:Array Value,v= .agg vs/\vs.size=cs.length/\ ∀ j,j<cs.length->Au O Aa m w (vs.getD j undef) (cs.getD j .undef)
  | a=>Au O Aa m w v a
def Ap (v:Value):A->Prop
  | .undef=>True
  | .tup l=> ∃ vs:Array Value,v= .tuple vs/\vs.size=l.length/\ ∀ j,j<l.length->T1 O Aa m w (vs.getD j undef) (l.getD j .undef)
  | .cnd g a=>(g=true->T1 O Aa m w v a)/\(g=false->v=undef)
  | a=>T1 O Aa m w v a
def Ce (o:Nat):Obj->Prop
  | .box cs=> ∃ b base,m o= .pointer (some (at' b base))/\ ∀ j,j<cs.length->O b (base+j)=some o/\w.frozen? (at' b (base+j))=false /\
      ∃ u,w.cell? (at' b (base+j))=some u/\Au O Aa m w u (cs.getD j .undef)
  | .arr e frz l=>(∀ x∈l.es,x.length=l.sz)/\((True/\l.es=[]/\m o= .slice none 0 0) \/
      (True/\ ∃ g cap cur,m o= .slice (some (at' g 0)) l.es.length cap/\DT w g cur e/\l.es.length<=cap/\cap<=maxLen/\cur.size=cap*l.sz /\
        (∀ i j,i<l.es.length->j<l.sz-> ∃ u,cur[i*l.sz+j]? =some u/\Ai O w u ((l.es.getD i []).getD j .undef)) /\
        (∀ k,k<cur.size->l.es.length*l.sz<=k->O g k=some o)/\(∀ k,k<l.es.length*l.sz->O g k=if frz then none else some o)))
  | .mp l=>Ey O w o (m o) l
end
structure Moves (O:Own) (T:Nat->Prop) (w w':World):Prop where
  os:w'.os=w.os
  tape:w'.tape=w.tape
  output:w'.output=w.output
  size:w.heap.size<=w'.heap.size
  blk: ∀ b,b<w.heap.size->w'.heap[b]? =w.heap[b]? \/(∃ c c' e fr,w.heap[b]? =some (.cells c e fr)/\w'.heap[b]? =some (.cells c' e fr)/\c'.size=c.size /\
    (∀ k,(∀ o,O b k=some o-> ¬ T o)->c'[k]? =c[k]?)/\ ∃ k o,k<c.size/\O b k=some o/\T o) \/
    ∃ es ck es' ck' o,w.heap[b]? =some (.map es ck)/\w'.heap[b]? =some (.map es' ck')/\O b 0=some o/\T o
theorem Moves.refl (O:Own) (T:Nat->Prop) (w:World):Moves O T w w:=⟨rfl,rfl,rfl,Nat.le_refl _,fun _ _=>.inl rfl⟩
theorem cell_lt {w:World} {b k:Nat} {u:Value} (h:w.cell? (at' b k)=some u):b<w.heap.size:=by
  rcases Nat.lt_or_ge b w.heap.size with hb | hb
  ·exact hb
  ·simp [World.cell?,Array.getElem?_eq_none hb]at h
theorem Moves.cell {O:Own} {T:Nat->Prop} {w w':World} (h:Moves O T w w') {b k:Nat} (hb:b<w.heap.size) (hk: ∀ o,O b k=some o-> ¬ T o) :
    w'.cell? (at' b k)=w.cell? (at' b k):=by
  rcases h.blk b hb with he | ⟨c,c',e,fr,h1,h2,_,h4,_⟩ | ⟨es,ck,es',ck',o,h1,h2,_,_⟩
  ·simp [World.cell?,he]
  ·simp [World.cell?,h1,h2,h4 k hk]
  ·simp [World.cell?,h1,h2]
theorem Moves.frozen {O:Own} {T:Nat->Prop} {w w':World} (h:Moves O T w w') {b k:Nat} (hb:b<w.heap.size):w'.frozen? (at' b k)=w.frozen? (at' b k):=by
  rcases h.blk b hb with he | ⟨c,c',e,fr,h1,h2,_,_,_⟩ | ⟨es,ck,es',ck',o,h1,h2,_,_⟩
  ·simp [World.frozen?,he]
  ·simp [World.frozen?,h1,h2]
  ·simp [World.frozen?,h1,h2]
structure Passes (O O':Own) (T:Nat->Prop) (n:Nat):Prop where
  none: ∀ b k,b<n->O b k=none->O' b k=none
  keep: ∀ b k o,b<n->O b k=some o-> ¬ T o->O' b k=some o
theorem Moves.AX {O O':Own} {T:Nat->Prop} {w w':World} (h:Moves O T w w') (hp:Passes O O' T w.heap.size):DN O w O' w':=by
  intro b k u hn hc
  have hb:=cell_lt hc
  exact⟨hp.none b k hb hn,by rw[h.cell hb (fun o ho=>by rw[hn]at ho;cases ho)];exact hc⟩
def F5 (Aa:List (Nat×Obj)) (m:Nat->Value) (objs':List (Nat×Obj)) (m':Nat->Value) (Nw:Nat->Prop):Prop :=
  ∀ o x',Ag objs' o=some x'->Nw o\/ ∃ x,Ag Aa o=some x/\x.shp=x'.shp/\m' o=m o
theorem Au.step {O O':Own} {Aa objs':List (Nat×Obj)} {m m':Nat->Value} {w w':World} {Nw:Nat->Prop} (hp:DN O w O' w') (he:F5 Aa m objs' m' Nw)
    {v:Value} {a:A} (hn: ∀ o∈a.Dn,¬ Nw o) (h:Au O Aa m w v a):Au O' objs' m' w' v a:=by
  have key: ∀ o,o∈a.Dn-> ∀ x',Ag objs' o=some x'-> ∃ x,Ag Aa o=some x/\x.shp=x'.shp/\m' o=m o :=
    fun o ho x' hx=>(he o x' hx).resolve_left (hn o ho)
  cases a with
  | undef=>exact h
  | BU=>exact h
  | ptr o off =>
    simp only[Au]at *
    refine⟨h.1,?_⟩
    have h:=h.2
    cases hx:Ag objs' o with
    | none=>simp
    | some x' =>
      obtain⟨x,h1,h2,h3⟩:=key o (by simp [A.Dn]) x' hx
      rw[h1]at h;simp only[Option.map_some,h2]at h;simp only[Option.map_some,h3];exact h
  | own o =>
    simp only[Au]at *
    refine⟨h.1,?_⟩
    have h:=h.2
    cases hx:Ag objs' o with
    | none=>simp
    | some x' =>
      obtain⟨x,h1,h2,h3⟩:=key o (by simp [A.Dn]) x' hx
      rw[h1]at h;simp only[Option.map_some,h2]at h;simp only[Option.map_some,h3];exact h
  | BQ o i off =>
    simp only[Au]at *
    refine⟨h.1,?_⟩
    have h:=h.2
    cases hx:Ag objs' o with
    | none=>simp
    | some x' =>
      obtain⟨x,h1,h2,h3⟩:=key o (by simp [A.Dn]) x' hx
      rw[h1]at h;simp only[Option.map_some,h2]at h;simp only[Option.map_some,h3];exact h
  | clo k o =>
    simp only[Au]at *
    obtain⟨h0,p,h4,h5,h⟩:=h
    refine⟨h0,p,h4,h5.AX hp,?_⟩
    cases hx:Ag objs' o with
    | none=>simp
    | some x' =>
      obtain⟨x,h1,h2,h3⟩:=key o (by simp [A.Dn]) x' hx
      rw[h1]at h;simp only[Option.map_some,h2]at h;simp only[Option.map_some,h3];exact h
  | bsl o n =>
    simp only[Au]at *
    refine⟨h.1,?_⟩
    have h:=h.2
    cases hx:Ag objs' o with
    | none=>simp
    | some x' =>
      obtain⟨x,h1,h2,h3⟩:=key o (by simp [A.Dn]) x' hx
      rw[h1]at h;simp only[Option.map_some,h2]at h;simp only[Option.map_some,h3];exact h
  | elt cs =>
    obtain⟨b,off,hv,hc⟩:=h
    refine⟨b,off,hv,fun j hj=> ?_⟩
    obtain⟨h1,u,h2,h3⟩:=hc j hj
    obtain⟨h4,h5⟩:=hp _ _ _ h1 h2
    exact⟨h4,u,h5,h3.AX hp⟩
  | fn f=>exact Ai.AX hp h
  | ump _=>exact h
  | bool b=>exact Ai.AX hp h
  | int k n=>exact Ai.AX hp h
  | str s=>exact Ai.AX hp h
  | sl l=>exact Ai.AX hp h
  | sln l=>exact Ai.AX hp h
  | Cc=>exact Ai.AX hp h
  | usl _ _=>exact h
  | agg _=>exact h
  | tup _=>exact h
  | box _=>exact h
  | cbx _ _=>exact h
  | cnd _ _=>exact h
theorem Hm {α β :Type} {f: α ->List β} {l:List α} {d: α} {j:Nat} (hj:j<l.length) {x: β} (hx:x∈f (l.getD j d)):x∈l.flatMap f:=by
  refine List.mem_flatMap.2 ⟨l.getD j d,?_,hx⟩
  rw[List.getD_eq_getElem?_getD,List.getElem?_eq_getElem hj];simp
theorem T1.step {O O':Own} {Aa objs':List (Nat×Obj)} {m m':Nat->Value} {w w':World} {Nw:Nat->Prop} (hp:DN O w O' w') (he:F5 Aa m objs' m' Nw)
    {v:Value} {a:A} (hn: ∀ o∈a.AeF,¬ Nw o) (h:T1 O Aa m w v a):T1 O' objs' m' w' v a:=by
  cases a with
  | agg cs =>
    obtain⟨vs,h1,h2,h3⟩:=h
    exact⟨vs,h1,h2,fun j hj=>(h3 j hj).step hp he fun o ho=>hn o (Hm hj ho)⟩
  | cnd g a=>exact h
  | _ =>
    simp only[T1]at h ⊢
    refine Au.step hp he ?_ h
    exact hn
theorem Ap.step {O O':Own} {Aa objs':List (Nat×Obj)} {m m':Nat->Value} {w w':World} {Nw:Nat->Prop} (hp:DN O w O' w') (he:F5 Aa m objs' m' Nw)
    {v:Value} {a:A} (hn: ∀ o∈a.ids,¬ Nw o) (h:Ap O Aa m w v a):Ap O' objs' m' w' v a:=by
  cases a with
  | undef=>trivial
  | tup l =>
    obtain⟨vs,h1,h2,h3⟩:=h
    exact⟨vs,h1,h2,fun j hj=>(h3 j hj).step hp he fun o ho=>hn o (Hm hj ho)⟩
  | cnd g a =>
    refine⟨fun hg=> ?_,h.2⟩
    have h':=h.1 hg
    cases a with
    | cnd _ _=>exact h'
    | _=>exact T1.step hp he hn h'
  | _ =>
    simp only[Ap]at h ⊢
    refine T1.step hp he ?_ h
    exact hn
theorem Ey.step {O O':Own} {w w':World} {T:Nat->Prop} (hm:Moves O T w w') (hp:Passes O O' T w.heap.size) {o:Nat} {v:Value} {l:Mp} (ho: ¬ T o) (h:Ey O w o v l):Ey O' w' o v l:=by
  obtain⟨r,es,ck,h1,h2,h3,h4,h5⟩:=h
  have hr:r<w.heap.size:=(Array.getElem?_eq_some_iff.1 h2).1
  refine⟨r,es,ck,h1,?_,hp.keep _ _ _ hr h3 ho,h4,fun i p hip=> ?_⟩
  ·rcases hm.blk r hr with he | ⟨c,c',e,fr,g1,_⟩ | ⟨es1,ck1,es',ck',o',g1,g2,g3,g4⟩
   ·rw[he];exact h2
   ·rw[h2]at g1;injection g1 with g1;cases g1
   ·rw[h3]at g3;injection g3 with g3;subst g3;exact absurd g4 ho
  ·obtain⟨e,k1,k2,k3⟩:=h5 i p hip
   exact⟨e,k1,k2.AX (hm.AX hp),k3.AX (hm.AX hp)⟩
theorem Ce.step {O O':Own} {Aa objs':List (Nat×Obj)} {m m':Nat->Value} {w w':World} {Nw T:Nat->Prop} (hm:Moves O T w w') (hp:Passes O O' T w.heap.size) (he:F5 Aa m objs' m' Nw)
    {o:Nat} {x:Obj} (ho: ¬ T o) (hmo:m' o=m o) (hn: ∀ i∈x.ids,¬ Nw i) (h:Ce O Aa m w o x):Ce O' objs' m' w' o x:=by
  have hpr:=hm.AX hp
  cases x with
  | box cs =>
    obtain⟨b,base,h1,h2⟩:=h
    refine⟨b,base,by rw[hmo];exact h1,fun j hj=> ?_⟩
    obtain⟨h3,h4,u,h5,h6⟩:=h2 j hj
    have hb:=cell_lt h5
    refine⟨hp.keep _ _ _ hb h3 ho,by rw[hm.frozen hb];exact h4,u,?_,h6.step hpr he fun i hi=>hn i (Hm hj hi)⟩
    rw[hm.cell hb (fun o' ho'=>by rw[h3]at ho';injection ho' with ho';subst ho';exact ho)];exact h5
  | arr e frz l =>
    obtain⟨h0,h⟩:=h
    refine⟨h0,?_⟩
    rcases h with ⟨h1,h2,h3⟩ | ⟨h1,g,cap,cur,h2,h3,h4,h5,h6,h7,h8,h9⟩
    ·exact .inl ⟨h1,h2,by rw[hmo];exact h3⟩
    ·refine .inr ⟨h1,g,cap,cur,by rw[hmo];exact h2,?_,h4,h5,h6,?_,?_,?_⟩
     ·have hg:g<w.heap.size:=h3.lt
      rcases hm.blk g hg with hE | ⟨c,c',e',fr,hA,hB,hC,hD,k,o',hk,hK,hT⟩ | ⟨es1,ck1,es',ck',o',g1,_⟩
      ·exact h3.same hE
      ·obtain⟨fr0,h3,_⟩:=h3
       rw[h3]at hA
       injection hA with hA;injection hA with hA1 hA2 hA3
       subst hA1
       exfalso
       rcases Nat.lt_or_ge k (l.es.length*l.sz)with hlt | hge
       ·have:=h9 k hlt
        rw[hK]at this
        cases frz
        ·simp at this;subst this;exact ho hT
        ·simp at this
       ·have:=h8 k hk hge
        rw[hK]at this;injection this with this;subst this;exact ho hT
      ·obtain⟨fr0,h3,_⟩:=h3
       rw[h3]at g1;injection g1 with g1;cases g1
     ·intro i j hi hj
      obtain⟨u,hu,hr⟩:=h7 i j hi hj
      exact⟨u,hu,hr.AX hpr⟩
     ·intro k hk hge
      have hg:g<w.heap.size:=h3.lt
      exact hp.keep _ _ _ hg (h8 k hk hge) ho
     ·intro k hk
      have hg:g<w.heap.size:=h3.lt
      have:=h9 k hk
      cases frz
      ·simp at this ⊢;exact hp.keep _ _ _ hg this ho
      ·simp at this ⊢;exact hp.none _ _ hg this
  | mp l =>
    have h:Ey O w o (m o) l:=h
    show Ey O' w' o (m' o) l
    rw[hmo];exact h.step hm hp ho
theorem IG (a b:Nat):Nat.beq a b=decide (a=b):=by
  cases h:Nat.beq a b with
  | true=>simp [Nat.eq_of_beq_eq_true h]
  | false=>simp [Nat.ne_of_beq_eq_false h]
theorem BO (q:Nat) (x:Obj) (r:List (Nat×Obj)) (k:Nat):Ag ((q,x)::r) k=if q=k then some x else Ag r k:=by
  simp only[Ag,IG];by_cases h:q=k<;>simp [h]
theorem WC (q:Nat) (x:Obj) (r:List (Nat×Obj)) (n:Nat):Gw ((q,x)::r) n=if q=n then Gw r n else(q,x)::Gw r n:=by
  simp only[Gw,IG];by_cases h:q=n<;>simp [h]
theorem Nk (l:List (Nat×Obj)) (n k:Nat):Ag (Gw l n) k=if k=n then none else Ag l k:=by
  induction l with
  | nil=>simp [Gw,Ag]
  | cons p r ih =>
    obtain⟨q,x⟩:=p
    rw[WC]
    by_cases hq:q=n
    ·rw[if_pos hq,ih,BO]
     by_cases hk:k=n
     ·simp [hk]
     ·have:q≠k:=fun e=>hk (by omega)
      simp [hk,this]
    ·rw[if_neg hq,BO,BO,ih]
     by_cases hk:q=k
     ·have:k≠n:=by omega
      simp [hk,this]
     ·simp [hk]
theorem Acw (l:List (Nat×Obj)) (n:Nat) (y:Obj) (k:Nat) (hn:Ag l n=none):Ag (NL l n y) k=if k=n then some y else Ag l k:=by
  induction l with
  | nil =>
    simp only[NL,BO]
    by_cases h:n=k
    ·simp [h]
    ·have:k≠n:=by omega
     simp [h,this]
  | cons p r ih =>
    obtain⟨q,x⟩:=p
    rw[BO]at hn
    have hqn:q≠n:=fun e=>by simp [e]at hn
    rw[if_neg hqn]at hn
    simp only[NL]
    cases hle:Nat.ble n q with
    | true =>
      simp only[cond_true,BO]
      by_cases h:n=k
      ·simp [h]
      ·have:k≠n:=by omega
       simp [h,this]
    | false =>
      simp only[cond_false,BO,ih hn]
      by_cases h:q=k
      ·have:k≠n:=by omega
       simp [h,this]
      ·simp [h]
theorem Bd (l:List (Nat×Obj)) (n:Nat) (y:Obj) (k:Nat):Ag (BP l n y) k=if k=n then some y else Ag l k:=by
  unfold BP
  rw[Acw _ _ _ _ (by simp [Nk]),Nk]
  by_cases h:k=n<;>simp [h]
theorem HY (d:List Nat): ∀(l:List (Nat×Obj)) (k:Nat),Ag (Ba l d) k=if k∈d then none else Ag l k:=by
  induction d with
  | nil=>intro l k;simp [Ba]
  | cons n r ih =>
    intro l k
    rw[Ba,ih,Nk]
    by_cases h:k∈r
    ·simp [h]
    ·by_cases h':k=n<;>simp [h,h']
theorem Cj (u:List (Nat×Obj)): ∀(l:List (Nat×Obj)) (k:Nat),(∀ p∈u,p.1≠k)->Ag (Aj l u) k=Ag l k:=by
  induction u with
  | nil=>intro l k _;rfl
  | cons p r ih =>
    obtain⟨n,x⟩:=p
    intro l k h
    rw[Aj,ih _ _ (fun p hp=>h p (List.mem_cons_of_mem _ hp)),Bd]
    have:k≠n:=fun e=>h (n,x) (List.mem_cons_self) e.symm
    simp [this]
theorem DU (u:List (Nat×Obj)): ∀(l:List (Nat×Obj)) (k:Nat),(∃ p∈u,p.1=k)-> ∃ x,(k,x)∈u/\Ag (Aj l u) k=some x:=by
  induction u with
  | nil=>intro l k ⟨p,hp,_⟩;cases hp
  | cons p r ih =>
    obtain⟨n,x⟩:=p
    intro l k h
    by_cases hr: ∃ p∈r,p.1=k
    ·obtain⟨y,hy,he⟩:=ih (BP l n x) k hr
     exact⟨y,List.mem_cons_of_mem _ hy,he⟩
    ·obtain⟨p,hp,rfl⟩:=h
     rcases List.mem_cons.1 hp with rfl | hp
     ·refine⟨x,List.mem_cons_self,?_⟩
      rw[Aj,Cj _ _ _ (fun q hq e=>hr ⟨q,hq,e⟩),Bd]
      simp
     ·exact absurd ⟨p,hp,rfl⟩ hr
end Go.Proofs.YtadefjgbcapakaaGreatDoor.Vm
namespace Go.Proofs.YtadefjgbcapakaaGreatDoor.Vm
structure Jl (P:Program) (t:Nat) (ti:TI):Prop where
  d:P.underlying t=some ti.d
  ck:DR P 20 t=some ti.cs
  cmp:ti.cmp=AaB P t ti.d
  i: ∃ i z,P.info? t=some i/\i.size=ti.cs.length/\i.bytes=ti.bytes/\i.zero=some z/\Bj z.cells.toList ti.cs=true/\N8 ti.d=Tm z
theorem Agf {P:Program} {t:Nat} {ti:TI} (h:Acn P t=some ti):Jl P t ti:=by
  unfold Acn at h
  split at h
  ·rename_i d i cs hd hi hc
   split at h
   ·rename_i z hz
    cases hb:(Nat.beq i.size cs.length&&Bj z.cells.toList cs&&(N8 d==Tm z))with
    | false=>rw[hb]at h;cases h
    | true =>
      rw[hb]at h
      injection h with h
      subst h
      simp only[Bool.and_eq_true]at hb
      exact⟨hd,hc,rfl,i,z,hi,Nat.eq_of_beq_eq_true hb.1.1,rfl,hz,hb.1.2,by simpa using hb.2⟩
   ·cases h
  ·cases h
def TOk (P:Program) (C:Ctx):Prop:= ∀ t ti,C.T t=some ti->Acn P t=some ti
theorem TOk.is {P:Program} {C:Ctx} (h:TOk P C) {t:Nat} {ti:TI} (ht:C.T t=some ti):Jl P t ti:=Agf (h t ti ht)
section
variable {P:Program} {t:Nat} {ti:TI} (w:World)
theorem Jl.run (h:Jl P t ti):(underlying t).run P w= .ok ti.d w:=run_underlying h.d w
theorem Jl.GL (h:Jl P t ti):(sizeOf t).run P w= .ok ti.cs.length w:=by
  obtain⟨i,z,h1,h2,_⟩:=h.i
  simp [sizeOf,typeInfo,h1,h2]
theorem Jl.AdS (h:Jl P t ti):(isAgg t).run P w= .ok ti.agg w:=by
  simp only[isAgg,Sem.run_bind,h.run,Result.andThen_ok,TI.agg]
  cases ti.d<;>rfl
theorem dP (ti:TI):ti.agg=N8 ti.d:=by unfold TI.agg N8;cases ti.d<;>rfl
end
def Ak (l:List Bool):Prop:= ∀ b∈l,b=true
theorem Iw {α :Type} {l:List Bool} {r:Option α} {x: α} (h:allT l r=some x):Ak l/\r=some x:=by
  induction l with
  | nil=>exact⟨fun b hb=>(by cases hb),h⟩
  | cons c cs ih =>
    cases c with
    | false=>cases h
    | true =>
      obtain⟨h1,h2⟩:=ih h
      exact⟨fun b hb=>by rcases List.mem_cons.1 hb with rfl | hb;rfl;exact h1 b hb,h2⟩
theorem Ak.append {a b:List Bool} (h:Ak (a++b)):Ak a/\Ak b:=⟨fun x hx=>h x (List.mem_append_left _ hx),fun x hx=>h x (List.mem_append_right _ hx)⟩
theorem Ak.cons {c:Bool} {a:List Bool} (h:Ak (c::a)):c=true/\Ak a:=⟨h c List.mem_cons_self,fun x hx=>h x (List.mem_cons_of_mem _ hx)⟩
theorem Ak.nil:Ak []:=fun _ h=>by cases h
theorem Az: ¬ Ak Dl.no.ok:=fun h=>by have:=h false (by simp [Dl.no]);cases this
section
variable {P:Program} {C:Ctx} {O:Own} {Aa:List (Nat×Obj)} {m:Nat->Value} {a:Act} {w:World} {o:Oper}
theorem Au.toT {v:Value} {x:A} (h:Au O Aa m w v x):Ap O Aa m w v x:=by cases x<;>first | trivial | exact h | exact h.elim
theorem T1.toT {v:Value} {x:A} (h:T1 O Aa m w v x):Ap O Aa m w v x:=by cases x<;>first | trivial | exact h | exact h.elim
structure Pure (P:Program) (O:Own) (Aa:List (Nat×Obj)) (m:Nat->Value) (a:Act) (w:World) (o:Oper) (δ :Dl):Prop where
  run: ∃ v,(execOp a.eval o).run P w= .ok (.value v) w/\Ap O Aa m w v δ.val
  new: δ.new=[]
  upd: δ.upd=[]
  del: δ.del=[]
theorem Ap.int {v:Value} {k:IntKind} {n:Int} (h:Ap O Aa m w v (.int k n)):v= .int k n:=by cases h;rfl
theorem Ap.bool {v:Value} {b:Bool} (h:Ap O Aa m w v (.bool b)):v= .bool b:=by cases h;rfl
theorem Ap.str {v:Value} {s:List UInt8} (h:Ap O Aa m w v (.str s)): ∃ b:ByteArray,v= .string b/\b.data.toList=s:=by cases h;exact⟨_,rfl,rfl⟩
theorem Ap.mkInt (k:IntKind) (n:Int):Ap O Aa m w (.int k n) (.int k n):=Ai.int k n
theorem Ap.Fg (b:Bool):Ap O Aa m w (.bool b) (.bool b):=Ai.bool b
theorem Ap.mkStr (s:ByteArray) {l:List UInt8} (h:s.data.toList=l):Ap O Aa m w (.string s) (.str l):=by subst h;exact Ai.str s
theorem Ri (s:ByteArray):s.toList=s.data.toList:=ByteArray.toList_eq s
theorem Ji (s:ByteArray):s.size=s.data.toList.length:=by rw[Array.length_toList];rfl
theorem nO {x:Operand} (ho:o.op= .move x\/o.op= .assign x) {y:A} (hx:Ap O Aa m w (a.eval x) y):Pure P O Aa m a w o (.v y):=by
  refine⟨⟨a.eval x,?_,hx⟩,rfl,rfl,rfl⟩
  rcases ho with ho | ho<;>simp [execOp,ho]
theorem Vq {v:Value} {x:A} (h:Ap O Aa m w v x) (hg:x.EJ.1=true):Ap O Aa m w v x.EJ.2:=by
  cases x with
  | cnd g y =>
    have:=h.1 hg
    cases y<;>first | trivial | exact this | exact this.elim
  | _=>exact h
theorem AdM {c x y:Operand} (ho:o.op= .pick c x y) {c' x' y':A} (hc:Ap O Aa m w (a.eval c) c') (hx:Ap O Aa m w (a.eval x) x') (hy:Ap O Aa m w (a.eval y) y')
    (hok:Ak (rP c' x' y').ok):Pure P O Aa m a w o (rP c' x' y'):=by
  obtain⟨h0,h1⟩:=hok.cons
  obtain⟨h1,h2⟩:=h1.cons
  obtain⟨h2,h3⟩:=h2.cons
  have h3:=h3.cons.1
  refine⟨?_,rfl,rfl,rfl⟩
  have hc':=Vq hc h0
  unfold rP
  simp only[Dl.g]
  generalize c'.EJ.2=cc at *
  obtain⟨q,rfl⟩: ∃ q,cc= .bool q:=by cases cc<;>simp [A.isB]at h1;exact⟨_,rfl⟩
  have:=hc'.bool
  cases q with
  | true =>
    simp only[A.toB,cond_true]at h2 h3 ⊢
    have hx':=Vq hx h2
    generalize x'.EJ.2=xx at *
    cases xx<;>simp [A.isB]at h3
    exact⟨a.eval x,by simp [execOp,ho,asBool,this],hx'⟩
  | false =>
    simp only[A.toB,cond_false]at h2 h3 ⊢
    have hy':=Vq hy h2
    generalize y'.EJ.2=yy at *
    cases yy<;>simp [A.isB]at h3
    exact⟨a.eval y,by simp [execOp,ho,asBool,this],hy'⟩
theorem H6 {j k:IntKind} (h:A.kEq j k=true):j=k:=by cases j<;>cases k<;>first | rfl | cases h
theorem Aer {op:BinOp} {k:IntKind} {x y:Int} (hok:Ak (WH op k x y).ok) (t:TypeId) (hop:op≠ .shl) (hop':op≠ .shr) :
    ∃ v,(binOp op t (.int k x) (.int k y)).run P w= .ok v w/\Ap O Aa m w v (WH op k x y).val/\(WH op k x y).new=[]/\(WH op k x y).upd=[]/\(WH op k x y).del=[]:=by
  have ha: ∀ op,op= .add\/op= .sub\/op= .mul->binOp op t (.int k x) (.int k y)=Op.intArith op k x y:=by
    rintro op (rfl | rfl | rfl)<;>simp [binOp]
  have hd: ∀ op,op= .quo\/op= .rem->binOp op t (.int k x) (.int k y)=Op.intDiv op k x y:=by
    rintro op (rfl | rfl)<;>simp [binOp]
  have hb: ∀ op,op= .and\/op= .or\/op= .xor\/op= .andNot->binOp op t (.int k x) (.int k y)=Op.intBits op k x y:=by
    rintro op (rfl | rfl | rfl | rfl)<;>simp [binOp]
  have hc: ∀ op,op= .eql\/op= .neq\/op= .lss\/op= .leq\/op= .gtr\/op= .geq->binOp op t (.int k x) (.int k y)=Op.intCmp op x y:=by
    rintro op (rfl | rfl | rfl | rfl | rfl | rfl)<;>simp [binOp]
  cases op with
  | shl=>exact absurd rfl hop
  | shr=>exact absurd rfl hop'
  | add=>rw[ha _ (by simp)];exact⟨_,rfl,.mkInt _ _,rfl,rfl,rfl⟩
  | sub=>rw[ha _ (by simp)];exact⟨_,rfl,.mkInt _ _,rfl,rfl,rfl⟩
  | mul=>rw[ha _ (by simp)];exact⟨_,rfl,.mkInt _ _,rfl,rfl,rfl⟩
  | quo =>
    have h0:y≠0:=by simpa [WH,Dl.g]using hok.cons.1
    rw[hd _ (by simp)]
    exact⟨.int k (k.wrap (x.tdiv y)),by simp [Op.intDiv,h0],.mkInt _ _,rfl,rfl,rfl⟩
  | rem =>
    have h0:y≠0:=by simpa [WH,Dl.g]using hok.cons.1
    rw[hd _ (by simp)]
    exact⟨.int k (x.tmod y),by simp [Op.intDiv,h0],.mkInt _ _,rfl,rfl,rfl⟩
  | and=>rw[hb _ (by simp)];exact⟨_,rfl,.mkInt _ _,rfl,rfl,rfl⟩
  | or=>rw[hb _ (by simp)];exact⟨_,rfl,.mkInt _ _,rfl,rfl,rfl⟩
  | xor=>rw[hb _ (by simp)];exact⟨_,rfl,.mkInt _ _,rfl,rfl,rfl⟩
  | andNot=>rw[hb _ (by simp)];exact⟨_,rfl,.mkInt _ _,rfl,rfl,rfl⟩
  | eql=>rw[hc _ (by simp)];exact⟨_,rfl,.Fg _,rfl,rfl,rfl⟩
  | neq=>rw[hc _ (by simp)];exact⟨_,rfl,.Fg _,rfl,rfl,rfl⟩
  | lss=>rw[hc _ (by simp)];exact⟨_,rfl,.Fg _,rfl,rfl,rfl⟩
  | leq=>rw[hc _ (by simp)];exact⟨_,rfl,.Fg _,rfl,rfl,rfl⟩
  | gtr=>rw[hc _ (by simp)];exact⟨_,rfl,.Fg _,rfl,rfl,rfl⟩
  | geq=>rw[hc _ (by simp)];exact⟨_,rfl,.Fg _,rfl,rfl,rfl⟩
theorem Aes {op:BinOp} {x y:ByteArray} {x' y':List UInt8} (hx:x.data.toList=x') (hy:y.data.toList=y') (hok:Ak (WI op x' y').ok) (t:TypeId) :
    ∃ v,(binOp op t (.string x) (.string y)).run P w= .ok v w/\Ap O Aa m w v (WI op x' y').val/\(WI op x' y').new=[]/\(WI op x' y').upd=[]/\(WI op x' y').del=[]:=by
  subst hx hy
  have hs: ∀ op,op≠ .shl->op≠ .shr->binOp op t (.string x) (.string y)=Op.stringOp op x y:=by
    intro op _ _;cases op<;>rfl
  cases op<;>first
    | exact(Az hok).elim
    | (rw [hs _ (by simp) (by simp)]
       refine⟨_,rfl,?_,rfl,rfl,rfl⟩
       simp only[WI,Dl.v,Ri,bytesLess]
       exact .Fg _)
    | (have h0:x.data.toList.length+y.data.toList.length<=140737488355328:=by simpa [WI,Dl.g]using hok.cons.1
       rw[hs _ (by simp) (by simp)]
       refine⟨.string (x++y),?_,?_,rfl,rfl,rfl⟩
       ·have: ¬(((x.size+y.size:Nat):Int)>IntKind.i64.max):=by
          rw[<- Ji,<- Ji]at h0
          rw[show IntKind.i64.max=9223372036854775807 from rfl];omega
        simp only[Op.stringOp,this,if_false];rfl
       ·exact .mkStr _ (Go.Joins.data_append x y))
end
end Go.Proofs.YtadefjgbcapakaaGreatDoor.Vm
namespace Go.Proofs.YtadefjgbcapakaaGreatDoor.Vm
theorem uD {P:Program} {w:World} {op:BinOp} {t:TypeId} {x y:Operand} {v u:Value} (h: ∀ cs,v≠ .agg cs) (h':v≠ .nilIface):(eqGuard op t x y v u).run P w= .ok () w:=by
  unfold eqGuard
  cases op<;>first | rfl | (cases v<;>first | rfl | exact absurd rfl h' | exact absurd rfl (h _))
section
variable {P:Program} {C:Ctx} {O:Own} {Aa:List (Nat×Obj)} {m:Nat->Value} {a:Act} {w:World} {o:Oper} {fet:Fet}
def FOk (O:Own) (Aa:List (Nat×Obj)) (m:Nat->Value) (w:World) (fet:Fet):Prop:= ∀ o x,Ag fet o=some x->Ag Aa o=some x/\Ce O Aa m w o x
theorem AA {α :Type} {x:Option α} {k: α ->Dl} (hok:Ak (Bi x k).ok): ∃ y,x=some y/\Bi x k=k y:=by
  cases x with
  | none=>exact(Az hok).elim
  | some y=>exact⟨y,rfl,rfl⟩
theorem Bf {t:Nat} {k:TI->Dl} (hok:Ak (CX C t k).ok): ∃ ti,C.T t=some ti/\CX C t k=k ti:=AA hok
theorem CB {n:Nat} {cs:List A} (h:Eh fet n=some cs):Ag fet n=some (.box cs):=by
  unfold Eh at h;split at h<;>simp_all
theorem ER {n:Nat} {r:Arr} (h:Rj fet n=some r):Ag fet n=some (.arr r.e r.frz r.l):=by
  unfold Rj at h
  split at h
  ·rename_i h';injection h with h;subst h;exact h'
  ·cases h
theorem IZ {d:TypeDesc} {e:Nat} (h:elem? d=some e):d= .slice e:=by
  unfold elem? at h;split at h<;>simp_all
theorem Ap.own {v:Value} {n:Nat} {e:Nat} {frz:Bool} {l:Sl} (hf:FOk O Aa m w fet) (h:Ap O Aa m w v (.own n)) (hx:Ag fet n=some (.arr e frz l)) :
    v=m n/\Ce O Aa m w n (.arr e frz l):=by
  obtain⟨h1,h2⟩:=hf _ _ hx
  refine⟨?_,h2⟩
  have h':Au O Aa m w v (.own n):=h
  simp only[Au,h1,Option.map_some,Obj.shp]at h'
  exact h'.2
theorem Ap.ptr {v:Value} {n off:Nat} {cs:List A} (hf:FOk O Aa m w fet) (h:Ap O Aa m w v (.ptr n off)) (hx:Ag fet n=some (.box cs)) :
    ∃ b base,m n= .pointer (some (at' b base))/\v= .pointer (some (at' b (base+off)))/\ ∀ j,j<cs.length->O b (base+j)=some n/\w.frozen? (at' b (base+j))=false /\
      ∃ u,w.cell? (at' b (base+j))=some u/\Au O Aa m w u (cs.getD j .undef):=by
  obtain⟨h1,b,base,h2,h3⟩:=hf _ _ hx
  have h':Au O Aa m w v (.ptr n off):=h
  simp only[Au,h1,Option.map_some,Obj.shp]at h'
  obtain⟨_,b',base',h4,h5⟩:=h'
  rw[h2]at h4
  injection h4 with h4;injection h4 with h4;injection h4 with h4 h6
  subst h4;subst h6
  exact⟨b,base,h2,h5,h3⟩
theorem Ap.Cc {v:Value} (h:Ap O Aa m w v .Cc):v= .pointer none:=by cases h;rfl
theorem vM {t e:Nat} {v:Value} {b:Bool} (hu:P.underlying t=some (.slice e)) (h:(v= .slice none 0 0/\b=true)\/(∃ ad l c,v= .slice (some ad) l c)/\b=false) :
    (Op.equal t v (.slice none 0 0)).run P w= .ok b w:=by
  rcases h with ⟨rfl,rfl⟩ | ⟨⟨ad,l,c,rfl⟩,rfl⟩<;>rw[run_equal_slice_nil w t e _ _ _ hu]<;>rfl
theorem AdD {t e:Nat} {v:Value} {b:Bool} (hu:P.underlying t=some (.pointer e)) (h:(v= .pointer none/\b=true)\/(∃ ad,v= .pointer (some ad))/\b=false) :
    (Op.equal t v (.pointer none)).run P w= .ok b w:=by
  have hu':P.underlying t=some (.pointer (P.pointee t)):=by rw[hu];simp [Program.pointee,hu]
  rcases h with ⟨rfl,rfl⟩ | ⟨⟨ad,rfl⟩,rfl⟩<;>rw[run_equal_pointer_nil w t _ hu']<;>rfl
theorem nP {s:Bool} {t:Nat} {d:TypeDesc} {x:A} {v:Value} {b:Bool} (hd:P.underlying t=some d) (hf:FOk O Aa m w fet) (hx:Ap O Aa m w v x) (h:Ab1 fet s d x=some b) :
    (s=true/\(Op.equal t v (.slice none 0 0)).run P w= .ok b w/\ ∃ a l c,v= .slice a l c)\/(s=false/\(Op.equal t v (.pointer none)).run P w= .ok b w/\ ∃ a,v= .pointer a):=by
  unfold Ab1 at h
  split at h
  ·injection h with h;subst h
   have hx':v= .slice none 0 0:=hx
   exact .inl ⟨rfl,vM hd (.inl ⟨hx',rfl⟩),_,_,_,hx'⟩
  ·injection h with h;subst h
   rename_i l
   have hx':Ai O w v (.sln l):=hx
   cases hx' with
   | sln h hn =>
     cases hq:l.xs.isEmpty with
     | true =>
       have hx':=hn (List.isEmpty_iff.1 hq)
       exact .inl ⟨rfl,vM hd (.inl ⟨hx',rfl⟩),_,_,_,hx'⟩
     | false =>
       cases h with
       | nil=>cases hq
       | sl0=>cases hq
       | sl vs _ _ _=>exact .inl ⟨rfl,vM hd (.inr ⟨⟨_,_,_,rfl⟩,rfl⟩),_,_,_,rfl⟩
  ·injection h with h;subst h
   cases hx
   exact .inr ⟨rfl,AdD hd (.inl ⟨rfl,rfl⟩),_,rfl⟩
  ·rename_i n off
   cases hr:Eh fet n with
   | none=>rw[hr]at h;cases h
   | some cs =>
     rw[hr]at h;injection h with h;subst h
     obtain⟨b,base,_,h2,_⟩:=hx.ptr hf (CB hr)
     exact .inr ⟨rfl,AdD hd (.inr ⟨⟨_,h2⟩,rfl⟩),_,h2⟩
  ·cases h
theorem zU {t:Nat} {x y:Bool} (hd:P.underlying t=some .bool):(Op.equal t (.bool x) (.bool y)).run P w= .ok (x==y) w:=by
  have: ∀ d,(Op.equalIn (d+1) t (.bool x) (.bool y)).run P w= .ok (x==y) w:=by intro d;simp [Op.equalIn,run_underlying hd]
  exact this 9999
theorem iF {t:Nat} {vs:Array Value} {off:Nat} {d:TypeDesc} (hd:P.underlying t=some d) (hp:N8 d=false) (h:off<vs.size):(part t vs off).run P w= .ok (vs.getD off undef) w:=by
  have hg:vs[off]? =some (vs.getD off undef):=by rw[Array.getD_eq_getD_getElem?,Array.getElem?_eq_getElem h];rfl
  have ha:(isAgg t).run P w= .ok false w:=by
    simp only[isAgg,Sem.run_bind,run_underlying hd,Result.andThen_ok]
    cases d<;>first | rfl | cases hp
  unfold part
  generalize vs.getD off undef=z at *
  simp [ha,hg]
theorem Au.Afy {v:Value} {b:Bool} (h:Au O Aa m w v (.bool b)):v= .bool b:=by cases h;rfl
theorem Au.Ag2 {v:Value} {k:IntKind} {n:Int} (h:Au O Aa m w v (.int k n)):v= .int k n:=by cases h;rfl
theorem Au.AgP {v:Value} {s:List UInt8} (h:Au O Aa m w v (.str s)): ∃ b:ByteArray,v= .string b/\b.data.toList=s:=by cases h;exact⟨_,rfl,rfl⟩
theorem Aa8 {d ty:Nat} {k:CK} {td:TypeDesc} {a b:A} {v u:Value} (hk:(k= .bool/\td= .bool)\/(∃ i,k= .int i/\td= .int i)\/(k= .str/\td= .string)) (hd:P.underlying ty=some td) (h1:Au O Aa m w v a) (h2:Au O Aa m w u b) (hok:(PG k a b).1=true) :
    (Op.equalIn (d+1) ty v u).run P w= .ok (PG k a b).2 w:=by
  rcases hk with ⟨rfl,rfl⟩ | ⟨i,rfl,rfl⟩ | ⟨rfl,rfl⟩
  ·cases a<;>first | (cases hok;done) | skip
   cases b<;>first | (cases hok;done) | skip
   rw[h1.Afy,h2.Afy]
   exact run_equalIn_bool' w d ty _ _ hd
  ·cases a<;>first | (cases hok;done) | skip
   cases b<;>first | (cases hok;done) | skip
   rename_i j x j' y
   simp only[PG,Bool.and_eq_true]at hok
   rw[h1.Ag2,h2.Ag2,H6 hok.1,H6 hok.2]
   exact run_equalIn_int w d ty i i _ _ hd
  ·cases a<;>first | (cases hok;done) | skip
   cases b<;>first | (cases hok;done) | skip
   obtain⟨s1,e1,l1⟩:=h1.AgP
   obtain⟨s2,e2,l2⟩:=h2.AgP
   rw[e1,e2,run_equalIn_string w d ty _ _ hd]
   simp only[PG,Ri,l1,l2]
theorem uC {d:Nat} {vs us:Array Value} {x y:List A} (hx:vs.size=x.length) (hy:us.size=y.length) (hxr: ∀ j,j<x.length->Au O Aa m w (vs.getD j undef) (x.getD j .undef)) (hyr: ∀ j,j<y.length->Au O Aa m w (us.getD j undef) (y.getD j .undef)) :
    ∀(fs:List Field) (n:Nat) (ks:List CK),Kz P fs n=some ks->(EW ks (x.drop n) (y.drop n)).1=true->(Op.eqFields (d+1) vs us fs).run P w= .ok (EW ks (x.drop n) (y.drop n)).2 w:=by
  intro fs
  induction fs with
  | nil =>
    intro n ks h hok
    injection h with h
    subst h
    have:EW [] (x.drop n) (y.drop n)=(true,true):=by
      cases hx:x.drop n with
      | nil=>cases hy:y.drop n with
        | nil=>rfl
        | cons _ _=>rw[hx,hy]at hok;cases hok
      | cons _ _=>rw[hx]at hok;cases hok
    rw[this];rfl
  | cons f fs ih =>
    intro n ks h hok
    have key: ∀(k:CK) (td:TypeDesc) (ks':List CK),((k= .bool/\td= .bool)\/(∃ i,k= .int i/\td= .int i)\/(k= .str/\td= .string))->P.underlying f.type=some td->Kz P fs (n+1)=some ks'->(f.name != "_" &&Nat.beq f.offset n)=true->ks=k::ks' ->
        (Op.eqFields (d+1) vs us (f::fs)).run P w= .ok (EW ks (x.drop n) (y.drop n)).2 w:=by
      intro k td ks' hk hd hf hn hks
      subst hks
      rw[Bool.and_eq_true]at hn
      have hnm:f.name≠ "_" :=by simpa using hn.1
      have hoff:=Nat.eq_of_beq_eq_true hn.2
      cases hxd:x.drop n with
      | nil=>rw[hxd]at hok;cases hok
      | cons a xr =>
        cases hyd:y.drop n with
        | nil=>rw[hxd,hyd]at hok;cases hok
        | cons b yr =>
          rw[hxd,hyd]at hok
          simp only[EW,Bool.and_eq_true]at hok ⊢
          have hnx:n<x.length:=by
            rcases Nat.lt_or_ge n x.length with h | h
            ·exact h
            ·rw[List.drop_eq_nil_of_le h]at hxd;cases hxd
          have hny:n<y.length:=by
            rcases Nat.lt_or_ge n y.length with h | h
            ·exact h
            ·rw[List.drop_eq_nil_of_le h]at hyd;cases hyd
          have e1:x.getD n .undef=a:=by
            have:=congrArg List.head? hxd
            rw[List.head?_drop]at this
            rw[List.getD_eq_getElem?_getD,this];rfl
          have e2:y.getD n .undef=b:=by
            have:=congrArg List.head? hyd
            rw[List.head?_drop]at this
            rw[List.getD_eq_getElem?_getD,this];rfl
          have e3:x.drop (n+1)=xr:=by rw[<- List.drop_drop,hxd];rfl
          have e4:y.drop (n+1)=yr:=by rw[<- List.drop_drop,hyd];rfl
          have r1:=hxr n hnx
          have r2:=hyr n hny
          rw[e1]at r1;rw[e2]at r2
          have hagg:N8 td=false:=by rcases hk with ⟨_,rfl⟩ | ⟨i,_,rfl⟩ | ⟨_,rfl⟩<;>rfl
          have p1:=iF (P:=P) (w:=w) (vs:=vs) (off:=n) hd hagg (by omega)
          have p2:=iF (P:=P) (w:=w) (vs:=us) (off:=n) hd hagg (by omega)
          have q:=Aa8 (d:=d) hk hd r1 r2 hok.1
          have hrest:=ih (n+1) ks' hf (by rw[e3,e4];exact hok.2)
          rw[e3,e4]at hrest
          simp only[Op.eqFields,hnm,ne_eq,not_false_eq_true,if_true,Sem.run_bind,hoff,p1,p2,Result.andThen_ok,q]
          cases (PG k a b).2 with
          | false=>simp
          | true=>simpa using hrest
    unfold Kz at h
    split at h
    ·rename_i ks' hd hf
     cases hb:(f.name != "_" &&Nat.beq f.offset n)with
     | false=>rw[hb]at h;cases h
     | true=>rw[hb]at h;injection h with h;exact key _ _ _ (.inl ⟨rfl,rfl⟩) hd hf hb h.symm
    ·rename_i k ks' hd hf
     cases hb:(f.name != "_" &&Nat.beq f.offset n)with
     | false=>rw[hb]at h;cases h
     | true=>rw[hb]at h;injection h with h;exact key _ _ _ (.inr (.inl ⟨k,rfl,rfl⟩)) hd hf hb h.symm
    ·rename_i ks' hd hf
     cases hb:(f.name != "_" &&Nat.beq f.offset n)with
     | false=>rw[hb]at h;cases h
     | true=>rw[hb]at h;injection h with h;exact key _ _ _ (.inr (.inr ⟨rfl,rfl⟩)) hd hf hb h.symm
    ·cases h
theorem zZ {t:Nat} {ti:TI} (hT:Jl P t ti) {vs us:Array Value} {x y:List A} (hx:vs.size=x.length) (hy:us.size=y.length) (hxr: ∀ j,j<x.length->Au O Aa m w (vs.getD j undef) (x.getD j .undef)) (hyr: ∀ j,j<y.length->Au O Aa m w (us.getD j undef) (y.getD j .undef))
    (h1:ti.cmp.isEmpty=false) (h2:(EW ti.cmp x y).1=true):P.eqGuardType P.depth t=false/\(Op.equalIn 10000 t (.agg vs) (.agg us)).run P w= .ok (EW ti.cmp x y).2 w:=by
  have hc:=hT.cmp
  have hd:=hT.d
  unfold AaB at hc
  split at hc
  ·rename_i fs hfs
   split at hc
   ·rename_i ks hks
    cases hb:(!(P.stoodInHeld t)&& !(P.eqGuardType P.depth t))with
    | false=>rw[hb]at hc;rw[hc]at h1;cases h1
    | true =>
      rw[hb]at hc
      simp only[cond_true]at hc
      rw[hc]at h2 ⊢
      rw[Bool.and_eq_true,Bool.not_eq_true',Bool.not_eq_true']at hb
      rw[hfs]at hd
      have hf:P.fieldsOf t=fs:=by simp only[Program.fieldsOf,hd]
      refine⟨hb.2,?_⟩
      rw[run_equalIn_agg w 9999 t vs us (by rw[hf];exact hd) hb.1,hf]
      exact uC (d:=9998) hx hy hxr hyr fs.toList 0 ks hks h2
   ·rw[hc]at h1;cases h1
  ·rw[hc]at h1;cases h1
theorem Aet {op:BinOp} {t ty:Nat} {x y:Operand} (hC:TOk P C) (hf:FOk O Aa m w fet) (ho:o.op= .binOp op t x y ty) {x' y':A} (hx:Ap O Aa m w (a.eval x) x') (hy:Ap O Aa m w (a.eval y) y')
    (hok:Ak (Aa0 C fet op t x' y').ok):Pure P O Aa m a w o (Aa0 C fet op t x' y'):=by
  have fin: ∀ {v u:Value} {δ :Dl},a.eval x=v->a.eval y=u->(∀ cs,v≠ .agg cs)->v≠ .nilIface->(∃ r,(binOp op t v u).run P w= .ok r w/\Ap O Aa m w r δ.val/\ δ.new=[]/\ δ.upd=[]/\ δ.del=[])->Pure P O Aa m a w o δ :=by
    intro v u δ hv hu h1 h2 ⟨r,h3,h4,h5,h6,h7⟩
    refine⟨⟨r,?_,h4⟩,h5,h6,h7⟩
    simp only[execOp,ho,hv,hu,Sem.run_bind,uD h1 h2,Result.andThen_ok,h3,Sem.run_pure]
  unfold Aa0 at hok ⊢
  split at hok
  ·rename_i k p k' q
   have h1:=hx.int
   have h2:=hy.int
   split at hok
   ·have h0:0<=q:=by simpa [Dl.g]using hok.cons.1
    refine fin h1 h2 (by simp) (by simp) ⟨_,?_,.mkInt _ _,rfl,rfl,rfl⟩
    have: ¬ q<0:=by omega
    simp [binOp,Op.shift,this]
   ·have h0:0<=q:=by simpa [Dl.g]using hok.cons.1
    refine fin h1 h2 (by simp) (by simp) ⟨_,?_,.mkInt _ _,rfl,rfl,rfl⟩
    have: ¬ q<0:=by omega
    simp [binOp,Op.shift,this]
   ·rename_i h3 h4
    cases hk:A.kEq k k' with
    | false=>rw[hk]at hok;exact(Az hok).elim
    | true =>
      rw[hk]at hok
      have:=H6 hk
      subst this
      exact fin h1 h2 (by simp) (by simp) (Aer hok t h3 h4)
  ·obtain⟨s1,h1,h2⟩:=hx.str
   obtain⟨s2,h3,h4⟩:=hy.str
   exact fin h1 h3 (by simp) (by simp) (Aes h2 h4 hok t)
  ·have h1:=hx.bool
   have h2:=hy.bool
   split at hok
   ·unfold qX at *
    obtain⟨ti,ht,he⟩:=Bf hok
    rw[he]at hok ⊢
    have hd:ti.d= .bool:=by
      have:=hok.cons.1
      unfold lF at this;split at this<;>simp_all
    refine fin h1 h2 (by simp) (by simp) ⟨_,?_,.Fg _,rfl,rfl,rfl⟩
    have hu:=(hC.is ht).d
    rw[hd]at hu
    simp only[binOp,Sem.run_bind,zU hu,Result.andThen_ok,Sem.run_pure]
   ·unfold qX at *
    obtain⟨ti,ht,he⟩:=Bf hok
    rw[he]at hok ⊢
    have hd:ti.d= .bool:=by
      have:=hok.cons.1
      unfold lF at this;split at this<;>simp_all
    refine fin h1 h2 (by simp) (by simp) ⟨_,?_,.Fg _,rfl,rfl,rfl⟩
    have hu:=(hC.is ht).d
    rw[hd]at hu
    simp only[binOp,Sem.run_bind,zU hu,Result.andThen_ok,Sem.run_pure]
   ·exact(Az hok).elim
  ·rename_i x y
   obtain⟨vs,e1,l1,r1⟩:=(show T1 O Aa m w _ (.agg x)from hx)
   obtain⟨us,e2,l2,r2⟩:=(show T1 O Aa m w _ (.agg y)from hy)
   obtain⟨ti,ht,he⟩:=Bf hok
   rw[he]at hok ⊢
   split at hok
   ·obtain⟨c1,c2⟩:=hok.cons
    obtain⟨g1,g2⟩:=zZ (hC.is ht) l1 l2 r1 r2 (by simpa using c1) c2.cons.1
    refine⟨⟨_,?_,.Fg _⟩,rfl,rfl,rfl⟩
    simp only[execOp,ho,e1,e2,Sem.run_bind,run_eqGuard_agg w _ _ _ _ _ _ g1,Result.andThen_ok,run_eql_struct w,g2,Sem.run_pure]
   ·obtain⟨c1,c2⟩:=hok.cons
    obtain⟨g1,g2⟩:=zZ (hC.is ht) l1 l2 r1 r2 (by simpa using c1) c2.cons.1
    refine⟨⟨_,?_,.Fg _⟩,rfl,rfl,rfl⟩
    simp only[execOp,ho,e1,e2,Sem.run_bind,run_eqGuard_agg w _ _ _ _ _ _ g1,Result.andThen_ok,run_neq_struct w,g2,Sem.run_pure]
   ·exact(Az hok).elim
  ·have h2:a.eval y= .slice none 0 0:=hy
   split at hok
   all_goals first
     | exact(Az hok).elim
     | (unfold lJ at *
        obtain⟨ti,ht,he⟩:=Bf hok
        rw[he]at hok ⊢
        obtain⟨b,hb,he'⟩:=AA hok
        rw[he']
        have hu:=(hC.is ht).d
        rcases nP hu hf hx hb with ⟨_,h3,al,l,c,h4⟩ | ⟨hs,_⟩
        ·rw[h4]at h3
         refine fin h4 h2 (by simp) (by simp) ⟨_,?_,.Fg _,rfl,rfl,rfl⟩
         simp only[binOp,Sem.run_bind,h3,Result.andThen_ok,Sem.run_pure]
        ·cases hs)
  ·have h2:=hy.Cc
   split at hok
   all_goals first
     | exact(Az hok).elim
     | (unfold lJ at *
        obtain⟨ti,ht,he⟩:=Bf hok
        rw[he]at hok ⊢
        obtain⟨b,hb,he'⟩:=AA hok
        rw[he']
        have hu:=(hC.is ht).d
        rcases nP hu hf hx hb with ⟨hs,_⟩ | ⟨_,h3,al,h4⟩
        ·cases hs
        ·rw[h4]at h3
         refine fin h4 h2 (by simp) (by simp) ⟨_,?_,.Fg _,rfl,rfl,rfl⟩
         simp only[binOp,Sem.run_bind,h3,Result.andThen_ok,Sem.run_pure])
  ·exact(Az hok).elim
end
