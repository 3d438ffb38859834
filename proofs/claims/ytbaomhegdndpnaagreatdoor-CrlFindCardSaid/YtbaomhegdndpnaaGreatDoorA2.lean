import Derived.Test.YtbaomhegdndpnaaGreatDoorA1
import Derived.WalkKit
import Derived.Laws.IdiomCopy
import Derived.Laws.Cells
import Derived.Laws.Rows
import Derived.Laws.IdiomStrings
import Derived.Deep.MidRow
import Derived.ChangeKeysEq
import Derived.Lib.SmallJoins
import Derived.Lib.IndexBytes
set_option linter.all false
namespace Go.Proofs.YtbaomhegdndpnaaGreatDoor.Vm
def Bl (o:Oper) (st:St):List A:=(BG o.op (o.op.operands.toList.map (evalA st.tmps))).2
def TK:Op->List A->Bool
  | .move _,_=>true
  | .assign _,_=>true
  | .load _ _,[.clo _ _]=>true
  | _,_=>false
def TL:Op->List A->Option Nat
  | .nilCheck _,[.ptr o _]=>some o
  | .fieldAddr _ _ _,[.ptr o _]=>some o
  | .load _ _,[.ptr o _]=>some o
  | _,_=>none
def Cb (o:Oper) (st:St) (vs:List A):List Nat:=bif TK o.op vs then []else match TL o.op vs with
  | some q=>[q]
  | none=>vs.flatMap A.ids++(fetch st.Aa (vs.flatMap A.ids)).flatMap (fun p=>p.2.ids)
def oneOf (C:Ctx):Op->List A->Option (Nat×Nat×Nat)
  | .nilCheck _,[.ptr o _]=>some (o,0,0)
  | .fieldAddr _ _ _,[.ptr o _]=>some (o,0,0)
  | .load t _,[.ptr o off]=>match C.T t with
    | some ti=>bif Nat.blt 0 ti.cs.length then some (o,off,ti.cs.length)else none
    | none=>none
  | _,_=>none
structure BN where
  o:Oper
  δ :Dl
  rd:List Nat
  one:Option (Nat×Nat×Nat)
  anc:List Nat
def BN.news (x:BN):List Nat:=x.δ.new.map (·.1)
def BN.keys (x:BN):List Nat:=x.δ.upd.map (·.1)++x.δ.del++x.news
def BN.says (x:BN):List Nat:=x.δ.val.ids++x.δ.upd.flatMap (fun p=>p.2.ids)++x.δ.new.flatMap (fun p=>p.2.ids)
def Hg (a b:List Nat):Bool:=a.all (fun n=> !(has b n))
def slotsOf (ops:List Oper) (o:Oper):List Nat :=
  (o.op.operands.toList.filterMap fun | .tmp t=>some t | _=>none) ++
  (match o.guard with
   | some (g,_)=>match ops[g]? with
     | some x=>match x.dst with | some t=>[t] | none=>[]
     | none=>[]
   | none=>[])
def MP (o:Oper):List Nat:=match o.dst with | some d=>[d] | none=>[]
def calm (x y:BN):Bool:=match x.one with
  | none=>false
  | some (q,off,n)=> !(has x.keys q)&&(!(has y.δ.del q)&&(!(has y.news q)&&(y.δ.same.any (fun e=>Nat.beq e.1 q)&&(List.range n).all (fun k=>y.δ.same.any (fun e=>Nat.beq e.1 q&&Nat.beq e.2 (off+k))))))
def indep (ops:List Oper) (x y:BN):Bool :=
  Hg (MP x.o) (MP y.o)&&Hg (MP x.o) (slotsOf ops y.o)&&Hg (MP y.o) (slotsOf ops x.o) &&
  Hg x.keys y.rd&&(Hg y.keys x.rd||calm x y)&&Hg x.keys y.keys&&Hg x.news y.says
def QG (ops:List Oper) (i:Nat) (x y:BN):Bool:=Hg y.news x.says&&Hg y.news x.keys&&(has y.anc i||indep ops x y)
def Ky (o:Oper):List Nat:=o.after.toList.filterMap fun e=>bif Region.binds .any e then some e.on else none
def Ht (C:Ctx) (ops:List Oper):List Oper->List (List Nat)->St->List BN
  | [],_,_=>[]
  | o::r,acc,st=>match Bz C ops o st,(Ky o).flatMap (fun e=>e::acc.getD e [])with
    | δ,an=>⟨o,δ,Cb o st (Bl o st),oneOf C o.op (Bl o st),an⟩::Ht C ops r (acc++[an]) (apply st o δ)
def PL (ops:List Oper):Nat->List BN->Bool
  | _,[]=>true
  | i,x::r=>r.all (QG ops i x)&&PL ops (i+1) r
def backward:Nat->List Oper->Bool
  | _,[]=>true
  | i,o::r=>o.after.toList.all (fun e=>Nat.blt e.on i)&&backward (i+1) r
def H7:Nat->List Oper->Bool
  | _,[]=>true
  | i,o::r=>o.after.toList.all (fun e=> !(Region.binds .any e)||Nat.blt e.on i)&&H7 (i+1) r
def ranks (md:Region.Mode) (ops:List Oper):Nat->List Nat->List Nat
  | 0,r=>r
  | n+1,r=>ranks md ops n (ops.map fun o=>o.after.toList.foldl (fun m e=>bif Region.binds md e then(bif Nat.ble m (r.getD e.on 0)then r.getD e.on 0+1 else m)else m) 0)
def VJ (md:Region.Mode) (n:Nat) (rk:List Nat):Nat->List Oper->Bool
  | _,[]=>true
  | i,o::r=>o.after.toList.all (fun e=> !(Region.binds md e)||(Nat.blt e.on n&&Nat.blt (rk.getD e.on 0) (rk.getD i 0)))&&VJ md n rk (i+1) r
def kL (md:Region.Mode) (ops:List Oper):Bool:=VJ md ops.length (ranks md ops ops.length (ops.map fun _=>0)) 0 ops
def ordered (ops:List Oper):Bool:=H7 0 ops&&(backward 0 ops||(kL .text ops&&kL .gc ops&&kL .any ops))
def sorted:List (Nat×Obj)->Bool
  | []=>true
  | [_]=>true
  | (n,_)::(k,y)::r=>Nat.blt n k&&sorted ((k,y)::r)
def GL (C:Ctx) (ops:List Oper) (st:St):Bool :=
  match Ht C ops ops [] st with
  | fs=>ordered ops&&PL ops 0 fs&&(fs.flatMap BN.news).all st.fresh&&sorted st.Aa
def DK (f t:Nat):A->A
  | .ptr o off=>.ptr (bif Nat.beq o f then t else o) off
  | .own o=>.own (bif Nat.beq o f then t else o)
  | .clo g o=>.clo g (bif Nat.beq o f then t else o)
  | .bsl o n=>.bsl (bif Nat.beq o f then t else o) n
  | .osl o n=>.osl (bif Nat.beq o f then t else o) n
  | .Bc o i off=>.Bc (bif Nat.beq o f then t else o) i off
  | .agg cs=>.agg (cs.map fun
    | .ptr o off=>.ptr (bif Nat.beq o f then t else o) off
    | .own o=>.own (bif Nat.beq o f then t else o)
    | .clo g o=>.clo g (bif Nat.beq o f then t else o)
    | .bsl o n=>.bsl (bif Nat.beq o f then t else o) n
    | .osl o n=>.osl (bif Nat.beq o f then t else o) n
    | .Bc o i off=>.Bc (bif Nat.beq o f then t else o) i off
    | c=>c)
  | a=>a
def YD (f t:Nat):Obj->Obj
  | .box cs=>.box (cs.map (DK f t))
  | x=>x
def drop (keep:List Nat):List A->Nat->List A
  | [],_=>[]
  | a::r,i=>(bif has keep i then a else .undef)::drop keep r (i+1)
def YE (st:St):List (Nat×Nat)->Bool×St
  | []=>(true,st)
  | (f,t)::r=>match Af st.Aa f with
    | some x=>match YE {tmps:=st.tmps.map (DK f t),Aa:=(BP (Gp st.Aa f) t x).map (fun p=>(p.1,YD f t p.2))} r with
      | (ok,st')=>((bif Nat.beq f t then true else st.fresh t)&&ok,st')
    | none=>YE st r
def xB (Aa:List (Nat×Obj)):List Nat->List (Nat×Obj)
  | []=>Aa
  | n::r=>match Af Aa n with
    | some (.arr e _ l)=>xB (BP Aa n (.arr e true l)) r
    | _=>xB Aa r
def AdO:Nat->List (Nat×Obj)->List Nat->List Nat
  | 0,_,l=>l
  | n+1,Aa,l=>l++AdO n Aa ((fetch Aa l).flatMap (fun p=>p.2.ids))
def reached (tmps:List A) (Aa:List (Nat×Obj)):List Nat:=AdO 4 Aa (tmps.flatMap A.ids++(Aa.map (·.1)).filter Ls)
def Ut:A->Bool | .BK=>true | _=>false
def YG (id:Nat):List Nat->List A->List A
  | [],l=>l
  | t::r,l=>YG id r (l.set t (.own id))
def owns:List (List Nat×Nat×Ty×Nat)->St->Bool×St
  | [],st=>(true,st)
  | (ts,e,ty,id)::r,st=>bif ts.any (fun t=>Ut (st.tmps.getD t .undef))then
      match owns r {tmps:=YG id ts st.tmps,Aa:=BP st.Aa id (.arr e false ⟨ty,[]⟩)}with
      | (ok,st')=>(ts.all (fun t=>Ut (st.tmps.getD t .undef)&&Nat.blt t st.tmps.length)&&st.fresh id&&ok,st')
    else owns r st
def pzs:List (Option Nat×Nat×Ty)->St->St
  | [],st=>st
  | (none,t,ty)::r,st=>match st.tmps.getD t .undef with
    | .BK=>pzs r {st with tmps:=st.tmps.set t (.sl ⟨ty,[]⟩)}
    | .own o=>match Af st.Aa o with
      | some (.arr e _ l)=>pzs r {tmps:=st.tmps.set t (.sl l),Aa:=BP st.Aa o (.arr e true l)}
      | _=>pzs r st
    | _=>pzs r st
  | (some b,j,_)::r,st=>match Af st.Aa b with
    | some (.box cs)=>match cs.getD j .undef with
      | .own o=>match Af st.Aa o with
        | some (.arr e _ l)=>pzs r {st with Aa:=BP (BP st.Aa o (.arr e true l)) b (.box (cs.set j (.sl l)))}
        | _=>pzs r st
      | _=>pzs r st
    | _=>pzs r st
def norm (C:Ctx) (key:Nat) (st0:St):Bool×St :=
  match C.nrm key with
  | none=>(true,st0)
  | some n =>
    match pzs n.pz st0 with
    | st=>match YE {tmps:=drop n.keep st.tmps 0,Aa:=st.Aa.filter (fun p=>has (reached (drop n.keep st.tmps 0) st.Aa) p.1)} n.ren with
      | (ok,st')=>match owns n.nw st' with
        | (ok',st'')=>(ok&&ok',{st'' with Aa:=xB st''.Aa n.frz})
inductive Ex where
  | normal
  | exit (id:Nat)
def C9:Code->Option Nat
  | .region id _ _=>some id
  | .seq a b=>match C9 a with | some n=>some n | none=>(C9 b).map (· +4096)
  | .cond _ a b=>match C9 a with | some n=>some n | none=>C9 b
  | .block _ c=>C9 c
  | .loop c=>C9 c
  | .scope c=>C9 c
  | _=>none
def GN {ρ :Type} (C:Ctx) (key:Nat) (st:St) (K:St->Option ρ):Option ρ :=
  match norm C key st with
  | (ok,st')=>bif ok then K st' else none
def meet {ρ :Type} (C:Ctx) (kind:Nat) (c:Code) (st:St) (K:St->Option ρ):Option ρ :=
  match C9 c with
  | some n=>GN C (4*n+kind) st K
  | none=>K st
def rounds {ρ :Type} (head:St->(St->Option ρ)->Option ρ) (body:St->(Ex->St->Option ρ)->Option ρ):Nat->St->(Ex->St->Option ρ)->Option ρ
  | 0,_,_=>none
  | n+1,st,K=>body st fun
    | .normal,st'=>head st' fun st''=>rounds head body n st'' K
    | .exit id,st'=>K (.exit id) st'
def eF:Nat:=(fun(_:Option Nat)=>0) (Au (X:=Nat) (Y:=Nat) (fun _ _ _=>none) 0 0 (fun _=>none))
def peek (C:Ctx) (ops:List Oper) (s:Nat):List Oper->St->A
  | [],st=>(st.tmps.getD s .undef).Et.2
  | o::r,st=>peek C ops s r (apply st o (Bz C ops o st))
def split {α :Type} (C:Ctx) (id:Nat) (ops:List Oper) (st:St) (f:Ctx->Option α):Option α :=
  (fun(_:Nat)=>match C.spl id with
  | none=>f C
  | some (k,s,ds)=>match peek C ops s (ops.take k) st with
    | .bool b=>match b with
      | true=>f (C.decide ds true)
      | false=>f (C.decide ds false)
    | _=>none) eF
theorem kT {α :Type} {C:Ctx} {id:Nat} {ops:List Oper} {st:St} {f:Ctx->Option α} {v: α} (h:split C id ops st f=some v):(f C=some v\/ ∃ ds b,f (C.decide ds b)=some v)/\ ∀ f':Ctx->Option α,(∀ C',f C'=some v->f' C'=some v)->split C id ops st f'=some v:=by
  unfold split at h ⊢
  dsimp only at h ⊢
  cases hs:C.spl id with
  | none=>rw[hs]at h;exact⟨.inl h,fun f' hf=>hf C h⟩
  | some q =>
    obtain⟨k,s,ds⟩:=q
    rw[hs]at h
    dsimp only at h ⊢
    generalize peek C ops s (ops.take k) st=x at h ⊢
    cases x with
    | bool b=>cases b<;>exact⟨.inr ⟨_,_,h⟩,fun f' hf=>hf _ h⟩
    | _=>cases h
def exec {ρ :Type} (C:Ctx) (N:Nat) (fin:St->Option ρ):Code->St->(Ex->St->Option ρ)->Option ρ
  | .skip,st,K=>K .normal st
  | .region _ ops false,st,K=>KU C ops.toList ops.toList st fun st'=>K .normal st'
  | .region id ops true,st,K=>split C id ops.toList st fun C=>bif GL C ops.toList st then J8 C ops.toList ops.toList st fun st'=>K .normal st' else none
  | .seq a b,st,K=>exec C N fin a st fun
    | .normal,st'=>meet C 1 b st' fun st''=>exec C N fin b st'' K
    | .exit id,st'=>K (.exit id) st'
  | .cond c a b,st,K=>match evalA st.tmps c with
    | .bool t=>bif t then exec C N fin a st K else exec C N fin b st K
    | .cnd g (.bool t)=>bif g then bif t then exec C N fin a st K else exec C N fin b st K else none
    | _=>none
  | .block id c,st,K=>exec C N fin c st fun
    | .exit j,st'=>bif Nat.beq j id then K .normal st' else K (.exit j) st'
    | .normal,st'=>K .normal st'
  | .loop c,st,K=>meet C 2 c st fun st'=>rounds (meet C 2 c) (exec C N fin c) N st' K
  | .exit id,st,K=>GN C (4*id+3) st fun st'=>K (.exit id) st'
  | .scope c,st,K=>exec C N fin c st K
  | .label _,st,K=>K .normal st
  | .ret,st,_=>fin st
  | _,_,_=>none
theorem Ty.D5: ∀(t:Ty) (v:t.Val),(t.cells v).length=t.len
  | .nil,_=>rfl
  | .bool r,v=>by simp [Ty.cells,Ty.len,Ty.D5 r]
  | .int _ r,v=>by simp [Ty.cells,Ty.len,Ty.D5 r]
  | .str r,v=>by simp [Ty.cells,Ty.len,Ty.D5 r]
  | .sl _ _ r,v=>by simp [Ty.cells,Ty.len,Ty.D5 r]
  | .ptr r,v=>by simp [Ty.cells,Ty.len,Ty.D5 r v]
  | .fn r,v=>by simp [Ty.cells,Ty.len,Ty.D5 r]
  | .mp _ _ r,v=>by simp [Ty.cells,Ty.len,Ty.D5 r]
theorem Ty.Ep {α :Type} (r:Ty) (a: α) (b:r.Val):r.hd (r.mk2 a b)=a:=by cases r<;>rfl
theorem Ty.Eu {α :Type} (r:Ty) (a: α) (b:r.Val):r.tl (r.mk2 a b)=b:=by cases r<;>rfl
theorem Sl.BB (l:Sl):l.es.length=l.xs.length:=by simp [Sl.es]
theorem Sl.es_len (l:Sl): ∀ e∈l.es,e.length=l.sz:=by
  intro e he
  obtain⟨v,_,rfl⟩:=List.mem_map.1 he
  exact Ty.D5 _ _
theorem Sl.at_eq (l:Sl) {i:Nat} (h:i<l.xs.length):l.at i=l.es.getD i []:=by grind[Sl.at,Sl.es]
theorem Sl.AcK (l:Sl) (i:Nat):(l.at i).length=l.sz:=Ty.D5 _ _
theorem Sl.EN {l:Sl} {t:Ty} {xs:List t.Val} (h:l.cast t=some xs):l=⟨t,xs⟩:=by
  unfold Sl.cast at h
  split at h
  ·rename_i e _
   obtain⟨s,ys⟩:=l
   all_goals grind
  ·cases h
theorem Sl.Nb (t:Ty) (xs:List t.Val):(⟨t,xs⟩:Sl).cast t=some xs:=by
  unfold Sl.cast
  split
  ·rfl
  ·grind
theorem Mp.EN {l:Mp} {kt vt:Ty} {xs:List (kt.Val×vt.Val)} (h:l.cast kt vt=some xs):l=⟨kt,vt,xs⟩:=by
  unfold Mp.cast at h
  split at h
  ·rename_i e _
   obtain⟨k,v,ys⟩:=l
   dsimp only at e
   subst e
   split at h
   all_goals grind
  ·cases h
theorem Mp.Nb (kt vt:Ty) (xs:List (kt.Val×vt.Val)):(⟨kt,vt,xs⟩:Mp).cast kt vt=some xs:=by
  unfold Mp.cast
  split
  ·split
   ·rfl
   ·grind
  ·grind
theorem A.Ff {j k:IntKind} (h:A.kEq j k=true):j=k:=by cases j<;>cases k<;>first | rfl | cases h
theorem Ty.Ej: ∀(t:Ty) (cs:List A),(t.mk cs).1=true->t.cells (t.mk cs).2=cs:=by
  intro t
  induction t with
  | nil =>
    intro cs h
    cases cs with
    | nil=>rfl
    | cons _ _=>simp [Ty.mk]at h
  | fn r ih=>grind[Ty.mk,Ty.cells,Ty.Ep,Ty.Eu]
  | mp kt vt r _ _ ih =>
    intro cs h
    unfold Ty.mk at h ⊢
    split at h
    ·rename_i l cs
     cases hc:l.cast kt vt with
     | none=>rw[hc]at h;simp at h
     | some xs=>grind[Ty.cells,Ty.Ep,Ty.Eu,Mp.EN]
    ·simp at h
  | bool r ih=>grind[Ty.mk,Ty.cells,Ty.Ep,Ty.Eu]
  | int k r ih=>grind[Ty.mk,Ty.cells,Ty.Ep,Ty.Eu,A.Ff]
  | str r ih=>grind[Ty.mk,Ty.cells,Ty.Ep,Ty.Eu]
  | sl e t r _ ih =>
    intro cs h
    unfold Ty.mk at h ⊢
    split at h
    ·rename_i l cs
     cases hc:l.cast t with
     | none=>rw[hc]at h;simp at h
     | some xs=>grind[Ty.cells,Ty.Ep,Ty.Eu,Sl.EN]
    ·simp at h
  | ptr r ih =>
    intro cs h
    unfold Ty.mk at h ⊢
    split at h
    ·rename_i cs
     show A.Cc::r.cells (r.mk cs).2=_
     rw[ih cs h]
    ·simp at h
theorem Ty.lH: ∀(ks:List CK),ks.all CK.plain=true->(tyl ks).cells (tyl ks).zero=ks.map CK.DT:=by
  intro ks
  induction ks with
  | nil=>intro _;rfl
  | cons k ks ih=>grind[tyl,Ty.cells,Ty.Ep,Ty.Eu,CK.DT,CK.zero,CK,CK.plain,cells,zero]
theorem IM (ks:List CK):(tyl ks).len=ks.length:=by
  induction ks with
  | nil=>rfl
  | cons k ks ih=>cases k<;>simp [tyl,Ty.len,ih]
theorem Sl.Agl (l:Sl) {i off:Nat} {cs:List A} (hi:i<l.xs.length) (h:(l.set i off cs).1=true):(l.set i off cs).2.es=l.es.set i (splice (l.es.getD i []) off cs):=by
  have:=Ty.Ej _ _ h
  rw[<- l.at_eq hi]
  all_goals simp_all[Sl.set,Sl.es,hi,splice]
theorem Sl.Adl (t:Ty) (xs ys:List t.Val):(⟨t,xs++ys⟩:Sl).es=(⟨t,xs⟩:Sl).es++(⟨t,ys⟩:Sl).es:=by simp [Sl.es]
theorem Sl.Adm (l:Sl) (a b:Nat):(⟨l.t,AO l.xs a b⟩:Sl).es=AO l.es a b:=by simp_all[Sl.es,AO]
theorem Sl.Ql (ks:List CK) (n:Nat) (h:ks.all CK.plain=true):(⟨tyl ks,List.replicate n (tyl ks).zero⟩:Sl).es=List.replicate n (ks.map CK.DT):=by
  simp [Sl.es,List.map_replicate,Ty.lH ks h]
theorem Sl.Adn (t:Ty):(⟨t,[]⟩:Sl).es=[]:=rfl
def D7 (P:Program):Nat->Nat->Option (List CK)
  | 0,_=>none
  | n+1,t=>match P.underlying t with
    | some .bool=>some [.bool]
    | some (.int k)=>some [.int k]
    | some .string=>some [.str]
    | some (.slice e)=>match D7 P n e with
      | some cs=>bif cs.all CK.plain then some [.sl e (tyl cs)]else some [.oth]
      | none=>some [.oth]
    | some (.pointer _)=>some [.ptr]
    | some (.struct fs)=>fs.toList.foldr (fun f acc=>match D7 P n f.type,acc with | some a,some b=>some (a++b) | _,_=>none) (some [])
    | some (.array m e)=>match D7 P n e with
      | some a=>bif Nat.ble (m*a.length) 4096 then some ((List.replicate m a).flatten)else none
      | none=>none
    | some (.tuple _)=>none
    | some (.func _ _ _)=>some [.fn]
    | some _=>some [.oth]
    | none=>none
def Bq:List Value->List CK->Bool
  | [],[]=>true
  | .bool false::vs,.bool::ks=>Bq vs ks
  | .int k 0::vs,.int k'::ks=>A.kEq k k'&&Bq vs ks
  | .string s::vs,.str::ks=>s.data.toList.isEmpty&&Bq vs ks
  | .slice none 0 0::vs,.sl _ _::ks=>Bq vs ks
  | .pointer none::vs,.ptr::ks=>Bq vs ks
  | .nilFunc::vs,.fn::ks=>Bq vs ks
  | v::vs,.oth::ks=>v.oneCell'&&Bq vs ks
  | _,_=>false
def KE:TypeDesc->Bool
  | .struct _ | .array _ _=>true
  | _=>false
def Qx:Value->Bool
  | .agg _=>true
  | _=>false
def Kz (P:Program):List Field->Nat->Option (List CK)
  | [],_=>some []
  | f::r,n=>match P.underlying f.type,Kz P r (n+1)with
    | some .bool,some ks=>bif f.name != "_" &&Nat.beq f.offset n then some (.bool::ks)else none
    | some (.int k),some ks=>bif f.name != "_" &&Nat.beq f.offset n then some (.int k::ks)else none
    | some .string,some ks=>bif f.name != "_" &&Nat.beq f.offset n then some (.str::ks)else none
    | _,_=>none
def Ab0 (P:Program) (t:Nat):TypeDesc->List CK
  | .struct fs=>match Kz P fs.toList 0 with
    | some ks=>bif !(P.stoodInHeld t)&& !(P.eqGuardType P.depth t)then ks else []
    | none=>[]
  | _=>[]
def AcB (P:Program) (t:Nat):Option TI :=
  match P.underlying t,P.info? t,D7 P 20 t with
  | some d,some i,some cs=>match i.zero with
    | some z=>bif Nat.beq i.size cs.length&&Bq z.cells.toList cs&&(KE d==Qx z)then some ⟨d,cs,i.bytes,Ab0 P t d⟩else none
    | none=>none
  | _,_,_=>none
abbrev Own:=Nat->Nat->Option Nat
abbrev at' (b k:Nat):Addr:=⟨b,k,none⟩
inductive Ai (O:Own) (w:World):Value->A->Prop
  | bool (b:Bool):Ai O w (.bool b) (.bool b)
  | int (k:IntKind) (n:Int):Ai O w (.int k n) (.int k n)
  | str (s:ByteArray):Ai O w (.string s) (.str s.data.toList)
  | nil (t:Ty):Ai O w (.slice none 0 0) (.sl ⟨t,[]⟩)
  | sl {b off cap:Nat} {l:Sl} (vs:Nat->Nat->Value) (hc:l.es.length<=cap)
      (hm: ∀ i j,i<l.es.length->j<l.sz->O b (off+(i*l.sz+j))=none/\w.cell? (at' b (off+(i*l.sz+j)))=some (vs i j))
      (hr: ∀ i j,i<l.es.length->j<l.sz->Ai O w (vs i j) ((l.es.getD i []).getD j .undef)):Ai O w (.slice (some (at' b off)) l.es.length cap) (.sl l)
  | sln {v:Value} {l:Sl} (h:Ai O w v (.sl l)) (hn:l.xs=[]->v= .slice none 0 0):Ai O w v (.sln l)
  | Cc:Ai O w (.pointer none) .Cc
  | fn (f:Nat):Ai O w (.func (.func f) #[] #[]) (.fn (f+1))
  | RU:Ai O w .nilFunc (.fn 0)
  | sl0 (a:Addr) (t:Ty):Ai O w (.slice (some a) 0 0) (.sl ⟨t,[]⟩)
def Di (O:Own) (w:World) (O':Own) (w':World):Prop:= ∀ b k u,O b k=none->w.cell? (at' b k)=some u->O' b k=none/\w'.cell? (at' b k)=some u
def Inv (O:Own) (w:World):Prop:=(∀ g j p,TD g j=some p->O g j=none/\ ∃ v,w.cell? (at' g j)=some v/\p v)/\ ∀ g n,Afj g=some n-> ∃ c e fr,w.heap[g]? =some (.cells c e fr)/\c.size=n
theorem Ai.AX {O O':Own} {w w':World} (hp:Di O w O' w') {v:Value} {a:A} (h:Ai O w v a):Ai O' w' v a:=by
  induction h with
  | bool b=>exact .bool b
  | int k n=>exact .int k n
  | str s=>exact .str s
  | nil t=>exact .nil t
  | sl vs hc hm hr ih =>
    refine .sl vs hc (fun i j hi hj=> ?_) (fun i j hi hj=>ih i j hi hj)
    all_goals simp_all[hi,Own,Di,Ai]
  | sln h hn ih=>exact .sln ih hn
  | Cc=>exact .Cc
  | fn f=>exact .fn f
  | RU=>exact .RU
  | sl0 a t=>exact .sl0 a t
inductive Shp where
  | box
  | arr (sz len:Nat)
  | mp
def Obj.shp:Obj->Shp
  | .box _=>.box
  | .arr _ _ l=>.arr l.sz l.es.length
  | .mp _=>.mp
def Dp (w:World) (g:Nat) (cur:Array Value) (e:TypeId):Prop:= ∃ fr,w.heap[g]? =some (.cells cur e fr)/\(fr=(0,0)\/cur.size<=fr.1)
theorem Dp.cell {w:World} {g:Nat} {cur:Array Value} {e:TypeId} (h:Dp w g cur e) (k:Nat):w.cell? (at' g k)=cur[k]? :=by
  obtain⟨fr,h1,_⟩:=h
  simp [World.cell?,h1]
theorem Dp.frozen {w:World} {g:Nat} {cur:Array Value} {e:TypeId} (h:Dp w g cur e) {k:Nat} (hk:k<cur.size):w.frozen? (at' g k)=false:=by
  obtain⟨fr,h1,h2⟩:=h
  simp only[World.frozen?,h1]
  all_goals grind
theorem Dp.lt {w:World} {g:Nat} {cur:Array Value} {e:TypeId} (h:Dp w g cur e):g<w.heap.size:=by grind[Dp]
theorem Dp.same {w w':World} {g:Nat} {cur:Array Value} {e:TypeId} (h:Dp w g cur e) (hb:w'.heap[g]? =w.heap[g]?):Dp w' g cur e:=by grind[Dp]
theorem Dp.inj {w:World} {g:Nat} {cur cur':Array Value} {e e':TypeId} (h:Dp w g cur e) (h':Dp w g cur' e'):cur=cur'/\e=e':=by grind[Dp]
def Dy (O:Own) (w:World) (v:Value):A->Prop
  | .agg cs=> ∃ vs:Array Value,v= .agg vs/\vs.size=cs.length/\ ∀ j,j<cs.length->Ai O w (vs.getD j undef) (cs.getD j .undef)
  | a=>Ai O w v a
theorem Dy.AX {O O':Own} {w w':World} (hp:Di O w O' w') {v:Value} {a:A} (h:Dy O w v a):Dy O' w' v a:=by
  cases a with
  | agg cs=>obtain⟨vs,h1,h2,h3⟩:=h;exact⟨vs,h1,h2,fun j hj=>(h3 j hj).AX hp⟩
  | _=>exact Ai.AX hp h
def Ee (O:Own) (w:World) (o:Nat) (v:Value) (l:Mp):Prop :=
  ∃ r es ck,v= .map (some r)/\w.heap[r]? =some (.map es ck)/\O r 0=some o/\es.size=l.l.length /\
    ∀(i:Nat) (p:l.kt.Val×l.vt.Val),l.l[i]? =some p-> ∃ e,es[i]? =some e/\Dy O w e.key (Ea (l.kt.cells p.1))/\Dy O w e.val (Ea (l.vt.cells p.2))
def AgZ:Nat->Value->Value
  | 0,p=>p
  | f+1,p=>.func (.func f) #[] #[p]
def OQ (O:Own) (w:World) (k:Nat) (v p:Value):Prop:= ∃ b j,v=AgZ k (.pointer (some (at' b j)))/\O b j=none/\w.cell? (at' b j)=some p
theorem OQ.AX {O O':Own} {w w':World} (hp:Di O w O' w') {k:Nat} {v p:Value} (h:OQ O w k v p):OQ O' w' k v p:=by
  obtain⟨b,j,h1,h2,h3⟩:=h
  exact⟨b,j,h1,hp _ _ _ h2 h3⟩
section
variable (O:Own) (Aa:List (Nat×Obj)) (m:Nat->Value) (w:World)
def Aw (v:Value):A->Prop
  | .undef=>v.oneCell'=true
  | .BK=>v= .slice none 0 0
  | .ptr o off=>v.oneCell'=true/\match (Af Aa o).map Obj.shp with
    | some .box=> ∃ b base,m o= .pointer (some (at' b base))/\v= .pointer (some (at' b (base+off)))
    | _=>True
  | .own o=>v.oneCell'=true/\match (Af Aa o).map Obj.shp with
    | some (.arr _ _)=>v=m o
    | some .mp=>v=m o
    | _=>True
  | .Bc o i off=>v.oneCell'=true/\match (Af Aa o).map Obj.shp with
    | some (.arr sz len)=>i<len-> ∃ g n cap,m o= .slice (some (at' g 0)) n cap/\v= .pointer (some (at' g (i*sz+off)))
    | _=>True
  | .clo k o=>v.oneCell'=true/\ ∃ p,p.oneCell'=true/\OQ O w k v p/\match (Af Aa o).map Obj.shp with
    | some .box=> ∃ b base,m o= .pointer (some (at' b base))/\p= .pointer (some (at' b base))
    | _=>True
  | .bsl o n=>v.oneCell'=true/\match (Af Aa o).map Obj.shp with
    | some .box=> ∃ b base,m o= .pointer (some (at' b base))/\v= .slice (some (at' b base)) n n
    | _=>True
  | .osl o k=>v.oneCell'=true/\match (Af Aa o).map Obj.shp with
    | some (.arr sz len)=>k<len-> ∃ g cap,m o= .slice (some (at' g 0)) len cap/\v= .slice (some (at' g (k*sz))) (len - k) (cap - k)
    | _=>True
  | .elt cs=> ∃ b off,v= .pointer (some (at' b off))/\ ∀ j,j<cs.length->O b (off+j)=none/\ ∃ u,w.cell? (at' b (off+j))=some u/\Ai O w u (cs.getD j .undef)
  | .fn f=>Ai O w v (.fn f)
  | .bool b=>Ai O w v (.bool b)
  | .int k n=>Ai O w v (.int k n)
  | .str s=>Ai O w v (.str s)
  | .sl l=>Ai O w v (.sl l)
  | .sln l=>Ai O w v (.sln l)
  | .Cc=>Ai O w v .Cc
  | _=>False
def T1 (v:Value):A->Prop
  | .agg cs=> ∃ vs:Array Value,v= .agg vs/\vs.size=cs.length/\ ∀ j,j<cs.length->Aw O Aa m w (vs.getD j undef) (cs.getD j .undef)
  | a=>Aw O Aa m w v a
def Ar (v:Value):A->Prop
  | .undef=>True
  | .tup l=> ∃ vs:Array Value,v= .tuple vs/\vs.size=l.length/\ ∀ j,j<l.length->T1 O Aa m w (vs.getD j undef) (l.getD j .undef)
  | .cnd g a=>(g=true->T1 O Aa m w v a)/\(g=false->v=undef)
  | a=>T1 O Aa m w v a
def BL (o:Nat):Obj->Prop
  | .box cs=> ∃ b base,m o= .pointer (some (at' b base))/\ ∀ j,j<cs.length->O b (base+j)=some o/\w.frozen? (at' b (base+j))=false /\
      ∃ u,w.cell? (at' b (base+j))=some u/\Aw O Aa m w u (cs.getD j .undef)
  | .arr e frz l=>(∀ x∈l.es,x.length=l.sz)/\((True/\l.es=[]/\m o= .slice none 0 0) \/
      (True/\ ∃ g cap cur,m o= .slice (some (at' g 0)) l.es.length cap/\Dp w g cur e/\l.es.length<=cap/\cap<=maxLen/\cur.size=cap*l.sz /\
        (∀ i j,i<l.es.length->j<l.sz-> ∃ u,cur[i*l.sz+j]? =some u/\Ai O w u ((l.es.getD i []).getD j .undef)) /\
        (∀ k,k<cur.size->l.es.length*l.sz<=k->O g k=some o)/\(∀ k,k<l.es.length*l.sz->O g k=if frz then none else some o)))
  | .mp l=>Ee O w o (m o) l
end
structure Moves (O:Own) (T:Nat->Prop) (w w':World):Prop where
  os:w'.os=w.os
  tape:w'.tape=w.tape
  output:w'.output=w.output
  size:w.heap.size<=w'.heap.size
  blk: ∀ b,b<w.heap.size->w'.heap[b]? =w.heap[b]? \/(∃ c c' e fr,w.heap[b]? =some (.cells c e fr)/\w'.heap[b]? =some (.cells c' e fr)/\c'.size=c.size /\
    (∀ k,(∀ o,O b k=some o-> ¬ T o)->c'[k]? =c[k]?)/\ ∃ k o,k<c.size/\O b k=some o/\T o) \/
    ∃ es ck es' ck' o,w.heap[b]? =some (.map es ck)/\w'.heap[b]? =some (.map es' ck')/\O b 0=some o/\T o
theorem Moves.refl (O:Own) (T:Nat->Prop) (w:World):Moves O T w w:=⟨rfl,rfl,rfl,Nat.le_refl _,fun _ _=>.inl rfl⟩
theorem cell_lt {w:World} {b k:Nat} {u:Value} (h:w.cell? (at' b k)=some u):b<w.heap.size:=by
  rcases Nat.lt_or_ge b w.heap.size with hb | hb
  ·exact hb
  ·simp [World.cell?,Array.getElem?_eq_none hb]at h
theorem Moves.cell {O:Own} {T:Nat->Prop} {w w':World} (h:Moves O T w w') {b k:Nat} (hb:b<w.heap.size) (hk: ∀ o,O b k=some o-> ¬ T o) :
    w'.cell? (at' b k)=w.cell? (at' b k):=by
  rcases h.blk b hb with he | ⟨c,c',e,fr,h1,h2,_,h4,_⟩ | ⟨es,ck,es',ck',o,h1,h2,_,_⟩
  ·simp [World.cell?,he]
  ·simp [World.cell?,h1,h2,h4 k hk]
  ·simp [World.cell?,h1,h2]
theorem Moves.frozen {O:Own} {T:Nat->Prop} {w w':World} (h:Moves O T w w') {b k:Nat} (hb:b<w.heap.size):w'.frozen? (at' b k)=w.frozen? (at' b k):=by
  rcases h.blk b hb with he | ⟨c,c',e,fr,h1,h2,_,_,_⟩ | ⟨es,ck,es',ck',o,h1,h2,_,_⟩
  ·simp [World.frozen?,he]
  ·simp [World.frozen?,h1,h2]
  ·simp [World.frozen?,h1,h2]
structure Passes (O O':Own) (T:Nat->Prop) (n:Nat):Prop where
  none: ∀ b k,b<n->O b k=none->O' b k=none
  keep: ∀ b k o,b<n->O b k=some o-> ¬ T o->O' b k=some o
theorem Moves.AX {O O':Own} {T:Nat->Prop} {w w':World} (h:Moves O T w w') (hp:Passes O O' T w.heap.size):Di O w O' w':=by
  intro b k u hn hc
  have hb:=cell_lt hc
  exact⟨hp.none b k hb hn,by rw[h.cell hb (fun o ho=>by rw[hn]at ho;cases ho)];exact hc⟩
def F7 (Aa:List (Nat×Obj)) (m:Nat->Value) (objs':List (Nat×Obj)) (m':Nat->Value) (Nw:Nat->Prop):Prop :=
  ∀ o x',Af objs' o=some x'->Nw o\/ ∃ x,Af Aa o=some x/\x.shp=x'.shp/\m' o=m o
theorem Aw.step {O O':Own} {Aa objs':List (Nat×Obj)} {m m':Nat->Value} {w w':World} {Nw:Nat->Prop} (hp:Di O w O' w') (he:F7 Aa m objs' m' Nw)
    {v:Value} {a:A} (hn: ∀ o∈a.CX,¬ Nw o) (h:Aw O Aa m w v a):Aw O' objs' m' w' v a:=by
  have key: ∀ o,o∈a.CX-> ∀ x',Af objs' o=some x'-> ∃ x,Af Aa o=some x/\x.shp=x'.shp/\m' o=m o :=
    fun o ho x' hx=>(he o x' hx).resolve_left (hn o ho)
  cases a with
  | undef=>exact h
  | BK=>exact h
  | ptr o off =>
    simp only[Aw]at *
    refine⟨h.1,?_⟩
    have h:=h.2
    cases hx:Af objs' o with
    | none=>simp
    | some x' =>
      obtain⟨x,h1,h2,h3⟩:=key o (by simp [A.CX]) x' hx
      rw[h1]at h;simp only[Option.map_some,h2]at h;simp only[Option.map_some,h3];exact h
  | own o =>
    simp only[Aw]at *
    refine⟨h.1,?_⟩
    have h:=h.2
    cases hx:Af objs' o with
    | none=>simp
    | some x' =>
      obtain⟨x,h1,h2,h3⟩:=key o (by simp [A.CX]) x' hx
      rw[h1]at h;simp only[Option.map_some,h2]at h;simp only[Option.map_some,h3];exact h
  | Bc o i off =>
    simp only[Aw]at *
    refine⟨h.1,?_⟩
    have h:=h.2
    cases hx:Af objs' o with
    | none=>simp
    | some x' =>
      obtain⟨x,h1,h2,h3⟩:=key o (by simp [A.CX]) x' hx
      rw[h1]at h;simp only[Option.map_some,h2]at h;simp only[Option.map_some,h3];exact h
  | clo k o =>
    simp only[Aw]at *
    obtain⟨h0,p,h4,h5,h⟩:=h
    refine⟨h0,p,h4,h5.AX hp,?_⟩
    cases hx:Af objs' o with
    | none=>simp
    | some x' =>
      obtain⟨x,h1,h2,h3⟩:=key o (by simp [A.CX]) x' hx
      rw[h1]at h;simp only[Option.map_some,h2]at h;simp only[Option.map_some,h3];exact h
  | bsl o n =>
    simp only[Aw]at *
    refine⟨h.1,?_⟩
    have h:=h.2
    cases hx:Af objs' o with
    | none=>simp
    | some x' =>
      obtain⟨x,h1,h2,h3⟩:=key o (by simp [A.CX]) x' hx
      rw[h1]at h;simp only[Option.map_some,h2]at h;simp only[Option.map_some,h3];exact h
  | osl o n =>
    simp only[Aw]at *
    refine⟨h.1,?_⟩
    have h:=h.2
    cases hx:Af objs' o with
    | none=>simp
    | some x' =>
      obtain⟨x,h1,h2,h3⟩:=key o (by simp [A.CX]) x' hx
      rw[h1]at h;simp only[Option.map_some,h2]at h;simp only[Option.map_some,h3];exact h
  | elt cs =>
    obtain⟨b,off,hv,hc⟩:=h
    refine⟨b,off,hv,fun j hj=> ?_⟩
    obtain⟨h1,u,h2,h3⟩:=hc j hj
    obtain⟨h4,h5⟩:=hp _ _ _ h1 h2
    exact⟨h4,u,h5,h3.AX hp⟩
  | fn f=>exact Ai.AX hp h
  | ump _=>exact h
  | bool b=>exact Ai.AX hp h
  | int k n=>exact Ai.AX hp h
  | str s=>exact Ai.AX hp h
  | sl l=>exact Ai.AX hp h
  | sln l=>exact Ai.AX hp h
  | Cc=>exact Ai.AX hp h
  | usl _ _ _=>exact h
  | agg _=>exact h
  | tup _=>exact h
  | box _=>exact h
  | cbx _ _=>exact h
  | cnd _ _=>exact h
theorem GH {α β :Type} {f: α ->List β} {l:List α} {d: α} {j:Nat} (hj:j<l.length) {x: β} (hx:x∈f (l.getD j d)):x∈l.flatMap f:=by grind
theorem T1.step {O O':Own} {Aa objs':List (Nat×Obj)} {m m':Nat->Value} {w w':World} {Nw:Nat->Prop} (hp:Di O w O' w') (he:F7 Aa m objs' m' Nw)
    {v:Value} {a:A} (hn: ∀ o∈a.AeF,¬ Nw o) (h:T1 O Aa m w v a):T1 O' objs' m' w' v a:=by
  cases a with
  | agg cs =>
    obtain⟨vs,h1,h2,h3⟩:=h
    exact⟨vs,h1,h2,fun j hj=>(h3 j hj).step hp he fun o ho=>hn o (GH hj ho)⟩
  | cnd g a=>exact h
  | _ =>
    simp only[T1]at h ⊢
    refine Aw.step hp he ?_ h
    exact hn
theorem Ar.step {O O':Own} {Aa objs':List (Nat×Obj)} {m m':Nat->Value} {w w':World} {Nw:Nat->Prop} (hp:Di O w O' w') (he:F7 Aa m objs' m' Nw)
    {v:Value} {a:A} (hn: ∀ o∈a.ids,¬ Nw o) (h:Ar O Aa m w v a):Ar O' objs' m' w' v a:=by
  cases a with
  | undef=>trivial
  | tup l =>
    obtain⟨vs,h1,h2,h3⟩:=h
    exact⟨vs,h1,h2,fun j hj=>(h3 j hj).step hp he fun o ho=>hn o (GH hj ho)⟩
  | cnd g a =>
    refine⟨fun hg=> ?_,h.2⟩
    have h':=h.1 hg
    cases a with
    | cnd _ _=>exact h'
    | _=>exact T1.step hp he hn h'
  | _ =>
    simp only[Ar]at h ⊢
    refine T1.step hp he ?_ h
    exact hn
theorem Ee.step {O O':Own} {w w':World} {T:Nat->Prop} (hm:Moves O T w w') (hp:Passes O O' T w.heap.size) {o:Nat} {v:Value} {l:Mp} (ho: ¬ T o) (h:Ee O w o v l):Ee O' w' o v l:=by
  obtain⟨r,es,ck,h1,h2,h3,h4,h5⟩:=h
  have hr:r<w.heap.size:=(Array.getElem?_eq_some_iff.1 h2).1
  refine⟨r,es,ck,h1,?_,hp.keep _ _ _ hr h3 ho,h4,fun i p hip=> ?_⟩
  ·rcases hm.blk r hr with he | ⟨c,c',e,fr,g1,_⟩ | ⟨es1,ck1,es',ck',o',g1,g2,g3,g4⟩
   all_goals grind
  ·obtain⟨e,k1,k2,k3⟩:=h5 i p hip
   exact⟨e,k1,k2.AX (hm.AX hp),k3.AX (hm.AX hp)⟩
theorem BL.step {O O':Own} {Aa objs':List (Nat×Obj)} {m m':Nat->Value} {w w':World} {Nw T:Nat->Prop} (hm:Moves O T w w') (hp:Passes O O' T w.heap.size) (he:F7 Aa m objs' m' Nw)
    {o:Nat} {x:Obj} (ho: ¬ T o) (hmo:m' o=m o) (hn: ∀ i∈x.ids,¬ Nw i) (h:BL O Aa m w o x):BL O' objs' m' w' o x:=by
  have hpr:=hm.AX hp
  cases x with
  | box cs =>
    obtain⟨b,base,h1,h2⟩:=h
    refine⟨b,base,by rw[hmo];exact h1,fun j hj=> ?_⟩
    obtain⟨h3,h4,u,h5,h6⟩:=h2 j hj
    have hb:=cell_lt h5
    refine⟨hp.keep _ _ _ hb h3 ho,by rw[hm.frozen hb];exact h4,u,?_,h6.step hpr he fun i hi=>hn i (GH hj hi)⟩
    rw[hm.cell hb (fun o' ho'=>by rw[h3]at ho';injection ho' with ho';subst ho';exact ho)];exact h5
  | arr e frz l =>
    obtain⟨h0,h⟩:=h
    refine⟨h0,?_⟩
    rcases h with ⟨h1,h2,h3⟩ | ⟨h1,g,cap,cur,h2,h3,h4,h5,h6,h7,h8,h9⟩
    ·grind
    ·refine .inr ⟨h1,g,cap,cur,by rw[hmo];exact h2,?_,h4,h5,h6,?_,?_,?_⟩
     ·have hg:g<w.heap.size:=h3.lt
      rcases hm.blk g hg with hE | ⟨c,c',e',fr,hA,hB,hC,hD,k,o',hk,hK,hT⟩ | ⟨es1,ck1,es',ck',o',g1,_⟩
      ·exact h3.same hE
      ·obtain⟨fr0,h3,_⟩:=h3
       all_goals grind
      ·obtain⟨fr0,h3,_⟩:=h3
       rw[h3]at g1;injection g1 with g1;cases g1
     ·intro i j hi hj
      obtain⟨u,hu,hr⟩:=h7 i j hi hj
      exact⟨u,hu,hr.AX hpr⟩
     ·intro k hk hge
      have hg:g<w.heap.size:=h3.lt
      exact hp.keep _ _ _ hg (h8 k hk hge) ho
     ·intro k hk
      have hg:g<w.heap.size:=h3.lt
      have:=h9 k hk
      cases frz
      ·simp at this ⊢;exact hp.keep _ _ _ hg this ho
      ·simp at this ⊢;exact hp.none _ _ hg this
  | mp l =>
    have h:Ee O w o (m o) l:=h
    show Ee O' w' o (m' o) l
    rw[hmo];exact h.step hm hp ho
theorem Jc (a b:Nat):Nat.beq a b=decide (a=b):=by
  cases h:Nat.beq a b with
  | true=>simp_all
  | false=>simp [Nat.ne_of_beq_eq_false h]
theorem CB (q:Nat) (x:Obj) (r:List (Nat×Obj)) (k:Nat):Af ((q,x)::r) k=if q=k then some x else Af r k:=by grind[Af,Jc]
theorem Xh (q:Nat) (x:Obj) (r:List (Nat×Obj)) (n:Nat):Gp ((q,x)::r) n=if q=n then Gp r n else(q,x)::Gp r n:=by grind[Gp,Jc]
theorem Ro (l:List (Nat×Obj)) (n k:Nat):Af (Gp l n) k=if k=n then none else Af l k:=by
  induction l with
  | nil=>simp [Gp,Af]
  | cons p r ih=>grind[Xh,CB]
theorem AcH (l:List (Nat×Obj)) (n:Nat) (y:Obj) (k:Nat) (hn:Af l n=none):Af (NM l n y) k=if k=n then some y else Af l k:=by
  induction l with
  | nil=>grind[NM,CB]
  | cons p r ih=>grind[CB,NM]
theorem Bi (l:List (Nat×Obj)) (n:Nat) (y:Obj) (k:Nat):Af (BP l n y) k=if k=n then some y else Af l k:=by grind[BP,AcH,Ro]
theorem GU (d:List Nat): ∀(l:List (Nat×Obj)) (k:Nat),Af (Bf l d) k=if k∈d then none else Af l k:=by
  induction d with
  | nil=>grind[Bf]
  | cons n r ih=>grind[Bf,Ro]
theorem Cm (u:List (Nat×Obj)): ∀(l:List (Nat×Obj)) (k:Nat),(∀ p∈u,p.1≠k)->Af (Aq l u) k=Af l k:=by
  induction u with
  | nil=>intro l k _;rfl
  | cons p r ih=>grind[Aq,Bi]
theorem DN (u:List (Nat×Obj)): ∀(l:List (Nat×Obj)) (k:Nat),(∃ p∈u,p.1=k)-> ∃ x,(k,x)∈u/\Af (Aq l u) k=some x:=by
  induction u with
  | nil=>grind
  | cons p r ih =>
    obtain⟨n,x⟩:=p
    intro l k h
    by_cases hr: ∃ p∈r,p.1=k
    ·obtain⟨y,hy,he⟩:=ih (BP l n x) k hr
     exact⟨y,List.mem_cons_of_mem _ hy,he⟩
    ·grind[Aq,Cm,Bi]
end Go.Proofs.YtbaomhegdndpnaaGreatDoor.Vm
namespace Go.Proofs.YtbaomhegdndpnaaGreatDoor.Vm
structure IV (P:Program) (t:Nat) (ti:TI):Prop where
  d:P.underlying t=some ti.d
  ck:D7 P 20 t=some ti.cs
  cmp:ti.cmp=Ab0 P t ti.d
  i: ∃ i z,P.info? t=some i/\i.size=ti.cs.length/\i.bytes=ti.bytes/\i.zero=some z/\Bq z.cells.toList ti.cs=true/\KE ti.d=Qx z
theorem AfQ {P:Program} {t:Nat} {ti:TI} (h:AcB P t=some ti):IV P t ti:=by
  unfold AcB at h
  split at h
  ·rename_i d i cs hd hi hc
   split at h
   ·rename_i z hz
    cases hb:(Nat.beq i.size cs.length&&Bq z.cells.toList cs&&(KE d==Qx z))with
    | false=>rw[hb]at h;cases h
    | true =>
      rw[hb]at h
      injection h with h
      subst h
      simp only[Bool.and_eq_true]at hb
      exact⟨hd,hc,rfl,i,z,hi,Nat.eq_of_beq_eq_true hb.1.1,rfl,hz,hb.1.2,by simpa using hb.2⟩
   ·cases h
  ·cases h
def TOk (P:Program) (C:Ctx):Prop:= ∀ t ti,C.T t=some ti->AcB P t=some ti
theorem TOk.is {P:Program} {C:Ctx} (h:TOk P C) {t:Nat} {ti:TI} (ht:C.T t=some ti):IV P t ti:=AfQ (h t ti ht)
section
variable {P:Program} {t:Nat} {ti:TI} (w:World)
theorem IV.run (h:IV P t ti):(underlying t).run P w= .ok ti.d w:=run_underlying h.d w
theorem IV.Em (h:IV P t ti):(sizeOf t).run P w= .ok ti.cs.length w:=by
  obtain⟨i,z,h1,h2,_⟩:=h.i
  simp [sizeOf,typeInfo,h1,h2]
theorem IV.zA (h:IV P t ti):(isAgg t).run P w= .ok ti.agg w:=by
  simp only[isAgg,Sem.run_bind,h.run,Result.andThen_ok,TI.agg]
  cases ti.d<;>rfl
theorem fC (ti:TI):ti.agg=KE ti.d:=by grind[TI.agg,KE]
end
def Ak (l:List Bool):Prop:= ∀ b∈l,b=true
theorem H6 {α :Type} {l:List Bool} {r:Option α} {x: α} (h:allT l r=some x):Ak l/\r=some x:=by
  induction l with
  | nil=>grind[allT,Ak]
  | cons c cs ih=>grind[allT,Ak]
theorem Ak.append {a b:List Bool} (h:Ak (a++b)):Ak a/\Ak b:=by simp_all[Ak]
theorem Ak.cons {c:Bool} {a:List Bool} (h:Ak (c::a)):c=true/\Ak a:=by simp_all[Ak]
theorem Ak.nil:Ak []:=fun _ h=>by cases h
theorem Az: ¬ Ak Dl.no.ok:=by simp_all[Dl.no,Ak]
section
variable {P:Program} {C:Ctx} {O:Own} {Aa:List (Nat×Obj)} {m:Nat->Value} {a:Act} {w:World} {o:Oper}
theorem Aw.toT {v:Value} {x:A} (h:Aw O Aa m w v x):Ar O Aa m w v x:=by cases x<;>first | trivial | exact h | exact h.elim
theorem T1.toT {v:Value} {x:A} (h:T1 O Aa m w v x):Ar O Aa m w v x:=by cases x<;>first | trivial | exact h | exact h.elim
structure Pure (P:Program) (O:Own) (Aa:List (Nat×Obj)) (m:Nat->Value) (a:Act) (w:World) (o:Oper) (δ :Dl):Prop where
  run: ∃ v,(execOp a.eval o).run P w= .ok (.value v) w/\Ar O Aa m w v δ.val
  new: δ.new=[]
  upd: δ.upd=[]
  del: δ.del=[]
theorem Ar.int {v:Value} {k:IntKind} {n:Int} (h:Ar O Aa m w v (.int k n)):v= .int k n:=by cases h;rfl
theorem Ar.bool {v:Value} {b:Bool} (h:Ar O Aa m w v (.bool b)):v= .bool b:=by cases h;rfl
theorem Ar.str {v:Value} {s:List UInt8} (h:Ar O Aa m w v (.str s)): ∃ b:ByteArray,v= .string b/\b.data.toList=s:=by cases h;exact⟨_,rfl,rfl⟩
theorem Ar.mkInt (k:IntKind) (n:Int):Ar O Aa m w (.int k n) (.int k n):=Ai.int k n
theorem Ar.Fp (b:Bool):Ar O Aa m w (.bool b) (.bool b):=Ai.bool b
theorem Ar.mkStr (s:ByteArray) {l:List UInt8} (h:s.data.toList=l):Ar O Aa m w (.string s) (.str l):=by subst h;exact Ai.str s
theorem Sv (s:ByteArray):s.toList=s.data.toList:=ByteArray.toList_eq s
theorem GX (s:ByteArray):s.size=s.data.toList.length:=by rw[Array.length_toList];rfl
theorem qM {x:Operand} (ho:o.op= .move x\/o.op= .assign x) {y:A} (hx:Ar O Aa m w (a.eval x) y):Pure P O Aa m a w o (.v y):=by
  refine⟨⟨a.eval x,?_,hx⟩,rfl,rfl,rfl⟩
  rcases ho with ho | ho<;>simp [execOp,ho]
theorem VR {v:Value} {x:A} (h:Ar O Aa m w v x) (hg:x.Et.1=true):Ar O Aa m w v x.Et.2:=by
  cases x with
  | cnd g y =>
    have:=h.1 hg
    cases y<;>first | trivial | exact this | exact this.elim
  | _=>exact h
theorem AdK {c x y:Operand} (ho:o.op= .pick c x y) {c' x' y':A} (hc:Ar O Aa m w (a.eval c) c') (hx:Ar O Aa m w (a.eval x) x') (hy:Ar O Aa m w (a.eval y) y')
    (hok:Ak (vH c' x' y').ok):Pure P O Aa m a w o (vH c' x' y'):=by
  obtain⟨h0,h1⟩:=hok.cons
  obtain⟨h1,h2⟩:=h1.cons
  obtain⟨h2,h3⟩:=h2.cons
  have h3:=h3.cons.1
  refine⟨?_,rfl,rfl,rfl⟩
  have hc':=VR hc h0
  unfold vH
  simp only[Dl.g]
  generalize c'.Et.2=cc at *
  obtain⟨q,rfl⟩: ∃ q,cc= .bool q:=by cases cc<;>simp [A.isB]at h1;exact⟨_,rfl⟩
  have:=hc'.bool
  cases q with
  | true =>
    simp only[A.toB,cond_true]at h2 h3 ⊢
    have hx':=VR hx h2
    generalize x'.Et.2=xx at *
    cases xx<;>simp [A.isB]at h3
    exact⟨a.eval x,by simp [execOp,ho,asBool,this],hx'⟩
  | false =>
    simp only[A.toB,cond_false]at h2 h3 ⊢
    have hy':=VR hy h2
    generalize y'.Et.2=yy at *
    cases yy<;>simp [A.isB]at h3
    exact⟨a.eval y,by simp [execOp,ho,asBool,this],hy'⟩
theorem Ff {j k:IntKind} (h:A.kEq j k=true):j=k:=by cases j<;>cases k<;>first | rfl | cases h
theorem Aep {op:BinOp} {k:IntKind} {x y:Int} (hok:Ak (Xk op k x y).ok) (t:TypeId) (hop:op≠ .shl) (hop':op≠ .shr) :
    ∃ v,(binOp op t (.int k x) (.int k y)).run P w= .ok v w/\Ar O Aa m w v (Xk op k x y).val/\(Xk op k x y).new=[]/\(Xk op k x y).upd=[]/\(Xk op k x y).del=[]:=by
  have ha: ∀ op,op= .add\/op= .sub\/op= .mul->binOp op t (.int k x) (.int k y)=Op.intArith op k x y:=by
    rintro op (rfl | rfl | rfl)<;>simp [binOp]
  have hd: ∀ op,op= .quo\/op= .rem->binOp op t (.int k x) (.int k y)=Op.intDiv op k x y:=by
    rintro op (rfl | rfl)<;>simp [binOp]
  have hb: ∀ op,op= .and\/op= .or\/op= .xor\/op= .andNot->binOp op t (.int k x) (.int k y)=Op.intBits op k x y:=by
    rintro op (rfl | rfl | rfl | rfl)<;>simp [binOp]
  have hc: ∀ op,op= .eql\/op= .neq\/op= .lss\/op= .leq\/op= .gtr\/op= .geq->binOp op t (.int k x) (.int k y)=Op.intCmp op x y:=by
    rintro op (rfl | rfl | rfl | rfl | rfl | rfl)<;>simp [binOp]
  cases op with
  | shl=>exact absurd rfl hop
  | shr=>exact absurd rfl hop'
  | add=>rw[ha _ (by simp)];exact⟨_,rfl,.mkInt _ _,rfl,rfl,rfl⟩
  | sub=>rw[ha _ (by simp)];exact⟨_,rfl,.mkInt _ _,rfl,rfl,rfl⟩
  | mul=>rw[ha _ (by simp)];exact⟨_,rfl,.mkInt _ _,rfl,rfl,rfl⟩
  | quo =>
    have h0:y≠0:=by simpa [Xk,Dl.g]using hok.cons.1
    rw[hd _ (by simp)]
    exact⟨.int k (k.wrap (x.tdiv y)),by simp [Op.intDiv,h0],.mkInt _ _,rfl,rfl,rfl⟩
  | rem =>
    have h0:y≠0:=by simpa [Xk,Dl.g]using hok.cons.1
    rw[hd _ (by simp)]
    exact⟨.int k (x.tmod y),by simp [Op.intDiv,h0],.mkInt _ _,rfl,rfl,rfl⟩
  | and=>rw[hb _ (by simp)];exact⟨_,rfl,.mkInt _ _,rfl,rfl,rfl⟩
  | or=>rw[hb _ (by simp)];exact⟨_,rfl,.mkInt _ _,rfl,rfl,rfl⟩
  | xor=>rw[hb _ (by simp)];exact⟨_,rfl,.mkInt _ _,rfl,rfl,rfl⟩
  | andNot=>rw[hb _ (by simp)];exact⟨_,rfl,.mkInt _ _,rfl,rfl,rfl⟩
  | eql=>rw[hc _ (by simp)];exact⟨_,rfl,.Fp _,rfl,rfl,rfl⟩
  | neq=>rw[hc _ (by simp)];exact⟨_,rfl,.Fp _,rfl,rfl,rfl⟩
  | lss=>rw[hc _ (by simp)];exact⟨_,rfl,.Fp _,rfl,rfl,rfl⟩
  | leq=>rw[hc _ (by simp)];exact⟨_,rfl,.Fp _,rfl,rfl,rfl⟩
  | gtr=>rw[hc _ (by simp)];exact⟨_,rfl,.Fp _,rfl,rfl,rfl⟩
  | geq=>rw[hc _ (by simp)];exact⟨_,rfl,.Fp _,rfl,rfl,rfl⟩
theorem Aeq {op:BinOp} {x y:ByteArray} {x' y':List UInt8} (hx:x.data.toList=x') (hy:y.data.toList=y') (hok:Ak (Xl op x' y').ok) (t:TypeId) :
    ∃ v,(binOp op t (.string x) (.string y)).run P w= .ok v w/\Ar O Aa m w v (Xl op x' y').val/\(Xl op x' y').new=[]/\(Xl op x' y').upd=[]/\(Xl op x' y').del=[]:=by
  subst hx hy
  have hs: ∀ op,op≠ .shl->op≠ .shr->binOp op t (.string x) (.string y)=Op.stringOp op x y:=by
    intro op _ _;cases op<;>rfl
  cases op<;>first
    | exact(Az hok).elim
    | (rw [hs _ (by simp) (by simp)]
       refine⟨_,rfl,?_,rfl,rfl,rfl⟩
       simp only[Xl,Dl.v,Sv,bytesLess]
       exact .Fp _)
    | (have h0:x.data.toList.length+y.data.toList.length<=140737488355328:=by simpa [Xl,Dl.g]using hok.cons.1
       rw[hs _ (by simp) (by simp)]
       refine⟨.string (x++y),?_,?_,rfl,rfl,rfl⟩
       ·have: ¬(((x.size+y.size:Nat):Int)>IntKind.i64.max):=by
          rw[<- GX,<- GX]at h0
          rw[show IntKind.i64.max=9223372036854775807 from rfl];omega
        simp only[Op.stringOp,this,if_false];rfl
       ·exact .mkStr _ (Go.Joins.data_append x y))
end
