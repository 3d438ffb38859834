import Derived.Test.YtbgjmioccbacdaaGreatDoorA1
import Derived.WalkKit
import Derived.Laws.IdiomCopy
import Derived.Laws.Cells
import Derived.Laws.Rows
import Derived.Laws.IdiomStrings
import Derived.Deep.MidRow
import Derived.ChangeKeysEq
import Derived.Lib.SmallJoins
import Derived.Lib.IndexBytes
import Derived.Laws.Cover3
import Derived.Laws.Pointers
import Derived.Laws.StructEq
set_option linter.all false
namespace Go.Proofs.YtbgjmioccbacdaaGreatDoor.Vm
def Kz (o:Oper) (st:St):List A:=(KU o.op (o.op.operands.toList.map (KP st.tmps))).2
def jA:Op->List A->Bool
 | .move _,_=>true
 | .assign _,_=>true
 | .load _ _,[.clo _ _]=>true
 | _,_=>false
def XU:Op->List A->Option Nat
 | .nilCheck _,[.ptr o _]=>some o
 | .fieldAddr _ _ _,[.ptr o _]=>some o
 | .load _ _,[.ptr o _]=>some o
 | _,_=>none
def LH (o:Oper) (st:St) (vs:List A):List Nat:=bif jA o.op vs then []else match XU o.op vs with
 | some q=>[q]
 | none=>vs.flatMap A.ids++(fetch st.Jp (vs.flatMap A.ids)).flatMap (fun p=>p.2.ids)
def oneOf (C:Ctx):Op->List A->Option (Nat×Nat×Nat)
 | .nilCheck _,[.ptr o _]=>some (o,0,0)
 | .fieldAddr _ _ _,[.ptr o _]=>some (o,0,0)
 | .load t _,[.ptr o off]=>match C.T t with
  | some ti=>bif Nat.blt 0 ti.cs.length then some (o,off,ti.cs.length)else none
  | none=>none
 | _,_=>none
structure Lm where
 o:Oper
 δ :Dl
 rd:List Nat
 one:Option (Nat×Nat×Nat)
 anc:List Nat
def Lm.news (x:Lm):List Nat:=x.δ.new.map (·.1)
def Lm.keys (x:Lm):List Nat:=x.δ.upd.map (·.1)++x.δ.del++x.news
def Lm.says (x:Lm):List Nat:=x.δ.val.ids++x.δ.upd.flatMap (fun p=>p.2.ids)++x.δ.new.flatMap (fun p=>p.2.ids)
def Uo (a b:List Nat):Bool:=a.all (fun n=> !(has b n))
def slotsOf (ops:List Oper) (o:Oper):List Nat :=
 (o.op.operands.toList.filterMap fun | .tmp t=>some t | _=>none) ++
 (match o.guard with
  | some (g,_)=>match ops[g]? with
   | some x=>match x.dst with | some t=>[t] | none=>[]
   | none=>[]
  | none=>[])
def Y1 (o:Oper):List Nat:=match o.dst with | some d=>[d] | none=>[]
def calm (x y:Lm):Bool:=match x.one with
 | none=>false
 | some (q,off,n)=> !(has x.keys q)&&(!(has y.δ.del q)&&(!(has y.news q)&&(y.δ.same.any (fun e=>Nat.beq e.1 q)&&(List.range n).all (fun k=>y.δ.same.any (fun e=>Nat.beq e.1 q&&Nat.beq e.2 (off+k))))))
def indep (ops:List Oper) (x y:Lm):Bool :=
 Uo (Y1 x.o) (Y1 y.o)&&Uo (Y1 x.o) (slotsOf ops y.o)&&Uo (Y1 y.o) (slotsOf ops x.o) &&
 Uo x.keys y.rd&&(Uo y.keys x.rd||calm x y)&&Uo x.keys y.keys&&Uo x.news y.says
def YU (ops:List Oper) (i:Nat) (x y:Lm):Bool:=Uo y.news x.says&&Uo y.news x.keys&&(has y.anc i||indep ops x y)
def Xo (o:Oper):List Nat:=o.after.toList.filterMap fun e=>bif Region.binds .any e then some e.on else none
def Uw (C:Ctx) (ops:List Oper):List Oper->List (List Nat)->St->List Lm
 | [],_,_=>[]
 | o::r,acc,st=>match KE C ops o st,(Xo o).flatMap (fun e=>e::acc.getD e [])with
  | δ,an=>⟨o,δ,LH o st (Kz o st),oneOf C o.op (Kz o st),an⟩::Uw C ops r (acc++[an]) (apply st o δ)
def ZR (ops:List Oper):Nat->List Lm->Bool
 | _,[]=>true
 | i,x::r=>r.all (YU ops i x)&&ZR ops (i+1) r
def backward:Nat->List Oper->Bool
 | _,[]=>true
 | i,o::r=>o.after.toList.all (fun e=>Nat.blt e.on i)&&backward (i+1) r
def RQ:Nat->List Oper->Bool
 | _,[]=>true
 | i,o::r=>o.after.toList.all (fun e=> !(Region.binds .any e)||Nat.blt e.on i)&&RQ (i+1) r
def ranks (md:Region.Mode) (ops:List Oper):Nat->List Nat->List Nat
 | 0,r=>r
 | n+1,r=>ranks md ops n (ops.map fun o=>o.after.toList.foldl (fun m e=>bif Region.binds md e then(bif Nat.ble m (r.getD e.on 0)then r.getD e.on 0+1 else m)else m) 0)
def Yu (md:Region.Mode) (n:Nat) (rk:List Nat):Nat->List Oper->Bool
 | _,[]=>true
 | i,o::r=>o.after.toList.all (fun e=> !(Region.binds md e)||(Nat.blt e.on n&&Nat.blt (rk.getD e.on 0) (rk.getD i 0)))&&Yu md n rk (i+1) r
def Adc (md:Region.Mode) (ops:List Oper):Bool:=Yu md ops.length (ranks md ops ops.length (ops.map fun _=>0)) 0 ops
def ordered (ops:List Oper):Bool:=RQ 0 ops&&(backward 0 ops||(Adc .text ops&&Adc .gc ops&&Adc .any ops))
def sorted:List (Nat×Obj)->Bool
 | []=>true
 | [_]=>true
 | (n,_)::(k,y)::r=>Nat.blt n k&&sorted ((k,y)::r)
def Tu (C:Ctx) (ops:List Oper) (st:St):Bool :=
 match Uw C ops ops [] st with
 | fs=>ordered ops&&ZR ops 0 fs&&(fs.flatMap Lm.news).all st.fresh&&sorted st.Jp
def OI (f t:Nat):A->A
 | .ptr o off=>.ptr (bif Nat.beq o f then t else o) off
 | .own o=>.own (bif Nat.beq o f then t else o)
 | .clo g o=>.clo g (bif Nat.beq o f then t else o)
 | .bsl o n=>.bsl (bif Nat.beq o f then t else o) n
 | .osl o n=>.osl (bif Nat.beq o f then t else o) n
 | .Kq o i off=>.Kq (bif Nat.beq o f then t else o) i off
 | .agg cs=>.agg (cs.map fun
  | .ptr o off=>.ptr (bif Nat.beq o f then t else o) off
  | .own o=>.own (bif Nat.beq o f then t else o)
  | .clo g o=>.clo g (bif Nat.beq o f then t else o)
  | .bsl o n=>.bsl (bif Nat.beq o f then t else o) n
  | .osl o n=>.osl (bif Nat.beq o f then t else o) n
  | .Kq o i off=>.Kq (bif Nat.beq o f then t else o) i off
  | c=>c)
 | a=>a
def xK (f t:Nat):Obj->Obj
 | .box cs=>.box (cs.map (OI f t))
 | x=>x
def drop (keep:List Nat):List A->Nat->List A
 | [],_=>[]
 | a::r,i=>(bif has keep i then a else .undef)::drop keep r (i+1)
def xM (st:St):List (Nat×Nat)->Bool×St
 | []=>(true,st)
 | (f,t)::r=>match Jv st.Jp f with
  | some x=>match xM {tmps:=st.tmps.map (OI f t),Jp:=(L9 (SX st.Jp f) t x).map (fun p=>(p.1,xK f t p.2))} r with
   | (ok,st')=>((bif Nat.beq f t then true else st.fresh t)&&ok,st')
  | none=>xM st r
def Ahf (Jp:List (Nat×Obj)):List Nat->List (Nat×Obj)
 | []=>Jp
 | n::r=>match Jv Jp n with
  | some (.arr e _ l)=>Ahf (L9 Jp n (.arr e true l)) r
  | _=>Ahf Jp r
def Aow:Nat->List (Nat×Obj)->List Nat->List Nat
 | 0,_,l=>l
 | n+1,Jp,l=>l++Aow n Jp ((fetch Jp l).flatMap (fun p=>p.2.ids))
def reached (tmps:List A) (Jp:List (Nat×Obj)):List Nat:=Aow 4 Jp (tmps.flatMap A.ids++(Jp.map (·.1)).filter XF)
def kS:A->Bool | .Lj=>true | _=>false
def xP (id:Nat):List Nat->List A->List A
 | [],l=>l
 | t::r,l=>xP id r (l.set t (.own id))
def owns:List (List Nat×Nat×Ty×Nat)->St->Bool×St
 | [],st=>(true,st)
 | (ts,e,ty,id)::r,st=>bif ts.any (fun t=>kS (st.tmps.getD t .undef))then
     match owns r {tmps:=xP id ts st.tmps,Jp:=L9 st.Jp id (.arr e false ⟨ty,[]⟩)}with
     | (ok,st')=>(ts.all (fun t=>kS (st.tmps.getD t .undef)&&Nat.blt t st.tmps.length)&&st.fresh id&&ok,st')
  else owns r st
def pzs:List (Option Nat×Nat×Ty)->St->St
 | [],st=>st
 | (none,t,ty)::r,st=>match st.tmps.getD t .undef with
  | .Lj=>pzs r {st with tmps:=st.tmps.set t (.sl ⟨ty,[]⟩)}
  | .own o=>match Jv st.Jp o with
   | some (.arr e _ l)=>pzs r {tmps:=st.tmps.set t (.sl l),Jp:=L9 st.Jp o (.arr e true l)}
   | _=>pzs r st
  | _=>pzs r st
 | (some b,j,_)::r,st=>match Jv st.Jp b with
  | some (.box cs)=>match cs.getD j .undef with
   | .own o=>match Jv st.Jp o with
    | some (.arr e _ l)=>pzs r {st with Jp:=L9 (L9 st.Jp o (.arr e true l)) b (.box (cs.set j (.sl l)))}
    | _=>pzs r st
   | _=>pzs r st
  | _=>pzs r st
def norm (C:Ctx) (key:Nat) (st0:St):Bool×St :=
 match C.nrm key with
 | none=>(true,st0)
 | some n =>
  match pzs n.pz st0 with
  | st=>match xM {tmps:=drop n.keep st.tmps 0,Jp:=st.Jp.filter (fun p=>has (reached (drop n.keep st.tmps 0) st.Jp) p.1)} n.ren with
   | (ok,st')=>match owns n.nw st' with
    | (ok',st'')=>(ok&&ok',{st'' with Jp:=Ahf st''.Jp n.frz})
inductive Ex where
 | normal
 | exit (id:Nat)
def MJ:Code->Option Nat
 | .region id _ _=>some id
 | .seq a b=>match MJ a with | some n=>some n | none=>(MJ b).map (· +4096)
 | .cond _ a b=>match MJ a with | some n=>some n | none=>MJ b
 | .block _ c=>MJ c
 | .loop c=>MJ c
 | .scope c=>MJ c
 | _=>none
def Ue {ρ :Type} (C:Ctx) (key:Nat) (st:St) (K:St->Option ρ):Option ρ :=
 match norm C key st with
 | (ok,st')=>bif ok then K st' else none
def meet {ρ :Type} (C:Ctx) (kind:Nat) (c:Code) (st:St) (K:St->Option ρ):Option ρ :=
 match MJ c with
 | some n=>Ue C (4*n+kind) st K
 | none=>K st
def rounds {ρ :Type} (head:St->(St->Option ρ)->Option ρ) (body:St->(Ex->St->Option ρ)->Option ρ):Nat->St->(Ex->St->Option ρ)->Option ρ
 | 0,_,_=>none
 | n+1,st,K=>body st fun
  | .normal,st'=>head st' fun st''=>rounds head body n st'' K
  | .exit id,st'=>K (.exit id) st'
def Ab6:Nat:=(fun(_:Option Nat)=>0) (J4 (X:=Nat) (Y:=Nat) (fun _ _ _=>none) 0 0 (fun _=>none))
def peek (C:Ctx) (ops:List Oper) (s:Nat):List Oper->St->A
 | [],st=>(st.tmps.getD s .undef).Qr.2
 | o::r,st=>peek C ops s r (apply st o (KE C ops o st))
def split {α :Type} (C:Ctx) (id:Nat) (ops:List Oper) (st:St) (f:Ctx->Option α):Option α :=
 (fun(_:Nat)=>match C.spl id with
 | none=>f C
 | some (k,s,ds)=>match peek C ops s (ops.take k) st with
  | .bool b=>match b with
   | true=>f (C.decide ds true)
   | false=>f (C.decide ds false)
  | _=>none) Ab6
def ZJ {α :Type} {C:Ctx} {id:Nat} {ops:List Oper} {st:St} {f:Ctx->Option α} {v: α} (h:split C id ops st f=some v):(f C=some v\/ ∃ ds b,f (C.decide ds b)=some v)/\ ∀ f':Ctx->Option α,(∀ C',f C'=some v->f' C'=some v)->split C id ops st f'=some v:=by
 unfold split at h ⊢;dsimp only at h ⊢;cases hs:C.spl id with
 | none=>rw[hs]at h;exact⟨.inl h,fun f' hf=>hf C h⟩
 | some q =>
  obtain⟨k,s,ds⟩:=q;rw[hs]at h;dsimp only at h ⊢;generalize peek C ops s (ops.take k) st=x at h ⊢;cases x with
  | bool b=>cases b<;>exact⟨.inr ⟨_,_,h⟩,fun f' hf=>hf _ h⟩
  | _=>cases h
def exec {ρ :Type} (C:Ctx) (N:Nat) (fin:St->Option ρ):Code->St->(Ex->St->Option ρ)->Option ρ
 | .skip,st,K=>K .normal st
 | .region id ops false,st,K=>split C id ops.toList st fun C=>oK C ops.toList ops.toList st fun st'=>K .normal st'
 | .region id ops true,st,K=>split C id ops.toList st fun C=>bif Tu C ops.toList st then VE C ops.toList ops.toList st fun st'=>K .normal st' else none
 | .seq a b,st,K=>exec C N fin a st fun
  | .normal,st'=>meet C 1 b st' fun st''=>exec C N fin b st'' K
  | .exit id,st'=>K (.exit id) st'
 | .cond c a b,st,K=>match KP st.tmps c with
  | .bool t=>bif t then exec C N fin a st K else exec C N fin b st K
  | .cnd g (.bool t)=>bif g then bif t then exec C N fin a st K else exec C N fin b st K else none
  | _=>none
 | .block id c,st,K=>exec C N fin c st fun
  | .exit j,st'=>bif Nat.beq j id then K .normal st' else K (.exit j) st'
  | .normal,st'=>K .normal st'
 | .loop c,st,K=>meet C 2 c st fun st'=>rounds (meet C 2 c) (exec C N fin c) N st' K
 | .exit id,st,K=>Ue C (4*id+3) st fun st'=>K (.exit id) st'
 | .scope c,st,K=>exec C N fin c st K
 | .label _,st,K=>K .normal st
 | .ret,st,_=>fin st
 | _,_,_=>none
def Ty.MQ: ∀(t:Ty) (v:t.Val),(t.cells v).length=t.len
 | .nil,_=>rfl
 | .bool r,v=>by simp [Ty.cells,Ty.len,Ty.MQ r]
 | .int _ r,v=>by simp [Ty.cells,Ty.len,Ty.MQ r]
 | .str r,v=>by simp [Ty.cells,Ty.len,Ty.MQ r]
 | .sl _ _ r,v=>by simp [Ty.cells,Ty.len,Ty.MQ r]
 | .ptr r,v=>by simp [Ty.cells,Ty.len,Ty.MQ r v]
 | .fn r,v=>by simp [Ty.cells,Ty.len,Ty.MQ r]
 | .mp _ _ r,v=>by simp [Ty.cells,Ty.len,Ty.MQ r]
theorem Ty.Ql {α :Type} (r:Ty) (a: α) (b:r.Val):r.hd (r.mk2 a b)=a:=by cases r<;>rfl
theorem Ty.Qs {α :Type} (r:Ty) (a: α) (b:r.Val):r.tl (r.mk2 a b)=b:=by cases r<;>rfl
theorem Sl.KI (l:Sl):l.es.length=l.xs.length:=by simp [Sl.es]
def Sl.es_len (l:Sl): ∀ e∈l.es,e.length=l.sz:=by intro e he;obtain⟨v,_,rfl⟩:=DF.1 he;exact Ty.MQ _ _
def Sl.at_eq (l:Sl) {i:Nat} (h:i<l.xs.length):l.at i=l.es.getD i []:=by grind[Sl.at,Sl.es]
def Sl.AmD (l:Sl) (i:Nat):(l.at i).length=l.sz:=Ty.MQ _ _
theorem Sl.QQ {l:Sl} {t:Ty} {xs:List t.Val} (h:l.cast t=some xs):l=⟨t,xs⟩:=by
 unfold Sl.cast at h;split at h
 .rename_i e _;obtain⟨s,ys⟩:=l;all_goals grind
 .cases h
def Sl.YD (t:Ty) (xs:List t.Val):(⟨t,xs⟩:Sl).cast t=some xs:=by
 unfold Sl.cast;split
 .rfl
 .grind
theorem Mp.QQ {l:Mp} {kt vt:Ty} {xs:List (kt.Val×vt.Val)} (h:l.cast kt vt=some xs):l=⟨kt,vt,xs⟩:=by
 unfold Mp.cast at h;split at h
 .rename_i e _;obtain⟨k,v,ys⟩:=l;dsimp only at e;subst e;split at h;all_goals grind
 .cases h
def Mp.YD (kt vt:Ty) (xs:List (kt.Val×vt.Val)):(⟨kt,vt,xs⟩:Mp).cast kt vt=some xs:=by
 unfold Mp.cast;split
 .split
  .rfl
  .grind
 .grind
theorem A.Rq {j k:IntKind} (h:A.kEq j k=true):j=k:=by cases j<;>cases k<;>first | rfl | cases h
def Ty.SG: ∀(t:Ty) (cs:List A),(t.mk cs).1=true->t.cells (t.mk cs).2=cs:=by
 intro t
 induction t with
 | nil =>
  intro cs h;cases cs with
  | nil=>rfl
  | cons _ _=>simp [Ty.mk]at h
 | fn r ih=>grind[Ty.mk,Ty.cells,Ty.Ql,Ty.Qs]
 | mp kt vt r _ _ ih =>
  intro cs h;unfold Ty.mk at h ⊢;split at h
  .rename_i l cs;cases hc:l.cast kt vt with
   | none=>rw[hc]at h;simp at h
   | some xs=>grind[Ty.cells,Ty.Ql,Ty.Qs,Mp.QQ]
  .simp at h
 | bool r ih=>grind[Ty.mk,Ty.cells,Ty.Ql,Ty.Qs]
 | int k r ih=>grind[Ty.mk,Ty.cells,Ty.Ql,Ty.Qs,A.Rq]
 | str r ih=>grind[Ty.mk,Ty.cells,Ty.Ql,Ty.Qs]
 | sl e t r _ ih =>
  intro cs h;unfold Ty.mk at h ⊢;split at h
  .rename_i l cs;cases hc:l.cast t with
   | none=>rw[hc]at h;simp at h
   | some xs=>grind[Ty.cells,Ty.Ql,Ty.Qs,Sl.QQ]
  .simp at h
 | ptr r ih =>
  intro cs h;unfold Ty.mk at h ⊢;split at h
  .rename_i cs;show A.LP::r.cells (r.mk cs).2=_;rw[ih cs h]
  .simp at h
def Ty.Adz: ∀(ks:List CK),ks.all CK.plain=true->(tyl ks).cells (tyl ks).zero=ks.map CK.OZ:=by
 intro ks
 induction ks with
 | nil=>intro _;rfl
 | cons k ks ih=>grind[tyl,Ty.cells,Ty.Ql,Ty.Qs,CK.OZ,CK.zero,CK,CK.plain,cells,zero]
def V4 (ks:List CK):(tyl ks).len=ks.length:=by
 induction ks with
 | nil=>rfl
 | cons k ks ih=>cases k<;>simp [tyl,Ty.len,ih]
def Sl.AsZ (l:Sl) {i off:Nat} {cs:List A} (hi:i<l.xs.length) (h:(l.set i off cs).1=true):(l.set i off cs).2.es=l.es.set i (splice (l.es.getD i []) off cs):=by have:=Ty.SG _ _ h;rw[<- l.at_eq hi];all_goals simp_all[Sl.set,Sl.es,hi,splice]
def Sl.Ant (t:Ty) (xs ys:List t.Val):(⟨t,xs++ys⟩:Sl).es=(⟨t,xs⟩:Sl).es++(⟨t,ys⟩:Sl).es:=by simp [Sl.es]
def Sl.Anu (l:Sl) (a b:Nat):(⟨l.t,J6 l.xs a b⟩:Sl).es=J6 l.es a b:=by simp_all[Sl.es,J6]
def Sl.aS (ks:List CK) (n:Nat) (h:ks.all CK.plain=true):(⟨tyl ks,List.replicate n (tyl ks).zero⟩:Sl).es=List.replicate n (ks.map CK.OZ):=by simp [Sl.es,List.map_replicate,Ty.Adz ks h]
def Sl.Anv (t:Ty):(⟨t,[]⟩:Sl).es=[]:=rfl
def OH (P:Program):Nat->Nat->Option (List CK)
 | 0,_=>none
 | n+1,t=>match P.underlying t with
  | some .bool=>some [.bool]
  | some (.int k)=>some [.int k]
  | some .string=>some [.str]
  | some (.slice e)=>match OH P n e with
   | some cs=>bif cs.all CK.plain then some [.sl e (tyl cs)]else some [.oth]
   | none=>some [.oth]
  | some (.pointer _)=>some [.ptr]
  | some (.struct fs)=>fs.toList.foldr (fun f acc=>match OH P n f.type,acc with | some a,some b=>some (a++b) | _,_=>none) (some [])
  | some (.array m e)=>match OH P n e with
   | some a=>bif Nat.ble (m*a.length) 4096 then some ((List.replicate m a).flatten)else none
   | none=>none
  | some (.tuple _)=>none
  | some (.func _ _ _)=>some [.fn]
  | some _=>some [.oth]
  | none=>none
def KC:List Value->List CK->Bool
 | [],[]=>true
 | .bool false::vs,.bool::ks=>KC vs ks
 | .int k 0::vs,.int k'::ks=>A.kEq k k'&&KC vs ks
 | .string s::vs,.str::ks=>s.data.toList.isEmpty&&KC vs ks
 | .slice none 0 0::vs,.sl _ _::ks=>KC vs ks
 | .pointer none::vs,.ptr::ks=>KC vs ks
 | .nilFunc::vs,.fn::ks=>KC vs ks
 | v::vs,.oth::ks=>v.oneCell'&&KC vs ks
 | _,_=>false
def Xu:TypeDesc->Bool
 | .struct _ | .array _ _=>true
 | _=>false
def bD:Value->Bool
 | .agg _=>true
 | _=>false
def RY (P:Program):List Field->Nat->Option (List CK)
 | [],_=>some []
 | f::r,n=>match P.underlying f.type,RY P r (n+1)with
  | some .bool,some ks=>bif f.name != "_" &&Nat.beq f.offset n then some (.bool::ks)else none
  | some (.int k),some ks=>bif f.name != "_" &&Nat.beq f.offset n then some (.int k::ks)else none
  | some .string,some ks=>bif f.name != "_" &&Nat.beq f.offset n then some (.str::ks)else none
  | _,_=>none
def Agj (P:Program) (t:Nat):TypeDesc->List CK
 | .struct fs=>match RY P fs.toList 0 with
  | some ks=>bif !(P.stoodInHeld t)&& !(P.eqGuardType P.depth t)then ks else []
  | none=>[]
 | _=>[]
def Am1 (P:Program) (t:Nat):Option TI :=
 match P.underlying t,P.info? t,OH P 20 t with
 | some d,some i,some cs=>match i.zero with
  | some z=>bif Nat.beq i.size cs.length&&KC z.cells.toList cs&&(Xu d==bD z)then some ⟨d,cs,i.bytes,Agj P t d⟩else none
  | none=>none
 | _,_,_=>none
abbrev Own:=Nat->Nat->Option Nat
abbrev at' (b k:Nat):Addr:=⟨b,k,none⟩
inductive Jw (O:Own) (w:World):Value->A->Prop
 | bool (b:Bool):Jw O w (.bool b) (.bool b)
 | int (k:IntKind) (n:Int):Jw O w (.int k n) (.int k n)
 | str (s:ByteArray):Jw O w (.string s) (.str s.data.toList)
 | nil (t:Ty):Jw O w (.slice none 0 0) (.sl ⟨t,[]⟩)
 | sl {b off cap:Nat} {l:Sl} (vs:Nat->Nat->Value) (hc:l.es.length<=cap)
    (hm: ∀ i j,i<l.es.length->j<l.sz->O b (off+(i*l.sz+j))=none/\w.cell? (at' b (off+(i*l.sz+j)))=some (vs i j))
    (hr: ∀ i j,i<l.es.length->j<l.sz->Jw O w (vs i j) ((l.es.getD i []).getD j .undef)):Jw O w (.slice (some (at' b off)) l.es.length cap) (.sl l)
 | sln {v:Value} {l:Sl} (h:Jw O w v (.sl l)) (hn:l.xs=[]->v= .slice none 0 0):Jw O w v (.sln l)
 | LP:Jw O w (.pointer none) .LP
 | fn (f:Nat):Jw O w (.func (.func f) #[] #[]) (.fn (f+1))
 | eQ:Jw O w .nilFunc (.fn 0)
 | sl0 (a:Addr) (t:Ty):Jw O w (.slice (some a) 0 0) (.sl ⟨t,[]⟩)
def Nj (O:Own) (w:World) (O':Own) (w':World):Prop:= ∀ b k u,O b k=none->w.cell? (at' b k)=some u->O' b k=none/\w'.cell? (at' b k)=some u
def Inv (O:Own) (w:World):Prop:=(∀ g j p,iU g j=some p->O g j=none/\ ∃ v,w.cell? (at' g j)=some v/\p v)/\ ∀ g n,Aqw g=some n-> ∃ c e fr,w.heap[g]? =some (.cells c e fr)/\c.size=n
def Jw.JW {O O':Own} {w w':World} (hp:Nj O w O' w') {v:Value} {a:A} (h:Jw O w v a):Jw O' w' v a:=by
 induction h with
 | bool b=>exact .bool b
 | int k n=>exact .int k n
 | str s=>exact .str s
 | nil t=>exact .nil t
 | sl vs hc hm hr ih =>refine .sl vs hc (fun i j hi hj=> ?_) (fun i j hi hj=>ih i j hi hj);all_goals simp_all[hi,Own,Nj,Jw]
 | sln h hn ih=>exact .sln ih hn
 | LP=>exact .LP
 | fn f=>exact .fn f
 | eQ=>exact .eQ
 | sl0 a t=>exact .sl0 a t
inductive Shp where
 | box
 | arr (sz len:Nat)
 | mp
def Obj.shp:Obj->Shp
 | .box _=>.box
 | .arr _ _ l=>.arr l.sz l.es.length
 | .mp _=>.mp
def NJ (w:World) (g:Nat) (cur:Array Value) (e:TypeId):Prop:= ∃ fr,w.heap[g]? =some (.cells cur e fr)/\(fr=(0,0)\/cur.size<=fr.1)
def NJ.cell {w:World} {g:Nat} {cur:Array Value} {e:TypeId} (h:NJ w g cur e) (k:Nat):w.cell? (at' g k)=cur[k]? :=by obtain⟨fr,h1,_⟩:=h;simp [World.cell?,h1]
def NJ.frozen {w:World} {g:Nat} {cur:Array Value} {e:TypeId} (h:NJ w g cur e) {k:Nat} (hk:k<cur.size):w.frozen? (at' g k)=false:=by obtain⟨fr,h1,h2⟩:=h;simp only[World.frozen?,h1];all_goals grind
def NJ.lt {w:World} {g:Nat} {cur:Array Value} {e:TypeId} (h:NJ w g cur e):g<w.heap.size:=by grind[NJ]
theorem NJ.same {w w':World} {g:Nat} {cur:Array Value} {e:TypeId} (h:NJ w g cur e) (hb:w'.heap[g]? =w.heap[g]?):NJ w' g cur e:=by grind[NJ]
def NJ.inj {w:World} {g:Nat} {cur cur':Array Value} {e e':TypeId} (h:NJ w g cur e) (h':NJ w g cur' e'):cur=cur'/\e=e':=by grind[NJ]
def NT (O:Own) (w:World) (v:Value):A->Prop
 | .agg cs=> ∃ vs:Array Value,v= .agg vs/\vs.size=cs.length/\ ∀ j,j<cs.length->Jw O w (vs.getD j undef) (cs.getD j .undef)
 | a=>Jw O w v a
def NT.JW {O O':Own} {w w':World} (hp:Nj O w O' w') {v:Value} {a:A} (h:NT O w v a):NT O' w' v a:=by
 cases a with
 | agg cs=>obtain⟨vs,h1,h2,h3⟩:=h;exact⟨vs,h1,h2,fun j hj=>(h3 j hj).JW hp⟩
 | _=>exact Jw.JW hp h
def NU (O:Own) (w:World) (o:Nat) (v:Value) (l:Mp):Prop :=
 ∃ r es ck,v= .map (some r)/\w.heap[r]? =some (.map es ck)/\O r 0=some o/\es.size=l.l.length /\
  ∀(i:Nat) (p:l.kt.Val×l.vt.Val),l.l[i]? =some p-> ∃ e,es[i]? =some e/\NT O w e.key (PD (l.kt.cells p.1))/\NT O w e.val (PD (l.vt.cells p.2))
def AuF:Nat->Value->Value
 | 0,p=>p
 | f+1,p=>.func (.func f) #[] #[p]
def Zu (O:Own) (w:World) (k:Nat) (v p:Value):Prop:= ∃ b j,v=AuF k (.pointer (some (at' b j)))/\O b j=none/\w.cell? (at' b j)=some p
def Zu.JW {O O':Own} {w w':World} (hp:Nj O w O' w') {k:Nat} {v p:Value} (h:Zu O w k v p):Zu O' w' k v p:=by obtain⟨b,j,h1,h2,h3⟩:=h;exact⟨b,j,h1,hp _ _ _ h2 h3⟩
section
variable (O:Own) (Jp:List (Nat×Obj)) (m:Nat->Value) (w:World)
def JF (v:Value):A->Prop
 | .undef=>v.oneCell'=true
 | .Lj=>v= .slice none 0 0
 | .ptr o off=>v.oneCell'=true/\match (Jv Jp o).map Obj.shp with
  | some .box=> ∃ b base,m o= .pointer (some (at' b base))/\v= .pointer (some (at' b (base+off)))
  | _=>True
 | .own o=>v.oneCell'=true/\match (Jv Jp o).map Obj.shp with
  | some (.arr _ _)=>v=m o
  | some .mp=>v=m o
  | _=>True
 | .Kq o i off=>v.oneCell'=true/\match (Jv Jp o).map Obj.shp with
  | some (.arr sz len)=>i<len-> ∃ g n cap,m o= .slice (some (at' g 0)) n cap/\v= .pointer (some (at' g (i*sz+off)))
  | _=>True
 | .clo k o=>v.oneCell'=true/\ ∃ p,p.oneCell'=true/\Zu O w k v p/\match (Jv Jp o).map Obj.shp with
  | some .box=> ∃ b base,m o= .pointer (some (at' b base))/\p= .pointer (some (at' b base))
  | _=>True
 | .bsl o n=>v.oneCell'=true/\match (Jv Jp o).map Obj.shp with
  | some .box=> ∃ b base,m o= .pointer (some (at' b base))/\v= .slice (some (at' b base)) n n
  | _=>True
 | .osl o k=>v.oneCell'=true/\match (Jv Jp o).map Obj.shp with
  | some (.arr sz len)=>k<len-> ∃ g cap,m o= .slice (some (at' g 0)) len cap/\v= .slice (some (at' g (k*sz))) (len - k) (cap - k)
  | _=>True
 | .elt cs=> ∃ b off,v= .pointer (some (at' b off))/\ ∀ j,j<cs.length->O b (off+j)=none/\ ∃ u,w.cell? (at' b (off+j))=some u/\Jw O w u (cs.getD j .undef)
 | .fn f=>Jw O w v (.fn f)
 | .bool b=>Jw O w v (.bool b)
 | .int k n=>Jw O w v (.int k n)
 | .str s=>Jw O w v (.str s)
 | .sl l=>Jw O w v (.sl l)
 | .sln l=>Jw O w v (.sln l)
 | .LP=>Jw O w v .LP
 | _=>False
def T1 (v:Value):A->Prop
 | .agg cs=> ∃ vs:Array Value,v= .agg vs/\vs.size=cs.length/\ ∀ j,j<cs.length->JF O Jp m w (vs.getD j undef) (cs.getD j .undef)
 | a=>JF O Jp m w v a
def J8 (v:Value):A->Prop
 | .undef=>True
 | .tup l=> ∃ vs:Array Value,v= .tuple vs/\vs.size=l.length/\ ∀ j,j<l.length->T1 O Jp m w (vs.getD j undef) (l.getD j .undef)
 | .cnd g a=>(g=true->T1 O Jp m w v a)/\(g=false->v=undef)
 | a=>T1 O Jp m w v a
def KZ (o:Nat):Obj->Prop
 | .box cs=> ∃ b base,m o= .pointer (some (at' b base))/\ ∀ j,j<cs.length->O b (base+j)=some o/\w.frozen? (at' b (base+j))=false /\
  ∃ u,w.cell? (at' b (base+j))=some u/\JF O Jp m w u (cs.getD j .undef)
 | .arr e frz l=>(∀ x∈l.es,x.length=l.sz)/\((True/\l.es=[]/\m o= .slice none 0 0) \/
  (True/\ ∃ g cap cur,m o= .slice (some (at' g 0)) l.es.length cap/\NJ w g cur e/\l.es.length<=cap/\cap<=maxLen/\cur.size=cap*l.sz /\
    (∀ i j,i<l.es.length->j<l.sz-> ∃ u,cur[i*l.sz+j]? =some u/\Jw O w u ((l.es.getD i []).getD j .undef)) /\
    (∀ k,k<cur.size->l.es.length*l.sz<=k->O g k=some o)/\(∀ k,k<l.es.length*l.sz->O g k=if frz then none else some o)))
 | .mp l=>NU O w o (m o) l
end
structure Moves (O:Own) (T:Nat->Prop) (w w':World):Prop where
 os:w'.os=w.os
 tape:w'.tape=w.tape
 output:w'.output=w.output
 size:w.heap.size<=w'.heap.size
 blk: ∀ b,b<w.heap.size->w'.heap[b]? =w.heap[b]? \/(∃ c c' e fr,w.heap[b]? =some (.cells c e fr)/\w'.heap[b]? =some (.cells c' e fr)/\c'.size=c.size /\
  (∀ k,(∀ o,O b k=some o-> ¬ T o)->c'[k]? =c[k]?)/\ ∃ k o,k<c.size/\O b k=some o/\T o) \/
  ∃ es ck es' ck' o,w.heap[b]? =some (.map es ck)/\w'.heap[b]? =some (.map es' ck')/\O b 0=some o/\T o
def Moves.refl (O:Own) (T:Nat->Prop) (w:World):Moves O T w w:=⟨rfl,rfl,rfl,DW _,fun _ _=>.inl rfl⟩
def cell_lt {w:World} {b k:Nat} {u:Value} (h:w.cell? (at' b k)=some u):b<w.heap.size:=by
 rcases Ec b w.heap.size with hb | hb
 .exact hb
 .simp [World.cell?,FP hb]at h
def Moves.cell {O:Own} {T:Nat->Prop} {w w':World} (h:Moves O T w w') {b k:Nat} (hb:b<w.heap.size) (hk: ∀ o,O b k=some o-> ¬ T o) :
 w'.cell? (at' b k)=w.cell? (at' b k):=by
 rcases h.blk b hb with he | ⟨c,c',e,fr,h1,h2,_,h4,_⟩ | ⟨es,ck,es',ck',o,h1,h2,_,_⟩
 .simp [World.cell?,he]
 .simp [World.cell?,h1,h2,h4 k hk]
 .simp [World.cell?,h1,h2]
def Moves.frozen {O:Own} {T:Nat->Prop} {w w':World} (h:Moves O T w w') {b k:Nat} (hb:b<w.heap.size):w'.frozen? (at' b k)=w.frozen? (at' b k):=by
 rcases h.blk b hb with he | ⟨c,c',e,fr,h1,h2,_,_,_⟩ | ⟨es,ck,es',ck',o,h1,h2,_,_⟩
 .simp [World.frozen?,he]
 .simp [World.frozen?,h1,h2]
 .simp [World.frozen?,h1,h2]
structure Passes (O O':Own) (T:Nat->Prop) (n:Nat):Prop where
 none: ∀ b k,b<n->O b k=none->O' b k=none
 keep: ∀ b k o,b<n->O b k=some o-> ¬ T o->O' b k=some o
def Moves.JW {O O':Own} {T:Nat->Prop} {w w':World} (h:Moves O T w w') (hp:Passes O O' T w.heap.size):Nj O w O' w':=by intro b k u hn hc;have hb:=cell_lt hc;exact⟨hp.none b k hb hn,by rw[h.cell hb (fun o ho=>by rw[hn]at ho;cases ho)];exact hc⟩
def Rz (Jp:List (Nat×Obj)) (m:Nat->Value) (objs':List (Nat×Obj)) (m':Nat->Value) (Nw:Nat->Prop):Prop :=
 ∀ o x',Jv objs' o=some x'->Nw o\/ ∃ x,Jv Jp o=some x/\x.shp=x'.shp/\m' o=m o
def JF.step {O O':Own} {Jp objs':List (Nat×Obj)} {m m':Nat->Value} {w w':World} {Nw:Nat->Prop} (hp:Nj O w O' w') (he:Rz Jp m objs' m' Nw)
 {v:Value} {a:A} (hn: ∀ o∈a.Nc,¬ Nw o) (h:JF O Jp m w v a):JF O' objs' m' w' v a:=by
 have key: ∀ o,o∈a.Nc-> ∀ x',Jv objs' o=some x'-> ∃ x,Jv Jp o=some x/\x.shp=x'.shp/\m' o=m o :=
  fun o ho x' hx=>(he o x' hx).resolve_left (hn o ho)
 cases a with
 | undef=>exact h
 | Lj=>exact h
 | ptr o off =>
  simp only[JF]at *
  refine⟨h.1,?_⟩;have h:=h.2;cases hx:Jv objs' o with
  | none=>simp
  | some x' =>obtain⟨x,h1,h2,h3⟩:=key o (by simp [A.Nc]) x' hx;rw[h1]at h;simp only[Option.map_some,h2]at h;simp only[Option.map_some,h3];exact h
 | own o =>
  simp only[JF]at *
  refine⟨h.1,?_⟩;have h:=h.2;cases hx:Jv objs' o with
  | none=>simp
  | some x' =>obtain⟨x,h1,h2,h3⟩:=key o (by simp [A.Nc]) x' hx;rw[h1]at h;simp only[Option.map_some,h2]at h;simp only[Option.map_some,h3];exact h
 | Kq o i off =>
  simp only[JF]at *
  refine⟨h.1,?_⟩;have h:=h.2;cases hx:Jv objs' o with
  | none=>simp
  | some x' =>obtain⟨x,h1,h2,h3⟩:=key o (by simp [A.Nc]) x' hx;rw[h1]at h;simp only[Option.map_some,h2]at h;simp only[Option.map_some,h3];exact h
 | clo k o =>
  simp only[JF]at *
  obtain⟨h0,p,h4,h5,h⟩:=h;refine⟨h0,p,h4,h5.JW hp,?_⟩;cases hx:Jv objs' o with
  | none=>simp
  | some x' =>obtain⟨x,h1,h2,h3⟩:=key o (by simp [A.Nc]) x' hx;rw[h1]at h;simp only[Option.map_some,h2]at h;simp only[Option.map_some,h3];exact h
 | bsl o n =>
  simp only[JF]at *
  refine⟨h.1,?_⟩;have h:=h.2;cases hx:Jv objs' o with
  | none=>simp
  | some x' =>obtain⟨x,h1,h2,h3⟩:=key o (by simp [A.Nc]) x' hx;rw[h1]at h;simp only[Option.map_some,h2]at h;simp only[Option.map_some,h3];exact h
 | osl o n =>
  simp only[JF]at *
  refine⟨h.1,?_⟩;have h:=h.2;cases hx:Jv objs' o with
  | none=>simp
  | some x' =>obtain⟨x,h1,h2,h3⟩:=key o (by simp [A.Nc]) x' hx;rw[h1]at h;simp only[Option.map_some,h2]at h;simp only[Option.map_some,h3];exact h
 | elt cs =>obtain⟨b,off,hv,hc⟩:=h;refine⟨b,off,hv,fun j hj=> ?_⟩;obtain⟨h1,u,h2,h3⟩:=hc j hj;obtain⟨h4,h5⟩:=hp _ _ _ h1 h2;exact⟨h4,u,h5,h3.JW hp⟩
 | fn f=>exact Jw.JW hp h
 | ump _=>exact h
 | bool b=>exact Jw.JW hp h
 | int k n=>exact Jw.JW hp h
 | str s=>exact Jw.JW hp h
 | sl l=>exact Jw.JW hp h
 | sln l=>exact Jw.JW hp h
 | LP=>exact Jw.JW hp h
 | usl _ _ _=>exact h
 | agg _=>exact h
 | tup _=>exact h
 | box _=>exact h
 | cbx _ _=>exact h
 | cnd _ _=>exact h
def TP {α β :Type} {f: α ->List β} {l:List α} {d: α} {j:Nat} (hj:j<l.length) {x: β} (hx:x∈f (l.getD j d)):x∈l.flatMap f:=by grind
def T1.step {O O':Own} {Jp objs':List (Nat×Obj)} {m m':Nat->Value} {w w':World} {Nw:Nat->Prop} (hp:Nj O w O' w') (he:Rz Jp m objs' m' Nw)
 {v:Value} {a:A} (hn: ∀ o∈a.Ap7,¬ Nw o) (h:T1 O Jp m w v a):T1 O' objs' m' w' v a:=by
 cases a with
 | agg cs =>obtain⟨vs,h1,h2,h3⟩:=h;exact⟨vs,h1,h2,fun j hj=>(h3 j hj).step hp he fun o ho=>hn o (TP hj ho)⟩
 | cnd g a=>exact h
 | _ =>simp only[T1]at h ⊢;refine JF.step hp he ?_ h;exact hn
def J8.step {O O':Own} {Jp objs':List (Nat×Obj)} {m m':Nat->Value} {w w':World} {Nw:Nat->Prop} (hp:Nj O w O' w') (he:Rz Jp m objs' m' Nw)
 {v:Value} {a:A} (hn: ∀ o∈a.ids,¬ Nw o) (h:J8 O Jp m w v a):J8 O' objs' m' w' v a:=by
 cases a with
 | undef=>trivial
 | tup l =>obtain⟨vs,h1,h2,h3⟩:=h;exact⟨vs,h1,h2,fun j hj=>(h3 j hj).step hp he fun o ho=>hn o (TP hj ho)⟩
 | cnd g a =>
  refine⟨fun hg=> ?_,h.2⟩;have h':=h.1 hg;cases a with
  | cnd _ _=>exact h'
  | _=>exact T1.step hp he hn h'
 | _ =>simp only[J8]at h ⊢;refine T1.step hp he ?_ h;exact hn
def NU.step {O O':Own} {w w':World} {T:Nat->Prop} (hm:Moves O T w w') (hp:Passes O O' T w.heap.size) {o:Nat} {v:Value} {l:Mp} (ho: ¬ T o) (h:NU O w o v l):NU O' w' o v l:=by
 obtain⟨r,es,ck,h1,h2,h3,h4,h5⟩:=h;have hr:r<w.heap.size:=(DT.1 h2).1;refine⟨r,es,ck,h1,?_,hp.keep _ _ _ hr h3 ho,h4,fun i p hip=> ?_⟩
 .rcases hm.blk r hr with he | ⟨c,c',e,fr,g1,_⟩ | ⟨es1,ck1,es',ck',o',g1,g2,g3,g4⟩;all_goals grind
 .obtain⟨e,k1,k2,k3⟩:=h5 i p hip;exact⟨e,k1,k2.JW (hm.JW hp),k3.JW (hm.JW hp)⟩
def KZ.step {O O':Own} {Jp objs':List (Nat×Obj)} {m m':Nat->Value} {w w':World} {Nw T:Nat->Prop} (hm:Moves O T w w') (hp:Passes O O' T w.heap.size) (he:Rz Jp m objs' m' Nw)
 {o:Nat} {x:Obj} (ho: ¬ T o) (hmo:m' o=m o) (hn: ∀ i∈x.ids,¬ Nw i) (h:KZ O Jp m w o x):KZ O' objs' m' w' o x:=by
 have hpr:=hm.JW hp;cases x with
 | box cs =>obtain⟨b,base,h1,h2⟩:=h;refine⟨b,base,by rw[hmo];exact h1,fun j hj=> ?_⟩;obtain⟨h3,h4,u,h5,h6⟩:=h2 j hj;have hb:=cell_lt h5;refine⟨hp.keep _ _ _ hb h3 ho,by rw[hm.frozen hb];exact h4,u,?_,h6.step hpr he fun i hi=>hn i (TP hj hi)⟩;rw[hm.cell hb (fun o' ho'=>by rw[h3]at ho';injection ho' with ho';subst ho';exact ho)];exact h5
 | arr e frz l =>
  obtain⟨h0,h⟩:=h;refine⟨h0,?_⟩;rcases h with ⟨h1,h2,h3⟩ | ⟨h1,g,cap,cur,h2,h3,h4,h5,h6,h7,h8,h9⟩
  .grind
  .refine .inr ⟨h1,g,cap,cur,by rw[hmo];exact h2,?_,h4,h5,h6,?_,?_,?_⟩
   .have hg:g<w.heap.size:=h3.lt;rcases hm.blk g hg with hE | ⟨c,c',e',fr,hA,hB,hC,hD,k,o',hk,hK,hT⟩ | ⟨es1,ck1,es',ck',o',g1,_⟩
    .exact h3.same hE
    .obtain⟨fr0,h3,_⟩:=h3;all_goals grind
    .obtain⟨fr0,h3,_⟩:=h3;rw[h3]at g1;injection g1 with g1;cases g1
   .intro i j hi hj;obtain⟨u,hu,hr⟩:=h7 i j hi hj;exact⟨u,hu,hr.JW hpr⟩
   .intro k hk hge;have hg:g<w.heap.size:=h3.lt;exact hp.keep _ _ _ hg (h8 k hk hge) ho
   .intro k hk;have hg:g<w.heap.size:=h3.lt;have:=h9 k hk;cases frz
    .simp at this ⊢;exact hp.keep _ _ _ hg this ho
    .simp at this ⊢;exact hp.none _ _ hg this
 | mp l =>have h:NU O w o (m o) l:=h;show NU O' w' o (m' o) l;rw[hmo];exact h.step hm hp ho
theorem VC (a b:Nat):Nat.beq a b=decide (a=b):=by
 cases h:Nat.beq a b with
 | true=>simp_all
 | false=>simp [Nat.ne_of_beq_eq_false h]
theorem Ov (q:Nat) (x:Obj) (r:List (Nat×Obj)) (k:Nat):Jv ((q,x)::r) k=if q=k then some x else Jv r k:=by grind[Jv,VC]
theorem sN (q:Nat) (x:Obj) (r:List (Nat×Obj)) (n:Nat):SX ((q,x)::r) n=if q=n then SX r n else(q,x)::SX r n:=by grind[SX,VC]
theorem dN (l:List (Nat×Obj)) (n k:Nat):Jv (SX l n) k=if k=n then none else Jv l k:=by
 induction l with
 | nil=>simp [SX,Jv]
 | cons p r ih=>grind[sN,Ov]
theorem Am9 (l:List (Nat×Obj)) (n:Nat) (y:Obj) (k:Nat) (hn:Jv l n=none):Jv (YY l n y) k=if k=n then some y else Jv l k:=by
 induction l with
 | nil=>grind[YY,Ov]
 | cons p r ih=>grind[Ov,YY]
theorem Ky (l:List (Nat×Obj)) (n:Nat) (y:Obj) (k:Nat):Jv (L9 l n y) k=if k=n then some y else Jv l k:=by grind[L9,Am9,dN]
def Ui (d:List Nat): ∀(l:List (Nat×Obj)) (k:Nat),Jv (Kw l d) k=if k∈d then none else Jv l k:=by
 induction d with
 | nil=>grind[Kw]
 | cons n r ih=>grind[Kw,dN]
theorem MI (u:List (Nat×Obj)): ∀(l:List (Nat×Obj)) (k:Nat),(∀ p∈u,p.1≠k)->Jv (JC l u) k=Jv l k:=by
 induction u with
 | nil=>intro l k _;rfl
 | cons p r ih=>grind[JC,Ky]
def OO (u:List (Nat×Obj)): ∀(l:List (Nat×Obj)) (k:Nat),(∃ p∈u,p.1=k)-> ∃ x,(k,x)∈u/\Jv (JC l u) k=some x:=by
 induction u with
 | nil=>grind
 | cons p r ih =>
  obtain⟨n,x⟩:=p;intro l k h;by_cases hr: ∃ p∈r,p.1=k
  .obtain⟨y,hy,he⟩:=ih (L9 l n x) k hr;exact⟨y,Dy _ hy,he⟩
  .grind[JC,MI,Ky]
structure V8 (P:Program) (t:Nat) (ti:TI):Prop where
 d:P.underlying t=some ti.d
 ck:OH P 20 t=some ti.cs
 cmp:ti.cmp=Agj P t ti.d
 i: ∃ i z,P.info? t=some i/\i.size=ti.cs.length/\i.bytes=ti.bytes/\i.zero=some z/\KC z.cells.toList ti.cs=true/\Xu ti.d=bD z
def Asx {P:Program} {t:Nat} {ti:TI} (h:Am1 P t=some ti):V8 P t ti:=by
 unfold Am1 at h;split at h
 .rename_i d i cs hd hi hc;split at h
  .rename_i z hz;cases hb:(Nat.beq i.size cs.length&&KC z.cells.toList cs&&(Xu d==bD z))with
   | false=>rw[hb]at h;cases h
   | true =>rw[hb]at h;injection h with h;subst h;simp only[Dq]at hb;exact⟨hd,hc,rfl,i,z,hi,Dp hb.1.1,rfl,hz,hb.1.2,by simpa using hb.2⟩
  .cases h
 .cases h
def TOk (P:Program) (C:Ctx):Prop:= ∀ t ti,C.T t=some ti->Am1 P t=some ti
def TOk.is {P:Program} {C:Ctx} (h:TOk P C) {t:Nat} {ti:TI} (ht:C.T t=some ti):V8 P t ti:=Asx (h t ti ht)
section
variable {P:Program} {t:Nat} {ti:TI} (w:World)
theorem V8.run (h:V8 P t ti):(underlying t).run P w= .ok ti.d w:=DL h.d w
theorem V8.OC (h:V8 P t ti):(sizeOf t).run P w= .ok ti.cs.length w:=by obtain⟨i,z,h1,h2,_⟩:=h.i;simp [sizeOf,typeInfo,h1,h2]
theorem V8.Aih (h:V8 P t ti):(isAgg t).run P w= .ok ti.agg w:=by simp only[isAgg,D8,h.run,Result.andThen_ok,TI.agg];cases ti.d<;>rfl
theorem AbE (ti:TI):ti.agg=Xu ti.d:=by grind[TI.agg,Xu]
end
def J5 (l:List Bool):Prop:= ∀ b∈l,b=true
theorem QP {α :Type} {l:List Bool} {r:Option α} {x: α} (h:allT l r=some x):J5 l/\r=some x:=by
 induction l with
 | nil=>grind[allT,J5]
 | cons c cs ih=>grind[allT,J5]
def J5.append {a b:List Bool} (h:J5 (a++b)):J5 a/\J5 b:=by simp_all[J5]
def J5.cons {c:Bool} {a:List Bool} (h:J5 (c::a)):c=true/\J5 a:=by simp_all[J5]
theorem J5.nil:J5 []:=fun _ h=>by cases h
theorem JE: ¬ J5 Dl.no.ok:=by simp_all[Dl.no,J5]
section
variable {P:Program} {C:Ctx} {O:Own} {Jp:List (Nat×Obj)} {m:Nat->Value} {a:Act} {w:World} {o:Oper}
theorem JF.toT {v:Value} {x:A} (h:JF O Jp m w v x):J8 O Jp m w v x:=by cases x<;>first | trivial | exact h | exact h.elim
theorem T1.toT {v:Value} {x:A} (h:T1 O Jp m w v x):J8 O Jp m w v x:=by cases x<;>first | trivial | exact h | exact h.elim
structure Pure (P:Program) (O:Own) (Jp:List (Nat×Obj)) (m:Nat->Value) (a:Act) (w:World) (o:Oper) (δ :Dl):Prop where
 run: ∃ v,(execOp a.eval o).run P w= .ok (.value v) w/\J8 O Jp m w v δ.val
 new: δ.new=[]
 upd: δ.upd=[]
 del: δ.del=[]
theorem J8.int {v:Value} {k:IntKind} {n:Int} (h:J8 O Jp m w v (.int k n)):v= .int k n:=by cases h;rfl
theorem J8.bool {v:Value} {b:Bool} (h:J8 O Jp m w v (.bool b)):v= .bool b:=by cases h;rfl
theorem J8.str {v:Value} {s:List UInt8} (h:J8 O Jp m w v (.str s)): ∃ b:ByteArray,v= .string b/\b.data.toList=s:=by cases h;exact⟨_,rfl,rfl⟩
theorem J8.mkInt (k:IntKind) (n:Int):J8 O Jp m w (.int k n) (.int k n):=Jw.int k n
theorem J8.Qn (b:Bool):J8 O Jp m w (.bool b) (.bool b):=Jw.bool b
theorem J8.mkStr (s:ByteArray) {l:List UInt8} (h:s.data.toList=l):J8 O Jp m w (.string s) (.str l):=by subst h;exact Jw.str s
theorem fF (s:ByteArray):s.toList=s.data.toList:=ByteArray.toList_eq s
theorem Un (s:ByteArray):s.size=s.data.toList.length:=by rw[Array.length_toList];rfl
theorem Afh {x:Operand} (ho:o.op= .move x\/o.op= .assign x) {y:A} (hx:J8 O Jp m w (a.eval x) y):Pure P O Jp m a w o (.v y):=by refine⟨⟨a.eval x,?_,hx⟩,rfl,rfl,rfl⟩;rcases ho with ho | ho<;>simp [execOp,ho]
theorem pW {v:Value} {x:A} (h:J8 O Jp m w v x) (hg:x.Qr.1=true):J8 O Jp m w v x.Qr.2:=by
 cases x with
 | cnd g y =>have:=h.1 hg;cases y<;>first | trivial | exact this | exact this.elim
 | _=>exact h
theorem Aoq {c x y:Operand} (ho:o.op= .pick c x y) {c' x' y':A} (hc:J8 O Jp m w (a.eval c) c') (hx:J8 O Jp m w (a.eval x) x') (hy:J8 O Jp m w (a.eval y) y')
 (hok:J5 (Agv c' x' y').ok):Pure P O Jp m a w o (Agv c' x' y'):=by
 obtain⟨h0,h1⟩:=hok.cons;obtain⟨h1,h2⟩:=h1.cons;obtain⟨h2,h3⟩:=h2.cons;have h3:=h3.cons.1;refine⟨?_,rfl,rfl,rfl⟩;have hc':=pW hc h0;unfold Agv;simp only[Dl.g];generalize c'.Qr.2=cc at *
 obtain⟨q,rfl⟩: ∃ q,cc= .bool q:=by cases cc<;>simp [A.isB]at h1;exact⟨_,rfl⟩
 have:=hc'.bool;cases q with
 | true =>
  simp only[A.toB,cond_true]at h2 h3 ⊢;have hx':=pW hx h2;generalize x'.Qr.2=xx at *
  cases xx<;>simp [A.isB]at h3;exact⟨a.eval x,by simp [execOp,ho,asBool,this],hx'⟩
 | false =>
  simp only[A.toB,cond_false]at h2 h3 ⊢;have hy':=pW hy h2;generalize y'.Qr.2=yy at *
  cases yy<;>simp [A.isB]at h3;exact⟨a.eval y,by simp [execOp,ho,asBool,this],hy'⟩
theorem Rq {j k:IntKind} (h:A.kEq j k=true):j=k:=by cases j<;>cases k<;>first | rfl | cases h
theorem Apb {op:BinOp} {k:IntKind} {x y:Int} (hok:J5 (sU op k x y).ok) (t:TypeId) (hop:op≠ .shl) (hop':op≠ .shr) :
 ∃ v,(binOp op t (.int k x) (.int k y)).run P w= .ok v w/\J8 O Jp m w v (sU op k x y).val/\(sU op k x y).new=[]/\(sU op k x y).upd=[]/\(sU op k x y).del=[]:=by
 have ha: ∀ op,op= .add\/op= .sub\/op= .mul->binOp op t (.int k x) (.int k y)=Op.intArith op k x y:=by rintro op (rfl | rfl | rfl)<;>simp [binOp]
 have hd: ∀ op,op= .quo\/op= .rem->binOp op t (.int k x) (.int k y)=Op.intDiv op k x y:=by rintro op (rfl | rfl)<;>simp [binOp]
 have hb: ∀ op,op= .and\/op= .or\/op= .xor\/op= .andNot->binOp op t (.int k x) (.int k y)=Op.intBits op k x y:=by rintro op (rfl | rfl | rfl | rfl)<;>simp [binOp]
 have hc: ∀ op,op= .eql\/op= .neq\/op= .lss\/op= .leq\/op= .gtr\/op= .geq->binOp op t (.int k x) (.int k y)=Op.intCmp op x y:=by rintro op (rfl | rfl | rfl | rfl | rfl | rfl)<;>simp [binOp]
 cases op with
 | shl=>exact absurd rfl hop
 | shr=>exact absurd rfl hop'
 | add=>rw[ha _ (by simp)];exact⟨_,rfl,.mkInt _ _,rfl,rfl,rfl⟩
 | sub=>rw[ha _ (by simp)];exact⟨_,rfl,.mkInt _ _,rfl,rfl,rfl⟩
 | mul=>rw[ha _ (by simp)];exact⟨_,rfl,.mkInt _ _,rfl,rfl,rfl⟩
 | quo =>
  have h0:y≠0:=by simpa [sU,Dl.g]using hok.cons.1
  rw[hd _ (by simp)];exact⟨.int k (k.wrap (x.tdiv y)),by simp [Op.intDiv,h0],.mkInt _ _,rfl,rfl,rfl⟩
 | rem =>
  have h0:y≠0:=by simpa [sU,Dl.g]using hok.cons.1
  rw[hd _ (by simp)];exact⟨.int k (x.tmod y),by simp [Op.intDiv,h0],.mkInt _ _,rfl,rfl,rfl⟩
 | and=>rw[hb _ (by simp)];exact⟨_,rfl,.mkInt _ _,rfl,rfl,rfl⟩
 | or=>rw[hb _ (by simp)];exact⟨_,rfl,.mkInt _ _,rfl,rfl,rfl⟩
 | xor=>rw[hb _ (by simp)];exact⟨_,rfl,.mkInt _ _,rfl,rfl,rfl⟩
 | andNot=>rw[hb _ (by simp)];exact⟨_,rfl,.mkInt _ _,rfl,rfl,rfl⟩
 | eql=>rw[hc _ (by simp)];exact⟨_,rfl,.Qn _,rfl,rfl,rfl⟩
 | neq=>rw[hc _ (by simp)];exact⟨_,rfl,.Qn _,rfl,rfl,rfl⟩
 | lss=>rw[hc _ (by simp)];exact⟨_,rfl,.Qn _,rfl,rfl,rfl⟩
 | leq=>rw[hc _ (by simp)];exact⟨_,rfl,.Qn _,rfl,rfl,rfl⟩
 | gtr=>rw[hc _ (by simp)];exact⟨_,rfl,.Qn _,rfl,rfl,rfl⟩
 | geq=>rw[hc _ (by simp)];exact⟨_,rfl,.Qn _,rfl,rfl,rfl⟩
theorem Apc {op:BinOp} {x y:ByteArray} {x' y':List UInt8} (hx:x.data.toList=x') (hy:y.data.toList=y') (hok:J5 (sV op x' y').ok) (t:TypeId) :
 ∃ v,(binOp op t (.string x) (.string y)).run P w= .ok v w/\J8 O Jp m w v (sV op x' y').val/\(sV op x' y').new=[]/\(sV op x' y').upd=[]/\(sV op x' y').del=[]:=by
 subst hx hy;have hs: ∀ op,op≠ .shl->op≠ .shr->binOp op t (.string x) (.string y)=Op.stringOp op x y:=by intro op _ _;cases op<;>rfl
 cases op<;>first
  | exact(JE hok).elim
  | (rw [hs _ (by simp) (by simp)]
     refine⟨_,rfl,?_,rfl,rfl,rfl⟩;simp only[sV,Dl.v,fF,bytesLess];exact .Qn _)
  | (have h0:x.data.toList.length+y.data.toList.length<=140737488355328:=by simpa [sV,Dl.g]using hok.cons.1
     rw[hs _ (by simp) (by simp)];refine⟨.string (x++y),?_,?_,rfl,rfl,rfl⟩
     .have: ¬(((x.size+y.size:Nat):Int)>IntKind.i64.max):=by
       rw[<- Un,<- Un]at h0;rw[show IntKind.i64.max=9223372036854775807 from rfl];omega
      simp only[Op.stringOp,this,Gu];rfl
     .exact .mkStr _ (Go.Joins.data_append x y))
end
def aQ {P:Program} {w:World} {op:BinOp} {t:TypeId} {x y:Operand} {v u:Value} (h: ∀ cs,v≠ .agg cs) (h':v≠ .nilIface):(eqGuard op t x y v u).run P w= .ok () w:=by unfold eqGuard;all_goals simp_all
section
variable {P:Program} {C:Ctx} {O:Own} {Jp:List (Nat×Obj)} {m:Nat->Value} {a:Act} {w:World} {o:Oper} {fet:Fet}
def FOk (O:Own) (Jp:List (Nat×Obj)) (m:Nat->Value) (w:World) (fet:Fet):Prop:= ∀ o x,Jv fet o=some x->Jv Jp o=some x/\KZ O Jp m w o x
theorem JL {α :Type} {x:Option α} {k: α ->Dl} (hok:J5 (Kr x k).ok): ∃ y,x=some y/\Kr x k=k y:=by
 cases x with
 | none=>exact(JE hok).elim
 | some y=>exact⟨y,rfl,rfl⟩
theorem Kt {t:Nat} {k:TI->Dl} (hok:J5 (LU C t k).ok): ∃ ti,C.T t=some ti/\LU C t k=k ti:=JL hok
theorem KX {n:Nat} {cs:List A} (h:Lp fet n=some cs):Jv fet n=some (.box cs):=by unfold Lp at h;split at h<;>simp_all
theorem NK {n:Nat} {r:Arr} (h:YZ fet n=some r):Jv fet n=some (.arr r.e r.frz r.l):=by unfold YZ at h;all_goals grind
theorem RX {d:TypeDesc} {e:Nat} (h:elem? d=some e):d= .slice e:=by unfold elem? at h;split at h<;>simp_all
theorem J8.own {v:Value} {n:Nat} {e:Nat} {frz:Bool} {l:Sl} (hf:FOk O Jp m w fet) (h:J8 O Jp m w v (.own n)) (hx:Jv fet n=some (.arr e frz l)) :
 v=m n/\KZ O Jp m w n (.arr e frz l):=by
 obtain⟨h1,h2⟩:=hf _ _ hx;refine⟨?_,h2⟩;have h':JF O Jp m w v (.own n):=h;all_goals grind[JF,Obj.shp]
theorem J8.ptr {v:Value} {n off:Nat} {cs:List A} (hf:FOk O Jp m w fet) (h:J8 O Jp m w v (.ptr n off)) (hx:Jv fet n=some (.box cs)) :
 ∃ b base,m n= .pointer (some (at' b base))/\v= .pointer (some (at' b (base+off)))/\ ∀ j,j<cs.length->O b (base+j)=some n/\w.frozen? (at' b (base+j))=false /\
  ∃ u,w.cell? (at' b (base+j))=some u/\JF O Jp m w u (cs.getD j .undef):=by
 obtain⟨h1,b,base,h2,h3⟩:=hf _ _ hx;have h':JF O Jp m w v (.ptr n off):=h;all_goals grind[JF,Obj.shp]
theorem J8.LP {v:Value} (h:J8 O Jp m w v .LP):v= .pointer none:=by cases h;rfl
theorem AhE {t e:Nat} {v:Value} {b:Bool} (hu:P.underlying t=some (.slice e)) (h:(v= .slice none 0 0/\b=true)\/(∃ ad l c,v= .slice (some ad) l c)/\b=false) :
 (Op.equal t v (.slice none 0 0)).run P w= .ok b w:=by
 rcases h with ⟨rfl,rfl⟩ | ⟨⟨ad,l,c,rfl⟩,rfl⟩<;>rw[run_equal_slice_nil w t e _ _ _ hu]<;>rfl
theorem AnX {t e:Nat} {v:Value} {b:Bool} (hu:P.underlying t=some (.pointer e)) (h:(v= .pointer none/\b=true)\/(∃ ad,v= .pointer (some ad))/\b=false) :
 (Op.equal t v (.pointer none)).run P w= .ok b w:=by
 have hu':P.underlying t=some (.pointer (P.pointee t)):=by rw[hu];simp [Program.pointee,hu]
 rcases h with ⟨rfl,rfl⟩ | ⟨⟨ad,rfl⟩,rfl⟩<;>rw[run_equal_pointer_nil w t _ hu']<;>rfl
theorem Afi {s:Bool} {t:Nat} {d:TypeDesc} {x:A} {v:Value} {b:Bool} (hd:P.underlying t=some d) (hf:FOk O Jp m w fet) (hx:J8 O Jp m w v x) (h:AcM fet s d x=some b) :
 (s=true/\(Op.equal t v (.slice none 0 0)).run P w= .ok b w/\ ∃ a l c,v= .slice a l c)\/(s=false/\(Op.equal t v (.pointer none)).run P w= .ok b w/\ ∃ a,v= .pointer a):=by
 unfold AcM at h;split at h
 .injection h with h;subst h;have hx':v= .slice none 0 0:=hx;exact .inl ⟨rfl,AhE hd (.inl ⟨hx',rfl⟩),_,_,_,hx'⟩
 .injection h with h;subst h;rename_i l;have hx':Jw O w v (.sln l):=hx;cases hx' with
  | sln h hn =>
   cases hq:l.xs.isEmpty with
   | true=>simp_all[AhE,hd,FOk,J8,AcM]
   | false =>
    cases h with
    | nil=>cases hq
    | sl0=>cases hq
    | sl vs _ _ _=>simp_all[AhE,hd,FOk,J8,AcM]
 .injection h with h;subst h;cases hx;exact .inr ⟨rfl,AnX hd (.inl ⟨rfl,rfl⟩),_,rfl⟩
 .rename_i n off;cases hr:Lp fet n with
  | none=>rw[hr]at h;cases h
  | some cs =>rw[hr]at h;injection h with h;subst h;obtain⟨b,base,_,h2,_⟩:=hx.ptr hf (KX hr);exact .inr ⟨rfl,AnX hd (.inr ⟨⟨_,h2⟩,rfl⟩),_,h2⟩
 .cases h
theorem AjG {t:Nat} {x y:Bool} (hd:P.underlying t=some .bool):(Op.equal t (.bool x) (.bool y)).run P w= .ok (x==y) w:=by
 have: ∀ d,(Op.equalIn (d+1) t (.bool x) (.bool y)).run P w= .ok (x==y) w:=by intro d;simp [Op.equalIn,DL hd]
 exact this 9999
theorem AcW {t:Nat} {vs:Array Value} {off:Nat} {d:TypeDesc} (hd:P.underlying t=some d) (hp:Xu d=false) (h:off<vs.size):(part t vs off).run P w= .ok (vs.getD off undef) w:=by
 have hg:vs[off]? =some (vs.getD off undef):=by rw[Dn,D6 h];rfl
 have ha:(isAgg t).run P w= .ok false w:=by simp only[isAgg,D8,DL hd,Result.andThen_ok];cases d<;>first | rfl | cases hp
 unfold part;all_goals simp_all
theorem JF.AqE {v:Value} {b:Bool} (h:JF O Jp m w v (.bool b)):v= .bool b:=by cases h;rfl
theorem JF.Atm {v:Value} {k:IntKind} {n:Int} (h:JF O Jp m w v (.int k n)):v= .int k n:=by cases h;rfl
theorem JF.Aue {v:Value} {s:List UInt8} (h:JF O Jp m w v (.str s)): ∃ b:ByteArray,v= .string b/\b.data.toList=s:=by cases h;exact⟨_,rfl,rfl⟩
theorem Ak8 {d ty:Nat} {k:CK} {td:TypeDesc} {a b:A} {v u:Value} (hk:(k= .bool/\td= .bool)\/(∃ i,k= .int i/\td= .int i)\/(k= .str/\td= .string)) (hd:P.underlying ty=some td) (h1:JF O Jp m w v a) (h2:JF O Jp m w u b) (hok:(ZY k a b).1=true) :
 (Op.equalIn (d+1) ty v u).run P w= .ok (ZY k a b).2 w:=by
 rcases hk with ⟨rfl,rfl⟩ | ⟨i,rfl,rfl⟩ | ⟨rfl,rfl⟩
 .cases a<;>first | (cases hok;done) | skip
  cases b<;>first | (cases hok;done) | skip
  rw[h1.AqE,h2.AqE];exact run_equalIn_bool' w d ty _ _ hd
 .cases a<;>first | (cases hok;done) | skip
  cases b<;>first | (cases hok;done) | skip
  rename_i j x j' y;simp only[ZY,Dq]at hok;rw[h1.Atm,h2.Atm,Rq hok.1,Rq hok.2];exact run_equalIn_int w d ty i i _ _ hd
 .cases a<;>first | (cases hok;done) | skip
  cases b<;>first | (cases hok;done) | skip
  obtain⟨s1,e1,l1⟩:=h1.Aue;obtain⟨s2,e2,l2⟩:=h2.Aue;rw[e1,e2,run_equalIn_string w d ty _ _ hd];simp only[ZY,fF,l1,l2]
theorem AgP {d:Nat} {vs us:Array Value} {x y:List A} (hx:vs.size=x.length) (hy:us.size=y.length) (hxr: ∀ j,j<x.length->JF O Jp m w (vs.getD j undef) (x.getD j .undef)) (hyr: ∀ j,j<y.length->JF O Jp m w (us.getD j undef) (y.getD j .undef)) :
 ∀(fs:List Field) (n:Nat) (ks:List CK),RY P fs n=some ks->(Qv ks (x.drop n) (y.drop n)).1=true->(Op.eqFields (d+1) vs us fs).run P w= .ok (Qv ks (x.drop n) (y.drop n)).2 w:=by
 intro fs
 induction fs with
 | nil =>
  intro n ks h hok;injection h with h;subst h
  have:Qv [] (x.drop n) (y.drop n)=(true,true):=by
   cases hx:x.drop n with
   | nil=>cases hy:y.drop n with
    | nil=>rfl
    | cons _ _=>rw[hx,hy]at hok;cases hok
   | cons _ _=>rw[hx]at hok;cases hok
  rw[this];rfl
 | cons f fs ih =>
  intro n ks h hok
  have key: ∀(k:CK) (td:TypeDesc) (ks':List CK),((k= .bool/\td= .bool)\/(∃ i,k= .int i/\td= .int i)\/(k= .str/\td= .string))->P.underlying f.type=some td->RY P fs (n+1)=some ks'->(f.name != "_" &&Nat.beq f.offset n)=true->ks=k::ks' ->
   (Op.eqFields (d+1) vs us (f::fs)).run P w= .ok (Qv ks (x.drop n) (y.drop n)).2 w:=by
   intro k td ks' hk hd hf hn hks;subst hks;rw[Dq]at hn;have hnm:f.name≠ "_" :=by simpa using hn.1
   have hoff:=Dp hn.2;cases hxd:x.drop n with
   | nil=>rw[hxd]at hok;cases hok
   | cons a xr =>
    cases hyd:y.drop n with
    | nil=>rw[hxd,hyd]at hok;cases hok
    | cons b yr =>
     rw[hxd,hyd]at hok;simp only[Qv,Dq]at hok ⊢
     have hnx:n<x.length:=by
      rcases Ec n x.length with h | h
      .exact h
      .rw[G8 h]at hxd;cases hxd
     have hny:n<y.length:=by
      rcases Ec n y.length with h | h
      .exact h
      .rw[G8 h]at hyd;cases hyd
     have e1:x.getD n .undef=a:=by have:=congrArg List.head? hxd;rw[IW]at this;rw[Dj,this];rfl
     have e2:y.getD n .undef=b:=by have:=congrArg List.head? hyd;rw[IW]at this;rw[Dj,this];rfl
     have e3:x.drop (n+1)=xr:=by rw[<- Gx,hxd];rfl
     have e4:y.drop (n+1)=yr:=by rw[<- Gx,hyd];rfl
     have r1:=hxr n hnx;have r2:=hyr n hny;rw[e1]at r1;rw[e2]at r2;have hagg:Xu td=false:=by rcases hk with ⟨_,rfl⟩ | ⟨i,_,rfl⟩ | ⟨_,rfl⟩<;>rfl
     have p1:=AcW (P:=P) (w:=w) (vs:=vs) (off:=n) hd hagg (by omega);have p2:=AcW (P:=P) (w:=w) (vs:=us) (off:=n) hd hagg (by omega);have q:=Ak8 (d:=d) hk hd r1 r2 hok.1;have hrest:=ih (n+1) ks' hf (by rw[e3,e4];exact hok.2);rw[e3,e4]at hrest;simp only[Op.eqFields,hnm,ne_eq,not_false_eq_true,I9,D8,hoff,p1,p2,Result.andThen_ok,q];cases (ZY k a b).2 with
     | false=>simp
     | true=>simpa using hrest
  unfold RY at h;all_goals grind
theorem AdL {t:Nat} {ti:TI} (hT:V8 P t ti) {vs us:Array Value} {x y:List A} (hx:vs.size=x.length) (hy:us.size=y.length) (hxr: ∀ j,j<x.length->JF O Jp m w (vs.getD j undef) (x.getD j .undef)) (hyr: ∀ j,j<y.length->JF O Jp m w (us.getD j undef) (y.getD j .undef))
 (h1:ti.cmp.isEmpty=false) (h2:(Qv ti.cmp x y).1=true):P.eqGuardType P.depth t=false/\(Op.equalIn 10000 t (.agg vs) (.agg us)).run P w= .ok (Qv ti.cmp x y).2 w:=by
 have hc:=hT.cmp;have hd:=hT.d;unfold Agj at hc;split at hc
 .rename_i fs hfs;split at hc
  .rename_i ks hks;cases hb:(!(P.stoodInHeld t)&& !(P.eqGuardType P.depth t))with
   | false=>grind
   | true =>
    rw[hb]at hc;simp only[cond_true]at hc;rw[hc]at h2 ⊢;rw[Dq,Ef,Ef]at hb;rw[hfs]at hd;have hf:P.fieldsOf t=fs:=by simp only[Program.fieldsOf,hd]
    refine⟨hb.2,?_⟩;rw[run_equalIn_agg w 9999 t vs us (by rw[hf];exact hd) hb.1,hf];exact AgP (d:=9998) hx hy hxr hyr fs.toList 0 ks hks h2
  .grind
 .grind
theorem Apd {op:BinOp} {t ty:Nat} {x y:Operand} (hC:TOk P C) (hf:FOk O Jp m w fet) (ho:o.op= .binOp op t x y ty) {x' y':A} (hx:J8 O Jp m w (a.eval x) x') (hy:J8 O Jp m w (a.eval y) y')
 (hok:J5 (AgF C fet op t x' y').ok):Pure P O Jp m a w o (AgF C fet op t x' y'):=by
 have fin: ∀ {v u:Value} {δ :Dl},a.eval x=v->a.eval y=u->(∀ cs,v≠ .agg cs)->v≠ .nilIface->(∃ r,(binOp op t v u).run P w= .ok r w/\J8 O Jp m w r δ.val/\ δ.new=[]/\ δ.upd=[]/\ δ.del=[])->Pure P O Jp m a w o δ :=by intro v u δ hv hu h1 h2 ⟨r,h3,h4,h5,h6,h7⟩;refine⟨⟨r,?_,h4⟩,h5,h6,h7⟩;simp only[execOp,ho,hv,hu,D8,aQ h1 h2,Result.andThen_ok,h3,Sem.run_pure]
 unfold AgF at hok ⊢;split at hok
 .rename_i k p k' q;have h1:=hx.int;have h2:=hy.int;split at hok
  .have h0:0<=q:=by simpa [Dl.g]using hok.cons.1
   refine fin h1 h2 (by simp) (by simp) ⟨_,?_,.mkInt _ _,rfl,rfl,rfl⟩;have: ¬ q<0:=by omega
   simp [binOp,Op.shift,this]
  .have h0:0<=q:=by simpa [Dl.g]using hok.cons.1
   refine fin h1 h2 (by simp) (by simp) ⟨_,?_,.mkInt _ _,rfl,rfl,rfl⟩;have: ¬ q<0:=by omega
   simp [binOp,Op.shift,this]
  .rename_i h3 h4;cases hk:A.kEq k k' with
   | false=>rw[hk]at hok;exact(JE hok).elim
   | true =>rw[hk]at hok;have:=Rq hk;subst this;exact fin h1 h2 (by simp) (by simp) (Apb hok t h3 h4)
 .obtain⟨s1,h1,h2⟩:=hx.str;obtain⟨s2,h3,h4⟩:=hy.str;exact fin h1 h3 (by simp) (by simp) (Apc h2 h4 hok t)
 .have h1:=hx.bool;have h2:=hy.bool;split at hok
  .unfold Agg at *
   obtain⟨ti,ht,he⟩:=Kt hok;rw[he]at hok ⊢;have hd:ti.d= .bool:=by have:=hok.cons.1;unfold Aei at this;split at this<;>simp_all
   refine fin h1 h2 (by simp) (by simp) ⟨_,?_,.Qn _,rfl,rfl,rfl⟩;have hu:=(hC.is ht).d;rw[hd]at hu;simp only[binOp,D8,AjG hu,Result.andThen_ok,Sem.run_pure]
  .unfold Agg at *
   obtain⟨ti,ht,he⟩:=Kt hok;rw[he]at hok ⊢;have hd:ti.d= .bool:=by have:=hok.cons.1;unfold Aei at this;split at this<;>simp_all
   refine fin h1 h2 (by simp) (by simp) ⟨_,?_,.Qn _,rfl,rfl,rfl⟩;have hu:=(hC.is ht).d;rw[hd]at hu;simp only[binOp,D8,AjG hu,Result.andThen_ok,Sem.run_pure]
  .exact(JE hok).elim
 .rename_i x y;obtain⟨vs,e1,l1,r1⟩:=(show T1 O Jp m w _ (.agg x)from hx)
  obtain⟨us,e2,l2,r2⟩:=(show T1 O Jp m w _ (.agg y)from hy)
  obtain⟨ti,ht,he⟩:=Kt hok;rw[he]at hok ⊢;split at hok
  .obtain⟨c1,c2⟩:=hok.cons;obtain⟨g1,g2⟩:=AdL (hC.is ht) l1 l2 r1 r2 (by simpa using c1) c2.cons.1;refine⟨⟨_,?_,.Qn _⟩,rfl,rfl,rfl⟩;simp only[execOp,ho,e1,e2,D8,run_eqGuard_agg w _ _ _ _ _ _ g1,Result.andThen_ok,run_eql_struct w,g2,Sem.run_pure]
  .obtain⟨c1,c2⟩:=hok.cons;obtain⟨g1,g2⟩:=AdL (hC.is ht) l1 l2 r1 r2 (by simpa using c1) c2.cons.1;refine⟨⟨_,?_,.Qn _⟩,rfl,rfl,rfl⟩;simp only[execOp,ho,e1,e2,D8,run_eqGuard_agg w _ _ _ _ _ _ g1,Result.andThen_ok,run_neq_struct w,g2,Sem.run_pure]
  .exact(JE hok).elim
 .have h2:a.eval y= .slice none 0 0:=hy;split at hok
  all_goals first
   | exact(JE hok).elim
   | (unfold Aer at *
      obtain⟨ti,ht,he⟩:=Kt hok;rw[he]at hok ⊢;obtain⟨b,hb,he'⟩:=JL hok;rw[he'];have hu:=(hC.is ht).d;rcases Afi hu hf hx hb with ⟨_,h3,al,l,c,h4⟩ | ⟨hs,_⟩
      .rw[h4]at h3;refine fin h4 h2 (by simp) (by simp) ⟨_,?_,.Qn _,rfl,rfl,rfl⟩;simp only[binOp,D8,h3,Result.andThen_ok,Sem.run_pure]
      .cases hs)
 .have h2:=hy.LP;split at hok
  all_goals first
   | exact(JE hok).elim
   | (unfold Aer at *
      obtain⟨ti,ht,he⟩:=Kt hok;rw[he]at hok ⊢;obtain⟨b,hb,he'⟩:=JL hok;rw[he'];have hu:=(hC.is ht).d;rcases Afi hu hf hx hb with ⟨hs,_⟩ | ⟨_,h3,al,h4⟩
      .cases hs
      .rw[h4]at h3;refine fin h4 h2 (by simp) (by simp) ⟨_,?_,.Qn _,rfl,rfl,rfl⟩;simp only[binOp,D8,h3,Result.andThen_ok,Sem.run_pure])
 .exact(JE hok).elim
end
def RP (b k n:Nat):(at' b k).add n=at' b (k+n):=by
 unfold Addr.add;split
 .grind
 .rfl
section
variable {P:Program} {C:Ctx} {O:Own} {Jp:List (Nat×Obj)} {m:Nat->Value} {a:Act} {w:World} {o:Oper} {fet:Fet}
theorem Asy {op:UnOp} {t:Nat} {x:Operand} (ho:o.op= .unOp op t x) {x':A} (hx:J8 O Jp m w (a.eval x) x') (hok:J5 (unX op x').ok):Pure P O Jp m a w o (unX op x'):=by
 unfold unX at hok ⊢;split at hok
 .have h1:=hx.bool;exact⟨⟨_,by simp only[execOp,ho,h1,Op.unary];rfl,.Qn _⟩,rfl,rfl,rfl⟩
 .have h1:=hx.int;exact⟨⟨_,by simp only[execOp,ho,h1,Op.unary];rfl,.mkInt _ _⟩,rfl,rfl,rfl⟩
 .have h1:=hx.int;exact⟨⟨_,by simp only[execOp,ho,h1,Op.unary];rfl,.mkInt _ _⟩,rfl,rfl,rfl⟩
 .grind[JE]
theorem UI {x:A} {n:Int} (h:int? x=some n): ∃ k,x= .int k n:=by unfold int? at h;split at h<;>simp_all
theorem xU {x:A} {s:List UInt8} (h:Aij x=some s):x= .str s:=by unfold Aij at h;split at h<;>simp_all
theorem vT {d:TypeDesc} (h:vS d=true):d= .string:=by grind[vS]
theorem AgA {t:Nat} {k:Nat->IntKind->Dl} (hC:TOk P C) (hok:J5 (AbG C t k).ok): ∃ n e kk te,AbG C t k=k n kk/\(P.underlying t=some (.array n e))/\C.T e=some te/\te.cs=[.int kk]/\te.agg=false:=by
 unfold AbG at hok ⊢;obtain⟨ti,ht,he⟩:=Kt hok;rw[he]at hok ⊢;obtain⟨p,hp,he⟩:=JL hok;rw[he]at hok ⊢;obtain⟨te,hte,he⟩:=Kt hok;rw[he]at hok ⊢;cases hag:te.agg with
 | true=>rw[hag]at hok;exact(JE hok).elim
 | false =>
  rw[hag]at hok;simp only[cond_false]at hok ⊢;obtain⟨c,hc,he⟩:=JL hok;rw[he]at hok ⊢;obtain⟨kk,hk,he⟩:=JL hok;rw[he]at hok ⊢;refine⟨p.1,p.2,kk,te,rfl,?_,hte,?_,hag⟩
  .rw[(hC.is ht).d];unfold lZ at hp;split at hp
   .rename_i hd;injection hp with hp;rw[hd,<- hp]
   .cases hp
  .have e1:te.cs=[c]:=by unfold one? at hc;split at hc<;>simp_all
   have e2:c= .int kk:=by unfold AqP at hk;split at hk<;>simp_all
   rw[e1,e2]
theorem AhF {cs:List A} {kk:IntKind} {n:Int} {m:Nat} (h:J5 [cs.all (A.isI kk),Nat.beq cs.length m,decide (0<=n),decide (n<(m:Int))]):cs.length=m/\0<=n/\n<(m:Int)/\n.toNat<cs.length/\cs.getD n.toNat .undef= .int kk (oI cs n):=by
 obtain⟨h1,h2⟩:=h.cons;obtain⟨h2,h3⟩:=h2.cons;obtain⟨h3,h4⟩:=h3.cons;have h4:n<(m:Int):=by simpa using h4.cons.1
 have h3:0<=n:=by simpa using h3
 have h2:=Dp h2;have hlt:n.toNat<cs.length:=by omega
 refine⟨h2,h3,h4,hlt,?_⟩;have h5:=D7.1 h1 cs[n.toNat] (EZ hlt);have e:oI cs n=cs[n.toNat].toI:=by simp [oI,Dj,hlt]
 rw[e,Dj,D9 hlt];generalize cs[n.toNat]=c at h5
 cases c<;>first
  | (rename_i k' x;have:=Rq (show A.kEq kk k'=true from h5);subst this;rfl)
  | cases h5
theorem Alj {t:Nat} {x i:Operand} (hC:TOk P C) (ho:o.op= .index t x i) {x' i':A} (hx:J8 O Jp m w (a.eval x) x') (hi:J8 O Jp m w (a.eval i) i')
 (hok:J5 (Acx C t x' i').ok):Pure P O Jp m a w o (Acx C t x' i'):=by
 unfold Acx at hok ⊢;obtain⟨n,hn,he⟩:=JL hok;rw[he]at hok ⊢;clear he;obtain⟨k,rfl⟩:=UI hn;split at hok
 .rename_i cs;obtain⟨m',e,kk,te,he,hu,hte,hcs,hag⟩:=AgA hC hok;rw[he]at hok ⊢;obtain⟨h1,h2,h3,h4,h5⟩:=AhF hok;obtain⟨vs,g1,g2,g3⟩:=hx;have h6:Jw O w (vs.getD n.toNat undef) (.int kk (oI cs n)):=by have:=g3 n.toNat h4;rw[h5]at this;exact this
  have h6:vs.getD n.toNat undef= .int kk (oI cs n):=by generalize vs.getD n.toNat undef=z at h6;cases h6;rfl
  have hi:=hi.int;have hs:=(hC.is hte).OC w;have hag':=(hC.is hte).Aih w;rw[hag]at hag';have hlt:n.toNat<vs.size:=by omega
  have hg6:vs[n.toNat]? =some (.int kk (oI cs n)):=by rw[Dn,D6 hlt]at h6;rw[D6 hlt];exact congrArg some h6
  have hrun:=DL hu w;refine⟨⟨.int kk (oI cs n),?_,.mkInt _ _⟩,rfl,rfl,rfl⟩;simp [execOp,ho,Instr.index,hi,asIntOf,hrun,g1,h2,h3,hs,hcs,part,hag',hg6]
 .rename_i y _;obtain⟨s,hs,he⟩:=JL hok;rw[he]at hok ⊢;obtain⟨ti,ht,he⟩:=Kt hok;rw[he]at hok ⊢;have:=xU hs;subst this;obtain⟨h1,h2⟩:=hok.cons;obtain⟨h2,h3⟩:=h2.cons;have h3:=h3.cons.1;have hd:=vT h1;have hu:=(hC.is ht).run w;rw[hd]at hu;have hi:=hi.int;obtain⟨b,hb,hl⟩:=hx.str;have h2:0<=n:=by simpa using h2
  have h3:n<(s.length:Int):=by simpa using h3
  obtain⟨j,rfl⟩:=EP h2;have hj:j<b.size:=by rw[Un,hl];omega
  refine⟨⟨.int .u8 (b[j].toNat:Int),?_,?_⟩,rfl,rfl,rfl⟩
  .simp [execOp,ho,Instr.index,hi,hb,asIntOf,hu,hj]
  .have:s.getD (Int.ofNat j).toNat 0=b[j]:=by
    subst hl;show b.data.toList.getD j 0=b[j];rw[Dj,D9 (by rw[<- Un];exact hj)];obtain⟨⟨l⟩⟩:=b;rfl
   simp only[Dl.g];rw[show((j:Int)).toNat=(Int.ofNat j).toNat from rfl,this];exact .mkInt _ _
def ORl (O:Own) (Jp:List (Nat×Obj)) (m:Nat->Value) (w:World):Option Value->Option A->Prop
 | none,none=>True
 | some v,some x=>J8 O Jp m w v x
 | _,_=>False
theorem Uj {isS:Bool} {len cap:Nat} {lo hi:Option Value} {lo' hi':Option A} (hl:ORl O Jp m w lo lo') (hh:ORl O Jp m w hi hi') (hc:len<=cap) {r:List Bool×Nat×Nat} (h:uP len lo' hi'=some r) (hok:J5 r.1) :
 (Instr.sliceBounds isS len cap lo hi none).run P w= .ok (r.2.1,r.2.2,cap) w/\r.2.1<=r.2.2/\r.2.2<=len:=by
 unfold uP at h;split at h
 .injection h with h;subst h;cases lo<;>cases hi<;>simp [ORl]at hl hh;simp [Instr.sliceBounds]
 .injection h with h;subst h;cases lo<;>cases hi<;>simp only[ORl]at hl hh;obtain⟨h1,h2⟩:=hok.cons;have h2:=h2.cons.1;simp at h1 h2;have hl:=hl.int;rename_i q _ _ _;obtain⟨j,rfl⟩:=EP h1;have:j<=len:=by simpa using h2
  simp [Instr.sliceBounds,Instr.sliceBound,hl,asIntOf,this]
 .injection h with h;subst h;cases lo<;>cases hi<;>simp only[ORl]at hl hh;obtain⟨h1,h2⟩:=hok.cons;have h2:=h2.cons.1;simp at h1 h2;have hh:=hh.int;rename_i q _ _ _;obtain⟨j,rfl⟩:=EP h1;have:j<=len:=by simpa using h2
  have h3:j<=cap:=by omega
  simp [Instr.sliceBounds,Instr.sliceBound,hh,asIntOf,h3,this]
 .injection h with h;subst h;cases lo<;>cases hi<;>simp only[ORl]at hl hh;obtain⟨h1,h2⟩:=hok.cons;obtain⟨h2,h3⟩:=h2.cons;have h3:=h3.cons.1;simp at h1 h2 h3;have hl:=hl.int;have hh:=hh.int;rename_i p _ q _ _ _;obtain⟨j,rfl⟩:=EP h1;obtain⟨i,rfl⟩:=EP (Int.le_trans h1 h2);have h4:i<=len:=by simpa using h3
  have h5:j<=i:=by simpa using h2
  have h6:i<=cap:=by omega
  simp [Instr.sliceBounds,Instr.sliceBound,hl,hh,asIntOf,h4,h5,h6]
 .cases h
theorem Aac (s:ByteArray) (i j:Nat):(s.extract i j).data.toList=J6 s.data.toList i j:=by simp [J6,ByteArray.data_extract,List.drop_take]
end
section
variable {P:Program} {C:Ctx} {O:Own} {Jp:List (Nat×Obj)} {m:Nat->Value} {a:Act} {w:World} {o:Oper} {fet:Fet}
theorem Jw.cut {v:Value} {q:Sl} (h:Jw O w v (.sl q)) (l r:Nat) (hlr:l<=r) (hr:r<=q.es.length) :
 ∃ ad n c,v= .slice ad n c/\n=q.es.length/\n<=c/\(∀ cap',cap'=c->Jw O w (.slice (if cap'=l then ad else ad.map (·.add (l*q.sz))) (r - l) (cap' - l)) (.sl ⟨q.t,J6 q.xs l r⟩)):=by
 cases h with
 | nil =>
  have:r=0:=by simpa [Sl.es]using hr
  subst this;have:l=0:=by omega
  subst this;refine⟨none,0,0,rfl,rfl,DW _,fun cap' hc=> ?_⟩;subst hc;simp [J6];exact .nil _
 | sl0 ad t =>
  have:r=0:=by simpa [Sl.es]using hr
  subst this;have:l=0:=by omega
  subst this;refine⟨some ad,0,0,rfl,rfl,DW _,fun cap' hc=> ?_⟩;subst hc;simp [J6];exact .sl0 _ _
 | @sl b off cap _ vs hc hm hr' =>
  refine⟨_,_,_,rfl,rfl,hc,fun cap' hc'=> ?_⟩;subst hc';have hes:(⟨q.t,J6 q.xs l r⟩:Sl).es=J6 q.es l r:=q.Anu l r;have hlen:(J6 q.es l r).length=r - l:=by simp [J6];omega
  have hget: ∀ i,i<r - l->(J6 q.es l r).getD i []=q.es.getD (l+i) []:=by intro i hi;all_goals grind[J6]
  have hlen':(⟨q.t,J6 q.xs l r⟩:Sl).es.length=r - l:=by rw[hes];exact hlen
  by_cases hcl:cap'=l
  .have h0:r - l=0:=by omega
   rw[Dw hcl,<- hlen'];exact Jw.sl (b:=b) (off:=off) (cap:=cap' - l) (fun _ _=>undef) (by omega) (fun i j hi _=>absurd hi (by omega)) (fun i j hi _=>absurd hi (by omega))
  .rw[Dt hcl];simp only[Option.map_some,RP];rw[<- hlen'];refine Jw.sl (fun i j=>vs (l+i) j) (by omega) (fun i j hi hj=> ?_) (fun i j hi hj=> ?_)
   .have:=hm (l+i) j (by omega) hj;rw[Ei]at this;rw[show off+l*q.sz+(i*(⟨q.t,J6 q.xs l r⟩:Sl).sz+j)=off+(l*q.sz+i*q.sz+j)from by show off+l*q.sz+(i*q.sz+j)=_;omega];exact this
   .rw[hes,hget i (by omega)];exact hr' (l+i) j (by omega) hj
theorem Ao3 {t:Nat} {x:Operand} {lo hi mx:Option Operand} (hC:TOk P C) (ho:o.op= .slice t x lo hi mx) (hmx:mx=none) {s:List UInt8} {lo' hi':Option A} (hx:J8 O Jp m w (a.eval x) (.str s))
 (hlo:ORl O Jp m w (lo.map a.eval) lo') (hhi:ORl O Jp m w (hi.map a.eval) hi')
 (hok:J5 (Mc C fet t (.str s) lo' hi').ok):Pure P O Jp m a w o (Mc C fet t (.str s) lo' hi'):=by
 subst hmx;unfold Mc at hok ⊢;obtain⟨ti,ht,he⟩:=Kt hok;rw[he]at hok ⊢;dsimp only at hok ⊢;obtain⟨r,hr,he⟩:=JL hok;rw[he]at hok ⊢;obtain⟨h1,h2⟩:=hok.cons;have hd:=vT h1;have hu:=(hC.is ht).run w;rw[hd]at hu;obtain⟨b,hb,hl⟩:=hx.str;subst hl;obtain⟨h3,h4,h5⟩:=Uj (isS:=false) (P:=P) (cap:=b.data.toList.length) hlo hhi (DW _) hr h2;refine⟨⟨.string (b.extract r.2.1 r.2.2),?_,.mkStr _ (Aac _ _ _)⟩,rfl,rfl,rfl⟩;rw[<- Un]at h3;simp only[execOp,ho,Instr.sliceAt,D8,hu,Result.andThen_ok,Instr.slice,hb,Option.map_none,Option.isSome_none,GM,Gu,h3,Sem.run_pure]
theorem Aqr {t:Nat} {x:Operand} {lo hi mx:Option Operand} (hC:TOk P C) (ho:o.op= .slice t x lo hi mx) (hmx:mx=none) {l:Sl} {lo' hi':Option A} (hx:J8 O Jp m w (a.eval x) (.sl l))
 (hlo:ORl O Jp m w (lo.map a.eval) lo') (hhi:ORl O Jp m w (hi.map a.eval) hi')
 (hok:J5 (Mc C fet t (.sl l) lo' hi').ok):Pure P O Jp m a w o (Mc C fet t (.sl l) lo' hi'):=by
 subst hmx;unfold Mc at hok ⊢;obtain⟨ti,ht,he⟩:=Kt hok;rw[he]at hok ⊢;dsimp only at hok ⊢;obtain⟨r,hr,he⟩:=JL hok;rw[he]at hok ⊢;obtain⟨e,hel,he⟩:=JL hok;rw[he]at hok ⊢;obtain⟨te,hte,he⟩:=Kt hok;rw[he]at hok ⊢;obtain⟨h1,h2⟩:=hok.cons;have hd:=RX hel;have hu:=(hC.is ht).run w;rw[hd]at hu;have hs:=(hC.is hte).OC w;have hsz:=Dp h1;rw[<- hsz]at hs;rw[<- Sl.KI]at hr;have hx':Jw O w (a.eval x) (.sl l):=hx;obtain⟨h4,h5⟩:r.2.1<=r.2.2/\r.2.2<=l.es.length:=(Uj (isS:=true) (P:=P) hlo hhi (DW _) hr h2).2;obtain⟨ad,n,c,hv,hn,hc,hcut⟩:=hx'.cut r.2.1 r.2.2 h4 h5;obtain⟨h3,_,_⟩:=Uj (isS:=true) (P:=P) (cap:=c) hlo hhi (by rw[<- hn];exact hc) hr h2;rw[<- hn]at h3;refine⟨⟨_,?_,hcut c rfl⟩,rfl,rfl,rfl⟩;simp only[execOp,ho,Instr.sliceAt,D8,hu,Result.andThen_ok,Instr.slice,hv,Option.map_none,h3,hs,Sem.run_pure]
theorem Jw.Avc {v:Value} {l:Sl} (h:Jw O w v (.sln l)):Jw O w v (.sl l)/\(l.xs=[]->v= .slice none 0 0):=by cases h with | sln h hn=>exact⟨h,hn⟩
theorem Ao2 {t:Nat} {x:Operand} {lo hi mx:Option Operand} (hC:TOk P C) (ho:o.op= .slice t x lo hi mx) (hmx:mx=none) {l:Sl} {lo' hi':Option A} (hx:J8 O Jp m w (a.eval x) (.sln l))
 (hlo:ORl O Jp m w (lo.map a.eval) lo') (hhi:ORl O Jp m w (hi.map a.eval) hi')
 (hok:J5 (Mc C fet t (.sln l) lo' hi').ok):Pure P O Jp m a w o (Mc C fet t (.sln l) lo' hi'):=by
 subst hmx;unfold Mc at hok ⊢;obtain⟨ti,ht,he⟩:=Kt hok;rw[he]at hok ⊢;dsimp only at hok ⊢;obtain⟨r,hr,he⟩:=JL hok;rw[he]at hok ⊢;obtain⟨e,hel,he⟩:=JL hok;rw[he]at hok ⊢;obtain⟨te,hte,he⟩:=Kt hok;rw[he]at hok ⊢;obtain⟨h0,hok⟩:=hok.cons;obtain⟨h1,h2⟩:=hok.cons;have hd:=RX hel;have hu:=(hC.is ht).run w;rw[hd]at hu;have hs:=(hC.is hte).OC w;have hsz:=Dp h1;rw[<- hsz]at hs;rw[<- Sl.KI]at hr;have hx':Jw O w (a.eval x) (.sln l):=hx;obtain⟨hx',hnil⟩:=hx'.Avc;obtain⟨h4,h5⟩:r.2.1<=r.2.2/\r.2.2<=l.es.length:=(Uj (isS:=true) (P:=P) hlo hhi (DW _) hr h2).2;obtain⟨ad,n,c,hv,hn,hc,hcut⟩:=hx'.cut r.2.1 r.2.2 h4 h5;obtain⟨h3,_,_⟩:=Uj (isS:=true) (P:=P) (cap:=c) hlo hhi (by rw[<- hn];exact hc) hr h2;rw[<- hn]at h3;refine⟨⟨_,?_,Jw.sln (hcut c rfl) fun hq=> ?_⟩,rfl,rfl,rfl⟩
 rotate_left
 .have hq:J6 l.xs r.2.1 r.2.2=[]:=hq;have h0:(l.xs.isEmpty|| !(J6 l.xs r.2.1 r.2.2).isEmpty)=true:=h0;rw[hq]at h0;have he:l.xs=[]:=by simpa using h0
  have hz:=hnil he;rw[hv]at hz;injection hz with z1 z2 z3;subst z1;subst z2;subst z3;rw[<- hn]at h5;have e1:r.2.2=0:=by omega
  have e2:r.2.1=0:=by omega
  rw[e1,e2];rfl
 simp only[execOp,ho,Instr.sliceAt,D8,hu,Result.andThen_ok,Instr.slice,hv,Option.map_none,h3,hs,Sem.run_pure]
theorem ApO {fet:Fet} {x:A} {p:Nat×Mp} (h:mp? fet x=some p):x= .own p.1/\Jv fet p.1=some (.mp p.2):=by
 unfold mp? at h;split at h
 .split at h
  .rename_i l hg;injection h with h;subst h;exact⟨rfl,hg⟩
  .cases h
 .cases h
theorem AcL (hF:FOk O Jp m w fet) {x:A} {v:Value} {p:Nat×Mp} (hx:J8 O Jp m w v x) (h:mp? fet x=some p) :
 Jv Jp p.1=some (.mp p.2)/\v=m p.1/\NU O w p.1 (m p.1) p.2:=by
 obtain⟨rfl,hg⟩:=ApO h;obtain⟨h1,h2⟩:=hF _ _ hg;have hc:JF O Jp m w v (.own p.1):=hx;have hc:=hc.2;rw[h1]at hc;exact⟨h1,hc,h2⟩
theorem NU.lists {q:Nat} {v:Value} {l:Mp} (h:NU O w q v l): ∃ r es ck,v= .map (some r)/\w.heap[r]? =some (.map es ck)/\O r 0=some q/\es.toList.length=l.l.length /\
 (∀(i:Nat) (e:MapEntry) (p:l.kt.Val×l.vt.Val),es.toList[i]? =some e->l.l[i]? =some p->NT O w e.key (PD (l.kt.cells p.1))/\NT O w e.val (PD (l.vt.cells p.2))):=by grind[NU,NT,PD]
theorem AtT {n e:Nat} {frz:Bool} {l:Sl} (hg:Jv fet n=some (.arr e frz l)):rd fet (.own n)=([],l):=by grind[Jv,rd]
theorem AhX {x:A} (hok:J5 (rd fet x).1):(∃ n e frz l,x= .own n/\Jv fet n=some (.arr e frz l)/\(rd fet x).2=l)\/(x= .Lj/\(rd fet x).2=default)\/ ∃ l,x= .sl l/\(rd fet x).2=l:=by
 cases x with
 | own n =>
  cases hg:Jv fet n with
  | none=>simp_all[rd,Jv,J5]
  | some y =>
   cases y with
   | box cs=>simp_all[rd,Jv,J5]
   | arr e frz l=>grind[AtT,J5,rd,Jv]
   | mp l=>simp_all[rd,Jv,J5]
 | Lj=>exact .inr (.inl ⟨rfl,rfl⟩)
 | sl l=>exact .inr (.inr ⟨l,rfl,rfl⟩)
 | _=>simp_all[rd,J5,Jv]
theorem AtQ {x:A} {v:Value} (hf:FOk O Jp m w fet) (hx:J8 O Jp m w v x) (hok:J5 (rd fet x).1): ∃ ad c,v= .slice ad (rd fet x).2.xs.length c:=by
 rcases AhX hok with ⟨n,e,frz,l,rfl,hg,hl⟩ | ⟨rfl,hl⟩ | ⟨l,rfl,hl⟩<;>rw[hl]
 .obtain⟨h1,_,h2⟩:=hx.own hf hg;rw[<- Sl.KI];rcases h2 with ⟨_,h3,h4⟩ | ⟨_,g,cap,cur,h4,_⟩;all_goals simp_all[at',FOk,J8,J5,rd]
 .exact⟨none,0,hx⟩
 .have hx':Jw O w v (.sl l):=hx;cases hx' with
  | nil=>exact⟨none,0,rfl⟩
  | sl0 ad=>exact⟨some ad,0,rfl⟩
  | sl=>grind[Sl.KI]
theorem ApF {c:Call} {t:Nat} {x:Operand} (hC:TOk P C) (hf:FOk O Jp m w fet) (ho:o.op= .call c) (hcal:c.callee= .builtin .len) (hargs:c.args= #[x]) (hty:c.argTypes.toList=[t]) {x':A} (hx:J8 O Jp m w (a.eval x) x')
 (hok:J5 (Aek C fet t x').ok):Pure P O Jp m a w o (Aek C fet t x'):=by
 have hat:c.argTypes= #[t]:=by have:=congrArg List.toArray hty;simpa using this
 unfold Aek at hok ⊢;obtain⟨ti,ht,he⟩:=Kt hok;rw[he]at hok ⊢;have hu:=(hC.is ht).run w;split at hok
 .rename_i hd;rw[hd]at hu;obtain⟨s,hs,he⟩:=JL hok;rw[he]at hok ⊢;have:=xU hs;subst this;obtain⟨b,hb,hl⟩:=hx.str;subst hl;refine⟨⟨.int .i64 b.size,?_,?_⟩,rfl,rfl,rfl⟩
  .simp [execOp,ho,resolve,hcal,hargs,hat,invoke,builtin,Builtin.len_,hu,hb,goInt]
  .rw[Un];exact .mkInt _ _
 .rename_i n e hd;rw[hd]at hu;refine⟨⟨.int .i64 n,?_,.mkInt _ _⟩,rfl,rfl,rfl⟩;simp [execOp,ho,resolve,hcal,hargs,hat,invoke,builtin,Builtin.len_,hu,goInt]
 .rename_i e hd;rw[hd]at hu;split at hok
  .rename_i q k;obtain⟨cs,hb,he⟩:=JL hok;rw[he];have hc:JF O Jp m w (a.eval x) (.bsl q k):=hx;have hc:=hc.2;rw[(hf _ _ (KX hb)).1]at hc;obtain⟨b,base,_,hv⟩:=hc;refine⟨⟨.int .i64 (k:Int),?_,.mkInt _ _⟩,rfl,rfl,rfl⟩;simp [execOp,ho,resolve,hcal,hargs,hat,invoke,builtin,Builtin.len_,hu,hv,goInt]
  .rename_i y hne;obtain⟨ad,cp,hv⟩:=AtQ hf hx hok;refine⟨⟨.int .i64 (rd fet x').2.xs.length,?_,.mkInt _ _⟩,rfl,rfl,rfl⟩;simp [execOp,ho,resolve,hcal,hargs,hat,invoke,builtin,Builtin.len_,hu,hv,goInt]
 .rename_i kt et hd;rw[hd]at hu;obtain⟨p,hp,he⟩:=JL hok;rw[he]at hok ⊢;obtain⟨_,hv,hM⟩:=AcL hf hx hp;obtain⟨r,es,ck,h1,h2,h3,h4,h5⟩:=hM.lists;have hsz:(es.size:Int)=(p.2.l.length:Int):=by rw[<- h4,Array.length_toList]
  refine⟨⟨.int .i64 (p.2.l.length:Int),?_,.mkInt _ _⟩,rfl,rfl,rfl⟩;have hg:(getObj r).run P w= .ok (.map es ck) w:=by simp [getObj,Sem.run,h2]
  simp [execOp,ho,resolve,hcal,hargs,hat,invoke,builtin,Builtin.len_,hu,hv,h1,hg,hsz,goInt]
 .exact(JE hok).elim
theorem Aha {i:Nat} {x:Operand} (ho:o.op= .extract x i) {x':A} (hx:J8 O Jp m w (a.eval x) x') (hok:J5 (nJ i x').ok):Pure P O Jp m a w o (nJ i x'):=by
 unfold nJ at hok ⊢;obtain⟨l,hl,he⟩:=JL hok;rw[he]at hok ⊢;have:x'= .tup l:=by unfold Aum at hl;split at hl<;>simp_all
 subst this;obtain⟨vs,h1,h2,h3⟩:=hx;have hi:i<l.length:=by simpa [Dl.g,VC]using hok.cons.1
 refine⟨⟨vs.getD i undef,?_,(h3 i hi).toT⟩,rfl,rfl,rfl⟩;have:vs[i]? =some (vs.getD i undef):=by rw[Dn,D6 (by omega)];simp
 generalize vs.getD i undef=z at *
 simp only[execOp,ho,Instr.extract,h1,this,D8,Sem.run_pure,Result.andThen_ok]
end
end Go.Proofs.YtbgjmioccbacdaaGreatDoor.Vm
