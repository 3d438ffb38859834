/-
  RepositoryReorders: the law returns true whatever the input; machine, functions, plain law (26 files)
-/
import Derived.RowKit
import Derived.Laws.Sem
set_option linter.all false
namespace Go.Proofs.YtpaimpmokhihmaaGreatDoor
open Go
def Di:=@List.getD_eq_getElem?_getD
def Dj:=@Array.getD_eq_getD_getElem?
def Dk:=@Nat.eq_of_beq_eq_true
def Dn:=@Bool.and_eq_true
def Dp:=@List.mem_cons_self
def Dq:=@List.mem_cons_of_mem
def Dt:=@Array.getElem?_eq_getElem
def Du {c:Prop} {h:Decidable c} (n:¬c:=by omega) {α:Sort _} {t e:α}:(if c then t else e)=e:=if_neg n
def Dv:=@Sem.run_bind
def Ajk {c:Prop} {h:Decidable c} (n:c:=by omega) {α:Sort _} {t e:α}:(if c then t else e)=t:=if_pos n
def Dw {c:Prop} {h:Decidable c} (n:c) {α:Sort _} {t e:α}:(if c then t else e)=t:=if_pos n
def Dx:=@List.mem_append_left
def Dy:=@List.mem_append_right
def Dz:=@List.mem_cons
def D5:=@List.length_map
def D6:=@List.mem_map
def D7:=@Nat.le_of_ble_eq_true
def D8 {p:Prop} [Decidable p] (h:p):decide p=true:=decide_eq_true h
def D9:=@List.getElem?_eq_getElem
def DC:=@Nat.mul_le_mul_right
def DD:=@run_underlying
def DF:=@Nat.zero_add
def DI:=@List.mem_append
def DJ:=@Array.getElem?_toList
def DK:=@List.all_eq_true
def DL:=@Array.getElem?_eq_some_iff
def DN:=@List.getElem?_eq_none
def DR:=@Nat.le_refl
def DT:=@Nat.lt_or_ge
def DU:=@Nat.add_mul
def DV:=@List.getElem?_append_left
def DW:=@List.getElem?_map
def DX:=@List.mem_flatMap
def DY:=@List.map_cons
def DZ:=@Nat.blt_eq
def Ea:=@of_decide_eq_true
def Eb:=@List.getElem?_append_right
def Ec:=@List.length_replicate
def Ed:=@List.length_append
def Ee:=@List.mem_singleton
def Ef {p:Prop} [Decidable p] (h:¬p):decide p=false:=decide_eq_false h
def Eg:=@Nat.add_assoc
def Eh:=@decide_eq_true_eq
def Ei:=@Option.isSome_iff_exists
def Ej:=@Int.eq_ofNat_of_zero_le
def Em:=@Array.getElem?_append_left
def En:=@List.length_take
def Eo:=@Bool.not_eq_true'
def Ep:=@Array.getElem?_setIfInBounds
def Es:=@Nat.mul_one
def Et:=@List.map_append
def Eu:=@List.pairwise_cons
def Ew:=@List.map_congr_left
def Ey:=@List.getElem?_eq_some_iff
def Ez:=@Option.some.injEq
def E5:=@Array.getElem?_append_right
def E8:=@List.length_eq_one_iff
def EC:=@Array.ext
def ED:=@List.getElem?_set
def EE:=@List.getElem_mem
def EF:=@List.getElem_map
def EG:=@Nat.lt_of_lt_of_le
def EH:=@List.map_nil
def EI:=@List.getElem?_zip_eq_some
def EJ:=@Nat.zero_le
def EK:=@List.mem_range
def EL:=@List.length_drop
def EM:=@List.eq_of_mem_replicate
def EN:=@List.map_map
def EO:=@List.length_set
def EP:=@List.getElem?_drop
def ER:=@eq_of_beq
def ES:=@List.append_nil
def ET:=@Option.some.inj
def EU:=@List.append_assoc
def EW:=@Array.getElem?_modify
def EX:=@List.any_eq_true
def EY:=@List.mem_iff_getElem
def EZ:=@List.take_length
def Fa:=@List.getElem?_take_of_lt
def Fb:=@List.drop_drop
def Fe:=@Nat.add_sub_cancel_left
def Ff:=@Classical.axiomOfChoice
def Fg:=@Option.bind_eq_some_iff
def Fh:=@List.any_eq_false
def Fj:=@Array.getElem?_eq_none
def Fp:=@List.drop_eq_nil_of_le
def Fq:=@List.take_succ_eq_append_getElem
def Fv:=@List.mem_iff_getElem?
def Fz:=@Nat.ne_of_lt
def F5:=@List.mem_of_getElem?
def F6:=@List.eq_nil_of_length_eq_zero
def F7:=@List.map_id
def F8:=@List.getElem?_take
def F9:=@List.pairwise_map
def FB:=@List.nodup_append
def FC:=@List.mem_or_eq_of_mem_set
def FD:=@beq_iff_eq
def FH:=@List.drop_eq_getElem_cons
def FI:=@Array.toList_map
def FK:=@Nat.le_trans
def FM:=@Nat.zero_mul
def FN:=@Bool.or_true
def FO:=@List.isEmpty_iff
def FP:=@List.flatMap_eq_nil_iff
def FQ:=@List.pairwise_singleton
def FT:=@Nat.not_lt_zero
def FU:=@decide_true
def FV:=@List.mapM_cons
def FW:=@Nat.div_lt_iff_lt_mul
def FX:=@Array.mem_of_getElem?
def FY:=@List.mem_of_mem_take
def FZ:=@List.getElem?_append
def Gf:=@List.pairwise_append
def Gg:=@Bool.or_false
def Gh:=@List.getD_cons_zero
def Gi:=@Array.getElem?_push
def Gj:=@List.length_flatten
def Gl:=@beq_eq_false_iff_ne
def Gm:=@List.getElem?_range
def Gn:=@Array.foldl_toList
def Gp:=@Nat.lt_or_gt_of_ne
def Gq:=@Nat.mul_comm
def Gs:=@Nat.eq_zero_or_pos
def Gt:=@Array.append_assoc
def Gu:=@List.mem_filterMap
def Gv:=@eq_of_heq
def Gw:=@Int.tmod_lt_of_pos
def Gx:=@wp_mono
def Gy:=@List.flatMap_cons
def Gz:=@List.ext_getElem?
def G5:=@Nat.lt_trichotomy
def G6:=@List.length_range
def G7:=@Nat.mul_add
def G8:=@if_false
def G9:=@Nat.le_of_not_lt
def GG:=@Nat.zero_testBit
def GH:=@List.filter_cons
def GI:=@beq_self_eq_true
def GK:=@List.nodup_range
def GL:=@List.head?_drop
def GM:=@Nat.div_add_mod
def GN:=@Nat.min_eq_left
def GR:=@List.forIn_cons
def GU:=@Bool.or_eq_true
def GV:=@List.nodup_cons
def GX:=@List.range_succ
end Go.Proofs.YtpaimpmokhihmaaGreatDoor
namespace Go.Proofs.YtpaimpmokhihmaaGreatDoor.Vm
inductive Ty where
 | nil
 | bool (r:Ty)
 | int (k:IntKind) (r:Ty)
 | str (r:Ty)
 | sl (e:Nat) (t:Ty) (r:Ty)
 | ptr (r:Ty)
 | fn (r:Ty)
 | mp (kt vt:Ty) (r:Ty)
 deriving DecidableEq,Inhabited
namespace Ty
def pr (α :Type) (β :Type):Ty->Type
 | .nil=> α
 | _=> α × β
def Val:Ty->Type
 | .nil=>Unit
 | .bool r=>pr Bool r.Val r
 | .int _ r=>pr Int r.Val r
 | .str r=>pr (List UInt8) r.Val r
 | .sl _ t r=>pr (List t.Val) r.Val r
 | .ptr r=>r.Val
 | .fn r=>pr Nat r.Val r
 | .mp kt vt r=>pr (List (kt.Val×vt.Val)) r.Val r
def hd {α β :Type}:(r:Ty)->pr α β r-> α
 | .nil,a=>a
 | .bool _,p=>p.1
 | .int _ _,p=>p.1
 | .str _,p=>p.1
 | .sl _ _ _,p=>p.1
 | .ptr _,p=>p.1
 | .fn _,p=>p.1
 | .mp _ _ _,p=>p.1
def tl {α :Type}:(r:Ty)->pr α r.Val r->r.Val
 | .nil,_=>()
 | .bool _,p=>p.2
 | .int _ _,p=>p.2
 | .str _,p=>p.2
 | .sl _ _ _,p=>p.2
 | .ptr _,p=>p.2
 | .fn _,p=>p.2
 | .mp _ _ _,p=>p.2
def mk2 {α :Type}:(r:Ty)-> α ->r.Val->pr α r.Val r
 | .nil,a,_=>a
 | .bool _,a,b=>(a,b)
 | .int _ _,a,b=>(a,b)
 | .str _,a,b=>(a,b)
 | .sl _ _ _,a,b=>(a,b)
 | .ptr _,a,b=>(a,b)
 | .fn _,a,b=>(a,b)
 | .mp _ _ _,a,b=>(a,b)
def zero:(t:Ty)->t.Val
 | .nil=>()
 | .bool r=>mk2 r false r.zero
 | .int _ r=>mk2 r 0 r.zero
 | .str r=>mk2 r [] r.zero
 | .sl _ _ r=>mk2 r [] r.zero
 | .ptr r=>r.zero
 | .fn r=>mk2 r 0 r.zero
 | .mp _ _ r=>mk2 r [] r.zero
def len:Ty->Nat
 | .nil=>0
 | .bool r=>r.len+1
 | .int _ r=>r.len+1
 | .str r=>r.len+1
 | .sl _ _ r=>r.len+1
 | .ptr r=>r.len+1
 | .fn r=>r.len+1
 | .mp _ _ r=>r.len+1
end Ty
structure Sl where
 t:Ty
 xs:List t.Val
 deriving Inhabited
structure Mp where
 kt:Ty
 vt:Ty
 l:List (kt.Val×vt.Val)
 deriving Inhabited
inductive CK where
 | bool | int (k:IntKind) | str | sl (e:Nat) (t:Ty) | sln (e:Nat) (t:Ty) | ptr | fn | mp (kt vt:Ty) | bx (t:Ty) | oth
 deriving DecidableEq
inductive A where
 | undef
 | bool (b:Bool)
 | int (k:IntKind) (n:Int)
 | str (s:List UInt8)
 | sl (l:Sl)
 | sln (l:Sl)
 | usl (z:Bool) (e:Nat) (l:Sl)
 | KD
 | KQ
 | ptr (o off:Nat)
 | own (o:Nat)
 | elt (cs:List A)
 | KG (o i off:Nat)
 | agg (cs:List A)
 | tup (vs:List A)
 | box (cs:List A)
 | clo (f o:Nat)
 | cbx (f:Nat) (cs:List A)
 | bsl (o n:Nat)
 | osl (o k:Nat)
 | fn (f:Nat)
 | ump (l:Mp)
 | cnd (g:Bool) (v:A)
 deriving Inhabited
inductive Obj where
 | box (cs:List A)
 | arr (e:Nat) (frz:Bool) (l:Sl)
 | mp (l:Mp)
 deriving Inhabited
def Ty.cells:(t:Ty)->t.Val->List A
 | .nil,_=>[]
 | .bool r,v=>.bool (r.hd v)::r.cells (r.tl v)
 | .int k r,v=>.int k (r.hd v)::r.cells (r.tl v)
 | .str r,v=>.str (r.hd v)::r.cells (r.tl v)
 | .sl _ t r,v=>.sl ⟨t,r.hd v⟩::r.cells (r.tl v)
 | .ptr r,v=>.KQ::r.cells v
 | .fn r,v=>.fn (r.hd v)::r.cells (r.tl v)
 | .mp kt vt r,v=>.ump ⟨kt,vt,r.hd v⟩::r.cells (r.tl v)
def Sl.sz (l:Sl):Nat:=l.t.len
def Sl.es (l:Sl):List (List A):=l.xs.map l.t.cells
def Sl.at (l:Sl) (i:Nat):List A:=l.t.cells (l.xs.getD i l.t.zero)
def Sl.cast (l:Sl) (t:Ty):Option (List t.Val) :=
 match decEq l.t t with
 | .isTrue h=>some (h▸l.xs)
 | .isFalse _=>none
def Mp.cast (l:Mp) (kt vt:Ty):Option (List (kt.Val×vt.Val)) :=
 match decEq l.kt kt with
 | .isTrue h=>match decEq l.vt vt with
  | .isTrue h'=>some (h▸h'▸l.l)
  | .isFalse _=>none
 | .isFalse _=>none
structure St where
 tmps:List A
 Jm:List (Nat×Obj)
def Jr:List (Nat×Obj)->Nat->Option Obj
 | [],_=>none
 | (k,x)::r,n=>bif Nat.beq k n then some x else Jr r n
def OB:List (Nat×Obj)->Nat->List (Nat×Obj)
 | [],_=>[]
 | (k,x)::r,n=>bif Nat.beq k n then OB r n else(k,x)::OB r n
def Ul:List (Nat×Obj)->Nat->Obj->List (Nat×Obj)
 | [],n,y=>[(n,y)]
 | (k,x)::r,n,y=>bif Nat.ble n k then(n,y)::(k,x)::r else(k,x)::Ul r n y
def KI (l:List (Nat×Obj)) (n:Nat) (y:Obj):List (Nat×Obj):=Ul (OB l n) n y
def has (l:List Nat) (n:Nat):Bool:=l.any (Nat.beq n)
namespace A
def toB:A->Bool | .bool b=>b | _=>false
def isB:A->Bool | .bool _=>true | _=>false
def toI:A->Int | .int _ n=>n | _=>0
def kEq:IntKind->IntKind->Bool
 | .i8,.i8 | .i16,.i16 | .i32,.i32 | .i64,.i64 | .u8,.u8 | .u16,.u16 | .u32,.u32 | .u64,.u64=>true
 | _,_=>false
def isI (k:IntKind):A->Bool | .int k' _=>kEq k k' | _=>false
def toS:A->List UInt8 | .str s=>s | _=>[]
def isS:A->Bool | .str _=>true | _=>false
def toL:A->Sl | .sl l=>l | .sln l=>l | .usl _ _ l=>l | _=>default
def weak:A->A | .sln l=>.sl l | a=>a
def strong:A->A | .sl l=>.sln l | a=>a
def Aea:A->Bool | .sl _=>false | _=>true
def YO (t:Ty):A->Bool | .sln l=>decide (l.t=t) | _=>false
def lK (t:Ty):A->Bool | .sl l=>decide (l.t=t) | _=>false
def pW (z:Bool) (e:Nat) (t:Ty):A->Bool | .usl z' e' l=>(z==z')&&(Nat.beq e e'&&decide (l.t=t)) | _=>false
def VK:A->Bool | .KQ=>true | _=>false
def isFn:A->Bool | .fn _=>true | _=>false
def WZ (kt vt:Ty):A->Bool | .ump l=>decide (l.kt=kt)&&decide (l.vt=vt) | _=>false
def toM:A->Mp | .ump l=>l | _=>default
def Tq:A->List A | .agg cs=>cs | .box cs=>cs | .cbx _ cs=>cs | _=>[]
def Aac (f n:Nat):A->Bool | .cbx g cs=>Nat.beq f g&&Nat.beq cs.length n | _=>false
def isAgg (n:Nat):A->Bool | .agg cs=>Nat.beq cs.length n | _=>false
def Aab (n:Nat):A->Bool | .box cs=>Nat.beq cs.length n | _=>false
def isVal:A->Bool | .undef=>false | .tup _=>false | .usl _ _ _=>false | .ump _=>false | .box _=>false | .cbx _ _=>false | .cnd _ _=>false | _=>true
def cells:A->List A | .agg cs=>cs | v=>[v]
def strip:A->List Bool×A | .cnd g v=>([g],v) | v=>([],v)
def Nq:A->Bool×A | .cnd g v=>(g,v) | v=>(true,v)
def Ls:A->List Nat
 | .ptr o _=>[o] | .own o=>[o] | .KG o _ _=>[o] | .clo _ o=>[o] | .bsl o _=>[o] | .osl o _=>[o] | _=>[]
def Ags:A->List Nat
 | .agg cs=>cs.flatMap Ls
 | .cnd _ (.agg cs)=>cs.flatMap Ls
 | .cnd _ v=>Ls v
 | v=>Ls v
def ids:A->List Nat
 | .tup vs=>vs.flatMap Ags
 | v=>Ags v
end A
def Obj.ids:Obj->List Nat
 | .box cs=>cs.flatMap A.Ls
 | _=>[]
def St.ids (st:St):List Nat:=st.tmps.flatMap A.ids++st.Jm.flatMap (fun p=>p.2.ids)
def Su (n:Nat):Bool:=Nat.blt n 32768&&Nat.beq (n % 256) 0
def St.fresh (st:St) (n:Nat):Bool:= !(has st.ids n)&&(Jr st.Jm n).isNone&& !(Nat.beq n 255)&& !(Su n)
def force:CK->A->List Bool×A
 | .bool,c=>([c.isB],c)
 | .int k,c=>([c.isI k],c)
 | .str,c=>([c.isS],c)
 | .sl _ t,c=>([c.lK t],c)
 | .sln _ t,c=>([c.YO t],c)
 | .ptr,c=>([c.VK],c)
 | .fn,c=>([c.isFn],c)
 | .mp _ _,_=>([false],.undef)
 | .bx _,_=>([false],.undef)
 | .oth,_=>([],.undef)
def forces (cs:List A):List CK->Nat->List Bool×List A
 | [],_=>([],[])
 | k::ks,off=>((force k (cs.getD off .undef)).1++(forces cs ks (off+1)).1,(force k (cs.getD off .undef)).2::(forces cs ks (off+1)).2)
def CK.zero:CK->A
 | .bool=>.bool false
 | .int k=>.int k 0
 | .str=>.str []
 | .sl _ _=>.KD
 | .sln _ _=>.KD
 | .ptr=>.KQ
 | .fn=>.fn 0
 | .mp _ _=>.undef
 | .bx _=>.undef
 | .oth=>.undef
def CK.plain:CK->Bool | .oth=>false | .mp _ _=>false | .bx _=>false | _=>true
def CK.MI:CK->A
 | .sl _ t=>.sl ⟨t,[]⟩
 | .sln _ t=>.sl ⟨t,[]⟩
 | k=>k.zero
structure TI where
 d:TypeDesc
 cs:List CK
 bytes:Nat
 cmp:List CK:=[]
def tyl:List CK->Ty
 | []=>.nil
 | .bool::r=>.bool (tyl r)
 | .int k::r=>.int k (tyl r)
 | .str::r=>.str (tyl r)
 | .sl e t::r=>.sl e t (tyl r)
 | .sln e t::r=>.sl e t (tyl r)
 | .ptr::r=>.ptr (tyl r)
 | .fn::r=>.fn (tyl r)
 | .mp kt vt::r=>.mp kt vt (tyl r)
 | .bx t::r=>.sl 0 t (tyl r)
 | .oth::r=>.ptr (tyl r)
def tck:Ty->List CK
 | .nil=>[]
 | .bool r=>.bool::tck r
 | .int k r=>.int k::tck r
 | .str r=>.str::tck r
 | .sl e t r=>.sln e t::tck r
 | .ptr r=>.ptr::tck r
 | .fn r=>.fn::tck r
 | .mp kt vt r=>.mp kt vt::tck r
def Ty.mk:(t:Ty)->List A->Bool×t.Val
 | .nil=>fun cs=>(cs.isEmpty,())
 | .bool r=>fun
  | .bool b::cs=>((r.mk cs).1,r.mk2 b (r.mk cs).2)
  | _=>(false,Ty.zero (.bool r))
 | .int k r=>fun
  | .int j n::cs=>(A.kEq j k&&(r.mk cs).1,r.mk2 n (r.mk cs).2)
  | _=>(false,Ty.zero (.int k r))
 | .str r=>fun
  | .str s::cs=>((r.mk cs).1,r.mk2 s (r.mk cs).2)
  | _=>(false,Ty.zero (.str r))
 | .sl e t r=>fun
  | .sl l::cs=>match l.cast t with
   | some xs=>((r.mk cs).1,r.mk2 xs (r.mk cs).2)
   | none=>(false,Ty.zero (.sl e t r))
  | _=>(false,Ty.zero (.sl e t r))
 | .ptr r=>fun
  | .KQ::cs=>((r.mk cs).1,(r.mk cs).2)
  | _=>(false,Ty.zero (.ptr r))
 | .fn r=>fun
  | .fn n::cs=>((r.mk cs).1,r.mk2 n (r.mk cs).2)
  | _=>(false,Ty.zero (.fn r))
 | .mp kt vt r=>fun
  | .ump l::cs=>match l.cast kt vt with
   | some xs=>((r.mk cs).1,r.mk2 xs (r.mk cs).2)
   | none=>(false,Ty.zero (.mp kt vt r))
  | _=>(false,Ty.zero (.mp kt vt r))
def TI.agg (t:TI):Bool:=match t.d with | .struct _ | .array _ _=>true | _=>false
inductive Sh where
 | cell (u:Bool) (k:CK)
 | agg (cs:List (Bool×CK))
 | box (cs:List (Bool×CK))
 | map (kt vt:Ty)
 | clo (f:Nat) (cs:List (Bool×CK))
structure Sig where
 Jp:List Sh
 Jz:List Sh
 ok:List A->Bool
 val:List A->List A
def Sig.F (sg:Sig) (xs:List A):Option (List A):=bif sg.ok xs then some (sg.val xs)else none
structure Nrm where
 keep:List Nat
 nw:List (List Nat×Nat×Ty×Nat)
 pz:List (Option Nat×Nat×Ty)
 ren:List (Nat×Nat)
 frz:List Nat
abbrev Alt:=Sig×Sig×(List A->Bool)
structure Ctx where
 T:Nat->Option TI
 G:Nat->Option Sig
 nrm:Nat->Option Nrm
 alt:Nat->Option Alt
 dyn:Nat->Option (Nat->Sig)
 cuts:List Nat:=[]
 binds:List Nat:=[]
 dec:Nat->Option Bool:=fun _=>none
 spl:Nat->Option (Nat×Nat×List Nat):=fun _=>none
 kept:Nat->List (Nat×Nat):=fun _=>[]
def Ctx.decide (C:Ctx) (ds:List Nat) (b:Bool):Ctx:= {C with dec:=fun d=>bif has ds d then some b else C.dec d}
def Ctx.put (C:Ctx) (f:Nat) (s:Sig):Ctx:= {C with G:=fun k=>bif Nat.beq f k then some s else C.G k}
structure Dl where
 ok:List Bool
 val:A
 new:List (Nat×Obj):=[]
 upd:List (Nat×Obj):=[]
 del:List Nat:=[]
 same:List (Nat×Nat):=[]
def Dl.no:Dl:= {ok:=[false],val:=.undef}
def Dl.v (a:A):Dl:= {ok:=[],val:=a}
def Dl.g (b:List Bool) (a:A):Dl:= {ok:=b,val:=a}
def MR:Value->A
 | .bool b=>.bool b
 | .int k n=>.int k n
 | .string s=>.str s.data.toList
 | .slice none 0 0=>.KD
 | .pointer none=>.KQ
 | .nilFunc=>.fn 0
 | _=>.undef
def ofConst:Value->A
 | .agg vs=>bif vs.toList.all Value.oneCell' then .agg (vs.toList.map MR)else .undef
 | v=>MR v
abbrev Fet:=List (Nat×Obj)
def vI:CK->Sl->List Bool×A
 | .sln _ _,l=>([decide (0<l.xs.length)],.sln l)
 | _,l=>([],.sl l)
def AhY:CK->Sl->A
 | .sln _ _,l=>.sln l
 | _,l=>.sl l
def pur (fet:Fet) (k:CK):A->List Bool×A×List (Nat×Obj)
 | .own o=>match Jr fet o with
  | some (.arr e _ l)=>((vI k l).1,(vI k l).2,[(o,.arr e true l)])
  | _=>([false],.undef,[])
 | .KD=>match k with
  | .sl _ t=>([],.sl ⟨t,[]⟩,[])
  | .sln _ t=>([],.sln ⟨t,[]⟩,[])
  | _=>([false],.undef,[])
 | .sln l=>([],AhY k l,[])
 | .bool b=>([],.bool b,[])
 | .int j n=>([],.int j n,[])
 | .str s=>([],.str s,[])
 | .sl l=>((vI k l).1,(vI k l).2,[])
 | .KQ=>([],.KQ,[])
 | .fn n=>([],.fn n,[])
 | _=>([false],.undef,[])
def JV (fet:Fet):List CK->List A->List Bool×List A×List (Nat×Obj)
 | [],[]=>([],[],[])
 | k::ks,c::cs=>((pur fet k c).1++(JV fet ks cs).1,(pur fet k c).2.1::(JV fet ks cs).2.1,(pur fet k c).2.2++(JV fet ks cs).2.2)
 | _,_=>([false],[],[])
def Ky (id:Nat):List CK->List A->List A×List (Nat×Obj)
 | .sl e t::ks,.KD::cs=>(.own id::(Ky (id+1) ks cs).1,(id,.arr e false ⟨t,[]⟩)::(Ky (id+1) ks cs).2)
 | _::ks,c::cs=>(c::(Ky (id+1) ks cs).1,(Ky (id+1) ks cs).2)
 | _,cs=>(cs,[])
def rd (fet:Fet):A->List Bool×Sl
 | .own o=>match Jr fet o with
  | some (.arr _ _ l)=>([],l)
  | _=>([false],default)
 | .KD=>([],default)
 | .sl l=>([],l)
 | _=>([false],default)
def rdT (fet:Fet) (t:Ty):A->List Bool×List t.Val
 | .KD=>([],[])
 | x=>match (rd fet x).2.cast t with
  | some xs=>((rd fet x).1,xs)
  | none=>([false],[])
def OA:Ty:=.int .u8 .nil
def rdB (fet:Fet) (x:A):List Bool×List Int:=rdT fet OA x
def byteOf (n:Int):UInt8:=UInt8.ofNat n.toNat
def isByte (n:Int):Bool:=decide (0<=n)&&decide (n<256)
def LG (op:BinOp) (k:IntKind) (x y:Int):Int :=
 match op with
 | .and=>k.wrap (((BitVec.ofInt k.bits x) &&& (BitVec.ofInt k.bits y)).toNat)
 | .or=>k.wrap (((BitVec.ofInt k.bits x) ||| (BitVec.ofInt k.bits y)).toNat)
 | .xor=>k.wrap (((BitVec.ofInt k.bits x) ^^^ (BitVec.ofInt k.bits y)).toNat)
 | _=>k.wrap (((BitVec.ofInt k.bits x) &&& ~~~(BitVec.ofInt k.bits y)).toNat)
def aN (op:BinOp) (k:IntKind) (x y:Int):Dl :=
 match op with
 | .add=>.v (.int k (k.wrap (x+y)))
 | .sub=>.v (.int k (k.wrap (x - y)))
 | .mul=>.v (.int k (k.wrap (x*y)))
 | .quo=>.g [y != 0] (.int k (k.wrap (x.tdiv y)))
 | .rem=>.g [y != 0] (.int k (x.tmod y))
 | .and | .or | .xor | .andNot=>.v (.int k (LG op k x y))
 | .eql=>.v (.bool (x==y))
 | .neq=>.v (.bool (x != y))
 | .lss=>.v (.bool (decide (x<y)))
 | .leq=>.v (.bool (decide (x<=y)))
 | .gtr=>.v (.bool (decide (x>y)))
 | .geq=>.v (.bool (decide (x>=y)))
 | _=>.no
def bytesLess:List UInt8->List UInt8->Bool:=Go.Op.bytesLess
def aO (op:BinOp) (x y:List UInt8):Dl :=
 match op with
 | .add=>.g [decide (x.length+y.length<=140737488355328)] (.str (x++y))
 | .eql=>.v (.bool (x==y))
 | .neq=>.v (.bool (!(x==y)))
 | .lss=>.v (.bool (bytesLess x y))
 | .leq=>.v (.bool (bytesLess x y||x==y))
 | .gtr=>.v (.bool (!(bytesLess x y||x==y)))
 | .geq=>.v (.bool (!(bytesLess x y)))
 | _=>.no
def V4:CK->A->A->Bool×Bool
 | .bool,.bool a,.bool b=>(true,a==b)
 | .int k,.int i a,.int j b=>(A.kEq i k&&A.kEq j k,a==b)
 | .str,.str a,.str b=>(true,a==b)
 | _,_,_=>(false,false)
def Nu:List CK->List A->List A->Bool×Bool
 | [],[],[]=>(true,true)
 | k::ks,a::x,b::y=>((V4 k a b).1&&(Nu ks x y).1,(V4 k a b).2&&(Nu ks x y).2)
 | _,_,_=>(false,false)
def Ty.same:(t:Ty)->t.Val->t.Val->Bool
 | .nil,_,_=>true
 | .bool r,a,b=>(r.hd a==r.hd b)&&r.same (r.tl a) (r.tl b)
 | .int _ r,a,b=>(r.hd a==r.hd b)&&r.same (r.tl a) (r.tl b)
 | .str r,a,b=>(r.hd a==r.hd b)&&r.same (r.tl a) (r.tl b)
 | _,_,_=>false
def NY {β :Type} (t:Ty) (k:t.Val):List (t.Val× β)->Option β
 | []=>none
 | p::r=>bif t.same k p.1 then some p.2 else NY t k r
def P7 {β :Type} (t:Ty) (k:t.Val) (v: β):List (t.Val× β)->List (t.Val× β)
 | []=>[(k,v)]
 | p::r=>bif t.same k p.1 then(p.1,v)::r else p::P7 t k v r
def VQ {β :Type} (t:Ty) (k:t.Val):List (t.Val× β)->List (t.Val× β)
 | []=>[]
 | p::r=>bif t.same k p.1 then r else p::VQ t k r
def MW:List A->A
 | [c]=>c
 | cs=>.agg cs
def splice (l:List A) (off:Nat) (vs:List A):List A:=l.take off++vs++l.drop (off+vs.length)
def qL (C:Ctx) (d:TypeDesc) (f:Nat):Option (Nat×TI) :=
 match d with
 | .struct fs=>match fs.toList[f]? with
  | some x=>match C.T x.type with
   | some ti=>some (x.offset,ti)
   | none=>none
  | none=>none
 | _=>none
def dP:TypeDesc->Bool | .string=>true | _=>false
def SS:TypeDesc->Bool | .slice _=>true | .string=>true | _=>false
def uX:TypeDesc->Bool | .bool=>true | _=>false
def pU:TypeDesc->Bool | .int .u8=>true | _=>false
def iL (C:Ctx) (d:TypeDesc) (f:Nat):Option (Nat×TI) :=
 match d with
 | .struct fs=>match fs.toList[f]? with
  | some x=>match C.T x.type with
   | some ti=>some (x.offset,ti)
   | none=>none
  | none=>none
 | .array n e=>match C.T e with
  | some ti=>bif Nat.blt f n then some (f*ti.cs.length,ti)else none
  | none=>none
 | _=>none
def YW (ti:TI) (cs:List A) (off:Nat):A:=bif ti.agg then .agg ((cs.drop off).take ti.cs.length)else cs.getD off .undef
def fill (C:Ctx) (d:TypeDesc):List (Nat×A)->List A->Option (List A)
 | [],cs=>some cs
 | (i,v)::r,cs=>match iL C d i with
  | some (off,ti)=>bif v.isVal&&Nat.beq v.cells.length ti.cs.length&&Nat.ble (off+ti.cs.length) cs.length then fill C d r (splice cs off v.cells)else none
  | none=>none
def LZ (fet:Fet) (ti:TI) (t:Ty):List (Nat×A)->List t.Val->List Bool×List t.Val×List (Nat×Obj)
 | [],xs=>([],xs,[])
 | (i,v)::r,xs=>((JV fet ti.cs v.cells).1++[(t.mk (JV fet ti.cs v.cells).2.1).1,Nat.blt i xs.length]++(LZ fet ti t r (xs.set i (t.mk (JV fet ti.cs v.cells).2.1).2)).1,
     (LZ fet ti t r (xs.set i (t.mk (JV fet ti.cs v.cells).2.1).2)).2.1,(JV fet ti.cs v.cells).2.2++(LZ fet ti t r (xs.set i (t.mk (JV fet ti.cs v.cells).2.1).2)).2.2)
def Sl.set (l:Sl) (i off:Nat) (cs:List A):Bool×Sl:=((l.t.mk (splice (l.at i) off cs)).1,⟨l.t,l.xs.set i (l.t.mk (splice (l.at i) off cs)).2⟩)
def JR:Sh->Bool | .box _=>true | .map _ _=>true | .clo _ _=>true | _=>false
def KT (fet:Fet) (o:Nat):Option (List A):=match Jr fet o with | some (.box cs)=>some cs | _=>none
structure Arg where
 ok:List Bool
 a:A
 upd:List (Nat×Obj):=[]
 del:List Nat:=[]
 boxes:List (Nat×Sh):=[]
def Ju (fet:Fet):List (Bool×CK)->List A->List Bool×List A×List (Nat×Obj)×List Nat
 | [],[]=>([],[],[],[])
 | (false,k)::ks,c::cs=>((pur fet k c).1++(Ju fet ks cs).1,(pur fet k c).2.1::(Ju fet ks cs).2.1,(pur fet k c).2.2++(Ju fet ks cs).2.2.1,(Ju fet ks cs).2.2.2)
 | (true,.sl e t)::ks,.own o::cs=>match Jr fet o with
  | some (.arr e' _ l)=>([Nat.beq e e',decide (l.t=t)]++(Ju fet ks cs).1,.usl true e l::(Ju fet ks cs).2.1,(o,.arr e true l)::(Ju fet ks cs).2.2.1,o::(Ju fet ks cs).2.2.2)
  | _=>([false],[],[],[])
 | (true,.sl e t)::ks,.KD::cs=>((Ju fet ks cs).1,.usl true e ⟨t,[]⟩::(Ju fet ks cs).2.1,(Ju fet ks cs).2.2.1,(Ju fet ks cs).2.2.2)
 | (true,.sln e t)::ks,.own o::cs=>match Jr fet o with
  | some (.arr e' f l)=>([Nat.beq e e',decide (l.t=t),!f]++(Ju fet ks cs).1,.usl false e l::(Ju fet ks cs).2.1,(Ju fet ks cs).2.2.1,o::(Ju fet ks cs).2.2.2)
  | _=>([false],[],[],[])
 | (true,.sln e t)::ks,.KD::cs=>((Ju fet ks cs).1,.usl false e ⟨t,[]⟩::(Ju fet ks cs).2.1,(Ju fet ks cs).2.2.1,(Ju fet ks cs).2.2.2)
 | (true,.bx t)::ks,.ptr o off::cs=>match KT fet o with
  | some zs=>(Nat.beq off 0::(JV fet (tck t) zs).1++(Ju fet ks cs).1,.box (JV fet (tck t) zs).2.1::(Ju fet ks cs).2.1,(JV fet (tck t) zs).2.2++(Ju fet ks cs).2.2.1,o::(Ju fet ks cs).2.2.2)
  | none=>([false],[],[],[])
 | (true,.mp kt vt)::ks,.own o::cs=>match Jr fet o with
  | some (.mp l)=>([decide (l.kt=kt),decide (l.vt=vt)]++(Ju fet ks cs).1,.ump l::(Ju fet ks cs).2.1,(Ju fet ks cs).2.2.1,o::(Ju fet ks cs).2.2.2)
  | _=>([false],[],[],[])
 | _,_=>([false],[],[],[])
def wC:Bool×CK->Bool
 | (true,.sln _ _)=>true
 | _=>false
def wS:Sh->Bool
 | .cell u k=>wC (u,k)
 | .agg ks=>ks.any wC
 | .box ks=>ks.any wC
 | .clo _ ks=>ks.any wC
 | .map _ _=>false
def JD (fet:Fet):Sh->A->Arg
 | .cell u k,a=>match Ju fet [(u,k)] [a]with
  | (ok,[c],upd,del)=> {ok,a:=c,upd,del}
  | _=> {ok:=[false],a:=.undef}
 | .agg ks,.agg cs=>match Ju fet ks cs with
  | (ok,cs,upd,del)=> {ok,a:=.agg cs,upd,del}
 | .box ks,.ptr o off=>match KT fet o with
  | some cs=> {ok:=Nat.beq off 0::Nat.ble ks.length 200::(Ju fet ks cs).1,a:=.box (Ju fet ks cs).2.1,upd:=(Ju fet ks cs).2.2.1,del:=(Ju fet ks cs).2.2.2,boxes:=[(o,.box ks)]}
  | none=> {ok:=[false],a:=.undef}
 | .clo f ks,.clo g o=>match KT fet o with
  | some cs=> {ok:=Nat.beq f g::Nat.ble ks.length 200::(Ju fet ks cs).1,a:=.cbx g (Ju fet ks cs).2.1,upd:=(Ju fet ks cs).2.2.1,del:=(Ju fet ks cs).2.2.2,boxes:=[(o,.box ks)]}
  | none=> {ok:=[false],a:=.undef}
 | .map kt vt,.own o=>match Jr fet o with
  | some (.mp l)=> {ok:=[decide (l.kt=kt),decide (l.vt=vt)],a:=.ump l,boxes:=[(o,.map kt vt)]}
  | _=> {ok:=[false],a:=.undef}
 | _,_=> {ok:=[false],a:=.undef}
def J8 (fet:Fet):List Sh->List A->List Bool×List A×List (Nat×Obj)×List Nat×List (Nat×Sh)
 | [],[]=>([],[],[],[],[])
 | s::ss,a::aa=>((JD fet s a).ok++(J8 fet ss aa).1,(JD fet s a).a::(J8 fet ss aa).2.1,(JD fet s a).upd++(J8 fet ss aa).2.2.1,
  (JD fet s a).del++(J8 fet ss aa).2.2.2.1,(JD fet s a).boxes++(J8 fet ss aa).2.2.2.2)
 | _,_=>([false],[],[],[],[])
def J6 (id:Nat):List (Bool×CK)->List A->Nat->List Bool×List A×List (Nat×Obj)
 | [],_,_=>([],[],[])
 | (false,k)::ks,cs,j=>((force k (cs.getD j .undef)).1++(J6 id ks cs (j+1)).1,(force k (cs.getD j .undef)).2::(J6 id ks cs (j+1)).2.1,(J6 id ks cs (j+1)).2.2)
 | (true,.sl e t)::ks,cs,j=>((cs.getD j .undef).pW true e t::(J6 id ks cs (j+1)).1,.own (id+j)::(J6 id ks cs (j+1)).2.1,
     (id+j,.arr e true (cs.getD j .undef).toL)::(J6 id ks cs (j+1)).2.2)
 | (true,.sln e t)::ks,cs,j=>((cs.getD j .undef).pW false e t::(J6 id ks cs (j+1)).1,.own (id+j)::(J6 id ks cs (j+1)).2.1,
     (id+j,.arr e false (cs.getD j .undef).toL)::(J6 id ks cs (j+1)).2.2)
 | (true,.bx t)::ks,cs,j=>((cs.getD j .undef).Aab t.len::(J6 id ks cs (j+1)).1,.ptr (id+j) 0::(J6 id ks cs (j+1)).2.1,(id+j,.box (cs.getD j .undef).Tq)::(J6 id ks cs (j+1)).2.2)
 | (true,.mp kt vt)::ks,cs,j=>((cs.getD j .undef).WZ kt vt::(J6 id ks cs (j+1)).1,.own (id+j)::(J6 id ks cs (j+1)).2.1,(id+j,.mp (cs.getD j .undef).toM)::(J6 id ks cs (j+1)).2.2)
 | _,_,_=>([false],[],[])
def back (id:Nat):Sh->A->List Bool×A×List (Nat×Obj)
 | .cell u k,a=>((J6 id [(u,k)] [a] 0).1++[k.plain],(J6 id [(u,k)] [a] 0).2.1.getD 0 .undef,(J6 id [(u,k)] [a] 0).2.2)
 | .agg ks,a=>(Nat.ble ks.length 200::a.isAgg ks.length::(J6 (id+1) ks a.Tq 0).1,.agg (J6 (id+1) ks a.Tq 0).2.1,(J6 (id+1) ks a.Tq 0).2.2)
 | .box ks,a=>(Nat.ble ks.length 200::a.Aab ks.length::(J6 (id+1) ks a.Tq 0).1,.ptr id 0,(id,.box (J6 (id+1) ks a.Tq 0).2.1)::(J6 (id+1) ks a.Tq 0).2.2)
 | .map kt vt,a=>([a.WZ kt vt],.own id,[(id,.mp a.toM)])
 | .clo f ks,a=>(Nat.ble ks.length 200::a.Aac f ks.length::(J6 (id+1) ks a.Tq 0).1,.clo f id,(id,.box (J6 (id+1) ks a.Tq 0).2.1)::(J6 (id+1) ks a.Tq 0).2.2)
def Ko (id stride:Nat):List Sh->List A->Nat->List Bool×List A×List (Nat×Obj)
 | [],_,_=>([],[],[])
 | s::ss,rs,j=>((back (id+stride*j) s (rs.getD j .undef)).1++(Ko id stride ss rs (j+1)).1,(back (id+stride*j) s (rs.getD j .undef)).2.1::(Ko id stride ss rs (j+1)).2.1,
  (back (id+stride*j) s (rs.getD j .undef)).2.2++(Ko id stride ss rs (j+1)).2.2)
def LY (rb:Nat):Sh->A->List Bool×Obj×List (Nat×Obj)
 | .box ks,a=>(a.isAgg ks.length::(J6 (rb+1) ks a.Tq 0).1,.box (J6 (rb+1) ks a.Tq 0).2.1,(J6 (rb+1) ks a.Tq 0).2.2)
 | .map kt vt,a=>([a.WZ kt vt],.mp a.toM,[])
 | _,_=>([false],.box [],[])
def Kt (rb:Nat->Nat) (rs:List A):List (Nat×Sh)->Nat->List Bool×List (Nat×Obj)×List (Nat×Obj)
 | [],_=>([],[],[])
 | (o,s)::r,j=>((LY (rb o) s (rs.getD j .undef)).1++(Kt rb rs r (j+1)).1,
     (o,(LY (rb o) s (rs.getD j .undef)).2.1)::(Kt rb rs r (j+1)).2.1,(LY (rb o) s (rs.getD j .undef)).2.2++(Kt rb rs r (j+1)).2.2)
def Lh (fet:Fet) (o:Nat):Nat:=match KT fet o with
 | some cs=>bif cs.any (fun c=>c.Ls.any (fun i=>Nat.blt o i&&Nat.ble i (o+100)))then o+100 else o
 | none=>o
def nodup:List Nat->Bool
 | []=>true
 | n::r=> !(has r n)&&nodup r
def KC (id:Nat):List (Bool×CK)->List A->List (Nat×Nat)
 | (true,.sl _ _)::ks,.own o::cs=>(o,id)::KC (id+1) ks cs
 | (true,.sln _ _)::ks,.own o::cs=>(o,id)::KC (id+1) ks cs
 | (true,.bx _)::ks,.ptr o _::cs=>(o,id)::KC (id+1) ks cs
 | (true,.mp _ _)::ks,.own o::cs=>(o,id)::KC (id+1) ks cs
 | _::ks,_::cs=>KC (id+1) ks cs
 | _,_=>[]
def MK (fet:Fet) (id:Nat):Sh->A->List (Nat×Nat)
 | .cell u k,a=>KC id [(u,k)] [a]
 | .agg ks,.agg cs=>KC (id+1) ks cs
 | .box ks,.ptr o _=>(o,id)::(match KT fet o with | some cs=>KC (id+1) ks cs | none=>[])
 | .map _ _,.own o=>[(o,id)]
 | .clo _ ks,.clo _ o=>(o,id)::(match KT fet o with | some cs=>KC (id+1) ks cs | none=>[])
 | _,_=>[]
def LK (fet:Fet):Nat->Nat->List Sh->List A->List (Nat×Nat)
 | id,stride,s::ss,x::xs=>MK fet id s x++LK fet (id+stride) stride ss xs
 | _,_,_,_=>[]
end Go.Proofs.YtpaimpmokhihmaaGreatDoor.Vm
namespace Go.Proofs.YtpaimpmokhihmaaGreatDoor.Vm
def gZ:Nat->Option (IntKind×List Int)
 | 0=>some (.i64,[31,28,31,30,31,30,31,31,30,31,30,31])
 | _=>none
def Aih (j:Nat):Option (IntKind×List Int)->Option (Value->Prop)
 | some (k,ns)=>if j<ns.length then some (fun v=>v= .int k (ns.getD j 0))else none
 | none=>none
def Aew:Nat->Nat->Option (Value->Prop)
 | 1,0=>some (fun v=> ∃ m,v= .int .i64 m)
 | 2,j=>if j<20 then some (fun v=>v= .int .u64 ((10 ^ j:Nat):Int))else none
 | g,j=>Aih j (gZ g)
def Aii:Nat->Option Nat
 | 2=>some 20
 | _=>none
def AgM:Option (IntKind×List Int)->A
 | some (k,ns)=>.elt (ns.map (.int k))
 | none=>.undef
def Ahw {g:Nat} {q:IntKind×List Int} (h:gZ g=some q) (j:Nat):Aew g j=Aih j (some q):=by rw[<- h];unfold Aew;split<;>first | rfl | (exfalso;cases h;done)
end Go.Proofs.YtpaimpmokhihmaaGreatDoor.Vm
