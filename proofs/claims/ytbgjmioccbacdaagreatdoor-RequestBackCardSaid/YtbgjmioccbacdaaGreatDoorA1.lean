/-
  RequestBack: the law returns true whatever the input; machine, functions, plain law (27 files)
-/
import Derived.RowKit
import Derived.Laws.Sem
set_option linter.all false
namespace Go.Proofs.YtbgjmioccbacdaaGreatDoor
open Go
def Dj:=@List.getD_eq_getElem?_getD
def Dk {p:Prop} [Decidable p] (h:p:=by omega):decide p=true:=decide_eq_true h
def Dn:=@Array.getD_eq_getD_getElem?
def Dp:=@Nat.eq_of_beq_eq_true
def Dq:=@Bool.and_eq_true
def AvH {c:Prop} {h:Decidable c} (n:¬c:=by omega) {α:Sort _} {t e:α}:(if c then t else e)=e:=if_neg n
def Dt {c:Prop} {h:Decidable c} (n:¬c) {α:Sort _} {t e:α}:(if c then t else e)=e:=if_neg n
def Du:=@List.mem_cons_self
def Dv:=@List.length_append
def AvI {c:Prop} {h:Decidable c} (n:c:=by omega) {α:Sort _} {t e:α}:(if c then t else e)=t:=if_pos n
def Dw {c:Prop} {h:Decidable c} (n:c) {α:Sort _} {t e:α}:(if c then t else e)=t:=if_pos n
def Dx:=@List.length_map
def Dy:=@List.mem_cons_of_mem
def Dz:=@List.mem_cons
def D5:=@of_decide_eq_true
def D6:=@Array.getElem?_eq_getElem
def D7:=@List.all_eq_true
def D8:=@Sem.run_bind
def D9:=@List.getElem?_eq_getElem
def DC:=@List.mem_append_right
def DD:=@List.mem_append_left
def DF:=@List.mem_map
def DI:=@Nat.le_of_ble_eq_true
def DJ:=@decide_eq_true_eq
def DK:=@beq_self_eq_true
def DL:=@run_underlying
def DN:=@Nat.mul_le_mul_right
def DR:=@Nat.zero_add
def DT:=@Array.getElem?_eq_some_iff
def DU:=@List.mem_append
def DV {p:Prop} [Decidable p] (h:¬p):decide p=false:=decide_eq_false h
def DW:=@Nat.le_refl
def DX:=@List.mem_flatMap
def DY:=@Array.getElem?_toList
def DZ:=@List.getElem?_eq_none
def Ea:=@List.length_take
def Eb:=@List.map_cons
def Ec:=@Nat.lt_or_ge
def Ed:=@List.getElem?_map
def Ee:=@List.append_nil
def Ef:=@Bool.not_eq_true'
def Eg:=@List.append_assoc
def Eh:=@List.mem_singleton
def Ei:=@Nat.add_mul
def Ej:=@List.map_congr_left
def Em:=@List.getElem?_append_left
def Eo:=@List.length_replicate
def Ep:=@Nat.blt_eq
def Es:=@bne_self_eq_false
def Et:=@List.drop_eq_getElem_cons
def Eu:=@Bool.not_true
def Ew:=@List.length_drop
def Ez:=@Option.isSome_iff_exists
def E5:=@List.getElem?_append_right
def E8:=@Array.getElem?_append_left
def EC:=@List.pairwise_cons
def ED:=@List.not_mem_nil
def EE:=@Nat.add_assoc
def EF:=@Nat.zero_le
def EG:=@Bool.not_false
def EH:=@List.getD_cons_zero
def EI:=@List.take_length
def EJ:=@Bool.true_or
def EK:=@beq_iff_eq
def EL:=@List.take_of_length_le
def EM:=@Int.le_refl
def EN:=@of_decide_eq_false
def EO:=@List.map_map
def EP:=@Int.eq_ofNat_of_zero_le
def ER:=@List.mem_range
def ES:=@Nat.lt_of_lt_of_le
def ET:=@List.map_nil
def EU:=@Nat.mul_one
def EW:=@List.length_pos_iff
def EX:=@Array.getElem?_setIfInBounds
def EY:=@List.map_append
def EZ:=@List.getElem_mem
def Fa:=@List.getElem_map
def Fb:=@List.getElem?_eq_some_iff
def Fe:=@Array.ext
def Ff:=@Bool.or_true
def Fg:=@List.isEmpty_iff
def Fh:=@Option.some.injEq
def Fj:=@Array.getElem?_append_right
def Fp:=@Option.some.inj
def Fq:=@List.map_eq_nil_iff
def Fv:=@List.length_eq_one_iff
def Fz:=@List.any_eq_true
def F5:=@Bool.false_and
def F6:=@List.drop_zero
def F7:=@List.length_set
def F8:=@List.eq_of_mem_replicate
def F9:=@List.mem_iff_getElem
def FB:=@List.mem_of_getElem?
def FC:=@List.getElem?_set
def FD:=@List.flatMap_cons
def FH:=@List.length_range
def FI:=@List.take_add_one
def FK:=@Bool.or_false
def FM:=@List.take_append_of_le_length
def FN:=@or_false
def FO:=@List.drop_length
def FP:=@Array.getElem?_eq_none
def FQ:=@beq_false_of_ne
def FT:=@List.contains_iff_mem
def FU:=@List.range_succ
def FV:=@List.mem_or_eq_of_mem_set
def FW:=@List.getElem?_zip_eq_some
def FX:=@World.cell?_setCell_other
def FY:=@eq_of_beq
def FZ:=@World.cell?_setCell_same
def Gf:=@List.flatMap_append
def Gg:=@List.drop_succ_cons
def Gh:=@Bool.and_true
def Gi:=@List.getElem?_drop
def Gj:=@Nat.le_trans
def Gl:=@Array.getElem?_modify
def Gm:=@List.nodup_nil
def Gn:=@List.mem_of_mem_take
def Gp:=@bne_iff_ne
def Gq:=@List.map_id
def Gs:=@Bool.or_eq_true
def Gt:=@List.drop_left'
def Gu:=@if_false
def Gv:=@List.getElem?_take_of_lt
def Gw:=@List.mem_filterMap
def Gx:=@List.drop_drop
def Gy:=@Nat.add_sub_cancel_left
def Gz:=@Classical.axiomOfChoice
def G5:=@List.pairwise_singleton
def G6:=@Option.bind_eq_some_iff
def G7:=@List.any_eq_false
def G8:=@List.drop_eq_nil_of_le
def G9:=@Array.toList_inj
def GG:=@decide_false
def GH:=@Nat.ne_of_lt
def GI:=@List.pairwise_append
def GK:=@List.eq_nil_of_length_eq_zero
def GL:=@List.flatten_append
def GM:=@Bool.false_eq_true
def GN:=@UInt8.toNat_ofNat'
def GR:=@List.getElem?_take
def GU:=@Nat.eq_zero_or_pos
def GV:=@Bool.false_or
def GX:=@Int.tmod_eq_emod_of_nonneg
def GY:=@List.pairwise_iff_getElem
def GZ:=@dif_pos
def Ha:=@Array.toList_map
def He:=@Nat.mul_comm
def Hf:=@Nat.mod_eq_of_lt
def Hg:=@Nat.zero_mul
def Hl:=@Array.size_setIfInBounds
def Hm:=@Eq.trans
def Ho:=@Bool.or_not_self
def Hq:=@Bool.or_self
def Hr:=@List.flatMap_eq_nil_iff
def Ht:=@List.length_eq_zero_iff
def Hu:=@List.getElem?_replicate
def Hw:=@Nat.not_lt_zero
def Hy:=@decide_true
def Hz:=@Option.map_eq_some_iff
def H5:=@List.mapM_cons
def H6:=@Nat.div_lt_iff_lt_mul
def H7:=@Bool.cond_false_right
def H8:=@Bool.cond_self
def H9:=@List.take_append_drop
def HY:=@List.Perm.refl
def Ia:=@Array.mem_of_getElem?
def Ib:=@List.getElem?_append
def Ic:=@List.range_eq_range'
def Ie:=@List.mem_of_mem_drop
def Ig:=@Bool.cond_false_left
def Ih:=@Bool.cond_true_right
def Ii:=@Nat.lt_irrefl
def Ij:=@Bool.true_and
def Ik:=@Bool.and_self
def Il:=@List.cons.inj
def Io:=@Array.getElem?_push
def Ip:=@List.length_flatten
def Iq:=@List.mergeSort_perm
def Ir:=@List.getD_cons_succ
def Iu:=@Bool.cond_true_left
def Iw:=@List.getElem?_range
def Iy:=@Array.foldl_toList
def Iz:=@Nat.lt_or_gt_of_ne
def I4:=@Array.append_assoc
def I5:=@eq_of_heq
def I7:=@BitVec.toNat_ofNat
def I8:=@Int.tmod_lt_of_pos
def I9:=@if_true
def IA:=@wp_mono
def IB:=@List.ext_getElem?
def IE:=@List.pairwise_map
def IG:=@List.getElem_take
def II:=@Nat.mul_add
def IJ:=@Prod.mk.inj
def IK:=@Nat.le_of_not_lt
def IL:=@Nat.zero_testBit
def IM:=@Nat.shiftLeft_eq
def IP:=@Bool.not_or_self
def IQ:=@Prod.ext
def IU:=@List.le_antisymm
def IV:=@List.ext_getElem
def IW:=@List.head?_drop
def IX:=@Nat.div_add_mod
def IY:=@Nat.min_eq_left
def IZ:=@List.mem_filter
end Go.Proofs.YtbgjmioccbacdaaGreatDoor
namespace Go.Proofs.YtbgjmioccbacdaaGreatDoor.Vm
inductive Ty where
 | nil
 | bool (r:Ty)
 | int (k:IntKind) (r:Ty)
 | str (r:Ty)
 | sl (e:Nat) (t:Ty) (r:Ty)
 | ptr (r:Ty)
 | fn (r:Ty)
 | mp (kt vt:Ty) (r:Ty)
 deriving DecidableEq,Inhabited
namespace Ty
def pr (α :Type) (β :Type):Ty->Type
 | .nil=> α
 | _=> α × β
def Val:Ty->Type
 | .nil=>Unit
 | .bool r=>pr Bool r.Val r
 | .int _ r=>pr Int r.Val r
 | .str r=>pr (List UInt8) r.Val r
 | .sl _ t r=>pr (List t.Val) r.Val r
 | .ptr r=>r.Val
 | .fn r=>pr Nat r.Val r
 | .mp kt vt r=>pr (List (kt.Val×vt.Val)) r.Val r
def hd {α β :Type}:(r:Ty)->pr α β r-> α
 | .nil,a=>a
 | .bool _,p=>p.1
 | .int _ _,p=>p.1
 | .str _,p=>p.1
 | .sl _ _ _,p=>p.1
 | .ptr _,p=>p.1
 | .fn _,p=>p.1
 | .mp _ _ _,p=>p.1
def tl {α :Type}:(r:Ty)->pr α r.Val r->r.Val
 | .nil,_=>()
 | .bool _,p=>p.2
 | .int _ _,p=>p.2
 | .str _,p=>p.2
 | .sl _ _ _,p=>p.2
 | .ptr _,p=>p.2
 | .fn _,p=>p.2
 | .mp _ _ _,p=>p.2
def mk2 {α :Type}:(r:Ty)-> α ->r.Val->pr α r.Val r
 | .nil,a,_=>a
 | .bool _,a,b=>(a,b)
 | .int _ _,a,b=>(a,b)
 | .str _,a,b=>(a,b)
 | .sl _ _ _,a,b=>(a,b)
 | .ptr _,a,b=>(a,b)
 | .fn _,a,b=>(a,b)
 | .mp _ _ _,a,b=>(a,b)
def zero:(t:Ty)->t.Val
 | .nil=>()
 | .bool r=>mk2 r false r.zero
 | .int _ r=>mk2 r 0 r.zero
 | .str r=>mk2 r [] r.zero
 | .sl _ _ r=>mk2 r [] r.zero
 | .ptr r=>r.zero
 | .fn r=>mk2 r 0 r.zero
 | .mp _ _ r=>mk2 r [] r.zero
def len:Ty->Nat
 | .nil=>0
 | .bool r=>r.len+1
 | .int _ r=>r.len+1
 | .str r=>r.len+1
 | .sl _ _ r=>r.len+1
 | .ptr r=>r.len+1
 | .fn r=>r.len+1
 | .mp _ _ r=>r.len+1
end Ty
structure Sl where
 t:Ty
 xs:List t.Val
 deriving Inhabited
structure Mp where
 kt:Ty
 vt:Ty
 l:List (kt.Val×vt.Val)
 deriving Inhabited
inductive CK where
 | bool | int (k:IntKind) | str | sl (e:Nat) (t:Ty) | sln (e:Nat) (t:Ty) | ptr | fn | mp (kt vt:Ty) | bx (t:Ty) | oth
 deriving DecidableEq
inductive A where
 | undef
 | bool (b:Bool)
 | int (k:IntKind) (n:Int)
 | str (s:List UInt8)
 | sl (l:Sl)
 | sln (l:Sl)
 | usl (z:Bool) (e:Nat) (l:Sl)
 | Lj
 | LP
 | ptr (o off:Nat)
 | own (o:Nat)
 | elt (cs:List A)
 | Kq (o i off:Nat)
 | agg (cs:List A)
 | tup (vs:List A)
 | box (cs:List A)
 | clo (f o:Nat)
 | cbx (f:Nat) (cs:List A)
 | bsl (o n:Nat)
 | osl (o k:Nat)
 | fn (f:Nat)
 | ump (l:Mp)
 | cnd (g:Bool) (v:A)
 deriving Inhabited
inductive Obj where
 | box (cs:List A)
 | arr (e:Nat) (frz:Bool) (l:Sl)
 | mp (l:Mp)
 deriving Inhabited
def Ty.cells:(t:Ty)->t.Val->List A
 | .nil,_=>[]
 | .bool r,v=>.bool (r.hd v)::r.cells (r.tl v)
 | .int k r,v=>.int k (r.hd v)::r.cells (r.tl v)
 | .str r,v=>.str (r.hd v)::r.cells (r.tl v)
 | .sl _ t r,v=>.sl ⟨t,r.hd v⟩::r.cells (r.tl v)
 | .ptr r,v=>.LP::r.cells v
 | .fn r,v=>.fn (r.hd v)::r.cells (r.tl v)
 | .mp kt vt r,v=>.ump ⟨kt,vt,r.hd v⟩::r.cells (r.tl v)
def Sl.sz (l:Sl):Nat:=l.t.len
def Sl.es (l:Sl):List (List A):=l.xs.map l.t.cells
def Sl.at (l:Sl) (i:Nat):List A:=l.t.cells (l.xs.getD i l.t.zero)
def Sl.cast (l:Sl) (t:Ty):Option (List t.Val) :=
 match decEq l.t t with
 | .isTrue h=>some (h▸l.xs)
 | .isFalse _=>none
def Mp.cast (l:Mp) (kt vt:Ty):Option (List (kt.Val×vt.Val)) :=
 match decEq l.kt kt with
 | .isTrue h=>match decEq l.vt vt with
  | .isTrue h'=>some (h▸h'▸l.l)
  | .isFalse _=>none
 | .isFalse _=>none
structure St where
 tmps:List A
 Jp:List (Nat×Obj)
def Jv:List (Nat×Obj)->Nat->Option Obj
 | [],_=>none
 | (k,x)::r,n=>bif Nat.beq k n then some x else Jv r n
def SX:List (Nat×Obj)->Nat->List (Nat×Obj)
 | [],_=>[]
 | (k,x)::r,n=>bif Nat.beq k n then SX r n else(k,x)::SX r n
def YY:List (Nat×Obj)->Nat->Obj->List (Nat×Obj)
 | [],n,y=>[(n,y)]
 | (k,x)::r,n,y=>bif Nat.ble n k then(n,y)::(k,x)::r else(k,x)::YY r n y
def L9 (l:List (Nat×Obj)) (n:Nat) (y:Obj):List (Nat×Obj):=YY (SX l n) n y
def has (l:List Nat) (n:Nat):Bool:=l.any (Nat.beq n)
namespace A
def toB:A->Bool | .bool b=>b | _=>false
def isB:A->Bool | .bool _=>true | _=>false
def toI:A->Int | .int _ n=>n | _=>0
def kEq:IntKind->IntKind->Bool
 | .i8,.i8 | .i16,.i16 | .i32,.i32 | .i64,.i64 | .u8,.u8 | .u16,.u16 | .u32,.u32 | .u64,.u64=>true
 | _,_=>false
def isI (k:IntKind):A->Bool | .int k' _=>kEq k k' | _=>false
def toS:A->List UInt8 | .str s=>s | _=>[]
def isS:A->Bool | .str _=>true | _=>false
def toL:A->Sl | .sl l=>l | .sln l=>l | .usl _ _ l=>l | _=>default
def weak:A->A | .sln l=>.sl l | a=>a
def strong:A->A | .sl l=>.sln l | a=>a
def AlG:A->Bool | .sl _=>false | _=>true
def nZ (t:Ty):A->Bool | .sln l=>decide (l.t=t) | _=>false
def AaU (t:Ty):A->Bool | .sl l=>decide (l.t=t) | _=>false
def Ac5 (z:Bool) (e:Nat) (t:Ty):A->Bool | .usl z' e' l=>(z==z')&&(Nat.beq e e'&&decide (l.t=t)) | _=>false
def bF:A->Bool | .LP=>true | _=>false
def isFn:A->Bool | .fn _=>true | _=>false
def dZ (kt vt:Ty):A->Bool | .ump l=>decide (l.kt=kt)&&decide (l.vt=vt) | _=>false
def toM:A->Mp | .ump l=>l | _=>default
def Yx:A->List A | .agg cs=>cs | .box cs=>cs | .cbx _ cs=>cs | _=>[]
def Ags (f n:Nat):A->Bool | .cbx g cs=>Nat.beq f g&&Nat.beq cs.length n | _=>false
def isAgg (n:Nat):A->Bool | .agg cs=>Nat.beq cs.length n | _=>false
def Agr (n:Nat):A->Bool | .box cs=>Nat.beq cs.length n | _=>false
def isVal:A->Bool | .undef=>false | .tup _=>false | .usl _ _ _=>false | .ump _=>false | .box _=>false | .cbx _ _=>false | .cnd _ _=>false | _=>true
def cells:A->List A | .agg cs=>cs | v=>[v]
def strip:A->List Bool×A | .cnd g v=>([g],v) | v=>([],v)
def Qr:A->Bool×A | .cnd g v=>(g,v) | v=>(true,v)
def Nc:A->List Nat
 | .ptr o _=>[o] | .own o=>[o] | .Kq o _ _=>[o] | .clo _ o=>[o] | .bsl o _=>[o] | .osl o _=>[o] | _=>[]
def Ap7:A->List Nat
 | .agg cs=>cs.flatMap Nc
 | .cnd _ (.agg cs)=>cs.flatMap Nc
 | .cnd _ v=>Nc v
 | v=>Nc v
def ids:A->List Nat
 | .tup vs=>vs.flatMap Ap7
 | v=>Ap7 v
end A
def Obj.ids:Obj->List Nat
 | .box cs=>cs.flatMap A.Nc
 | _=>[]
def St.ids (st:St):List Nat:=st.tmps.flatMap A.ids++st.Jp.flatMap (fun p=>p.2.ids)
def XF (n:Nat):Bool:=Nat.blt n 32768&&Nat.beq (n % 256) 0
def St.fresh (st:St) (n:Nat):Bool:= !(has st.ids n)&&(Jv st.Jp n).isNone&& !(Nat.beq n 255)&& !(XF n)
def force:CK->A->List Bool×A
 | .bool,c=>([c.isB],c)
 | .int k,c=>([c.isI k],c)
 | .str,c=>([c.isS],c)
 | .sl _ t,c=>([c.AaU t],c)
 | .sln _ t,c=>([c.nZ t],c)
 | .ptr,c=>([c.bF],c)
 | .fn,c=>([c.isFn],c)
 | .mp _ _,_=>([false],.undef)
 | .bx _,_=>([false],.undef)
 | .oth,_=>([],.undef)
def forces (cs:List A):List CK->Nat->List Bool×List A
 | [],_=>([],[])
 | k::ks,off=>((force k (cs.getD off .undef)).1++(forces cs ks (off+1)).1,(force k (cs.getD off .undef)).2::(forces cs ks (off+1)).2)
def CK.zero:CK->A
 | .bool=>.bool false
 | .int k=>.int k 0
 | .str=>.str []
 | .sl _ _=>.Lj
 | .sln _ _=>.Lj
 | .ptr=>.LP
 | .fn=>.fn 0
 | .mp _ _=>.undef
 | .bx _=>.undef
 | .oth=>.undef
def CK.plain:CK->Bool | .oth=>false | .mp _ _=>false | .bx _=>false | _=>true
def CK.OZ:CK->A
 | .sl _ t=>.sl ⟨t,[]⟩
 | .sln _ t=>.sl ⟨t,[]⟩
 | k=>k.zero
structure TI where
 d:TypeDesc
 cs:List CK
 bytes:Nat
 cmp:List CK:=[]
def tyl:List CK->Ty
 | []=>.nil
 | .bool::r=>.bool (tyl r)
 | .int k::r=>.int k (tyl r)
 | .str::r=>.str (tyl r)
 | .sl e t::r=>.sl e t (tyl r)
 | .sln e t::r=>.sl e t (tyl r)
 | .ptr::r=>.ptr (tyl r)
 | .fn::r=>.fn (tyl r)
 | .mp kt vt::r=>.mp kt vt (tyl r)
 | .bx t::r=>.sl 0 t (tyl r)
 | .oth::r=>.ptr (tyl r)
def tck:Ty->List CK
 | .nil=>[]
 | .bool r=>.bool::tck r
 | .int k r=>.int k::tck r
 | .str r=>.str::tck r
 | .sl e t r=>.sln e t::tck r
 | .ptr r=>.ptr::tck r
 | .fn r=>.fn::tck r
 | .mp kt vt r=>.mp kt vt::tck r
def Ty.mk:(t:Ty)->List A->Bool×t.Val
 | .nil=>fun cs=>(cs.isEmpty,())
 | .bool r=>fun
  | .bool b::cs=>((r.mk cs).1,r.mk2 b (r.mk cs).2)
  | _=>(false,Ty.zero (.bool r))
 | .int k r=>fun
  | .int j n::cs=>(A.kEq j k&&(r.mk cs).1,r.mk2 n (r.mk cs).2)
  | _=>(false,Ty.zero (.int k r))
 | .str r=>fun
  | .str s::cs=>((r.mk cs).1,r.mk2 s (r.mk cs).2)
  | _=>(false,Ty.zero (.str r))
 | .sl e t r=>fun
  | .sl l::cs=>match l.cast t with
   | some xs=>((r.mk cs).1,r.mk2 xs (r.mk cs).2)
   | none=>(false,Ty.zero (.sl e t r))
  | _=>(false,Ty.zero (.sl e t r))
 | .ptr r=>fun
  | .LP::cs=>((r.mk cs).1,(r.mk cs).2)
  | _=>(false,Ty.zero (.ptr r))
 | .fn r=>fun
  | .fn n::cs=>((r.mk cs).1,r.mk2 n (r.mk cs).2)
  | _=>(false,Ty.zero (.fn r))
 | .mp kt vt r=>fun
  | .ump l::cs=>match l.cast kt vt with
   | some xs=>((r.mk cs).1,r.mk2 xs (r.mk cs).2)
   | none=>(false,Ty.zero (.mp kt vt r))
  | _=>(false,Ty.zero (.mp kt vt r))
def TI.agg (t:TI):Bool:=match t.d with | .struct _ | .array _ _=>true | _=>false
inductive Sh where
 | cell (u:Bool) (k:CK)
 | agg (cs:List (Bool×CK))
 | box (cs:List (Bool×CK))
 | map (kt vt:Ty)
 | clo (f:Nat) (cs:List (Bool×CK))
structure Sig where
 Js:List Sh
 J7:List Sh
 ok:List A->Bool
 val:List A->List A
def Sig.F (sg:Sig) (xs:List A):Option (List A):=bif sg.ok xs then some (sg.val xs)else none
structure Nrm where
 keep:List Nat
 nw:List (List Nat×Nat×Ty×Nat)
 pz:List (Option Nat×Nat×Ty)
 ren:List (Nat×Nat)
 frz:List Nat
abbrev Alt:=Sig×Sig×(List A->Bool)
structure Ctx where
 T:Nat->Option TI
 G:Nat->Option Sig
 nrm:Nat->Option Nrm
 alt:Nat->Option Alt
 dyn:Nat->Option (Nat->Sig)
 cuts:List Nat:=[]
 binds:List Nat:=[]
 dec:Nat->Option Bool:=fun _=>none
 spl:Nat->Option (Nat×Nat×List Nat):=fun _=>none
 kept:Nat->List (Nat×Nat):=fun _=>[]
 each:Nat->List (Nat×Bool)->Option Sig:=fun _ _=>none
 Abh:Nat->Option (Nat×Sig):=fun _=>none
def Ctx.decide (C:Ctx) (ds:List Nat) (b:Bool):Ctx:= {C with dec:=fun d=>bif has ds d then some b else C.dec d}
def Ctx.put (C:Ctx) (f:Nat) (s:Sig):Ctx:= {C with G:=fun k=>bif Nat.beq f k then some s else C.G k}
structure Dl where
 ok:List Bool
 val:A
 new:List (Nat×Obj):=[]
 upd:List (Nat×Obj):=[]
 del:List Nat:=[]
 same:List (Nat×Nat):=[]
def Dl.no:Dl:= {ok:=[false],val:=.undef}
def Dl.v (a:A):Dl:= {ok:=[],val:=a}
def Dl.g (b:List Bool) (a:A):Dl:= {ok:=b,val:=a}
def Pz:Value->A
 | .bool b=>.bool b
 | .int k n=>.int k n
 | .string s=>.str s.data.toList
 | .slice none 0 0=>.Lj
 | .pointer none=>.LP
 | .nilFunc=>.fn 0
 | _=>.undef
def ofConst:Value->A
 | .agg vs=>bif vs.toList.all Value.oneCell' then .agg (vs.toList.map Pz)else .undef
 | v=>Pz v
abbrev Fet:=List (Nat×Obj)
def W9:CK->Sl->List Bool×A
 | .sln _ _,l=>([decide (0<l.xs.length)],.sln l)
 | _,l=>([],.sl l)
def AtI:CK->Sl->A
 | .sln _ _,l=>.sln l
 | _,l=>.sl l
def pur (fet:Fet) (k:CK):A->List Bool×A×List (Nat×Obj)
 | .own o=>match Jv fet o with
  | some (.arr e _ l)=>((W9 k l).1,(W9 k l).2,[(o,.arr e true l)])
  | _=>([false],.undef,[])
 | .Lj=>match k with
  | .sl _ t=>([],.sl ⟨t,[]⟩,[])
  | .sln _ t=>([],.sln ⟨t,[]⟩,[])
  | _=>([false],.undef,[])
 | .sln l=>([],AtI k l,[])
 | .bool b=>([],.bool b,[])
 | .int j n=>([],.int j n,[])
 | .str s=>([],.str s,[])
 | .sl l=>((W9 k l).1,(W9 k l).2,[])
 | .LP=>([],.LP,[])
 | .fn n=>([],.fn n,[])
 | _=>([false],.undef,[])
def KF (fet:Fet):List CK->List A->List Bool×List A×List (Nat×Obj)
 | [],[]=>([],[],[])
 | k::ks,c::cs=>((pur fet k c).1++(KF fet ks cs).1,(pur fet k c).2.1::(KF fet ks cs).2.1,(pur fet k c).2.2++(KF fet ks cs).2.2)
 | _,_=>([false],[],[])
def KY (id:Nat):List CK->List A->List A×List (Nat×Obj)
 | .sl e t::ks,.Lj::cs=>(.own id::(KY (id+1) ks cs).1,(id,.arr e false ⟨t,[]⟩)::(KY (id+1) ks cs).2)
 | _::ks,c::cs=>(c::(KY (id+1) ks cs).1,(KY (id+1) ks cs).2)
 | _,cs=>(cs,[])
def rd (fet:Fet):A->List Bool×Sl
 | .own o=>match Jv fet o with
  | some (.arr _ _ l)=>([],l)
  | _=>([false],default)
 | .Lj=>([],default)
 | .sl l=>([],l)
 | _=>([false],default)
def rdT (fet:Fet) (t:Ty):A->List Bool×List t.Val
 | .Lj=>([],[])
 | x=>match (rd fet x).2.cast t with
  | some xs=>((rd fet x).1,xs)
  | none=>([false],[])
def SL:Ty:=.int .u8 .nil
def rdB (fet:Fet) (x:A):List Bool×List Int:=rdT fet SL x
def byteOf (n:Int):UInt8:=UInt8.ofNat n.toNat
def isByte (n:Int):Bool:=decide (0<=n)&&decide (n<256)
def JJ (op:BinOp) (k:IntKind) (x y:Int):Int :=
 match op with
 | .and=>k.wrap (((BitVec.ofInt k.bits x) &&& (BitVec.ofInt k.bits y)).toNat)
 | .or=>k.wrap (((BitVec.ofInt k.bits x) ||| (BitVec.ofInt k.bits y)).toNat)
 | .xor=>k.wrap (((BitVec.ofInt k.bits x) ^^^ (BitVec.ofInt k.bits y)).toNat)
 | _=>k.wrap (((BitVec.ofInt k.bits x) &&& ~~~(BitVec.ofInt k.bits y)).toNat)
def sU (op:BinOp) (k:IntKind) (x y:Int):Dl :=
 match op with
 | .add=>.v (.int k (k.wrap (x+y)))
 | .sub=>.v (.int k (k.wrap (x - y)))
 | .mul=>.v (.int k (k.wrap (x*y)))
 | .quo=>.g [y != 0] (.int k (k.wrap (x.tdiv y)))
 | .rem=>.g [y != 0] (.int k (x.tmod y))
 | .and | .or | .xor | .andNot=>.v (.int k (JJ op k x y))
 | .eql=>.v (.bool (x==y))
 | .neq=>.v (.bool (x != y))
 | .lss=>.v (.bool (decide (x<y)))
 | .leq=>.v (.bool (decide (x<=y)))
 | .gtr=>.v (.bool (decide (x>y)))
 | .geq=>.v (.bool (decide (x>=y)))
 | _=>.no
def bytesLess:List UInt8->List UInt8->Bool:=Go.Op.bytesLess
def sV (op:BinOp) (x y:List UInt8):Dl :=
 match op with
 | .add=>.g [decide (x.length+y.length<=140737488355328)] (.str (x++y))
 | .eql=>.v (.bool (x==y))
 | .neq=>.v (.bool (!(x==y)))
 | .lss=>.v (.bool (bytesLess x y))
 | .leq=>.v (.bool (bytesLess x y||x==y))
 | .gtr=>.v (.bool (!(bytesLess x y||x==y)))
 | .geq=>.v (.bool (!(bytesLess x y)))
 | _=>.no
def ZY:CK->A->A->Bool×Bool
 | .bool,.bool a,.bool b=>(true,a==b)
 | .int k,.int i a,.int j b=>(A.kEq i k&&A.kEq j k,a==b)
 | .str,.str a,.str b=>(true,a==b)
 | _,_,_=>(false,false)
def Qv:List CK->List A->List A->Bool×Bool
 | [],[],[]=>(true,true)
 | k::ks,a::x,b::y=>((ZY k a b).1&&(Qv ks x y).1,(ZY k a b).2&&(Qv ks x y).2)
 | _,_,_=>(false,false)
def Ty.same:(t:Ty)->t.Val->t.Val->Bool
 | .nil,_,_=>true
 | .bool r,a,b=>(r.hd a==r.hd b)&&r.same (r.tl a) (r.tl b)
 | .int _ r,a,b=>(r.hd a==r.hd b)&&r.same (r.tl a) (r.tl b)
 | .str r,a,b=>(r.hd a==r.hd b)&&r.same (r.tl a) (r.tl b)
 | _,_,_=>false
def TR {β :Type} (t:Ty) (k:t.Val):List (t.Val× β)->Option β
 | []=>none
 | p::r=>bif t.same k p.1 then some p.2 else TR t k r
def Zg {β :Type} (t:Ty) (k:t.Val) (v: β):List (t.Val× β)->List (t.Val× β)
 | []=>[(k,v)]
 | p::r=>bif t.same k p.1 then(p.1,v)::r else p::Zg t k v r
def iE {β :Type} (t:Ty) (k:t.Val):List (t.Val× β)->List (t.Val× β)
 | []=>[]
 | p::r=>bif t.same k p.1 then r else p::iE t k r
def PD:List A->A
 | [c]=>c
 | cs=>.agg cs
def splice (l:List A) (off:Nat) (vs:List A):List A:=l.take off++vs++l.drop (off+vs.length)
def AcX (C:Ctx) (d:TypeDesc) (f:Nat):Option (Nat×TI) :=
 match d with
 | .struct fs=>match fs.toList[f]? with
  | some x=>match C.T x.type with
   | some ti=>some (x.offset,ti)
   | none=>none
  | none=>none
 | _=>none
def vS:TypeDesc->Bool | .string=>true | _=>false
def Yk:TypeDesc->Bool | .slice _=>true | .string=>true | _=>false
def Aei:TypeDesc->Bool | .bool=>true | _=>false
def Ac3:TypeDesc->Bool | .int .u8=>true | _=>false
def yO (C:Ctx) (d:TypeDesc) (f:Nat):Option (Nat×TI) :=
 match d with
 | .struct fs=>match fs.toList[f]? with
  | some x=>match C.T x.type with
   | some ti=>some (x.offset,ti)
   | none=>none
  | none=>none
 | .array n e=>match C.T e with
  | some ti=>bif Nat.blt f n then some (f*ti.cs.length,ti)else none
  | none=>none
 | _=>none
def oN (ti:TI) (cs:List A) (off:Nat):A:=bif ti.agg then .agg ((cs.drop off).take ti.cs.length)else cs.getD off .undef
def fill (C:Ctx) (d:TypeDesc):List (Nat×A)->List A->Option (List A)
 | [],cs=>some cs
 | (i,v)::r,cs=>match yO C d i with
  | some (off,ti)=>bif v.isVal&&Nat.beq v.cells.length ti.cs.length&&Nat.ble (off+ti.cs.length) cs.length then fill C d r (splice cs off v.cells)else none
  | none=>none
def O7 (fet:Fet) (ti:TI) (t:Ty):List (Nat×A)->List t.Val->List Bool×List t.Val×List (Nat×Obj)
 | [],xs=>([],xs,[])
 | (i,v)::r,xs=>((KF fet ti.cs v.cells).1++[(t.mk (KF fet ti.cs v.cells).2.1).1,Nat.blt i xs.length]++(O7 fet ti t r (xs.set i (t.mk (KF fet ti.cs v.cells).2.1).2)).1,
     (O7 fet ti t r (xs.set i (t.mk (KF fet ti.cs v.cells).2.1).2)).2.1,(KF fet ti.cs v.cells).2.2++(O7 fet ti t r (xs.set i (t.mk (KF fet ti.cs v.cells).2.1).2)).2.2)
def Sl.set (l:Sl) (i off:Nat) (cs:List A):Bool×Sl:=((l.t.mk (splice (l.at i) off cs)).1,⟨l.t,l.xs.set i (l.t.mk (splice (l.at i) off cs)).2⟩)
def KD:Sh->Bool | .box _=>true | .map _ _=>true | .clo _ _=>true | _=>false
def Lp (fet:Fet) (o:Nat):Option (List A):=match Jv fet o with | some (.box cs)=>some cs | _=>none
structure Arg where
 ok:List Bool
 a:A
 upd:List (Nat×Obj):=[]
 del:List Nat:=[]
 boxes:List (Nat×Sh):=[]
def J3 (fet:Fet):List (Bool×CK)->List A->List Bool×List A×List (Nat×Obj)×List Nat
 | [],[]=>([],[],[],[])
 | (false,k)::ks,c::cs=>((pur fet k c).1++(J3 fet ks cs).1,(pur fet k c).2.1::(J3 fet ks cs).2.1,(pur fet k c).2.2++(J3 fet ks cs).2.2.1,(J3 fet ks cs).2.2.2)
 | (true,.sl e t)::ks,.own o::cs=>match Jv fet o with
  | some (.arr e' _ l)=>([Nat.beq e e',decide (l.t=t)]++(J3 fet ks cs).1,.usl true e l::(J3 fet ks cs).2.1,(o,.arr e true l)::(J3 fet ks cs).2.2.1,o::(J3 fet ks cs).2.2.2)
  | _=>([false],[],[],[])
 | (true,.sl e t)::ks,.Lj::cs=>((J3 fet ks cs).1,.usl true e ⟨t,[]⟩::(J3 fet ks cs).2.1,(J3 fet ks cs).2.2.1,(J3 fet ks cs).2.2.2)
 | (true,.sln e t)::ks,.own o::cs=>match Jv fet o with
  | some (.arr e' f l)=>([Nat.beq e e',decide (l.t=t),!f]++(J3 fet ks cs).1,.usl false e l::(J3 fet ks cs).2.1,(J3 fet ks cs).2.2.1,o::(J3 fet ks cs).2.2.2)
  | _=>([false],[],[],[])
 | (true,.sln e t)::ks,.Lj::cs=>((J3 fet ks cs).1,.usl false e ⟨t,[]⟩::(J3 fet ks cs).2.1,(J3 fet ks cs).2.2.1,(J3 fet ks cs).2.2.2)
 | (true,.bx t)::ks,.ptr o off::cs=>match Lp fet o with
  | some zs=>(Nat.beq off 0::(KF fet (tck t) zs).1++(J3 fet ks cs).1,.box (KF fet (tck t) zs).2.1::(J3 fet ks cs).2.1,(KF fet (tck t) zs).2.2++(J3 fet ks cs).2.2.1,o::(J3 fet ks cs).2.2.2)
  | none=>([false],[],[],[])
 | (true,.mp kt vt)::ks,.own o::cs=>match Jv fet o with
  | some (.mp l)=>([decide (l.kt=kt),decide (l.vt=vt)]++(J3 fet ks cs).1,.ump l::(J3 fet ks cs).2.1,(J3 fet ks cs).2.2.1,o::(J3 fet ks cs).2.2.2)
  | _=>([false],[],[],[])
 | _,_=>([false],[],[],[])
def wC:Bool×CK->Bool
 | (true,.sln _ _)=>true
 | _=>false
def wS:Sh->Bool
 | .cell u k=>wC (u,k)
 | .agg ks=>ks.any wC
 | .box ks=>ks.any wC
 | .clo _ ks=>ks.any wC
 | .map _ _=>false
def JU (fet:Fet):Sh->A->Arg
 | .cell u k,a=>match J3 fet [(u,k)] [a]with
  | (ok,[c],upd,del)=> {ok,a:=c,upd,del}
  | _=> {ok:=[false],a:=.undef}
 | .agg ks,.agg cs=>match J3 fet ks cs with
  | (ok,cs,upd,del)=> {ok,a:=.agg cs,upd,del}
 | .box ks,.ptr o off=>match Lp fet o with
  | some cs=> {ok:=Nat.beq off 0::Nat.ble ks.length 200::(J3 fet ks cs).1,a:=.box (J3 fet ks cs).2.1,upd:=(J3 fet ks cs).2.2.1,del:=(J3 fet ks cs).2.2.2,boxes:=[(o,.box ks)]}
  | none=> {ok:=[false],a:=.undef}
 | .clo f ks,.clo g o=>match Lp fet o with
  | some cs=> {ok:=Nat.beq f g::Nat.ble ks.length 200::(J3 fet ks cs).1,a:=.cbx g (J3 fet ks cs).2.1,upd:=(J3 fet ks cs).2.2.1,del:=(J3 fet ks cs).2.2.2,boxes:=[(o,.box ks)]}
  | none=> {ok:=[false],a:=.undef}
 | .map kt vt,.own o=>match Jv fet o with
  | some (.mp l)=> {ok:=[decide (l.kt=kt),decide (l.vt=vt)],a:=.ump l,boxes:=[(o,.map kt vt)]}
  | _=> {ok:=[false],a:=.undef}
 | _,_=> {ok:=[false],a:=.undef}
def JK (fet:Fet):List Sh->List A->List Bool×List A×List (Nat×Obj)×List Nat×List (Nat×Sh)
 | [],[]=>([],[],[],[],[])
 | s::ss,a::aa=>((JU fet s a).ok++(JK fet ss aa).1,(JU fet s a).a::(JK fet ss aa).2.1,(JU fet s a).upd++(JK fet ss aa).2.2.1,
  (JU fet s a).del++(JK fet ss aa).2.2.2.1,(JU fet s a).boxes++(JK fet ss aa).2.2.2.2)
 | _,_=>([false],[],[],[],[])
def JI (id:Nat):List (Bool×CK)->List A->Nat->List Bool×List A×List (Nat×Obj)
 | [],_,_=>([],[],[])
 | (false,k)::ks,cs,j=>((force k (cs.getD j .undef)).1++(JI id ks cs (j+1)).1,(force k (cs.getD j .undef)).2::(JI id ks cs (j+1)).2.1,(JI id ks cs (j+1)).2.2)
 | (true,.sl e t)::ks,cs,j=>((cs.getD j .undef).Ac5 true e t::(JI id ks cs (j+1)).1,.own (id+j)::(JI id ks cs (j+1)).2.1,
     (id+j,.arr e true (cs.getD j .undef).toL)::(JI id ks cs (j+1)).2.2)
 | (true,.sln e t)::ks,cs,j=>((cs.getD j .undef).Ac5 false e t::(JI id ks cs (j+1)).1,.own (id+j)::(JI id ks cs (j+1)).2.1,
     (id+j,.arr e false (cs.getD j .undef).toL)::(JI id ks cs (j+1)).2.2)
 | (true,.bx t)::ks,cs,j=>((cs.getD j .undef).Agr t.len::(JI id ks cs (j+1)).1,.ptr (id+j) 0::(JI id ks cs (j+1)).2.1,(id+j,.box (cs.getD j .undef).Yx)::(JI id ks cs (j+1)).2.2)
 | (true,.mp kt vt)::ks,cs,j=>((cs.getD j .undef).dZ kt vt::(JI id ks cs (j+1)).1,.own (id+j)::(JI id ks cs (j+1)).2.1,(id+j,.mp (cs.getD j .undef).toM)::(JI id ks cs (j+1)).2.2)
 | _,_,_=>([false],[],[])
def back (id:Nat):Sh->A->List Bool×A×List (Nat×Obj)
 | .cell u k,a=>((JI id [(u,k)] [a] 0).1++[k.plain],(JI id [(u,k)] [a] 0).2.1.getD 0 .undef,(JI id [(u,k)] [a] 0).2.2)
 | .agg ks,a=>(Nat.ble ks.length 200::a.isAgg ks.length::(JI (id+1) ks a.Yx 0).1,.agg (JI (id+1) ks a.Yx 0).2.1,(JI (id+1) ks a.Yx 0).2.2)
 | .box ks,a=>(Nat.ble ks.length 200::a.Agr ks.length::(JI (id+1) ks a.Yx 0).1,.ptr id 0,(id,.box (JI (id+1) ks a.Yx 0).2.1)::(JI (id+1) ks a.Yx 0).2.2)
 | .map kt vt,a=>([a.dZ kt vt],.own id,[(id,.mp a.toM)])
 | .clo f ks,a=>(Nat.ble ks.length 200::a.Ags f ks.length::(JI (id+1) ks a.Yx 0).1,.clo f id,(id,.box (JI (id+1) ks a.Yx 0).2.1)::(JI (id+1) ks a.Yx 0).2.2)
def KA (id stride:Nat):List Sh->List A->Nat->List Bool×List A×List (Nat×Obj)
 | [],_,_=>([],[],[])
 | s::ss,rs,j=>((back (id+stride*j) s (rs.getD j .undef)).1++(KA id stride ss rs (j+1)).1,(back (id+stride*j) s (rs.getD j .undef)).2.1::(KA id stride ss rs (j+1)).2.1,
  (back (id+stride*j) s (rs.getD j .undef)).2.2++(KA id stride ss rs (j+1)).2.2)
def Ox (rb:Nat):Sh->A->List Bool×Obj×List (Nat×Obj)
 | .box ks,a=>(a.isAgg ks.length::(JI (rb+1) ks a.Yx 0).1,.box (JI (rb+1) ks a.Yx 0).2.1,(JI (rb+1) ks a.Yx 0).2.2)
 | .map kt vt,a=>([a.dZ kt vt],.mp a.toM,[])
 | _,_=>([false],.box [],[])
def KR (rb:Nat->Nat) (rs:List A):List (Nat×Sh)->Nat->List Bool×List (Nat×Obj)×List (Nat×Obj)
 | [],_=>([],[],[])
 | (o,s)::r,j=>((Ox (rb o) s (rs.getD j .undef)).1++(KR rb rs r (j+1)).1,
     (o,(Ox (rb o) s (rs.getD j .undef)).2.1)::(KR rb rs r (j+1)).2.1,(Ox (rb o) s (rs.getD j .undef)).2.2++(KR rb rs r (j+1)).2.2)
def MM (fet:Fet) (o:Nat):Nat:=match Lp fet o with
 | some cs=>bif cs.any (fun c=>c.Nc.any (fun i=>Nat.blt o i&&Nat.ble i (o+100)))then o+100 else o
 | none=>o
def nodup:List Nat->Bool
 | []=>true
 | n::r=> !(has r n)&&nodup r
def Ld (id:Nat):List (Bool×CK)->List A->List (Nat×Nat)
 | (true,.sl _ _)::ks,.own o::cs=>(o,id)::Ld (id+1) ks cs
 | (true,.sln _ _)::ks,.own o::cs=>(o,id)::Ld (id+1) ks cs
 | (true,.bx _)::ks,.ptr o _::cs=>(o,id)::Ld (id+1) ks cs
 | (true,.mp _ _)::ks,.own o::cs=>(o,id)::Ld (id+1) ks cs
 | _::ks,_::cs=>Ld (id+1) ks cs
 | _,_=>[]
def Ph (fet:Fet) (id:Nat):Sh->A->List (Nat×Nat)
 | .cell u k,a=>Ld id [(u,k)] [a]
 | .agg ks,.agg cs=>Ld (id+1) ks cs
 | .box ks,.ptr o _=>(o,id)::(match Lp fet o with | some cs=>Ld (id+1) ks cs | none=>[])
 | .map _ _,.own o=>[(o,id)]
 | .clo _ ks,.clo _ o=>(o,id)::(match Lp fet o with | some cs=>Ld (id+1) ks cs | none=>[])
 | _,_=>[]
def NQ (fet:Fet):Nat->Nat->List Sh->List A->List (Nat×Nat)
 | id,stride,s::ss,x::xs=>Ph fet id s x++NQ fet (id+stride) stride ss xs
 | _,_,_,_=>[]
end Go.Proofs.YtbgjmioccbacdaaGreatDoor.Vm
namespace Go.Proofs.YtbgjmioccbacdaaGreatDoor.Vm
def Ab5:Nat->Option (IntKind×List Int)
 | _=>none
def Auh (j:Nat):Option (IntKind×List Int)->Option (Value->Prop)
 | some (k,ns)=>if j<ns.length then some (fun v=>v= .int k (ns.getD j 0))else none
 | none=>none
def iU:Nat->Nat->Option (Value->Prop)
 | 0,0=>some (fun v=> ∃ m,v= .int .i64 m)
 | 1,j=>if j<20 then some (fun v=>v= .int .u64 ((10 ^ j:Nat):Int))else none
 | g,j=>Auh j (Ab5 g)
def Aqw:Nat->Option Nat
 | 1=>some 20
 | _=>none
def Aqv:Option (IntKind×List Int)->A
 | some (k,ns)=>.elt (ns.map (.int k))
 | none=>.undef
def Asv {g:Nat} {q:IntKind×List Int} (h:Ab5 g=some q) (j:Nat):iU g j=Auh j (some q):=by rw[<- h];unfold iU;split<;>first | rfl | (exfalso;cases h;done)
def KP (tmps:List A):Operand->A
 | .tmp t=>tmps.getD t .undef
 | .const v=>ofConst v
 | .func f=>.fn (f+1)
 | .global g=>Aqv (Ab5 g)
def b2 (d:Nat):Nat:=(d+128)*256
def Kr {α :Type} (o:Option α) (k: α ->Dl):Dl:=match o with | some x=>k x | none=>.no
def LU (C:Ctx) (t:Nat) (k:TI->Dl):Dl:=Kr (C.T t) k
def elem? :TypeDesc->Option Nat
 | .slice e=>some e
 | _=>none
def elemOf (C:Ctx) (t:Nat) (k:Nat->TI->Dl):Dl:=LU C t fun ti=>Kr (elem? ti.d) fun e=>LU C e fun te=>k e te
structure Arr where
 e:Nat
 frz:Bool
 l:Sl
def YZ (fet:Fet) (o:Nat):Option Arr:=match Jv fet o with | some (.arr e frz l)=>some ⟨e,frz,l⟩ | _=>none
def one? {α :Type}:List α ->Option α
 | [k]=>some k
 | _=>none
def Ac0:List CK->Bool
 | [.ptr]=>true
 | _=>false
def VV (ti:TI) (cs:List A) (off:Nat) (pre:List Bool):Dl :=
 bif ti.agg then .g (pre++(forces cs ti.cs off).1) (.agg (forces cs ti.cs off).2)
 else Kr (one? ti.cs) fun k=>.g (pre++(force k (cs.getD off .undef)).1) (force k (cs.getD off .undef)).2
def isRow (ti:TI) (l:Sl) (i off:Nat):Bool:=Nat.blt 1 ti.cs.length&&Nat.beq l.sz 1&&Nat.beq off 0&&Nat.beq i 0
def pM (l:Sl) (n:Nat):List A:=(List.range n).map fun j=>(l.at j).getD 0 .undef
def ZN (t:Ty) (cs:List A):Bool×List t.Val:=(cs.all (fun c=>(t.mk [c]).1),cs.map (fun c=>(t.mk [c]).2))
def VX (C:Ctx) (fet:Fet) (t:Nat) (a:A):Dl :=
 LU C t fun ti=>match a with
 | .ptr o off=>Kr (Lp fet o) fun cs=>.g [Nat.ble (off+ti.cs.length) cs.length,Nat.blt 0 ti.cs.length] (oN ti cs off)
 | .elt cs=>VV ti cs 0 [Nat.ble ti.cs.length cs.length]
 | .clo k o=>.g [Nat.beq k 0,Ac0 ti.cs,!ti.agg] (.ptr o 0)
 | .Kq o i off=>Kr (YZ fet o) fun r=>bif isRow ti r.l i off then VV ti (pM r.l ti.cs.length) 0 [Nat.ble ti.cs.length r.l.xs.length,true]else VV ti (r.l.at i) off [Nat.ble (off+ti.cs.length) r.l.sz,decide (i<r.l.xs.length)]
 | _=>.no
def adK (C:Ctx) (d:Nat) (ti:TI):List CK:=bif has C.cuts d then []else ti.cs
def UT (C:Ctx) (fet:Fet) (t:Nat) (a v:A):Dl :=
 LU C t fun ti=>match a with
 | .ptr o off=>Kr (Lp fet o) fun cs =>
  {ok:=[v.isVal,Nat.beq v.cells.length ti.cs.length,Nat.ble (off+ti.cs.length) cs.length,Nat.blt 0 ti.cs.length],val:=.undef,
   upd:=[(o,.box (splice cs off (KY (MM fet o+1+off) (adK C (o / 256 - 128) ti) v.cells).1))],new:=(KY (MM fet o+1+off) (adK C (o / 256 - 128) ti) v.cells).2}
 | .Kq o i off=>Kr (YZ fet o) fun r=>bif isRow ti r.l i off then
  {ok:=(KF fet ti.cs v.cells).1++[!r.frz,(ZN r.l.t (KF fet ti.cs v.cells).2.1).1,Nat.beq ti.cs.length r.l.xs.length,true,Nat.blt 0 ti.cs.length,!(has ((KF fet ti.cs v.cells).2.2.map (·.1)) o)],val:=.undef,
   upd:=(KF fet ti.cs v.cells).2.2++[(o,.arr r.e false ⟨r.l.t,(ZN r.l.t (KF fet ti.cs v.cells).2.1).2⟩)]}else
  {ok:=(KF fet ti.cs v.cells).1++[!r.frz,(r.l.set i off (KF fet ti.cs v.cells).2.1).1,Nat.ble (off+ti.cs.length) r.l.sz,decide (i<r.l.xs.length),Nat.blt 0 ti.cs.length,!(has ((KF fet ti.cs v.cells).2.2.map (·.1)) o)],val:=.undef,
   upd:=(KF fet ti.cs v.cells).2.2++[(o,.arr r.e false (r.l.set i off (KF fet ti.cs v.cells).2.1).2)]}
 | _=>.no
def Wh (C:Ctx) (d:Nat) (t:Nat) (v:A):Dl :=
 LU C t fun ti=> {ok:=[v.isVal,Nat.beq v.cells.length ti.cs.length],val:=.ptr (b2 d) 0,new:=(b2 d,.box (KY (b2 d+1) (adK C d ti) v.cells).1)::(KY (b2 d+1) (adK C d ti) v.cells).2}
def Yy (off n:Nat) (fet:Fet):A->Dl
 | .ptr o p=>Kr (Lp fet o) fun cs=>.g [Nat.ble (p+off+n) cs.length] (.ptr o (p+off))
 | .elt cs=>.g [Nat.ble (off+n) cs.length] (.elt (cs.drop off))
 | .Kq o i p=>Kr (YZ fet o) fun r=>.g [decide (i<r.l.xs.length)] (.Kq o i (p+off))
 | _=>.no
def lZ:TypeDesc->Option (Nat×Nat)
 | .array n e=>some (n,e)
 | _=>none
def int? :A->Option Int
 | .int _ n=>some n
 | _=>none
def AqP:CK->Option IntKind
 | .int k=>some k
 | _=>none
def AbG (C:Ctx) (t:Nat) (k:Nat->IntKind->Dl):Dl:=LU C t fun ti=>Kr (lZ ti.d) fun p=>LU C p.2 fun te=>bif te.agg then .no else Kr (one? te.cs) fun c=>Kr (AqP c) fun kk=>k p.1 kk
def oI (cs:List A) (n:Int):Int:=(cs.map A.toI).getD n.toNat 0
def ZA (C:Ctx) (fet:Fet) (t:Nat) (x:A) (i:A):Dl :=
 match x with
 | .Kq o i0 off0=>Kr (int? i) fun n=>LU C t fun ti=>Kr (lZ ti.d) fun p=>LU C p.2 fun te=>Kr (YZ fet o) fun r =>
  .g [Nat.beq i0 0,Nat.beq off0 0,Nat.beq r.l.sz te.cs.length,decide (0<=n),decide (n<(p.1:Int)),decide (n.toNat<r.l.xs.length)] (.Kq o n.toNat 0)
 | .elt cs=>Kr (int? i) fun n=>AbG C t fun m kk=>.g [cs.all (A.isI kk),Nat.beq cs.length m,decide (0<=n),decide (n<(m:Int))] (.elt [.int kk (oI cs n)])
 | x =>
 Kr (int? i) fun n=>elemOf C t fun _ te=>match x with
 | .own o=>Kr (YZ fet o) fun r=>.g [Nat.beq r.l.sz te.cs.length,decide (0<=n),decide (n<r.l.xs.length)] (.Kq o n.toNat 0)
 | .sl l=>.g [Nat.beq l.sz te.cs.length,Nat.blt 0 l.sz,decide (0<=n),decide (n<l.xs.length)] (.elt (l.at n.toNat))
 | .bsl o k=>Kr (Lp fet o) fun cs=>.g [Nat.beq te.cs.length 1,decide (0<=n),Nat.blt n.toNat k,Nat.blt n.toNat cs.length] (.ptr o n.toNat)
 | _=>.no
def Aij:A->Option (List UInt8)
 | .str s=>some s
 | _=>none
def Acx (C:Ctx) (t:Nat) (x i:A):Dl :=
 Kr (int? i) fun n=>match x with
 | .agg cs=>AbG C t fun m kk=>.g [cs.all (A.isI kk),Nat.beq cs.length m,decide (0<=n),decide (n<(m:Int))] (.int kk (oI cs n))
 | x=>Kr (Aij x) fun s=>LU C t fun ti=>.g [vS ti.d,decide (0<=n),decide (n<s.length)] (.int .u8 ((s.getD n.toNat 0).toNat:Int))
def uP (len:Nat):Option A->Option A->Option (List Bool×Nat×Nat)
 | none,none=>some ([],0,len)
 | some (.int _ a),none=>some ([decide (0<=a),decide (a<=len)],a.toNat,len)
 | none,some (.int _ b)=>some ([decide (0<=b),decide (b<=len)],0,b.toNat)
 | some (.int _ a),some (.int _ b)=>some ([decide (0<=a),decide (a<=b),decide (b<=len)],a.toNat,b.toNat)
 | _,_=>none
def J6 {α :Type} (l:List α) (a b:Nat):List α :=(l.take b).drop a
def Mc (C:Ctx) (fet:Fet) (t:Nat) (x:A) (lo hi:Option A):Dl :=
 LU C t fun ti=>match x with
 | .str s=>Kr (uP s.length lo hi) fun r=>.g (vS ti.d::r.1) (.str (J6 s r.2.1 r.2.2))
 | .sl l=>Kr (uP l.xs.length lo hi) fun r=>Kr (elem? ti.d) fun e=>LU C e fun te=>.g (Nat.beq l.sz te.cs.length::r.1) (.sl ⟨l.t,J6 l.xs r.2.1 r.2.2⟩)
 | .sln l=>Kr (uP l.xs.length lo hi) fun r=>Kr (elem? ti.d) fun e=>LU C e fun te=>.g ((l.xs.isEmpty|| !(J6 l.xs r.2.1 r.2.2).isEmpty)::Nat.beq l.sz te.cs.length::r.1) (.sln ⟨l.t,J6 l.xs r.2.1 r.2.2⟩)
 | .own o=>Kr (YZ fet o) fun ro=>Kr (uP ro.l.xs.length lo hi) fun r=>Kr (elem? ti.d) fun e=>LU C e fun te =>
  {ok:=Nat.beq ro.l.sz te.cs.length::r.1,val:=.sl ⟨ro.l.t,J6 ro.l.xs r.2.1 r.2.2⟩,upd:=bif ro.frz then []else [(o,.arr ro.e true ro.l)]}
 | _=>.no
def uQ (C:Ctx) (fet:Fet) (d t:Nat) (x hi:A):Dl :=
 LU C t fun ti=>match x with
 | .own o=>Kr (YZ fet o) fun ro=>Kr (uP ro.l.xs.length none (some hi)) fun r=>Kr (elem? ti.d) fun e=>LU C e fun te =>
  {ok:=Nat.beq ro.l.sz te.cs.length::r.1++[!ro.frz],val:=.own (b2 d),new:=[(b2 d,.arr ro.e false ⟨ro.l.t,J6 ro.l.xs r.2.1 r.2.2⟩)],del:=[o]}
 | _=>.no
def qE (C:Ctx) (fet:Fet) (t:Nat) (x a:A):Dl :=
 LU C t fun ti=>match x with
 | .own o=>Kr (YZ fet o) fun ro=>Kr (int? a) fun n=>Kr (elem? ti.d) fun e=>LU C e fun te=>.g [Nat.beq ro.l.sz te.cs.length,decide (0<=n),decide (n<(ro.l.xs.length:Int))] (.osl o n.toNat)
 | _=>.no
def iK (ys:List Int) (k:Nat) (s:List UInt8):List Int:=ys.take k++s.map (fun(b:UInt8)=>((b.toNat:Int)))++ys.drop (k+s.length)
def Agk (C:Ctx) (fet:Fet) (ts:List Nat) (x y:A):Dl :=
 match ts with
 | [t,_]=>elemOf C t fun _ te=>match x with
  | .osl o k=>Kr (YZ fet o) fun r=>Kr (r.l.cast SL) fun ys=>Kr (Aij y) fun s =>
   {ok:=[Ac3 te.d,Nat.beq te.cs.length 1,!r.frz,decide (0<s.length),decide (k+s.length<=ys.length)],val:=.int .i64 (s.length:Int),upd:=[(o,.arr r.e false ⟨SL,iK ys k s⟩)]}
  | _=>.no
 | _=>.no
def mapOf (C:Ctx) (t:Nat) (k:TI->TI->Dl):Dl:=LU C t fun ti=>match ti.d with
 | .map a b=>LU C a fun ta=>LU C b fun tb=>k ta tb
 | _=>.no
def mp? (fet:Fet):A->Option (Nat×Mp)
 | .own o=>match Jv fet o with
  | some (.mp l)=>some (o,l)
  | _=>none
 | _=>none
def kT:CK->Bool | .str=>true | _=>false
def AnC:TypeDesc->Bool | .map _ _=>true | _=>false
def kZ (C:Ctx) (fet:Fet) (op:BinOp) (t:Nat) (x:A):Dl:=Kr (mp? fet x) fun _=>LU C t fun ti=>bif AnC ti.d then(match op with
 | .eql=>.v (.bool false)
 | .neq=>.v (.bool true)
 | _=>.no)else .no
def vP:Operand->Bool | .const (.map none)=>true | _=>false
def Aly (C:Ctx) (ta:TI):Bool:=match ta.d with
 | .string=>true
 | .int _=>true
 | .array n e=>match C.T e with
  | some te=>vS te.d&&Nat.blt 1 n
  | none=>false
 | .struct _=>ta.cmp.all kT&&ta.cs.all kT&&Nat.beq ta.cmp.length ta.cs.length&&Nat.blt 1 ta.cs.length
 | _=>false
def Agu (ti:TI):Bool:=ti.agg== !(Nat.beq ti.cs.length 1)
def Alo:A->Bool
 | .agg [_]=>false
 | _=>true
def Ago (C:Ctx) (ta tb:TI) (l:Mp) (i:A):List Bool:=[Aly C ta,Agu tb,decide (l.kt=tyl ta.cs),decide (l.vt=tyl tb.cs),i.isVal,Alo i,(l.kt.mk i.cells).1]
def Wv (C:Ctx) (d t:Nat) (r:List A):Dl:=mapOf C t fun ta tb =>
 {ok:=[r.isEmpty],val:=.own (b2 d),new:=[(b2 d,.mp ⟨tyl ta.cs,tyl tb.cs,[]⟩)]}
def Aem (l:Mp) (c:Bool) (r:Option l.vt.Val):A :=
 bif c then .tup [PD (l.vt.cells (r.getD l.vt.zero)),.bool r.isSome]else PD (l.vt.cells (r.getD l.vt.zero))
def yK (C:Ctx) (fet:Fet) (t:Nat) (c:Bool) (x i:A):Dl:=mapOf C t fun ta tb=>Kr (mp? fet x) fun p =>
 .g (Ago C ta tb p.2 i++[tb.cs.all CK.plain]) (Aem p.2 c (TR p.2.kt (p.2.kt.mk i.cells).2 p.2.l))
def lV (C:Ctx) (fet:Fet) (t:Nat) (x i v:A):Dl:=mapOf C t fun ta tb=>Kr (mp? fet x) fun p =>
 {ok:=Ago C ta tb p.2 i++[v.isVal,Alo v]++(KF fet tb.cs v.cells).1++[(p.2.vt.mk (KF fet tb.cs v.cells).2.1).1],val:=.undef,
  upd:=(KF fet tb.cs v.cells).2.2++[(p.1,.mp ⟨p.2.kt,p.2.vt,Zg p.2.kt (p.2.kt.mk i.cells).2 (p.2.vt.mk (KF fet tb.cs v.cells).2.1).2 p.2.l⟩)]}
def kD (C:Ctx) (fet:Fet) (t:Nat) (x i:A):Dl:=mapOf C t fun ta tb=>Kr (mp? fet x) fun p =>
 {ok:=Ago C ta tb p.2 i,val:=.tup [],upd:=[(p.1,.mp ⟨p.2.kt,p.2.vt,iE p.2.kt (p.2.kt.mk i.cells).2 p.2.l⟩)]}
def Aek (C:Ctx) (fet:Fet) (t:Nat) (x:A):Dl :=
 LU C t fun ti=>match ti.d with
 | .string=>Kr (Aij x) fun s=>.v (.int .i64 (s.length:Int))
 | .array n _=>.v (.int .i64 (n:Int))
 | .slice _=>match x with
  | .bsl o k=>Kr (Lp fet o) fun _=>.v (.int .i64 (k:Int))
  | x=>.g (rd fet x).1 (.int .i64 ((rd fet x).2.xs.length:Int))
 | .map _ _=>Kr (mp? fet x) fun p=>.v (.int .i64 (p.2.l.length:Int))
 | _=>.no
def Rt (fet:Fet) (t:Ty):A->List Bool×List t.Val
 | .str s=>match t with
  | .int .u8 .nil=>([],s.map (fun(b:UInt8)=>((b.toNat:Int))))
  | _=>([false],[])
 | y=>rdT fet t y
def iZ (C:Ctx) (fet:Fet) (d:Nat) (t:Nat) (x y:A):Dl :=
 elemOf C t fun e te=>match x with
 | .own o=>Kr (YZ fet o) fun r =>
  {ok:=(Rt fet r.l.t y).1++[Nat.beq e r.e,Nat.beq r.l.sz te.cs.length,Nat.blt 0 r.l.sz,decide ((r.l.xs.length+(Rt fet r.l.t y).2.length)*(te.bytes+1)<=140737488355328)],
   val:=.own (b2 d),new:=[(b2 d,.arr r.e r.frz ⟨r.l.t,r.l.xs++(Rt fet r.l.t y).2⟩)],del:=[o]}
 | .Lj =>
  {ok:=(Rt fet (tyl te.cs) y).1++[Nat.blt 0 te.cs.length,decide ((Rt fet (tyl te.cs) y).2.length*(te.bytes+1)<=140737488355328)],
   val:=.own (b2 d),new:=[(b2 d,.arr e false ⟨tyl te.cs,(Rt fet (tyl te.cs) y).2⟩)]}
 | _=>.no
def Yh (C:Ctx) (fet:Fet) (src dst:Nat) (x:A):Dl :=
 LU C src fun s=>LU C dst fun t=>match t.d,x with
 | .int k,.int _ n=>.v (.int k (k.wrap n))
 | .string,.str l=>.v (.str l)
 | .string,.int _ _=>.no
 | .string,x=>Kr (elem? s.d) fun e=>LU C e fun te=>.g (Ac3 te.d::((rdB fet x).1++[(rdB fet x).2.all isByte])) (.str ((rdB fet x).2.map byteOf))
 | _,_=>.no
def tH (C:Ctx) (d s t:Nat) (l:List UInt8):Dl:=LU C s fun _=>elemOf C t fun e te =>
 {ok:=[Ac3 te.d,decide (l.length<=140737488355328)],val:=.own (b2 d),new:=[(b2 d,.arr e false ⟨SL,l.map (fun(b:UInt8)=>((b.toNat:Int)))⟩)]}
def Ahx:TypeDesc->Bool | .slice _=>true | _=>false
def yC (C:Ctx) (o:Oper) (fet:Fet) (s t:Nat) (x:A):Dl :=
 match x with
 | .str l=>LU C t fun tt=>bif Ahx tt.d then Kr o.dst fun d=>tH C d s t l else Yh C fet s t (.str l)
 | x=>Yh C fet s t x
def AqB (C:Ctx) (t:Nat):Option (Nat×IntKind):=match C.T t with
 | some ti=>match lZ ti.d with
  | some (n,e)=>match C.T e with
   | some te=>match te.cs with
    | [.int k]=>some (n,k)
    | _=>none
   | none=>none
  | none=>none
 | none=>none
def sW (C:Ctx) (d t:Nat) (v:A):Dl:=match AqB C t with
 | some (n,k)=>match v with
  | .agg cs=> {ok:=[cs.all (A.isI k),Nat.beq cs.length n,Nat.ble n 16777216],val:=.Kq (b2 d) 0 0,new:=[(b2 d,.arr t false ⟨.int k .nil,cs.map A.toI⟩)]}
  | _=>.no
 | none=>Wh C d t v
def YC (C:Ctx) (d t:Nat):Dl:=LU C t fun ti=>match lZ ti.d with
 | some (n,e)=>LU C e fun te=> {ok:=[te.cs.all CK.plain,Nat.blt 0 te.cs.length,Nat.blt 0 n,Nat.ble n 16777216,decide (ti.cs=(List.replicate n te.cs).flatten)],val:=.Kq (b2 d) 0 0,new:=[(b2 d,.arr t false ⟨tyl te.cs,List.replicate n (tyl te.cs).zero⟩)]}
 | none=>Wh C d t (.agg (ti.cs.map CK.zero))
def AcM (fet:Fet) (s:Bool) (d:TypeDesc) (x:A):Option Bool :=
 match s,d,x with
 | true,.slice _,.Lj=>some true
 | true,.slice _,.sln l=>some l.xs.isEmpty
 | false,.pointer _,.LP=>some true
 | false,.pointer _,.ptr o _=>(Lp fet o).map (fun _=>false)
 | _,_,_=>none
def Aer (C:Ctx) (fet:Fet) (s:Bool) (t:Nat) (x:A) (k:Bool->Dl):Dl:=LU C t fun ti=>Kr (AcM fet s ti.d x) k
def Agg (C:Ctx) (t:Nat) (r:Bool):Dl:=LU C t fun ti=>.g [Aei ti.d] (.bool r)
def AgF (C:Ctx) (fet:Fet) (op:BinOp) (t:Nat) (x y:A):Dl :=
 match x,y with
 | .int k a,.int k' b=>match op with
  | .shl=>.g [decide (0<=b)] (.int k (k.wrap (a*2 ^ (min b.toNat k.bits))))
  | .shr=>.g [decide (0<=b)] (.int k (a.fdiv (2 ^ (min b.toNat k.bits))))
  | op=>bif A.kEq k k' then sU op k a b else .no
 | .str a,.str b=>sV op a b
 | .bool a,.bool b=>match op with
  | .eql=>Agg C t (a==b)
  | .neq=>Agg C t (!(a==b))
  | _=>.no
 | .agg x,.agg y=>LU C t fun ti=>match op with
  | .eql=>.g [!ti.cmp.isEmpty,(Qv ti.cmp x y).1] (.bool (Qv ti.cmp x y).2)
  | .neq=>.g [!ti.cmp.isEmpty,(Qv ti.cmp x y).1] (.bool (!(Qv ti.cmp x y).2))
  | _=>.no
 | x,.Lj=>match op with
  | .eql=>Aer C fet true t x fun v=>.v (.bool v)
  | .neq=>Aer C fet true t x fun v=>.v (.bool (!v))
  | _=>.no
 | x,.LP=>match op with
  | .eql=>Aer C fet false t x fun v=>.v (.bool v)
  | .neq=>Aer C fet false t x fun v=>.v (.bool (!v))
  | _=>.no
 | _,_=>.no
def unX:UnOp->A->Dl
 | .not,.bool b=>.v (.bool !b)
 | .neg,.int k n=>.v (.int k (k.wrap (0 - n)))
 | .xor,.int k n=>.v (.int k (JJ .xor k (if k.signed then -1 else k.max) n))
 | _,_=>.no
def Agv (c a b:A):Dl:=.g [c.Qr.1,c.Qr.2.isB,(bif c.Qr.2.toB then a.Qr.1 else b.Qr.1),(bif c.Qr.2.toB then a.Qr.2.isB else b.Qr.2.isB)] (.bool (bif c.Qr.2.toB then a.Qr.2.toB else b.Qr.2.toB))
def o9 (C:Ctx) (d:Nat) (t:Nat) (l c:A):Dl :=
 Kr (int? l) fun n=>Kr (int? c) fun m=>elemOf C t fun e te =>
  {ok:=[decide (n<=m),decide (0<=n),decide (m*(te.bytes+1)<=140737488355328),Nat.blt 0 te.cs.length,te.cs.all CK.plain],val:=.own (b2 d),
   new:=[(b2 d,.arr e false ⟨tyl te.cs,List.replicate n.toNat (tyl te.cs).zero⟩)]}
def tC (C:Ctx) (t:Nat) (ps:List (Nat×A)):Dl:=LU C t fun ti=>Kr (fill C ti.d ps (ti.cs.map CK.zero)) fun cs=>.g [ti.agg] (.agg cs)
def SB (C:Ctx) (fet:Fet) (d t n:Nat) (ps:List (Nat×A)):Dl:=elemOf C t fun e te =>
 {ok:=(O7 fet te (tyl te.cs) ps (List.replicate n (tyl te.cs).zero)).1++[Nat.ble (n*te.cs.length) 16777216,Nat.blt 0 te.cs.length,te.cs.all CK.plain],val:=.own (b2 d),
  new:=[(b2 d,.arr e false ⟨tyl te.cs,(O7 fet te (tyl te.cs) ps (List.replicate n (tyl te.cs).zero)).2.1⟩)],upd:=(O7 fet te (tyl te.cs) ps (List.replicate n (tyl te.cs).zero)).2.2}
def sZ (C:Ctx) (d t n:Nat) (ps:List (Nat×A)):Dl:=elemOf C t fun e te=>Kr (fill C (.array n e) ps (List.replicate n .LP)) fun cs =>
 {ok:=[Ac0 te.cs,Nat.ble n 16777216,Nat.blt 0 n,ps.all fun p=>p.2.isVal&& !p.2.isAgg 0],val:=.bsl (b2 d) n,new:=(b2 d,.box (KY (b2 d+1) [] cs).1)::(KY (b2 d+1) [] cs).2}
def Ac1:List (Nat×A)->Bool
 | (_,.ptr _ _)::_=>true
 | _=>false
def Vh (C:Ctx) (fet:Fet) (t f:Nat) (x:A):Dl :=
 LU C t fun ti=>Kr (AcX C ti.d f) fun p=>match Yy p.1 p.2.cs.length fet x with
 | δ => {δ with ok:=Nat.blt 0 p.2.cs.length:: δ.ok}
def AsL:A->Option (List A)
 | .agg cs=>some cs
 | _=>none
def Ack (C:Ctx) (t f:Nat) (x:A):Dl :=
 LU C t fun ti=>Kr (AcX C ti.d f) fun p=>Kr (AsL x) fun cs=>.g [Nat.ble (p.1+p.2.cs.length) cs.length,Nat.blt 0 p.2.cs.length] (oN p.2 cs p.1)
def Aum:A->Option (List A)
 | .tup vs=>some vs
 | _=>none
def nJ (i:Nat) (x:A):Dl:=Kr (Aum x) fun vs=>.g [Nat.blt i vs.length] (vs.getD i .undef)
def WQ (fet:Fet):A->Dl
 | .ptr o off=>Kr (Lp fet o) fun _=>.v (.ptr o off)
 | _=>.no
structure Hand where
 ok:List Bool
 vs:List A
 upd:List (Nat×Obj)
 del:List Nat
 boxes:List (Nat×Sh)
def Agx:List A->A
 | [v]=>v
 | vs=>.tup vs
def Agi (rb:Nat->Nat) (d:Nat) (sg:Sig) (N:List (Nat×Nat)) (n:Nat) (h:Hand) (ok:Bool) (rs:List A):Dl :=
 ⟨h.ok++[ok]++(KA (b2 d) 16 sg.J7 rs 0).1++(KR rb (rs.drop sg.J7.length) h.boxes 0).1++[nodup (N.map (·.1)),Nat.ble n 100,Nat.beq rs.length (sg.J7.length+h.boxes.length),!(sg.Js.any wS)||h.upd.isEmpty],
   Agx (KA (b2 d) 16 sg.J7 rs 0).2.1,
   (KA (b2 d) 16 sg.J7 rs 0).2.2++(KR rb (rs.drop sg.J7.length) h.boxes 0).2.2,
   h.upd++(KR rb (rs.drop sg.J7.length) h.boxes 0).2.1,h.del,[]⟩
def aV (fet:Fet) (ss:List Sh) (xs:List A):Hand:=⟨(JK fet ss xs).1,(JK fet ss xs).2.1,(JK fet ss xs).2.2.1,(JK fet ss xs).2.2.2.1,(JK fet ss xs).2.2.2.2⟩
def OE (fet:Fet) (d:Nat) (sg:Sig) (args:List A):Dl:=Agi (MM fet) d sg (NQ fet 0 256 sg.Js args) args.length (aV fet sg.Js args) (sg.ok (aV fet sg.Js args).vs) (sg.val (aV fet sg.Js args).vs)
def Ac9 (n:Nat):Obj->Bool | .box cs=>Nat.beq cs.length n | _=>false
def Aqn (j:Nat) (c:A):Obj->Obj | .box cs=>.box (cs.set j c) | x=>x
def eqC:A->A->Bool | .str a,.str b=>a==b | .int k a,.int k' b=>A.kEq k k'&&a==b | .bool a,.bool b=>a==b | _,_=>false
def eqU (j:Nat) (c:A):Obj->Bool | .box cs=>eqC (cs.getD j .undef) c | _=>false
def TM (fet:Fet) (a:A) (j:Nat) (δ :Dl):Dl:=match a with
 | .ptr q _=>match Lp fet q with
  | some cs=>bif Nat.blt j cs.length&& δ.upd.all (fun p=> !(Nat.beq p.1 q)||Ac9 cs.length p.2)
   then {δ with ok:= δ.ok++ δ.upd.map (fun p=>bif Nat.beq p.1 q then eqU j (cs.getD j .undef) p.2 else true),upd:= δ.upd.map (fun p=>bif Nat.beq p.1 q then(p.1,Aqn j (cs.getD j .undef) p.2)else p),same:=(q,j):: δ.same}
   else δ
  | none=> δ
 | _=> δ
def keepD (fet:Fet) (args:List A):List (Nat×Nat)->Dl->Dl
 | [],δ => δ
 | (i,j)::r,δ =>keepD fet args r (TM fet (args.getD i .undef) j δ)
def AnD:A->Bool | .LP=>true | _=>false
def yX (C:Ctx) (f:Nat) (args:List A):Option Sig:=match C.Abh f with
 | some (i,sg)=>bif AnD (args.getD i .undef)then some sg else C.G f
 | none=>C.G f
def Zy (C:Ctx) (fet:Fet) (d:Nat) (f:Nat) (args:List A):Dl :=
 match yX C f args with
 | some sg=>keepD fet args (C.kept f) (OE fet d sg args)
 | none=>.no
def AgM (C:Ctx) (fet:Fet) (d t:Nat) (c:A) (args:List A):Dl :=
 match c with
 | .fn n=>match C.dyn t with
  | some sg=>OE fet d (sg n) args
  | none=>.no
 | .clo f o=>Kr (Lp fet o) fun _=>match C.dyn t with
  | some sg=>OE fet d (sg f) (args++[.clo 0 o])
  | none=>.no
 | _=>.no
def AlX:List A->Option Nat
 | [.ptr o 0]=>some o
 | _=>none
def AdK (fet:Fet) (f:Nat):A->Dl
 | .ptr q off=>Kr (Lp fet q) fun cs=>Kr (AlX cs) fun o=> {ok:=[Nat.beq off 0],val:=.clo (f+1) o,del:=[q]}
 | _=>.no
def a0 (k:Dl):List A->Dl
 | []=>k
 | _=>.no
def a1 (k:A->Dl):List A->Dl
 | [a]=>k a
 | _=>.no
def a2 (k:A->A->Dl):List A->Dl
 | [a,b]=>k a b
 | _=>.no
def a3 (k:A->A->A->Dl):List A->Dl
 | [a,b,c]=>k a b c
 | _=>.no
def AoV (C:Ctx) (o:Oper) (fet:Fet) (ts:List Nat) (x y:A):Dl :=
 match ts with
 | [t,u]=>LU C u fun tu=>Kr o.dst fun d=>match iZ C fet d t x y with
  | δ => {δ with ok:=Yk tu.d:: δ.ok}
 | _=>.no
def slX (C:Ctx) (dst:Option Nat) (fet:Fet) (t:Nat) (lo hi mx:Option Operand):List A->Dl :=
 match mx,lo,hi with
 | none,none,none=>a1 fun x=>Mc C fet t x none none
 | none,some _,none=>a2 fun x a=>match dst with
  | some d=>bif has C.cuts d then qE C fet t x a else Mc C fet t x (some a) none
  | none=>Mc C fet t x (some a) none
 | none,none,some _=>a2 fun x b=>match dst with
  | some d=>bif has C.cuts d then uQ C fet d t x b else Mc C fet t x none (some b)
  | none=>Mc C fet t x none (some b)
 | none,some _,some _=>a3 fun x a b=>Mc C fet t x (some a) (some b)
 | _,_,_=>fun _=>.no
def AlC:A->A->Dl
 | .int k a,.int k' b=>bif A.kEq k k' then .v (.int k (bif decide (b<a)then b else a))else .no
 | _,_=>.no
def Al9:A->A->Dl
 | .int k a,.int k' b=>bif A.kEq k k' then .v (.int k (bif decide (a<b)then b else a))else .no
 | _,_=>.no
def blX (C:Ctx) (o:Oper) (fet:Fet) (ts:List Nat):Builtin->List A->Dl
 | .len=>a1 fun x=>Kr (one? ts) fun t=>Aek C fet t x
 | .append=>a2 fun x y=>AoV C o fet ts x y
 | .min=>a2 AlC
 | .max=>a2 Al9
 | .copy=>a2 fun x y=>Agk C fet ts x y
 | .delete=>a2 fun x y=>match ts with
  | t::_=>kD C fet t x y
  | []=>.no
 | _=>fun _=>.no
def opX (C:Ctx) (o:Oper) (v:List A) (fet:Fet):Dl :=
 match o.op with
 | .move _=>a1 (fun a=>.v a) v
 | .assign _=>a1 (fun a=>.v a) v
 | .pick _ _ _=>a3 (fun c a b=>Agv c a b) v
 | .alloc t=>a0 (Kr o.dst fun d=>YC C d t) v
 | .box t _=>a1 (fun a=>Kr o.dst fun d=>sW C d t a) v
 | .build t ps=>tC C t ((ps.toList.map (·.1)).zip v)
 | .buildSlice t n ps=>Kr o.dst fun d=>bif Ac1 ((ps.toList.map (·.1)).zip v)then sZ C d t n ((ps.toList.map (·.1)).zip v)else SB C fet d t n ((ps.toList.map (·.1)).zip v)
 | .load t _=>a1 (VX C fet t) v
 | .store t _ _=>a2 (fun a x=>bif o.dst.isNone then UT C fet t a x else .no) v
 | .nilCheck _=>a1 (WQ fet) v
 | .binOp op t _ y _=>bif vP y then a2 (fun x _=>kZ C fet op t x) v else a2 (AgF C fet op t) v
 | .unOp op _ _=>a1 (unX op) v
 | .convert s t _=>a1 (yC C o fet s t) v
 | .makeSlice t _ _=>a2 (fun l c=>Kr o.dst fun d=>o9 C d t l c) v
 | .slice t _ lo hi mx=>slX C o.dst fet t lo hi mx v
 | .fieldAddr t _ f=>a1 (Vh C fet t f) v
 | .field t _ f=>a1 (Ack C t f) v
 | .indexAddr t _ _=>a2 (ZA C fet t) v
 | .index t _ _=>a2 (Acx C t) v
 | .extract _ i=>a1 (nJ i) v
 | .makeFunc (.func f) fi _=>bif fi.isEmpty then a1 (AdK fet f) v else .no
 | .makeMap t _=>Kr o.dst fun d=>Wv C d t v
 | .lookup t _ _ c=>a2 (yK C fet t c) v
 | .mapUpdate t _ _ _=>a3 (fun m i x=>bif o.dst.isNone then lV C fet t m i x else .no) v
 | .insert t _ _ _=>a3 (fun m i x=>bif o.dst.isNone then lV C fet t m i x else .no) v
 | .call ⟨.builtin b,_,ts⟩=>blX C o fet ts.toList b v
 | .call ⟨.value (.func f),_,_⟩=>match v with
  | _::vs=>Zy C fet (o.dst.getD 0) f vs
  | []=>.no
 | .call ⟨.value (.tmp t),_,_⟩=>match v with
  | c::vs=>AgM C fet (o.dst.getD 0) t c vs
  | []=>.no
 | _=>.no
def fetch (Jp:List (Nat×Obj)):List Nat->Fet
 | []=>[]
 | n::r=>match Jv Jp n with
  | some x=>(n,x)::fetch Jp r
  | none=>fetch Jp r
def Ku (st:St) (vs:List A):Fet :=
 let f1:=fetch st.Jp (vs.flatMap A.ids)
 f1++fetch st.Jp (f1.flatMap (fun p=>p.2.ids))
def Kw (Jp:List (Nat×Obj)):List Nat->List (Nat×Obj)
 | []=>Jp
 | n::r=>Kw (SX Jp n) r
def JC (Jp:List (Nat×Obj)):List (Nat×Obj)->List (Nat×Obj)
 | []=>Jp
 | (n,x)::r=>JC (L9 Jp n x) r
def put (tmps:List A):Option Tmp->A->List A
 | some d,v=>tmps.set d v
 | none,_=>tmps
def apply (st:St) (o:Oper) (δ :Dl):St :=
 {tmps:=put st.tmps o.dst δ.val,Jp:=JC (Kw (JC st.Jp δ.upd) δ.del) δ.new}
def strips:List A->List Bool×List A
 | []=>([],[])
 | a::r=>(a.strip.1++(strips r).1,a.strip.2::(strips r).2)
def guardOf (ops:List Oper) (tmps:List A):Option (Nat×Bool)->Option (Option Bool)
 | none=>some none
 | some (j,want)=>match ops[j]? with
  | some oj=>match oj.dst with
   | some t=>match (tmps.getD t .undef)with
    | .bool b=>some (some (bif want then b else !b))
    | .cnd g (.bool b)=>some (some (g&&(bif want then b else !b)))
    | _=>none
   | none=>none
  | none=>none
def pX:Op->Bool
 | .move _=>true
 | .assign _=>true
 | .binOp _ _ _ _ _=>true
 | _=>false
def KU:Op->List A->List Bool×List A
 | .pick _ _ _,vs=>([],vs)
 | op,vs=>((strips vs).1,bif pX op then(strips vs).2 else(strips vs).2.map A.weak)
def kY (g:Bool):A->A->A
 | .bool x,.bool y=>.bool (bif g then y else x)
 | .int k x,.int _ y=>.int k (bif g then y else x)
 | .str x,.str y=>.str (bif g then y else x)
 | .sl l,.sl l'=>match l'.cast l.t with
  | some ys=>.sl ⟨l.t,bif g then ys else l.xs⟩
  | none=>.undef
 | .sln l,.sln l'=>match l'.cast l.t with
  | some ys=>.sln ⟨l.t,bif g then ys else l.xs⟩
  | none=>.undef
 | a,_=>a
def bK:A->A->Bool
 | .bool _,.bool _=>true
 | .int k _,.int k' _=>A.kEq k k'
 | .str _,.str _=>true
 | .sl l,.sl l'=>(l'.cast l.t).isSome
 | .sln l,.sln l'=>(l'.cast l.t).isSome
 | .own o,.own o'=>Nat.beq o o'
 | .LP,.LP=>true
 | .undef,.undef=>true
 | _,_=>false
def AeF (g:Bool):List A->List A->List A
 | a::aa,b::bs=>kY g a b::AeF g aa bs
 | _,_=>[]
def okM:List A->List A->Bool
 | [],[]=>true
 | a::aa,b::bs=>bK a b&&okM aa bs
 | _,_=>false
def Xz (g:Bool):Option Obj->Obj->Obj
 | some (.box cs),.box ds=>.box (AeF g cs ds)
 | some (.arr e _ l),.arr _ true _=>.arr e true l
 | _,x=>x
def bM (c:Bool):Option Obj->Obj->Bool
 | some (.box cs),.box ds=>okM cs ds
 | some (.arr e _ _),.arr e' true _=>c&&Nat.beq e e'
 | _,_=>false
def mY:Op->Bool
 | .call ⟨.value (.func _),_,_⟩=>true
 | .call ⟨.value (.tmp _),_,_⟩=>true
 | .slice _ _ _ _ _=>true
 | _=>false
def yJ:Op->Bool
 | .call ⟨.value (.func _),_,_⟩=>true
 | _=>false
def TC (C:Ctx) (o:Oper) (st:St) (pre:List Bool):Dl :=
 match KU o.op (o.op.operands.toList.map (KP st.tmps))with
  | (ok,vs)=>match opX C o vs (Ku st vs)with
   | δ => {δ with ok:=pre++(ok++ δ.ok++[δ.new.all (fun p=>st.fresh p.1),nodup (δ.new.map (·.1))]),same:=bif yJ o.op then δ.same else []}
def AkG (C:Ctx) (o:Oper):Option Bool:=match o.dst with
 | some d=>C.dec d
 | none=>none
def KE (C:Ctx) (ops:List Oper) (o:Oper) (st:St):Dl :=
 match guardOf ops st.tmps o.guard with
 | some none=>TC C o st []
 | some (some g)=>match AkG C o with
  | some true=>TC C o st [g]
  | some false=> {ok:=[!g],val:=.cnd false .undef}
  | none=>match KU o.op (o.op.operands.toList.map (KP st.tmps))with
  | (ok,vs)=>match opX C o vs (Ku st vs)with
   | δ => {ok:=(ok++(δ.val.isVal:: δ.ok)).map (fun c=>c|| !g)++(δ.new.isEmpty:: δ.del.isEmpty::o.dst.isSome:: δ.upd.map (fun p=>bM (mY o.op) (Jv (Ku st vs) p.1) p.2)),val:=.cnd g δ.val,
           upd:= δ.upd.map (fun p=>(p.1,Xz g (Jv (Ku st vs) p.1) p.2))}
 | none=>.no
def allT {α :Type}:List Bool->Option α ->Option α
 | [],r=>r
 | c::cs,r=>bif c then allT cs r else none
def VE {α :Type} (C:Ctx) (ops:List Oper):List Oper->St->(St->Option α)->Option α
 | [],st,K=>K st
 | o::r,st,K=>match KE C ops o st with
  | δ =>allT δ.ok (VE C ops r (apply st o δ) K)
def Zw (C:Ctx) (o:Oper):Option (Nat×Alt) :=
 match o.guard,o.op with
 | none,.call ⟨.value (.func f),_,_⟩=>(C.alt f).map (fun q=>(f,q))
 | _,_=>none
def Ad5 (o:Oper) (st:St) (q:Alt):Bool :=
 match (KU o.op (o.op.operands.toList.map (KP st.tmps))).2 with
 | v::xs=>q.2.2 (aV (Ku st (v::xs)) q.1.Js xs).vs
 | []=>true
def VD {α :Type} (C:Ctx) (ops:List Oper):List Oper->St->(St->Option α)->Option α
 | [],st,K=>K st
 | o::r,st,K=>match Zw C o with
  | none=>allT (KE C ops o st).ok (VD C ops r (apply st o (KE C ops o st)) K)
  | some (f,q)=>bif Ad5 o st q then allT (KE (C.put f q.1) ops o st).ok (VD C ops r (apply st o (KE (C.put f q.1) ops o st)) K)
   else allT (KE (C.put f q.2.1) ops o st).ok (VD C ops r (apply st o (KE (C.put f q.2.1) ops o st)) K)
structure Clo where
 o:Oper
 q:Oper
 t:Nat
 u:Nat
 f:Nat
 b:Bool
def AqG:Op->Option (Nat×List Operand×List Operand)
 | .makeFunc (.func f) fi ca=>some (f,fi.toList,ca.toList)
 | _=>none
def AmZ:Op->Option Bool
 | .load _ _=>some true
 | .move _=>some false
 | _=>none
def Amy:List Operand->Option Nat
 | [.tmp t]=>some t
 | _=>none
def AaM (o1 o2:Oper):Option Clo :=
 match o1.guard,o2.guard,o1.dst,o2.dst,AmZ o1.op,AqG o2.op with
 | none,none,some t,some u,some b,some (f,fi,ca)=>match Amy fi,ca with
  | some t',[]=>bif Nat.beq t' t then some ⟨o1,o2,t,u,f,b⟩else none
  | _,_=>none
 | _,_,_,_,_,_=>none
def AaN:List Oper->List Clo×List Oper
 | o1::o2::r=>match AaM o1 o2 with
  | some c=>(c::(AaN r).1,(AaN r).2)
  | none=>([],o1::o2::r)
 | l=>([],l)
def Ake:Op->Option (Nat×Nat×List (Nat×Operand))
 | .buildSlice t n ps=>some (t,n,ps.toList)
 | _=>none
def AmR:Op->Option (Nat×List Operand)
 | .call ⟨.value (.func e),args,_⟩=>some (e,args.toList)
 | _=>none
structure Each where
 cs:List Clo
 q:Oper
 o:Oper
 ty:Nat
 v:Nat
 e:Nat
 rest:List Oper
def Abn:List (Nat×Operand)->List Clo->Nat->Bool
 | [],[],_=>true
 | (k,x)::ps,c::cs,i=>match x with
  | .tmp u=>Nat.beq k i&&Nat.beq u c.u&&Abn ps cs (i+1)
  | _=>false
 | _,_,_=>false
def PW (cs:List Clo):List Nat:=cs.flatMap fun c=>[c.t,c.u]
def Agm (cs:List Clo) (q o:Oper) (r:List Oper):Option Each :=
 match q.guard,o.guard,q.dst,Ake q.op,AmR o.op with
 | none,none,some v,some (t,n,ps),some (e,args)=>match Amy args with
  | some v'=>bif Nat.beq v' v&&Nat.beq n cs.length&&Abn ps cs 0&&nodup (v::PW cs)then some ⟨cs,q,o,t,v,e,r⟩else none
  | none=>none
 | _,_,_,_,_=>none
def aP (l:List Oper):Option Each :=
 match AaN l with
 | (c::cs,q::o::r)=>Agm (c::cs) q o r
 | _=>none
def MH (t:Nat) (st:St):St:= {st with tmps:=st.tmps.set t .undef}
def jZ (C:Ctx) (st:St) (c:Clo):Dl:=match c.o.op with
 | .load t (.tmp s)=>VX C st.Jp t (st.tmps.getD s .undef)
 | .move (.tmp s)=>.v (st.tmps.getD s .undef)
 | _=>.no
def ZT {α :Type} (C:Ctx):List Clo->St->(St->Option α)->Option α
 | [],st,K=>K st
 | c::r,st,K=>allT (Nat.blt c.u st.tmps.length::Nat.blt c.t st.tmps.length::(jZ C st c).ok) (ZT C r (MH c.u {st with tmps:=st.tmps.set c.t (jZ C st c).val}) K)
def Aom:A->Option (Nat×Nat)
 | .agg [.ptr a 0,.ptr r 0]=>some (a,r)
 | _=>none
def Ahv (a r:Nat):A->Bool
 | .agg [.ptr a' 0,.ptr r' 0]=>Nat.beq a' a&&Nat.beq r' r
 | _=>false
def Ahw (r:Nat):A->Bool
 | .ptr r' 0=>Nat.beq r' r
 | _=>false
def tied (tmps:List A) (a r:Nat) (c:Clo):Bool:=bif c.b then Ahv a r (tmps.getD c.t .undef)else Ahw r (tmps.getD c.t .undef)
def AkX (C:Ctx) (t:Nat):Bool:=match C.T t with
 | some ti=>match elem? ti.d with
  | some e=>match C.T e with
   | some te=>Nat.beq te.cs.length 1&& !te.agg
   | none=>false
  | none=>false
 | none=>false
def AqM (C:Ctx) (e:Each) (st:St) (sg:Sig) (a r:Nat):Dl :=
 match OE (Ku st [.ptr a 0,.ptr r 0]) (e.o.dst.getD 0) sg [.ptr a 0,.ptr r 0]with
 | δ => {δ with ok:=AkX C e.ty::Nat.blt e.v st.tmps.length::Nat.ble e.cs.length 1000::Nat.beq sg.Js.length 2::e.cs.all (tied st.tmps a r)::(Lp st.Jp a).isSome::(Lp st.Jp r).isSome:: δ.ok++[δ.new.all (fun p=>st.fresh p.1),nodup (δ.new.map (·.1))]}
def firstT:List Clo->Nat
 | c::_=>c.t
 | []=>0
def yE (C:Ctx) (e:Each) (st:St):Dl :=
 match Aom (st.tmps.getD (firstT e.cs) .undef),C.each e.e (e.cs.map fun c=>(c.f,c.b))with
 | some (a,r),some sg=>AqM C e st sg a r
 | _,_=>.no
def oK {α :Type} (C:Ctx) (ops l:List Oper) (st:St) (K:St->Option α):Option α :=
 match aP l with
 | some e=>ZT C e.cs st fun st=>allT (yE C e (MH e.v st)).ok (VD C ops e.rest (apply (MH e.v st) e.o (yE C e (MH e.v st))) K)
 | none=>VD C ops l st K
abbrev Bs:=List UInt8
def chk {ρ :Type} (c:Bool) (k:Option ρ):Option ρ :=bif c then k else none
def Jq {α ρ :Type} [Inhabited α] (o:Option α) (k: α ->Option ρ):Option ρ :=bif o.isSome then k (o.getD default)else none
def J4 {X Y ρ :Type} (B:X->(X->Option ρ)->(Y->Option ρ)->Option ρ):Nat->X->(Y->Option ρ)->Option ρ
 | 0,_,_=>none
 | n+1,x,kx=>B x (fun x'=>J4 B n x' kx) kx
end Go.Proofs.YtbgjmioccbacdaaGreatDoor.Vm
