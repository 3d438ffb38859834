/-
  CrlCheck: the law returns true whatever the input; machine, functions, plain law (26 files)
-/
import Derived.RowKit
import Derived.Laws.Sem
set_option linter.all false
namespace Go.Proofs.YtehkhflpjkokeaaGreatDoor
open Go
def Di {p:Prop} [Decidable p] (h:p:=by omega):decide p=true:=decide_eq_true h
def Dj:=@List.getD_eq_getElem?_getD
def Ay9 {c:Prop} {h:Decidable c} (n:¬c:=by omega) {α:Sort _} {t e:α}:(if c then t else e)=e:=if_neg n
def Dk {c:Prop} {h:Decidable c} (n:¬c) {α:Sort _} {t e:α}:(if c then t else e)=e:=if_neg n
def Ay8 {p:Prop} [Decidable p] (h:¬p:=by omega):decide p=false:=decide_eq_false h
def Dn {p:Prop} [Decidable p] (h:¬p):decide p=false:=decide_eq_false h
def AyA {c:Prop} {h:Decidable c} (n:c:=by omega) {α:Sort _} {t e:α}:(if c then t else e)=t:=if_pos n
def Dp {c:Prop} {h:Decidable c} (n:c) {α:Sort _} {t e:α}:(if c then t else e)=t:=if_pos n
def Dq:=@Array.getD_eq_getD_getElem?
def Du:=@Bool.and_eq_true
def Dv:=@List.mem_cons_self
def Dw:=@List.mem_cons_of_mem
def Dx:=@List.length_append
def Dy:=@Nat.eq_of_beq_eq_true
def Dz:=@decide_eq_true_eq
def D5:=@List.length_map
def D6:=@List.mem_cons
def D7:=@Array.getElem?_eq_getElem
def D8:=@Sem.run_bind
def D9:=@of_decide_eq_true
def DC:=@List.getElem?_eq_getElem
def DD:=@List.all_eq_true
def DF:=@List.mem_map
def DI:=@List.mem_append_right
def DJ:=@List.mem_append
def DK:=@List.length_range
def DL:=@List.mem_append_left
def DN:=@Nat.le_refl
def DR:=@Bool.true_or
def DT:=@List.mem_singleton
def DU:=@Int.tmod_eq_emod_of_nonneg
def DV:=@Nat.zero_add
def DW:=@Nat.le_of_ble_eq_true
def DX:=@Int.tdiv_eq_ediv_of_nonneg
def DY:=@Bool.not_false
def DZ:=@List.length_take
def Ea:=@Nat.mul_le_mul_right
def Eb:=@run_underlying
def Ec:=@decide_eq_false_iff_not
def Ed:=@beq_false_of_ne
def Ee:=@Array.getElem?_eq_some_iff
def Ef:=@List.getElem_mem
def Eg:=@Array.getElem?_toList
def Eh:=@Bool.not_true
def Ei:=@List.getElem?_eq_none
def Ej:=@List.append_assoc
def Em:=@List.map_cons
def En:=@List.append_nil
def Eo:=@Bool.or_eq_true
def Ep:=@List.drop_eq_getElem_cons
def Es:=@Nat.lt_or_ge
def Et:=@of_decide_eq_false
def Eu:=@List.getElem?_append_left
def Ew:=@Bool.or_true
def Ey:=@bne_iff_ne
def Ez:=@List.mem_flatMap
def E5:=@Eq.trans
def E8:=@Nat.add_mul
def EC:=@List.getElem?_append_right
def ED:=@List.map_congr_left
def EE:=@Bool.true_and
def EF:=@List.getElem?_map
def EG:=@Nat.zero_le
def EH:=@List.length_replicate
def EI:=@beq_iff_eq
def EJ:=@List.length_drop
def EK:=@Nat.blt_eq
def EL:=@Nat.add_assoc
def EM:=@List.pairwise_cons
def EN:=@Bool.false_or
def EO:=@Int.eq_ofNat_of_zero_le
def EP:=@List.length_set
def ER:=@beq_self_eq_true
def ES:=@List.take_length
def ET:=@Bool.or_false
def EU:=@Option.isSome_iff_exists
def EW:=@List.map_map
def EX:=@Bool.and_eq_false_iff
def EY:=@Bool.not_eq_true'
def EZ:=@Array.getElem?_append_left
def Fa:=@Bool.false_and
def Fb:=@List.take_of_length_le
def Fe:=@List.any_eq_false
def Ff:=@Array.getElem?_setIfInBounds
def Fg:=@List.map_nil
def Fh:=@Nat.mul_one
def Fj:=@Bool.eq_iff_iff
def Fp:=@UInt8.toNat_ofNat'
def Fq:=@Array.getElem?_append_right
def Fv:=@List.not_mem_nil
def Fz:=@List.length_eq_one_iff
def F5:=@beq_eq_false_iff_ne
def F6:=@List.getElem?_eq_some_iff
def F7:=@List.map_append
def F8:=@Nat.lt_of_lt_of_le
def F9:=@List.mem_of_mem_take
def FB:=@Option.some.injEq
def FC:=@List.take_add_one
def FD:=@Array.ext
def FH:=@Int.le_refl
def FK:=@Bool.and_true
def FM:=@Nat.mod_eq_of_lt
def FN:=@List.drop_drop
def FO:=@List.getElem?_drop
def FP:=@List.drop_zero
def FQ:=@List.eq_of_mem_replicate
def FT:=@List.mem_iff_getElem
def FU:=@List.mem_of_mem_drop
def FV:=@List.getElem?_set
def FW:=@List.eq_nil_of_length_eq_zero
def FX:=@List.getElem_map
def FY:=@List.drop_length
def FZ:=@List.drop_eq_nil_of_le
def Gf:=@decide_true
def Gg:=@List.getElem?_take
def Gh:=@eq_of_beq
def Gi:=@List.mem_iff_getElem?
def Gj:=@Bool.and_self
def Gl:=@Int.fdiv_eq_ediv_of_nonneg
def Gm:=@Bool.eq_false_iff
def Gp:=@List.findIdx_cons
def Gq:=@List.getElem?_zip_eq_some
def Gs:=@World.cell?_setCell_other
def Gt:=@Bool.cond_true_right
def Gu:=@Nat.pow_le_pow_right
def Gv:=@Bool.or_eq_false_iff
def Gw:=@List.map_id
def Gx:=@List.drop_left
def Gy:=@List.any_eq_true
def Gz:=@List.isEmpty_iff
def G5:=@World.cell?_setCell_same
def G6:=@List.getD_cons_zero
def G7:=@List.length_flatten
def G8:=@Bool.cond_true_left
def G9:=@List.flatten_append
def GG:=@Option.some.inj
def GH:=@List.take_append_of_le_length
def GI:=@Array.getElem?_modify
def GK:=@List.mem_range
def GL:=@Bool.cond_self
def GM:=@List.take_append_drop
def GN:=@List.take_left
def GR:=@List.set_append_right
def GU:=@if_false
def GV:=@Bool.or_not_self
def GX:=@List.length_pos_iff
def GY:=@Int.toNat_of_nonneg
def GZ:=@List.mem_or_eq_of_mem_set
def Ha:=@List.all_append
def He:=@Nat.le_trans
def Hf:=@List.getElem?_take_of_lt
def Hg:=@Nat.sub_self
def Hl:=@or_false
def Hm:=@BitVec.toNat_ofNat
def Ho:=@List.isEmpty_eq_false_iff_exists_mem
def Hq:=@UInt8.toNat_lt
def Hr:=@Bool.and_false
def Ht:=@Nat.add_sub_cancel_left
def Hu:=@Classical.axiomOfChoice
def Hw:=@List.pairwise_singleton
def Hy:=@List.length_eq_zero_iff
def Hz:=@List.not_all_eq_any_not
def H5:=@Option.bind_eq_some_iff
def H6:=@List.flatMap_cons
def H7:=@Array.getElem?_eq_none
def H8:=@List.range_succ_eq_map
def H9:=@decide_eq_decide
def HY:=@List.take_succ_eq_append_getElem
def Ia:=@decide_false
def Ib:=@Nat.ne_of_lt
def Ic:=@Nat.mul_comm
def Ie:=@List.mem_of_getElem?
def Ig:=@UInt8.toNat_inj
def Ih:=@List.drop_append_of_le_length
def Ii:=@List.mergeSort_perm
def Ij:=@Bool.false_eq_true
def Ik:=@List.foldl_append
def Il:=@UInt8.ofNat_toNat
def Io:=@dif_pos
def Ip:=@Array.toList_map
def Iq:=@Nat.zero_mul
def Ir:=@Bool.not_or_self
def Iu:=@Bool.or_self
def Iw:=@List.flatMap_eq_nil_iff
def Iy:=@Nat.not_lt_zero
def Iz:=@Nat.div_div_eq_div_mul
def I4:=@Bool.not_or
def I5:=@List.mapM_cons
def I7:=@Nat.div_lt_iff_lt_mul
def I8:=@Bool.cond_false_right
def I9:=@List.Perm.refl
def IA:=@Int.pow_nonneg
def IB:=@Array.mem_of_getElem?
def IE:=@List.getElem?_append
def IG:=@List.pairwise_append
def II:=@Bool.cond_false_left
def IJ:=@List.findIdx?_append
def IK:=@Bool.beq_comm
def IL:=@Array.getElem?_push
def IM:=@List.drop_succ_cons
def IP:=@List.getD_cons_succ
def IQ:=@Nat.mul_le_mul_left
def IU:=@List.getElem?_range
def IV:=@Array.foldl_toList
def IW:=@Nat.lt_or_gt_of_ne
def IX:=@Int.mul_comm
def IY:=@Nat.eq_zero_or_pos
def IZ:=@Array.append_assoc
def Ja:=@List.mem_filterMap
def Jb:=@eq_of_heq
def Jc:=@Bool.not_not
def Jd:=@List.getElem_range
def Je:=@Int.tmod_lt_of_pos
def Jf:=@List.findIdx?_cons
def Jg:=@BitVec.getLsbD_and
def Jh:=@Bool.not_eq_false'
def Ji:=@if_true
def Jj:=@dif_neg
def Jk:=@wp_mono
def Jl:=@List.ext_getElem?
def Jm:=@not_true_eq_false
def Jn:=@bne_self_eq_false
def Jo:=@Nat.mul_add
def Ayx:=@Prod.ext
end Go.Proofs.YtehkhflpjkokeaaGreatDoor
namespace Go.Proofs.YtehkhflpjkokeaaGreatDoor.Vm
inductive Ty where
 | nil
 | bool (r:Ty)
 | int (k:IntKind) (r:Ty)
 | str (r:Ty)
 | sl (e:Nat) (t:Ty) (r:Ty)
 | ptr (r:Ty)
 | fn (r:Ty)
 | mp (kt vt:Ty) (r:Ty)
 deriving DecidableEq,Inhabited
namespace Ty
def pr (α :Type) (β :Type):Ty->Type
 | .nil=> α
 | _=> α × β
def Val:Ty->Type
 | .nil=>Unit
 | .bool r=>pr Bool r.Val r
 | .int _ r=>pr Int r.Val r
 | .str r=>pr (List UInt8) r.Val r
 | .sl _ t r=>pr (List t.Val) r.Val r
 | .ptr r=>r.Val
 | .fn r=>pr Nat r.Val r
 | .mp kt vt r=>pr (List (kt.Val×vt.Val)) r.Val r
def hd {α β :Type}:(r:Ty)->pr α β r-> α
 | .nil,a=>a
 | .bool _,p=>p.1
 | .int _ _,p=>p.1
 | .str _,p=>p.1
 | .sl _ _ _,p=>p.1
 | .ptr _,p=>p.1
 | .fn _,p=>p.1
 | .mp _ _ _,p=>p.1
def tl {α :Type}:(r:Ty)->pr α r.Val r->r.Val
 | .nil,_=>()
 | .bool _,p=>p.2
 | .int _ _,p=>p.2
 | .str _,p=>p.2
 | .sl _ _ _,p=>p.2
 | .ptr _,p=>p.2
 | .fn _,p=>p.2
 | .mp _ _ _,p=>p.2
def mk2 {α :Type}:(r:Ty)-> α ->r.Val->pr α r.Val r
 | .nil,a,_=>a
 | .bool _,a,b=>(a,b)
 | .int _ _,a,b=>(a,b)
 | .str _,a,b=>(a,b)
 | .sl _ _ _,a,b=>(a,b)
 | .ptr _,a,b=>(a,b)
 | .fn _,a,b=>(a,b)
 | .mp _ _ _,a,b=>(a,b)
def zero:(t:Ty)->t.Val
 | .nil=>()
 | .bool r=>mk2 r false r.zero
 | .int _ r=>mk2 r 0 r.zero
 | .str r=>mk2 r [] r.zero
 | .sl _ _ r=>mk2 r [] r.zero
 | .ptr r=>r.zero
 | .fn r=>mk2 r 0 r.zero
 | .mp _ _ r=>mk2 r [] r.zero
def len:Ty->Nat
 | .nil=>0
 | .bool r=>r.len+1
 | .int _ r=>r.len+1
 | .str r=>r.len+1
 | .sl _ _ r=>r.len+1
 | .ptr r=>r.len+1
 | .fn r=>r.len+1
 | .mp _ _ r=>r.len+1
end Ty
structure Sl where
 t:Ty
 xs:List t.Val
 deriving Inhabited
structure Mp where
 kt:Ty
 vt:Ty
 l:List (kt.Val×vt.Val)
 deriving Inhabited
inductive CK where
 | bool | int (k:IntKind) | str | sl (e:Nat) (t:Ty) | sln (e:Nat) (t:Ty) | ptr | fn | mp (kt vt:Ty) | bx (t:Ty) | oth
 deriving DecidableEq
inductive A where
 | undef
 | bool (b:Bool)
 | int (k:IntKind) (n:Int)
 | str (s:List UInt8)
 | sl (l:Sl)
 | sln (l:Sl)
 | usl (z:Bool) (e:Nat) (l:Sl)
 | La
 | Lt
 | ptr (o off:Nat)
 | own (o:Nat)
 | elt (cs:List A)
 | Kq (o i off:Nat)
 | agg (cs:List A)
 | tup (vs:List A)
 | box (cs:List A)
 | clo (f o:Nat)
 | cbx (f:Nat) (cs:List A)
 | bsl (o n:Nat)
 | osl (o k:Nat)
 | fn (f:Nat)
 | ump (l:Mp)
 | cnd (g:Bool) (v:A)
 deriving Inhabited
inductive Obj where
 | box (cs:List A)
 | arr (e:Nat) (frz:Bool) (l:Sl)
 | mp (l:Mp)
 deriving Inhabited
def Ty.cells:(t:Ty)->t.Val->List A
 | .nil,_=>[]
 | .bool r,v=>.bool (r.hd v)::r.cells (r.tl v)
 | .int k r,v=>.int k (r.hd v)::r.cells (r.tl v)
 | .str r,v=>.str (r.hd v)::r.cells (r.tl v)
 | .sl _ t r,v=>.sl ⟨t,r.hd v⟩::r.cells (r.tl v)
 | .ptr r,v=>.Lt::r.cells v
 | .fn r,v=>.fn (r.hd v)::r.cells (r.tl v)
 | .mp kt vt r,v=>.ump ⟨kt,vt,r.hd v⟩::r.cells (r.tl v)
def Sl.sz (l:Sl):Nat:=l.t.len
def Sl.es (l:Sl):List (List A):=l.xs.map l.t.cells
def Sl.at (l:Sl) (i:Nat):List A:=l.t.cells (l.xs.getD i l.t.zero)
def Sl.cast (l:Sl) (t:Ty):Option (List t.Val) :=
 match decEq l.t t with
 | .isTrue h=>some (h▸l.xs)
 | .isFalse _=>none
def Mp.cast (l:Mp) (kt vt:Ty):Option (List (kt.Val×vt.Val)) :=
 match decEq l.kt kt with
 | .isTrue h=>match decEq l.vt vt with
  | .isTrue h'=>some (h▸h'▸l.l)
  | .isFalse _=>none
 | .isFalse _=>none
structure St where
 tmps:List A
 Jp:List (Nat×Obj)
def Jy:List (Nat×Obj)->Nat->Option Obj
 | [],_=>none
 | (k,x)::r,n=>bif Nat.beq k n then some x else Jy r n
def Sj:List (Nat×Obj)->Nat->List (Nat×Obj)
 | [],_=>[]
 | (k,x)::r,n=>bif Nat.beq k n then Sj r n else(k,x)::Sj r n
def Z7:List (Nat×Obj)->Nat->Obj->List (Nat×Obj)
 | [],n,y=>[(n,y)]
 | (k,x)::r,n,y=>bif Nat.ble n k then(n,y)::(k,x)::r else(k,x)::Z7 r n y
def Lj (l:List (Nat×Obj)) (n:Nat) (y:Obj):List (Nat×Obj):=Z7 (Sj l n) n y
def has (l:List Nat) (n:Nat):Bool:=l.any (Nat.beq n)
namespace A
def toB:A->Bool | .bool b=>b | _=>false
def isB:A->Bool | .bool _=>true | _=>false
def toI:A->Int | .int _ n=>n | _=>0
def kEq:IntKind->IntKind->Bool
 | .i8,.i8 | .i16,.i16 | .i32,.i32 | .i64,.i64 | .u8,.u8 | .u16,.u16 | .u32,.u32 | .u64,.u64=>true
 | _,_=>false
def isI (k:IntKind):A->Bool | .int k' _=>kEq k k' | _=>false
def toS:A->List UInt8 | .str s=>s | _=>[]
def isS:A->Bool | .str _=>true | _=>false
def toL:A->Sl | .sl l=>l | .sln l=>l | .usl _ _ l=>l | _=>default
def weak:A->A | .sln l=>.sl l | a=>a
def strong:A->A | .sl l=>.sln l | a=>a
def ApD:A->Bool | .sl _=>false | _=>true
def qU (t:Ty):A->Bool | .sln l=>decide (l.t=t) | _=>false
def AcG (t:Ty):A->Bool | .sl l=>decide (l.t=t) | _=>false
def Ae2 (z:Bool) (e:Nat) (t:Ty):A->Bool | .usl z' e' l=>(z==z')&&(Nat.beq e e'&&decide (l.t=t)) | _=>false
def eQ:A->Bool | .Lt=>true | _=>false
def isFn:A->Bool | .fn _=>true | _=>false
def jC (kt vt:Ty):A->Bool | .ump l=>decide (l.kt=kt)&&decide (l.vt=vt) | _=>false
def toM:A->Mp | .ump l=>l | _=>default
def WI:A->List A | .agg cs=>cs | .box cs=>cs | .cbx _ cs=>cs | _=>[]
def Ajw (f n:Nat):A->Bool | .cbx g cs=>Nat.beq f g&&Nat.beq cs.length n | _=>false
def isAgg (n:Nat):A->Bool | .agg cs=>Nat.beq cs.length n | _=>false
def Ajv (n:Nat):A->Bool | .box cs=>Nat.beq cs.length n | _=>false
def isVal:A->Bool | .undef=>false | .tup _=>false | .usl _ _ _=>false | .ump _=>false | .box _=>false | .cbx _ _=>false | .cnd _ _=>false | _=>true
def cells:A->List A | .agg cs=>cs | v=>[v]
def strip:A->List Bool×A | .cnd g v=>([g],v) | v=>([],v)
def Pg:A->Bool×A | .cnd g v=>(g,v) | v=>(true,v)
def MP:A->List Nat
 | .ptr o _=>[o] | .own o=>[o] | .Kq o _ _=>[o] | .clo _ o=>[o] | .bsl o _=>[o] | .osl o _=>[o] | _=>[]
def AtF:A->List Nat
 | .agg cs=>cs.flatMap MP
 | .cnd _ (.agg cs)=>cs.flatMap MP
 | .cnd _ v=>MP v
 | v=>MP v
def ids:A->List Nat
 | .tup vs=>vs.flatMap AtF
 | v=>AtF v
end A
def Obj.ids:Obj->List Nat
 | .box cs=>cs.flatMap A.MP
 | _=>[]
def St.ids (st:St):List Nat:=st.tmps.flatMap A.ids++st.Jp.flatMap (fun p=>p.2.ids)
def XQ (n:Nat):Bool:=Nat.blt n 32768&&Nat.beq (n % 256) 0
def St.fresh (st:St) (n:Nat):Bool:= !(has st.ids n)&&(Jy st.Jp n).isNone&& !(Nat.beq n 255)&& !(XQ n)
def force:CK->A->List Bool×A
 | .bool,c=>([c.isB],c)
 | .int k,c=>([c.isI k],c)
 | .str,c=>([c.isS],c)
 | .sl _ t,c=>([c.AcG t],c)
 | .sln _ t,c=>([c.qU t],c)
 | .ptr,c=>([c.eQ],c)
 | .fn,c=>([c.isFn],c)
 | .mp _ _,_=>([false],.undef)
 | .bx _,_=>([false],.undef)
 | .oth,_=>([],.undef)
def forces (cs:List A):List CK->Nat->List Bool×List A
 | [],_=>([],[])
 | k::ks,off=>((force k (cs.getD off .undef)).1++(forces cs ks (off+1)).1,(force k (cs.getD off .undef)).2::(forces cs ks (off+1)).2)
def CK.zero:CK->A
 | .bool=>.bool false
 | .int k=>.int k 0
 | .str=>.str []
 | .sl _ _=>.La
 | .sln _ _=>.La
 | .ptr=>.Lt
 | .fn=>.fn 0
 | .mp _ _=>.undef
 | .bx _=>.undef
 | .oth=>.undef
def CK.plain:CK->Bool | .oth=>false | .mp _ _=>false | .bx _=>false | _=>true
def CK.Oj:CK->A
 | .sl _ t=>.sl ⟨t,[]⟩
 | .sln _ t=>.sl ⟨t,[]⟩
 | k=>k.zero
structure TI where
 d:TypeDesc
 cs:List CK
 bytes:Nat
 cmp:List CK:=[]
def tyl:List CK->Ty
 | []=>.nil
 | .bool::r=>.bool (tyl r)
 | .int k::r=>.int k (tyl r)
 | .str::r=>.str (tyl r)
 | .sl e t::r=>.sl e t (tyl r)
 | .sln e t::r=>.sl e t (tyl r)
 | .ptr::r=>.ptr (tyl r)
 | .fn::r=>.fn (tyl r)
 | .mp kt vt::r=>.mp kt vt (tyl r)
 | .bx t::r=>.sl 0 t (tyl r)
 | .oth::r=>.ptr (tyl r)
def tck:Ty->List CK
 | .nil=>[]
 | .bool r=>.bool::tck r
 | .int k r=>.int k::tck r
 | .str r=>.str::tck r
 | .sl e t r=>.sln e t::tck r
 | .ptr r=>.ptr::tck r
 | .fn r=>.fn::tck r
 | .mp kt vt r=>.mp kt vt::tck r
def Ty.mk:(t:Ty)->List A->Bool×t.Val
 | .nil=>fun cs=>(cs.isEmpty,())
 | .bool r=>fun
  | .bool b::cs=>((r.mk cs).1,r.mk2 b (r.mk cs).2)
  | _=>(false,Ty.zero (.bool r))
 | .int k r=>fun
  | .int j n::cs=>(A.kEq j k&&(r.mk cs).1,r.mk2 n (r.mk cs).2)
  | _=>(false,Ty.zero (.int k r))
 | .str r=>fun
  | .str s::cs=>((r.mk cs).1,r.mk2 s (r.mk cs).2)
  | _=>(false,Ty.zero (.str r))
 | .sl e t r=>fun
  | .sl l::cs=>match l.cast t with
   | some xs=>((r.mk cs).1,r.mk2 xs (r.mk cs).2)
   | none=>(false,Ty.zero (.sl e t r))
  | _=>(false,Ty.zero (.sl e t r))
 | .ptr r=>fun
  | .Lt::cs=>((r.mk cs).1,(r.mk cs).2)
  | _=>(false,Ty.zero (.ptr r))
 | .fn r=>fun
  | .fn n::cs=>((r.mk cs).1,r.mk2 n (r.mk cs).2)
  | _=>(false,Ty.zero (.fn r))
 | .mp kt vt r=>fun
  | .ump l::cs=>match l.cast kt vt with
   | some xs=>((r.mk cs).1,r.mk2 xs (r.mk cs).2)
   | none=>(false,Ty.zero (.mp kt vt r))
  | _=>(false,Ty.zero (.mp kt vt r))
def TI.agg (t:TI):Bool:=match t.d with | .struct _ | .array _ _=>true | _=>false
inductive Sh where
 | cell (u:Bool) (k:CK)
 | agg (cs:List (Bool×CK))
 | box (cs:List (Bool×CK))
 | map (kt vt:Ty)
 | clo (f:Nat) (cs:List (Bool×CK))
structure Sig where
 Js:List Sh
 JA:List Sh
 ok:List A->Bool
 val:List A->List A
def Sig.F (sg:Sig) (xs:List A):Option (List A):=bif sg.ok xs then some (sg.val xs)else none
structure Nrm where
 keep:List Nat
 nw:List (List Nat×Nat×Ty×Nat)
 pz:List (Option Nat×Nat×Ty)
 ren:List (Nat×Nat)
 frz:List Nat
abbrev Alt:=Sig×Sig×(List A->Bool)
structure Ctx where
 T:Nat->Option TI
 G:Nat->Option Sig
 nrm:Nat->Option Nrm
 alt:Nat->Option Alt
 dyn:Nat->Option (Nat->Sig)
 cuts:List Nat:=[]
 binds:List Nat:=[]
 dec:Nat->Option Bool:=fun _=>none
 spl:Nat->Option (Nat×Nat×List Nat):=fun _=>none
 kept:Nat->List (Nat×Nat):=fun _=>[]
def Ctx.decide (C:Ctx) (ds:List Nat) (b:Bool):Ctx:= {C with dec:=fun d=>bif has ds d then some b else C.dec d}
def Ctx.put (C:Ctx) (f:Nat) (s:Sig):Ctx:= {C with G:=fun k=>bif Nat.beq f k then some s else C.G k}
structure Dl where
 ok:List Bool
 val:A
 new:List (Nat×Obj):=[]
 upd:List (Nat×Obj):=[]
 del:List Nat:=[]
 same:List (Nat×Nat):=[]
def Dl.no:Dl:= {ok:=[false],val:=.undef}
def Dl.v (a:A):Dl:= {ok:=[],val:=a}
def Dl.g (b:List Bool) (a:A):Dl:= {ok:=b,val:=a}
def O6:Value->A
 | .bool b=>.bool b
 | .int k n=>.int k n
 | .string s=>.str s.data.toList
 | .slice none 0 0=>.La
 | .pointer none=>.Lt
 | .nilFunc=>.fn 0
 | _=>.undef
def ofConst:Value->A
 | .agg vs=>bif vs.toList.all Value.oneCell' then .agg (vs.toList.map O6)else .undef
 | v=>O6 v
abbrev Fet:=List (Nat×Obj)
def Ag8:CK->Sl->List Bool×A
 | .sln _ _,l=>([decide (0<l.xs.length)],.sln l)
 | _,l=>([],.sl l)
def AwJ:CK->Sl->A
 | .sln _ _,l=>.sln l
 | _,l=>.sl l
def pur (fet:Fet) (k:CK):A->List Bool×A×List (Nat×Obj)
 | .own o=>match Jy fet o with
  | some (.arr e _ l)=>((Ag8 k l).1,(Ag8 k l).2,[(o,.arr e true l)])
  | _=>([false],.undef,[])
 | .La=>match k with
  | .sl _ t=>([],.sl ⟨t,[]⟩,[])
  | .sln _ t=>([],.sln ⟨t,[]⟩,[])
  | _=>([false],.undef,[])
 | .sln l=>([],AwJ k l,[])
 | .bool b=>([],.bool b,[])
 | .int j n=>([],.int j n,[])
 | .str s=>([],.str s,[])
 | .sl l=>((Ag8 k l).1,(Ag8 k l).2,[])
 | .Lt=>([],.Lt,[])
 | .fn n=>([],.fn n,[])
 | _=>([false],.undef,[])
def KG (fet:Fet):List CK->List A->List Bool×List A×List (Nat×Obj)
 | [],[]=>([],[],[])
 | k::ks,c::cs=>((pur fet k c).1++(KG fet ks cs).1,(pur fet k c).2.1::(KG fet ks cs).2.1,(pur fet k c).2.2++(KG fet ks cs).2.2)
 | _,_=>([false],[],[])
def KW (id:Nat):List CK->List A->List A×List (Nat×Obj)
 | .sl e t::ks,.La::cs=>(.own id::(KW (id+1) ks cs).1,(id,.arr e false ⟨t,[]⟩)::(KW (id+1) ks cs).2)
 | _::ks,c::cs=>(c::(KW (id+1) ks cs).1,(KW (id+1) ks cs).2)
 | _,cs=>(cs,[])
def rd (fet:Fet):A->List Bool×Sl
 | .own o=>match Jy fet o with
  | some (.arr _ _ l)=>([],l)
  | _=>([false],default)
 | .La=>([],default)
 | .sl l=>([],l)
 | _=>([false],default)
def rdT (fet:Fet) (t:Ty):A->List Bool×List t.Val
 | .La=>([],[])
 | x=>match (rd fet x).2.cast t with
  | some xs=>((rd fet x).1,xs)
  | none=>([false],[])
def RZ:Ty:=.int .u8 .nil
def rdB (fet:Fet) (x:A):List Bool×List Int:=rdT fet RZ x
def byteOf (n:Int):UInt8:=UInt8.ofNat n.toNat
def isByte (n:Int):Bool:=decide (0<=n)&&decide (n<256)
def J9 (op:BinOp) (k:IntKind) (x y:Int):Int :=
 match op with
 | .and=>k.wrap (((BitVec.ofInt k.bits x) &&& (BitVec.ofInt k.bits y)).toNat)
 | .or=>k.wrap (((BitVec.ofInt k.bits x) ||| (BitVec.ofInt k.bits y)).toNat)
 | .xor=>k.wrap (((BitVec.ofInt k.bits x) ^^^ (BitVec.ofInt k.bits y)).toNat)
 | _=>k.wrap (((BitVec.ofInt k.bits x) &&& ~~~(BitVec.ofInt k.bits y)).toNat)
def wQ (op:BinOp) (k:IntKind) (x y:Int):Dl :=
 match op with
 | .add=>.v (.int k (k.wrap (x+y)))
 | .sub=>.v (.int k (k.wrap (x - y)))
 | .mul=>.v (.int k (k.wrap (x*y)))
 | .quo=>.g [y != 0] (.int k (k.wrap (x.tdiv y)))
 | .rem=>.g [y != 0] (.int k (x.tmod y))
 | .and | .or | .xor | .andNot=>.v (.int k (J9 op k x y))
 | .eql=>.v (.bool (x==y))
 | .neq=>.v (.bool (x != y))
 | .lss=>.v (.bool (decide (x<y)))
 | .leq=>.v (.bool (decide (x<=y)))
 | .gtr=>.v (.bool (decide (x>y)))
 | .geq=>.v (.bool (decide (x>=y)))
 | _=>.no
def bytesLess:List UInt8->List UInt8->Bool:=Go.Op.bytesLess
def wR (op:BinOp) (x y:List UInt8):Dl :=
 match op with
 | .add=>.g [decide (x.length+y.length<=140737488355328)] (.str (x++y))
 | .eql=>.v (.bool (x==y))
 | .neq=>.v (.bool (!(x==y)))
 | .lss=>.v (.bool (bytesLess x y))
 | .leq=>.v (.bool (bytesLess x y||x==y))
 | .gtr=>.v (.bool (!(bytesLess x y||x==y)))
 | .geq=>.v (.bool (!(bytesLess x y)))
 | _=>.no
def dH:CK->A->A->Bool×Bool
 | .bool,.bool a,.bool b=>(true,a==b)
 | .int k,.int i a,.int j b=>(A.kEq i k&&A.kEq j k,a==b)
 | .str,.str a,.str b=>(true,a==b)
 | _,_,_=>(false,false)
def Pm:List CK->List A->List A->Bool×Bool
 | [],[],[]=>(true,true)
 | k::ks,a::x,b::y=>((dH k a b).1&&(Pm ks x y).1,(dH k a b).2&&(Pm ks x y).2)
 | _,_,_=>(false,false)
def Ty.same:(t:Ty)->t.Val->t.Val->Bool
 | .nil,_,_=>true
 | .bool r,a,b=>(r.hd a==r.hd b)&&r.same (r.tl a) (r.tl b)
 | .int _ r,a,b=>(r.hd a==r.hd b)&&r.same (r.tl a) (r.tl b)
 | .str r,a,b=>(r.hd a==r.hd b)&&r.same (r.tl a) (r.tl b)
 | _,_,_=>false
def O9 {β :Type} (t:Ty) (k:t.Val):List (t.Val× β)->Option β
 | []=>none
 | p::r=>bif t.same k p.1 then some p.2 else O9 t k r
def VG {β :Type} (t:Ty) (k:t.Val) (v: β):List (t.Val× β)->List (t.Val× β)
 | []=>[(k,v)]
 | p::r=>bif t.same k p.1 then(p.1,v)::r else p::VG t k v r
def fC {β :Type} (t:Ty) (k:t.Val):List (t.Val× β)->List (t.Val× β)
 | []=>[]
 | p::r=>bif t.same k p.1 then r else p::fC t k r
def OA:List A->A
 | [c]=>c
 | cs=>.agg cs
def splice (l:List A) (off:Nat) (vs:List A):List A:=l.take off++vs++l.drop (off+vs.length)
def AeR (C:Ctx) (d:TypeDesc) (f:Nat):Option (Nat×TI) :=
 match d with
 | .struct fs=>match fs.toList[f]? with
  | some x=>match C.T x.type with
   | some ti=>some (x.offset,ti)
   | none=>none
  | none=>none
 | _=>none
def yY:TypeDesc->Bool | .string=>true | _=>false
def Yo:TypeDesc->Bool | .slice _=>true | .string=>true | _=>false
def Agu:TypeDesc->Bool | .bool=>true | _=>false
def Ae0:TypeDesc->Bool | .int .u8=>true | _=>false
def Abg (C:Ctx) (d:TypeDesc) (f:Nat):Option (Nat×TI) :=
 match d with
 | .struct fs=>match fs.toList[f]? with
  | some x=>match C.T x.type with
   | some ti=>some (x.offset,ti)
   | none=>none
  | none=>none
 | .array n e=>match C.T e with
  | some ti=>bif Nat.blt f n then some (f*ti.cs.length,ti)else none
  | none=>none
 | _=>none
def rP (ti:TI) (cs:List A) (off:Nat):A:=bif ti.agg then .agg ((cs.drop off).take ti.cs.length)else cs.getD off .undef
def fill (C:Ctx) (d:TypeDesc):List (Nat×A)->List A->Option (List A)
 | [],cs=>some cs
 | (i,v)::r,cs=>match Abg C d i with
  | some (off,ti)=>bif v.isVal&&Nat.beq v.cells.length ti.cs.length&&Nat.ble (off+ti.cs.length) cs.length then fill C d r (splice cs off v.cells)else none
  | none=>none
def NS (fet:Fet) (ti:TI) (t:Ty):List (Nat×A)->List t.Val->List Bool×List t.Val×List (Nat×Obj)
 | [],xs=>([],xs,[])
 | (i,v)::r,xs=>((KG fet ti.cs v.cells).1++[(t.mk (KG fet ti.cs v.cells).2.1).1,Nat.blt i xs.length]++(NS fet ti t r (xs.set i (t.mk (KG fet ti.cs v.cells).2.1).2)).1,
     (NS fet ti t r (xs.set i (t.mk (KG fet ti.cs v.cells).2.1).2)).2.1,(KG fet ti.cs v.cells).2.2++(NS fet ti t r (xs.set i (t.mk (KG fet ti.cs v.cells).2.1).2)).2.2)
def Sl.set (l:Sl) (i off:Nat) (cs:List A):Bool×Sl:=((l.t.mk (splice (l.at i) off cs)).1,⟨l.t,l.xs.set i (l.t.mk (splice (l.at i) off cs)).2⟩)
def KE:Sh->Bool | .box _=>true | .map _ _=>true | .clo _ _=>true | _=>false
def L6 (fet:Fet) (o:Nat):Option (List A):=match Jy fet o with | some (.box cs)=>some cs | _=>none
structure Arg where
 ok:List Bool
 a:A
 upd:List (Nat×Obj):=[]
 del:List Nat:=[]
 boxes:List (Nat×Sh):=[]
def J4 (fet:Fet):List (Bool×CK)->List A->List Bool×List A×List (Nat×Obj)×List Nat
 | [],[]=>([],[],[],[])
 | (false,k)::ks,c::cs=>((pur fet k c).1++(J4 fet ks cs).1,(pur fet k c).2.1::(J4 fet ks cs).2.1,(pur fet k c).2.2++(J4 fet ks cs).2.2.1,(J4 fet ks cs).2.2.2)
 | (true,.sl e t)::ks,.own o::cs=>match Jy fet o with
  | some (.arr e' _ l)=>([Nat.beq e e',decide (l.t=t)]++(J4 fet ks cs).1,.usl true e l::(J4 fet ks cs).2.1,(o,.arr e true l)::(J4 fet ks cs).2.2.1,o::(J4 fet ks cs).2.2.2)
  | _=>([false],[],[],[])
 | (true,.sl e t)::ks,.La::cs=>((J4 fet ks cs).1,.usl true e ⟨t,[]⟩::(J4 fet ks cs).2.1,(J4 fet ks cs).2.2.1,(J4 fet ks cs).2.2.2)
 | (true,.sln e t)::ks,.own o::cs=>match Jy fet o with
  | some (.arr e' f l)=>([Nat.beq e e',decide (l.t=t),!f]++(J4 fet ks cs).1,.usl false e l::(J4 fet ks cs).2.1,(J4 fet ks cs).2.2.1,o::(J4 fet ks cs).2.2.2)
  | _=>([false],[],[],[])
 | (true,.sln e t)::ks,.La::cs=>((J4 fet ks cs).1,.usl false e ⟨t,[]⟩::(J4 fet ks cs).2.1,(J4 fet ks cs).2.2.1,(J4 fet ks cs).2.2.2)
 | (true,.bx t)::ks,.ptr o off::cs=>match L6 fet o with
  | some zs=>(Nat.beq off 0::(KG fet (tck t) zs).1++(J4 fet ks cs).1,.box (KG fet (tck t) zs).2.1::(J4 fet ks cs).2.1,(KG fet (tck t) zs).2.2++(J4 fet ks cs).2.2.1,o::(J4 fet ks cs).2.2.2)
  | none=>([false],[],[],[])
 | (true,.mp kt vt)::ks,.own o::cs=>match Jy fet o with
  | some (.mp l)=>([decide (l.kt=kt),decide (l.vt=vt)]++(J4 fet ks cs).1,.ump l::(J4 fet ks cs).2.1,(J4 fet ks cs).2.2.1,o::(J4 fet ks cs).2.2.2)
  | _=>([false],[],[],[])
 | _,_=>([false],[],[],[])
def wC:Bool×CK->Bool
 | (true,.sln _ _)=>true
 | _=>false
def wS:Sh->Bool
 | .cell u k=>wC (u,k)
 | .agg ks=>ks.any wC
 | .box ks=>ks.any wC
 | .clo _ ks=>ks.any wC
 | .map _ _=>false
def JU (fet:Fet):Sh->A->Arg
 | .cell u k,a=>match J4 fet [(u,k)] [a]with
  | (ok,[c],upd,del)=> {ok,a:=c,upd,del}
  | _=> {ok:=[false],a:=.undef}
 | .agg ks,.agg cs=>match J4 fet ks cs with
  | (ok,cs,upd,del)=> {ok,a:=.agg cs,upd,del}
 | .box ks,.ptr o off=>match L6 fet o with
  | some cs=> {ok:=Nat.beq off 0::Nat.ble ks.length 200::(J4 fet ks cs).1,a:=.box (J4 fet ks cs).2.1,upd:=(J4 fet ks cs).2.2.1,del:=(J4 fet ks cs).2.2.2,boxes:=[(o,.box ks)]}
  | none=> {ok:=[false],a:=.undef}
 | .clo f ks,.clo g o=>match L6 fet o with
  | some cs=> {ok:=Nat.beq f g::Nat.ble ks.length 200::(J4 fet ks cs).1,a:=.cbx g (J4 fet ks cs).2.1,upd:=(J4 fet ks cs).2.2.1,del:=(J4 fet ks cs).2.2.2,boxes:=[(o,.box ks)]}
  | none=> {ok:=[false],a:=.undef}
 | .map kt vt,.own o=>match Jy fet o with
  | some (.mp l)=> {ok:=[decide (l.kt=kt),decide (l.vt=vt)],a:=.ump l,boxes:=[(o,.map kt vt)]}
  | _=> {ok:=[false],a:=.undef}
 | _,_=> {ok:=[false],a:=.undef}
def J8 (fet:Fet):List Sh->List A->List Bool×List A×List (Nat×Obj)×List Nat×List (Nat×Sh)
 | [],[]=>([],[],[],[],[])
 | s::ss,a::aa=>((JU fet s a).ok++(J8 fet ss aa).1,(JU fet s a).a::(J8 fet ss aa).2.1,(JU fet s a).upd++(J8 fet ss aa).2.2.1,
  (JU fet s a).del++(J8 fet ss aa).2.2.2.1,(JU fet s a).boxes++(J8 fet ss aa).2.2.2.2)
 | _,_=>([false],[],[],[],[])
def JI (id:Nat):List (Bool×CK)->List A->Nat->List Bool×List A×List (Nat×Obj)
 | [],_,_=>([],[],[])
 | (false,k)::ks,cs,j=>((force k (cs.getD j .undef)).1++(JI id ks cs (j+1)).1,(force k (cs.getD j .undef)).2::(JI id ks cs (j+1)).2.1,(JI id ks cs (j+1)).2.2)
 | (true,.sl e t)::ks,cs,j=>((cs.getD j .undef).Ae2 true e t::(JI id ks cs (j+1)).1,.own (id+j)::(JI id ks cs (j+1)).2.1,
     (id+j,.arr e true (cs.getD j .undef).toL)::(JI id ks cs (j+1)).2.2)
 | (true,.sln e t)::ks,cs,j=>((cs.getD j .undef).Ae2 false e t::(JI id ks cs (j+1)).1,.own (id+j)::(JI id ks cs (j+1)).2.1,
     (id+j,.arr e false (cs.getD j .undef).toL)::(JI id ks cs (j+1)).2.2)
 | (true,.bx t)::ks,cs,j=>((cs.getD j .undef).Ajv t.len::(JI id ks cs (j+1)).1,.ptr (id+j) 0::(JI id ks cs (j+1)).2.1,(id+j,.box (cs.getD j .undef).WI)::(JI id ks cs (j+1)).2.2)
 | (true,.mp kt vt)::ks,cs,j=>((cs.getD j .undef).jC kt vt::(JI id ks cs (j+1)).1,.own (id+j)::(JI id ks cs (j+1)).2.1,(id+j,.mp (cs.getD j .undef).toM)::(JI id ks cs (j+1)).2.2)
 | _,_,_=>([false],[],[])
def back (id:Nat):Sh->A->List Bool×A×List (Nat×Obj)
 | .cell u k,a=>((JI id [(u,k)] [a] 0).1++[k.plain],(JI id [(u,k)] [a] 0).2.1.getD 0 .undef,(JI id [(u,k)] [a] 0).2.2)
 | .agg ks,a=>(Nat.ble ks.length 200::a.isAgg ks.length::(JI (id+1) ks a.WI 0).1,.agg (JI (id+1) ks a.WI 0).2.1,(JI (id+1) ks a.WI 0).2.2)
 | .box ks,a=>(Nat.ble ks.length 200::a.Ajv ks.length::(JI (id+1) ks a.WI 0).1,.ptr id 0,(id,.box (JI (id+1) ks a.WI 0).2.1)::(JI (id+1) ks a.WI 0).2.2)
 | .map kt vt,a=>([a.jC kt vt],.own id,[(id,.mp a.toM)])
 | .clo f ks,a=>(Nat.ble ks.length 200::a.Ajw f ks.length::(JI (id+1) ks a.WI 0).1,.clo f id,(id,.box (JI (id+1) ks a.WI 0).2.1)::(JI (id+1) ks a.WI 0).2.2)
def KL (id stride:Nat):List Sh->List A->Nat->List Bool×List A×List (Nat×Obj)
 | [],_,_=>([],[],[])
 | s::ss,rs,j=>((back (id+stride*j) s (rs.getD j .undef)).1++(KL id stride ss rs (j+1)).1,(back (id+stride*j) s (rs.getD j .undef)).2.1::(KL id stride ss rs (j+1)).2.1,
  (back (id+stride*j) s (rs.getD j .undef)).2.2++(KL id stride ss rs (j+1)).2.2)
def NM (rb:Nat):Sh->A->List Bool×Obj×List (Nat×Obj)
 | .box ks,a=>(a.isAgg ks.length::(JI (rb+1) ks a.WI 0).1,.box (JI (rb+1) ks a.WI 0).2.1,(JI (rb+1) ks a.WI 0).2.2)
 | .map kt vt,a=>([a.jC kt vt],.mp a.toM,[])
 | _,_=>([false],.box [],[])
def KQ (rb:Nat->Nat) (rs:List A):List (Nat×Sh)->Nat->List Bool×List (Nat×Obj)×List (Nat×Obj)
 | [],_=>([],[],[])
 | (o,s)::r,j=>((NM (rb o) s (rs.getD j .undef)).1++(KQ rb rs r (j+1)).1,
     (o,(NM (rb o) s (rs.getD j .undef)).2.1)::(KQ rb rs r (j+1)).2.1,(NM (rb o) s (rs.getD j .undef)).2.2++(KQ rb rs r (j+1)).2.2)
def LY (fet:Fet) (o:Nat):Nat:=match L6 fet o with
 | some cs=>bif cs.any (fun c=>c.MP.any (fun i=>Nat.blt o i&&Nat.ble i (o+100)))then o+100 else o
 | none=>o
def nodup:List Nat->Bool
 | []=>true
 | n::r=> !(has r n)&&nodup r
def KZ (id:Nat):List (Bool×CK)->List A->List (Nat×Nat)
 | (true,.sl _ _)::ks,.own o::cs=>(o,id)::KZ (id+1) ks cs
 | (true,.sln _ _)::ks,.own o::cs=>(o,id)::KZ (id+1) ks cs
 | (true,.bx _)::ks,.ptr o _::cs=>(o,id)::KZ (id+1) ks cs
 | (true,.mp _ _)::ks,.own o::cs=>(o,id)::KZ (id+1) ks cs
 | _::ks,_::cs=>KZ (id+1) ks cs
 | _,_=>[]
def Oq (fet:Fet) (id:Nat):Sh->A->List (Nat×Nat)
 | .cell u k,a=>KZ id [(u,k)] [a]
 | .agg ks,.agg cs=>KZ (id+1) ks cs
 | .box ks,.ptr o _=>(o,id)::(match L6 fet o with | some cs=>KZ (id+1) ks cs | none=>[])
 | .map _ _,.own o=>[(o,id)]
 | .clo _ ks,.clo _ o=>(o,id)::(match L6 fet o with | some cs=>KZ (id+1) ks cs | none=>[])
 | _,_=>[]
def MQ (fet:Fet):Nat->Nat->List Sh->List A->List (Nat×Nat)
 | id,stride,s::ss,x::xs=>Oq fet id s x++MQ fet (id+stride) stride ss xs
 | _,_,_,_=>[]
end Go.Proofs.YtehkhflpjkokeaaGreatDoor.Vm
namespace Go.Proofs.YtehkhflpjkokeaaGreatDoor.Vm
def AaG:Nat->Option (IntKind×List Int)
 | 0=>some (.i64,[31,28,31,30,31,30,31,31,30,31,30,31])
 | _=>none
def AwY (j:Nat):Option (IntKind×List Int)->Option (Value->Prop)
 | some (k,ns)=>if j<ns.length then some (fun v=>v= .int k (ns.getD j 0))else none
 | none=>none
def lG:Nat->Nat->Option (Value->Prop)
 | 1,0=>some (fun v=> ∃ m,v= .int .i64 m)
 | 2,j=>if j<20 then some (fun v=>v= .int .u64 ((10 ^ j:Nat):Int))else none
 | g,j=>AwY j (AaG g)
def Au6:Nat->Option Nat
 | 2=>some 20
 | _=>none
def Au5:Option (IntKind×List Int)->A
 | some (k,ns)=>.elt (ns.map (.int k))
 | none=>.undef
def AvV {g:Nat} {q:IntKind×List Int} (h:AaG g=some q) (j:Nat):lG g j=AwY j (some q):=by rw[<- h];unfold lG;split<;>first | rfl | (exfalso;cases h;done)
def KN (tmps:List A):Operand->A
 | .tmp t=>tmps.getD t .undef
 | .const v=>ofConst v
 | .func f=>.fn (f+1)
 | .global g=>Au5 (AaG g)
def b2 (d:Nat):Nat:=(d+128)*256
def Kt {α :Type} (o:Option α) (k: α ->Dl):Dl:=match o with | some x=>k x | none=>.no
def Lr (C:Ctx) (t:Nat) (k:TI->Dl):Dl:=Kt (C.T t) k
def elem? :TypeDesc->Option Nat
 | .slice e=>some e
 | _=>none
def elemOf (C:Ctx) (t:Nat) (k:Nat->TI->Dl):Dl:=Lr C t fun ti=>Kt (elem? ti.d) fun e=>Lr C e fun te=>k e te
structure Arr where
 e:Nat
 frz:Bool
 l:Sl
def Z8 (fet:Fet) (o:Nat):Option Arr:=match Jy fet o with | some (.arr e frz l)=>some ⟨e,frz,l⟩ | _=>none
def one? {α :Type}:List α ->Option α
 | [k]=>some k
 | _=>none
def Aex:List CK->Bool
 | [.ptr]=>true
 | _=>false
def Wi (ti:TI) (cs:List A) (off:Nat) (pre:List Bool):Dl :=
 bif ti.agg then .g (pre++(forces cs ti.cs off).1) (.agg (forces cs ti.cs off).2)
 else Kt (one? ti.cs) fun k=>.g (pre++(force k (cs.getD off .undef)).1) (force k (cs.getD off .undef)).2
def isRow (ti:TI) (l:Sl) (i off:Nat):Bool:=Nat.blt 1 ti.cs.length&&Nat.beq l.sz 1&&Nat.beq off 0&&Nat.beq i 0
def sH (l:Sl) (n:Nat):List A:=(List.range n).map fun j=>(l.at j).getD 0 .undef
def bY (t:Ty) (cs:List A):Bool×List t.Val:=(cs.all (fun c=>(t.mk [c]).1),cs.map (fun c=>(t.mk [c]).2))
def X0 (C:Ctx) (fet:Fet) (t:Nat) (a:A):Dl :=
 Lr C t fun ti=>match a with
 | .ptr o off=>Kt (L6 fet o) fun cs=>.g [Nat.ble (off+ti.cs.length) cs.length,Nat.blt 0 ti.cs.length] (rP ti cs off)
 | .elt cs=>Wi ti cs 0 [Nat.ble ti.cs.length cs.length]
 | .clo k o=>.g [Nat.beq k 0,Aex ti.cs,!ti.agg] (.ptr o 0)
 | .Kq o i off=>Kt (Z8 fet o) fun r=>bif isRow ti r.l i off then Wi ti (sH r.l ti.cs.length) 0 [Nat.ble ti.cs.length r.l.xs.length,true]else Wi ti (r.l.at i) off [Nat.ble (off+ti.cs.length) r.l.sz,decide (i<r.l.xs.length)]
 | _=>.no
def adK (C:Ctx) (d:Nat) (ti:TI):List CK:=bif has C.cuts d then []else ti.cs
def UZ (C:Ctx) (fet:Fet) (t:Nat) (a v:A):Dl :=
 Lr C t fun ti=>match a with
 | .ptr o off=>Kt (L6 fet o) fun cs =>
  {ok:=[v.isVal,Nat.beq v.cells.length ti.cs.length,Nat.ble (off+ti.cs.length) cs.length,Nat.blt 0 ti.cs.length],val:=.undef,
   upd:=[(o,.box (splice cs off (KW (LY fet o+1+off) (adK C (o / 256 - 128) ti) v.cells).1))],new:=(KW (LY fet o+1+off) (adK C (o / 256 - 128) ti) v.cells).2}
 | .Kq o i off=>Kt (Z8 fet o) fun r=>bif isRow ti r.l i off then
  {ok:=(KG fet ti.cs v.cells).1++[!r.frz,(bY r.l.t (KG fet ti.cs v.cells).2.1).1,Nat.beq ti.cs.length r.l.xs.length,true,Nat.blt 0 ti.cs.length,!(has ((KG fet ti.cs v.cells).2.2.map (·.1)) o)],val:=.undef,
   upd:=(KG fet ti.cs v.cells).2.2++[(o,.arr r.e false ⟨r.l.t,(bY r.l.t (KG fet ti.cs v.cells).2.1).2⟩)]}else
  {ok:=(KG fet ti.cs v.cells).1++[!r.frz,(r.l.set i off (KG fet ti.cs v.cells).2.1).1,Nat.ble (off+ti.cs.length) r.l.sz,decide (i<r.l.xs.length),Nat.blt 0 ti.cs.length,!(has ((KG fet ti.cs v.cells).2.2.map (·.1)) o)],val:=.undef,
   upd:=(KG fet ti.cs v.cells).2.2++[(o,.arr r.e false (r.l.set i off (KG fet ti.cs v.cells).2.1).2)]}
 | _=>.no
def Wq (C:Ctx) (d:Nat) (t:Nat) (v:A):Dl :=
 Lr C t fun ti=> {ok:=[v.isVal,Nat.beq v.cells.length ti.cs.length],val:=.ptr (b2 d) 0,new:=(b2 d,.box (KW (b2 d+1) (adK C d ti) v.cells).1)::(KW (b2 d+1) (adK C d ti) v.cells).2}
def Y5 (off n:Nat) (fet:Fet):A->Dl
 | .ptr o p=>Kt (L6 fet o) fun cs=>.g [Nat.ble (p+off+n) cs.length] (.ptr o (p+off))
 | .elt cs=>.g [Nat.ble (off+n) cs.length] (.elt (cs.drop off))
 | .Kq o i p=>Kt (Z8 fet o) fun r=>.g [decide (i<r.l.xs.length)] (.Kq o i (p+off))
 | _=>.no
def oZ:TypeDesc->Option (Nat×Nat)
 | .array n e=>some (n,e)
 | _=>none
def int? :A->Option Int
 | .int _ n=>some n
 | _=>none
def AuS:CK->Option IntKind
 | .int k=>some k
 | _=>none
def Ady (C:Ctx) (t:Nat) (k:Nat->IntKind->Dl):Dl:=Lr C t fun ti=>Kt (oZ ti.d) fun p=>Lr C p.2 fun te=>bif te.agg then .no else Kt (one? te.cs) fun c=>Kt (AuS c) fun kk=>k p.1 kk
def rE (cs:List A) (n:Int):Int:=(cs.map A.toI).getD n.toNat 0
def aY (C:Ctx) (fet:Fet) (t:Nat) (x:A) (i:A):Dl :=
 match x with
 | .Kq o i0 off0=>Kt (int? i) fun n=>Lr C t fun ti=>Kt (oZ ti.d) fun p=>Lr C p.2 fun te=>Kt (Z8 fet o) fun r =>
  .g [Nat.beq i0 0,Nat.beq off0 0,Nat.beq r.l.sz te.cs.length,decide (0<=n),decide (n<(p.1:Int)),decide (n.toNat<r.l.xs.length)] (.Kq o n.toNat 0)
 | .elt cs=>Kt (int? i) fun n=>Ady C t fun m kk=>.g [cs.all (A.isI kk),Nat.beq cs.length m,decide (0<=n),decide (n<(m:Int))] (.elt [.int kk (rE cs n)])
 | x =>
 Kt (int? i) fun n=>elemOf C t fun _ te=>match x with
 | .own o=>Kt (Z8 fet o) fun r=>.g [Nat.beq r.l.sz te.cs.length,decide (0<=n),decide (n<r.l.xs.length)] (.Kq o n.toNat 0)
 | .sl l=>.g [Nat.beq l.sz te.cs.length,Nat.blt 0 l.sz,decide (0<=n),decide (n<l.xs.length)] (.elt (l.at n.toNat))
 | .bsl o k=>Kt (L6 fet o) fun cs=>.g [Nat.beq te.cs.length 1,decide (0<=n),Nat.blt n.toNat k,Nat.blt n.toNat cs.length] (.ptr o n.toNat)
 | _=>.no
def AlX:A->Option (List UInt8)
 | .str s=>some s
 | _=>none
def Aev (C:Ctx) (t:Nat) (x i:A):Dl :=
 Kt (int? i) fun n=>match x with
 | .agg cs=>Ady C t fun m kk=>.g [cs.all (A.isI kk),Nat.beq cs.length m,decide (0<=n),decide (n<(m:Int))] (.int kk (rE cs n))
 | x=>Kt (AlX x) fun s=>Lr C t fun ti=>.g [yY ti.d,decide (0<=n),decide (n<s.length)] (.int .u8 ((s.getD n.toNat 0).toNat:Int))
def xO (len:Nat):Option A->Option A->Option (List Bool×Nat×Nat)
 | none,none=>some ([],0,len)
 | some (.int _ a),none=>some ([decide (0<=a),decide (a<=len)],a.toNat,len)
 | none,some (.int _ b)=>some ([decide (0<=b),decide (b<=len)],0,b.toNat)
 | some (.int _ a),some (.int _ b)=>some ([decide (0<=a),decide (a<=b),decide (b<=len)],a.toNat,b.toNat)
 | _,_=>none
def J6 {α :Type} (l:List α) (a b:Nat):List α :=(l.take b).drop a
def Lu (C:Ctx) (fet:Fet) (t:Nat) (x:A) (lo hi:Option A):Dl :=
 Lr C t fun ti=>match x with
 | .str s=>Kt (xO s.length lo hi) fun r=>.g (yY ti.d::r.1) (.str (J6 s r.2.1 r.2.2))
 | .sl l=>Kt (xO l.xs.length lo hi) fun r=>Kt (elem? ti.d) fun e=>Lr C e fun te=>.g (Nat.beq l.sz te.cs.length::r.1) (.sl ⟨l.t,J6 l.xs r.2.1 r.2.2⟩)
 | .sln l=>Kt (xO l.xs.length lo hi) fun r=>Kt (elem? ti.d) fun e=>Lr C e fun te=>.g ((l.xs.isEmpty|| !(J6 l.xs r.2.1 r.2.2).isEmpty)::Nat.beq l.sz te.cs.length::r.1) (.sln ⟨l.t,J6 l.xs r.2.1 r.2.2⟩)
 | .own o=>Kt (Z8 fet o) fun ro=>Kt (xO ro.l.xs.length lo hi) fun r=>Kt (elem? ti.d) fun e=>Lr C e fun te =>
  {ok:=Nat.beq ro.l.sz te.cs.length::r.1,val:=.sl ⟨ro.l.t,J6 ro.l.xs r.2.1 r.2.2⟩,upd:=bif ro.frz then []else [(o,.arr ro.e true ro.l)]}
 | _=>.no
def xR (C:Ctx) (fet:Fet) (d t:Nat) (x hi:A):Dl :=
 Lr C t fun ti=>match x with
 | .own o=>Kt (Z8 fet o) fun ro=>Kt (xO ro.l.xs.length none (some hi)) fun r=>Kt (elem? ti.d) fun e=>Lr C e fun te =>
  {ok:=Nat.beq ro.l.sz te.cs.length::r.1++[!ro.frz],val:=.own (b2 d),new:=[(b2 d,.arr ro.e false ⟨ro.l.t,J6 ro.l.xs r.2.1 r.2.2⟩)],del:=[o]}
 | _=>.no
def sZ (C:Ctx) (fet:Fet) (t:Nat) (x a:A):Dl :=
 Lr C t fun ti=>match x with
 | .own o=>Kt (Z8 fet o) fun ro=>Kt (int? a) fun n=>Kt (elem? ti.d) fun e=>Lr C e fun te=>.g [Nat.beq ro.l.sz te.cs.length,decide (0<=n),decide (n<(ro.l.xs.length:Int))] (.osl o n.toNat)
 | _=>.no
def kU (ys:List Int) (k:Nat) (s:List UInt8):List Int:=ys.take k++s.map (fun(b:UInt8)=>((b.toNat:Int)))++ys.drop (k+s.length)
def Ajo (C:Ctx) (fet:Fet) (ts:List Nat) (x y:A):Dl :=
 match ts with
 | [t,_]=>elemOf C t fun _ te=>match x with
  | .osl o k=>Kt (Z8 fet o) fun r=>Kt (r.l.cast RZ) fun ys=>Kt (AlX y) fun s =>
   {ok:=[Ae0 te.d,Nat.beq te.cs.length 1,!r.frz,decide (0<s.length),decide (k+s.length<=ys.length)],val:=.int .i64 (s.length:Int),upd:=[(o,.arr r.e false ⟨RZ,kU ys k s⟩)]}
  | _=>.no
 | _=>.no
def mapOf (C:Ctx) (t:Nat) (k:TI->TI->Dl):Dl:=Lr C t fun ti=>match ti.d with
 | .map a b=>Lr C a fun ta=>Lr C b fun tb=>k ta tb
 | _=>.no
def mp? (fet:Fet):A->Option (Nat×Mp)
 | .own o=>match Jy fet o with
  | some (.mp l)=>some (o,l)
  | _=>none
 | _=>none
def nJ:CK->Bool | .str=>true | _=>false
def Ar8:TypeDesc->Bool | .map _ _=>true | _=>false
def nO (C:Ctx) (fet:Fet) (op:BinOp) (t:Nat) (x:A):Dl:=Kt (mp? fet x) fun _=>Lr C t fun ti=>bif Ar8 ti.d then(match op with
 | .eql=>.v (.bool false)
 | .neq=>.v (.bool true)
 | _=>.no)else .no
def yX:Operand->Bool | .const (.map none)=>true | _=>false
def Apu (C:Ctx) (ta:TI):Bool:=match ta.d with
 | .string=>true
 | .int _=>true
 | .array n e=>match C.T e with
  | some te=>yY te.d&&Nat.blt 1 n
  | none=>false
 | .struct _=>ta.cmp.all nJ&&ta.cs.all nJ&&Nat.beq ta.cmp.length ta.cs.length&&Nat.blt 1 ta.cs.length
 | _=>false
def Aj0 (ti:TI):Bool:=ti.agg== !(Nat.beq ti.cs.length 1)
def Apm:A->Bool
 | .agg [_]=>false
 | _=>true
def Ajs (C:Ctx) (ta tb:TI) (l:Mp) (i:A):List Bool:=[Apu C ta,Aj0 tb,decide (l.kt=tyl ta.cs),decide (l.vt=tyl tb.cs),i.isVal,Apm i,(l.kt.mk i.cells).1]
def WB (C:Ctx) (d t:Nat) (r:List A):Dl:=mapOf C t fun ta tb =>
 {ok:=[r.isEmpty],val:=.own (b2 d),new:=[(b2 d,.mp ⟨tyl ta.cs,tyl tb.cs,[]⟩)]}
def Agw (l:Mp) (c:Bool) (r:Option l.vt.Val):A :=
 bif c then .tup [OA (l.vt.cells (r.getD l.vt.zero)),.bool r.isSome]else OA (l.vt.cells (r.getD l.vt.zero))
def Abc (C:Ctx) (fet:Fet) (t:Nat) (c:Bool) (x i:A):Dl:=mapOf C t fun ta tb=>Kt (mp? fet x) fun p =>
 .g (Ajs C ta tb p.2 i++[tb.cs.all CK.plain]) (Agw p.2 c (O9 p.2.kt (p.2.kt.mk i.cells).2 p.2.l))
def oN (C:Ctx) (fet:Fet) (t:Nat) (x i v:A):Dl:=mapOf C t fun ta tb=>Kt (mp? fet x) fun p =>
 {ok:=Ajs C ta tb p.2 i++[v.isVal,Apm v]++(KG fet tb.cs v.cells).1++[(p.2.vt.mk (KG fet tb.cs v.cells).2.1).1],val:=.undef,
  upd:=(KG fet tb.cs v.cells).2.2++[(p.1,.mp ⟨p.2.kt,p.2.vt,VG p.2.kt (p.2.kt.mk i.cells).2 (p.2.vt.mk (KG fet tb.cs v.cells).2.1).2 p.2.l⟩)]}
def mQ (C:Ctx) (fet:Fet) (t:Nat) (x i:A):Dl:=mapOf C t fun ta tb=>Kt (mp? fet x) fun p =>
 {ok:=Ajs C ta tb p.2 i,val:=.tup [],upd:=[(p.1,.mp ⟨p.2.kt,p.2.vt,fC p.2.kt (p.2.kt.mk i.cells).2 p.2.l⟩)]}
def Agv (C:Ctx) (fet:Fet) (t:Nat) (x:A):Dl :=
 Lr C t fun ti=>match ti.d with
 | .string=>Kt (AlX x) fun s=>.v (.int .i64 (s.length:Int))
 | .array n _=>.v (.int .i64 (n:Int))
 | .slice _=>match x with
  | .bsl o k=>Kt (L6 fet o) fun _=>.v (.int .i64 (k:Int))
  | x=>.g (rd fet x).1 (.int .i64 ((rd fet x).2.xs.length:Int))
 | .map _ _=>Kt (mp? fet x) fun p=>.v (.int .i64 (p.2.l.length:Int))
 | _=>.no
def Qo (fet:Fet) (t:Ty):A->List Bool×List t.Val
 | .str s=>match t with
  | .int .u8 .nil=>([],s.map (fun(b:UInt8)=>((b.toNat:Int))))
  | _=>([false],[])
 | y=>rdT fet t y
def lQ (C:Ctx) (fet:Fet) (d:Nat) (t:Nat) (x y:A):Dl :=
 elemOf C t fun e te=>match x with
 | .own o=>Kt (Z8 fet o) fun r =>
  {ok:=(Qo fet r.l.t y).1++[Nat.beq e r.e,Nat.beq r.l.sz te.cs.length,Nat.blt 0 r.l.sz,decide ((r.l.xs.length+(Qo fet r.l.t y).2.length)*(te.bytes+1)<=140737488355328)],
   val:=.own (b2 d),new:=[(b2 d,.arr r.e r.frz ⟨r.l.t,r.l.xs++(Qo fet r.l.t y).2⟩)],del:=[o]}
 | .La =>
  {ok:=(Qo fet (tyl te.cs) y).1++[Nat.blt 0 te.cs.length,decide ((Qo fet (tyl te.cs) y).2.length*(te.bytes+1)<=140737488355328)],
   val:=.own (b2 d),new:=[(b2 d,.arr e false ⟨tyl te.cs,(Qo fet (tyl te.cs) y).2⟩)]}
 | _=>.no
def Yg (C:Ctx) (fet:Fet) (src dst:Nat) (x:A):Dl :=
 Lr C src fun s=>Lr C dst fun t=>match t.d,x with
 | .int k,.int _ n=>.v (.int k (k.wrap n))
 | .string,.str l=>.v (.str l)
 | .string,.int _ _=>.no
 | .string,x=>Kt (elem? s.d) fun e=>Lr C e fun te=>.g (Ae0 te.d::((rdB fet x).1++[(rdB fet x).2.all isByte])) (.str ((rdB fet x).2.map byteOf))
 | _,_=>.no
def wX (C:Ctx) (d s t:Nat) (l:List UInt8):Dl:=Lr C s fun _=>elemOf C t fun e te =>
 {ok:=[Ae0 te.d,decide (l.length<=140737488355328)],val:=.own (b2 d),new:=[(b2 d,.arr e false ⟨RZ,l.map (fun(b:UInt8)=>((b.toNat:Int)))⟩)]}
def AkN:TypeDesc->Bool | .slice _=>true | _=>false
def AaR (C:Ctx) (o:Oper) (fet:Fet) (s t:Nat) (x:A):Dl :=
 match x with
 | .str l=>Lr C t fun tt=>bif AkN tt.d then Kt o.dst fun d=>wX C d s t l else Yg C fet s t (.str l)
 | x=>Yg C fet s t x
def AuJ (C:Ctx) (t:Nat):Option (Nat×IntKind):=match C.T t with
 | some ti=>match oZ ti.d with
  | some (n,e)=>match C.T e with
   | some te=>match te.cs with
    | [.int k]=>some (n,k)
    | _=>none
   | none=>none
  | none=>none
 | none=>none
def wU (C:Ctx) (d t:Nat) (v:A):Dl:=match AuJ C t with
 | some (n,k)=>match v with
  | .agg cs=> {ok:=[cs.all (A.isI k),Nat.beq cs.length n,Nat.ble n 16777216],val:=.Kq (b2 d) 0 0,new:=[(b2 d,.arr t false ⟨.int k .nil,cs.map A.toI⟩)]}
  | _=>.no
 | none=>Wq C d t v
def YX (C:Ctx) (d t:Nat):Dl:=Lr C t fun ti=>match oZ ti.d with
 | some (n,e)=>Lr C e fun te=> {ok:=[te.cs.all CK.plain,Nat.blt 0 te.cs.length,Nat.blt 0 n,Nat.ble n 16777216,decide (ti.cs=(List.replicate n te.cs).flatten)],val:=.Kq (b2 d) 0 0,new:=[(b2 d,.arr t false ⟨tyl te.cs,List.replicate n (tyl te.cs).zero⟩)]}
 | none=>Wq C d t (.agg (ti.cs.map CK.zero))
def AeH (fet:Fet) (s:Bool) (d:TypeDesc) (x:A):Option Bool :=
 match s,d,x with
 | true,.slice _,.La=>some true
 | true,.slice _,.sln l=>some l.xs.isEmpty
 | false,.pointer _,.Lt=>some true
 | false,.pointer _,.ptr o _=>(L6 fet o).map (fun _=>false)
 | _,_,_=>none
def Ag0 (C:Ctx) (fet:Fet) (s:Bool) (t:Nat) (x:A) (k:Bool->Dl):Dl:=Lr C t fun ti=>Kt (AeH fet s ti.d x) k
def Ajj (C:Ctx) (t:Nat) (r:Bool):Dl:=Lr C t fun ti=>.g [Agu ti.d] (.bool r)
def AjQ (C:Ctx) (fet:Fet) (op:BinOp) (t:Nat) (x y:A):Dl :=
 match x,y with
 | .int k a,.int k' b=>match op with
  | .shl=>.g [decide (0<=b)] (.int k (k.wrap (a*2 ^ (min b.toNat k.bits))))
  | .shr=>.g [decide (0<=b)] (.int k (a.fdiv (2 ^ (min b.toNat k.bits))))
  | op=>bif A.kEq k k' then wQ op k a b else .no
 | .str a,.str b=>wR op a b
 | .bool a,.bool b=>match op with
  | .eql=>Ajj C t (a==b)
  | .neq=>Ajj C t (!(a==b))
  | _=>.no
 | .agg x,.agg y=>Lr C t fun ti=>match op with
  | .eql=>.g [!ti.cmp.isEmpty,(Pm ti.cmp x y).1] (.bool (Pm ti.cmp x y).2)
  | .neq=>.g [!ti.cmp.isEmpty,(Pm ti.cmp x y).1] (.bool (!(Pm ti.cmp x y).2))
  | _=>.no
 | x,.La=>match op with
  | .eql=>Ag0 C fet true t x fun v=>.v (.bool v)
  | .neq=>Ag0 C fet true t x fun v=>.v (.bool (!v))
  | _=>.no
 | x,.Lt=>match op with
  | .eql=>Ag0 C fet false t x fun v=>.v (.bool v)
  | .neq=>Ag0 C fet false t x fun v=>.v (.bool (!v))
  | _=>.no
 | _,_=>.no
def unX:UnOp->A->Dl
 | .not,.bool b=>.v (.bool !b)
 | .neg,.int k n=>.v (.int k (k.wrap (0 - n)))
 | .xor,.int k n=>.v (.int k (J9 .xor k (if k.signed then -1 else k.max) n))
 | _,_=>.no
def Aj1 (c a b:A):Dl:=.g [c.Pg.1,c.Pg.2.isB,(bif c.Pg.2.toB then a.Pg.1 else b.Pg.1),(bif c.Pg.2.toB then a.Pg.2.isB else b.Pg.2.isB)] (.bool (bif c.Pg.2.toB then a.Pg.2.toB else b.Pg.2.toB))
def qX (C:Ctx) (d:Nat) (t:Nat) (l c:A):Dl :=
 Kt (int? l) fun n=>Kt (int? c) fun m=>elemOf C t fun e te =>
  {ok:=[decide (n<=m),decide (0<=n),decide (m*(te.bytes+1)<=140737488355328),Nat.blt 0 te.cs.length,te.cs.all CK.plain],val:=.own (b2 d),
   new:=[(b2 d,.arr e false ⟨tyl te.cs,List.replicate n.toNat (tyl te.cs).zero⟩)]}
def wW (C:Ctx) (t:Nat) (ps:List (Nat×A)):Dl:=Lr C t fun ti=>Kt (fill C ti.d ps (ti.cs.map CK.zero)) fun cs=>.g [ti.agg] (.agg cs)
def RH (C:Ctx) (fet:Fet) (d t n:Nat) (ps:List (Nat×A)):Dl:=elemOf C t fun e te =>
 {ok:=(NS fet te (tyl te.cs) ps (List.replicate n (tyl te.cs).zero)).1++[Nat.ble (n*te.cs.length) 16777216,Nat.blt 0 te.cs.length,te.cs.all CK.plain],val:=.own (b2 d),
  new:=[(b2 d,.arr e false ⟨tyl te.cs,(NS fet te (tyl te.cs) ps (List.replicate n (tyl te.cs).zero)).2.1⟩)],upd:=(NS fet te (tyl te.cs) ps (List.replicate n (tyl te.cs).zero)).2.2}
def wV (C:Ctx) (d t n:Nat) (ps:List (Nat×A)):Dl:=elemOf C t fun e te=>Kt (fill C (.array n e) ps (List.replicate n .Lt)) fun cs =>
 {ok:=[Aex te.cs,Nat.ble n 16777216,Nat.blt 0 n,ps.all fun p=>p.2.isVal&& !p.2.isAgg 0],val:=.bsl (b2 d) n,new:=(b2 d,.box (KW (b2 d+1) [] cs).1)::(KW (b2 d+1) [] cs).2}
def Aey:List (Nat×A)->Bool
 | (_,.ptr _ _)::_=>true
 | _=>false
def Vs (C:Ctx) (fet:Fet) (t f:Nat) (x:A):Dl :=
 Lr C t fun ti=>Kt (AeR C ti.d f) fun p=>match Y5 p.1 p.2.cs.length fet x with
 | δ => {δ with ok:=Nat.blt 0 p.2.cs.length:: δ.ok}
def Awm:A->Option (List A)
 | .agg cs=>some cs
 | _=>none
def Aee (C:Ctx) (t f:Nat) (x:A):Dl :=
 Lr C t fun ti=>Kt (AeR C ti.d f) fun p=>Kt (Awm x) fun cs=>.g [Nat.ble (p.1+p.2.cs.length) cs.length,Nat.blt 0 p.2.cs.length] (rP p.2 cs p.1)
def Axg:A->Option (List A)
 | .tup vs=>some vs
 | _=>none
def qJ (i:Nat) (x:A):Dl:=Kt (Axg x) fun vs=>.g [Nat.blt i vs.length] (vs.getD i .undef)
def WV (fet:Fet):A->Dl
 | .ptr o off=>Kt (L6 fet o) fun _=>.v (.ptr o off)
 | _=>.no
structure Hand where
 ok:List Bool
 vs:List A
 upd:List (Nat×Obj)
 del:List Nat
 boxes:List (Nat×Sh)
def jU:List A->A
 | [v]=>v
 | vs=>.tup vs
def Ajl (rb:Nat->Nat) (d:Nat) (sg:Sig) (N:List (Nat×Nat)) (n:Nat) (h:Hand) (ok:Bool) (rs:List A):Dl :=
 ⟨h.ok++[ok]++(KL (b2 d) 16 sg.JA rs 0).1++(KQ rb (rs.drop sg.JA.length) h.boxes 0).1++[nodup (N.map (·.1)),Nat.ble n 100,Nat.beq rs.length (sg.JA.length+h.boxes.length),!(sg.Js.any wS)||h.upd.isEmpty],
   jU (KL (b2 d) 16 sg.JA rs 0).2.1,
   (KL (b2 d) 16 sg.JA rs 0).2.2++(KQ rb (rs.drop sg.JA.length) h.boxes 0).2.2,
   h.upd++(KQ rb (rs.drop sg.JA.length) h.boxes 0).2.1,h.del,[]⟩
def eF (fet:Fet) (ss:List Sh) (xs:List A):Hand:=⟨(J8 fet ss xs).1,(J8 fet ss xs).2.1,(J8 fet ss xs).2.2.1,(J8 fet ss xs).2.2.2.1,(J8 fet ss xs).2.2.2.2⟩
def PM (fet:Fet) (d:Nat) (sg:Sig) (args:List A):Dl:=Ajl (LY fet) d sg (MQ fet 0 256 sg.Js args) args.length (eF fet sg.Js args) (sg.ok (eF fet sg.Js args).vs) (sg.val (eF fet sg.Js args).vs)
def Ae8 (n:Nat):Obj->Bool | .box cs=>Nat.beq cs.length n | _=>false
def Auy (j:Nat) (c:A):Obj->Obj | .box cs=>.box (cs.set j c) | x=>x
def eqC:A->A->Bool | .str a,.str b=>a==b | .int k a,.int k' b=>A.kEq k k'&&a==b | .bool a,.bool b=>a==b | _,_=>false
def eqU (j:Nat) (c:A):Obj->Bool | .box cs=>eqC (cs.getD j .undef) c | _=>false
def Tt (fet:Fet) (a:A) (j:Nat) (δ :Dl):Dl:=match a with
 | .ptr q _=>match L6 fet q with
  | some cs=>bif Nat.blt j cs.length&& δ.upd.all (fun p=> !(Nat.beq p.1 q)||Ae8 cs.length p.2)
   then {δ with ok:= δ.ok++ δ.upd.map (fun p=>bif Nat.beq p.1 q then eqU j (cs.getD j .undef) p.2 else true),upd:= δ.upd.map (fun p=>bif Nat.beq p.1 q then(p.1,Auy j (cs.getD j .undef) p.2)else p),same:=(q,j):: δ.same}
   else δ
  | none=> δ
 | _=> δ
def keepD (fet:Fet) (args:List A):List (Nat×Nat)->Dl->Dl
 | [],δ => δ
 | (i,j)::r,δ =>keepD fet args r (Tt fet (args.getD i .undef) j δ)
def CK.scalar:CK->Bool | .bool=>true | .int _=>true | .str=>true | _=>false
def zD:CK->A->List Bool×A
 | .bool,c=>([c.isB],c)
 | .int k,c=>([c.isI k],c)
 | .str,c=>([c.isS],c)
 | _,_=>([],.undef)
def YD:List (Bool×CK)->List A->Nat->List Bool×List A
 | [],_,_=>([],[])
 | k::ks,cs,j=>((zD k.2 (cs.getD j .undef)).1++(YD ks cs (j+1)).1,(zD k.2 (cs.getD j .undef)).2::(YD ks cs (j+1)).2)
def Ap0:Sh->A->List Bool×A
 | .cell _ k,a=>(k.scalar::(zD k a).1,(zD k a).2)
 | .agg ks,a=>(a.isAgg ks.length::(YD ks a.WI 0).1,.agg (YD ks a.WI 0).2)
 | _,_=>([false],.undef)
def Xz:List Sh->List A->Nat->List Bool×List A
 | [],_,_=>([],[])
 | s::ss,rs,j=>((Ap0 s (rs.getD j .undef)).1++(Xz ss rs (j+1)).1,(Ap0 s (rs.getD j .undef)).2::(Xz ss rs (j+1)).2)
def Ae9 (fet:Fet) (sg:Sig) (xs:List A):Dl :=
 .g ((J8 fet sg.Js xs).1++[sg.ok (J8 fet sg.Js xs).2.1,(J8 fet sg.Js xs).2.2.2.1.isEmpty,(J8 fet sg.Js xs).2.2.2.2.isEmpty,!(sg.Js.any wS),Nat.ble xs.length 100,Nat.beq (sg.val (J8 fet sg.Js xs).2.1).length sg.JA.length]++(Xz sg.JA (sg.val (J8 fet sg.Js xs).2.1) 0).1)
  (jU (Xz sg.JA (sg.val (J8 fet sg.Js xs).2.1) 0).2)
def Xh (C:Ctx) (fet:Fet) (d:Nat) (f:Nat) (args:List A):Dl :=
 match C.G f with
 | some sg=>bif has C.cuts d then Ae9 fet sg args else keepD fet args (C.kept f) (PM fet d sg args)
 | none=>.no
def Ako (C:Ctx) (fet:Fet) (d t:Nat) (c:A) (args:List A):Dl :=
 match c with
 | .fn n=>match C.dyn t with
  | some sg=>PM fet d (sg n) args
  | none=>.no
 | .clo f o=>Kt (L6 fet o) fun _=>match C.dyn t with
  | some sg=>PM fet d (sg f) (args++[.clo 0 o])
  | none=>.no
 | _=>.no
def ApS:List A->Option Nat
 | [.ptr o 0]=>some o
 | _=>none
def AfC (fet:Fet) (f:Nat):A->Dl
 | .ptr q off=>Kt (L6 fet q) fun cs=>Kt (ApS cs) fun o=> {ok:=[Nat.beq off 0],val:=.clo (f+1) o,del:=[q]}
 | _=>.no
def a0 (k:Dl):List A->Dl
 | []=>k
 | _=>.no
def a1 (k:A->Dl):List A->Dl
 | [a]=>k a
 | _=>.no
def a2 (k:A->A->Dl):List A->Dl
 | [a,b]=>k a b
 | _=>.no
def a3 (k:A->A->A->Dl):List A->Dl
 | [a,b,c]=>k a b c
 | _=>.no
def AsT (C:Ctx) (o:Oper) (fet:Fet) (ts:List Nat) (x y:A):Dl :=
 match ts with
 | [t,u]=>Lr C u fun tu=>Kt o.dst fun d=>match lQ C fet d t x y with
  | δ => {δ with ok:=Yo tu.d:: δ.ok}
 | _=>.no
def slX (C:Ctx) (dst:Option Nat) (fet:Fet) (t:Nat) (lo hi mx:Option Operand):List A->Dl :=
 match mx,lo,hi with
 | none,none,none=>a1 fun x=>Lu C fet t x none none
 | none,some _,none=>a2 fun x a=>match dst with
  | some d=>bif has C.cuts d then sZ C fet t x a else Lu C fet t x (some a) none
  | none=>Lu C fet t x (some a) none
 | none,none,some _=>a2 fun x b=>match dst with
  | some d=>bif has C.cuts d then xR C fet d t x b else Lu C fet t x none (some b)
  | none=>Lu C fet t x none (some b)
 | none,some _,some _=>a3 fun x a b=>Lu C fet t x (some a) (some b)
 | _,_,_=>fun _=>.no
def Ap8:A->A->Dl
 | .int k a,.int k' b=>bif A.kEq k k' then .v (.int k (bif decide (b<a)then b else a))else .no
 | _,_=>.no
def Ap6:A->A->Dl
 | .int k a,.int k' b=>bif A.kEq k k' then .v (.int k (bif decide (a<b)then b else a))else .no
 | _,_=>.no
def blX (C:Ctx) (o:Oper) (fet:Fet) (ts:List Nat):Builtin->List A->Dl
 | .len=>a1 fun x=>Kt (one? ts) fun t=>Agv C fet t x
 | .append=>a2 fun x y=>AsT C o fet ts x y
 | .min=>a2 Ap8
 | .max=>a2 Ap6
 | .copy=>a2 fun x y=>Ajo C fet ts x y
 | .delete=>a2 fun x y=>match ts with
  | t::_=>mQ C fet t x y
  | []=>.no
 | _=>fun _=>.no
def opX (C:Ctx) (o:Oper) (v:List A) (fet:Fet):Dl :=
 match o.op with
 | .move _=>a1 (fun a=>.v a) v
 | .assign _=>a1 (fun a=>.v a) v
 | .pick _ _ _=>a3 (fun c a b=>Aj1 c a b) v
 | .alloc t=>a0 (Kt o.dst fun d=>YX C d t) v
 | .box t _=>a1 (fun a=>Kt o.dst fun d=>wU C d t a) v
 | .build t ps=>wW C t ((ps.toList.map (·.1)).zip v)
 | .buildSlice t n ps=>Kt o.dst fun d=>bif Aey ((ps.toList.map (·.1)).zip v)then wV C d t n ((ps.toList.map (·.1)).zip v)else RH C fet d t n ((ps.toList.map (·.1)).zip v)
 | .load t _=>a1 (X0 C fet t) v
 | .store t _ _=>a2 (fun a x=>bif o.dst.isNone then UZ C fet t a x else .no) v
 | .nilCheck _=>a1 (WV fet) v
 | .binOp op t _ y _=>bif yX y then a2 (fun x _=>nO C fet op t x) v else a2 (AjQ C fet op t) v
 | .unOp op _ _=>a1 (unX op) v
 | .convert s t _=>a1 (AaR C o fet s t) v
 | .makeSlice t _ _=>a2 (fun l c=>Kt o.dst fun d=>qX C d t l c) v
 | .slice t _ lo hi mx=>slX C o.dst fet t lo hi mx v
 | .fieldAddr t _ f=>a1 (Vs C fet t f) v
 | .field t _ f=>a1 (Aee C t f) v
 | .indexAddr t _ _=>a2 (aY C fet t) v
 | .index t _ _=>a2 (Aev C t) v
 | .extract _ i=>a1 (qJ i) v
 | .makeFunc (.func f) fi _=>bif fi.isEmpty then a1 (AfC fet f) v else .no
 | .makeMap t _=>Kt o.dst fun d=>WB C d t v
 | .lookup t _ _ c=>a2 (Abc C fet t c) v
 | .mapUpdate t _ _ _=>a3 (fun m i x=>bif o.dst.isNone then oN C fet t m i x else .no) v
 | .insert t _ _ _=>a3 (fun m i x=>bif o.dst.isNone then oN C fet t m i x else .no) v
 | .call ⟨.builtin b,_,ts⟩=>blX C o fet ts.toList b v
 | .call ⟨.value (.func f),_,_⟩=>match v with
  | _::vs=>Xh C fet (o.dst.getD 0) f vs
  | []=>.no
 | .call ⟨.value (.tmp t),_,_⟩=>match v with
  | c::vs=>Ako C fet (o.dst.getD 0) t c vs
  | []=>.no
 | _=>.no
def fetch (Jp:List (Nat×Obj)):List Nat->Fet
 | []=>[]
 | n::r=>match Jy Jp n with
  | some x=>(n,x)::fetch Jp r
  | none=>fetch Jp r
def Kv (st:St) (vs:List A):Fet :=
 let f1:=fetch st.Jp (vs.flatMap A.ids)
 f1++fetch st.Jp (f1.flatMap (fun p=>p.2.ids))
def Ky (Jp:List (Nat×Obj)):List Nat->List (Nat×Obj)
 | []=>Jp
 | n::r=>Ky (Sj Jp n) r
def JD (Jp:List (Nat×Obj)):List (Nat×Obj)->List (Nat×Obj)
 | []=>Jp
 | (n,x)::r=>JD (Lj Jp n x) r
def put (tmps:List A):Option Tmp->A->List A
 | some d,v=>tmps.set d v
 | none,_=>tmps
def apply (st:St) (o:Oper) (δ :Dl):St :=
 {tmps:=put st.tmps o.dst δ.val,Jp:=JD (Ky (JD st.Jp δ.upd) δ.del) δ.new}
def strips:List A->List Bool×List A
 | []=>([],[])
 | a::r=>(a.strip.1++(strips r).1,a.strip.2::(strips r).2)
def guardOf (ops:List Oper) (tmps:List A):Option (Nat×Bool)->Option (Option Bool)
 | none=>some none
 | some (j,want)=>match ops[j]? with
  | some oj=>match oj.dst with
   | some t=>match (tmps.getD t .undef)with
    | .bool b=>some (some (bif want then b else !b))
    | .cnd g (.bool b)=>some (some (g&&(bif want then b else !b)))
    | _=>none
   | none=>none
  | none=>none
def sW:Op->Bool
 | .move _=>true
 | .assign _=>true
 | .binOp _ _ _ _ _=>true
 | _=>false
def KR:Op->List A->List Bool×List A
 | .pick _ _ _,vs=>([],vs)
 | op,vs=>((strips vs).1,bif sW op then(strips vs).2 else(strips vs).2.map A.weak)
def nN (g:Bool):A->A->A
 | .bool x,.bool y=>.bool (bif g then y else x)
 | .int k x,.int _ y=>.int k (bif g then y else x)
 | .str x,.str y=>.str (bif g then y else x)
 | .sl l,.sl l'=>match l'.cast l.t with
  | some ys=>.sl ⟨l.t,bif g then ys else l.xs⟩
  | none=>.undef
 | .sln l,.sln l'=>match l'.cast l.t with
  | some ys=>.sln ⟨l.t,bif g then ys else l.xs⟩
  | none=>.undef
 | a,_=>a
def fF:A->A->Bool
 | .bool _,.bool _=>true
 | .int k _,.int k' _=>A.kEq k k'
 | .str _,.str _=>true
 | .sl l,.sl l'=>(l'.cast l.t).isSome
 | .sln l,.sln l'=>(l'.cast l.t).isSome
 | .own o,.own o'=>Nat.beq o o'
 | .Lt,.Lt=>true
 | .undef,.undef=>true
 | _,_=>false
def Ahb (g:Bool):List A->List A->List A
 | a::aa,b::bs=>nN g a b::Ahb g aa bs
 | _,_=>[]
def okM:List A->List A->Bool
 | [],[]=>true
 | a::aa,b::bs=>fF a b&&okM aa bs
 | _,_=>false
def X5 (g:Bool):Option Obj->Obj->Obj
 | some (.box cs),.box ds=>.box (Ahb g cs ds)
 | some (.arr e _ l),.arr _ true _=>.arr e true l
 | _,x=>x
def fG (c:Bool):Option Obj->Obj->Bool
 | some (.box cs),.box ds=>okM cs ds
 | some (.arr e _ _),.arr e' true _=>c&&Nat.beq e e'
 | _,_=>false
def pU:Op->Bool
 | .call ⟨.value (.func _),_,_⟩=>true
 | .call ⟨.value (.tmp _),_,_⟩=>true
 | .slice _ _ _ _ _=>true
 | _=>false
def AaZ:Op->Bool
 | .call ⟨.value (.func _),_,_⟩=>true
 | _=>false
def SI (C:Ctx) (o:Oper) (st:St) (pre:List Bool):Dl :=
 match KR o.op (o.op.operands.toList.map (KN st.tmps))with
  | (ok,vs)=>match opX C o vs (Kv st vs)with
   | δ => {δ with ok:=pre++(ok++ δ.ok++[δ.new.all (fun p=>st.fresh p.1),nodup (δ.new.map (·.1))]),same:=bif AaZ o.op then δ.same else []}
def AoK (C:Ctx) (o:Oper):Option Bool:=match o.dst with
 | some d=>C.dec d
 | none=>none
def KF (C:Ctx) (ops:List Oper) (o:Oper) (st:St):Dl :=
 match guardOf ops st.tmps o.guard with
 | some none=>SI C o st []
 | some (some g)=>match AoK C o with
  | some true=>SI C o st [g]
  | some false=> {ok:=[!g],val:=.cnd false .undef}
  | none=>match KR o.op (o.op.operands.toList.map (KN st.tmps))with
  | (ok,vs)=>match opX C o vs (Kv st vs)with
   | δ => {ok:=(ok++(δ.val.isVal:: δ.ok)).map (fun c=>c|| !g)++(δ.new.isEmpty:: δ.del.isEmpty::o.dst.isSome:: δ.upd.map (fun p=>fG (pU o.op) (Jy (Kv st vs) p.1) p.2)),val:=.cnd g δ.val,
           upd:= δ.upd.map (fun p=>(p.1,X5 g (Jy (Kv st vs) p.1) p.2))}
 | none=>.no
def allT {α :Type}:List Bool->Option α ->Option α
 | [],r=>r
 | c::cs,r=>bif c then allT cs r else none
def WE {α :Type} (C:Ctx) (ops:List Oper):List Oper->St->(St->Option α)->Option α
 | [],st,K=>K st
 | o::r,st,K=>match KF C ops o st with
  | δ =>allT δ.ok (WE C ops r (apply st o δ) K)
def aP (C:Ctx) (o:Oper):Option (Nat×Alt) :=
 match o.guard,o.op with
 | none,.call ⟨.value (.func f),_,_⟩=>(C.alt f).map (fun q=>(f,q))
 | _,_=>none
def Af1 (o:Oper) (st:St) (q:Alt):Bool :=
 match (KR o.op (o.op.operands.toList.map (KN st.tmps))).2 with
 | v::xs=>q.2.2 (eF (Kv st (v::xs)) q.1.Js xs).vs
 | []=>true
def WC {α :Type} (C:Ctx) (ops:List Oper):List Oper->St->(St->Option α)->Option α
 | [],st,K=>K st
 | o::r,st,K=>match aP C o with
  | none=>allT (KF C ops o st).ok (WC C ops r (apply st o (KF C ops o st)) K)
  | some (f,q)=>bif Af1 o st q then allT (KF (C.put f q.1) ops o st).ok (WC C ops r (apply st o (KF (C.put f q.1) ops o st)) K)
   else allT (KF (C.put f q.2.1) ops o st).ok (WC C ops r (apply st o (KF (C.put f q.2.1) ops o st)) K)
abbrev Bs:=List UInt8
def chk {ρ :Type} (c:Bool) (k:Option ρ):Option ρ :=bif c then k else none
def Jq {α ρ :Type} [Inhabited α] (o:Option α) (k: α ->Option ρ):Option ρ :=bif o.isSome then k (o.getD default)else none
def Jz {X Y ρ :Type} (B:X->(X->Option ρ)->(Y->Option ρ)->Option ρ):Nat->X->(Y->Option ρ)->Option ρ
 | 0,_,_=>none
 | n+1,x,kx=>B x (fun x'=>Jz B n x' kx) kx
def KC (o:Oper) (st:St):List A:=(KR o.op (o.op.operands.toList.map (KN st.tmps))).2
def lS:Op->List A->Bool
 | .move _,_=>true
 | .assign _,_=>true
 | .load _ _,[.clo _ _]=>true
 | _,_=>false
def Yf:Op->List A->Option Nat
 | .nilCheck _,[.ptr o _]=>some o
 | .fieldAddr _ _ _,[.ptr o _]=>some o
 | .load _ _,[.ptr o _]=>some o
 | _,_=>none
def Lm (o:Oper) (st:St) (vs:List A):List Nat:=bif lS o.op vs then []else match Yf o.op vs with
 | some q=>[q]
 | none=>vs.flatMap A.ids++(fetch st.Jp (vs.flatMap A.ids)).flatMap (fun p=>p.2.ids)
def oneOf (C:Ctx):Op->List A->Option (Nat×Nat×Nat)
 | .nilCheck _,[.ptr o _]=>some (o,0,0)
 | .fieldAddr _ _ _,[.ptr o _]=>some (o,0,0)
 | .load t _,[.ptr o off]=>match C.T t with
  | some ti=>bif Nat.blt 0 ti.cs.length then some (o,off,ti.cs.length)else none
  | none=>none
 | _,_=>none
structure Le where
 o:Oper
 δ :Dl
 rd:List Nat
 one:Option (Nat×Nat×Nat)
 anc:List Nat
def Le.news (x:Le):List Nat:=x.δ.new.map (·.1)
def Le.keys (x:Le):List Nat:=x.δ.upd.map (·.1)++x.δ.del++x.news
def Le.says (x:Le):List Nat:=x.δ.val.ids++x.δ.upd.flatMap (fun p=>p.2.ids)++x.δ.new.flatMap (fun p=>p.2.ids)
def Uj (a b:List Nat):Bool:=a.all (fun n=> !(has b n))
def slotsOf (ops:List Oper) (o:Oper):List Nat :=
 (o.op.operands.toList.filterMap fun | .tmp t=>some t | _=>none) ++
 (match o.guard with
  | some (g,_)=>match ops[g]? with
   | some x=>match x.dst with | some t=>[t] | none=>[]
   | none=>[]
  | none=>[])
def Y9 (o:Oper):List Nat:=match o.dst with | some d=>[d] | none=>[]
def calm (x y:Le):Bool:=match x.one with
 | none=>false
 | some (q,off,n)=> !(has x.keys q)&&(!(has y.δ.del q)&&(!(has y.news q)&&(y.δ.same.any (fun e=>Nat.beq e.1 q)&&(List.range n).all (fun k=>y.δ.same.any (fun e=>Nat.beq e.1 q&&Nat.beq e.2 (off+k))))))
def indep (ops:List Oper) (x y:Le):Bool :=
 Uj (Y9 x.o) (Y9 y.o)&&Uj (Y9 x.o) (slotsOf ops y.o)&&Uj (Y9 y.o) (slotsOf ops x.o) &&
 Uj x.keys y.rd&&(Uj y.keys x.rd||calm x y)&&Uj x.keys y.keys&&Uj x.news y.says
def Zn (ops:List Oper) (i:Nat) (x y:Le):Bool:=Uj y.news x.says&&Uj y.news x.keys&&(has y.anc i||indep ops x y)
def Xr (o:Oper):List Nat:=o.after.toList.filterMap fun e=>bif Region.binds .any e then some e.on else none
def Us (C:Ctx) (ops:List Oper):List Oper->List (List Nat)->St->List Le
 | [],_,_=>[]
 | o::r,acc,st=>match KF C ops o st,(Xr o).flatMap (fun e=>e::acc.getD e [])with
  | δ,an=>⟨o,δ,Lm o st (KC o st),oneOf C o.op (KC o st),an⟩::Us C ops r (acc++[an]) (apply st o δ)
def dB (ops:List Oper):Nat->List Le->Bool
 | _,[]=>true
 | i,x::r=>r.all (Zn ops i x)&&dB ops (i+1) r
def backward:Nat->List Oper->Bool
 | _,[]=>true
 | i,o::r=>o.after.toList.all (fun e=>Nat.blt e.on i)&&backward (i+1) r
def QL:Nat->List Oper->Bool
 | _,[]=>true
 | i,o::r=>o.after.toList.all (fun e=> !(Region.binds .any e)||Nat.blt e.on i)&&QL (i+1) r
def ranks (md:Region.Mode) (ops:List Oper):Nat->List Nat->List Nat
 | 0,r=>r
 | n+1,r=>ranks md ops n (ops.map fun o=>o.after.toList.foldl (fun m e=>bif Region.binds md e then(bif Nat.ble m (r.getD e.on 0)then r.getD e.on 0+1 else m)else m) 0)
def Yx (md:Region.Mode) (n:Nat) (rk:List Nat):Nat->List Oper->Bool
 | _,[]=>true
 | i,o::r=>o.after.toList.all (fun e=> !(Region.binds md e)||(Nat.blt e.on n&&Nat.blt (rk.getD e.on 0) (rk.getD i 0)))&&Yx md n rk (i+1) r
def AeW (md:Region.Mode) (ops:List Oper):Bool:=Yx md ops.length (ranks md ops ops.length (ops.map fun _=>0)) 0 ops
def ordered (ops:List Oper):Bool:=QL 0 ops&&(backward 0 ops||(AeW .text ops&&AeW .gc ops&&AeW .any ops))
def sorted:List (Nat×Obj)->Bool
 | []=>true
 | [_]=>true
 | (n,_)::(k,y)::r=>Nat.blt n k&&sorted ((k,y)::r)
def TT (C:Ctx) (ops:List Oper) (st:St):Bool :=
 match Us C ops ops [] st with
 | fs=>ordered ops&&dB ops 0 fs&&(fs.flatMap Le.news).all st.fresh&&sorted st.Jp
def NZ (f t:Nat):A->A
 | .ptr o off=>.ptr (bif Nat.beq o f then t else o) off
 | .own o=>.own (bif Nat.beq o f then t else o)
 | .clo g o=>.clo g (bif Nat.beq o f then t else o)
 | .bsl o n=>.bsl (bif Nat.beq o f then t else o) n
 | .osl o n=>.osl (bif Nat.beq o f then t else o) n
 | .Kq o i off=>.Kq (bif Nat.beq o f then t else o) i off
 | .agg cs=>.agg (cs.map fun
  | .ptr o off=>.ptr (bif Nat.beq o f then t else o) off
  | .own o=>.own (bif Nat.beq o f then t else o)
  | .clo g o=>.clo g (bif Nat.beq o f then t else o)
  | .bsl o n=>.bsl (bif Nat.beq o f then t else o) n
  | .osl o n=>.osl (bif Nat.beq o f then t else o) n
  | .Kq o i off=>.Kq (bif Nat.beq o f then t else o) i off
  | c=>c)
 | a=>a
def Aa6 (f t:Nat):Obj->Obj
 | .box cs=>.box (cs.map (NZ f t))
 | x=>x
def drop (keep:List Nat):List A->Nat->List A
 | [],_=>[]
 | a::r,i=>(bif has keep i then a else .undef)::drop keep r (i+1)
def Aa7 (st:St):List (Nat×Nat)->Bool×St
 | []=>(true,st)
 | (f,t)::r=>match Jy st.Jp f with
  | some x=>match Aa7 {tmps:=st.tmps.map (NZ f t),Jp:=(Lj (Sj st.Jp f) t x).map (fun p=>(p.1,Aa6 f t p.2))} r with
   | (ok,st')=>((bif Nat.beq f t then true else st.fresh t)&&ok,st')
  | none=>Aa7 st r
def Ak9 (Jp:List (Nat×Obj)):List Nat->List (Nat×Obj)
 | []=>Jp
 | n::r=>match Jy Jp n with
  | some (.arr e _ l)=>Ak9 (Lj Jp n (.arr e true l)) r
  | _=>Ak9 Jp r
def Aso:Nat->List (Nat×Obj)->List Nat->List Nat
 | 0,_,l=>l
 | n+1,Jp,l=>l++Aso n Jp ((fetch Jp l).flatMap (fun p=>p.2.ids))
def reached (tmps:List A) (Jp:List (Nat×Obj)):List Nat:=Aso 4 Jp (tmps.flatMap A.ids++(Jp.map (·.1)).filter XQ)
def nI:A->Bool | .La=>true | _=>false
def Aa9 (id:Nat):List Nat->List A->List A
 | [],l=>l
 | t::r,l=>Aa9 id r (l.set t (.own id))
def owns:List (List Nat×Nat×Ty×Nat)->St->Bool×St
 | [],st=>(true,st)
 | (ts,e,ty,id)::r,st=>bif ts.any (fun t=>nI (st.tmps.getD t .undef))then
     match owns r {tmps:=Aa9 id ts st.tmps,Jp:=Lj st.Jp id (.arr e false ⟨ty,[]⟩)}with
     | (ok,st')=>(ts.all (fun t=>nI (st.tmps.getD t .undef)&&Nat.blt t st.tmps.length)&&st.fresh id&&ok,st')
  else owns r st
def pzs:List (Option Nat×Nat×Ty)->St->St
 | [],st=>st
 | (none,t,ty)::r,st=>match st.tmps.getD t .undef with
  | .La=>pzs r {st with tmps:=st.tmps.set t (.sl ⟨ty,[]⟩)}
  | .own o=>match Jy st.Jp o with
   | some (.arr e _ l)=>pzs r {tmps:=st.tmps.set t (.sl l),Jp:=Lj st.Jp o (.arr e true l)}
   | _=>pzs r st
  | _=>pzs r st
 | (some b,j,_)::r,st=>match Jy st.Jp b with
  | some (.box cs)=>match cs.getD j .undef with
   | .own o=>match Jy st.Jp o with
    | some (.arr e _ l)=>pzs r {st with Jp:=Lj (Lj st.Jp o (.arr e true l)) b (.box (cs.set j (.sl l)))}
    | _=>pzs r st
   | _=>pzs r st
  | _=>pzs r st
def norm (C:Ctx) (key:Nat) (st0:St):Bool×St :=
 match C.nrm key with
 | none=>(true,st0)
 | some n =>
  match pzs n.pz st0 with
  | st=>match Aa7 {tmps:=drop n.keep st.tmps 0,Jp:=st.Jp.filter (fun p=>has (reached (drop n.keep st.tmps 0) st.Jp) p.1)} n.ren with
   | (ok,st')=>match owns n.nw st' with
    | (ok',st'')=>(ok&&ok',{st'' with Jp:=Ak9 st''.Jp n.frz})
inductive Ex where
 | normal
 | exit (id:Nat)
def LK:Code->Option Nat
 | .region id _ _=>some id
 | .seq a b=>match LK a with | some n=>some n | none=>(LK b).map (· +4096)
 | .cond _ a b=>match LK a with | some n=>some n | none=>LK b
 | .block _ c=>LK c
 | .loop c=>LK c
 | .scope c=>LK c
 | _=>none
def TW {ρ :Type} (C:Ctx) (key:Nat) (st:St) (K:St->Option ρ):Option ρ :=
 match norm C key st with
 | (ok,st')=>bif ok then K st' else none
def meet {ρ :Type} (C:Ctx) (kind:Nat) (c:Code) (st:St) (K:St->Option ρ):Option ρ :=
 match LK c with
 | some n=>TW C (4*n+kind) st K
 | none=>K st
def rounds {ρ :Type} (head:St->(St->Option ρ)->Option ρ) (body:St->(Ex->St->Option ρ)->Option ρ):Nat->St->(Ex->St->Option ρ)->Option ρ
 | 0,_,_=>none
 | n+1,st,K=>body st fun
  | .normal,st'=>head st' fun st''=>rounds head body n st'' K
  | .exit id,st'=>K (.exit id) st'
def Adr:Nat:=(fun(_:Option Nat)=>0) (Jz (X:=Nat) (Y:=Nat) (fun _ _ _=>none) 0 0 (fun _=>none))
def peek (C:Ctx) (ops:List Oper) (s:Nat):List Oper->St->A
 | [],st=>(st.tmps.getD s .undef).Pg.2
 | o::r,st=>peek C ops s r (apply st o (KF C ops o st))
def split {α :Type} (C:Ctx) (id:Nat) (ops:List Oper) (st:St) (f:Ctx->Option α):Option α :=
 (fun(_:Nat)=>match C.spl id with
 | none=>f C
 | some (k,s,ds)=>match peek C ops s (ops.take k) st with
  | .bool b=>match b with
   | true=>f (C.decide ds true)
   | false=>f (C.decide ds false)
  | _=>none) Adr
def bQ {α :Type} {C:Ctx} {id:Nat} {ops:List Oper} {st:St} {f:Ctx->Option α} {v: α} (h:split C id ops st f=some v):(f C=some v\/ ∃ ds b,f (C.decide ds b)=some v)/\ ∀ f':Ctx->Option α,(∀ C',f C'=some v->f' C'=some v)->split C id ops st f'=some v:=by
 unfold split at h ⊢;dsimp only at h ⊢;cases hs:C.spl id with
 | none=>rw[hs]at h;exact⟨.inl h,fun f' hf=>hf C h⟩
 | some q =>
  obtain⟨k,s,ds⟩:=q;rw[hs]at h;dsimp only at h ⊢;generalize peek C ops s (ops.take k) st=x at h ⊢;cases x with
  | bool b=>cases b<;>exact⟨.inr ⟨_,_,h⟩,fun f' hf=>hf _ h⟩
  | _=>cases h
def exec {ρ :Type} (C:Ctx) (N:Nat) (fin:St->Option ρ):Code->St->(Ex->St->Option ρ)->Option ρ
 | .skip,st,K=>K .normal st
 | .region id ops false,st,K=>split C id ops.toList st fun C=>WC C ops.toList ops.toList st fun st'=>K .normal st'
 | .region id ops true,st,K=>split C id ops.toList st fun C=>bif TT C ops.toList st then WE C ops.toList ops.toList st fun st'=>K .normal st' else none
 | .seq a b,st,K=>exec C N fin a st fun
  | .normal,st'=>meet C 1 b st' fun st''=>exec C N fin b st'' K
  | .exit id,st'=>K (.exit id) st'
 | .cond c a b,st,K=>match KN st.tmps c with
  | .bool t=>bif t then exec C N fin a st K else exec C N fin b st K
  | .cnd g (.bool t)=>bif g then bif t then exec C N fin a st K else exec C N fin b st K else none
  | _=>none
 | .block id c,st,K=>exec C N fin c st fun
  | .exit j,st'=>bif Nat.beq j id then K .normal st' else K (.exit j) st'
  | .normal,st'=>K .normal st'
 | .loop c,st,K=>meet C 2 c st fun st'=>rounds (meet C 2 c) (exec C N fin c) N st' K
 | .exit id,st,K=>TW C (4*id+3) st fun st'=>K (.exit id) st'
 | .scope c,st,K=>exec C N fin c st K
 | .label _,st,K=>K .normal st
 | .ret,st,_=>fin st
 | _,_,_=>none
def Ty.MB: ∀(t:Ty) (v:t.Val),(t.cells v).length=t.len
 | .nil,_=>rfl
 | .bool r,v=>by simp [Ty.cells,Ty.len,Ty.MB r]
 | .int _ r,v=>by simp [Ty.cells,Ty.len,Ty.MB r]
 | .str r,v=>by simp [Ty.cells,Ty.len,Ty.MB r]
 | .sl _ _ r,v=>by simp [Ty.cells,Ty.len,Ty.MB r]
 | .ptr r,v=>by simp [Ty.cells,Ty.len,Ty.MB r v]
 | .fn r,v=>by simp [Ty.cells,Ty.len,Ty.MB r]
 | .mp _ _ r,v=>by simp [Ty.cells,Ty.len,Ty.MB r]
theorem Ty.OV {α :Type} (r:Ty) (a: α) (b:r.Val):r.hd (r.mk2 a b)=a:=by cases r<;>rfl
theorem Ty.Ph {α :Type} (r:Ty) (a: α) (b:r.Val):r.tl (r.mk2 a b)=b:=by cases r<;>rfl
theorem Sl.KH (l:Sl):l.es.length=l.xs.length:=by simp [Sl.es]
def Sl.es_len (l:Sl): ∀ e∈l.es,e.length=l.sz:=by intro e he;obtain⟨v,_,rfl⟩:=DF.1 he;exact Ty.MB _ _
def Sl.at_eq (l:Sl) {i:Nat} (h:i<l.xs.length):l.at i=l.es.getD i []:=by grind[Sl.at,Sl.es]
def Sl.AqD (l:Sl) (i:Nat):(l.at i).length=l.sz:=Ty.MB _ _
theorem Sl.PR {l:Sl} {t:Ty} {xs:List t.Val} (h:l.cast t=some xs):l=⟨t,xs⟩:=by
 unfold Sl.cast at h;split at h
 .rename_i e _;obtain⟨s,ys⟩:=l;all_goals grind
 .cases h
def Sl.YZ (t:Ty) (xs:List t.Val):(⟨t,xs⟩:Sl).cast t=some xs:=by
 unfold Sl.cast;split
 .rfl
 .grind
theorem Mp.PR {l:Mp} {kt vt:Ty} {xs:List (kt.Val×vt.Val)} (h:l.cast kt vt=some xs):l=⟨kt,vt,xs⟩:=by
 unfold Mp.cast at h;split at h
 .rename_i e _;obtain⟨k,v,ys⟩:=l;dsimp only at e;subst e;split at h;all_goals grind
 .cases h
def Mp.YZ (kt vt:Ty) (xs:List (kt.Val×vt.Val)):(⟨kt,vt,xs⟩:Mp).cast kt vt=some xs:=by
 unfold Mp.cast;split
 .split
  .rfl
  .grind
 .grind
theorem A.Qk {j k:IntKind} (h:A.kEq j k=true):j=k:=by cases j<;>cases k<;>first | rfl | cases h
def Ty.TA: ∀(t:Ty) (cs:List A),(t.mk cs).1=true->t.cells (t.mk cs).2=cs:=by
 intro t
 induction t with
 | nil =>
  intro cs h;cases cs with
  | nil=>rfl
  | cons _ _=>simp [Ty.mk]at h
 | fn r ih=>grind[Ty.mk,Ty.cells,Ty.OV,Ty.Ph]
 | mp kt vt r _ _ ih =>
  intro cs h;unfold Ty.mk at h ⊢;split at h
  .rename_i l cs;cases hc:l.cast kt vt with
   | none=>rw[hc]at h;simp at h
   | some xs=>grind[Ty.cells,Ty.OV,Ty.Ph,Mp.PR]
  .simp at h
 | bool r ih=>grind[Ty.mk,Ty.cells,Ty.OV,Ty.Ph]
 | int k r ih=>grind[Ty.mk,Ty.cells,Ty.OV,Ty.Ph,A.Qk]
 | str r ih=>grind[Ty.mk,Ty.cells,Ty.OV,Ty.Ph]
 | sl e t r _ ih =>
  intro cs h;unfold Ty.mk at h ⊢;split at h
  .rename_i l cs;cases hc:l.cast t with
   | none=>rw[hc]at h;simp at h
   | some xs=>grind[Ty.cells,Ty.OV,Ty.Ph,Sl.PR]
  .simp at h
 | ptr r ih =>
  intro cs h;unfold Ty.mk at h ⊢;split at h
  .rename_i cs;show A.Lt::r.cells (r.mk cs).2=_;rw[ih cs h]
  .simp at h
def Ty.Afv: ∀(ks:List CK),ks.all CK.plain=true->(tyl ks).cells (tyl ks).zero=ks.map CK.Oj:=by
 intro ks
 induction ks with
 | nil=>intro _;rfl
 | cons k ks ih=>grind[tyl,Ty.cells,Ty.OV,Ty.Ph,CK.Oj,CK.zero,CK,CK.plain,cells,zero]
def V9 (ks:List CK):(tyl ks).len=ks.length:=by
 induction ks with
 | nil=>rfl
 | cons k ks ih=>cases k<;>simp [tyl,Ty.len,ih]
def Sl.Awv (l:Sl) {i off:Nat} {cs:List A} (hi:i<l.xs.length) (h:(l.set i off cs).1=true):(l.set i off cs).2.es=l.es.set i (splice (l.es.getD i []) off cs):=by have:=Ty.TA _ _ h;rw[<- l.at_eq hi];all_goals simp_all[Sl.set,Sl.es,hi,splice]
def Sl.Arl (t:Ty) (xs ys:List t.Val):(⟨t,xs++ys⟩:Sl).es=(⟨t,xs⟩:Sl).es++(⟨t,ys⟩:Sl).es:=by simp [Sl.es]
def Sl.Arm (l:Sl) (a b:Nat):(⟨l.t,J6 l.xs a b⟩:Sl).es=J6 l.es a b:=by simp_all[Sl.es,J6]
def Sl.dX (ks:List CK) (n:Nat) (h:ks.all CK.plain=true):(⟨tyl ks,List.replicate n (tyl ks).zero⟩:Sl).es=List.replicate n (ks.map CK.Oj):=by simp [Sl.es,List.map_replicate,Ty.Afv ks h]
def Sl.Arn (t:Ty):(⟨t,[]⟩:Sl).es=[]:=rfl
def ND (P:Program):Nat->Nat->Option (List CK)
 | 0,_=>none
 | n+1,t=>match P.underlying t with
  | some .bool=>some [.bool]
  | some (.int k)=>some [.int k]
  | some .string=>some [.str]
  | some (.slice e)=>match ND P n e with
   | some cs=>bif cs.all CK.plain then some [.sl e (tyl cs)]else some [.oth]
   | none=>some [.oth]
  | some (.pointer _)=>some [.ptr]
  | some (.struct fs)=>fs.toList.foldr (fun f acc=>match ND P n f.type,acc with | some a,some b=>some (a++b) | _,_=>none) (some [])
  | some (.array m e)=>match ND P n e with
   | some a=>bif Nat.ble (m*a.length) 4096 then some ((List.replicate m a).flatten)else none
   | none=>none
  | some (.tuple _)=>none
  | some (.func _ _ _)=>some [.fn]
  | some _=>some [.oth]
  | none=>none
def KD:List Value->List CK->Bool
 | [],[]=>true
 | .bool false::vs,.bool::ks=>KD vs ks
 | .int k 0::vs,.int k'::ks=>A.kEq k k'&&KD vs ks
 | .string s::vs,.str::ks=>s.data.toList.isEmpty&&KD vs ks
 | .slice none 0 0::vs,.sl _ _::ks=>KD vs ks
 | .pointer none::vs,.ptr::ks=>KD vs ks
 | .nilFunc::vs,.fn::ks=>KD vs ks
 | v::vs,.oth::ks=>v.oneCell'&&KD vs ks
 | _,_=>false
def Xy:TypeDesc->Bool
 | .struct _ | .array _ _=>true
 | _=>false
def eP:Value->Bool
 | .agg _=>true
 | _=>false
def QT (P:Program):List Field->Nat->Option (List CK)
 | [],_=>some []
 | f::r,n=>match P.underlying f.type,QT P r (n+1)with
  | some .bool,some ks=>bif f.name != "_" &&Nat.beq f.offset n then some (.bool::ks)else none
  | some (.int k),some ks=>bif f.name != "_" &&Nat.beq f.offset n then some (.int k::ks)else none
  | some .string,some ks=>bif f.name != "_" &&Nat.beq f.offset n then some (.str::ks)else none
  | _,_=>none
def Ajm (P:Program) (t:Nat):TypeDesc->List CK
 | .struct fs=>match QT P fs.toList 0 with
  | some ks=>bif !(P.stoodInHeld t)&& !(P.eqGuardType P.depth t)then ks else []
  | none=>[]
 | _=>[]
def Aqw (P:Program) (t:Nat):Option TI :=
 match P.underlying t,P.info? t,ND P 20 t with
 | some d,some i,some cs=>match i.zero with
  | some z=>bif Nat.beq i.size cs.length&&KD z.cells.toList cs&&(Xy d==eP z)then some ⟨d,cs,i.bytes,Ajm P t d⟩else none
  | none=>none
 | _,_,_=>none
end Go.Proofs.YtehkhflpjkokeaaGreatDoor.Vm
