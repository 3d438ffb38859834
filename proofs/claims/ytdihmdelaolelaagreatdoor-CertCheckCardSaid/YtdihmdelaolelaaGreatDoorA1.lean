/-
  CertCheck: the law returns true whatever the input; machine, functions, plain law (32 files)
-/
import Derived.RowKit
import Derived.Laws.Sem
set_option linter.all false
namespace Go.Proofs.YtdihmdelaolelaaGreatDoor
open Go
def Dk {p:Prop} [Decidable p] (h:p:=by omega):decide p=true:=decide_eq_true h
def Dn:=@List.getD_eq_getElem?_getD
def A0y {c:Prop} {h:Decidable c} (n:¬c:=by omega) {α:Sort _} {t e:α}:(if c then t else e)=e:=if_neg n
def Dp {c:Prop} {h:Decidable c} (n:¬c) {α:Sort _} {t e:α}:(if c then t else e)=e:=if_neg n
def A0x {p:Prop} [Decidable p] (h:¬p:=by omega):decide p=false:=decide_eq_false h
def Dq {p:Prop} [Decidable p] (h:¬p):decide p=false:=decide_eq_false h
def A0z {c:Prop} {h:Decidable c} (n:c:=by omega) {α:Sort _} {t e:α}:(if c then t else e)=t:=if_pos n
def Du {c:Prop} {h:Decidable c} (n:c) {α:Sort _} {t e:α}:(if c then t else e)=t:=if_pos n
def Dv:=@List.length_append
def Dw:=@Array.getD_eq_getD_getElem?
def Dx:=@Bool.and_eq_true
def Dy:=@List.mem_cons_self
def Dz:=@Nat.eq_of_beq_eq_true
def D5:=@List.mem_cons_of_mem
def D6:=@decide_eq_true_eq
def D7:=@List.length_map
def D8:=@List.mem_cons
def D9:=@List.getElem?_eq_getElem
def DC:=@of_decide_eq_true
def DD:=@List.length_take
def DF:=@List.all_eq_true
def DI:=@List.length_range
def DJ:=@List.mem_append_right
def DK:=@Nat.le_refl
def DL:=@List.mem_append_left
def DN:=@List.mem_map
def DR:=@List.mem_append
def DT:=@Int.tmod_eq_emod_of_nonneg
def DU:=@Sem.run_bind
def DV:=@List.append_nil
def DW:=@Int.tdiv_eq_ediv_of_nonneg
def DX:=@Nat.le_of_ble_eq_true
def DY:=@Nat.zero_add
def DZ:=@Nat.mul_le_mul_right
def Ea:=@Bool.true_or
def Eb:=@Array.getElem?_eq_some_iff
def Ec:=@List.getElem_mem
def Ed:=@List.mem_singleton
def Ee:=@List.append_assoc
def Ef:=@List.getElem?_eq_none
def Eg:=@beq_false_of_ne
def Eh:=@decide_eq_false_iff_not
def Ei:=@List.map_cons
def Ej:=@Bool.or_eq_true
def Em:=@Nat.zero_le
def En:=@Array.getElem?_eq_getElem
def Eo:=@Nat.lt_or_ge
def Ep:=@of_decide_eq_false
def Es:=@List.length_drop
def Et:=@List.mem_flatMap
def Eu:=@Bool.not_false
def Ew:=@Eq.trans
def Ey:=@Nat.add_mul
def Ez:=@List.map_congr_left
def E5:=@List.getElem?_append_left
def E8:=@List.getElem?_map
def EC:=@run_underlying
def ED:=@List.getElem?_append_right
def EE:=@bne_iff_ne
def EF:=@List.length_replicate
def EG:=@Nat.add_assoc
def EH:=@Bool.true_and
def EI:=@Bool.not_true
def EJ:=@List.pairwise_cons
def EK:=@Bool.false_or
def EL:=@Int.eq_ofNat_of_zero_le
def EM:=@Bool.or_true
def EN:=@List.drop_eq_getElem_cons
def EO:=@beq_self_eq_true
def EP:=@List.take_length
def ER:=@Nat.blt_eq
def ES:=@Bool.or_false
def ET:=@Option.isSome_iff_exists
def EU:=@List.map_map
def EW:=@Array.getElem?_toList
def EX:=@Bool.not_eq_true'
def EY:=@Array.getElem?_append_left
def EZ:=@Array.getElem?_setIfInBounds
def Fa:=@Bool.false_and
def Fb:=@beq_iff_eq
def Fe:=@Bool.or_eq_false_iff
def Ff:=@List.map_nil
def Fg:=@List.take_of_length_le
def Fh:=@List.take_add_one
def Fj:=@List.any_eq_false
def Fp:=@beq_eq_false_iff_ne
def Fq:=@List.map_append
def Fv:=@Bool.eq_iff_iff
def Fz:=@Nat.lt_of_lt_of_le
def F5:=@Array.ext
def F6:=@List.not_mem_nil
def F7:=@List.flatMap_cons
def F8:=@Option.some.injEq
def F9:=@Array.getElem?_append_right
def FB:=@Nat.mul_one
def FC:=@Nat.mod_eq_of_lt
def FD:=@List.drop_drop
def FH:=@UInt8.toNat_ofNat'
def FK:=@List.getElem?_drop
def FM:=@Bool.and_eq_false_iff
def FN:=@Int.le_refl
def FO:=@List.mem_of_mem_take
def FP:=@List.mem_iff_getElem
def FQ:=@List.mem_of_mem_drop
def FT:=@Option.some.inj
def FU:=@List.eq_nil_of_length_eq_zero
def FV:=@decide_true
def FW:=@List.getElem?_take
def FX:=@List.length_set
def FY:=@Bool.and_self
def FZ:=@Int.fdiv_eq_ediv_of_nonneg
def Gf:=@List.getElem?_set
def Gg:=@Bool.eq_false_iff
def Gh:=@World.cell?_setCell_other
def Gi:=@Nat.pow_le_pow_right
def Gj:=@List.map_id
def Gl:=@List.any_eq_true
def Gm:=@List.eq_of_mem_replicate
def Gp:=@World.cell?_setCell_same
def Gq:=@List.drop_length
def Gs:=@List.getD_cons_zero
def Gt:=@List.length_flatten
def Gu:=@Bool.and_true
def Gv:=@List.take_append_of_le_length
def Gw:=@List.findIdx_cons
def Gx:=@List.mem_range
def Gy:=@List.drop_zero
def Gz:=@List.drop_left
def G5:=@List.set_append_right
def G6:=@eq_of_beq
def G7:=@if_false
def G8:=@List.getElem_map
def G9:=@List.flatten_append
def GG:=@List.length_pos_iff
def GH:=@List.all_append
def GI:=@Nat.le_trans
def GK:=@List.getElem?_take_of_lt
def GL:=@Nat.sub_self
def GM:=@BitVec.toNat_ofNat
def GN:=@List.isEmpty_eq_false_iff_exists_mem
def GR:=@UInt8.toNat_lt
def GU:=@Bool.and_false
def GV:=@Nat.add_sub_cancel_left
def GX:=@Classical.axiomOfChoice
def GY:=@List.pairwise_singleton
def GZ:=@List.length_eq_zero_iff
def Ha:=@List.not_all_eq_any_not
def He:=@Option.bind_eq_some_iff
def Hf:=@List.drop_eq_nil_of_le
def Hg:=@List.length_eq_one_iff
def Hl:=@List.range_succ_eq_map
def Hm:=@List.isEmpty_iff
def Ho:=@or_false
def Hq:=@decide_eq_decide
def Hr:=@List.take_succ_eq_append_getElem
def Ht:=@List.take_append_drop
def Hu:=@List.mem_iff_getElem?
def Hw:=@decide_false
def Hy:=@Nat.mul_comm
def Hz:=@List.mem_of_getElem?
def H5:=@UInt8.toNat_inj
def H6:=@List.drop_append_of_le_length
def H7:=@List.mergeSort_perm
def H8:=@Int.toNat_of_nonneg
def H9:=@List.take_left
def HY:=@Bool.false_eq_true
def Ia:=@Bool.not_eq_false'
def Ib:=@List.foldl_append
def Ic:=@UInt8.ofNat_toNat
def Ie:=@List.mem_or_eq_of_mem_set
def Ig:=@List.getElem?_zip_eq_some
def Ih:=@dif_pos
def Ii:=@Array.toList_map
def Ij:=@Nat.ne_of_lt
def Ik:=@Nat.zero_mul
def Il:=@Bool.not_or_self
def Io:=@Bool.or_self
def Ip:=@List.flatMap_eq_nil_iff
def Iq:=@Nat.not_lt_zero
def Ir:=@eq_of_heq
def Iu:=@List.range_succ
def Iw:=@Option.map_eq_some_iff
def Iy:=@Nat.div_div_eq_div_mul
def Iz:=@Bool.not_or
def I4:=@List.mapM_cons
def I5:=@Array.getElem?_modify
def I7:=@Nat.div_lt_iff_lt_mul
def I8:=@Bool.cond_false_right
def I9:=@List.Perm.refl
def IA:=@Int.pow_nonneg
def IB:=@Array.mem_of_getElem?
def IE:=@List.getElem?_append
def IG:=@List.pairwise_append
def II:=@Bool.cond_false_left
def IJ:=@Bool.cond_true_right
def IK:=@Bool.beq_comm
def IL:=@Bool.cond_true_left
def IM:=@List.drop_succ_cons
def IP:=@List.getD_cons_succ
def IQ:=@List.getElem?_range
def IU:=@Array.foldl_toList
def IV:=@Nat.lt_or_gt_of_ne
def IW:=@Int.mul_comm
def IX:=@Array.append_assoc
def IY:=@List.mem_filterMap
def IZ:=@List.getElem_range
def Ja:=@Int.tmod_lt_of_pos
def Jb:=@BitVec.getLsbD_and
def Jc:=@if_true
def Jd:=@wp_mono
def Je:=@List.size_toArray
def Jf:=@List.ext_getElem?
def Jg:=@not_true_eq_false
def Jh:=@Nat.mul_add
def Ji:=@Nat.le_of_not_lt
def Jj:=@Nat.zero_testBit
def Jk:=@Nat.shiftLeft_eq
def Jl:=@Bool.or_not_self
def Jm:=@List.le_antisymm
def Jn:=@Prod.ext
def Jo:=@List.flatMap_nil
def Jp:=@List.ext_getElem
def Jq:=@List.head?_drop
end Go.Proofs.YtdihmdelaolelaaGreatDoor
namespace Go.Proofs.YtdihmdelaolelaaGreatDoor.Vm
inductive Ty where
 | nil
 | bool (r:Ty)
 | int (k:IntKind) (r:Ty)
 | str (r:Ty)
 | sl (e:Nat) (t:Ty) (r:Ty)
 | ptr (r:Ty)
 | fn (r:Ty)
 | mp (kt vt:Ty) (r:Ty)
 deriving DecidableEq,Inhabited
namespace Ty
def pr (α :Type) (β :Type):Ty->Type
 | .nil=> α
 | _=> α × β
def Val:Ty->Type
 | .nil=>Unit
 | .bool r=>pr Bool r.Val r
 | .int _ r=>pr Int r.Val r
 | .str r=>pr (List UInt8) r.Val r
 | .sl _ t r=>pr (List t.Val) r.Val r
 | .ptr r=>r.Val
 | .fn r=>pr Nat r.Val r
 | .mp kt vt r=>pr (List (kt.Val×vt.Val)) r.Val r
def hd {α β :Type}:(r:Ty)->pr α β r-> α
 | .nil,a=>a
 | .bool _,p=>p.1
 | .int _ _,p=>p.1
 | .str _,p=>p.1
 | .sl _ _ _,p=>p.1
 | .ptr _,p=>p.1
 | .fn _,p=>p.1
 | .mp _ _ _,p=>p.1
def tl {α :Type}:(r:Ty)->pr α r.Val r->r.Val
 | .nil,_=>()
 | .bool _,p=>p.2
 | .int _ _,p=>p.2
 | .str _,p=>p.2
 | .sl _ _ _,p=>p.2
 | .ptr _,p=>p.2
 | .fn _,p=>p.2
 | .mp _ _ _,p=>p.2
def mk2 {α :Type}:(r:Ty)-> α ->r.Val->pr α r.Val r
 | .nil,a,_=>a
 | .bool _,a,b=>(a,b)
 | .int _ _,a,b=>(a,b)
 | .str _,a,b=>(a,b)
 | .sl _ _ _,a,b=>(a,b)
 | .ptr _,a,b=>(a,b)
 | .fn _,a,b=>(a,b)
 | .mp _ _ _,a,b=>(a,b)
def zero:(t:Ty)->t.Val
 | .nil=>()
 | .bool r=>mk2 r false r.zero
 | .int _ r=>mk2 r 0 r.zero
 | .str r=>mk2 r [] r.zero
 | .sl _ _ r=>mk2 r [] r.zero
 | .ptr r=>r.zero
 | .fn r=>mk2 r 0 r.zero
 | .mp _ _ r=>mk2 r [] r.zero
def len:Ty->Nat
 | .nil=>0
 | .bool r=>r.len+1
 | .int _ r=>r.len+1
 | .str r=>r.len+1
 | .sl _ _ r=>r.len+1
 | .ptr r=>r.len+1
 | .fn r=>r.len+1
 | .mp _ _ r=>r.len+1
end Ty
structure Sl where
 t:Ty
 xs:List t.Val
 deriving Inhabited
structure Mp where
 kt:Ty
 vt:Ty
 l:List (kt.Val×vt.Val)
 deriving Inhabited
inductive CK where
 | bool | int (k:IntKind) | str | sl (e:Nat) (t:Ty) | sln (e:Nat) (t:Ty) | ptr | fn | mp (kt vt:Ty) | bx (t:Ty) | oth
 deriving DecidableEq
inductive A where
 | undef
 | bool (b:Bool)
 | int (k:IntKind) (n:Int)
 | str (s:List UInt8)
 | sl (l:Sl)
 | sln (l:Sl)
 | usl (z:Bool) (e:Nat) (l:Sl)
 | Ls
 | Me
 | ptr (o off:Nat)
 | own (o:Nat)
 | elt (cs:List A)
 | Kt (o i off:Nat)
 | agg (cs:List A)
 | tup (vs:List A)
 | box (cs:List A)
 | clo (f o:Nat)
 | cbx (f:Nat) (cs:List A)
 | bsl (o n:Nat)
 | osl (o k:Nat)
 | fn (f:Nat)
 | ump (l:Mp)
 | cnd (g:Bool) (v:A)
 deriving Inhabited
inductive Obj where
 | box (cs:List A)
 | arr (e:Nat) (frz:Bool) (l:Sl)
 | mp (l:Mp)
 deriving Inhabited
def Ty.cells:(t:Ty)->t.Val->List A
 | .nil,_=>[]
 | .bool r,v=>.bool (r.hd v)::r.cells (r.tl v)
 | .int k r,v=>.int k (r.hd v)::r.cells (r.tl v)
 | .str r,v=>.str (r.hd v)::r.cells (r.tl v)
 | .sl _ t r,v=>.sl ⟨t,r.hd v⟩::r.cells (r.tl v)
 | .ptr r,v=>.Me::r.cells v
 | .fn r,v=>.fn (r.hd v)::r.cells (r.tl v)
 | .mp kt vt r,v=>.ump ⟨kt,vt,r.hd v⟩::r.cells (r.tl v)
def Sl.sz (l:Sl):Nat:=l.t.len
def Sl.es (l:Sl):List (List A):=l.xs.map l.t.cells
def Sl.at (l:Sl) (i:Nat):List A:=l.t.cells (l.xs.getD i l.t.zero)
def Sl.cast (l:Sl) (t:Ty):Option (List t.Val) :=
 match decEq l.t t with
 | .isTrue h=>some (h▸l.xs)
 | .isFalse _=>none
def Mp.cast (l:Mp) (kt vt:Ty):Option (List (kt.Val×vt.Val)) :=
 match decEq l.kt kt with
 | .isTrue h=>match decEq l.vt vt with
  | .isTrue h'=>some (h▸h'▸l.l)
  | .isFalse _=>none
 | .isFalse _=>none
structure St where
 tmps:List A
 Js:List (Nat×Obj)
def J4:List (Nat×Obj)->Nat->Option Obj
 | [],_=>none
 | (k,x)::r,n=>bif Nat.beq k n then some x else J4 r n
def TD:List (Nat×Obj)->Nat->List (Nat×Obj)
 | [],_=>[]
 | (k,x)::r,n=>bif Nat.beq k n then TD r n else(k,x)::TD r n
def dU:List (Nat×Obj)->Nat->Obj->List (Nat×Obj)
 | [],n,y=>[(n,y)]
 | (k,x)::r,n,y=>bif Nat.ble n k then(n,y)::(k,x)::r else(k,x)::dU r n y
def Np (l:List (Nat×Obj)) (n:Nat) (y:Obj):List (Nat×Obj):=dU (TD l n) n y
def has (l:List Nat) (n:Nat):Bool:=l.any (Nat.beq n)
namespace A
def toB:A->Bool | .bool b=>b | _=>false
def isB:A->Bool | .bool _=>true | _=>false
def toI:A->Int | .int _ n=>n | _=>0
def kEq:IntKind->IntKind->Bool
 | .i8,.i8 | .i16,.i16 | .i32,.i32 | .i64,.i64 | .u8,.u8 | .u16,.u16 | .u32,.u32 | .u64,.u64=>true
 | _,_=>false
def isI (k:IntKind):A->Bool | .int k' _=>kEq k k' | _=>false
def toS:A->List UInt8 | .str s=>s | _=>[]
def isS:A->Bool | .str _=>true | _=>false
def toL:A->Sl | .sl l=>l | .sln l=>l | .usl _ _ l=>l | _=>default
def weak:A->A | .sln l=>.sl l | a=>a
def strong:A->A | .sl l=>.sln l | a=>a
def ArL:A->Bool | .sl _=>false | _=>true
def Acx (t:Ty):A->Bool | .sln l=>decide (l.t=t) | _=>false
def AhL (t:Ty):A->Bool | .sl l=>decide (l.t=t) | _=>false
def Aga (z:Bool) (e:Nat) (t:Ty):A->Bool | .usl z' e' l=>(z==z')&&(Nat.beq e e'&&decide (l.t=t)) | _=>false
def rG:A->Bool | .Me=>true | _=>false
def isFn:A->Bool | .fn _=>true | _=>false
def vO (kt vt:Ty):A->Bool | .ump l=>decide (l.kt=kt)&&decide (l.vt=vt) | _=>false
def toM:A->Mp | .ump l=>l | _=>default
def ZU:A->List A | .agg cs=>cs | .box cs=>cs | .cbx _ cs=>cs | _=>[]
def Alh (f n:Nat):A->Bool | .cbx g cs=>Nat.beq f g&&Nat.beq cs.length n | _=>false
def isAgg (n:Nat):A->Bool | .agg cs=>Nat.beq cs.length n | _=>false
def Alg (n:Nat):A->Bool | .box cs=>Nat.beq cs.length n | _=>false
def isVal:A->Bool | .undef=>false | .tup _=>false | .usl _ _ _=>false | .ump _=>false | .box _=>false | .cbx _ _=>false | .cnd _ _=>false | _=>true
def cells:A->List A | .agg cs=>cs | v=>[v]
def strip:A->List Bool×A | .cnd g v=>([g],v) | v=>([],v)
def PY:A->Bool×A | .cnd g v=>(g,v) | v=>(true,v)
def Nq:A->List Nat
 | .ptr o _=>[o] | .own o=>[o] | .Kt o _ _=>[o] | .clo _ o=>[o] | .bsl o _=>[o] | .osl o _=>[o] | _=>[]
def AvE:A->List Nat
 | .agg cs=>cs.flatMap Nq
 | .cnd _ (.agg cs)=>cs.flatMap Nq
 | .cnd _ v=>Nq v
 | v=>Nq v
def ids:A->List Nat
 | .tup vs=>vs.flatMap AvE
 | v=>AvE v
end A
def Obj.ids:Obj->List Nat
 | .box cs=>cs.flatMap A.Nq
 | _=>[]
def St.ids (st:St):List Nat:=st.tmps.flatMap A.ids++st.Js.flatMap (fun p=>p.2.ids)
def Za (n:Nat):Bool:=Nat.blt n 32768&&Nat.beq (n % 256) 0
def St.fresh (st:St) (n:Nat):Bool:= !(has st.ids n)&&(J4 st.Js n).isNone&& !(Nat.beq n 255)&& !(Za n)
def force:CK->A->List Bool×A
 | .bool,c=>([c.isB],c)
 | .int k,c=>([c.isI k],c)
 | .str,c=>([c.isS],c)
 | .sl _ t,c=>([c.AhL t],c)
 | .sln _ t,c=>([c.Acx t],c)
 | .ptr,c=>([c.rG],c)
 | .fn,c=>([c.isFn],c)
 | .mp _ _,_=>([false],.undef)
 | .bx _,_=>([false],.undef)
 | .oth,_=>([],.undef)
def forces (cs:List A):List CK->Nat->List Bool×List A
 | [],_=>([],[])
 | k::ks,off=>((force k (cs.getD off .undef)).1++(forces cs ks (off+1)).1,(force k (cs.getD off .undef)).2::(forces cs ks (off+1)).2)
def CK.zero:CK->A
 | .bool=>.bool false
 | .int k=>.int k 0
 | .str=>.str []
 | .sl _ _=>.Ls
 | .sln _ _=>.Ls
 | .ptr=>.Me
 | .fn=>.fn 0
 | .mp _ _=>.undef
 | .bx _=>.undef
 | .oth=>.undef
def CK.plain:CK->Bool | .oth=>false | .mp _ _=>false | .bx _=>false | _=>true
def CK.Qe:CK->A
 | .sl _ t=>.sl ⟨t,[]⟩
 | .sln _ t=>.sl ⟨t,[]⟩
 | k=>k.zero
structure TI where
 d:TypeDesc
 cs:List CK
 bytes:Nat
 cmp:List CK:=[]
def tyl:List CK->Ty
 | []=>.nil
 | .bool::r=>.bool (tyl r)
 | .int k::r=>.int k (tyl r)
 | .str::r=>.str (tyl r)
 | .sl e t::r=>.sl e t (tyl r)
 | .sln e t::r=>.sl e t (tyl r)
 | .ptr::r=>.ptr (tyl r)
 | .fn::r=>.fn (tyl r)
 | .mp kt vt::r=>.mp kt vt (tyl r)
 | .bx t::r=>.sl 0 t (tyl r)
 | .oth::r=>.ptr (tyl r)
def tck:Ty->List CK
 | .nil=>[]
 | .bool r=>.bool::tck r
 | .int k r=>.int k::tck r
 | .str r=>.str::tck r
 | .sl e t r=>.sln e t::tck r
 | .ptr r=>.ptr::tck r
 | .fn r=>.fn::tck r
 | .mp kt vt r=>.mp kt vt::tck r
def Ty.mk:(t:Ty)->List A->Bool×t.Val
 | .nil=>fun cs=>(cs.isEmpty,())
 | .bool r=>fun
  | .bool b::cs=>((r.mk cs).1,r.mk2 b (r.mk cs).2)
  | _=>(false,Ty.zero (.bool r))
 | .int k r=>fun
  | .int j n::cs=>(A.kEq j k&&(r.mk cs).1,r.mk2 n (r.mk cs).2)
  | _=>(false,Ty.zero (.int k r))
 | .str r=>fun
  | .str s::cs=>((r.mk cs).1,r.mk2 s (r.mk cs).2)
  | _=>(false,Ty.zero (.str r))
 | .sl e t r=>fun
  | .sl l::cs=>match l.cast t with
   | some xs=>((r.mk cs).1,r.mk2 xs (r.mk cs).2)
   | none=>(false,Ty.zero (.sl e t r))
  | _=>(false,Ty.zero (.sl e t r))
 | .ptr r=>fun
  | .Me::cs=>((r.mk cs).1,(r.mk cs).2)
  | _=>(false,Ty.zero (.ptr r))
 | .fn r=>fun
  | .fn n::cs=>((r.mk cs).1,r.mk2 n (r.mk cs).2)
  | _=>(false,Ty.zero (.fn r))
 | .mp kt vt r=>fun
  | .ump l::cs=>match l.cast kt vt with
   | some xs=>((r.mk cs).1,r.mk2 xs (r.mk cs).2)
   | none=>(false,Ty.zero (.mp kt vt r))
  | _=>(false,Ty.zero (.mp kt vt r))
def TI.agg (t:TI):Bool:=match t.d with | .struct _ | .array _ _=>true | _=>false
inductive Sh where
 | cell (u:Bool) (k:CK)
 | agg (cs:List (Bool×CK))
 | box (cs:List (Bool×CK))
 | map (kt vt:Ty)
 | clo (f:Nat) (cs:List (Bool×CK))
structure Sig where
 Ju:List Sh
 JB:List Sh
 ok:List A->Bool
 val:List A->List A
def Sig.F (sg:Sig) (xs:List A):Option (List A):=bif sg.ok xs then some (sg.val xs)else none
structure Nrm where
 keep:List Nat
 nw:List (List Nat×Nat×Ty×Nat)
 pz:List (Option Nat×Nat×Ty)
 ren:List (Nat×Nat)
 frz:List Nat
abbrev Alt:=Sig×Sig×(List A->Bool)
structure Ctx where
 T:Nat->Option TI
 G:Nat->Option Sig
 nrm:Nat->Option Nrm
 alt:Nat->Option Alt
 dyn:Nat->Option (Nat->Sig)
 cuts:List Nat:=[]
 binds:List Nat:=[]
 dec:Nat->Option Bool:=fun _=>none
 spl:Nat->Option (Nat×Nat×List Nat):=fun _=>none
 kept:Nat->List (Nat×Nat):=fun _=>[]
def Ctx.decide (C:Ctx) (ds:List Nat) (b:Bool):Ctx:= {C with dec:=fun d=>bif has ds d then some b else C.dec d}
def Ctx.put (C:Ctx) (f:Nat) (s:Sig):Ctx:= {C with G:=fun k=>bif Nat.beq f k then some s else C.G k}
structure Dl where
 ok:List Bool
 val:A
 new:List (Nat×Obj):=[]
 upd:List (Nat×Obj):=[]
 del:List Nat:=[]
 same:List (Nat×Nat):=[]
def Dl.no:Dl:= {ok:=[false],val:=.undef}
def Dl.v (a:A):Dl:= {ok:=[],val:=a}
def Dl.g (b:List Bool) (a:A):Dl:= {ok:=b,val:=a}
def OQ:Value->A
 | .bool b=>.bool b
 | .int k n=>.int k n
 | .string s=>.str s.data.toList
 | .slice none 0 0=>.Ls
 | .pointer none=>.Me
 | .nilFunc=>.fn 0
 | _=>.undef
def ofConst:Value->A
 | .agg vs=>bif vs.toList.all Value.oneCell' then .agg (vs.toList.map OQ)else .undef
 | v=>OQ v
abbrev Fet:=List (Nat×Obj)
def AhX:CK->Sl->List Bool×A
 | .sln _ _,l=>([decide (0<l.xs.length)],.sln l)
 | _,l=>([],.sl l)
def AyL:CK->Sl->A
 | .sln _ _,l=>.sln l
 | _,l=>.sl l
def pur (fet:Fet) (k:CK):A->List Bool×A×List (Nat×Obj)
 | .own o=>match J4 fet o with
  | some (.arr e _ l)=>((AhX k l).1,(AhX k l).2,[(o,.arr e true l)])
  | _=>([false],.undef,[])
 | .Ls=>match k with
  | .sl _ t=>([],.sl ⟨t,[]⟩,[])
  | .sln _ t=>([],.sln ⟨t,[]⟩,[])
  | _=>([false],.undef,[])
 | .sln l=>([],AyL k l,[])
 | .bool b=>([],.bool b,[])
 | .int j n=>([],.int j n,[])
 | .str s=>([],.str s,[])
 | .sl l=>((AhX k l).1,(AhX k l).2,[])
 | .Me=>([],.Me,[])
 | .fn n=>([],.fn n,[])
 | _=>([false],.undef,[])
def KO (fet:Fet):List CK->List A->List Bool×List A×List (Nat×Obj)
 | [],[]=>([],[],[])
 | k::ks,c::cs=>((pur fet k c).1++(KO fet ks cs).1,(pur fet k c).2.1::(KO fet ks cs).2.1,(pur fet k c).2.2++(KO fet ks cs).2.2)
 | _,_=>([false],[],[])
def Lj (id:Nat):List CK->List A->List A×List (Nat×Obj)
 | .sl e t::ks,.Ls::cs=>(.own id::(Lj (id+1) ks cs).1,(id,.arr e false ⟨t,[]⟩)::(Lj (id+1) ks cs).2)
 | _::ks,c::cs=>(c::(Lj (id+1) ks cs).1,(Lj (id+1) ks cs).2)
 | _,cs=>(cs,[])
def rd (fet:Fet):A->List Bool×Sl
 | .own o=>match J4 fet o with
  | some (.arr _ _ l)=>([],l)
  | _=>([false],default)
 | .Ls=>([],default)
 | .sl l=>([],l)
 | _=>([false],default)
def rdT (fet:Fet) (t:Ty):A->List Bool×List t.Val
 | .Ls=>([],[])
 | x=>match (rd fet x).2.cast t with
  | some xs=>((rd fet x).1,xs)
  | none=>([false],[])
def Tq:Ty:=.int .u8 .nil
def rdB (fet:Fet) (x:A):List Bool×List Int:=rdT fet Tq x
def byteOf (n:Int):UInt8:=UInt8.ofNat n.toNat
def isByte (n:Int):Bool:=decide (0<=n)&&decide (n<256)
def JE (op:BinOp) (k:IntKind) (x y:Int):Int :=
 match op with
 | .and=>k.wrap (((BitVec.ofInt k.bits x) &&& (BitVec.ofInt k.bits y)).toNat)
 | .or=>k.wrap (((BitVec.ofInt k.bits x) ||| (BitVec.ofInt k.bits y)).toNat)
 | .xor=>k.wrap (((BitVec.ofInt k.bits x) ^^^ (BitVec.ofInt k.bits y)).toNat)
 | _=>k.wrap (((BitVec.ofInt k.bits x) &&& ~~~(BitVec.ofInt k.bits y)).toNat)
def Aac (op:BinOp) (k:IntKind) (x y:Int):Dl :=
 match op with
 | .add=>.v (.int k (k.wrap (x+y)))
 | .sub=>.v (.int k (k.wrap (x - y)))
 | .mul=>.v (.int k (k.wrap (x*y)))
 | .quo=>.g [y != 0] (.int k (k.wrap (x.tdiv y)))
 | .rem=>.g [y != 0] (.int k (x.tmod y))
 | .and | .or | .xor | .andNot=>.v (.int k (JE op k x y))
 | .eql=>.v (.bool (x==y))
 | .neq=>.v (.bool (x != y))
 | .lss=>.v (.bool (decide (x<y)))
 | .leq=>.v (.bool (decide (x<=y)))
 | .gtr=>.v (.bool (decide (x>y)))
 | .geq=>.v (.bool (decide (x>=y)))
 | _=>.no
def bytesLess:List UInt8->List UInt8->Bool:=Go.Op.bytesLess
def Aad (op:BinOp) (x y:List UInt8):Dl :=
 match op with
 | .add=>.g [decide (x.length+y.length<=140737488355328)] (.str (x++y))
 | .eql=>.v (.bool (x==y))
 | .neq=>.v (.bool (!(x==y)))
 | .lss=>.v (.bool (bytesLess x y))
 | .leq=>.v (.bool (bytesLess x y||x==y))
 | .gtr=>.v (.bool (!(bytesLess x y||x==y)))
 | .geq=>.v (.bool (!(bytesLess x y)))
 | _=>.no
def jI:CK->A->A->Bool×Bool
 | .bool,.bool a,.bool b=>(true,a==b)
 | .int k,.int i a,.int j b=>(A.kEq i k&&A.kEq j k,a==b)
 | .str,.str a,.str b=>(true,a==b)
 | _,_,_=>(false,false)
def QL:List CK->List A->List A->Bool×Bool
 | [],[],[]=>(true,true)
 | k::ks,a::x,b::y=>((jI k a b).1&&(QL ks x y).1,(jI k a b).2&&(QL ks x y).2)
 | _,_,_=>(false,false)
def Ty.same:(t:Ty)->t.Val->t.Val->Bool
 | .nil,_,_=>true
 | .bool r,a,b=>(r.hd a==r.hd b)&&r.same (r.tl a) (r.tl b)
 | .int _ r,a,b=>(r.hd a==r.hd b)&&r.same (r.tl a) (r.tl b)
 | .str r,a,b=>(r.hd a==r.hd b)&&r.same (r.tl a) (r.tl b)
 | _,_,_=>false
def AmV:List A->A
 | [c]=>c
 | cs=>.agg cs
def splice (l:List A) (off:Nat) (vs:List A):List A:=l.take off++vs++l.drop (off+vs.length)
def Ag3 (C:Ctx) (d:TypeDesc) (f:Nat):Option (Nat×TI) :=
 match d with
 | .struct fs=>match fs.toList[f]? with
  | some x=>match C.T x.type with
   | some ti=>some (x.offset,ti)
   | none=>none
  | none=>none
 | _=>none
def AfX:TypeDesc->Bool | .string=>true | _=>false
def ZB:TypeDesc->Bool | .slice _=>true | .string=>true | _=>false
def AhK:TypeDesc->Bool | .bool=>true | _=>false
def AfY:TypeDesc->Bool | .int .u8=>true | _=>false
def Ac2 (C:Ctx) (d:TypeDesc) (f:Nat):Option (Nat×TI) :=
 match d with
 | .struct fs=>match fs.toList[f]? with
  | some x=>match C.T x.type with
   | some ti=>some (x.offset,ti)
   | none=>none
  | none=>none
 | .array n e=>match C.T e with
  | some ti=>bif Nat.blt f n then some (f*ti.cs.length,ti)else none
  | none=>none
 | _=>none
def wK (ti:TI) (cs:List A) (off:Nat):A:=bif ti.agg then .agg ((cs.drop off).take ti.cs.length)else cs.getD off .undef
def fill (C:Ctx) (d:TypeDesc):List (Nat×A)->List A->Option (List A)
 | [],cs=>some cs
 | (i,v)::r,cs=>match Ac2 C d i with
  | some (off,ti)=>bif v.isVal&&Nat.beq v.cells.length ti.cs.length&&Nat.ble (off+ti.cs.length) cs.length then fill C d r (splice cs off v.cells)else none
  | none=>none
def Ol (fet:Fet) (ti:TI) (t:Ty):List (Nat×A)->List t.Val->List Bool×List t.Val×List (Nat×Obj)
 | [],xs=>([],xs,[])
 | (i,v)::r,xs=>((KO fet ti.cs v.cells).1++[(t.mk (KO fet ti.cs v.cells).2.1).1,Nat.blt i xs.length]++(Ol fet ti t r (xs.set i (t.mk (KO fet ti.cs v.cells).2.1).2)).1,
     (Ol fet ti t r (xs.set i (t.mk (KO fet ti.cs v.cells).2.1).2)).2.1,(KO fet ti.cs v.cells).2.2++(Ol fet ti t r (xs.set i (t.mk (KO fet ti.cs v.cells).2.1).2)).2.2)
def Sl.set (l:Sl) (i off:Nat) (cs:List A):Bool×Sl:=((l.t.mk (splice (l.at i) off cs)).1,⟨l.t,l.xs.set i (l.t.mk (splice (l.at i) off cs)).2⟩)
def KF:Sh->Bool | .box _=>true | .map _ _=>true | .clo _ _=>true | _=>false
def LW (fet:Fet) (o:Nat):Option (List A):=match J4 fet o with | some (.box cs)=>some cs | _=>none
structure Arg where
 ok:List Bool
 a:A
 upd:List (Nat×Obj):=[]
 del:List Nat:=[]
 boxes:List (Nat×Sh):=[]
def J9 (fet:Fet):List (Bool×CK)->List A->List Bool×List A×List (Nat×Obj)×List Nat
 | [],[]=>([],[],[],[])
 | (false,k)::ks,c::cs=>((pur fet k c).1++(J9 fet ks cs).1,(pur fet k c).2.1::(J9 fet ks cs).2.1,(pur fet k c).2.2++(J9 fet ks cs).2.2.1,(J9 fet ks cs).2.2.2)
 | (true,.sl e t)::ks,.own o::cs=>match J4 fet o with
  | some (.arr e' _ l)=>([Nat.beq e e',decide (l.t=t)]++(J9 fet ks cs).1,.usl true e l::(J9 fet ks cs).2.1,(o,.arr e true l)::(J9 fet ks cs).2.2.1,o::(J9 fet ks cs).2.2.2)
  | _=>([false],[],[],[])
 | (true,.sl e t)::ks,.Ls::cs=>((J9 fet ks cs).1,.usl true e ⟨t,[]⟩::(J9 fet ks cs).2.1,(J9 fet ks cs).2.2.1,(J9 fet ks cs).2.2.2)
 | (true,.sln e t)::ks,.own o::cs=>match J4 fet o with
  | some (.arr e' f l)=>([Nat.beq e e',decide (l.t=t),!f]++(J9 fet ks cs).1,.usl false e l::(J9 fet ks cs).2.1,(J9 fet ks cs).2.2.1,o::(J9 fet ks cs).2.2.2)
  | _=>([false],[],[],[])
 | (true,.sln e t)::ks,.Ls::cs=>((J9 fet ks cs).1,.usl false e ⟨t,[]⟩::(J9 fet ks cs).2.1,(J9 fet ks cs).2.2.1,(J9 fet ks cs).2.2.2)
 | (true,.bx t)::ks,.ptr o off::cs=>match LW fet o with
  | some zs=>(Nat.beq off 0::(KO fet (tck t) zs).1++(J9 fet ks cs).1,.box (KO fet (tck t) zs).2.1::(J9 fet ks cs).2.1,(KO fet (tck t) zs).2.2++(J9 fet ks cs).2.2.1,o::(J9 fet ks cs).2.2.2)
  | none=>([false],[],[],[])
 | _,_=>([false],[],[],[])
def wC:Bool×CK->Bool
 | (true,.sln _ _)=>true
 | _=>false
def wS:Sh->Bool
 | .cell u k=>wC (u,k)
 | .agg ks=>ks.any wC
 | .box ks=>ks.any wC
 | .clo _ ks=>ks.any wC
 | .map _ _=>false
def JZ (fet:Fet):Sh->A->Arg
 | .cell u k,a=>match J9 fet [(u,k)] [a]with
  | (ok,[c],upd,del)=> {ok,a:=c,upd,del}
  | _=> {ok:=[false],a:=.undef}
 | .agg ks,.agg cs=>match J9 fet ks cs with
  | (ok,cs,upd,del)=> {ok,a:=.agg cs,upd,del}
 | .box ks,.ptr o off=>match LW fet o with
  | some cs=> {ok:=Nat.beq off 0::Nat.ble ks.length 200::(J9 fet ks cs).1,a:=.box (J9 fet ks cs).2.1,upd:=(J9 fet ks cs).2.2.1,del:=(J9 fet ks cs).2.2.2,boxes:=[(o,.box ks)]}
  | none=> {ok:=[false],a:=.undef}
 | .clo f ks,.clo g o=>match LW fet o with
  | some cs=> {ok:=Nat.beq f g::Nat.ble ks.length 200::(J9 fet ks cs).1,a:=.cbx g (J9 fet ks cs).2.1,upd:=(J9 fet ks cs).2.2.1,del:=(J9 fet ks cs).2.2.2,boxes:=[(o,.box ks)]}
  | none=> {ok:=[false],a:=.undef}
 | .map kt vt,.own o=>match J4 fet o with
  | some (.mp l)=> {ok:=[decide (l.kt=kt),decide (l.vt=vt)],a:=.ump l,boxes:=[(o,.map kt vt)]}
  | _=> {ok:=[false],a:=.undef}
 | _,_=> {ok:=[false],a:=.undef}
def JP (fet:Fet):List Sh->List A->List Bool×List A×List (Nat×Obj)×List Nat×List (Nat×Sh)
 | [],[]=>([],[],[],[],[])
 | s::ss,a::aa=>((JZ fet s a).ok++(JP fet ss aa).1,(JZ fet s a).a::(JP fet ss aa).2.1,(JZ fet s a).upd++(JP fet ss aa).2.2.1,
  (JZ fet s a).del++(JP fet ss aa).2.2.2.1,(JZ fet s a).boxes++(JP fet ss aa).2.2.2.2)
 | _,_=>([false],[],[],[],[])
def JS (id:Nat):List (Bool×CK)->List A->Nat->List Bool×List A×List (Nat×Obj)
 | [],_,_=>([],[],[])
 | (false,k)::ks,cs,j=>((force k (cs.getD j .undef)).1++(JS id ks cs (j+1)).1,(force k (cs.getD j .undef)).2::(JS id ks cs (j+1)).2.1,(JS id ks cs (j+1)).2.2)
 | (true,.sl e t)::ks,cs,j=>((cs.getD j .undef).Aga true e t::(JS id ks cs (j+1)).1,.own (id+j)::(JS id ks cs (j+1)).2.1,
     (id+j,.arr e true (cs.getD j .undef).toL)::(JS id ks cs (j+1)).2.2)
 | (true,.sln e t)::ks,cs,j=>((cs.getD j .undef).Aga false e t::(JS id ks cs (j+1)).1,.own (id+j)::(JS id ks cs (j+1)).2.1,
     (id+j,.arr e false (cs.getD j .undef).toL)::(JS id ks cs (j+1)).2.2)
 | (true,.bx t)::ks,cs,j=>((cs.getD j .undef).Alg t.len::(JS id ks cs (j+1)).1,.ptr (id+j) 0::(JS id ks cs (j+1)).2.1,(id+j,.box (cs.getD j .undef).ZU)::(JS id ks cs (j+1)).2.2)
 | _,_,_=>([false],[],[])
def back (id:Nat):Sh->A->List Bool×A×List (Nat×Obj)
 | .cell u k,a=>((JS id [(u,k)] [a] 0).1++[k.plain],(JS id [(u,k)] [a] 0).2.1.getD 0 .undef,(JS id [(u,k)] [a] 0).2.2)
 | .agg ks,a=>(Nat.ble ks.length 200::a.isAgg ks.length::(JS (id+1) ks a.ZU 0).1,.agg (JS (id+1) ks a.ZU 0).2.1,(JS (id+1) ks a.ZU 0).2.2)
 | .box ks,a=>(Nat.ble ks.length 200::a.Alg ks.length::(JS (id+1) ks a.ZU 0).1,.ptr id 0,(id,.box (JS (id+1) ks a.ZU 0).2.1)::(JS (id+1) ks a.ZU 0).2.2)
 | .map kt vt,a=>([a.vO kt vt],.own id,[(id,.mp a.toM)])
 | .clo f ks,a=>(Nat.ble ks.length 200::a.Alh f ks.length::(JS (id+1) ks a.ZU 0).1,.clo f id,(id,.box (JS (id+1) ks a.ZU 0).2.1)::(JS (id+1) ks a.ZU 0).2.2)
def KW (id stride:Nat):List Sh->List A->Nat->List Bool×List A×List (Nat×Obj)
 | [],_,_=>([],[],[])
 | s::ss,rs,j=>((back (id+stride*j) s (rs.getD j .undef)).1++(KW id stride ss rs (j+1)).1,(back (id+stride*j) s (rs.getD j .undef)).2.1::(KW id stride ss rs (j+1)).2.1,
  (back (id+stride*j) s (rs.getD j .undef)).2.2++(KW id stride ss rs (j+1)).2.2)
def Oh (rb:Nat):Sh->A->List Bool×Obj×List (Nat×Obj)
 | .box ks,a=>(a.isAgg ks.length::(JS (rb+1) ks a.ZU 0).1,.box (JS (rb+1) ks a.ZU 0).2.1,(JS (rb+1) ks a.ZU 0).2.2)
 | .map kt vt,a=>([a.vO kt vt],.mp a.toM,[])
 | _,_=>([false],.box [],[])
def KZ (rb:Nat->Nat) (rs:List A):List (Nat×Sh)->Nat->List Bool×List (Nat×Obj)×List (Nat×Obj)
 | [],_=>([],[],[])
 | (o,s)::r,j=>((Oh (rb o) s (rs.getD j .undef)).1++(KZ rb rs r (j+1)).1,
     (o,(Oh (rb o) s (rs.getD j .undef)).2.1)::(KZ rb rs r (j+1)).2.1,(Oh (rb o) s (rs.getD j .undef)).2.2++(KZ rb rs r (j+1)).2.2)
def MO (fet:Fet) (o:Nat):Nat:=match LW fet o with
 | some cs=>bif cs.any (fun c=>c.Nq.any (fun i=>Nat.blt o i&&Nat.ble i (o+100)))then o+100 else o
 | none=>o
def nodup:List Nat->Bool
 | []=>true
 | n::r=> !(has r n)&&nodup r
def LK (id:Nat):List (Bool×CK)->List A->List (Nat×Nat)
 | (true,.sl _ _)::ks,.own o::cs=>(o,id)::LK (id+1) ks cs
 | (true,.sln _ _)::ks,.own o::cs=>(o,id)::LK (id+1) ks cs
 | (true,.bx _)::ks,.ptr o _::cs=>(o,id)::LK (id+1) ks cs
 | _::ks,_::cs=>LK (id+1) ks cs
 | _,_=>[]
def OE (fet:Fet) (id:Nat):Sh->A->List (Nat×Nat)
 | .cell u k,a=>LK id [(u,k)] [a]
 | .agg ks,.agg cs=>LK (id+1) ks cs
 | .box ks,.ptr o _=>(o,id)::(match LW fet o with | some cs=>LK (id+1) ks cs | none=>[])
 | .map _ _,.own o=>[(o,id)]
 | .clo _ ks,.clo _ o=>(o,id)::(match LW fet o with | some cs=>LK (id+1) ks cs | none=>[])
 | _,_=>[]
def NS (fet:Fet):Nat->Nat->List Sh->List A->List (Nat×Nat)
 | id,stride,s::ss,x::xs=>OE fet id s x++NS fet (id+stride) stride ss xs
 | _,_,_,_=>[]
end Go.Proofs.YtdihmdelaolelaaGreatDoor.Vm
namespace Go.Proofs.YtdihmdelaolelaaGreatDoor.Vm
def Aca:Nat->Option (IntKind×List Int)
 | 0=>some (.i64,[31,28,31,30,31,30,31,31,30,31,30,31])
 | _=>none
def AyX (j:Nat):Option (IntKind×List Int)->Option (Value->Prop)
 | some (k,ns)=>if j<ns.length then some (fun v=>v= .int k (ns.getD j 0))else none
 | none=>none
def fG:Nat->Nat->Option (Value->Prop)
 | 1,0=>some (fun v=> ∃ m,v= .int .i64 m)
 | 2,j=>if j<20 then some (fun v=>v= .int .u64 ((10 ^ j:Nat):Int))else none
 | g,j=>AyX j (Aca g)
def Aw4:Nat->Option Nat
 | 2=>some 20
 | _=>none
def Aw3:Option (IntKind×List Int)->A
 | some (k,ns)=>.elt (ns.map (.int k))
 | none=>.undef
def AxT {g:Nat} {q:IntKind×List Int} (h:Aca g=some q) (j:Nat):fG g j=AyX j (some q):=by rw[<- h];unfold fG;split<;>first | rfl | (exfalso;cases h;done)
def KY (tmps:List A):Operand->A
 | .tmp t=>tmps.getD t .undef
 | .const v=>ofConst v
 | .func f=>.fn (f+1)
 | .global g=>Aw3 (Aca g)
def b2 (d:Nat):Nat:=(d+128)*256
def KA {α :Type} (o:Option α) (k: α ->Dl):Dl:=match o with | some x=>k x | none=>.no
def MI (C:Ctx) (t:Nat) (k:TI->Dl):Dl:=KA (C.T t) k
def elem? :TypeDesc->Option Nat
 | .slice e=>some e
 | _=>none
def elemOf (C:Ctx) (t:Nat) (k:Nat->TI->Dl):Dl:=MI C t fun ti=>KA (elem? ti.d) fun e=>MI C e fun te=>k e te
structure Arr where
 e:Nat
 frz:Bool
 l:Sl
def dV (fet:Fet) (o:Nat):Option Arr:=match J4 fet o with | some (.arr e frz l)=>some ⟨e,frz,l⟩ | _=>none
def one? {α :Type}:List α ->Option α
 | [k]=>some k
 | _=>none
def AfU:List CK->Bool
 | [.ptr]=>true
 | _=>false
def Xr (ti:TI) (cs:List A) (off:Nat) (pre:List Bool):Dl :=
 bif ti.agg then .g (pre++(forces cs ti.cs off).1) (.agg (forces cs ti.cs off).2)
 else KA (one? ti.cs) fun k=>.g (pre++(force k (cs.getD off .undef)).1) (force k (cs.getD off .undef)).2
def isRow (ti:TI) (l:Sl) (i off:Nat):Bool:=Nat.blt 1 ti.cs.length&&Nat.beq l.sz 1&&Nat.beq off 0&&Nat.beq i 0
def xB (l:Sl) (n:Nat):List A:=(List.range n).map fun j=>(l.at j).getD 0 .undef
def iV (t:Ty) (cs:List A):Bool×List t.Val:=(cs.all (fun c=>(t.mk [c]).1),cs.map (fun c=>(t.mk [c]).2))
def YF (C:Ctx) (fet:Fet) (t:Nat) (a:A):Dl :=
 MI C t fun ti=>match a with
 | .ptr o off=>KA (LW fet o) fun cs=>.g [Nat.ble (off+ti.cs.length) cs.length,Nat.blt 0 ti.cs.length] (wK ti cs off)
 | .elt cs=>Xr ti cs 0 [Nat.ble ti.cs.length cs.length]
 | .clo k o=>.g [Nat.beq k 0,AfU ti.cs,!ti.agg] (.ptr o 0)
 | .Kt o i off=>KA (dV fet o) fun r=>bif isRow ti r.l i off then Xr ti (xB r.l ti.cs.length) 0 [Nat.ble ti.cs.length r.l.xs.length,true]else Xr ti (r.l.at i) off [Nat.ble (off+ti.cs.length) r.l.sz,decide (i<r.l.xs.length)]
 | _=>.no
def VW (C:Ctx) (fet:Fet) (t:Nat) (a v:A):Dl :=
 MI C t fun ti=>match a with
 | .ptr o off=>KA (LW fet o) fun cs =>
  {ok:=[v.isVal,Nat.beq v.cells.length ti.cs.length,Nat.ble (off+ti.cs.length) cs.length,Nat.blt 0 ti.cs.length],val:=.undef,
   upd:=[(o,.box (splice cs off (Lj (MO fet o+1+off) ti.cs v.cells).1))],new:=(Lj (MO fet o+1+off) ti.cs v.cells).2}
 | .Kt o i off=>KA (dV fet o) fun r=>bif isRow ti r.l i off then
  {ok:=(KO fet ti.cs v.cells).1++[!r.frz,(iV r.l.t (KO fet ti.cs v.cells).2.1).1,Nat.beq ti.cs.length r.l.xs.length,true,Nat.blt 0 ti.cs.length,!(has ((KO fet ti.cs v.cells).2.2.map (·.1)) o)],val:=.undef,
   upd:=(KO fet ti.cs v.cells).2.2++[(o,.arr r.e false ⟨r.l.t,(iV r.l.t (KO fet ti.cs v.cells).2.1).2⟩)]}else
  {ok:=(KO fet ti.cs v.cells).1++[!r.frz,(r.l.set i off (KO fet ti.cs v.cells).2.1).1,Nat.ble (off+ti.cs.length) r.l.sz,decide (i<r.l.xs.length),Nat.blt 0 ti.cs.length,!(has ((KO fet ti.cs v.cells).2.2.map (·.1)) o)],val:=.undef,
   upd:=(KO fet ti.cs v.cells).2.2++[(o,.arr r.e false (r.l.set i off (KO fet ti.cs v.cells).2.1).2)]}
 | _=>.no
def adK (C:Ctx) (d:Nat) (ti:TI):List CK:=bif has C.cuts d then []else ti.cs
def X4 (C:Ctx) (d:Nat) (t:Nat) (v:A):Dl :=
 MI C t fun ti=> {ok:=[v.isVal,Nat.beq v.cells.length ti.cs.length],val:=.ptr (b2 d) 0,new:=(b2 d,.box (Lj (b2 d+1) (adK C d ti) v.cells).1)::(Lj (b2 d+1) (adK C d ti) v.cells).2}
def ZY (off n:Nat) (fet:Fet):A->Dl
 | .ptr o p=>KA (LW fet o) fun cs=>.g [Nat.ble (p+off+n) cs.length] (.ptr o (p+off))
 | .elt cs=>.g [Nat.ble (off+n) cs.length] (.elt (cs.drop off))
 | .Kt o i p=>KA (dV fet o) fun r=>.g [decide (i<r.l.xs.length)] (.Kt o i (p+off))
 | _=>.no
def uA:TypeDesc->Option (Nat×Nat)
 | .array n e=>some (n,e)
 | _=>none
def int? :A->Option Int
 | .int _ n=>some n
 | _=>none
def AwQ:CK->Option IntKind
 | .int k=>some k
 | _=>none
def Afc (C:Ctx) (t:Nat) (k:Nat->IntKind->Dl):Dl:=MI C t fun ti=>KA (uA ti.d) fun p=>MI C p.2 fun te=>bif te.agg then .no else KA (one? te.cs) fun c=>KA (AwQ c) fun kk=>k p.1 kk
def wB (cs:List A) (n:Int):Int:=(cs.map A.toI).getD n.toNat 0
def iH (C:Ctx) (fet:Fet) (t:Nat) (x:A) (i:A):Dl :=
 match x with
 | .Kt o i0 off0=>KA (int? i) fun n=>MI C t fun ti=>KA (uA ti.d) fun p=>MI C p.2 fun te=>KA (dV fet o) fun r =>
  .g [Nat.beq i0 0,Nat.beq off0 0,Nat.beq r.l.sz te.cs.length,decide (0<=n),decide (n<(p.1:Int)),decide (n.toNat<r.l.xs.length)] (.Kt o n.toNat 0)
 | .elt cs=>KA (int? i) fun n=>Afc C t fun m kk=>.g [cs.all (A.isI kk),Nat.beq cs.length m,decide (0<=n),decide (n<(m:Int))] (.elt [.int kk (wB cs n)])
 | x =>
 KA (int? i) fun n=>elemOf C t fun _ te=>match x with
 | .own o=>KA (dV fet o) fun r=>.g [Nat.beq r.l.sz te.cs.length,decide (0<=n),decide (n<r.l.xs.length)] (.Kt o n.toNat 0)
 | .sl l=>.g [Nat.beq l.sz te.cs.length,Nat.blt 0 l.sz,decide (0<=n),decide (n<l.xs.length)] (.elt (l.at n.toNat))
 | .bsl o k=>KA (LW fet o) fun cs=>.g [Nat.beq te.cs.length 1,decide (0<=n),Nat.blt n.toNat k,Nat.blt n.toNat cs.length] (.ptr o n.toNat)
 | _=>.no
def AnQ:A->Option (List UInt8)
 | .str s=>some s
 | _=>none
def AfR (C:Ctx) (t:Nat) (x i:A):Dl :=
 KA (int? i) fun n=>match x with
 | .agg cs=>Afc C t fun m kk=>.g [cs.all (A.isI kk),Nat.beq cs.length m,decide (0<=n),decide (n<(m:Int))] (.int kk (wB cs n))
 | x=>KA (AnQ x) fun s=>MI C t fun ti=>.g [AfX ti.d,decide (0<=n),decide (n<s.length)] (.int .u8 ((s.getD n.toNat 0).toNat:Int))
def Aef (len:Nat):Option A->Option A->Option (List Bool×Nat×Nat)
 | none,none=>some ([],0,len)
 | some (.int _ a),none=>some ([decide (0<=a),decide (a<=len)],a.toNat,len)
 | none,some (.int _ b)=>some ([decide (0<=b),decide (b<=len)],0,b.toNat)
 | some (.int _ a),some (.int _ b)=>some ([decide (0<=a),decide (a<=b),decide (b<=len)],a.toNat,b.toNat)
 | _,_=>none
def J6 {α :Type} (l:List α) (a b:Nat):List α :=(l.take b).drop a
def MN (C:Ctx) (fet:Fet) (t:Nat) (x:A) (lo hi:Option A):Dl :=
 MI C t fun ti=>match x with
 | .str s=>KA (Aef s.length lo hi) fun r=>.g (AfX ti.d::r.1) (.str (J6 s r.2.1 r.2.2))
 | .sl l=>KA (Aef l.xs.length lo hi) fun r=>KA (elem? ti.d) fun e=>MI C e fun te=>.g (Nat.beq l.sz te.cs.length::r.1) (.sl ⟨l.t,J6 l.xs r.2.1 r.2.2⟩)
 | .own o=>KA (dV fet o) fun ro=>KA (Aef ro.l.xs.length lo hi) fun r=>KA (elem? ti.d) fun e=>MI C e fun te =>
  {ok:=Nat.beq ro.l.sz te.cs.length::r.1,val:=.sl ⟨ro.l.t,J6 ro.l.xs r.2.1 r.2.2⟩,upd:=bif ro.frz then []else [(o,.arr ro.e true ro.l)]}
 | _=>.no
def Aaz (C:Ctx) (fet:Fet) (d t:Nat) (x hi:A):Dl :=
 MI C t fun ti=>match x with
 | .own o=>KA (dV fet o) fun ro=>KA (Aef ro.l.xs.length none (some hi)) fun r=>KA (elem? ti.d) fun e=>MI C e fun te =>
  {ok:=Nat.beq ro.l.sz te.cs.length::r.1++[!ro.frz],val:=.own (b2 d),new:=[(b2 d,.arr ro.e false ⟨ro.l.t,J6 ro.l.xs r.2.1 r.2.2⟩)],del:=[o]}
 | _=>.no
def xP (C:Ctx) (fet:Fet) (t:Nat) (x a:A):Dl :=
 MI C t fun ti=>match x with
 | .own o=>KA (dV fet o) fun ro=>KA (int? a) fun n=>KA (elem? ti.d) fun e=>MI C e fun te=>.g [Nat.beq ro.l.sz te.cs.length,decide (0<=n),decide (n<(ro.l.xs.length:Int))] (.osl o n.toNat)
 | _=>.no
def oP (ys:List Int) (k:Nat) (s:List UInt8):List Int:=ys.take k++s.map (fun(b:UInt8)=>((b.toNat:Int)))++ys.drop (k+s.length)
def Alb (C:Ctx) (fet:Fet) (ts:List Nat) (x y:A):Dl :=
 match ts with
 | [t,_]=>elemOf C t fun _ te=>match x with
  | .osl o k=>KA (dV fet o) fun r=>KA (r.l.cast Tq) fun ys=>KA (AnQ y) fun s =>
   {ok:=[AfY te.d,Nat.beq te.cs.length 1,!r.frz,decide (0<s.length),decide (k+s.length<=ys.length)],val:=.int .i64 (s.length:Int),upd:=[(o,.arr r.e false ⟨Tq,oP ys k s⟩)]}
  | _=>.no
 | _=>.no
def mp? (fet:Fet):A->Option (Nat×Mp)
 | .own o=>match J4 fet o with
  | some (.mp l)=>some (o,l)
  | _=>none
 | _=>none
def AhN (C:Ctx) (fet:Fet) (t:Nat) (x:A):Dl :=
 MI C t fun ti=>match ti.d with
 | .string=>KA (AnQ x) fun s=>.v (.int .i64 (s.length:Int))
 | .array n _=>.v (.int .i64 (n:Int))
 | .slice _=>match x with
  | .bsl o k=>KA (LW fet o) fun _=>.v (.int .i64 (k:Int))
  | x=>.g (rd fet x).1 (.int .i64 ((rd fet x).2.xs.length:Int))
 | .map _ _=>KA (mp? fet x) fun p=>.v (.int .i64 (p.2.l.length:Int))
 | _=>.no
def Rf (fet:Fet) (t:Ty):A->List Bool×List t.Val
 | .str s=>match t with
  | .int .u8 .nil=>([],s.map (fun(b:UInt8)=>((b.toNat:Int))))
  | _=>([false],[])
 | y=>rdT fet t y
def pV (C:Ctx) (fet:Fet) (d:Nat) (t:Nat) (x y:A):Dl :=
 elemOf C t fun e te=>match x with
 | .own o=>KA (dV fet o) fun r =>
  {ok:=(Rf fet r.l.t y).1++[Nat.beq e r.e,Nat.beq r.l.sz te.cs.length,Nat.blt 0 r.l.sz,decide ((r.l.xs.length+(Rf fet r.l.t y).2.length)*(te.bytes+1)<=140737488355328)],
   val:=.own (b2 d),new:=[(b2 d,.arr r.e r.frz ⟨r.l.t,r.l.xs++(Rf fet r.l.t y).2⟩)],del:=[o]}
 | .Ls =>
  {ok:=(Rf fet (tyl te.cs) y).1++[Nat.blt 0 te.cs.length,decide ((Rf fet (tyl te.cs) y).2.length*(te.bytes+1)<=140737488355328)],
   val:=.own (b2 d),new:=[(b2 d,.arr e false ⟨tyl te.cs,(Rf fet (tyl te.cs) y).2⟩)]}
 | _=>.no
def Zy (C:Ctx) (fet:Fet) (src dst:Nat) (x:A):Dl :=
 MI C src fun s=>MI C dst fun t=>match t.d,x with
 | .int k,.int _ n=>.v (.int k (k.wrap n))
 | .string,.str l=>.v (.str l)
 | .string,.int _ _=>.no
 | .string,x=>KA (elem? s.d) fun e=>MI C e fun te=>.g (AfY te.d::((rdB fet x).1++[(rdB fet x).2.all isByte])) (.str ((rdB fet x).2.map byteOf))
 | _,_=>.no
def Aah (C:Ctx) (d s t:Nat) (l:List UInt8):Dl:=MI C s fun _=>elemOf C t fun e te =>
 {ok:=[AfY te.d,decide (l.length<=140737488355328)],val:=.own (b2 d),new:=[(b2 d,.arr e false ⟨Tq,l.map (fun(b:UInt8)=>((b.toNat:Int)))⟩)]}
def AmB:TypeDesc->Bool | .slice _=>true | _=>false
def Acn (C:Ctx) (o:Oper) (fet:Fet) (s t:Nat) (x:A):Dl :=
 match x with
 | .str l=>MI C t fun tt=>bif AmB tt.d then KA o.dst fun d=>Aah C d s t l else Zy C fet s t (.str l)
 | x=>Zy C fet s t x
def AwG (C:Ctx) (t:Nat):Option (Nat×IntKind):=match C.T t with
 | some ti=>match uA ti.d with
  | some (n,e)=>match C.T e with
   | some te=>match te.cs with
    | [.int k]=>some (n,k)
    | _=>none
   | none=>none
  | none=>none
 | none=>none
def Aae (C:Ctx) (d t:Nat) (v:A):Dl:=match AwG C t with
 | some (n,k)=>match v with
  | .agg cs=> {ok:=[cs.all (A.isI k),Nat.beq cs.length n,Nat.ble n 16777216],val:=.Kt (b2 d) 0 0,new:=[(b2 d,.arr t false ⟨.int k .nil,cs.map A.toI⟩)]}
  | _=>.no
 | none=>X4 C d t v
def bJ (C:Ctx) (d t:Nat):Dl:=MI C t fun ti=>match uA ti.d with
 | some (n,e)=>MI C e fun te=> {ok:=[te.cs.all CK.plain,Nat.blt 0 te.cs.length,Nat.blt 0 n,Nat.ble n 16777216,decide (ti.cs=(List.replicate n te.cs).flatten)],val:=.Kt (b2 d) 0 0,new:=[(b2 d,.arr t false ⟨tyl te.cs,List.replicate n (tyl te.cs).zero⟩)]}
 | none=>X4 C d t (.agg (ti.cs.map CK.zero))
def Agr (fet:Fet) (s:Bool) (d:TypeDesc) (x:A):Option Bool :=
 match s,d,x with
 | true,.slice _,.Ls=>some true
 | true,.slice _,.sln l=>some l.xs.isEmpty
 | false,.pointer _,.Me=>some true
 | false,.pointer _,.ptr o _=>(LW fet o).map (fun _=>false)
 | _,_,_=>none
def AhQ (C:Ctx) (fet:Fet) (s:Bool) (t:Nat) (x:A) (k:Bool->Dl):Dl:=MI C t fun ti=>KA (Agr fet s ti.d x) k
def AkY (C:Ctx) (t:Nat) (r:Bool):Dl:=MI C t fun ti=>.g [AhK ti.d] (.bool r)
def Aq7 (C:Ctx) (fet:Fet) (op:BinOp) (t:Nat) (x y:A):Dl :=
 match x,y with
 | .int k a,.int k' b=>match op with
  | .shl=>.g [decide (0<=b)] (.int k (k.wrap (a*2 ^ (min b.toNat k.bits))))
  | .shr=>.g [decide (0<=b)] (.int k (a.fdiv (2 ^ (min b.toNat k.bits))))
  | op=>bif A.kEq k k' then Aac op k a b else .no
 | .str a,.str b=>Aad op a b
 | .bool a,.bool b=>match op with
  | .eql=>AkY C t (a==b)
  | .neq=>AkY C t (!(a==b))
  | _=>.no
 | .agg x,.agg y=>MI C t fun ti=>match op with
  | .eql=>.g [!ti.cmp.isEmpty,(QL ti.cmp x y).1] (.bool (QL ti.cmp x y).2)
  | .neq=>.g [!ti.cmp.isEmpty,(QL ti.cmp x y).1] (.bool (!(QL ti.cmp x y).2))
  | _=>.no
 | x,.Ls=>match op with
  | .eql=>AhQ C fet true t x fun v=>.v (.bool v)
  | .neq=>AhQ C fet true t x fun v=>.v (.bool (!v))
  | _=>.no
 | x,.Me=>match op with
  | .eql=>AhQ C fet false t x fun v=>.v (.bool v)
  | .neq=>AhQ C fet false t x fun v=>.v (.bool (!v))
  | _=>.no
 | _,_=>.no
def unX:UnOp->A->Dl
 | .not,.bool b=>.v (.bool !b)
 | .neg,.int k n=>.v (.int k (k.wrap (0 - n)))
 | .xor,.int k n=>.v (.int k (JE .xor k (if k.signed then -1 else k.max) n))
 | _,_=>.no
def Alm (c a b:A):Dl:=.g [c.PY.1,c.PY.2.isB,(bif c.PY.2.toB then a.PY.1 else b.PY.1),(bif c.PY.2.toB then a.PY.2.isB else b.PY.2.isB)] (.bool (bif c.PY.2.toB then a.PY.2.toB else b.PY.2.toB))
def vW (C:Ctx) (d:Nat) (t:Nat) (l c:A):Dl :=
 KA (int? l) fun n=>KA (int? c) fun m=>elemOf C t fun e te =>
  {ok:=[decide (n<=m),decide (0<=n),decide (m*(te.bytes+1)<=140737488355328),Nat.blt 0 te.cs.length,te.cs.all CK.plain],val:=.own (b2 d),
   new:=[(b2 d,.arr e false ⟨tyl te.cs,List.replicate n.toNat (tyl te.cs).zero⟩)]}
def Aag (C:Ctx) (t:Nat) (ps:List (Nat×A)):Dl:=MI C t fun ti=>KA (fill C ti.d ps (ti.cs.map CK.zero)) fun cs=>.g [ti.agg] (.agg cs)
def SS (C:Ctx) (fet:Fet) (d t n:Nat) (ps:List (Nat×A)):Dl:=elemOf C t fun e te =>
 {ok:=(Ol fet te (tyl te.cs) ps (List.replicate n (tyl te.cs).zero)).1++[Nat.ble (n*te.cs.length) 16777216,Nat.blt 0 te.cs.length,te.cs.all CK.plain],val:=.own (b2 d),
  new:=[(b2 d,.arr e false ⟨tyl te.cs,(Ol fet te (tyl te.cs) ps (List.replicate n (tyl te.cs).zero)).2.1⟩)],upd:=(Ol fet te (tyl te.cs) ps (List.replicate n (tyl te.cs).zero)).2.2}
def Aaf (C:Ctx) (d t n:Nat) (ps:List (Nat×A)):Dl:=elemOf C t fun e te=>KA (fill C (.array n e) ps (List.replicate n .Me)) fun cs =>
 {ok:=[AfU te.cs,Nat.ble n 16777216,Nat.blt 0 n,ps.all fun p=>p.2.isVal&& !p.2.isAgg 0],val:=.bsl (b2 d) n,new:=(b2 d,.box (Lj (b2 d+1) [] cs).1)::(Lj (b2 d+1) [] cs).2}
def AfV:List (Nat×A)->Bool
 | (_,.ptr _ _)::_=>true
 | _=>false
def Wu (C:Ctx) (fet:Fet) (t f:Nat) (x:A):Dl :=
 MI C t fun ti=>KA (Ag3 C ti.d f) fun p=>match ZY p.1 p.2.cs.length fet x with
 | δ => {δ with ok:=Nat.blt 0 p.2.cs.length:: δ.ok}
def Ayp:A->Option (List A)
 | .agg cs=>some cs
 | _=>none
def AfD (C:Ctx) (t f:Nat) (x:A):Dl :=
 MI C t fun ti=>KA (Ag3 C ti.d f) fun p=>KA (Ayp x) fun cs=>.g [Nat.ble (p.1+p.2.cs.length) cs.length,Nat.blt 0 p.2.cs.length] (wK p.2 cs p.1)
def Azf:A->Option (List A)
 | .tup vs=>some vs
 | _=>none
def uZ (i:Nat) (x:A):Dl:=KA (Azf x) fun vs=>.g [Nat.blt i vs.length] (vs.getD i .undef)
def XZ (fet:Fet):A->Dl
 | .ptr o off=>KA (LW fet o) fun _=>.v (.ptr o off)
 | _=>.no
structure Hand where
 ok:List Bool
 vs:List A
 upd:List (Nat×Obj)
 del:List Nat
 boxes:List (Nat×Sh)
def Aln:List A->A
 | [v]=>v
 | vs=>.tup vs
def AkZ (rb:Nat->Nat) (d:Nat) (sg:Sig) (N:List (Nat×Nat)) (n:Nat) (h:Hand) (ok:Bool) (rs:List A):Dl :=
 ⟨h.ok++[ok]++(KW (b2 d) 16 sg.JB rs 0).1++(KZ rb (rs.drop sg.JB.length) h.boxes 0).1++[nodup (N.map (·.1)),Nat.ble n 100,Nat.beq rs.length (sg.JB.length+h.boxes.length),!(sg.Ju.any wS)||h.upd.isEmpty],
   Aln (KW (b2 d) 16 sg.JB rs 0).2.1,
   (KW (b2 d) 16 sg.JB rs 0).2.2++(KZ rb (rs.drop sg.JB.length) h.boxes 0).2.2,
   h.upd++(KZ rb (rs.drop sg.JB.length) h.boxes 0).2.1,h.del,[]⟩
def jW (fet:Fet) (ss:List Sh) (xs:List A):Hand:=⟨(JP fet ss xs).1,(JP fet ss xs).2.1,(JP fet ss xs).2.2.1,(JP fet ss xs).2.2.2.1,(JP fet ss xs).2.2.2.2⟩
def Q7 (fet:Fet) (d:Nat) (sg:Sig) (args:List A):Dl:=AkZ (MO fet) d sg (NS fet 0 256 sg.Ju args) args.length (jW fet sg.Ju args) (sg.ok (jW fet sg.Ju args).vs) (sg.val (jW fet sg.Ju args).vs)
def Agg (n:Nat):Obj->Bool | .box cs=>Nat.beq cs.length n | _=>false
def Awr (j:Nat) (c:A):Obj->Obj | .box cs=>.box (cs.set j c) | x=>x
def eqC:A->A->Bool | .str a,.str b=>a==b | .int k a,.int k' b=>A.kEq k k'&&a==b | .bool a,.bool b=>a==b | _,_=>false
def eqU (j:Nat) (c:A):Obj->Bool | .box cs=>eqC (cs.getD j .undef) c | _=>false
def Ur (fet:Fet) (a:A) (j:Nat) (δ :Dl):Dl:=match a with
 | .ptr q _=>match LW fet q with
  | some cs=>bif Nat.blt j cs.length&& δ.upd.all (fun p=> !(Nat.beq p.1 q)||Agg cs.length p.2)
   then {δ with ok:= δ.ok++ δ.upd.map (fun p=>bif Nat.beq p.1 q then eqU j (cs.getD j .undef) p.2 else true),upd:= δ.upd.map (fun p=>bif Nat.beq p.1 q then(p.1,Awr j (cs.getD j .undef) p.2)else p),same:=(q,j):: δ.same}
   else δ
  | none=> δ
 | _=> δ
def keepD (fet:Fet) (args:List A):List (Nat×Nat)->Dl->Dl
 | [],δ => δ
 | (i,j)::r,δ =>keepD fet args r (Ur fet (args.getD i .undef) j δ)
def gZ (C:Ctx) (fet:Fet) (d:Nat) (f:Nat) (args:List A):Dl :=
 match C.G f with
 | some sg=>keepD fet args (C.kept f) (Q7 fet d sg args)
 | none=>.no
def Amd (C:Ctx) (fet:Fet) (d t:Nat) (c:A) (args:List A):Dl :=
 match c with
 | .fn n=>match C.dyn t with
  | some sg=>Q7 fet d (sg n) args
  | none=>.no
 | .clo f o=>KA (LW fet o) fun _=>match C.dyn t with
  | some sg=>Q7 fet d (sg f) (args++[.clo 0 o])
  | none=>.no
 | _=>.no
def Asa:List A->Option Nat
 | [.ptr o 0]=>some o
 | _=>none
def Ahl (fet:Fet) (f:Nat):A->Dl
 | .ptr q off=>KA (LW fet q) fun cs=>KA (Asa cs) fun o=> {ok:=[Nat.beq off 0],val:=.clo (f+1) o,del:=[q]}
 | _=>.no
def a0 (k:Dl):List A->Dl
 | []=>k
 | _=>.no
def a1 (k:A->Dl):List A->Dl
 | [a]=>k a
 | _=>.no
def a2 (k:A->A->Dl):List A->Dl
 | [a,b]=>k a b
 | _=>.no
def a3 (k:A->A->A->Dl):List A->Dl
 | [a,b,c]=>k a b c
 | _=>.no
def AuZ (C:Ctx) (o:Oper) (fet:Fet) (ts:List Nat) (x y:A):Dl :=
 match ts with
 | [t,u]=>MI C u fun tu=>KA o.dst fun d=>match pV C fet d t x y with
  | δ => {δ with ok:=ZB tu.d:: δ.ok}
 | _=>.no
def slX (C:Ctx) (dst:Option Nat) (fet:Fet) (t:Nat) (lo hi mx:Option Operand):List A->Dl :=
 match mx,lo,hi with
 | none,none,none=>a1 fun x=>MN C fet t x none none
 | none,some _,none=>a2 fun x a=>match dst with
  | some d=>bif has C.cuts d then xP C fet t x a else MN C fet t x (some a) none
  | none=>MN C fet t x (some a) none
 | none,none,some _=>a2 fun x b=>match dst with
  | some d=>bif has C.cuts d then Aaz C fet d t x b else MN C fet t x none (some b)
  | none=>MN C fet t x none (some b)
 | none,some _,some _=>a3 fun x a b=>MN C fet t x (some a) (some b)
 | _,_,_=>fun _=>.no
def ArG:A->A->Dl
 | .int k a,.int k' b=>bif A.kEq k k' then .v (.int k (bif decide (b<a)then b else a))else .no
 | _,_=>.no
def ArE:A->A->Dl
 | .int k a,.int k' b=>bif A.kEq k k' then .v (.int k (bif decide (a<b)then b else a))else .no
 | _,_=>.no
def blX (C:Ctx) (o:Oper) (fet:Fet) (ts:List Nat):Builtin->List A->Dl
 | .len=>a1 fun x=>KA (one? ts) fun t=>AhN C fet t x
 | .append=>a2 fun x y=>AuZ C o fet ts x y
 | .min=>a2 ArG
 | .max=>a2 ArE
 | .copy=>a2 fun x y=>Alb C fet ts x y
 | _=>fun _=>.no
def opX (C:Ctx) (o:Oper) (v:List A) (fet:Fet):Dl :=
 match o.op with
 | .move _=>a1 (fun a=>.v a) v
 | .assign _=>a1 (fun a=>.v a) v
 | .pick _ _ _=>a3 (fun c a b=>Alm c a b) v
 | .alloc t=>a0 (KA o.dst fun d=>bJ C d t) v
 | .box t _=>a1 (fun a=>KA o.dst fun d=>Aae C d t a) v
 | .build t ps=>Aag C t ((ps.toList.map (·.1)).zip v)
 | .buildSlice t n ps=>KA o.dst fun d=>bif AfV ((ps.toList.map (·.1)).zip v)then Aaf C d t n ((ps.toList.map (·.1)).zip v)else SS C fet d t n ((ps.toList.map (·.1)).zip v)
 | .load t _=>a1 (YF C fet t) v
 | .store t _ _=>a2 (fun a x=>bif o.dst.isNone then VW C fet t a x else .no) v
 | .nilCheck _=>a1 (XZ fet) v
 | .binOp op t _ _ _=>a2 (Aq7 C fet op t) v
 | .unOp op _ _=>a1 (unX op) v
 | .convert s t _=>a1 (Acn C o fet s t) v
 | .makeSlice t _ _=>a2 (fun l c=>KA o.dst fun d=>vW C d t l c) v
 | .slice t _ lo hi mx=>slX C o.dst fet t lo hi mx v
 | .fieldAddr t _ f=>a1 (Wu C fet t f) v
 | .field t _ f=>a1 (AfD C t f) v
 | .indexAddr t _ _=>a2 (iH C fet t) v
 | .index t _ _=>a2 (AfR C t) v
 | .extract _ i=>a1 (uZ i) v
 | .makeFunc (.func f) fi _=>bif fi.isEmpty then a1 (Ahl fet f) v else .no
 | .call ⟨.builtin b,_,ts⟩=>blX C o fet ts.toList b v
 | .call ⟨.value (.func f),_,_⟩=>match v with
  | _::vs=>gZ C fet (o.dst.getD 0) f vs
  | []=>.no
 | .call ⟨.value (.tmp t),_,_⟩=>match v with
  | c::vs=>Amd C fet (o.dst.getD 0) t c vs
  | []=>.no
 | _=>.no
def fetch (Js:List (Nat×Obj)):List Nat->Fet
 | []=>[]
 | n::r=>match J4 Js n with
  | some x=>(n,x)::fetch Js r
  | none=>fetch Js r
def Kv (st:St) (vs:List A):Fet :=
 let f1:=fetch st.Js (vs.flatMap A.ids)
 f1++fetch st.Js (f1.flatMap (fun p=>p.2.ids))
def KC (Js:List (Nat×Obj)):List Nat->List (Nat×Obj)
 | []=>Js
 | n::r=>KC (TD Js n) r
def JL (Js:List (Nat×Obj)):List (Nat×Obj)->List (Nat×Obj)
 | []=>Js
 | (n,x)::r=>JL (Np Js n x) r
def put (tmps:List A):Option Tmp->A->List A
 | some d,v=>tmps.set d v
 | none,_=>tmps
def apply (st:St) (o:Oper) (δ :Dl):St :=
 {tmps:=put st.tmps o.dst δ.val,Js:=JL (KC (JL st.Js δ.upd) δ.del) δ.new}
def strips:List A->List Bool×List A
 | []=>([],[])
 | a::r=>(a.strip.1++(strips r).1,a.strip.2::(strips r).2)
def guardOf (ops:List Oper) (tmps:List A):Option (Nat×Bool)->Option (Option Bool)
 | none=>some none
 | some (j,want)=>match ops[j]? with
  | some oj=>match oj.dst with
   | some t=>match (tmps.getD t .undef)with
    | .bool b=>some (some (bif want then b else !b))
    | .cnd g (.bool b)=>some (some (g&&(bif want then b else !b)))
    | _=>none
   | none=>none
  | none=>none
def xM:Op->Bool
 | .move _=>true
 | .assign _=>true
 | .binOp _ _ _ _ _=>true
 | _=>false
def Lc:Op->List A->List Bool×List A
 | .pick _ _ _,vs=>([],vs)
 | op,vs=>((strips vs).1,bif xM op then(strips vs).2 else(strips vs).2.map A.weak)
def rQ (g:Bool):A->A->A
 | .bool x,.bool y=>.bool (bif g then y else x)
 | .int k x,.int _ y=>.int k (bif g then y else x)
 | .str x,.str y=>.str (bif g then y else x)
 | .sl l,.sl l'=>match l'.cast l.t with
  | some ys=>.sl ⟨l.t,bif g then ys else l.xs⟩
  | none=>.undef
 | .sln l,.sln l'=>match l'.cast l.t with
  | some ys=>.sln ⟨l.t,bif g then ys else l.xs⟩
  | none=>.undef
 | a,_=>a
def kJ:A->A->Bool
 | .bool _,.bool _=>true
 | .int k _,.int k' _=>A.kEq k k'
 | .str _,.str _=>true
 | .sl l,.sl l'=>(l'.cast l.t).isSome
 | .sln l,.sln l'=>(l'.cast l.t).isSome
 | .own o,.own o'=>Nat.beq o o'
 | .Me,.Me=>true
 | .undef,.undef=>true
 | _,_=>false
def Ai1 (g:Bool):List A->List A->List A
 | a::aa,b::bs=>rQ g a b::Ai1 g aa bs
 | _,_=>[]
def okM:List A->List A->Bool
 | [],[]=>true
 | a::aa,b::bs=>kJ a b&&okM aa bs
 | _,_=>false
def YI (g:Bool):Option Obj->Obj->Obj
 | some (.box cs),.box ds=>.box (Ai1 g cs ds)
 | some (.arr e _ l),.arr _ true _=>.arr e true l
 | _,x=>x
def kK (c:Bool):Option Obj->Obj->Bool
 | some (.box cs),.box ds=>okM cs ds
 | some (.arr e _ _),.arr e' true _=>c&&Nat.beq e e'
 | _,_=>false
def uP:Op->Bool
 | .call ⟨.value (.func _),_,_⟩=>true
 | .call ⟨.value (.tmp _),_,_⟩=>true
 | .slice _ _ _ _ _=>true
 | _=>false
def Acw:Op->Bool
 | .call ⟨.value (.func _),_,_⟩=>true
 | _=>false
def TT (C:Ctx) (o:Oper) (st:St) (pre:List Bool):Dl :=
 match Lc o.op (o.op.operands.toList.map (KY st.tmps))with
  | (ok,vs)=>match opX C o vs (Kv st vs)with
   | δ => {δ with ok:=pre++(ok++ δ.ok++[δ.new.all (fun p=>st.fresh p.1),nodup (δ.new.map (·.1))]),same:=bif Acw o.op then δ.same else []}
def AqS (C:Ctx) (o:Oper):Option Bool:=match o.dst with
 | some d=>C.dec d
 | none=>none
def KI (C:Ctx) (ops:List Oper) (o:Oper) (st:St):Dl :=
 match guardOf ops st.tmps o.guard with
 | some none=>TT C o st []
 | some (some g)=>match AqS C o with
  | some true=>TT C o st [g]
  | some false=> {ok:=[!g],val:=.cnd false .undef}
  | none=>match Lc o.op (o.op.operands.toList.map (KY st.tmps))with
  | (ok,vs)=>match opX C o vs (Kv st vs)with
   | δ => {ok:=(ok++(δ.val.isVal:: δ.ok)).map (fun c=>c|| !g)++(δ.new.isEmpty:: δ.del.isEmpty::o.dst.isSome:: δ.upd.map (fun p=>kK (uP o.op) (J4 (Kv st vs) p.1) p.2)),val:=.cnd g δ.val,
           upd:= δ.upd.map (fun p=>(p.1,YI g (J4 (Kv st vs) p.1) p.2))}
 | none=>.no
def allT {α :Type}:List Bool->Option α ->Option α
 | [],r=>r
 | c::cs,r=>bif c then allT cs r else none
def XF {α :Type} (C:Ctx) (ops:List Oper):List Oper->St->(St->Option α)->Option α
 | [],st,K=>K st
 | o::r,st,K=>match KI C ops o st with
  | δ =>allT δ.ok (XF C ops r (apply st o δ) K)
def gV (C:Ctx) (o:Oper):Option (Nat×Alt) :=
 match o.guard,o.op with
 | none,.call ⟨.value (.func f),_,_⟩=>(C.alt f).map (fun q=>(f,q))
 | _,_=>none
def AgX (o:Oper) (st:St) (q:Alt):Bool :=
 match (Lc o.op (o.op.operands.toList.map (KY st.tmps))).2 with
 | v::xs=>q.2.2 (jW (Kv st (v::xs)) q.1.Ju xs).vs
 | []=>true
def XE {α :Type} (C:Ctx) (ops:List Oper):List Oper->St->(St->Option α)->Option α
 | [],st,K=>K st
 | o::r,st,K=>match gV C o with
  | none=>allT (KI C ops o st).ok (XE C ops r (apply st o (KI C ops o st)) K)
  | some (f,q)=>bif AgX o st q then allT (KI (C.put f q.1) ops o st).ok (XE C ops r (apply st o (KI (C.put f q.1) ops o st)) K)
   else allT (KI (C.put f q.2.1) ops o st).ok (XE C ops r (apply st o (KI (C.put f q.2.1) ops o st)) K)
abbrev Bs:=List UInt8
def chk {ρ :Type} (c:Bool) (k:Option ρ):Option ρ :=bif c then k else none
def Jr {α ρ :Type} [Inhabited α] (o:Option α) (k: α ->Option ρ):Option ρ :=bif o.isSome then k (o.getD default)else none
def J3 {X Y ρ :Type} (B:X->(X->Option ρ)->(Y->Option ρ)->Option ρ):Nat->X->(Y->Option ρ)->Option ρ
 | 0,_,_=>none
 | n+1,x,kx=>B x (fun x'=>J3 B n x' kx) kx
def KE (o:Oper) (st:St):List A:=(Lc o.op (o.op.operands.toList.map (KY st.tmps))).2
def pW:Op->List A->Bool
 | .move _,_=>true
 | .assign _,_=>true
 | .load _ _,[.clo _ _]=>true
 | _,_=>false
def Zl:Op->List A->Option Nat
 | .nilCheck _,[.ptr o _]=>some o
 | .fieldAddr _ _ _,[.ptr o _]=>some o
 | .load _ _,[.ptr o _]=>some o
 | _,_=>none
def LH (o:Oper) (st:St) (vs:List A):List Nat:=bif pW o.op vs then []else match Zl o.op vs with
 | some q=>[q]
 | none=>vs.flatMap A.ids++(fetch st.Js (vs.flatMap A.ids)).flatMap (fun p=>p.2.ids)
def oneOf (C:Ctx):Op->List A->Option (Nat×Nat×Nat)
 | .nilCheck _,[.ptr o _]=>some (o,0,0)
 | .fieldAddr _ _ _,[.ptr o _]=>some (o,0,0)
 | .load t _,[.ptr o off]=>match C.T t with
  | some ti=>bif Nat.blt 0 ti.cs.length then some (o,off,ti.cs.length)else none
  | none=>none
 | _,_=>none
structure Lu where
 o:Oper
 δ :Dl
 rd:List Nat
 one:Option (Nat×Nat×Nat)
 anc:List Nat
def Lu.news (x:Lu):List Nat:=x.δ.new.map (·.1)
def Lu.keys (x:Lu):List Nat:=x.δ.upd.map (·.1)++x.δ.del++x.news
def Lu.says (x:Lu):List Nat:=x.δ.val.ids++x.δ.upd.flatMap (fun p=>p.2.ids)++x.δ.new.flatMap (fun p=>p.2.ids)
def Vk (a b:List Nat):Bool:=a.all (fun n=> !(has b n))
def slotsOf (ops:List Oper) (o:Oper):List Nat :=
 (o.op.operands.toList.filterMap fun | .tmp t=>some t | _=>none) ++
 (match o.guard with
  | some (g,_)=>match ops[g]? with
   | some x=>match x.dst with | some t=>[t] | none=>[]
   | none=>[]
  | none=>[])
def aB (o:Oper):List Nat:=match o.dst with | some d=>[d] | none=>[]
def calm (x y:Lu):Bool:=match x.one with
 | none=>false
 | some (q,off,n)=> !(has x.keys q)&&(!(has y.δ.del q)&&(!(has y.news q)&&(y.δ.same.any (fun e=>Nat.beq e.1 q)&&(List.range n).all (fun k=>y.δ.same.any (fun e=>Nat.beq e.1 q&&Nat.beq e.2 (off+k))))))
def indep (ops:List Oper) (x y:Lu):Bool :=
 Vk (aB x.o) (aB y.o)&&Vk (aB x.o) (slotsOf ops y.o)&&Vk (aB y.o) (slotsOf ops x.o) &&
 Vk x.keys y.rd&&(Vk y.keys x.rd||calm x y)&&Vk x.keys y.keys&&Vk x.news y.says
def dG (ops:List Oper) (i:Nat) (x y:Lu):Bool:=Vk y.news x.says&&Vk y.news x.keys&&(has y.anc i||indep ops x y)
def Y3 (o:Oper):List Nat:=o.after.toList.filterMap fun e=>bif Region.binds .any e then some e.on else none
def Vw (C:Ctx) (ops:List Oper):List Oper->List (List Nat)->St->List Lu
 | [],_,_=>[]
 | o::r,acc,st=>match KI C ops o st,(Y3 o).flatMap (fun e=>e::acc.getD e [])with
  | δ,an=>⟨o,δ,LH o st (KE o st),oneOf C o.op (KE o st),an⟩::Vw C ops r (acc++[an]) (apply st o δ)
def jC (ops:List Oper):Nat->List Lu->Bool
 | _,[]=>true
 | i,x::r=>r.all (dG ops i x)&&jC ops (i+1) r
def backward:Nat->List Oper->Bool
 | _,[]=>true
 | i,o::r=>o.after.toList.all (fun e=>Nat.blt e.on i)&&backward (i+1) r
def RS:Nat->List Oper->Bool
 | _,[]=>true
 | i,o::r=>o.after.toList.all (fun e=> !(Region.binds .any e)||Nat.blt e.on i)&&RS (i+1) r
def ranks (md:Region.Mode) (ops:List Oper):Nat->List Nat->List Nat
 | 0,r=>r
 | n+1,r=>ranks md ops n (ops.map fun o=>o.after.toList.foldl (fun m e=>bif Region.binds md e then(bif Nat.ble m (r.getD e.on 0)then r.getD e.on 0+1 else m)else m) 0)
def ZK (md:Region.Mode) (n:Nat) (rk:List Nat):Nat->List Oper->Bool
 | _,[]=>true
 | i,o::r=>o.after.toList.all (fun e=> !(Region.binds md e)||(Nat.blt e.on n&&Nat.blt (rk.getD e.on 0) (rk.getD i 0)))&&ZK md n rk (i+1) r
def Ag9 (md:Region.Mode) (ops:List Oper):Bool:=ZK md ops.length (ranks md ops ops.length (ops.map fun _=>0)) 0 ops
def ordered (ops:List Oper):Bool:=RS 0 ops&&(backward 0 ops||(Ag9 .text ops&&Ag9 .gc ops&&Ag9 .any ops))
def sorted:List (Nat×Obj)->Bool
 | []=>true
 | [_]=>true
 | (n,_)::(k,y)::r=>Nat.blt n k&&sorted ((k,y)::r)
def UL (C:Ctx) (ops:List Oper) (st:St):Bool :=
 match Vw C ops ops [] st with
 | fs=>ordered ops&&jC ops 0 fs&&(fs.flatMap Lu.news).all st.fresh&&sorted st.Js
def Oy (f t:Nat):A->A
 | .ptr o off=>.ptr (bif Nat.beq o f then t else o) off
 | .own o=>.own (bif Nat.beq o f then t else o)
 | .clo g o=>.clo g (bif Nat.beq o f then t else o)
 | .bsl o n=>.bsl (bif Nat.beq o f then t else o) n
 | .osl o n=>.osl (bif Nat.beq o f then t else o) n
 | .Kt o i off=>.Kt (bif Nat.beq o f then t else o) i off
 | .agg cs=>.agg (cs.map fun
  | .ptr o off=>.ptr (bif Nat.beq o f then t else o) off
  | .own o=>.own (bif Nat.beq o f then t else o)
  | .clo g o=>.clo g (bif Nat.beq o f then t else o)
  | .bsl o n=>.bsl (bif Nat.beq o f then t else o) n
  | .osl o n=>.osl (bif Nat.beq o f then t else o) n
  | .Kt o i off=>.Kt (bif Nat.beq o f then t else o) i off
  | c=>c)
 | a=>a
def AbO (f t:Nat):Obj->Obj
 | .box cs=>.box (cs.map (Oy f t))
 | x=>x
def drop (keep:List Nat):List A->Nat->List A
 | [],_=>[]
 | a::r,i=>(bif has keep i then a else .undef)::drop keep r (i+1)
def AbP (st:St):List (Nat×Nat)->Bool×St
 | []=>(true,st)
 | (f,t)::r=>match J4 st.Js f with
  | some x=>match AbP {tmps:=st.tmps.map (Oy f t),Js:=(Np (TD st.Js f) t x).map (fun p=>(p.1,AbO f t p.2))} r with
   | (ok,st')=>((bif Nat.beq f t then true else st.fresh t)&&ok,st')
  | none=>AbP st r
def Amu (Js:List (Nat×Obj)):List Nat->List (Nat×Obj)
 | []=>Js
 | n::r=>match J4 Js n with
  | some (.arr e _ l)=>Amu (Np Js n (.arr e true l)) r
  | _=>Amu Js r
def Au0:Nat->List (Nat×Obj)->List Nat->List Nat
 | 0,_,l=>l
 | n+1,Js,l=>l++Au0 n Js ((fetch Js l).flatMap (fun p=>p.2.ids))
def reached (tmps:List A) (Js:List (Nat×Obj)):List Nat:=Au0 4 Js (tmps.flatMap A.ids++(Js.map (·.1)).filter Za)
def rH:A->Bool | .Ls=>true | _=>false
def AbS (id:Nat):List Nat->List A->List A
 | [],l=>l
 | t::r,l=>AbS id r (l.set t (.own id))
def owns:List (List Nat×Nat×Ty×Nat)->St->Bool×St
 | [],st=>(true,st)
 | (ts,e,ty,id)::r,st=>bif ts.any (fun t=>rH (st.tmps.getD t .undef))then
     match owns r {tmps:=AbS id ts st.tmps,Js:=Np st.Js id (.arr e false ⟨ty,[]⟩)}with
     | (ok,st')=>(ts.all (fun t=>rH (st.tmps.getD t .undef)&&Nat.blt t st.tmps.length)&&st.fresh id&&ok,st')
  else owns r st
def pzs:List (Option Nat×Nat×Ty)->St->St
 | [],st=>st
 | (none,t,ty)::r,st=>match st.tmps.getD t .undef with
  | .Ls=>pzs r {st with tmps:=st.tmps.set t (.sl ⟨ty,[]⟩)}
  | .own o=>match J4 st.Js o with
   | some (.arr e _ l)=>pzs r {tmps:=st.tmps.set t (.sl l),Js:=Np st.Js o (.arr e true l)}
   | _=>pzs r st
  | _=>pzs r st
 | (some b,j,_)::r,st=>match J4 st.Js b with
  | some (.box cs)=>match cs.getD j .undef with
   | .own o=>match J4 st.Js o with
    | some (.arr e _ l)=>pzs r {st with Js:=Np (Np st.Js o (.arr e true l)) b (.box (cs.set j (.sl l)))}
    | _=>pzs r st
   | _=>pzs r st
  | _=>pzs r st
def norm (C:Ctx) (key:Nat) (st0:St):Bool×St :=
 match C.nrm key with
 | none=>(true,st0)
 | some n =>
  match pzs n.pz st0 with
  | st=>match AbP {tmps:=drop n.keep st.tmps 0,Js:=st.Js.filter (fun p=>has (reached (drop n.keep st.tmps 0) st.Js) p.1)} n.ren with
   | (ok,st')=>match owns n.nw st' with
    | (ok',st'')=>(ok&&ok',{st'' with Js:=Amu st''.Js n.frz})
inductive Ex where
 | normal
 | exit (id:Nat)
def MC:Code->Option Nat
 | .region id _ _=>some id
 | .seq a b=>match MC a with | some n=>some n | none=>(MC b).map (· +4096)
 | .cond _ a b=>match MC a with | some n=>some n | none=>MC b
 | .block _ c=>MC c
 | .loop c=>MC c
 | .scope c=>MC c
 | _=>none
def UQ {ρ :Type} (C:Ctx) (key:Nat) (st:St) (K:St->Option ρ):Option ρ :=
 match norm C key st with
 | (ok,st')=>bif ok then K st' else none
def meet {ρ :Type} (C:Ctx) (kind:Nat) (c:Code) (st:St) (K:St->Option ρ):Option ρ :=
 match MC c with
 | some n=>UQ C (4*n+kind) st K
 | none=>K st
def rounds {ρ :Type} (head:St->(St->Option ρ)->Option ρ) (body:St->(Ex->St->Option ρ)->Option ρ):Nat->St->(Ex->St->Option ρ)->Option ρ
 | 0,_,_=>none
 | n+1,st,K=>body st fun
  | .normal,st'=>head st' fun st''=>rounds head body n st'' K
  | .exit id,st'=>K (.exit id) st'
def AeX:Nat:=(fun(_:Option Nat)=>0) (J3 (X:=Nat) (Y:=Nat) (fun _ _ _=>none) 0 0 (fun _=>none))
def peek (C:Ctx) (ops:List Oper) (s:Nat):List Oper->St->A
 | [],st=>(st.tmps.getD s .undef).PY.2
 | o::r,st=>peek C ops s r (apply st o (KI C ops o st))
def split {α :Type} (C:Ctx) (id:Nat) (ops:List Oper) (st:St) (f:Ctx->Option α):Option α :=
 (fun(_:Nat)=>match C.spl id with
 | none=>f C
 | some (k,s,ds)=>match peek C ops s (ops.take k) st with
  | .bool b=>match b with
   | true=>f (C.decide ds true)
   | false=>f (C.decide ds false)
  | _=>none) AeX
def iQ {α :Type} {C:Ctx} {id:Nat} {ops:List Oper} {st:St} {f:Ctx->Option α} {v: α} (h:split C id ops st f=some v):(f C=some v\/ ∃ ds b,f (C.decide ds b)=some v)/\ ∀ f':Ctx->Option α,(∀ C',f C'=some v->f' C'=some v)->split C id ops st f'=some v:=by
 unfold split at h ⊢;dsimp only at h ⊢;cases hs:C.spl id with
 | none=>rw[hs]at h;exact⟨.inl h,fun f' hf=>hf C h⟩
 | some q =>
  obtain⟨k,s,ds⟩:=q;rw[hs]at h;dsimp only at h ⊢;generalize peek C ops s (ops.take k) st=x at h ⊢;cases x with
  | bool b=>cases b<;>exact⟨.inr ⟨_,_,h⟩,fun f' hf=>hf _ h⟩
  | _=>cases h
def exec {ρ :Type} (C:Ctx) (N:Nat) (fin:St->Option ρ):Code->St->(Ex->St->Option ρ)->Option ρ
 | .skip,st,K=>K .normal st
 | .region id ops false,st,K=>split C id ops.toList st fun C=>XE C ops.toList ops.toList st fun st'=>K .normal st'
 | .region id ops true,st,K=>split C id ops.toList st fun C=>bif UL C ops.toList st then XF C ops.toList ops.toList st fun st'=>K .normal st' else none
 | .seq a b,st,K=>exec C N fin a st fun
  | .normal,st'=>meet C 1 b st' fun st''=>exec C N fin b st'' K
  | .exit id,st'=>K (.exit id) st'
 | .cond c a b,st,K=>match KY st.tmps c with
  | .bool t=>bif t then exec C N fin a st K else exec C N fin b st K
  | .cnd g (.bool t)=>bif g then bif t then exec C N fin a st K else exec C N fin b st K else none
  | _=>none
 | .block id c,st,K=>exec C N fin c st fun
  | .exit j,st'=>bif Nat.beq j id then K .normal st' else K (.exit j) st'
  | .normal,st'=>K .normal st'
 | .loop c,st,K=>meet C 2 c st fun st'=>rounds (meet C 2 c) (exec C N fin c) N st' K
 | .exit id,st,K=>UQ C (4*id+3) st fun st'=>K (.exit id) st'
 | .scope c,st,K=>exec C N fin c st K
 | .label _,st,K=>K .normal st
 | .ret,st,_=>fin st
 | _,_,_=>none
def Ty.O7: ∀(t:Ty) (v:t.Val),(t.cells v).length=t.len
 | .nil,_=>rfl
 | .bool r,v=>by simp [Ty.cells,Ty.len,Ty.O7 r]
 | .int _ r,v=>by simp [Ty.cells,Ty.len,Ty.O7 r]
 | .str r,v=>by simp [Ty.cells,Ty.len,Ty.O7 r]
 | .sl _ _ r,v=>by simp [Ty.cells,Ty.len,Ty.O7 r]
 | .ptr r,v=>by simp [Ty.cells,Ty.len,Ty.O7 r v]
 | .fn r,v=>by simp [Ty.cells,Ty.len,Ty.O7 r]
 | .mp _ _ r,v=>by simp [Ty.cells,Ty.len,Ty.O7 r]
theorem Ty.PV {α :Type} (r:Ty) (a: α) (b:r.Val):r.hd (r.mk2 a b)=a:=by cases r<;>rfl
theorem Ty.PZ {α :Type} (r:Ty) (a: α) (b:r.Val):r.tl (r.mk2 a b)=b:=by cases r<;>rfl
theorem Sl.KR (l:Sl):l.es.length=l.xs.length:=by simp [Sl.es]
def Sl.es_len (l:Sl): ∀ e∈l.es,e.length=l.sz:=by intro e he;obtain⟨v,_,rfl⟩:=DN.1 he;exact Ty.O7 _ _
def Sl.at_eq (l:Sl) {i:Nat} (h:i<l.xs.length):l.at i=l.es.getD i []:=by grind[Sl.at,Sl.es]
def Sl.AsR (l:Sl) (i:Nat):(l.at i).length=l.sz:=Ty.O7 _ _
theorem Sl.QA {l:Sl} {t:Ty} {xs:List t.Val} (h:l.cast t=some xs):l=⟨t,xs⟩:=by
 unfold Sl.cast at h;split at h
 .rename_i e _;obtain⟨s,ys⟩:=l;all_goals grind
 .cases h
def Sl.bQ (t:Ty) (xs:List t.Val):(⟨t,xs⟩:Sl).cast t=some xs:=by
 unfold Sl.cast;split
 .rfl
 .grind
theorem Mp.QA {l:Mp} {kt vt:Ty} {xs:List (kt.Val×vt.Val)} (h:l.cast kt vt=some xs):l=⟨kt,vt,xs⟩:=by
 unfold Mp.cast at h;split at h
 .rename_i e _;obtain⟨k,v,ys⟩:=l;dsimp only at e;subst e;split at h;all_goals grind
 .cases h
def Mp.bQ (kt vt:Ty) (xs:List (kt.Val×vt.Val)):(⟨kt,vt,xs⟩:Mp).cast kt vt=some xs:=by
 unfold Mp.cast;split
 .split
  .rfl
  .grind
 .grind
theorem A.QW {j k:IntKind} (h:A.kEq j k=true):j=k:=by cases j<;>cases k<;>first | rfl | cases h
def Ty.XC: ∀(t:Ty) (cs:List A),(t.mk cs).1=true->t.cells (t.mk cs).2=cs:=by
 intro t
 induction t with
 | nil =>
  intro cs h;cases cs with
  | nil=>rfl
  | cons _ _=>simp [Ty.mk]at h
 | fn r ih=>grind[Ty.mk,Ty.cells,Ty.PV,Ty.PZ]
 | mp kt vt r _ _ ih =>
  intro cs h;unfold Ty.mk at h ⊢;split at h
  .rename_i l cs;cases hc:l.cast kt vt with
   | none=>rw[hc]at h;simp at h
   | some xs=>grind[Ty.cells,Ty.PV,Ty.PZ,Mp.QA]
  .simp at h
 | bool r ih=>grind[Ty.mk,Ty.cells,Ty.PV,Ty.PZ]
 | int k r ih=>grind[Ty.mk,Ty.cells,Ty.PV,Ty.PZ,A.QW]
 | str r ih=>grind[Ty.mk,Ty.cells,Ty.PV,Ty.PZ]
 | sl e t r _ ih =>
  intro cs h;unfold Ty.mk at h ⊢;split at h
  .rename_i l cs;cases hc:l.cast t with
   | none=>rw[hc]at h;simp at h
   | some xs=>grind[Ty.cells,Ty.PV,Ty.PZ,Sl.QA]
  .simp at h
 | ptr r ih =>
  intro cs h;unfold Ty.mk at h ⊢;split at h
  .rename_i cs;show A.Me::r.cells (r.mk cs).2=_;rw[ih cs h]
  .simp at h
def Ty.AsD: ∀(ks:List CK),ks.all CK.plain=true->(tyl ks).cells (tyl ks).zero=ks.map CK.Qe:=by
 intro ks
 induction ks with
 | nil=>intro _;rfl
 | cons k ks ih=>grind[tyl,Ty.cells,Ty.PV,Ty.PZ,CK.Qe,CK.zero,CK,CK.plain,cells,zero]
def WQ (ks:List CK):(tyl ks).len=ks.length:=by
 induction ks with
 | nil=>rfl
 | cons k ks ih=>cases k<;>simp [tyl,Ty.len,ih]
def Sl.Ayw (l:Sl) {i off:Nat} {cs:List A} (hi:i<l.xs.length) (h:(l.set i off cs).1=true):(l.set i off cs).2.es=l.es.set i (splice (l.es.getD i []) off cs):=by have:=Ty.XC _ _ h;rw[<- l.at_eq hi];all_goals simp_all[Sl.set,Sl.es,hi,splice]
def Sl.Atx (t:Ty) (xs ys:List t.Val):(⟨t,xs++ys⟩:Sl).es=(⟨t,xs⟩:Sl).es++(⟨t,ys⟩:Sl).es:=by simp [Sl.es]
def Sl.Aty (l:Sl) (a b:Nat):(⟨l.t,J6 l.xs a b⟩:Sl).es=J6 l.es a b:=by simp_all[Sl.es,J6]
def Sl.jT (ks:List CK) (n:Nat) (h:ks.all CK.plain=true):(⟨tyl ks,List.replicate n (tyl ks).zero⟩:Sl).es=List.replicate n (ks.map CK.Qe):=by simp [Sl.es,List.map_replicate,Ty.AsD ks h]
def Sl.Atz (t:Ty):(⟨t,[]⟩:Sl).es=[]:=rfl
def Qu (P:Program):Nat->Nat->Option (List CK)
 | 0,_=>none
 | n+1,t=>match P.underlying t with
  | some .bool=>some [.bool]
  | some (.int k)=>some [.int k]
  | some .string=>some [.str]
  | some (.slice e)=>match Qu P n e with
   | some cs=>bif cs.all CK.plain then some [.sl e (tyl cs)]else some [.oth]
   | none=>some [.oth]
  | some (.pointer _)=>some [.ptr]
  | some (.struct fs)=>fs.toList.foldr (fun f acc=>match Qu P n f.type,acc with | some a,some b=>some (a++b) | _,_=>none) (some [])
  | some (.array m e)=>match Qu P n e with
   | some a=>bif Nat.ble (m*a.length) 4096 then some ((List.replicate m a).flatten)else none
   | none=>none
  | some (.tuple _)=>none
  | some (.func _ _ _)=>some [.fn]
  | some _=>some [.oth]
  | none=>none
def KH:List Value->List CK->Bool
 | [],[]=>true
 | .bool false::vs,.bool::ks=>KH vs ks
 | .int k 0::vs,.int k'::ks=>A.kEq k k'&&KH vs ks
 | .string s::vs,.str::ks=>s.data.toList.isEmpty&&KH vs ks
 | .slice none 0 0::vs,.sl _ _::ks=>KH vs ks
 | .pointer none::vs,.ptr::ks=>KH vs ks
 | .nilFunc::vs,.fn::ks=>KH vs ks
 | v::vs,.oth::ks=>v.oneCell'&&KH vs ks
 | _,_=>false
def YC:TypeDesc->Bool
 | .struct _ | .array _ _=>true
 | _=>false
def AaM:Value->Bool
 | .agg _=>true
 | _=>false
def Y5 (P:Program):List Field->Nat->Option (List CK)
 | [],_=>some []
 | f::r,n=>match P.underlying f.type,Y5 P r (n+1)with
  | some .bool,some ks=>bif f.name != "_" &&Nat.beq f.offset n then some (.bool::ks)else none
  | some (.int k),some ks=>bif f.name != "_" &&Nat.beq f.offset n then some (.int k::ks)else none
  | some .string,some ks=>bif f.name != "_" &&Nat.beq f.offset n then some (.str::ks)else none
  | _,_=>none
def AqM (P:Program) (t:Nat):TypeDesc->List CK
 | .struct fs=>match Y5 P fs.toList 0 with
  | some ks=>bif !(P.stoodInHeld t)&& !(P.eqGuardType P.depth t)then ks else []
  | none=>[]
 | _=>[]
def Ai0 (P:Program) (t:Nat):Option TI :=
 match P.underlying t,P.info? t,Qu P 20 t with
 | some d,some i,some cs=>match i.zero with
  | some z=>bif Nat.beq i.size cs.length&&KH z.cells.toList cs&&(YC d==AaM z)then some ⟨d,cs,i.bytes,AqM P t d⟩else none
  | none=>none
 | _,_,_=>none
end Go.Proofs.YtdihmdelaolelaaGreatDoor.Vm
