/-
  CertextDecode: the law returns true whatever the input; machine, functions, plain law (24 files)
-/
import Derived.RowKit
import Derived.Laws.Sem
set_option linter.all false
namespace Go.Proofs.YtakmjgnpefmjhaaGreatDoor
open Go
def Dn:=@decide_eq_true
def Dp:=@List.getD_eq_getElem?_getD
def Dq:=@if_pos
def Dt:=@if_neg
def Du:=@decide_eq_false
def Dv:=@Bool.and_eq_true
def Dw:=@List.mem_cons_self
def Dx:=@List.length_append
def Dy:=@Array.getD_eq_getD_getElem?
def Dz:=@List.mem_cons_of_mem
def D5:=@Nat.eq_of_beq_eq_true
def D6:=@decide_eq_true_eq
def D7:=@List.length_map
def D8:=@List.mem_cons
def D9:=@List.getElem?_eq_getElem
def DC:=@List.mem_append_right
def DD:=@List.mem_map
def DF:=@Nat.zero_le
def DI:=@List.mem_append_left
def DJ:=@List.all_eq_true
def DK:=@Nat.le_refl
def DL:=@List.length_take
def DN:=@of_decide_eq_true
def DR:=@List.mem_append
def DT:=@Sem.run_bind
def DU:=@Nat.le_of_ble_eq_true
def DV:=@Bool.true_or
def DW:=@List.append_nil
def DX:=@bne_self_eq_false
def DY:=@List.mem_singleton
def DZ:=@Nat.mul_le_mul_right
def Ea:=@Nat.zero_add
def Eb:=@List.getD_cons_zero
def Ec:=@Bool.not_true
def Ed:=@decide_eq_false_iff_not
def Ee:=@Bool.not_false
def Ef:=@List.length_range
def Eg:=@beq_false_of_ne
def Eh:=@List.getElem?_eq_none
def Ei:=@List.append_assoc
def Ej:=@List.map_cons
def Em:=@Array.getElem?_eq_getElem
def En:=@Nat.lt_or_ge
def Eo:=@Array.getElem?_eq_some_iff
def Ep:=@beq_self_eq_true
def Es:=@List.drop_eq_getElem_cons
def Et:=@Nat.add_mul
def Eu:=@List.mem_flatMap
def Ew:=@List.getElem?_append_left
def Ey:=@Eq.trans
def Ez:=@List.take_length
def E5:=@Bool.or_eq_true
def E8:=@List.getElem?_map
def EC:=@run_underlying
def ED:=@List.length_drop
def EE:=@Bool.or_true
def EF:=@Bool.not_eq_true'
def EG:=@List.getElem?_append_right
def EH:=@List.pairwise_cons
def EI:=@Bool.false_or
def EJ:=@List.length_replicate
def EK:=@List.map_congr_left
def EL:=@List.getElem_mem
def EM:=@Nat.blt_eq
def EN:=@Bool.or_eq_false_iff
def EO:=@bne_iff_ne
def EP:=@List.mem_range
def ER:=@Bool.and_eq_false_iff
def ES:=@Nat.add_assoc
def ET:=@Bool.true_and
def EU:=@beq_iff_eq
def EW:=@Bool.eq_iff_iff
def EX:=@Option.isSome_iff_exists
def EY:=@List.drop_length
def EZ:=@Array.getElem?_toList
def Fa:=@Bool.eq_false_iff
def Fb:=@Int.eq_ofNat_of_zero_le
def Fe:=@Array.getElem?_append_left
def Ff:=@List.getElem?_drop
def Fg:=@of_decide_eq_false
def Fh:=@Bool.or_false
def Fj:=@Array.getElem?_setIfInBounds
def Fp:=@List.map_map
def Fq:=@List.map_nil
def Fv:=@List.take_add_one
def Fz:=@List.eq_nil_of_length_eq_zero
def F5:=@List.getElem?_take
def F6:=@Nat.mod_eq_of_lt
def F7:=@List.length_eq_zero_iff
def F8:=@Option.some.injEq
def F9:=@List.any_eq_false
def FB:=@Array.getElem?_append_right
def FC:=@List.map_append
def FD:=@List.length_pos_iff
def FH:=@List.flatten_append
def FI:=@List.getD_cons_succ
def FK:=@Nat.mul_one
def FM:=@List.drop_drop
def FN:=@Bool.false_and
def FO:=@List.mem_iff_getElem
def FP:=@Bool.or_self
def FQ:=@Nat.pow_le_pow_right
def FT:=@eq_of_beq
def FU:=@List.any_eq_true
def FV:=@Array.getElem?_eq_none
def FW:=@List.map_id
def FX:=@Nat.lt_of_lt_of_le
def FY:=@BitVec.toNat_ofNat
def FZ:=@List.take_append_drop
def Gf:=@if_false
def Gg:=@Int.tmod_eq_emod_of_nonneg
def Gh:=@List.getElem?_set
def Gi:=@List.flatMap_cons
def Gj:=@List.mem_of_mem_drop
def Gl:=@List.drop_zero
def Gm:=@List.eq_of_mem_replicate
def Gp:=@List.not_mem_nil
def Gq:=@List.length_flatten
def Gs:=@UInt8.toNat_ofNat'
def Gt:=@List.length_set
def Gu:=@Array.ext
def Gv:=@BitVec.toNat_ofInt
def Gw:=@Option.some.inj
def Gx:=@List.drop_eq_nil_of_le
def Gy:=@decide_true
def Gz:=@Nat.shiftLeft_add_eq_or_of_lt
def G5:=@List.findIdx_cons
def G6:=@List.drop_left
def G7:=@List.mem_of_mem_take
def G8:=@Nat.shiftLeft_eq
def G9:=@Bool.and_self
def GG:=@List.mem_or_eq_of_mem_set
def GH:=@List.getElem?_take_of_lt
def GI:=@Nat.succ_pos
def GK:=@Nat.add_sub_cancel_left
def GL:=@Classical.axiomOfChoice
def GM:=@List.pairwise_singleton
def GN:=@List.not_all_eq_any_not
def GR:=@Option.bind_eq_some_iff
def GU:=@not_true_eq_false
def GV:=@List.length_eq_one_iff
def GX:=@List.take_of_length_le
def GY:=@List.getElem_map
def GZ:=@decide_eq_decide
def Ha:=@List.mem_of_getElem?
def He:=@List.drop_append_of_le_length
def Hf:=@List.mergeSort_perm
def Hg:=@beq_eq_false_iff_ne
def Hl:=@Int.toNat_of_nonneg
def Hm:=@UInt8.toNat_lt
def Ho:=@List.take_left
def Hq:=@Bool.and_false
def Hr:=@Bool.false_eq_true
def Ht:=@Int.tmod_lt_of_pos
def Hu:=@Bool.and_true
def Hw:=@Int.tdiv_eq_ediv_of_nonneg
def Hy:=@List.cons.inj
def Hz:=@List.foldl_append
def H5:=@UInt8.ofNat_toNat
def H6:=@List.getElem?_zip_eq_some
def H7:=@decide_false
def H8:=@Array.toList_map
def H9:=@Nat.ne_of_lt
def HY:=@Nat.mul_comm
def Ia:=@Nat.zero_mul
def Ib:=@Array.toList_inj
def Ic:=@List.isEmpty_iff
def Ie:=@Bool.not_or_self
def Ig:=@Nat.lt_succ_self
def Ih:=@List.flatMap_eq_nil_iff
def Ii:=@Nat.not_lt_zero
def Ij:=@List.all_append
def Ik:=@UInt8.toNat_inj
def Il:=@List.find?_cons_of_neg
def Io:=@List.range_succ_eq_map
def Ip:=@Int.le_refl
def Iq:=@Bool.not_or
def Ir:=@if_true
def Iu:=@List.mapM_cons
def Iw:=@Array.getElem?_modify
def Iy:=@Nat.div_lt_iff_lt_mul
def Iz:=@Bool.cond_false_right
def I4:=@List.Perm.refl
def I5:=@Array.mem_of_getElem?
def I7:=@List.getElem?_append
def I8:=@List.pairwise_append
def I9:=@Bool.cond_false_left
def IA:=@Bool.cond_true_right
def IB:=@Prod.ext
def IE:=@Bool.beq_comm
def IG:=@Bool.cond_true_left
def II:=@List.getElem?_range
def IJ:=@Array.foldl_toList
def IK:=@Nat.le_trans
def IL:=@Array.ext_getElem?
def IM:=@Nat.lt_or_gt_of_ne
def IP:=@List.mem_replicate
def IQ:=@Array.getElem?_map
def IU:=@Int.mul_comm
def IV:=@Array.append_assoc
def IW:=@List.mem_filterMap
def IX:=@eq_of_heq
def IY:=@Nat.sub_self
def IZ:=@Bool.not_not
def Ja:=@List.getElem_range
def Jb:=@Bool.not_eq_false'
def Jc:=@BitVec.getLsbD_and
def Jd:=@wp_mono
def Je:=@List.ext_getElem?
def Jf:=@List.map_inj_left
def Jg:=@Nat.mul_add
def Jh:=@Nat.le_of_not_lt
def Ji:=@Nat.zero_testBit
def Jj:=@Bool.or_not_self
def Jk:=@List.le_antisymm
def Jl:=@List.head?_drop
def Jm:=@Nat.div_add_mod
def Jn:=@Nat.min_eq_left
def Jo:=@UInt8.toNat.inj
def Jp:=@Exists.imp
end Go.Proofs.YtakmjgnpefmjhaaGreatDoor
namespace Go.Proofs.YtakmjgnpefmjhaaGreatDoor.Vm
inductive Ty where
 | nil
 | bool (r:Ty)
 | int (k:IntKind) (r:Ty)
 | str (r:Ty)
 | sl (e:Nat) (t:Ty) (r:Ty)
 | ptr (r:Ty)
 | fn (r:Ty)
 | mp (kt vt:Ty) (r:Ty)
 deriving DecidableEq,Inhabited
namespace Ty
def pr (α :Type) (β :Type):Ty->Type
 | .nil=> α
 | _=> α × β
def Val:Ty->Type
 | .nil=>Unit
 | .bool r=>pr Bool r.Val r
 | .int _ r=>pr Int r.Val r
 | .str r=>pr (List UInt8) r.Val r
 | .sl _ t r=>pr (List t.Val) r.Val r
 | .ptr r=>r.Val
 | .fn r=>pr Nat r.Val r
 | .mp kt vt r=>pr (List (kt.Val×vt.Val)) r.Val r
def hd {α β :Type}:(r:Ty)->pr α β r-> α
 | .nil,a=>a
 | .bool _,p=>p.1
 | .int _ _,p=>p.1
 | .str _,p=>p.1
 | .sl _ _ _,p=>p.1
 | .ptr _,p=>p.1
 | .fn _,p=>p.1
 | .mp _ _ _,p=>p.1
def tl {α :Type}:(r:Ty)->pr α r.Val r->r.Val
 | .nil,_=>()
 | .bool _,p=>p.2
 | .int _ _,p=>p.2
 | .str _,p=>p.2
 | .sl _ _ _,p=>p.2
 | .ptr _,p=>p.2
 | .fn _,p=>p.2
 | .mp _ _ _,p=>p.2
def mk2 {α :Type}:(r:Ty)-> α ->r.Val->pr α r.Val r
 | .nil,a,_=>a
 | .bool _,a,b=>(a,b)
 | .int _ _,a,b=>(a,b)
 | .str _,a,b=>(a,b)
 | .sl _ _ _,a,b=>(a,b)
 | .ptr _,a,b=>(a,b)
 | .fn _,a,b=>(a,b)
 | .mp _ _ _,a,b=>(a,b)
def zero:(t:Ty)->t.Val
 | .nil=>()
 | .bool r=>mk2 r false r.zero
 | .int _ r=>mk2 r 0 r.zero
 | .str r=>mk2 r [] r.zero
 | .sl _ _ r=>mk2 r [] r.zero
 | .ptr r=>r.zero
 | .fn r=>mk2 r 0 r.zero
 | .mp _ _ r=>mk2 r [] r.zero
def len:Ty->Nat
 | .nil=>0
 | .bool r=>r.len+1
 | .int _ r=>r.len+1
 | .str r=>r.len+1
 | .sl _ _ r=>r.len+1
 | .ptr r=>r.len+1
 | .fn r=>r.len+1
 | .mp _ _ r=>r.len+1
end Ty
structure Sl where
 t:Ty
 xs:List t.Val
 deriving Inhabited
structure Mp where
 kt:Ty
 vt:Ty
 l:List (kt.Val×vt.Val)
 deriving Inhabited
inductive CK where
 | bool | int (k:IntKind) | str | sl (e:Nat) (t:Ty) | sln (e:Nat) (t:Ty) | ptr | fn | mp (kt vt:Ty) | bx (t:Ty) | oth
 deriving DecidableEq
inductive A where
 | undef
 | bool (b:Bool)
 | int (k:IntKind) (n:Int)
 | str (s:List UInt8)
 | sl (l:Sl)
 | sln (l:Sl)
 | usl (z:Bool) (e:Nat) (l:Sl)
 | LJ
 | MP
 | ptr (o off:Nat)
 | own (o:Nat)
 | elt (cs:List A)
 | LU (o i off:Nat)
 | agg (cs:List A)
 | tup (vs:List A)
 | box (cs:List A)
 | clo (f o:Nat)
 | cbx (f:Nat) (cs:List A)
 | bsl (o n:Nat)
 | osl (o k:Nat)
 | fn (f:Nat)
 | ump (l:Mp)
 | cnd (g:Bool) (v:A)
 deriving Inhabited
inductive Obj where
 | box (cs:List A)
 | arr (e:Nat) (frz:Bool) (l:Sl)
 | mp (l:Mp)
 deriving Inhabited
def Ty.cells:(t:Ty)->t.Val->List A
 | .nil,_=>[]
 | .bool r,v=>.bool (r.hd v)::r.cells (r.tl v)
 | .int k r,v=>.int k (r.hd v)::r.cells (r.tl v)
 | .str r,v=>.str (r.hd v)::r.cells (r.tl v)
 | .sl _ t r,v=>.sl ⟨t,r.hd v⟩::r.cells (r.tl v)
 | .ptr r,v=>.MP::r.cells v
 | .fn r,v=>.fn (r.hd v)::r.cells (r.tl v)
 | .mp kt vt r,v=>.ump ⟨kt,vt,r.hd v⟩::r.cells (r.tl v)
def Sl.sz (l:Sl):Nat:=l.t.len
def Sl.es (l:Sl):List (List A):=l.xs.map l.t.cells
def Sl.at (l:Sl) (i:Nat):List A:=l.t.cells (l.xs.getD i l.t.zero)
def Sl.cast (l:Sl) (t:Ty):Option (List t.Val) :=
 match decEq l.t t with
 | .isTrue h=>some (h▸l.xs)
 | .isFalse _=>none
def Mp.cast (l:Mp) (kt vt:Ty):Option (List (kt.Val×vt.Val)) :=
 match decEq l.kt kt with
 | .isTrue h=>match decEq l.vt vt with
  | .isTrue h'=>some (h▸h'▸l.l)
  | .isFalse _=>none
 | .isFalse _=>none
structure St where
 tmps:List A
 Jr:List (Nat×Obj)
def J5:List (Nat×Obj)->Nat->Option Obj
 | [],_=>none
 | (k,x)::r,n=>bif Nat.beq k n then some x else J5 r n
def Uu:List (Nat×Obj)->Nat->List (Nat×Obj)
 | [],_=>[]
 | (k,x)::r,n=>bif Nat.beq k n then Uu r n else(k,x)::Uu r n
def lK:List (Nat×Obj)->Nat->Obj->List (Nat×Obj)
 | [],n,y=>[(n,y)]
 | (k,x)::r,n,y=>bif Nat.ble n k then(n,y)::(k,x)::r else(k,x)::lK r n y
def N7 (l:List (Nat×Obj)) (n:Nat) (y:Obj):List (Nat×Obj):=lK (Uu l n) n y
def has (l:List Nat) (n:Nat):Bool:=l.any (Nat.beq n)
namespace A
def toB:A->Bool | .bool b=>b | _=>false
def isB:A->Bool | .bool _=>true | _=>false
def toI:A->Int | .int _ n=>n | _=>0
def kEq:IntKind->IntKind->Bool
 | .i8,.i8 | .i16,.i16 | .i32,.i32 | .i64,.i64 | .u8,.u8 | .u16,.u16 | .u32,.u32 | .u64,.u64=>true
 | _,_=>false
def isI (k:IntKind):A->Bool | .int k' _=>kEq k k' | _=>false
def toS:A->List UInt8 | .str s=>s | _=>[]
def isS:A->Bool | .str _=>true | _=>false
def toL:A->Sl | .sl l=>l | .sln l=>l | .usl _ _ l=>l | _=>default
def weak:A->A | .sln l=>.sl l | a=>a
def strong:A->A | .sl l=>.sln l | a=>a
def AtJ:A->Bool | .sl _=>false | _=>true
def Ag2 (t:Ty):A->Bool | .sln l=>decide (l.t=t) | _=>false
def Alz (t:Ty):A->Bool | .sl l=>decide (l.t=t) | _=>false
def AjJ (z:Bool) (e:Nat) (t:Ty):A->Bool | .usl z' e' l=>(z==z')&&(Nat.beq e e'&&decide (l.t=t)) | _=>false
def AaK:A->Bool | .MP=>true | _=>false
def isFn:A->Bool | .fn _=>true | _=>false
def Acj (kt vt:Ty):A->Bool | .ump l=>decide (l.kt=kt)&&decide (l.vt=vt) | _=>false
def toM:A->Mp | .ump l=>l | _=>default
def iT:A->List A | .agg cs=>cs | .box cs=>cs | .cbx _ cs=>cs | _=>[]
def Aom (f n:Nat):A->Bool | .cbx g cs=>Nat.beq f g&&Nat.beq cs.length n | _=>false
def isAgg (n:Nat):A->Bool | .agg cs=>Nat.beq cs.length n | _=>false
def Aol (n:Nat):A->Bool | .box cs=>Nat.beq cs.length n | _=>false
def isVal:A->Bool | .undef=>false | .tup _=>false | .usl _ _ _=>false | .ump _=>false | .box _=>false | .cbx _ _=>false | .cnd _ _=>false | _=>true
def cells:A->List A | .agg cs=>cs | v=>[v]
def strip:A->List Bool×A | .cnd g v=>([g],v) | v=>([],v)
def Qx:A->Bool×A | .cnd g v=>(g,v) | v=>(true,v)
def N8:A->List Nat
 | .ptr o _=>[o] | .own o=>[o] | .LU o _ _=>[o] | .clo _ o=>[o] | .bsl o _=>[o] | .osl o _=>[o] | _=>[]
def Axp:A->List Nat
 | .agg cs=>cs.flatMap N8
 | .cnd _ (.agg cs)=>cs.flatMap N8
 | .cnd _ v=>N8 v
 | v=>N8 v
def ids:A->List Nat
 | .tup vs=>vs.flatMap Axp
 | v=>Axp v
end A
def Obj.ids:Obj->List Nat
 | .box cs=>cs.flatMap A.N8
 | _=>[]
def St.ids (st:St):List Nat:=st.tmps.flatMap A.ids++st.Jr.flatMap (fun p=>p.2.ids)
def dW (n:Nat):Bool:=Nat.blt n 32768&&Nat.beq (n % 256) 0
def St.fresh (st:St) (n:Nat):Bool:= !(has st.ids n)&&(J5 st.Jr n).isNone&& !(Nat.beq n 255)&& !(dW n)
def force:CK->A->List Bool×A
 | .bool,c=>([c.isB],c)
 | .int k,c=>([c.isI k],c)
 | .str,c=>([c.isS],c)
 | .sl _ t,c=>([c.Alz t],c)
 | .sln _ t,c=>([c.Ag2 t],c)
 | .ptr,c=>([c.AaK],c)
 | .fn,c=>([c.isFn],c)
 | .mp _ _,_=>([false],.undef)
 | .bx _,_=>([false],.undef)
 | .oth,_=>([],.undef)
def forces (cs:List A):List CK->Nat->List Bool×List A
 | [],_=>([],[])
 | k::ks,off=>((force k (cs.getD off .undef)).1++(forces cs ks (off+1)).1,(force k (cs.getD off .undef)).2::(forces cs ks (off+1)).2)
def CK.zero:CK->A
 | .bool=>.bool false
 | .int k=>.int k 0
 | .str=>.str []
 | .sl _ _=>.LJ
 | .sln _ _=>.LJ
 | .ptr=>.MP
 | .fn=>.fn 0
 | .mp _ _=>.undef
 | .bx _=>.undef
 | .oth=>.undef
def CK.plain:CK->Bool | .oth=>false | .mp _ _=>false | .bx _=>false | _=>true
def CK.Q8:CK->A
 | .sl _ t=>.sl ⟨t,[]⟩
 | .sln _ t=>.sl ⟨t,[]⟩
 | k=>k.zero
structure TI where
 d:TypeDesc
 cs:List CK
 bytes:Nat
 cmp:List CK:=[]
def tyl:List CK->Ty
 | []=>.nil
 | .bool::r=>.bool (tyl r)
 | .int k::r=>.int k (tyl r)
 | .str::r=>.str (tyl r)
 | .sl e t::r=>.sl e t (tyl r)
 | .sln e t::r=>.sl e t (tyl r)
 | .ptr::r=>.ptr (tyl r)
 | .fn::r=>.fn (tyl r)
 | .mp kt vt::r=>.mp kt vt (tyl r)
 | .bx t::r=>.sl 0 t (tyl r)
 | .oth::r=>.ptr (tyl r)
def tck:Ty->List CK
 | .nil=>[]
 | .bool r=>.bool::tck r
 | .int k r=>.int k::tck r
 | .str r=>.str::tck r
 | .sl e t r=>.sln e t::tck r
 | .ptr r=>.ptr::tck r
 | .fn r=>.fn::tck r
 | .mp kt vt r=>.mp kt vt::tck r
def Ty.mk:(t:Ty)->List A->Bool×t.Val
 | .nil=>fun cs=>(cs.isEmpty,())
 | .bool r=>fun
  | .bool b::cs=>((r.mk cs).1,r.mk2 b (r.mk cs).2)
  | _=>(false,Ty.zero (.bool r))
 | .int k r=>fun
  | .int j n::cs=>(A.kEq j k&&(r.mk cs).1,r.mk2 n (r.mk cs).2)
  | _=>(false,Ty.zero (.int k r))
 | .str r=>fun
  | .str s::cs=>((r.mk cs).1,r.mk2 s (r.mk cs).2)
  | _=>(false,Ty.zero (.str r))
 | .sl e t r=>fun
  | .sl l::cs=>match l.cast t with
   | some xs=>((r.mk cs).1,r.mk2 xs (r.mk cs).2)
   | none=>(false,Ty.zero (.sl e t r))
  | _=>(false,Ty.zero (.sl e t r))
 | .ptr r=>fun
  | .MP::cs=>((r.mk cs).1,(r.mk cs).2)
  | _=>(false,Ty.zero (.ptr r))
 | .fn r=>fun
  | .fn n::cs=>((r.mk cs).1,r.mk2 n (r.mk cs).2)
  | _=>(false,Ty.zero (.fn r))
 | .mp kt vt r=>fun
  | .ump l::cs=>match l.cast kt vt with
   | some xs=>((r.mk cs).1,r.mk2 xs (r.mk cs).2)
   | none=>(false,Ty.zero (.mp kt vt r))
  | _=>(false,Ty.zero (.mp kt vt r))
def TI.agg (t:TI):Bool:=match t.d with | .struct _ | .array _ _=>true | _=>false
inductive Sh where
 | cell (u:Bool) (k:CK)
 | agg (cs:List (Bool×CK))
 | box (cs:List (Bool×CK))
 | map (kt vt:Ty)
 | clo (f:Nat) (cs:List (Bool×CK))
structure Sig where
 Jz:List Sh
 JI:List Sh
 ok:List A->Bool
 val:List A->List A
def Sig.F (sg:Sig) (xs:List A):Option (List A):=bif sg.ok xs then some (sg.val xs)else none
structure Nrm where
 keep:List Nat
 nw:List (List Nat×Nat×Ty×Nat)
 pz:List (Option Nat×Nat×Ty)
 ren:List (Nat×Nat)
 frz:List Nat
abbrev Alt:=Sig×Sig×(List A->Bool)
structure Ctx where
 T:Nat->Option TI
 G:Nat->Option Sig
 nrm:Nat->Option Nrm
 alt:Nat->Option Alt
 dyn:Nat->Option (Nat->Sig)
 cuts:List Nat:=[]
 binds:List Nat:=[]
 dec:Nat->Option Bool:=fun _=>none
 spl:Nat->Option (Nat×Nat×List Nat):=fun _=>none
 kept:Nat->List (Nat×Nat):=fun _=>[]
def Ctx.decide (C:Ctx) (ds:List Nat) (b:Bool):Ctx:= {C with dec:=fun d=>bif has ds d then some b else C.dec d}
def Ctx.put (C:Ctx) (f:Nat) (s:Sig):Ctx:= {C with G:=fun k=>bif Nat.beq f k then some s else C.G k}
structure Dl where
 ok:List Bool
 val:A
 new:List (Nat×Obj):=[]
 upd:List (Nat×Obj):=[]
 del:List Nat:=[]
 same:List (Nat×Nat):=[]
def Dl.no:Dl:= {ok:=[false],val:=.undef}
def Dl.v (a:A):Dl:= {ok:=[],val:=a}
def Dl.g (b:List Bool) (a:A):Dl:= {ok:=b,val:=a}
def P5:Value->A
 | .bool b=>.bool b
 | .int k n=>.int k n
 | .string s=>.str s.data.toList
 | .slice none 0 0=>.LJ
 | .pointer none=>.MP
 | .nilFunc=>.fn 0
 | _=>.undef
def ofConst:Value->A
 | .agg vs=>bif vs.toList.all Value.oneCell' then .agg (vs.toList.map P5)else .undef
 | v=>P5 v
abbrev Fet:=List (Nat×Obj)
def AlH:CK->Sl->List Bool×A
 | .sln _ _,l=>([decide (0<l.xs.length)],.sln l)
 | _,l=>([],.sl l)
def A0t:CK->Sl->A
 | .sln _ _,l=>.sln l
 | _,l=>.sl l
def pur (fet:Fet) (k:CK):A->List Bool×A×List (Nat×Obj)
 | .own o=>match J5 fet o with
  | some (.arr e _ l)=>((AlH k l).1,(AlH k l).2,[(o,.arr e true l)])
  | _=>([false],.undef,[])
 | .LJ=>match k with
  | .sl _ t=>([],.sl ⟨t,[]⟩,[])
  | .sln _ t=>([],.sln ⟨t,[]⟩,[])
  | _=>([false],.undef,[])
 | .sln l=>([],A0t k l,[])
 | .bool b=>([],.bool b,[])
 | .int j n=>([],.int j n,[])
 | .str s=>([],.str s,[])
 | .sl l=>((AlH k l).1,(AlH k l).2,[])
 | .MP=>([],.MP,[])
 | .fn n=>([],.fn n,[])
 | _=>([false],.undef,[])
def KX (fet:Fet):List CK->List A->List Bool×List A×List (Nat×Obj)
 | [],[]=>([],[],[])
 | k::ks,c::cs=>((pur fet k c).1++(KX fet ks cs).1,(pur fet k c).2.1::(KX fet ks cs).2.1,(pur fet k c).2.2++(KX fet ks cs).2.2)
 | _,_=>([false],[],[])
def Lu (id:Nat):List CK->List A->List A×List (Nat×Obj)
 | .sl e t::ks,.LJ::cs=>(.own id::(Lu (id+1) ks cs).1,(id,.arr e false ⟨t,[]⟩)::(Lu (id+1) ks cs).2)
 | _::ks,c::cs=>(c::(Lu (id+1) ks cs).1,(Lu (id+1) ks cs).2)
 | _,cs=>(cs,[])
def rd (fet:Fet):A->List Bool×Sl
 | .own o=>match J5 fet o with
  | some (.arr _ _ l)=>([],l)
  | _=>([false],default)
 | .LJ=>([],default)
 | .sl l=>([],l)
 | _=>([false],default)
def rdT (fet:Fet) (t:Ty):A->List Bool×List t.Val
 | .LJ=>([],[])
 | x=>match (rd fet x).2.cast t with
  | some xs=>((rd fet x).1,xs)
  | none=>([false],[])
def Uj:Ty:=.int .u8 .nil
def rdB (fet:Fet) (x:A):List Bool×List Int:=rdT fet Uj x
def byteOf (n:Int):UInt8:=UInt8.ofNat n.toNat
def isByte (n:Int):Bool:=decide (0<=n)&&decide (n<256)
def JY (op:BinOp) (k:IntKind) (x y:Int):Int :=
 match op with
 | .and=>k.wrap (((BitVec.ofInt k.bits x) &&& (BitVec.ofInt k.bits y)).toNat)
 | .or=>k.wrap (((BitVec.ofInt k.bits x) ||| (BitVec.ofInt k.bits y)).toNat)
 | .xor=>k.wrap (((BitVec.ofInt k.bits x) ^^^ (BitVec.ofInt k.bits y)).toNat)
 | _=>k.wrap (((BitVec.ofInt k.bits x) &&& ~~~(BitVec.ofInt k.bits y)).toNat)
def Aev (op:BinOp) (k:IntKind) (x y:Int):Dl :=
 match op with
 | .add=>.v (.int k (k.wrap (x+y)))
 | .sub=>.v (.int k (k.wrap (x - y)))
 | .mul=>.v (.int k (k.wrap (x*y)))
 | .quo=>.g [y != 0] (.int k (k.wrap (x.tdiv y)))
 | .rem=>.g [y != 0] (.int k (x.tmod y))
 | .and | .or | .xor | .andNot=>.v (.int k (JY op k x y))
 | .eql=>.v (.bool (x==y))
 | .neq=>.v (.bool (x != y))
 | .lss=>.v (.bool (decide (x<y)))
 | .leq=>.v (.bool (decide (x<=y)))
 | .gtr=>.v (.bool (decide (x>y)))
 | .geq=>.v (.bool (decide (x>=y)))
 | _=>.no
def bytesLess:List UInt8->List UInt8->Bool:=Go.Op.bytesLess
def Aew (op:BinOp) (x y:List UInt8):Dl :=
 match op with
 | .add=>.g [decide (x.length+y.length<=140737488355328)] (.str (x++y))
 | .eql=>.v (.bool (x==y))
 | .neq=>.v (.bool (!(x==y)))
 | .lss=>.v (.bool (bytesLess x y))
 | .leq=>.v (.bool (bytesLess x y||x==y))
 | .gtr=>.v (.bool (!(bytesLess x y||x==y)))
 | .geq=>.v (.bool (!(bytesLess x y)))
 | _=>.no
def qP:CK->A->A->Bool×Bool
 | .bool,.bool a,.bool b=>(true,a==b)
 | .int k,.int i a,.int j b=>(A.kEq i k&&A.kEq j k,a==b)
 | .str,.str a,.str b=>(true,a==b)
 | _,_,_=>(false,false)
def RD:List CK->List A->List A->Bool×Bool
 | [],[],[]=>(true,true)
 | k::ks,a::x,b::y=>((qP k a b).1&&(RD ks x y).1,(qP k a b).2&&(RD ks x y).2)
 | _,_,_=>(false,false)
def Ty.same:(t:Ty)->t.Val->t.Val->Bool
 | .nil,_,_=>true
 | .bool r,a,b=>(r.hd a==r.hd b)&&r.same (r.tl a) (r.tl b)
 | .int _ r,a,b=>(r.hd a==r.hd b)&&r.same (r.tl a) (r.tl b)
 | .str r,a,b=>(r.hd a==r.hd b)&&r.same (r.tl a) (r.tl b)
 | _,_,_=>false
def ApR:List A->A
 | [c]=>c
 | cs=>.agg cs
def splice (l:List A) (off:Nat) (vs:List A):List A:=l.take off++vs++l.drop (off+vs.length)
def Akg (C:Ctx) (d:TypeDesc) (f:Nat):Option (Nat×TI) :=
 match d with
 | .struct fs=>match fs.toList[f]? with
  | some x=>match C.T x.type with
   | some ti=>some (x.offset,ti)
   | none=>none
  | none=>none
 | _=>none
def AjG:TypeDesc->Bool | .string=>true | _=>false
def iG:TypeDesc->Bool | .slice _=>true | .string=>true | _=>false
def Aly:TypeDesc->Bool | .bool=>true | _=>false
def AjH:TypeDesc->Bool | .int .u8=>true | _=>false
def Ag9 (C:Ctx) (d:TypeDesc) (f:Nat):Option (Nat×TI) :=
 match d with
 | .struct fs=>match fs.toList[f]? with
  | some x=>match C.T x.type with
   | some ti=>some (x.offset,ti)
   | none=>none
  | none=>none
 | .array n e=>match C.T e with
  | some ti=>bif Nat.blt f n then some (f*ti.cs.length,ti)else none
  | none=>none
 | _=>none
def Ag8 (ti:TI) (cs:List A) (off:Nat):A:=bif ti.agg then .agg ((cs.drop off).take ti.cs.length)else cs.getD off .undef
def fill (C:Ctx) (d:TypeDesc):List (Nat×A)->List A->Option (List A)
 | [],cs=>some cs
 | (i,v)::r,cs=>match Ag9 C d i with
  | some (off,ti)=>bif v.isVal&&Nat.beq v.cells.length ti.cs.length&&Nat.ble (off+ti.cs.length) cs.length then fill C d r (splice cs off v.cells)else none
  | none=>none
def O8 (fet:Fet) (ti:TI) (t:Ty):List (Nat×A)->List t.Val->List Bool×List t.Val×List (Nat×Obj)
 | [],xs=>([],xs,[])
 | (i,v)::r,xs=>((KX fet ti.cs v.cells).1++[(t.mk (KX fet ti.cs v.cells).2.1).1,Nat.blt i xs.length]++(O8 fet ti t r (xs.set i (t.mk (KX fet ti.cs v.cells).2.1).2)).1,
     (O8 fet ti t r (xs.set i (t.mk (KX fet ti.cs v.cells).2.1).2)).2.1,(KX fet ti.cs v.cells).2.2++(O8 fet ti t r (xs.set i (t.mk (KX fet ti.cs v.cells).2.1).2)).2.2)
def Sl.set (l:Sl) (i off:Nat) (cs:List A):Bool×Sl:=((l.t.mk (splice (l.at i) off cs)).1,⟨l.t,l.xs.set i (l.t.mk (splice (l.at i) off cs)).2⟩)
def KO:Sh->Bool | .box _=>true | .map _ _=>true | .clo _ _=>true | _=>false
def MK (fet:Fet) (o:Nat):Option (List A):=match J5 fet o with | some (.box cs)=>some cs | _=>none
structure Arg where
 ok:List Bool
 a:A
 upd:List (Nat×Obj):=[]
 del:List Nat:=[]
 boxes:List (Nat×Sh):=[]
def JA (fet:Fet):List (Bool×CK)->List A->List Bool×List A×List (Nat×Obj)×List Nat
 | [],[]=>([],[],[],[])
 | (false,k)::ks,c::cs=>((pur fet k c).1++(JA fet ks cs).1,(pur fet k c).2.1::(JA fet ks cs).2.1,(pur fet k c).2.2++(JA fet ks cs).2.2.1,(JA fet ks cs).2.2.2)
 | (true,.sl e t)::ks,.own o::cs=>match J5 fet o with
  | some (.arr e' _ l)=>([Nat.beq e e',decide (l.t=t)]++(JA fet ks cs).1,.usl true e l::(JA fet ks cs).2.1,(o,.arr e true l)::(JA fet ks cs).2.2.1,o::(JA fet ks cs).2.2.2)
  | _=>([false],[],[],[])
 | (true,.sl e t)::ks,.LJ::cs=>((JA fet ks cs).1,.usl true e ⟨t,[]⟩::(JA fet ks cs).2.1,(JA fet ks cs).2.2.1,(JA fet ks cs).2.2.2)
 | (true,.sln e t)::ks,.own o::cs=>match J5 fet o with
  | some (.arr e' f l)=>([Nat.beq e e',decide (l.t=t),!f]++(JA fet ks cs).1,.usl false e l::(JA fet ks cs).2.1,(JA fet ks cs).2.2.1,o::(JA fet ks cs).2.2.2)
  | _=>([false],[],[],[])
 | (true,.sln e t)::ks,.LJ::cs=>((JA fet ks cs).1,.usl false e ⟨t,[]⟩::(JA fet ks cs).2.1,(JA fet ks cs).2.2.1,(JA fet ks cs).2.2.2)
 | (true,.bx t)::ks,.ptr o off::cs=>match MK fet o with
  | some zs=>(Nat.beq off 0::(KX fet (tck t) zs).1++(JA fet ks cs).1,.box (KX fet (tck t) zs).2.1::(JA fet ks cs).2.1,(KX fet (tck t) zs).2.2++(JA fet ks cs).2.2.1,o::(JA fet ks cs).2.2.2)
  | none=>([false],[],[],[])
 | _,_=>([false],[],[],[])
def wC:Bool×CK->Bool
 | (true,.sln _ _)=>true
 | _=>false
def wS:Sh->Bool
 | .cell u k=>wC (u,k)
 | .agg ks=>ks.any wC
 | .box ks=>ks.any wC
 | .clo _ ks=>ks.any wC
 | .map _ _=>false
def JZ (fet:Fet):Sh->A->Arg
 | .cell u k,a=>match JA fet [(u,k)] [a]with
  | (ok,[c],upd,del)=> {ok,a:=c,upd,del}
  | _=> {ok:=[false],a:=.undef}
 | .agg ks,.agg cs=>match JA fet ks cs with
  | (ok,cs,upd,del)=> {ok,a:=.agg cs,upd,del}
 | .box ks,.ptr o off=>match MK fet o with
  | some cs=> {ok:=Nat.beq off 0::Nat.ble ks.length 200::(JA fet ks cs).1,a:=.box (JA fet ks cs).2.1,upd:=(JA fet ks cs).2.2.1,del:=(JA fet ks cs).2.2.2,boxes:=[(o,.box ks)]}
  | none=> {ok:=[false],a:=.undef}
 | .clo f ks,.clo g o=>match MK fet o with
  | some cs=> {ok:=Nat.beq f g::Nat.ble ks.length 200::(JA fet ks cs).1,a:=.cbx g (JA fet ks cs).2.1,upd:=(JA fet ks cs).2.2.1,del:=(JA fet ks cs).2.2.2,boxes:=[(o,.box ks)]}
  | none=> {ok:=[false],a:=.undef}
 | .map kt vt,.own o=>match J5 fet o with
  | some (.mp l)=> {ok:=[decide (l.kt=kt),decide (l.vt=vt)],a:=.ump l,boxes:=[(o,.map kt vt)]}
  | _=> {ok:=[false],a:=.undef}
 | _,_=> {ok:=[false],a:=.undef}
def JP (fet:Fet):List Sh->List A->List Bool×List A×List (Nat×Obj)×List Nat×List (Nat×Sh)
 | [],[]=>([],[],[],[],[])
 | s::ss,a::aa=>((JZ fet s a).ok++(JP fet ss aa).1,(JZ fet s a).a::(JP fet ss aa).2.1,(JZ fet s a).upd++(JP fet ss aa).2.2.1,
  (JZ fet s a).del++(JP fet ss aa).2.2.2.1,(JZ fet s a).boxes++(JP fet ss aa).2.2.2.2)
 | _,_=>([false],[],[],[],[])
def JS (id:Nat):List (Bool×CK)->List A->Nat->List Bool×List A×List (Nat×Obj)
 | [],_,_=>([],[],[])
 | (false,k)::ks,cs,j=>((force k (cs.getD j .undef)).1++(JS id ks cs (j+1)).1,(force k (cs.getD j .undef)).2::(JS id ks cs (j+1)).2.1,(JS id ks cs (j+1)).2.2)
 | (true,.sl e t)::ks,cs,j=>((cs.getD j .undef).AjJ true e t::(JS id ks cs (j+1)).1,.own (id+j)::(JS id ks cs (j+1)).2.1,
     (id+j,.arr e true (cs.getD j .undef).toL)::(JS id ks cs (j+1)).2.2)
 | (true,.sln e t)::ks,cs,j=>((cs.getD j .undef).AjJ false e t::(JS id ks cs (j+1)).1,.own (id+j)::(JS id ks cs (j+1)).2.1,
     (id+j,.arr e false (cs.getD j .undef).toL)::(JS id ks cs (j+1)).2.2)
 | (true,.bx t)::ks,cs,j=>((cs.getD j .undef).Aol t.len::(JS id ks cs (j+1)).1,.ptr (id+j) 0::(JS id ks cs (j+1)).2.1,(id+j,.box (cs.getD j .undef).iT)::(JS id ks cs (j+1)).2.2)
 | _,_,_=>([false],[],[])
def back (id:Nat):Sh->A->List Bool×A×List (Nat×Obj)
 | .cell u k,a=>((JS id [(u,k)] [a] 0).1++[k.plain],(JS id [(u,k)] [a] 0).2.1.getD 0 .undef,(JS id [(u,k)] [a] 0).2.2)
 | .agg ks,a=>(Nat.ble ks.length 200::a.isAgg ks.length::(JS (id+1) ks a.iT 0).1,.agg (JS (id+1) ks a.iT 0).2.1,(JS (id+1) ks a.iT 0).2.2)
 | .box ks,a=>(Nat.ble ks.length 200::a.Aol ks.length::(JS (id+1) ks a.iT 0).1,.ptr id 0,(id,.box (JS (id+1) ks a.iT 0).2.1)::(JS (id+1) ks a.iT 0).2.2)
 | .map kt vt,a=>([a.Acj kt vt],.own id,[(id,.mp a.toM)])
 | .clo f ks,a=>(Nat.ble ks.length 200::a.Aom f ks.length::(JS (id+1) ks a.iT 0).1,.clo f id,(id,.box (JS (id+1) ks a.iT 0).2.1)::(JS (id+1) ks a.iT 0).2.2)
def Le (id stride:Nat):List Sh->List A->Nat->List Bool×List A×List (Nat×Obj)
 | [],_,_=>([],[],[])
 | s::ss,rs,j=>((back (id+stride*j) s (rs.getD j .undef)).1++(Le id stride ss rs (j+1)).1,(back (id+stride*j) s (rs.getD j .undef)).2.1::(Le id stride ss rs (j+1)).2.1,
  (back (id+stride*j) s (rs.getD j .undef)).2.2++(Le id stride ss rs (j+1)).2.2)
def O6 (rb:Nat):Sh->A->List Bool×Obj×List (Nat×Obj)
 | .box ks,a=>(a.isAgg ks.length::(JS (rb+1) ks a.iT 0).1,.box (JS (rb+1) ks a.iT 0).2.1,(JS (rb+1) ks a.iT 0).2.2)
 | .map kt vt,a=>([a.Acj kt vt],.mp a.toM,[])
 | _,_=>([false],.box [],[])
def Lh (rb:Nat->Nat) (rs:List A):List (Nat×Sh)->Nat->List Bool×List (Nat×Obj)×List (Nat×Obj)
 | [],_=>([],[],[])
 | (o,s)::r,j=>((O6 (rb o) s (rs.getD j .undef)).1++(Lh rb rs r (j+1)).1,
     (o,(O6 (rb o) s (rs.getD j .undef)).2.1)::(Lh rb rs r (j+1)).2.1,(O6 (rb o) s (rs.getD j .undef)).2.2++(Lh rb rs r (j+1)).2.2)
def Nc (fet:Fet) (o:Nat):Nat:=match MK fet o with
 | some cs=>bif cs.any (fun c=>c.N8.any (fun i=>Nat.blt o i&&Nat.ble i (o+100)))then o+100 else o
 | none=>o
def nodup:List Nat->Bool
 | []=>true
 | n::r=> !(has r n)&&nodup r
def LW (id:Nat):List (Bool×CK)->List A->List (Nat×Nat)
 | (true,.sl _ _)::ks,.own o::cs=>(o,id)::LW (id+1) ks cs
 | (true,.sln _ _)::ks,.own o::cs=>(o,id)::LW (id+1) ks cs
 | (true,.bx _)::ks,.ptr o _::cs=>(o,id)::LW (id+1) ks cs
 | _::ks,_::cs=>LW (id+1) ks cs
 | _,_=>[]
def OZ (fet:Fet) (id:Nat):Sh->A->List (Nat×Nat)
 | .cell u k,a=>LW id [(u,k)] [a]
 | .agg ks,.agg cs=>LW (id+1) ks cs
 | .box ks,.ptr o _=>(o,id)::(match MK fet o with | some cs=>LW (id+1) ks cs | none=>[])
 | .map _ _,.own o=>[(o,id)]
 | .clo _ ks,.clo _ o=>(o,id)::(match MK fet o with | some cs=>LW (id+1) ks cs | none=>[])
 | _,_=>[]
def Oj (fet:Fet):Nat->Nat->List Sh->List A->List (Nat×Nat)
 | id,stride,s::ss,x::xs=>OZ fet id s x++Oj fet (id+stride) stride ss xs
 | _,_,_,_=>[]
end Go.Proofs.YtakmjgnpefmjhaaGreatDoor.Vm
namespace Go.Proofs.YtakmjgnpefmjhaaGreatDoor.Vm
def AiQ:Nat->Option (IntKind×List Int)
 | _=>none
def A0A (j:Nat):Option (IntKind×List Int)->Option (Value->Prop)
 | some (k,ns)=>if j<ns.length then some (fun v=>v= .int k (ns.getD j 0))else none
 | none=>none
def Auw:Nat->Nat->Option (Value->Prop)
 | 0,0=>some (fun v=> ∃ m,v= .int .i64 m)
 | 3,j=>if j<20 then some (fun v=>v= .int .u64 ((10 ^ j:Nat):Int))else none
 | g,j=>A0A j (AiQ g)
def A0B:Nat->Option Nat
 | 3=>some 20
 | _=>none
def AxZ:Option (IntKind×List Int)->A
 | some (k,ns)=>.elt (ns.map (.int k))
 | none=>.undef
def Az8 {g:Nat} {q:IntKind×List Int} (h:AiQ g=some q) (j:Nat):Auw g j=A0A j (some q):=by rw[<- h];unfold Auw;split<;>first | rfl | (exfalso;cases h;done)
def Ll (tmps:List A):Operand->A
 | .tmp t=>tmps.getD t .undef
 | .const v=>ofConst v
 | .func f=>.fn (f+1)
 | .global g=>AxZ (AiQ g)
def b2 (d:Nat):Nat:=(d+128)*256
def KI {α :Type} (o:Option α) (k: α ->Dl):Dl:=match o with | some x=>k x | none=>.no
def MV (C:Ctx) (t:Nat) (k:TI->Dl):Dl:=KI (C.T t) k
def elem? :TypeDesc->Option Nat
 | .slice e=>some e
 | _=>none
def elemOf (C:Ctx) (t:Nat) (k:Nat->TI->Dl):Dl:=MV C t fun ti=>KI (elem? ti.d) fun e=>MV C e fun te=>k e te
structure Arr where
 e:Nat
 frz:Bool
 l:Sl
def lL (fet:Fet) (o:Nat):Option Arr:=match J5 fet o with | some (.arr e frz l)=>some ⟨e,frz,l⟩ | _=>none
def one? {α :Type}:List α ->Option α
 | [k]=>some k
 | _=>none
def AjD:List CK->Bool
 | [.ptr]=>true
 | _=>false
def YU (ti:TI) (cs:List A) (off:Nat) (pre:List Bool):Dl :=
 bif ti.agg then .g (pre++(forces cs ti.cs off).1) (.agg (forces cs ti.cs off).2)
 else KI (one? ti.cs) fun k=>.g (pre++(force k (cs.getD off .undef)).1) (force k (cs.getD off .undef)).2
def isRow (ti:TI) (l:Sl) (i off:Nat):Bool:=Nat.blt 1 ti.cs.length&&Nat.beq l.sz 1&&Nat.beq off 0&&Nat.beq i 0
def AcN (l:Sl) (n:Nat):List A:=(List.range n).map fun j=>(l.at j).getD 0 .undef
def qE (t:Ty) (cs:List A):Bool×List t.Val:=(cs.all (fun c=>(t.mk [c]).1),cs.map (fun c=>(t.mk [c]).2))
def jE (C:Ctx) (fet:Fet) (t:Nat) (a:A):Dl :=
 MV C t fun ti=>match a with
 | .ptr o off=>KI (MK fet o) fun cs=>.g [Nat.ble (off+ti.cs.length) cs.length,Nat.blt 0 ti.cs.length] (Ag8 ti cs off)
 | .elt cs=>YU ti cs 0 [Nat.ble ti.cs.length cs.length]
 | .clo k o=>.g [Nat.beq k 0,AjD ti.cs,!ti.agg] (.ptr o 0)
 | .LU o i off=>KI (lL fet o) fun r=>bif isRow ti r.l i off then YU ti (AcN r.l ti.cs.length) 0 [Nat.ble ti.cs.length r.l.xs.length,true]else YU ti (r.l.at i) off [Nat.ble (off+ti.cs.length) r.l.sz,decide (i<r.l.xs.length)]
 | _=>.no
def X9 (C:Ctx) (fet:Fet) (t:Nat) (a v:A):Dl :=
 MV C t fun ti=>match a with
 | .ptr o off=>KI (MK fet o) fun cs =>
  {ok:=[v.isVal,Nat.beq v.cells.length ti.cs.length,Nat.ble (off+ti.cs.length) cs.length,Nat.blt 0 ti.cs.length],val:=.undef,
   upd:=[(o,.box (splice cs off (Lu (Nc fet o+1+off) ti.cs v.cells).1))],new:=(Lu (Nc fet o+1+off) ti.cs v.cells).2}
 | .LU o i off=>KI (lL fet o) fun r=>bif isRow ti r.l i off then
  {ok:=(KX fet ti.cs v.cells).1++[!r.frz,(qE r.l.t (KX fet ti.cs v.cells).2.1).1,Nat.beq ti.cs.length r.l.xs.length,true,Nat.blt 0 ti.cs.length,!(has ((KX fet ti.cs v.cells).2.2.map (·.1)) o)],val:=.undef,
   upd:=(KX fet ti.cs v.cells).2.2++[(o,.arr r.e false ⟨r.l.t,(qE r.l.t (KX fet ti.cs v.cells).2.1).2⟩)]}else
  {ok:=(KX fet ti.cs v.cells).1++[!r.frz,(r.l.set i off (KX fet ti.cs v.cells).2.1).1,Nat.ble (off+ti.cs.length) r.l.sz,decide (i<r.l.xs.length),Nat.blt 0 ti.cs.length,!(has ((KX fet ti.cs v.cells).2.2.map (·.1)) o)],val:=.undef,
   upd:=(KX fet ti.cs v.cells).2.2++[(o,.arr r.e false (r.l.set i off (KX fet ti.cs v.cells).2.1).2)]}
 | _=>.no
def adK (C:Ctx) (d:Nat) (ti:TI):List CK:=bif has C.cuts d then []else ti.cs
def Zj (C:Ctx) (d:Nat) (t:Nat) (v:A):Dl :=
 MV C t fun ti=> {ok:=[v.isVal,Nat.beq v.cells.length ti.cs.length],val:=.ptr (b2 d) 0,new:=(b2 d,.box (Lu (b2 d+1) (adK C d ti) v.cells).1)::(Lu (b2 d+1) (adK C d ti) v.cells).2}
def oD (off n:Nat) (fet:Fet):A->Dl
 | .ptr o p=>KI (MK fet o) fun cs=>.g [Nat.ble (p+off+n) cs.length] (.ptr o (p+off))
 | .elt cs=>.g [Nat.ble (off+n) cs.length] (.elt (cs.drop off))
 | .LU o i p=>KI (lL fet o) fun r=>.g [decide (i<r.l.xs.length)] (.LU o i (p+off))
 | _=>.no
def Ab7:TypeDesc->Option (Nat×Nat)
 | .array n e=>some (n,e)
 | _=>none
def int? :A->Option Int
 | .int _ n=>some n
 | _=>none
def Ayz:CK->Option IntKind
 | .int k=>some k
 | _=>none
def AiW (C:Ctx) (t:Nat) (k:Nat->IntKind->Dl):Dl:=MV C t fun ti=>KI (Ab7 ti.d) fun p=>MV C p.2 fun te=>bif te.agg then .no else KI (one? te.cs) fun c=>KI (Ayz c) fun kk=>k p.1 kk
def Acu (cs:List A) (n:Int):Int:=(cs.map A.toI).getD n.toNat 0
def oZ (C:Ctx) (fet:Fet) (t:Nat) (x:A) (i:A):Dl :=
 match x with
 | .LU o i0 off0=>KI (int? i) fun n=>MV C t fun ti=>KI (Ab7 ti.d) fun p=>MV C p.2 fun te=>KI (lL fet o) fun r =>
  .g [Nat.beq i0 0,Nat.beq off0 0,Nat.beq r.l.sz te.cs.length,decide (0<=n),decide (n<(p.1:Int)),decide (n.toNat<r.l.xs.length)] (.LU o n.toNat 0)
 | .elt cs=>KI (int? i) fun n=>AiW C t fun m kk=>.g [cs.all (A.isI kk),Nat.beq cs.length m,decide (0<=n),decide (n<(m:Int))] (.elt [.int kk (Acu cs n)])
 | x =>
 KI (int? i) fun n=>elemOf C t fun _ te=>match x with
 | .own o=>KI (lL fet o) fun r=>.g [Nat.beq r.l.sz te.cs.length,decide (0<=n),decide (n<r.l.xs.length)] (.LU o n.toNat 0)
 | .sl l=>.g [Nat.beq l.sz te.cs.length,Nat.blt 0 l.sz,decide (0<=n),decide (n<l.xs.length)] (.elt (l.at n.toNat))
 | .bsl o k=>KI (MK fet o) fun cs=>.g [Nat.beq te.cs.length 1,decide (0<=n),Nat.blt n.toNat k,Nat.blt n.toNat cs.length] (.ptr o n.toNat)
 | _=>.no
def AqA:A->Option (List UInt8)
 | .str s=>some s
 | _=>none
def AjA (C:Ctx) (t:Nat) (x i:A):Dl :=
 KI (int? i) fun n=>match x with
 | .agg cs=>AiW C t fun m kk=>.g [cs.all (A.isI kk),Nat.beq cs.length m,decide (0<=n),decide (n<(m:Int))] (.int kk (Acu cs n))
 | x=>KI (AqA x) fun s=>MV C t fun ti=>.g [AjG ti.d,decide (0<=n),decide (n<s.length)] (.int .u8 ((s.getD n.toNat 0).toNat:Int))
def AhV (len:Nat):Option A->Option A->Option (List Bool×Nat×Nat)
 | none,none=>some ([],0,len)
 | some (.int _ a),none=>some ([decide (0<=a),decide (a<=len)],a.toNat,len)
 | none,some (.int _ b)=>some ([decide (0<=b),decide (b<=len)],0,b.toNat)
 | some (.int _ a),some (.int _ b)=>some ([decide (0<=a),decide (a<=b),decide (b<=len)],a.toNat,b.toNat)
 | _,_=>none
def J9 {α :Type} (l:List α) (a b:Nat):List α :=(l.take b).drop a
def Nb (C:Ctx) (fet:Fet) (t:Nat) (x:A) (lo hi:Option A):Dl :=
 MV C t fun ti=>match x with
 | .str s=>KI (AhV s.length lo hi) fun r=>.g (AjG ti.d::r.1) (.str (J9 s r.2.1 r.2.2))
 | .sl l=>KI (AhV l.xs.length lo hi) fun r=>KI (elem? ti.d) fun e=>MV C e fun te=>.g (Nat.beq l.sz te.cs.length::r.1) (.sl ⟨l.t,J9 l.xs r.2.1 r.2.2⟩)
 | .own o=>KI (lL fet o) fun ro=>KI (AhV ro.l.xs.length lo hi) fun r=>KI (elem? ti.d) fun e=>MV C e fun te =>
  {ok:=Nat.beq ro.l.sz te.cs.length::r.1,val:=.sl ⟨ro.l.t,J9 ro.l.xs r.2.1 r.2.2⟩,upd:=bif ro.frz then []else [(o,.arr ro.e true ro.l)]}
 | _=>.no
def AeI (C:Ctx) (fet:Fet) (d t:Nat) (x hi:A):Dl :=
 MV C t fun ti=>match x with
 | .own o=>KI (lL fet o) fun ro=>KI (AhV ro.l.xs.length none (some hi)) fun r=>KI (elem? ti.d) fun e=>MV C e fun te =>
  {ok:=Nat.beq ro.l.sz te.cs.length::r.1++[!ro.frz],val:=.own (b2 d),new:=[(b2 d,.arr ro.e false ⟨ro.l.t,J9 ro.l.xs r.2.1 r.2.2⟩)],del:=[o]}
 | _=>.no
def AcV (C:Ctx) (fet:Fet) (t:Nat) (x a:A):Dl :=
 MV C t fun ti=>match x with
 | .own o=>KI (lL fet o) fun ro=>KI (int? a) fun n=>KI (elem? ti.d) fun e=>MV C e fun te=>.g [Nat.beq ro.l.sz te.cs.length,decide (0<=n),decide (n<(ro.l.xs.length:Int))] (.osl o n.toNat)
 | _=>.no
def Aqg (ys:List Int) (k:Nat) (s:List UInt8):List Int:=ys.take k++s.map (fun(b:UInt8)=>((b.toNat:Int)))++ys.drop (k+s.length)
def Aoh (C:Ctx) (fet:Fet) (ts:List Nat) (x y:A):Dl :=
 match ts with
 | [t,_]=>elemOf C t fun _ te=>match x with
  | .osl o k=>KI (lL fet o) fun r=>KI (r.l.cast Uj) fun ys=>KI (AqA y) fun s =>
   {ok:=[AjH te.d,Nat.beq te.cs.length 1,!r.frz,decide (0<s.length),decide (k+s.length<=ys.length)],val:=.int .i64 (s.length:Int),upd:=[(o,.arr r.e false ⟨Uj,Aqg ys k s⟩)]}
  | _=>.no
 | _=>.no
def mp? (fet:Fet):A->Option (Nat×Mp)
 | .own o=>match J5 fet o with
  | some (.mp l)=>some (o,l)
  | _=>none
 | _=>none
def Al1 (C:Ctx) (fet:Fet) (t:Nat) (x:A):Dl :=
 MV C t fun ti=>match ti.d with
 | .string=>KI (AqA x) fun s=>.v (.int .i64 (s.length:Int))
 | .array n _=>.v (.int .i64 (n:Int))
 | .slice _=>match x with
  | .bsl o k=>KI (MK fet o) fun _=>.v (.int .i64 (k:Int))
  | x=>.g (rd fet x).1 (.int .i64 ((rd fet x).2.xs.length:Int))
 | .map _ _=>KI (mp? fet x) fun p=>.v (.int .i64 (p.2.l.length:Int))
 | _=>.no
def QS (fet:Fet) (t:Ty):A->List Bool×List t.Val
 | .str s=>match t with
  | .int .u8 .nil=>([],s.map (fun(b:UInt8)=>((b.toNat:Int))))
  | _=>([false],[])
 | y=>rdT fet t y
def Aae (C:Ctx) (fet:Fet) (d:Nat) (t:Nat) (x y:A):Dl :=
 elemOf C t fun e te=>match x with
 | .own o=>KI (lL fet o) fun r =>
  {ok:=(QS fet r.l.t y).1++[Nat.beq e r.e,Nat.beq r.l.sz te.cs.length,Nat.blt 0 r.l.sz,decide ((r.l.xs.length+(QS fet r.l.t y).2.length)*(te.bytes+1)<=140737488355328)],
   val:=.own (b2 d),new:=[(b2 d,.arr r.e r.frz ⟨r.l.t,r.l.xs++(QS fet r.l.t y).2⟩)],del:=[o]}
 | .LJ =>
  {ok:=(QS fet (tyl te.cs) y).1++[Nat.blt 0 te.cs.length,decide ((QS fet (tyl te.cs) y).2.length*(te.bytes+1)<=140737488355328)],
   val:=.own (b2 d),new:=[(b2 d,.arr e false ⟨tyl te.cs,(QS fet (tyl te.cs) y).2⟩)]}
 | _=>.no
def gV (C:Ctx) (fet:Fet) (src dst:Nat) (x:A):Dl :=
 MV C src fun s=>MV C dst fun t=>match t.d,x with
 | .int k,.int _ n=>.v (.int k (k.wrap n))
 | .string,.str l=>.v (.str l)
 | .string,.int _ _=>.no
 | .string,x=>KI (elem? s.d) fun e=>MV C e fun te=>.g (AjH te.d::((rdB fet x).1++[(rdB fet x).2.all isByte])) (.str ((rdB fet x).2.map byteOf))
 | _,_=>.no
def Ae1 (C:Ctx) (d s t:Nat) (l:List UInt8):Dl:=MV C s fun _=>elemOf C t fun e te =>
 {ok:=[AjH te.d,decide (l.length<=140737488355328)],val:=.own (b2 d),new:=[(b2 d,.arr e false ⟨Uj,l.map (fun(b:UInt8)=>((b.toNat:Int)))⟩)]}
def Ap7:TypeDesc->Bool | .slice _=>true | _=>false
def Agr (C:Ctx) (o:Oper) (fet:Fet) (s t:Nat) (x:A):Dl :=
 match x with
 | .str l=>MV C t fun tt=>bif Ap7 tt.d then KI o.dst fun d=>Ae1 C d s t l else gV C fet s t (.str l)
 | x=>gV C fet s t x
def Ayq (C:Ctx) (t:Nat):Option (Nat×IntKind):=match C.T t with
 | some ti=>match Ab7 ti.d with
  | some (n,e)=>match C.T e with
   | some te=>match te.cs with
    | [.int k]=>some (n,k)
    | _=>none
   | none=>none
  | none=>none
 | none=>none
def Aey (C:Ctx) (d t:Nat) (v:A):Dl:=match Ayq C t with
 | some (n,k)=>match v with
  | .agg cs=> {ok:=[cs.all (A.isI k),Nat.beq cs.length n,Nat.ble n 16777216],val:=.LU (b2 d) 0 0,new:=[(b2 d,.arr t false ⟨.int k .nil,cs.map A.toI⟩)]}
  | _=>.no
 | none=>Zj C d t v
def jU (C:Ctx) (d t:Nat):Dl:=MV C t fun ti=>match Ab7 ti.d with
 | some (n,e)=>MV C e fun te=> {ok:=[te.cs.all CK.plain,Nat.blt 0 te.cs.length,Nat.blt 0 n,Nat.ble n 16777216,decide (ti.cs=(List.replicate n te.cs).flatten)],val:=.LU (b2 d) 0 0,new:=[(b2 d,.arr t false ⟨tyl te.cs,List.replicate n (tyl te.cs).zero⟩)]}
 | none=>Zj C d t (.agg (ti.cs.map CK.zero))
def AjW (fet:Fet) (s:Bool) (d:TypeDesc) (x:A):Option Bool :=
 match s,d,x with
 | true,.slice _,.LJ=>some true
 | true,.slice _,.sln l=>some l.xs.isEmpty
 | false,.pointer _,.MP=>some true
 | false,.pointer _,.ptr o _=>(MK fet o).map (fun _=>false)
 | _,_,_=>none
def Al9 (C:Ctx) (fet:Fet) (s:Bool) (t:Nat) (x:A) (k:Bool->Dl):Dl:=MV C t fun ti=>KI (AjW fet s ti.d x) k
def Aoe (C:Ctx) (t:Nat) (r:Bool):Dl:=MV C t fun ti=>.g [Aly ti.d] (.bool r)
def As8 (C:Ctx) (fet:Fet) (op:BinOp) (t:Nat) (x y:A):Dl :=
 match x,y with
 | .int k a,.int k' b=>match op with
  | .shl=>.g [decide (0<=b)] (.int k (k.wrap (a*2 ^ (min b.toNat k.bits))))
  | .shr=>.g [decide (0<=b)] (.int k (a.fdiv (2 ^ (min b.toNat k.bits))))
  | op=>bif A.kEq k k' then Aev op k a b else .no
 | .str a,.str b=>Aew op a b
 | .bool a,.bool b=>match op with
  | .eql=>Aoe C t (a==b)
  | .neq=>Aoe C t (!(a==b))
  | _=>.no
 | .agg x,.agg y=>MV C t fun ti=>match op with
  | .eql=>.g [!ti.cmp.isEmpty,(RD ti.cmp x y).1] (.bool (RD ti.cmp x y).2)
  | .neq=>.g [!ti.cmp.isEmpty,(RD ti.cmp x y).1] (.bool (!(RD ti.cmp x y).2))
  | _=>.no
 | x,.LJ=>match op with
  | .eql=>Al9 C fet true t x fun v=>.v (.bool v)
  | .neq=>Al9 C fet true t x fun v=>.v (.bool (!v))
  | _=>.no
 | x,.MP=>match op with
  | .eql=>Al9 C fet false t x fun v=>.v (.bool v)
  | .neq=>Al9 C fet false t x fun v=>.v (.bool (!v))
  | _=>.no
 | _,_=>.no
def unX:UnOp->A->Dl
 | .not,.bool b=>.v (.bool !b)
 | .neg,.int k n=>.v (.int k (k.wrap (0 - n)))
 | .xor,.int k n=>.v (.int k (JY .xor k (if k.signed then -1 else k.max) n))
 | _,_=>.no
def Aoq (c a b:A):Dl:=.g [c.Qx.1,c.Qx.2.isB,(bif c.Qx.2.toB then a.Qx.1 else b.Qx.1),(bif c.Qx.2.toB then a.Qx.2.isB else b.Qx.2.isB)] (.bool (bif c.Qx.2.toB then a.Qx.2.toB else b.Qx.2.toB))
def Aco (C:Ctx) (d:Nat) (t:Nat) (l c:A):Dl :=
 KI (int? l) fun n=>KI (int? c) fun m=>elemOf C t fun e te =>
  {ok:=[decide (n<=m),decide (0<=n),decide (m*(te.bytes+1)<=140737488355328),Nat.blt 0 te.cs.length,te.cs.all CK.plain],val:=.own (b2 d),
   new:=[(b2 d,.arr e false ⟨tyl te.cs,List.replicate n.toNat (tyl te.cs).zero⟩)]}
def Ae0 (C:Ctx) (t:Nat) (ps:List (Nat×A)):Dl:=MV C t fun ti=>KI (fill C ti.d ps (ti.cs.map CK.zero)) fun cs=>.g [ti.agg] (.agg cs)
def TT (C:Ctx) (fet:Fet) (d t n:Nat) (ps:List (Nat×A)):Dl:=elemOf C t fun e te =>
 {ok:=(O8 fet te (tyl te.cs) ps (List.replicate n (tyl te.cs).zero)).1++[Nat.ble (n*te.cs.length) 16777216,Nat.blt 0 te.cs.length,te.cs.all CK.plain],val:=.own (b2 d),
  new:=[(b2 d,.arr e false ⟨tyl te.cs,(O8 fet te (tyl te.cs) ps (List.replicate n (tyl te.cs).zero)).2.1⟩)],upd:=(O8 fet te (tyl te.cs) ps (List.replicate n (tyl te.cs).zero)).2.2}
def Aez (C:Ctx) (d t n:Nat) (ps:List (Nat×A)):Dl:=elemOf C t fun e te=>KI (fill C (.array n e) ps (List.replicate n .MP)) fun cs =>
 {ok:=[AjD te.cs,Nat.ble n 16777216,Nat.blt 0 n,ps.all fun p=>p.2.isVal&& !p.2.isAgg 0],val:=.bsl (b2 d) n,new:=(b2 d,.box (Lu (b2 d+1) [] cs).1)::(Lu (b2 d+1) [] cs).2}
def AjE:List (Nat×A)->Bool
 | (_,.ptr _ _)::_=>true
 | _=>false
def XO (C:Ctx) (fet:Fet) (t f:Nat) (x:A):Dl :=
 MV C t fun ti=>KI (Akg C ti.d f) fun p=>match oD p.1 p.2.cs.length fet x with
 | δ => {δ with ok:=Nat.blt 0 p.2.cs.length:: δ.ok}
def AzL:A->Option (List A)
 | .agg cs=>some cs
 | _=>none
def Aju (C:Ctx) (t f:Nat) (x:A):Dl :=
 MV C t fun ti=>KI (Akg C ti.d f) fun p=>KI (AzL x) fun cs=>.g [Nat.ble (p.1+p.2.cs.length) cs.length,Nat.blt 0 p.2.cs.length] (Ag8 p.2 cs p.1)
def A0I:A->Option (List A)
 | .tup vs=>some vs
 | _=>none
def AbZ (i:Nat) (x:A):Dl:=KI (A0I x) fun vs=>.g [Nat.blt i vs.length] (vs.getD i .undef)
def ZT (fet:Fet):A->Dl
 | .ptr o off=>KI (MK fet o) fun _=>.v (.ptr o off)
 | _=>.no
structure Hand where
 ok:List Bool
 vs:List A
 upd:List (Nat×Obj)
 del:List Nat
 boxes:List (Nat×Sh)
def Aou:List A->A
 | [v]=>v
 | vs=>.tup vs
def Aog (rb:Nat->Nat) (d:Nat) (sg:Sig) (N:List (Nat×Nat)) (n:Nat) (h:Hand) (ok:Bool) (rs:List A):Dl :=
 ⟨h.ok++[ok]++(Le (b2 d) 16 sg.JI rs 0).1++(Lh rb (rs.drop sg.JI.length) h.boxes 0).1++[nodup (N.map (·.1)),Nat.ble n 100,Nat.beq rs.length (sg.JI.length+h.boxes.length),!(sg.Jz.any wS)||h.upd.isEmpty],
   Aou (Le (b2 d) 16 sg.JI rs 0).2.1,
   (Le (b2 d) 16 sg.JI rs 0).2.2++(Lh rb (rs.drop sg.JI.length) h.boxes 0).2.2,
   h.upd++(Lh rb (rs.drop sg.JI.length) h.boxes 0).2.1,h.del,[]⟩
def rZ (fet:Fet) (ss:List Sh) (xs:List A):Hand:=⟨(JP fet ss xs).1,(JP fet ss xs).2.1,(JP fet ss xs).2.2.1,(JP fet ss xs).2.2.2.1,(JP fet ss xs).2.2.2.2⟩
def QV (fet:Fet) (d:Nat) (sg:Sig) (args:List A):Dl:=Aog (Nc fet) d sg (Oj fet 0 256 sg.Jz args) args.length (rZ fet sg.Jz args) (sg.ok (rZ fet sg.Jz args).vs) (sg.val (rZ fet sg.Jz args).vs)
def AjN (n:Nat):Obj->Bool | .box cs=>Nat.beq cs.length n | _=>false
def AxQ (j:Nat) (c:A):Obj->Obj | .box cs=>.box (cs.set j c) | x=>x
def eqC:A->A->Bool | .str a,.str b=>a==b | .int k a,.int k' b=>A.kEq k k'&&a==b | .bool a,.bool b=>a==b | _,_=>false
def eqU (j:Nat) (c:A):Obj->Bool | .box cs=>eqC (cs.getD j .undef) c | _=>false
def V5 (fet:Fet) (a:A) (j:Nat) (δ :Dl):Dl:=match a with
 | .ptr q _=>match MK fet q with
  | some cs=>bif Nat.blt j cs.length&& δ.upd.all (fun p=> !(Nat.beq p.1 q)||AjN cs.length p.2)
   then {δ with ok:= δ.ok++ δ.upd.map (fun p=>bif Nat.beq p.1 q then eqU j (cs.getD j .undef) p.2 else true),upd:= δ.upd.map (fun p=>bif Nat.beq p.1 q then(p.1,AxQ j (cs.getD j .undef) p.2)else p),same:=(q,j):: δ.same}
   else δ
  | none=> δ
 | _=> δ
def keepD (fet:Fet) (args:List A):List (Nat×Nat)->Dl->Dl
 | [],δ => δ
 | (i,j)::r,δ =>keepD fet args r (V5 fet (args.getD i .undef) j δ)
def oK (C:Ctx) (fet:Fet) (d:Nat) (f:Nat) (args:List A):Dl :=
 match C.G f with
 | some sg=>keepD fet args (C.kept f) (QV fet d sg args)
 | none=>.no
def Apa (C:Ctx) (fet:Fet) (d t:Nat) (c:A) (args:List A):Dl :=
 match c with
 | .fn n=>match C.dyn t with
  | some sg=>QV fet d (sg n) args
  | none=>.no
 | .clo f o=>KI (MK fet o) fun _=>match C.dyn t with
  | some sg=>QV fet d (sg f) (args++[.clo 0 o])
  | none=>.no
 | _=>.no
def Aub:List A->Option Nat
 | [.ptr o 0]=>some o
 | _=>none
def AkW (fet:Fet) (f:Nat):A->Dl
 | .ptr q off=>KI (MK fet q) fun cs=>KI (Aub cs) fun o=> {ok:=[Nat.beq off 0],val:=.clo (f+1) o,del:=[q]}
 | _=>.no
def a0 (k:Dl):List A->Dl
 | []=>k
 | _=>.no
def a1 (k:A->Dl):List A->Dl
 | [a]=>k a
 | _=>.no
def a2 (k:A->A->Dl):List A->Dl
 | [a,b]=>k a b
 | _=>.no
def a3 (k:A->A->A->Dl):List A->Dl
 | [a,b,c]=>k a b c
 | _=>.no
def AwA (C:Ctx) (o:Oper) (fet:Fet) (ts:List Nat) (x y:A):Dl :=
 match ts with
 | [t,u]=>MV C u fun tu=>KI o.dst fun d=>match Aae C fet d t x y with
  | δ => {δ with ok:=iG tu.d:: δ.ok}
 | _=>.no
def slX (C:Ctx) (dst:Option Nat) (fet:Fet) (t:Nat) (lo hi mx:Option Operand):List A->Dl :=
 match mx,lo,hi with
 | none,none,none=>a1 fun x=>Nb C fet t x none none
 | none,some _,none=>a2 fun x a=>match dst with
  | some d=>bif has C.cuts d then AcV C fet t x a else Nb C fet t x (some a) none
  | none=>Nb C fet t x (some a) none
 | none,none,some _=>a2 fun x b=>match dst with
  | some d=>bif has C.cuts d then AeI C fet d t x b else Nb C fet t x none (some b)
  | none=>Nb C fet t x none (some b)
 | none,some _,some _=>a3 fun x a b=>Nb C fet t x (some a) (some b)
 | _,_,_=>fun _=>.no
def At8:A->A->Dl
 | .int k a,.int k' b=>bif A.kEq k k' then .v (.int k (bif decide (b<a)then b else a))else .no
 | _,_=>.no
def At6:A->A->Dl
 | .int k a,.int k' b=>bif A.kEq k k' then .v (.int k (bif decide (a<b)then b else a))else .no
 | _,_=>.no
def blX (C:Ctx) (o:Oper) (fet:Fet) (ts:List Nat):Builtin->List A->Dl
 | .len=>a1 fun x=>KI (one? ts) fun t=>Al1 C fet t x
 | .append=>a2 fun x y=>AwA C o fet ts x y
 | .min=>a2 At8
 | .max=>a2 At6
 | .copy=>a2 fun x y=>Aoh C fet ts x y
 | _=>fun _=>.no
def opX (C:Ctx) (o:Oper) (v:List A) (fet:Fet):Dl :=
 match o.op with
 | .move _=>a1 (fun a=>.v a) v
 | .assign _=>a1 (fun a=>.v a) v
 | .pick _ _ _=>a3 (fun c a b=>Aoq c a b) v
 | .alloc t=>a0 (KI o.dst fun d=>jU C d t) v
 | .box t _=>a1 (fun a=>KI o.dst fun d=>Aey C d t a) v
 | .build t ps=>Ae0 C t ((ps.toList.map (·.1)).zip v)
 | .buildSlice t n ps=>KI o.dst fun d=>bif AjE ((ps.toList.map (·.1)).zip v)then Aez C d t n ((ps.toList.map (·.1)).zip v)else TT C fet d t n ((ps.toList.map (·.1)).zip v)
 | .load t _=>a1 (jE C fet t) v
 | .store t _ _=>a2 (fun a x=>bif o.dst.isNone then X9 C fet t a x else .no) v
 | .nilCheck _=>a1 (ZT fet) v
 | .binOp op t _ _ _=>a2 (As8 C fet op t) v
 | .unOp op _ _=>a1 (unX op) v
 | .convert s t _=>a1 (Agr C o fet s t) v
 | .makeSlice t _ _=>a2 (fun l c=>KI o.dst fun d=>Aco C d t l c) v
 | .slice t _ lo hi mx=>slX C o.dst fet t lo hi mx v
 | .fieldAddr t _ f=>a1 (XO C fet t f) v
 | .field t _ f=>a1 (Aju C t f) v
 | .indexAddr t _ _=>a2 (oZ C fet t) v
 | .index t _ _=>a2 (AjA C t) v
 | .extract _ i=>a1 (AbZ i) v
 | .makeFunc (.func f) fi _=>bif fi.isEmpty then a1 (AkW fet f) v else .no
 | .call ⟨.builtin b,_,ts⟩=>blX C o fet ts.toList b v
 | .call ⟨.value (.func f),_,_⟩=>match v with
  | _::vs=>oK C fet (o.dst.getD 0) f vs
  | []=>.no
 | .call ⟨.value (.tmp t),_,_⟩=>match v with
  | c::vs=>Apa C fet (o.dst.getD 0) t c vs
  | []=>.no
 | _=>.no
def fetch (Jr:List (Nat×Obj)):List Nat->Fet
 | []=>[]
 | n::r=>match J5 Jr n with
  | some x=>(n,x)::fetch Jr r
  | none=>fetch Jr r
def KE (st:St) (vs:List A):Fet :=
 let f1:=fetch st.Jr (vs.flatMap A.ids)
 f1++fetch st.Jr (f1.flatMap (fun p=>p.2.ids))
def KF (Jr:List (Nat×Obj)):List Nat->List (Nat×Obj)
 | []=>Jr
 | n::r=>KF (Uu Jr n) r
def JH (Jr:List (Nat×Obj)):List (Nat×Obj)->List (Nat×Obj)
 | []=>Jr
 | (n,x)::r=>JH (N7 Jr n x) r
def put (tmps:List A):Option Tmp->A->List A
 | some d,v=>tmps.set d v
 | none,_=>tmps
def apply (st:St) (o:Oper) (δ :Dl):St :=
 {tmps:=put st.tmps o.dst δ.val,Jr:=JH (KF (JH st.Jr δ.upd) δ.del) δ.new}
def strips:List A->List Bool×List A
 | []=>([],[])
 | a::r=>(a.strip.1++(strips r).1,a.strip.2::(strips r).2)
def guardOf (ops:List Oper) (tmps:List A):Option (Nat×Bool)->Option (Option Bool)
 | none=>some none
 | some (j,want)=>match ops[j]? with
  | some oj=>match oj.dst with
   | some t=>match (tmps.getD t .undef)with
    | .bool b=>some (some (bif want then b else !b))
    | .cnd g (.bool b)=>some (some (g&&(bif want then b else !b)))
    | _=>none
   | none=>none
  | none=>none
def AcS:Op->Bool
 | .move _=>true
 | .assign _=>true
 | .binOp _ _ _ _ _=>true
 | _=>false
def Ls:Op->List A->List Bool×List A
 | .pick _ _ _,vs=>([],vs)
 | op,vs=>((strips vs).1,bif AcS op then(strips vs).2 else(strips vs).2.map A.weak)
def AaQ (g:Bool):A->A->A
 | .bool x,.bool y=>.bool (bif g then y else x)
 | .int k x,.int _ y=>.int k (bif g then y else x)
 | .str x,.str y=>.str (bif g then y else x)
 | .sl l,.sl l'=>match l'.cast l.t with
  | some ys=>.sl ⟨l.t,bif g then ys else l.xs⟩
  | none=>.undef
 | .sln l,.sln l'=>match l'.cast l.t with
  | some ys=>.sln ⟨l.t,bif g then ys else l.xs⟩
  | none=>.undef
 | a,_=>a
def sW:A->A->Bool
 | .bool _,.bool _=>true
 | .int k _,.int k' _=>A.kEq k k'
 | .str _,.str _=>true
 | .sl l,.sl l'=>(l'.cast l.t).isSome
 | .sln l,.sln l'=>(l'.cast l.t).isSome
 | .own o,.own o'=>Nat.beq o o'
 | .MP,.MP=>true
 | .undef,.undef=>true
 | _,_=>false
def Amc (g:Bool):List A->List A->List A
 | a::aa,b::bs=>AaQ g a b::Amc g aa bs
 | _,_=>[]
def okM:List A->List A->Bool
 | [],[]=>true
 | a::aa,b::bs=>sW a b&&okM aa bs
 | _,_=>false
def bT (g:Bool):Option Obj->Obj->Obj
 | some (.box cs),.box ds=>.box (Amc g cs ds)
 | some (.arr e _ l),.arr _ true _=>.arr e true l
 | _,x=>x
def sZ (c:Bool):Option Obj->Obj->Bool
 | some (.box cs),.box ds=>okM cs ds
 | some (.arr e _ _),.arr e' true _=>c&&Nat.beq e e'
 | _,_=>false
def AbN:Op->Bool
 | .call ⟨.value (.func _),_,_⟩=>true
 | .call ⟨.value (.tmp _),_,_⟩=>true
 | .slice _ _ _ _ _=>true
 | _=>false
def Ag1:Op->Bool
 | .call ⟨.value (.func _),_,_⟩=>true
 | _=>false
def UL (C:Ctx) (o:Oper) (st:St) (pre:List Bool):Dl :=
 match Ls o.op (o.op.operands.toList.map (Ll st.tmps))with
  | (ok,vs)=>match opX C o vs (KE st vs)with
   | δ => {δ with ok:=pre++(ok++ δ.ok++[δ.new.all (fun p=>st.fresh p.1),nodup (δ.new.map (·.1))]),same:=bif Ag1 o.op then δ.same else []}
def AsO (C:Ctx) (o:Oper):Option Bool:=match o.dst with
 | some d=>C.dec d
 | none=>none
def KQ (C:Ctx) (ops:List Oper) (o:Oper) (st:St):Dl :=
 match guardOf ops st.tmps o.guard with
 | some none=>UL C o st []
 | some (some g)=>match AsO C o with
  | some true=>UL C o st [g]
  | some false=> {ok:=[!g],val:=.cnd false .undef}
  | none=>match Ls o.op (o.op.operands.toList.map (Ll st.tmps))with
  | (ok,vs)=>match opX C o vs (KE st vs)with
   | δ => {ok:=(ok++(δ.val.isVal:: δ.ok)).map (fun c=>c|| !g)++(δ.new.isEmpty:: δ.del.isEmpty::o.dst.isSome:: δ.upd.map (fun p=>sZ (AbN o.op) (J5 (KE st vs) p.1) p.2)),val:=.cnd g δ.val,
           upd:= δ.upd.map (fun p=>(p.1,bT g (J5 (KE st vs) p.1) p.2))}
 | none=>.no
def allT {α :Type}:List Bool->Option α ->Option α
 | [],r=>r
 | c::cs,r=>bif c then allT cs r else none
def Zz {α :Type} (C:Ctx) (ops:List Oper):List Oper->St->(St->Option α)->Option α
 | [],st,K=>K st
 | o::r,st,K=>match KQ C ops o st with
  | δ =>allT δ.ok (Zz C ops r (apply st o δ) K)
def oH (C:Ctx) (o:Oper):Option (Nat×Alt) :=
 match o.guard,o.op with
 | none,.call ⟨.value (.func f),_,_⟩=>(C.alt f).map (fun q=>(f,q))
 | _,_=>none
def AkJ (o:Oper) (st:St) (q:Alt):Bool :=
 match (Ls o.op (o.op.operands.toList.map (Ll st.tmps))).2 with
 | v::xs=>q.2.2 (rZ (KE st (v::xs)) q.1.Jz xs).vs
 | []=>true
def Zy {α :Type} (C:Ctx) (ops:List Oper):List Oper->St->(St->Option α)->Option α
 | [],st,K=>K st
 | o::r,st,K=>match oH C o with
  | none=>allT (KQ C ops o st).ok (Zy C ops r (apply st o (KQ C ops o st)) K)
  | some (f,q)=>bif AkJ o st q then allT (KQ (C.put f q.1) ops o st).ok (Zy C ops r (apply st o (KQ (C.put f q.1) ops o st)) K)
   else allT (KQ (C.put f q.2.1) ops o st).ok (Zy C ops r (apply st o (KQ (C.put f q.2.1) ops o st)) K)
abbrev Bs:=List UInt8
def chk {ρ :Type} (c:Bool) (k:Option ρ):Option ρ :=bif c then k else none
def Jq {α ρ :Type} [Inhabited α] (o:Option α) (k: α ->Option ρ):Option ρ :=bif o.isSome then k (o.getD default)else none
def J6 {X Y ρ :Type} (B:X->(X->Option ρ)->(Y->Option ρ)->Option ρ):Nat->X->(Y->Option ρ)->Option ρ
 | 0,_,_=>none
 | n+1,x,kx=>B x (fun x'=>J6 B n x' kx) kx
def KJ (o:Oper) (st:St):List A:=(Ls o.op (o.op.operands.toList.map (Ll st.tmps))).2
def Aaf:Op->List A->Bool
 | .move _,_=>true
 | .assign _,_=>true
 | .load _ _,[.clo _ _]=>true
 | _,_=>false
def fM:Op->List A->Option Nat
 | .nilCheck _,[.ptr o _]=>some o
 | .fieldAddr _ _ _,[.ptr o _]=>some o
 | .load _ _,[.ptr o _]=>some o
 | _,_=>none
def LX (o:Oper) (st:St) (vs:List A):List Nat:=bif Aaf o.op vs then []else match fM o.op vs with
 | some q=>[q]
 | none=>vs.flatMap A.ids++(fetch st.Jr (vs.flatMap A.ids)).flatMap (fun p=>p.2.ids)
def oneOf (C:Ctx):Op->List A->Option (Nat×Nat×Nat)
 | .nilCheck _,[.ptr o _]=>some (o,0,0)
 | .fieldAddr _ _ _,[.ptr o _]=>some (o,0,0)
 | .load t _,[.ptr o off]=>match C.T t with
  | some ti=>bif Nat.blt 0 ti.cs.length then some (o,off,ti.cs.length)else none
  | none=>none
 | _,_=>none
structure LM where
 o:Oper
 δ :Dl
 rd:List Nat
 one:Option (Nat×Nat×Nat)
 anc:List Nat
def LM.news (x:LM):List Nat:=x.δ.new.map (·.1)
def LM.keys (x:LM):List Nat:=x.δ.upd.map (·.1)++x.δ.del++x.news
def LM.says (x:LM):List Nat:=x.δ.val.ids++x.δ.upd.flatMap (fun p=>p.2.ids)++x.δ.new.flatMap (fun p=>p.2.ids)
def WA (a b:List Nat):Bool:=a.all (fun n=> !(has b n))
def slotsOf (ops:List Oper) (o:Oper):List Nat :=
 (o.op.operands.toList.filterMap fun | .tmp t=>some t | _=>none) ++
 (match o.guard with
  | some (g,_)=>match ops[g]? with
   | some x=>match x.dst with | some t=>[t] | none=>[]
   | none=>[]
  | none=>[])
def jA (o:Oper):List Nat:=match o.dst with | some d=>[d] | none=>[]
def calm (x y:LM):Bool:=match x.one with
 | none=>false
 | some (q,off,n)=> !(has x.keys q)&&(!(has y.δ.del q)&&(!(has y.news q)&&(y.δ.same.any (fun e=>Nat.beq e.1 q)&&(List.range n).all (fun k=>y.δ.same.any (fun e=>Nat.beq e.1 q&&Nat.beq e.2 (off+k))))))
def indep (ops:List Oper) (x y:LM):Bool :=
 WA (jA x.o) (jA y.o)&&WA (jA x.o) (slotsOf ops y.o)&&WA (jA y.o) (slotsOf ops x.o) &&
 WA x.keys y.rd&&(WA y.keys x.rd||calm x y)&&WA x.keys y.keys&&WA x.news y.says
def kT (ops:List Oper) (i:Nat) (x y:LM):Bool:=WA y.news x.says&&WA y.news x.keys&&(has y.anc i||indep ops x y)
def bD (o:Oper):List Nat:=o.after.toList.filterMap fun e=>bif Region.binds .any e then some e.on else none
def WN (C:Ctx) (ops:List Oper):List Oper->List (List Nat)->St->List LM
 | [],_,_=>[]
 | o::r,acc,st=>match KQ C ops o st,(bD o).flatMap (fun e=>e::acc.getD e [])with
  | δ,an=>⟨o,δ,LX o st (KJ o st),oneOf C o.op (KJ o st),an⟩::WN C ops r (acc++[an]) (apply st o δ)
def qG (ops:List Oper):Nat->List LM->Bool
 | _,[]=>true
 | i,x::r=>r.all (kT ops i x)&&qG ops (i+1) r
def backward:Nat->List Oper->Bool
 | _,[]=>true
 | i,o::r=>o.after.toList.all (fun e=>Nat.blt e.on i)&&backward (i+1) r
def Tv:Nat->List Oper->Bool
 | _,[]=>true
 | i,o::r=>o.after.toList.all (fun e=> !(Region.binds .any e)||Nat.blt e.on i)&&Tv (i+1) r
def ranks (md:Region.Mode) (ops:List Oper):Nat->List Nat->List Nat
 | 0,r=>r
 | n+1,r=>ranks md ops n (ops.map fun o=>o.after.toList.foldl (fun m e=>bif Region.binds md e then(bif Nat.ble m (r.getD e.on 0)then r.getD e.on 0+1 else m)else m) 0)
def iM (md:Region.Mode) (n:Nat) (rk:List Nat):Nat->List Oper->Bool
 | _,[]=>true
 | i,o::r=>o.after.toList.all (fun e=> !(Region.binds md e)||(Nat.blt e.on n&&Nat.blt (rk.getD e.on 0) (rk.getD i 0)))&&iM md n rk (i+1) r
def Akr (md:Region.Mode) (ops:List Oper):Bool:=iM md ops.length (ranks md ops ops.length (ops.map fun _=>0)) 0 ops
def ordered (ops:List Oper):Bool:=Tv 0 ops&&(backward 0 ops||(Akr .text ops&&Akr .gc ops&&Akr .any ops))
def sorted:List (Nat×Obj)->Bool
 | []=>true
 | [_]=>true
 | (n,_)::(k,y)::r=>Nat.blt n k&&sorted ((k,y)::r)
def VS (C:Ctx) (ops:List Oper) (st:St):Bool :=
 match WN C ops ops [] st with
 | fs=>ordered ops&&qG ops 0 fs&&(fs.flatMap LM.news).all st.fresh&&sorted st.Jr
def OE (f t:Nat):A->A
 | .ptr o off=>.ptr (bif Nat.beq o f then t else o) off
 | .own o=>.own (bif Nat.beq o f then t else o)
 | .clo g o=>.clo g (bif Nat.beq o f then t else o)
 | .bsl o n=>.bsl (bif Nat.beq o f then t else o) n
 | .osl o n=>.osl (bif Nat.beq o f then t else o) n
 | .LU o i off=>.LU (bif Nat.beq o f then t else o) i off
 | .agg cs=>.agg (cs.map fun
  | .ptr o off=>.ptr (bif Nat.beq o f then t else o) off
  | .own o=>.own (bif Nat.beq o f then t else o)
  | .clo g o=>.clo g (bif Nat.beq o f then t else o)
  | .bsl o n=>.bsl (bif Nat.beq o f then t else o) n
  | .osl o n=>.osl (bif Nat.beq o f then t else o) n
  | .LU o i off=>.LU (bif Nat.beq o f then t else o) i off
  | c=>c)
 | a=>a
def AfZ (f t:Nat):Obj->Obj
 | .box cs=>.box (cs.map (OE f t))
 | x=>x
def drop (keep:List Nat):List A->Nat->List A
 | [],_=>[]
 | a::r,i=>(bif has keep i then a else .undef)::drop keep r (i+1)
def Aga (st:St):List (Nat×Nat)->Bool×St
 | []=>(true,st)
 | (f,t)::r=>match J5 st.Jr f with
  | some x=>match Aga {tmps:=st.tmps.map (OE f t),Jr:=(N7 (Uu st.Jr f) t x).map (fun p=>(p.1,AfZ f t p.2))} r with
   | (ok,st')=>((bif Nat.beq f t then true else st.fresh t)&&ok,st')
  | none=>Aga st r
def Apq (Jr:List (Nat×Obj)):List Nat->List (Nat×Obj)
 | []=>Jr
 | n::r=>match J5 Jr n with
  | some (.arr e _ l)=>Apq (N7 Jr n (.arr e true l)) r
  | _=>Apq Jr r
def Awd:Nat->List (Nat×Obj)->List Nat->List Nat
 | 0,_,l=>l
 | n+1,Jr,l=>l++Awd n Jr ((fetch Jr l).flatMap (fun p=>p.2.ids))
def reached (tmps:List A) (Jr:List (Nat×Obj)):List Nat:=Awd 4 Jr (tmps.flatMap A.ids++(Jr.map (·.1)).filter dW)
def AaL:A->Bool | .LJ=>true | _=>false
def Agc (id:Nat):List Nat->List A->List A
 | [],l=>l
 | t::r,l=>Agc id r (l.set t (.own id))
def owns:List (List Nat×Nat×Ty×Nat)->St->Bool×St
 | [],st=>(true,st)
 | (ts,e,ty,id)::r,st=>bif ts.any (fun t=>AaL (st.tmps.getD t .undef))then
     match owns r {tmps:=Agc id ts st.tmps,Jr:=N7 st.Jr id (.arr e false ⟨ty,[]⟩)}with
     | (ok,st')=>(ts.all (fun t=>AaL (st.tmps.getD t .undef)&&Nat.blt t st.tmps.length)&&st.fresh id&&ok,st')
  else owns r st
def pzs:List (Option Nat×Nat×Ty)->St->St
 | [],st=>st
 | (none,t,ty)::r,st=>match st.tmps.getD t .undef with
  | .LJ=>pzs r {st with tmps:=st.tmps.set t (.sl ⟨ty,[]⟩)}
  | .own o=>match J5 st.Jr o with
   | some (.arr e _ l)=>pzs r {tmps:=st.tmps.set t (.sl l),Jr:=N7 st.Jr o (.arr e true l)}
   | _=>pzs r st
  | _=>pzs r st
 | (some b,j,_)::r,st=>match J5 st.Jr b with
  | some (.box cs)=>match cs.getD j .undef with
   | .own o=>match J5 st.Jr o with
    | some (.arr e _ l)=>pzs r {st with Jr:=N7 (N7 st.Jr o (.arr e true l)) b (.box (cs.set j (.sl l)))}
    | _=>pzs r st
   | _=>pzs r st
  | _=>pzs r st
def norm (C:Ctx) (key:Nat) (st0:St):Bool×St :=
 match C.nrm key with
 | none=>(true,st0)
 | some n =>
  match pzs n.pz st0 with
  | st=>match Aga {tmps:=drop n.keep st.tmps 0,Jr:=st.Jr.filter (fun p=>has (reached (drop n.keep st.tmps 0) st.Jr) p.1)} n.ren with
   | (ok,st')=>match owns n.nw st' with
    | (ok',st'')=>(ok&&ok',{st'' with Jr:=Apq st''.Jr n.frz})
inductive Ex where
 | normal
 | exit (id:Nat)
def MS:Code->Option Nat
 | .region id _ _=>some id
 | .seq a b=>match MS a with | some n=>some n | none=>(MS b).map (· +4096)
 | .cond _ a b=>match MS a with | some n=>some n | none=>MS b
 | .block _ c=>MS c
 | .loop c=>MS c
 | .scope c=>MS c
 | _=>none
def VW {ρ :Type} (C:Ctx) (key:Nat) (st:St) (K:St->Option ρ):Option ρ :=
 match norm C key st with
 | (ok,st')=>bif ok then K st' else none
def meet {ρ :Type} (C:Ctx) (kind:Nat) (c:Code) (st:St) (K:St->Option ρ):Option ρ :=
 match MS c with
 | some n=>VW C (4*n+kind) st K
 | none=>K st
def rounds {ρ :Type} (head:St->(St->Option ρ)->Option ρ) (body:St->(Ex->St->Option ρ)->Option ρ):Nat->St->(Ex->St->Option ρ)->Option ρ
 | 0,_,_=>none
 | n+1,st,K=>body st fun
  | .normal,st'=>head st' fun st''=>rounds head body n st'' K
  | .exit id,st'=>K (.exit id) st'
def AiR:Nat:=(fun(_:Option Nat)=>0) (J6 (X:=Nat) (Y:=Nat) (fun _ _ _=>none) 0 0 (fun _=>none))
def peek (C:Ctx) (ops:List Oper) (s:Nat):List Oper->St->A
 | [],st=>(st.tmps.getD s .undef).Qx.2
 | o::r,st=>peek C ops s r (apply st o (KQ C ops o st))
def split {α :Type} (C:Ctx) (id:Nat) (ops:List Oper) (st:St) (f:Ctx->Option α):Option α :=
 (fun(_:Nat)=>match C.spl id with
 | none=>f C
 | some (k,s,ds)=>match peek C ops s (ops.take k) st with
  | .bool b=>match b with
   | true=>f (C.decide ds true)
   | false=>f (C.decide ds false)
  | _=>none) AiR
def pV {α :Type} {C:Ctx} {id:Nat} {ops:List Oper} {st:St} {f:Ctx->Option α} {v: α} (h:split C id ops st f=some v):(f C=some v\/ ∃ ds b,f (C.decide ds b)=some v)/\ ∀ f':Ctx->Option α,(∀ C',f C'=some v->f' C'=some v)->split C id ops st f'=some v:=by
 unfold split at h ⊢;dsimp only at h ⊢;cases hs:C.spl id with
 | none=>rw[hs]at h;exact⟨.inl h,fun f' hf=>hf C h⟩
 | some q =>
  obtain⟨k,s,ds⟩:=q;rw[hs]at h;dsimp only at h ⊢;generalize peek C ops s (ops.take k) st=x at h ⊢;cases x with
  | bool b=>cases b<;>exact⟨.inr ⟨_,_,h⟩,fun f' hf=>hf _ h⟩
  | _=>cases h
def exec {ρ :Type} (C:Ctx) (N:Nat) (fin:St->Option ρ):Code->St->(Ex->St->Option ρ)->Option ρ
 | .skip,st,K=>K .normal st
 | .region id ops false,st,K=>split C id ops.toList st fun C=>Zy C ops.toList ops.toList st fun st'=>K .normal st'
 | .region id ops true,st,K=>split C id ops.toList st fun C=>bif VS C ops.toList st then Zz C ops.toList ops.toList st fun st'=>K .normal st' else none
 | .seq a b,st,K=>exec C N fin a st fun
  | .normal,st'=>meet C 1 b st' fun st''=>exec C N fin b st'' K
  | .exit id,st'=>K (.exit id) st'
 | .cond c a b,st,K=>match Ll st.tmps c with
  | .bool t=>bif t then exec C N fin a st K else exec C N fin b st K
  | .cnd g (.bool t)=>bif g then bif t then exec C N fin a st K else exec C N fin b st K else none
  | _=>none
 | .block id c,st,K=>exec C N fin c st fun
  | .exit j,st'=>bif Nat.beq j id then K .normal st' else K (.exit j) st'
  | .normal,st'=>K .normal st'
 | .loop c,st,K=>meet C 2 c st fun st'=>rounds (meet C 2 c) (exec C N fin c) N st' K
 | .exit id,st,K=>VW C (4*id+3) st fun st'=>K (.exit id) st'
 | .scope c,st,K=>exec C N fin c st K
 | .label _,st,K=>K .normal st
 | .ret,st,_=>fin st
 | _,_,_=>none
def Ty.OL: ∀(t:Ty) (v:t.Val),(t.cells v).length=t.len
 | .nil,_=>rfl
 | .bool r,v=>by simp [Ty.cells,Ty.len,Ty.OL r]
 | .int _ r,v=>by simp [Ty.cells,Ty.len,Ty.OL r]
 | .str r,v=>by simp [Ty.cells,Ty.len,Ty.OL r]
 | .sl _ _ r,v=>by simp [Ty.cells,Ty.len,Ty.OL r]
 | .ptr r,v=>by simp [Ty.cells,Ty.len,Ty.OL r v]
 | .fn r,v=>by simp [Ty.cells,Ty.len,Ty.OL r]
 | .mp _ _ r,v=>by simp [Ty.cells,Ty.len,Ty.OL r]
theorem Ty.Qo {α :Type} (r:Ty) (a: α) (b:r.Val):r.hd (r.mk2 a b)=a:=by cases r<;>rfl
theorem Ty.Qy {α :Type} (r:Ty) (a: α) (b:r.Val):r.tl (r.mk2 a b)=b:=by cases r<;>rfl
theorem Sl.KY (l:Sl):l.es.length=l.xs.length:=by simp [Sl.es]
def Sl.es_len (l:Sl): ∀ e∈l.es,e.length=l.sz:=by intro e he;obtain⟨v,_,rfl⟩:=DD.1 he;exact Ty.OL _ _
def Sl.at_eq (l:Sl) {i:Nat} (h:i<l.xs.length):l.at i=l.es.getD i []:=by grind[Sl.at,Sl.es]
def Sl.AuJ (l:Sl) (i:Nat):(l.at i).length=l.sz:=Ty.OL _ _
theorem Sl.Rl {l:Sl} {t:Ty} {xs:List t.Val} (h:l.cast t=some xs):l=⟨t,xs⟩:=by
 unfold Sl.cast at h;split at h
 .rename_i e _;obtain⟨s,ys⟩:=l;all_goals grind
 .cases h
def Sl.jX (t:Ty) (xs:List t.Val):(⟨t,xs⟩:Sl).cast t=some xs:=by
 unfold Sl.cast;split
 .rfl
 .grind
theorem Mp.Rl {l:Mp} {kt vt:Ty} {xs:List (kt.Val×vt.Val)} (h:l.cast kt vt=some xs):l=⟨kt,vt,xs⟩:=by
 unfold Mp.cast at h;split at h
 .rename_i e _;obtain⟨k,v,ys⟩:=l;dsimp only at e;subst e;split at h;all_goals grind
 .cases h
def Mp.jX (kt vt:Ty) (xs:List (kt.Val×vt.Val)):(⟨kt,vt,xs⟩:Mp).cast kt vt=some xs:=by
 unfold Mp.cast;split
 .split
  .rfl
  .grind
 .grind
theorem A.Si {j k:IntKind} (h:A.kEq j k=true):j=k:=by cases j<;>cases k<;>first | rfl | cases h
def Ty.V7: ∀(t:Ty) (cs:List A),(t.mk cs).1=true->t.cells (t.mk cs).2=cs:=by
 intro t
 induction t with
 | nil =>
  intro cs h;cases cs with
  | nil=>rfl
  | cons _ _=>simp [Ty.mk]at h
 | fn r ih=>grind[Ty.mk,Ty.cells,Ty.Qo,Ty.Qy]
 | mp kt vt r _ _ ih =>
  intro cs h;unfold Ty.mk at h ⊢;split at h
  .rename_i l cs;cases hc:l.cast kt vt with
   | none=>rw[hc]at h;simp at h
   | some xs=>grind[Ty.cells,Ty.Qo,Ty.Qy,Mp.Rl]
  .simp at h
 | bool r ih=>grind[Ty.mk,Ty.cells,Ty.Qo,Ty.Qy]
 | int k r ih=>grind[Ty.mk,Ty.cells,Ty.Qo,Ty.Qy,A.Si]
 | str r ih=>grind[Ty.mk,Ty.cells,Ty.Qo,Ty.Qy]
 | sl e t r _ ih =>
  intro cs h;unfold Ty.mk at h ⊢;split at h
  .rename_i l cs;cases hc:l.cast t with
   | none=>rw[hc]at h;simp at h
   | some xs=>grind[Ty.cells,Ty.Qo,Ty.Qy,Sl.Rl]
  .simp at h
 | ptr r ih =>
  intro cs h;unfold Ty.mk at h ⊢;split at h
  .rename_i cs;show A.MP::r.cells (r.mk cs).2=_;rw[ih cs h]
  .simp at h
def Ty.Au8: ∀(ks:List CK),ks.all CK.plain=true->(tyl ks).cells (tyl ks).zero=ks.map CK.Q8:=by
 intro ks
 induction ks with
 | nil=>intro _;rfl
 | cons k ks ih=>grind[tyl,Ty.cells,Ty.Qo,Ty.Qy,CK.Q8,CK.zero,CK,CK.plain,cells,zero]
def Yg (ks:List CK):(tyl ks).len=ks.length:=by
 induction ks with
 | nil=>rfl
 | cons k ks ih=>cases k<;>simp [tyl,Ty.len,ih]
def Sl.A0a (l:Sl) {i off:Nat} {cs:List A} (hi:i<l.xs.length) (h:(l.set i off cs).1=true):(l.set i off cs).2.es=l.es.set i (splice (l.es.getD i []) off cs):=by have:=Ty.V7 _ _ h;rw[<- l.at_eq hi];all_goals simp_all[Sl.set,Sl.es,hi,splice]
def Sl.Avq (t:Ty) (xs ys:List t.Val):(⟨t,xs++ys⟩:Sl).es=(⟨t,xs⟩:Sl).es++(⟨t,ys⟩:Sl).es:=by simp [Sl.es]
def Sl.Avr (l:Sl) (a b:Nat):(⟨l.t,J9 l.xs a b⟩:Sl).es=J9 l.es a b:=by simp_all[Sl.es,J9]
def Sl.rU (ks:List CK) (n:Nat) (h:ks.all CK.plain=true):(⟨tyl ks,List.replicate n (tyl ks).zero⟩:Sl).es=List.replicate n (ks.map CK.Q8):=by simp [Sl.es,List.map_replicate,Ty.Au8 ks h]
def Sl.Avs (t:Ty):(⟨t,[]⟩:Sl).es=[]:=rfl
def QW (P:Program):Nat->Nat->Option (List CK)
 | 0,_=>none
 | n+1,t=>match P.underlying t with
  | some .bool=>some [.bool]
  | some (.int k)=>some [.int k]
  | some .string=>some [.str]
  | some (.slice e)=>match QW P n e with
   | some cs=>bif cs.all CK.plain then some [.sl e (tyl cs)]else some [.oth]
   | none=>some [.oth]
  | some (.pointer _)=>some [.ptr]
  | some (.struct fs)=>fs.toList.foldr (fun f acc=>match QW P n f.type,acc with | some a,some b=>some (a++b) | _,_=>none) (some [])
  | some (.array m e)=>match QW P n e with
   | some a=>bif Nat.ble (m*a.length) 4096 then some ((List.replicate m a).flatten)else none
   | none=>none
  | some (.tuple _)=>none
  | some (.func _ _ _)=>some [.fn]
  | some _=>some [.oth]
  | none=>none
def KR:List Value->List CK->Bool
 | [],[]=>true
 | .bool false::vs,.bool::ks=>KR vs ks
 | .int k 0::vs,.int k'::ks=>A.kEq k k'&&KR vs ks
 | .string s::vs,.str::ks=>s.data.toList.isEmpty&&KR vs ks
 | .slice none 0 0::vs,.sl _ _::ks=>KR vs ks
 | .pointer none::vs,.ptr::ks=>KR vs ks
 | .nilFunc::vs,.fn::ks=>KR vs ks
 | v::vs,.oth::ks=>v.oneCell'&&KR vs ks
 | _,_=>false
def bM:TypeDesc->Bool
 | .struct _ | .array _ _=>true
 | _=>false
def Afi:Value->Bool
 | .agg _=>true
 | _=>false
def bF (P:Program):List Field->Nat->Option (List CK)
 | [],_=>some []
 | f::r,n=>match P.underlying f.type,bF P r (n+1)with
  | some .bool,some ks=>bif f.name != "_" &&Nat.beq f.offset n then some (.bool::ks)else none
  | some (.int k),some ks=>bif f.name != "_" &&Nat.beq f.offset n then some (.int k::ks)else none
  | some .string,some ks=>bif f.name != "_" &&Nat.beq f.offset n then some (.str::ks)else none
  | _,_=>none
def AsJ (P:Program) (t:Nat):TypeDesc->List CK
 | .struct fs=>match bF P fs.toList 0 with
  | some ks=>bif !(P.stoodInHeld t)&& !(P.eqGuardType P.depth t)then ks else []
  | none=>[]
 | _=>[]
def Au3 (P:Program) (t:Nat):Option TI :=
 match P.underlying t,P.info? t,QW P 20 t with
 | some d,some i,some cs=>match i.zero with
  | some z=>bif Nat.beq i.size cs.length&&KR z.cells.toList cs&&(bM d==Afi z)then some ⟨d,cs,i.bytes,AsJ P t d⟩else none
  | none=>none
 | _,_,_=>none
end Go.Proofs.YtakmjgnpefmjhaaGreatDoor.Vm
