/-
  RequestCheck: the law returns true whatever the input; machine, functions, plain law (28 files)
-/
import Derived.RowKit
import Derived.Laws.Sem
set_option linter.all false
namespace Go.Proofs.YtacidcemomccpaaGreatDoor
open Go
def Dk {p:Prop} [Decidable p] (h:p:=by omega):decide p=true:=decide_eq_true h
def Dn:=@List.getD_eq_getElem?_getD
def Dp:=@List.length_append
def A0f {p:Prop} [Decidable p] (h:¬p:=by omega):decide p=false:=decide_eq_false h
def Dq {p:Prop} [Decidable p] (h:¬p):decide p=false:=decide_eq_false h
def A0g {c:Prop} {h:Decidable c} (n:¬c:=by omega) {α:Sort _} {t e:α}:(if c then t else e)=e:=if_neg n
def Dt {c:Prop} {h:Decidable c} (n:¬c) {α:Sort _} {t e:α}:(if c then t else e)=e:=if_neg n
def A0h {c:Prop} {h:Decidable c} (n:c:=by omega) {α:Sort _} {t e:α}:(if c then t else e)=t:=if_pos n
def Du {c:Prop} {h:Decidable c} (n:c) {α:Sort _} {t e:α}:(if c then t else e)=t:=if_pos n
def Dv:=@Array.getD_eq_getD_getElem?
def Dw:=@Bool.and_eq_true
def Dx:=@Nat.eq_of_beq_eq_true
def Dy:=@List.mem_cons_self
def Dz:=@List.mem_cons_of_mem
def D5:=@List.length_map
def D6:=@decide_eq_true_eq
def D7:=@List.mem_cons
def D8:=@List.getElem?_eq_getElem
def D9:=@List.length_take
def DC:=@of_decide_eq_true
def DD:=@Nat.le_refl
def DF:=@List.mem_append_right
def DI:=@List.all_eq_true
def DJ:=@List.mem_append_left
def DK:=@List.mem_map
def DL:=@Sem.run_bind
def DN:=@List.mem_append
def DR:=@Nat.le_of_ble_eq_true
def DT:=@List.append_nil
def DU:=@List.length_drop
def DV:=@Nat.zero_add
def DW:=@List.length_range
def DX:=@Array.getElem?_eq_some_iff
def DY:=@Nat.mul_le_mul_right
def DZ:=@Bool.true_or
def Ea:=@List.append_assoc
def Eb:=@Nat.zero_le
def Ec:=@List.mem_singleton
def Ed:=@List.getElem?_eq_none
def Ee:=@List.length_replicate
def Ef:=@Bool.or_eq_true
def Eg:=@List.mem_flatMap
def Eh:=@Nat.lt_or_ge
def Ei:=@beq_false_of_ne
def Ej:=@List.getElem_mem
def Em:=@List.map_cons
def En:=@Array.getElem?_eq_getElem
def Eo:=@decide_eq_false_iff_not
def Ep:=@List.getElem?_map
def Es:=@beq_self_eq_true
def Et:=@Nat.add_mul
def Eu:=@List.map_congr_left
def Ew:=@run_underlying
def Ey:=@Eq.trans
def Ez:=@List.getElem?_append_left
def E5:=@List.take_length
def E8:=@of_decide_eq_false
def EC:=@Bool.not_false
def ED:=@Bool.not_true
def EE:=@Nat.add_assoc
def EF:=@Nat.blt_eq
def EG:=@Option.isSome_iff_exists
def EH:=@Bool.not_eq_true'
def EI:=@List.getElem?_append_right
def EJ:=@Array.getElem?_append_left
def EK:=@List.pairwise_cons
def EL:=@Bool.false_or
def EM:=@bne_iff_ne
def EN:=@List.drop_eq_getElem_cons
def EO:=@Bool.or_false
def EP:=@Bool.or_true
def ER:=@Bool.true_and
def ES:=@List.map_map
def ET:=@Array.getElem?_toList
def EU:=@Int.eq_ofNat_of_zero_le
def EW:=@Bool.false_and
def EX:=@Nat.lt_of_lt_of_le
def EY:=@List.take_add_one
def EZ:=@List.any_eq_false
def Fa:=@Array.getElem?_setIfInBounds
def Fb:=@List.map_append
def Fe:=@List.not_mem_nil
def Ff:=@Bool.or_eq_false_iff
def Fg:=@List.map_nil
def Fh:=@Int.tmod_eq_emod_of_nonneg
def Fj:=@List.drop_drop
def Fp:=@List.take_of_length_le
def Fq:=@List.flatMap_cons
def Fv:=@Option.some.inj
def Fz:=@Bool.eq_iff_iff
def F5:=@Nat.mod_eq_of_lt
def F6:=@Nat.mul_one
def F7:=@Int.le_refl
def F8:=@beq_iff_eq
def F9:=@Option.some.injEq
def FB:=@Array.getElem?_append_right
def FC:=@Array.ext
def FD:=@Int.fdiv_eq_ediv_of_nonneg
def FH:=@UInt8.toNat_ofNat'
def FK:=@List.getElem?_drop
def FM:=@Bool.and_eq_false_iff
def FN:=@List.length_set
def FO:=@List.eq_of_mem_replicate
def FP:=@List.mem_iff_getElem
def FQ:=@List.mem_of_getElem?
def FT:=@List.mem_of_mem_drop
def FU:=@List.eq_nil_of_length_eq_zero
def FV:=@List.take_append_of_le_length
def FW:=@List.getD_cons_zero
def FX:=@List.flatten_append
def FY:=@List.length_pos_iff
def FZ:=@List.any_eq_true
def Gf:=@List.map_id
def Gg:=@List.getElem?_take
def Gh:=@BitVec.toNat_ofNat
def Gi:=@Bool.and_self
def Gj:=@List.getElem?_set
def Gl:=@Bool.eq_false_iff
def Gm:=@List.mem_of_mem_take
def Gp:=@World.cell?_setCell_other
def Gq:=@World.cell?_setCell_same
def Gs:=@List.length_flatten
def Gt:=@List.length_eq_zero_iff
def Gu:=@eq_of_beq
def Gv:=@decide_true
def Gw:=@List.drop_append_of_le_length
def Gx:=@List.findIdx_cons
def Gy:=@List.mem_range
def Gz:=@UInt8.toNat_lt
def G5:=@List.drop_zero
def G6:=@List.take_append_drop
def G7:=@List.drop_left
def G8:=@if_false
def G9:=@List.isEmpty_iff
def GG:=@List.drop_length
def GH:=@Nat.pow_le_pow_right
def GI:=@Bool.and_true
def GK:=@Nat.le_trans
def GL:=@List.getElem?_take_of_lt
def GM:=@List.mem_filterMap
def GN:=@or_false
def GR:=@List.isEmpty_eq_false_iff_exists_mem
def GU:=@Nat.add_sub_cancel_left
def GV:=@Classical.axiomOfChoice
def GX:=@List.pairwise_singleton
def GY:=@List.not_all_eq_any_not
def GZ:=@Option.bind_eq_some_iff
def Ha:=@Array.getElem?_eq_none
def He:=@List.drop_eq_nil_of_le
def Hf:=@List.length_eq_one_iff
def Hg:=@List.range_succ_eq_map
def Hl:=@Nat.div_div_eq_div_mul
def Hm:=@List.getElem_map
def Ho:=@Array.toList_inj
def Hq:=@Nat.shiftLeft_eq
def Hr:=@Bool.or_not_self
def Ht:=@decide_eq_decide
def Hu:=@List.mem_iff_getElem?
def Hw:=@decide_false
def Hy:=@Nat.mul_comm
def Hz:=@Nat.zero_mul
def H5:=@Bool.or_self
def H6:=@UInt8.toNat_inj
def H7:=@List.range_succ
def H8:=@Nat.shiftLeft_add_eq_or_of_lt
def H9:=@List.mergeSort_perm
def HY:=@List.getD_cons_succ
def Ia:=@List.take_left
def Ib:=@Bool.false_eq_true
def Ic:=@Bool.not_eq_false'
def Ie:=@Int.tdiv_eq_ediv_of_nonneg
def Ig:=@List.foldl_append
def Ih:=@UInt8.ofNat_toNat
def Ii:=@List.mem_or_eq_of_mem_set
def Ij:=@List.getElem?_zip_eq_some
def Ik:=@Array.toList_map
def Il:=@Nat.ne_of_lt
def Io:=@Array.size_setIfInBounds
def Ip:=@Nat.sub_self
def Iq:=@Bool.not_or_self
def Ir:=@Nat.exists_eq_add_of_le'
def Iu:=@List.flatMap_eq_nil_iff
def Iw:=@List.getElem?_replicate
def Iy:=@Nat.not_lt_zero
def Iz:=@Nat.min_eq_left
def I4:=@eq_of_heq
def I5:=@List.all_append
def I7:=@Nat.div_le_self
def I8:=@Bool.not_or
def I9:=@List.drop_take
def IA:=@List.mapM_cons
def IB:=@Array.getElem?_modify
def IE:=@Nat.div_lt_iff_lt_mul
def IG:=@dif_pos
def II:=@Bool.cond_false_right
def IJ:=@Bool.cond_self
def IK:=@Bool.and_false
def IL:=@List.set_append_right
def IM:=@List.Perm.refl
def IP:=@Int.pow_nonneg
def IQ:=@Array.mem_of_getElem?
def IU:=@List.getElem?_append
def IV:=@List.pairwise_append
def IW:=@Bool.cond_false_left
def IX:=@Bool.cond_true_right
def IY:=@List.range_eq_range'
def IZ:=@Nat.lt_irrefl
def Ja:=@List.map_drop
def Jb:=@Bool.beq_comm
def Jc:=@Bool.cond_true_left
def Jd:=@List.drop_succ_cons
def Je:=@Int.toNat_of_nonneg
def Jf:=@List.getElem?_range
def Jg:=@Array.foldl_toList
def Jh:=@Nat.lt_or_gt_of_ne
def Ji:=@Int.mul_comm
def Jj:=@Nat.eq_zero_or_pos
def Jk:=@Array.append_assoc
def Jl:=@List.getElem_range
def Jm:=@Int.tmod_lt_of_pos
def Jn:=@BitVec.getLsbD_and
def Jo:=@if_true
def Jp:=@wp_mono
def AzR:=@Nat.mul_add
def AzV:=@Prod.ext
end Go.Proofs.YtacidcemomccpaaGreatDoor
namespace Go.Proofs.YtacidcemomccpaaGreatDoor.Vm
inductive Ty where
 | nil
 | bool (r:Ty)
 | int (k:IntKind) (r:Ty)
 | str (r:Ty)
 | sl (e:Nat) (t:Ty) (r:Ty)
 | ptr (r:Ty)
 | fn (r:Ty)
 | mp (kt vt:Ty) (r:Ty)
 deriving DecidableEq,Inhabited
namespace Ty
def pr (α :Type) (β :Type):Ty->Type
 | .nil=> α
 | _=> α × β
def Val:Ty->Type
 | .nil=>Unit
 | .bool r=>pr Bool r.Val r
 | .int _ r=>pr Int r.Val r
 | .str r=>pr (List UInt8) r.Val r
 | .sl _ t r=>pr (List t.Val) r.Val r
 | .ptr r=>r.Val
 | .fn r=>pr Nat r.Val r
 | .mp kt vt r=>pr (List (kt.Val×vt.Val)) r.Val r
def hd {α β :Type}:(r:Ty)->pr α β r-> α
 | .nil,a=>a
 | .bool _,p=>p.1
 | .int _ _,p=>p.1
 | .str _,p=>p.1
 | .sl _ _ _,p=>p.1
 | .ptr _,p=>p.1
 | .fn _,p=>p.1
 | .mp _ _ _,p=>p.1
def tl {α :Type}:(r:Ty)->pr α r.Val r->r.Val
 | .nil,_=>()
 | .bool _,p=>p.2
 | .int _ _,p=>p.2
 | .str _,p=>p.2
 | .sl _ _ _,p=>p.2
 | .ptr _,p=>p.2
 | .fn _,p=>p.2
 | .mp _ _ _,p=>p.2
def mk2 {α :Type}:(r:Ty)-> α ->r.Val->pr α r.Val r
 | .nil,a,_=>a
 | .bool _,a,b=>(a,b)
 | .int _ _,a,b=>(a,b)
 | .str _,a,b=>(a,b)
 | .sl _ _ _,a,b=>(a,b)
 | .ptr _,a,b=>(a,b)
 | .fn _,a,b=>(a,b)
 | .mp _ _ _,a,b=>(a,b)
def zero:(t:Ty)->t.Val
 | .nil=>()
 | .bool r=>mk2 r false r.zero
 | .int _ r=>mk2 r 0 r.zero
 | .str r=>mk2 r [] r.zero
 | .sl _ _ r=>mk2 r [] r.zero
 | .ptr r=>r.zero
 | .fn r=>mk2 r 0 r.zero
 | .mp _ _ r=>mk2 r [] r.zero
def len:Ty->Nat
 | .nil=>0
 | .bool r=>r.len+1
 | .int _ r=>r.len+1
 | .str r=>r.len+1
 | .sl _ _ r=>r.len+1
 | .ptr r=>r.len+1
 | .fn r=>r.len+1
 | .mp _ _ r=>r.len+1
end Ty
structure Sl where
 t:Ty
 xs:List t.Val
 deriving Inhabited
structure Mp where
 kt:Ty
 vt:Ty
 l:List (kt.Val×vt.Val)
 deriving Inhabited
inductive CK where
 | bool | int (k:IntKind) | str | sl (e:Nat) (t:Ty) | sln (e:Nat) (t:Ty) | ptr | fn | mp (kt vt:Ty) | bx (t:Ty) | oth
 deriving DecidableEq
inductive A where
 | undef
 | bool (b:Bool)
 | int (k:IntKind) (n:Int)
 | str (s:List UInt8)
 | sl (l:Sl)
 | sln (l:Sl)
 | usl (z:Bool) (e:Nat) (l:Sl)
 | Lt
 | Mc
 | ptr (o off:Nat)
 | own (o:Nat)
 | elt (cs:List A)
 | Ku (o i off:Nat)
 | agg (cs:List A)
 | tup (vs:List A)
 | box (cs:List A)
 | clo (f o:Nat)
 | cbx (f:Nat) (cs:List A)
 | bsl (o n:Nat)
 | osl (o k:Nat)
 | fn (f:Nat)
 | ump (l:Mp)
 | cnd (g:Bool) (v:A)
 deriving Inhabited
inductive Obj where
 | box (cs:List A)
 | arr (e:Nat) (frz:Bool) (l:Sl)
 | mp (l:Mp)
 deriving Inhabited
def Ty.cells:(t:Ty)->t.Val->List A
 | .nil,_=>[]
 | .bool r,v=>.bool (r.hd v)::r.cells (r.tl v)
 | .int k r,v=>.int k (r.hd v)::r.cells (r.tl v)
 | .str r,v=>.str (r.hd v)::r.cells (r.tl v)
 | .sl _ t r,v=>.sl ⟨t,r.hd v⟩::r.cells (r.tl v)
 | .ptr r,v=>.Mc::r.cells v
 | .fn r,v=>.fn (r.hd v)::r.cells (r.tl v)
 | .mp kt vt r,v=>.ump ⟨kt,vt,r.hd v⟩::r.cells (r.tl v)
def Sl.sz (l:Sl):Nat:=l.t.len
def Sl.es (l:Sl):List (List A):=l.xs.map l.t.cells
def Sl.at (l:Sl) (i:Nat):List A:=l.t.cells (l.xs.getD i l.t.zero)
def Sl.cast (l:Sl) (t:Ty):Option (List t.Val) :=
 match decEq l.t t with
 | .isTrue h=>some (h▸l.xs)
 | .isFalse _=>none
def Mp.cast (l:Mp) (kt vt:Ty):Option (List (kt.Val×vt.Val)) :=
 match decEq l.kt kt with
 | .isTrue h=>match decEq l.vt vt with
  | .isTrue h'=>some (h▸h'▸l.l)
  | .isFalse _=>none
 | .isFalse _=>none
structure St where
 tmps:List A
 Jr:List (Nat×Obj)
def J3:List (Nat×Obj)->Nat->Option Obj
 | [],_=>none
 | (k,x)::r,n=>bif Nat.beq k n then some x else J3 r n
def TE:List (Nat×Obj)->Nat->List (Nat×Obj)
 | [],_=>[]
 | (k,x)::r,n=>bif Nat.beq k n then TE r n else(k,x)::TE r n
def dE:List (Nat×Obj)->Nat->Obj->List (Nat×Obj)
 | [],n,y=>[(n,y)]
 | (k,x)::r,n,y=>bif Nat.ble n k then(n,y)::(k,x)::r else(k,x)::dE r n y
def Ns (l:List (Nat×Obj)) (n:Nat) (y:Obj):List (Nat×Obj):=dE (TE l n) n y
def has (l:List Nat) (n:Nat):Bool:=l.any (Nat.beq n)
namespace A
def toB:A->Bool | .bool b=>b | _=>false
def isB:A->Bool | .bool _=>true | _=>false
def toI:A->Int | .int _ n=>n | _=>0
def kEq:IntKind->IntKind->Bool
 | .i8,.i8 | .i16,.i16 | .i32,.i32 | .i64,.i64 | .u8,.u8 | .u16,.u16 | .u32,.u32 | .u64,.u64=>true
 | _,_=>false
def isI (k:IntKind):A->Bool | .int k' _=>kEq k k' | _=>false
def toS:A->List UInt8 | .str s=>s | _=>[]
def isS:A->Bool | .str _=>true | _=>false
def toL:A->Sl | .sl l=>l | .sln l=>l | .usl _ _ l=>l | _=>default
def weak:A->A | .sln l=>.sl l | a=>a
def strong:A->A | .sl l=>.sln l | a=>a
def AqM:A->Bool | .sl _=>false | _=>true
def Aca (t:Ty):A->Bool | .sln l=>decide (l.t=t) | _=>false
def Ahp (t:Ty):A->Bool | .sl l=>decide (l.t=t) | _=>false
def Af7 (z:Bool) (e:Nat) (t:Ty):A->Bool | .usl z' e' l=>(z==z')&&(Nat.beq e e'&&decide (l.t=t)) | _=>false
def qR:A->Bool | .Mc=>true | _=>false
def isFn:A->Bool | .fn _=>true | _=>false
def uY (kt vt:Ty):A->Bool | .ump l=>decide (l.kt=kt)&&decide (l.vt=vt) | _=>false
def toM:A->Mp | .ump l=>l | _=>default
def ZL:A->List A | .agg cs=>cs | .box cs=>cs | .cbx _ cs=>cs | _=>[]
def Ak5 (f n:Nat):A->Bool | .cbx g cs=>Nat.beq f g&&Nat.beq cs.length n | _=>false
def isAgg (n:Nat):A->Bool | .agg cs=>Nat.beq cs.length n | _=>false
def Ak4 (n:Nat):A->Bool | .box cs=>Nat.beq cs.length n | _=>false
def isVal:A->Bool | .undef=>false | .tup _=>false | .usl _ _ _=>false | .ump _=>false | .box _=>false | .cbx _ _=>false | .cnd _ _=>false | _=>true
def cells:A->List A | .agg cs=>cs | v=>[v]
def strip:A->List Bool×A | .cnd g v=>([g],v) | v=>([],v)
def Qi:A->Bool×A | .cnd g v=>(g,v) | v=>(true,v)
def Nu:A->List Nat
 | .ptr o _=>[o] | .own o=>[o] | .Ku o _ _=>[o] | .clo _ o=>[o] | .bsl o _=>[o] | .osl o _=>[o] | _=>[]
def AuQ:A->List Nat
 | .agg cs=>cs.flatMap Nu
 | .cnd _ (.agg cs)=>cs.flatMap Nu
 | .cnd _ v=>Nu v
 | v=>Nu v
def ids:A->List Nat
 | .tup vs=>vs.flatMap AuQ
 | v=>AuQ v
end A
def Obj.ids:Obj->List Nat
 | .box cs=>cs.flatMap A.Nu
 | _=>[]
def St.ids (st:St):List Nat:=st.tmps.flatMap A.ids++st.Jr.flatMap (λp=>p.2.ids)
def YO (n:Nat):Bool:=Nat.blt n 32768&&Nat.beq (n % 256) 0
def St.fresh (st:St) (n:Nat):Bool:= !(has st.ids n)&&(J3 st.Jr n).isNone&& !(Nat.beq n 255)&& !(YO n)
def force:CK->A->List Bool×A
 | .bool,c=>([c.isB],c)
 | .int k,c=>([c.isI k],c)
 | .str,c=>([c.isS],c)
 | .sl _ t,c=>([c.Ahp t],c)
 | .sln _ t,c=>([c.Aca t],c)
 | .ptr,c=>([c.qR],c)
 | .fn,c=>([c.isFn],c)
 | .mp _ _,_=>([false],.undef)
 | .bx _,_=>([false],.undef)
 | .oth,_=>([],.undef)
def forces (cs:List A):List CK->Nat->List Bool×List A
 | [],_=>([],[])
 | k::ks,off=>((force k (cs.getD off .undef)).1++(forces cs ks (off+1)).1,(force k (cs.getD off .undef)).2::(forces cs ks (off+1)).2)
def CK.zero:CK->A
 | .bool=>.bool false
 | .int k=>.int k 0
 | .str=>.str []
 | .sl _ _=>.Lt
 | .sln _ _=>.Lt
 | .ptr=>.Mc
 | .fn=>.fn 0
 | .mp _ _=>.undef
 | .bx _=>.undef
 | .oth=>.undef
def CK.plain:CK->Bool | .oth=>false | .mp _ _=>false | .bx _=>false | _=>true
def CK.Qo:CK->A
 | .sl _ t=>.sl ⟨t,[]⟩
 | .sln _ t=>.sl ⟨t,[]⟩
 | k=>k.zero
structure TI where
 d:TypeDesc
 cs:List CK
 bytes:Nat
 cmp:List CK:=[]
def tyl:List CK->Ty
 | []=>.nil
 | .bool::r=>.bool (tyl r)
 | .int k::r=>.int k (tyl r)
 | .str::r=>.str (tyl r)
 | .sl e t::r=>.sl e t (tyl r)
 | .sln e t::r=>.sl e t (tyl r)
 | .ptr::r=>.ptr (tyl r)
 | .fn::r=>.fn (tyl r)
 | .mp kt vt::r=>.mp kt vt (tyl r)
 | .bx t::r=>.sl 0 t (tyl r)
 | .oth::r=>.ptr (tyl r)
def tck:Ty->List CK
 | .nil=>[]
 | .bool r=>.bool::tck r
 | .int k r=>.int k::tck r
 | .str r=>.str::tck r
 | .sl e t r=>.sln e t::tck r
 | .ptr r=>.ptr::tck r
 | .fn r=>.fn::tck r
 | .mp kt vt r=>.mp kt vt::tck r
def Ty.mk:(t:Ty)->List A->Bool×t.Val
 | .nil=>λcs=>(cs.isEmpty,())
 | .bool r=>fun
  | .bool b::cs=>((r.mk cs).1,r.mk2 b (r.mk cs).2)
  | _=>(false,Ty.zero (.bool r))
 | .int k r=>fun
  | .int j n::cs=>(A.kEq j k&&(r.mk cs).1,r.mk2 n (r.mk cs).2)
  | _=>(false,Ty.zero (.int k r))
 | .str r=>fun
  | .str s::cs=>((r.mk cs).1,r.mk2 s (r.mk cs).2)
  | _=>(false,Ty.zero (.str r))
 | .sl e t r=>fun
  | .sl l::cs=>match l.cast t with
   | some xs=>((r.mk cs).1,r.mk2 xs (r.mk cs).2)
   | none=>(false,Ty.zero (.sl e t r))
  | _=>(false,Ty.zero (.sl e t r))
 | .ptr r=>fun
  | .Mc::cs=>((r.mk cs).1,(r.mk cs).2)
  | _=>(false,Ty.zero (.ptr r))
 | .fn r=>fun
  | .fn n::cs=>((r.mk cs).1,r.mk2 n (r.mk cs).2)
  | _=>(false,Ty.zero (.fn r))
 | .mp kt vt r=>fun
  | .ump l::cs=>match l.cast kt vt with
   | some xs=>((r.mk cs).1,r.mk2 xs (r.mk cs).2)
   | none=>(false,Ty.zero (.mp kt vt r))
  | _=>(false,Ty.zero (.mp kt vt r))
def TI.agg (t:TI):Bool:=match t.d with | .struct _ | .array _ _=>true | _=>false
inductive Sh where
 | cell (u:Bool) (k:CK)
 | agg (cs:List (Bool×CK))
 | box (cs:List (Bool×CK))
 | map (kt vt:Ty)
 | clo (f:Nat) (cs:List (Bool×CK))
structure Sig where
 Jt:List Sh
 J7:List Sh
 ok:List A->Bool
 val:List A->List A
def Sig.F (sg:Sig) (xs:List A):Option (List A):=bif sg.ok xs then some (sg.val xs)else none
structure Nrm where
 keep:List Nat
 nw:List (List Nat×Nat×Ty×Nat)
 pz:List (Option Nat×Nat×Ty)
 ren:List (Nat×Nat)
 frz:List Nat
abbrev Alt:=Sig×Sig×(List A->Bool)
structure Ctx where
 T:Nat->Option TI
 G:Nat->Option Sig
 nrm:Nat->Option Nrm
 alt:Nat->Option Alt
 dyn:Nat->Option (Nat->Sig)
 cuts:List Nat:=[]
 binds:List Nat:=[]
 dec:Nat->Option Bool:=λ_=>none
 spl:Nat->Option (Nat×Nat×List Nat):=λ_=>none
 kept:Nat->List (Nat×Nat):=λ_=>[]
 each:Nat->List (Nat×Bool)->Option Sig:=λ_ _=>none
 Aem:Nat->Option (Nat×Sig):=λ_=>none
def Ctx.decide (C:Ctx) (ds:List Nat) (b:Bool):Ctx:= {C with dec:=λd=>bif has ds d then some b else C.dec d}
def Ctx.put (C:Ctx) (f:Nat) (s:Sig):Ctx:= {C with G:=λk=>bif Nat.beq f k then some s else C.G k}
structure Dl where
 ok:List Bool
 val:A
 new:List (Nat×Obj):=[]
 upd:List (Nat×Obj):=[]
 del:List Nat:=[]
 same:List (Nat×Nat):=[]
def Dl.no:Dl:= {ok:=[false],val:=.undef}
def Dl.v (a:A):Dl:= {ok:=[],val:=a}
def Dl.g (b:List Bool) (a:A):Dl:= {ok:=b,val:=a}
def OY:Value->A
 | .bool b=>.bool b
 | .int k n=>.int k n
 | .string s=>.str s.data.toList
 | .slice none 0 0=>.Lt
 | .pointer none=>.Mc
 | .nilFunc=>.fn 0
 | _=>.undef
def ofConst:Value->A
 | .agg vs=>bif vs.toList.all Value.oneCell' then .agg (vs.toList.map OY)else .undef
 | v=>OY v
abbrev Fet:=List (Nat×Obj)
def Ah6:CK->Sl->List Bool×A
 | .sln _ _,l=>([decide (0<l.xs.length)],.sln l)
 | _,l=>([],.sl l)
def Aym:CK->Sl->A
 | .sln _ _,l=>.sln l
 | _,l=>.sl l
def pur (fet:Fet) (k:CK):A->List Bool×A×List (Nat×Obj)
 | .own o=>match J3 fet o with
  | some (.arr e _ l)=>((Ah6 k l).1,(Ah6 k l).2,[(o,.arr e true l)])
  | _=>([false],.undef,[])
 | .Lt=>match k with
  | .sl _ t=>([],.sl ⟨t,[]⟩,[])
  | .sln _ t=>([],.sln ⟨t,[]⟩,[])
  | _=>([false],.undef,[])
 | .sln l=>([],Aym k l,[])
 | .bool b=>([],.bool b,[])
 | .int j n=>([],.int j n,[])
 | .str s=>([],.str s,[])
 | .sl l=>((Ah6 k l).1,(Ah6 k l).2,[])
 | .Mc=>([],.Mc,[])
 | .fn n=>([],.fn n,[])
 | _=>([false],.undef,[])
def KQ (fet:Fet):List CK->List A->List Bool×List A×List (Nat×Obj)
 | [],[]=>([],[],[])
 | k::ks,c::cs=>((pur fet k c).1++(KQ fet ks cs).1,(pur fet k c).2.1::(KQ fet ks cs).2.1,(pur fet k c).2.2++(KQ fet ks cs).2.2)
 | _,_=>([false],[],[])
def Ll (id:Nat):List CK->List A->List A×List (Nat×Obj)
 | .sl e t::ks,.Lt::cs=>(.own id::(Ll (id+1) ks cs).1,(id,.arr e false ⟨t,[]⟩)::(Ll (id+1) ks cs).2)
 | _::ks,c::cs=>(c::(Ll (id+1) ks cs).1,(Ll (id+1) ks cs).2)
 | _,cs=>(cs,[])
def rd (fet:Fet):A->List Bool×Sl
 | .own o=>match J3 fet o with
  | some (.arr _ _ l)=>([],l)
  | _=>([false],default)
 | .Lt=>([],default)
 | .sl l=>([],l)
 | _=>([false],default)
def rdT (fet:Fet) (t:Ty):A->List Bool×List t.Val
 | .Lt=>([],[])
 | x=>match (rd fet x).2.cast t with
  | some xs=>((rd fet x).1,xs)
  | none=>([false],[])
def Tq:Ty:=.int .u8 .nil
def rdB (fet:Fet) (x:A):List Bool×List Int:=rdT fet Tq x
def byteOf (n:Int):UInt8:=UInt8.ofNat n.toNat
def isByte (n:Int):Bool:=decide (0<=n)&&decide (n<256)
def J9 (op:BinOp) (k:IntKind) (x y:Int):Int :=
 match op with
 | .and=>k.wrap (((BitVec.ofInt k.bits x) &&& (BitVec.ofInt k.bits y)).toNat)
 | .or=>k.wrap (((BitVec.ofInt k.bits x) ||| (BitVec.ofInt k.bits y)).toNat)
 | .xor=>k.wrap (((BitVec.ofInt k.bits x) ^^^ (BitVec.ofInt k.bits y)).toNat)
 | _=>k.wrap (((BitVec.ofInt k.bits x) &&& ~~~(BitVec.ofInt k.bits y)).toNat)
def zK (op:BinOp) (k:IntKind) (x y:Int):Dl :=
 match op with
 | .add=>.v (.int k (k.wrap (x+y)))
 | .sub=>.v (.int k (k.wrap (x - y)))
 | .mul=>.v (.int k (k.wrap (x*y)))
 | .quo=>.g [y != 0] (.int k (k.wrap (x.tdiv y)))
 | .rem=>.g [y != 0] (.int k (x.tmod y))
 | .and | .or | .xor | .andNot=>.v (.int k (J9 op k x y))
 | .eql=>.v (.bool (x==y))
 | .neq=>.v (.bool (x != y))
 | .lss=>.v (.bool (decide (x<y)))
 | .leq=>.v (.bool (decide (x<=y)))
 | .gtr=>.v (.bool (decide (x>y)))
 | .geq=>.v (.bool (decide (x>=y)))
 | _=>.no
def bytesLess:List UInt8->List UInt8->Bool:=Go.Op.bytesLess
def zL (op:BinOp) (x y:List UInt8):Dl :=
 match op with
 | .add=>.g [decide (x.length+y.length<=140737488355328)] (.str (x++y))
 | .eql=>.v (.bool (x==y))
 | .neq=>.v (.bool (!(x==y)))
 | .lss=>.v (.bool (bytesLess x y))
 | .leq=>.v (.bool (bytesLess x y||x==y))
 | .gtr=>.v (.bool (!(bytesLess x y||x==y)))
 | .geq=>.v (.bool (!(bytesLess x y)))
 | _=>.no
def iR:CK->A->A->Bool×Bool
 | .bool,.bool a,.bool b=>(true,a==b)
 | .int k,.int i a,.int j b=>(A.kEq i k&&A.kEq j k,a==b)
 | .str,.str a,.str b=>(true,a==b)
 | _,_,_=>(false,false)
def QT:List CK->List A->List A->Bool×Bool
 | [],[],[]=>(true,true)
 | k::ks,a::x,b::y=>((iR k a b).1&&(QT ks x y).1,(iR k a b).2&&(QT ks x y).2)
 | _,_,_=>(false,false)
def Ty.same:(t:Ty)->t.Val->t.Val->Bool
 | .nil,_,_=>true
 | .bool r,a,b=>(r.hd a==r.hd b)&&r.same (r.tl a) (r.tl b)
 | .int _ r,a,b=>(r.hd a==r.hd b)&&r.same (r.tl a) (r.tl b)
 | .str r,a,b=>(r.hd a==r.hd b)&&r.same (r.tl a) (r.tl b)
 | _,_,_=>false
def Aml:List A->A
 | [c]=>c
 | cs=>.agg cs
def splice (l:List A) (off:Nat) (vs:List A):List A:=l.take off++vs++l.drop (off+vs.length)
def AfZ (C:Ctx) (d:TypeDesc) (f:Nat):Option (Nat×TI) :=
 match d with
 | .struct fs=>match fs.toList[f]? with
  | some x=>match C.T x.type with
   | some ti=>some (x.offset,ti)
   | none=>none
  | none=>none
 | _=>none
def Af4:TypeDesc->Bool | .string=>true | _=>false
def Z7:TypeDesc->Bool | .slice _=>true | .string=>true | _=>false
def Aho:TypeDesc->Bool | .bool=>true | _=>false
def Af5:TypeDesc->Bool | .int .u8=>true | _=>false
def Acf (C:Ctx) (d:TypeDesc) (f:Nat):Option (Nat×TI) :=
 match d with
 | .struct fs=>match fs.toList[f]? with
  | some x=>match C.T x.type with
   | some ti=>some (x.offset,ti)
   | none=>none
  | none=>none
 | .array n e=>match C.T e with
  | some ti=>bif Nat.blt f n then some (f*ti.cs.length,ti)else none
  | none=>none
 | _=>none
def vW (ti:TI) (cs:List A) (off:Nat):A:=bif ti.agg then .agg ((cs.drop off).take ti.cs.length)else cs.getD off .undef
def fill (C:Ctx) (d:TypeDesc):List (Nat×A)->List A->Option (List A)
 | [],cs=>some cs
 | (i,v)::r,cs=>match Acf C d i with
  | some (off,ti)=>bif v.isVal&&Nat.beq v.cells.length ti.cs.length&&Nat.ble (off+ti.cs.length) cs.length then fill C d r (splice cs off v.cells)else none
  | none=>none
def Ot (fet:Fet) (ti:TI) (t:Ty):List (Nat×A)->List t.Val->List Bool×List t.Val×List (Nat×Obj)
 | [],xs=>([],xs,[])
 | (i,v)::r,xs=>((KQ fet ti.cs v.cells).1++[(t.mk (KQ fet ti.cs v.cells).2.1).1,Nat.blt i xs.length]++(Ot fet ti t r (xs.set i (t.mk (KQ fet ti.cs v.cells).2.1).2)).1,
     (Ot fet ti t r (xs.set i (t.mk (KQ fet ti.cs v.cells).2.1).2)).2.1,(KQ fet ti.cs v.cells).2.2++(Ot fet ti t r (xs.set i (t.mk (KQ fet ti.cs v.cells).2.1).2)).2.2)
def Sl.set (l:Sl) (i off:Nat) (cs:List A):Bool×Sl:=((l.t.mk (splice (l.at i) off cs)).1,⟨l.t,l.xs.set i (l.t.mk (splice (l.at i) off cs)).2⟩)
def KE:Sh->Bool | .box _=>true | .map _ _=>true | .clo _ _=>true | _=>false
def L8 (fet:Fet) (o:Nat):Option (List A):=match J3 fet o with | some (.box cs)=>some cs | _=>none
structure Arg where
 ok:List Bool
 a:A
 upd:List (Nat×Obj):=[]
 del:List Nat:=[]
 boxes:List (Nat×Sh):=[]
def J8 (fet:Fet):List (Bool×CK)->List A->List Bool×List A×List (Nat×Obj)×List Nat
 | [],[]=>([],[],[],[])
 | (false,k)::ks,c::cs=>((pur fet k c).1++(J8 fet ks cs).1,(pur fet k c).2.1::(J8 fet ks cs).2.1,(pur fet k c).2.2++(J8 fet ks cs).2.2.1,(J8 fet ks cs).2.2.2)
 | (true,.sl e t)::ks,.own o::cs=>match J3 fet o with
  | some (.arr e' _ l)=>([Nat.beq e e',decide (l.t=t)]++(J8 fet ks cs).1,.usl true e l::(J8 fet ks cs).2.1,(o,.arr e true l)::(J8 fet ks cs).2.2.1,o::(J8 fet ks cs).2.2.2)
  | _=>([false],[],[],[])
 | (true,.sl e t)::ks,.Lt::cs=>((J8 fet ks cs).1,.usl true e ⟨t,[]⟩::(J8 fet ks cs).2.1,(J8 fet ks cs).2.2.1,(J8 fet ks cs).2.2.2)
 | (true,.sln e t)::ks,.own o::cs=>match J3 fet o with
  | some (.arr e' f l)=>([Nat.beq e e',decide (l.t=t),!f]++(J8 fet ks cs).1,.usl false e l::(J8 fet ks cs).2.1,(J8 fet ks cs).2.2.1,o::(J8 fet ks cs).2.2.2)
  | _=>([false],[],[],[])
 | (true,.sln e t)::ks,.Lt::cs=>((J8 fet ks cs).1,.usl false e ⟨t,[]⟩::(J8 fet ks cs).2.1,(J8 fet ks cs).2.2.1,(J8 fet ks cs).2.2.2)
 | (true,.bx t)::ks,.ptr o off::cs=>match L8 fet o with
  | some zs=>(Nat.beq off 0::(KQ fet (tck t) zs).1++(J8 fet ks cs).1,.box (KQ fet (tck t) zs).2.1::(J8 fet ks cs).2.1,(KQ fet (tck t) zs).2.2++(J8 fet ks cs).2.2.1,o::(J8 fet ks cs).2.2.2)
  | none=>([false],[],[],[])
 | _,_=>([false],[],[],[])
def wC:Bool×CK->Bool
 | (true,.sln _ _)=>true
 | _=>false
def wS:Sh->Bool
 | .cell u k=>wC (u,k)
 | .agg ks=>ks.any wC
 | .box ks=>ks.any wC
 | .clo _ ks=>ks.any wC
 | .map _ _=>false
def JY (fet:Fet):Sh->A->Arg
 | .cell u k,a=>match J8 fet [(u,k)] [a]with
  | (ok,[c],upd,del)=> {ok,a:=c,upd,del}
  | _=> {ok:=[false],a:=.undef}
 | .agg ks,.agg cs=>match J8 fet ks cs with
  | (ok,cs,upd,del)=> {ok,a:=.agg cs,upd,del}
 | .box ks,.ptr o off=>match L8 fet o with
  | some cs=> {ok:=Nat.beq off 0::Nat.ble ks.length 200::(J8 fet ks cs).1,a:=.box (J8 fet ks cs).2.1,upd:=(J8 fet ks cs).2.2.1,del:=(J8 fet ks cs).2.2.2,boxes:=[(o,.box ks)]}
  | none=> {ok:=[false],a:=.undef}
 | .clo f ks,.clo g o=>match L8 fet o with
  | some cs=> {ok:=Nat.beq f g::Nat.ble ks.length 200::(J8 fet ks cs).1,a:=.cbx g (J8 fet ks cs).2.1,upd:=(J8 fet ks cs).2.2.1,del:=(J8 fet ks cs).2.2.2,boxes:=[(o,.box ks)]}
  | none=> {ok:=[false],a:=.undef}
 | .map kt vt,.own o=>match J3 fet o with
  | some (.mp l)=> {ok:=[decide (l.kt=kt),decide (l.vt=vt)],a:=.ump l,boxes:=[(o,.map kt vt)]}
  | _=> {ok:=[false],a:=.undef}
 | _,_=> {ok:=[false],a:=.undef}
def JM (fet:Fet):List Sh->List A->List Bool×List A×List (Nat×Obj)×List Nat×List (Nat×Sh)
 | [],[]=>([],[],[],[],[])
 | s::ss,a::aa=>((JY fet s a).ok++(JM fet ss aa).1,(JY fet s a).a::(JM fet ss aa).2.1,(JY fet s a).upd++(JM fet ss aa).2.2.1,
  (JY fet s a).del++(JM fet ss aa).2.2.2.1,(JY fet s a).boxes++(JM fet ss aa).2.2.2.2)
 | _,_=>([false],[],[],[],[])
def JP (id:Nat):List (Bool×CK)->List A->Nat->List Bool×List A×List (Nat×Obj)
 | [],_,_=>([],[],[])
 | (false,k)::ks,cs,j=>((force k (cs.getD j .undef)).1++(JP id ks cs (j+1)).1,(force k (cs.getD j .undef)).2::(JP id ks cs (j+1)).2.1,(JP id ks cs (j+1)).2.2)
 | (true,.sl e t)::ks,cs,j=>((cs.getD j .undef).Af7 true e t::(JP id ks cs (j+1)).1,.own (id+j)::(JP id ks cs (j+1)).2.1,
     (id+j,.arr e true (cs.getD j .undef).toL)::(JP id ks cs (j+1)).2.2)
 | (true,.sln e t)::ks,cs,j=>((cs.getD j .undef).Af7 false e t::(JP id ks cs (j+1)).1,.own (id+j)::(JP id ks cs (j+1)).2.1,
     (id+j,.arr e false (cs.getD j .undef).toL)::(JP id ks cs (j+1)).2.2)
 | (true,.bx t)::ks,cs,j=>((cs.getD j .undef).Ak4 t.len::(JP id ks cs (j+1)).1,.ptr (id+j) 0::(JP id ks cs (j+1)).2.1,(id+j,.box (cs.getD j .undef).ZL)::(JP id ks cs (j+1)).2.2)
 | _,_,_=>([false],[],[])
def back (id:Nat):Sh->A->List Bool×A×List (Nat×Obj)
 | .cell u k,a=>((JP id [(u,k)] [a] 0).1++[k.plain],(JP id [(u,k)] [a] 0).2.1.getD 0 .undef,(JP id [(u,k)] [a] 0).2.2)
 | .agg ks,a=>(Nat.ble ks.length 200::a.isAgg ks.length::(JP (id+1) ks a.ZL 0).1,.agg (JP (id+1) ks a.ZL 0).2.1,(JP (id+1) ks a.ZL 0).2.2)
 | .box ks,a=>(Nat.ble ks.length 200::a.Ak4 ks.length::(JP (id+1) ks a.ZL 0).1,.ptr id 0,(id,.box (JP (id+1) ks a.ZL 0).2.1)::(JP (id+1) ks a.ZL 0).2.2)
 | .map kt vt,a=>([a.uY kt vt],.own id,[(id,.mp a.toM)])
 | .clo f ks,a=>(Nat.ble ks.length 200::a.Ak5 f ks.length::(JP (id+1) ks a.ZL 0).1,.clo f id,(id,.box (JP (id+1) ks a.ZL 0).2.1)::(JP (id+1) ks a.ZL 0).2.2)
def KG (id stride:Nat):List Sh->List A->Nat->List Bool×List A×List (Nat×Obj)
 | [],_,_=>([],[],[])
 | s::ss,rs,j=>((back (id+stride*j) s (rs.getD j .undef)).1++(KG id stride ss rs (j+1)).1,(back (id+stride*j) s (rs.getD j .undef)).2.1::(KG id stride ss rs (j+1)).2.1,
  (back (id+stride*j) s (rs.getD j .undef)).2.2++(KG id stride ss rs (j+1)).2.2)
def Om (rb:Nat):Sh->A->List Bool×Obj×List (Nat×Obj)
 | .box ks,a=>(a.isAgg ks.length::(JP (rb+1) ks a.ZL 0).1,.box (JP (rb+1) ks a.ZL 0).2.1,(JP (rb+1) ks a.ZL 0).2.2)
 | .map kt vt,a=>([a.uY kt vt],.mp a.toM,[])
 | _,_=>([false],.box [],[])
def La (rb:Nat->Nat) (rs:List A):List (Nat×Sh)->Nat->List Bool×List (Nat×Obj)×List (Nat×Obj)
 | [],_=>([],[],[])
 | (o,s)::r,j=>((Om (rb o) s (rs.getD j .undef)).1++(La rb rs r (j+1)).1,
     (o,(Om (rb o) s (rs.getD j .undef)).2.1)::(La rb rs r (j+1)).2.1,(Om (rb o) s (rs.getD j .undef)).2.2++(La rb rs r (j+1)).2.2)
def MR (fet:Fet) (o:Nat):Nat:=match L8 fet o with
 | some cs=>bif cs.any (λc=>c.Nu.any (λi=>Nat.blt o i&&Nat.ble i (o+100)))then o+100 else o
 | none=>o
def nodup:List Nat->Bool
 | []=>true
 | n::r=> !(has r n)&&nodup r
def LK (id:Nat):List (Bool×CK)->List A->List (Nat×Nat)
 | (true,.sl _ _)::ks,.own o::cs=>(o,id)::LK (id+1) ks cs
 | (true,.sln _ _)::ks,.own o::cs=>(o,id)::LK (id+1) ks cs
 | (true,.bx _)::ks,.ptr o _::cs=>(o,id)::LK (id+1) ks cs
 | _::ks,_::cs=>LK (id+1) ks cs
 | _,_=>[]
def OM (fet:Fet) (id:Nat):Sh->A->List (Nat×Nat)
 | .cell u k,a=>LK id [(u,k)] [a]
 | .agg ks,.agg cs=>LK (id+1) ks cs
 | .box ks,.ptr o _=>(o,id)::(match L8 fet o with | some cs=>LK (id+1) ks cs | none=>[])
 | .map _ _,.own o=>[(o,id)]
 | .clo _ ks,.clo _ o=>(o,id)::(match L8 fet o with | some cs=>LK (id+1) ks cs | none=>[])
 | _,_=>[]
def NY (fet:Fet):Nat->Nat->List Sh->List A->List (Nat×Nat)
 | id,stride,s::ss,x::xs=>OM fet id s x++NY fet (id+stride) stride ss xs
 | _,_,_,_=>[]
end Go.Proofs.YtacidcemomccpaaGreatDoor.Vm
namespace Go.Proofs.YtacidcemomccpaaGreatDoor.Vm
def Ae7:Nat->Option (IntKind×List Int)
 | _=>none
def Ayy (j:Nat):Option (IntKind×List Int)->Option (Value->Prop)
 | some (k,ns)=>if j<ns.length then some (λv=>v= .int k (ns.getD j 0))else none
 | none=>none
def oU:Nat->Nat->Option (Value->Prop)
 | 0,0=>some (λv=> ∃ m,v= .int .i64 m)
 | 1,j=>if j<20 then some (λv=>v= .int .u64 ((10 ^ j:Nat):Int))else none
 | g,j=>Ayy j (Ae7 g)
def AvI:Nat->Option Nat
 | 1=>some 20
 | _=>none
def AvH:Option (IntKind×List Int)->A
 | some (k,ns)=>.elt (ns.map (.int k))
 | none=>.undef
def Axs {g:Nat} {q:IntKind×List Int} (h:Ae7 g=some q) (j:Nat):oU g j=Ayy j (some q):=by rw[<- h];unfold oU;split<;>first | rfl | (exfalso;cases h;done)
def KZ (tmps:List A):Operand->A
 | .tmp t=>tmps.getD t .undef
 | .const v=>ofConst v
 | .func f=>.fn (f+1)
 | .global g=>AvH (Ae7 g)
def b2 (d:Nat):Nat:=(d+128)*256
def KA {α :Type} (o:Option α) (k: α ->Dl):Dl:=match o with | some x=>k x | none=>.no
def ML (C:Ctx) (t:Nat) (k:TI->Dl):Dl:=KA (C.T t) k
def elem? :TypeDesc->Option Nat
 | .slice e=>some e
 | _=>none
def elemOf (C:Ctx) (t:Nat) (k:Nat->TI->Dl):Dl:=ML C t λti=>KA (elem? ti.d) λe=>ML C e λte=>k e te
structure Arr where
 e:Nat
 frz:Bool
 l:Sl
def dF (fet:Fet) (o:Nat):Option Arr:=match J3 fet o with | some (.arr e frz l)=>some ⟨e,frz,l⟩ | _=>none
def one? {α :Type}:List α ->Option α
 | [k]=>some k
 | _=>none
def Af1:List CK->Bool
 | [.ptr]=>true
 | _=>false
def Xp (ti:TI) (cs:List A) (off:Nat) (pre:List Bool):Dl :=
 bif ti.agg then .g (pre++(forces cs ti.cs off).1) (.agg (forces cs ti.cs off).2)
 else KA (one? ti.cs) λk=>.g (pre++(force k (cs.getD off .undef)).1) (force k (cs.getD off .undef)).2
def isRow (ti:TI) (l:Sl) (i off:Nat):Bool:=Nat.blt 1 ti.cs.length&&Nat.beq l.sz 1&&Nat.beq off 0&&Nat.beq i 0
def wP (l:Sl) (n:Nat):List A:=(List.range n).map λj=>(l.at j).getD 0 .undef
def iC (t:Ty) (cs:List A):Bool×List t.Val:=(cs.all (λc=>(t.mk [c]).1),cs.map (λc=>(t.mk [c]).2))
def Xr (C:Ctx) (fet:Fet) (t:Nat) (a:A):Dl :=
 ML C t λti=>match a with
 | .ptr o off=>KA (L8 fet o) λcs=>.g [Nat.ble (off+ti.cs.length) cs.length,Nat.blt 0 ti.cs.length] (vW ti cs off)
 | .elt cs=>Xp ti cs 0 [Nat.ble ti.cs.length cs.length]
 | .clo k o=>.g [Nat.beq k 0,Af1 ti.cs,!ti.agg] (.ptr o 0)
 | .Ku o i off=>KA (dF fet o) λr=>bif isRow ti r.l i off then Xp ti (wP r.l ti.cs.length) 0 [Nat.ble ti.cs.length r.l.xs.length,true]else Xp ti (r.l.at i) off [Nat.ble (off+ti.cs.length) r.l.sz,decide (i<r.l.xs.length)]
 | _=>.no
def VW (C:Ctx) (fet:Fet) (t:Nat) (a v:A):Dl :=
 ML C t λti=>match a with
 | .ptr o off=>KA (L8 fet o) λcs =>
  {ok:=[v.isVal,Nat.beq v.cells.length ti.cs.length,Nat.ble (off+ti.cs.length) cs.length,Nat.blt 0 ti.cs.length],val:=.undef,
   upd:=[(o,.box (splice cs off (Ll (MR fet o+1+off) ti.cs v.cells).1))],new:=(Ll (MR fet o+1+off) ti.cs v.cells).2}
 | .Ku o i off=>KA (dF fet o) λr=>bif isRow ti r.l i off then
  {ok:=(KQ fet ti.cs v.cells).1++[!r.frz,(iC r.l.t (KQ fet ti.cs v.cells).2.1).1,Nat.beq ti.cs.length r.l.xs.length,true,Nat.blt 0 ti.cs.length,!(has ((KQ fet ti.cs v.cells).2.2.map (·.1)) o)],val:=.undef,
   upd:=(KQ fet ti.cs v.cells).2.2++[(o,.arr r.e false ⟨r.l.t,(iC r.l.t (KQ fet ti.cs v.cells).2.1).2⟩)]}else
  {ok:=(KQ fet ti.cs v.cells).1++[!r.frz,(r.l.set i off (KQ fet ti.cs v.cells).2.1).1,Nat.ble (off+ti.cs.length) r.l.sz,decide (i<r.l.xs.length),Nat.blt 0 ti.cs.length,!(has ((KQ fet ti.cs v.cells).2.2.map (·.1)) o)],val:=.undef,
   upd:=(KQ fet ti.cs v.cells).2.2++[(o,.arr r.e false (r.l.set i off (KQ fet ti.cs v.cells).2.1).2)]}
 | _=>.no
def adK (C:Ctx) (d:Nat) (ti:TI):List CK:=bif has C.cuts d then []else ti.cs
def X3 (C:Ctx) (d:Nat) (t:Nat) (v:A):Dl :=
 ML C t λti=> {ok:=[v.isVal,Nat.beq v.cells.length ti.cs.length],val:=.ptr (b2 d) 0,new:=(b2 d,.box (Ll (b2 d+1) (adK C d ti) v.cells).1)::(Ll (b2 d+1) (adK C d ti) v.cells).2}
def ZO (off n:Nat) (fet:Fet):A->Dl
 | .ptr o p=>KA (L8 fet o) λcs=>.g [Nat.ble (p+off+n) cs.length] (.ptr o (p+off))
 | .elt cs=>.g [Nat.ble (off+n) cs.length] (.elt (cs.drop off))
 | .Ku o i p=>KA (dF fet o) λr=>.g [decide (i<r.l.xs.length)] (.Ku o i (p+off))
 | _=>.no
def sU:TypeDesc->Option (Nat×Nat)
 | .array n e=>some (n,e)
 | _=>none
def int? :A->Option Int
 | .int _ n=>some n
 | _=>none
def Awi:CK->Option IntKind
 | .int k=>some k
 | _=>none
def AeF (C:Ctx) (t:Nat) (k:Nat->IntKind->Dl):Dl:=ML C t λti=>KA (sU ti.d) λp=>ML C p.2 λte=>bif te.agg then .no else KA (one? te.cs) λc=>KA (Awi c) λkk=>k p.1 kk
def vN (cs:List A) (n:Int):Int:=(cs.map A.toI).getD n.toNat 0
def fU (C:Ctx) (fet:Fet) (t:Nat) (x:A) (i:A):Dl :=
 match x with
 | .Ku o i0 off0=>KA (int? i) λn=>ML C t λti=>KA (sU ti.d) λp=>ML C p.2 λte=>KA (dF fet o) λr =>
  .g [Nat.beq i0 0,Nat.beq off0 0,Nat.beq r.l.sz te.cs.length,decide (0<=n),decide (n<(p.1:Int)),decide (n.toNat<r.l.xs.length)] (.Ku o n.toNat 0)
 | .elt cs=>KA (int? i) λn=>AeF C t λm kk=>.g [cs.all (A.isI kk),Nat.beq cs.length m,decide (0<=n),decide (n<(m:Int))] (.elt [.int kk (vN cs n)])
 | x =>
 KA (int? i) λn=>elemOf C t λ_ te=>match x with
 | .own o=>KA (dF fet o) λr=>.g [Nat.beq r.l.sz te.cs.length,decide (0<=n),decide (n<r.l.xs.length)] (.Ku o n.toNat 0)
 | .sl l=>.g [Nat.beq l.sz te.cs.length,Nat.blt 0 l.sz,decide (0<=n),decide (n<l.xs.length)] (.elt (l.at n.toNat))
 | .bsl o k=>KA (L8 fet o) λcs=>.g [Nat.beq te.cs.length 1,decide (0<=n),Nat.blt n.toNat k,Nat.blt n.toNat cs.length] (.ptr o n.toNat)
 | _=>.no
def Anc:A->Option (List UInt8)
 | .str s=>some s
 | _=>none
def Afy (C:Ctx) (t:Nat) (x i:A):Dl :=
 KA (int? i) λn=>match x with
 | .agg cs=>AeF C t λm kk=>.g [cs.all (A.isI kk),Nat.beq cs.length m,decide (0<=n),decide (n<(m:Int))] (.int kk (vN cs n))
 | x=>KA (Anc x) λs=>ML C t λti=>.g [Af4 ti.d,decide (0<=n),decide (n<s.length)] (.int .u8 ((s.getD n.toNat 0).toNat:Int))
def AdI (len:Nat):Option A->Option A->Option (List Bool×Nat×Nat)
 | none,none=>some ([],0,len)
 | some (.int _ a),none=>some ([decide (0<=a),decide (a<=len)],a.toNat,len)
 | none,some (.int _ b)=>some ([decide (0<=b),decide (b<=len)],0,b.toNat)
 | some (.int _ a),some (.int _ b)=>some ([decide (0<=a),decide (a<=b),decide (b<=len)],a.toNat,b.toNat)
 | _,_=>none
def J4 {α :Type} (l:List α) (a b:Nat):List α :=(l.take b).drop a
def MQ (C:Ctx) (fet:Fet) (t:Nat) (x:A) (lo hi:Option A):Dl :=
 ML C t λti=>match x with
 | .str s=>KA (AdI s.length lo hi) λr=>.g (Af4 ti.d::r.1) (.str (J4 s r.2.1 r.2.2))
 | .sl l=>KA (AdI l.xs.length lo hi) λr=>KA (elem? ti.d) λe=>ML C e λte=>.g (Nat.beq l.sz te.cs.length::r.1) (.sl ⟨l.t,J4 l.xs r.2.1 r.2.2⟩)
 | .own o=>KA (dF fet o) λro=>KA (AdI ro.l.xs.length lo hi) λr=>KA (elem? ti.d) λe=>ML C e λte =>
  {ok:=Nat.beq ro.l.sz te.cs.length::r.1,val:=.sl ⟨ro.l.t,J4 ro.l.xs r.2.1 r.2.2⟩,upd:=bif ro.frz then []else [(o,.arr ro.e true ro.l)]}
 | _=>.no
def Aah (C:Ctx) (fet:Fet) (d t:Nat) (x hi:A):Dl :=
 ML C t λti=>match x with
 | .own o=>KA (dF fet o) λro=>KA (AdI ro.l.xs.length none (some hi)) λr=>KA (elem? ti.d) λe=>ML C e λte =>
  {ok:=Nat.beq ro.l.sz te.cs.length::r.1++[!ro.frz],val:=.own (b2 d),new:=[(b2 d,.arr ro.e false ⟨ro.l.t,J4 ro.l.xs r.2.1 r.2.2⟩)],del:=[o]}
 | _=>.no
def xC (C:Ctx) (fet:Fet) (t:Nat) (x a:A):Dl :=
 ML C t λti=>match x with
 | .own o=>KA (dF fet o) λro=>KA (int? a) λn=>KA (elem? ti.d) λe=>ML C e λte=>.g [Nat.beq ro.l.sz te.cs.length,decide (0<=n),decide (n<(ro.l.xs.length:Int))] (.osl o n.toNat)
 | _=>.no
def oI (ys:List Int) (k:Nat) (s:List UInt8):List Int:=ys.take k++s.map (fun(b:UInt8)=>((b.toNat:Int)))++ys.drop (k+s.length)
def Akx (C:Ctx) (fet:Fet) (ts:List Nat) (x y:A):Dl :=
 match ts with
 | [t,_]=>elemOf C t λ_ te=>match x with
  | .osl o k=>KA (dF fet o) λr=>KA (r.l.cast Tq) λys=>KA (Anc y) λs =>
   {ok:=[Af5 te.d,Nat.beq te.cs.length 1,!r.frz,decide (0<s.length),decide (k+s.length<=ys.length)],val:=.int .i64 (s.length:Int),upd:=[(o,.arr r.e false ⟨Tq,oI ys k s⟩)]}
  | _=>.no
 | _=>.no
def mp? (fet:Fet):A->Option (Nat×Mp)
 | .own o=>match J3 fet o with
  | some (.mp l)=>some (o,l)
  | _=>none
 | _=>none
def Ahs (C:Ctx) (fet:Fet) (t:Nat) (x:A):Dl :=
 ML C t λti=>match ti.d with
 | .string=>KA (Anc x) λs=>.v (.int .i64 (s.length:Int))
 | .array n _=>.v (.int .i64 (n:Int))
 | .slice _=>match x with
  | .bsl o k=>KA (L8 fet o) λ_=>.v (.int .i64 (k:Int))
  | x=>.g (rd fet x).1 (.int .i64 ((rd fet x).2.xs.length:Int))
 | .map _ _=>KA (mp? fet x) λp=>.v (.int .i64 (p.2.l.length:Int))
 | _=>.no
def Rk (fet:Fet) (t:Ty):A->List Bool×List t.Val
 | .str s=>match t with
  | .int .u8 .nil=>([],s.map (fun(b:UInt8)=>((b.toNat:Int))))
  | _=>([false],[])
 | y=>rdT fet t y
def pJ (C:Ctx) (fet:Fet) (d:Nat) (t:Nat) (x y:A):Dl :=
 elemOf C t λe te=>match x with
 | .own o=>KA (dF fet o) λr =>
  {ok:=(Rk fet r.l.t y).1++[Nat.beq e r.e,Nat.beq r.l.sz te.cs.length,Nat.blt 0 r.l.sz,decide ((r.l.xs.length+(Rk fet r.l.t y).2.length)*(te.bytes+1)<=140737488355328)],
   val:=.own (b2 d),new:=[(b2 d,.arr r.e r.frz ⟨r.l.t,r.l.xs++(Rk fet r.l.t y).2⟩)],del:=[o]}
 | .Lt =>
  {ok:=(Rk fet (tyl te.cs) y).1++[Nat.blt 0 te.cs.length,decide ((Rk fet (tyl te.cs) y).2.length*(te.bytes+1)<=140737488355328)],
   val:=.own (b2 d),new:=[(b2 d,.arr e false ⟨tyl te.cs,(Rk fet (tyl te.cs) y).2⟩)]}
 | _=>.no
def Zt (C:Ctx) (fet:Fet) (src dst:Nat) (x:A):Dl :=
 ML C src λs=>ML C dst λt=>match t.d,x with
 | .int k,.int _ n=>.v (.int k (k.wrap n))
 | .string,.str l=>.v (.str l)
 | .string,.int _ _=>.no
 | .string,x=>KA (elem? s.d) λe=>ML C e λte=>.g (Af5 te.d::((rdB fet x).1++[(rdB fet x).2.all isByte])) (.str ((rdB fet x).2.map byteOf))
 | _,_=>.no
def zQ (C:Ctx) (d s t:Nat) (l:List UInt8):Dl:=ML C s λ_=>elemOf C t λe te =>
 {ok:=[Af5 te.d,decide (l.length<=140737488355328)],val:=.own (b2 d),new:=[(b2 d,.arr e false ⟨Tq,l.map (fun(b:UInt8)=>((b.toNat:Int)))⟩)]}
def AlR:TypeDesc->Bool | .slice _=>true | _=>false
def AbP (C:Ctx) (o:Oper) (fet:Fet) (s t:Nat) (x:A):Dl :=
 match x with
 | .str l=>ML C t λtt=>bif AlR tt.d then KA o.dst λd=>zQ C d s t l else Zt C fet s t (.str l)
 | x=>Zt C fet s t x
def AvU (C:Ctx) (t:Nat):Option (Nat×IntKind):=match C.T t with
 | some ti=>match sU ti.d with
  | some (n,e)=>match C.T e with
   | some te=>match te.cs with
    | [.int k]=>some (n,k)
    | _=>none
   | none=>none
  | none=>none
 | none=>none
def zM (C:Ctx) (d t:Nat) (v:A):Dl:=match AvU C t with
 | some (n,k)=>match v with
  | .agg cs=> {ok:=[cs.all (A.isI k),Nat.beq cs.length n,Nat.ble n 16777216],val:=.Ku (b2 d) 0 0,new:=[(b2 d,.arr t false ⟨.int k .nil,cs.map A.toI⟩)]}
  | _=>.no
 | none=>X3 C d t v
def aS (C:Ctx) (d t:Nat):Dl:=ML C t λti=>match sU ti.d with
 | some (n,e)=>ML C e λte=> {ok:=[te.cs.all CK.plain,Nat.blt 0 te.cs.length,Nat.blt 0 n,Nat.ble n 16777216,decide (ti.cs=(List.replicate n te.cs).flatten)],val:=.Ku (b2 d) 0 0,new:=[(b2 d,.arr t false ⟨tyl te.cs,List.replicate n (tyl te.cs).zero⟩)]}
 | none=>X3 C d t (.agg (ti.cs.map CK.zero))
def AfN (fet:Fet) (s:Bool) (d:TypeDesc) (x:A):Option Bool :=
 match s,d,x with
 | true,.slice _,.Lt=>some true
 | true,.slice _,.sln l=>some l.xs.isEmpty
 | false,.pointer _,.Mc=>some true
 | false,.pointer _,.ptr o _=>(L8 fet o).map (λ_=>false)
 | _,_,_=>none
def Ahw (C:Ctx) (fet:Fet) (s:Bool) (t:Nat) (x:A) (k:Bool->Dl):Dl:=ML C t λti=>KA (AfN fet s ti.d x) k
def Akt (C:Ctx) (t:Nat) (r:Bool):Dl:=ML C t λti=>.g [Aho ti.d] (.bool r)
def Ap8 (C:Ctx) (fet:Fet) (op:BinOp) (t:Nat) (x y:A):Dl :=
 match x,y with
 | .int k a,.int k' b=>match op with
  | .shl=>.g [decide (0<=b)] (.int k (k.wrap (a*2 ^ (min b.toNat k.bits))))
  | .shr=>.g [decide (0<=b)] (.int k (a.fdiv (2 ^ (min b.toNat k.bits))))
  | op=>bif A.kEq k k' then zK op k a b else .no
 | .str a,.str b=>zL op a b
 | .bool a,.bool b=>match op with
  | .eql=>Akt C t (a==b)
  | .neq=>Akt C t (!(a==b))
  | _=>.no
 | .agg x,.agg y=>ML C t λti=>match op with
  | .eql=>.g [!ti.cmp.isEmpty,(QT ti.cmp x y).1] (.bool (QT ti.cmp x y).2)
  | .neq=>.g [!ti.cmp.isEmpty,(QT ti.cmp x y).1] (.bool (!(QT ti.cmp x y).2))
  | _=>.no
 | x,.Lt=>match op with
  | .eql=>Ahw C fet true t x λv=>.v (.bool v)
  | .neq=>Ahw C fet true t x λv=>.v (.bool (!v))
  | _=>.no
 | x,.Mc=>match op with
  | .eql=>Ahw C fet false t x λv=>.v (.bool v)
  | .neq=>Ahw C fet false t x λv=>.v (.bool (!v))
  | _=>.no
 | _,_=>.no
def unX:UnOp->A->Dl
 | .not,.bool b=>.v (.bool !b)
 | .neg,.int k n=>.v (.int k (k.wrap (0 - n)))
 | .xor,.int k n=>.v (.int k (J9 .xor k (if k.signed then -1 else k.max) n))
 | _,_=>.no
def AkA (c a b:A):Dl:=.g [c.Qi.1,c.Qi.2.isB,(bif c.Qi.2.toB then a.Qi.1 else b.Qi.1),(bif c.Qi.2.toB then a.Qi.2.isB else b.Qi.2.isB)] (.bool (bif c.Qi.2.toB then a.Qi.2.toB else b.Qi.2.toB))
def vI (C:Ctx) (d:Nat) (t:Nat) (l c:A):Dl :=
 KA (int? l) λn=>KA (int? c) λm=>elemOf C t λe te =>
  {ok:=[decide (n<=m),decide (0<=n),decide (m*(te.bytes+1)<=140737488355328),Nat.blt 0 te.cs.length,te.cs.all CK.plain],val:=.own (b2 d),
   new:=[(b2 d,.arr e false ⟨tyl te.cs,List.replicate n.toNat (tyl te.cs).zero⟩)]}
def zO (C:Ctx) (t:Nat) (ps:List (Nat×A)):Dl:=ML C t λti=>KA (fill C ti.d ps (ti.cs.map CK.zero)) λcs=>.g [ti.agg] (.agg cs)
def SS (C:Ctx) (fet:Fet) (d t n:Nat) (ps:List (Nat×A)):Dl:=elemOf C t λe te =>
 {ok:=(Ot fet te (tyl te.cs) ps (List.replicate n (tyl te.cs).zero)).1++[Nat.ble (n*te.cs.length) 16777216,Nat.blt 0 te.cs.length,te.cs.all CK.plain],val:=.own (b2 d),
  new:=[(b2 d,.arr e false ⟨tyl te.cs,(Ot fet te (tyl te.cs) ps (List.replicate n (tyl te.cs).zero)).2.1⟩)],upd:=(Ot fet te (tyl te.cs) ps (List.replicate n (tyl te.cs).zero)).2.2}
def zN (C:Ctx) (d t n:Nat) (ps:List (Nat×A)):Dl:=elemOf C t λe te=>KA (fill C (.array n e) ps (List.replicate n .Mc)) λcs =>
 {ok:=[Af1 te.cs,Nat.ble n 16777216,Nat.blt 0 n,ps.all λp=>p.2.isVal&& !p.2.isAgg 0],val:=.bsl (b2 d) n,new:=(b2 d,.box (Ll (b2 d+1) [] cs).1)::(Ll (b2 d+1) [] cs).2}
def Af2:List (Nat×A)->Bool
 | (_,.ptr _ _)::_=>true
 | _=>false
def Wq (C:Ctx) (fet:Fet) (t f:Nat) (x:A):Dl :=
 ML C t λti=>KA (AfZ C ti.d f) λp=>match ZO p.1 p.2.cs.length fet x with
 | δ => {δ with ok:=Nat.blt 0 p.2.cs.length:: δ.ok}
def AxB:A->Option (List A)
 | .agg cs=>some cs
 | _=>none
def Afn (C:Ctx) (t f:Nat) (x:A):Dl :=
 ML C t λti=>KA (AfZ C ti.d f) λp=>KA (AxB x) λcs=>.g [Nat.ble (p.1+p.2.cs.length) cs.length,Nat.blt 0 p.2.cs.length] (vW p.2 cs p.1)
def Ay6:A->Option (List A)
 | .tup vs=>some vs
 | _=>none
def uN (i:Nat) (x:A):Dl:=KA (Ay6 x) λvs=>.g [Nat.blt i vs.length] (vs.getD i .undef)
def XQ (fet:Fet):A->Dl
 | .ptr o off=>KA (L8 fet o) λ_=>.v (.ptr o off)
 | _=>.no
structure Hand where
 ok:List Bool
 vs:List A
 upd:List (Nat×Obj)
 del:List Nat
 boxes:List (Nat×Sh)
def AkB:List A->A
 | [v]=>v
 | vs=>.tup vs
def Akv (rb:Nat->Nat) (d:Nat) (sg:Sig) (N:List (Nat×Nat)) (n:Nat) (h:Hand) (ok:Bool) (rs:List A):Dl :=
 ⟨h.ok++[ok]++(KG (b2 d) 16 sg.J7 rs 0).1++(La rb (rs.drop sg.J7.length) h.boxes 0).1++[nodup (N.map (·.1)),Nat.ble n 100,Nat.beq rs.length (sg.J7.length+h.boxes.length),!(sg.Jt.any wS)||h.upd.isEmpty],
   AkB (KG (b2 d) 16 sg.J7 rs 0).2.1,
   (KG (b2 d) 16 sg.J7 rs 0).2.2++(La rb (rs.drop sg.J7.length) h.boxes 0).2.2,
   h.upd++(La rb (rs.drop sg.J7.length) h.boxes 0).2.1,h.del,[]⟩
def jQ (fet:Fet) (ss:List Sh) (xs:List A):Hand:=⟨(JM fet ss xs).1,(JM fet ss xs).2.1,(JM fet ss xs).2.2.1,(JM fet ss xs).2.2.2.1,(JM fet ss xs).2.2.2.2⟩
def Oy (fet:Fet) (d:Nat) (sg:Sig) (args:List A):Dl:=Akv (MR fet) d sg (NY fet 0 256 sg.Jt args) args.length (jQ fet sg.Jt args) (sg.ok (jQ fet sg.Jt args).vs) (sg.val (jQ fet sg.Jt args).vs)
def AfB (n:Nat):Obj->Bool | .box cs=>Nat.beq cs.length n | _=>false
def Av3 (j:Nat) (c:A):Obj->Obj | .box cs=>.box (cs.set j c) | x=>x
def eqC:A->A->Bool | .str a,.str b=>a==b | .int k a,.int k' b=>A.kEq k k'&&a==b | .bool a,.bool b=>a==b | _,_=>false
def eqU (j:Nat) (c:A):Obj->Bool | .box cs=>eqC (cs.getD j .undef) c | _=>false
def Uw (fet:Fet) (a:A) (j:Nat) (δ :Dl):Dl:=match a with
 | .ptr q _=>match L8 fet q with
  | some cs=>bif Nat.blt j cs.length&& δ.upd.all (λp=> !(Nat.beq p.1 q)||AfB cs.length p.2)
   then {δ with ok:= δ.ok++ δ.upd.map (λp=>bif Nat.beq p.1 q then eqU j (cs.getD j .undef) p.2 else true),upd:= δ.upd.map (λp=>bif Nat.beq p.1 q then(p.1,Av3 j (cs.getD j .undef) p.2)else p),same:=(q,j):: δ.same}
   else δ
  | none=> δ
 | _=> δ
def keepD (fet:Fet) (args:List A):List (Nat×Nat)->Dl->Dl
 | [],δ => δ
 | (i,j)::r,δ =>keepD fet args r (Uw fet (args.getD i .undef) j δ)
def AsO:A->Bool | .Mc=>true | _=>false
def Aco (C:Ctx) (f:Nat) (args:List A):Option Sig:=match C.Aem f with
 | some (i,sg)=>bif AsO (args.getD i .undef)then some sg else C.G f
 | none=>C.G f
def fG (C:Ctx) (fet:Fet) (d:Nat) (f:Nat) (args:List A):Dl :=
 match Aco C f args with
 | some sg=>keepD fet args (C.kept f) (Oy fet d sg args)
 | none=>.no
def Alo (C:Ctx) (fet:Fet) (d t:Nat) (c:A) (args:List A):Dl :=
 match c with
 | .fn n=>match C.dyn t with
  | some sg=>Oy fet d (sg n) args
  | none=>.no
 | .clo f o=>KA (L8 fet o) λ_=>match C.dyn t with
  | some sg=>Oy fet d (sg f) (args++[.clo 0 o])
  | none=>.no
 | _=>.no
def Ard:List A->Option Nat
 | [.ptr o 0]=>some o
 | _=>none
def AgN (fet:Fet) (f:Nat):A->Dl
 | .ptr q off=>KA (L8 fet q) λcs=>KA (Ard cs) λo=> {ok:=[Nat.beq off 0],val:=.clo (f+1) o,del:=[q]}
 | _=>.no
def a0 (k:Dl):List A->Dl
 | []=>k
 | _=>.no
def a1 (k:A->Dl):List A->Dl
 | [a]=>k a
 | _=>.no
def a2 (k:A->A->Dl):List A->Dl
 | [a,b]=>k a b
 | _=>.no
def a3 (k:A->A->A->Dl):List A->Dl
 | [a,b,c]=>k a b c
 | _=>.no
def Aun (C:Ctx) (o:Oper) (fet:Fet) (ts:List Nat) (x y:A):Dl :=
 match ts with
 | [t,u]=>ML C u λtu=>KA o.dst λd=>match pJ C fet d t x y with
  | δ => {δ with ok:=Z7 tu.d:: δ.ok}
 | _=>.no
def slX (C:Ctx) (dst:Option Nat) (fet:Fet) (t:Nat) (lo hi mx:Option Operand):List A->Dl :=
 match mx,lo,hi with
 | none,none,none=>a1 λx=>MQ C fet t x none none
 | none,some _,none=>a2 λx a=>match dst with
  | some d=>bif has C.cuts d then xC C fet t x a else MQ C fet t x (some a) none
  | none=>MQ C fet t x (some a) none
 | none,none,some _=>a2 λx b=>match dst with
  | some d=>bif has C.cuts d then Aah C fet d t x b else MQ C fet t x none (some b)
  | none=>MQ C fet t x none (some b)
 | none,some _,some _=>a3 λx a b=>MQ C fet t x (some a) (some b)
 | _,_,_=>λ_=>.no
def AqH:A->A->Dl
 | .int k a,.int k' b=>bif A.kEq k k' then .v (.int k (bif decide (b<a)then b else a))else .no
 | _,_=>.no
def AqF:A->A->Dl
 | .int k a,.int k' b=>bif A.kEq k k' then .v (.int k (bif decide (a<b)then b else a))else .no
 | _,_=>.no
def blX (C:Ctx) (o:Oper) (fet:Fet) (ts:List Nat):Builtin->List A->Dl
 | .len=>a1 λx=>KA (one? ts) λt=>Ahs C fet t x
 | .append=>a2 λx y=>Aun C o fet ts x y
 | .min=>a2 AqH
 | .max=>a2 AqF
 | .copy=>a2 λx y=>Akx C fet ts x y
 | _=>λ_=>.no
def opX (C:Ctx) (o:Oper) (v:List A) (fet:Fet):Dl :=
 match o.op with
 | .move _=>a1 (λa=>.v a) v
 | .assign _=>a1 (λa=>.v a) v
 | .pick _ _ _=>a3 (λc a b=>AkA c a b) v
 | .alloc t=>a0 (KA o.dst λd=>aS C d t) v
 | .box t _=>a1 (λa=>KA o.dst λd=>zM C d t a) v
 | .build t ps=>zO C t ((ps.toList.map (·.1)).zip v)
 | .buildSlice t n ps=>KA o.dst λd=>bif Af2 ((ps.toList.map (·.1)).zip v)then zN C d t n ((ps.toList.map (·.1)).zip v)else SS C fet d t n ((ps.toList.map (·.1)).zip v)
 | .load t _=>a1 (Xr C fet t) v
 | .store t _ _=>a2 (λa x=>bif o.dst.isNone then VW C fet t a x else .no) v
 | .nilCheck _=>a1 (XQ fet) v
 | .binOp op t _ _ _=>a2 (Ap8 C fet op t) v
 | .unOp op _ _=>a1 (unX op) v
 | .convert s t _=>a1 (AbP C o fet s t) v
 | .makeSlice t _ _=>a2 (λl c=>KA o.dst λd=>vI C d t l c) v
 | .slice t _ lo hi mx=>slX C o.dst fet t lo hi mx v
 | .fieldAddr t _ f=>a1 (Wq C fet t f) v
 | .field t _ f=>a1 (Afn C t f) v
 | .indexAddr t _ _=>a2 (fU C fet t) v
 | .index t _ _=>a2 (Afy C t) v
 | .extract _ i=>a1 (uN i) v
 | .makeFunc (.func f) fi _=>bif fi.isEmpty then a1 (AgN fet f) v else .no
 | .call ⟨.builtin b,_,ts⟩=>blX C o fet ts.toList b v
 | .call ⟨.value (.func f),_,_⟩=>match v with
  | _::vs=>fG C fet (o.dst.getD 0) f vs
  | []=>.no
 | .call ⟨.value (.tmp t),_,_⟩=>match v with
  | c::vs=>Alo C fet (o.dst.getD 0) t c vs
  | []=>.no
 | _=>.no
def fetch (Jr:List (Nat×Obj)):List Nat->Fet
 | []=>[]
 | n::r=>match J3 Jr n with
  | some x=>(n,x)::fetch Jr r
  | none=>fetch Jr r
def Kv (st:St) (vs:List A):Fet :=
 let f1:=fetch st.Jr (vs.flatMap A.ids)
 f1++fetch st.Jr (f1.flatMap (λp=>p.2.ids))
def KC (Jr:List (Nat×Obj)):List Nat->List (Nat×Obj)
 | []=>Jr
 | n::r=>KC (TE Jr n) r
def JH (Jr:List (Nat×Obj)):List (Nat×Obj)->List (Nat×Obj)
 | []=>Jr
 | (n,x)::r=>JH (Ns Jr n x) r
def put (tmps:List A):Option Tmp->A->List A
 | some d,v=>tmps.set d v
 | none,_=>tmps
def apply (st:St) (o:Oper) (δ :Dl):St :=
 {tmps:=put st.tmps o.dst δ.val,Jr:=JH (KC (JH st.Jr δ.upd) δ.del) δ.new}
def strips:List A->List Bool×List A
 | []=>([],[])
 | a::r=>(a.strip.1++(strips r).1,a.strip.2::(strips r).2)
def guardOf (ops:List Oper) (tmps:List A):Option (Nat×Bool)->Option (Option Bool)
 | none=>some none
 | some (j,want)=>match ops[j]? with
  | some oj=>match oj.dst with
   | some t=>match (tmps.getD t .undef)with
    | .bool b=>some (some (bif want then b else !b))
    | .cnd g (.bool b)=>some (some (g&&(bif want then b else !b)))
    | _=>none
   | none=>none
  | none=>none
def wZ:Op->Bool
 | .move _=>true
 | .assign _=>true
 | .binOp _ _ _ _ _=>true
 | _=>false
def Lc:Op->List A->List Bool×List A
 | .pick _ _ _,vs=>([],vs)
 | op,vs=>((strips vs).1,bif wZ op then(strips vs).2 else(strips vs).2.map A.weak)
def rC (g:Bool):A->A->A
 | .bool x,.bool y=>.bool (bif g then y else x)
 | .int k x,.int _ y=>.int k (bif g then y else x)
 | .str x,.str y=>.str (bif g then y else x)
 | .sl l,.sl l'=>match l'.cast l.t with
  | some ys=>.sl ⟨l.t,bif g then ys else l.xs⟩
  | none=>.undef
 | .sln l,.sln l'=>match l'.cast l.t with
  | some ys=>.sln ⟨l.t,bif g then ys else l.xs⟩
  | none=>.undef
 | a,_=>a
def jY:A->A->Bool
 | .bool _,.bool _=>true
 | .int k _,.int k' _=>A.kEq k k'
 | .str _,.str _=>true
 | .sl l,.sl l'=>(l'.cast l.t).isSome
 | .sln l,.sln l'=>(l'.cast l.t).isSome
 | .own o,.own o'=>Nat.beq o o'
 | .Mc,.Mc=>true
 | .undef,.undef=>true
 | _,_=>false
def Aia (g:Bool):List A->List A->List A
 | a::aa,b::bs=>rC g a b::Aia g aa bs
 | _,_=>[]
def okM:List A->List A->Bool
 | [],[]=>true
 | a::aa,b::bs=>jY a b&&okM aa bs
 | _,_=>false
def Y7 (g:Bool):Option Obj->Obj->Obj
 | some (.box cs),.box ds=>.box (Aia g cs ds)
 | some (.arr e _ l),.arr _ true _=>.arr e true l
 | _,x=>x
def jZ (c:Bool):Option Obj->Obj->Bool
 | some (.box cs),.box ds=>okM cs ds
 | some (.arr e _ _),.arr e' true _=>c&&Nat.beq e e'
 | _,_=>false
def uC:Op->Bool
 | .call ⟨.value (.func _),_,_⟩=>true
 | .call ⟨.value (.tmp _),_,_⟩=>true
 | .slice _ _ _ _ _=>true
 | _=>false
def AbZ:Op->Bool
 | .call ⟨.value (.func _),_,_⟩=>true
 | _=>false
def TY (C:Ctx) (o:Oper) (st:St) (pre:List Bool):Dl :=
 match Lc o.op (o.op.operands.toList.map (KZ st.tmps))with
  | (ok,vs)=>match opX C o vs (Kv st vs)with
   | δ => {δ with ok:=pre++(ok++ δ.ok++[δ.new.all (λp=>st.fresh p.1),nodup (δ.new.map (·.1))]),same:=bif AbZ o.op then δ.same else []}
def ApU (C:Ctx) (o:Oper):Option Bool:=match o.dst with
 | some d=>C.dec d
 | none=>none
def KI (C:Ctx) (ops:List Oper) (o:Oper) (st:St):Dl :=
 match guardOf ops st.tmps o.guard with
 | some none=>TY C o st []
 | some (some g)=>match ApU C o with
  | some true=>TY C o st [g]
  | some false=> {ok:=[!g],val:=.cnd false .undef}
  | none=>match Lc o.op (o.op.operands.toList.map (KZ st.tmps))with
  | (ok,vs)=>match opX C o vs (Kv st vs)with
   | δ => {ok:=(ok++(δ.val.isVal:: δ.ok)).map (λc=>c|| !g)++(δ.new.isEmpty:: δ.del.isEmpty::o.dst.isSome:: δ.upd.map (λp=>jZ (uC o.op) (J3 (Kv st vs) p.1) p.2)),val:=.cnd g δ.val,
           upd:= δ.upd.map (λp=>(p.1,Y7 g (J3 (Kv st vs) p.1) p.2))}
 | none=>.no
def allT {α :Type}:List Bool->Option α ->Option α
 | [],r=>r
 | c::cs,r=>bif c then allT cs r else none
def WV {α :Type} (C:Ctx) (ops:List Oper):List Oper->St->(St->Option α)->Option α
 | [],st,K=>K st
 | o::r,st,K=>match KI C ops o st with
  | δ =>allT δ.ok (WV C ops r (apply st o δ) K)
def fD (C:Ctx) (o:Oper):Option (Nat×Alt) :=
 match o.guard,o.op with
 | none,.call ⟨.value (.func f),_,_⟩=>(C.alt f).map (λq=>(f,q))
 | _,_=>none
def Ag7 (o:Oper) (st:St) (q:Alt):Bool :=
 match (Lc o.op (o.op.operands.toList.map (KZ st.tmps))).2 with
 | v::xs=>q.2.2 (jQ (Kv st (v::xs)) q.1.Jt xs).vs
 | []=>true
def WU {α :Type} (C:Ctx) (ops:List Oper):List Oper->St->(St->Option α)->Option α
 | [],st,K=>K st
 | o::r,st,K=>match fD C o with
  | none=>allT (KI C ops o st).ok (WU C ops r (apply st o (KI C ops o st)) K)
  | some (f,q)=>bif Ag7 o st q then allT (KI (C.put f q.1) ops o st).ok (WU C ops r (apply st o (KI (C.put f q.1) ops o st)) K)
   else allT (KI (C.put f q.2.1) ops o st).ok (WU C ops r (apply st o (KI (C.put f q.2.1) ops o st)) K)
structure Clo where
 o:Oper
 q:Oper
 t:Nat
 u:Nat
 f:Nat
 b:Bool
def AvY:Op->Option (Nat×List Operand×List Operand)
 | .makeFunc (.func f) fi ca=>some (f,fi.toList,ca.toList)
 | _=>none
def Asm:Op->Option Bool
 | .load _ _=>some true
 | .move _=>some false
 | _=>none
def Ar8:List Operand->Option Nat
 | [.tmp t]=>some t
 | _=>none
def AdG (o1 o2:Oper):Option Clo :=
 match o1.guard,o2.guard,o1.dst,o2.dst,Asm o1.op,AvY o2.op with
 | none,none,some t,some u,some b,some (f,fi,ca)=>match Ar8 fi,ca with
  | some t',[]=>bif Nat.beq t' t then some ⟨o1,o2,t,u,f,b⟩else none
  | _,_=>none
 | _,_,_,_,_,_=>none
def AdH:List Oper->List Clo×List Oper
 | o1::o2::r=>match AdG o1 o2 with
  | some c=>(c::(AdH r).1,(AdH r).2)
  | none=>([],o1::o2::r)
 | l=>([],l)
def Apj:Op->Option (Nat×Nat×List (Nat×Operand))
 | .buildSlice t n ps=>some (t,n,ps.toList)
 | _=>none
def Asi:Op->Option (Nat×List Operand)
 | .call ⟨.value (.func e),args,_⟩=>some (e,args.toList)
 | _=>none
structure Each where
 cs:List Clo
 q:Oper
 o:Oper
 ty:Nat
 v:Nat
 e:Nat
 rest:List Oper
def Aer:List (Nat×Operand)->List Clo->Nat->Bool
 | [],[],_=>true
 | (k,x)::ps,c::cs,i=>match x with
  | .tmp u=>Nat.beq k i&&Nat.beq u c.u&&Aer ps cs (i+1)
  | _=>false
 | _,_,_=>false
def P7 (cs:List Clo):List Nat:=cs.flatMap λc=>[c.t,c.u]
def Ak0 (cs:List Clo) (q o:Oper) (r:List Oper):Option Each :=
 match q.guard,o.guard,q.dst,Apj q.op,Asi o.op with
 | none,none,some v,some (t,n,ps),some (e,args)=>match Ar8 args with
  | some v'=>bif Nat.beq v' v&&Nat.beq n cs.length&&Aer ps cs 0&&nodup (v::P7 cs)then some ⟨cs,q,o,t,v,e,r⟩else none
  | none=>none
 | _,_,_,_,_=>none
def jJ (l:List Oper):Option Each :=
 match AdH l with
 | (c::cs,q::o::r)=>Ak0 (c::cs) q o r
 | _=>none
def MH (t:Nat) (st:St):St:= {st with tmps:=st.tmps.set t .undef}
def qJ (C:Ctx) (st:St) (c:Clo):Dl:=match c.o.op with
 | .load t (.tmp s)=>Xr C st.Jr t (st.tmps.getD s .undef)
 | .move (.tmp s)=>.v (st.tmps.getD s .undef)
 | _=>.no
def iJ {α :Type} (C:Ctx):List Clo->St->(St->Option α)->Option α
 | [],st,K=>K st
 | c::r,st,K=>allT (Nat.blt c.u st.tmps.length::Nat.blt c.t st.tmps.length::(qJ C st c).ok) (iJ C r (MH c.u {st with tmps:=st.tmps.set c.t (qJ C st c).val}) K)
def Atq:A->Option (Nat×Nat)
 | .agg [.ptr a 0,.ptr r 0]=>some (a,r)
 | _=>none
def AlP (a r:Nat):A->Bool
 | .agg [.ptr a' 0,.ptr r' 0]=>Nat.beq a' a&&Nat.beq r' r
 | _=>false
def AlQ (r:Nat):A->Bool
 | .ptr r' 0=>Nat.beq r' r
 | _=>false
def tied (tmps:List A) (a r:Nat) (c:Clo):Bool:=bif c.b then AlP a r (tmps.getD c.t .undef)else AlQ r (tmps.getD c.t .undef)
def Aqk (C:Ctx) (t:Nat):Bool:=match C.T t with
 | some ti=>match elem? ti.d with
  | some e=>match C.T e with
   | some te=>Nat.beq te.cs.length 1&& !te.agg
   | none=>false
  | none=>false
 | none=>false
def Awa (C:Ctx) (e:Each) (st:St) (sg:Sig) (a r:Nat):Dl :=
 match Oy (Kv st [.ptr a 0,.ptr r 0]) (e.o.dst.getD 0) sg [.ptr a 0,.ptr r 0]with
 | δ => {δ with ok:=Aqk C e.ty::Nat.blt e.v st.tmps.length::Nat.ble e.cs.length 1000::Nat.beq sg.Jt.length 2::e.cs.all (tied st.tmps a r)::(L8 st.Jr a).isSome::(L8 st.Jr r).isSome:: δ.ok++[δ.new.all (λp=>st.fresh p.1),nodup (δ.new.map (·.1))]}
def firstT:List Clo->Nat
 | c::_=>c.t
 | []=>0
def AbU (C:Ctx) (e:Each) (st:St):Dl :=
 match Atq (st.tmps.getD (firstT e.cs) .undef),C.each e.e (e.cs.map λc=>(c.f,c.b))with
 | some (a,r),some sg=>Awa C e st sg a r
 | _,_=>.no
def vT {α :Type} (C:Ctx) (ops l:List Oper) (st:St) (K:St->Option α):Option α :=
 match jJ l with
 | some e=>iJ C e.cs st λst=>allT (AbU C e (MH e.v st)).ok (WU C ops e.rest (apply (MH e.v st) e.o (AbU C e (MH e.v st))) K)
 | none=>WU C ops l st K
abbrev Bs:=List UInt8
def chk {ρ :Type} (c:Bool) (k:Option ρ):Option ρ :=bif c then k else none
def Jq {α ρ :Type} [Inhabited α] (o:Option α) (k: α ->Option ρ):Option ρ :=bif o.isSome then k (o.getD default)else none
def Jy {X Y ρ :Type} (B:X->(X->Option ρ)->(Y->Option ρ)->Option ρ):Nat->X->(Y->Option ρ)->Option ρ
 | 0,_,_=>none
 | n+1,x,kx=>B x (λx'=>Jy B n x' kx) kx
def KD (o:Oper) (st:St):List A:=(Lc o.op (o.op.operands.toList.map (KZ st.tmps))).2
def pK:Op->List A->Bool
 | .move _,_=>true
 | .assign _,_=>true
 | .load _ _,[.clo _ _]=>true
 | _,_=>false
def Ze:Op->List A->Option Nat
 | .nilCheck _,[.ptr o _]=>some o
 | .fieldAddr _ _ _,[.ptr o _]=>some o
 | .load _ _,[.ptr o _]=>some o
 | _,_=>none
def LH (o:Oper) (st:St) (vs:List A):List Nat:=bif pK o.op vs then []else match Ze o.op vs with
 | some q=>[q]
 | none=>vs.flatMap A.ids++(fetch st.Jr (vs.flatMap A.ids)).flatMap (λp=>p.2.ids)
def oneOf (C:Ctx):Op->List A->Option (Nat×Nat×Nat)
 | .nilCheck _,[.ptr o _]=>some (o,0,0)
 | .fieldAddr _ _ _,[.ptr o _]=>some (o,0,0)
 | .load t _,[.ptr o off]=>match C.T t with
  | some ti=>bif Nat.blt 0 ti.cs.length then some (o,off,ti.cs.length)else none
  | none=>none
 | _,_=>none
structure L6 where
 o:Oper
 δ :Dl
 rd:List Nat
 one:Option (Nat×Nat×Nat)
 anc:List Nat
def L6.news (x:L6):List Nat:=x.δ.new.map (·.1)
def L6.keys (x:L6):List Nat:=x.δ.upd.map (·.1)++x.δ.del++x.news
def L6.says (x:L6):List Nat:=x.δ.val.ids++x.δ.upd.flatMap (λp=>p.2.ids)++x.δ.new.flatMap (λp=>p.2.ids)
def Vp (a b:List Nat):Bool:=a.all (λn=> !(has b n))
def slotsOf (ops:List Oper) (o:Oper):List Nat :=
 (o.op.operands.toList.filterMap λ| .tmp t=>some t | _=>none) ++
 (match o.guard with
  | some (g,_)=>match ops[g]? with
   | some x=>match x.dst with | some t=>[t] | none=>[]
   | none=>[]
  | none=>[])
def ZQ (o:Oper):List Nat:=match o.dst with | some d=>[d] | none=>[]
def calm (x y:L6):Bool:=match x.one with
 | none=>false
 | some (q,off,n)=> !(has x.keys q)&&(!(has y.δ.del q)&&(!(has y.news q)&&(y.δ.same.any (λe=>Nat.beq e.1 q)&&(List.range n).all (λk=>y.δ.same.any (λe=>Nat.beq e.1 q&&Nat.beq e.2 (off+k))))))
def indep (ops:List Oper) (x y:L6):Bool :=
 Vp (ZQ x.o) (ZQ y.o)&&Vp (ZQ x.o) (slotsOf ops y.o)&&Vp (ZQ y.o) (slotsOf ops x.o) &&
 Vp x.keys y.rd&&(Vp y.keys x.rd||calm x y)&&Vp x.keys y.keys&&Vp x.news y.says
def bT (ops:List Oper) (i:Nat) (x y:L6):Bool:=Vp y.news x.says&&Vp y.news x.keys&&(has y.anc i||indep ops x y)
def Yr (o:Oper):List Nat:=o.after.toList.filterMap λe=>bif Region.binds .any e then some e.on else none
def Vy (C:Ctx) (ops:List Oper):List Oper->List (List Nat)->St->List L6
 | [],_,_=>[]
 | o::r,acc,st=>match KI C ops o st,(Yr o).flatMap (λe=>e::acc.getD e [])with
  | δ,an=>⟨o,δ,LH o st (KD o st),oneOf C o.op (KD o st),an⟩::Vy C ops r (acc++[an]) (apply st o δ)
def iI (ops:List Oper):Nat->List L6->Bool
 | _,[]=>true
 | i,x::r=>r.all (bT ops i x)&&iI ops (i+1) r
def backward:Nat->List Oper->Bool
 | _,[]=>true
 | i,o::r=>o.after.toList.all (λe=>Nat.blt e.on i)&&backward (i+1) r
def Sj:Nat->List Oper->Bool
 | _,[]=>true
 | i,o::r=>o.after.toList.all (λe=> !(Region.binds .any e)||Nat.blt e.on i)&&Sj (i+1) r
def ranks (md:Region.Mode) (ops:List Oper):Nat->List Nat->List Nat
 | 0,r=>r
 | n+1,r=>ranks md ops n (ops.map λo=>o.after.toList.foldl (λm e=>bif Region.binds md e then(bif Nat.ble m (r.getD e.on 0)then r.getD e.on 0+1 else m)else m) 0)
def ZC (md:Region.Mode) (n:Nat) (rk:List Nat):Nat->List Oper->Bool
 | _,[]=>true
 | i,o::r=>o.after.toList.all (λe=> !(Region.binds md e)||(Nat.blt e.on n&&Nat.blt (rk.getD e.on 0) (rk.getD i 0)))&&ZC md n rk (i+1) r
def Agg (md:Region.Mode) (ops:List Oper):Bool:=ZC md ops.length (ranks md ops ops.length (ops.map λ_=>0)) 0 ops
def ordered (ops:List Oper):Bool:=Sj 0 ops&&(backward 0 ops||(Agg .text ops&&Agg .gc ops&&Agg .any ops))
def sorted:List (Nat×Obj)->Bool
 | []=>true
 | [_]=>true
 | (n,_)::(k,y)::r=>Nat.blt n k&&sorted ((k,y)::r)
def TN (C:Ctx) (ops:List Oper) (st:St):Bool :=
 match Vy C ops ops [] st with
 | fs=>ordered ops&&iI ops 0 fs&&(fs.flatMap L6.news).all st.fresh&&sorted st.Jr
def O7 (f t:Nat):A->A
 | .ptr o off=>.ptr (bif Nat.beq o f then t else o) off
 | .own o=>.own (bif Nat.beq o f then t else o)
 | .clo g o=>.clo g (bif Nat.beq o f then t else o)
 | .bsl o n=>.bsl (bif Nat.beq o f then t else o) n
 | .osl o n=>.osl (bif Nat.beq o f then t else o) n
 | .Ku o i off=>.Ku (bif Nat.beq o f then t else o) i off
 | .agg cs=>.agg (cs.map fun
  | .ptr o off=>.ptr (bif Nat.beq o f then t else o) off
  | .own o=>.own (bif Nat.beq o f then t else o)
  | .clo g o=>.clo g (bif Nat.beq o f then t else o)
  | .bsl o n=>.bsl (bif Nat.beq o f then t else o) n
  | .osl o n=>.osl (bif Nat.beq o f then t else o) n
  | .Ku o i off=>.Ku (bif Nat.beq o f then t else o) i off
  | c=>c)
 | a=>a
def Ab2 (f t:Nat):Obj->Obj
 | .box cs=>.box (cs.map (O7 f t))
 | x=>x
def drop (keep:List Nat):List A->Nat->List A
 | [],_=>[]
 | a::r,i=>(bif has keep i then a else .undef)::drop keep r (i+1)
def Ab3 (st:St):List (Nat×Nat)->Bool×St
 | []=>(true,st)
 | (f,t)::r=>match J3 st.Jr f with
  | some x=>match Ab3 {tmps:=st.tmps.map (O7 f t),Jr:=(Ns (TE st.Jr f) t x).map (λp=>(p.1,Ab2 f t p.2))} r with
   | (ok,st')=>((bif Nat.beq f t then true else st.fresh t)&&ok,st')
  | none=>Ab3 st r
def Al7 (Jr:List (Nat×Obj)):List Nat->List (Nat×Obj)
 | []=>Jr
 | n::r=>match J3 Jr n with
  | some (.arr e _ l)=>Al7 (Ns Jr n (.arr e true l)) r
  | _=>Al7 Jr r
def Atz:Nat->List (Nat×Obj)->List Nat->List Nat
 | 0,_,l=>l
 | n+1,Jr,l=>l++Atz n Jr ((fetch Jr l).flatMap (λp=>p.2.ids))
def reached (tmps:List A) (Jr:List (Nat×Obj)):List Nat:=Atz 4 Jr (tmps.flatMap A.ids++(Jr.map (·.1)).filter YO)
def qU:A->Bool | .Lt=>true | _=>false
def Ab7 (id:Nat):List Nat->List A->List A
 | [],l=>l
 | t::r,l=>Ab7 id r (l.set t (.own id))
def owns:List (List Nat×Nat×Ty×Nat)->St->Bool×St
 | [],st=>(true,st)
 | (ts,e,ty,id)::r,st=>bif ts.any (λt=>qU (st.tmps.getD t .undef))then
     match owns r {tmps:=Ab7 id ts st.tmps,Jr:=Ns st.Jr id (.arr e false ⟨ty,[]⟩)}with
     | (ok,st')=>(ts.all (λt=>qU (st.tmps.getD t .undef)&&Nat.blt t st.tmps.length)&&st.fresh id&&ok,st')
  else owns r st
def pzs:List (Option Nat×Nat×Ty)->St->St
 | [],st=>st
 | (none,t,ty)::r,st=>match st.tmps.getD t .undef with
  | .Lt=>pzs r {st with tmps:=st.tmps.set t (.sl ⟨ty,[]⟩)}
  | .own o=>match J3 st.Jr o with
   | some (.arr e _ l)=>pzs r {tmps:=st.tmps.set t (.sl l),Jr:=Ns st.Jr o (.arr e true l)}
   | _=>pzs r st
  | _=>pzs r st
 | (some b,j,_)::r,st=>match J3 st.Jr b with
  | some (.box cs)=>match cs.getD j .undef with
   | .own o=>match J3 st.Jr o with
    | some (.arr e _ l)=>pzs r {st with Jr:=Ns (Ns st.Jr o (.arr e true l)) b (.box (cs.set j (.sl l)))}
    | _=>pzs r st
   | _=>pzs r st
  | _=>pzs r st
def norm (C:Ctx) (key:Nat) (st0:St):Bool×St :=
 match C.nrm key with
 | none=>(true,st0)
 | some n =>
  match pzs n.pz st0 with
  | st=>match Ab3 {tmps:=drop n.keep st.tmps 0,Jr:=st.Jr.filter (λp=>has (reached (drop n.keep st.tmps 0) st.Jr) p.1)} n.ren with
   | (ok,st')=>match owns n.nw st' with
    | (ok',st'')=>(ok&&ok',{st'' with Jr:=Al7 st''.Jr n.frz})
inductive Ex where
 | normal
 | exit (id:Nat)
def MI:Code->Option Nat
 | .region id _ _=>some id
 | .seq a b=>match MI a with | some n=>some n | none=>(MI b).map (· +4096)
 | .cond _ a b=>match MI a with | some n=>some n | none=>MI b
 | .block _ c=>MI c
 | .loop c=>MI c
 | .scope c=>MI c
 | _=>none
def UR {ρ :Type} (C:Ctx) (key:Nat) (st:St) (K:St->Option ρ):Option ρ :=
 match norm C key st with
 | (ok,st')=>bif ok then K st' else none
def meet {ρ :Type} (C:Ctx) (kind:Nat) (c:Code) (st:St) (K:St->Option ρ):Option ρ :=
 match MI c with
 | some n=>UR C (4*n+kind) st K
 | none=>K st
def rounds {ρ :Type} (head:St->(St->Option ρ)->Option ρ) (body:St->(Ex->St->Option ρ)->Option ρ):Nat->St->(Ex->St->Option ρ)->Option ρ
 | 0,_,_=>none
 | n+1,st,K=>body st fun
  | .normal,st'=>head st' λst''=>rounds head body n st'' K
  | .exit id,st'=>K (.exit id) st'
def Ae8:Nat:=(fun(_:Option Nat)=>0) (Jy (X:=Nat) (Y:=Nat) (λ_ _ _=>none) 0 0 (λ_=>none))
def peek (C:Ctx) (ops:List Oper) (s:Nat):List Oper->St->A
 | [],st=>(st.tmps.getD s .undef).Qi.2
 | o::r,st=>peek C ops s r (apply st o (KI C ops o st))
def split {α :Type} (C:Ctx) (id:Nat) (ops:List Oper) (st:St) (f:Ctx->Option α):Option α :=
 (fun(_:Nat)=>match C.spl id with
 | none=>f C
 | some (k,s,ds)=>match peek C ops s (ops.take k) st with
  | .bool b=>match b with
   | true=>f (C.decide ds true)
   | false=>f (C.decide ds false)
  | _=>none) Ae8
def gV {α :Type} {C:Ctx} {id:Nat} {ops:List Oper} {st:St} {f:Ctx->Option α} {v: α} (h:split C id ops st f=some v):(f C=some v\/ ∃ ds b,f (C.decide ds b)=some v)/\ ∀ f':Ctx->Option α,(∀ C',f C'=some v->f' C'=some v)->split C id ops st f'=some v:=by
 unfold split at h ⊢;dsimp only at h ⊢;cases hs:C.spl id with
 | none=>rw[hs]at h;exact⟨.inl h,λf' hf=>hf C h⟩
 | some q =>
  obtain⟨k,s,ds⟩:=q;rw[hs]at h;dsimp only at h ⊢;generalize peek C ops s (ops.take k) st=x at h ⊢;cases x with
  | bool b=>cases b<;>exact⟨.inr ⟨_,_,h⟩,λf' hf=>hf _ h⟩
  | _=>cases h
def exec {ρ :Type} (C:Ctx) (N:Nat) (fin:St->Option ρ):Code->St->(Ex->St->Option ρ)->Option ρ
 | .skip,st,K=>K .normal st
 | .region id ops false,st,K=>split C id ops.toList st λC=>vT C ops.toList ops.toList st λst'=>K .normal st'
 | .region id ops true,st,K=>split C id ops.toList st λC=>bif TN C ops.toList st then WV C ops.toList ops.toList st λst'=>K .normal st' else none
 | .seq a b,st,K=>exec C N fin a st fun
  | .normal,st'=>meet C 1 b st' λst''=>exec C N fin b st'' K
  | .exit id,st'=>K (.exit id) st'
 | .cond c a b,st,K=>match KZ st.tmps c with
  | .bool t=>bif t then exec C N fin a st K else exec C N fin b st K
  | .cnd g (.bool t)=>bif g then bif t then exec C N fin a st K else exec C N fin b st K else none
  | _=>none
 | .block id c,st,K=>exec C N fin c st fun
  | .exit j,st'=>bif Nat.beq j id then K .normal st' else K (.exit j) st'
  | .normal,st'=>K .normal st'
 | .loop c,st,K=>meet C 2 c st λst'=>rounds (meet C 2 c) (exec C N fin c) N st' K
 | .exit id,st,K=>UR C (4*id+3) st λst'=>K (.exit id) st'
 | .scope c,st,K=>exec C N fin c st K
 | .label _,st,K=>K .normal st
 | .ret,st,_=>fin st
 | _,_,_=>none
def Ty.OB: ∀(t:Ty) (v:t.Val),(t.cells v).length=t.len
 | .nil,_=>rfl
 | .bool r,v=>by simp [Ty.cells,Ty.len,Ty.OB r]
 | .int _ r,v=>by simp [Ty.cells,Ty.len,Ty.OB r]
 | .str r,v=>by simp [Ty.cells,Ty.len,Ty.OB r]
 | .sl _ _ r,v=>by simp [Ty.cells,Ty.len,Ty.OB r]
 | .ptr r,v=>by simp [Ty.cells,Ty.len,Ty.OB r v]
 | .fn r,v=>by simp [Ty.cells,Ty.len,Ty.OB r]
 | .mp _ _ r,v=>by simp [Ty.cells,Ty.len,Ty.OB r]
theorem Ty.Qc {α :Type} (r:Ty) (a: α) (b:r.Val):r.hd (r.mk2 a b)=a:=by cases r<;>rfl
theorem Ty.Qj {α :Type} (r:Ty) (a: α) (b:r.Val):r.tl (r.mk2 a b)=b:=by cases r<;>rfl
theorem Sl.KT (l:Sl):l.es.length=l.xs.length:=by simp [Sl.es]
def Sl.es_len (l:Sl): ∀ e∈l.es,e.length=l.sz:=by intro e he;obtain⟨v,_,rfl⟩:=DK.1 he;exact Ty.OB _ _
def Sl.at_eq (l:Sl) {i:Nat} (h:i<l.xs.length):l.at i=l.es.getD i []:=by grind[Sl.at,Sl.es]
def Sl.ArV (l:Sl) (i:Nat):(l.at i).length=l.sz:=Ty.OB _ _
theorem Sl.QK {l:Sl} {t:Ty} {xs:List t.Val} (h:l.cast t=some xs):l=⟨t,xs⟩:=by
 unfold Sl.cast at h;split at h
 .rename_i e _;obtain⟨s,ys⟩:=l;all_goals grind
 .cases h
def Sl.aU (t:Ty) (xs:List t.Val):(⟨t,xs⟩:Sl).cast t=some xs:=by
 unfold Sl.cast;split
 .rfl
 .grind
theorem Mp.QK {l:Mp} {kt vt:Ty} {xs:List (kt.Val×vt.Val)} (h:l.cast kt vt=some xs):l=⟨kt,vt,xs⟩:=by
 unfold Mp.cast at h;split at h
 .rename_i e _;obtain⟨k,v,ys⟩:=l;dsimp only at e;subst e;split at h;all_goals grind
 .cases h
def Mp.aU (kt vt:Ty) (xs:List (kt.Val×vt.Val)):(⟨kt,vt,xs⟩:Mp).cast kt vt=some xs:=by
 unfold Mp.cast;split
 .split
  .rfl
  .grind
 .grind
theorem A.Rf {j k:IntKind} (h:A.kEq j k=true):j=k:=by cases j<;>cases k<;>first | rfl | cases h
def Ty.XA: ∀(t:Ty) (cs:List A),(t.mk cs).1=true->t.cells (t.mk cs).2=cs:=by
 intro t
 induction t with
 | nil =>
  intro cs h;cases cs with
  | nil=>rfl
  | cons _ _=>simp [Ty.mk]at h
 | fn r ih=>grind[Ty.mk,Ty.cells,Ty.Qc,Ty.Qj]
 | mp kt vt r _ _ ih =>
  intro cs h;unfold Ty.mk at h ⊢;split at h
  .rename_i l cs;cases hc:l.cast kt vt with
   | none=>rw[hc]at h;simp at h
   | some xs=>grind[Ty.cells,Ty.Qc,Ty.Qj,Mp.QK]
  .simp at h
 | bool r ih=>grind[Ty.mk,Ty.cells,Ty.Qc,Ty.Qj]
 | int k r ih=>grind[Ty.mk,Ty.cells,Ty.Qc,Ty.Qj,A.Rf]
 | str r ih=>grind[Ty.mk,Ty.cells,Ty.Qc,Ty.Qj]
 | sl e t r _ ih =>
  intro cs h;unfold Ty.mk at h ⊢;split at h
  .rename_i l cs;cases hc:l.cast t with
   | none=>rw[hc]at h;simp at h
   | some xs=>grind[Ty.cells,Ty.Qc,Ty.Qj,Sl.QK]
  .simp at h
 | ptr r ih =>
  intro cs h;unfold Ty.mk at h ⊢;split at h
  .rename_i cs;show A.Mc::r.cells (r.mk cs).2=_;rw[ih cs h]
  .simp at h
def Ty.ArF: ∀(ks:List CK),ks.all CK.plain=true->(tyl ks).cells (tyl ks).zero=ks.map CK.Qo:=by
 intro ks
 induction ks with
 | nil=>intro _;rfl
 | cons k ks ih=>grind[tyl,Ty.cells,Ty.Qc,Ty.Qj,CK.Qo,CK.zero,CK,CK.plain,cells,zero]
def WM (ks:List CK):(tyl ks).len=ks.length:=by
 induction ks with
 | nil=>rfl
 | cons k ks ih=>cases k<;>simp [tyl,Ty.len,ih]
def Sl.AxL (l:Sl) {i off:Nat} {cs:List A} (hi:i<l.xs.length) (h:(l.set i off cs).1=true):(l.set i off cs).2.es=l.es.set i (splice (l.es.getD i []) off cs):=by have:=Ty.XA _ _ h;rw[<- l.at_eq hi];all_goals simp_all[Sl.set,Sl.es,hi,splice]
def Sl.As5 (t:Ty) (xs ys:List t.Val):(⟨t,xs++ys⟩:Sl).es=(⟨t,xs⟩:Sl).es++(⟨t,ys⟩:Sl).es:=by simp [Sl.es]
def Sl.As6 (l:Sl) (a b:Nat):(⟨l.t,J4 l.xs a b⟩:Sl).es=J4 l.es a b:=by simp_all[Sl.es,J4]
def Sl.jL (ks:List CK) (n:Nat) (h:ks.all CK.plain=true):(⟨tyl ks,List.replicate n (tyl ks).zero⟩:Sl).es=List.replicate n (ks.map CK.Qo):=by simp [Sl.es,List.map_replicate,Ty.ArF ks h]
def Sl.As7 (t:Ty):(⟨t,[]⟩:Sl).es=[]:=rfl
def Q3 (P:Program):Nat->Nat->Option (List CK)
 | 0,_=>none
 | n+1,t=>match P.underlying t with
  | some .bool=>some [.bool]
  | some (.int k)=>some [.int k]
  | some .string=>some [.str]
  | some (.slice e)=>match Q3 P n e with
   | some cs=>bif cs.all CK.plain then some [.sl e (tyl cs)]else some [.oth]
   | none=>some [.oth]
  | some (.pointer _)=>some [.ptr]
  | some (.struct fs)=>fs.toList.foldr (λf acc=>match Q3 P n f.type,acc with | some a,some b=>some (a++b) | _,_=>none) (some [])
  | some (.array m e)=>match Q3 P n e with
   | some a=>bif Nat.ble (m*a.length) 4096 then some ((List.replicate m a).flatten)else none
   | none=>none
  | some (.tuple _)=>none
  | some (.func _ _ _)=>some [.fn]
  | some _=>some [.oth]
  | none=>none
def KH:List Value->List CK->Bool
 | [],[]=>true
 | .bool false::vs,.bool::ks=>KH vs ks
 | .int k 0::vs,.int k'::ks=>A.kEq k k'&&KH vs ks
 | .string s::vs,.str::ks=>s.data.toList.isEmpty&&KH vs ks
 | .slice none 0 0::vs,.sl _ _::ks=>KH vs ks
 | .pointer none::vs,.ptr::ks=>KH vs ks
 | .nilFunc::vs,.fn::ks=>KH vs ks
 | v::vs,.oth::ks=>v.oneCell'&&KH vs ks
 | _,_=>false
def Y1:TypeDesc->Bool
 | .struct _ | .array _ _=>true
 | _=>false
def Aa4:Value->Bool
 | .agg _=>true
 | _=>false
def Yv (P:Program):List Field->Nat->Option (List CK)
 | [],_=>some []
 | f::r,n=>match P.underlying f.type,Yv P r (n+1)with
  | some .bool,some ks=>bif f.name != "_" &&Nat.beq f.offset n then some (.bool::ks)else none
  | some (.int k),some ks=>bif f.name != "_" &&Nat.beq f.offset n then some (.int k::ks)else none
  | some .string,some ks=>bif f.name != "_" &&Nat.beq f.offset n then some (.str::ks)else none
  | _,_=>none
def ApP (P:Program) (t:Nat):TypeDesc->List CK
 | .struct fs=>match Yv P fs.toList 0 with
  | some ks=>bif !(P.stoodInHeld t)&& !(P.eqGuardType P.depth t)then ks else []
  | none=>[]
 | _=>[]
def ArA (P:Program) (t:Nat):Option TI :=
 match P.underlying t,P.info? t,Q3 P 20 t with
 | some d,some i,some cs=>match i.zero with
  | some z=>bif Nat.beq i.size cs.length&&KH z.cells.toList cs&&(Y1 d==Aa4 z)then some ⟨d,cs,i.bytes,ApP P t d⟩else none
  | none=>none
 | _,_,_=>none
end Go.Proofs.YtacidcemomccpaaGreatDoor.Vm
