/-
  CrlCanonical: the law returns true whatever the input; machine, functions, plain law (26 files)
-/
import Derived.RowKit
import Derived.Laws.Sem
set_option linter.all false
namespace Go.Proofs.YtmgpaalplkkpnaaGreatDoor
open Go
def Di {p:Prop} [Decidable p] (h:p:=by omega):decide p=true:=decide_eq_true h
def Dj:=@List.getD_eq_getElem?_getD
def A51 {c:Prop} {h:Decidable c} (n:¬c:=by omega) {α:Sort _} {t e:α}:(if c then t else e)=e:=if_neg n
def Dk {c:Prop} {h:Decidable c} (n:¬c) {α:Sort _} {t e:α}:(if c then t else e)=e:=if_neg n
def A52 {c:Prop} {h:Decidable c} (n:c:=by omega) {α:Sort _} {t e:α}:(if c then t else e)=t:=if_pos n
def Dn {c:Prop} {h:Decidable c} (n:c) {α:Sort _} {t e:α}:(if c then t else e)=t:=if_pos n
def Dp:=@List.length_append
def Dq:=@Bool.and_eq_true
def Du:=@Array.getD_eq_getD_getElem?
def Dv:=@List.mem_cons_self
def A50 {p:Prop} [Decidable p] (h:¬p:=by omega):decide p=false:=decide_eq_false h
def Dw {p:Prop} [Decidable p] (h:¬p):decide p=false:=decide_eq_false h
def Dx:=@List.mem_cons_of_mem
def Dy:=@Nat.eq_of_beq_eq_true
def Dz:=@List.length_map
def D5:=@decide_eq_true_eq
def D6:=@of_decide_eq_true
def D7:=@List.mem_cons
def D8:=@List.all_eq_true
def D9:=@List.mem_append_left
def DC:=@Array.getElem?_eq_getElem
def DD:=@List.getElem?_eq_getElem
def DF:=@List.mem_append_right
def DI:=@List.mem_map
def DJ:=@Sem.run_bind
def DK:=@List.mem_append
def DL:=@Nat.le_of_ble_eq_true
def DN:=@Nat.zero_le
def DR:=@List.mem_singleton
def DT:=@Nat.zero_add
def DU:=@Bool.true_or
def DV:=@Nat.le_refl
def DW:=@Nat.mul_le_mul_right
def DX:=@List.append_nil
def DY:=@of_decide_eq_false
def DZ:=@List.append_assoc
def Ea:=@Array.getElem?_eq_some_iff
def Eb:=@List.length_take
def Ec:=@run_underlying
def Ed:=@List.getElem?_eq_none
def Ee:=@List.map_cons
def Ef:=@List.length_range
def Eg:=@Array.getElem?_toList
def Eh:=@List.getD_cons_zero
def Ei:=@Option.some.inj
def Ej:=@Nat.lt_or_ge
def Em:=@Int.tmod_eq_emod_of_nonneg
def Eo:=@List.getElem_mem
def Ep:=@List.mem_flatMap
def Es:=@List.getElem?_append_left
def Et:=@Bool.not_false
def Eu:=@Bool.not_eq_true'
def Ew:=@List.length_drop
def Ez:=@Nat.add_mul
def E5:=@List.map_congr_left
def E8:=@List.drop_eq_getElem_cons
def EC:=@List.getElem?_map
def ED:=@List.take_length
def EE:=@Bool.or_eq_true
def EF:=@Bool.or_true
def EG:=@decide_eq_false_iff_not
def EH:=@List.length_replicate
def EI:=@Bool.not_true
def EJ:=@List.getElem?_append_right
def EK:=@List.pairwise_cons
def EL:=@Int.tdiv_eq_ediv_of_nonneg
def EM:=@Nat.blt_eq
def EN:=@beq_iff_eq
def EO:=@List.length_pos_iff
def EP:=@beq_false_of_ne
def ER:=@Eq.trans
def ES:=@Nat.add_assoc
def ET:=@beq_self_eq_true
def EU:=@Bool.or_eq_false_iff
def EW:=@Bool.eq_iff_iff
def EX:=@List.map_append
def EY:=@Option.isSome_iff_exists
def EZ:=@List.flatten_append
def Fa:=@Int.eq_ofNat_of_zero_le
def Fb:=@Array.getElem?_append_left
def Fe:=@List.mem_range
def Ff:=@List.map_nil
def Fg:=@Array.getElem?_setIfInBounds
def Fh:=@List.map_map
def Fj:=@Nat.mul_one
def Fp:=@List.not_mem_nil
def Fq:=@List.take_of_length_le
def Fv:=@Bool.and_eq_false_iff
def Fz:=@Nat.lt_of_lt_of_le
def F5:=@UInt8.toNat_ofNat'
def F6:=@Nat.mod_eq_of_lt
def F7:=@Bool.false_or
def F8:=@Option.some.injEq
def F9:=@Array.getElem?_append_right
def FB:=@eq_of_beq
def FC:=@List.length_eq_one_iff
def FD:=@Bool.true_and
def FH:=@Bool.or_not_self
def FI:=@Array.ext
def FK:=@bne_iff_ne
def FM:=@Bool.or_self
def FN:=@List.getElem?_set
def FO:=@List.take_add_one
def FP:=@Bool.or_false
def FQ:=@List.eq_nil_of_length_eq_zero
def FT:=@List.getD_cons_succ
def FU:=@List.drop_drop
def FV:=@List.getElem_map
def FW:=@Bool.not_or_self
def FX:=@List.drop_eq_nil_of_le
def FY:=@List.getElem?_take
def FZ:=@List.getElem?_drop
def Gf:=@BitVec.toNat_ofNat
def Gg:=@List.length_set
def Gh:=@bne_self_eq_false
def Gi:=@List.mem_of_mem_take
def Gj:=@List.mem_iff_getElem
def Gl:=@List.getElem?_eq_some_iff
def Gm:=@World.cell?_setCell_other
def Gp:=@List.map_id
def Gq:=@Int.le_refl
def Gs:=@Nat.le_trans
def Gt:=@List.eq_of_mem_replicate
def Gu:=@World.cell?_setCell_same
def Gv:=@List.drop_length
def Gw:=@List.length_flatten
def Gx:=@List.pairwise_singleton
def Gy:=@List.length_eq_zero_iff
def Gz:=@if_false
def G5:=@Nat.shiftLeft_add_eq_or_of_lt
def G6:=@List.take_append_of_le_length
def G7:=@Bool.eq_false_iff
def G8:=@Array.getElem?_modify
def G9:=@Bool.false_and
def GG:=@Bool.cond_self
def GH:=@List.take_append_drop
def GI:=@List.mem_of_mem_drop
def GK:=@or_false
def GL:=@Nat.shiftLeft_eq
def GM:=@Nat.pow_le_pow_right
def GN:=@Bool.and_true
def GR:=@Int.fdiv_eq_ediv_of_nonneg
def GU:=@Bool.cond_true_left
def GV:=@List.getElem?_zip_eq_some
def GX:=@UInt8.toNat_inj
def GY:=@List.getElem?_take_of_lt
def GZ:=@List.isEmpty_eq_false_iff_exists_mem
def Ha:=@Bool.and_false
def Hf:=@List.drop_left
def Hg:=@Nat.add_sub_cancel_left
def Hl:=@Classical.axiomOfChoice
def Hm:=@Option.bind_eq_some_iff
def Ho:=@List.flatMap_cons
def Hq:=@UInt8.ofNat_toNat
def Hr:=@List.any_eq_true
def Ht:=@List.isEmpty_iff
def Hu:=@decide_eq_decide
def Hw:=@List.contains_iff_mem
def Hy:=@Nat.not_lt_zero
def Hz:=@Nat.ne_of_lt
def H5:=@Nat.mul_comm
def H6:=@List.mem_of_getElem?
def H7:=@List.pairwise_append
def H8:=@List.all_append
def H9:=@List.mergeSort_perm
def HY:=@beq_eq_false_iff_ne
def Ia:=@List.drop_succ_cons
def Ib:=@UInt8.toNat_lt
def Ic:=@List.drop_zero
def Ie:=@List.take_left
def Ig:=@Bool.false_eq_true
def Ih:=@BitVec.toNat_ofInt
def Ii:=@List.take_length_add_append
def Ij:=@Bool.and_self
def Ik:=@List.foldl_append
def Il:=@List.any_eq_false
def Io:=@List.mem_or_eq_of_mem_set
def Ip:=@List.pairwise_iff_getElem
def Iq:=@dif_pos
def Ir:=@Array.toList_map
def Iu:=@Nat.zero_mul
def Iw:=@Bool.not_not
def Iy:=@List.ext_getElem
def Iz:=@List.flatMap_eq_nil_iff
def I4:=@Nat.min_eq_left
def I5:=@decide_true
def I7:=@Nat.div_div_eq_div_mul
def I8:=@List.drop_take
def I9:=@List.mapM_cons
def IA:=@Nat.div_lt_iff_lt_mul
def IB:=@Bool.cond_false_right
def IE:=@List.Perm.refl
def IG:=@Array.mem_of_getElem?
def II:=@List.getElem?_append
def IJ:=@Bool.cond_false_left
def IK:=@Bool.cond_true_right
def IL:=@Array.getElem?_push
def IM:=@Int.toNat_of_nonneg
def IP:=@List.getElem_of_mem
def IQ:=@List.getElem?_range
def IU:=@decide_false
def IV:=@Array.foldl_toList
def IW:=@Nat.lt_or_gt_of_ne
def IX:=@Nat.eq_zero_or_pos
def IY:=@Array.append_assoc
def IZ:=@List.mem_filterMap
def Ja:=@eq_of_heq
def Jb:=@List.getElem_range
def Jc:=@Int.tmod_lt_of_pos
def Jd:=@Nat.succ_pos
def Je:=@BitVec.getLsbD_and
def Jf:=@if_true
def Jg:=@dif_neg
def Jh:=@wp_mono
def Ji:=@List.ext_getElem?
def Jj:=@List.findIdx_cons
def Jk:=@not_true_eq_false
def Jl:=@Nat.mul_add
def Jm:=@Nat.le_of_not_lt
def Jn:=@Nat.zero_testBit
def Jo:=@Prod.ext
def Jp:=@List.le_antisymm
def Jq:=@List.head?_drop
end Go.Proofs.YtmgpaalplkkpnaaGreatDoor
namespace Go.Proofs.YtmgpaalplkkpnaaGreatDoor.Vm
inductive Ty where
 | nil
 | bool (r:Ty)
 | int (k:IntKind) (r:Ty)
 | str (r:Ty)
 | sl (e:Nat) (t:Ty) (r:Ty)
 | ptr (r:Ty)
 | fn (r:Ty)
 | mp (kt vt:Ty) (r:Ty)
 deriving DecidableEq,Inhabited
namespace Ty
def pr (α :Type) (β :Type):Ty->Type
 | .nil=> α
 | _=> α × β
def Val:Ty->Type
 | .nil=>Unit
 | .bool r=>pr Bool r.Val r
 | .int _ r=>pr Int r.Val r
 | .str r=>pr (List UInt8) r.Val r
 | .sl _ t r=>pr (List t.Val) r.Val r
 | .ptr r=>r.Val
 | .fn r=>pr Nat r.Val r
 | .mp kt vt r=>pr (List (kt.Val×vt.Val)) r.Val r
def hd {α β :Type}:(r:Ty)->pr α β r-> α
 | .nil,a=>a
 | .bool _,p=>p.1
 | .int _ _,p=>p.1
 | .str _,p=>p.1
 | .sl _ _ _,p=>p.1
 | .ptr _,p=>p.1
 | .fn _,p=>p.1
 | .mp _ _ _,p=>p.1
def tl {α :Type}:(r:Ty)->pr α r.Val r->r.Val
 | .nil,_=>()
 | .bool _,p=>p.2
 | .int _ _,p=>p.2
 | .str _,p=>p.2
 | .sl _ _ _,p=>p.2
 | .ptr _,p=>p.2
 | .fn _,p=>p.2
 | .mp _ _ _,p=>p.2
def mk2 {α :Type}:(r:Ty)-> α ->r.Val->pr α r.Val r
 | .nil,a,_=>a
 | .bool _,a,b=>(a,b)
 | .int _ _,a,b=>(a,b)
 | .str _,a,b=>(a,b)
 | .sl _ _ _,a,b=>(a,b)
 | .ptr _,a,b=>(a,b)
 | .fn _,a,b=>(a,b)
 | .mp _ _ _,a,b=>(a,b)
def zero:(t:Ty)->t.Val
 | .nil=>()
 | .bool r=>mk2 r false r.zero
 | .int _ r=>mk2 r 0 r.zero
 | .str r=>mk2 r [] r.zero
 | .sl _ _ r=>mk2 r [] r.zero
 | .ptr r=>r.zero
 | .fn r=>mk2 r 0 r.zero
 | .mp _ _ r=>mk2 r [] r.zero
def len:Ty->Nat
 | .nil=>0
 | .bool r=>r.len+1
 | .int _ r=>r.len+1
 | .str r=>r.len+1
 | .sl _ _ r=>r.len+1
 | .ptr r=>r.len+1
 | .fn r=>r.len+1
 | .mp _ _ r=>r.len+1
end Ty
structure Sl where
 t:Ty
 xs:List t.Val
 deriving Inhabited
structure Mp where
 kt:Ty
 vt:Ty
 l:List (kt.Val×vt.Val)
 deriving Inhabited
inductive CK where
 | bool | int (k:IntKind) | str | sl (e:Nat) (t:Ty) | sln (e:Nat) (t:Ty) | ptr | fn | mp (kt vt:Ty) | bx (t:Ty) | oth
 deriving DecidableEq
inductive A where
 | undef
 | bool (b:Bool)
 | int (k:IntKind) (n:Int)
 | str (s:List UInt8)
 | sl (l:Sl)
 | sln (l:Sl)
 | usl (z:Bool) (e:Nat) (l:Sl)
 | LC
 | Me
 | ptr (o off:Nat)
 | own (o:Nat)
 | elt (cs:List A)
 | Kt (o i off:Nat)
 | agg (cs:List A)
 | tup (vs:List A)
 | box (cs:List A)
 | clo (f o:Nat)
 | cbx (f:Nat) (cs:List A)
 | bsl (o n:Nat)
 | osl (o k:Nat)
 | fn (f:Nat)
 | ump (l:Mp)
 | cnd (g:Bool) (v:A)
 deriving Inhabited
inductive Obj where
 | box (cs:List A)
 | arr (e:Nat) (frz:Bool) (l:Sl)
 | mp (l:Mp)
 deriving Inhabited
def Ty.cells:(t:Ty)->t.Val->List A
 | .nil,_=>[]
 | .bool r,v=>.bool (r.hd v)::r.cells (r.tl v)
 | .int k r,v=>.int k (r.hd v)::r.cells (r.tl v)
 | .str r,v=>.str (r.hd v)::r.cells (r.tl v)
 | .sl _ t r,v=>.sl ⟨t,r.hd v⟩::r.cells (r.tl v)
 | .ptr r,v=>.Me::r.cells v
 | .fn r,v=>.fn (r.hd v)::r.cells (r.tl v)
 | .mp kt vt r,v=>.ump ⟨kt,vt,r.hd v⟩::r.cells (r.tl v)
def Sl.sz (l:Sl):Nat:=l.t.len
def Sl.es (l:Sl):List (List A):=l.xs.map l.t.cells
def Sl.at (l:Sl) (i:Nat):List A:=l.t.cells (l.xs.getD i l.t.zero)
def Sl.cast (l:Sl) (t:Ty):Option (List t.Val) :=
 match decEq l.t t with
 | .isTrue h=>some (h▸l.xs)
 | .isFalse _=>none
def Mp.cast (l:Mp) (kt vt:Ty):Option (List (kt.Val×vt.Val)) :=
 match decEq l.kt kt with
 | .isTrue h=>match decEq l.vt vt with
  | .isTrue h'=>some (h▸h'▸l.l)
  | .isFalse _=>none
 | .isFalse _=>none
structure St where
 tmps:List A
 Js:List (Nat×Obj)
def JA:List (Nat×Obj)->Nat->Option Obj
 | [],_=>none
 | (k,x)::r,n=>bif Nat.beq k n then some x else JA r n
def TF:List (Nat×Obj)->Nat->List (Nat×Obj)
 | [],_=>[]
 | (k,x)::r,n=>bif Nat.beq k n then TF r n else(k,x)::TF r n
def jE:List (Nat×Obj)->Nat->Obj->List (Nat×Obj)
 | [],n,y=>[(n,y)]
 | (k,x)::r,n,y=>bif Nat.ble n k then(n,y)::(k,x)::r else(k,x)::jE r n y
def LM (l:List (Nat×Obj)) (n:Nat) (y:Obj):List (Nat×Obj):=jE (TF l n) n y
def has (l:List Nat) (n:Nat):Bool:=l.any (Nat.beq n)
namespace A
def toB:A->Bool | .bool b=>b | _=>false
def isB:A->Bool | .bool _=>true | _=>false
def toI:A->Int | .int _ n=>n | _=>0
def kEq:IntKind->IntKind->Bool
 | .i8,.i8 | .i16,.i16 | .i32,.i32 | .i64,.i64 | .u8,.u8 | .u16,.u16 | .u32,.u32 | .u64,.u64=>true
 | _,_=>false
def isI (k:IntKind):A->Bool | .int k' _=>kEq k k' | _=>false
def toS:A->List UInt8 | .str s=>s | _=>[]
def isS:A->Bool | .str _=>true | _=>false
def toL:A->Sl | .sl l=>l | .sln l=>l | .usl _ _ l=>l | _=>default
def weak:A->A | .sln l=>.sl l | a=>a
def strong:A->A | .sl l=>.sln l | a=>a
def AuZ:A->Bool | .sl _=>false | _=>true
def Af5 (t:Ty):A->Bool | .sln l=>decide (l.t=t) | _=>false
def Alo (t:Ty):A->Bool | .sl l=>decide (l.t=t) | _=>false
def Aj3 (z:Bool) (e:Nat) (t:Ty):A->Bool | .usl z' e' l=>(z==z')&&(Nat.beq e e'&&decide (l.t=t)) | _=>false
def Aan:A->Bool | .Me=>true | _=>false
def isFn:A->Bool | .fn _=>true | _=>false
def Abx (kt vt:Ty):A->Bool | .ump l=>decide (l.kt=kt)&&decide (l.vt=vt) | _=>false
def toM:A->Mp | .ump l=>l | _=>default
def dQ:A->List A | .agg cs=>cs | .box cs=>cs | .cbx _ cs=>cs | _=>[]
def Aoz (f n:Nat):A->Bool | .cbx g cs=>Nat.beq f g&&Nat.beq cs.length n | _=>false
def isAgg (n:Nat):A->Bool | .agg cs=>Nat.beq cs.length n | _=>false
def Aoy (n:Nat):A->Bool | .box cs=>Nat.beq cs.length n | _=>false
def isVal:A->Bool | .undef=>false | .tup _=>false | .usl _ _ _=>false | .ump _=>false | .box _=>false | .cbx _ _=>false | .cnd _ _=>false | _=>true
def cells:A->List A | .agg cs=>cs | v=>[v]
def strip:A->List Bool×A | .cnd g v=>([g],v) | v=>([],v)
def Qc:A->Bool×A | .cnd g v=>(g,v) | v=>(true,v)
def Nz:A->List Nat
 | .ptr o _=>[o] | .own o=>[o] | .Kt o _ _=>[o] | .clo _ o=>[o] | .bsl o _=>[o] | .osl o _=>[o] | _=>[]
def Azp:A->List Nat
 | .agg cs=>cs.flatMap Nz
 | .cnd _ (.agg cs)=>cs.flatMap Nz
 | .cnd _ v=>Nz v
 | v=>Nz v
def ids:A->List Nat
 | .tup vs=>vs.flatMap Azp
 | v=>Azp v
end A
def Obj.ids:Obj->List Nat
 | .box cs=>cs.flatMap A.Nz
 | _=>[]
def St.ids (st:St):List Nat:=st.tmps.flatMap A.ids++st.Js.flatMap (fun p=>p.2.ids)
def aG (n:Nat):Bool:=Nat.blt n 32768&&Nat.beq (n % 256) 0
def St.fresh (st:St) (n:Nat):Bool:= !(has st.ids n)&&(JA st.Js n).isNone&& !(Nat.beq n 255)&& !(aG n)
def force:CK->A->List Bool×A
 | .bool,c=>([c.isB],c)
 | .int k,c=>([c.isI k],c)
 | .str,c=>([c.isS],c)
 | .sl _ t,c=>([c.Alo t],c)
 | .sln _ t,c=>([c.Af5 t],c)
 | .ptr,c=>([c.Aan],c)
 | .fn,c=>([c.isFn],c)
 | .mp _ _,_=>([false],.undef)
 | .bx _,_=>([false],.undef)
 | .oth,_=>([],.undef)
def forces (cs:List A):List CK->Nat->List Bool×List A
 | [],_=>([],[])
 | k::ks,off=>((force k (cs.getD off .undef)).1++(forces cs ks (off+1)).1,(force k (cs.getD off .undef)).2::(forces cs ks (off+1)).2)
def CK.zero:CK->A
 | .bool=>.bool false
 | .int k=>.int k 0
 | .str=>.str []
 | .sl _ _=>.LC
 | .sln _ _=>.LC
 | .ptr=>.Me
 | .fn=>.fn 0
 | .mp _ _=>.undef
 | .bx _=>.undef
 | .oth=>.undef
def CK.plain:CK->Bool | .oth=>false | .mp _ _=>false | .bx _=>false | _=>true
def CK.OV:CK->A
 | .sl _ t=>.sl ⟨t,[]⟩
 | .sln _ t=>.sl ⟨t,[]⟩
 | k=>k.zero
structure TI where
 d:TypeDesc
 cs:List CK
 bytes:Nat
 cmp:List CK:=[]
def tyl:List CK->Ty
 | []=>.nil
 | .bool::r=>.bool (tyl r)
 | .int k::r=>.int k (tyl r)
 | .str::r=>.str (tyl r)
 | .sl e t::r=>.sl e t (tyl r)
 | .sln e t::r=>.sl e t (tyl r)
 | .ptr::r=>.ptr (tyl r)
 | .fn::r=>.fn (tyl r)
 | .mp kt vt::r=>.mp kt vt (tyl r)
 | .bx t::r=>.sl 0 t (tyl r)
 | .oth::r=>.ptr (tyl r)
def tck:Ty->List CK
 | .nil=>[]
 | .bool r=>.bool::tck r
 | .int k r=>.int k::tck r
 | .str r=>.str::tck r
 | .sl e t r=>.sln e t::tck r
 | .ptr r=>.ptr::tck r
 | .fn r=>.fn::tck r
 | .mp kt vt r=>.mp kt vt::tck r
def Ty.mk:(t:Ty)->List A->Bool×t.Val
 | .nil=>fun cs=>(cs.isEmpty,())
 | .bool r=>fun
  | .bool b::cs=>((r.mk cs).1,r.mk2 b (r.mk cs).2)
  | _=>(false,Ty.zero (.bool r))
 | .int k r=>fun
  | .int j n::cs=>(A.kEq j k&&(r.mk cs).1,r.mk2 n (r.mk cs).2)
  | _=>(false,Ty.zero (.int k r))
 | .str r=>fun
  | .str s::cs=>((r.mk cs).1,r.mk2 s (r.mk cs).2)
  | _=>(false,Ty.zero (.str r))
 | .sl e t r=>fun
  | .sl l::cs=>match l.cast t with
   | some xs=>((r.mk cs).1,r.mk2 xs (r.mk cs).2)
   | none=>(false,Ty.zero (.sl e t r))
  | _=>(false,Ty.zero (.sl e t r))
 | .ptr r=>fun
  | .Me::cs=>((r.mk cs).1,(r.mk cs).2)
  | _=>(false,Ty.zero (.ptr r))
 | .fn r=>fun
  | .fn n::cs=>((r.mk cs).1,r.mk2 n (r.mk cs).2)
  | _=>(false,Ty.zero (.fn r))
 | .mp kt vt r=>fun
  | .ump l::cs=>match l.cast kt vt with
   | some xs=>((r.mk cs).1,r.mk2 xs (r.mk cs).2)
   | none=>(false,Ty.zero (.mp kt vt r))
  | _=>(false,Ty.zero (.mp kt vt r))
def TI.agg (t:TI):Bool:=match t.d with | .struct _ | .array _ _=>true | _=>false
inductive Sh where
 | cell (u:Bool) (k:CK)
 | agg (cs:List (Bool×CK))
 | box (cs:List (Bool×CK))
 | map (kt vt:Ty)
 | clo (f:Nat) (cs:List (Bool×CK))
structure Sig where
 J7:List Sh
 JP:List Sh
 ok:List A->Bool
 val:List A->List A
def Sig.F (sg:Sig) (xs:List A):Option (List A):=bif sg.ok xs then some (sg.val xs)else none
structure Nrm where
 keep:List Nat
 nw:List (List Nat×Nat×Ty×Nat)
 pz:List (Option Nat×Nat×Ty)
 ren:List (Nat×Nat)
 frz:List Nat
abbrev Alt:=Sig×Sig×(List A->Bool)
structure Ctx where
 T:Nat->Option TI
 G:Nat->Option Sig
 nrm:Nat->Option Nrm
 alt:Nat->Option Alt
 dyn:Nat->Option (Nat->Sig)
 cuts:List Nat:=[]
 binds:List Nat:=[]
 dec:Nat->Option Bool:=fun _=>none
 spl:Nat->Option (Nat×Nat×List Nat):=fun _=>none
 kept:Nat->List (Nat×Nat):=fun _=>[]
def Ctx.decide (C:Ctx) (ds:List Nat) (b:Bool):Ctx:= {C with dec:=fun d=>bif has ds d then some b else C.dec d}
def Ctx.put (C:Ctx) (f:Nat) (s:Sig):Ctx:= {C with G:=fun k=>bif Nat.beq f k then some s else C.G k}
structure Dl where
 ok:List Bool
 val:A
 new:List (Nat×Obj):=[]
 upd:List (Nat×Obj):=[]
 del:List Nat:=[]
 same:List (Nat×Nat):=[]
def Dl.no:Dl:= {ok:=[false],val:=.undef}
def Dl.v (a:A):Dl:= {ok:=[],val:=a}
def Dl.g (b:List Bool) (a:A):Dl:= {ok:=b,val:=a}
def Pn:Value->A
 | .bool b=>.bool b
 | .int k n=>.int k n
 | .string s=>.str s.data.toList
 | .slice none 0 0=>.LC
 | .pointer none=>.Me
 | .nilFunc=>.fn 0
 | _=>.undef
def ofConst:Value->A
 | .agg vs=>bif vs.toList.all Value.oneCell' then .agg (vs.toList.map Pn)else .undef
 | v=>Pn v
abbrev Fet:=List (Nat×Obj)
def AlG:CK->Sl->List Bool×A
 | .sln _ _,l=>([decide (0<l.xs.length)],.sln l)
 | _,l=>([],.sl l)
def A3w:CK->Sl->A
 | .sln _ _,l=>.sln l
 | _,l=>.sl l
def pur (fet:Fet) (k:CK):A->List Bool×A×List (Nat×Obj)
 | .own o=>match JA fet o with
  | some (.arr e _ l)=>((AlG k l).1,(AlG k l).2,[(o,.arr e true l)])
  | _=>([false],.undef,[])
 | .LC=>match k with
  | .sl _ t=>([],.sl ⟨t,[]⟩,[])
  | .sln _ t=>([],.sln ⟨t,[]⟩,[])
  | _=>([false],.undef,[])
 | .sln l=>([],A3w k l,[])
 | .bool b=>([],.bool b,[])
 | .int j n=>([],.int j n,[])
 | .str s=>([],.str s,[])
 | .sl l=>((AlG k l).1,(AlG k l).2,[])
 | .Me=>([],.Me,[])
 | .fn n=>([],.fn n,[])
 | _=>([false],.undef,[])
def KQ (fet:Fet):List CK->List A->List Bool×List A×List (Nat×Obj)
 | [],[]=>([],[],[])
 | k::ks,c::cs=>((pur fet k c).1++(KQ fet ks cs).1,(pur fet k c).2.1::(KQ fet ks cs).2.1,(pur fet k c).2.2++(KQ fet ks cs).2.2)
 | _,_=>([false],[],[])
def Ls (id:Nat):List CK->List A->List A×List (Nat×Obj)
 | .sl e t::ks,.LC::cs=>(.own id::(Ls (id+1) ks cs).1,(id,.arr e false ⟨t,[]⟩)::(Ls (id+1) ks cs).2)
 | _::ks,c::cs=>(c::(Ls (id+1) ks cs).1,(Ls (id+1) ks cs).2)
 | _,cs=>(cs,[])
def rd (fet:Fet):A->List Bool×Sl
 | .own o=>match JA fet o with
  | some (.arr _ _ l)=>([],l)
  | _=>([false],default)
 | .LC=>([],default)
 | .sl l=>([],l)
 | _=>([false],default)
def rdT (fet:Fet) (t:Ty):A->List Bool×List t.Val
 | .LC=>([],[])
 | x=>match (rd fet x).2.cast t with
  | some xs=>((rd fet x).1,xs)
  | none=>([false],[])
def Tz:Ty:=.int .u8 .nil
def rdB (fet:Fet) (x:A):List Bool×List Int:=rdT fet Tz x
def byteOf (n:Int):UInt8:=UInt8.ofNat n.toNat
def isByte (n:Int):Bool:=decide (0<=n)&&decide (n<256)
def JF (op:BinOp) (k:IntKind) (x y:Int):Int :=
 match op with
 | .and=>k.wrap (((BitVec.ofInt k.bits x) &&& (BitVec.ofInt k.bits y)).toNat)
 | .or=>k.wrap (((BitVec.ofInt k.bits x) ||| (BitVec.ofInt k.bits y)).toNat)
 | .xor=>k.wrap (((BitVec.ofInt k.bits x) ^^^ (BitVec.ofInt k.bits y)).toNat)
 | _=>k.wrap (((BitVec.ofInt k.bits x) &&& ~~~(BitVec.ofInt k.bits y)).toNat)
def Adp (op:BinOp) (k:IntKind) (x y:Int):Dl :=
 match op with
 | .add=>.v (.int k (k.wrap (x+y)))
 | .sub=>.v (.int k (k.wrap (x - y)))
 | .mul=>.v (.int k (k.wrap (x*y)))
 | .quo=>.g [y != 0] (.int k (k.wrap (x.tdiv y)))
 | .rem=>.g [y != 0] (.int k (x.tmod y))
 | .and | .or | .xor | .andNot=>.v (.int k (JF op k x y))
 | .eql=>.v (.bool (x==y))
 | .neq=>.v (.bool (x != y))
 | .lss=>.v (.bool (decide (x<y)))
 | .leq=>.v (.bool (decide (x<=y)))
 | .gtr=>.v (.bool (decide (x>y)))
 | .geq=>.v (.bool (decide (x>=y)))
 | _=>.no
def bytesLess:List UInt8->List UInt8->Bool:=Go.Op.bytesLess
def Adq (op:BinOp) (x y:List UInt8):Dl :=
 match op with
 | .add=>.g [decide (x.length+y.length<=140737488355328)] (.str (x++y))
 | .eql=>.v (.bool (x==y))
 | .neq=>.v (.bool (!(x==y)))
 | .lss=>.v (.bool (bytesLess x y))
 | .leq=>.v (.bool (bytesLess x y||x==y))
 | .gtr=>.v (.bool (!(bytesLess x y||x==y)))
 | .geq=>.v (.bool (!(bytesLess x y)))
 | _=>.no
def oM:CK->A->A->Bool×Bool
 | .bool,.bool a,.bool b=>(true,a==b)
 | .int k,.int i a,.int j b=>(A.kEq i k&&A.kEq j k,a==b)
 | .str,.str a,.str b=>(true,a==b)
 | _,_,_=>(false,false)
def QT:List CK->List A->List A->Bool×Bool
 | [],[],[]=>(true,true)
 | k::ks,a::x,b::y=>((oM k a b).1&&(QT ks x y).1,(oM k a b).2&&(QT ks x y).2)
 | _,_,_=>(false,false)
def Ty.same:(t:Ty)->t.Val->t.Val->Bool
 | .nil,_,_=>true
 | .bool r,a,b=>(r.hd a==r.hd b)&&r.same (r.tl a) (r.tl b)
 | .int _ r,a,b=>(r.hd a==r.hd b)&&r.same (r.tl a) (r.tl b)
 | .str r,a,b=>(r.hd a==r.hd b)&&r.same (r.tl a) (r.tl b)
 | _,_,_=>false
def Z7 {β :Type} (t:Ty) (k:t.Val):List (t.Val× β)->Option β
 | []=>none
 | p::r=>bif t.same k p.1 then some p.2 else Z7 t k r
def qO {β :Type} (t:Ty) (k:t.Val) (v: β):List (t.Val× β)->List (t.Val× β)
 | []=>[(k,v)]
 | p::r=>bif t.same k p.1 then(p.1,v)::r else p::qO t k v r
def qJ {β :Type} (t:Ty) (k:t.Val):List (t.Val× β)->List (t.Val× β)
 | []=>[]
 | p::r=>bif t.same k p.1 then r else p::qJ t k r
def PO:List A->A
 | [c]=>c
 | cs=>.agg cs
def splice (l:List A) (off:Nat) (vs:List A):List A:=l.take off++vs++l.drop (off+vs.length)
def AjQ (C:Ctx) (d:TypeDesc) (f:Nat):Option (Nat×TI) :=
 match d with
 | .struct fs=>match fs.toList[f]? with
  | some x=>match C.T x.type with
   | some ti=>some (x.offset,ti)
   | none=>none
  | none=>none
 | _=>none
def Aek:TypeDesc->Bool | .string=>true | _=>false
def bW:TypeDesc->Bool | .slice _=>true | .string=>true | _=>false
def Aln:TypeDesc->Bool | .bool=>true | _=>false
def Aj1:TypeDesc->Bool | .int .u8=>true | _=>false
def AfB (C:Ctx) (d:TypeDesc) (f:Nat):Option (Nat×TI) :=
 match d with
 | .struct fs=>match fs.toList[f]? with
  | some x=>match C.T x.type with
   | some ti=>some (x.offset,ti)
   | none=>none
  | none=>none
 | .array n e=>match C.T e with
  | some ti=>bif Nat.blt f n then some (f*ti.cs.length,ti)else none
  | none=>none
 | _=>none
def AbG (ti:TI) (cs:List A) (off:Nat):A:=bif ti.agg then .agg ((cs.drop off).take ti.cs.length)else cs.getD off .undef
def fill (C:Ctx) (d:TypeDesc):List (Nat×A)->List A->Option (List A)
 | [],cs=>some cs
 | (i,v)::r,cs=>match AfB C d i with
  | some (off,ti)=>bif v.isVal&&Nat.beq v.cells.length ti.cs.length&&Nat.ble (off+ti.cs.length) cs.length then fill C d r (splice cs off v.cells)else none
  | none=>none
def OC (fet:Fet) (ti:TI) (t:Ty):List (Nat×A)->List t.Val->List Bool×List t.Val×List (Nat×Obj)
 | [],xs=>([],xs,[])
 | (i,v)::r,xs=>((KQ fet ti.cs v.cells).1++[(t.mk (KQ fet ti.cs v.cells).2.1).1,Nat.blt i xs.length]++(OC fet ti t r (xs.set i (t.mk (KQ fet ti.cs v.cells).2.1).2)).1,
     (OC fet ti t r (xs.set i (t.mk (KQ fet ti.cs v.cells).2.1).2)).2.1,(KQ fet ti.cs v.cells).2.2++(OC fet ti t r (xs.set i (t.mk (KQ fet ti.cs v.cells).2.1).2)).2.2)
def Sl.set (l:Sl) (i off:Nat) (cs:List A):Bool×Sl:=((l.t.mk (splice (l.at i) off cs)).1,⟨l.t,l.xs.set i (l.t.mk (splice (l.at i) off cs)).2⟩)
def KJ:Sh->Bool | .box _=>true | .map _ _=>true | .clo _ _=>true | _=>false
def MB (fet:Fet) (o:Nat):Option (List A):=match JA fet o with | some (.box cs)=>some cs | _=>none
structure Arg where
 ok:List Bool
 a:A
 upd:List (Nat×Obj):=[]
 del:List Nat:=[]
 boxes:List (Nat×Sh):=[]
def JG (fet:Fet):List (Bool×CK)->List A->List Bool×List A×List (Nat×Obj)×List Nat
 | [],[]=>([],[],[],[])
 | (false,k)::ks,c::cs=>((pur fet k c).1++(JG fet ks cs).1,(pur fet k c).2.1::(JG fet ks cs).2.1,(pur fet k c).2.2++(JG fet ks cs).2.2.1,(JG fet ks cs).2.2.2)
 | (true,.sl e t)::ks,.own o::cs=>match JA fet o with
  | some (.arr e' _ l)=>([Nat.beq e e',decide (l.t=t)]++(JG fet ks cs).1,.usl true e l::(JG fet ks cs).2.1,(o,.arr e true l)::(JG fet ks cs).2.2.1,o::(JG fet ks cs).2.2.2)
  | _=>([false],[],[],[])
 | (true,.sl e t)::ks,.LC::cs=>((JG fet ks cs).1,.usl true e ⟨t,[]⟩::(JG fet ks cs).2.1,(JG fet ks cs).2.2.1,(JG fet ks cs).2.2.2)
 | (true,.sln e t)::ks,.own o::cs=>match JA fet o with
  | some (.arr e' f l)=>([Nat.beq e e',decide (l.t=t),!f]++(JG fet ks cs).1,.usl false e l::(JG fet ks cs).2.1,(JG fet ks cs).2.2.1,o::(JG fet ks cs).2.2.2)
  | _=>([false],[],[],[])
 | (true,.sln e t)::ks,.LC::cs=>((JG fet ks cs).1,.usl false e ⟨t,[]⟩::(JG fet ks cs).2.1,(JG fet ks cs).2.2.1,(JG fet ks cs).2.2.2)
 | (true,.bx t)::ks,.ptr o off::cs=>match MB fet o with
  | some zs=>(Nat.beq off 0::(KQ fet (tck t) zs).1++(JG fet ks cs).1,.box (KQ fet (tck t) zs).2.1::(JG fet ks cs).2.1,(KQ fet (tck t) zs).2.2++(JG fet ks cs).2.2.1,o::(JG fet ks cs).2.2.2)
  | none=>([false],[],[],[])
 | _,_=>([false],[],[],[])
def wC:Bool×CK->Bool
 | (true,.sln _ _)=>true
 | _=>false
def wS:Sh->Bool
 | .cell u k=>wC (u,k)
 | .agg ks=>ks.any wC
 | .box ks=>ks.any wC
 | .clo _ ks=>ks.any wC
 | .map _ _=>false
def JZ (fet:Fet):Sh->A->Arg
 | .cell u k,a=>match JG fet [(u,k)] [a]with
  | (ok,[c],upd,del)=> {ok,a:=c,upd,del}
  | _=> {ok:=[false],a:=.undef}
 | .agg ks,.agg cs=>match JG fet ks cs with
  | (ok,cs,upd,del)=> {ok,a:=.agg cs,upd,del}
 | .box ks,.ptr o off=>match MB fet o with
  | some cs=> {ok:=Nat.beq off 0::Nat.ble ks.length 200::(JG fet ks cs).1,a:=.box (JG fet ks cs).2.1,upd:=(JG fet ks cs).2.2.1,del:=(JG fet ks cs).2.2.2,boxes:=[(o,.box ks)]}
  | none=> {ok:=[false],a:=.undef}
 | .clo f ks,.clo g o=>match MB fet o with
  | some cs=> {ok:=Nat.beq f g::Nat.ble ks.length 200::(JG fet ks cs).1,a:=.cbx g (JG fet ks cs).2.1,upd:=(JG fet ks cs).2.2.1,del:=(JG fet ks cs).2.2.2,boxes:=[(o,.box ks)]}
  | none=> {ok:=[false],a:=.undef}
 | .map kt vt,.own o=>match JA fet o with
  | some (.mp l)=> {ok:=[decide (l.kt=kt),decide (l.vt=vt)],a:=.ump l,boxes:=[(o,.map kt vt)]}
  | _=> {ok:=[false],a:=.undef}
 | _,_=> {ok:=[false],a:=.undef}
def JS (fet:Fet):List Sh->List A->List Bool×List A×List (Nat×Obj)×List Nat×List (Nat×Sh)
 | [],[]=>([],[],[],[],[])
 | s::ss,a::aa=>((JZ fet s a).ok++(JS fet ss aa).1,(JZ fet s a).a::(JS fet ss aa).2.1,(JZ fet s a).upd++(JS fet ss aa).2.2.1,
  (JZ fet s a).del++(JS fet ss aa).2.2.2.1,(JZ fet s a).boxes++(JS fet ss aa).2.2.2.2)
 | _,_=>([false],[],[],[],[])
def JX (id:Nat):List (Bool×CK)->List A->Nat->List Bool×List A×List (Nat×Obj)
 | [],_,_=>([],[],[])
 | (false,k)::ks,cs,j=>((force k (cs.getD j .undef)).1++(JX id ks cs (j+1)).1,(force k (cs.getD j .undef)).2::(JX id ks cs (j+1)).2.1,(JX id ks cs (j+1)).2.2)
 | (true,.sl e t)::ks,cs,j=>((cs.getD j .undef).Aj3 true e t::(JX id ks cs (j+1)).1,.own (id+j)::(JX id ks cs (j+1)).2.1,
     (id+j,.arr e true (cs.getD j .undef).toL)::(JX id ks cs (j+1)).2.2)
 | (true,.sln e t)::ks,cs,j=>((cs.getD j .undef).Aj3 false e t::(JX id ks cs (j+1)).1,.own (id+j)::(JX id ks cs (j+1)).2.1,
     (id+j,.arr e false (cs.getD j .undef).toL)::(JX id ks cs (j+1)).2.2)
 | (true,.bx t)::ks,cs,j=>((cs.getD j .undef).Aoy t.len::(JX id ks cs (j+1)).1,.ptr (id+j) 0::(JX id ks cs (j+1)).2.1,(id+j,.box (cs.getD j .undef).dQ)::(JX id ks cs (j+1)).2.2)
 | _,_,_=>([false],[],[])
def back (id:Nat):Sh->A->List Bool×A×List (Nat×Obj)
 | .cell u k,a=>((JX id [(u,k)] [a] 0).1++[k.plain],(JX id [(u,k)] [a] 0).2.1.getD 0 .undef,(JX id [(u,k)] [a] 0).2.2)
 | .agg ks,a=>(Nat.ble ks.length 200::a.isAgg ks.length::(JX (id+1) ks a.dQ 0).1,.agg (JX (id+1) ks a.dQ 0).2.1,(JX (id+1) ks a.dQ 0).2.2)
 | .box ks,a=>(Nat.ble ks.length 200::a.Aoy ks.length::(JX (id+1) ks a.dQ 0).1,.ptr id 0,(id,.box (JX (id+1) ks a.dQ 0).2.1)::(JX (id+1) ks a.dQ 0).2.2)
 | .map kt vt,a=>([a.Abx kt vt],.own id,[(id,.mp a.toM)])
 | .clo f ks,a=>(Nat.ble ks.length 200::a.Aoz f ks.length::(JX (id+1) ks a.dQ 0).1,.clo f id,(id,.box (JX (id+1) ks a.dQ 0).2.1)::(JX (id+1) ks a.dQ 0).2.2)
def Ld (id stride:Nat):List Sh->List A->Nat->List Bool×List A×List (Nat×Obj)
 | [],_,_=>([],[],[])
 | s::ss,rs,j=>((back (id+stride*j) s (rs.getD j .undef)).1++(Ld id stride ss rs (j+1)).1,(back (id+stride*j) s (rs.getD j .undef)).2.1::(Ld id stride ss rs (j+1)).2.1,
  (back (id+stride*j) s (rs.getD j .undef)).2.2++(Ld id stride ss rs (j+1)).2.2)
def O7 (rb:Nat):Sh->A->List Bool×Obj×List (Nat×Obj)
 | .box ks,a=>(a.isAgg ks.length::(JX (rb+1) ks a.dQ 0).1,.box (JX (rb+1) ks a.dQ 0).2.1,(JX (rb+1) ks a.dQ 0).2.2)
 | .map kt vt,a=>([a.Abx kt vt],.mp a.toM,[])
 | _,_=>([false],.box [],[])
def Ll (rb:Nat->Nat) (rs:List A):List (Nat×Sh)->Nat->List Bool×List (Nat×Obj)×List (Nat×Obj)
 | [],_=>([],[],[])
 | (o,s)::r,j=>((O7 (rb o) s (rs.getD j .undef)).1++(Ll rb rs r (j+1)).1,
     (o,(O7 (rb o) s (rs.getD j .undef)).2.1)::(Ll rb rs r (j+1)).2.1,(O7 (rb o) s (rs.getD j .undef)).2.2++(Ll rb rs r (j+1)).2.2)
def Nb (fet:Fet) (o:Nat):Nat:=match MB fet o with
 | some cs=>bif cs.any (fun c=>c.Nz.any (fun i=>Nat.blt o i&&Nat.ble i (o+100)))then o+100 else o
 | none=>o
def nodup:List Nat->Bool
 | []=>true
 | n::r=> !(has r n)&&nodup r
def LY (id:Nat):List (Bool×CK)->List A->List (Nat×Nat)
 | (true,.sl _ _)::ks,.own o::cs=>(o,id)::LY (id+1) ks cs
 | (true,.sln _ _)::ks,.own o::cs=>(o,id)::LY (id+1) ks cs
 | (true,.bx _)::ks,.ptr o _::cs=>(o,id)::LY (id+1) ks cs
 | _::ks,_::cs=>LY (id+1) ks cs
 | _,_=>[]
def OY (fet:Fet) (id:Nat):Sh->A->List (Nat×Nat)
 | .cell u k,a=>LY id [(u,k)] [a]
 | .agg ks,.agg cs=>LY (id+1) ks cs
 | .box ks,.ptr o _=>(o,id)::(match MB fet o with | some cs=>LY (id+1) ks cs | none=>[])
 | .map _ _,.own o=>[(o,id)]
 | .clo _ ks,.clo _ o=>(o,id)::(match MB fet o with | some cs=>LY (id+1) ks cs | none=>[])
 | _,_=>[]
def Oh (fet:Fet):Nat->Nat->List Sh->List A->List (Nat×Nat)
 | id,stride,s::ss,x::xs=>OY fet id s x++Oh fet (id+stride) stride ss xs
 | _,_,_,_=>[]
end Go.Proofs.YtmgpaalplkkpnaaGreatDoor.Vm
namespace Go.Proofs.YtmgpaalplkkpnaaGreatDoor.Vm
def Afm:Nat->Option (IntKind×List Int)
 | 0=>some (.i64,[31,28,31,30,31,30,31,31,30,31,30,31])
 | _=>none
def A3J (j:Nat):Option (IntKind×List Int)->Option (Value->Prop)
 | some (k,ns)=>if j<ns.length then some (fun v=>v= .int k (ns.getD j 0))else none
 | none=>none
def yS:Nat->Nat->Option (Value->Prop)
 | 1,0=>some (fun v=> ∃ m,v= .int .i64 m)
 | 2,j=>if j<20 then some (fun v=>v= .int .u64 ((10 ^ j:Nat):Int))else none
 | g,j=>A3J j (Afm g)
def A0l:Nat->Option Nat
 | 2=>some 20
 | _=>none
def A0k:Option (IntKind×List Int)->A
 | some (k,ns)=>.elt (ns.map (.int k))
 | none=>.undef
def A2l {g:Nat} {q:IntKind×List Int} (h:Afm g=some q) (j:Nat):yS g j=A3J j (some q):=by rw[<- h];unfold yS;split<;>first | rfl | (exfalso;cases h;done)
def Lj (tmps:List A):Operand->A
 | .tmp t=>tmps.getD t .undef
 | .const v=>ofConst v
 | .func f=>.fn (f+1)
 | .global g=>A0k (Afm g)
def b2 (d:Nat):Nat:=(d+128)*256
def Kv {α :Type} (o:Option α) (k: α ->Dl):Dl:=match o with | some x=>k x | none=>.no
def MJ (C:Ctx) (t:Nat) (k:TI->Dl):Dl:=Kv (C.T t) k
def elem? :TypeDesc->Option Nat
 | .slice e=>some e
 | _=>none
def elemOf (C:Ctx) (t:Nat) (k:Nat->TI->Dl):Dl:=MJ C t fun ti=>Kv (elem? ti.d) fun e=>MJ C e fun te=>k e te
structure Arr where
 e:Nat
 frz:Bool
 l:Sl
def jF (fet:Fet) (o:Nat):Option Arr:=match JA fet o with | some (.arr e frz l)=>some ⟨e,frz,l⟩ | _=>none
def one? {α :Type}:List α ->Option α
 | [k]=>some k
 | _=>none
def Ajy:List CK->Bool
 | [.ptr]=>true
 | _=>false
def XU (ti:TI) (cs:List A) (off:Nat) (pre:List Bool):Dl :=
 bif ti.agg then .g (pre++(forces cs ti.cs off).1) (.agg (forces cs ti.cs off).2)
 else Kv (one? ti.cs) fun k=>.g (pre++(force k (cs.getD off .undef)).1) (force k (cs.getD off .undef)).2
def isRow (ti:TI) (l:Sl) (i off:Nat):Bool:=Nat.blt 1 ti.cs.length&&Nat.beq l.sz 1&&Nat.beq off 0&&Nat.beq i 0
def AbY (l:Sl) (n:Nat):List A:=(List.range n).map fun j=>(l.at j).getD 0 .undef
def o7 (t:Ty) (cs:List A):Bool×List t.Val:=(cs.all (fun c=>(t.mk [c]).1),cs.map (fun c=>(t.mk [c]).2))
def Zu (C:Ctx) (fet:Fet) (t:Nat) (a:A):Dl :=
 MJ C t fun ti=>match a with
 | .ptr o off=>Kv (MB fet o) fun cs=>.g [Nat.ble (off+ti.cs.length) cs.length,Nat.blt 0 ti.cs.length] (AbG ti cs off)
 | .elt cs=>XU ti cs 0 [Nat.ble ti.cs.length cs.length]
 | .clo k o=>.g [Nat.beq k 0,Ajy ti.cs,!ti.agg] (.ptr o 0)
 | .Kt o i off=>Kv (jF fet o) fun r=>bif isRow ti r.l i off then XU ti (AbY r.l ti.cs.length) 0 [Nat.ble ti.cs.length r.l.xs.length,true]else XU ti (r.l.at i) off [Nat.ble (off+ti.cs.length) r.l.sz,decide (i<r.l.xs.length)]
 | _=>.no
def Wp (C:Ctx) (fet:Fet) (t:Nat) (a v:A):Dl :=
 MJ C t fun ti=>match a with
 | .ptr o off=>Kv (MB fet o) fun cs =>
  {ok:=[v.isVal,Nat.beq v.cells.length ti.cs.length,Nat.ble (off+ti.cs.length) cs.length,Nat.blt 0 ti.cs.length],val:=.undef,
   upd:=[(o,.box (splice cs off (Ls (Nb fet o+1+off) ti.cs v.cells).1))],new:=(Ls (Nb fet o+1+off) ti.cs v.cells).2}
 | .Kt o i off=>Kv (jF fet o) fun r=>bif isRow ti r.l i off then
  {ok:=(KQ fet ti.cs v.cells).1++[!r.frz,(o7 r.l.t (KQ fet ti.cs v.cells).2.1).1,Nat.beq ti.cs.length r.l.xs.length,true,Nat.blt 0 ti.cs.length,!(has ((KQ fet ti.cs v.cells).2.2.map (·.1)) o)],val:=.undef,
   upd:=(KQ fet ti.cs v.cells).2.2++[(o,.arr r.e false ⟨r.l.t,(o7 r.l.t (KQ fet ti.cs v.cells).2.1).2⟩)]}else
  {ok:=(KQ fet ti.cs v.cells).1++[!r.frz,(r.l.set i off (KQ fet ti.cs v.cells).2.1).1,Nat.ble (off+ti.cs.length) r.l.sz,decide (i<r.l.xs.length),Nat.blt 0 ti.cs.length,!(has ((KQ fet ti.cs v.cells).2.2.map (·.1)) o)],val:=.undef,
   upd:=(KQ fet ti.cs v.cells).2.2++[(o,.arr r.e false (r.l.set i off (KQ fet ti.cs v.cells).2.1).2)]}
 | _=>.no
def adK (C:Ctx) (d:Nat) (ti:TI):List CK:=bif has C.cuts d then []else ti.cs
def Yd (C:Ctx) (d:Nat) (t:Nat) (v:A):Dl :=
 MJ C t fun ti=> {ok:=[v.isVal,Nat.beq v.cells.length ti.cs.length],val:=.ptr (b2 d) 0,new:=(b2 d,.box (Ls (b2 d+1) (adK C d ti) v.cells).1)::(Ls (b2 d+1) (adK C d ti) v.cells).2}
def dU (off n:Nat) (fet:Fet):A->Dl
 | .ptr o p=>Kv (MB fet o) fun cs=>.g [Nat.ble (p+off+n) cs.length] (.ptr o (p+off))
 | .elt cs=>.g [Nat.ble (off+n) cs.length] (.elt (cs.drop off))
 | .Kt o i p=>Kv (jF fet o) fun r=>.g [decide (i<r.l.xs.length)] (.Kt o i (p+off))
 | _=>.no
def AaS:TypeDesc->Option (Nat×Nat)
 | .array n e=>some (n,e)
 | _=>none
def int? :A->Option Int
 | .int _ n=>some n
 | _=>none
def A0J:CK->Option IntKind
 | .int k=>some k
 | _=>none
def Aiw (C:Ctx) (t:Nat) (k:Nat->IntKind->Dl):Dl:=MJ C t fun ti=>Kv (AaS ti.d) fun p=>MJ C p.2 fun te=>bif te.agg then .no else Kv (one? te.cs) fun c=>Kv (A0J c) fun kk=>k p.1 kk
def AbA (cs:List A) (n:Int):Int:=(cs.map A.toI).getD n.toNat 0
def mY (C:Ctx) (fet:Fet) (t:Nat) (x:A) (i:A):Dl :=
 match x with
 | .Kt o i0 off0=>Kv (int? i) fun n=>MJ C t fun ti=>Kv (AaS ti.d) fun p=>MJ C p.2 fun te=>Kv (jF fet o) fun r =>
  .g [Nat.beq i0 0,Nat.beq off0 0,Nat.beq r.l.sz te.cs.length,decide (0<=n),decide (n<(p.1:Int)),decide (n.toNat<r.l.xs.length)] (.Kt o n.toNat 0)
 | .elt cs=>Kv (int? i) fun n=>Aiw C t fun m kk=>.g [cs.all (A.isI kk),Nat.beq cs.length m,decide (0<=n),decide (n<(m:Int))] (.elt [.int kk (AbA cs n)])
 | x =>
 Kv (int? i) fun n=>elemOf C t fun _ te=>match x with
 | .own o=>Kv (jF fet o) fun r=>.g [Nat.beq r.l.sz te.cs.length,decide (0<=n),decide (n<r.l.xs.length)] (.Kt o n.toNat 0)
 | .sl l=>.g [Nat.beq l.sz te.cs.length,Nat.blt 0 l.sz,decide (0<=n),decide (n<l.xs.length)] (.elt (l.at n.toNat))
 | .bsl o k=>Kv (MB fet o) fun cs=>.g [Nat.beq te.cs.length 1,decide (0<=n),Nat.blt n.toNat k,Nat.blt n.toNat cs.length] (.ptr o n.toNat)
 | _=>.no
def AqO:A->Option (List UInt8)
 | .str s=>some s
 | _=>none
def Aju (C:Ctx) (t:Nat) (x i:A):Dl :=
 Kv (int? i) fun n=>match x with
 | .agg cs=>Aiw C t fun m kk=>.g [cs.all (A.isI kk),Nat.beq cs.length m,decide (0<=n),decide (n<(m:Int))] (.int kk (AbA cs n))
 | x=>Kv (AqO x) fun s=>MJ C t fun ti=>.g [Aek ti.d,decide (0<=n),decide (n<s.length)] (.int .u8 ((s.getD n.toNat 0).toNat:Int))
def Ahi (len:Nat):Option A->Option A->Option (List Bool×Nat×Nat)
 | none,none=>some ([],0,len)
 | some (.int _ a),none=>some ([decide (0<=a),decide (a<=len)],a.toNat,len)
 | none,some (.int _ b)=>some ([decide (0<=b),decide (b<=len)],0,b.toNat)
 | some (.int _ a),some (.int _ b)=>some ([decide (0<=a),decide (a<=b),decide (b<=len)],a.toNat,b.toNat)
 | _,_=>none
def JD {α :Type} (l:List α) (a b:Nat):List α :=(l.take b).drop a
def MZ (C:Ctx) (fet:Fet) (t:Nat) (x:A) (lo hi:Option A):Dl :=
 MJ C t fun ti=>match x with
 | .str s=>Kv (Ahi s.length lo hi) fun r=>.g (Aek ti.d::r.1) (.str (JD s r.2.1 r.2.2))
 | .sl l=>Kv (Ahi l.xs.length lo hi) fun r=>Kv (elem? ti.d) fun e=>MJ C e fun te=>.g (Nat.beq l.sz te.cs.length::r.1) (.sl ⟨l.t,JD l.xs r.2.1 r.2.2⟩)
 | .own o=>Kv (jF fet o) fun ro=>Kv (Ahi ro.l.xs.length lo hi) fun r=>Kv (elem? ti.d) fun e=>MJ C e fun te =>
  {ok:=Nat.beq ro.l.sz te.cs.length::r.1,val:=.sl ⟨ro.l.t,JD ro.l.xs r.2.1 r.2.2⟩,upd:=bif ro.frz then []else [(o,.arr ro.e true ro.l)]}
 | _=>.no
def AdB (C:Ctx) (fet:Fet) (d t:Nat) (x hi:A):Dl :=
 MJ C t fun ti=>match x with
 | .own o=>Kv (jF fet o) fun ro=>Kv (Ahi ro.l.xs.length none (some hi)) fun r=>Kv (elem? ti.d) fun e=>MJ C e fun te =>
  {ok:=Nat.beq ro.l.sz te.cs.length::r.1++[!ro.frz],val:=.own (b2 d),new:=[(b2 d,.arr ro.e false ⟨ro.l.t,JD ro.l.xs r.2.1 r.2.2⟩)],del:=[o]}
 | _=>.no
def Ach (C:Ctx) (fet:Fet) (t:Nat) (x a:A):Dl :=
 MJ C t fun ti=>match x with
 | .own o=>Kv (jF fet o) fun ro=>Kv (int? a) fun n=>Kv (elem? ti.d) fun e=>MJ C e fun te=>.g [Nat.beq ro.l.sz te.cs.length,decide (0<=n),decide (n<(ro.l.xs.length:Int))] (.osl o n.toNat)
 | _=>.no
def yF (ys:List Int) (k:Nat) (s:List UInt8):List Int:=ys.take k++s.map (fun(b:UInt8)=>((b.toNat:Int)))++ys.drop (k+s.length)
def Aoq (C:Ctx) (fet:Fet) (ts:List Nat) (x y:A):Dl :=
 match ts with
 | [t,_]=>elemOf C t fun _ te=>match x with
  | .osl o k=>Kv (jF fet o) fun r=>Kv (r.l.cast Tz) fun ys=>Kv (AqO y) fun s =>
   {ok:=[Aj1 te.d,Nat.beq te.cs.length 1,!r.frz,decide (0<s.length),decide (k+s.length<=ys.length)],val:=.int .i64 (s.length:Int),upd:=[(o,.arr r.e false ⟨Tz,yF ys k s⟩)]}
  | _=>.no
 | _=>.no
def mapOf (C:Ctx) (t:Nat) (k:TI->TI->Dl):Dl:=MJ C t fun ti=>match ti.d with
 | .map a b=>MJ C a fun ta=>MJ C b fun tb=>k ta tb
 | _=>.no
def mp? (fet:Fet):A->Option (Nat×Mp)
 | .own o=>match JA fet o with
  | some (.mp l)=>some (o,l)
  | _=>none
 | _=>none
def Aj5 (C:Ctx) (ta:TI):Bool:=match ta.d with
 | .string=>true
 | .int _=>true
 | .array n e=>match C.T e with
  | some te=>Aek te.d&&Nat.blt 1 n
  | none=>false
 | _=>false
def Ao5 (ti:TI):Bool:=ti.agg== !(Nat.beq ti.cs.length 1)
def Au7:A->Bool
 | .agg [_]=>false
 | _=>true
def Aov (C:Ctx) (ta tb:TI) (l:Mp) (i:A):List Bool:=[Aj5 C ta,Ao5 tb,decide (l.kt=tyl ta.cs),decide (l.vt=tyl tb.cs),i.isVal,Au7 i,(l.kt.mk i.cells).1]
def Ym (C:Ctx) (d t:Nat) (r:List A):Dl:=mapOf C t fun ta tb =>
 {ok:=[r.isEmpty],val:=.own (b2 d),new:=[(b2 d,.mp ⟨tyl ta.cs,tyl tb.cs,[]⟩)]}
def Alu (l:Mp) (c:Bool) (r:Option l.vt.Val):A :=
 bif c then .tup [PO (l.vt.cells (r.getD l.vt.zero)),.bool r.isSome]else PO (l.vt.cells (r.getD l.vt.zero))
def Af6 (C:Ctx) (fet:Fet) (t:Nat) (c:Bool) (x i:A):Dl:=mapOf C t fun ta tb=>Kv (mp? fet x) fun p =>
 .g (Aov C ta tb p.2 i++[tb.cs.all CK.plain]) (Alu p.2 c (Z7 p.2.kt (p.2.kt.mk i.cells).2 p.2.l))
def AaO (C:Ctx) (fet:Fet) (t:Nat) (x i v:A):Dl:=mapOf C t fun ta tb=>Kv (mp? fet x) fun p =>
 {ok:=Aov C ta tb p.2 i++[v.isVal,Au7 v]++(KQ fet tb.cs v.cells).1++[(p.2.vt.mk (KQ fet tb.cs v.cells).2.1).1],val:=.undef,
  upd:=(KQ fet tb.cs v.cells).2.2++[(p.1,.mp ⟨p.2.kt,p.2.vt,qO p.2.kt (p.2.kt.mk i.cells).2 (p.2.vt.mk (KQ fet tb.cs v.cells).2.1).2 p.2.l⟩)]}
def zZ (C:Ctx) (fet:Fet) (t:Nat) (x i:A):Dl:=mapOf C t fun ta tb=>Kv (mp? fet x) fun p =>
 {ok:=Aov C ta tb p.2 i,val:=.tup [],upd:=[(p.1,.mp ⟨p.2.kt,p.2.vt,qJ p.2.kt (p.2.kt.mk i.cells).2 p.2.l⟩)]}
def Als (C:Ctx) (fet:Fet) (t:Nat) (x:A):Dl :=
 MJ C t fun ti=>match ti.d with
 | .string=>Kv (AqO x) fun s=>.v (.int .i64 (s.length:Int))
 | .array n _=>.v (.int .i64 (n:Int))
 | .slice _=>match x with
  | .bsl o k=>Kv (MB fet o) fun _=>.v (.int .i64 (k:Int))
  | x=>.g (rd fet x).1 (.int .i64 ((rd fet x).2.xs.length:Int))
 | .map _ _=>Kv (mp? fet x) fun p=>.v (.int .i64 (p.2.l.length:Int))
 | _=>.no
def Rl (fet:Fet) (t:Ty):A->List Bool×List t.Val
 | .str s=>match t with
  | .int .u8 .nil=>([],s.map (fun(b:UInt8)=>((b.toNat:Int))))
  | _=>([false],[])
 | y=>rdT fet t y
def yX (C:Ctx) (fet:Fet) (d:Nat) (t:Nat) (x y:A):Dl :=
 elemOf C t fun e te=>match x with
 | .own o=>Kv (jF fet o) fun r =>
  {ok:=(Rl fet r.l.t y).1++[Nat.beq e r.e,Nat.beq r.l.sz te.cs.length,Nat.blt 0 r.l.sz,decide ((r.l.xs.length+(Rl fet r.l.t y).2.length)*(te.bytes+1)<=140737488355328)],
   val:=.own (b2 d),new:=[(b2 d,.arr r.e r.frz ⟨r.l.t,r.l.xs++(Rl fet r.l.t y).2⟩)],del:=[o]}
 | .LC =>
  {ok:=(Rl fet (tyl te.cs) y).1++[Nat.blt 0 te.cs.length,decide ((Rl fet (tyl te.cs) y).2.length*(te.bytes+1)<=140737488355328)],
   val:=.own (b2 d),new:=[(b2 d,.arr e false ⟨tyl te.cs,(Rl fet (tyl te.cs) y).2⟩)]}
 | _=>.no
def bI (C:Ctx) (fet:Fet) (src dst:Nat) (x:A):Dl :=
 MJ C src fun s=>MJ C dst fun t=>match t.d,x with
 | .int k,.int _ n=>.v (.int k (k.wrap n))
 | .string,.str l=>.v (.str l)
 | .string,.int _ _=>.no
 | .string,x=>Kv (elem? s.d) fun e=>MJ C e fun te=>.g (Aj1 te.d::((rdB fet x).1++[(rdB fet x).2.all isByte])) (.str ((rdB fet x).2.map byteOf))
 | _,_=>.no
def Adv (C:Ctx) (d s t:Nat) (l:List UInt8):Dl:=MJ C s fun _=>elemOf C t fun e te =>
 {ok:=[Aj1 te.d,decide (l.length<=140737488355328)],val:=.own (b2 d),new:=[(b2 d,.arr e false ⟨Tz,l.map (fun(b:UInt8)=>((b.toNat:Int)))⟩)]}
def ApG:TypeDesc->Bool | .slice _=>true | _=>false
def Afy (C:Ctx) (o:Oper) (fet:Fet) (s t:Nat) (x:A):Dl :=
 match x with
 | .str l=>MJ C t fun tt=>bif ApG tt.d then Kv o.dst fun d=>Adv C d s t l else bI C fet s t (.str l)
 | x=>bI C fet s t x
def A09 (C:Ctx) (t:Nat):Option (Nat×IntKind):=match C.T t with
 | some ti=>match AaS ti.d with
  | some (n,e)=>match C.T e with
   | some te=>match te.cs with
    | [.int k]=>some (n,k)
    | _=>none
   | none=>none
  | none=>none
 | none=>none
def Ads (C:Ctx) (d t:Nat) (v:A):Dl:=match A09 C t with
 | some (n,k)=>match v with
  | .agg cs=> {ok:=[cs.all (A.isI k),Nat.beq cs.length n,Nat.ble n 16777216],val:=.Kt (b2 d) 0 0,new:=[(b2 d,.arr t false ⟨.int k .nil,cs.map A.toI⟩)]}
  | _=>.no
 | none=>Yd C d t v
def fV (C:Ctx) (d t:Nat):Dl:=MJ C t fun ti=>match AaS ti.d with
 | some (n,e)=>MJ C e fun te=> {ok:=[te.cs.all CK.plain,Nat.blt 0 te.cs.length,Nat.blt 0 n,Nat.ble n 16777216,decide (ti.cs=(List.replicate n te.cs).flatten)],val:=.Kt (b2 d) 0 0,new:=[(b2 d,.arr t false ⟨tyl te.cs,List.replicate n (tyl te.cs).zero⟩)]}
 | none=>Yd C d t (.agg (ti.cs.map CK.zero))
def AjE (fet:Fet) (s:Bool) (d:TypeDesc) (x:A):Option Bool :=
 match s,d,x with
 | true,.slice _,.LC=>some true
 | true,.slice _,.sln l=>some l.xs.isEmpty
 | false,.pointer _,.Me=>some true
 | false,.pointer _,.ptr o _=>(MB fet o).map (fun _=>false)
 | _,_,_=>none
def Al5 (C:Ctx) (fet:Fet) (s:Bool) (t:Nat) (x:A) (k:Bool->Dl):Dl:=MJ C t fun ti=>Kv (AjE fet s ti.d x) k
def Aon (C:Ctx) (t:Nat) (r:Bool):Dl:=MJ C t fun ti=>.g [Aln ti.d] (.bool r)
def At7 (C:Ctx) (fet:Fet) (op:BinOp) (t:Nat) (x y:A):Dl :=
 match x,y with
 | .int k a,.int k' b=>match op with
  | .shl=>.g [decide (0<=b)] (.int k (k.wrap (a*2 ^ (min b.toNat k.bits))))
  | .shr=>.g [decide (0<=b)] (.int k (a.fdiv (2 ^ (min b.toNat k.bits))))
  | op=>bif A.kEq k k' then Adp op k a b else .no
 | .str a,.str b=>Adq op a b
 | .bool a,.bool b=>match op with
  | .eql=>Aon C t (a==b)
  | .neq=>Aon C t (!(a==b))
  | _=>.no
 | .agg x,.agg y=>MJ C t fun ti=>match op with
  | .eql=>.g [!ti.cmp.isEmpty,(QT ti.cmp x y).1] (.bool (QT ti.cmp x y).2)
  | .neq=>.g [!ti.cmp.isEmpty,(QT ti.cmp x y).1] (.bool (!(QT ti.cmp x y).2))
  | _=>.no
 | x,.LC=>match op with
  | .eql=>Al5 C fet true t x fun v=>.v (.bool v)
  | .neq=>Al5 C fet true t x fun v=>.v (.bool (!v))
  | _=>.no
 | x,.Me=>match op with
  | .eql=>Al5 C fet false t x fun v=>.v (.bool v)
  | .neq=>Al5 C fet false t x fun v=>.v (.bool (!v))
  | _=>.no
 | _,_=>.no
def unX:UnOp->A->Dl
 | .not,.bool b=>.v (.bool !b)
 | .neg,.int k n=>.v (.int k (k.wrap (0 - n)))
 | .xor,.int k n=>.v (.int k (JF .xor k (if k.signed then -1 else k.max) n))
 | _,_=>.no
def Ao6 (c a b:A):Dl:=.g [c.Qc.1,c.Qc.2.isB,(bif c.Qc.2.toB then a.Qc.1 else b.Qc.1),(bif c.Qc.2.toB then a.Qc.2.isB else b.Qc.2.isB)] (.bool (bif c.Qc.2.toB then a.Qc.2.toB else b.Qc.2.toB))
def Ab4 (C:Ctx) (d:Nat) (t:Nat) (l c:A):Dl :=
 Kv (int? l) fun n=>Kv (int? c) fun m=>elemOf C t fun e te =>
  {ok:=[decide (n<=m),decide (0<=n),decide (m*(te.bytes+1)<=140737488355328),Nat.blt 0 te.cs.length,te.cs.all CK.plain],val:=.own (b2 d),
   new:=[(b2 d,.arr e false ⟨tyl te.cs,List.replicate n.toNat (tyl te.cs).zero⟩)]}
def Adu (C:Ctx) (t:Nat) (ps:List (Nat×A)):Dl:=MJ C t fun ti=>Kv (fill C ti.d ps (ti.cs.map CK.zero)) fun cs=>.g [ti.agg] (.agg cs)
def Tf (C:Ctx) (fet:Fet) (d t n:Nat) (ps:List (Nat×A)):Dl:=elemOf C t fun e te =>
 {ok:=(OC fet te (tyl te.cs) ps (List.replicate n (tyl te.cs).zero)).1++[Nat.ble (n*te.cs.length) 16777216,Nat.blt 0 te.cs.length,te.cs.all CK.plain],val:=.own (b2 d),
  new:=[(b2 d,.arr e false ⟨tyl te.cs,(OC fet te (tyl te.cs) ps (List.replicate n (tyl te.cs).zero)).2.1⟩)],upd:=(OC fet te (tyl te.cs) ps (List.replicate n (tyl te.cs).zero)).2.2}
def Adt (C:Ctx) (d t n:Nat) (ps:List (Nat×A)):Dl:=elemOf C t fun e te=>Kv (fill C (.array n e) ps (List.replicate n .Me)) fun cs =>
 {ok:=[Ajy te.cs,Nat.ble n 16777216,Nat.blt 0 n,ps.all fun p=>p.2.isVal&& !p.2.isAgg 0],val:=.bsl (b2 d) n,new:=(b2 d,.box (Ls (b2 d+1) [] cs).1)::(Ls (b2 d+1) [] cs).2}
def Ajz:List (Nat×A)->Bool
 | (_,.ptr _ _)::_=>true
 | _=>false
def WB (C:Ctx) (fet:Fet) (t f:Nat) (x:A):Dl :=
 MJ C t fun ti=>Kv (AjQ C ti.d f) fun p=>match dU p.1 p.2.cs.length fet x with
 | δ => {δ with ok:=Nat.blt 0 p.2.cs.length:: δ.ok}
def A23:A->Option (List A)
 | .agg cs=>some cs
 | _=>none
def AiZ (C:Ctx) (t f:Nat) (x:A):Dl :=
 MJ C t fun ti=>Kv (AjQ C ti.d f) fun p=>Kv (A23 x) fun cs=>.g [Nat.ble (p.1+p.2.cs.length) cs.length,Nat.blt 0 p.2.cs.length] (AbG p.2 cs p.1)
def A3S:A->Option (List A)
 | .tup vs=>some vs
 | _=>none
def Abm (i:Nat) (x:A):Dl:=Kv (A3S x) fun vs=>.g [Nat.blt i vs.length] (vs.getD i .undef)
def Y8 (fet:Fet):A->Dl
 | .ptr o off=>Kv (MB fet o) fun _=>.v (.ptr o off)
 | _=>.no
structure Hand where
 ok:List Bool
 vs:List A
 upd:List (Nat×Obj)
 del:List Nat
 boxes:List (Nat×Sh)
def AoA:List A->A
 | [v]=>v
 | vs=>.tup vs
def Aop (rb:Nat->Nat) (d:Nat) (sg:Sig) (N:List (Nat×Nat)) (n:Nat) (h:Hand) (ok:Bool) (rs:List A):Dl :=
 ⟨h.ok++[ok]++(Ld (b2 d) 16 sg.JP rs 0).1++(Ll rb (rs.drop sg.JP.length) h.boxes 0).1++[nodup (N.map (·.1)),Nat.ble n 100,Nat.beq rs.length (sg.JP.length+h.boxes.length),!(sg.J7.any wS)||h.upd.isEmpty],
   AoA (Ld (b2 d) 16 sg.JP rs 0).2.1,
   (Ld (b2 d) 16 sg.JP rs 0).2.2++(Ll rb (rs.drop sg.JP.length) h.boxes 0).2.2,
   h.upd++(Ll rb (rs.drop sg.JP.length) h.boxes 0).2.1,h.del,[]⟩
def qB (fet:Fet) (ss:List Sh) (xs:List A):Hand:=⟨(JS fet ss xs).1,(JS fet ss xs).2.1,(JS fet ss xs).2.2.1,(JS fet ss xs).2.2.2.1,(JS fet ss xs).2.2.2.2⟩
def QA (fet:Fet) (d:Nat) (sg:Sig) (args:List A):Dl:=Aop (Nb fet) d sg (Oh fet 0 256 sg.J7 args) args.length (qB fet sg.J7 args) (sg.ok (qB fet sg.J7 args).vs) (sg.val (qB fet sg.J7 args).vs)
def Aj7 (n:Nat):Obj->Bool | .box cs=>Nat.beq cs.length n | _=>false
def A0c (j:Nat) (c:A):Obj->Obj | .box cs=>.box (cs.set j c) | x=>x
def eqC:A->A->Bool | .str a,.str b=>a==b | .int k a,.int k' b=>A.kEq k k'&&a==b | .bool a,.bool b=>a==b | _,_=>false
def eqU (j:Nat) (c:A):Obj->Bool | .box cs=>eqC (cs.getD j .undef) c | _=>false
def Ux (fet:Fet) (a:A) (j:Nat) (δ :Dl):Dl:=match a with
 | .ptr q _=>match MB fet q with
  | some cs=>bif Nat.blt j cs.length&& δ.upd.all (fun p=> !(Nat.beq p.1 q)||Aj7 cs.length p.2)
   then {δ with ok:= δ.ok++ δ.upd.map (fun p=>bif Nat.beq p.1 q then eqU j (cs.getD j .undef) p.2 else true),upd:= δ.upd.map (fun p=>bif Nat.beq p.1 q then(p.1,A0c j (cs.getD j .undef) p.2)else p),same:=(q,j):: δ.same}
   else δ
  | none=> δ
 | _=> δ
def keepD (fet:Fet) (args:List A):List (Nat×Nat)->Dl->Dl
 | [],δ => δ
 | (i,j)::r,δ =>keepD fet args r (Ux fet (args.getD i .undef) j δ)
def lY (C:Ctx) (fet:Fet) (d:Nat) (f:Nat) (args:List A):Dl :=
 match C.G f with
 | some sg=>keepD fet args (C.kept f) (QA fet d sg args)
 | none=>.no
def Apl (C:Ctx) (fet:Fet) (d t:Nat) (c:A) (args:List A):Dl :=
 match c with
 | .fn n=>match C.dyn t with
  | some sg=>QA fet d (sg n) args
  | none=>.no
 | .clo f o=>Kv (MB fet o) fun _=>match C.dyn t with
  | some sg=>QA fet d (sg f) (args++[.clo 0 o])
  | none=>.no
 | _=>.no
def Avp:List A->Option Nat
 | [.ptr o 0]=>some o
 | _=>none
def AkC (fet:Fet) (f:Nat):A->Dl
 | .ptr q off=>Kv (MB fet q) fun cs=>Kv (Avp cs) fun o=> {ok:=[Nat.beq off 0],val:=.clo (f+1) o,del:=[q]}
 | _=>.no
def a0 (k:Dl):List A->Dl
 | []=>k
 | _=>.no
def a1 (k:A->Dl):List A->Dl
 | [a]=>k a
 | _=>.no
def a2 (k:A->A->Dl):List A->Dl
 | [a,b]=>k a b
 | _=>.no
def a3 (k:A->A->A->Dl):List A->Dl
 | [a,b,c]=>k a b c
 | _=>.no
def Ayz (C:Ctx) (o:Oper) (fet:Fet) (ts:List Nat) (x y:A):Dl :=
 match ts with
 | [t,u]=>MJ C u fun tu=>Kv o.dst fun d=>match yX C fet d t x y with
  | δ => {δ with ok:=bW tu.d:: δ.ok}
 | _=>.no
def slX (C:Ctx) (dst:Option Nat) (fet:Fet) (t:Nat) (lo hi mx:Option Operand):List A->Dl :=
 match mx,lo,hi with
 | none,none,none=>a1 fun x=>MZ C fet t x none none
 | none,some _,none=>a2 fun x a=>match dst with
  | some d=>bif has C.cuts d then Ach C fet t x a else MZ C fet t x (some a) none
  | none=>MZ C fet t x (some a) none
 | none,none,some _=>a2 fun x b=>match dst with
  | some d=>bif has C.cuts d then AdB C fet d t x b else MZ C fet t x none (some b)
  | none=>MZ C fet t x none (some b)
 | none,some _,some _=>a3 fun x a b=>MZ C fet t x (some a) (some b)
 | _,_,_=>fun _=>.no
def AuU:A->A->Dl
 | .int k a,.int k' b=>bif A.kEq k k' then .v (.int k (bif decide (b<a)then b else a))else .no
 | _,_=>.no
def AuR:A->A->Dl
 | .int k a,.int k' b=>bif A.kEq k k' then .v (.int k (bif decide (a<b)then b else a))else .no
 | _,_=>.no
def blX (C:Ctx) (o:Oper) (fet:Fet) (ts:List Nat):Builtin->List A->Dl
 | .len=>a1 fun x=>Kv (one? ts) fun t=>Als C fet t x
 | .append=>a2 fun x y=>Ayz C o fet ts x y
 | .min=>a2 AuU
 | .max=>a2 AuR
 | .copy=>a2 fun x y=>Aoq C fet ts x y
 | .delete=>a2 fun x y=>match ts with
  | t::_=>zZ C fet t x y
  | []=>.no
 | _=>fun _=>.no
def opX (C:Ctx) (o:Oper) (v:List A) (fet:Fet):Dl :=
 match o.op with
 | .move _=>a1 (fun a=>.v a) v
 | .assign _=>a1 (fun a=>.v a) v
 | .pick _ _ _=>a3 (fun c a b=>Ao6 c a b) v
 | .alloc t=>a0 (Kv o.dst fun d=>fV C d t) v
 | .box t _=>a1 (fun a=>Kv o.dst fun d=>Ads C d t a) v
 | .build t ps=>Adu C t ((ps.toList.map (·.1)).zip v)
 | .buildSlice t n ps=>Kv o.dst fun d=>bif Ajz ((ps.toList.map (·.1)).zip v)then Adt C d t n ((ps.toList.map (·.1)).zip v)else Tf C fet d t n ((ps.toList.map (·.1)).zip v)
 | .load t _=>a1 (Zu C fet t) v
 | .store t _ _=>a2 (fun a x=>bif o.dst.isNone then Wp C fet t a x else .no) v
 | .nilCheck _=>a1 (Y8 fet) v
 | .binOp op t _ _ _=>a2 (At7 C fet op t) v
 | .unOp op _ _=>a1 (unX op) v
 | .convert s t _=>a1 (Afy C o fet s t) v
 | .makeSlice t _ _=>a2 (fun l c=>Kv o.dst fun d=>Ab4 C d t l c) v
 | .slice t _ lo hi mx=>slX C o.dst fet t lo hi mx v
 | .fieldAddr t _ f=>a1 (WB C fet t f) v
 | .field t _ f=>a1 (AiZ C t f) v
 | .indexAddr t _ _=>a2 (mY C fet t) v
 | .index t _ _=>a2 (Aju C t) v
 | .extract _ i=>a1 (Abm i) v
 | .makeFunc (.func f) fi _=>bif fi.isEmpty then a1 (AkC fet f) v else .no
 | .makeMap t _=>Kv o.dst fun d=>Ym C d t v
 | .lookup t _ _ c=>a2 (Af6 C fet t c) v
 | .mapUpdate t _ _ _=>a3 (fun m i x=>bif o.dst.isNone then AaO C fet t m i x else .no) v
 | .insert t _ _ _=>a3 (fun m i x=>bif o.dst.isNone then AaO C fet t m i x else .no) v
 | .call ⟨.builtin b,_,ts⟩=>blX C o fet ts.toList b v
 | .call ⟨.value (.func f),_,_⟩=>match v with
  | _::vs=>lY C fet (o.dst.getD 0) f vs
  | []=>.no
 | .call ⟨.value (.tmp t),_,_⟩=>match v with
  | c::vs=>Apl C fet (o.dst.getD 0) t c vs
  | []=>.no
 | _=>.no
def fetch (Js:List (Nat×Obj)):List Nat->Fet
 | []=>[]
 | n::r=>match JA Js n with
  | some x=>(n,x)::fetch Js r
  | none=>fetch Js r
def Kw (st:St) (vs:List A):Fet :=
 let f1:=fetch st.Js (vs.flatMap A.ids)
 f1++fetch st.Js (f1.flatMap (fun p=>p.2.ids))
def Kz (Js:List (Nat×Obj)):List Nat->List (Nat×Obj)
 | []=>Js
 | n::r=>Kz (TF Js n) r
def JL (Js:List (Nat×Obj)):List (Nat×Obj)->List (Nat×Obj)
 | []=>Js
 | (n,x)::r=>JL (LM Js n x) r
def put (tmps:List A):Option Tmp->A->List A
 | some d,v=>tmps.set d v
 | none,_=>tmps
def apply (st:St) (o:Oper) (δ :Dl):St :=
 {tmps:=put st.tmps o.dst δ.val,Js:=JL (Kz (JL st.Js δ.upd) δ.del) δ.new}
def strips:List A->List Bool×List A
 | []=>([],[])
 | a::r=>(a.strip.1++(strips r).1,a.strip.2::(strips r).2)
def guardOf (ops:List Oper) (tmps:List A):Option (Nat×Bool)->Option (Option Bool)
 | none=>some none
 | some (j,want)=>match ops[j]? with
  | some oj=>match oj.dst with
   | some t=>match (tmps.getD t .undef)with
    | .bool b=>some (some (bif want then b else !b))
    | .cnd g (.bool b)=>some (some (g&&(bif want then b else !b)))
    | _=>none
   | none=>none
  | none=>none
def Acg:Op->Bool
 | .move _=>true
 | .assign _=>true
 | .binOp _ _ _ _ _=>true
 | _=>false
def Lm:Op->List A->List Bool×List A
 | .pick _ _ _,vs=>([],vs)
 | op,vs=>((strips vs).1,bif Acg op then(strips vs).2 else(strips vs).2.map A.weak)
def Aas (g:Bool):A->A->A
 | .bool x,.bool y=>.bool (bif g then y else x)
 | .int k x,.int _ y=>.int k (bif g then y else x)
 | .str x,.str y=>.str (bif g then y else x)
 | .sl l,.sl l'=>match l'.cast l.t with
  | some ys=>.sl ⟨l.t,bif g then ys else l.xs⟩
  | none=>.undef
 | .sln l,.sln l'=>match l'.cast l.t with
  | some ys=>.sln ⟨l.t,bif g then ys else l.xs⟩
  | none=>.undef
 | a,_=>a
def qM:A->A->Bool
 | .bool _,.bool _=>true
 | .int k _,.int k' _=>A.kEq k k'
 | .str _,.str _=>true
 | .sl l,.sl l'=>(l'.cast l.t).isSome
 | .sln l,.sln l'=>(l'.cast l.t).isSome
 | .own o,.own o'=>Nat.beq o o'
 | .Me,.Me=>true
 | .undef,.undef=>true
 | _,_=>false
def Amm (g:Bool):List A->List A->List A
 | a::aa,b::bs=>Aas g a b::Amm g aa bs
 | _,_=>[]
def okM:List A->List A->Bool
 | [],[]=>true
 | a::aa,b::bs=>qM a b&&okM aa bs
 | _,_=>false
def Zx (g:Bool):Option Obj->Obj->Obj
 | some (.box cs),.box ds=>.box (Amm g cs ds)
 | some (.arr e _ l),.arr _ true _=>.arr e true l
 | _,x=>x
def qN (c:Bool):Option Obj->Obj->Bool
 | some (.box cs),.box ds=>okM cs ds
 | some (.arr e _ _),.arr e' true _=>c&&Nat.beq e e'
 | _,_=>false
def AaV:Op->Bool
 | .call ⟨.value (.func _),_,_⟩=>true
 | .call ⟨.value (.tmp _),_,_⟩=>true
 | .slice _ _ _ _ _=>true
 | _=>false
def Af4:Op->Bool
 | .call ⟨.value (.func _),_,_⟩=>true
 | _=>false
def TV (C:Ctx) (o:Oper) (st:St) (pre:List Bool):Dl :=
 match Lm o.op (o.op.operands.toList.map (Lj st.tmps))with
  | (ok,vs)=>match opX C o vs (Kw st vs)with
   | δ => {δ with ok:=pre++(ok++ δ.ok++[δ.new.all (fun p=>st.fresh p.1),nodup (δ.new.map (·.1))]),same:=bif Af4 o.op then δ.same else []}
def Auc (C:Ctx) (o:Oper):Option Bool:=match o.dst with
 | some d=>C.dec d
 | none=>none
def KO (C:Ctx) (ops:List Oper) (o:Oper) (st:St):Dl :=
 match guardOf ops st.tmps o.guard with
 | some none=>TV C o st []
 | some (some g)=>match Auc C o with
  | some true=>TV C o st [g]
  | some false=> {ok:=[!g],val:=.cnd false .undef}
  | none=>match Lm o.op (o.op.operands.toList.map (Lj st.tmps))with
  | (ok,vs)=>match opX C o vs (Kw st vs)with
   | δ => {ok:=(ok++(δ.val.isVal:: δ.ok)).map (fun c=>c|| !g)++(δ.new.isEmpty:: δ.del.isEmpty::o.dst.isSome:: δ.upd.map (fun p=>qN (AaV o.op) (JA (Kw st vs) p.1) p.2)),val:=.cnd g δ.val,
           upd:= δ.upd.map (fun p=>(p.1,Zx g (JA (Kw st vs) p.1) p.2))}
 | none=>.no
def allT {α :Type}:List Bool->Option α ->Option α
 | [],r=>r
 | c::cs,r=>bif c then allT cs r else none
def Yo {α :Type} (C:Ctx) (ops:List Oper):List Oper->St->(St->Option α)->Option α
 | [],st,K=>K st
 | o::r,st,K=>match KO C ops o st with
  | δ =>allT δ.ok (Yo C ops r (apply st o δ) K)
def lW (C:Ctx) (o:Oper):Option (Nat×Alt) :=
 match o.guard,o.op with
 | none,.call ⟨.value (.func f),_,_⟩=>(C.alt f).map (fun q=>(f,q))
 | _,_=>none
def Ak3 (o:Oper) (st:St) (q:Alt):Bool :=
 match (Lm o.op (o.op.operands.toList.map (Lj st.tmps))).2 with
 | v::xs=>q.2.2 (qB (Kw st (v::xs)) q.1.J7 xs).vs
 | []=>true
def Yn {α :Type} (C:Ctx) (ops:List Oper):List Oper->St->(St->Option α)->Option α
 | [],st,K=>K st
 | o::r,st,K=>match lW C o with
  | none=>allT (KO C ops o st).ok (Yn C ops r (apply st o (KO C ops o st)) K)
  | some (f,q)=>bif Ak3 o st q then allT (KO (C.put f q.1) ops o st).ok (Yn C ops r (apply st o (KO (C.put f q.1) ops o st)) K)
   else allT (KO (C.put f q.2.1) ops o st).ok (Yn C ops r (apply st o (KO (C.put f q.2.1) ops o st)) K)
abbrev Bs:=List UInt8
def chk {ρ :Type} (c:Bool) (k:Option ρ):Option ρ :=bif c then k else none
def Jr {α ρ :Type} [Inhabited α] (o:Option α) (k: α ->Option ρ):Option ρ :=bif o.isSome then k (o.getD default)else none
def JB {X Y ρ :Type} (B:X->(X->Option ρ)->(Y->Option ρ)->Option ρ):Nat->X->(Y->Option ρ)->Option ρ
 | 0,_,_=>none
 | n+1,x,kx=>B x (fun x'=>JB B n x' kx) kx
def KF (o:Oper) (st:St):List A:=(Lm o.op (o.op.operands.toList.map (Lj st.tmps))).2
def yY:Op->List A->Bool
 | .move _,_=>true
 | .assign _,_=>true
 | .load _ _,[.clo _ _]=>true
 | _,_=>false
def bD:Op->List A->Option Nat
 | .nilCheck _,[.ptr o _]=>some o
 | .fieldAddr _ _ _,[.ptr o _]=>some o
 | .load _ _,[.ptr o _]=>some o
 | _,_=>none
def LV (o:Oper) (st:St) (vs:List A):List Nat:=bif yY o.op vs then []else match bD o.op vs with
 | some q=>[q]
 | none=>vs.flatMap A.ids++(fetch st.Js (vs.flatMap A.ids)).flatMap (fun p=>p.2.ids)
def oneOf (C:Ctx):Op->List A->Option (Nat×Nat×Nat)
 | .nilCheck _,[.ptr o _]=>some (o,0,0)
 | .fieldAddr _ _ _,[.ptr o _]=>some (o,0,0)
 | .load t _,[.ptr o off]=>match C.T t with
  | some ti=>bif Nat.blt 0 ti.cs.length then some (o,off,ti.cs.length)else none
  | none=>none
 | _,_=>none
structure LG where
 o:Oper
 δ :Dl
 rd:List Nat
 one:Option (Nat×Nat×Nat)
 anc:List Nat
def LG.news (x:LG):List Nat:=x.δ.new.map (·.1)
def LG.keys (x:LG):List Nat:=x.δ.upd.map (·.1)++x.δ.del++x.news
def LG.says (x:LG):List Nat:=x.δ.val.ids++x.δ.upd.flatMap (fun p=>p.2.ids)++x.δ.new.flatMap (fun p=>p.2.ids)
def Vt (a b:List Nat):Bool:=a.all (fun n=> !(has b n))
def slotsOf (ops:List Oper) (o:Oper):List Nat :=
 (o.op.operands.toList.filterMap fun | .tmp t=>some t | _=>none) ++
 (match o.guard with
  | some (g,_)=>match ops[g]? with
   | some x=>match x.dst with | some t=>[t] | none=>[]
   | none=>[]
  | none=>[])
def dZ (o:Oper):List Nat:=match o.dst with | some d=>[d] | none=>[]
def calm (x y:LG):Bool:=match x.one with
 | none=>false
 | some (q,off,n)=> !(has x.keys q)&&(!(has y.δ.del q)&&(!(has y.news q)&&(y.δ.same.any (fun e=>Nat.beq e.1 q)&&(List.range n).all (fun k=>y.δ.same.any (fun e=>Nat.beq e.1 q&&Nat.beq e.2 (off+k))))))
def indep (ops:List Oper) (x y:LG):Bool :=
 Vt (dZ x.o) (dZ y.o)&&Vt (dZ x.o) (slotsOf ops y.o)&&Vt (dZ y.o) (slotsOf ops x.o) &&
 Vt x.keys y.rd&&(Vt y.keys x.rd||calm x y)&&Vt x.keys y.keys&&Vt x.news y.says
def iM (ops:List Oper) (i:Nat) (x y:LG):Bool:=Vt y.news x.says&&Vt y.news x.keys&&(has y.anc i||indep ops x y)
def Zg (o:Oper):List Nat:=o.after.toList.filterMap fun e=>bif Region.binds .any e then some e.on else none
def V3 (C:Ctx) (ops:List Oper):List Oper->List (List Nat)->St->List LG
 | [],_,_=>[]
 | o::r,acc,st=>match KO C ops o st,(Zg o).flatMap (fun e=>e::acc.getD e [])with
  | δ,an=>⟨o,δ,LV o st (KF o st),oneOf C o.op (KF o st),an⟩::V3 C ops r (acc++[an]) (apply st o δ)
def oD (ops:List Oper):Nat->List LG->Bool
 | _,[]=>true
 | i,x::r=>r.all (iM ops i x)&&oD ops (i+1) r
def backward:Nat->List Oper->Bool
 | _,[]=>true
 | i,o::r=>o.after.toList.all (fun e=>Nat.blt e.on i)&&backward (i+1) r
def SB:Nat->List Oper->Bool
 | _,[]=>true
 | i,o::r=>o.after.toList.all (fun e=> !(Region.binds .any e)||Nat.blt e.on i)&&SB (i+1) r
def ranks (md:Region.Mode) (ops:List Oper):Nat->List Nat->List Nat
 | 0,r=>r
 | n+1,r=>ranks md ops n (ops.map fun o=>o.after.toList.foldl (fun m e=>bif Region.binds md e then(bif Nat.ble m (r.getD e.on 0)then r.getD e.on 0+1 else m)else m) 0)
def dI (md:Region.Mode) (n:Nat) (rk:List Nat):Nat->List Oper->Bool
 | _,[]=>true
 | i,o::r=>o.after.toList.all (fun e=> !(Region.binds md e)||(Nat.blt e.on n&&Nat.blt (rk.getD e.on 0) (rk.getD i 0)))&&dI md n rk (i+1) r
def AjY (md:Region.Mode) (ops:List Oper):Bool:=dI md ops.length (ranks md ops ops.length (ops.map fun _=>0)) 0 ops
def ordered (ops:List Oper):Bool:=SB 0 ops&&(backward 0 ops||(AjY .text ops&&AjY .gc ops&&AjY .any ops))
def sorted:List (Nat×Obj)->Bool
 | []=>true
 | [_]=>true
 | (n,_)::(k,y)::r=>Nat.blt n k&&sorted ((k,y)::r)
def UW (C:Ctx) (ops:List Oper) (st:St):Bool :=
 match V3 C ops ops [] st with
 | fs=>ordered ops&&oD ops 0 fs&&(fs.flatMap LG.news).all st.fresh&&sorted st.Js
def OI (f t:Nat):A->A
 | .ptr o off=>.ptr (bif Nat.beq o f then t else o) off
 | .own o=>.own (bif Nat.beq o f then t else o)
 | .clo g o=>.clo g (bif Nat.beq o f then t else o)
 | .bsl o n=>.bsl (bif Nat.beq o f then t else o) n
 | .osl o n=>.osl (bif Nat.beq o f then t else o) n
 | .Kt o i off=>.Kt (bif Nat.beq o f then t else o) i off
 | .agg cs=>.agg (cs.map fun
  | .ptr o off=>.ptr (bif Nat.beq o f then t else o) off
  | .own o=>.own (bif Nat.beq o f then t else o)
  | .clo g o=>.clo g (bif Nat.beq o f then t else o)
  | .bsl o n=>.bsl (bif Nat.beq o f then t else o) n
  | .osl o n=>.osl (bif Nat.beq o f then t else o) n
  | .Kt o i off=>.Kt (bif Nat.beq o f then t else o) i off
  | c=>c)
 | a=>a
def Afa (f t:Nat):Obj->Obj
 | .box cs=>.box (cs.map (OI f t))
 | x=>x
def drop (keep:List Nat):List A->Nat->List A
 | [],_=>[]
 | a::r,i=>(bif has keep i then a else .undef)::drop keep r (i+1)
def Afb (st:St):List (Nat×Nat)->Bool×St
 | []=>(true,st)
 | (f,t)::r=>match JA st.Js f with
  | some x=>match Afb {tmps:=st.tmps.map (OI f t),Js:=(LM (TF st.Js f) t x).map (fun p=>(p.1,Afa f t p.2))} r with
   | (ok,st')=>((bif Nat.beq f t then true else st.fresh t)&&ok,st')
  | none=>Afb st r
def Ap1 (Js:List (Nat×Obj)):List Nat->List (Nat×Obj)
 | []=>Js
 | n::r=>match JA Js n with
  | some (.arr e _ l)=>Ap1 (LM Js n (.arr e true l)) r
  | _=>Ap1 Js r
def AxN:Nat->List (Nat×Obj)->List Nat->List Nat
 | 0,_,l=>l
 | n+1,Js,l=>l++AxN n Js ((fetch Js l).flatMap (fun p=>p.2.ids))
def reached (tmps:List A) (Js:List (Nat×Obj)):List Nat:=AxN 4 Js (tmps.flatMap A.ids++(Js.map (·.1)).filter aG)
def Aao:A->Bool | .LC=>true | _=>false
def Afe (id:Nat):List Nat->List A->List A
 | [],l=>l
 | t::r,l=>Afe id r (l.set t (.own id))
def owns:List (List Nat×Nat×Ty×Nat)->St->Bool×St
 | [],st=>(true,st)
 | (ts,e,ty,id)::r,st=>bif ts.any (fun t=>Aao (st.tmps.getD t .undef))then
     match owns r {tmps:=Afe id ts st.tmps,Js:=LM st.Js id (.arr e false ⟨ty,[]⟩)}with
     | (ok,st')=>(ts.all (fun t=>Aao (st.tmps.getD t .undef)&&Nat.blt t st.tmps.length)&&st.fresh id&&ok,st')
  else owns r st
def pzs:List (Option Nat×Nat×Ty)->St->St
 | [],st=>st
 | (none,t,ty)::r,st=>match st.tmps.getD t .undef with
  | .LC=>pzs r {st with tmps:=st.tmps.set t (.sl ⟨ty,[]⟩)}
  | .own o=>match JA st.Js o with
   | some (.arr e _ l)=>pzs r {tmps:=st.tmps.set t (.sl l),Js:=LM st.Js o (.arr e true l)}
   | _=>pzs r st
  | _=>pzs r st
 | (some b,j,_)::r,st=>match JA st.Js b with
  | some (.box cs)=>match cs.getD j .undef with
   | .own o=>match JA st.Js o with
    | some (.arr e _ l)=>pzs r {st with Js:=LM (LM st.Js o (.arr e true l)) b (.box (cs.set j (.sl l)))}
    | _=>pzs r st
   | _=>pzs r st
  | _=>pzs r st
def norm (C:Ctx) (key:Nat) (st0:St):Bool×St :=
 match C.nrm key with
 | none=>(true,st0)
 | some n =>
  match pzs n.pz st0 with
  | st=>match Afb {tmps:=drop n.keep st.tmps 0,Js:=st.Js.filter (fun p=>has (reached (drop n.keep st.tmps 0) st.Js) p.1)} n.ren with
   | (ok,st')=>match owns n.nw st' with
    | (ok',st'')=>(ok&&ok',{st'' with Js:=Ap1 st''.Js n.frz})
inductive Ex where
 | normal
 | exit (id:Nat)
def MS:Code->Option Nat
 | .region id _ _=>some id
 | .seq a b=>match MS a with | some n=>some n | none=>(MS b).map (· +4096)
 | .cond _ a b=>match MS a with | some n=>some n | none=>MS b
 | .block _ c=>MS c
 | .loop c=>MS c
 | .scope c=>MS c
 | _=>none
def UZ {ρ :Type} (C:Ctx) (key:Nat) (st:St) (K:St->Option ρ):Option ρ :=
 match norm C key st with
 | (ok,st')=>bif ok then K st' else none
def meet {ρ :Type} (C:Ctx) (kind:Nat) (c:Code) (st:St) (K:St->Option ρ):Option ρ :=
 match MS c with
 | some n=>UZ C (4*n+kind) st K
 | none=>K st
def rounds {ρ :Type} (head:St->(St->Option ρ)->Option ρ) (body:St->(Ex->St->Option ρ)->Option ρ):Nat->St->(Ex->St->Option ρ)->Option ρ
 | 0,_,_=>none
 | n+1,st,K=>body st fun
  | .normal,st'=>head st' fun st''=>rounds head body n st'' K
  | .exit id,st'=>K (.exit id) st'
def Aij:Nat:=(fun(_:Option Nat)=>0) (JB (X:=Nat) (Y:=Nat) (fun _ _ _=>none) 0 0 (fun _=>none))
def peek (C:Ctx) (ops:List Oper) (s:Nat):List Oper->St->A
 | [],st=>(st.tmps.getD s .undef).Qc.2
 | o::r,st=>peek C ops s r (apply st o (KO C ops o st))
def split {α :Type} (C:Ctx) (id:Nat) (ops:List Oper) (st:St) (f:Ctx->Option α):Option α :=
 (fun(_:Nat)=>match C.spl id with
 | none=>f C
 | some (k,s,ds)=>match peek C ops s (ops.take k) st with
  | .bool b=>match b with
   | true=>f (C.decide ds true)
   | false=>f (C.decide ds false)
  | _=>none) Aij
def nU {α :Type} {C:Ctx} {id:Nat} {ops:List Oper} {st:St} {f:Ctx->Option α} {v: α} (h:split C id ops st f=some v):(f C=some v\/ ∃ ds b,f (C.decide ds b)=some v)/\ ∀ f':Ctx->Option α,(∀ C',f C'=some v->f' C'=some v)->split C id ops st f'=some v:=by
 unfold split at h ⊢;dsimp only at h ⊢;cases hs:C.spl id with
 | none=>rw[hs]at h;exact⟨.inl h,fun f' hf=>hf C h⟩
 | some q =>
  obtain⟨k,s,ds⟩:=q;rw[hs]at h;dsimp only at h ⊢;generalize peek C ops s (ops.take k) st=x at h ⊢;cases x with
  | bool b=>cases b<;>exact⟨.inr ⟨_,_,h⟩,fun f' hf=>hf _ h⟩
  | _=>cases h
def exec {ρ :Type} (C:Ctx) (N:Nat) (fin:St->Option ρ):Code->St->(Ex->St->Option ρ)->Option ρ
 | .skip,st,K=>K .normal st
 | .region id ops false,st,K=>split C id ops.toList st fun C=>Yn C ops.toList ops.toList st fun st'=>K .normal st'
 | .region id ops true,st,K=>split C id ops.toList st fun C=>bif UW C ops.toList st then Yo C ops.toList ops.toList st fun st'=>K .normal st' else none
 | .seq a b,st,K=>exec C N fin a st fun
  | .normal,st'=>meet C 1 b st' fun st''=>exec C N fin b st'' K
  | .exit id,st'=>K (.exit id) st'
 | .cond c a b,st,K=>match Lj st.tmps c with
  | .bool t=>bif t then exec C N fin a st K else exec C N fin b st K
  | .cnd g (.bool t)=>bif g then bif t then exec C N fin a st K else exec C N fin b st K else none
  | _=>none
 | .block id c,st,K=>exec C N fin c st fun
  | .exit j,st'=>bif Nat.beq j id then K .normal st' else K (.exit j) st'
  | .normal,st'=>K .normal st'
 | .loop c,st,K=>meet C 2 c st fun st'=>rounds (meet C 2 c) (exec C N fin c) N st' K
 | .exit id,st,K=>UZ C (4*id+3) st fun st'=>K (.exit id) st'
 | .scope c,st,K=>exec C N fin c st K
 | .label _,st,K=>K .normal st
 | .ret,st,_=>fin st
 | _,_,_=>none
def Ty.Oj: ∀(t:Ty) (v:t.Val),(t.cells v).length=t.len
 | .nil,_=>rfl
 | .bool r,v=>by simp [Ty.cells,Ty.len,Ty.Oj r]
 | .int _ r,v=>by simp [Ty.cells,Ty.len,Ty.Oj r]
 | .str r,v=>by simp [Ty.cells,Ty.len,Ty.Oj r]
 | .sl _ _ r,v=>by simp [Ty.cells,Ty.len,Ty.Oj r]
 | .ptr r,v=>by simp [Ty.cells,Ty.len,Ty.Oj r v]
 | .fn r,v=>by simp [Ty.cells,Ty.len,Ty.Oj r]
 | .mp _ _ r,v=>by simp [Ty.cells,Ty.len,Ty.Oj r]
theorem Ty.PX {α :Type} (r:Ty) (a: α) (b:r.Val):r.hd (r.mk2 a b)=a:=by cases r<;>rfl
theorem Ty.Qd {α :Type} (r:Ty) (a: α) (b:r.Val):r.tl (r.mk2 a b)=b:=by cases r<;>rfl
theorem Sl.KU (l:Sl):l.es.length=l.xs.length:=by simp [Sl.es]
def Sl.es_len (l:Sl): ∀ e∈l.es,e.length=l.sz:=by intro e he;obtain⟨v,_,rfl⟩:=DI.1 he;exact Ty.Oj _ _
def Sl.at_eq (l:Sl) {i:Nat} (h:i<l.xs.length):l.at i=l.es.getD i []:=by grind[Sl.at,Sl.es]
def Sl.Awb (l:Sl) (i:Nat):(l.at i).length=l.sz:=Ty.Oj _ _
theorem Sl.QO {l:Sl} {t:Ty} {xs:List t.Val} (h:l.cast t=some xs):l=⟨t,xs⟩:=by
 unfold Sl.cast at h;split at h
 .rename_i e _;obtain⟨s,ys⟩:=l;all_goals grind
 .cases h
def Sl.gB (t:Ty) (xs:List t.Val):(⟨t,xs⟩:Sl).cast t=some xs:=by
 unfold Sl.cast;split
 .rfl
 .grind
theorem Mp.QO {l:Mp} {kt vt:Ty} {xs:List (kt.Val×vt.Val)} (h:l.cast kt vt=some xs):l=⟨kt,vt,xs⟩:=by
 unfold Mp.cast at h;split at h
 .rename_i e _;obtain⟨k,v,ys⟩:=l;dsimp only at e;subst e;split at h;all_goals grind
 .cases h
def Mp.gB (kt vt:Ty) (xs:List (kt.Val×vt.Val)):(⟨kt,vt,xs⟩:Mp).cast kt vt=some xs:=by
 unfold Mp.cast;split
 .split
  .rfl
  .grind
 .grind
theorem A.Ri {j k:IntKind} (h:A.kEq j k=true):j=k:=by cases j<;>cases k<;>first | rfl | cases h
def Ty.UC: ∀(t:Ty) (cs:List A),(t.mk cs).1=true->t.cells (t.mk cs).2=cs:=by
 intro t
 induction t with
 | nil =>
  intro cs h;cases cs with
  | nil=>rfl
  | cons _ _=>simp [Ty.mk]at h
 | fn r ih=>grind[Ty.mk,Ty.cells,Ty.PX,Ty.Qd]
 | mp kt vt r _ _ ih =>
  intro cs h;unfold Ty.mk at h ⊢;split at h
  .rename_i l cs;cases hc:l.cast kt vt with
   | none=>rw[hc]at h;simp at h
   | some xs=>grind[Ty.cells,Ty.PX,Ty.Qd,Mp.QO]
  .simp at h
 | bool r ih=>grind[Ty.mk,Ty.cells,Ty.PX,Ty.Qd]
 | int k r ih=>grind[Ty.mk,Ty.cells,Ty.PX,Ty.Qd,A.Ri]
 | str r ih=>grind[Ty.mk,Ty.cells,Ty.PX,Ty.Qd]
 | sl e t r _ ih =>
  intro cs h;unfold Ty.mk at h ⊢;split at h
  .rename_i l cs;cases hc:l.cast t with
   | none=>rw[hc]at h;simp at h
   | some xs=>grind[Ty.cells,Ty.PX,Ty.Qd,Sl.QO]
  .simp at h
 | ptr r ih =>
  intro cs h;unfold Ty.mk at h ⊢;split at h
  .rename_i cs;show A.Me::r.cells (r.mk cs).2=_;rw[ih cs h]
  .simp at h
def Ty.Akx: ∀(ks:List CK),ks.all CK.plain=true->(tyl ks).cells (tyl ks).zero=ks.map CK.OV:=by
 intro ks
 induction ks with
 | nil=>intro _;rfl
 | cons k ks ih=>grind[tyl,Ty.cells,Ty.PX,Ty.Qd,CK.OV,CK.zero,CK,CK.plain,cells,zero]
def WU (ks:List CK):(tyl ks).len=ks.length:=by
 induction ks with
 | nil=>rfl
 | cons k ks ih=>cases k<;>simp [tyl,Ty.len,ih]
def Sl.A2S (l:Sl) {i off:Nat} {cs:List A} (hi:i<l.xs.length) (h:(l.set i off cs).1=true):(l.set i off cs).2.es=l.es.set i (splice (l.es.getD i []) off cs):=by have:=Ty.UC _ _ h;rw[<- l.at_eq hi];all_goals simp_all[Sl.set,Sl.es,hi,splice]
def Sl.AwA (t:Ty) (xs ys:List t.Val):(⟨t,xs++ys⟩:Sl).es=(⟨t,xs⟩:Sl).es++(⟨t,ys⟩:Sl).es:=by simp [Sl.es]
def Sl.AwB (l:Sl) (a b:Nat):(⟨l.t,JD l.xs a b⟩:Sl).es=JD l.es a b:=by simp_all[Sl.es,JD]
def Sl.pW (ks:List CK) (n:Nat) (h:ks.all CK.plain=true):(⟨tyl ks,List.replicate n (tyl ks).zero⟩:Sl).es=List.replicate n (ks.map CK.OV):=by simp [Sl.es,List.map_replicate,Ty.Akx ks h]
def Sl.AwC (t:Ty):(⟨t,[]⟩:Sl).es=[]:=rfl
def P5 (P:Program):Nat->Nat->Option (List CK)
 | 0,_=>none
 | n+1,t=>match P.underlying t with
  | some .bool=>some [.bool]
  | some (.int k)=>some [.int k]
  | some .string=>some [.str]
  | some (.slice e)=>match P5 P n e with
   | some cs=>bif cs.all CK.plain then some [.sl e (tyl cs)]else some [.oth]
   | none=>some [.oth]
  | some (.pointer _)=>some [.ptr]
  | some (.struct fs)=>fs.toList.foldr (fun f acc=>match P5 P n f.type,acc with | some a,some b=>some (a++b) | _,_=>none) (some [])
  | some (.array m e)=>match P5 P n e with
   | some a=>bif Nat.ble (m*a.length) 4096 then some ((List.replicate m a).flatten)else none
   | none=>none
  | some (.tuple _)=>none
  | some (.func _ _ _)=>some [.fn]
  | some _=>some [.oth]
  | none=>none
def KI:List Value->List CK->Bool
 | [],[]=>true
 | .bool false::vs,.bool::ks=>KI vs ks
 | .int k 0::vs,.int k'::ks=>A.kEq k k'&&KI vs ks
 | .string s::vs,.str::ks=>s.data.toList.isEmpty&&KI vs ks
 | .slice none 0 0::vs,.sl _ _::ks=>KI vs ks
 | .pointer none::vs,.ptr::ks=>KI vs ks
 | .nilFunc::vs,.fn::ks=>KI vs ks
 | v::vs,.oth::ks=>v.oneCell'&&KI vs ks
 | _,_=>false
def Zr:TypeDesc->Bool
 | .struct _ | .array _ _=>true
 | _=>false
def qG:Value->Bool
 | .agg _=>true
 | _=>false
def Zj (P:Program):List Field->Nat->Option (List CK)
 | [],_=>some []
 | f::r,n=>match P.underlying f.type,Zj P r (n+1)with
  | some .bool,some ks=>bif f.name != "_" &&Nat.beq f.offset n then some (.bool::ks)else none
  | some (.int k),some ks=>bif f.name != "_" &&Nat.beq f.offset n then some (.int k::ks)else none
  | some .string,some ks=>bif f.name != "_" &&Nat.beq f.offset n then some (.str::ks)else none
  | _,_=>none
def AtU (P:Program) (t:Nat):TypeDesc->List CK
 | .struct fs=>match Zj P fs.toList 0 with
  | some ks=>bif !(P.stoodInHeld t)&& !(P.eqGuardType P.depth t)then ks else []
  | none=>[]
 | _=>[]
def AvK (P:Program) (t:Nat):Option TI :=
 match P.underlying t,P.info? t,P5 P 20 t with
 | some d,some i,some cs=>match i.zero with
  | some z=>bif Nat.beq i.size cs.length&&KI z.cells.toList cs&&(Zr d==qG z)then some ⟨d,cs,i.bytes,AtU P t d⟩else none
  | none=>none
 | _,_,_=>none
end Go.Proofs.YtmgpaalplkkpnaaGreatDoor.Vm
