import Derived.Test.YtbaomhegdndpnaaGreatDoorA6
import Derived.Lib.ConvBytes
import Derived.MapKept
import Derived.Carry
set_option linter.all false
namespace Go.Proofs.YtbaomhegdndpnaaGreatDoor.Vm
open Classical
open Go.Lib (bytesWorld bytesCells bytesWorld_at_old bytesWorld_at_new bytesWorld_size)
section
variable {P:Program} {C:Ctx} {V0:Nat->Value} {O0 O:Own} {w0 w:World} {m:Nat->Value} {st:St} {a:Act} {o:Oper}
theorem Aad (w:World) (e:TypeId) (s:ByteArray):Moves O (fun _=>False) w (bytesWorld w e s):=by
  refine⟨rfl,rfl,rfl,?_,fun b hb=>.inl (bytesWorld_at_old w e s b hb)⟩
  rw[bytesWorld_size];omega
theorem Abw {s t:Nat} {x:Operand} (hC:TOk P C) (hS:Sim V0 O0 w0 O m st a w) {d:Tmp} (hd:o.dst=some d) (ho:o.op= .convert s t x) {l:List UInt8} (hx:Ar O st.Aa m w (a.eval x) (.str l))
    (hok:Ak (Xp C d s t l).ok) (hfr: ∀ p∈(Xp C d s t l).new,st.fresh p.1=true):Good P V0 O0 w0 (apply st o (Xp C d s t l)) o a w:=by
  intro next Q hn
  unfold Xp at *
  obtain⟨ts,hts,he⟩:=Bh hok
  rw[he]at hok hfr hn;clear he
  obtain⟨ti,e,te,ht,hte,hd',he⟩:=JI hok
  rw[he]at hok hfr hn;clear he
  obtain⟨h1,h2⟩:=hok.cons
  have h2:=h2.cons.1
  have hlen:l.length<=140737488355328:=by simpa using h2
  have hde:=xO h1
  have hue:=(hC.is hd').d
  rw[hde]at hue
  have hut:=(hC.is ht).d
  rw[hte]at hut
  obtain⟨b,hb,hl⟩:=hx.str
  have hbl:b.size=l.length:=by rw[GX,hl]
  have hr:(execOp a.eval o).run P w= .ok (.value (.slice (some (at' w.heap.size 0)) b.size (grownCap w b.size 0 e))) (bytesWorld w e b):=by
    have:=Go.Lib.run_convert_string_bytes (P:=P) w s t e b (hC.is hts).d hut hue
    simp only[execOp,ho,hb,Sem.run_bind,this]
    rfl
  unfold Oper.wp
  rw[hr,Oper.upon_value,hd]
  have hge:=grownCap_ge w b.size 0 e
  have hes:(⟨Gl,l.map (fun(b:UInt8)=>((b.toNat:Int)))⟩:Sl).es=l.map (fun(x:UInt8)=>[A.int .u8 (x.toNat:Int)]):=by
    show List.map (Ty.int IntKind.u8 Ty.nil).cells (List.map (fun(b:UInt8)=>((b.toNat:Int))) l)=_
    exact List.map_map.trans rfl
  have hesl:(⟨Gl,l.map (fun(b:UInt8)=>((b.toNat:Int)))⟩:Sl).es.length=b.size:=by rw[hes,List.length_map,hbl]
  have hcs:(bytesCells w e b).size=grownCap w b.size 0 e:=by
    simp [bytesCells]
    have:b.data.size=b.size:=rfl
    omega
  obtain⟨O',m',h⟩:=aC hS (Aad w e b) (d:=d) (e:=e) (cap:=grownCap w b.size 0 e) (frz:=false) (l:=⟨Gl,l.map (fun(b:UInt8)=>((b.toNat:Int)))⟩) (del:=[]) (cur:=bytesCells w e b)
    ⟨_,bytesWorld_at_new w e b,.inr (Nat.le_refl _)⟩ (by rw[hesl];exact hge) (grownCap_le_maxLen w _ _ _ (by unfold maxLen;omega)) (by rw[hcs];show _=_*1;omega) ⟨Sl.es_len _,fun i j hi hj=>by
      have hj0:j=0:=by
        have:j<1:=hj
        omega
      subst hj0
      rw[hesl]at hi
      have hi':i<l.length:=by omega
      have hi2:i<b.data.toList.length:=by rw[hl];exact hi'
      refine⟨.int .u8 (l.getD i 0).toNat,?_,?_⟩
      ·have hlt:i<b.data.size:=hi
       show(bytesCells w e b)[i*1+0]? =_
       rw[Nat.mul_one,Nat.add_zero]
       unfold bytesCells
       rw[Array.getElem?_append_left (by simpa using hlt)]
       rw[Array.getElem?_map]
       have:b.data[i]? =some (l.getD i 0):=by
         rw[<- Array.getElem?_toList,hl,List.getD_eq_getElem?_getD,List.getElem?_eq_getElem hi'];rfl
       rw[this];rfl
      ·rw[hes]
       have:(l.map (fun(x:UInt8)=>[A.int .u8 (x.toNat:Int)])).getD i []=[A.int .u8 ((l.getD i 0).toNat:Int)]:=by
         simp [List.getD_eq_getElem?_getD,hi']
       rw[this]
       exact .int _ _⟩ (CY (hfr _ List.mem_cons_self))
  rw[hesl]at h
  refine hn O' m' _ _ ?_
  rw[Jy hd]
  exact h
theorem AcZ {s t:Nat} {x:Operand} (hC:TOk P C) (hS:Sim V0 O0 w0 O m st a w) (ho:o.op= .convert s t x) {fet:Fet} (hf:DZ st.Aa fet) {x':A} (hx:Ar O st.Aa m w (a.eval x) x')
    (hok:Ak (YV C o fet s t x').ok) (hfr: ∀ p∈(YV C o fet s t x').new,st.fresh p.1=true):Good P V0 O0 w0 (apply st o (YV C o fet s t x')) o a w:=by
  have hF:FOk O st.Aa m w fet:=fun q x h=>⟨hf q x h,hS.Aa q x (hf q x h)⟩
  by_cases hs: ∃ l,x'= .str l
  ·obtain⟨l,rfl⟩:=hs
   unfold YV at *
   dsimp only at hok hfr ⊢
   obtain⟨tt,htt,he⟩:=Bh hok
   rw[he]at hok hfr ⊢;clear he
   cases hb:xN tt.d with
   | true =>
     rw[hb]at hok hfr
     simp only[cond_true]at hok hfr ⊢
     obtain⟨d,hd,he⟩:=AB hok
     rw[he]at hok hfr ⊢;clear he
     exact Abw hC hS hd ho hx hok hfr
   | false =>
     rw[hb]at hok
     simp only[cond_false]at hok ⊢
     exact(Xv hC hF ho hx hok).good hS
  ·have e:YV C o fet s t x'=LV C fet s t x':=by
     cases x'<;>first | rfl | exact absurd ⟨_,rfl⟩ hs
   rw[e]at hok ⊢
   exact(Xv hC hF ho hx hok).good hS
theorem AfE (n:Nat) (cs:List CK) {i j:Nat} (hi:i<n) (hj:j<cs.length):((List.replicate n cs).flatten).getD (i*cs.length+j) .oth=cs.getD j .oth:=by
  induction n generalizing i with
  | zero=>omega
  | succ n ih =>
    rw[List.replicate_succ,List.flatten_cons,List.getD_eq_getElem?_getD]
    cases i with
    | zero=>rw[List.getElem?_append_left (by omega),Nat.zero_mul,Nat.zero_add,<- List.getD_eq_getElem?_getD]
    | succ i =>
      rw[Nat.add_mul,Nat.one_mul,List.getElem?_append_right (by omega),show i*cs.length+cs.length+j - cs.length=i*cs.length+j from by omega,<- List.getD_eq_getElem?_getD]
      exact ih (by omega)
theorem Y0 {t n:Nat} {l:Sl} {cur:Array Value} (hS:Sim V0 O0 w0 O m st a w) {d:Tmp} (hd:o.dst=some d) (hr:(execOp a.eval o).run P w= .ok (.value (.pointer (some (at' w.heap.size 0)))) (w.alloc (.cells cur t)))
    (hn:l.xs.length=n) (hmax:n<=16777216) (hsz:cur.size=n*l.sz) (hheld:Held O w cur l.sz l.es) (hfresh:Ew st (b2 d)) :
    Good P V0 O0 w0 {tmps:=st.tmps.set d (.Bc (b2 d) 0 0),Aa:=Aq (Bf st.Aa []) [(b2 d,.arr t false l)]} o a w:=by
  intro next Q hnx
  unfold Oper.wp
  rw[hr,Oper.upon_value,hd]
  obtain⟨O',m',h⟩:=KO hS (Moves.refl _ _ w) rfl (d:=d) (e:=t) (cap:=n) (frz:=false) (l:=l) (cur:=cur) (del:=[]) (by rw[Sl.BB,hn];exact Nat.le_refl _) (by unfold maxLen;omega) hsz hheld hfresh
  rw[Sl.BB,hn]at h
  refine hnx O' m' _ _ ?_
  by_cases hdt:d<st.tmps.length
  ·
   have hslot:=h.tmps d (by simpa using hdt)
   have hself:(a.put (some d) (.slice (some (at' w.heap.size 0)) n n)).tmps.getD d undef= .slice (some (at' w.heap.size 0)) n n:=by
     have hs:d<a.tmps.size:=by rw[hS.size];exact hdt
     simp [Act.put,Array.getD_eq_getD_getElem?,hs]
   have hself2:(st.tmps.set d (.own (b2 d))).getD d .undef= .own (b2 d):=by simp [List.getD_eq_getElem?_getD,hdt]
   rw[hself,hself2]at hslot
   have hc:Aw O' (Aq (Bf st.Aa []) [(b2 d,.arr t false l)]) m' (w.alloc (.cells cur t)) (.slice (some (at' w.heap.size 0)) n n) (.own (b2 d)):=hslot
   have hg:Af (Aq (Bf st.Aa []) [(b2 d,Obj.arr t false l)]) (b2 d)=some (.arr t false l):=by
     simp only[Aq];rw[Bi,if_pos rfl]
   have hm: .slice (some (at' w.heap.size 0)) n n=m' (b2 d):=by
     have:=hc.2
     rw[hg]at this
     exact this
   have hcr:Aw O' (Aq (Bf st.Aa []) [(b2 d,.arr t false l)]) m' (w.alloc (.cells cur t)) (.pointer (some (at' w.heap.size 0))) (.Bc (b2 d) 0 0):=by
     simp only[Aw,hg,Option.map_some,Obj.shp]
     exact⟨rfl,fun _=>⟨w.heap.size,n,n,hm.symm,by simp⟩⟩
   have hnew:=h.put (some d) (x:=.Bc (b2 d) 0 0) (v:=.pointer (some (at' w.heap.size 0))) hcr.toT
   have e1:put (st.tmps.set d (.own (b2 d))) (some d) (.Bc (b2 d) 0 0)=st.tmps.set d (.Bc (b2 d) 0 0):=by simp [put]
   have e2:(a.put (some d) (.slice (some (at' w.heap.size 0)) n n)).put (some d) (.pointer (some (at' w.heap.size 0)))=a.put (some d) (.pointer (some (at' w.heap.size 0))):=by simp [Act.put]
   rw[e2]at hnew
   dsimp only at hnew
   rw[e1]at hnew
   exact hnew
  ·have e1: ∀ x,st.tmps.set d x=st.tmps:=fun x=>List.set_eq_of_length_le (Nat.le_of_not_lt hdt)
   have e2: ∀ v,a.put (some d) v=a:=by
     intro v
     have hs: ¬ d<a.tmps.size:=by rw[hS.size];exact hdt
     have:a.tmps.setIfInBounds d v=a.tmps:=by simp [Array.setIfInBounds,hs]
     simp only[Act.put,this]
   rw[e1,e2]at h
   rw[e1,e2]
   exact h
theorem rE {t n e:Nat} {ti te:TI} (hC:TOk P C) (hS:Sim V0 O0 w0 O m st a w) {d:Tmp} (hd:o.dst=some d) (ho:o.op= .alloc t) (ht:C.T t=some ti)
    (hp:te.cs.all CK.plain=true) (h0:0<te.cs.length) (hn0:0<n) (hn:n<=16777216) (hcs:ti.cs=(List.replicate n te.cs).flatten) (hfresh:Ew st (b2 d)) :
    Good P V0 O0 w0 {tmps:=st.tmps.set d (.Bc (b2 d) 0 0),Aa:=Aq (Bf st.Aa []) [(b2 d,.arr t false ⟨tyl te.cs,List.replicate n (tyl te.cs).zero⟩)]} o a w:=by
  have hT:=hC.is ht
  obtain⟨i,z,g1,g2,g3,g4,g5,g6⟩:=hT.i
  have hsz:z.cells.size=ti.cs.length:=by
    rw[<- Array.length_toList];exact(Gz (O:=O) (Aa:=[]) (m:=fun _=>undef) (w:=w) _ _ g5).1
  have hlen:ti.cs.length=n*te.cs.length:=by rw[hcs];simp
  have hpl:ti.cs.all CK.plain=true:=by
    rw[hcs,List.all_eq_true]
    intro k hk
    obtain⟨l,hl,hkl⟩:=List.mem_flatten.1 hk
    rw[List.eq_of_mem_replicate hl]at hkl
    exact List.all_eq_true.1 hp k hkl
  have hv:=Oy (O:=O) (w:=w) _ _ g5 hpl
  have hr:(execOp a.eval o).run P w= .ok (.value (.pointer (some (at' w.heap.size 0)))) (w.alloc (.cells z.cells t)):=by
    simp only[execOp,ho,Instr.alloc,Sem.run_bind,zeroValue,typeInfo,run_program,Result.andThen_ok,g1,g4,Sem.run_pure,newVar,newRow]
    rfl
  have hel:(⟨tyl te.cs,List.replicate n (tyl te.cs).zero⟩:Sl).es=List.replicate n (te.cs.map CK.DT):=Sl.Ql _ _ hp
  have hsl:(⟨tyl te.cs,List.replicate n (tyl te.cs).zero⟩:Sl).sz=te.cs.length:=IM _
  exact Y0 hS hd hr (by rw[List.length_replicate]) hn (by rw[hsz,hlen,hsl])
    ⟨Sl.es_len _,fun r j hrl hj=>by
      rw[hsl]at hj ⊢
      rw[Sl.BB,List.length_replicate]at hrl
      have hlt:r*te.cs.length+j<n*te.cs.length:=by
        have:(r+1)*te.cs.length<=n*te.cs.length:=Nat.mul_le_mul_right _ hrl
        rw[Nat.add_mul]at this;omega
      refine⟨z.cells.toList.getD (r*te.cs.length+j) undef,?_,?_⟩
      ·rw[List.getD_eq_getElem?_getD,Array.getElem?_toList]
       rw[Array.getElem?_eq_getElem (by omega)];rfl
      ·have:=hv (r*te.cs.length+j) (by omega)
       have e1:(ti.cs.map CK.DT).getD (r*te.cs.length+j) .undef=(te.cs.map CK.DT).getD j .undef:=by
         have e2:(ti.cs.map CK.DT).getD (r*te.cs.length+j) .undef=(ti.cs.getD (r*te.cs.length+j) .oth).DT:=by
           have:r*te.cs.length+j<ti.cs.length:=by omega
           simp [List.getD_eq_getElem?_getD,this]
         have e3:(te.cs.map CK.DT).getD j .undef=(te.cs.getD j .oth).DT:=by simp [List.getD_eq_getElem?_getD,hj]
         rw[e2,e3,hcs,AfE n te.cs hrl hj]
       rw[e1]at this
       rw[hel]
       have e4:(List.replicate n (te.cs.map CK.DT)).getD r []=te.cs.map CK.DT:=by simp [List.getD_eq_getElem?_getD,hrl]
       rw[e4];exact this⟩ hfresh
theorem AcS {t:Nat} {x:Operand} {y:A} (hC:TOk P C) (hS:Sim V0 O0 w0 O m st a w) {d:Tmp} (hd:o.dst=some d) (ho:o.op= .box t x) (hx:Ar O st.Aa m w (a.eval x) y) (hids: ∀ i∈y.ids,i∈st.ids\/(Af st.Aa i).isSome)
    (hok:Ak (Xm C d t y).ok) (hfr: ∀ p∈(Xm C d t y).new,st.fresh p.1=true) (hnd:nodup ((Xm C d t y).new.map (·.1))=true):Good P V0 O0 w0 (apply st o (Xm C d t y)) o a w:=by
  unfold Xm at *
  cases hI:Afs C t with
  | none=>rw[hI]at hok hfr hnd;exact Abu hC hS hd ho hx hids hok hfr hnd
  | some q =>
    obtain⟨n,k⟩:=q
    rw[hI]at hok hfr hnd
    dsimp only at hok hfr hnd ⊢
    cases y with
    | agg cs =>
      dsimp only at hok hfr hnd ⊢
      obtain⟨h1,h2⟩:=hok.cons
      obtain⟨h2,h3⟩:=h2.cons
      have h3:=Nat.le_of_ble_eq_true h3.cons.1
      have h2:=Nat.eq_of_beq_eq_true h2
      obtain⟨vs,g1,g2,g3⟩:=hx
      have hr:(execOp a.eval o).run P w= .ok (.value (.pointer (some (at' w.heap.size 0)))) (w.alloc (.cells vs t)):=by
        simp only[execOp,ho,Instr.box,g1,Sem.run_bind,Sem.run_pure,Result.andThen_ok,newVar,newRow]
        rfl
      rw[Jy hd]
      refine Y0 (n:=n) hS hd hr (by show(cs.map A.toI).length=n;rw[List.length_map,h2]) h3 (by show vs.size=n*1;rw[g2,h2,Nat.mul_one]) ⟨Sl.es_len _,fun r j hr hj=> ?_⟩ (CY (hfr _ List.mem_cons_self))
      have hj:j<1:=hj
      have:j=0:=by omega
      subst this
      have hr:r<cs.length:=by
        rw[Sl.BB]at hr
        have hr:r<(cs.map A.toI).length:=hr
        rwa [List.length_map]at hr
      refine⟨vs.getD r undef,?_,?_⟩
      ·show vs[r*1+0]? =_
       rw[Nat.mul_one,Nat.add_zero,Array.getD_eq_getD_getElem?,Array.getElem?_eq_getElem (by omega)];rfl
      ·have h4:=g3 r hr
       have h5:=List.all_eq_true.1 h1 cs[r] (List.getElem_mem hr)
       have e1:cs.getD r .undef=cs[r]:=by simp [List.getD_eq_getElem?_getD,hr]
       have e2:((⟨.int k .nil,cs.map A.toI⟩:Sl).es.getD r []).getD 0 .undef= .int k cs[r].toI:=by
         have:(⟨.int k .nil,cs.map A.toI⟩:Sl).es=cs.map fun c=>[A.int k c.toI]:=List.map_map (f:=A.toI) (g:=fun x=>[A.int k x]) (l:=cs)
         rw[this];simp [List.getD_eq_getElem?_getD,hr]
       rw[e2]
       rw[e1]at h4
       generalize cs[r]=c at h4 h5
       cases c<;>first
         | (rename_i k' x;have:=Ff (show A.kEq k k'=true from h5);subst this;exact h4)
         | cases h5
    | _=>exact(Az hok).elim
theorem zZ {t:Nat} (hC:TOk P C) (hS:Sim V0 O0 w0 O m st a w) {d:Tmp} (hd:o.dst=some d) (ho:o.op= .alloc t)
    (hok:Ak (Na C d t).ok) (hfr: ∀ p∈(Na C d t).new,st.fresh p.1=true) (hnd:nodup ((Na C d t).new.map (·.1))=true):Good P V0 O0 w0 (apply st o (Na C d t)) o a w:=by
  unfold Na at *
  obtain⟨ti,ht,he⟩:=Bh hok
  rw[he]at hok hfr hnd ⊢;clear he
  cases ha:UO ti.d with
  | some p =>
    obtain⟨n,e⟩:=p
    rw[ha]at hok hfr
    dsimp only at hok hfr ⊢
    obtain⟨te,hte,he⟩:=Bh hok
    rw[he]at hok hfr ⊢;clear he
    obtain⟨h1,h2⟩:=hok.cons
    obtain⟨h2,h3⟩:=h2.cons
    obtain⟨h3,h4⟩:=h3.cons
    obtain⟨h4,h5⟩:=h4.cons
    have h5:=h5.cons.1
    rw[Jy hd]
    exact rE (n:=n) (e:=e) hC hS hd ho ht h1 (by simpa [Nat.blt_eq]using h2) (by simpa [Nat.blt_eq]using h3) (Nat.le_of_ble_eq_true h4) (by simpa using h5) (CY (hfr _ List.mem_cons_self))
  | none =>
    rw[ha]at hok hfr hnd
    exact vT hC hS hd ho ht hok hfr hnd
end
end Go.Proofs.YtbaomhegdndpnaaGreatDoor.Vm
namespace Go.Proofs.YtbaomhegdndpnaaGreatDoor.Vm
open Classical MapKept
theorem Ty.PK {α :Type} (r:Ty) (p:Ty.pr α r.Val r) (hu:r= .nil->True):r.mk2 (r.hd p) (r.tl p)=p:=by cases r<;>rfl
theorem Ty.same_eq: ∀(t:Ty) (a b:t.Val),t.same a b=true->a=b
  | .nil,_,_,_=>rfl
  | .bool r,a,b,h=>by
    simp only[Ty.same,Bool.and_eq_true]at h
    rw[<- Ty.PK r a (fun _=>trivial),<- Ty.PK r b (fun _=>trivial),eq_of_beq h.1,Ty.same_eq r _ _ h.2]
  | .int _ r,a,b,h=>by
    simp only[Ty.same,Bool.and_eq_true]at h
    rw[<- Ty.PK r a (fun _=>trivial),<- Ty.PK r b (fun _=>trivial),eq_of_beq h.1,Ty.same_eq r _ _ h.2]
  | .str r,a,b,h=>by
    simp only[Ty.same,Bool.and_eq_true]at h
    rw[<- Ty.PK r a (fun _=>trivial),<- Ty.PK r b (fun _=>trivial),eq_of_beq h.1,Ty.same_eq r _ _ h.2]
  | .sl _ _ _,_,_,h=>by cases h
  | .ptr _,_,_,h=>by cases h
  | .fn _,_,_,h=>by cases h
  | .mp _ _ _,_,_,h=>by cases h
def kQ:List A->List A->Bool
  | .str x::xs,.str y::ys=>(x==y)&&kQ xs ys
  | _,_=>true
def FB:Nat->Ty
  | 0=>.nil
  | n+1=>.str (FB n)
theorem AdR: ∀(n:Nat) (a b:(FB n).Val),(FB n).same a b=kQ ((FB n).cells a) ((FB n).cells b):=by
  intro n
  induction n with
  | zero=>intro a b;rfl
  | succ n ih=>intro a b;show((_==_)&&_)=((_==_)&&_);rw[ih]
theorem Afl (n:Nat):tyl (List.replicate n [CK.str]).flatten=FB n:=by
  induction n with
  | zero=>rfl
  | succ n ih=>simp only[List.replicate_succ,List.flatten_cons,List.singleton_append,tyl,FB,ih]
theorem PE: ∀(n:Nat) (a:(FB n).Val) (j:Nat),j<n-> ∃ s,((FB n).cells a).getD j .undef= .str s:=by
  intro n
  induction n with
  | zero=>intro a j h;omega
  | succ n ih =>
    intro a j h
    cases j with
    | zero=>exact⟨_,rfl⟩
    | succ j=>exact ih _ j (by omega)
def fnd {β :Type} (t:Ty) (k:t.Val):List MapEntry->List (t.Val× β)->Nat->Option (Nat×Value)
  | e::es,p::l,i=>bif t.same k p.1 then some (i,e.val)else fnd t k es l (i+1)
  | _,_,_=>none
theorem bT {β :Type} {t:Ty} {k:t.Val}: ∀(es:List MapEntry) (l:List (t.Val× β)) (i:Nat),es.length=l.length ->
    (fnd t k es l i=none/\KL t k l=none/\(∀ x,QA t k x l=l++[(k,x)])/\Q5 t k l=l) \/
    ∃ j e p,fnd t k es l i=some (i+j,e.val)/\es[j]? =some e/\l[j]? =some p/\p.1=k/\KL t k l=some p.2/\(∀ x,QA t k x l=l.set j (p.1,x))/\Q5 t k l=l.eraseIdx j:=by
  intro es
  induction es with
  | nil =>
    intro l i h
    cases l with
    | nil=>exact .inl ⟨rfl,rfl,fun _=>rfl,rfl⟩
    | cons _ _=>cases h
  | cons e es ih =>
    intro l i h
    cases l with
    | nil=>cases h
    | cons p l =>
      cases hs:t.same k p.1 with
      | true =>
        refine .inr ⟨0,e,p,by simp [fnd,hs],rfl,rfl,(Ty.same_eq _ _ _ hs).symm,by simp [KL,hs],fun x=>by simp [QA,hs],by simp [Q5,hs]⟩
      | false =>
        rcases ih l (i+1) (by simpa using h)with ⟨h1,h2,h3,h4⟩ | ⟨j,e',p',h1,h2,h3,h4,h5,h6,h7⟩
        ·exact .inl ⟨by simp [fnd,hs,h1],by simp [KL,hs,h2],fun x=>by simp [QA,hs,h3],by simp [Q5,hs,h4]⟩
        ·exact .inr ⟨j+1,e',p',by simp only[fnd,hs,cond_false,h1];congr 2;omega,by simpa using h2,by simpa using h3,h4,by simp [KL,hs,h5],fun x=>by simp [QA,hs,h6],by simp [Q5,hs,h7]⟩
section
variable {P:Program} {C:Ctx} {V0:Nat->Value} {O0 O:Own} {w0 w:World} {m:Nat->Value} {st:St} {a:Act} {o:Oper}
structure eU (P:Program) (O:Own) (w:World) (kt:TypeId) (t:Ty):Prop where
  check: ∀(e:Bool) (v:Value) (k:t.Val),Dy O w v (Ea (t.cells k))->(Instr.checkKey e 10000 kt v).run P w= .ok () w
  find: ∀ {β :Type} (v:Value) (k:t.Val) (es:List MapEntry) (l:List (t.Val× β)),Dy O w v (Ea (t.cells k))->es.length=l.length->(∀(i:Nat) e p,es[i]? =some e->l[i]? =some p->Dy O w e.key (Ea (t.cells p.1))) ->
    (Instr.findKey kt v es).run P w= .ok (fnd t k es l 0) w
  stays: ∀(v u:Value) (k:t.Val),Dy O w v (Ea (t.cells k))->Dy O w u (Ea (t.cells k))->(Instr.keyThatStays u v).run P w= .ok v w
theorem ZO {β :Type} {t:Ty} {k:t.Val} {d:TypeDesc} {v:Value}: ∀(es:List MapEntry) (l:List (t.Val× β)) (i:Nat),es.length=l.length->(∀(i:Nat) (e:MapEntry) (p:t.Val× β),es[i]? =some e->l[i]? =some p->Instr.sameNow d v e.key=some (t.same k p.1)) ->
    Instr.findNow d v es i=some (fnd t k es l i):=by
  intro es
  induction es with
  | nil=>intro l i h _;cases l<;>rfl
  | cons e es ih =>
    intro l i h hs
    cases l with
    | nil=>cases h
    | cons p l =>
      have h0:=hs 0 e p rfl rfl
      have h1:=ih l (i+1) (by simpa using h) (fun i e p he hp=>hs (i+1) e p (by simpa using he) (by simpa using hp))
      cases hb:t.same k p.1 with
      | true=>rw[hb]at h0;simp [Instr.findNow,h0,fnd,hb]
      | false=>rw[hb]at h0;simp [Instr.findNow,h0,fnd,hb,h1]
theorem Abk {β :Type} {t:Ty} {k:t.Val} {kt:TypeId} {v:Value}: ∀(es:List MapEntry) (l:List (t.Val× β)) (i:Nat),es.length=l.length->(∀(i:Nat) (e:MapEntry) (p:t.Val× β),es[i]? =some e->l[i]? =some p->(Op.equal kt v e.key).run P w= .ok (t.same k p.1) w) ->
    (Instr.findAsking kt v es i).run P w= .ok (fnd t k es l i) w:=by
  intro es
  induction es with
  | nil=>intro l i h _;cases l<;>first | rfl | cases h
  | cons e es ih =>
    intro l i h hs
    cases l with
    | nil=>cases h
    | cons p l =>
      have h0:=hs 0 e p rfl rfl
      have h1:=ih l (i+1) (by simpa using h) (fun i e p he hp=>hs (i+1) e p (by simpa using he) (by simpa using hp))
      cases hb:t.same k p.1 with
      | true=>rw[hb]at h0;simp [Instr.findAsking,h0,fnd,hb]
      | false=>rw[hb]at h0;simp [Instr.findAsking,h0,fnd,hb,h1]
theorem NQ {a b:ByteArray} (h:a.data.toList=b.data.toList):a=b:=by
  obtain⟨⟨x⟩⟩:=a
  obtain⟨⟨y⟩⟩:=b
  have:x=y:=h
  rw[this]
theorem Xj (a b:ByteArray):(a==b)=(a.data.toList==b.data.toList):=by
  rw[Bool.eq_iff_iff,bytes_beq,beq_iff_eq]
  exact⟨fun h=>by rw[h],NQ⟩
theorem Ai.str' {v:Value} {s:List UInt8} (h:Ai O w v (.str s)): ∃ b:ByteArray,v= .string b/\b.data.toList=s:=by cases h;exact⟨_,rfl,rfl⟩
theorem Ai.int' {v:Value} {k:IntKind} {n:Int} (h:Ai O w v (.int k n)):v= .int k n:=by cases h;rfl
theorem Afc (k k':List UInt8):(Ty.str .nil).same k k'=(k==k'):=Bool.and_true _
theorem Afb (q:IntKind) (k k':Int):(Ty.int q .nil).same k k'=(k==k'):=Bool.and_true _
theorem Aa9 (q:IntKind) (a b:Int):Instr.sameNow (.int q) (.int q a) (.int q b)=some (a==b):=by simp [Instr.sameNow]
theorem Ad2 {kt:TypeId} (hu:P.underlying kt=some .string):eU P O w kt (.str .nil) where
  check e v k h:=by
    obtain⟨b,rfl,_⟩:=Ai.str' (show Ai O w v (.str k)from h)
    exact run_checkKey hu (show IsKey .string (.string b)from trivial) e 9999
  find v k es l h hl hes:=by
    obtain⟨b,rfl,hb⟩:=Ai.str' (show Ai O w v (.str k)from h)
    have hn:Instr.findNow .string (.string b) es 0=some (fnd (.str .nil) k es l 0):=ZO es l 0 hl fun i e p he hp=>by
      obtain⟨b',h1,h2⟩:=Ai.str' (show Ai O w e.key (.str p.1)from hes i e p he hp)
      rw[h1]
      have e1:Instr.sameNow .string (.string b) (.string b')=some (b==b'):=by simp [Instr.sameNow]
      refine e1.trans (congrArg some (Eq.trans ?_ (Afc k p.1).symm))
      rw[Xj,hb,h2]
    simp [Instr.findKey,run_underlying hu,hn]
  stays v u k h h':=by
    obtain⟨b,rfl,hb⟩:=Ai.str' (show Ai O w v (.str k)from h)
    obtain⟨b',rfl,hb'⟩:=Ai.str' (show Ai O w u (.str k)from h')
    obtain rfl:b'=b:=NQ (by rw[hb,hb'])
    have:(b'==b')=true:=by rw[Xj];simp
    simp [Instr.keyThatStays,Instr.sameBits,this]
theorem Ad1 {kt:TypeId} {q:IntKind} (hu:P.underlying kt=some (.int q)):eU P O w kt (.int q .nil) where
  check e v k h:=by
    obtain rfl:=Ai.int' (show Ai O w v (.int q k)from h)
    exact run_checkKey hu (show IsKey (.int q) (.int q k)from rfl) e 9999
  find v k es l h hl hes:=by
    obtain rfl:=Ai.int' (show Ai O w v (.int q k)from h)
    have hn:Instr.findNow (.int q) (.int q k) es 0=some (fnd (.int q .nil) k es l 0):=ZO es l 0 hl fun i e p he hp=>by
      rw[Ai.int' (show Ai O w e.key (.int q p.1)from hes i e p he hp)]
      exact(Aa9 q k p.1).trans (congrArg some (Afb q k p.1).symm)
    simp [Instr.findKey,run_underlying hu,hn]
  stays v u k h h':=by
    obtain rfl:=Ai.int' (show Ai O w v (.int q k)from h)
    obtain rfl:=Ai.int' (show Ai O w u (.int q k)from h')
    have:((k:Int)==(k:Int))=true:=by simp
    have:Instr.sameBits 10000 (.int q k) (.int q k)=true:=by
      have: ∀ n:Int,Instr.sameBits 10000 (.int q n) (.int q n)=true:=fun n=>by simp [Instr.sameBits]
      exact this k
    simp [Instr.keyThatStays,this]
theorem dM {cs:List A} (h:cs.length≠1):Ea cs= .agg cs:=by
  unfold Ea
  split
  ·simp at h
  ·rfl
theorem Ad0 {e:TypeId} {d:Nat} (hue:P.underlying e=some .string) {xs ys:Array Value} {cs ds:List A} (hx: ∀ j,j<cs.length->Ai O w (xs.getD j undef) (cs.getD j .undef)) (hxs:xs.size=cs.length)
    (hy: ∀ j,j<ds.length->Ai O w (ys.getD j undef) (ds.getD j .undef)) (hys:ys.size=ds.length) (hl:cs.length=ds.length) (hc: ∀ j,j<cs.length-> ∃ s,cs.getD j .undef= .str s) (hd: ∀ j,j<ds.length-> ∃ s,ds.getD j .undef= .str s) :
    ∀(n i:Nat),i+n=cs.length->(Op.eqItems (d+1) e 1 xs ys (List.range' i n)).run P w= .ok (kQ (cs.drop i) (ds.drop i)) w:=by
  intro n
  induction n with
  | zero =>
    intro i hi
    have:cs.drop i=[]:=List.drop_eq_nil_of_le (by omega)
    rw[this];rfl
  | succ n ih =>
    intro i hi
    have hi':i<cs.length:=by omega
    obtain⟨s,hs⟩:=hc i hi'
    obtain⟨s',hs'⟩:=hd i (by omega)
    have hx1:=hx i hi'
    have hy1:=hy i (by omega)
    rw[hs]at hx1
    rw[hs']at hy1
    obtain⟨b,hb1,hb2⟩:=hx1.str'
    obtain⟨b',hb1',hb2'⟩:=hy1.str'
    have ex:xs[i]? =some (.string b):=by
      have:i<xs.size:=by omega
      rw[Array.getElem?_eq_getElem this,<- hb1,Array.getD_eq_getD_getElem?,Array.getElem?_eq_getElem this];rfl
    have ey:ys[i]? =some (.string b'):=by
      have:i<ys.size:=by omega
      rw[Array.getElem?_eq_getElem this,<- hb1',Array.getD_eq_getD_getElem?,Array.getElem?_eq_getElem this];rfl
    have hpk:P.plainKey e=true:=by simp [Program.plainKey,hue]
    have p1:=run_part_plain w hpk (off:=i*1) (by rw[Nat.mul_one];exact ex)
    have p2:=run_part_plain w hpk (off:=i*1) (by rw[Nat.mul_one];exact ey)
    have p3:=run_equalIn_string (P:=P) w d e b b' hue
    have ec:cs.drop i= .str s::cs.drop (i+1):=by
      rw[List.drop_eq_getElem_cons hi',<- hs,List.getD_eq_getElem?_getD,List.getElem?_eq_getElem hi'];rfl
    have ed:ds.drop i= .str s'::ds.drop (i+1):=by
      rw[List.drop_eq_getElem_cons (by omega),<- hs',List.getD_eq_getElem?_getD,List.getElem?_eq_getElem (by omega)];rfl
    rw[List.range'_succ,ec,ed]
    have ih':=ih (i+1) (by omega)
    simp only[Op.eqItems,Sem.run_bind,p1,p2,p3,Result.andThen_ok]
    rw[Sv,Sv,hb2,hb2']
    cases hbb:(s==s')with
    | false=>simp [kQ,hbb]
    | true=>simp [kQ,hbb,ih']
theorem lU {e:TypeId} {em:Bool} {d:Nat} (hue:P.underlying e=some .string) (hsz:(sizeOf e).run P w= .ok 1 w) {xs:Array Value} {n:Nat} (hx: ∀ j,j<n-> ∃ b,xs[j]? =some (.string b)) :
    ∀(is:List Nat),(∀ i∈is,i<n)->(forIn is PUnit.unit fun i _=>do Instr.checkKey em (d+1) e (<- part e xs (i*(<- sizeOf e)));pure (ForInStep.yield PUnit.unit)).run P w= .ok PUnit.unit w:=by
  intro is
  induction is with
  | nil=>intro _;simp
  | cons j is ih =>
    intro h
    obtain⟨b,hb⟩:=hx j (h j (by simp))
    have hpk:P.plainKey e=true:=by simp [Program.plainKey,hue]
    have p1:=run_part_plain w hpk (off:=j*1) (by rw[Nat.mul_one];exact hb)
    have p2:=run_checkKey (P:=P) (w:=w) hue (k:=.string b) trivial em d
    simp only[List.forIn_cons,Sem.run_bind,hsz,Result.andThen_ok,p1,p2,Sem.run_pure]
    exact ih (fun i hi=>h i (by simp [hi]))
theorem Dy.agg' {v:Value} {cs:List A} (h:Dy O w v (.agg cs)): ∃ vs:Array Value,v= .agg vs/\vs.size=cs.length/\ ∀ j,j<cs.length->Ai O w (vs.getD j undef) (cs.getD j .undef):=h
theorem AbV {kt e:TypeId} {n:Nat} {ie:TypeInfo} (hu:P.underlying kt=some (.array n e)) (hue:P.underlying e=some .string) (hie:P.info? e=some ie) (his:ie.size=1) (hn:1<n):eU P O w kt (FB n):=by
  have hlen: ∀ k:(FB n).Val,((FB n).cells k).length=n:=fun k=>by
    rw[Ty.D5]
    have: ∀ n,(FB n).len=n:=by intro n;induction n with | zero=>rfl | succ n ih=>simp [FB,Ty.len,ih]
    exact this n
  have hag: ∀ k:(FB n).Val,Ea ((FB n).cells k)= .agg ((FB n).cells k):=fun k=>dM (by rw[hlen];omega)
  have hce:P.cellsOf e=1:=by simp [Program.cellsOf,hie,his]
  have hsz:(sizeOf e).run P w= .ok 1 w:=by simp [sizeOf,typeInfo,hie,his]
  have hstr: ∀ {vs:Array Value} {k:(FB n).Val},vs.size=n->(∀ j,j<n->Ai O w (vs.getD j undef) (((FB n).cells k).getD j .undef))-> ∀ j,j<n-> ∃ b,vs[j]? =some (.string b):=by
    intro vs k hs h j hj
    obtain⟨s,hs'⟩:=PE n k j hj
    have h1:=h j hj
    rw[hs']at h1
    obtain⟨b,hb,_⟩:=h1.str'
    have hj':j<vs.size:=by omega
    exact⟨b,by rw[Array.getElem?_eq_getElem hj',<- hb,Array.getD_eq_getD_getElem?,Array.getElem?_eq_getElem hj'];rfl⟩
  refine⟨fun em v k h=> ?_,fun v k es l h hl hes=> ?_,fun v u k h h'=> ?_⟩
  ·rw[hag]at h
   obtain⟨vs,rfl,h1,h2⟩:=h.agg'
   rw[hlen]at h1 h2
   rw[show(10000:Nat)=9998+1+1 from rfl,Instr.checkKey]
   simp only[Sem.run_bind,run_underlying hu,Result.andThen_ok]
   simp only[Std.Legacy.Range.forIn_eq_forIn_range',Std.Legacy.Range.size,Nat.sub_zero,Nat.add_one_sub_one,Nat.div_one]
   rw[lU (em:=em) (d:=9998) hue hsz (hstr h1 h2) (List.range' 0 n) (fun i hi=>by simpa using hi)]
   rfl
  ·rw[hag]at h
   obtain⟨vs,rfl,h1,h2⟩:=h.agg'
   rw[hlen]at h1 h2
   have eqs: ∀(i:Nat) (e':MapEntry) p,es[i]? =some e'->l[i]? =some p->(Op.equal kt (.agg vs) e'.key).run P w= .ok ((FB n).same k p.1) w:=by
     intro i e' p he hp
     have h3:=hes i e' p he hp
     rw[hag]at h3
     obtain⟨us,h4,h5,h6⟩:=h3.agg'
     rw[hlen]at h5 h6
     rw[h4]
     show(Op.equalIn 10000 kt _ _).run P w=_
     rw[show(10000:Nat)=9999+1 from rfl,run_equalIn_array w 9999 vs us hu hie,hce,List.range_eq_range',AdR]
     have:=Ad0 (P:=P) (O:=O) (w:=w) (d:=9998) hue (xs:=vs) (ys:=us) (cs:=(FB n).cells k) (ds:=(FB n).cells p.1) (by rw[hlen];exact h2) (by rw[hlen];exact h1) (by rw[hlen];exact h6) (by rw[hlen];exact h5) (by rw[hlen,hlen]) (by rw[hlen];exact PE n k) (by rw[hlen];exact PE n p.1) n 0 (by rw[hlen];omega)
     simpa using this
   have hnow: ∀(es:List MapEntry) (i:Nat),Instr.findNow (.array n e) (.agg vs) es i=if es=[]then some none else none:=by
     intro es i
     cases es with
     | nil=>rfl
     | cons e' es=>simp [Instr.findNow,Instr.sameNow]
   simp only[Instr.findKey,Sem.run_bind,run_underlying hu,Result.andThen_ok,hnow]
   cases es with
   | nil=>cases l<;>first | simp [fnd] | cases hl
   | cons e' es =>
     rw[if_neg (by simp)]
     exact Abk _ l 0 hl eqs
  ·rw[hag]at h h'
   obtain⟨vs,rfl,h1,h2⟩:=h.agg'
   obtain⟨us,rfl,h3,h4⟩:=h'.agg'
   have e:us=vs:=by
     rw[hlen]at h1 h2 h3 h4
     apply Array.ext (by omega)
     intro j hj1 hj2
     obtain⟨s,hs⟩:=PE n k j (by omega)
     have a1:=h2 j (by omega)
     have a2:=h4 j (by omega)
     rw[hs]at a1 a2
     obtain⟨b1,e1,f1⟩:=a1.str'
     obtain⟨b2,e2,f2⟩:=a2.str'
     rw[Array.getD_eq_getD_getElem?,Array.getElem?_eq_getElem hj2]at e1
     rw[Array.getD_eq_getD_getElem?,Array.getElem?_eq_getElem hj1]at e2
     have e1:vs[j]=_:=e1
     have e2:us[j]=_:=e2
     rw[e1,e2,NQ (f1.trans f2.symm)]
   subst e
   have hsb:Instr.sameBits 10000 (.agg us) (.agg us)=true:=by
     show((us.size==us.size)&&(us.toList.zip us.toList).all _)=true
     rw[Bool.and_eq_true]
     refine⟨by simp,List.all_eq_true.2 fun p hp=> ?_⟩
     obtain⟨i,hi⟩:=List.mem_iff_getElem?.1 hp
     rw[List.getElem?_zip_eq_some]at hi
     rw[hlen]at h1 h2
     have hi1:i<us.size:=by
       have:=(List.getElem?_eq_some_iff.1 hi.1).1
       simpa using this
     obtain⟨b,hb⟩:=hstr h1 h2 i (by omega)
     have q1:p.1= .string b:=by
       have:=hi.1
       rw[Array.getElem?_toList,hb]at this
       injection this with this;exact this.symm
     have q2:p.2= .string b:=by
       have:=hi.2
       rw[Array.getElem?_toList,hb]at this
       injection this with this;exact this.symm
     obtain⟨p1,p2⟩:=p
     dsimp only at q1 q2
     subst q1;subst q2
     show(b==b)=true
     rw[Xj];simp
   simp [Instr.keyThatStays,hsb]
theorem AeH (hC:TOk P C) {t:Nat} {ta:TI} (ht:C.T t=some ta) (h:AbW C ta=true):eU P O w t (tyl ta.cs):=by
  have hT:=hC.is ht
  have hu:=hT.d
  have hck:=hT.ck
  unfold AbW at h
  split at h
  ·rename_i hd
   rw[hd]at hu
   have:ta.cs=[.str]:=by simp [D7,hu]at hck;exact hck.symm
   rw[this];exact Ad2 hu
  ·rename_i q hd
   rw[hd]at hu
   have:ta.cs=[.int q]:=by simp [D7,hu]at hck;exact hck.symm
   rw[this];exact Ad1 hu
  ·rename_i n e hd
   rw[hd]at hu
   split at h
   ·rename_i te hte
    simp only[Bool.and_eq_true,Nat.blt_eq]at h
    have hTe:=hC.is hte
    have hde:=Yl h.1
    have hue:=hTe.d
    rw[hde]at hue
    have hcse:te.cs=[.str]:=by have:=hTe.ck;simp [D7,hue]at this;exact this.symm
    have hcs:ta.cs=(List.replicate n [CK.str]).flatten:=by
      rw[show(20:Nat)=18+1+1 from rfl]at hck
      unfold D7 at hck
      simp only[hu]at hck
      have he:D7 P (18+1) e=some [.str]:=by simp [D7,hue]
      rw[he]at hck
      dsimp only at hck
      cases hb:Nat.ble (n* [CK.str].length) 4096 with
      | false=>rw[hb]at hck;cases hck
      | true=>rw[hb]at hck;injection hck with hck;exact hck.symm
    rw[hcs,Afl]
    obtain⟨i,z,h1,h2,_⟩:=hTe.i
    exact AbV hu hue h1 (by rw[h2,hcse];rfl) h.2
   ·cases h
  ·cases h
end
end Go.Proofs.YtbaomhegdndpnaaGreatDoor.Vm
namespace Go.Proofs.YtbaomhegdndpnaaGreatDoor.Vm
open Classical MapKept
def Ady:A->Bool
  | .bool _ | .int _ _ | .str _ | .sl _ | .Cc | .fn _ | .ump _=>true
  | _=>false
theorem Ty.FN: ∀(t:Ty) (v:t.Val),∀ c∈t.cells v,Ady c=true
  | .nil,_,c,h=>by cases h
  | .bool r,v,c,h=>by
    rcases List.mem_cons.1 h with rfl | h
    ·rfl
    ·exact Ty.FN r _ c h
  | .int _ r,v,c,h=>by
    rcases List.mem_cons.1 h with rfl | h
    ·rfl
    ·exact Ty.FN r _ c h
  | .str r,v,c,h=>by
    rcases List.mem_cons.1 h with rfl | h
    ·rfl
    ·exact Ty.FN r _ c h
  | .sl _ _ r,v,c,h=>by
    rcases List.mem_cons.1 h with rfl | h
    ·rfl
    ·exact Ty.FN r _ c h
  | .ptr r,v,c,h=>by
    rcases List.mem_cons.1 h with rfl | h
    ·rfl
    ·exact Ty.FN r v c h
  | .fn r,v,c,h=>by
    rcases List.mem_cons.1 h with rfl | h
    ·rfl
    ·exact Ty.FN r _ c h
  | .mp _ _ r,v,c,h=>by
    rcases List.mem_cons.1 h with rfl | h
    ·rfl
    ·exact Ty.FN r _ c h
section
variable {P:Program} {C:Ctx} {V0:Nat->Value} {O0 O:Own} {w0 w:World} {m:Nat->Value} {st:St} {a:Act} {o:Oper}
theorem Aw.data {Aa:List (Nat×Obj)} {v:Value} {c:A} (h:Aw O Aa m w v c) (hd:Ady c=true):Ai O w v c:=by
  cases c<;>first | exact h | exact h.elim | cases hd
theorem Dy.toT {Aa:List (Nat×Obj)} {v:Value} {x:A} (h:Dy O w v x):Ar O Aa m w v x/\T1 O Aa m w v x:=by
  have cell: ∀ {v:Value} {x:A},Ai O w v x->Aw O Aa m w v x:=fun h=>by cases h<;>first | exact .bool _ | exact .int _ _ | exact .str _ | exact .nil _ | exact .Cc | exact .fn _ | exact .RU | exact Ai.sl0 _ _ | (rename_i vs a1 a2 a3;exact Ai.sl vs a1 a2 a3) | (rename_i h hn;exact Ai.sln h hn)
  cases x with
  | agg cs =>
    obtain⟨vs,h1,h2,h3⟩:=h
    exact⟨⟨vs,h1,h2,fun j hj=>cell (h3 j hj)⟩,⟨vs,h1,h2,fun j hj=>cell (h3 j hj)⟩⟩
  | undef=>cases h
  | BK=>cases h
  | usl _ _ _=>cases h
  | ump _=>cases h
  | ptr _ _=>cases h
  | own _=>cases h
  | elt _=>cases h
  | Bc _ _ _=>cases h
  | tup _=>cases h
  | box _=>cases h
  | cbx _ _=>cases h
  | clo _ _=>cases h
  | bsl _ _=>cases h
  | osl _ _=>cases h
  | cnd _ _=>cases h
  | bool _=>exact⟨cell h,cell h⟩
  | int _ _=>exact⟨cell h,cell h⟩
  | str _=>exact⟨cell h,cell h⟩
  | sl _=>exact⟨cell h,cell h⟩
  | sln _=>exact⟨cell h,cell h⟩
  | Cc=>exact⟨cell h,cell h⟩
  | fn _=>exact⟨cell h,cell h⟩
theorem AeG {xs:List A} (h:AbQ (.agg xs)=true):xs.length≠1:=by
  intro h1
  obtain⟨c,rfl⟩:=List.length_eq_one_iff.1 h1
  cases h
theorem AaR {O':Own} {Aa:List (Nat×Obj)} {v:Value} {x:A} {cs:List A} (ho:AbQ x=true) (hv:x.isVal=true) (hx:Ar O Aa m w v x) (hl:cs.length=x.cells.length)
    (hrel: ∀ j,j<cs.length->Ai O' w (v.cells.getD j undef) (cs.getD j .undef)):Dy O' w v (Ea cs):=by
  have one:Aw O Aa m w v x->x.cells=[x]->Dy O' w v (Ea cs):=by
    intro hc he
    rw[he]at hl
    obtain⟨c,rfl⟩:=List.length_eq_one_iff.1 hl
    have h0:=hrel 0 (by simp)
    rw[oneCell_cells hc.one]at h0
    have h0:Ai O' w v c:=h0
    show Dy O' w v c
    cases c<;>first | exact h0 | cases h0
  cases x with
  | agg xs =>
    obtain⟨vs,rfl,h2,h3⟩:=hx
    have hl:cs.length=xs.length:=hl
    rw[dM (by rw[hl];exact AeG ho)]
    exact⟨vs,rfl,by rw[h2,hl],hrel⟩
  | undef=>cases hv
  | tup _=>cases hv
  | usl _ _ _=>cases hv
  | ump _=>cases hv
  | box _=>cases hv
  | cbx _ _=>cases hv
  | cnd _ _=>cases hv
  | _=>exact one hx rfl
theorem I8 {r:Nat} {es:Array MapEntry} {ck:Nat} (hb:w.heap[r]? =some (.map es ck)):(getObj r).run P w= .ok (.map es ck) w:=by simp [getObj,Sem.run,hb]
theorem P8 {r:Nat} {es:Array MapEntry} {ck:Nat} (x:Go.Obj) (hb:w.heap[r]? =some (.map es ck)):(setObj r x).run P w= .ok () {w with heap:=w.heap.setIfInBounds r x}:=by simp [setObj,Sem.run,hb]
theorem V8 {t:Nat} {k:TI->TI->Dl} (hok:Ak (mapOf C t k).ok): ∃ ti kt et ta tb,C.T t=some ti/\ti.d= .map kt et/\C.T kt=some ta/\C.T et=some tb/\mapOf C t k=k ta tb:=by
  unfold mapOf at hok ⊢
  obtain⟨ti,ht,he⟩:=Bh hok
  rw[he]at hok ⊢
  split at hok
  ·rename_i kt et hd
   obtain⟨ta,hta,he⟩:=Bh hok
   rw[he]at hok
   obtain⟨tb,htb,he'⟩:=Bh hok
   exact⟨ti,kt,et,ta,tb,ht,hd,hta,htb,he.trans he'⟩
  ·exact(Az hok).elim
theorem xR {Aa:List (Nat×Obj)} (hC:TOk P C) {kt:Nat} {ta tb:TI} (hta:C.T kt=some ta) {l:Mp} {i:A} {v:Value} (hi:Ar O Aa m w v i) (hok:Ak (uU C ta tb l i)) :
    eU P O w kt l.kt/\Dy O w v (Ea (l.kt.cells (l.kt.mk i.cells).2))/\vG tb=true/\l.vt=tyl tb.cs:=by
  obtain⟨h1,hok⟩:=hok.cons
  obtain⟨h2,hok⟩:=hok.cons
  obtain⟨h3,hok⟩:=hok.cons
  obtain⟨h4,hok⟩:=hok.cons
  obtain⟨h5,hok⟩:=hok.cons
  obtain⟨h6,hok⟩:=hok.cons
  have h7:=hok.cons.1
  have h3:=of_decide_eq_true h3
  have hc:=Ty.Ej _ _ h7
  refine⟨by rw[h3];exact AeH hC hta h1,?_,h2,of_decide_eq_true h4⟩
  obtain⟨g1,g2⟩:=hi.cells h5
  refine AaR (Aa:=Aa) h6 h5 hi (by rw[hc]) (fun j hj=> ?_)
  have hd:=Ty.FN _ _ _ (List.getElem_mem hj)
  have e:(l.kt.cells (l.kt.mk i.cells).2).getD j .undef=(l.kt.cells (l.kt.mk i.cells).2)[j]:=by
    rw[List.getD_eq_getElem?_getD,List.getElem?_eq_getElem hj];rfl
  rw[<- e]at hd
  rw[hc]at hd hj ⊢
  exact(g2 j hj).data hd
theorem Aeb {t:Nat} {tb:TI} (hT:IV P t tb) (hone:vG tb=true) (hp:tb.cs.all CK.plain=true): ∃ z,(zeroValue t).run P w= .ok z w/\Dy O w z (Ea ((tyl tb.cs).cells (tyl tb.cs).zero)):=by
  obtain⟨i,z,h1,h2,h3,h4,h5,h6⟩:=hT.i
  refine⟨z,by simp [zeroValue,typeInfo,h1,h4],?_⟩
  rw[Ty.lH _ hp]
  have hv:=Oy (O:=O) (w:=w) _ _ h5 hp
  have hl:=(Gz (O:=O) (Aa:=[]) (m:=fun _=>undef) (w:=w) _ _ h5).1
  have hone:tb.agg= !(Nat.beq tb.cs.length 1):=by simpa [vG]using hone
  rw[fC,h6,Jc]at hone
  cases z with
  | agg vs =>
    have hne:tb.cs.length≠1:=by simpa [Qx]using hone
    rw[dM (by simpa using hne)]
    refine⟨vs,rfl,?_,fun j hj=> ?_⟩
    ·have:vs.toList.length=tb.cs.length:=hl
     rw[Array.length_toList]at this;simpa using this
    ·have:=hv j (by simpa using hj)
     have e:(Value.agg vs).cells.toList.getD j undef=vs.getD j undef:=by
       show vs.toList.getD j undef=_
       rw[Array.getD_eq_getD_getElem?,List.getD_eq_getElem?_getD,Array.getElem?_toList]
     rw[e]at this;exact this
  | _ =>
    have he:tb.cs.length=1:=by simpa [Qx]using hone
    obtain⟨c,hc⟩:=List.length_eq_one_iff.1 he
    rw[hc]at hv ⊢
    have:=hv 0 (by simp)
    have this:Ai O w _ c.DT:=this
    show Dy O w _ c.DT
    cases hcz:c.DT<;>rw[hcz]at this<;>first | exact this | cases this
theorem Aav {t:Nat} {x i:Operand} {c:Bool} {Aa:List (Nat×Obj)} {fet:Fet} (hC:TOk P C) (hF:FOk O Aa m w fet) (ho:o.op= .lookup t x i c) {x' i':A} (hx:Ar O Aa m w (a.eval x) x') (hi:Ar O Aa m w (a.eval i) i')
    (hok:Ak (YZ C fet t c x' i').ok):Pure P O Aa m a w o (YZ C fet t c x' i'):=by
  unfold YZ at hok ⊢
  obtain⟨ti,kt,et,ta,tb,ht,hd,hta,htb,he⟩:=V8 hok
  rw[he]at hok ⊢;clear he
  obtain⟨p,hp,he⟩:=AB hok
  rw[he]at hok ⊢;clear he
  obtain⟨hok1,hok2⟩:=hok.append
  have hpl:=hok2.cons.1
  obtain⟨_,hv,hM⟩:=vC hF hx hp
  obtain⟨hK,hk,hone,hvt⟩:=xR hC hta hi hok1
  obtain⟨r,es,ck,h1,h2,h3,h4,h5⟩:=hM.lists
  have hu:=(hC.is ht).d
  rw[hd]at hu
  have hfind:=hK.find (a.eval i) _ es.toList p.2.l hk h4 (fun i e p he hp=>(h5 i e p he hp).1)
  have hchk:=hK.check es.isEmpty (a.eval i) _ hk
  obtain⟨z,hz1,hz2⟩:=Aeb (O:=O) (w:=w) (hC.is htb) hone hpl
  rw[<- hvt]at hz2
  have key: ∃ u,(Instr.lookup t (a.eval x) (a.eval i) c).run P w= .ok (if c then .tuple #[u,.bool (KL p.2.kt (p.2.kt.mk i'.cells).2 p.2.l).isSome]else u) w /\
      Dy O w u (Ea (p.2.vt.cells ((KL p.2.kt (p.2.kt.mk i'.cells).2 p.2.l).getD p.2.vt.zero))):=by
    rw[hv,h1]
    rcases bT (k:=(p.2.kt.mk i'.cells).2) es.toList p.2.l 0 h4 with ⟨f1,f2,_,_⟩ | ⟨j,e,q,f1,f2,f3,f4,f5,_,_⟩
    ·refine⟨z,?_,by rw[f2];exact hz2⟩
     simp [Instr.lookup,run_underlying hu,I8 h2,hchk,hfind,f1,hz1,f2,Result.andThen]
    ·refine⟨e.val,?_,by rw[f5];exact(h5 j e q f2 f3).2⟩
     simp [Instr.lookup,run_underlying hu,I8 h2,hchk,hfind,f1,f5,Result.andThen]
  obtain⟨u,hrun,hu2⟩:=key
  refine⟨⟨if c then .tuple #[u,.bool (KL p.2.kt (p.2.kt.mk i'.cells).2 p.2.l).isSome]else u,?_,?_⟩,rfl,rfl,rfl⟩
  ·simp only[execOp,ho,Sem.run_bind,hrun,Result.andThen_ok,Sem.run_pure]
  ·show Ar O Aa m w _ (nX _ _ _)
   unfold nX
   cases c with
   | false=>exact hu2.toT.1
   | true =>
     refine⟨#[u,.bool (KL p.2.kt (p.2.kt.mk i'.cells).2 p.2.l).isSome],rfl,rfl,fun j hj=> ?_⟩
     have hj:j<2:=hj
     rcases(show j=0\/j=1 by omega)with rfl | rfl
     ·exact hu2.toT.2
     ·exact Ai.bool _
theorem Adu {r:Nat} {x y:Go.Obj} (hb:w.heap[r]? =some x):(w.heap.setIfInBounds r y)[r]? =some y/\ ∀ b,b≠r->(w.heap.setIfInBounds r y)[b]? =w.heap[b]? :=by
  have hlt:=(Array.getElem?_eq_some_iff.1 hb).1
  refine⟨by rw[Array.getElem?_setIfInBounds,if_pos rfl,if_pos hlt],fun b hne=>by rw[Array.getElem?_setIfInBounds,if_neg (fun h=>hne h.symm)]⟩
theorem VO (hS:Sim V0 O0 w0 O m st a w) {q r ck ck':Nat} {es es':Array MapEntry} {l l':Mp} (hq:Af st.Aa q=some (.mp l)) (hm:m q= .map (some r)) (hb:w.heap[r]? =some (.map es ck)) (hO:O r 0=some q) (hs:es'.size=l'.l.length)
    (hes: ∀(i:Nat) (p:l'.kt.Val×l'.vt.Val),l'.l[i]? =some p-> ∃ e,es'[i]? =some e/\Dy O w e.key (Ea (l'.kt.cells p.1))/\Dy O w e.val (Ea (l'.vt.cells p.2))) {d:Option Tmp} {v:Value} {x:A} (hx:d≠none-> ∀ O' objs' m' w',Ar O' objs' m' w' v x) :
    Sim V0 O0 w0 O m {tmps:=put st.tmps d x,Aa:=BP st.Aa q (.mp l')} (a.put d v) {w with heap:=w.heap.setIfInBounds r (.map es' ck')}:=by
  obtain⟨hb1,hb2⟩:=Adu (y:=.map es' ck') hb
  have hM:Moves O (fun i=>i=q) w {w with heap:=w.heap.setIfInBounds r (.map es' ck')}:=Moves.map rfl rfl rfl (by simp) hb hb1 hb2 hO rfl
  have hP:Passes O O (fun i=>i=q) w.heap.size:=⟨fun _ _ _ h=>h,fun _ _ _ _ h _=>h⟩
  have hpr:=hM.AX hP
  have hE:F7 st.Aa m (BP st.Aa q (.mp l')) m (fun _=>False):=by
    intro i y hy
    rw[Bi]at hy
    by_cases hi:i=q
    ·rw[if_pos hi]at hy;injection hy with hy;subst hy;subst hi
     exact .inr ⟨_,hq,rfl,rfl⟩
    ·rw[if_neg hi]at hy;exact .inr ⟨y,hy,rfl,rfl⟩
  refine hS.next (st':= {tmps:=put st.tmps d x,Aa:=BP st.Aa q (.mp l')}) (T:=fun i=>i=q) (Nw:=fun _=>False) hM hP (fun b k _ h=>h) hE (fun _ h=>h.elim) (fun r' hr=>by rw[hr,hq];rfl) (fun i y hy=> ?_) rfl (fun h=>hx h _ _ _ _)
  rw[Bi]at hy
  by_cases hi:i=q
  ·right
   rw[if_pos hi]at hy;injection hy with hy;subst hy;subst hi
   refine⟨(⟨r,es',ck',hm,hb1,hO,hs,fun j p hp=> ?_⟩:Ee O _ i (m i) l'),hS.ids i _ hq⟩
   obtain⟨e,k1,k2,k3⟩:=hes j p hp
   exact⟨e,k1,k2.AX hpr,k3.AX hpr⟩
  ·left
   rw[if_neg hi]at hy
   exact⟨hi,hy,rfl⟩
theorem xY {t:Nat} {r:Option Operand} {xs:List A} (hC:TOk P C) (hS:Sim V0 O0 w0 O m st a w) {d:Nat} (hd:o.dst=some d) (ho:o.op= .makeMap t r) (hr:xs.length=r.toArray.size) (hok:Ak (J7 C d t xs).ok) (hfr: ∀ p∈(J7 C d t xs).new,st.fresh p.1=true) :
    Good P V0 O0 w0 (apply st o (J7 C d t xs)) o a w:=by
  intro next Q hn
  unfold J7 at *
  obtain⟨ti,kt,et,ta,tb,ht,hd',hta,htb,he⟩:=V8 hok
  rw[he]at hok hfr hn;clear he
  have hx:xs=[]:=by simpa using hok.cons.1
  subst hx
  have hr0:r=none:=by cases r with | none=>rfl | some _=>simp at hr
  subst hr0
  have hfresh:=CY (hfr _ List.mem_cons_self)
  have hrun:(execOp a.eval o).run P w= .ok (.value (.map (some w.heap.size))) (w.alloc (.map #[] 0)):=by
    have:(Instr.makeMap t none).run P w= .ok (.map (some w.heap.size)) (w.alloc (.map #[] 0)):=rfl
    simp only[execOp,ho,Option.map_none,Sem.run_bind,this,Result.andThen_ok,Sem.run_pure]
  unfold Oper.wp
  rw[hrun,Oper.upon_value,hd]
  let id:=b2 d
  let O':Own:=fun b k=>if b=w.heap.size then some id else O b k
  let m':Nat->Value:=fun i=>if i=id then .map (some w.heap.size)else m i
  have hlt: ∀ {b k},b<w.heap.size->O' b k=O b k:=fun hb=>if_neg (Nat.ne_of_lt hb)
  have hM:Moves O (fun _=>False) w (w.alloc (.map #[] 0)):=Moves.push _
  have hP:Passes O O' (fun _=>False) w.heap.size:=⟨fun b k hb h=>by rw[hlt hb];exact h,fun b k q hb h _=>by rw[hlt hb];exact h⟩
  let ob:Vm.Obj:=.mp ⟨tyl ta.cs,tyl tb.cs,[]⟩
  have hget: ∀ i y,Af (BP st.Aa id ob) i=some y->(i=id/\y=ob)\/(i≠id/\Af st.Aa i=some y):=by
    intro i y hy
    rw[Bi]at hy
    by_cases hi:i=id
    ·rw[if_pos hi]at hy;injection hy with hy;exact .inl ⟨hi,hy.symm⟩
    ·rw[if_neg hi]at hy;exact .inr ⟨hi,hy⟩
  have hE:F7 st.Aa m (BP st.Aa id ob) m' (fun i=>i=id):=by
    intro i y hy
    rcases hget i y hy with ⟨h1,_⟩ | ⟨h1,h2⟩
    ·exact .inl h1
    ·exact .inr ⟨y,h2,rfl,if_neg h1⟩
  refine hn O' m' _ _ ?_
  have happ: ∀ ok,apply st o {ok:=ok,val:=.own (b2 d),new:=[(b2 d,ob)]}= {tmps:=put st.tmps (some d) (.own id),Aa:=BP st.Aa id ob}:=by
    intro ok;unfold apply;rw[hd];rfl
  rw[happ]
  refine hS.next (st':= {tmps:=put st.tmps (some d) (.own id),Aa:=BP st.Aa id ob}) (x:=.own id) (T:=fun _=>False) (Nw:=fun i=>i=id) hM hP (fun b k hb h=>by rw[hlt hb]at h;exact h) hE (fun n hn=>by rw[hn];exact hfresh.both) (fun _ h=>h.elim) (fun i y hy=> ?_) rfl (fun _=> ?_)
  ·rcases hget i y hy with ⟨h1,h2⟩ | ⟨h1,h2⟩
   ·right
    subst h1;subst h2
    refine⟨(⟨w.heap.size,#[],0,if_pos rfl,Vw _ _,if_pos rfl,rfl,fun i p hp=>by cases hp⟩:Ee O' _ id (m' id) _),hfresh.ne⟩
   ·exact .inl ⟨fun h=>h,h2,if_neg h1⟩
  ·refine⟨rfl,?_⟩
   show match (Af (BP st.Aa id ob) id).map Obj.shp with | some (.arr _ _)=>_ | some .mp=>_ | _=>True
   rw[Bi,if_pos rfl]
   exact(if_pos rfl:m' id=_).symm
theorem AeN {α :Type} {l:List α} {j:Nat} {x: α} {i:Nat} {p: α} (h:(l.set j x)[i]? =some p):(i=j/\p=x/\j<l.length)\/(i≠j/\l[i]? =some p):=by
  rw[List.getElem?_set]at h
  by_cases hi:j=i
  ·rw[if_pos hi]at h
   split at h
   ·injection h with h;exact .inl ⟨hi.symm,h.symm,by omega⟩
   ·cases h
  ·rw[if_neg hi]at h;exact .inr ⟨fun e=>hi e.symm,h⟩
theorem aW {t:Nat} {x i y:Operand} (hC:TOk P C) (hS:Sim V0 O0 w0 O m st a w) (hd:o.dst=none) (ho:o.op= .mapUpdate t x i y\/o.op= .insert t x i y) {fet:Fet} (hf:DZ st.Aa fet) {x' i' y':A} (hx:Ar O st.Aa m w (a.eval x) x') (hi:Ar O st.Aa m w (a.eval i) i') (hy:Ar O st.Aa m w (a.eval y) y')
    (hok:Ak (UK C fet t x' i' y').ok):Good P V0 O0 w0 (apply st o (UK C fet t x' i' y')) o a w:=by
  intro next Q hn
  have hF:FOk O st.Aa m w fet:=fun q x h=>⟨hf q x h,hS.Aa q x (hf q x h)⟩
  unfold UK at *
  obtain⟨ti,kt,et,ta,tb,ht,hd',hta,htb,he⟩:=V8 hok
  rw[he]at hok hn;clear he
  obtain⟨p,hp,he⟩:=AB hok
  rw[he]at hok hn;clear he
  obtain⟨hokA,hokB⟩:=hok.append
  have hmk:=hokB.cons.1
  obtain⟨hokA,hokP⟩:=hokA.append
  obtain⟨hok1,hokV⟩:=hokA.append
  obtain⟨hv1,hokV⟩:=hokV.cons
  have hv2:=hokV.cons.1
  obtain⟨hq,hv,hM⟩:=vC hF hx hp
  obtain⟨hK,hk,hone,hvt⟩:=xR hC hta hi hok1
  obtain⟨hyc1,hyc2⟩:=hy.cells hv1
  obtain⟨g1,g2,g3,g4⟩:=Il (O:=O) (m:=m) (w:=w) hf tb.cs y'.cells (fun j=>(a.eval y).cells.getD j undef) hyc2 hokP
  generalize hpu:Bv fet tb.cs y'.cells=pu at *
  obtain⟨O1,hS1,hp1,hle1,hv1',hE1,hk1⟩:=hS.freezes _ g3
  have hNR:NR st.Aa p.1:=.of hq (fun _ _ _ h=>by cases h)
  have hq1:Af (Aq st.Aa pu.2.2) p.1=some (.mp p.2):=by
    rw[Cm _ _ _ (fun z hz e=> ?_)]
    ·exact hq
    ·obtain⟨e',f',l',h1,_⟩:=g3 z hz
     rw[e]at h1;exact hNR _ _ _ h1
  obtain⟨r,es,ck,h1,h2,h3,h4,h5⟩:=(show Ee O1 w p.1 (m p.1) p.2 from hS1.Aa p.1 _ hq1).lists
  have hu:=(hC.is ht).d
  rw[hd']at hu
  have hM0:=hM.lists
  obtain⟨r0,es0,ck0,k1,k2,k3,k4,k5⟩:=hM0
  rw[h1]at k1;injection k1 with k1;injection k1 with k1;subst k1
  rw[h2]at k2;injection k2 with k2;injection k2 with k2 k2';subst k2;subst k2'
  have hfind:=hK.find (a.eval i) _ es.toList p.2.l hk k4 (fun i e p he hp=>(k5 i e p he hp).1)
  have hchk:=hK.check false (a.eval i) _ hk
  have hk':Dy O1 w (a.eval i) (Ea (p.2.kt.cells (p.2.kt.mk i'.cells).2)):=hk.AX hp1
  have hcells:=Ty.Ej _ _ hmk
  have hval:Dy O1 w (a.eval y) (Ea (p.2.vt.cells (p.2.vt.mk pu.2.1).2)):=by
    rw[hcells]
    refine AaR (Aa:=st.Aa) hv2 hv1 hy (by rw[g1,g2]) (fun j hj=>g4 hp1 hv1' j (by rw[<- g1];exact hj))
  have happ: ∀ ok l',apply st o {ok:=ok,val:=.undef,upd:=pu.2.2++[(p.1,.mp l')]}= {tmps:=put st.tmps none .undef,Aa:=BP (Aq st.Aa pu.2.2) p.1 (.mp l')}:=by
    intro ok l'
    unfold apply
    rw[hd]
    have: ∀(u:List (Nat×Vm.Obj)) (l:List (Nat×Vm.Obj)) n z,Aq l (u++[(n,z)])=BP (Aq l u) n z:=by
      intro u
      induction u with
      | nil=>intro l n z;rfl
      | cons q u ih=>intro l n z;exact ih _ _ _
    show St.mk _ (Aq (Bf (Aq st.Aa (pu.2.2++[(p.1,.mp l')])) []) [])=_
    rw[this];rfl
  rcases bT (k:=(p.2.kt.mk i'.cells).2) es.toList p.2.l 0 k4 with ⟨f1,_,f3,_⟩ | ⟨j,e,q,f1,f2,f3,f4,_,f6,_⟩
  ·have hrun:(execOp a.eval o).run P w= .ok .skip {w with heap:=w.heap.setIfInBounds r (.map (es.push {key:=a.eval i,val:=a.eval y,born:=ck}) (ck+1))}:=by
     have:(Instr.mapUpdate t (a.eval x) (a.eval i) (a.eval y)).run P w= .ok () {w with heap:=w.heap.setIfInBounds r (.map (es.push {key:=a.eval i,val:=a.eval y,born:=ck}) (ck+1))}:=by
       rw[hv,h1]
       simp [Instr.mapUpdate,run_underlying hu,I8 h2,hchk,hfind,f1,P8 _ h2,Result.andThen]
     rcases ho with ho | ho<;>simp only[execOp,ho,Sem.run_bind,this,Result.andThen_ok,Sem.run_pure]
   unfold Oper.wp
   rw[hrun,Oper.upon_skip,hd]
   refine hn O1 m _ _ ?_
   rw[happ]
   refine VO hS1 (d:=none) (v:=undef) hq1 h1 h2 h3 (by rw[f3,Array.size_push,List.length_append,<- k4,Array.length_toList];rfl) (fun i0 p0 hp0=> ?_) (fun h=>absurd rfl h)
   have hp0:(QA p.2.kt (p.2.kt.mk i'.cells).2 (p.2.vt.mk pu.2.1).2 p.2.l)[i0]? =some p0:=hp0
   rw[f3]at hp0
   have hsz:es.size=p.2.l.length:=by rw[<- k4,Array.length_toList]
   rcases Nat.lt_or_ge i0 p.2.l.length with hlt | hge
   ·rw[List.getElem?_append_left hlt]at hp0
    have hlt':i0<es.size:=by omega
    have hes:es.toList[i0]? =some es[i0]:=by rw[Array.getElem?_toList,Array.getElem?_eq_getElem hlt']
    refine⟨es[i0],by rw[Array.getElem?_push,if_neg (by omega),Array.getElem?_eq_getElem hlt'],h5 i0 _ p0 hes hp0⟩
   ·rw[List.getElem?_append_right hge]at hp0
    have h0:i0 - p.2.l.length=0:=by
      rcases Nat.eq_zero_or_pos (i0 - p.2.l.length)with h | h
      ·exact h
      ·rw[List.getElem?_eq_none (by show 1<=_;omega)]at hp0;cases hp0
    rw[h0]at hp0
    injection hp0 with hp0
    subst hp0
    exact⟨_,by rw[Array.getElem?_push,if_pos (by omega)],hk',hval⟩
  ·have hstay:=hK.stays (a.eval i) e.key _ hk (by rw[<- f4];exact(k5 j e q f2 f3).1)
   have f2':es[j]? =some e:=by rw[<- Array.getElem?_toList];exact f2
   have hrun:(execOp a.eval o).run P w= .ok .skip {w with heap:=w.heap.setIfInBounds r (.map (es.modify j fun e=> {e with key:=a.eval i,val:=a.eval y}) ck)}:=by
     have:(Instr.mapUpdate t (a.eval x) (a.eval i) (a.eval y)).run P w= .ok () {w with heap:=w.heap.setIfInBounds r (.map (es.modify j fun e=> {e with key:=a.eval i,val:=a.eval y}) ck)}:=by
       rw[hv,h1]
       simp [Instr.mapUpdate,run_underlying hu,I8 h2,hchk,hfind,f1,f2',hstay,P8 _ h2,Result.andThen]
     rcases ho with ho | ho<;>simp only[execOp,ho,Sem.run_bind,this,Result.andThen_ok,Sem.run_pure]
   unfold Oper.wp
   rw[hrun,Oper.upon_skip,hd]
   refine hn O1 m _ _ ?_
   rw[happ]
   refine VO hS1 (d:=none) (v:=undef) hq1 h1 h2 h3 (by rw[f6,Array.size_modify,List.length_set,<- k4,Array.length_toList]) (fun i0 p0 hp0=> ?_) (fun h=>absurd rfl h)
   have hp0:(QA p.2.kt (p.2.kt.mk i'.cells).2 (p.2.vt.mk pu.2.1).2 p.2.l)[i0]? =some p0:=hp0
   rw[f6]at hp0
   rcases AeN hp0 with ⟨q1,q2,_⟩ | ⟨q1,q2⟩
   ·subst q1;subst q2
    refine⟨_,by rw[Array.getElem?_modify,if_pos rfl,f2'];rfl,?_,hval⟩
    dsimp only
    rw[f4];exact hk'
   ·have hlt:i0<es.size:=by
      have:=(List.getElem?_eq_some_iff.1 q2).1
      rw[<- k4,Array.length_toList]at this;exact this
    have hes:es.toList[i0]? =some es[i0]:=by rw[Array.getElem?_toList,Array.getElem?_eq_getElem hlt]
    exact⟨es[i0],by rw[Array.getElem?_modify,if_neg (fun h=>q1 h.symm),Array.getElem?_eq_getElem hlt],h5 i0 _ p0 hes q2⟩
theorem Aaj {t:Nat} {x i:Operand} {c:Call} (hC:TOk P C) (hS:Sim V0 O0 w0 O m st a w) (ho:o.op= .call c) (hcal:c.callee= .builtin .delete) (hargs:c.args= #[x,i]) {ts:List Nat} (hts:c.argTypes.toList=t::ts) {fet:Fet} (hf:DZ st.Aa fet) {x' i':A} (hx:Ar O st.Aa m w (a.eval x) x') (hi:Ar O st.Aa m w (a.eval i) i')
    (hok:Ak (Uf C fet t x' i').ok):Good P V0 O0 w0 (apply st o (Uf C fet t x' i')) o a w:=by
  intro next Q hn
  have hF:FOk O st.Aa m w fet:=fun q x h=>⟨hf q x h,hS.Aa q x (hf q x h)⟩
  unfold Uf at *
  obtain⟨ti,kt,et,ta,tb,ht,hd',hta,htb,he⟩:=V8 hok
  rw[he]at hok hn;clear he
  obtain⟨p,hp,he⟩:=AB hok
  rw[he]at hok hn;clear he
  obtain⟨hq,hv,hM⟩:=vC hF hx hp
  obtain⟨hK,hk,hone,hvt⟩:=xR hC hta hi hok
  obtain⟨r,es,ck,h1,h2,h3,h4,h5⟩:=hM.lists
  have hu:=(hC.is ht).d
  rw[hd']at hu
  have hts0:c.argTypes[0]? =some t:=by rw[<- Array.getElem?_toList,hts];rfl
  have hfind:=hK.find (a.eval i) _ es.toList p.2.l hk h4 (fun i e p he hp=>(h5 i e p he hp).1)
  have hchk:=hK.check es.isEmpty (a.eval i) _ hk
  have happ: ∀ ok l',apply st o {ok:=ok,val:=.tup [],upd:=[(p.1,.mp l')]}= {tmps:=put st.tmps o.dst (.tup []),Aa:=BP st.Aa p.1 (.mp l')}:=by
    intro ok l';rfl
  have hT: ∀(O':Own) (objs':List (Nat×Vm.Obj)) (m':Nat->Value) (w':World),Ar O' objs' m' w' (.tuple #[]) (.tup []):=fun _ _ _ _=>⟨#[],rfl,rfl,fun j hj=>by cases hj⟩
  have main: ∀(es':Array MapEntry),(Builtin.delete_ c.argTypes o.type #[a.eval x,a.eval i]).run P w= .ok (.tuple #[]) {w with heap:=w.heap.setIfInBounds r (.map es' ck)}->es'.size=(Q5 p.2.kt (p.2.kt.mk i'.cells).2 p.2.l).length ->
      (∀(i0:Nat) (p0:p.2.kt.Val×p.2.vt.Val),(Q5 p.2.kt (p.2.kt.mk i'.cells).2 p.2.l)[i0]? =some p0-> ∃ e,es'[i0]? =some e/\Dy O w e.key (Ea (p.2.kt.cells p0.1))/\Dy O w e.val (Ea (p.2.vt.cells p0.2)))->o.wp P a w next Q:=by
    intro es' hr hs he
    have hrun:(execOp a.eval o).run P w= .ok (.value (.tuple #[])) {w with heap:=w.heap.setIfInBounds r (.map es' ck)}:=by
      simp [execOp,ho,resolve,hcal,hargs,invoke,builtin,hr]
    unfold Oper.wp
    rw[hrun,Oper.upon_value]
    refine hn O m _ _ ?_
    rw[happ]
    exact VO (l':=⟨p.2.kt,p.2.vt,Q5 p.2.kt (p.2.kt.mk i'.cells).2 p.2.l⟩) hS hq (by rw[<- h1]) h2 h3 hs he (fun _=>hT)
  have hsz:es.size=p.2.l.length:=by rw[<- h4,Array.length_toList]
  rcases bT (k:=(p.2.kt.mk i'.cells).2) es.toList p.2.l 0 h4 with ⟨f1,_,_,f3⟩ | ⟨j,e,q,f1,f2,f3,f4,_,_,f6⟩
  ·refine main es ?_ (by rw[f3];exact hsz) (fun i0 p0 hp0=> ?_)
   ·rw[hv,h1]
    simp [Builtin.delete_,hts0,run_underlying hu,I8 h2,hchk,hfind,f1,P8 _ h2,Result.andThen]
   ·rw[f3]at hp0
    have hlt:i0<es.size:=by
      have:=(List.getElem?_eq_some_iff.1 hp0).1
      omega
    have hes:es.toList[i0]? =some es[i0]:=by rw[Array.getElem?_toList,Array.getElem?_eq_getElem hlt]
    exact⟨es[i0],Array.getElem?_eq_getElem hlt,h5 i0 _ p0 hes hp0⟩
  ·have hj:j<es.size:=by
     have:=(List.getElem?_eq_some_iff.1 f2).1
     simpa using this
   have hel:(es.eraseIdxIfInBounds j).toList=es.toList.eraseIdx j:=by
     unfold Array.eraseIdxIfInBounds
     rw[dif_pos hj];simp
   refine main (es.eraseIdxIfInBounds j) ?_ ?_ (fun i0 p0 hp0=> ?_)
   ·rw[hv,h1]
    simp [Builtin.delete_,hts0,run_underlying hu,I8 h2,hchk,hfind,f1,P8 _ h2,Result.andThen]
   ·rw[f6,<- Array.length_toList,hel,List.length_eraseIdx,List.length_eraseIdx,h4]
   ·rw[f6]at hp0
    rw[List.getElem?_eraseIdx]at hp0
    have key: ∀ i1:Nat,p.2.l[i1]? =some p0->(es.toList.eraseIdx j)[i0]? =es.toList[i1]? -> ∃ e,(es.eraseIdxIfInBounds j)[i0]? =some e/\Dy O w e.key (Ea (p.2.kt.cells p0.1))/\Dy O w e.val (Ea (p.2.vt.cells p0.2)):=by
      intro i1 hl hh
      have hlt:i1<es.size:=by
        have:=(List.getElem?_eq_some_iff.1 hl).1
        omega
      have hes:es.toList[i1]? =some es[i1]:=by rw[Array.getElem?_toList,Array.getElem?_eq_getElem hlt]
      exact⟨es[i1],by rw[<- Array.getElem?_toList,hel,hh,hes],h5 i1 _ p0 hes hl⟩
    split at hp0
    ·rename_i hlt;exact key i0 hp0 (by rw[List.getElem?_eraseIdx,if_pos hlt])
    ·rename_i hlt;exact key (i0+1) hp0 (by rw[List.getElem?_eraseIdx,if_neg hlt])
end
