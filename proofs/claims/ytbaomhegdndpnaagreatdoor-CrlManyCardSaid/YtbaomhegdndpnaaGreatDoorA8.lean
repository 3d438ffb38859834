import Derived.Test.YtbaomhegdndpnaaGreatDoorA7
import Derived.Lib.ConvBytes
import Derived.MapKept
set_option linter.all false
namespace Go.Proofs.YtbaomhegdndpnaaGreatDoor.Vm
open Classical
open Go.Lib (bytesWorld bytesCells bytesWorld_at_old bytesWorld_at_new bytesWorld_size)
section
variable {P:Program} {C:Ctx} {V0:Nat->Value} {O0 O:Own} {w0 w:World} {m:Nat->Value} {st:St} {a:Act} {o:Oper}
theorem zA (w:World) (e:TypeId) (s:ByteArray):Moves O (fun _=>False) w (bytesWorld w e s):=by
  refine⟨rfl,rfl,rfl,?_,fun b hb=>.inl (bytesWorld_at_old w e s b hb)⟩
  rw[bytesWorld_size];omega
theorem AaP {s t:Nat} {x:Operand} (hC:TOk P C) (hS:Sim V0 O0 w0 O m st a w) {d:Tmp} (hd:o.dst=some d) (ho:o.op= .convert s t x) {l:List UInt8} (hx:Au O st.Aa m w (a.eval x) (.str l))
    (hok:Am (Xk C d s t l).ok) (hfr: ∀ p∈(Xk C d s t l).new,st.fresh p.1=true):Good P V0 O0 w0 (apply st o (Xk C d s t l)) o a w:=by
  intro next Q hn
  unfold Xk at *
  obtain⟨ts,hts,he⟩:=Ba hok
  rw[he]at hok hfr hn;clear he
  obtain⟨ti,e,te,ht,hte,hd',he⟩:=Jy hok
  rw[he]at hok hfr hn;clear he
  obtain⟨h1,h2⟩:=hok.cons
  have h2:=h2.cons.1
  have hlen:l.length<=140737488355328:=by simpa using h2
  have hde:=wP h1
  have hue:=(hC.is hd').d
  rw[hde]at hue
  have hut:=(hC.is ht).d
  rw[hte]at hut
  obtain⟨b,hb,hl⟩:=hx.str
  have hbl:b.size=l.length:=by rw[Gu,hl]
  have hr:(execOp a.eval o).run P w= .ok (.value (.slice (some (at' w.heap.size 0)) b.size (grownCap w b.size 0 e))) (bytesWorld w e b):=by
    have:=Go.Lib.run_convert_string_bytes (P:=P) w s t e b (hC.is hts).d hut hue
    simp only[execOp,ho,hb,Sem.run_bind,this]
    rfl
  unfold Oper.wp
  rw[hr,Oper.upon_value,hd]
  have hge:=grownCap_ge w b.size 0 e
  have hes:(⟨FC,l.map (fun(b:UInt8)=>((b.toNat:Int)))⟩:Sl).es=l.map (fun(x:UInt8)=>[A.int .u8 (x.toNat:Int)]):=by
    show List.map (Ty.int IntKind.u8 Ty.nil).cells (List.map (fun(b:UInt8)=>((b.toNat:Int))) l)=_
    exact List.map_map.trans rfl
  have hesl:(⟨FC,l.map (fun(b:UInt8)=>((b.toNat:Int)))⟩:Sl).es.length=b.size:=by rw[hes,List.length_map,hbl]
  have hcs:(bytesCells w e b).size=grownCap w b.size 0 e:=by
    simp [bytesCells]
    have:b.data.size=b.size:=rfl
    omega
  obtain⟨O',m',h⟩:=ZW hS (zA w e b) (d:=d) (e:=e) (cap:=grownCap w b.size 0 e) (frz:=false) (l:=⟨FC,l.map (fun(b:UInt8)=>((b.toNat:Int)))⟩) (del:=[]) (cur:=bytesCells w e b)
    ⟨_,bytesWorld_at_new w e b,.inr (Nat.le_refl _)⟩ (by rw[hesl];exact hge) (grownCap_le_maxLen w _ _ _ (by unfold maxLen;omega)) (by rw[hcs];show _=_*1;omega) ⟨Sl.es_len _,fun i j hi hj=>by
      have hj0:j=0:=by
        have:j<1:=hj
        omega
      subst hj0
      rw[hesl]at hi
      have hi':i<l.length:=by omega
      have hi2:i<b.data.toList.length:=by rw[hl];exact hi'
      refine⟨.int .u8 (l.getD i 0).toNat,?_,?_⟩
      ·have hlt:i<b.data.size:=hi
       show(bytesCells w e b)[i*1+0]? =_
       rw[Nat.mul_one,Nat.add_zero]
       unfold bytesCells
       rw[Array.getElem?_append_left (by simpa using hlt)]
       rw[Array.getElem?_map]
       have:b.data[i]? =some (l.getD i 0):=by
         rw[<- Array.getElem?_toList,hl,List.getD_eq_getElem?_getD,List.getElem?_eq_getElem hi'];rfl
       rw[this];rfl
      ·rw[hes]
       have:(l.map (fun(x:UInt8)=>[A.int .u8 (x.toNat:Int)])).getD i []=[A.int .u8 ((l.getD i 0).toNat:Int)]:=by
         simp [List.getD_eq_getElem?_getD,hi']
       rw[this]
       exact .int _ _⟩ (CJ (hfr _ List.mem_cons_self))
  rw[hesl]at h
  refine hn O' m' _ _ ?_
  rw[Jc hd]
  exact h
theorem Acy {s t:Nat} {x:Operand} (hC:TOk P C) (hS:Sim V0 O0 w0 O m st a w) (ho:o.op= .convert s t x) {fet:Fet} (hf:DL st.Aa fet) {x':A} (hx:Au O st.Aa m w (a.eval x) x')
    (hok:Am (YS C o fet s t x').ok) (hfr: ∀ p∈(YS C o fet s t x').new,st.fresh p.1=true):Good P V0 O0 w0 (apply st o (YS C o fet s t x')) o a w:=by
  have hF:FOk O st.Aa m w fet:=fun q x h=>⟨hf q x h,hS.Aa q x (hf q x h)⟩
  by_cases hs: ∃ l,x'= .str l
  ·obtain⟨l,rfl⟩:=hs
   unfold YS at *
   dsimp only at hok hfr ⊢
   obtain⟨tt,htt,he⟩:=Ba hok
   rw[he]at hok hfr ⊢;clear he
   cases hb:wO tt.d with
   | true =>
     rw[hb]at hok hfr
     simp only[cond_true]at hok hfr ⊢
     obtain⟨d,hd,he⟩:=AA hok
     rw[he]at hok hfr ⊢;clear he
     exact AaP hC hS hd ho hx hok hfr
   | false =>
     rw[hb]at hok
     simp only[cond_false]at hok ⊢
     exact(Xp hC hF ho hx hok).good hS
  ·have e:YS C o fet s t x'=Ls C fet s t x':=by
     cases x'<;>first | rfl | exact absurd ⟨_,rfl⟩ hs
   rw[e]at hok ⊢
   exact(Xp hC hF ho hx hok).good hS
theorem AeV (n:Nat) (cs:List CK) {i j:Nat} (hi:i<n) (hj:j<cs.length):((List.replicate n cs).flatten).getD (i*cs.length+j) .oth=cs.getD j .oth:=by
  induction n generalizing i with
  | zero=>omega
  | succ n ih =>
    rw[List.replicate_succ,List.flatten_cons,List.getD_eq_getElem?_getD]
    cases i with
    | zero=>rw[List.getElem?_append_left (by omega),Nat.zero_mul,Nat.zero_add,<- List.getD_eq_getElem?_getD]
    | succ i =>
      rw[Nat.add_mul,Nat.one_mul,List.getElem?_append_right (by omega),show i*cs.length+cs.length+j - cs.length=i*cs.length+j from by omega,<- List.getD_eq_getElem?_getD]
      exact ih (by omega)
theorem Yq {t n:Nat} {l:Sl} {cur:Array Value} (hS:Sim V0 O0 w0 O m st a w) {d:Tmp} (hd:o.dst=some d) (hr:(execOp a.eval o).run P w= .ok (.value (.pointer (some (at' w.heap.size 0)))) (w.alloc (.cells cur t)))
    (hn:l.xs.length=n) (hmax:n<=16777216) (hsz:cur.size=n*l.sz) (hheld:Held O w cur l.sz l.es) (hfresh:Ei st (b2 d)) :
    Good P V0 O0 w0 {tmps:=st.tmps.set d (.AV (b2 d) 0 0),Aa:=Ar (AZ st.Aa []) [(b2 d,.arr t false l)]} o a w:=by
  intro next Q hnx
  unfold Oper.wp
  rw[hr,Oper.upon_value,hd]
  obtain⟨O',m',h⟩:=Kt hS (Moves.refl _ _ w) rfl (d:=d) (e:=t) (cap:=n) (frz:=false) (l:=l) (cur:=cur) (del:=[]) (by rw[Sl.Bj,hn];exact Nat.le_refl _) (by unfold maxLen;omega) hsz hheld hfresh
  rw[Sl.Bj,hn]at h
  refine hnx O' m' _ _ ?_
  by_cases hdt:d<st.tmps.length
  ·
   have hslot:=h.tmps d (by simpa using hdt)
   have hself:(a.put (some d) (.slice (some (at' w.heap.size 0)) n n)).tmps.getD d undef= .slice (some (at' w.heap.size 0)) n n:=by
     have hs:d<a.tmps.size:=by rw[hS.size];exact hdt
     simp [Act.put,Array.getD_eq_getD_getElem?,hs]
   have hself2:(st.tmps.set d (.own (b2 d))).getD d .undef= .own (b2 d):=by simp [List.getD_eq_getElem?_getD,hdt]
   rw[hself,hself2]at hslot
   have hc:Aw O' (Ar (AZ st.Aa []) [(b2 d,.arr t false l)]) m' (w.alloc (.cells cur t)) (.slice (some (at' w.heap.size 0)) n n) (.own (b2 d)):=hslot
   have hg:Ai (Ar (AZ st.Aa []) [(b2 d,Obj.arr t false l)]) (b2 d)=some (.arr t false l):=by
     simp only[Ar];rw[Bc,if_pos rfl]
   have hm: .slice (some (at' w.heap.size 0)) n n=m' (b2 d):=by
     have:=hc.2
     rw[hg]at this
     exact this
   have hcr:Aw O' (Ar (AZ st.Aa []) [(b2 d,.arr t false l)]) m' (w.alloc (.cells cur t)) (.pointer (some (at' w.heap.size 0))) (.AV (b2 d) 0 0):=by
     simp only[Aw,hg,Option.map_some,Obj.shp]
     exact⟨rfl,fun _=>⟨w.heap.size,n,n,hm.symm,by simp⟩⟩
   have hnew:=h.put (some d) (x:=.AV (b2 d) 0 0) (v:=.pointer (some (at' w.heap.size 0))) hcr.toT
   have e1:put (st.tmps.set d (.own (b2 d))) (some d) (.AV (b2 d) 0 0)=st.tmps.set d (.AV (b2 d) 0 0):=by simp [put]
   have e2:(a.put (some d) (.slice (some (at' w.heap.size 0)) n n)).put (some d) (.pointer (some (at' w.heap.size 0)))=a.put (some d) (.pointer (some (at' w.heap.size 0))):=by simp [Act.put]
   rw[e2]at hnew
   dsimp only at hnew
   rw[e1]at hnew
   exact hnew
  ·have e1: ∀ x,st.tmps.set d x=st.tmps:=fun x=>List.set_eq_of_length_le (Nat.le_of_not_lt hdt)
   have e2: ∀ v,a.put (some d) v=a:=by
     intro v
     have hs: ¬ d<a.tmps.size:=by rw[hS.size];exact hdt
     have:a.tmps.setIfInBounds d v=a.tmps:=by simp [Array.setIfInBounds,hs]
     simp only[Act.put,this]
   rw[e1,e2]at h
   rw[e1,e2]
   exact h
theorem qH {t n e:Nat} {ti te:TI} (hC:TOk P C) (hS:Sim V0 O0 w0 O m st a w) {d:Tmp} (hd:o.dst=some d) (ho:o.op= .alloc t) (ht:C.T t=some ti)
    (hp:te.cs.all CK.plain=true) (h0:0<te.cs.length) (hn0:0<n) (hn:n<=16777216) (hcs:ti.cs=(List.replicate n te.cs).flatten) (hfresh:Ei st (b2 d)) :
    Good P V0 O0 w0 {tmps:=st.tmps.set d (.AV (b2 d) 0 0),Aa:=Ar (AZ st.Aa []) [(b2 d,.arr t false ⟨tyl te.cs,List.replicate n (tyl te.cs).zero⟩)]} o a w:=by
  have hT:=hC.is ht
  obtain⟨i,z,g1,g2,g3,g4,g5,g6⟩:=hT.i
  have hsz:z.cells.size=ti.cs.length:=by
    rw[<- Array.length_toList];exact(FU (O:=O) (Aa:=[]) (m:=fun _=>undef) (w:=w) _ _ g5).1
  have hlen:ti.cs.length=n*te.cs.length:=by rw[hcs];simp
  have hpl:ti.cs.all CK.plain=true:=by
    rw[hcs,List.all_eq_true]
    intro k hk
    obtain⟨l,hl,hkl⟩:=List.mem_flatten.1 hk
    rw[List.eq_of_mem_replicate hl]at hkl
    exact List.all_eq_true.1 hp k hkl
  have hv:=Og (O:=O) (w:=w) _ _ g5 hpl
  have hr:(execOp a.eval o).run P w= .ok (.value (.pointer (some (at' w.heap.size 0)))) (w.alloc (.cells z.cells t)):=by
    simp only[execOp,ho,Instr.alloc,Sem.run_bind,zeroValue,typeInfo,run_program,Result.andThen_ok,g1,g4,Sem.run_pure,newVar,newRow]
    rfl
  have hel:(⟨tyl te.cs,List.replicate n (tyl te.cs).zero⟩:Sl).es=List.replicate n (te.cs.map CK.D8):=Sl.PZ _ _ hp
  have hsl:(⟨tyl te.cs,List.replicate n (tyl te.cs).zero⟩:Sl).sz=te.cs.length:=Ij _
  exact Yq hS hd hr (by rw[List.length_replicate]) hn (by rw[hsz,hlen,hsl])
    ⟨Sl.es_len _,fun r j hrl hj=>by
      rw[hsl]at hj ⊢
      rw[Sl.Bj,List.length_replicate]at hrl
      have hlt:r*te.cs.length+j<n*te.cs.length:=by
        have:(r+1)*te.cs.length<=n*te.cs.length:=Nat.mul_le_mul_right _ hrl
        rw[Nat.add_mul]at this;omega
      refine⟨z.cells.toList.getD (r*te.cs.length+j) undef,?_,?_⟩
      ·rw[List.getD_eq_getElem?_getD,Array.getElem?_toList]
       rw[Array.getElem?_eq_getElem (by omega)];rfl
      ·have:=hv (r*te.cs.length+j) (by omega)
       have e1:(ti.cs.map CK.D8).getD (r*te.cs.length+j) .undef=(te.cs.map CK.D8).getD j .undef:=by
         have e2:(ti.cs.map CK.D8).getD (r*te.cs.length+j) .undef=(ti.cs.getD (r*te.cs.length+j) .oth).D8:=by
           have:r*te.cs.length+j<ti.cs.length:=by omega
           simp [List.getD_eq_getElem?_getD,this]
         have e3:(te.cs.map CK.D8).getD j .undef=(te.cs.getD j .oth).D8:=by simp [List.getD_eq_getElem?_getD,hj]
         rw[e2,e3,hcs,AeV n te.cs hrl hj]
       rw[e1]at this
       rw[hel]
       have e4:(List.replicate n (te.cs.map CK.D8)).getD r []=te.cs.map CK.D8:=by simp [List.getD_eq_getElem?_getD,hrl]
       rw[e4];exact this⟩ hfresh
theorem Acr {t:Nat} {x:Operand} {y:A} (hC:TOk P C) (hS:Sim V0 O0 w0 O m st a w) {d:Tmp} (hd:o.dst=some d) (ho:o.op= .box t x) (hx:Au O st.Aa m w (a.eval x) y) (hids: ∀ i∈y.ids,i∈st.ids\/(Ai st.Aa i).isSome)
    (hok:Am (Xh C d t y).ok) (hfr: ∀ p∈(Xh C d t y).new,st.fresh p.1=true) (hnd:nodup ((Xh C d t y).new.map (·.1))=true):Good P V0 O0 w0 (apply st o (Xh C d t y)) o a w:=by
  unfold Xh at *
  cases hI:Ae9 C t with
  | none=>rw[hI]at hok hfr hnd;exact AaN hC hS hd ho hx hids hok hfr hnd
  | some q =>
    obtain⟨n,k⟩:=q
    rw[hI]at hok hfr hnd
    dsimp only at hok hfr hnd ⊢
    cases y with
    | agg cs =>
      dsimp only at hok hfr hnd ⊢
      obtain⟨h1,h2⟩:=hok.cons
      obtain⟨h2,h3⟩:=h2.cons
      have h3:=Nat.le_of_ble_eq_true h3.cons.1
      have h2:=Nat.eq_of_beq_eq_true h2
      obtain⟨vs,g1,g2,g3⟩:=hx
      have hr:(execOp a.eval o).run P w= .ok (.value (.pointer (some (at' w.heap.size 0)))) (w.alloc (.cells vs t)):=by
        simp only[execOp,ho,Instr.box,g1,Sem.run_bind,Sem.run_pure,Result.andThen_ok,newVar,newRow]
        rfl
      rw[Jc hd]
      refine Yq (n:=n) hS hd hr (by show(cs.map A.toI).length=n;rw[List.length_map,h2]) h3 (by show vs.size=n*1;rw[g2,h2,Nat.mul_one]) ⟨Sl.es_len _,fun r j hr hj=> ?_⟩ (CJ (hfr _ List.mem_cons_self))
      have hj:j<1:=hj
      have:j=0:=by omega
      subst this
      have hr:r<cs.length:=by
        rw[Sl.Bj]at hr
        have hr:r<(cs.map A.toI).length:=hr
        rwa [List.length_map]at hr
      refine⟨vs.getD r undef,?_,?_⟩
      ·show vs[r*1+0]? =_
       rw[Nat.mul_one,Nat.add_zero,Array.getD_eq_getD_getElem?,Array.getElem?_eq_getElem (by omega)];rfl
      ·have h4:=g3 r hr
       have h5:=List.all_eq_true.1 h1 cs[r] (List.getElem_mem hr)
       have e1:cs.getD r .undef=cs[r]:=by simp [List.getD_eq_getElem?_getD,hr]
       have e2:((⟨.int k .nil,cs.map A.toI⟩:Sl).es.getD r []).getD 0 .undef= .int k cs[r].toI:=by
         have:(⟨.int k .nil,cs.map A.toI⟩:Sl).es=cs.map fun c=>[A.int k c.toI]:=List.map_map (f:=A.toI) (g:=fun x=>[A.int k x]) (l:=cs)
         rw[this];simp [List.getD_eq_getElem?_getD,hr]
       rw[e2]
       rw[e1]at h4
       generalize cs[r]=c at h4 h5
       cases c<;>first
         | (rename_i k' x;have:=ES (show A.kEq k k'=true from h5);subst this;exact h4)
         | cases h5
    | _=>exact(Az hok).elim
theorem yV {t:Nat} (hC:TOk P C) (hS:Sim V0 O0 w0 O m st a w) {d:Tmp} (hd:o.dst=some d) (ho:o.op= .alloc t)
    (hok:Am (MG C d t).ok) (hfr: ∀ p∈(MG C d t).new,st.fresh p.1=true) (hnd:nodup ((MG C d t).new.map (·.1))=true):Good P V0 O0 w0 (apply st o (MG C d t)) o a w:=by
  unfold MG at *
  obtain⟨ti,ht,he⟩:=Ba hok
  rw[he]at hok hfr hnd ⊢;clear he
  cases ha:UC ti.d with
  | some p =>
    obtain⟨n,e⟩:=p
    rw[ha]at hok hfr
    dsimp only at hok hfr ⊢
    obtain⟨te,hte,he⟩:=Ba hok
    rw[he]at hok hfr ⊢;clear he
    obtain⟨h1,h2⟩:=hok.cons
    obtain⟨h2,h3⟩:=h2.cons
    obtain⟨h3,h4⟩:=h3.cons
    obtain⟨h4,h5⟩:=h4.cons
    have h5:=h5.cons.1
    rw[Jc hd]
    exact qH (n:=n) (e:=e) hC hS hd ho ht h1 (by simpa [Nat.blt_eq]using h2) (by simpa [Nat.blt_eq]using h3) (Nat.le_of_ble_eq_true h4) (by simpa using h5) (CJ (hfr _ List.mem_cons_self))
  | none =>
    rw[ha]at hok hfr hnd
    exact uU hC hS hd ho ht hok hfr hnd
end
end Go.Proofs.YtbaomhegdndpnaaGreatDoor.Vm
namespace Go.Proofs.YtbaomhegdndpnaaGreatDoor.Vm
open Classical MapKept
theorem Ty.Px {α :Type} (r:Ty) (p:Ty.pr α r.Val r) (hu:r= .nil->True):r.mk2 (r.hd p) (r.tl p)=p:=by cases r<;>rfl
theorem Ty.same_eq: ∀(t:Ty) (a b:t.Val),t.same a b=true->a=b
  | .nil,_,_,_=>rfl
  | .bool r,a,b,h=>by
    simp only[Ty.same,Bool.and_eq_true]at h
    rw[<- Ty.Px r a (fun _=>trivial),<- Ty.Px r b (fun _=>trivial),eq_of_beq h.1,Ty.same_eq r _ _ h.2]
  | .int _ r,a,b,h=>by
    simp only[Ty.same,Bool.and_eq_true]at h
    rw[<- Ty.Px r a (fun _=>trivial),<- Ty.Px r b (fun _=>trivial),eq_of_beq h.1,Ty.same_eq r _ _ h.2]
  | .str r,a,b,h=>by
    simp only[Ty.same,Bool.and_eq_true]at h
    rw[<- Ty.Px r a (fun _=>trivial),<- Ty.Px r b (fun _=>trivial),eq_of_beq h.1,Ty.same_eq r _ _ h.2]
  | .sl _ _ _,_,_,h=>by cases h
  | .ptr _,_,_,h=>by cases h
  | .fn _,_,_,h=>by cases h
  | .mp _ _ _,_,_,h=>by cases h
def kD:List A->List A->Bool
  | .str x::xs,.str y::ys=>(x==y)&&kD xs ys
  | _,_=>true
def Fa:Nat->Ty
  | 0=>.nil
  | n+1=>.str (Fa n)
theorem Ado: ∀(n:Nat) (a b:(Fa n).Val),(Fa n).same a b=kD ((Fa n).cells a) ((Fa n).cells b):=by
  intro n
  induction n with
  | zero=>intro a b;rfl
  | succ n ih=>intro a b;show((_==_)&&_)=((_==_)&&_);rw[ih]
theorem Ae2 (n:Nat):tyl (List.replicate n [CK.str]).flatten=Fa n:=by
  induction n with
  | zero=>rfl
  | succ n ih=>simp only[List.replicate_succ,List.flatten_cons,List.singleton_append,tyl,Fa,ih]
theorem Pm: ∀(n:Nat) (a:(Fa n).Val) (j:Nat),j<n-> ∃ s,((Fa n).cells a).getD j .undef= .str s:=by
  intro n
  induction n with
  | zero=>intro a j h;omega
  | succ n ih =>
    intro a j h
    cases j with
    | zero=>exact⟨_,rfl⟩
    | succ j=>exact ih _ j (by omega)
def fnd {β :Type} (t:Ty) (k:t.Val):List MapEntry->List (t.Val× β)->Nat->Option (Nat×Value)
  | e::es,p::l,i=>bif t.same k p.1 then some (i,e.val)else fnd t k es l (i+1)
  | _,_,_=>none
theorem bH {β :Type} {t:Ty} {k:t.Val}: ∀(es:List MapEntry) (l:List (t.Val× β)) (i:Nat),es.length=l.length ->
    (fnd t k es l i=none/\Kq t k l=none/\(∀ x,Qo t k x l=l++[(k,x)])/\Qk t k l=l) \/
    ∃ j e p,fnd t k es l i=some (i+j,e.val)/\es[j]? =some e/\l[j]? =some p/\p.1=k/\Kq t k l=some p.2/\(∀ x,Qo t k x l=l.set j (p.1,x))/\Qk t k l=l.eraseIdx j:=by
  intro es
  induction es with
  | nil =>
    intro l i h
    cases l with
    | nil=>exact .inl ⟨rfl,rfl,fun _=>rfl,rfl⟩
    | cons _ _=>cases h
  | cons e es ih =>
    intro l i h
    cases l with
    | nil=>cases h
    | cons p l =>
      cases hs:t.same k p.1 with
      | true =>
        refine .inr ⟨0,e,p,by simp [fnd,hs],rfl,rfl,(Ty.same_eq _ _ _ hs).symm,by simp [Kq,hs],fun x=>by simp [Qo,hs],by simp [Qk,hs]⟩
      | false =>
        rcases ih l (i+1) (by simpa using h)with ⟨h1,h2,h3,h4⟩ | ⟨j,e',p',h1,h2,h3,h4,h5,h6,h7⟩
        ·exact .inl ⟨by simp [fnd,hs,h1],by simp [Kq,hs,h2],fun x=>by simp [Qo,hs,h3],by simp [Qk,hs,h4]⟩
        ·exact .inr ⟨j+1,e',p',by simp only[fnd,hs,cond_false,h1];congr 2;omega,by simpa using h2,by simpa using h3,h4,by simp [Kq,hs,h5],fun x=>by simp [Qo,hs,h6],by simp [Qk,hs,h7]⟩
section
variable {P:Program} {C:Ctx} {V0:Nat->Value} {O0 O:Own} {w0 w:World} {m:Nat->Value} {st:St} {a:Act} {o:Oper}
structure dQ (P:Program) (O:Own) (w:World) (kt:TypeId) (t:Ty):Prop where
  check: ∀(e:Bool) (v:Value) (k:t.Val),Di O w v (DN (t.cells k))->(Instr.checkKey e 10000 kt v).run P w= .ok () w
  find: ∀ {β :Type} (v:Value) (k:t.Val) (es:List MapEntry) (l:List (t.Val× β)),Di O w v (DN (t.cells k))->es.length=l.length->(∀(i:Nat) e p,es[i]? =some e->l[i]? =some p->Di O w e.key (DN (t.cells p.1))) ->
    (Instr.findKey kt v es).run P w= .ok (fnd t k es l 0) w
  stays: ∀(v u:Value) (k:t.Val),Di O w v (DN (t.cells k))->Di O w u (DN (t.cells k))->(Instr.keyThatStays u v).run P w= .ok v w
theorem ZL {β :Type} {t:Ty} {k:t.Val} {d:TypeDesc} {v:Value}: ∀(es:List MapEntry) (l:List (t.Val× β)) (i:Nat),es.length=l.length->(∀(i:Nat) (e:MapEntry) (p:t.Val× β),es[i]? =some e->l[i]? =some p->Instr.sameNow d v e.key=some (t.same k p.1)) ->
    Instr.findNow d v es i=some (fnd t k es l i):=by
  intro es
  induction es with
  | nil=>intro l i h _;cases l<;>rfl
  | cons e es ih =>
    intro l i h hs
    cases l with
    | nil=>cases h
    | cons p l =>
      have h0:=hs 0 e p rfl rfl
      have h1:=ih l (i+1) (by simpa using h) (fun i e p he hp=>hs (i+1) e p (by simpa using he) (by simpa using hp))
      cases hb:t.same k p.1 with
      | true=>rw[hb]at h0;simp [Instr.findNow,h0,fnd,hb]
      | false=>rw[hb]at h0;simp [Instr.findNow,h0,fnd,hb,h1]
theorem AaE {β :Type} {t:Ty} {k:t.Val} {kt:TypeId} {v:Value}: ∀(es:List MapEntry) (l:List (t.Val× β)) (i:Nat),es.length=l.length->(∀(i:Nat) (e:MapEntry) (p:t.Val× β),es[i]? =some e->l[i]? =some p->(Op.equal kt v e.key).run P w= .ok (t.same k p.1) w) ->
    (Instr.findAsking kt v es i).run P w= .ok (fnd t k es l i) w:=by
  intro es
  induction es with
  | nil=>intro l i h _;cases l<;>first | rfl | cases h
  | cons e es ih =>
    intro l i h hs
    cases l with
    | nil=>cases h
    | cons p l =>
      have h0:=hs 0 e p rfl rfl
      have h1:=ih l (i+1) (by simpa using h) (fun i e p he hp=>hs (i+1) e p (by simpa using he) (by simpa using hp))
      cases hb:t.same k p.1 with
      | true=>rw[hb]at h0;simp [Instr.findAsking,h0,fnd,hb]
      | false=>rw[hb]at h0;simp [Instr.findAsking,h0,fnd,hb,h1]
theorem Ny {a b:ByteArray} (h:a.data.toList=b.data.toList):a=b:=by
  obtain⟨⟨x⟩⟩:=a
  obtain⟨⟨y⟩⟩:=b
  have:x=y:=h
  rw[this]
theorem Xe (a b:ByteArray):(a==b)=(a.data.toList==b.data.toList):=by
  rw[Bool.eq_iff_iff,bytes_beq,beq_iff_eq]
  exact⟨fun h=>by rw[h],Ny⟩
theorem Ak.str' {v:Value} {s:List UInt8} (h:Ak O w v (.str s)): ∃ b:ByteArray,v= .string b/\b.data.toList=s:=by cases h;exact⟨_,rfl,rfl⟩
theorem Ak.int' {v:Value} {k:IntKind} {n:Int} (h:Ak O w v (.int k n)):v= .int k n:=by cases h;rfl
theorem Aet (k k':List UInt8):(Ty.str .nil).same k k'=(k==k'):=Bool.and_true _
theorem Aes (q:IntKind) (k k':Int):(Ty.int q .nil).same k k'=(k==k'):=Bool.and_true _
theorem Aah (q:IntKind) (a b:Int):Instr.sameNow (.int q) (.int q a) (.int q b)=some (a==b):=by simp [Instr.sameNow]
theorem AcQ {kt:TypeId} (hu:P.underlying kt=some .string):dQ P O w kt (.str .nil) where
  check e v k h:=by
    obtain⟨b,rfl,_⟩:=Ak.str' (show Ak O w v (.str k)from h)
    exact run_checkKey hu (show IsKey .string (.string b)from trivial) e 9999
  find v k es l h hl hes:=by
    obtain⟨b,rfl,hb⟩:=Ak.str' (show Ak O w v (.str k)from h)
    have hn:Instr.findNow .string (.string b) es 0=some (fnd (.str .nil) k es l 0):=ZL es l 0 hl fun i e p he hp=>by
      obtain⟨b',h1,h2⟩:=Ak.str' (show Ak O w e.key (.str p.1)from hes i e p he hp)
      rw[h1]
      have e1:Instr.sameNow .string (.string b) (.string b')=some (b==b'):=by simp [Instr.sameNow]
      refine e1.trans (congrArg some (Eq.trans ?_ (Aet k p.1).symm))
      rw[Xe,hb,h2]
    simp [Instr.findKey,run_underlying hu,hn]
  stays v u k h h':=by
    obtain⟨b,rfl,hb⟩:=Ak.str' (show Ak O w v (.str k)from h)
    obtain⟨b',rfl,hb'⟩:=Ak.str' (show Ak O w u (.str k)from h')
    obtain rfl:b'=b:=Ny (by rw[hb,hb'])
    have:(b'==b')=true:=by rw[Xe];simp
    simp [Instr.keyThatStays,Instr.sameBits,this]
theorem AcP {kt:TypeId} {q:IntKind} (hu:P.underlying kt=some (.int q)):dQ P O w kt (.int q .nil) where
  check e v k h:=by
    obtain rfl:=Ak.int' (show Ak O w v (.int q k)from h)
    exact run_checkKey hu (show IsKey (.int q) (.int q k)from rfl) e 9999
  find v k es l h hl hes:=by
    obtain rfl:=Ak.int' (show Ak O w v (.int q k)from h)
    have hn:Instr.findNow (.int q) (.int q k) es 0=some (fnd (.int q .nil) k es l 0):=ZL es l 0 hl fun i e p he hp=>by
      rw[Ak.int' (show Ak O w e.key (.int q p.1)from hes i e p he hp)]
      exact(Aah q k p.1).trans (congrArg some (Aes q k p.1).symm)
    simp [Instr.findKey,run_underlying hu,hn]
  stays v u k h h':=by
    obtain rfl:=Ak.int' (show Ak O w v (.int q k)from h)
    obtain rfl:=Ak.int' (show Ak O w u (.int q k)from h')
    have:((k:Int)==(k:Int))=true:=by simp
    have:Instr.sameBits 10000 (.int q k) (.int q k)=true:=by
      have: ∀ n:Int,Instr.sameBits 10000 (.int q n) (.int q n)=true:=fun n=>by simp [Instr.sameBits]
      exact this k
    simp [Instr.keyThatStays,this]
theorem bY {cs:List A} (h:cs.length≠1):DN cs= .agg cs:=by
  unfold DN
  split
  ·simp at h
  ·rfl
theorem AcO {e:TypeId} {d:Nat} (hue:P.underlying e=some .string) {xs ys:Array Value} {cs ds:List A} (hx: ∀ j,j<cs.length->Ak O w (xs.getD j undef) (cs.getD j .undef)) (hxs:xs.size=cs.length)
    (hy: ∀ j,j<ds.length->Ak O w (ys.getD j undef) (ds.getD j .undef)) (hys:ys.size=ds.length) (hl:cs.length=ds.length) (hc: ∀ j,j<cs.length-> ∃ s,cs.getD j .undef= .str s) (hd: ∀ j,j<ds.length-> ∃ s,ds.getD j .undef= .str s) :
    ∀(n i:Nat),i+n=cs.length->(Op.eqItems (d+1) e 1 xs ys (List.range' i n)).run P w= .ok (kD (cs.drop i) (ds.drop i)) w:=by
  intro n
  induction n with
  | zero =>
    intro i hi
    have:cs.drop i=[]:=List.drop_eq_nil_of_le (by omega)
    rw[this];rfl
  | succ n ih =>
    intro i hi
    have hi':i<cs.length:=by omega
    obtain⟨s,hs⟩:=hc i hi'
    obtain⟨s',hs'⟩:=hd i (by omega)
    have hx1:=hx i hi'
    have hy1:=hy i (by omega)
    rw[hs]at hx1
    rw[hs']at hy1
    obtain⟨b,hb1,hb2⟩:=hx1.str'
    obtain⟨b',hb1',hb2'⟩:=hy1.str'
    have ex:xs[i]? =some (.string b):=by
      have:i<xs.size:=by omega
      rw[Array.getElem?_eq_getElem this,<- hb1,Array.getD_eq_getD_getElem?,Array.getElem?_eq_getElem this];rfl
    have ey:ys[i]? =some (.string b'):=by
      have:i<ys.size:=by omega
      rw[Array.getElem?_eq_getElem this,<- hb1',Array.getD_eq_getD_getElem?,Array.getElem?_eq_getElem this];rfl
    have hpk:P.plainKey e=true:=by simp [Program.plainKey,hue]
    have p1:=run_part_plain w hpk (off:=i*1) (by rw[Nat.mul_one];exact ex)
    have p2:=run_part_plain w hpk (off:=i*1) (by rw[Nat.mul_one];exact ey)
    have p3:=run_equalIn_string (P:=P) w d e b b' hue
    have ec:cs.drop i= .str s::cs.drop (i+1):=by
      rw[List.drop_eq_getElem_cons hi',<- hs,List.getD_eq_getElem?_getD,List.getElem?_eq_getElem hi'];rfl
    have ed:ds.drop i= .str s'::ds.drop (i+1):=by
      rw[List.drop_eq_getElem_cons (by omega),<- hs',List.getD_eq_getElem?_getD,List.getElem?_eq_getElem (by omega)];rfl
    rw[List.range'_succ,ec,ed]
    have ih':=ih (i+1) (by omega)
    simp only[Op.eqItems,Sem.run_bind,p1,p2,p3,Result.andThen_ok]
    rw[RU,RU,hb2,hb2']
    cases hbb:(s==s')with
    | false=>simp [kD,hbb]
    | true=>simp [kD,hbb,ih']
theorem kY {e:TypeId} {em:Bool} {d:Nat} (hue:P.underlying e=some .string) (hsz:(sizeOf e).run P w= .ok 1 w) {xs:Array Value} {n:Nat} (hx: ∀ j,j<n-> ∃ b,xs[j]? =some (.string b)) :
    ∀(is:List Nat),(∀ i∈is,i<n)->(forIn is PUnit.unit fun i _=>do Instr.checkKey em (d+1) e (<- part e xs (i*(<- sizeOf e)));pure (ForInStep.yield PUnit.unit)).run P w= .ok PUnit.unit w:=by
  intro is
  induction is with
  | nil=>intro _;simp
  | cons j is ih =>
    intro h
    obtain⟨b,hb⟩:=hx j (h j (by simp))
    have hpk:P.plainKey e=true:=by simp [Program.plainKey,hue]
    have p1:=run_part_plain w hpk (off:=j*1) (by rw[Nat.mul_one];exact hb)
    have p2:=run_checkKey (P:=P) (w:=w) hue (k:=.string b) trivial em d
    simp only[List.forIn_cons,Sem.run_bind,hsz,Result.andThen_ok,p1,p2,Sem.run_pure]
    exact ih (fun i hi=>h i (by simp [hi]))
theorem Di.agg' {v:Value} {cs:List A} (h:Di O w v (.agg cs)): ∃ vs:Array Value,v= .agg vs/\vs.size=cs.length/\ ∀ j,j<cs.length->Ak O w (vs.getD j undef) (cs.getD j .undef):=h
theorem Aby {kt e:TypeId} {n:Nat} {ie:TypeInfo} (hu:P.underlying kt=some (.array n e)) (hue:P.underlying e=some .string) (hie:P.info? e=some ie) (his:ie.size=1) (hn:1<n):dQ P O w kt (Fa n):=by
  have hlen: ∀ k:(Fa n).Val,((Fa n).cells k).length=n:=fun k=>by
    rw[Ty.Dk]
    have: ∀ n,(Fa n).len=n:=by intro n;induction n with | zero=>rfl | succ n ih=>simp [Fa,Ty.len,ih]
    exact this n
  have hag: ∀ k:(Fa n).Val,DN ((Fa n).cells k)= .agg ((Fa n).cells k):=fun k=>bY (by rw[hlen];omega)
  have hce:P.cellsOf e=1:=by simp [Program.cellsOf,hie,his]
  have hsz:(sizeOf e).run P w= .ok 1 w:=by simp [sizeOf,typeInfo,hie,his]
  have hstr: ∀ {vs:Array Value} {k:(Fa n).Val},vs.size=n->(∀ j,j<n->Ak O w (vs.getD j undef) (((Fa n).cells k).getD j .undef))-> ∀ j,j<n-> ∃ b,vs[j]? =some (.string b):=by
    intro vs k hs h j hj
    obtain⟨s,hs'⟩:=Pm n k j hj
    have h1:=h j hj
    rw[hs']at h1
    obtain⟨b,hb,_⟩:=h1.str'
    have hj':j<vs.size:=by omega
    exact⟨b,by rw[Array.getElem?_eq_getElem hj',<- hb,Array.getD_eq_getD_getElem?,Array.getElem?_eq_getElem hj'];rfl⟩
  refine⟨fun em v k h=> ?_,fun v k es l h hl hes=> ?_,fun v u k h h'=> ?_⟩
  ·rw[hag]at h
   obtain⟨vs,rfl,h1,h2⟩:=h.agg'
   rw[hlen]at h1 h2
   rw[show(10000:Nat)=9998+1+1 from rfl,Instr.checkKey]
   simp only[Sem.run_bind,run_underlying hu,Result.andThen_ok]
   simp only[Std.Legacy.Range.forIn_eq_forIn_range',Std.Legacy.Range.size,Nat.sub_zero,Nat.add_one_sub_one,Nat.div_one]
   rw[kY (em:=em) (d:=9998) hue hsz (hstr h1 h2) (List.range' 0 n) (fun i hi=>by simpa using hi)]
   rfl
  ·rw[hag]at h
   obtain⟨vs,rfl,h1,h2⟩:=h.agg'
   rw[hlen]at h1 h2
   have eqs: ∀(i:Nat) (e':MapEntry) p,es[i]? =some e'->l[i]? =some p->(Op.equal kt (.agg vs) e'.key).run P w= .ok ((Fa n).same k p.1) w:=by
     intro i e' p he hp
     have h3:=hes i e' p he hp
     rw[hag]at h3
     obtain⟨us,h4,h5,h6⟩:=h3.agg'
     rw[hlen]at h5 h6
     rw[h4]
     show(Op.equalIn 10000 kt _ _).run P w=_
     rw[show(10000:Nat)=9999+1 from rfl,run_equalIn_array w 9999 vs us hu hie,hce,List.range_eq_range',Ado]
     have:=AcO (P:=P) (O:=O) (w:=w) (d:=9998) hue (xs:=vs) (ys:=us) (cs:=(Fa n).cells k) (ds:=(Fa n).cells p.1) (by rw[hlen];exact h2) (by rw[hlen];exact h1) (by rw[hlen];exact h6) (by rw[hlen];exact h5) (by rw[hlen,hlen]) (by rw[hlen];exact Pm n k) (by rw[hlen];exact Pm n p.1) n 0 (by rw[hlen];omega)
     simpa using this
   have hnow: ∀(es:List MapEntry) (i:Nat),Instr.findNow (.array n e) (.agg vs) es i=if es=[]then some none else none:=by
     intro es i
     cases es with
     | nil=>rfl
     | cons e' es=>simp [Instr.findNow,Instr.sameNow]
   simp only[Instr.findKey,Sem.run_bind,run_underlying hu,Result.andThen_ok,hnow]
   cases es with
   | nil=>cases l<;>first | simp [fnd] | cases hl
   | cons e' es =>
     rw[if_neg (by simp)]
     exact AaE _ l 0 hl eqs
  ·rw[hag]at h h'
   obtain⟨vs,rfl,h1,h2⟩:=h.agg'
   obtain⟨us,rfl,h3,h4⟩:=h'.agg'
   have e:us=vs:=by
     rw[hlen]at h1 h2 h3 h4
     apply Array.ext (by omega)
     intro j hj1 hj2
     obtain⟨s,hs⟩:=Pm n k j (by omega)
     have a1:=h2 j (by omega)
     have a2:=h4 j (by omega)
     rw[hs]at a1 a2
     obtain⟨b1,e1,f1⟩:=a1.str'
     obtain⟨b2,e2,f2⟩:=a2.str'
     rw[Array.getD_eq_getD_getElem?,Array.getElem?_eq_getElem hj2]at e1
     rw[Array.getD_eq_getD_getElem?,Array.getElem?_eq_getElem hj1]at e2
     have e1:vs[j]=_:=e1
     have e2:us[j]=_:=e2
     rw[e1,e2,Ny (f1.trans f2.symm)]
   subst e
   have hsb:Instr.sameBits 10000 (.agg us) (.agg us)=true:=by
     show((us.size==us.size)&&(us.toList.zip us.toList).all _)=true
     rw[Bool.and_eq_true]
     refine⟨by simp,List.all_eq_true.2 fun p hp=> ?_⟩
     obtain⟨i,hi⟩:=List.mem_iff_getElem?.1 hp
     rw[List.getElem?_zip_eq_some]at hi
     rw[hlen]at h1 h2
     have hi1:i<us.size:=by
       have:=(List.getElem?_eq_some_iff.1 hi.1).1
       simpa using this
     obtain⟨b,hb⟩:=hstr h1 h2 i (by omega)
     have q1:p.1= .string b:=by
       have:=hi.1
       rw[Array.getElem?_toList,hb]at this
       injection this with this;exact this.symm
     have q2:p.2= .string b:=by
       have:=hi.2
       rw[Array.getElem?_toList,hb]at this
       injection this with this;exact this.symm
     obtain⟨p1,p2⟩:=p
     dsimp only at q1 q2
     subst q1;subst q2
     show(b==b)=true
     rw[Xe];simp
   simp [Instr.keyThatStays,hsb]
theorem AdZ (hC:TOk P C) {t:Nat} {ta:TI} (ht:C.T t=some ta) (h:Abz C ta=true):dQ P O w t (tyl ta.cs):=by
  have hT:=hC.is ht
  have hu:=hT.d
  have hck:=hT.ck
  unfold Abz at h
  split at h
  ·rename_i hd
   rw[hd]at hu
   have:ta.cs=[.str]:=by simp [Dy,hu]at hck;exact hck.symm
   rw[this];exact AcQ hu
  ·rename_i q hd
   rw[hd]at hu
   have:ta.cs=[.int q]:=by simp [Dy,hu]at hck;exact hck.symm
   rw[this];exact AcP hu
  ·rename_i n e hd
   rw[hd]at hu
   split at h
   ·rename_i te hte
    simp only[Bool.and_eq_true,Nat.blt_eq]at h
    have hTe:=hC.is hte
    have hde:=Yg h.1
    have hue:=hTe.d
    rw[hde]at hue
    have hcse:te.cs=[.str]:=by have:=hTe.ck;simp [Dy,hue]at this;exact this.symm
    have hcs:ta.cs=(List.replicate n [CK.str]).flatten:=by
      rw[show(20:Nat)=18+1+1 from rfl]at hck
      unfold Dy at hck
      simp only[hu]at hck
      have he:Dy P (18+1) e=some [.str]:=by simp [Dy,hue]
      rw[he]at hck
      dsimp only at hck
      cases hb:Nat.ble (n* [CK.str].length) 4096 with
      | false=>rw[hb]at hck;cases hck
      | true=>rw[hb]at hck;injection hck with hck;exact hck.symm
    rw[hcs,Ae2]
    obtain⟨i,z,h1,h2,_⟩:=hTe.i
    exact Aby hu hue h1 (by rw[h2,hcse];rfl) h.2
   ·cases h
  ·cases h
end
