import Derived.Test.YtfgdgdnlglejbaaGreatDoorA4
import Derived.Lib.ConvBytes
import Derived.MapKept
import Derived.Carry
set_option linter.all false
namespace Go.Proofs.YtfgdgdnlglejbaaGreatDoor.Vm
open Classical
open Go.Lib (bytesWorld bytesCells bytesWorld_at_old bytesWorld_at_new bytesWorld_size)
section
variable {P:Program} {C:Ctx} {V0:Nat->Value} {O0 O:Own} {w0 w:World} {m:Nat->Value} {st:St} {a:Act} {o:Oper}
theorem AjF (w:World) (e:TypeId) (s:ByteArray):Moves O (fun _=>False) w (bytesWorld w e s):=by refine⟨rfl,rfl,rfl,?_,fun b hb=>.inl (bytesWorld_at_old w e s b hb)⟩;rw[bytesWorld_size];omega
theorem AlE {s t:Nat} {x:Operand} (hC:TOk P C) (hS:Sim V0 O0 w0 O m st a w) {d:Tmp} (hd:o.dst=some d) (ho:o.op= .convert s t x) {l:List UInt8} (hx:DI O st.Dk m w (a.eval x) (.str l))
 (hok:D8 (uN C d s t l).ok) (hfr: ∀ p∈(uN C d s t l).new,st.fresh p.1=true):Good P V0 O0 w0 (apply st o (uN C d s t l)) o a w:=by
 intro next Q hn
 unfold uN at *
 obtain⟨ts,hts,he⟩:=Eu hok;rw[he]at hok hfr hn;clear he;obtain⟨ti,e,te,ht,hte,hd',he⟩:=Ti hok;rw[he]at hok hfr hn;clear he;obtain⟨h1,h2⟩:=hok.cons;have h2:=h2.cons.1;have hlen:l.length<=140737488355328:=by simpa using h2
 have hde:=Ai5 h1;have hue:=(hC.is hd').d;rw[hde]at hue;have hut:=(hC.is ht).d;rw[hte]at hut;obtain⟨b,hb,hl⟩:=hx.str;have hbl:b.size=l.length:=by rw[OT,hl]
 have hr:(execOp a.eval o).run P w= .ok (.value (.slice (some (at' w.heap.size 0)) b.size (grownCap w b.size 0 e))) (bytesWorld w e b):=by have:=Go.Lib.run_convert_string_bytes (P:=P) w s t e b (hC.is hts).d hut hue;simp only[execOp,ho,hb,Sem.run_bind,this];rfl
 unfold Oper.wp;rw[hr,Oper.upon_value,hd];have hge:=grownCap_ge w b.size 0 e;have hes:(⟨Nv,l.map (fun(b:UInt8)=>((b.toNat:Int)))⟩:Sl).es=l.map (fun(x:UInt8)=>[A.int .u8 (x.toNat:Int)]):=by show List.map (Ty.int IntKind.u8 Ty.nil).cells (List.map (fun(b:UInt8)=>((b.toNat:Int))) l)=_;exact List.map_map.trans rfl
 have hesl:(⟨Nv,l.map (fun(b:UInt8)=>((b.toNat:Int)))⟩:Sl).es.length=b.size:=by rw[hes,List.length_map,hbl]
 have hcs:(bytesCells w e b).size=grownCap w b.size 0 e:=by simp [bytesCells];have:b.data.size=b.size:=rfl;omega
 obtain⟨O',m',h⟩:=Aba hS (AjF w e b) (d:=d) (e:=e) (cap:=grownCap w b.size 0 e) (frz:=false) (l:=⟨Nv,l.map (fun(b:UInt8)=>((b.toNat:Int)))⟩) (del:=[]) (cur:=bytesCells w e b)
  ⟨_,bytesWorld_at_new w e b,.inr (Nat.le_refl _)⟩ (by rw[hesl];exact hge) (grownCap_le_maxLen w _ _ _ (by unfold maxLen;omega)) (by rw[hcs];show _=_*1;omega) ⟨Sl.es_len _,fun i j hi hj=>by
    have hj0:j=0:=by have:j<1:=hj;omega
    subst hj0;rw[hesl]at hi;have hi':i<l.length:=by omega
    have hi2:i<b.data.toList.length:=by rw[hl];exact hi'
    refine⟨.int .u8 (l.getD i 0).toNat,?_,?_⟩
    ·have hlt:i<b.data.size:=hi;show(bytesCells w e b)[i*1+0]? =_;rw[Nat.mul_one,Nat.add_zero];unfold bytesCells;rw[Array.getElem?_append_left (by simpa using hlt)];rw[Array.getElem?_map];have:b.data[i]? =some (l.getD i 0):=by rw[<- Array.getElem?_toList,hl,List.getD_eq_getElem?_getD,List.getElem?_eq_getElem hi'];rfl
     rw[this];rfl
    ·rw[hes];have:(l.map (fun(x:UInt8)=>[A.int .u8 (x.toNat:Int)])).getD i []=[A.int .u8 ((l.getD i 0).toNat:Int)]:=by simp [List.getD_eq_getElem?_getD,hi']
     rw[this];exact .int _ _⟩ (GU (hfr _ List.mem_cons_self))
 rw[hesl]at h;refine hn O' m' _ _ ?_;rw[RX hd];exact h
theorem AnX {s t:Nat} {x:Operand} (hC:TOk P C) (hS:Sim V0 O0 w0 O m st a w) (ho:o.op= .convert s t x) {fet:Fet} (hf:Jm st.Dk fet) {x':A} (hx:DI O st.Dk m w (a.eval x) x')
 (hok:D8 (zI C o fet s t x').ok) (hfr: ∀ p∈(zI C o fet s t x').new,st.fresh p.1=true):Good P V0 O0 w0 (apply st o (zI C o fet s t x')) o a w:=by
 have hF:FOk O st.Dk m w fet:=fun q x h=>⟨hf q x h,hS.Dk q x (hf q x h)⟩
 by_cases hs: ∃ l,x'= .str l
 ·obtain⟨l,rfl⟩:=hs;unfold zI at *
  dsimp only at hok hfr ⊢;obtain⟨tt,htt,he⟩:=Eu hok;rw[he]at hok hfr ⊢;clear he;cases hb:Ai4 tt.d with
  | true =>rw[hb]at hok hfr;simp only[cond_true]at hok hfr ⊢;obtain⟨d,hd,he⟩:=DY hok;rw[he]at hok hfr ⊢;clear he;exact AlE hC hS hd ho hx hok hfr
  | false =>rw[hb]at hok;simp only[cond_false]at hok ⊢;exact(vK hC hF ho hx hok).good hS
 ·have e:zI C o fet s t x'=Vs C fet s t x':=by
   cases x'<;>first | rfl | exact absurd ⟨_,rfl⟩ hs
  rw[e]at hok ⊢;exact(vK hC hF ho hx hok).good hS
theorem Asi (n:Nat) (cs:List CK) {i j:Nat} (hi:i<n) (hj:j<cs.length):((List.replicate n cs).flatten).getD (i*cs.length+j) .oth=cs.getD j .oth:=by
 induction n generalizing i with
 | zero=>omega
 | succ n ih =>
  rw[List.replicate_succ,List.flatten_cons,List.getD_eq_getElem?_getD];cases i with
  | zero=>rw[List.getElem?_append_left (by omega),Nat.zero_mul,Nat.zero_add,<- List.getD_eq_getElem?_getD]
  | succ i =>rw[Nat.add_mul,Nat.one_mul,List.getElem?_append_right (by omega),show i*cs.length+cs.length+j - cs.length=i*cs.length+j from by omega,<- List.getD_eq_getElem?_getD];exact ih (by omega)
theorem y7 {t n:Nat} {l:Sl} {cur:Array Value} (hS:Sim V0 O0 w0 O m st a w) {d:Tmp} (hd:o.dst=some d) (hr:(execOp a.eval o).run P w= .ok (.value (.pointer (some (at' w.heap.size 0)))) (w.alloc (.cells cur t)))
 (hn:l.xs.length=n) (hmax:n<=16777216) (hsz:cur.size=n*l.sz) (hheld:Held O w cur l.sz l.es) (hfresh:Kq st (b2 d)) :
 Good P V0 O0 w0 {tmps:=st.tmps.set d (.Em (b2 d) 0 0),Dk:=DJ (Es st.Dk []) [(b2 d,.arr t false l)]} o a w:=by
 intro next Q hnx
 unfold Oper.wp;rw[hr,Oper.upon_value,hd];obtain⟨O',m',h⟩:=Un hS (Moves.refl _ _ w) rfl (d:=d) (e:=t) (cap:=n) (frz:=false) (l:=l) (cur:=cur) (del:=[]) (by rw[Sl.EJ,hn];exact Nat.le_refl _) (by unfold maxLen;omega) hsz hheld hfresh;rw[Sl.EJ,hn]at h;refine hnx O' m' _ _ ?_;by_cases hdt:d<st.tmps.length
 ·
  have hslot:=h.tmps d (by simpa using hdt)
  have hself:(a.put (some d) (.slice (some (at' w.heap.size 0)) n n)).tmps.getD d undef= .slice (some (at' w.heap.size 0)) n n:=by
   have hs:d<a.tmps.size:=by rw[hS.size];exact hdt
   simp [Act.put,Array.getD_eq_getD_getElem?,hs]
  have hself2:(st.tmps.set d (.own (b2 d))).getD d .undef= .own (b2 d):=by simp [List.getD_eq_getElem?_getD,hdt]
  rw[hself,hself2]at hslot;have hc:DR O' (DJ (Es st.Dk []) [(b2 d,.arr t false l)]) m' (w.alloc (.cells cur t)) (.slice (some (at' w.heap.size 0)) n n) (.own (b2 d)):=hslot;have hg:Dy (DJ (Es st.Dk []) [(b2 d,Obj.arr t false l)]) (b2 d)=some (.arr t false l):=by simp only[DJ];rw[Ew,if_pos rfl]
  have hm: .slice (some (at' w.heap.size 0)) n n=m' (b2 d):=by have:=hc.2;rw[hg]at this;exact this
  have hcr:DR O' (DJ (Es st.Dk []) [(b2 d,.arr t false l)]) m' (w.alloc (.cells cur t)) (.pointer (some (at' w.heap.size 0))) (.Em (b2 d) 0 0):=by simp only[DR,hg,Option.map_some,Obj.shp];exact⟨rfl,fun _=>⟨w.heap.size,n,n,hm.symm,by simp⟩⟩
  have hnew:=h.put (some d) (x:=.Em (b2 d) 0 0) (v:=.pointer (some (at' w.heap.size 0))) hcr.toT;have e1:put (st.tmps.set d (.own (b2 d))) (some d) (.Em (b2 d) 0 0)=st.tmps.set d (.Em (b2 d) 0 0):=by simp [put]
  have e2:(a.put (some d) (.slice (some (at' w.heap.size 0)) n n)).put (some d) (.pointer (some (at' w.heap.size 0)))=a.put (some d) (.pointer (some (at' w.heap.size 0))):=by simp [Act.put]
  rw[e2]at hnew;dsimp only at hnew;rw[e1]at hnew;exact hnew
 ·have e1: ∀ x,st.tmps.set d x=st.tmps:=fun x=>List.set_eq_of_length_le (Nat.le_of_not_lt hdt)
  have e2: ∀ v,a.put (some d) v=a:=by
   intro v;have hs: ¬ d<a.tmps.size:=by rw[hS.size];exact hdt
   have:a.tmps.setIfInBounds d v=a.tmps:=by simp [Array.setIfInBounds,hs]
   simp only[Act.put,this]
  rw[e1,e2]at h;rw[e1,e2];exact h
theorem Ag8 {t n e:Nat} {ti te:TI} (hC:TOk P C) (hS:Sim V0 O0 w0 O m st a w) {d:Tmp} (hd:o.dst=some d) (ho:o.op= .alloc t) (ht:C.T t=some ti)
 (hp:te.cs.all CK.plain=true) (h0:0<te.cs.length) (hn0:0<n) (hn:n<=16777216) (hcs:ti.cs=(List.replicate n te.cs).flatten) (hfresh:Kq st (b2 d)) :
 Good P V0 O0 w0 {tmps:=st.tmps.set d (.Em (b2 d) 0 0),Dk:=DJ (Es st.Dk []) [(b2 d,.arr t false ⟨tyl te.cs,List.replicate n (tyl te.cs).zero⟩)]} o a w:=by
 have hT:=hC.is ht;obtain⟨i,z,g1,g2,g3,g4,g5,g6⟩:=hT.i;have hsz:z.cells.size=ti.cs.length:=by rw[<- Array.length_toList];exact(NU (O:=O) (Dk:=[]) (m:=fun _=>undef) (w:=w) _ _ g5).1
 have hlen:ti.cs.length=n*te.cs.length:=by rw[hcs];simp
 have hpl:ti.cs.all CK.plain=true:=by rw[hcs,List.all_eq_true];intro k hk;obtain⟨l,hl,hkl⟩:=List.mem_flatten.1 hk;rw[List.eq_of_mem_replicate hl]at hkl;exact List.all_eq_true.1 hp k hkl
 have hv:=XB (O:=O) (w:=w) _ _ g5 hpl;have hr:(execOp a.eval o).run P w= .ok (.value (.pointer (some (at' w.heap.size 0)))) (w.alloc (.cells z.cells t)):=by simp only[execOp,ho,Instr.alloc,Sem.run_bind,zeroValue,typeInfo,run_program,Result.andThen_ok,g1,g4,Sem.run_pure,newVar,newRow];rfl
 have hel:(⟨tyl te.cs,List.replicate n (tyl te.cs).zero⟩:Sl).es=List.replicate n (te.cs.map CK.Jd):=Sl.YY _ _ hp;have hsl:(⟨tyl te.cs,List.replicate n (tyl te.cs).zero⟩:Sl).sz=te.cs.length:=QR _
 exact y7 hS hd hr (by rw[List.length_replicate]) hn (by rw[hsz,hlen,hsl])
  ⟨Sl.es_len _,fun r j hrl hj=>by
    rw[hsl]at hj ⊢;rw[Sl.EJ,List.length_replicate]at hrl;have hlt:r*te.cs.length+j<n*te.cs.length:=by have:(r+1)*te.cs.length<=n*te.cs.length:=Nat.mul_le_mul_right _ hrl;rw[Nat.add_mul]at this;omega
    refine⟨z.cells.toList.getD (r*te.cs.length+j) undef,?_,?_⟩
    ·rw[List.getD_eq_getElem?_getD,Array.getElem?_toList];rw[Array.getElem?_eq_getElem (by omega)];rfl
    ·have:=hv (r*te.cs.length+j) (by omega)
     have e1:(ti.cs.map CK.Jd).getD (r*te.cs.length+j) .undef=(te.cs.map CK.Jd).getD j .undef:=by
      have e2:(ti.cs.map CK.Jd).getD (r*te.cs.length+j) .undef=(ti.cs.getD (r*te.cs.length+j) .oth).Jd:=by
       have:r*te.cs.length+j<ti.cs.length:=by omega
       simp [List.getD_eq_getElem?_getD,this]
      have e3:(te.cs.map CK.Jd).getD j .undef=(te.cs.getD j .oth).Jd:=by simp [List.getD_eq_getElem?_getD,hj]
      rw[e2,e3,hcs,Asi n te.cs hrl hj]
     rw[e1]at this;rw[hel];have e4:(List.replicate n (te.cs.map CK.Jd)).getD r []=te.cs.map CK.Jd:=by simp [List.getD_eq_getElem?_getD,hrl]
     rw[e4];exact this⟩ hfresh
theorem AnK {t:Nat} {x:Operand} {y:A} (hC:TOk P C) (hS:Sim V0 O0 w0 O m st a w) {d:Tmp} (hd:o.dst=some d) (ho:o.op= .box t x) (hx:DI O st.Dk m w (a.eval x) y) (hids: ∀ i∈y.ids,i∈st.ids\/(Dy st.Dk i).isSome)
 (hok:D8 (uJ C d t y).ok) (hfr: ∀ p∈(uJ C d t y).new,st.fresh p.1=true) (hnd:nodup ((uJ C d t y).new.map (·.1))=true):Good P V0 O0 w0 (apply st o (uJ C d t y)) o a w:=by
 unfold uJ at *
 cases hI:Ars C t with
 | none=>rw[hI]at hok hfr hnd;exact AlC hC hS hd ho hx hids hok hfr hnd
 | some q =>
  obtain⟨n,k⟩:=q;rw[hI]at hok hfr hnd;dsimp only at hok hfr hnd ⊢;cases y with
  | agg cs =>
   dsimp only at hok hfr hnd ⊢;obtain⟨h1,h2⟩:=hok.cons;obtain⟨h2,h3⟩:=h2.cons;have h3:=Nat.le_of_ble_eq_true h3.cons.1;have h2:=Nat.eq_of_beq_eq_true h2;obtain⟨vs,g1,g2,g3⟩:=hx;have hr:(execOp a.eval o).run P w= .ok (.value (.pointer (some (at' w.heap.size 0)))) (w.alloc (.cells vs t)):=by simp only[execOp,ho,Instr.box,g1,Sem.run_bind,Sem.run_pure,Result.andThen_ok,newVar,newRow];rfl
   rw[RX hd];refine y7 (n:=n) hS hd hr (by show(cs.map A.toI).length=n;rw[List.length_map,h2]) h3 (by show vs.size=n*1;rw[g2,h2,Nat.mul_one]) ⟨Sl.es_len _,fun r j hr hj=> ?_⟩ (GU (hfr _ List.mem_cons_self));have hj:j<1:=hj;have:j=0:=by omega
   subst this;have hr:r<cs.length:=by rw[Sl.EJ]at hr;have hr:r<(cs.map A.toI).length:=hr;rwa [List.length_map]at hr
   refine⟨vs.getD r undef,?_,?_⟩
   ·show vs[r*1+0]? =_;rw[Nat.mul_one,Nat.add_zero,Array.getD_eq_getD_getElem?,Array.getElem?_eq_getElem (by omega)];rfl
   ·have h4:=g3 r hr;have h5:=List.all_eq_true.1 h1 cs[r] (List.getElem_mem hr);have e1:cs.getD r .undef=cs[r]:=by simp [List.getD_eq_getElem?_getD,hr]
    have e2:((⟨.int k .nil,cs.map A.toI⟩:Sl).es.getD r []).getD 0 .undef= .int k cs[r].toI:=by have:(⟨.int k .nil,cs.map A.toI⟩:Sl).es=cs.map fun c=>[A.int k c.toI]:=List.map_map (f:=A.toI) (g:=fun x=>[A.int k x]) (l:=cs);rw[this];simp [List.getD_eq_getElem?_getD,hr]
    rw[e2];rw[e1]at h4;generalize cs[r]=c at h4 h5
    cases c<;>first
     | (rename_i k' x;have:=LK (show A.kEq k k'=true from h5);subst this;exact h4)
     | cases h5
  | _=>exact(DU hok).elim
theorem AjA {t:Nat} (hC:TOk P C) (hS:Sim V0 O0 w0 O m st a w) {d:Tmp} (hd:o.dst=some d) (ho:o.op= .alloc t)
 (hok:D8 (Wj C d t).ok) (hfr: ∀ p∈(Wj C d t).new,st.fresh p.1=true) (hnd:nodup ((Wj C d t).new.map (·.1))=true):Good P V0 O0 w0 (apply st o (Wj C d t)) o a w:=by
 unfold Wj at *
 obtain⟨ti,ht,he⟩:=Eu hok;rw[he]at hok hfr hnd ⊢;clear he;cases ha:lC ti.d with
 | some p =>obtain⟨n,e⟩:=p;rw[ha]at hok hfr;dsimp only at hok hfr ⊢;obtain⟨te,hte,he⟩:=Eu hok;rw[he]at hok hfr ⊢;clear he;obtain⟨h1,h2⟩:=hok.cons;obtain⟨h2,h3⟩:=h2.cons;obtain⟨h3,h4⟩:=h3.cons;obtain⟨h4,h5⟩:=h4.cons;have h5:=h5.cons.1;rw[RX hd];exact Ag8 (n:=n) (e:=e) hC hS hd ho ht h1 (by simpa [Nat.blt_eq]using h2) (by simpa [Nat.blt_eq]using h3) (Nat.le_of_ble_eq_true h4) (by simpa using h5) (GU (hfr _ List.mem_cons_self))
 | none =>rw[ha]at hok hfr hnd;exact AhI hC hS hd ho ht hok hfr hnd
end
end Go.Proofs.YtfgdgdnlglejbaaGreatDoor.Vm
namespace Go.Proofs.YtfgdgdnlglejbaaGreatDoor.Vm
open Classical MapKept
theorem Ty.Yz {α :Type} (r:Ty) (p:Ty.pr α r.Val r) (hu:r= .nil->True):r.mk2 (r.hd p) (r.tl p)=p:=by cases r<;>rfl
theorem Ty.same_eq: ∀(t:Ty) (a b:t.Val),t.same a b=true->a=b
 | .nil,_,_,_=>rfl
 | .bool r,a,b,h=>by simp only[Ty.same,Bool.and_eq_true]at h;rw[<- Ty.Yz r a (fun _=>trivial),<- Ty.Yz r b (fun _=>trivial),eq_of_beq h.1,Ty.same_eq r _ _ h.2]
 | .int _ r,a,b,h=>by simp only[Ty.same,Bool.and_eq_true]at h;rw[<- Ty.Yz r a (fun _=>trivial),<- Ty.Yz r b (fun _=>trivial),eq_of_beq h.1,Ty.same_eq r _ _ h.2]
 | .str r,a,b,h=>by simp only[Ty.same,Bool.and_eq_true]at h;rw[<- Ty.Yz r a (fun _=>trivial),<- Ty.Yz r b (fun _=>trivial),eq_of_beq h.1,Ty.same_eq r _ _ h.2]
 | .sl _ _ _,_,_,h=>by cases h
 | .ptr _,_,_,h=>by cases h
 | .fn _,_,_,h=>by cases h
 | .mp _ _ _,_,_,h=>by cases h
def Aej:List A->List A->Bool
 | .str x::xs,.str y::ys=>(x==y)&&Aej xs ys
 | _,_=>true
def Me:Nat->Ty
 | 0=>.nil
 | n+1=>.str (Me n)
theorem Api: ∀(n:Nat) (a b:(Me n).Val),(Me n).same a b=Aej ((Me n).cells a) ((Me n).cells b):=by
 intro n
 induction n with
 | zero=>intro a b;rfl
 | succ n ih=>intro a b;show((_==_)&&_)=((_==_)&&_);rw[ih]
theorem Arf (n:Nat):tyl (List.replicate n [CK.str]).flatten=Me n:=by
 induction n with
 | zero=>rfl
 | succ n ih=>simp only[List.replicate_succ,List.flatten_cons,List.singleton_append,tyl,Me,ih]
theorem Yr: ∀(n:Nat) (a:(Me n).Val) (j:Nat),j<n-> ∃ s,((Me n).cells a).getD j .undef= .str s:=by
 intro n
 induction n with
 | zero=>intro a j h;omega
 | succ n ih =>
  intro a j h;cases j with
  | zero=>exact⟨_,rfl⟩
  | succ j=>exact ih _ j (by omega)
def fnd {β :Type} (t:Ty) (k:t.Val):List MapEntry->List (t.Val× β)->Nat->Option (Nat×Value)
 | e::es,p::l,i=>bif t.same k p.1 then some (i,e.val)else fnd t k es l (i+1)
 | _,_,_=>none
theorem AbL {β :Type} {t:Ty} {k:t.Val}: ∀(es:List MapEntry) (l:List (t.Val× β)) (i:Nat),es.length=l.length ->
 (fnd t k es l i=none/\Ov t k l=none/\(∀ x,Xy t k x l=l++[(k,x)])/\fE t k l=l) \/
 ∃ j e p,fnd t k es l i=some (i+j,e.val)/\es[j]? =some e/\l[j]? =some p/\p.1=k/\Ov t k l=some p.2/\(∀ x,Xy t k x l=l.set j (p.1,x))/\fE t k l=l.eraseIdx j:=by
 intro es
 induction es with
 | nil =>
  intro l i h;cases l with
  | nil=>exact .inl ⟨rfl,rfl,fun _=>rfl,rfl⟩
  | cons _ _=>cases h
 | cons e es ih =>
  intro l i h;cases l with
  | nil=>cases h
  | cons p l =>
   cases hs:t.same k p.1 with
   | true =>refine .inr ⟨0,e,p,by simp [fnd,hs],rfl,rfl,(Ty.same_eq _ _ _ hs).symm,by simp [Ov,hs],fun x=>by simp [Xy,hs],by simp [fE,hs]⟩
   | false =>
    rcases ih l (i+1) (by simpa using h)with ⟨h1,h2,h3,h4⟩ | ⟨j,e',p',h1,h2,h3,h4,h5,h6,h7⟩
    ·exact .inl ⟨by simp [fnd,hs,h1],by simp [Ov,hs,h2],fun x=>by simp [Xy,hs,h3],by simp [fE,hs,h4]⟩
    ·exact .inr ⟨j+1,e',p',by simp only[fnd,hs,cond_false,h1];congr 2;omega,by simpa using h2,by simpa using h3,h4,by simp [Ov,hs,h5],fun x=>by simp [Xy,hs,h6],by simp [fE,hs,h7]⟩
section
variable {P:Program} {C:Ctx} {V0:Nat->Value} {O0 O:Own} {w0 w:World} {m:Nat->Value} {st:St} {a:Act} {o:Oper}
structure Ac2 (P:Program) (O:Own) (w:World) (kt:TypeId) (t:Ty):Prop where
 check: ∀(e:Bool) (v:Value) (k:t.Val),H8 O w v (JE (t.cells k))->(Instr.checkKey e 10000 kt v).run P w= .ok () w
 find: ∀ {β :Type} (v:Value) (k:t.Val) (es:List MapEntry) (l:List (t.Val× β)),H8 O w v (JE (t.cells k))->es.length=l.length->(∀(i:Nat) e p,es[i]? =some e->l[i]? =some p->H8 O w e.key (JE (t.cells p.1))) ->
  (Instr.findKey kt v es).run P w= .ok (fnd t k es l 0) w
 stays: ∀(v u:Value) (k:t.Val),H8 O w v (JE (t.cells k))->H8 O w u (JE (t.cells k))->(Instr.keyThatStays u v).run P w= .ok v w
theorem AaJ {β :Type} {t:Ty} {k:t.Val} {d:TypeDesc} {v:Value}: ∀(es:List MapEntry) (l:List (t.Val× β)) (i:Nat),es.length=l.length->(∀(i:Nat) (e:MapEntry) (p:t.Val× β),es[i]? =some e->l[i]? =some p->Instr.sameNow d v e.key=some (t.same k p.1)) ->
 Instr.findNow d v es i=some (fnd t k es l i):=by
 intro es
 induction es with
 | nil=>intro l i h _;cases l<;>rfl
 | cons e es ih =>
  intro l i h hs;cases l with
  | nil=>cases h
  | cons p l =>
   have h0:=hs 0 e p rfl rfl;have h1:=ih l (i+1) (by simpa using h) (fun i e p he hp=>hs (i+1) e p (by simpa using he) (by simpa using hp));cases hb:t.same k p.1 with
   | true=>rw[hb]at h0;simp [Instr.findNow,h0,fnd,hb]
   | false=>rw[hb]at h0;simp [Instr.findNow,h0,fnd,hb,h1]
theorem Al1 {β :Type} {t:Ty} {k:t.Val} {kt:TypeId} {v:Value}: ∀(es:List MapEntry) (l:List (t.Val× β)) (i:Nat),es.length=l.length->(∀(i:Nat) (e:MapEntry) (p:t.Val× β),es[i]? =some e->l[i]? =some p->(Op.equal kt v e.key).run P w= .ok (t.same k p.1) w) ->
 (Instr.findAsking kt v es i).run P w= .ok (fnd t k es l i) w:=by
 intro es
 induction es with
 | nil=>intro l i h _;cases l<;>first | rfl | cases h
 | cons e es ih =>
  intro l i h hs;cases l with
  | nil=>cases h
  | cons p l =>
   have h0:=hs 0 e p rfl rfl;have h1:=ih l (i+1) (by simpa using h) (fun i e p he hp=>hs (i+1) e p (by simpa using he) (by simpa using hp));cases hb:t.same k p.1 with
   | true=>rw[hb]at h0;simp [Instr.findAsking,h0,fnd,hb]
   | false=>rw[hb]at h0;simp [Instr.findAsking,h0,fnd,hb,h1]
theorem Xd {a b:ByteArray} (h:a.data.toList=b.data.toList):a=b:=by obtain⟨⟨x⟩⟩:=a;obtain⟨⟨y⟩⟩:=b;have:x=y:=h;rw[this]
theorem uG (a b:ByteArray):(a==b)=(a.data.toList==b.data.toList):=by rw[Bool.eq_iff_iff,bytes_beq,beq_iff_eq];exact⟨fun h=>by rw[h],Xd⟩
theorem D6.str' {v:Value} {s:List UInt8} (h:D6 O w v (.str s)): ∃ b:ByteArray,v= .string b/\b.data.toList=s:=by cases h;exact⟨_,rfl,rfl⟩
theorem D6.int' {v:Value} {k:IntKind} {n:Int} (h:D6 O w v (.int k n)):v= .int k n:=by cases h;rfl
theorem AqN (k k':List UInt8):(Ty.str .nil).same k k'=(k==k'):=Bool.and_true _
theorem AqM (q:IntKind) (k k':Int):(Ty.int q .nil).same k k'=(k==k'):=Bool.and_true _
theorem Aku (q:IntKind) (a b:Int):Instr.sameNow (.int q) (.int q a) (.int q b)=some (a==b):=by simp [Instr.sameNow]
theorem Ao6 {kt:TypeId} (hu:P.underlying kt=some .string):Ac2 P O w kt (.str .nil) where
 check e v k h:=by obtain⟨b,rfl,_⟩:=D6.str' (show D6 O w v (.str k)from h);exact run_checkKey hu (show IsKey .string (.string b)from trivial) e 9999
 find v k es l h hl hes:=by
  obtain⟨b,rfl,hb⟩:=D6.str' (show D6 O w v (.str k)from h)
  have hn:Instr.findNow .string (.string b) es 0=some (fnd (.str .nil) k es l 0):=AaJ es l 0 hl fun i e p he hp=>by
   obtain⟨b',h1,h2⟩:=D6.str' (show D6 O w e.key (.str p.1)from hes i e p he hp);rw[h1];have e1:Instr.sameNow .string (.string b) (.string b')=some (b==b'):=by simp [Instr.sameNow]
   refine e1.trans (congrArg some (Eq.trans ?_ (AqN k p.1).symm));rw[uG,hb,h2]
  simp [Instr.findKey,run_underlying hu,hn]
 stays v u k h h':=by
  obtain⟨b,rfl,hb⟩:=D6.str' (show D6 O w v (.str k)from h);obtain⟨b',rfl,hb'⟩:=D6.str' (show D6 O w u (.str k)from h');obtain rfl:b'=b:=Xd (by rw[hb,hb']);have:(b'==b')=true:=by rw[uG];simp
  simp [Instr.keyThatStays,Instr.sameBits,this]
theorem Ao5 {kt:TypeId} {q:IntKind} (hu:P.underlying kt=some (.int q)):Ac2 P O w kt (.int q .nil) where
 check e v k h:=by obtain rfl:=D6.int' (show D6 O w v (.int q k)from h);exact run_checkKey hu (show IsKey (.int q) (.int q k)from rfl) e 9999
 find v k es l h hl hes:=by
  obtain rfl:=D6.int' (show D6 O w v (.int q k)from h);have hn:Instr.findNow (.int q) (.int q k) es 0=some (fnd (.int q .nil) k es l 0):=AaJ es l 0 hl fun i e p he hp=>by rw[D6.int' (show D6 O w e.key (.int q p.1)from hes i e p he hp)];exact(Aku q k p.1).trans (congrArg some (AqM q k p.1).symm)
  simp [Instr.findKey,run_underlying hu,hn]
 stays v u k h h':=by
  obtain rfl:=D6.int' (show D6 O w v (.int q k)from h);obtain rfl:=D6.int' (show D6 O w u (.int q k)from h');have:((k:Int)==(k:Int))=true:=by simp
  have:Instr.sameBits 10000 (.int q k) (.int q k)=true:=by
   have: ∀ n:Int,Instr.sameBits 10000 (.int q n) (.int q n)=true:=fun n=>by simp [Instr.sameBits]
   exact this k
  simp [Instr.keyThatStays,this]
theorem Acd {cs:List A} (h:cs.length≠1):JE cs= .agg cs:=by
 unfold JE;split
 ·simp at h
 ·rfl
theorem Ao4 {e:TypeId} {d:Nat} (hue:P.underlying e=some .string) {xs ys:Array Value} {cs ds:List A} (hx: ∀ j,j<cs.length->D6 O w (xs.getD j undef) (cs.getD j .undef)) (hxs:xs.size=cs.length)
 (hy: ∀ j,j<ds.length->D6 O w (ys.getD j undef) (ds.getD j .undef)) (hys:ys.size=ds.length) (hl:cs.length=ds.length) (hc: ∀ j,j<cs.length-> ∃ s,cs.getD j .undef= .str s) (hd: ∀ j,j<ds.length-> ∃ s,ds.getD j .undef= .str s) :
 ∀(n i:Nat),i+n=cs.length->(Op.eqItems (d+1) e 1 xs ys (List.range' i n)).run P w= .ok (Aej (cs.drop i) (ds.drop i)) w:=by
 intro n
 induction n with
 | zero =>intro i hi;have:cs.drop i=[]:=List.drop_eq_nil_of_le (by omega);rw[this];rfl
 | succ n ih =>
  intro i hi;have hi':i<cs.length:=by omega
  obtain⟨s,hs⟩:=hc i hi';obtain⟨s',hs'⟩:=hd i (by omega);have hx1:=hx i hi';have hy1:=hy i (by omega);rw[hs]at hx1;rw[hs']at hy1;obtain⟨b,hb1,hb2⟩:=hx1.str';obtain⟨b',hb1',hb2'⟩:=hy1.str'
  have ex:xs[i]? =some (.string b):=by
   have:i<xs.size:=by omega
   rw[Array.getElem?_eq_getElem this,<- hb1,Array.getD_eq_getD_getElem?,Array.getElem?_eq_getElem this];rfl
  have ey:ys[i]? =some (.string b'):=by
   have:i<ys.size:=by omega
   rw[Array.getElem?_eq_getElem this,<- hb1',Array.getD_eq_getD_getElem?,Array.getElem?_eq_getElem this];rfl
  have hpk:P.plainKey e=true:=by simp [Program.plainKey,hue]
  have p1:=run_part_plain w hpk (off:=i*1) (by rw[Nat.mul_one];exact ex);have p2:=run_part_plain w hpk (off:=i*1) (by rw[Nat.mul_one];exact ey);have p3:=run_equalIn_string (P:=P) w d e b b' hue;have ec:cs.drop i= .str s::cs.drop (i+1):=by rw[List.drop_eq_getElem_cons hi',<- hs,List.getD_eq_getElem?_getD,List.getElem?_eq_getElem hi'];rfl
  have ed:ds.drop i= .str s'::ds.drop (i+1):=by rw[List.drop_eq_getElem_cons (by omega),<- hs',List.getD_eq_getElem?_getD,List.getElem?_eq_getElem (by omega)];rfl
  rw[List.range'_succ,ec,ed];have ih':=ih (i+1) (by omega);simp only[Op.eqItems,Sem.run_bind,p1,p2,p3,Result.andThen_ok];rw[dH,dH,hb2,hb2'];cases hbb:(s==s')with
  | false=>simp [Aej,hbb]
  | true=>simp [Aej,hbb,ih']
theorem AeH {e:TypeId} {em:Bool} {d:Nat} (hue:P.underlying e=some .string) (hsz:(sizeOf e).run P w= .ok 1 w) {xs:Array Value} {n:Nat} (hx: ∀ j,j<n-> ∃ b,xs[j]? =some (.string b)) :
 ∀(is:List Nat),(∀ i∈is,i<n)->(forIn is PUnit.unit fun i _=>do Instr.checkKey em (d+1) e (<- part e xs (i*(<- sizeOf e)));pure (ForInStep.yield PUnit.unit)).run P w= .ok PUnit.unit w:=by
 intro is
 induction is with
 | nil=>intro _;simp
 | cons j is ih =>
  intro h;obtain⟨b,hb⟩:=hx j (h j (by simp));have hpk:P.plainKey e=true:=by simp [Program.plainKey,hue]
  have p1:=run_part_plain w hpk (off:=j*1) (by rw[Nat.mul_one];exact hb);have p2:=run_checkKey (P:=P) (w:=w) hue (k:=.string b) trivial em d;simp only[List.forIn_cons,Sem.run_bind,hsz,Result.andThen_ok,p1,p2,Sem.run_pure];exact ih (fun i hi=>h i (by simp [hi]))
theorem H8.agg' {v:Value} {cs:List A} (h:H8 O w v (.agg cs)): ∃ vs:Array Value,v= .agg vs/\vs.size=cs.length/\ ∀ j,j<cs.length->D6 O w (vs.getD j undef) (cs.getD j .undef):=h
theorem Am1 {kt e:TypeId} {n:Nat} {ie:TypeInfo} (hu:P.underlying kt=some (.array n e)) (hue:P.underlying e=some .string) (hie:P.info? e=some ie) (his:ie.size=1) (hn:1<n):Ac2 P O w kt (Me n):=by
 have hlen: ∀ k:(Me n).Val,((Me n).cells k).length=n:=fun k=>by
  rw[Ty.H9];have: ∀ n,(Me n).len=n:=by intro n;induction n with | zero=>rfl | succ n ih=>simp [Me,Ty.len,ih]
  exact this n
 have hag: ∀ k:(Me n).Val,JE ((Me n).cells k)= .agg ((Me n).cells k):=fun k=>Acd (by rw[hlen];omega);have hce:P.cellsOf e=1:=by simp [Program.cellsOf,hie,his]
 have hsz:(sizeOf e).run P w= .ok 1 w:=by simp [sizeOf,typeInfo,hie,his]
 have hstr: ∀ {vs:Array Value} {k:(Me n).Val},vs.size=n->(∀ j,j<n->D6 O w (vs.getD j undef) (((Me n).cells k).getD j .undef))-> ∀ j,j<n-> ∃ b,vs[j]? =some (.string b):=by
  intro vs k hs h j hj;obtain⟨s,hs'⟩:=Yr n k j hj;have h1:=h j hj;rw[hs']at h1;obtain⟨b,hb,_⟩:=h1.str';have hj':j<vs.size:=by omega
  exact⟨b,by rw[Array.getElem?_eq_getElem hj',<- hb,Array.getD_eq_getD_getElem?,Array.getElem?_eq_getElem hj'];rfl⟩
 refine⟨fun em v k h=> ?_,fun v k es l h hl hes=> ?_,fun v u k h h'=> ?_⟩
 ·rw[hag]at h;obtain⟨vs,rfl,h1,h2⟩:=h.agg';rw[hlen]at h1 h2;rw[show(10000:Nat)=9998+1+1 from rfl,Instr.checkKey];simp only[Sem.run_bind,run_underlying hu,Result.andThen_ok];simp only[Std.Legacy.Range.forIn_eq_forIn_range',Std.Legacy.Range.size,Nat.sub_zero,Nat.add_one_sub_one,Nat.div_one];rw[AeH (em:=em) (d:=9998) hue hsz (hstr h1 h2) (List.range' 0 n) (fun i hi=>by simpa using hi)];rfl
 ·rw[hag]at h;obtain⟨vs,rfl,h1,h2⟩:=h.agg';rw[hlen]at h1 h2;have eqs: ∀(i:Nat) (e':MapEntry) p,es[i]? =some e'->l[i]? =some p->(Op.equal kt (.agg vs) e'.key).run P w= .ok ((Me n).same k p.1) w:=by intro i e' p he hp;have h3:=hes i e' p he hp;rw[hag]at h3;obtain⟨us,h4,h5,h6⟩:=h3.agg';rw[hlen]at h5 h6;rw[h4];show(Op.equalIn 10000 kt _ _).run P w=_;rw[show(10000:Nat)=9999+1 from rfl,run_equalIn_array w 9999 vs us hu hie,hce,List.range_eq_range',Api];have:=Ao4 (P:=P) (O:=O) (w:=w) (d:=9998) hue (xs:=vs) (ys:=us) (cs:=(Me n).cells k) (ds:=(Me n).cells p.1) (by rw[hlen];exact h2) (by rw[hlen];exact h1) (by rw[hlen];exact h6) (by rw[hlen];exact h5) (by rw[hlen,hlen]) (by rw[hlen];exact Yr n k) (by rw[hlen];exact Yr n p.1) n 0 (by rw[hlen];omega);simpa using this
  have hnow: ∀(es:List MapEntry) (i:Nat),Instr.findNow (.array n e) (.agg vs) es i=if es=[]then some none else none:=by
   intro es i;cases es with
   | nil=>rfl
   | cons e' es=>simp [Instr.findNow,Instr.sameNow]
  simp only[Instr.findKey,Sem.run_bind,run_underlying hu,Result.andThen_ok,hnow];cases es with
  | nil=>cases l<;>first | simp [fnd] | cases hl
  | cons e' es =>rw[if_neg (by simp)];exact Al1 _ l 0 hl eqs
 ·rw[hag]at h h';obtain⟨vs,rfl,h1,h2⟩:=h.agg';obtain⟨us,rfl,h3,h4⟩:=h'.agg';have e:us=vs:=by rw[hlen]at h1 h2 h3 h4;apply Array.ext (by omega);intro j hj1 hj2;obtain⟨s,hs⟩:=Yr n k j (by omega);have a1:=h2 j (by omega);have a2:=h4 j (by omega);rw[hs]at a1 a2;obtain⟨b1,e1,f1⟩:=a1.str';obtain⟨b2,e2,f2⟩:=a2.str';rw[Array.getD_eq_getD_getElem?,Array.getElem?_eq_getElem hj2]at e1;rw[Array.getD_eq_getD_getElem?,Array.getElem?_eq_getElem hj1]at e2;have e1:vs[j]=_:=e1;have e2:us[j]=_:=e2;rw[e1,e2,Xd (f1.trans f2.symm)]
  subst e
  have hsb:Instr.sameBits 10000 (.agg us) (.agg us)=true:=by
   show((us.size==us.size)&&(us.toList.zip us.toList).all _)=true;rw[Bool.and_eq_true];refine⟨by simp,List.all_eq_true.2 fun p hp=> ?_⟩;obtain⟨i,hi⟩:=List.mem_iff_getElem?.1 hp;rw[List.getElem?_zip_eq_some]at hi;rw[hlen]at h1 h2;have hi1:i<us.size:=by have:=(List.getElem?_eq_some_iff.1 hi.1).1;simpa using this
   obtain⟨b,hb⟩:=hstr h1 h2 i (by omega);have q1:p.1= .string b:=by have:=hi.1;rw[Array.getElem?_toList,hb]at this;injection this with this;exact this.symm
   have q2:p.2= .string b:=by have:=hi.2;rw[Array.getElem?_toList,hb]at this;injection this with this;exact this.symm
   obtain⟨p1,p2⟩:=p;dsimp only at q1 q2;subst q1;subst q2;show(b==b)=true;rw[uG];simp
  simp [Instr.keyThatStays,hsb]
theorem Aqo (hC:TOk P C) {t:Nat} {ta:TI} (ht:C.T t=some ta) (h:Am2 C ta=true):Ac2 P O w t (tyl ta.cs):=by
 have hT:=hC.is ht;have hu:=hT.d;have hck:=hT.ck;unfold Am2 at h;split at h
 ·rename_i hd;rw[hd]at hu;have:ta.cs=[.str]:=by simp [IK,hu]at hck;exact hck.symm
  rw[this];exact Ao6 hu
 ·rename_i q hd;rw[hd]at hu;have:ta.cs=[.int q]:=by simp [IK,hu]at hck;exact hck.symm
  rw[this];exact Ao5 hu
 ·rename_i n e hd;rw[hd]at hu;split at h
  ·rename_i te hte;simp only[Bool.and_eq_true,Nat.blt_eq]at h;have hTe:=hC.is hte;have hde:=xG h.1;have hue:=hTe.d;rw[hde]at hue;have hcse:te.cs=[.str]:=by have:=hTe.ck;simp [IK,hue]at this;exact this.symm
   have hcs:ta.cs=(List.replicate n [CK.str]).flatten:=by
    rw[show(20:Nat)=18+1+1 from rfl]at hck;unfold IK at hck;simp only[hu]at hck;have he:IK P (18+1) e=some [.str]:=by simp [IK,hue]
    rw[he]at hck;dsimp only at hck;cases hb:Nat.ble (n* [CK.str].length) 4096 with
    | false=>rw[hb]at hck;cases hck
    | true=>rw[hb]at hck;injection hck with hck;exact hck.symm
   rw[hcs,Arf];obtain⟨i,z,h1,h2,_⟩:=hTe.i;exact Am1 hu hue h1 (by rw[h2,hcse];rfl) h.2
  ·cases h
 ·cases h
end
end Go.Proofs.YtfgdgdnlglejbaaGreatDoor.Vm
namespace Go.Proofs.YtfgdgdnlglejbaaGreatDoor.Vm
open Classical MapKept
def Ao2:A->Bool
 | .bool _ | .int _ _ | .str _ | .sl _ | .FX | .fn _ | .ump _=>true
 | _=>false
theorem Ty.MM: ∀(t:Ty) (v:t.Val),∀ c∈t.cells v,Ao2 c=true
 | .nil,_,c,h=>by cases h
 | .bool r,v,c,h=>by
  rcases List.mem_cons.1 h with rfl | h
  ·rfl
  ·exact Ty.MM r _ c h
 | .int _ r,v,c,h=>by
  rcases List.mem_cons.1 h with rfl | h
  ·rfl
  ·exact Ty.MM r _ c h
 | .str r,v,c,h=>by
  rcases List.mem_cons.1 h with rfl | h
  ·rfl
  ·exact Ty.MM r _ c h
 | .sl _ _ r,v,c,h=>by
  rcases List.mem_cons.1 h with rfl | h
  ·rfl
  ·exact Ty.MM r _ c h
 | .ptr r,v,c,h=>by
  rcases List.mem_cons.1 h with rfl | h
  ·rfl
  ·exact Ty.MM r v c h
 | .fn r,v,c,h=>by
  rcases List.mem_cons.1 h with rfl | h
  ·rfl
  ·exact Ty.MM r _ c h
 | .mp _ _ r,v,c,h=>by
  rcases List.mem_cons.1 h with rfl | h
  ·rfl
  ·exact Ty.MM r _ c h
section
variable {P:Program} {C:Ctx} {V0:Nat->Value} {O0 O:Own} {w0 w:World} {m:Nat->Value} {st:St} {a:Act} {o:Oper}
theorem DR.data {Dk:List (Nat×Obj)} {v:Value} {c:A} (h:DR O Dk m w v c) (hd:Ao2 c=true):D6 O w v c:=by cases c<;>first | exact h | exact h.elim | cases hd
theorem H8.toT {Dk:List (Nat×Obj)} {v:Value} {x:A} (h:H8 O w v x):DI O Dk m w v x/\T1 O Dk m w v x:=by
 have cell: ∀ {v:Value} {x:A},D6 O w v x->DR O Dk m w v x:=fun h=>by cases h<;>first | exact .bool _ | exact .int _ _ | exact .str _ | exact .nil _ | exact .FX | exact .fn _ | exact .bM | exact D6.sl0 _ _ | (rename_i vs a1 a2 a3;exact D6.sl vs a1 a2 a3) | (rename_i h hn;exact D6.sln h hn)
 cases x with
 | agg cs=>grind[Obj,H8,DI,T1]
 | undef=>cases h
 | Fj=>cases h
 | usl _ _ _=>cases h
 | ump _=>cases h
 | ptr _ _=>cases h
 | own _=>cases h
 | elt _=>cases h
 | Em _ _ _=>cases h
 | tup _=>cases h
 | box _=>cases h
 | cbx _ _=>cases h
 | clo _ _=>cases h
 | bsl _ _=>cases h
 | osl _ _=>cases h
 | cnd _ _=>cases h
 | bool _=>exact⟨cell h,cell h⟩
 | int _ _=>exact⟨cell h,cell h⟩
 | str _=>exact⟨cell h,cell h⟩
 | sl _=>exact⟨cell h,cell h⟩
 | sln _=>exact⟨cell h,cell h⟩
 | FX=>exact⟨cell h,cell h⟩
 | fn _=>exact⟨cell h,cell h⟩
theorem Aqn {xs:List A} (h:Amv (.agg xs)=true):xs.length≠1:=by intro h1;obtain⟨c,rfl⟩:=List.length_eq_one_iff.1 h1;cases h
theorem AkP {O':Own} {Dk:List (Nat×Obj)} {v:Value} {x:A} {cs:List A} (ho:Amv x=true) (hv:x.isVal=true) (hx:DI O Dk m w v x) (hl:cs.length=x.cells.length)
 (hrel: ∀ j,j<cs.length->D6 O' w (v.cells.getD j undef) (cs.getD j .undef)):H8 O' w v (JE cs):=by
 have one:DR O Dk m w v x->x.cells=[x]->H8 O' w v (JE cs):=by intro hc he;rw[he]at hl;obtain⟨c,rfl⟩:=List.length_eq_one_iff.1 hl;have h0:=hrel 0 (by simp);rw[oneCell_cells hc.one]at h0;have h0:D6 O' w v c:=h0;show H8 O' w v c;cases c<;>first | exact h0 | cases h0
 cases x with
 | agg xs =>obtain⟨vs,rfl,h2,h3⟩:=hx;have hl:cs.length=xs.length:=hl;rw[Acd (by rw[hl];exact Aqn ho)];exact⟨vs,rfl,by rw[h2,hl],hrel⟩
 | undef=>cases hv
 | tup _=>cases hv
 | usl _ _ _=>cases hv
 | ump _=>cases hv
 | box _=>cases hv
 | cbx _ _=>cases hv
 | cnd _ _=>cases hv
 | _=>exact one hx rfl
theorem QA {r:Nat} {es:Array MapEntry} {ck:Nat} (hb:w.heap[r]? =some (.map es ck)):(getObj r).run P w= .ok (.map es ck) w:=by simp [getObj,Sem.run,hb]
theorem Yo {r:Nat} {es:Array MapEntry} {ck:Nat} (x:Go.Obj) (hb:w.heap[r]? =some (.map es ck)):(setObj r x).run P w= .ok () {w with heap:=w.heap.setIfInBounds r x}:=by simp [setObj,Sem.run,hb]
theorem nZ {t:Nat} {k:TI->TI->Dl} (hok:D8 (mapOf C t k).ok): ∃ ti kt et ta tb,C.T t=some ti/\ti.d= .map kt et/\C.T kt=some ta/\C.T et=some tb/\mapOf C t k=k ta tb:=by
 unfold mapOf at hok ⊢;obtain⟨ti,ht,he⟩:=Eu hok;rw[he]at hok ⊢;split at hok
 ·rename_i kt et hd;obtain⟨ta,hta,he⟩:=Eu hok;rw[he]at hok;obtain⟨tb,htb,he'⟩:=Eu hok;exact⟨ti,kt,et,ta,tb,ht,hd,hta,htb,he.trans he'⟩
 ·exact(DU hok).elim
theorem Ai8 {Dk:List (Nat×Obj)} (hC:TOk P C) {kt:Nat} {ta tb:TI} (hta:C.T kt=some ta) {l:Mp} {i:A} {v:Value} (hi:DI O Dk m w v i) (hok:D8 (Ahy C ta tb l i)) :
 Ac2 P O w kt l.kt/\H8 O w v (JE (l.kt.cells (l.kt.mk i.cells).2))/\Ah6 tb=true/\l.vt=tyl tb.cs:=by
 obtain⟨h1,hok⟩:=hok.cons;obtain⟨h2,hok⟩:=hok.cons;obtain⟨h3,hok⟩:=hok.cons;obtain⟨h4,hok⟩:=hok.cons;obtain⟨h5,hok⟩:=hok.cons;obtain⟨h6,hok⟩:=hok.cons;have h7:=hok.cons.1;have h3:=of_decide_eq_true h3;have hc:=Ty.Ox _ _ h7;refine⟨by rw[h3];exact Aqo hC hta h1,?_,h2,of_decide_eq_true h4⟩;obtain⟨g1,g2⟩:=hi.cells h5;refine AkP (Dk:=Dk) h6 h5 hi (by rw[hc]) (fun j hj=> ?_);have hd:=Ty.MM _ _ _ (List.getElem_mem hj);have e:(l.kt.cells (l.kt.mk i.cells).2).getD j .undef=(l.kt.cells (l.kt.mk i.cells).2)[j]:=by rw[List.getD_eq_getElem?_getD,List.getElem?_eq_getElem hj];rfl
 rw[<- e]at hd;rw[hc]at hd hj ⊢;exact(g2 j hj).data hd
theorem Apy {t:Nat} {tb:TI} (hT:QY P t tb) (hone:Ah6 tb=true) (hp:tb.cs.all CK.plain=true): ∃ z,(zeroValue t).run P w= .ok z w/\H8 O w z (JE ((tyl tb.cs).cells (tyl tb.cs).zero)):=by
 obtain⟨i,z,h1,h2,h3,h4,h5,h6⟩:=hT.i;refine⟨z,by simp [zeroValue,typeInfo,h1,h4],?_⟩;rw[Ty.Aex _ hp];have hv:=XB (O:=O) (w:=w) _ _ h5 hp;have hl:=(NU (O:=O) (Dk:=[]) (m:=fun _=>undef) (w:=w) _ _ h5).1;have hone:tb.agg= !(Nat.beq tb.cs.length 1):=by simpa [Ah6]using hone
 rw[Ac6,h6,Rj]at hone;cases z with
 | agg vs =>
  have hne:tb.cs.length≠1:=by simpa [Zh]using hone
  rw[Acd (by simpa using hne)];refine⟨vs,rfl,?_,fun j hj=> ?_⟩
  ·have:vs.toList.length=tb.cs.length:=hl;rw[Array.length_toList]at this;simpa using this
  ·have:=hv j (by simpa using hj);have e:(Value.agg vs).cells.toList.getD j undef=vs.getD j undef:=by show vs.toList.getD j undef=_;rw[Array.getD_eq_getD_getElem?,List.getD_eq_getElem?_getD,Array.getElem?_toList]
   rw[e]at this;exact this
 | _ =>
  have he:tb.cs.length=1:=by simpa [Zh]using hone
  obtain⟨c,hc⟩:=List.length_eq_one_iff.1 he;rw[hc]at hv ⊢;have:=hv 0 (by simp);have this:D6 O w _ c.Jd:=this;show H8 O w _ c.Jd;cases hcz:c.Jd<;>rw[hcz]at this<;>first | exact this | cases this
theorem Akb {t:Nat} {x i:Operand} {c:Bool} {Dk:List (Nat×Obj)} {fet:Fet} (hC:TOk P C) (hF:FOk O Dk m w fet) (ho:o.op= .lookup t x i c) {x' i':A} (hx:DI O Dk m w (a.eval x) x') (hi:DI O Dk m w (a.eval i) i')
 (hok:D8 (zS C fet t c x' i').ok):Pure P O Dk m a w o (zS C fet t c x' i'):=by
 unfold zS at hok ⊢;obtain⟨ti,kt,et,ta,tb,ht,hd,hta,htb,he⟩:=nZ hok;rw[he]at hok ⊢;clear he;obtain⟨p,hp,he⟩:=DY hok;rw[he]at hok ⊢;clear he;obtain⟨hok1,hok2⟩:=hok.append;have hpl:=hok2.cons.1;obtain⟨_,hv,hM⟩:=Ah3 hF hx hp;obtain⟨hK,hk,hone,hvt⟩:=Ai8 hC hta hi hok1;obtain⟨r,es,ck,h1,h2,h3,h4,h5⟩:=hM.lists;have hu:=(hC.is ht).d;rw[hd]at hu;have hfind:=hK.find (a.eval i) _ es.toList p.2.l hk h4 (fun i e p he hp=>(h5 i e p he hp).1);have hchk:=hK.check es.isEmpty (a.eval i) _ hk;obtain⟨z,hz1,hz2⟩:=Apy (O:=O) (w:=w) (hC.is htb) hone hpl;rw[<- hvt]at hz2
 have key: ∃ u,(Instr.lookup t (a.eval x) (a.eval i) c).run P w= .ok (if c then .tuple #[u,.bool (Ov p.2.kt (p.2.kt.mk i'.cells).2 p.2.l).isSome]else u) w /\
  H8 O w u (JE (p.2.vt.cells ((Ov p.2.kt (p.2.kt.mk i'.cells).2 p.2.l).getD p.2.vt.zero))):=by
  rw[hv,h1];rcases AbL (k:=(p.2.kt.mk i'.cells).2) es.toList p.2.l 0 h4 with ⟨f1,f2,_,_⟩ | ⟨j,e,q,f1,f2,f3,f4,f5,_,_⟩
  ·refine⟨z,?_,by rw[f2];exact hz2⟩;simp [Instr.lookup,run_underlying hu,QA h2,hchk,hfind,f1,hz1,f2,Result.andThen]
  ·refine⟨e.val,?_,by rw[f5];exact(h5 j e q f2 f3).2⟩;simp [Instr.lookup,run_underlying hu,QA h2,hchk,hfind,f1,f5,Result.andThen]
 obtain⟨u,hrun,hu2⟩:=key;refine⟨⟨if c then .tuple #[u,.bool (Ov p.2.kt (p.2.kt.mk i'.cells).2 p.2.l).isSome]else u,?_,?_⟩,rfl,rfl,rfl⟩
 ·simp only[execOp,ho,Sem.run_bind,hrun,Result.andThen_ok,Sem.run_pure]
 ·show DI O Dk m w _ (Aft _ _ _);unfold Aft;cases c with
  | false=>exact hu2.toT.1
  | true =>
   refine⟨#[u,.bool (Ov p.2.kt (p.2.kt.mk i'.cells).2 p.2.l).isSome],rfl,rfl,fun j hj=> ?_⟩;have hj:j<2:=hj;rcases(show j=0\/j=1 by omega)with rfl | rfl
   ·exact hu2.toT.2
   ·exact D6.bool _
theorem Aoy {r:Nat} {x y:Go.Obj} (hb:w.heap[r]? =some x):(w.heap.setIfInBounds r y)[r]? =some y/\ ∀ b,b≠r->(w.heap.setIfInBounds r y)[b]? =w.heap[b]? :=by grind
theorem oW (hS:Sim V0 O0 w0 O m st a w) {q r ck ck':Nat} {es es':Array MapEntry} {l l':Mp} (hq:Dy st.Dk q=some (.mp l)) (hm:m q= .map (some r)) (hb:w.heap[r]? =some (.map es ck)) (hO:O r 0=some q) (hs:es'.size=l'.l.length)
 (hes: ∀(i:Nat) (p:l'.kt.Val×l'.vt.Val),l'.l[i]? =some p-> ∃ e,es'[i]? =some e/\H8 O w e.key (JE (l'.kt.cells p.1))/\H8 O w e.val (JE (l'.vt.cells p.2))) {d:Option Tmp} {v:Value} {x:A} (hx:d≠none-> ∀ O' objs' m' w',DI O' objs' m' w' v x) :
 Sim V0 O0 w0 O m {tmps:=put st.tmps d x,Dk:=FB st.Dk q (.mp l')} (a.put d v) {w with heap:=w.heap.setIfInBounds r (.map es' ck')}:=by
 obtain⟨hb1,hb2⟩:=Aoy (y:=.map es' ck') hb;have hM:Moves O (fun i=>i=q) w {w with heap:=w.heap.setIfInBounds r (.map es' ck')}:=Moves.map rfl rfl rfl (by simp) hb hb1 hb2 hO rfl;have hP:Passes O O (fun i=>i=q) w.heap.size:=⟨fun _ _ _ h=>h,fun _ _ _ _ h _=>h⟩
 have hpr:=hM.Eg hP
 have hE:LY st.Dk m (FB st.Dk q (.mp l')) m (fun _=>False):=by
  intro i y hy;rw[Ew]at hy;by_cases hi:i=q
  ·rw[if_pos hi]at hy;injection hy with hy;subst hy;subst hi;exact .inr ⟨_,hq,rfl,rfl⟩
  ·rw[if_neg hi]at hy;exact .inr ⟨y,hy,rfl,rfl⟩
 refine hS.next (st':= {tmps:=put st.tmps d x,Dk:=FB st.Dk q (.mp l')}) (T:=fun i=>i=q) (Nw:=fun _=>False) hM hP (fun b k _ h=>h) hE (fun _ h=>h.elim) (fun r' hr=>by rw[hr,hq];rfl) (fun i y hy=> ?_) rfl (fun h=>hx h _ _ _ _);rw[Ew]at hy;by_cases hi:i=q
 ·right;rw[if_pos hi]at hy;injection hy with hy;subst hy;subst hi;refine⟨(⟨r,es',ck',hm,hb1,hO,hs,fun j p hp=> ?_⟩:J3 O _ i (m i) l'),hS.ids i _ hq⟩;obtain⟨e,k1,k2,k3⟩:=hes j p hp;exact⟨e,k1,k2.Eg hpr,k3.Eg hpr⟩
 ·left;rw[if_neg hi]at hy;exact⟨hi,hy,rfl⟩
theorem AiF {t:Nat} {r:Option Operand} {xs:List A} (hC:TOk P C) (hS:Sim V0 O0 w0 O m st a w) {d:Nat} (hd:o.dst=some d) (ho:o.op= .makeMap t r) (hr:xs.length=r.toArray.size) (hok:D8 (SA C d t xs).ok) (hfr: ∀ p∈(SA C d t xs).new,st.fresh p.1=true) :
 Good P V0 O0 w0 (apply st o (SA C d t xs)) o a w:=by
 intro next Q hn
 unfold SA at *
 obtain⟨ti,kt,et,ta,tb,ht,hd',hta,htb,he⟩:=nZ hok;rw[he]at hok hfr hn;clear he;have hx:xs=[]:=by simpa using hok.cons.1
 subst hx;have hr0:r=none:=by cases r with | none=>rfl | some _=>simp at hr
 subst hr0;have hfresh:=GU (hfr _ List.mem_cons_self);have hrun:(execOp a.eval o).run P w= .ok (.value (.map (some w.heap.size))) (w.alloc (.map #[] 0)):=by have:(Instr.makeMap t none).run P w= .ok (.map (some w.heap.size)) (w.alloc (.map #[] 0)):=rfl;simp only[execOp,ho,Option.map_none,Sem.run_bind,this,Result.andThen_ok,Sem.run_pure]
 unfold Oper.wp;rw[hrun,Oper.upon_value,hd];let id:=b2 d;let O':Own:=fun b k=>if b=w.heap.size then some id else O b k;let m':Nat->Value:=fun i=>if i=id then .map (some w.heap.size)else m i;have hlt: ∀ {b k},b<w.heap.size->O' b k=O b k:=fun hb=>if_neg (Nat.ne_of_lt hb);have hM:Moves O (fun _=>False) w (w.alloc (.map #[] 0)):=Moves.push _;have hP:Passes O O' (fun _=>False) w.heap.size:=⟨fun b k hb h=>by rw[hlt hb];exact h,fun b k q hb h _=>by rw[hlt hb];exact h⟩
 let ob:Vm.Obj:=.mp ⟨tyl ta.cs,tyl tb.cs,[]⟩;have hget: ∀ i y,Dy (FB st.Dk id ob) i=some y->(i=id/\y=ob)\/(i≠id/\Dy st.Dk i=some y):=by all_goals grind[Ew]
 have hE:LY st.Dk m (FB st.Dk id ob) m' (fun i=>i=id):=by
  intro i y hy;rcases hget i y hy with ⟨h1,_⟩ | ⟨h1,h2⟩
  ·exact .inl h1
  ·exact .inr ⟨y,h2,rfl,if_neg h1⟩
 refine hn O' m' _ _ ?_;have happ: ∀ ok,apply st o {ok:=ok,val:=.own (b2 d),new:=[(b2 d,ob)]}= {tmps:=put st.tmps (some d) (.own id),Dk:=FB st.Dk id ob}:=by intro ok;unfold apply;rw[hd];rfl
 rw[happ];refine hS.next (st':= {tmps:=put st.tmps (some d) (.own id),Dk:=FB st.Dk id ob}) (x:=.own id) (T:=fun _=>False) (Nw:=fun i=>i=id) hM hP (fun b k hb h=>by rw[hlt hb]at h;exact h) hE (fun n hn=>by rw[hn];exact hfresh.both) (fun _ h=>h.elim) (fun i y hy=> ?_) rfl (fun _=> ?_)
 ·rcases hget i y hy with ⟨h1,h2⟩ | ⟨h1,h2⟩
  ·right;subst h1;subst h2;refine⟨(⟨w.heap.size,#[],0,if_pos rfl,nG _ _,if_pos rfl,rfl,fun i p hp=>by cases hp⟩:J3 O' _ id (m' id) _),hfresh.ne⟩
  ·exact .inl ⟨fun h=>h,h2,if_neg h1⟩
 ·refine⟨rfl,?_⟩;all_goals grind[Dy,FB,Obj.shp,Ew]
theorem Aqz {α :Type} {l:List α} {j:Nat} {x: α} {i:Nat} {p: α} (h:(l.set j x)[i]? =some p):(i=j/\p=x/\j<l.length)\/(i≠j/\l[i]? =some p):=by grind[split]
theorem Abl {t:Nat} {x i y:Operand} (hC:TOk P C) (hS:Sim V0 O0 w0 O m st a w) (hd:o.dst=none) (ho:o.op= .mapUpdate t x i y\/o.op= .insert t x i y) {fet:Fet} (hf:Jm st.Dk fet) {x' i' y':A} (hx:DI O st.Dk m w (a.eval x) x') (hi:DI O st.Dk m w (a.eval i) i') (hy:DI O st.Dk m w (a.eval y) y')
 (hok:D8 (kY C fet t x' i' y').ok):Good P V0 O0 w0 (apply st o (kY C fet t x' i' y')) o a w:=by
 intro next Q hn
 have hF:FOk O st.Dk m w fet:=fun q x h=>⟨hf q x h,hS.Dk q x (hf q x h)⟩
 unfold kY at *
 obtain⟨ti,kt,et,ta,tb,ht,hd',hta,htb,he⟩:=nZ hok;rw[he]at hok hn;clear he;obtain⟨p,hp,he⟩:=DY hok;rw[he]at hok hn;clear he;obtain⟨hokA,hokB⟩:=hok.append;have hmk:=hokB.cons.1;obtain⟨hokA,hokP⟩:=hokA.append;obtain⟨hok1,hokV⟩:=hokA.append;obtain⟨hv1,hokV⟩:=hokV.cons;have hv2:=hokV.cons.1;obtain⟨hq,hv,hM⟩:=Ah3 hF hx hp;obtain⟨hK,hk,hone,hvt⟩:=Ai8 hC hta hi hok1;obtain⟨hyc1,hyc2⟩:=hy.cells hv1;obtain⟨g1,g2,g3,g4⟩:=Qk (O:=O) (m:=m) (w:=w) hf tb.cs y'.cells (fun j=>(a.eval y).cells.getD j undef) hyc2 hokP;generalize hpu:ED fet tb.cs y'.cells=pu at *
 obtain⟨O1,hS1,hp1,hle1,hv1',hE1,hk1⟩:=hS.freezes _ g3;have hNR:NR st.Dk p.1:=.of hq (fun _ _ _ h=>by cases h)
 have hq1:Dy (DJ st.Dk pu.2.2) p.1=some (.mp p.2):=by
  rw[Gp _ _ _ (fun z hz e=> ?_)]
  ·exact hq
  ·obtain⟨e',f',l',h1,_⟩:=g3 z hz;rw[e]at h1;exact hNR _ _ _ h1
 obtain⟨r,es,ck,h1,h2,h3,h4,h5⟩:=(show J3 O1 w p.1 (m p.1) p.2 from hS1.Dk p.1 _ hq1).lists;have hu:=(hC.is ht).d;rw[hd']at hu;have hM0:=hM.lists;obtain⟨r0,es0,ck0,k1,k2,k3,k4,k5⟩:=hM0;rw[h1]at k1;injection k1 with k1;injection k1 with k1;subst k1;rw[h2]at k2;injection k2 with k2;injection k2 with k2 k2';subst k2;subst k2';have hfind:=hK.find (a.eval i) _ es.toList p.2.l hk k4 (fun i e p he hp=>(k5 i e p he hp).1);have hchk:=hK.check false (a.eval i) _ hk;have hk':H8 O1 w (a.eval i) (JE (p.2.kt.cells (p.2.kt.mk i'.cells).2)):=hk.Eg hp1;have hcells:=Ty.Ox _ _ hmk;have hval:H8 O1 w (a.eval y) (JE (p.2.vt.cells (p.2.vt.mk pu.2.1).2)):=by rw[hcells];refine AkP (Dk:=st.Dk) hv2 hv1 hy (by rw[g1,g2]) (fun j hj=>g4 hp1 hv1' j (by rw[<- g1];exact hj))
 have happ: ∀ ok l',apply st o {ok:=ok,val:=.undef,upd:=pu.2.2++[(p.1,.mp l')]}= {tmps:=put st.tmps none .undef,Dk:=FB (DJ st.Dk pu.2.2) p.1 (.mp l')}:=by
  intro ok l';unfold apply;rw[hd]
  have: ∀(u:List (Nat×Vm.Obj)) (l:List (Nat×Vm.Obj)) n z,DJ l (u++[(n,z)])=FB (DJ l u) n z:=by
   intro u
   induction u with
   | nil=>intro l n z;rfl
   | cons q u ih=>intro l n z;exact ih _ _ _
  show St.mk _ (DJ (Es (DJ st.Dk (pu.2.2++[(p.1,.mp l')])) []) [])=_;rw[this];rfl
 rcases AbL (k:=(p.2.kt.mk i'.cells).2) es.toList p.2.l 0 k4 with ⟨f1,_,f3,_⟩ | ⟨j,e,q,f1,f2,f3,f4,_,f6,_⟩
 ·have hrun:(execOp a.eval o).run P w= .ok .skip {w with heap:=w.heap.setIfInBounds r (.map (es.push {key:=a.eval i,val:=a.eval y,born:=ck}) (ck+1))}:=by
   have:(Instr.mapUpdate t (a.eval x) (a.eval i) (a.eval y)).run P w= .ok () {w with heap:=w.heap.setIfInBounds r (.map (es.push {key:=a.eval i,val:=a.eval y,born:=ck}) (ck+1))}:=by rw[hv,h1];simp [Instr.mapUpdate,run_underlying hu,QA h2,hchk,hfind,f1,Yo _ h2,Result.andThen]
   rcases ho with ho | ho<;>simp only[execOp,ho,Sem.run_bind,this,Result.andThen_ok,Sem.run_pure]
  unfold Oper.wp;rw[hrun,Oper.upon_skip,hd];refine hn O1 m _ _ ?_;rw[happ];refine oW hS1 (d:=none) (v:=undef) hq1 h1 h2 h3 (by rw[f3,Array.size_push,List.length_append,<- k4,Array.length_toList];rfl) (fun i0 p0 hp0=> ?_) (fun h=>absurd rfl h);have hp0:(Xy p.2.kt (p.2.kt.mk i'.cells).2 (p.2.vt.mk pu.2.1).2 p.2.l)[i0]? =some p0:=hp0;rw[f3]at hp0;have hsz:es.size=p.2.l.length:=by rw[<- k4,Array.length_toList]
  rcases Nat.lt_or_ge i0 p.2.l.length with hlt | hge
  ·rw[List.getElem?_append_left hlt]at hp0;have hlt':i0<es.size:=by omega
   have hes:es.toList[i0]? =some es[i0]:=by rw[Array.getElem?_toList,Array.getElem?_eq_getElem hlt']
   refine⟨es[i0],by rw[Array.getElem?_push,if_neg (by omega),Array.getElem?_eq_getElem hlt'],h5 i0 _ p0 hes hp0⟩
  ·rw[List.getElem?_append_right hge]at hp0
   have h0:i0 - p.2.l.length=0:=by
    rcases Nat.eq_zero_or_pos (i0 - p.2.l.length)with h | h
    ·exact h
    ·rw[List.getElem?_eq_none (by show 1<=_;omega)]at hp0;cases hp0
   rw[h0]at hp0;injection hp0 with hp0;subst hp0;exact⟨_,by rw[Array.getElem?_push,if_pos (by omega)],hk',hval⟩
 ·have hstay:=hK.stays (a.eval i) e.key _ hk (by rw[<- f4];exact(k5 j e q f2 f3).1);have f2':es[j]? =some e:=by rw[<- Array.getElem?_toList];exact f2
  have hrun:(execOp a.eval o).run P w= .ok .skip {w with heap:=w.heap.setIfInBounds r (.map (es.modify j fun e=> {e with key:=a.eval i,val:=a.eval y}) ck)}:=by
   have:(Instr.mapUpdate t (a.eval x) (a.eval i) (a.eval y)).run P w= .ok () {w with heap:=w.heap.setIfInBounds r (.map (es.modify j fun e=> {e with key:=a.eval i,val:=a.eval y}) ck)}:=by rw[hv,h1];simp [Instr.mapUpdate,run_underlying hu,QA h2,hchk,hfind,f1,f2',hstay,Yo _ h2,Result.andThen]
   rcases ho with ho | ho<;>simp only[execOp,ho,Sem.run_bind,this,Result.andThen_ok,Sem.run_pure]
  unfold Oper.wp;rw[hrun,Oper.upon_skip,hd];refine hn O1 m _ _ ?_;rw[happ];refine oW hS1 (d:=none) (v:=undef) hq1 h1 h2 h3 (by rw[f6,Array.size_modify,List.length_set,<- k4,Array.length_toList]) (fun i0 p0 hp0=> ?_) (fun h=>absurd rfl h);have hp0:(Xy p.2.kt (p.2.kt.mk i'.cells).2 (p.2.vt.mk pu.2.1).2 p.2.l)[i0]? =some p0:=hp0;rw[f6]at hp0;rcases Aqz hp0 with ⟨q1,q2,_⟩ | ⟨q1,q2⟩
  ·subst q1;subst q2;refine⟨_,by rw[Array.getElem?_modify,if_pos rfl,f2'];rfl,?_,hval⟩;dsimp only;rw[f4];exact hk'
  ·have hlt:i0<es.size:=by
    have:=(List.getElem?_eq_some_iff.1 q2).1;rw[<- k4,Array.length_toList]at this;exact this
   have hes:es.toList[i0]? =some es[i0]:=by rw[Array.getElem?_toList,Array.getElem?_eq_getElem hlt]
   exact⟨es[i0],by rw[Array.getElem?_modify,if_neg (fun h=>q1 h.symm),Array.getElem?_eq_getElem hlt],h5 i0 _ p0 hes q2⟩
theorem AjK {t:Nat} {x i:Operand} {c:Call} (hC:TOk P C) (hS:Sim V0 O0 w0 O m st a w) (ho:o.op= .call c) (hcal:c.callee= .builtin .delete) (hargs:c.args= #[x,i]) {ts:List Nat} (hts:c.argTypes.toList=t::ts) {fet:Fet} (hf:Jm st.Dk fet) {x' i':A} (hx:DI O st.Dk m w (a.eval x) x') (hi:DI O st.Dk m w (a.eval i) i')
 (hok:D8 (jF C fet t x' i').ok):Good P V0 O0 w0 (apply st o (jF C fet t x' i')) o a w:=by
 intro next Q hn
 have hF:FOk O st.Dk m w fet:=fun q x h=>⟨hf q x h,hS.Dk q x (hf q x h)⟩
 unfold jF at *
 obtain⟨ti,kt,et,ta,tb,ht,hd',hta,htb,he⟩:=nZ hok;rw[he]at hok hn;clear he;obtain⟨p,hp,he⟩:=DY hok;rw[he]at hok hn;clear he;obtain⟨hq,hv,hM⟩:=Ah3 hF hx hp;obtain⟨hK,hk,hone,hvt⟩:=Ai8 hC hta hi hok;obtain⟨r,es,ck,h1,h2,h3,h4,h5⟩:=hM.lists;have hu:=(hC.is ht).d;rw[hd']at hu;have hts0:c.argTypes[0]? =some t:=by rw[<- Array.getElem?_toList,hts];rfl
 have hfind:=hK.find (a.eval i) _ es.toList p.2.l hk h4 (fun i e p he hp=>(h5 i e p he hp).1);have hchk:=hK.check es.isEmpty (a.eval i) _ hk;have happ: ∀ ok l',apply st o {ok:=ok,val:=.tup [],upd:=[(p.1,.mp l')]}= {tmps:=put st.tmps o.dst (.tup []),Dk:=FB st.Dk p.1 (.mp l')}:=by intro ok l';rfl
 have hT: ∀(O':Own) (objs':List (Nat×Vm.Obj)) (m':Nat->Value) (w':World),DI O' objs' m' w' (.tuple #[]) (.tup []):=fun _ _ _ _=>⟨#[],rfl,rfl,fun j hj=>by cases hj⟩
 have main: ∀(es':Array MapEntry),(Builtin.delete_ c.argTypes o.type #[a.eval x,a.eval i]).run P w= .ok (.tuple #[]) {w with heap:=w.heap.setIfInBounds r (.map es' ck)}->es'.size=(fE p.2.kt (p.2.kt.mk i'.cells).2 p.2.l).length ->
  (∀(i0:Nat) (p0:p.2.kt.Val×p.2.vt.Val),(fE p.2.kt (p.2.kt.mk i'.cells).2 p.2.l)[i0]? =some p0-> ∃ e,es'[i0]? =some e/\H8 O w e.key (JE (p.2.kt.cells p0.1))/\H8 O w e.val (JE (p.2.vt.cells p0.2)))->o.wp P a w next Q:=by
  intro es' hr hs he;have hrun:(execOp a.eval o).run P w= .ok (.value (.tuple #[])) {w with heap:=w.heap.setIfInBounds r (.map es' ck)}:=by simp [execOp,ho,resolve,hcal,hargs,invoke,builtin,hr]
  unfold Oper.wp;rw[hrun,Oper.upon_value];refine hn O m _ _ ?_;rw[happ];exact oW (l':=⟨p.2.kt,p.2.vt,fE p.2.kt (p.2.kt.mk i'.cells).2 p.2.l⟩) hS hq (by rw[<- h1]) h2 h3 hs he (fun _=>hT)
 have hsz:es.size=p.2.l.length:=by rw[<- h4,Array.length_toList]
 rcases AbL (k:=(p.2.kt.mk i'.cells).2) es.toList p.2.l 0 h4 with ⟨f1,_,_,f3⟩ | ⟨j,e,q,f1,f2,f3,f4,_,_,f6⟩
 ·refine main es ?_ (by rw[f3];exact hsz) (fun i0 p0 hp0=> ?_)
  ·rw[hv,h1];simp [Builtin.delete_,hts0,run_underlying hu,QA h2,hchk,hfind,f1,Yo _ h2,Result.andThen]
  ·rw[f3]at hp0;have hlt:i0<es.size:=by have:=(List.getElem?_eq_some_iff.1 hp0).1;omega
   have hes:es.toList[i0]? =some es[i0]:=by rw[Array.getElem?_toList,Array.getElem?_eq_getElem hlt]
   exact⟨es[i0],Array.getElem?_eq_getElem hlt,h5 i0 _ p0 hes hp0⟩
 ·have hj:j<es.size:=by
   have:=(List.getElem?_eq_some_iff.1 f2).1;simpa using this
  have hel:(es.eraseIdxIfInBounds j).toList=es.toList.eraseIdx j:=by unfold Array.eraseIdxIfInBounds;rw[dif_pos hj];simp
  refine main (es.eraseIdxIfInBounds j) ?_ ?_ (fun i0 p0 hp0=> ?_)
  ·rw[hv,h1];simp [Builtin.delete_,hts0,run_underlying hu,QA h2,hchk,hfind,f1,Yo _ h2,Result.andThen]
  all_goals grind[H8,JE,split]
end
end Go.Proofs.YtfgdgdnlglejbaaGreatDoor.Vm
namespace Go.Proofs.YtfgdgdnlglejbaaGreatDoor.Vm
open Classical
def IC (O:Own) (w:World) (id:Nat) (v:Value):A->Prop
 | .usl z e l=>Fp O [] (fun _=>v) w id (.arr e z l)
 | .box cs=> ∃ b base,v= .pointer (some (at' b base))/\ ∀ j,j<cs.length->O b (base+j)=some id/\w.frozen? (at' b (base+j))=false/\ ∃ u,w.cell? (at' b (base+j))=some u/\D6 O w u (cs.getD j .undef)
 | a=>D6 O w v a
def IR (O:Own) (w:World) (id:Nat) (v:Value):A->Prop
 | .agg cs=> ∃ vs:Array Value,v= .agg vs/\vs.size=cs.length/\ ∀ j,j<cs.length->IC O w (id+1+j) (vs.getD j undef) (cs.getD j .undef)
 | .box cs=> ∃ b base,v= .pointer (some (at' b base))/\ ∀ j,j<cs.length->O b (base+j)=some id/\w.frozen? (at' b (base+j))=false/\ ∃ u,w.cell? (at' b (base+j))=some u/\IC O w (id+1+j) u (cs.getD j .undef)
 | .cbx k cs=> ∃ b base,XU O w k v (.pointer (some (at' b base)))/\ ∀ j,j<cs.length->O b (base+j)=some id/\w.frozen? (at' b (base+j))=false/\ ∃ u,w.cell? (at' b (base+j))=some u/\IC O w (id+1+j) u (cs.getD j .undef)
 | .ump l=>J3 O w id v l
 | a=>IC O w id v a
section
variable {P:Program} {C:Ctx} {V0:Nat->Value} {O0 O:Own} {w0 w:World} {m:Nat->Value} {st:St} {a:Act} {o:Oper}
theorem D6.ic {id:Nat} {v:Value} {x:A} (h:D6 O w v x):IC O w id v x:=by cases h<;>first | exact .bool _ | exact .int _ _ | exact .str _ | exact .nil _ | exact .FX | exact .fn _ | exact .bM | exact D6.sl0 _ _ | (rename_i vs a1 a2 a3;exact D6.sl vs a1 a2 a3) | (rename_i h hn;exact D6.sln h hn)
def Jn (O:Own) (ρ :Nat->Option Nat):Own:=fun b k=>match O b k with
 | none=>none
 | some o=>match ρ o with
  | some i=>some i
  | none=>some 255
theorem UB {ρ :Nat->Option Nat} {b k:Nat}:Jn O ρ b k=none↔O b k=none:=by grind[Jn]
theorem QN {ρ :Nat->Option Nat} {b k o i:Nat} (h:O b k=some o) (hr: ρ o=some i):Jn O ρ b k=some i:=by unfold Jn;rw[h];simp [hr]
theorem QM (ρ :Nat->Option Nat):GN O w (Jn O ρ) w:=fun _ _ _ h hc=>⟨UB.2 h,hc⟩
theorem Fp.Jn {ρ :Nat->Option Nat} {q i e:Nat} {z:Bool} {l:Sl} {Dk objs':List (Nat×Obj)} {m m':Nat->Value} (h:Fp O Dk m w q (.arr e z l)) (hr: ρ q=some i) (hm:m' i=m q) :
 Fp (Jn O ρ) objs' m' w i (.arr e z l):=by
 refine⟨h.1,?_⟩;rcases h.2 with ⟨h1,h2,h3⟩ | ⟨h1,g,cap,cur,h2,h3,h4,h5,h6,h7,h8,h9⟩
 ·exact .inl ⟨h1,h2,by rw[hm];exact h3⟩
 ·refine .inr ⟨h1,g,cap,cur,by rw[hm];exact h2,h3,h4,h5,h6,fun r j hr' hj=> ?_,fun k hk hge=>QN (h8 k hk hge) hr,fun k hk=> ?_⟩
  ·obtain⟨u,h10,h11⟩:=h7 r j hr' hj;exact⟨u,h10,h11.Eg (QM ρ)⟩
  ·have:=h9 k hk;cases z with
   | true=>exact UB.2 this
   | false=>exact QN this hr
theorem Fp.keep {O':Own} {q e:Nat} {l:Sl} {Dk objs':List (Nat×Obj)} {m:Nat->Value} (h:Fp O Dk m w q (.arr e false l)) (hp:GN O w O' w) (hk: ∀ b k,O b k=some q->O' b k=some q):Fp O' objs' m w q (.arr e false l):=by
 refine⟨h.1,?_⟩;rcases h.2 with h0 | ⟨h1,g,cap,cur,h2,h3,h4,h5,h6,h7,h8,h9⟩
 ·exact .inl h0
 ·refine .inr ⟨h1,g,cap,cur,h2,h3,h4,h5,h6,fun r j hr' hj=> ?_,fun k a b=>hk _ _ (h8 k a b),fun k a=>hk _ _ (h9 k a)⟩;obtain⟨u,h10,h11⟩:=h7 r j hr' hj;exact⟨u,h10,h11.Eg hp⟩
theorem QC {W:Prop} {fet:Fet} (hf:Jm st.Dk fet) (hS: ∀ q y,Dy st.Dk q=some y->Fp O st.Dk m w q y): ∀(ks:List (Bool×CK)) (cs:List A) (id:Nat) (f:Nat->Value),(ks.any wC=true->W)->(∀ j,j<cs.length->DR O st.Dk m w (f j) (cs.getD j .undef))->D8 (D9 fet ks cs).1 ->
 (D9 fet ks cs).2.1.length=ks.length/\cs.length=ks.length/\Frz st.Dk (D9 fet ks cs).2.2.1/\(D9 fet ks cs).2.2.2=(FH id ks cs).map (·.1) /\
 ∀ {O':Own} {objs':List (Nat×Obj)} {ρ :Nat->Option Nat},GN O w O' w->(∀ p∈(D9 fet ks cs).2.2.1,∀ e l,p.2= .arr e true l->D6 O' w (m p.1) (.sl l)) ->
  (∀ p∈(D9 fet ks cs).2.2.1,Fp O' objs' m w p.1 p.2)->(∀ b k q,O b k=some q->(NR st.Dk q\/W)->O' b k=some q)->(∀ p∈FH id ks cs,ρ p.1=some p.2) ->
  ∀ j,j<ks.length->IC (Jn O' ρ) w (id+j) (f j) ((D9 fet ks cs).2.1.getD j .undef):=by
 intro ks
 induction ks with
 | nil =>
  intro cs id f _ _ hok;cases cs with
  | nil=>exact⟨rfl,rfl,(fun p hp=>by simp [D9]at hp),rfl,fun _ _ _ _ _ j hj=>by simp at hj⟩
  | cons _ _=>have:=hok false (by simp [D9]);cases this
 | cons k ks ih =>
  intro cs id f hW h hok;obtain⟨u,k⟩:=k;cases cs with
  | nil=>have:=hok false (by cases u<;>simp [D9]);cases this
  | cons c cs =>
   have hrest:=fun hok2=>ih cs (id+1) (fun j=>f (j+1)) (fun h=>hW (by rw[List.any_cons,h,Bool.or_true])) (fun j hj=>by simpa using h (j+1) (by simpa using hj)) hok2;cases u with
   | false =>
    simp only[D9]at hok ⊢;obtain⟨hok1,hok2⟩:=hok.append;obtain⟨h1,h2⟩:=Ajc hf (h 0 (by simp)) hok1;obtain⟨h3,h4,h5,h6,h7⟩:=hrest hok2;have hnames:FH id ((false,k)::ks) (c::cs)=FH (id+1) ks cs:=by cases c<;>rfl
    refine⟨by simp [h3],by simp [h4],h1.append h5,by rw[hnames];exact h6,fun {O' objs' ρ} hp hv hO hbx hρ j hj=> ?_⟩;rw[hnames]at hρ;cases j with
    | zero =>have hvr:=(h2 hp (fun p hp=>hv p (List.mem_append_left _ hp))).Eg (QM ρ);exact hvr.ic
    | succ j =>have:=h7 hp (fun p hp=>hv p (List.mem_append_right _ hp)) (fun p hp=>hO p (List.mem_append_right _ hp)) hbx hρ j (by simpa using hj);rw[show id+(j+1)=id+1+j from by omega];simpa using this
   | true =>
    cases k with
    | sl e sz =>
     cases c with
     | own q =>
      simp only[D9]at hok ⊢;cases hg:Dy fet q with
      | none=>rw[hg]at hok;have:=hok false (by simp);cases this
      | some x =>
       cases x with
       | box _=>rw[hg]at hok;have:=hok false (by simp);cases this
       | mp _=>rw[hg]at hok;have:=hok false (by simp);cases this
       | arr e' fz l =>
        rw[hg]at hok;dsimp only at hok ⊢;obtain⟨hok1,hok2⟩:=hok.append;obtain⟨e1,e2⟩:=hok1.cons;have e1:=Nat.eq_of_beq_eq_true e1;subst e1;obtain⟨h3,h4,h5,h6,h7⟩:=hrest hok2;have hq:=hf q _ hg;refine⟨by simp [h3],by simp [h4],fun p hp=> ?_,?_,fun {O' objs' ρ} hp hv hO hbx hρ j hj=> ?_⟩
        ·rcases List.mem_cons.1 hp with rfl | hp
         ·exact⟨e,fz,l,hq,rfl⟩
         ·exact h5 p hp
        ·simp only[FH,List.map_cons,h6]
        ·cases j with
         | zero =>have hc:DR O st.Dk m w (f 0) (.own q):=h 0 (by simp);have hc:=hc.2;rw[hq]at hc;simp only[Option.map_some,Obj.shp]at hc;have:=hO _ List.mem_cons_self;exact this.Jn (objs':=[]) (m':=fun _=>f 0) (hρ (q,id) List.mem_cons_self) hc
         | succ j =>have:=h7 hp (fun p hp=>hv p (List.mem_cons_of_mem _ hp)) (fun p hp=>hO p (List.mem_cons_of_mem _ hp)) hbx (fun p hp=>hρ p (List.mem_cons_of_mem _ hp)) j (by simpa using hj);rw[show id+(j+1)=id+1+j from by omega];simpa using this
     | Fj =>
      simp only[D9]at hok ⊢;obtain⟨h3,h4,h5,h6,h7⟩:=hrest hok;have hnames:FH id ((true,.sl e sz)::ks) (.Fj::cs)=FH (id+1) ks cs:=rfl;refine⟨by simp [h3],by simp [h4],h5,by rw[hnames];exact h6,fun {O' objs' ρ} hp hv hO hbx hρ j hj=> ?_⟩;rw[hnames]at hρ;cases j with
      | zero =>have hc:DR O st.Dk m w (f 0) .Fj:=h 0 (by simp);have hc:f 0= .slice none 0 0:=hc;show Fp _ [] (fun _=>f 0) w _ (.arr e true ⟨sz,[]⟩);exact⟨by simp [Sl.es],.inl ⟨trivial,rfl,hc⟩⟩
      | succ j =>have:=h7 hp hv hO hbx hρ j (by simpa using hj);rw[show id+(j+1)=id+1+j from by omega];simpa using this
     | _=>have:=hok false (by simp [D9]);cases this
    | sln e sz =>
     cases c with
     | own q =>
      simp only[D9]at hok ⊢;cases hg:Dy fet q with
      | none=>rw[hg]at hok;have:=hok false (by simp);cases this
      | some x =>
       cases x with
       | box _=>rw[hg]at hok;have:=hok false (by simp);cases this
       | mp _=>rw[hg]at hok;have:=hok false (by simp);cases this
       | arr e' fz l =>
        rw[hg]at hok;dsimp only at hok ⊢;obtain⟨hok1,hok2⟩:=hok.append;obtain⟨e1,e2⟩:=hok1.cons;obtain⟨_,e3⟩:=e2.cons;have e3:fz=false:=by simpa using e3.cons.1
        subst e3;have e1:=Nat.eq_of_beq_eq_true e1;subst e1;obtain⟨h3,h4,h5,h6,h7⟩:=hrest hok2;have hq:=hf q _ hg;refine⟨by simp [h3],by simp [h4],h5,?_,fun {O' objs' ρ} hp hv hO hbx hρ j hj=> ?_⟩
        ·simp only[FH,List.map_cons,h6]
        ·cases j with
         | zero =>have hc:DR O st.Dk m w (f 0) (.own q):=h 0 (by simp);have hc:=hc.2;rw[hq]at hc;simp only[Option.map_some,Obj.shp]at hc;exact(Fp.keep (objs':=st.Dk) (hS q _ hq) hp fun b k hb=>hbx b k q hb (.inr (hW rfl))).Jn (objs':=[]) (m':=fun _=>f 0) (hρ (q,id) List.mem_cons_self) hc
         | succ j =>have:=h7 hp hv hO hbx (fun p hp=>hρ p (List.mem_cons_of_mem _ hp)) j (by simpa using hj);rw[show id+(j+1)=id+1+j from by omega];simpa using this
     | Fj =>
      simp only[D9]at hok ⊢;obtain⟨h3,h4,h5,h6,h7⟩:=hrest hok;have hnames:FH id ((true,.sln e sz)::ks) (.Fj::cs)=FH (id+1) ks cs:=rfl;refine⟨by simp [h3],by simp [h4],h5,by rw[hnames];exact h6,fun {O' objs' ρ} hp hv hO hbx hρ j hj=> ?_⟩;rw[hnames]at hρ;cases j with
      | zero =>have hc:DR O st.Dk m w (f 0) .Fj:=h 0 (by simp);have hc:f 0= .slice none 0 0:=hc;show Fp _ [] (fun _=>f 0) w _ (.arr e false ⟨sz,[]⟩);exact⟨by simp [Sl.es],.inl ⟨trivial,rfl,hc⟩⟩
      | succ j =>have:=h7 hp hv hO hbx hρ j (by simpa using hj);rw[show id+(j+1)=id+1+j from by omega];simpa using this
     | _=>have:=hok false (by simp [D9]);cases this
    | bx t =>
     cases c with
     | ptr q off =>
      simp only[D9]at hok ⊢;cases hg:Gf fet q with
      | none=>rw[hg]at hok;have:=hok false (by simp);cases this
      | some zs =>
       rw[hg]at hok;dsimp only at hok ⊢;obtain⟨hok0,hok1⟩:=hok.cons;obtain⟨hok1,hok2⟩:=hok1.append;have hok0:=Nat.eq_of_beq_eq_true hok0;subst hok0;obtain⟨h3,h4,h5,h6,h7⟩:=hrest hok2;have hq:=hf q _ (FK hg);obtain⟨b,base,g1,g2⟩:=hS q _ hq;have hv0:f 0= .pointer (some (at' b base)):=by have hc:DR O st.Dk m w (f 0) (.ptr q 0):=h 0 (by simp);have hc:=hc.2;rw[hq]at hc;simp only[Option.map_some,Obj.shp]at hc;obtain⟨b',base',g3,g4⟩:=hc;rw[g1]at g3;injection g3 with g3;injection g3 with g3;injection g3 with e1 e2;subst e1;subst e2;exact g4
       have hfc: ∀ j,j<zs.length->w.cell? (at' b (base+j))=some ((w.cell? (at' b (base+j))).getD undef)/\DR O st.Dk m w ((w.cell? (at' b (base+j))).getD undef) (zs.getD j .undef):=by intro j hj;obtain⟨_,_,u,h3,h4⟩:=g2 j hj;rw[h3];exact⟨rfl,h4⟩
       obtain⟨p1,p2,p3,p4⟩:=Qk hf (tck t) zs (fun j=>(w.cell? (at' b (base+j))).getD undef) (fun j hj=>(hfc j hj).2) hok1;refine⟨by simp [h3],by simp [h4],p3.append h5,?_,fun {O' objs' ρ} hp hv hO hbx hρ j hj=> ?_⟩
       ·simp only[FH,List.map_cons,h6]
       ·cases j with
        | zero =>
         refine⟨b,base,hv0,fun j hj=> ?_⟩;have hj:j<(ED fet (tck t) zs).2.1.length:=hj;rw[p1]at hj;have hj':j<zs.length:=by rw[p2];exact hj
         obtain⟨k1,k2,_⟩:=g2 j hj';exact⟨QN (hbx _ _ _ k1 (.inl (.of hq (fun _ _ _ h=>by cases h)))) (hρ (q,id) List.mem_cons_self),k2,_,(hfc j hj').1,(p4 hp (fun p hp=>hv p (List.mem_append_left _ hp)) j hj).Eg (QM ρ)⟩
        | succ j =>have:=h7 hp (fun p hp=>hv p (List.mem_append_right _ hp)) (fun p hp=>hO p (List.mem_append_right _ hp)) hbx (fun p hp=>hρ p (List.mem_cons_of_mem _ hp)) j (by simpa using hj);rw[show id+(j+1)=id+1+j from by omega];simpa using this
     | _=>have:=hok false (by simp [D9]);cases this
    | _=>have:=hok false (by simp [D9]);cases this
end
end Go.Proofs.YtfgdgdnlglejbaaGreatDoor.Vm
namespace Go.Proofs.YtfgdgdnlglejbaaGreatDoor.Vm
open Classical
section
variable {P:Program} {C:Ctx} {V0:Nat->Value} {O0 O:Own} {w0 w:World} {m:Nat->Value} {st:St} {a:Act} {o:Oper}
theorem Aiv {W:Prop} {fet:Fet} (hf:Jm st.Dk fet) {s:Sh} {x:A} {v:Value} {id:Nat} (hW:wS s=true->W) (hx:DI O st.Dk m w v x) (hS: ∀ q y,Dy st.Dk q=some y->Fp O st.Dk m w q y) (hok:D8 (Ec fet s x).ok) :
 Frz st.Dk (Ec fet s x).upd/\(∀ q∈(Ec fet s x).del++(Ec fet s x).boxes.map (·.1),q∈(Jf fet id s x).map (·.1))/\(∀ q∈(Jf fet id s x).map (·.1),q∈(Ec fet s x).del++(Ec fet s x).boxes.map (·.1)) /\
 (E5 s=true↔(Ec fet s x).boxes≠ []) /\
 ∀ {O':Own} {objs':List (Nat×Obj)} {ρ :Nat->Option Nat},GN O w O' w->(∀ p∈(Ec fet s x).upd,∀ e l,p.2= .arr e true l->D6 O' w (m p.1) (.sl l)) ->
  (∀ p∈(Ec fet s x).upd,Fp O' objs' m w p.1 p.2)->(∀ b k q,O b k=some q->(NR st.Dk q\/W)->O' b k=some q)->(∀ p∈Jf fet id s x,ρ p.1=some p.2) ->
  IR (Jn O' ρ) w id v (Ec fet s x).a:=by
 cases s with
 | cell u k =>
  unfold Ec at *
  dsimp only at hok ⊢
  have hall: ∀ hc:DR O st.Dk m w v x,_:=fun hc=>QC hf hS [(u,k)] [x] id (fun _=>v) (fun h=>hW (by rw[List.any_cons,List.any_nil,Bool.or_false]at h;exact h)) (fun j hj=>by
   have:j=0:=by simpa using hj
   subst this;exact hc)
  have hnc: ∀(h:D8 (D9 fet [(u,k)] [x]).1),DR O st.Dk m w v x:=by
   intro h;cases x with
   | undef=>cases u<;>cases k<;>(have:=h false (by simp [D9,pur]);cases this)
   | agg _=>cases u<;>cases k<;>(have:=h false (by simp [D9,pur]);cases this)
   | tup _=>cases u<;>cases k<;>(have:=h false (by simp [D9,pur]);cases this)
   | cnd _ _=>cases u<;>cases k<;>(have:=h false (by simp [D9,pur]);cases this)
   | _=>exact hx
  generalize hh:D9 fet [(u,k)] [x]=r at *
  obtain⟨ok,cs,upd,del⟩:=r;cases cs with
  | nil=>have:=hok false (by simp);cases this
  | cons c cs =>
   cases cs with
   | cons _ _=>have:=hok false (by simp);cases this
   | nil =>
    dsimp only at hok ⊢;obtain⟨h1,h2,h3,h4,h5⟩:=hall (hnc hok) hok;have h4:del=(FH id [(u,k)] [x]).map (·.1):=h4;refine⟨h3,fun q hq=> ?_,fun q hq=> ?_,⟨(fun h=>by cases h),fun h=>absurd rfl h⟩,fun {O' objs' ρ} hp hv hO hbx hρ => ?_⟩
    ·simp only[List.map_nil,List.append_nil]at hq;rw[h4]at hq;exact hq
    ·simp only[List.map_nil,List.append_nil];rw[h4];exact hq
    ·have:=h5 hp hv hO hbx hρ 0 (by simp);have e: [c].getD 0 .undef=c:=rfl;dsimp only at this;rw[e]at this;cases c<;>first | exact this | (obtain⟨b,base,e1,e2⟩:=this;exact⟨b,base,e1,fun j hj=>let ⟨k1,k2,u,k3,k4⟩:=e2 j hj;⟨k1,k2,u,k3,k4.ic⟩⟩) | cases this
 | agg ks =>
  cases x with
  | agg cs =>
   unfold Ec at *
   dsimp only at hok ⊢;obtain⟨vs,g1,g2,g3⟩:=hx;obtain⟨h1,h2,h3,h4,h5⟩:=QC hf hS ks cs (id+1) (fun j=>vs.getD j undef) hW g3 hok;refine⟨h3,fun q hq=> ?_,fun q hq=> ?_,⟨(fun h=>by cases h),fun h=>absurd rfl h⟩,fun {O' objs' ρ} hp hv hO hbx hρ => ?_⟩
   ·simp only[List.map_nil,List.append_nil]at hq;rw[h4]at hq;exact hq
   ·simp only[List.map_nil,List.append_nil];rw[h4];exact hq
   ·exact⟨vs,g1,by rw[g2,h1,h2],fun j hj=>h5 hp hv hO hbx hρ j (by rw[<- h1];exact hj)⟩
  | _=>have:=hok false (by simp [Ec]);cases this
 | box ks =>
  cases x with
  | ptr q off =>
   unfold Ec at *
   dsimp only at hok ⊢;cases hg:Gf fet q with
   | none=>rw[hg]at hok;have:=hok false (by simp);cases this
   | some cs =>
    rw[hg]at hok;dsimp only at hok ⊢;obtain⟨ho0,hokA⟩:=hok.cons;obtain⟨_,hokB⟩:=hokA.cons;have ho0:=Nat.eq_of_beq_eq_true ho0;subst ho0;have hq:=hf q _ (FK hg);obtain⟨b,base,g1,g2⟩:=hS q _ hq;have hv0:v= .pointer (some (at' b base)):=by have hc:DR O st.Dk m w v (.ptr q 0):=hx;have hc:=hc.2;rw[hq]at hc;simp only[Option.map_some,Obj.shp]at hc;obtain⟨b',base',g3,g4⟩:=hc;rw[g1]at g3;injection g3 with g3;injection g3 with g3;injection g3 with e1 e2;subst e1;subst e2;exact g4
    let f:Nat->Value:=fun j=>(w.cell? (at' b (base+j))).getD undef
    have hfc: ∀ j,j<cs.length->w.cell? (at' b (base+j))=some (f j)/\DR O st.Dk m w (f j) (cs.getD j .undef):=by
     intro j hj;obtain⟨_,_,u,h3,h4⟩:=g2 j hj;have:f j=u:=by show(w.cell? _).getD _=_;rw[h3];rfl
     rw[this];exact⟨h3,h4⟩
    obtain⟨h1,h2,h3,h4,h5⟩:=QC hf hS ks cs (id+1) f hW (fun j hj=>(hfc j hj).2) hokB;have hnames:Jf fet id (.box ks) (.ptr q 0)=(q,id)::FH (id+1) ks cs:=by simp only[Jf,hg]
    rw[hnames];refine⟨h3,fun r hr=> ?_,fun r hr=> ?_,⟨fun _=>by simp,fun _=>rfl⟩,fun {O' objs' ρ} hp hv hO hbx hρ => ?_⟩
    ·simp only[List.map_cons,List.map_nil,List.mem_append,List.mem_singleton]at hr;rcases hr with hr | hr
     ·rw[h4]at hr;exact List.mem_cons_of_mem _ hr
     ·rw[hr];exact List.mem_cons_self
    ·simp only[List.map_cons,List.map_nil,List.mem_append,List.mem_singleton];rcases List.mem_cons.1 hr with hr | hr
     ·exact .inr hr
     ·left;rw[h4];exact hr
    ·refine⟨b,base,hv0,fun j hj=> ?_⟩;rw[h1]at hj;obtain⟨k1,k2,u,k3,_⟩:=g2 j (by rw[h2];exact hj);refine⟨QN (hbx _ _ _ k1 (.inl (.of hq (fun _ _ _ h=>by cases h)))) (hρ (q,id) List.mem_cons_self),k2,f j,(hfc j (by rw[h2];exact hj)).1,h5 hp hv hO hbx (fun p hp'=>hρ p (List.mem_cons_of_mem _ hp')) j hj⟩
  | _=>have:=hok false (by simp [Ec]);cases this
 | clo f' ks =>
  cases x with
  | clo g q =>
   unfold Ec at *
   dsimp only at hok ⊢;cases hg:Gf fet q with
   | none=>rw[hg]at hok;have:=hok false (by simp);cases this
   | some cs =>
    rw[hg]at hok;dsimp only at hok ⊢;obtain⟨ho0,hokA⟩:=hok.cons;obtain⟨_,hokB⟩:=hokA.cons;have ho0:=Nat.eq_of_beq_eq_true ho0;subst ho0;have hq:=hf q _ (FK hg);obtain⟨b,base,g1,g2⟩:=hS q _ hq;have hv0:XU O w f' v (.pointer (some (at' b base))):=by have hc:DR O st.Dk m w v (.clo f' q):=hx;obtain⟨_,p,_,hc2,hc⟩:=hc;rw[hq]at hc;obtain⟨b',base',e1,e2⟩:=hc;rw[g1]at e1;rw[e1,<- e2];exact hc2
    let f:Nat->Value:=fun j=>(w.cell? (at' b (base+j))).getD undef
    have hfc: ∀ j,j<cs.length->w.cell? (at' b (base+j))=some (f j)/\DR O st.Dk m w (f j) (cs.getD j .undef):=by
     intro j hj;obtain⟨_,_,u,h3,h4⟩:=g2 j hj;have:f j=u:=by show(w.cell? _).getD _=_;rw[h3];rfl
     rw[this];exact⟨h3,h4⟩
    obtain⟨h1,h2,h3,h4,h5⟩:=QC hf hS ks cs (id+1) f hW (fun j hj=>(hfc j hj).2) hokB;have hnames:Jf fet id (.clo f' ks) (.clo f' q)=(q,id)::FH (id+1) ks cs:=by simp only[Jf,hg]
    rw[hnames];refine⟨h3,fun r hr=> ?_,fun r hr=> ?_,⟨fun _=>by simp,fun _=>rfl⟩,fun {O' objs' ρ} hp hv hO hbx hρ => ?_⟩
    ·simp only[List.map_cons,List.map_nil,List.mem_append,List.mem_singleton]at hr;rcases hr with hr | hr
     ·rw[h4]at hr;exact List.mem_cons_of_mem _ hr
     ·rw[hr];exact List.mem_cons_self
    ·simp only[List.map_cons,List.map_nil,List.mem_append,List.mem_singleton];rcases List.mem_cons.1 hr with hr | hr
     ·exact .inr hr
     ·left;rw[h4];exact hr
    ·refine⟨b,base,(hv0.Eg hp).Eg (QM ρ),fun j hj=> ?_⟩;rw[h1]at hj;obtain⟨k1,k2,u,k3,_⟩:=g2 j (by rw[h2];exact hj);refine⟨QN (hbx _ _ _ k1 (.inl (.of hq (fun _ _ _ h=>by cases h)))) (hρ (q,id) List.mem_cons_self),k2,f j,(hfc j (by rw[h2];exact hj)).1,h5 hp hv hO hbx (fun p hp'=>hρ p (List.mem_cons_of_mem _ hp')) j hj⟩
  | _=>have:=hok false (by simp [Ec]);cases this
 | map kt vt =>
  cases x with
  | own q =>
   unfold Ec at *
   dsimp only at hok ⊢;cases hg:Dy fet q with
   | none=>rw[hg]at hok;have:=hok false (by simp);cases this
   | some y =>
    cases y with
    | box _=>rw[hg]at hok;have:=hok false (by simp);cases this
    | arr _ _ _=>rw[hg]at hok;have:=hok false (by simp);cases this
    | mp l =>
     rw[hg]at hok;dsimp only at hok ⊢;have hq:=hf q _ hg;have hv0:v=m q:=by have hc:DR O st.Dk m w v (.own q):=hx;have hc:=hc.2;rw[hq]at hc;exact hc
     refine⟨(fun p hp=>by cases hp),fun r hr=> ?_,fun r hr=> ?_,⟨fun _=>by simp,fun _=>rfl⟩,fun {O' objs' ρ} hp hv hO hbx hρ => ?_⟩
     ·simpa [Jf]using hr
     ·simpa [Jf]using hr
     ·obtain⟨r,es,ck,g1,g2,g3,g4,g5⟩:=(show J3 O w q (m q) l from hS q _ hq)
      refine⟨r,es,ck,by rw[hv0];exact g1,g2,QN (hbx _ _ _ g3 (.inl (.of hq (fun _ _ _ h=>by cases h)))) (hρ (q,id) List.mem_cons_self),g4,fun i p hip=> ?_⟩;obtain⟨e,k1,k2,k3⟩:=g5 i p hip;exact⟨e,k1,(k2.Eg hp).Eg (QM ρ),(k3.Eg hp).Eg (QM ρ)⟩
  | _=>have:=hok false (by simp [Ec]);cases this
theorem Xt {W:Prop} {fet:Fet} (hf:Jm st.Dk fet) (hS: ∀ q y,Dy st.Dk q=some y->Fp O st.Dk m w q y) (stride:Nat): ∀(ss:List Sh) (xs:List A) (id:Nat) (f:Nat->Value),(ss.any wS=true->W)->(∀ j,j<xs.length->DI O st.Dk m w (f j) (xs.getD j .undef))->D8 (DW fet ss xs).1 ->
 (DW fet ss xs).2.1.length=ss.length/\xs.length=ss.length/\Frz st.Dk (DW fet ss xs).2.2.1 /\
 (∀ q,q∈(DW fet ss xs).2.2.2.1++(DW fet ss xs).2.2.2.2.map (·.1)↔q∈(H6 fet id stride ss xs).map (·.1)) /\
 ∀ {O':Own} {objs':List (Nat×Obj)} {ρ :Nat->Option Nat},GN O w O' w->(∀ p∈(DW fet ss xs).2.2.1,∀ e l,p.2= .arr e true l->D6 O' w (m p.1) (.sl l)) ->
  (∀ p∈(DW fet ss xs).2.2.1,Fp O' objs' m w p.1 p.2)->(∀ b k q,O b k=some q->(NR st.Dk q\/W)->O' b k=some q)->(∀ p∈H6 fet id stride ss xs,ρ p.1=some p.2) ->
  ∀ j,j<ss.length->IR (Jn O' ρ) w (id+stride*j) (f j) ((DW fet ss xs).2.1.getD j .undef):=by
 intro ss
 induction ss with
 | nil =>
  intro xs id f _ _ hok;cases xs with
  | nil=>exact⟨rfl,rfl,(fun p hp=>by simp [DW]at hp),(fun q=>by simp [DW,H6]),fun _ _ _ _ _ j hj=>by simp at hj⟩
  | cons _ _=>have:=hok false (by simp [DW]);cases this
 | cons s ss ih =>
  intro xs id f hW h hok;cases xs with
  | nil=>have:=hok false (by simp [DW]);cases this
  | cons x xs =>
   simp only[DW]at hok ⊢;obtain⟨hok1,hok2⟩:=hok.append;obtain⟨h1,h2,h3,_,h4⟩:=Aiv (id:=id) hf (fun e=>hW (by rw[List.any_cons,e,Bool.true_or])) (h 0 (by simp)) hS hok1;obtain⟨g1,g2,g3,g4,g5⟩:=ih xs (id+stride) (fun j=>f (j+1)) (fun e=>hW (by rw[List.any_cons,e,Bool.or_true])) (fun j hj=>by simpa using h (j+1) (by simpa using hj)) hok2;refine⟨by simp [g1],by simp [g2],h1.append g3,fun q=> ?_,fun {O' objs' ρ} hp hv hO hbx hρ j hj=> ?_⟩
   ·simp only[H6,List.map_append,List.mem_append];have a1:=h2 q;have a2:=h3 q;have a3:=g4 q;simp only[List.mem_append]at a1 a2 a3;constructor
    ·rintro ((h | h) | (h | h))
     ·exact .inl (a1 (.inl h))
     ·exact .inr (a3.1 (.inl h))
     ·exact .inl (a1 (.inr h))
     ·exact .inr (a3.1 (.inr h))
    ·rintro (h | h)
     ·rcases a2 h with h | h
      ·exact .inl (.inl h)
      ·exact .inr (.inl h)
     ·rcases a3.2 h with h | h
      ·exact .inl (.inr h)
      ·exact .inr (.inr h)
   ·cases j with
    | zero=>simpa using h4 hp (fun p hp=>hv p (List.mem_append_left _ hp)) (fun p hp=>hO p (List.mem_append_left _ hp)) hbx (fun p hp=>hρ p (List.mem_append_left _ hp))
    | succ j =>have:=g5 hp (fun p hp=>hv p (List.mem_append_right _ hp)) (fun p hp=>hO p (List.mem_append_right _ hp)) hbx (fun p hp=>hρ p (List.mem_append_right _ hp)) j (by simpa using hj);rw[show id+stride*(j+1)=id+stride+stride*j from by rw[Nat.mul_add];omega];simpa using this
end
