import Derived.Test.YtfgdgdnlglejbaaGreatDoorA4
import Derived.Lib.ConvBytes
import Derived.MapKept
import Derived.Carry
set_option linter.all false
namespace Go.Proofs.YtfgdgdnlglejbaaGreatDoor.Vm
open Classical
open Go.Lib (bytesWorld bytesCells bytesWorld_at_old bytesWorld_at_new bytesWorld_size)
section
variable {P:Program} {C:Ctx} {V0:Nat->Value} {O0 O:Own} {w0 w:World} {m:Nat->Value} {st:St} {a:Act} {o:Oper}
theorem AlS (w:World) (e:TypeId) (s:ByteArray):Moves O (fun _=>False) w (bytesWorld w e s):=by refine⟨rfl,rfl,rfl,?_,fun b hb=>.inl (bytesWorld_at_old w e s b hb)⟩;rw[bytesWorld_size];omega
theorem AnK {s t:Nat} {x:Operand} (hC:TOk P C) (hS:Sim V0 O0 w0 O m st a w) {d:Tmp} (hd:o.dst=some d) (ho:o.op= .convert s t x) {l:List UInt8} (hx:DJ O st.Dn m w (a.eval x) (.str l))
 (hok:DC (y9 C d s t l).ok) (hfr: ∀ p∈(y9 C d s t l).new,st.fresh p.1=true):Good P V0 O0 w0 (apply st o (y9 C d s t l)) o a w:=by
 intro next Q hn
 unfold y9 at *
 obtain⟨ts,hts,he⟩:=Es hok;rw[he]at hok hfr hn;clear he;obtain⟨ti,e,te,ht,hte,hd',he⟩:=SS hok;rw[he]at hok hfr hn;clear he;obtain⟨h1,h2⟩:=hok.cons;have h2:=h2.cons.1;have hlen:l.length<=140737488355328:=by simpa using h2
 have hde:=Ak8 h1;have hue:=(hC.is hd').d;rw[hde]at hue;have hut:=(hC.is ht).d;rw[hte]at hut;obtain⟨b,hb,hl⟩:=hx.str;have hbl:b.size=l.length:=by rw[Oh,hl]
 have hr:(execOp a.eval o).run P w= .ok (.value (.slice (some (at' w.heap.size 0)) b.size (grownCap w b.size 0 e))) (bytesWorld w e b):=by have:=Go.Lib.run_convert_string_bytes (P:=P) w s t e b (hC.is hts).d hut hue;simp only[execOp,ho,hb,Sem.run_bind,this];rfl
 unfold Oper.wp;rw[hr,Oper.upon_value,hd];have hge:=grownCap_ge w b.size 0 e;have hes:(⟨LM,l.map (fun(b:UInt8)=>((b.toNat:Int)))⟩:Sl).es=l.map (fun(x:UInt8)=>[A.int .u8 (x.toNat:Int)]):=by show List.map (Ty.int IntKind.u8 Ty.nil).cells (List.map (fun(b:UInt8)=>((b.toNat:Int))) l)=_;exact List.map_map.trans rfl
 have hesl:(⟨LM,l.map (fun(b:UInt8)=>((b.toNat:Int)))⟩:Sl).es.length=b.size:=by rw[hes,List.length_map,hbl]
 have hcs:(bytesCells w e b).size=grownCap w b.size 0 e:=by simp [bytesCells];have:b.data.size=b.size:=rfl;omega
 obtain⟨O',m',h⟩:=AcD hS (AlS w e b) (d:=d) (e:=e) (cap:=grownCap w b.size 0 e) (frz:=false) (l:=⟨LM,l.map (fun(b:UInt8)=>((b.toNat:Int)))⟩) (del:=[]) (cur:=bytesCells w e b)
  ⟨_,bytesWorld_at_new w e b,.inr (Nat.le_refl _)⟩ (by rw[hesl];exact hge) (grownCap_le_maxLen w _ _ _ (by unfold maxLen;omega)) (by rw[hcs];show _=_*1;omega) ⟨Sl.es_len _,fun i j hi hj=>by
    have hj0:j=0:=by have:j<1:=hj;omega
    subst hj0;rw[hesl]at hi;have hi':i<l.length:=by omega
    have hi2:i<b.data.toList.length:=by rw[hl];exact hi'
    refine⟨.int .u8 (l.getD i 0).toNat,?_,?_⟩
    ·have hlt:i<b.data.size:=hi;show(bytesCells w e b)[i*1+0]? =_;rw[Nat.mul_one,Nat.add_zero];unfold bytesCells;rw[Array.getElem?_append_left (by simpa using hlt)];rw[Array.getElem?_map];have:b.data[i]? =some (l.getD i 0):=by rw[<- Array.getElem?_toList,hl,List.getD_eq_getElem?_getD,List.getElem?_eq_getElem hi'];rfl
     rw[this];rfl
    ·rw[hes];have:(l.map (fun(x:UInt8)=>[A.int .u8 (x.toNat:Int)])).getD i []=[A.int .u8 ((l.getD i 0).toNat:Int)]:=by simp [List.getD_eq_getElem?_getD,hi']
     rw[this];exact .int _ _⟩ (G6 (hfr _ List.mem_cons_self))
 rw[hesl]at h;refine hn O' m' _ _ ?_;rw[RG hd];exact h
theorem ApP {s t:Nat} {x:Operand} (hC:TOk P C) (hS:Sim V0 O0 w0 O m st a w) (ho:o.op= .convert s t x) {fet:Fet} (hf:I7 st.Dn fet) {x':A} (hx:DJ O st.Dn m w (a.eval x) x')
 (hok:DC (Abt C o fet s t x').ok) (hfr: ∀ p∈(Abt C o fet s t x').new,st.fresh p.1=true):Good P V0 O0 w0 (apply st o (Abt C o fet s t x')) o a w:=by
 have hF:FOk O st.Dn m w fet:=fun q x h=>⟨hf q x h,hS.Dn q x (hf q x h)⟩
 by_cases hs: ∃ l,x'= .str l
 ·obtain⟨l,rfl⟩:=hs;unfold Abt at *
  dsimp only at hok hfr ⊢;obtain⟨tt,htt,he⟩:=Es hok;rw[he]at hok hfr ⊢;clear he;cases hb:Ak7 tt.d with
  | true =>rw[hb]at hok hfr;simp only[cond_true]at hok hfr ⊢;obtain⟨d,hd,he⟩:=DY hok;rw[he]at hok hfr ⊢;clear he;exact AnK hC hS hd ho hx hok hfr
  | false =>rw[hb]at hok;simp only[cond_false]at hok ⊢;exact(yV hC hF ho hx hok).good hS
 ·have e:Abt C o fet s t x'=Vz C fet s t x':=by
   cases x'<;>first | rfl | exact absurd ⟨_,rfl⟩ hs
  rw[e]at hok ⊢;exact(yV hC hF ho hx hok).good hS
theorem AtA (n:Nat) (cs:List CK) {i j:Nat} (hi:i<n) (hj:j<cs.length):((List.replicate n cs).flatten).getD (i*cs.length+j) .oth=cs.getD j .oth:=by
 induction n generalizing i with
 | zero=>omega
 | succ n ih =>
  rw[List.replicate_succ,List.flatten_cons,List.getD_eq_getElem?_getD];cases i with
  | zero=>rw[List.getElem?_append_left (by omega),Nat.zero_mul,Nat.zero_add,<- List.getD_eq_getElem?_getD]
  | succ i =>rw[Nat.add_mul,Nat.one_mul,List.getElem?_append_right (by omega),show i*cs.length+cs.length+j - cs.length=i*cs.length+j from by omega,<- List.getD_eq_getElem?_getD];exact ih (by omega)
theorem Aaz {t n:Nat} {l:Sl} {cur:Array Value} (hS:Sim V0 O0 w0 O m st a w) {d:Tmp} (hd:o.dst=some d) (hr:(execOp a.eval o).run P w= .ok (.value (.pointer (some (at' w.heap.size 0)))) (w.alloc (.cells cur t)))
 (hn:l.xs.length=n) (hmax:n<=16777216) (hsz:cur.size=n*l.sz) (hheld:Held O w cur l.sz l.es) (hfresh:Jq st (b2 d)) :
 Good P V0 O0 w0 {tmps:=st.tmps.set d (.Eg (b2 d) 0 0),Dn:=DK (Eo st.Dn []) [(b2 d,.arr t false l)]} o a w:=by
 intro next Q hnx
 unfold Oper.wp;rw[hr,Oper.upon_value,hd];obtain⟨O',m',h⟩:=Un hS (Moves.refl _ _ w) rfl (d:=d) (e:=t) (cap:=n) (frz:=false) (l:=l) (cur:=cur) (del:=[]) (by rw[Sl.EI,hn];exact Nat.le_refl _) (by unfold maxLen;omega) hsz hheld hfresh;rw[Sl.EI,hn]at h;refine hnx O' m' _ _ ?_;by_cases hdt:d<st.tmps.length
 ·
  have hslot:=h.tmps d (by simpa using hdt)
  have hself:(a.put (some d) (.slice (some (at' w.heap.size 0)) n n)).tmps.getD d undef= .slice (some (at' w.heap.size 0)) n n:=by
   have hs:d<a.tmps.size:=by rw[hS.size];exact hdt
   simp [Act.put,Array.getD_eq_getD_getElem?,hs]
  have hself2:(st.tmps.set d (.own (b2 d))).getD d .undef= .own (b2 d):=by simp [List.getD_eq_getElem?_getD,hdt]
  rw[hself,hself2]at hslot;have hc:DT O' (DK (Eo st.Dn []) [(b2 d,.arr t false l)]) m' (w.alloc (.cells cur t)) (.slice (some (at' w.heap.size 0)) n n) (.own (b2 d)):=hslot;have hg:D6 (DK (Eo st.Dn []) [(b2 d,Obj.arr t false l)]) (b2 d)=some (.arr t false l):=by simp only[DK];rw[Eu,if_pos rfl]
  have hm: .slice (some (at' w.heap.size 0)) n n=m' (b2 d):=by have:=hc.2;rw[hg]at this;exact this
  have hcr:DT O' (DK (Eo st.Dn []) [(b2 d,.arr t false l)]) m' (w.alloc (.cells cur t)) (.pointer (some (at' w.heap.size 0))) (.Eg (b2 d) 0 0):=by simp only[DT,hg,Option.map_some,Obj.shp];exact⟨rfl,fun _=>⟨w.heap.size,n,n,hm.symm,by simp⟩⟩
  have hnew:=h.put (some d) (x:=.Eg (b2 d) 0 0) (v:=.pointer (some (at' w.heap.size 0))) hcr.toT;have e1:put (st.tmps.set d (.own (b2 d))) (some d) (.Eg (b2 d) 0 0)=st.tmps.set d (.Eg (b2 d) 0 0):=by simp [put]
  have e2:(a.put (some d) (.slice (some (at' w.heap.size 0)) n n)).put (some d) (.pointer (some (at' w.heap.size 0)))=a.put (some d) (.pointer (some (at' w.heap.size 0))):=by simp [Act.put]
  rw[e2]at hnew;dsimp only at hnew;rw[e1]at hnew;exact hnew
 ·have e1: ∀ x,st.tmps.set d x=st.tmps:=fun x=>List.set_eq_of_length_le (Nat.le_of_not_lt hdt)
  have e2: ∀ v,a.put (some d) v=a:=by
   intro v;have hs: ¬ d<a.tmps.size:=by rw[hS.size];exact hdt
   have:a.tmps.setIfInBounds d v=a.tmps:=by simp [Array.setIfInBounds,hs]
   simp only[Act.put,this]
  rw[e1,e2]at h;rw[e1,e2];exact h
theorem Ai1 {t n e:Nat} {ti te:TI} (hC:TOk P C) (hS:Sim V0 O0 w0 O m st a w) {d:Tmp} (hd:o.dst=some d) (ho:o.op= .alloc t) (ht:C.T t=some ti)
 (hp:te.cs.all CK.plain=true) (h0:0<te.cs.length) (hn0:0<n) (hn:n<=16777216) (hcs:ti.cs=(List.replicate n te.cs).flatten) (hfresh:Jq st (b2 d)) :
 Good P V0 O0 w0 {tmps:=st.tmps.set d (.Eg (b2 d) 0 0),Dn:=DK (Eo st.Dn []) [(b2 d,.arr t false ⟨tyl te.cs,List.replicate n (tyl te.cs).zero⟩)]} o a w:=by
 have hT:=hC.is ht;obtain⟨i,z,g1,g2,g3,g4,g5,g6⟩:=hT.i;have hsz:z.cells.size=ti.cs.length:=by rw[<- Array.length_toList];exact(MP (O:=O) (Dn:=[]) (m:=fun _=>undef) (w:=w) _ _ g5).1
 have hlen:ti.cs.length=n*te.cs.length:=by rw[hcs];simp
 have hpl:ti.cs.all CK.plain=true:=by rw[hcs,List.all_eq_true];intro k hk;obtain⟨l,hl,hkl⟩:=List.mem_flatten.1 hk;rw[List.eq_of_mem_replicate hl]at hkl;exact List.all_eq_true.1 hp k hkl
 have hv:=XU (O:=O) (w:=w) _ _ g5 hpl;have hr:(execOp a.eval o).run P w= .ok (.value (.pointer (some (at' w.heap.size 0)))) (w.alloc (.cells z.cells t)):=by simp only[execOp,ho,Instr.alloc,Sem.run_bind,zeroValue,typeInfo,run_program,Result.andThen_ok,g1,g4,Sem.run_pure,newVar,newRow];rfl
 have hel:(⟨tyl te.cs,List.replicate n (tyl te.cs).zero⟩:Sl).es=List.replicate n (te.cs.map CK.Il):=Sl.Zy _ _ hp;have hsl:(⟨tyl te.cs,List.replicate n (tyl te.cs).zero⟩:Sl).sz=te.cs.length:=Qy _
 exact Aaz hS hd hr (by rw[List.length_replicate]) hn (by rw[hsz,hlen,hsl])
  ⟨Sl.es_len _,fun r j hrl hj=>by
    rw[hsl]at hj ⊢;rw[Sl.EI,List.length_replicate]at hrl;have hlt:r*te.cs.length+j<n*te.cs.length:=by have:(r+1)*te.cs.length<=n*te.cs.length:=Nat.mul_le_mul_right _ hrl;rw[Nat.add_mul]at this;omega
    refine⟨z.cells.toList.getD (r*te.cs.length+j) undef,?_,?_⟩
    ·rw[List.getD_eq_getElem?_getD,Array.getElem?_toList];rw[Array.getElem?_eq_getElem (by omega)];rfl
    ·have:=hv (r*te.cs.length+j) (by omega)
     have e1:(ti.cs.map CK.Il).getD (r*te.cs.length+j) .undef=(te.cs.map CK.Il).getD j .undef:=by
      have e2:(ti.cs.map CK.Il).getD (r*te.cs.length+j) .undef=(ti.cs.getD (r*te.cs.length+j) .oth).Il:=by
       have:r*te.cs.length+j<ti.cs.length:=by omega
       simp [List.getD_eq_getElem?_getD,this]
      have e3:(te.cs.map CK.Il).getD j .undef=(te.cs.getD j .oth).Il:=by simp [List.getD_eq_getElem?_getD,hj]
      rw[e2,e3,hcs,AtA n te.cs hrl hj]
     rw[e1]at this;rw[hel];have e4:(List.replicate n (te.cs.map CK.Il)).getD r []=te.cs.map CK.Il:=by simp [List.getD_eq_getElem?_getD,hrl]
     rw[e4];exact this⟩ hfresh
theorem ApC {t:Nat} {x:Operand} {y:A} (hC:TOk P C) (hS:Sim V0 O0 w0 O m st a w) {d:Tmp} (hd:o.dst=some d) (ho:o.op= .box t x) (hx:DJ O st.Dn m w (a.eval x) y) (hids: ∀ i∈y.ids,i∈st.ids\/(D6 st.Dn i).isSome)
 (hok:DC (xZ C d t y).ok) (hfr: ∀ p∈(xZ C d t y).new,st.fresh p.1=true) (hnd:nodup ((xZ C d t y).new.map (·.1))=true):Good P V0 O0 w0 (apply st o (xZ C d t y)) o a w:=by
 unfold xZ at *
 cases hI:AsO C t with
 | none=>rw[hI]at hok hfr hnd;exact AnI hC hS hd ho hx hids hok hfr hnd
 | some q =>
  obtain⟨n,k⟩:=q;rw[hI]at hok hfr hnd;dsimp only at hok hfr hnd ⊢;cases y with
  | agg cs =>
   dsimp only at hok hfr hnd ⊢;obtain⟨h1,h2⟩:=hok.cons;obtain⟨h2,h3⟩:=h2.cons;have h3:=Nat.le_of_ble_eq_true h3.cons.1;have h2:=Nat.eq_of_beq_eq_true h2;obtain⟨vs,g1,g2,g3⟩:=hx;have hr:(execOp a.eval o).run P w= .ok (.value (.pointer (some (at' w.heap.size 0)))) (w.alloc (.cells vs t)):=by simp only[execOp,ho,Instr.box,g1,Sem.run_bind,Sem.run_pure,Result.andThen_ok,newVar,newRow];rfl
   rw[RG hd];refine Aaz (n:=n) hS hd hr (by show(cs.map A.toI).length=n;rw[List.length_map,h2]) h3 (by show vs.size=n*1;rw[g2,h2,Nat.mul_one]) ⟨Sl.es_len _,fun r j hr hj=> ?_⟩ (G6 (hfr _ List.mem_cons_self));have hj:j<1:=hj;have:j=0:=by omega
   subst this;have hr:r<cs.length:=by rw[Sl.EI]at hr;have hr:r<(cs.map A.toI).length:=hr;rwa [List.length_map]at hr
   refine⟨vs.getD r undef,?_,?_⟩
   ·show vs[r*1+0]? =_;rw[Nat.mul_one,Nat.add_zero,Array.getD_eq_getD_getElem?,Array.getElem?_eq_getElem (by omega)];rfl
   ·have h4:=g3 r hr;have h5:=List.all_eq_true.1 h1 cs[r] (List.getElem_mem hr);have e1:cs.getD r .undef=cs[r]:=by simp [List.getD_eq_getElem?_getD,hr]
    have e2:((⟨.int k .nil,cs.map A.toI⟩:Sl).es.getD r []).getD 0 .undef= .int k cs[r].toI:=by have:(⟨.int k .nil,cs.map A.toI⟩:Sl).es=cs.map fun c=>[A.int k c.toI]:=List.map_map (f:=A.toI) (g:=fun x=>[A.int k x]) (l:=cs);rw[this];simp [List.getD_eq_getElem?_getD,hr]
    rw[e2];rw[e1]at h4;generalize cs[r]=c at h4 h5
    cases c<;>first
     | (rename_i k' x;have:=Ko (show A.kEq k k'=true from h5);subst this;exact h4)
     | cases h5
  | _=>exact(DU hok).elim
theorem AlO {t:Nat} (hC:TOk P C) (hS:Sim V0 O0 w0 O m st a w) {d:Tmp} (hd:o.dst=some d) (ho:o.op= .alloc t)
 (hok:DC (WA C d t).ok) (hfr: ∀ p∈(WA C d t).new,st.fresh p.1=true) (hnd:nodup ((WA C d t).new.map (·.1))=true):Good P V0 O0 w0 (apply st o (WA C d t)) o a w:=by
 unfold WA at *
 obtain⟨ti,ht,he⟩:=Es hok;rw[he]at hok hfr hnd ⊢;clear he;cases ha:o7 ti.d with
 | some p =>obtain⟨n,e⟩:=p;rw[ha]at hok hfr;dsimp only at hok hfr ⊢;obtain⟨te,hte,he⟩:=Es hok;rw[he]at hok hfr ⊢;clear he;obtain⟨h1,h2⟩:=hok.cons;obtain⟨h2,h3⟩:=h2.cons;obtain⟨h3,h4⟩:=h3.cons;obtain⟨h4,h5⟩:=h4.cons;have h5:=h5.cons.1;rw[RG hd];exact Ai1 (n:=n) (e:=e) hC hS hd ho ht h1 (by simpa [Nat.blt_eq]using h2) (by simpa [Nat.blt_eq]using h3) (Nat.le_of_ble_eq_true h4) (by simpa using h5) (G6 (hfr _ List.mem_cons_self))
 | none =>rw[ha]at hok hfr hnd;exact AjQ hC hS hd ho ht hok hfr hnd
end
end Go.Proofs.YtfgdgdnlglejbaaGreatDoor.Vm
namespace Go.Proofs.YtfgdgdnlglejbaaGreatDoor.Vm
open Classical MapKept
theorem Ty.YO {α :Type} (r:Ty) (p:Ty.pr α r.Val r) (hu:r= .nil->True):r.mk2 (r.hd p) (r.tl p)=p:=by cases r<;>rfl
theorem Ty.same_eq: ∀(t:Ty) (a b:t.Val),t.same a b=true->a=b
 | .nil,_,_,_=>rfl
 | .bool r,a,b,h=>by simp only[Ty.same,Bool.and_eq_true]at h;rw[<- Ty.YO r a (fun _=>trivial),<- Ty.YO r b (fun _=>trivial),eq_of_beq h.1,Ty.same_eq r _ _ h.2]
 | .int _ r,a,b,h=>by simp only[Ty.same,Bool.and_eq_true]at h;rw[<- Ty.YO r a (fun _=>trivial),<- Ty.YO r b (fun _=>trivial),eq_of_beq h.1,Ty.same_eq r _ _ h.2]
 | .str r,a,b,h=>by simp only[Ty.same,Bool.and_eq_true]at h;rw[<- Ty.YO r a (fun _=>trivial),<- Ty.YO r b (fun _=>trivial),eq_of_beq h.1,Ty.same_eq r _ _ h.2]
 | .sl _ _ _,_,_,h=>by cases h
 | .ptr _,_,_,h=>by cases h
 | .fn _,_,_,h=>by cases h
 | .mp _ _ _,_,_,h=>by cases h
def AfW:List A->List A->Bool
 | .str x::xs,.str y::ys=>(x==y)&&AfW xs ys
 | _,_=>true
def KH:Nat->Ty
 | 0=>.nil
 | n+1=>.str (KH n)
theorem AqT: ∀(n:Nat) (a b:(KH n).Val),(KH n).same a b=AfW ((KH n).cells a) ((KH n).cells b):=by
 intro n
 induction n with
 | zero=>intro a b;rfl
 | succ n ih=>intro a b;show((_==_)&&_)=((_==_)&&_);rw[ih]
theorem AsF (n:Nat):tyl (List.replicate n [CK.str]).flatten=KH n:=by
 induction n with
 | zero=>rfl
 | succ n ih=>simp only[List.replicate_succ,List.flatten_cons,List.singleton_append,tyl,KH,ih]
theorem YJ: ∀(n:Nat) (a:(KH n).Val) (j:Nat),j<n-> ∃ s,((KH n).cells a).getD j .undef= .str s:=by
 intro n
 induction n with
 | zero=>intro a j h;omega
 | succ n ih =>
  intro a j h;cases j with
  | zero=>exact⟨_,rfl⟩
  | succ j=>exact ih _ j (by omega)
def fnd {β :Type} (t:Ty) (k:t.Val):List MapEntry->List (t.Val× β)->Nat->Option (Nat×Value)
 | e::es,p::l,i=>bif t.same k p.1 then some (i,e.val)else fnd t k es l (i+1)
 | _,_,_=>none
theorem Ad0 {β :Type} {t:Ty} {k:t.Val}: ∀(es:List MapEntry) (l:List (t.Val× β)) (i:Nat),es.length=l.length ->
 (fnd t k es l i=none/\Ul t k l=none/\(∀ x,jA t k x l=l++[(k,x)])/\iY t k l=l) \/
 ∃ j e p,fnd t k es l i=some (i+j,e.val)/\es[j]? =some e/\l[j]? =some p/\p.1=k/\Ul t k l=some p.2/\(∀ x,jA t k x l=l.set j (p.1,x))/\iY t k l=l.eraseIdx j:=by
 intro es
 induction es with
 | nil =>
  intro l i h;cases l with
  | nil=>exact .inl ⟨rfl,rfl,fun _=>rfl,rfl⟩
  | cons _ _=>cases h
 | cons e es ih =>
  intro l i h;cases l with
  | nil=>cases h
  | cons p l =>
   cases hs:t.same k p.1 with
   | true =>refine .inr ⟨0,e,p,by simp [fnd,hs],rfl,rfl,(Ty.same_eq _ _ _ hs).symm,by simp [Ul,hs],fun x=>by simp [jA,hs],by simp [iY,hs]⟩
   | false =>
    rcases ih l (i+1) (by simpa using h)with ⟨h1,h2,h3,h4⟩ | ⟨j,e',p',h1,h2,h3,h4,h5,h6,h7⟩
    ·exact .inl ⟨by simp [fnd,hs,h1],by simp [Ul,hs,h2],fun x=>by simp [jA,hs,h3],by simp [iY,hs,h4]⟩
    ·exact .inr ⟨j+1,e',p',by simp only[fnd,hs,cond_false,h1];congr 2;omega,by simpa using h2,by simpa using h3,h4,by simp [Ul,hs,h5],fun x=>by simp [jA,hs,h6],by simp [iY,hs,h7]⟩
section
variable {P:Program} {C:Ctx} {V0:Nat->Value} {O0 O:Own} {w0 w:World} {m:Nat->Value} {st:St} {a:Act} {o:Oper}
structure Aeo (P:Program) (O:Own) (w:World) (kt:TypeId) (t:Ty):Prop where
 check: ∀(e:Bool) (v:Value) (k:t.Val),GY O w v (IQ (t.cells k))->(Instr.checkKey e 10000 kt v).run P w= .ok () w
 find: ∀ {β :Type} (v:Value) (k:t.Val) (es:List MapEntry) (l:List (t.Val× β)),GY O w v (IQ (t.cells k))->es.length=l.length->(∀(i:Nat) e p,es[i]? =some e->l[i]? =some p->GY O w e.key (IQ (t.cells p.1))) ->
  (Instr.findKey kt v es).run P w= .ok (fnd t k es l 0) w
 stays: ∀(v u:Value) (k:t.Val),GY O w v (IQ (t.cells k))->GY O w u (IQ (t.cells k))->(Instr.keyThatStays u v).run P w= .ok v w
theorem Acw {β :Type} {t:Ty} {k:t.Val} {d:TypeDesc} {v:Value}: ∀(es:List MapEntry) (l:List (t.Val× β)) (i:Nat),es.length=l.length->(∀(i:Nat) (e:MapEntry) (p:t.Val× β),es[i]? =some e->l[i]? =some p->Instr.sameNow d v e.key=some (t.same k p.1)) ->
 Instr.findNow d v es i=some (fnd t k es l i):=by
 intro es
 induction es with
 | nil=>intro l i h _;cases l<;>rfl
 | cons e es ih =>
  intro l i h hs;cases l with
  | nil=>cases h
  | cons p l =>
   have h0:=hs 0 e p rfl rfl;have h1:=ih l (i+1) (by simpa using h) (fun i e p he hp=>hs (i+1) e p (by simpa using he) (by simpa using hp));cases hb:t.same k p.1 with
   | true=>rw[hb]at h0;simp [Instr.findNow,h0,fnd,hb]
   | false=>rw[hb]at h0;simp [Instr.findNow,h0,fnd,hb,h1]
theorem An7 {β :Type} {t:Ty} {k:t.Val} {kt:TypeId} {v:Value}: ∀(es:List MapEntry) (l:List (t.Val× β)) (i:Nat),es.length=l.length->(∀(i:Nat) (e:MapEntry) (p:t.Val× β),es[i]? =some e->l[i]? =some p->(Op.equal kt v e.key).run P w= .ok (t.same k p.1) w) ->
 (Instr.findAsking kt v es i).run P w= .ok (fnd t k es l i) w:=by
 intro es
 induction es with
 | nil=>intro l i h _;cases l<;>first | rfl | cases h
 | cons e es ih =>
  intro l i h hs;cases l with
  | nil=>cases h
  | cons p l =>
   have h0:=hs 0 e p rfl rfl;have h1:=ih l (i+1) (by simpa using h) (fun i e p he hp=>hs (i+1) e p (by simpa using he) (by simpa using hp));cases hb:t.same k p.1 with
   | true=>rw[hb]at h0;simp [Instr.findAsking,h0,fnd,hb]
   | false=>rw[hb]at h0;simp [Instr.findAsking,h0,fnd,hb,h1]
theorem Xp {a b:ByteArray} (h:a.data.toList=b.data.toList):a=b:=by obtain⟨⟨x⟩⟩:=a;obtain⟨⟨y⟩⟩:=b;have:x=y:=h;rw[this]
theorem xW (a b:ByteArray):(a==b)=(a.data.toList==b.data.toList):=by rw[Bool.eq_iff_iff,bytes_beq,beq_iff_eq];exact⟨fun h=>by rw[h],Xp⟩
theorem D7.str' {v:Value} {s:List UInt8} (h:D7 O w v (.str s)): ∃ b:ByteArray,v= .string b/\b.data.toList=s:=by cases h;exact⟨_,rfl,rfl⟩
theorem D7.int' {v:Value} {k:IntKind} {n:Int} (h:D7 O w v (.int k n)):v= .int k n:=by cases h;rfl
theorem As1 (k k':List UInt8):(Ty.str .nil).same k k'=(k==k'):=Bool.and_true _
theorem As0 (q:IntKind) (k k':Int):(Ty.int q .nil).same k k'=(k==k'):=Bool.and_true _
theorem Am9 (q:IntKind) (a b:Int):Instr.sameNow (.int q) (.int q a) (.int q b)=some (a==b):=by simp [Instr.sameNow]
theorem Aqu {kt:TypeId} (hu:P.underlying kt=some .string):Aeo P O w kt (.str .nil) where
 check e v k h:=by obtain⟨b,rfl,_⟩:=D7.str' (show D7 O w v (.str k)from h);exact run_checkKey hu (show IsKey .string (.string b)from trivial) e 9999
 find v k es l h hl hes:=by
  obtain⟨b,rfl,hb⟩:=D7.str' (show D7 O w v (.str k)from h)
  have hn:Instr.findNow .string (.string b) es 0=some (fnd (.str .nil) k es l 0):=Acw es l 0 hl fun i e p he hp=>by
   obtain⟨b',h1,h2⟩:=D7.str' (show D7 O w e.key (.str p.1)from hes i e p he hp);rw[h1];have e1:Instr.sameNow .string (.string b) (.string b')=some (b==b'):=by simp [Instr.sameNow]
   refine e1.trans (congrArg some (Eq.trans ?_ (As1 k p.1).symm));rw[xW,hb,h2]
  simp [Instr.findKey,run_underlying hu,hn]
 stays v u k h h':=by
  obtain⟨b,rfl,hb⟩:=D7.str' (show D7 O w v (.str k)from h);obtain⟨b',rfl,hb'⟩:=D7.str' (show D7 O w u (.str k)from h');obtain rfl:b'=b:=Xp (by rw[hb,hb']);have:(b'==b')=true:=by rw[xW];simp
  simp [Instr.keyThatStays,Instr.sameBits,this]
theorem Aqt {kt:TypeId} {q:IntKind} (hu:P.underlying kt=some (.int q)):Aeo P O w kt (.int q .nil) where
 check e v k h:=by obtain rfl:=D7.int' (show D7 O w v (.int q k)from h);exact run_checkKey hu (show IsKey (.int q) (.int q k)from rfl) e 9999
 find v k es l h hl hes:=by
  obtain rfl:=D7.int' (show D7 O w v (.int q k)from h);have hn:Instr.findNow (.int q) (.int q k) es 0=some (fnd (.int q .nil) k es l 0):=Acw es l 0 hl fun i e p he hp=>by rw[D7.int' (show D7 O w e.key (.int q p.1)from hes i e p he hp)];exact(Am9 q k p.1).trans (congrArg some (As0 q k p.1).symm)
  simp [Instr.findKey,run_underlying hu,hn]
 stays v u k h h':=by
  obtain rfl:=D7.int' (show D7 O w v (.int q k)from h);obtain rfl:=D7.int' (show D7 O w u (.int q k)from h');have:((k:Int)==(k:Int))=true:=by simp
  have:Instr.sameBits 10000 (.int q k) (.int q k)=true:=by
   have: ∀ n:Int,Instr.sameBits 10000 (.int q n) (.int q n)=true:=fun n=>by simp [Instr.sameBits]
   exact this k
  simp [Instr.keyThatStays,this]
theorem AdF {cs:List A} (h:cs.length≠1):IQ cs= .agg cs:=by
 unfold IQ;split
 ·simp at h
 ·rfl
theorem Aqs {e:TypeId} {d:Nat} (hue:P.underlying e=some .string) {xs ys:Array Value} {cs ds:List A} (hx: ∀ j,j<cs.length->D7 O w (xs.getD j undef) (cs.getD j .undef)) (hxs:xs.size=cs.length)
 (hy: ∀ j,j<ds.length->D7 O w (ys.getD j undef) (ds.getD j .undef)) (hys:ys.size=ds.length) (hl:cs.length=ds.length) (hc: ∀ j,j<cs.length-> ∃ s,cs.getD j .undef= .str s) (hd: ∀ j,j<ds.length-> ∃ s,ds.getD j .undef= .str s) :
 ∀(n i:Nat),i+n=cs.length->(Op.eqItems (d+1) e 1 xs ys (List.range' i n)).run P w= .ok (AfW (cs.drop i) (ds.drop i)) w:=by
 intro n
 induction n with
 | zero =>intro i hi;have:cs.drop i=[]:=List.drop_eq_nil_of_le (by omega);rw[this];rfl
 | succ n ih =>
  intro i hi;have hi':i<cs.length:=by omega
  obtain⟨s,hs⟩:=hc i hi';obtain⟨s',hs'⟩:=hd i (by omega);have hx1:=hx i hi';have hy1:=hy i (by omega);rw[hs]at hx1;rw[hs']at hy1;obtain⟨b,hb1,hb2⟩:=hx1.str';obtain⟨b',hb1',hb2'⟩:=hy1.str'
  have ex:xs[i]? =some (.string b):=by
   have:i<xs.size:=by omega
   rw[Array.getElem?_eq_getElem this,<- hb1,Array.getD_eq_getD_getElem?,Array.getElem?_eq_getElem this];rfl
  have ey:ys[i]? =some (.string b'):=by
   have:i<ys.size:=by omega
   rw[Array.getElem?_eq_getElem this,<- hb1',Array.getD_eq_getD_getElem?,Array.getElem?_eq_getElem this];rfl
  have hpk:P.plainKey e=true:=by simp [Program.plainKey,hue]
  have p1:=run_part_plain w hpk (off:=i*1) (by rw[Nat.mul_one];exact ex);have p2:=run_part_plain w hpk (off:=i*1) (by rw[Nat.mul_one];exact ey);have p3:=run_equalIn_string (P:=P) w d e b b' hue;have ec:cs.drop i= .str s::cs.drop (i+1):=by rw[List.drop_eq_getElem_cons hi',<- hs,List.getD_eq_getElem?_getD,List.getElem?_eq_getElem hi'];rfl
  have ed:ds.drop i= .str s'::ds.drop (i+1):=by rw[List.drop_eq_getElem_cons (by omega),<- hs',List.getD_eq_getElem?_getD,List.getElem?_eq_getElem (by omega)];rfl
  rw[List.range'_succ,ec,ed];have ih':=ih (i+1) (by omega);simp only[Op.eqItems,Sem.run_bind,p1,p2,p3,Result.andThen_ok];rw[gB,gB,hb2,hb2'];cases hbb:(s==s')with
  | false=>simp [AfW,hbb]
  | true=>simp [AfW,hbb,ih']
theorem Ag4 {e:TypeId} {em:Bool} {d:Nat} (hue:P.underlying e=some .string) (hsz:(sizeOf e).run P w= .ok 1 w) {xs:Array Value} {n:Nat} (hx: ∀ j,j<n-> ∃ b,xs[j]? =some (.string b)) :
 ∀(is:List Nat),(∀ i∈is,i<n)->(forIn is PUnit.unit fun i _=>do Instr.checkKey em (d+1) e (<- part e xs (i*(<- sizeOf e)));pure (ForInStep.yield PUnit.unit)).run P w= .ok PUnit.unit w:=by
 intro is
 induction is with
 | nil=>intro _;simp
 | cons j is ih =>
  intro h;obtain⟨b,hb⟩:=hx j (h j (by simp));have hpk:P.plainKey e=true:=by simp [Program.plainKey,hue]
  have p1:=run_part_plain w hpk (off:=j*1) (by rw[Nat.mul_one];exact hb);have p2:=run_checkKey (P:=P) (w:=w) hue (k:=.string b) trivial em d;simp only[List.forIn_cons,Sem.run_bind,hsz,Result.andThen_ok,p1,p2,Sem.run_pure];exact ih (fun i hi=>h i (by simp [hi]))
theorem GY.agg' {v:Value} {cs:List A} (h:GY O w v (.agg cs)): ∃ vs:Array Value,v= .agg vs/\vs.size=cs.length/\ ∀ j,j<cs.length->D7 O w (vs.getD j undef) (cs.getD j .undef):=h
theorem Ao5 {kt e:TypeId} {n:Nat} {ie:TypeInfo} (hu:P.underlying kt=some (.array n e)) (hue:P.underlying e=some .string) (hie:P.info? e=some ie) (his:ie.size=1) (hn:1<n):Aeo P O w kt (KH n):=by
 have hlen: ∀ k:(KH n).Val,((KH n).cells k).length=n:=fun k=>by
  rw[Ty.GZ];have: ∀ n,(KH n).len=n:=by intro n;induction n with | zero=>rfl | succ n ih=>simp [KH,Ty.len,ih]
  exact this n
 have hag: ∀ k:(KH n).Val,IQ ((KH n).cells k)= .agg ((KH n).cells k):=fun k=>AdF (by rw[hlen];omega);have hce:P.cellsOf e=1:=by simp [Program.cellsOf,hie,his]
 have hsz:(sizeOf e).run P w= .ok 1 w:=by simp [sizeOf,typeInfo,hie,his]
 have hstr: ∀ {vs:Array Value} {k:(KH n).Val},vs.size=n->(∀ j,j<n->D7 O w (vs.getD j undef) (((KH n).cells k).getD j .undef))-> ∀ j,j<n-> ∃ b,vs[j]? =some (.string b):=by
  intro vs k hs h j hj;obtain⟨s,hs'⟩:=YJ n k j hj;have h1:=h j hj;rw[hs']at h1;obtain⟨b,hb,_⟩:=h1.str';have hj':j<vs.size:=by omega
  exact⟨b,by rw[Array.getElem?_eq_getElem hj',<- hb,Array.getD_eq_getD_getElem?,Array.getElem?_eq_getElem hj'];rfl⟩
 refine⟨fun em v k h=> ?_,fun v k es l h hl hes=> ?_,fun v u k h h'=> ?_⟩
 ·rw[hag]at h;obtain⟨vs,rfl,h1,h2⟩:=h.agg';rw[hlen]at h1 h2;rw[show(10000:Nat)=9998+1+1 from rfl,Instr.checkKey];simp only[Sem.run_bind,run_underlying hu,Result.andThen_ok];simp only[Std.Legacy.Range.forIn_eq_forIn_range',Std.Legacy.Range.size,Nat.sub_zero,Nat.add_one_sub_one,Nat.div_one];rw[Ag4 (em:=em) (d:=9998) hue hsz (hstr h1 h2) (List.range' 0 n) (fun i hi=>by simpa using hi)];rfl
 ·rw[hag]at h;obtain⟨vs,rfl,h1,h2⟩:=h.agg';rw[hlen]at h1 h2;have eqs: ∀(i:Nat) (e':MapEntry) p,es[i]? =some e'->l[i]? =some p->(Op.equal kt (.agg vs) e'.key).run P w= .ok ((KH n).same k p.1) w:=by intro i e' p he hp;have h3:=hes i e' p he hp;rw[hag]at h3;obtain⟨us,h4,h5,h6⟩:=h3.agg';rw[hlen]at h5 h6;rw[h4];show(Op.equalIn 10000 kt _ _).run P w=_;rw[show(10000:Nat)=9999+1 from rfl,run_equalIn_array w 9999 vs us hu hie,hce,List.range_eq_range',AqT];have:=Aqs (P:=P) (O:=O) (w:=w) (d:=9998) hue (xs:=vs) (ys:=us) (cs:=(KH n).cells k) (ds:=(KH n).cells p.1) (by rw[hlen];exact h2) (by rw[hlen];exact h1) (by rw[hlen];exact h6) (by rw[hlen];exact h5) (by rw[hlen,hlen]) (by rw[hlen];exact YJ n k) (by rw[hlen];exact YJ n p.1) n 0 (by rw[hlen];omega);simpa using this
  have hnow: ∀(es:List MapEntry) (i:Nat),Instr.findNow (.array n e) (.agg vs) es i=if es=[]then some none else none:=by
   intro es i;cases es with
   | nil=>rfl
   | cons e' es=>simp [Instr.findNow,Instr.sameNow]
  simp only[Instr.findKey,Sem.run_bind,run_underlying hu,Result.andThen_ok,hnow];cases es with
  | nil=>cases l<;>first | simp [fnd] | cases hl
  | cons e' es =>rw[if_neg (by simp)];exact An7 _ l 0 hl eqs
 ·rw[hag]at h h';obtain⟨vs,rfl,h1,h2⟩:=h.agg';obtain⟨us,rfl,h3,h4⟩:=h'.agg';have e:us=vs:=by rw[hlen]at h1 h2 h3 h4;apply Array.ext (by omega);intro j hj1 hj2;obtain⟨s,hs⟩:=YJ n k j (by omega);have a1:=h2 j (by omega);have a2:=h4 j (by omega);rw[hs]at a1 a2;obtain⟨b1,e1,f1⟩:=a1.str';obtain⟨b2,e2,f2⟩:=a2.str';rw[Array.getD_eq_getD_getElem?,Array.getElem?_eq_getElem hj2]at e1;rw[Array.getD_eq_getD_getElem?,Array.getElem?_eq_getElem hj1]at e2;have e1:vs[j]=_:=e1;have e2:us[j]=_:=e2;rw[e1,e2,Xp (f1.trans f2.symm)]
  subst e
  have hsb:Instr.sameBits 10000 (.agg us) (.agg us)=true:=by
   show((us.size==us.size)&&(us.toList.zip us.toList).all _)=true;rw[Bool.and_eq_true];refine⟨by simp,List.all_eq_true.2 fun p hp=> ?_⟩;obtain⟨i,hi⟩:=List.mem_iff_getElem?.1 hp;rw[List.getElem?_zip_eq_some]at hi;rw[hlen]at h1 h2;have hi1:i<us.size:=by have:=(List.getElem?_eq_some_iff.1 hi.1).1;simpa using this
   obtain⟨b,hb⟩:=hstr h1 h2 i (by omega);have q1:p.1= .string b:=by have:=hi.1;rw[Array.getElem?_toList,hb]at this;injection this with this;exact this.symm
   have q2:p.2= .string b:=by have:=hi.2;rw[Array.getElem?_toList,hb]at this;injection this with this;exact this.symm
   obtain⟨p1,p2⟩:=p;dsimp only at q1 q2;subst q1;subst q2;show(b==b)=true;rw[xW];simp
  simp [Instr.keyThatStays,hsb]
theorem ArS (hC:TOk P C) {t:Nat} {ta:TI} (ht:C.T t=some ta) (h:Ao6 C ta=true):Aeo P O w t (tyl ta.cs):=by
 have hT:=hC.is ht;have hu:=hT.d;have hck:=hT.ck;unfold Ao6 at h;split at h
 ·rename_i hd;rw[hd]at hu;have:ta.cs=[.str]:=by simp [Ib,hu]at hck;exact hck.symm
  rw[this];exact Aqu hu
 ·rename_i q hd;rw[hd]at hu;have:ta.cs=[.int q]:=by simp [Ib,hu]at hck;exact hck.symm
  rw[this];exact Aqt hu
 ·rename_i n e hd;rw[hd]at hu;split at h
  ·rename_i te hte;simp only[Bool.and_eq_true,Nat.blt_eq]at h;have hTe:=hC.is hte;have hde:=Aam h.1;have hue:=hTe.d;rw[hde]at hue;have hcse:te.cs=[.str]:=by have:=hTe.ck;simp [Ib,hue]at this;exact this.symm
   have hcs:ta.cs=(List.replicate n [CK.str]).flatten:=by
    rw[show(20:Nat)=18+1+1 from rfl]at hck;unfold Ib at hck;simp only[hu]at hck;have he:Ib P (18+1) e=some [.str]:=by simp [Ib,hue]
    rw[he]at hck;dsimp only at hck;cases hb:Nat.ble (n* [CK.str].length) 4096 with
    | false=>rw[hb]at hck;cases hck
    | true=>rw[hb]at hck;injection hck with hck;exact hck.symm
   rw[hcs,AsF];obtain⟨i,z,h1,h2,_⟩:=hTe.i;exact Ao5 hu hue h1 (by rw[h2,hcse];rfl) h.2
  ·cases h
 ·cases h
end
end Go.Proofs.YtfgdgdnlglejbaaGreatDoor.Vm
namespace Go.Proofs.YtfgdgdnlglejbaaGreatDoor.Vm
open Classical MapKept
def Aqq:A->Bool
 | .bool _ | .int _ _ | .str _ | .sl _ | .FP | .fn _ | .ump _=>true
 | _=>false
theorem Ty.KT: ∀(t:Ty) (v:t.Val),∀ c∈t.cells v,Aqq c=true
 | .nil,_,c,h=>by cases h
 | .bool r,v,c,h=>by
  rcases List.mem_cons.1 h with rfl | h
  ·rfl
  ·exact Ty.KT r _ c h
 | .int _ r,v,c,h=>by
  rcases List.mem_cons.1 h with rfl | h
  ·rfl
  ·exact Ty.KT r _ c h
 | .str r,v,c,h=>by
  rcases List.mem_cons.1 h with rfl | h
  ·rfl
  ·exact Ty.KT r _ c h
 | .sl _ _ r,v,c,h=>by
  rcases List.mem_cons.1 h with rfl | h
  ·rfl
  ·exact Ty.KT r _ c h
 | .ptr r,v,c,h=>by
  rcases List.mem_cons.1 h with rfl | h
  ·rfl
  ·exact Ty.KT r v c h
 | .fn r,v,c,h=>by
  rcases List.mem_cons.1 h with rfl | h
  ·rfl
  ·exact Ty.KT r _ c h
 | .mp _ _ r,v,c,h=>by
  rcases List.mem_cons.1 h with rfl | h
  ·rfl
  ·exact Ty.KT r _ c h
section
variable {P:Program} {C:Ctx} {V0:Nat->Value} {O0 O:Own} {w0 w:World} {m:Nat->Value} {st:St} {a:Act} {o:Oper}
theorem DT.data {Dn:List (Nat×Obj)} {v:Value} {c:A} (h:DT O Dn m w v c) (hd:Aqq c=true):D7 O w v c:=by cases c<;>first | exact h | exact h.elim | cases hd
theorem GY.toT {Dn:List (Nat×Obj)} {v:Value} {x:A} (h:GY O w v x):DJ O Dn m w v x/\T1 O Dn m w v x:=by
 have cell: ∀ {v:Value} {x:A},D7 O w v x->DT O Dn m w v x:=fun h=>by cases h<;>first | exact .bool _ | exact .int _ _ | exact .str _ | exact .nil _ | exact .FP | exact .fn _ | exact .eG | exact D7.sl0 _ _ | (rename_i vs a1 a2 a3;exact D7.sl vs a1 a2 a3) | (rename_i h hn;exact D7.sln h hn)
 cases x with
 | agg cs=>grind[Obj,GY,DJ,T1]
 | undef=>cases h
 | Fh=>cases h
 | usl _ _ _=>cases h
 | ump _=>cases h
 | ptr _ _=>cases h
 | own _=>cases h
 | elt _=>cases h
 | Eg _ _ _=>cases h
 | tup _=>cases h
 | box _=>cases h
 | cbx _ _=>cases h
 | clo _ _=>cases h
 | bsl _ _=>cases h
 | osl _ _=>cases h
 | cnd _ _=>cases h
 | bool _=>exact⟨cell h,cell h⟩
 | int _ _=>exact⟨cell h,cell h⟩
 | str _=>exact⟨cell h,cell h⟩
 | sl _=>exact⟨cell h,cell h⟩
 | sln _=>exact⟨cell h,cell h⟩
 | FP=>exact⟨cell h,cell h⟩
 | fn _=>exact⟨cell h,cell h⟩
theorem ArR {xs:List A} (h:Aoz (.agg xs)=true):xs.length≠1:=by intro h1;obtain⟨c,rfl⟩:=List.length_eq_one_iff.1 h1;cases h
theorem Ana {O':Own} {Dn:List (Nat×Obj)} {v:Value} {x:A} {cs:List A} (ho:Aoz x=true) (hv:x.isVal=true) (hx:DJ O Dn m w v x) (hl:cs.length=x.cells.length)
 (hrel: ∀ j,j<cs.length->D7 O' w (v.cells.getD j undef) (cs.getD j .undef)):GY O' w v (IQ cs):=by
 have one:DT O Dn m w v x->x.cells=[x]->GY O' w v (IQ cs):=by intro hc he;rw[he]at hl;obtain⟨c,rfl⟩:=List.length_eq_one_iff.1 hl;have h0:=hrel 0 (by simp);rw[oneCell_cells hc.one]at h0;have h0:D7 O' w v c:=h0;show GY O' w v c;cases c<;>first | exact h0 | cases h0
 cases x with
 | agg xs =>obtain⟨vs,rfl,h2,h3⟩:=hx;have hl:cs.length=xs.length:=hl;rw[AdF (by rw[hl];exact ArR ho)];exact⟨vs,rfl,by rw[h2,hl],hrel⟩
 | undef=>cases hv
 | tup _=>cases hv
 | usl _ _ _=>cases hv
 | ump _=>cases hv
 | box _=>cases hv
 | cbx _ _=>cases hv
 | cnd _ _=>cases hv
 | _=>exact one hx rfl
theorem Qm {r:Nat} {es:Array MapEntry} {ck:Nat} (hb:w.heap[r]? =some (.map es ck)):(getObj r).run P w= .ok (.map es ck) w:=by simp [getObj,Sem.run,hb]
theorem YG {r:Nat} {es:Array MapEntry} {ck:Nat} (x:Go.Obj) (hb:w.heap[r]? =some (.map es ck)):(setObj r x).run P w= .ok () {w with heap:=w.heap.setIfInBounds r x}:=by simp [setObj,Sem.run,hb]
theorem qN {t:Nat} {k:TI->TI->Dl} (hok:DC (mapOf C t k).ok): ∃ ti kt et ta tb,C.T t=some ti/\ti.d= .map kt et/\C.T kt=some ta/\C.T et=some tb/\mapOf C t k=k ta tb:=by
 unfold mapOf at hok ⊢;obtain⟨ti,ht,he⟩:=Es hok;rw[he]at hok ⊢;split at hok
 ·rename_i kt et hd;obtain⟨ta,hta,he⟩:=Es hok;rw[he]at hok;obtain⟨tb,htb,he'⟩:=Es hok;exact⟨ti,kt,et,ta,tb,ht,hd,hta,htb,he.trans he'⟩
 ·exact(DU hok).elim
theorem AkB {Dn:List (Nat×Obj)} (hC:TOk P C) {kt:Nat} {ta tb:TI} (hta:C.T kt=some ta) {l:Mp} {i:A} {v:Value} (hi:DJ O Dn m w v i) (hok:DC (Aj5 C ta tb l i)) :
 Aeo P O w kt l.kt/\GY O w v (IQ (l.kt.cells (l.kt.mk i.cells).2))/\AjE tb=true/\l.vt=tyl tb.cs:=by
 obtain⟨h1,hok⟩:=hok.cons;obtain⟨h2,hok⟩:=hok.cons;obtain⟨h3,hok⟩:=hok.cons;obtain⟨h4,hok⟩:=hok.cons;obtain⟨h5,hok⟩:=hok.cons;obtain⟨h6,hok⟩:=hok.cons;have h7:=hok.cons.1;have h3:=of_decide_eq_true h3;have hc:=Ty.LH _ _ h7;refine⟨by rw[h3];exact ArS hC hta h1,?_,h2,of_decide_eq_true h4⟩;obtain⟨g1,g2⟩:=hi.cells h5;refine Ana (Dn:=Dn) h6 h5 hi (by rw[hc]) (fun j hj=> ?_);have hd:=Ty.KT _ _ _ (List.getElem_mem hj);have e:(l.kt.cells (l.kt.mk i.cells).2).getD j .undef=(l.kt.cells (l.kt.mk i.cells).2)[j]:=by rw[List.getD_eq_getElem?_getD,List.getElem?_eq_getElem hj];rfl
 rw[<- e]at hd;rw[hc]at hd hj ⊢;exact(g2 j hj).data hd
theorem Ard {t:Nat} {tb:TI} (hT:QA P t tb) (hone:AjE tb=true) (hp:tb.cs.all CK.plain=true): ∃ z,(zeroValue t).run P w= .ok z w/\GY O w z (IQ ((tyl tb.cs).cells (tyl tb.cs).zero)):=by
 obtain⟨i,z,h1,h2,h3,h4,h5,h6⟩:=hT.i;refine⟨z,by simp [zeroValue,typeInfo,h1,h4],?_⟩;rw[Ty.Agm _ hp];have hv:=XU (O:=O) (w:=w) _ _ h5 hp;have hl:=(MP (O:=O) (Dn:=[]) (m:=fun _=>undef) (w:=w) _ _ h5).1;have hone:tb.agg= !(Nat.beq tb.cs.length 1):=by simpa [AjE]using hone
 rw[Aer,h6,QJ]at hone;cases z with
 | agg vs =>
  have hne:tb.cs.length≠1:=by simpa [ZA]using hone
  rw[AdF (by simpa using hne)];refine⟨vs,rfl,?_,fun j hj=> ?_⟩
  ·have:vs.toList.length=tb.cs.length:=hl;rw[Array.length_toList]at this;simpa using this
  ·have:=hv j (by simpa using hj);have e:(Value.agg vs).cells.toList.getD j undef=vs.getD j undef:=by show vs.toList.getD j undef=_;rw[Array.getD_eq_getD_getElem?,List.getD_eq_getElem?_getD,Array.getElem?_toList]
   rw[e]at this;exact this
 | _ =>
  have he:tb.cs.length=1:=by simpa [ZA]using hone
  obtain⟨c,hc⟩:=List.length_eq_one_iff.1 he;rw[hc]at hv ⊢;have:=hv 0 (by simp);have this:D7 O w _ c.Il:=this;show GY O w _ c.Il;cases hcz:c.Il<;>rw[hcz]at this<;>first | exact this | cases this
theorem Amo {t:Nat} {x i:Operand} {c:Bool} {Dn:List (Nat×Obj)} {fet:Fet} (hC:TOk P C) (hF:FOk O Dn m w fet) (ho:o.op= .lookup t x i c) {x' i':A} (hx:DJ O Dn m w (a.eval x) x') (hi:DJ O Dn m w (a.eval i) i')
 (hok:DC (Abz C fet t c x' i').ok):Pure P O Dn m a w o (Abz C fet t c x' i'):=by
 unfold Abz at hok ⊢;obtain⟨ti,kt,et,ta,tb,ht,hd,hta,htb,he⟩:=qN hok;rw[he]at hok ⊢;clear he;obtain⟨p,hp,he⟩:=DY hok;rw[he]at hok ⊢;clear he;obtain⟨hok1,hok2⟩:=hok.append;have hpl:=hok2.cons.1;obtain⟨_,hv,hM⟩:=AjA hF hx hp;obtain⟨hK,hk,hone,hvt⟩:=AkB hC hta hi hok1;obtain⟨r,es,ck,h1,h2,h3,h4,h5⟩:=hM.lists;have hu:=(hC.is ht).d;rw[hd]at hu;have hfind:=hK.find (a.eval i) _ es.toList p.2.l hk h4 (fun i e p he hp=>(h5 i e p he hp).1);have hchk:=hK.check es.isEmpty (a.eval i) _ hk;obtain⟨z,hz1,hz2⟩:=Ard (O:=O) (w:=w) (hC.is htb) hone hpl;rw[<- hvt]at hz2
 have key: ∃ u,(Instr.lookup t (a.eval x) (a.eval i) c).run P w= .ok (if c then .tuple #[u,.bool (Ul p.2.kt (p.2.kt.mk i'.cells).2 p.2.l).isSome]else u) w /\
  GY O w u (IQ (p.2.vt.cells ((Ul p.2.kt (p.2.kt.mk i'.cells).2 p.2.l).getD p.2.vt.zero))):=by
  rw[hv,h1];rcases Ad0 (k:=(p.2.kt.mk i'.cells).2) es.toList p.2.l 0 h4 with ⟨f1,f2,_,_⟩ | ⟨j,e,q,f1,f2,f3,f4,f5,_,_⟩
  ·refine⟨z,?_,by rw[f2];exact hz2⟩;simp [Instr.lookup,run_underlying hu,Qm h2,hchk,hfind,f1,hz1,f2,Result.andThen]
  ·refine⟨e.val,?_,by rw[f5];exact(h5 j e q f2 f3).2⟩;simp [Instr.lookup,run_underlying hu,Qm h2,hchk,hfind,f1,f5,Result.andThen]
 obtain⟨u,hrun,hu2⟩:=key;refine⟨⟨if c then .tuple #[u,.bool (Ul p.2.kt (p.2.kt.mk i'.cells).2 p.2.l).isSome]else u,?_,?_⟩,rfl,rfl,rfl⟩
 ·simp only[execOp,ho,Sem.run_bind,hrun,Result.andThen_ok,Sem.run_pure]
 ·show DJ O Dn m w _ (Ahb _ _ _);unfold Ahb;cases c with
  | false=>exact hu2.toT.1
  | true =>
   refine⟨#[u,.bool (Ul p.2.kt (p.2.kt.mk i'.cells).2 p.2.l).isSome],rfl,rfl,fun j hj=> ?_⟩;have hj:j<2:=hj;rcases(show j=0\/j=1 by omega)with rfl | rfl
   ·exact hu2.toT.2
   ·exact D7.bool _
theorem Aql {r:Nat} {x y:Go.Obj} (hb:w.heap[r]? =some x):(w.heap.setIfInBounds r y)[r]? =some y/\ ∀ b,b≠r->(w.heap.setIfInBounds r y)[b]? =w.heap[b]? :=by grind
theorem sG (hS:Sim V0 O0 w0 O m st a w) {q r ck ck':Nat} {es es':Array MapEntry} {l l':Mp} (hq:D6 st.Dn q=some (.mp l)) (hm:m q= .map (some r)) (hb:w.heap[r]? =some (.map es ck)) (hO:O r 0=some q) (hs:es'.size=l'.l.length)
 (hes: ∀(i:Nat) (p:l'.kt.Val×l'.vt.Val),l'.l[i]? =some p-> ∃ e,es'[i]? =some e/\GY O w e.key (IQ (l'.kt.cells p.1))/\GY O w e.val (IQ (l'.vt.cells p.2))) {d:Option Tmp} {v:Value} {x:A} (hx:d≠none-> ∀ O' objs' m' w',DJ O' objs' m' w' v x) :
 Sim V0 O0 w0 O m {tmps:=put st.tmps d x,Dn:=F7 st.Dn q (.mp l')} (a.put d v) {w with heap:=w.heap.setIfInBounds r (.map es' ck')}:=by
 obtain⟨hb1,hb2⟩:=Aql (y:=.map es' ck') hb;have hM:Moves O (fun i=>i=q) w {w with heap:=w.heap.setIfInBounds r (.map es' ck')}:=Moves.map rfl rfl rfl (by simp) hb hb1 hb2 hO rfl;have hP:Passes O O (fun i=>i=q) w.heap.size:=⟨fun _ _ _ h=>h,fun _ _ _ _ h _=>h⟩
 have hpr:=hM.Ee hP
 have hE:KD st.Dn m (F7 st.Dn q (.mp l')) m (fun _=>False):=by
  intro i y hy;rw[Eu]at hy;by_cases hi:i=q
  ·rw[if_pos hi]at hy;injection hy with hy;subst hy;subst hi;exact .inr ⟨_,hq,rfl,rfl⟩
  ·rw[if_neg hi]at hy;exact .inr ⟨y,hy,rfl,rfl⟩
 refine hS.next (st':= {tmps:=put st.tmps d x,Dn:=F7 st.Dn q (.mp l')}) (T:=fun i=>i=q) (Nw:=fun _=>False) hM hP (fun b k _ h=>h) hE (fun _ h=>h.elim) (fun r' hr=>by rw[hr,hq];rfl) (fun i y hy=> ?_) rfl (fun h=>hx h _ _ _ _);rw[Eu]at hy;by_cases hi:i=q
 ·right;rw[if_pos hi]at hy;injection hy with hy;subst hy;subst hi;refine⟨(⟨r,es',ck',hm,hb1,hO,hs,fun j p hp=> ?_⟩:IK O _ i (m i) l'),hS.ids i _ hq⟩;obtain⟨e,k1,k2,k3⟩:=hes j p hp;exact⟨e,k1,k2.Ee hpr,k3.Ee hpr⟩
 ·left;rw[if_neg hi]at hy;exact⟨hi,hy,rfl⟩
theorem AkK {t:Nat} {r:Option Operand} {xs:List A} (hC:TOk P C) (hS:Sim V0 O0 w0 O m st a w) {d:Nat} (hd:o.dst=some d) (ho:o.op= .makeMap t r) (hr:xs.length=r.toArray.size) (hok:DC (Su C d t xs).ok) (hfr: ∀ p∈(Su C d t xs).new,st.fresh p.1=true) :
 Good P V0 O0 w0 (apply st o (Su C d t xs)) o a w:=by
 intro next Q hn
 unfold Su at *
 obtain⟨ti,kt,et,ta,tb,ht,hd',hta,htb,he⟩:=qN hok;rw[he]at hok hfr hn;clear he;have hx:xs=[]:=by simpa using hok.cons.1
 subst hx;have hr0:r=none:=by cases r with | none=>rfl | some _=>simp at hr
 subst hr0;have hfresh:=G6 (hfr _ List.mem_cons_self);have hrun:(execOp a.eval o).run P w= .ok (.value (.map (some w.heap.size))) (w.alloc (.map #[] 0)):=by have:(Instr.makeMap t none).run P w= .ok (.map (some w.heap.size)) (w.alloc (.map #[] 0)):=rfl;simp only[execOp,ho,Option.map_none,Sem.run_bind,this,Result.andThen_ok,Sem.run_pure]
 unfold Oper.wp;rw[hrun,Oper.upon_value,hd];let id:=b2 d;let O':Own:=fun b k=>if b=w.heap.size then some id else O b k;let m':Nat->Value:=fun i=>if i=id then .map (some w.heap.size)else m i;have hlt: ∀ {b k},b<w.heap.size->O' b k=O b k:=fun hb=>if_neg (Nat.ne_of_lt hb);have hM:Moves O (fun _=>False) w (w.alloc (.map #[] 0)):=Moves.push _;have hP:Passes O O' (fun _=>False) w.heap.size:=⟨fun b k hb h=>by rw[hlt hb];exact h,fun b k q hb h _=>by rw[hlt hb];exact h⟩
 let ob:Vm.Obj:=.mp ⟨tyl ta.cs,tyl tb.cs,[]⟩;have hget: ∀ i y,D6 (F7 st.Dn id ob) i=some y->(i=id/\y=ob)\/(i≠id/\D6 st.Dn i=some y):=by all_goals grind[Eu]
 have hE:KD st.Dn m (F7 st.Dn id ob) m' (fun i=>i=id):=by
  intro i y hy;rcases hget i y hy with ⟨h1,_⟩ | ⟨h1,h2⟩
  ·exact .inl h1
  ·exact .inr ⟨y,h2,rfl,if_neg h1⟩
 refine hn O' m' _ _ ?_;have happ: ∀ ok,apply st o {ok:=ok,val:=.own (b2 d),new:=[(b2 d,ob)]}= {tmps:=put st.tmps (some d) (.own id),Dn:=F7 st.Dn id ob}:=by intro ok;unfold apply;rw[hd];rfl
 rw[happ];refine hS.next (st':= {tmps:=put st.tmps (some d) (.own id),Dn:=F7 st.Dn id ob}) (x:=.own id) (T:=fun _=>False) (Nw:=fun i=>i=id) hM hP (fun b k hb h=>by rw[hlt hb]at h;exact h) hE (fun n hn=>by rw[hn];exact hfresh.both) (fun _ h=>h.elim) (fun i y hy=> ?_) rfl (fun _=> ?_)
 ·rcases hget i y hy with ⟨h1,h2⟩ | ⟨h1,h2⟩
  ·right;subst h1;subst h2;refine⟨(⟨w.heap.size,#[],0,if_pos rfl,pX _ _,if_pos rfl,rfl,fun i p hp=>by cases hp⟩:IK O' _ id (m' id) _),hfresh.ne⟩
  ·exact .inl ⟨fun h=>h,h2,if_neg h1⟩
 ·refine⟨rfl,?_⟩;all_goals grind[D6,F7,Obj.shp,Eu]
theorem Asa {α :Type} {l:List α} {j:Nat} {x: α} {i:Nat} {p: α} (h:(l.set j x)[i]? =some p):(i=j/\p=x/\j<l.length)\/(i≠j/\l[i]? =some p):=by grind[split]
theorem AcT {t:Nat} {x i y:Operand} (hC:TOk P C) (hS:Sim V0 O0 w0 O m st a w) (hd:o.dst=none) (ho:o.op= .mapUpdate t x i y\/o.op= .insert t x i y) {fet:Fet} (hf:I7 st.Dn fet) {x' i' y':A} (hx:DJ O st.Dn m w (a.eval x) x') (hi:DJ O st.Dn m w (a.eval i) i') (hy:DJ O st.Dn m w (a.eval y) y')
 (hok:DC (nZ C fet t x' i' y').ok):Good P V0 O0 w0 (apply st o (nZ C fet t x' i' y')) o a w:=by
 intro next Q hn
 have hF:FOk O st.Dn m w fet:=fun q x h=>⟨hf q x h,hS.Dn q x (hf q x h)⟩
 unfold nZ at *
 obtain⟨ti,kt,et,ta,tb,ht,hd',hta,htb,he⟩:=qN hok;rw[he]at hok hn;clear he;obtain⟨p,hp,he⟩:=DY hok;rw[he]at hok hn;clear he;obtain⟨hokA,hokB⟩:=hok.append;have hmk:=hokB.cons.1;obtain⟨hokA,hokP⟩:=hokA.append;obtain⟨hok1,hokV⟩:=hokA.append;obtain⟨hv1,hokV⟩:=hokV.cons;have hv2:=hokV.cons.1;obtain⟨hq,hv,hM⟩:=AjA hF hx hp;obtain⟨hK,hk,hone,hvt⟩:=AkB hC hta hi hok1;obtain⟨hyc1,hyc2⟩:=hy.cells hv1;obtain⟨g1,g2,g3,g4⟩:=PM (O:=O) (m:=m) (w:=w) hf tb.cs y'.cells (fun j=>(a.eval y).cells.getD j undef) hyc2 hokP;generalize hpu:ED fet tb.cs y'.cells=pu at *
 obtain⟨O1,hS1,hp1,hle1,hv1',hE1,hk1⟩:=hS.freezes _ g3;have hNR:NR st.Dn p.1:=.of hq (fun _ _ _ h=>by cases h)
 have hq1:D6 (DK st.Dn pu.2.2) p.1=some (.mp p.2):=by
  rw[Gf _ _ _ (fun z hz e=> ?_)]
  ·exact hq
  ·obtain⟨e',f',l',h1,_⟩:=g3 z hz;rw[e]at h1;exact hNR _ _ _ h1
 obtain⟨r,es,ck,h1,h2,h3,h4,h5⟩:=(show IK O1 w p.1 (m p.1) p.2 from hS1.Dn p.1 _ hq1).lists;have hu:=(hC.is ht).d;rw[hd']at hu;have hM0:=hM.lists;obtain⟨r0,es0,ck0,k1,k2,k3,k4,k5⟩:=hM0;rw[h1]at k1;injection k1 with k1;injection k1 with k1;subst k1;rw[h2]at k2;injection k2 with k2;injection k2 with k2 k2';subst k2;subst k2';have hfind:=hK.find (a.eval i) _ es.toList p.2.l hk k4 (fun i e p he hp=>(k5 i e p he hp).1);have hchk:=hK.check false (a.eval i) _ hk;have hk':GY O1 w (a.eval i) (IQ (p.2.kt.cells (p.2.kt.mk i'.cells).2)):=hk.Ee hp1;have hcells:=Ty.LH _ _ hmk;have hval:GY O1 w (a.eval y) (IQ (p.2.vt.cells (p.2.vt.mk pu.2.1).2)):=by rw[hcells];refine Ana (Dn:=st.Dn) hv2 hv1 hy (by rw[g1,g2]) (fun j hj=>g4 hp1 hv1' j (by rw[<- g1];exact hj))
 have happ: ∀ ok l',apply st o {ok:=ok,val:=.undef,upd:=pu.2.2++[(p.1,.mp l')]}= {tmps:=put st.tmps none .undef,Dn:=F7 (DK st.Dn pu.2.2) p.1 (.mp l')}:=by
  intro ok l';unfold apply;rw[hd]
  have: ∀(u:List (Nat×Vm.Obj)) (l:List (Nat×Vm.Obj)) n z,DK l (u++[(n,z)])=F7 (DK l u) n z:=by
   intro u
   induction u with
   | nil=>intro l n z;rfl
   | cons q u ih=>intro l n z;exact ih _ _ _
  show St.mk _ (DK (Eo (DK st.Dn (pu.2.2++[(p.1,.mp l')])) []) [])=_;rw[this];rfl
 rcases Ad0 (k:=(p.2.kt.mk i'.cells).2) es.toList p.2.l 0 k4 with ⟨f1,_,f3,_⟩ | ⟨j,e,q,f1,f2,f3,f4,_,f6,_⟩
 ·have hrun:(execOp a.eval o).run P w= .ok .skip {w with heap:=w.heap.setIfInBounds r (.map (es.push {key:=a.eval i,val:=a.eval y,born:=ck}) (ck+1))}:=by
   have:(Instr.mapUpdate t (a.eval x) (a.eval i) (a.eval y)).run P w= .ok () {w with heap:=w.heap.setIfInBounds r (.map (es.push {key:=a.eval i,val:=a.eval y,born:=ck}) (ck+1))}:=by rw[hv,h1];simp [Instr.mapUpdate,run_underlying hu,Qm h2,hchk,hfind,f1,YG _ h2,Result.andThen]
   rcases ho with ho | ho<;>simp only[execOp,ho,Sem.run_bind,this,Result.andThen_ok,Sem.run_pure]
  unfold Oper.wp;rw[hrun,Oper.upon_skip,hd];refine hn O1 m _ _ ?_;rw[happ];refine sG hS1 (d:=none) (v:=undef) hq1 h1 h2 h3 (by rw[f3,Array.size_push,List.length_append,<- k4,Array.length_toList];rfl) (fun i0 p0 hp0=> ?_) (fun h=>absurd rfl h);have hp0:(jA p.2.kt (p.2.kt.mk i'.cells).2 (p.2.vt.mk pu.2.1).2 p.2.l)[i0]? =some p0:=hp0;rw[f3]at hp0;have hsz:es.size=p.2.l.length:=by rw[<- k4,Array.length_toList]
  rcases Nat.lt_or_ge i0 p.2.l.length with hlt | hge
  ·rw[List.getElem?_append_left hlt]at hp0;have hlt':i0<es.size:=by omega
   have hes:es.toList[i0]? =some es[i0]:=by rw[Array.getElem?_toList,Array.getElem?_eq_getElem hlt']
   refine⟨es[i0],by rw[Array.getElem?_push,if_neg (by omega),Array.getElem?_eq_getElem hlt'],h5 i0 _ p0 hes hp0⟩
  ·rw[List.getElem?_append_right hge]at hp0
   have h0:i0 - p.2.l.length=0:=by
    rcases Nat.eq_zero_or_pos (i0 - p.2.l.length)with h | h
    ·exact h
    ·rw[List.getElem?_eq_none (by show 1<=_;omega)]at hp0;cases hp0
   rw[h0]at hp0;injection hp0 with hp0;subst hp0;exact⟨_,by rw[Array.getElem?_push,if_pos (by omega)],hk',hval⟩
 ·have hstay:=hK.stays (a.eval i) e.key _ hk (by rw[<- f4];exact(k5 j e q f2 f3).1);have f2':es[j]? =some e:=by rw[<- Array.getElem?_toList];exact f2
  have hrun:(execOp a.eval o).run P w= .ok .skip {w with heap:=w.heap.setIfInBounds r (.map (es.modify j fun e=> {e with key:=a.eval i,val:=a.eval y}) ck)}:=by
   have:(Instr.mapUpdate t (a.eval x) (a.eval i) (a.eval y)).run P w= .ok () {w with heap:=w.heap.setIfInBounds r (.map (es.modify j fun e=> {e with key:=a.eval i,val:=a.eval y}) ck)}:=by rw[hv,h1];simp [Instr.mapUpdate,run_underlying hu,Qm h2,hchk,hfind,f1,f2',hstay,YG _ h2,Result.andThen]
   rcases ho with ho | ho<;>simp only[execOp,ho,Sem.run_bind,this,Result.andThen_ok,Sem.run_pure]
  unfold Oper.wp;rw[hrun,Oper.upon_skip,hd];refine hn O1 m _ _ ?_;rw[happ];refine sG hS1 (d:=none) (v:=undef) hq1 h1 h2 h3 (by rw[f6,Array.size_modify,List.length_set,<- k4,Array.length_toList]) (fun i0 p0 hp0=> ?_) (fun h=>absurd rfl h);have hp0:(jA p.2.kt (p.2.kt.mk i'.cells).2 (p.2.vt.mk pu.2.1).2 p.2.l)[i0]? =some p0:=hp0;rw[f6]at hp0;rcases Asa hp0 with ⟨q1,q2,_⟩ | ⟨q1,q2⟩
  ·subst q1;subst q2;refine⟨_,by rw[Array.getElem?_modify,if_pos rfl,f2'];rfl,?_,hval⟩;dsimp only;rw[f4];exact hk'
  ·have hlt:i0<es.size:=by
    have:=(List.getElem?_eq_some_iff.1 q2).1;rw[<- k4,Array.length_toList]at this;exact this
   have hes:es.toList[i0]? =some es[i0]:=by rw[Array.getElem?_toList,Array.getElem?_eq_getElem hlt]
   exact⟨es[i0],by rw[Array.getElem?_modify,if_neg (fun h=>q1 h.symm),Array.getElem?_eq_getElem hlt],h5 i0 _ p0 hes q2⟩
theorem AlX {t:Nat} {x i:Operand} {c:Call} (hC:TOk P C) (hS:Sim V0 O0 w0 O m st a w) (ho:o.op= .call c) (hcal:c.callee= .builtin .delete) (hargs:c.args= #[x,i]) {ts:List Nat} (hts:c.argTypes.toList=t::ts) {fet:Fet} (hf:I7 st.Dn fet) {x' i':A} (hx:DJ O st.Dn m w (a.eval x) x') (hi:DJ O st.Dn m w (a.eval i) i')
 (hok:DC (lJ C fet t x' i').ok):Good P V0 O0 w0 (apply st o (lJ C fet t x' i')) o a w:=by
 intro next Q hn
 have hF:FOk O st.Dn m w fet:=fun q x h=>⟨hf q x h,hS.Dn q x (hf q x h)⟩
 unfold lJ at *
 obtain⟨ti,kt,et,ta,tb,ht,hd',hta,htb,he⟩:=qN hok;rw[he]at hok hn;clear he;obtain⟨p,hp,he⟩:=DY hok;rw[he]at hok hn;clear he;obtain⟨hq,hv,hM⟩:=AjA hF hx hp;obtain⟨hK,hk,hone,hvt⟩:=AkB hC hta hi hok;obtain⟨r,es,ck,h1,h2,h3,h4,h5⟩:=hM.lists;have hu:=(hC.is ht).d;rw[hd']at hu;have hts0:c.argTypes[0]? =some t:=by rw[<- Array.getElem?_toList,hts];rfl
 have hfind:=hK.find (a.eval i) _ es.toList p.2.l hk h4 (fun i e p he hp=>(h5 i e p he hp).1);have hchk:=hK.check es.isEmpty (a.eval i) _ hk;have happ: ∀ ok l',apply st o {ok:=ok,val:=.tup [],upd:=[(p.1,.mp l')]}= {tmps:=put st.tmps o.dst (.tup []),Dn:=F7 st.Dn p.1 (.mp l')}:=by intro ok l';rfl
 have hT: ∀(O':Own) (objs':List (Nat×Vm.Obj)) (m':Nat->Value) (w':World),DJ O' objs' m' w' (.tuple #[]) (.tup []):=fun _ _ _ _=>⟨#[],rfl,rfl,fun j hj=>by cases hj⟩
 have main: ∀(es':Array MapEntry),(Builtin.delete_ c.argTypes o.type #[a.eval x,a.eval i]).run P w= .ok (.tuple #[]) {w with heap:=w.heap.setIfInBounds r (.map es' ck)}->es'.size=(iY p.2.kt (p.2.kt.mk i'.cells).2 p.2.l).length ->
  (∀(i0:Nat) (p0:p.2.kt.Val×p.2.vt.Val),(iY p.2.kt (p.2.kt.mk i'.cells).2 p.2.l)[i0]? =some p0-> ∃ e,es'[i0]? =some e/\GY O w e.key (IQ (p.2.kt.cells p0.1))/\GY O w e.val (IQ (p.2.vt.cells p0.2)))->o.wp P a w next Q:=by
  intro es' hr hs he;have hrun:(execOp a.eval o).run P w= .ok (.value (.tuple #[])) {w with heap:=w.heap.setIfInBounds r (.map es' ck)}:=by simp [execOp,ho,resolve,hcal,hargs,invoke,builtin,hr]
  unfold Oper.wp;rw[hrun,Oper.upon_value];refine hn O m _ _ ?_;rw[happ];exact sG (l':=⟨p.2.kt,p.2.vt,iY p.2.kt (p.2.kt.mk i'.cells).2 p.2.l⟩) hS hq (by rw[<- h1]) h2 h3 hs he (fun _=>hT)
 have hsz:es.size=p.2.l.length:=by rw[<- h4,Array.length_toList]
 rcases Ad0 (k:=(p.2.kt.mk i'.cells).2) es.toList p.2.l 0 h4 with ⟨f1,_,_,f3⟩ | ⟨j,e,q,f1,f2,f3,f4,_,_,f6⟩
 ·refine main es ?_ (by rw[f3];exact hsz) (fun i0 p0 hp0=> ?_)
  ·rw[hv,h1];simp [Builtin.delete_,hts0,run_underlying hu,Qm h2,hchk,hfind,f1,YG _ h2,Result.andThen]
  ·rw[f3]at hp0;have hlt:i0<es.size:=by have:=(List.getElem?_eq_some_iff.1 hp0).1;omega
   have hes:es.toList[i0]? =some es[i0]:=by rw[Array.getElem?_toList,Array.getElem?_eq_getElem hlt]
   exact⟨es[i0],Array.getElem?_eq_getElem hlt,h5 i0 _ p0 hes hp0⟩
 ·have hj:j<es.size:=by
   have:=(List.getElem?_eq_some_iff.1 f2).1;simpa using this
  have hel:(es.eraseIdxIfInBounds j).toList=es.toList.eraseIdx j:=by unfold Array.eraseIdxIfInBounds;rw[dif_pos hj];simp
  refine main (es.eraseIdxIfInBounds j) ?_ ?_ (fun i0 p0 hp0=> ?_)
  ·rw[hv,h1];simp [Builtin.delete_,hts0,run_underlying hu,Qm h2,hchk,hfind,f1,YG _ h2,Result.andThen]
  all_goals grind[GY,IQ,split]
end
end Go.Proofs.YtfgdgdnlglejbaaGreatDoor.Vm
namespace Go.Proofs.YtfgdgdnlglejbaaGreatDoor.Vm
open Classical
def IC (O:Own) (w:World) (id:Nat) (v:Value):A->Prop
 | .usl z e l=>Fj O [] (fun _=>v) w id (.arr e z l)
 | .box cs=> ∃ b base,v= .pointer (some (at' b base))/\ ∀ j,j<cs.length->O b (base+j)=some id/\w.frozen? (at' b (base+j))=false/\ ∃ u,w.cell? (at' b (base+j))=some u/\D7 O w u (cs.getD j .undef)
 | a=>D7 O w v a
def IR (O:Own) (w:World) (id:Nat) (v:Value):A->Prop
 | .agg cs=> ∃ vs:Array Value,v= .agg vs/\vs.size=cs.length/\ ∀ j,j<cs.length->IC O w (id+1+j) (vs.getD j undef) (cs.getD j .undef)
 | .box cs=> ∃ b base,v= .pointer (some (at' b base))/\ ∀ j,j<cs.length->O b (base+j)=some id/\w.frozen? (at' b (base+j))=false/\ ∃ u,w.cell? (at' b (base+j))=some u/\IC O w (id+1+j) u (cs.getD j .undef)
 | .cbx k cs=> ∃ b base,Yx O w k v (.pointer (some (at' b base)))/\ ∀ j,j<cs.length->O b (base+j)=some id/\w.frozen? (at' b (base+j))=false/\ ∃ u,w.cell? (at' b (base+j))=some u/\IC O w (id+1+j) u (cs.getD j .undef)
 | .ump l=>IK O w id v l
 | a=>IC O w id v a
section
variable {P:Program} {C:Ctx} {V0:Nat->Value} {O0 O:Own} {w0 w:World} {m:Nat->Value} {st:St} {a:Act} {o:Oper}
theorem D7.ic {id:Nat} {v:Value} {x:A} (h:D7 O w v x):IC O w id v x:=by cases h<;>first | exact .bool _ | exact .int _ _ | exact .str _ | exact .nil _ | exact .FP | exact .fn _ | exact .eG | exact D7.sl0 _ _ | (rename_i vs a1 a2 a3;exact D7.sl vs a1 a2 a3) | (rename_i h hn;exact D7.sln h hn)
def I8 (O:Own) (ρ :Nat->Option Nat):Own:=fun b k=>match O b k with
 | none=>none
 | some o=>match ρ o with
  | some i=>some i
  | none=>some 255
theorem UH {ρ :Nat->Option Nat} {b k:Nat}:I8 O ρ b k=none↔O b k=none:=by grind[I8]
theorem Qw {ρ :Nat->Option Nat} {b k o i:Nat} (h:O b k=some o) (hr: ρ o=some i):I8 O ρ b k=some i:=by unfold I8;rw[h];simp [hr]
theorem Qv (ρ :Nat->Option Nat):G5 O w (I8 O ρ) w:=fun _ _ _ h hc=>⟨UH.2 h,hc⟩
theorem Fj.I8 {ρ :Nat->Option Nat} {q i e:Nat} {z:Bool} {l:Sl} {Dn objs':List (Nat×Obj)} {m m':Nat->Value} (h:Fj O Dn m w q (.arr e z l)) (hr: ρ q=some i) (hm:m' i=m q) :
 Fj (I8 O ρ) objs' m' w i (.arr e z l):=by
 refine⟨h.1,?_⟩;rcases h.2 with ⟨h1,h2,h3⟩ | ⟨h1,g,cap,cur,h2,h3,h4,h5,h6,h7,h8,h9⟩
 ·exact .inl ⟨h1,h2,by rw[hm];exact h3⟩
 ·refine .inr ⟨h1,g,cap,cur,by rw[hm];exact h2,h3,h4,h5,h6,fun r j hr' hj=> ?_,fun k hk hge=>Qw (h8 k hk hge) hr,fun k hk=> ?_⟩
  ·obtain⟨u,h10,h11⟩:=h7 r j hr' hj;exact⟨u,h10,h11.Ee (Qv ρ)⟩
  ·have:=h9 k hk;cases z with
   | true=>exact UH.2 this
   | false=>exact Qw this hr
theorem Fj.keep {O':Own} {q e:Nat} {l:Sl} {Dn objs':List (Nat×Obj)} {m:Nat->Value} (h:Fj O Dn m w q (.arr e false l)) (hp:G5 O w O' w) (hk: ∀ b k,O b k=some q->O' b k=some q):Fj O' objs' m w q (.arr e false l):=by
 refine⟨h.1,?_⟩;rcases h.2 with h0 | ⟨h1,g,cap,cur,h2,h3,h4,h5,h6,h7,h8,h9⟩
 ·exact .inl h0
 ·refine .inr ⟨h1,g,cap,cur,h2,h3,h4,h5,h6,fun r j hr' hj=> ?_,fun k a b=>hk _ _ (h8 k a b),fun k a=>hk _ _ (h9 k a)⟩;obtain⟨u,h10,h11⟩:=h7 r j hr' hj;exact⟨u,h10,h11.Ee hp⟩
theorem Qo {W:Prop} {fet:Fet} (hf:I7 st.Dn fet) (hS: ∀ q y,D6 st.Dn q=some y->Fj O st.Dn m w q y): ∀(ks:List (Bool×CK)) (cs:List A) (id:Nat) (f:Nat->Value),(ks.any wC=true->W)->(∀ j,j<cs.length->DT O st.Dn m w (f j) (cs.getD j .undef))->DC (DF fet ks cs).1 ->
 (DF fet ks cs).2.1.length=ks.length/\cs.length=ks.length/\Frz st.Dn (DF fet ks cs).2.2.1/\(DF fet ks cs).2.2.2=(FB id ks cs).map (·.1) /\
 ∀ {O':Own} {objs':List (Nat×Obj)} {ρ :Nat->Option Nat},G5 O w O' w->(∀ p∈(DF fet ks cs).2.2.1,∀ e l,p.2= .arr e true l->D7 O' w (m p.1) (.sl l)) ->
  (∀ p∈(DF fet ks cs).2.2.1,Fj O' objs' m w p.1 p.2)->(∀ b k q,O b k=some q->(NR st.Dn q\/W)->O' b k=some q)->(∀ p∈FB id ks cs,ρ p.1=some p.2) ->
  ∀ j,j<ks.length->IC (I8 O' ρ) w (id+j) (f j) ((DF fet ks cs).2.1.getD j .undef):=by
 intro ks
 induction ks with
 | nil =>
  intro cs id f _ _ hok;cases cs with
  | nil=>exact⟨rfl,rfl,(fun p hp=>by simp [DF]at hp),rfl,fun _ _ _ _ _ j hj=>by simp at hj⟩
  | cons _ _=>have:=hok false (by simp [DF]);cases this
 | cons k ks ih =>
  intro cs id f hW h hok;obtain⟨u,k⟩:=k;cases cs with
  | nil=>have:=hok false (by cases u<;>simp [DF]);cases this
  | cons c cs =>
   have hrest:=fun hok2=>ih cs (id+1) (fun j=>f (j+1)) (fun h=>hW (by rw[List.any_cons,h,Bool.or_true])) (fun j hj=>by simpa using h (j+1) (by simpa using hj)) hok2;cases u with
   | false =>
    simp only[DF]at hok ⊢;obtain⟨hok1,hok2⟩:=hok.append;obtain⟨h1,h2⟩:=Alg hf (h 0 (by simp)) hok1;obtain⟨h3,h4,h5,h6,h7⟩:=hrest hok2;have hnames:FB id ((false,k)::ks) (c::cs)=FB (id+1) ks cs:=by cases c<;>rfl
    refine⟨by simp [h3],by simp [h4],h1.append h5,by rw[hnames];exact h6,fun {O' objs' ρ} hp hv hO hbx hρ j hj=> ?_⟩;rw[hnames]at hρ;cases j with
    | zero =>have hvr:=(h2 hp (fun p hp=>hv p (List.mem_append_left _ hp))).Ee (Qv ρ);exact hvr.ic
    | succ j =>have:=h7 hp (fun p hp=>hv p (List.mem_append_right _ hp)) (fun p hp=>hO p (List.mem_append_right _ hp)) hbx hρ j (by simpa using hj);rw[show id+(j+1)=id+1+j from by omega];simpa using this
   | true =>
    cases k with
    | sl e sz =>
     cases c with
     | own q =>
      simp only[DF]at hok ⊢;cases hg:D6 fet q with
      | none=>rw[hg]at hok;have:=hok false (by simp);cases this
      | some x =>
       cases x with
       | box _=>rw[hg]at hok;have:=hok false (by simp);cases this
       | mp _=>rw[hg]at hok;have:=hok false (by simp);cases this
       | arr e' fz l =>
        rw[hg]at hok;dsimp only at hok ⊢;obtain⟨hok1,hok2⟩:=hok.append;obtain⟨e1,e2⟩:=hok1.cons;have e1:=Nat.eq_of_beq_eq_true e1;subst e1;obtain⟨h3,h4,h5,h6,h7⟩:=hrest hok2;have hq:=hf q _ hg;refine⟨by simp [h3],by simp [h4],fun p hp=> ?_,?_,fun {O' objs' ρ} hp hv hO hbx hρ j hj=> ?_⟩
        ·rcases List.mem_cons.1 hp with rfl | hp
         ·exact⟨e,fz,l,hq,rfl⟩
         ·exact h5 p hp
        ·simp only[FB,List.map_cons,h6]
        ·cases j with
         | zero =>have hc:DT O st.Dn m w (f 0) (.own q):=h 0 (by simp);have hc:=hc.2;rw[hq]at hc;simp only[Option.map_some,Obj.shp]at hc;have:=hO _ List.mem_cons_self;exact this.I8 (objs':=[]) (m':=fun _=>f 0) (hρ (q,id) List.mem_cons_self) hc
         | succ j =>have:=h7 hp (fun p hp=>hv p (List.mem_cons_of_mem _ hp)) (fun p hp=>hO p (List.mem_cons_of_mem _ hp)) hbx (fun p hp=>hρ p (List.mem_cons_of_mem _ hp)) j (by simpa using hj);rw[show id+(j+1)=id+1+j from by omega];simpa using this
     | Fh =>
      simp only[DF]at hok ⊢;obtain⟨h3,h4,h5,h6,h7⟩:=hrest hok;have hnames:FB id ((true,.sl e sz)::ks) (.Fh::cs)=FB (id+1) ks cs:=rfl;refine⟨by simp [h3],by simp [h4],h5,by rw[hnames];exact h6,fun {O' objs' ρ} hp hv hO hbx hρ j hj=> ?_⟩;rw[hnames]at hρ;cases j with
      | zero =>have hc:DT O st.Dn m w (f 0) .Fh:=h 0 (by simp);have hc:f 0= .slice none 0 0:=hc;show Fj _ [] (fun _=>f 0) w _ (.arr e true ⟨sz,[]⟩);exact⟨by simp [Sl.es],.inl ⟨trivial,rfl,hc⟩⟩
      | succ j =>have:=h7 hp hv hO hbx hρ j (by simpa using hj);rw[show id+(j+1)=id+1+j from by omega];simpa using this
     | _=>have:=hok false (by simp [DF]);cases this
    | sln e sz =>
     cases c with
     | own q =>
      simp only[DF]at hok ⊢;cases hg:D6 fet q with
      | none=>rw[hg]at hok;have:=hok false (by simp);cases this
      | some x =>
       cases x with
       | box _=>rw[hg]at hok;have:=hok false (by simp);cases this
       | mp _=>rw[hg]at hok;have:=hok false (by simp);cases this
       | arr e' fz l =>
        rw[hg]at hok;dsimp only at hok ⊢;obtain⟨hok1,hok2⟩:=hok.append;obtain⟨e1,e2⟩:=hok1.cons;obtain⟨_,e3⟩:=e2.cons;have e3:fz=false:=by simpa using e3.cons.1
        subst e3;have e1:=Nat.eq_of_beq_eq_true e1;subst e1;obtain⟨h3,h4,h5,h6,h7⟩:=hrest hok2;have hq:=hf q _ hg;refine⟨by simp [h3],by simp [h4],h5,?_,fun {O' objs' ρ} hp hv hO hbx hρ j hj=> ?_⟩
        ·simp only[FB,List.map_cons,h6]
        ·cases j with
         | zero =>have hc:DT O st.Dn m w (f 0) (.own q):=h 0 (by simp);have hc:=hc.2;rw[hq]at hc;simp only[Option.map_some,Obj.shp]at hc;exact(Fj.keep (objs':=st.Dn) (hS q _ hq) hp fun b k hb=>hbx b k q hb (.inr (hW rfl))).I8 (objs':=[]) (m':=fun _=>f 0) (hρ (q,id) List.mem_cons_self) hc
         | succ j =>have:=h7 hp hv hO hbx (fun p hp=>hρ p (List.mem_cons_of_mem _ hp)) j (by simpa using hj);rw[show id+(j+1)=id+1+j from by omega];simpa using this
     | Fh =>
      simp only[DF]at hok ⊢;obtain⟨h3,h4,h5,h6,h7⟩:=hrest hok;have hnames:FB id ((true,.sln e sz)::ks) (.Fh::cs)=FB (id+1) ks cs:=rfl;refine⟨by simp [h3],by simp [h4],h5,by rw[hnames];exact h6,fun {O' objs' ρ} hp hv hO hbx hρ j hj=> ?_⟩;rw[hnames]at hρ;cases j with
      | zero =>have hc:DT O st.Dn m w (f 0) .Fh:=h 0 (by simp);have hc:f 0= .slice none 0 0:=hc;show Fj _ [] (fun _=>f 0) w _ (.arr e false ⟨sz,[]⟩);exact⟨by simp [Sl.es],.inl ⟨trivial,rfl,hc⟩⟩
      | succ j =>have:=h7 hp hv hO hbx hρ j (by simpa using hj);rw[show id+(j+1)=id+1+j from by omega];simpa using this
     | _=>have:=hok false (by simp [DF]);cases this
    | bx t =>
     cases c with
     | ptr q off =>
      simp only[DF]at hok ⊢;cases hg:FQ fet q with
      | none=>rw[hg]at hok;have:=hok false (by simp);cases this
      | some zs =>
       rw[hg]at hok;dsimp only at hok ⊢;obtain⟨hok0,hok1⟩:=hok.cons;obtain⟨hok1,hok2⟩:=hok1.append;have hok0:=Nat.eq_of_beq_eq_true hok0;subst hok0;obtain⟨h3,h4,h5,h6,h7⟩:=hrest hok2;have hq:=hf q _ (FI hg);obtain⟨b,base,g1,g2⟩:=hS q _ hq;have hv0:f 0= .pointer (some (at' b base)):=by have hc:DT O st.Dn m w (f 0) (.ptr q 0):=h 0 (by simp);have hc:=hc.2;rw[hq]at hc;simp only[Option.map_some,Obj.shp]at hc;obtain⟨b',base',g3,g4⟩:=hc;rw[g1]at g3;injection g3 with g3;injection g3 with g3;injection g3 with e1 e2;subst e1;subst e2;exact g4
       have hfc: ∀ j,j<zs.length->w.cell? (at' b (base+j))=some ((w.cell? (at' b (base+j))).getD undef)/\DT O st.Dn m w ((w.cell? (at' b (base+j))).getD undef) (zs.getD j .undef):=by intro j hj;obtain⟨_,_,u,h3,h4⟩:=g2 j hj;rw[h3];exact⟨rfl,h4⟩
       obtain⟨p1,p2,p3,p4⟩:=PM hf (tck t) zs (fun j=>(w.cell? (at' b (base+j))).getD undef) (fun j hj=>(hfc j hj).2) hok1;refine⟨by simp [h3],by simp [h4],p3.append h5,?_,fun {O' objs' ρ} hp hv hO hbx hρ j hj=> ?_⟩
       ·simp only[FB,List.map_cons,h6]
       ·cases j with
        | zero =>
         refine⟨b,base,hv0,fun j hj=> ?_⟩;have hj:j<(ED fet (tck t) zs).2.1.length:=hj;rw[p1]at hj;have hj':j<zs.length:=by rw[p2];exact hj
         obtain⟨k1,k2,_⟩:=g2 j hj';exact⟨Qw (hbx _ _ _ k1 (.inl (.of hq (fun _ _ _ h=>by cases h)))) (hρ (q,id) List.mem_cons_self),k2,_,(hfc j hj').1,(p4 hp (fun p hp=>hv p (List.mem_append_left _ hp)) j hj).Ee (Qv ρ)⟩
        | succ j =>have:=h7 hp (fun p hp=>hv p (List.mem_append_right _ hp)) (fun p hp=>hO p (List.mem_append_right _ hp)) hbx (fun p hp=>hρ p (List.mem_cons_of_mem _ hp)) j (by simpa using hj);rw[show id+(j+1)=id+1+j from by omega];simpa using this
     | _=>have:=hok false (by simp [DF]);cases this
    | _=>have:=hok false (by simp [DF]);cases this
end
end Go.Proofs.YtfgdgdnlglejbaaGreatDoor.Vm
namespace Go.Proofs.YtfgdgdnlglejbaaGreatDoor.Vm
open Classical
section
variable {P:Program} {C:Ctx} {V0:Nat->Value} {O0 O:Own} {w0 w:World} {m:Nat->Value} {st:St} {a:Act} {o:Oper}
theorem Ak2 {W:Prop} {fet:Fet} (hf:I7 st.Dn fet) {s:Sh} {x:A} {v:Value} {id:Nat} (hW:wS s=true->W) (hx:DJ O st.Dn m w v x) (hS: ∀ q y,D6 st.Dn q=some y->Fj O st.Dn m w q y) (hok:DC (Ec fet s x).ok) :
 Frz st.Dn (Ec fet s x).upd/\(∀ q∈(Ec fet s x).del++(Ec fet s x).boxes.map (·.1),q∈(Ip fet id s x).map (·.1))/\(∀ q∈(Ip fet id s x).map (·.1),q∈(Ec fet s x).del++(Ec fet s x).boxes.map (·.1)) /\
 (E5 s=true↔(Ec fet s x).boxes≠ []) /\
 ∀ {O':Own} {objs':List (Nat×Obj)} {ρ :Nat->Option Nat},G5 O w O' w->(∀ p∈(Ec fet s x).upd,∀ e l,p.2= .arr e true l->D7 O' w (m p.1) (.sl l)) ->
  (∀ p∈(Ec fet s x).upd,Fj O' objs' m w p.1 p.2)->(∀ b k q,O b k=some q->(NR st.Dn q\/W)->O' b k=some q)->(∀ p∈Ip fet id s x,ρ p.1=some p.2) ->
  IR (I8 O' ρ) w id v (Ec fet s x).a:=by
 cases s with
 | cell u k =>
  unfold Ec at *
  dsimp only at hok ⊢
  have hall: ∀ hc:DT O st.Dn m w v x,_:=fun hc=>Qo hf hS [(u,k)] [x] id (fun _=>v) (fun h=>hW (by rw[List.any_cons,List.any_nil,Bool.or_false]at h;exact h)) (fun j hj=>by
   have:j=0:=by simpa using hj
   subst this;exact hc)
  have hnc: ∀(h:DC (DF fet [(u,k)] [x]).1),DT O st.Dn m w v x:=by
   intro h;cases x with
   | undef=>cases u<;>cases k<;>(have:=h false (by simp [DF,pur]);cases this)
   | agg _=>cases u<;>cases k<;>(have:=h false (by simp [DF,pur]);cases this)
   | tup _=>cases u<;>cases k<;>(have:=h false (by simp [DF,pur]);cases this)
   | cnd _ _=>cases u<;>cases k<;>(have:=h false (by simp [DF,pur]);cases this)
   | _=>exact hx
  generalize hh:DF fet [(u,k)] [x]=r at *
  obtain⟨ok,cs,upd,del⟩:=r;cases cs with
  | nil=>have:=hok false (by simp);cases this
  | cons c cs =>
   cases cs with
   | cons _ _=>have:=hok false (by simp);cases this
   | nil =>
    dsimp only at hok ⊢;obtain⟨h1,h2,h3,h4,h5⟩:=hall (hnc hok) hok;have h4:del=(FB id [(u,k)] [x]).map (·.1):=h4;refine⟨h3,fun q hq=> ?_,fun q hq=> ?_,⟨(fun h=>by cases h),fun h=>absurd rfl h⟩,fun {O' objs' ρ} hp hv hO hbx hρ => ?_⟩
    ·simp only[List.map_nil,List.append_nil]at hq;rw[h4]at hq;exact hq
    ·simp only[List.map_nil,List.append_nil];rw[h4];exact hq
    ·have:=h5 hp hv hO hbx hρ 0 (by simp);have e: [c].getD 0 .undef=c:=rfl;dsimp only at this;rw[e]at this;cases c<;>first | exact this | (obtain⟨b,base,e1,e2⟩:=this;exact⟨b,base,e1,fun j hj=>let ⟨k1,k2,u,k3,k4⟩:=e2 j hj;⟨k1,k2,u,k3,k4.ic⟩⟩) | cases this
 | agg ks =>
  cases x with
  | agg cs =>
   unfold Ec at *
   dsimp only at hok ⊢;obtain⟨vs,g1,g2,g3⟩:=hx;obtain⟨h1,h2,h3,h4,h5⟩:=Qo hf hS ks cs (id+1) (fun j=>vs.getD j undef) hW g3 hok;refine⟨h3,fun q hq=> ?_,fun q hq=> ?_,⟨(fun h=>by cases h),fun h=>absurd rfl h⟩,fun {O' objs' ρ} hp hv hO hbx hρ => ?_⟩
   ·simp only[List.map_nil,List.append_nil]at hq;rw[h4]at hq;exact hq
   ·simp only[List.map_nil,List.append_nil];rw[h4];exact hq
   ·exact⟨vs,g1,by rw[g2,h1,h2],fun j hj=>h5 hp hv hO hbx hρ j (by rw[<- h1];exact hj)⟩
  | _=>have:=hok false (by simp [Ec]);cases this
 | box ks =>
  cases x with
  | ptr q off =>
   unfold Ec at *
   dsimp only at hok ⊢;cases hg:FQ fet q with
   | none=>rw[hg]at hok;have:=hok false (by simp);cases this
   | some cs =>
    rw[hg]at hok;dsimp only at hok ⊢;obtain⟨ho0,hokA⟩:=hok.cons;obtain⟨_,hokB⟩:=hokA.cons;have ho0:=Nat.eq_of_beq_eq_true ho0;subst ho0;have hq:=hf q _ (FI hg);obtain⟨b,base,g1,g2⟩:=hS q _ hq;have hv0:v= .pointer (some (at' b base)):=by have hc:DT O st.Dn m w v (.ptr q 0):=hx;have hc:=hc.2;rw[hq]at hc;simp only[Option.map_some,Obj.shp]at hc;obtain⟨b',base',g3,g4⟩:=hc;rw[g1]at g3;injection g3 with g3;injection g3 with g3;injection g3 with e1 e2;subst e1;subst e2;exact g4
    let f:Nat->Value:=fun j=>(w.cell? (at' b (base+j))).getD undef
    have hfc: ∀ j,j<cs.length->w.cell? (at' b (base+j))=some (f j)/\DT O st.Dn m w (f j) (cs.getD j .undef):=by
     intro j hj;obtain⟨_,_,u,h3,h4⟩:=g2 j hj;have:f j=u:=by show(w.cell? _).getD _=_;rw[h3];rfl
     rw[this];exact⟨h3,h4⟩
    obtain⟨h1,h2,h3,h4,h5⟩:=Qo hf hS ks cs (id+1) f hW (fun j hj=>(hfc j hj).2) hokB;have hnames:Ip fet id (.box ks) (.ptr q 0)=(q,id)::FB (id+1) ks cs:=by simp only[Ip,hg]
    rw[hnames];refine⟨h3,fun r hr=> ?_,fun r hr=> ?_,⟨fun _=>by simp,fun _=>rfl⟩,fun {O' objs' ρ} hp hv hO hbx hρ => ?_⟩
    ·simp only[List.map_cons,List.map_nil,List.mem_append,List.mem_singleton]at hr;rcases hr with hr | hr
     ·rw[h4]at hr;exact List.mem_cons_of_mem _ hr
     ·rw[hr];exact List.mem_cons_self
    ·simp only[List.map_cons,List.map_nil,List.mem_append,List.mem_singleton];rcases List.mem_cons.1 hr with hr | hr
     ·exact .inr hr
     ·left;rw[h4];exact hr
    ·refine⟨b,base,hv0,fun j hj=> ?_⟩;rw[h1]at hj;obtain⟨k1,k2,u,k3,_⟩:=g2 j (by rw[h2];exact hj);refine⟨Qw (hbx _ _ _ k1 (.inl (.of hq (fun _ _ _ h=>by cases h)))) (hρ (q,id) List.mem_cons_self),k2,f j,(hfc j (by rw[h2];exact hj)).1,h5 hp hv hO hbx (fun p hp'=>hρ p (List.mem_cons_of_mem _ hp')) j hj⟩
  | _=>have:=hok false (by simp [Ec]);cases this
 | clo f' ks =>
  cases x with
  | clo g q =>
   unfold Ec at *
   dsimp only at hok ⊢;cases hg:FQ fet q with
   | none=>rw[hg]at hok;have:=hok false (by simp);cases this
   | some cs =>
    rw[hg]at hok;dsimp only at hok ⊢;obtain⟨ho0,hokA⟩:=hok.cons;obtain⟨_,hokB⟩:=hokA.cons;have ho0:=Nat.eq_of_beq_eq_true ho0;subst ho0;have hq:=hf q _ (FI hg);obtain⟨b,base,g1,g2⟩:=hS q _ hq;have hv0:Yx O w f' v (.pointer (some (at' b base))):=by have hc:DT O st.Dn m w v (.clo f' q):=hx;obtain⟨_,p,_,hc2,hc⟩:=hc;rw[hq]at hc;obtain⟨b',base',e1,e2⟩:=hc;rw[g1]at e1;rw[e1,<- e2];exact hc2
    let f:Nat->Value:=fun j=>(w.cell? (at' b (base+j))).getD undef
    have hfc: ∀ j,j<cs.length->w.cell? (at' b (base+j))=some (f j)/\DT O st.Dn m w (f j) (cs.getD j .undef):=by
     intro j hj;obtain⟨_,_,u,h3,h4⟩:=g2 j hj;have:f j=u:=by show(w.cell? _).getD _=_;rw[h3];rfl
     rw[this];exact⟨h3,h4⟩
    obtain⟨h1,h2,h3,h4,h5⟩:=Qo hf hS ks cs (id+1) f hW (fun j hj=>(hfc j hj).2) hokB;have hnames:Ip fet id (.clo f' ks) (.clo f' q)=(q,id)::FB (id+1) ks cs:=by simp only[Ip,hg]
    rw[hnames];refine⟨h3,fun r hr=> ?_,fun r hr=> ?_,⟨fun _=>by simp,fun _=>rfl⟩,fun {O' objs' ρ} hp hv hO hbx hρ => ?_⟩
    ·simp only[List.map_cons,List.map_nil,List.mem_append,List.mem_singleton]at hr;rcases hr with hr | hr
     ·rw[h4]at hr;exact List.mem_cons_of_mem _ hr
     ·rw[hr];exact List.mem_cons_self
    ·simp only[List.map_cons,List.map_nil,List.mem_append,List.mem_singleton];rcases List.mem_cons.1 hr with hr | hr
     ·exact .inr hr
     ·left;rw[h4];exact hr
    ·refine⟨b,base,(hv0.Ee hp).Ee (Qv ρ),fun j hj=> ?_⟩;rw[h1]at hj;obtain⟨k1,k2,u,k3,_⟩:=g2 j (by rw[h2];exact hj);refine⟨Qw (hbx _ _ _ k1 (.inl (.of hq (fun _ _ _ h=>by cases h)))) (hρ (q,id) List.mem_cons_self),k2,f j,(hfc j (by rw[h2];exact hj)).1,h5 hp hv hO hbx (fun p hp'=>hρ p (List.mem_cons_of_mem _ hp')) j hj⟩
  | _=>have:=hok false (by simp [Ec]);cases this
 | map kt vt =>
  cases x with
  | own q =>
   unfold Ec at *
   dsimp only at hok ⊢;cases hg:D6 fet q with
   | none=>rw[hg]at hok;have:=hok false (by simp);cases this
   | some y =>
    cases y with
    | box _=>rw[hg]at hok;have:=hok false (by simp);cases this
    | arr _ _ _=>rw[hg]at hok;have:=hok false (by simp);cases this
    | mp l =>
     rw[hg]at hok;dsimp only at hok ⊢;have hq:=hf q _ hg;have hv0:v=m q:=by have hc:DT O st.Dn m w v (.own q):=hx;have hc:=hc.2;rw[hq]at hc;exact hc
     refine⟨(fun p hp=>by cases hp),fun r hr=> ?_,fun r hr=> ?_,⟨fun _=>by simp,fun _=>rfl⟩,fun {O' objs' ρ} hp hv hO hbx hρ => ?_⟩
     ·simpa [Ip]using hr
     ·simpa [Ip]using hr
     ·obtain⟨r,es,ck,g1,g2,g3,g4,g5⟩:=(show IK O w q (m q) l from hS q _ hq)
      refine⟨r,es,ck,by rw[hv0];exact g1,g2,Qw (hbx _ _ _ g3 (.inl (.of hq (fun _ _ _ h=>by cases h)))) (hρ (q,id) List.mem_cons_self),g4,fun i p hip=> ?_⟩;obtain⟨e,k1,k2,k3⟩:=g5 i p hip;exact⟨e,k1,(k2.Ee hp).Ee (Qv ρ),(k3.Ee hp).Ee (Qv ρ)⟩
  | _=>have:=hok false (by simp [Ec]);cases this
theorem X4 {W:Prop} {fet:Fet} (hf:I7 st.Dn fet) (hS: ∀ q y,D6 st.Dn q=some y->Fj O st.Dn m w q y) (stride:Nat): ∀(ss:List Sh) (xs:List A) (id:Nat) (f:Nat->Value),(ss.any wS=true->W)->(∀ j,j<xs.length->DJ O st.Dn m w (f j) (xs.getD j .undef))->DC (DW fet ss xs).1 ->
 (DW fet ss xs).2.1.length=ss.length/\xs.length=ss.length/\Frz st.Dn (DW fet ss xs).2.2.1 /\
 (∀ q,q∈(DW fet ss xs).2.2.2.1++(DW fet ss xs).2.2.2.2.map (·.1)↔q∈(GX fet id stride ss xs).map (·.1)) /\
 ∀ {O':Own} {objs':List (Nat×Obj)} {ρ :Nat->Option Nat},G5 O w O' w->(∀ p∈(DW fet ss xs).2.2.1,∀ e l,p.2= .arr e true l->D7 O' w (m p.1) (.sl l)) ->
  (∀ p∈(DW fet ss xs).2.2.1,Fj O' objs' m w p.1 p.2)->(∀ b k q,O b k=some q->(NR st.Dn q\/W)->O' b k=some q)->(∀ p∈GX fet id stride ss xs,ρ p.1=some p.2) ->
  ∀ j,j<ss.length->IR (I8 O' ρ) w (id+stride*j) (f j) ((DW fet ss xs).2.1.getD j .undef):=by
 intro ss
 induction ss with
 | nil =>
  intro xs id f _ _ hok;cases xs with
  | nil=>exact⟨rfl,rfl,(fun p hp=>by simp [DW]at hp),(fun q=>by simp [DW,GX]),fun _ _ _ _ _ j hj=>by simp at hj⟩
  | cons _ _=>have:=hok false (by simp [DW]);cases this
 | cons s ss ih =>
  intro xs id f hW h hok;cases xs with
  | nil=>have:=hok false (by simp [DW]);cases this
  | cons x xs =>
   simp only[DW]at hok ⊢;obtain⟨hok1,hok2⟩:=hok.append;obtain⟨h1,h2,h3,_,h4⟩:=Ak2 (id:=id) hf (fun e=>hW (by rw[List.any_cons,e,Bool.true_or])) (h 0 (by simp)) hS hok1;obtain⟨g1,g2,g3,g4,g5⟩:=ih xs (id+stride) (fun j=>f (j+1)) (fun e=>hW (by rw[List.any_cons,e,Bool.or_true])) (fun j hj=>by simpa using h (j+1) (by simpa using hj)) hok2;refine⟨by simp [g1],by simp [g2],h1.append g3,fun q=> ?_,fun {O' objs' ρ} hp hv hO hbx hρ j hj=> ?_⟩
   ·simp only[GX,List.map_append,List.mem_append];have a1:=h2 q;have a2:=h3 q;have a3:=g4 q;simp only[List.mem_append]at a1 a2 a3;constructor
    ·rintro ((h | h) | (h | h))
     ·exact .inl (a1 (.inl h))
     ·exact .inr (a3.1 (.inl h))
     ·exact .inl (a1 (.inr h))
     ·exact .inr (a3.1 (.inr h))
    ·rintro (h | h)
     ·rcases a2 h with h | h
      ·exact .inl (.inl h)
      ·exact .inr (.inl h)
     ·rcases a3.2 h with h | h
      ·exact .inl (.inr h)
      ·exact .inr (.inr h)
   ·cases j with
    | zero=>simpa using h4 hp (fun p hp=>hv p (List.mem_append_left _ hp)) (fun p hp=>hO p (List.mem_append_left _ hp)) hbx (fun p hp=>hρ p (List.mem_append_left _ hp))
    | succ j =>have:=g5 hp (fun p hp=>hv p (List.mem_append_right _ hp)) (fun p hp=>hO p (List.mem_append_right _ hp)) hbx (fun p hp=>hρ p (List.mem_append_right _ hp)) j (by simpa using hj);rw[show id+stride*(j+1)=id+stride+stride*j from by rw[Nat.mul_add];omega];simpa using this
end
