import Derived.Test.YtadefjgbcapakaaGreatDoorA5
import Derived.Lib.ConvBytes
import Derived.MapKept
set_option linter.all false
namespace Go.Proofs.YtadefjgbcapakaaGreatDoor.Vm
open Classical
section
variable {P:Program} {C:Ctx} {V0:Nat->Value} {O0 O:Own} {w0 w:World} {m:Nat->Value} {st:St} {a:Act} {o:Oper}
theorem Aeg (hS:Sim V0 O0 w0 O m st a w) {q e g cap i off:Nat} {l l':Sl} {cur:Array Value} {vs:List Value} {xs:List A}
    (hq:Ah st.Aa q=some (.arr e false l)) (hm:m q= .slice (some (at' g 0)) l.es.length cap) (hg:EU w g cur e) (hi:i<l.es.length) (hel:l'.es=l.es.set i (splice (l.es.getD i []) off xs)) (hls:l'.sz=l.sz) (hle:off+xs.length<=l.sz) (hl:vs.length=xs.length) (h0:0<xs.length)
    (hv: ∀ j,j<xs.length->Ai O w (vs.getD j undef) (xs.getD j .undef)) :
    Sim V0 O0 w0 O m {st with Aa:=CX st.Aa q (.arr e false l')} a (w.setCells g (i*l.sz+off) vs):=by
  obtain⟨hsz,hr⟩:=hS.Aa q _ hq
  obtain⟨g',cap',cur',h2,h3,h4,h5,h6,h7,h8,h9⟩: ∃ g' cap' cur',m q= .slice (some (at' g' 0)) l.es.length cap'/\EU w g' cur' e/\l.es.length<=cap'/\cap'<=maxLen/\cur'.size=cap'*l.sz /\
      (∀ i j,i<l.es.length->j<l.sz-> ∃ u,cur'[i*l.sz+j]? =some u/\Ai O w u ((l.es.getD i []).getD j .undef))/\(∀ k,k<cur'.size->l.es.length*l.sz<=k->O g' k=some q)/\(∀ k,k<l.es.length*l.sz->O g' k=if false then none else some q):=by
    rcases hr with ⟨_,_,h⟩ | ⟨_,h⟩
    ·rw[hm]at h;cases h
    ·exact h
  rw[hm]at h2
  injection h2 with h2 _ hcc;injection h2 with h2;injection h2 with h2
  subst h2;subst hcc
  obtain⟨h3,_⟩:=hg.inj h3
  subst h3
  obtain⟨fr,hg,hfr0⟩:=hg
  have hmul:l.es.length*l.sz<=cap*l.sz:=Nat.mul_le_mul_right _ h4
  have hrow:i*l.sz+off+xs.length<=l.es.length*l.sz:=by
    have:(i+1)*l.sz<=l.es.length*l.sz:=Nat.mul_le_mul_right _ hi
    rw[Nat.add_mul]at this;omega
  obtain⟨c',k1,k2,k3,k4,k5,k6,k7,k8⟩:=Rj g vs (i*l.sz+off) w hg (by rw[hl];omega)
  rw[hl]at k3
  let w':=w.setCells g (i*l.sz+off) vs
  have hout: ∀ k,(k<i*l.sz+off\/i*l.sz+off+xs.length<=k)->c'[k]? =cur[k]? :=by
    intro k hk
    by_cases hks:k<cur.size
    ·have:=k3 k
     rw[if_neg (by omega)]at this
     rw[getD_eq (by omega),getD_eq hks,this]
    ·rw[Array.getElem?_eq_none (by omega),Array.getElem?_eq_none (by omega)]
  have hown: ∀ k,k<l.es.length*l.sz->O g k=some q:=by intro k hk;simpa using h9 k hk
  have hM:Moves O (fun i=>i=q) w w':=by
    refine Moves.row k6 k7 k8 k5 hg k1 k4 k2 (fun k hk=>hout k ?_) (.inl ⟨i*l.sz+off,q,by omega,hown _ (by omega),rfl⟩)
    rcases Nat.lt_or_ge k (i*l.sz+off)with h | h
    ·exact .inl h
    ·right
     rcases Nat.lt_or_ge k (i*l.sz+off+xs.length)with h' | h'
     ·exact absurd rfl (hk q (hown k (by omega)))
     ·exact h'
  have hP:Passes O O (fun i=>i=q) w.heap.size:=⟨fun _ _ _ h=>h,fun _ _ _ _ h _=>h⟩
  have hpr:=hM.Bf hP
  have hei:(l.es.getD i []).length=l.sz:=hsz _ (by rw[List.getD_eq_getElem?_getD,List.getElem?_eq_getElem hi];simp)
  have hE:H5 st.Aa m (CX st.Aa q (.arr e false l')) m (fun _=>False):=by
    intro r y hy
    rw[Bl]at hy
    by_cases hrq:r=q
    ·subst hrq
     rw[if_pos rfl]at hy;injection hy with hy;subst hy
     exact .inr ⟨_,hq,by simp [Obj.shp,hel,hls],rfl⟩
    ·rw[if_neg hrq]at hy;exact .inr ⟨y,hy,rfl,rfl⟩
  have:=hS.next (st':= {st with Aa:=CX st.Aa q (.arr e false l')}) (d:=none) (v:=undef) (x:=.undef) (T:=fun i=>i=q) (Nw:=fun _=>False) hM hP (fun b k _ h=>h) hE (fun _ h=>h.elim) (fun r hr=>by rw[hr,hq];rfl) (fun r y hy=> ?_) rfl (fun h=>absurd rfl h)
  ·exact this
  ·rw[Bl]at hy
   by_cases hrq:r=q
   ·right
    subst hrq
    rw[if_pos rfl]at hy;injection hy with hy;subst hy
    refine⟨?_,hS.ids _ _ hq⟩
    simp only[Dv]
    rw[hel,hls]
    refine⟨fun x hx=> ?_,.inr ⟨trivial,g,cap,c',by rw[List.length_set];exact hm,⟨fr,k1,by rw[k2];exact hfr0⟩,by rw[List.length_set];exact h4,h5,by rw[k2];exact h6,fun r' j hr' hj=> ?_,fun k hk hge=> ?_,fun k hk=> ?_⟩⟩
    ·rcases List.mem_or_eq_of_mem_set hx with h | h
     ·exact hsz x h
     ·rw[h,Nq _ _ _ (by omega)];exact hei
    ·rw[List.length_set]at hr'
     obtain⟨u,h10,h11⟩:=h7 r' j hr' hj
     have hlt:r'*l.sz+j<l.es.length*l.sz:=by
       have:(r'+1)*l.sz<=l.es.length*l.sz:=Nat.mul_le_mul_right _ hr'
       rw[Nat.add_mul]at this;omega
     by_cases hri:r'=i
     ·subst hri
      have e1:(l.es.set r' (splice (l.es.getD r' []) off xs)).getD r' []=splice (l.es.getD r' []) off xs:=by
        simp [List.getD_eq_getElem?_getD,hr']
      rw[e1,WJ _ _ _ _ (by omega)]
      by_cases hin:off<=j/\j<off+xs.length
      ·rw[if_pos hin]
       refine⟨_,getD_eq (by omega),?_⟩
       rw[k3,if_pos (by omega),show r'*l.sz+j - (r'*l.sz+off)=j - off from by omega]
       exact(hv (j - off) (by omega)).Bf hpr
      ·rw[if_neg hin,hout _ (by omega)]
       exact⟨u,h10,h11.Bf hpr⟩
     ·have e1:(l.es.set i (splice (l.es.getD i []) off xs)).getD r' []=l.es.getD r' []:=by
        simp only[List.getD_eq_getElem?_getD,List.getElem?_set]
        rw[if_neg (fun h=>hri h.symm)]
      rw[e1,hout _ ?_]
      ·exact⟨u,h10,h11.Bf hpr⟩
      ·rcases Nat.lt_or_gt_of_ne hri with h | h
       ·left
        have:(r'+1)*l.sz<=i*l.sz:=Nat.mul_le_mul_right _ h
        rw[Nat.add_mul]at this;omega
       ·right
        have:(i+1)*l.sz<=r'*l.sz:=Nat.mul_le_mul_right _ h
        rw[Nat.add_mul]at this;omega
    ·rw[List.length_set]at hge;rw[k2]at hk;exact h8 k hk hge
    ·rw[List.length_set]at hk;simpa using hown k hk
   ·rw[if_neg hrq]at hy
    exact .inl ⟨hrq,hy,rfl⟩
theorem AbQ {t:Nat} {x y:Operand} (hC:TOk P C) (hS:Sim V0 O0 w0 O m st a w) (hd:o.dst=none) (ho:o.op= .store t x y) {fet:Fet} (hf:Ha st.Aa fet) {q i off:Nat} {v':A} (hx:Aq O st.Aa m w (a.eval x) (.CZ q i off)) (hy:Aq O st.Aa m w (a.eval y) v')
    (hok:Am (Lj C fet t (.CZ q i off) v').ok):Good P V0 O0 w0 (apply st o (Lj C fet t (.CZ q i off) v')) o a w:=by
  intro next Q hn
  unfold Lj at *
  obtain⟨ti,ht,he⟩:=Bz hok
  rw[he]at hok hn;clear he
  dsimp only at hok hn
  obtain⟨r,hr,he⟩:=Ba hok
  rw[he]at hok hn;clear he
  obtain⟨hok1,hok2⟩:=hok.append
  obtain⟨h1,h2⟩:=hok2.cons
  obtain⟨hset,h2⟩:=h2.cons
  obtain⟨h2,h3⟩:=h2.cons
  obtain⟨h3,h4⟩:=h3.cons
  obtain⟨h4,hno⟩:=h4.cons
  have hno:=hno.cons.1
  have h4:0<ti.cs.length:=by simpa [Nat.blt_eq]using h4
  have h1:r.frz=false:=by simpa using h1
  have h2:=Nat.le_of_ble_eq_true h2
  have h3':i<r.l.xs.length:=by simpa using h3
  have h3:i<r.l.es.length:=by rw[Sl.BZ];exact h3'
  have hT:=hC.is ht
  have hval:=AdP hok1
  have hvc:=hy.cells hval
  obtain⟨g1,g2,g3,g4⟩:=VC hf ti.cs v'.cells (fun j=>(a.eval y).cells.getD j undef) (fun j hj=>hvc.2 j hj) hok1
  obtain⟨O1,hS1,hp1,hle1,hv1,hE1,_⟩:=hS.freezes _ g3
  have hq:=hf _ _ (GM hr)
  have hqU: ∀ p∈(CB fet ti.cs v'.cells).2.2,p.1≠q:=by
    intro p hp he
    have:has ((CB fet ti.cs v'.cells).2.2.map (·.1)) q=true:=Ic.2 (List.mem_map.2 ⟨p,hp,he⟩)
    rw[this]at hno;cases hno
  have hq1:Ah (Ak st.Aa (CB fet ti.cs v'.cells).2.2) q=some (.arr r.e false r.l):=by
    rw[Dw _ _ _ hqU,hq,h1]
  have hx':AB O st.Aa m w (a.eval x) (.CZ q i off):=hx
  obtain⟨_,hx'⟩:=hx'
  rw[hq]at hx'
  simp only[Option.map_some,Obj.shp]at hx'
  obtain⟨g,n',cap,h5,h6⟩:=hx' h3
  obtain⟨hsz,hr'⟩:=hS1.Aa q _ hq1
  obtain⟨cur,h7,h8⟩: ∃ cur,m q= .slice (some (at' g 0)) r.l.es.length cap/\EU w g cur r.e/\cur.size=cap*r.l.sz/\r.l.es.length<=cap:=by
    rcases hr' with ⟨_,h9,_⟩ | ⟨h9,g',cap',cur,h10,h11,h12,h13,h14,_⟩
    ·rw[h9]at h3;simp at h3
    ·have h10':=h10
     rw[h5]at h10'
     injection h10' with q1 q2 q3;injection q1 with q1;injection q1 with q1
     subst q1;subst q3
     exact⟨cur,h10,h11,h14,h12⟩
  obtain⟨h8,h9,h10⟩:=h8
  have hsz2:(a.eval y).cells.size=ti.cs.length:=by rw[hvc.1,g2]
  have hrow:i*r.l.sz+off+ti.cs.length<=cur.size:=by
    have:(i+1)*r.l.sz<=r.l.es.length*r.l.sz:=Nat.mul_le_mul_right _ h3
    have:r.l.es.length*r.l.sz<=cap*r.l.sz:=Nat.mul_le_mul_right _ h10
    rw[Nat.add_mul]at *;omega
  have hrun:(execOp a.eval o).run P w= .ok .skip (w.setCells g (i*r.l.sz+off) (a.eval y).cells.toList):=by
    have:=gY (P:=P) (w:=w) (b:=g) (k:=i*r.l.sz+off) hT hsz2 (fun j hj=>(hvc.2 j (by rw[<- hvc.1];exact hj)).one) (fun j hj=>by
      have hlt:i*r.l.sz+off+j<cur.size:=by omega
      rw[h8.cell];simp [hlt]) (fun j hj=>h8.frozen (by omega))
    simp only[execOp,ho,Instr.storeAt,Instr.sureAddr,h6,Sem.run_bind,Sem.run_pure,Result.andThen_ok,this]
  unfold Oper.wp
  rw[hrun,Oper.upon_skip]
  have hfin:=Aeg hS1 (i:=i) (off:=off) (vs:=(a.eval y).cells.toList) (xs:=(CB fet ti.cs v'.cells).2.1) hq1 h7 h8 h3 (Sl.Aoa r.l h3' hset) rfl (by rw[g1];exact h2) (by rw[Array.length_toList,hsz2,g1]) (by rw[g1];exact h4) (fun j hj=>by
    rw[g1]at hj
    have e1:(a.eval y).cells.toList.getD j undef=(a.eval y).cells.getD j undef:=by
      rw[Array.getD_eq_getD_getElem?,List.getD_eq_getElem?_getD,Array.getElem?_toList]
    rw[e1]
    exact g4 hp1 hv1 j hj)
  refine hn O1 m _ _ ?_
  have happ:apply st o {ok:=(CB fet ti.cs v'.cells).1++[!r.frz,(r.l.set i off (CB fet ti.cs v'.cells).2.1).1,Nat.ble (off+ti.cs.length) r.l.sz,decide (i<r.l.xs.length),Nat.blt 0 ti.cs.length,!(has ((CB fet ti.cs v'.cells).2.2.map (·.1)) q)],val:=.undef,upd:=(CB fet ti.cs v'.cells).2.2++[(q,.arr r.e false (r.l.set i off (CB fet ti.cs v'.cells).2.1).2)]} =
      {tmps:=st.tmps,Aa:=CX (Ak st.Aa (CB fet ti.cs v'.cells).2.2) q (.arr r.e false (r.l.set i off (CB fet ti.cs v'.cells).2.1).2)}:=by
    have hsa: ∀(l:List (Nat×Obj)) (u:List (Nat×Obj)) (p:Nat×Obj),Ak l (u++[p])=CX (Ak l u) p.1 p.2:=by
      intro l u p
      induction u generalizing l with
      | nil=>rfl
      | cons s u ih=>exact ih _
    unfold apply
    rw[hd,hsa]
    rfl
  rw[happ,hd]
  exact hfin
end
end Go.Proofs.YtadefjgbcapakaaGreatDoor.Vm
namespace Go.Proofs.YtadefjgbcapakaaGreatDoor.Vm
open Classical
open Go.Lib (bytesWorld bytesCells bytesWorld_at_old bytesWorld_at_new bytesWorld_size)
section
variable {P:Program} {C:Ctx} {V0:Nat->Value} {O0 O:Own} {w0 w:World} {m:Nat->Value} {st:St} {a:Act} {o:Oper}
theorem Aez (w:World) (e:TypeId) (s:ByteArray):Moves O (fun _=>False) w (bytesWorld w e s):=by
  refine⟨rfl,rfl,rfl,?_,fun b hb=>.inl (bytesWorld_at_old w e s b hb)⟩
  rw[bytesWorld_size];omega
theorem Agj {s t:Nat} {x:Operand} (hC:TOk P C) (hS:Sim V0 O0 w0 O m st a w) {d:Tmp} (hd:o.dst=some d) (ho:o.op= .convert s t x) {l:List UInt8} (hx:Aq O st.Aa m w (a.eval x) (.str l))
    (hok:Am (aZ C d s t l).ok) (hfr: ∀ p∈(aZ C d s t l).new,st.fresh p.1=true):Good P V0 O0 w0 (apply st o (aZ C d s t l)) o a w:=by
  intro next Q hn
  unfold aZ at *
  obtain⟨ts,hts,he⟩:=Bz hok
  rw[he]at hok hfr hn;clear he
  obtain⟨ti,e,te,ht,hte,hd',he⟩:=QB hok
  rw[he]at hok hfr hn;clear he
  obtain⟨h1,h2⟩:=hok.cons
  have h2:=h2.cons.1
  have hlen:l.length<=140737488355328:=by simpa using h2
  have hde:=Ads h1
  have hue:=(hC.is hd').d
  rw[hde]at hue
  have hut:=(hC.is ht).d
  rw[hte]at hut
  obtain⟨b,hb,hl⟩:=hx.str
  have hbl:b.size=l.length:=by rw[LU,hl]
  have hr:(execOp a.eval o).run P w= .ok (.value (.slice (some (at' w.heap.size 0)) b.size (grownCap w b.size 0 e))) (bytesWorld w e b):=by
    have:=Go.Lib.run_convert_string_bytes (P:=P) w s t e b (hC.is hts).d hut hue
    simp only[execOp,ho,hb,Sem.run_bind,this]
    rfl
  unfold Oper.wp
  rw[hr,Oper.upon_value,hd]
  have hge:=grownCap_ge w b.size 0 e
  have hes:(⟨RU,l.map (fun(b:UInt8)=>((b.toNat:Int)))⟩:Sl).es=l.map (fun(x:UInt8)=>[A.int .u8 (x.toNat:Int)]):=by
    show List.map (Ty.int IntKind.u8 Ty.nil).cells (List.map (fun(b:UInt8)=>((b.toNat:Int))) l)=_
    exact List.map_map.trans rfl
  have hesl:(⟨RU,l.map (fun(b:UInt8)=>((b.toNat:Int)))⟩:Sl).es.length=b.size:=by rw[hes,List.length_map,hbl]
  have hcs:(bytesCells w e b).size=grownCap w b.size 0 e:=by
    simp [bytesCells]
    have:b.data.size=b.size:=rfl
    omega
  obtain⟨O',m',h⟩:=lN hS (Aez w e b) (d:=d) (e:=e) (cap:=grownCap w b.size 0 e) (frz:=false) (l:=⟨RU,l.map (fun(b:UInt8)=>((b.toNat:Int)))⟩) (del:=[]) (cur:=bytesCells w e b)
    ⟨_,bytesWorld_at_new w e b,.inr (Nat.le_refl _)⟩ (by rw[hesl];exact hge) (grownCap_le_maxLen w _ _ _ (by unfold maxLen;omega)) (by rw[hcs];show _=_*1;omega) ⟨Sl.es_len _,fun i j hi hj=>by
      have hj0:j=0:=by
        have:j<1:=hj
        omega
      subst hj0
      rw[hesl]at hi
      have hi':i<l.length:=by omega
      have hi2:i<b.data.toList.length:=by rw[hl];exact hi'
      refine⟨.int .u8 (l.getD i 0).toNat,?_,?_⟩
      ·have hlt:i<b.data.size:=hi
       show(bytesCells w e b)[i*1+0]? =_
       rw[Nat.mul_one,Nat.add_zero]
       unfold bytesCells
       rw[Array.getElem?_append_left (by simpa using hlt)]
       rw[Array.getElem?_map]
       have:b.data[i]? =some (l.getD i 0):=by
         rw[<- Array.getElem?_toList,hl,List.getD_eq_getElem?_getD,List.getElem?_eq_getElem hi'];rfl
       rw[this];rfl
      ·rw[hes]
       have:(l.map (fun(x:UInt8)=>[A.int .u8 (x.toNat:Int)])).getD i []=[A.int .u8 ((l.getD i 0).toNat:Int)]:=by
         simp [List.getD_eq_getElem?_getD,hi']
       rw[this]
       exact .int _ _⟩ (Ej (hfr _ List.mem_cons_self))
  rw[hesl]at h
  refine hn O' m' _ _ ?_
  rw[PD hd]
  exact h
theorem Aiz {s t:Nat} {x:Operand} (hC:TOk P C) (hS:Sim V0 O0 w0 O m st a w) (ho:o.op= .convert s t x) {fet:Fet} (hf:Ha st.Aa fet) {x':A} (hx:Aq O st.Aa m w (a.eval x) x')
    (hok:Am (iL C o fet s t x').ok) (hfr: ∀ p∈(iL C o fet s t x').new,st.fresh p.1=true):Good P V0 O0 w0 (apply st o (iL C o fet s t x')) o a w:=by
  have hF:FOk O st.Aa m w fet:=fun q x h=>⟨hf q x h,hS.Aa q x (hf q x h)⟩
  by_cases hs: ∃ l,x'= .str l
  ·obtain⟨l,rfl⟩:=hs
   unfold iL at *
   dsimp only at hok hfr ⊢
   obtain⟨tt,htt,he⟩:=Bz hok
   rw[he]at hok hfr ⊢;clear he
   cases hb:Adr tt.d with
   | true =>
     rw[hb]at hok hfr
     simp only[cond_true]at hok hfr ⊢
     obtain⟨d,hd,he⟩:=Ba hok
     rw[he]at hok hfr ⊢;clear he
     exact Agj hC hS hd ho hx hok hfr
   | false =>
     rw[hb]at hok
     simp only[cond_false]at hok ⊢
     exact(dD hC hF ho hx hok).good hS
  ·have e:iL C o fet s t x'=PT C fet s t x':=by
     cases x'<;>first | rfl | exact absurd ⟨_,rfl⟩ hs
   rw[e]at hok ⊢
   exact(dD hC hF ho hx hok).good hS
theorem AmT (n:Nat) (cs:List CK) {i j:Nat} (hi:i<n) (hj:j<cs.length):((List.replicate n cs).flatten).getD (i*cs.length+j) .oth=cs.getD j .oth:=by
  induction n generalizing i with
  | zero=>omega
  | succ n ih =>
    rw[List.replicate_succ,List.flatten_cons,List.getD_eq_getElem?_getD]
    cases i with
    | zero=>rw[List.getElem?_append_left (by omega),Nat.zero_mul,Nat.zero_add,<- List.getD_eq_getElem?_getD]
    | succ i =>
      rw[Nat.add_mul,Nat.one_mul,List.getElem?_append_right (by omega),show i*cs.length+cs.length+j - cs.length=i*cs.length+j from by omega,<- List.getD_eq_getElem?_getD]
      exact ih (by omega)
theorem Abk {t n e:Nat} {ti te:TI} (hC:TOk P C) (hS:Sim V0 O0 w0 O m st a w) {d:Tmp} (hd:o.dst=some d) (ho:o.op= .alloc t) (ht:C.T t=some ti)
    (hp:te.cs.all CK.plain=true) (h0:0<te.cs.length) (hn0:0<n) (hn:n<=16777216) (hcs:ti.cs=(List.replicate n te.cs).flatten) (hfresh:GH st (b2 d)) :
    Good P V0 O0 w0 {tmps:=st.tmps.set d (.CZ (b2 d) 0 0),Aa:=Ak (Bj st.Aa []) [(b2 d,.arr t false ⟨tyl te.cs,List.replicate n (tyl te.cs).zero⟩)]} o a w:=by
  intro next Q hnx
  have hT:=hC.is ht
  obtain⟨i,z,g1,g2,g3,g4,g5,g6⟩:=hT.i
  have hsz:z.cells.size=ti.cs.length:=by
    rw[<- Array.length_toList];exact(Jn (O:=O) (Aa:=[]) (m:=fun _=>undef) (w:=w) _ _ g5).1
  have hlen:ti.cs.length=n*te.cs.length:=by rw[hcs];simp
  have hpl:ti.cs.all CK.plain=true:=by
    rw[hcs,List.all_eq_true]
    intro k hk
    obtain⟨l,hl,hkl⟩:=List.mem_flatten.1 hk
    rw[List.eq_of_mem_replicate hl]at hkl
    exact List.all_eq_true.1 hp k hkl
  have hv:=Rq (O:=O) (w:=w) _ _ g5 hpl
  have hr:(execOp a.eval o).run P w= .ok (.value (.pointer (some (at' w.heap.size 0)))) (w.alloc (.cells z.cells t)):=by
    simp only[execOp,ho,Instr.alloc,Sem.run_bind,zeroValue,typeInfo,run_program,Result.andThen_ok,g1,g4,Sem.run_pure,newVar,newRow]
    rfl
  unfold Oper.wp
  rw[hr,Oper.upon_value,hd]
  have hel:(⟨tyl te.cs,List.replicate n (tyl te.cs).zero⟩:Sl).es=List.replicate n (te.cs.map CK.Fg):=Sl.TU _ _ hp
  have hsl:(⟨tyl te.cs,List.replicate n (tyl te.cs).zero⟩:Sl).sz=te.cs.length:=LW _
  obtain⟨O',m',h⟩:=OG hS (Moves.refl _ _ w) rfl (d:=d) (e:=t) (cap:=n) (frz:=false) (l:=⟨tyl te.cs,List.replicate n (tyl te.cs).zero⟩) (cur:=z.cells) (del:=[]) (by rw[Sl.BZ,List.length_replicate];exact Nat.le_refl _) (by unfold maxLen;omega) (by rw[hsz,hlen,hsl])
    ⟨Sl.es_len _,fun r j hrl hj=>by
      rw[hsl]at hj ⊢
      rw[Sl.BZ,List.length_replicate]at hrl
      have hlt:r*te.cs.length+j<n*te.cs.length:=by
        have:(r+1)*te.cs.length<=n*te.cs.length:=Nat.mul_le_mul_right _ hrl
        rw[Nat.add_mul]at this;omega
      refine⟨z.cells.toList.getD (r*te.cs.length+j) undef,?_,?_⟩
      ·rw[List.getD_eq_getElem?_getD,Array.getElem?_toList]
       rw[Array.getElem?_eq_getElem (by omega)];rfl
      ·have:=hv (r*te.cs.length+j) (by omega)
       have e1:(ti.cs.map CK.Fg).getD (r*te.cs.length+j) .undef=(te.cs.map CK.Fg).getD j .undef:=by
         have e2:(ti.cs.map CK.Fg).getD (r*te.cs.length+j) .undef=(ti.cs.getD (r*te.cs.length+j) .oth).Fg:=by
           have:r*te.cs.length+j<ti.cs.length:=by omega
           simp [List.getD_eq_getElem?_getD,this]
         have e3:(te.cs.map CK.Fg).getD j .undef=(te.cs.getD j .oth).Fg:=by simp [List.getD_eq_getElem?_getD,hj]
         rw[e2,e3,hcs,AmT n te.cs hrl hj]
       rw[e1]at this
       rw[hel]
       have e4:(List.replicate n (te.cs.map CK.Fg)).getD r []=te.cs.map CK.Fg:=by simp [List.getD_eq_getElem?_getD,hrl]
       rw[e4];exact this⟩ hfresh
  rw[Sl.BZ,List.length_replicate]at h
  refine hnx O' m' _ _ ?_
  by_cases hdt:d<st.tmps.length
  ·
   have hslot:=h.tmps d (by simpa using hdt)
   have hself:(a.put (some d) (.slice (some (at' w.heap.size 0)) n n)).tmps.getD d undef= .slice (some (at' w.heap.size 0)) n n:=by
     have hs:d<a.tmps.size:=by rw[hS.size];exact hdt
     simp [Act.put,Array.getD_eq_getD_getElem?,hs]
   have hself2:(st.tmps.set d (.own (b2 d))).getD d .undef= .own (b2 d):=by simp [List.getD_eq_getElem?_getD,hdt]
   rw[hself,hself2]at hslot
   have hc:AB O' (Ak (Bj st.Aa []) [(b2 d,.arr t false ⟨tyl te.cs,List.replicate n (tyl te.cs).zero⟩)]) m' (w.alloc (.cells z.cells t)) (.slice (some (at' w.heap.size 0)) n n) (.own (b2 d)):=hslot
   have hg:Ah (Ak (Bj st.Aa []) [(b2 d,Obj.arr t false ⟨tyl te.cs,List.replicate n (tyl te.cs).zero⟩)]) (b2 d)=some (.arr t false ⟨tyl te.cs,List.replicate n (tyl te.cs).zero⟩):=by
     simp only[Ak];rw[Bl,if_pos rfl]
   have hm: .slice (some (at' w.heap.size 0)) n n=m' (b2 d):=by
     have:=hc.2
     rw[hg]at this
     exact this
   have hcr:AB O' (Ak (Bj st.Aa []) [(b2 d,.arr t false ⟨tyl te.cs,List.replicate n (tyl te.cs).zero⟩)]) m' (w.alloc (.cells z.cells t)) (.pointer (some (at' w.heap.size 0))) (.CZ (b2 d) 0 0):=by
     simp only[AB,hg,Option.map_some,Obj.shp]
     exact⟨rfl,fun _=>⟨w.heap.size,n,n,hm.symm,by simp⟩⟩
   have hnew:=h.put (some d) (x:=.CZ (b2 d) 0 0) (v:=.pointer (some (at' w.heap.size 0))) hcr.toT
   have e1:put (st.tmps.set d (.own (b2 d))) (some d) (.CZ (b2 d) 0 0)=st.tmps.set d (.CZ (b2 d) 0 0):=by simp [put]
   have e2:(a.put (some d) (.slice (some (at' w.heap.size 0)) n n)).put (some d) (.pointer (some (at' w.heap.size 0)))=a.put (some d) (.pointer (some (at' w.heap.size 0))):=by simp [Act.put]
   rw[e2]at hnew
   dsimp only at hnew
   rw[e1]at hnew
   exact hnew
  ·have e1: ∀ x,st.tmps.set d x=st.tmps:=fun x=>List.set_eq_of_length_le (Nat.le_of_not_lt hdt)
   have e2: ∀ v,a.put (some d) v=a:=by
     intro v
     have hs: ¬ d<a.tmps.size:=by rw[hS.size];exact hdt
     have:a.tmps.setIfInBounds d v=a.tmps:=by simp [Array.setIfInBounds,hs]
     simp only[Act.put,this]
   rw[e1,e2]at h
   rw[e1,e2]
   exact h
theorem Aeu {t:Nat} (hC:TOk P C) (hS:Sim V0 O0 w0 O m st a w) {d:Tmp} (hd:o.dst=some d) (ho:o.op= .alloc t)
    (hok:Am (Qz C d t).ok) (hfr: ∀ p∈(Qz C d t).new,st.fresh p.1=true) (hnd:nodup ((Qz C d t).new.map (·.1))=true):Good P V0 O0 w0 (apply st o (Qz C d t)) o a w:=by
  unfold Qz at *
  obtain⟨ti,ht,he⟩:=Bz hok
  rw[he]at hok hfr hnd ⊢;clear he
  cases ha:Aca ti.d with
  | some p =>
    obtain⟨n,e⟩:=p
    rw[ha]at hok hfr
    dsimp only at hok hfr ⊢
    obtain⟨te,hte,he⟩:=Bz hok
    rw[he]at hok hfr ⊢;clear he
    obtain⟨h1,h2⟩:=hok.cons
    obtain⟨h2,h3⟩:=h2.cons
    obtain⟨h3,h4⟩:=h3.cons
    obtain⟨h4,h5⟩:=h4.cons
    have h5:=h5.cons.1
    rw[PD hd]
    exact Abk (n:=n) (e:=e) hC hS hd ho ht h1 (by simpa [Nat.blt_eq]using h2) (by simpa [Nat.blt_eq]using h3) (Nat.le_of_ble_eq_true h4) (by simpa using h5) (Ej (hfr _ List.mem_cons_self))
  | none =>
    rw[ha]at hok hfr hnd
    exact Ac2 hC hS hd ho ht hok hfr hnd
end
end Go.Proofs.YtadefjgbcapakaaGreatDoor.Vm
namespace Go.Proofs.YtadefjgbcapakaaGreatDoor.Vm
open Classical MapKept
theorem Ty.SY {α :Type} (r:Ty) (p:Ty.pr α r.Val r) (hu:r= .nil->True):r.mk2 (r.hd p) (r.tl p)=p:=by cases r<;>rfl
theorem Ty.same_eq: ∀(t:Ty) (a b:t.Val),t.same a b=true->a=b
  | .nil,_,_,_=>rfl
  | .bool r,a,b,h=>by
    simp only[Ty.same,Bool.and_eq_true]at h
    rw[<- Ty.SY r a (fun _=>trivial),<- Ty.SY r b (fun _=>trivial),eq_of_beq h.1,Ty.same_eq r _ _ h.2]
  | .int _ r,a,b,h=>by
    simp only[Ty.same,Bool.and_eq_true]at h
    rw[<- Ty.SY r a (fun _=>trivial),<- Ty.SY r b (fun _=>trivial),eq_of_beq h.1,Ty.same_eq r _ _ h.2]
  | .str r,a,b,h=>by
    simp only[Ty.same,Bool.and_eq_true]at h
    rw[<- Ty.SY r a (fun _=>trivial),<- Ty.SY r b (fun _=>trivial),eq_of_beq h.1,Ty.same_eq r _ _ h.2]
  | .sl _ _ _,_,_,h=>by cases h
  | .ptr _,_,_,h=>by cases h
  | .fn _,_,_,h=>by cases h
  | .mp _ _ _,_,_,h=>by cases h
def wM:List A->List A->Bool
  | .str x::xs,.str y::ys=>(x==y)&&wM xs ys
  | _,_=>true
def H9:Nat->Ty
  | 0=>.nil
  | n+1=>.str (H9 n)
theorem Akd: ∀(n:Nat) (a b:(H9 n).Val),(H9 n).same a b=wM ((H9 n).cells a) ((H9 n).cells b):=by
  intro n
  induction n with
  | zero=>intro a b;rfl
  | succ n ih=>intro a b;show((_==_)&&_)=((_==_)&&_);rw[ih]
theorem Amf (n:Nat):tyl (List.replicate n [CK.str]).flatten=H9 n:=by
  induction n with
  | zero=>rfl
  | succ n ih=>simp only[List.replicate_succ,List.flatten_cons,List.singleton_append,tyl,H9,ih]
theorem SK: ∀(n:Nat) (a:(H9 n).Val) (j:Nat),j<n-> ∃ s,((H9 n).cells a).getD j .undef= .str s:=by
  intro n
  induction n with
  | zero=>intro a j h;omega
  | succ n ih =>
    intro a j h
    cases j with
    | zero=>exact⟨_,rfl⟩
    | succ j=>exact ih _ j (by omega)
def fnd {β :Type} (t:Ty) (k:t.Val):List MapEntry->List (t.Val× β)->Nat->Option (Nat×Value)
  | e::es,p::l,i=>bif t.same k p.1 then some (i,e.val)else fnd t k es l (i+1)
  | _,_,_=>none
theorem oI {β :Type} {t:Ty} {k:t.Val}: ∀(es:List MapEntry) (l:List (t.Val× β)) (i:Nat),es.length=l.length ->
    (fnd t k es l i=none/\Uj t k l=none/\(∀ x,YV t k x l=l++[(k,x)])/\WA t k l=l) \/
    ∃ j e p,fnd t k es l i=some (i+j,e.val)/\es[j]? =some e/\l[j]? =some p/\p.1=k/\Uj t k l=some p.2/\(∀ x,YV t k x l=l.set j (p.1,x))/\WA t k l=l.eraseIdx j:=by
  intro es
  induction es with
  | nil =>
    intro l i h
    cases l with
    | nil=>exact .inl ⟨rfl,rfl,fun _=>rfl,rfl⟩
    | cons _ _=>cases h
  | cons e es ih =>
    intro l i h
    cases l with
    | nil=>cases h
    | cons p l =>
      cases hs:t.same k p.1 with
      | true =>
        refine .inr ⟨0,e,p,by simp [fnd,hs],rfl,rfl,(Ty.same_eq _ _ _ hs).symm,by simp [Uj,hs],fun x=>by simp [YV,hs],by simp [WA,hs]⟩
      | false =>
        rcases ih l (i+1) (by simpa using h)with ⟨h1,h2,h3,h4⟩ | ⟨j,e',p',h1,h2,h3,h4,h5,h6,h7⟩
        ·exact .inl ⟨by simp [fnd,hs,h1],by simp [Uj,hs,h2],fun x=>by simp [YV,hs,h3],by simp [WA,hs,h4]⟩
        ·exact .inr ⟨j+1,e',p',by simp only[fnd,hs,cond_false,h1];congr 2;omega,by simpa using h2,by simpa using h3,h4,by simp [Uj,hs,h5],fun x=>by simp [YV,hs,h6],by simp [WA,hs,h7]⟩
section
variable {P:Program} {C:Ctx} {V0:Nat->Value} {O0 O:Own} {w0 w:World} {m:Nat->Value} {st:St} {a:Act} {o:Oper}
structure qU (P:Program) (O:Own) (w:World) (kt:TypeId) (t:Ty):Prop where
  check: ∀(e:Bool) (v:Value) (k:t.Val),EC O w v (FW (t.cells k))->(Instr.checkKey e 10000 kt v).run P w= .ok () w
  find: ∀ {β :Type} (v:Value) (k:t.Val) (es:List MapEntry) (l:List (t.Val× β)),EC O w v (FW (t.cells k))->es.length=l.length->(∀(i:Nat) e p,es[i]? =some e->l[i]? =some p->EC O w e.key (FW (t.cells p.1))) ->
    (Instr.findKey kt v es).run P w= .ok (fnd t k es l 0) w
  stays: ∀(v u:Value) (k:t.Val),EC O w v (FW (t.cells k))->EC O w u (FW (t.cells k))->(Instr.keyThatStays u v).run P w= .ok v w
theorem lD {β :Type} {t:Ty} {k:t.Val} {d:TypeDesc} {v:Value}: ∀(es:List MapEntry) (l:List (t.Val× β)) (i:Nat),es.length=l.length->(∀(i:Nat) (e:MapEntry) (p:t.Val× β),es[i]? =some e->l[i]? =some p->Instr.sameNow d v e.key=some (t.same k p.1)) ->
    Instr.findNow d v es i=some (fnd t k es l i):=by
  intro es
  induction es with
  | nil=>intro l i h _;cases l<;>rfl
  | cons e es ih =>
    intro l i h hs
    cases l with
    | nil=>cases h
    | cons p l =>
      have h0:=hs 0 e p rfl rfl
      have h1:=ih l (i+1) (by simpa using h) (fun i e p he hp=>hs (i+1) e p (by simpa using he) (by simpa using hp))
      cases hb:t.same k p.1 with
      | true=>rw[hb]at h0;simp [Instr.findNow,h0,fnd,hb]
      | false=>rw[hb]at h0;simp [Instr.findNow,h0,fnd,hb,h1]
theorem AfU {β :Type} {t:Ty} {k:t.Val} {kt:TypeId} {v:Value}: ∀(es:List MapEntry) (l:List (t.Val× β)) (i:Nat),es.length=l.length->(∀(i:Nat) (e:MapEntry) (p:t.Val× β),es[i]? =some e->l[i]? =some p->(Op.equal kt v e.key).run P w= .ok (t.same k p.1) w) ->
    (Instr.findAsking kt v es i).run P w= .ok (fnd t k es l i) w:=by
  intro es
  induction es with
  | nil=>intro l i h _;cases l<;>first | rfl | cases h
  | cons e es ih =>
    intro l i h hs
    cases l with
    | nil=>cases h
    | cons p l =>
      have h0:=hs 0 e p rfl rfl
      have h1:=ih l (i+1) (by simpa using h) (fun i e p he hp=>hs (i+1) e p (by simpa using he) (by simpa using hp))
      cases hb:t.same k p.1 with
      | true=>rw[hb]at h0;simp [Instr.findAsking,h0,fnd,hb]
      | false=>rw[hb]at h0;simp [Instr.findAsking,h0,fnd,hb,h1]
theorem QQ {a b:ByteArray} (h:a.data.toList=b.data.toList):a=b:=by
  obtain⟨⟨x⟩⟩:=a
  obtain⟨⟨y⟩⟩:=b
  have:x=y:=h
  rw[this]
theorem aU (a b:ByteArray):(a==b)=(a.data.toList==b.data.toList):=by
  rw[Bool.eq_iff_iff,bytes_beq,beq_iff_eq]
  exact⟨fun h=>by rw[h],QQ⟩
theorem Ai.str' {v:Value} {s:List UInt8} (h:Ai O w v (.str s)): ∃ b:ByteArray,v= .string b/\b.data.toList=s:=by cases h;exact⟨_,rfl,rfl⟩
theorem Ai.int' {v:Value} {k:IntKind} {n:Int} (h:Ai O w v (.int k n)):v= .int k n:=by cases h;rfl
theorem AlS (k k':List UInt8):(Ty.str .nil).same k k'=(k==k'):=Bool.and_true _
theorem AlR (q:IntKind) (k k':Int):(Ty.int q .nil).same k k'=(k==k'):=Bool.and_true _
theorem Afc (q:IntKind) (a b:Int):Instr.sameNow (.int q) (.int q a) (.int q b)=some (a==b):=by simp [Instr.sameNow]
theorem Ajw {kt:TypeId} (hu:P.underlying kt=some .string):qU P O w kt (.str .nil) where
  check e v k h:=by
    obtain⟨b,rfl,_⟩:=Ai.str' (show Ai O w v (.str k)from h)
    exact run_checkKey hu (show IsKey .string (.string b)from trivial) e 9999
  find v k es l h hl hes:=by
    obtain⟨b,rfl,hb⟩:=Ai.str' (show Ai O w v (.str k)from h)
    have hn:Instr.findNow .string (.string b) es 0=some (fnd (.str .nil) k es l 0):=lD es l 0 hl fun i e p he hp=>by
      obtain⟨b',h1,h2⟩:=Ai.str' (show Ai O w e.key (.str p.1)from hes i e p he hp)
      rw[h1]
      have e1:Instr.sameNow .string (.string b) (.string b')=some (b==b'):=by simp [Instr.sameNow]
      refine e1.trans (congrArg some (Eq.trans ?_ (AlS k p.1).symm))
      rw[aU,hb,h2]
    simp [Instr.findKey,run_underlying hu,hn]
  stays v u k h h':=by
    obtain⟨b,rfl,hb⟩:=Ai.str' (show Ai O w v (.str k)from h)
    obtain⟨b',rfl,hb'⟩:=Ai.str' (show Ai O w u (.str k)from h')
    obtain rfl:b'=b:=QQ (by rw[hb,hb'])
    have:(b'==b')=true:=by rw[aU];simp
    simp [Instr.keyThatStays,Instr.sameBits,this]
theorem Ajv {kt:TypeId} {q:IntKind} (hu:P.underlying kt=some (.int q)):qU P O w kt (.int q .nil) where
  check e v k h:=by
    obtain rfl:=Ai.int' (show Ai O w v (.int q k)from h)
    exact run_checkKey hu (show IsKey (.int q) (.int q k)from rfl) e 9999
  find v k es l h hl hes:=by
    obtain rfl:=Ai.int' (show Ai O w v (.int q k)from h)
    have hn:Instr.findNow (.int q) (.int q k) es 0=some (fnd (.int q .nil) k es l 0):=lD es l 0 hl fun i e p he hp=>by
      rw[Ai.int' (show Ai O w e.key (.int q p.1)from hes i e p he hp)]
      exact(Afc q k p.1).trans (congrArg some (AlR q k p.1).symm)
    simp [Instr.findKey,run_underlying hu,hn]
  stays v u k h h':=by
    obtain rfl:=Ai.int' (show Ai O w v (.int q k)from h)
    obtain rfl:=Ai.int' (show Ai O w u (.int q k)from h')
    have:((k:Int)==(k:Int))=true:=by simp
    have:Instr.sameBits 10000 (.int q k) (.int q k)=true:=by
      have: ∀ n:Int,Instr.sameBits 10000 (.int q n) (.int q n)=true:=fun n=>by simp [Instr.sameBits]
      exact this k
    simp [Instr.keyThatStays,this]
theorem pX {cs:List A} (h:cs.length≠1):FW cs= .agg cs:=by
  unfold FW
  split
  ·simp at h
  ·rfl
theorem Ajs {e:TypeId} {d:Nat} (hue:P.underlying e=some .string) {xs ys:Array Value} {cs ds:List A} (hx: ∀ j,j<cs.length->Ai O w (xs.getD j undef) (cs.getD j .undef)) (hxs:xs.size=cs.length)
    (hy: ∀ j,j<ds.length->Ai O w (ys.getD j undef) (ds.getD j .undef)) (hys:ys.size=ds.length) (hl:cs.length=ds.length) (hc: ∀ j,j<cs.length-> ∃ s,cs.getD j .undef= .str s) (hd: ∀ j,j<ds.length-> ∃ s,ds.getD j .undef= .str s) :
    ∀(n i:Nat),i+n=cs.length->(Op.eqItems (d+1) e 1 xs ys (List.range' i n)).run P w= .ok (wM (cs.drop i) (ds.drop i)) w:=by
  intro n
  induction n with
  | zero =>
    intro i hi
    have:cs.drop i=[]:=List.drop_eq_nil_of_le (by omega)
    rw[this];rfl
  | succ n ih =>
    intro i hi
    have hi':i<cs.length:=by omega
    obtain⟨s,hs⟩:=hc i hi'
    obtain⟨s',hs'⟩:=hd i (by omega)
    have hx1:=hx i hi'
    have hy1:=hy i (by omega)
    rw[hs]at hx1
    rw[hs']at hy1
    obtain⟨b,hb1,hb2⟩:=hx1.str'
    obtain⟨b',hb1',hb2'⟩:=hy1.str'
    have ex:xs[i]? =some (.string b):=by
      have:i<xs.size:=by omega
      rw[Array.getElem?_eq_getElem this,<- hb1,Array.getD_eq_getD_getElem?,Array.getElem?_eq_getElem this];rfl
    have ey:ys[i]? =some (.string b'):=by
      have:i<ys.size:=by omega
      rw[Array.getElem?_eq_getElem this,<- hb1',Array.getD_eq_getD_getElem?,Array.getElem?_eq_getElem this];rfl
    have hpk:P.plainKey e=true:=by simp [Program.plainKey,hue]
    have p1:=run_part_plain w hpk (off:=i*1) (by rw[Nat.mul_one];exact ex)
    have p2:=run_part_plain w hpk (off:=i*1) (by rw[Nat.mul_one];exact ey)
    have p3:=run_equalIn_string (P:=P) w d e b b' hue
    have ec:cs.drop i= .str s::cs.drop (i+1):=by
      rw[List.drop_eq_getElem_cons hi',<- hs,List.getD_eq_getElem?_getD,List.getElem?_eq_getElem hi'];rfl
    have ed:ds.drop i= .str s'::ds.drop (i+1):=by
      rw[List.drop_eq_getElem_cons (by omega),<- hs',List.getD_eq_getElem?_getD,List.getElem?_eq_getElem (by omega)];rfl
    rw[List.range'_succ,ec,ed]
    have ih':=ih (i+1) (by omega)
    simp only[Op.eqItems,Sem.run_bind,p1,p2,p3,Result.andThen_ok]
    rw[VG,VG,hb2,hb2']
    cases hbb:(s==s')with
    | false=>simp [wM,hbb]
    | true=>simp [wM,hbb,ih']
theorem yD {e:TypeId} {em:Bool} {d:Nat} (hue:P.underlying e=some .string) (hsz:(sizeOf e).run P w= .ok 1 w) {xs:Array Value} {n:Nat} (hx: ∀ j,j<n-> ∃ b,xs[j]? =some (.string b)) :
    ∀(is:List Nat),(∀ i∈is,i<n)->(forIn is PUnit.unit fun i _=>do Instr.checkKey em (d+1) e (<- part e xs (i*(<- sizeOf e)));pure (ForInStep.yield PUnit.unit)).run P w= .ok PUnit.unit w:=by
  intro is
  induction is with
  | nil=>intro _;simp
  | cons j is ih =>
    intro h
    obtain⟨b,hb⟩:=hx j (h j (by simp))
    have hpk:P.plainKey e=true:=by simp [Program.plainKey,hue]
    have p1:=run_part_plain w hpk (off:=j*1) (by rw[Nat.mul_one];exact hb)
    have p2:=run_checkKey (P:=P) (w:=w) hue (k:=.string b) trivial em d
    simp only[List.forIn_cons,Sem.run_bind,hsz,Result.andThen_ok,p1,p2,Sem.run_pure]
    exact ih (fun i hi=>h i (by simp [hi]))
theorem EC.agg' {v:Value} {cs:List A} (h:EC O w v (.agg cs)): ∃ vs:Array Value,v= .agg vs/\vs.size=cs.length/\ ∀ j,j<cs.length->Ai O w (vs.getD j undef) (cs.getD j .undef):=h
theorem AgU {kt e:TypeId} {n:Nat} {ie:TypeInfo} (hu:P.underlying kt=some (.array n e)) (hue:P.underlying e=some .string) (hie:P.info? e=some ie) (his:ie.size=1) (hn:1<n):qU P O w kt (H9 n):=by
  have hlen: ∀ k:(H9 n).Val,((H9 n).cells k).length=n:=fun k=>by
    rw[Ty.Ew]
    have: ∀ n,(H9 n).len=n:=by intro n;induction n with | zero=>rfl | succ n ih=>simp [H9,Ty.len,ih]
    exact this n
  have hag: ∀ k:(H9 n).Val,FW ((H9 n).cells k)= .agg ((H9 n).cells k):=fun k=>pX (by rw[hlen];omega)
  have hce:P.cellsOf e=1:=by simp [Program.cellsOf,hie,his]
  have hsz:(sizeOf e).run P w= .ok 1 w:=by simp [sizeOf,typeInfo,hie,his]
  have hstr: ∀ {vs:Array Value} {k:(H9 n).Val},vs.size=n->(∀ j,j<n->Ai O w (vs.getD j undef) (((H9 n).cells k).getD j .undef))-> ∀ j,j<n-> ∃ b,vs[j]? =some (.string b):=by
    intro vs k hs h j hj
    obtain⟨s,hs'⟩:=SK n k j hj
    have h1:=h j hj
    rw[hs']at h1
    obtain⟨b,hb,_⟩:=h1.str'
    have hj':j<vs.size:=by omega
    exact⟨b,by rw[Array.getElem?_eq_getElem hj',<- hb,Array.getD_eq_getD_getElem?,Array.getElem?_eq_getElem hj'];rfl⟩
  refine⟨fun em v k h=> ?_,fun v k es l h hl hes=> ?_,fun v u k h h'=> ?_⟩
  ·rw[hag]at h
   obtain⟨vs,rfl,h1,h2⟩:=h.agg'
   rw[hlen]at h1 h2
   rw[show(10000:Nat)=9998+1+1 from rfl,Instr.checkKey]
   simp only[Sem.run_bind,run_underlying hu,Result.andThen_ok]
   simp only[Std.Legacy.Range.forIn_eq_forIn_range',Std.Legacy.Range.size,Nat.sub_zero,Nat.add_one_sub_one,Nat.div_one]
   rw[yD (em:=em) (d:=9998) hue hsz (hstr h1 h2) (List.range' 0 n) (fun i hi=>by simpa using hi)]
   rfl
  ·rw[hag]at h
   obtain⟨vs,rfl,h1,h2⟩:=h.agg'
   rw[hlen]at h1 h2
   have eqs: ∀(i:Nat) (e':MapEntry) p,es[i]? =some e'->l[i]? =some p->(Op.equal kt (.agg vs) e'.key).run P w= .ok ((H9 n).same k p.1) w:=by
     intro i e' p he hp
     have h3:=hes i e' p he hp
     rw[hag]at h3
     obtain⟨us,h4,h5,h6⟩:=h3.agg'
     rw[hlen]at h5 h6
     rw[h4]
     show(Op.equalIn 10000 kt _ _).run P w=_
     rw[show(10000:Nat)=9999+1 from rfl,run_equalIn_array w 9999 vs us hu hie,hce,List.range_eq_range',Akd]
     have:=Ajs (P:=P) (O:=O) (w:=w) (d:=9998) hue (xs:=vs) (ys:=us) (cs:=(H9 n).cells k) (ds:=(H9 n).cells p.1) (by rw[hlen];exact h2) (by rw[hlen];exact h1) (by rw[hlen];exact h6) (by rw[hlen];exact h5) (by rw[hlen,hlen]) (by rw[hlen];exact SK n k) (by rw[hlen];exact SK n p.1) n 0 (by rw[hlen];omega)
     simpa using this
   have hnow: ∀(es:List MapEntry) (i:Nat),Instr.findNow (.array n e) (.agg vs) es i=if es=[]then some none else none:=by
     intro es i
     cases es with
     | nil=>rfl
     | cons e' es=>simp [Instr.findNow,Instr.sameNow]
   simp only[Instr.findKey,Sem.run_bind,run_underlying hu,Result.andThen_ok,hnow]
   cases es with
   | nil=>cases l<;>first | simp [fnd] | cases hl
   | cons e' es =>
     rw[if_neg (by simp)]
     exact AfU _ l 0 hl eqs
  ·rw[hag]at h h'
   obtain⟨vs,rfl,h1,h2⟩:=h.agg'
   obtain⟨us,rfl,h3,h4⟩:=h'.agg'
   have e:us=vs:=by
     rw[hlen]at h1 h2 h3 h4
     apply Array.ext (by omega)
     intro j hj1 hj2
     obtain⟨s,hs⟩:=SK n k j (by omega)
     have a1:=h2 j (by omega)
     have a2:=h4 j (by omega)
     rw[hs]at a1 a2
     obtain⟨b1,e1,f1⟩:=a1.str'
     obtain⟨b2,e2,f2⟩:=a2.str'
     rw[Array.getD_eq_getD_getElem?,Array.getElem?_eq_getElem hj2]at e1
     rw[Array.getD_eq_getD_getElem?,Array.getElem?_eq_getElem hj1]at e2
     have e1:vs[j]=_:=e1
     have e2:us[j]=_:=e2
     rw[e1,e2,QQ (f1.trans f2.symm)]
   subst e
   have hsb:Instr.sameBits 10000 (.agg us) (.agg us)=true:=by
     show((us.size==us.size)&&(us.toList.zip us.toList).all _)=true
     rw[Bool.and_eq_true]
     refine⟨by simp,List.all_eq_true.2 fun p hp=> ?_⟩
     obtain⟨i,hi⟩:=List.mem_iff_getElem?.1 hp
     rw[List.getElem?_zip_eq_some]at hi
     rw[hlen]at h1 h2
     have hi1:i<us.size:=by
       have:=(List.getElem?_eq_some_iff.1 hi.1).1
       simpa using this
     obtain⟨b,hb⟩:=hstr h1 h2 i (by omega)
     have q1:p.1= .string b:=by
       have:=hi.1
       rw[Array.getElem?_toList,hb]at this
       injection this with this;exact this.symm
     have q2:p.2= .string b:=by
       have:=hi.2
       rw[Array.getElem?_toList,hb]at this
       injection this with this;exact this.symm
     obtain⟨p1,p2⟩:=p
     dsimp only at q1 q2
     subst q1;subst q2
     show(b==b)=true
     rw[aU];simp
   simp [Instr.keyThatStays,hsb]
theorem Als (hC:TOk P C) {t:Nat} {ta:TI} (ht:C.T t=some ta) (h:AgV C ta=true):qU P O w t (tyl ta.cs):=by
  have hT:=hC.is ht
  have hu:=hT.d
  have hck:=hT.ck
  unfold AgV at h
  split at h
  ·rename_i hd
   rw[hd]at hu
   have:ta.cs=[.str]:=by simp [ET,hu]at hck;exact hck.symm
   rw[this];exact Ajw hu
  ·rename_i q hd
   rw[hd]at hu
   have:ta.cs=[.int q]:=by simp [ET,hu]at hck;exact hck.symm
   rw[this];exact Ajv hu
  ·rename_i n e hd
   rw[hd]at hu
   split at h
   ·rename_i te hte
    simp only[Bool.and_eq_true,Nat.blt_eq]at h
    have hTe:=hC.is hte
    have hde:=fA h.1
    have hue:=hTe.d
    rw[hde]at hue
    have hcse:te.cs=[.str]:=by have:=hTe.ck;simp [ET,hue]at this;exact this.symm
    have hcs:ta.cs=(List.replicate n [CK.str]).flatten:=by
      rw[show(20:Nat)=18+1+1 from rfl]at hck
      unfold ET at hck
      simp only[hu]at hck
      have he:ET P (18+1) e=some [.str]:=by simp [ET,hue]
      rw[he]at hck
      dsimp only at hck
      cases hb:Nat.ble (n* [CK.str].length) 4096 with
      | false=>rw[hb]at hck;cases hck
      | true=>rw[hb]at hck;injection hck with hck;exact hck.symm
    rw[hcs,Amf]
    obtain⟨i,z,h1,h2,_⟩:=hTe.i
    exact AgU hu hue h1 (by rw[h2,hcse];rfl) h.2
   ·cases h
  ·cases h
end
