import Derived.Test.YtadefjgbcapakaaGreatDoorA4
import Derived.Lib.ConvBytes
set_option linter.all false
namespace Go.Proofs.YtadefjgbcapakaaGreatDoor.Vm
open Classical
section
variable {P:Program} {C:Ctx} {V0:Nat->Value} {O0 O:Own} {w0 w:World} {m:Nat->Value} {st:St} {a:Act} {o:Oper}
structure Src (P:Program) (O:Own) (w:World) (sz:Nat) (y:Value) (ns:List (List A)) (news:List Value):Prop where
  len: ∀ w',(Builtin.lenOf y).run P w'= .ok ns.length w'
  cells: ∀ w',(∀ b k u,w.cell? (at' b k)=some u->w'.cell? (at' b k)=some u)->(Builtin.firstCells sz ns.length y).run P w'= .ok news.toArray w'
  size:news.length=ns.length*sz
  each: ∀ x∈ns,x.length=sz
  rel: ∀ i j,i<ns.length->j<sz->Aq O w (news.getD (i*sz+j) undef) ((ns.getD i []).getD j .undef)
theorem Src.one {sz:Nat} {y:Value} {ns:List (List A)} {news:List Value} (h:Src P O w sz y ns news) (h0:0<sz): ∀ v∈news,v.oneCell'=true:=by
  intro v hv
  obtain⟨k,hk,hke⟩:=List.mem_iff_getElem.1 hv
  have hd:k=(k / sz)*sz+k % sz:=by rw[Nat.mul_comm];exact(Nat.div_add_mod k sz).symm
  have hlt:k / sz<ns.length:=by
    rw[Nat.div_lt_iff_lt_mul h0,<- h.size];exact hk
  have:=h.rel (k / sz) (k % sz) hlt (Nat.mod_lt _ h0)
  rw[<- hd,List.getD_eq_getElem?_getD,List.getElem?_eq_getElem hk]at this
  simp only[Option.getD_some,hke]at this
  exact this.one
theorem Ano {l:Sl} {v:Value} (h:Ag1 w O v l): ∃ news,Src P O w l.sz v l.es news:=by
  rcases h with ⟨ad,hv,hn⟩ | ⟨b,k,c,hv,hc,hcell⟩
  ·have hn:l.es=[]:=by simp [Sl.es,hn]
   refine⟨[],⟨fun w'=>by rw[hv,hn];rfl,fun w' _=>by
     rw[hv,hn]
     cases ad with
     | none=>rfl
     | some ad =>
       show(Builtin.firstCells l.sz 0 (.slice (some ad) 0 0)).run P w'=_
       simp only[Builtin.firstCells,Nat.zero_mul]
       exact run_loadCells (P:=P) w' ad 0 (fun _=>undef) (fun i hi=>absurd hi (Nat.not_lt_zero i)),by rw[hn];simp,l.es_len,fun i j hi=>by rw[hn]at hi;simp at hi⟩⟩
  ·let news:List Value:=(List.range (l.es.length*l.sz)).map fun i=>(w.cell? (at' b (k+i))).getD undef
   have hcells: ∀ i,i<l.es.length*l.sz-> ∃ u,w.cell? (at' b (k+i))=some u:=by
     intro i hi
     have h0:0<l.sz:=by
       rcases Nat.eq_zero_or_pos l.sz with h | h
       ·rw[h]at hi;simp at hi
       ·exact h
     have hd:i=(i / l.sz)*l.sz+i % l.sz:=by rw[Nat.mul_comm];exact(Nat.div_add_mod i l.sz).symm
     obtain⟨u,hu,_⟩:=hcell (i / l.sz) (i % l.sz) (by rw[Nat.div_lt_iff_lt_mul h0];exact hi) (Nat.mod_lt _ h0)
     rw[<- hd]at hu;exact⟨u,hu⟩
   refine⟨news,⟨fun w'=>by rw[hv];rfl,fun w' hw'=> ?_,by simp [news],l.es_len,fun i j hi hj=> ?_⟩⟩
   ·rw[hv]
    simp only[Builtin.firstCells]
    have:=run_loadCells (P:=P) w' (at' b k) (l.es.length*l.sz) (fun i=>(w.cell? (at' b (k+i))).getD undef) (fun i hi=>by
      obtain⟨u,hu⟩:=hcells i hi
      rw[IY,hw' _ _ _ hu,hu];rfl)
    exact this
   ·obtain⟨u,h3,h4⟩:=hcell i j hi hj
    have hlt:i*l.sz+j<l.es.length*l.sz:=by
      have:(i+1)*l.sz<=l.es.length*l.sz:=Nat.mul_le_mul_right _ hi
      rw[Nat.add_mul]at this;omega
    have e1:news.getD (i*l.sz+j) undef=u:=by
      simp [news,List.getD_eq_getElem?_getD,hlt,h3]
    rw[e1];exact h4
theorem src_of {fet:Fet} {t:Ty} {y:A} {v:Value} (hf:FOk O st.Aa m w fet) (hy:A8 O st.Aa m w v y) (hok:A7 (Fz fet t y).1): ∃ news,Src P O w t.len v (⟨t,(Fz fet t y).2⟩:Sl).es news:=by
  have hrd:A7 (rdT fet t y).1-> ∃ news,Src P O w t.len v (⟨t,(rdT fet t y).2⟩:Sl).es news:=fun hok=>Ano (Agu hf hy hok)
  by_cases hs: ∃ s,y= .str s
  ·obtain⟨s,rfl⟩:=hs
   by_cases ht:t= .int .u8 .nil
   ·subst ht
    obtain⟨b,hb,hl⟩:=hy.str
    have hbl:b.size=s.length:=by rw[LH,hl]
    have hes:(⟨.int .u8 .nil,(Fz fet (.int .u8 .nil) (.str s)).2⟩:Sl).es=s.map (fun(x:UInt8)=>[A.int .u8 (x.toNat:Int)]):=by
      show List.map (Ty.int IntKind.u8 Ty.nil).cells (List.map (fun(b:UInt8)=>((b.toNat:Int))) s)=_
      exact List.map_map.trans rfl
    rw[hes]
    refine⟨s.map (fun(x:UInt8)=>Value.int .u8 (x.toNat:Int)),⟨fun w'=>by rw[hb];simp [Builtin.lenOf,hbl],fun w' _=> ?_,by simp [Ty.len],by simp [Ty.len],fun i j hi hj=> ?_⟩⟩
    ·rw[hb]
     simp only[Builtin.firstCells,List.length_map,Sem.run_pure]
     congr 1
     have:b.extract 0 s.length=b:=by
       rw[<- hbl]
       have h1:(b.extract 0 b.size).data.toList=b.data.toList:=by rw[pU,LH];unfold Ar;rw[List.drop_zero,List.take_length]
       exact ByteArray.ext (Array.toList_inj.1 h1)
     rw[this]
     apply Array.toList_inj.1
     simp [hl]
    ·have hj0:j=0:=by simp [Ty.len]at hj;omega
     subst hj0
     have hi':i<s.length:=by simpa using hi
     simp [List.getD_eq_getElem?_getD,hi',Ty.len]
     exact .int _ _
   ·have:(Fz fet t (.str s)).1=[false]:=by
      unfold Fz
      cases t with
      | int k r=>cases k<;>cases r<;>first | rfl | exact absurd rfl ht
      | _=>rfl
    rw[this]at hok
    have:=hok false (by simp);cases this
  ·have:Fz fet t y=rdT fet t y:=by
     cases y<;>first | rfl | exact absurd ⟨_,rfl⟩ hs
   rw[this]at hok ⊢
   exact hrd hok
theorem xP {d:TypeDesc} (h:QG d=true):(∃ e,d= .slice e)\/d= .string:=by
  unfold QG at h;split at h<;>simp_all
theorem bY {t u ty e n sLen sCap:Nat} {i:TypeInfo} {du:TypeDesc} {base:Option Addr} {y:Value} {news:List Value} {w':World} (hu:P.underlying t=some (.slice e)) (hu2:P.underlying u=some du) (hdu:QG du=true) (hi:P.info? e=some i)
    (hlen:(Builtin.lenOf y).run P w= .ok n w) (hnew:(Builtin.firstCells i.size n y).run P w= .ok news.toArray w) (hle:sLen+n<=sCap)
    (hst:match base with | some ad=>(storeCells (ad.add (sLen*i.size)) news).run P w= .ok () w' | none=>w'=w) :
    (Builtin.append_ #[t,u] ty #[.slice base sLen sCap,y]).run P w= .ok (.slice base (sLen+n) sCap) w':=by
  rcases xP hdu with ⟨e',rfl⟩ | rfl
  ·cases base with
   | none=>subst hst;simp [Builtin.append_,run_underlying hu,run_underlying hu2,sizeOf,typeInfo,hi,hlen,hnew,hle]
   | some ad=>dsimp only at hst;simp [Builtin.append_,run_underlying hu,run_underlying hu2,sizeOf,typeInfo,hi,hlen,hnew,hle,hst]
  ·cases base with
   | none=>subst hst;simp [Builtin.append_,run_underlying hu,run_underlying hu2,sizeOf,typeInfo,hi,hlen,hnew,hle]
   | some ad=>dsimp only at hst;simp [Builtin.append_,run_underlying hu,run_underlying hu2,sizeOf,typeInfo,hi,hlen,hnew,hle,hst]
theorem YE {t u ty e n sLen sCap:Nat} {i:TypeInfo} {z:Value} {du:TypeDesc} {base:Option Addr} {y:Value} {olds news:List Value} (hu:P.underlying t=some (.slice e)) (hu2:P.underlying u=some du) (hdu:QG du=true) (hi:P.info? e=some i) (hz:i.zero=some z)
    (hlen:(Builtin.lenOf y).run P w= .ok n w) (hold:(Builtin.firstCells i.size sLen (.slice base sLen sCap)).run P w.drew= .ok olds.toArray w.drew) (hnew:(Builtin.firstCells i.size n y).run P w.drew= .ok news.toArray w.drew) (hgt:sCap<sLen+n)
    (hb:(sLen+n)*i.bytes<=140737488355328) (h0:0<i.bytes\/((sLen+n:Nat):Int)<=9223372036854775807) :
    (Builtin.append_ #[t,u] ty #[.slice base sLen sCap,y]).run P w =
      .ok (.slice (some (at' w.heap.size 0)) (sLen+n) (grownCap w (sLen+n) sCap e)) (w.drew.alloc (.cells (olds.toArray++news.toArray++Builtin.zeroCells z.cells (grownCap w (sLen+n) sCap e - (sLen+n))) e)):=by
  have hn: ¬(sLen+n<=sCap):=by omega
  have hfit:=growslice_fits hgt hb
  have h48': ¬(281474976710656<Builtin.nextslicecap (sLen+n) sCap*i.bytes):=by omega
  have h63: ¬(((sLen:Int)+(n:Int))>9223372036854775807/\i.bytes=0):=by
    rintro ⟨ha,hb'⟩
    rcases h0 with h0 | h0
    ·omega
    ·rw[Int.natCast_add]at h0;omega
  have h63': ¬(9223372036854775807<((sLen:Int)+(n:Int))/\i.bytes=0):=h63
  rcases xP hdu with ⟨e',rfl⟩ | rfl
  ·simp [Builtin.append_,run_underlying hu,run_underlying hu2,sizeOf,typeInfo,zeroValue,hi,hz,hlen,hn,h63',h48',Question.forced,hold,hnew,newRow,grownCap]
   congr 2
   apply Array.ext'
   simp [List.append_assoc]
  ·simp [Builtin.append_,run_underlying hu,run_underlying hu2,sizeOf,typeInfo,zeroValue,hi,hz,hlen,hn,h63',h48',Question.forced,hold,hnew,newRow,grownCap]
   congr 2
   apply Array.ext'
   simp [List.append_assoc]
end
end Go.Proofs.YtadefjgbcapakaaGreatDoor.Vm
namespace Go.Proofs.YtadefjgbcapakaaGreatDoor.Vm
open Classical
section
variable {P:Program} {C:Ctx} {V0:Nat->Value} {O0 O:Own} {w0 w:World} {m:Nat->Value} {st:St} {a:Act} {o:Oper}
theorem xE {sz cap:Nat} {es ns:List (List A)} {olds news:List Value} {z:Array Value} (hes: ∀ x∈es,x.length=sz) (hns: ∀ x∈ns,x.length=sz) (hol:olds.length=es.length*sz) (hnl:news.length=ns.length*sz) (hz:z.size=sz) (hcap:es.length+ns.length<=cap)
    (ho: ∀ i j,i<es.length->j<sz->Aq O w (olds.getD (i*sz+j) undef) ((es.getD i []).getD j .undef)) (hn: ∀ i j,i<ns.length->j<sz->Aq O w (news.getD (i*sz+j) undef) ((ns.getD i []).getD j .undef)) :
    (olds.toArray++news.toArray++Builtin.zeroCells z (cap - (es.length+ns.length))).size=cap*sz/\Held O w (olds.toArray++news.toArray++Builtin.zeroCells z (cap - (es.length+ns.length))) sz (es++ns):=by
  refine⟨?_,fun x hx=>(List.mem_append.1 hx).elim (hes x) (hns x),fun i j hi hj=> ?_⟩
  ·simp only[Array.size_append,List.size_toArray,hol,hnl,size_zeroCells,hz]
   rw[<- Nat.add_mul,<- Nat.add_mul];congr 1;omega
  ·rw[List.length_append]at hi
   by_cases hil:i<es.length
   ·have hlt:i*sz+j<es.length*sz:=by
      have:(i+1)*sz<=es.length*sz:=Nat.mul_le_mul_right _ hil
      rw[Nat.add_mul]at this;omega
    refine⟨olds.getD (i*sz+j) undef,?_,?_⟩
    ·rw[Array.append_assoc,Array.getElem?_append_left (by simp;omega)]
     simp [List.getD_eq_getElem?_getD,show i*sz+j<olds.length from by omega]
    ·have e1:(es++ns).getD i []=es.getD i []:=by
       simp only[List.getD_eq_getElem?_getD];rw[List.getElem?_append_left hil]
     rw[e1];exact ho i j hil hj
   ·obtain⟨i',rfl⟩: ∃ i',i=es.length+i':=⟨i - es.length,by omega⟩
    have hi':i'<ns.length:=by omega
    have hlt:i'*sz+j<ns.length*sz:=by
      have:(i'+1)*sz<=ns.length*sz:=Nat.mul_le_mul_right _ hi'
      rw[Nat.add_mul]at this;omega
    have hidx:(es.length+i')*sz+j=es.length*sz+(i'*sz+j):=by rw[Nat.add_mul];omega
    refine⟨news.getD (i'*sz+j) undef,?_,?_⟩
    ·rw[hidx,Array.append_assoc,Array.getElem?_append_right (by simp;omega),Array.getElem?_append_left (by simp;omega)]
     have:es.length*sz+(i'*sz+j) - olds.toArray.size=i'*sz+j:=by simp;omega
     rw[this]
     simp [List.getD_eq_getElem?_getD,show i'*sz+j<news.length from by omega]
    ·have e1:(es++ns).getD (es.length+i') []=ns.getD i' []:=by
       simp only[List.getD_eq_getElem?_getD];rw[List.getElem?_append_right (by omega),Nat.add_sub_cancel_left]
     rw[e1];exact hn i' j hi' hj
theorem AiB (w:World) (b k:Nat):w.drew.cell? (at' b k)=w.cell? (at' b k):=rfl
theorem pO {c:Call} {s y:Operand} {t u e:Nat} {te tu:TI} {ti:TI} (hC:TOk P C) (hS:Sim V0 O0 w0 O m st a w) {d:Tmp} (hd:o.dst=some d) (ho:o.op= .call c) (hcal:c.callee= .builtin .append) (hargs:c.args= #[s,y]) (hty:c.argTypes.toList=[t,u])
    (ht:C.T t=some ti) (hte:ti.d= .slice e) (hte':C.T e=some te) (htu:C.T u=some tu) (hsl:QG tu.d=true) {frz:Bool} {l l':Sl} {ns:List (List A)} {news:List Value} {del:List Nat}
    (hsrc:Src P O w te.cs.length (a.eval y) ns news) (h0:0<te.cs.length) (hb:(l.es.length+ns.length)*(te.bytes+1)<=140737488355328) (hfresh:F7 st (b2 d))
    (hel:l'.es=l.es++ns) (hls:l.sz=te.cs.length) (hls':l'.sz=te.cs.length)
    (hx:(True/\l.es=[]/\a.eval s= .slice none 0 0)\/(True/\ ∃ q g cap cur,del=[q]/\Aj st.Aa q=some (.arr e frz l)/\m q= .slice (some (at' g 0)) l.es.length cap/\a.eval s= .slice (some (at' g 0)) l.es.length cap/\Em w g cur e)) :
    ∀(next:Act->World->Prop) (Q:Exit->Act->World->Prop),(∀ O' m' a' w',Sim V0 O0 w0 O' m' {tmps:=st.tmps.set d (.own (b2 d)),Aa:=Aw (Bh st.Aa del) [(b2 d,.arr e frz l')]} a' w'->next a' w')->o.wp P a w next Q:=by
  intro next Q hn
  have hat:c.argTypes= #[t,u]:=by
    have:=congrArg List.toArray hty
    simpa using this
  have hu:=(hC.is ht).d
  rw[hte]at hu
  have hu2:=(hC.is htu).d
  have hT:=hC.is hte'
  obtain⟨i,z,g1,g2,g3,g4,g5,g6⟩:=hT.i
  have hzs:z.cells.size=te.cs.length:=by
    rw[<- Array.length_toList];exact(I4 (O:=O) (Aa:=[]) (m:=fun _=>undef) (w:=w) _ _ g5).1
  have hbb:(l.es.length+ns.length)*te.bytes<=140737488355328/\l.es.length+ns.length<=140737488355328:=by
    rw[Nat.mul_add,Nat.mul_one]at hb;omega
  have hexec: ∀ v w',(Builtin.append_ #[t,u] o.type #[a.eval s,a.eval y]).run P w= .ok v w'->(execOp a.eval o).run P w= .ok (.value v) w':=by
    intro v w' h
    simp only[execOp,ho,resolve,hcal,hargs,hat,Sem.run_bind,Sem.run_pure,Result.andThen_ok,invoke,builtin]
    have:(#[s,y].map a.eval)= #[a.eval s,a.eval y]:=by simp
    rw[this,h];rfl
  have hlen:=hsrc.len w
  have hcells:=hsrc.cells w (fun _ _ _ h=>h)
  have hcells':=hsrc.cells w.drew (fun _ _ _ h=>h)
  rcases hx with ⟨_,hes,hsv⟩ | ⟨_,q,g,cap,cur,hdel,hq,hmq,hsv,hg⟩
  ·rw[hes]at hel hbb
   simp only[List.nil_append]at hel
   simp only[List.length_nil,Nat.zero_add]at hbb
   by_cases hn0:ns.length=0
   ·have hns:ns=[]:=List.eq_nil_of_length_eq_zero hn0
    have:=bY (P:=P) (w:=w) (w':=w) (t:=t) (u:=u) (ty:=o.type) (base:=none) (sLen:=0) (sCap:=0) (news:=news) hu hu2 hsl g1 hlen (by rw[g2];exact hcells) (by simp [hn0]) rfl
    rw[<- hsv,hn0]at this
    unfold Oper.wp
    rw[hexec _ _ this,Oper.upon_value,hd]
    obtain⟨t',xs'⟩:=l'
    have hxs:xs'=[]:=zZ (l:=⟨t',xs'⟩) (by rw[hel,hns])
    subst hxs
    obtain⟨O',m',h⟩:=ZG hS (d:=d) (e:=e) (t:=t') (frz:=frz) (del:=del) hfresh
    exact hn O' m' _ _ h
   ·have:=YE (P:=P) (w:=w) (t:=t) (u:=u) (ty:=o.type) (base:=none) (sLen:=0) (sCap:=0) (olds:=[]) (news:=news) hu hu2 hsl g1 g4 hlen rfl (by rw[g2];exact hcells') (by omega) (by rw[g3];simpa using hbb.1) (.inr (by have:=hbb.2;omega))
    rw[<- hsv]at this
    unfold Oper.wp
    rw[hexec _ _ this,Oper.upon_value,hd]
    have hge:=grownCap_ge w (0+ns.length) 0 e
    obtain⟨k1,k2⟩:=xE (O:=O) (w:=w) (cap:=grownCap w (0+ns.length) 0 e) (z:=z.cells) (es:=[]) (olds:=[]) (by simp) hsrc.each (by simp) hsrc.size hzs (by simpa using hge) (fun i j hi=>by simp at hi) hsrc.rel
    obtain⟨O',m',h⟩:=Pn hS (Moves.drew _ _ w) rfl (d:=d) (e:=e) (cap:=grownCap w (0+ns.length) 0 e) (frz:=frz) (l:=l') (del:=del) (by rw[hel];simpa using hge) (grownCap_le_maxLen w _ _ _ (by unfold maxLen;have:=hbb.2;omega)) (by rw[hls'];exact k1) (by rw[hls',hel];exact k2) hfresh
    refine hn O' m' _ _ ?_
    rw[hel]at h
    simpa using h
  ·subst hdel
   obtain⟨hsz,hr⟩:=hS.Aa q _ hq
   rw[hls]at hsz
   obtain⟨g',cap',cur',h2,h3,h4,h5,h6,h7,h8,h9⟩: ∃ g' cap' cur',m q= .slice (some (at' g' 0)) l.es.length cap'/\Em w g' cur' e/\l.es.length<=cap'/\cap'<=maxLen/\cur'.size=cap'*te.cs.length /\
       (∀ i j,i<l.es.length->j<te.cs.length-> ∃ u,cur'[i*te.cs.length+j]? =some u/\Aq O w u ((l.es.getD i []).getD j .undef))/\(∀ k,k<cur'.size->l.es.length*te.cs.length<=k->O g' k=some q)/\(∀ k,k<l.es.length*te.cs.length->O g' k=if frz then none else some q):=by
     rcases hr with ⟨_,_,h⟩ | ⟨_,h⟩
     ·rw[hmq]at h;cases h
     ·rw[hls]at h;exact h
   rw[hmq]at h2
   injection h2 with h2 _ hcc;injection h2 with h2;injection h2 with h2
   subst h2;subst hcc
   obtain⟨h3,_⟩:=hg.inj h3
   subst h3
   by_cases hroom:l.es.length+ns.length<=cap
   ·have hst:(storeCells ((at' g 0).add (l.es.length*i.size)) news).run P w= .ok () (w.setCells g (l.es.length*te.cs.length) news):=by
      rw[IY,Nat.zero_add,g2]
      have hmul:(l.es.length+ns.length)*te.cs.length<=cap*te.cs.length:=Nat.mul_le_mul_right _ hroom
      rw[Nat.add_mul]at hmul
      have:=run_storeCells_cells (P:=P) g (l.es.length*te.cs.length) news 0 w (fun j hj=>by
        rw[hg.cell]
        rw[hsrc.size]at hj
        have hlt:l.es.length*te.cs.length+j<cur.size:=by omega
        simp [hlt]) (fun j hj=>by rw[hsrc.size]at hj;exact hg.frozen (by omega)) (hsrc.one h0)
      simpa using this
    have:=bY (P:=P) (w:=w) (t:=t) (u:=u) (ty:=o.type) (base:=some (at' g 0)) (sLen:=l.es.length) (sCap:=cap) (news:=news) hu hu2 hsl g1 hlen (by rw[g2];exact hcells) hroom hst
    rw[<- hsv]at this
    unfold Oper.wp
    rw[hexec _ _ this,Oper.upon_value,hd]
    obtain⟨O',m',h⟩:=Af4 hS hq hmq hg hroom hel (by rw[hls',hls]) (by rw[hls];exact hsrc.size) (by rw[hls];exact hsrc.each) (by rw[hls];exact hsrc.rel) hfresh
    rw[hls]at h
    exact hn O' m' _ _ h
   ·have hcur: ∀ k,k<l.es.length*te.cs.length-> ∃ u,cur[k]? =some u:=by
      intro k hk
      have:l.es.length*te.cs.length<=cap*te.cs.length:=Nat.mul_le_mul_right _ h4
      exact⟨cur[k]'(by omega),by simp [show k<cur.size from by omega]⟩
    let olds:List Value:=(List.range (l.es.length*te.cs.length)).map fun k=>cur.getD k undef
    have hold:(Builtin.firstCells i.size l.es.length (.slice (some (at' g 0)) l.es.length cap)).run P w.drew= .ok olds.toArray w.drew:=by
      simp only[Builtin.firstCells,g2]
      exact run_loadCells (P:=P) w.drew (at' g 0) (l.es.length*te.cs.length) (fun k=>cur.getD k undef) (fun k hk=>by
        obtain⟨u,hu'⟩:=hcur k hk
        rw[IY,Nat.zero_add,AiB,hg.cell]
        rw[Array.getD_eq_getD_getElem?,hu'];rfl)
    have:=YE (P:=P) (w:=w) (t:=t) (u:=u) (ty:=o.type) (base:=some (at' g 0)) (sLen:=l.es.length) (sCap:=cap) (olds:=olds) (news:=news) hu hu2 hsl g1 g4 hlen hold (by rw[g2];exact hcells') (by omega) (by rw[g3];exact hbb.1) (.inr (by have:=hbb.2;omega))
    rw[<- hsv]at this
    unfold Oper.wp
    rw[hexec _ _ this,Oper.upon_value,hd]
    have hge:=grownCap_ge w (l.es.length+ns.length) cap e
    obtain⟨k1,k2⟩:=xE (O:=O) (w:=w) (cap:=grownCap w (l.es.length+ns.length) cap e) (z:=z.cells) (es:=l.es) (olds:=olds) hsz hsrc.each (by simp [olds]) hsrc.size hzs hge (fun i j hi hj=>by
      obtain⟨u,h10,h11⟩:=h7 i j hi hj
      have hlt:i*te.cs.length+j<l.es.length*te.cs.length:=by
        have:(i+1)*te.cs.length<=l.es.length*te.cs.length:=Nat.mul_le_mul_right _ hi
        rw[Nat.add_mul]at this;omega
      have e1:olds.getD (i*te.cs.length+j) undef=u:=by
        simp [olds,List.getD_eq_getElem?_getD,hlt,h10]
      rw[e1];exact h11) hsrc.rel
    obtain⟨O',m',h⟩:=Pn hS (Moves.drew _ _ w) rfl (d:=d) (e:=e) (cap:=grownCap w (l.es.length+ns.length) cap e) (frz:=frz) (l:=l') (del:=[q]) (by rw[hel,List.length_append];exact hge) (grownCap_le_maxLen w _ _ _ (by unfold maxLen;have:=hbb.2;omega)) (by rw[hls'];exact k1) (by rw[hls',hel];exact k2) hfresh
    rw[hel,List.length_append]at h
    exact hn O' m' _ _ h
end
end Go.Proofs.YtadefjgbcapakaaGreatDoor.Vm
namespace Go.Proofs.YtadefjgbcapakaaGreatDoor.Vm
open Classical
section
variable {P:Program} {C:Ctx} {V0:Nat->Value} {O0 O:Own} {w0 w:World} {m:Nat->Value} {st:St} {a:Act} {o:Oper}
theorem Aft {c:Call} {s y:Operand} {t u:Nat} {tu:TI} (hC:TOk P C) (hS:Sim V0 O0 w0 O m st a w) {d:Tmp} (hd:o.dst=some d) (ho:o.op= .call c) (hcal:c.callee= .builtin .append) (hargs:c.args= #[s,y]) (hty:c.argTypes.toList=[t,u])
    (htu:C.T u=some tu) (hsl:QG tu.d=true) {fet:Fet} (hf:Hl st.Aa fet) {x' y':A} (hx:A8 O st.Aa m w (a.eval s) x') (hy:A8 O st.Aa m w (a.eval y) y')
    (hok:A7 (X8 C fet d t x' y').ok) (hfr: ∀ p∈(X8 C fet d t x' y').new,st.fresh p.1=true):Good P V0 O0 w0 (apply st o (X8 C fet d t x' y')) o a w:=by
  intro next Q hn
  have hF:FOk O st.Aa m w fet:=fun q x h=>⟨hf q x h,hS.Aa q x (hf q x h)⟩
  unfold X8 at *
  obtain⟨ti,e,te,ht,hte,hd',he⟩:=Wi hok
  rw[he]at hok hfr hn;clear he
  split at hok
  ·rename_i q
   obtain⟨r,hr,he⟩:=AY hok
   rw[he]at hok
   dsimp only at hfr hn
   rw[he]at hfr hn;clear he
   obtain⟨hok1,hok2⟩:=hok.append
   obtain⟨h1,h2⟩:=hok2.cons
   obtain⟨h2,h3⟩:=h2.cons
   obtain⟨h3,h4⟩:=h3.cons
   have h1:=Nat.eq_of_beq_eq_true h1
   have h2:=Nat.eq_of_beq_eq_true h2
   have h3:0<te.cs.length:=by rw[<- h2];simpa [Nat.blt_eq]using h3
   have h2:r.l.t.len=te.cs.length:=h2
   have h4:(r.l.xs.length+(Fz fet r.l.t y').2.length)*(te.bytes+1)<=140737488355328:=by simpa using h4.cons.1
   obtain⟨news,hsrc⟩:=src_of (P:=P) hF hy hok1
   have hq:=FM hr
   obtain⟨hv,hO⟩:=hx.own hF hq
   have hq':=hf _ _ hq
   rw[h2]at hsrc
   refine pO (frz:=r.frz) (l:=r.l) (l':=⟨r.l.t,r.l.xs++(Fz fet r.l.t y').2⟩) (del:=[q]) hC hS hd ho hcal hargs hty ht hte hd' htu hsl hsrc h3 (by rw[Sl.BP,Sl.BP];exact h4) (DL (hfr _ List.mem_cons_self)) (Sl.AiI _ _ _) h2 h2 ?_ next Q (fun O' m' a' w' h=>hn O' m' a' w' ?_)
   ·rcases hO.2 with ⟨h5,h6,h7⟩ | ⟨h5,g,cap,cur,h6,h7,_⟩
    ·exact .inl ⟨h5,h6,by rw[hv,h7]⟩
    ·refine .inr ⟨h5,q,g,cap,cur,rfl,?_,h6,by rw[hv,h6],?_⟩
     ·rw[hq',h1]
     ·rw[h1];exact h7
   ·rw[Qm hd]
    rw[h1]at h;exact h
  ·obtain⟨hok1,hok2⟩:=hok.append
   obtain⟨h3,h4⟩:=hok2.cons
   have h3:0<te.cs.length:=by simpa [Nat.blt_eq]using h3
   have h4:(Fz fet (tyl te.cs) y').2.length*(te.bytes+1)<=140737488355328:=by simpa using h4.cons.1
   obtain⟨news,hsrc⟩:=src_of (P:=P) hF hy hok1
   rw[LK]at hsrc
   refine pO (frz:=false) (l:=⟨tyl te.cs,[]⟩) (l':=⟨tyl te.cs,(Fz fet (tyl te.cs) y').2⟩) (del:=[]) hC hS hd ho hcal hargs hty ht hte hd' htu hsl hsrc h3 (by rw[Sl.AiK,Sl.BP];simpa using h4) (DL (hfr _ List.mem_cons_self)) (by rw[Sl.AiK];rfl) (LK _) (LK _) (.inl ⟨trivial,rfl,hx⟩) next Q (fun O' m' a' w' h=>hn O' m' a' w' ?_)
   rw[Qm hd]
   exact h
  ·exact(AO hok).elim
theorem AgJ {t:Nat} {x:Operand} (hC:TOk P C) (hS:Sim V0 O0 w0 O m st a w) {d:Tmp} (hd:o.dst=some d) (ho:o.op= .box t x) {x':A} (hx:A8 O st.Aa m w (a.eval x) x') (hids: ∀ i∈x'.ids,i∈st.ids\/(Aj st.Aa i).isSome)
    (hok:A7 (JW C d t x').ok) (hfr: ∀ p∈(JW C d t x').new,st.fresh p.1=true) (hnd:nodup ((JW C d t x').new.map (·.1))=true):Good P V0 O0 w0 (apply st o (JW C d t x')) o a w:=by
  refine AdH hC hS hx hids hd (fun ti ht hv hs=> ?_) hok hfr hnd
  simp only[execOp,ho,Instr.box,newVar,newRow,Sem.run_bind]
  rfl
theorem Ad8 {t:Nat} {ti:TI} (hC:TOk P C) (hS:Sim V0 O0 w0 O m st a w) {d:Tmp} (hd:o.dst=some d) (ho:o.op= .alloc t) (ht:C.T t=some ti)
    (hok:A7 (JW C d t (.agg (ti.cs.map CK.zero))).ok) (hfr: ∀ p∈(JW C d t (.agg (ti.cs.map CK.zero))).new,st.fresh p.1=true) (hnd:nodup ((JW C d t (.agg (ti.cs.map CK.zero))).new.map (·.1))=true) :
    Good P V0 O0 w0 (apply st o (JW C d t (.agg (ti.cs.map CK.zero)))) o a w:=by
  obtain⟨i,z,h1,h2,_,h3⟩:=Afn (O:=O) (Aa:=st.Aa) (m:=m) (w:=w) (hC.is ht)
  refine AdH (v:=.agg z.cells) (x:=.agg (ti.cs.map CK.zero)) hC hS ⟨z.cells,rfl,h3.1,h3.2⟩ (fun j hj=> ?_) hd (fun ti ht hv hs=> ?_) hok hfr hnd
  ·exfalso
   have: ∀ ks:List CK,(ks.map CK.zero).flatMap A.EZ=[]:=by
     intro ks
     induction ks with
     | nil=>rfl
     | cons k ks ih=>rw[List.map_cons,List.flatMap_cons,ih];cases k<;>rfl
   have hj':j∈(ti.cs.map CK.zero).flatMap A.EZ:=hj
   rw[this]at hj';cases hj'
  ·simp only[execOp,ho,Instr.alloc,Sem.run_bind,zeroValue,typeInfo,run_program,Result.andThen_ok,h1,h2,Sem.run_pure,newVar,newRow]
   rfl
theorem lT {t:Nat} {ti:TI} (hT:LW P t ti) {v:Value} {b k:Nat} (hs:v.cells.size=ti.cs.length) (h1: ∀ j,j<v.cells.size->(v.cells.getD j undef).oneCell'=true) (hc: ∀ j,j<v.cells.size->(w.cell? (at' b (k+j))).isSome=true) (hf: ∀ j,j<v.cells.size->w.frozen? (at' b (k+j))=false) :
    (storeVar t (at' b k) v).run P w= .ok () (w.setCells b k v.cells.toList):=by
  have:=run_storeCells_cells (P:=P) b k v.cells.toList 0 w (fun j hj=>by simpa using hc j (by simpa using hj)) (fun j hj=>by simpa using hf j (by simpa using hj)) (fun u hu=>by
    obtain⟨j,hj,he⟩:=List.mem_iff_getElem.1 hu
    have:=h1 j (by simpa using hj)
    rw[Array.getD_eq_getD_getElem?,Array.getElem?_eq_getElem (by simpa using hj)]at this
    rw[<- he];simpa using this)
  unfold storeVar
  simp only[Sem.run_bind,hT.J3,Result.andThen_ok]
  rw[if_neg (by simpa using hs)]
  simpa using this
theorem AcO {t:Nat} {x y:Operand} (hC:TOk P C) (hS:Sim V0 O0 w0 O m st a w) (hd:o.dst=none) (ho:o.op= .store t x y) {fet:Fet} (hf:Hl st.Aa fet) {q off:Nat} {v':A} (hx:A8 O st.Aa m w (a.eval x) (.ptr q off)) (hy:A8 O st.Aa m w (a.eval y) v')
    (hids: ∀ i∈v'.ids,i∈st.ids\/(Aj st.Aa i).isSome)
    (hok:A7 (KP C fet t (.ptr q off) v').ok) (hfr: ∀ p∈(KP C fet t (.ptr q off) v').new,st.fresh p.1=true) (hnd:nodup ((KP C fet t (.ptr q off) v').new.map (·.1))=true):Good P V0 O0 w0 (apply st o (KP C fet t (.ptr q off) v')) o a w:=by
  intro next Q hn
  have hF:FOk O st.Aa m w fet:=fun q x h=>⟨hf q x h,hS.Aa q x (hf q x h)⟩
  unfold KP at *
  obtain⟨ti,ht,he⟩:=Bz hok
  rw[he]at hok hfr hnd hn;clear he
  dsimp only at hok hfr hnd hn
  obtain⟨cs,hcs,he⟩:=AY hok
  rw[he]at hok hfr hnd hn;clear he
  obtain⟨h1,h2⟩:=hok.cons
  obtain⟨h2,h3⟩:=h2.cons
  have h2:=Nat.eq_of_beq_eq_true h2
  obtain⟨h3,h30⟩:=h3.cons
  have h3:=Nat.le_of_ble_eq_true h3
  have h30:0<ti.cs.length:=by simpa [Nat.blt_eq]using h30.cons.1
  have hT:=hC.is ht
  obtain⟨b,base,g1,g2,g3⟩:=hx.ptr hF (FN hcs)
  have hq:=hf _ _ (FN hcs)
  have hvc:=hy.cells h1
  have hvs:v'.cells.length=ti.cs.length:=h2
  have hsz:(a.eval y).cells.size=ti.cs.length:=by rw[hvc.1,h2]
  have hr:(execOp a.eval o).run P w= .ok .skip (w.setCells b (base+off) (a.eval y).cells.toList):=by
    have:=lT (P:=P) (w:=w) (b:=b) (k:=base+off) hT hsz (fun j hj=>(hvc.2 j (by rw[<- hvc.1];exact hj)).one) (fun j hj=>by
      obtain⟨_,_,u,g4,_⟩:=g3 (off+j) (by omega)
      rw[Nat.add_assoc,g4];rfl) (fun j hj=>by
      obtain⟨_,g4,_⟩:=g3 (off+j) (by omega)
      rw[Nat.add_assoc];exact g4)
    simp only[execOp,ho,Instr.storeAt,Instr.sureAddr,g2,Sem.run_bind,Sem.run_pure,Result.andThen_ok,this]
  unfold Oper.wp
  rw[hr,Oper.upon_skip]
  obtain⟨_,_,u0,hu0,_⟩:=g3 off (by omega)
  obtain⟨c,e,fr,hblk⟩: ∃ c e fr,w.heap[b]? =some (.cells c e fr):=by
    unfold World.cell? at hu0
    dsimp only at hu0
    split at hu0
    ·rename_i c e fr hh;exact⟨c,e,fr,hh⟩
    ·cases hu0
  have hcell: ∀ k u,w.cell? (at' b k)=some u->c[k]? =some u:=by
    intro k u hu
    simp only[World.cell?,hblk]at hu
    simpa using hu
  have hend:base+off+(a.eval y).cells.toList.length<=c.size:=by
    rw[Array.length_toList,hsz]
    obtain⟨_,_,u,hu,_⟩:=g3 (off+(ti.cs.length - 1)) (by omega)
    have:=hcell _ _ hu
    have:=(Array.getElem?_eq_some_iff.1 this).1
    omega
  obtain⟨c',k1,k2,k3,k4,k5,k6,k7,k8⟩:=SY b (a.eval y).cells.toList (base+off) w hblk hend
  rw[Array.length_toList,hsz]at k3
  have hout: ∀ k,(k<base+off\/base+off+ti.cs.length<=k)->c'[k]? =c[k]? :=by
    intro k hk
    by_cases hks:k<c.size
    ·have:=k3 k
     rw[if_neg (by omega)]at this
     rw[getD_eq (by omega),getD_eq hks,this]
    ·rw[Array.getElem?_eq_none (by omega),Array.getElem?_eq_none (by omega)]
  have hown: ∀ k,base+off<=k->k<base+off+ti.cs.length->O b k=some q:=by
    intro k hk1 hk2
    have:=(g3 (k - base) (by omega)).1
    rwa [show base+(k - base)=k from by omega]at this
  let w':=w.setCells b (base+off) (a.eval y).cells.toList
  have hM:Moves O (fun i=>i=q) w w':=by
    refine Moves.row k6 k7 k8 k5 hblk k1 k4 k2 (fun k hk=>hout k ?_) (.inl ⟨base+off,q,?_,hown _ (Nat.le_refl _) (by omega),rfl⟩)
    ·rcases Nat.lt_or_ge k (base+off)with h | h
     ·exact .inl h
     ·right
      rcases Nat.lt_or_ge k (base+off+ti.cs.length)with h' | h'
      ·exact absurd rfl (hk q (hown k h h'))
      ·exact h'
    ·rw[Array.length_toList,hsz]at hend;omega
  have hP:Passes O O (fun i=>i=q) w.heap.size:=⟨fun _ _ _ h=>h,fun _ _ _ _ h _=>h⟩
  have hpr:=hM.Bg hP
  let ad:=Dq (Dh fet q+1+off) ti.cs v'.cells
  let m':Nat->Value:=fun i=>if has (ad.2.map (·.1)) i then .slice none 0 0 else m i
  let Nw:Nat->Prop:=fun i=> ∃ p∈ad.2,p.1=i
  have hNw: ∀ i,Nw i->F7 st i:=by
    rintro i ⟨p,hp,rfl⟩
    exact DL (hfr p hp)
  have hm_not: ∀ i,¬ Nw i->m' i=m i:=by
    intro i hi
    refine if_neg (fun h=>hi ?_)
    obtain⟨p,hp,hpe⟩:=List.mem_map.1 (G9.1 h)
    exact⟨p,hp,hpe⟩
  have hmad: ∀ p∈ad.2,m' p.1= .slice none 0 0:=fun p hp=>if_pos (G9.2 (List.mem_map.2 ⟨p,hp,rfl⟩))
  have hqN: ¬ Nw q:=fun h=>by rw[(hNw q h).2]at hq;cases hq
  let objs':=Aw (Bh (Aw st.Aa [(q,.box (splice cs off ad.1))]) []) ad.2
  have hnewO: ∀ p∈ad.2,Aj objs' p.1=some p.2:=fun p hp=>YO hnd (by exact hp)
  have hget: ∀ i z,Aj objs' i=some z->(i,z)∈ad.2\/(¬ Nw i/\i=q/\z= .box (splice cs off ad.1))\/(¬ Nw i/\i≠q/\Aj st.Aa i=some z):=by
    intro i z hz
    rcases TL hz with h | ⟨hno,_,h⟩
    ·exact .inl h
    ·have hni: ¬ Nw i:=by rintro ⟨p,hp,rfl⟩;exact hno p.2 hp
     rcases h with h | ⟨hno',h⟩
     ·simp only[List.mem_singleton]at h
      injection h with e1 e2
      exact .inr (.inl ⟨hni,e1,e2⟩)
     ·exact .inr (.inr ⟨hni,fun hiq=>hno' (.box (splice cs off ad.1)) (by rw[hiq];exact List.mem_singleton_self _),h⟩)
  have hE:Gz st.Aa m objs' m' Nw:=by
    intro i z hz
    rcases hget i z hz with h | ⟨hni,h1',h2'⟩ | ⟨hni,_,h⟩
    ·exact .inl ⟨_,h,rfl⟩
    ·subst h1';subst h2'
     exact .inr ⟨_,hq,rfl,hm_not _ hni⟩
    ·exact .inr ⟨z,h,rfl,hm_not _ hni⟩
  have hadl:ad.1.length=ti.cs.length:=by rw[(TK ti.cs v'.cells (Dh fet q+1+off)).1,hvs]
  have happ:apply st o {ok:=[v'.isVal,Nat.beq v'.cells.length ti.cs.length,Nat.ble (off+ti.cs.length) cs.length,Nat.blt 0 ti.cs.length],val:=.undef,upd:=[(q,.box (splice cs off ad.1))],new:=ad.2}= {tmps:=put st.tmps none .undef,Aa:=objs'}:=by
    unfold apply;rw[hd]
  refine hn O m' _ _ ?_
  rw[happ,hd]
  refine hS.next (st':= {tmps:=put st.tmps none .undef,Aa:=objs'}) (d:=none) (x:=.undef) (T:=fun i=>i=q) (Nw:=Nw) hM hP (fun b k _ h=>h) hE (fun n hn'=>(hNw n hn').both) (fun r hr=>by rw[hr,hq];rfl) (fun i z hz=> ?_) rfl (fun h=>absurd rfl h)
  rcases hget i z hz with h | ⟨hni,h1',h2'⟩ | ⟨hni,hiq,h⟩
  ·right
   obtain⟨⟨e',sz',h4⟩,_⟩:=(TK ti.cs v'.cells (Dh fet q+1+off)).2.2 _ h
   dsimp only at h4
   subst h4
   exact⟨⟨by simp [Sl.es],.inl ⟨trivial,rfl,hmad _ h⟩⟩,(hNw _ ⟨_,h,rfl⟩).ne⟩
  ·right
   subst h1';subst h2'
   have hcs':JD O objs' m' w' (a.eval y).cells ad.1:=hvc.AfU (ks:=ti.cs) (id:=Dh fet i+1+off) hpr hE (fun j hj r hr' hn'=>by
     rcases hids r (Abr h1 hj hr')with hh | hh
     ·exact(hNw r hn').1 hh
     ·rw[(hNw r hn').2]at hh;cases hh) (fun p hp=>⟨hnewO p hp,hmad p hp⟩)
   refine⟨⟨b,base,by rw[hm_not _ hni];exact g1,fun j hj=> ?_⟩,hS.ids _ _ hq⟩
   rw[Nv _ _ _ (by rw[hadl];omega)]at hj
   obtain⟨g4,g5,u,g6,g7⟩:=g3 j hj
   refine⟨g4,by rw[hM.frozen (cell_lt g6)];exact g5,?_⟩
   rw[X0 _ _ _ _ (by rw[hadl];omega),hadl]
   have hcell': ∀ k,w'.cell? (at' b k)=c'[k]? :=by intro k;simp only[World.cell?];rw[k1];rfl
   rw[hcell']
   have hjs:base+j<c.size:=(Array.getElem?_eq_some_iff.1 (hcell _ _ g6)).1
   by_cases hin:off<=j/\j<off+ti.cs.length
   ·rw[if_pos hin]
    refine⟨_,getD_eq (by omega),?_⟩
    rw[k3,if_pos (by omega)]
    have e1:(a.eval y).cells.toList.getD (base+j - (base+off)) undef=(a.eval y).cells.getD (j - off) undef:=by
      rw[Array.getD_eq_getD_getElem?,List.getD_eq_getElem?_getD,Array.getElem?_toList,show base+j - (base+off)=j - off from by omega]
    rw[e1]
    exact hcs'.2 (j - off) (by rw[hadl];omega)
   ·rw[if_neg hin,hout _ (by omega)]
    exact⟨u,hcell _ _ g6,g7.step hpr hE (fun r hr' hn'=>(hNw r hn').1 (Pm hq (KC hj hr')))⟩
  ·exact .inl ⟨hiq,h,hm_not _ hni⟩
end
end Go.Proofs.YtadefjgbcapakaaGreatDoor.Vm
namespace Go.Proofs.YtadefjgbcapakaaGreatDoor.Vm
open Classical
section
variable {P:Program} {C:Ctx} {V0:Nat->Value} {O0 O:Own} {w0 w:World} {m:Nat->Value} {st:St} {a:Act} {o:Oper}
theorem Afg (hS:Sim V0 O0 w0 O m st a w) {q e g cap i off:Nat} {l l':Sl} {cur:Array Value} {vs:List Value} {xs:List A}
    (hq:Aj st.Aa q=some (.arr e false l)) (hm:m q= .slice (some (at' g 0)) l.es.length cap) (hg:Em w g cur e) (hi:i<l.es.length) (hel:l'.es=l.es.set i (splice (l.es.getD i []) off xs)) (hls:l'.sz=l.sz) (hle:off+xs.length<=l.sz) (hl:vs.length=xs.length) (h0:0<xs.length)
    (hv: ∀ j,j<xs.length->Aq O w (vs.getD j undef) (xs.getD j .undef)) :
    Sim V0 O0 w0 O m {st with Aa:=C9 st.Aa q (.arr e false l')} a (w.setCells g (i*l.sz+off) vs):=by
  obtain⟨hsz,hr⟩:=hS.Aa q _ hq
  obtain⟨g',cap',cur',h2,h3,h4,h5,h6,h7,h8,h9⟩: ∃ g' cap' cur',m q= .slice (some (at' g' 0)) l.es.length cap'/\Em w g' cur' e/\l.es.length<=cap'/\cap'<=maxLen/\cur'.size=cap'*l.sz /\
      (∀ i j,i<l.es.length->j<l.sz-> ∃ u,cur'[i*l.sz+j]? =some u/\Aq O w u ((l.es.getD i []).getD j .undef))/\(∀ k,k<cur'.size->l.es.length*l.sz<=k->O g' k=some q)/\(∀ k,k<l.es.length*l.sz->O g' k=if false then none else some q):=by
    rcases hr with ⟨_,_,h⟩ | ⟨_,h⟩
    ·rw[hm]at h;cases h
    ·exact h
  rw[hm]at h2
  injection h2 with h2 _ hcc;injection h2 with h2;injection h2 with h2
  subst h2;subst hcc
  obtain⟨h3,_⟩:=hg.inj h3
  subst h3
  obtain⟨fr,hg,hfr0⟩:=hg
  have hmul:l.es.length*l.sz<=cap*l.sz:=Nat.mul_le_mul_right _ h4
  have hrow:i*l.sz+off+xs.length<=l.es.length*l.sz:=by
    have:(i+1)*l.sz<=l.es.length*l.sz:=Nat.mul_le_mul_right _ hi
    rw[Nat.add_mul]at this;omega
  obtain⟨c',k1,k2,k3,k4,k5,k6,k7,k8⟩:=SY g vs (i*l.sz+off) w hg (by rw[hl];omega)
  rw[hl]at k3
  let w':=w.setCells g (i*l.sz+off) vs
  have hout: ∀ k,(k<i*l.sz+off\/i*l.sz+off+xs.length<=k)->c'[k]? =cur[k]? :=by
    intro k hk
    by_cases hks:k<cur.size
    ·have:=k3 k
     rw[if_neg (by omega)]at this
     rw[getD_eq (by omega),getD_eq hks,this]
    ·rw[Array.getElem?_eq_none (by omega),Array.getElem?_eq_none (by omega)]
  have hown: ∀ k,k<l.es.length*l.sz->O g k=some q:=by intro k hk;simpa using h9 k hk
  have hM:Moves O (fun i=>i=q) w w':=by
    refine Moves.row k6 k7 k8 k5 hg k1 k4 k2 (fun k hk=>hout k ?_) (.inl ⟨i*l.sz+off,q,by omega,hown _ (by omega),rfl⟩)
    rcases Nat.lt_or_ge k (i*l.sz+off)with h | h
    ·exact .inl h
    ·right
     rcases Nat.lt_or_ge k (i*l.sz+off+xs.length)with h' | h'
     ·exact absurd rfl (hk q (hown k (by omega)))
     ·exact h'
  have hP:Passes O O (fun i=>i=q) w.heap.size:=⟨fun _ _ _ h=>h,fun _ _ _ _ h _=>h⟩
  have hpr:=hM.Bg hP
  have hei:(l.es.getD i []).length=l.sz:=hsz _ (by rw[List.getD_eq_getElem?_getD,List.getElem?_eq_getElem hi];simp)
  have hE:Gz st.Aa m (C9 st.Aa q (.arr e false l')) m (fun _=>False):=by
    intro r y hy
    rw[Bj]at hy
    by_cases hrq:r=q
    ·subst hrq
     rw[if_pos rfl]at hy;injection hy with hy;subst hy
     exact .inr ⟨_,hq,by simp [Obj.shp,hel,hls],rfl⟩
    ·rw[if_neg hrq]at hy;exact .inr ⟨y,hy,rfl,rfl⟩
  have:=hS.next (st':= {st with Aa:=C9 st.Aa q (.arr e false l')}) (d:=none) (v:=undef) (x:=.undef) (T:=fun i=>i=q) (Nw:=fun _=>False) hM hP (fun b k _ h=>h) hE (fun _ h=>h.elim) (fun r hr=>by rw[hr,hq];rfl) (fun r y hy=> ?_) rfl (fun h=>absurd rfl h)
  ·exact this
  ·rw[Bj]at hy
   by_cases hrq:r=q
   ·right
    subst hrq
    rw[if_pos rfl]at hy;injection hy with hy;subst hy
    refine⟨?_,hS.ids _ _ hq⟩
    simp only[CV]
    rw[hel,hls]
    refine⟨fun x hx=> ?_,.inr ⟨trivial,g,cap,c',by rw[List.length_set];exact hm,⟨fr,k1,by rw[k2];exact hfr0⟩,by rw[List.length_set];exact h4,h5,by rw[k2];exact h6,fun r' j hr' hj=> ?_,fun k hk hge=> ?_,fun k hk=> ?_⟩⟩
    ·rcases List.mem_or_eq_of_mem_set hx with h | h
     ·exact hsz x h
     ·rw[h,Nv _ _ _ (by omega)];exact hei
    ·rw[List.length_set]at hr'
     obtain⟨u,h10,h11⟩:=h7 r' j hr' hj
     have hlt:r'*l.sz+j<l.es.length*l.sz:=by
       have:(r'+1)*l.sz<=l.es.length*l.sz:=Nat.mul_le_mul_right _ hr'
       rw[Nat.add_mul]at this;omega
     by_cases hri:r'=i
     ·subst hri
      have e1:(l.es.set r' (splice (l.es.getD r' []) off xs)).getD r' []=splice (l.es.getD r' []) off xs:=by
        simp [List.getD_eq_getElem?_getD,hr']
      rw[e1,X0 _ _ _ _ (by omega)]
      by_cases hin:off<=j/\j<off+xs.length
      ·rw[if_pos hin]
       refine⟨_,getD_eq (by omega),?_⟩
       rw[k3,if_pos (by omega),show r'*l.sz+j - (r'*l.sz+off)=j - off from by omega]
       exact(hv (j - off) (by omega)).Bg hpr
      ·rw[if_neg hin,hout _ (by omega)]
       exact⟨u,h10,h11.Bg hpr⟩
     ·have e1:(l.es.set i (splice (l.es.getD i []) off xs)).getD r' []=l.es.getD r' []:=by
        simp only[List.getD_eq_getElem?_getD,List.getElem?_set]
        rw[if_neg (fun h=>hri h.symm)]
      rw[e1,hout _ ?_]
      ·exact⟨u,h10,h11.Bg hpr⟩
      ·rcases Nat.lt_or_gt_of_ne hri with h | h
       ·left
        have:(r'+1)*l.sz<=i*l.sz:=Nat.mul_le_mul_right _ h
        rw[Nat.add_mul]at this;omega
       ·right
        have:(i+1)*l.sz<=r'*l.sz:=Nat.mul_le_mul_right _ h
        rw[Nat.add_mul]at this;omega
    ·rw[List.length_set]at hge;rw[k2]at hk;exact h8 k hk hge
    ·rw[List.length_set]at hk;simpa using hown k hk
   ·rw[if_neg hrq]at hy
    exact .inl ⟨hrq,hy,rfl⟩
theorem AcP {t:Nat} {x y:Operand} (hC:TOk P C) (hS:Sim V0 O0 w0 O m st a w) (hd:o.dst=none) (ho:o.op= .store t x y) {fet:Fet} (hf:Hl st.Aa fet) {q i off:Nat} {v':A} (hx:A8 O st.Aa m w (a.eval x) (.CB q i off)) (hy:A8 O st.Aa m w (a.eval y) v')
    (hok:A7 (KP C fet t (.CB q i off) v').ok):Good P V0 O0 w0 (apply st o (KP C fet t (.CB q i off) v')) o a w:=by
  intro next Q hn
  unfold KP at *
  obtain⟨ti,ht,he⟩:=Bz hok
  rw[he]at hok hn;clear he
  dsimp only at hok hn
  obtain⟨r,hr,he⟩:=AY hok
  rw[he]at hok hn;clear he
  obtain⟨hok1,hok2⟩:=hok.append
  obtain⟨h1,h2⟩:=hok2.cons
  obtain⟨hset,h2⟩:=h2.cons
  obtain⟨h2,h3⟩:=h2.cons
  obtain⟨h3,h4⟩:=h3.cons
  obtain⟨h4,hno⟩:=h4.cons
  have hno:=hno.cons.1
  have h4:0<ti.cs.length:=by simpa [Nat.blt_eq]using h4
  have h1:r.frz=false:=by simpa using h1
  have h2:=Nat.le_of_ble_eq_true h2
  have h3':i<r.l.xs.length:=by simpa using h3
  have h3:i<r.l.es.length:=by rw[Sl.BP];exact h3'
  have hT:=hC.is ht
  have hval:=AeL hok1
  have hvc:=hy.cells hval
  obtain⟨g1,g2,g3,g4⟩:=WH hf ti.cs v'.cells (fun j=>(a.eval y).cells.getD j undef) (fun j hj=>hvc.2 j hj) hok1
  obtain⟨O1,hS1,hp1,hle1,hv1,hE1,_⟩:=hS.freezes _ g3
  have hq:=hf _ _ (FM hr)
  have hqU: ∀ p∈(BV fet ti.cs v'.cells).2.2,p.1≠q:=by
    intro p hp he
    have:has ((BV fet ti.cs v'.cells).2.2.map (·.1)) q=true:=G9.2 (List.mem_map.2 ⟨p,hp,he⟩)
    rw[this]at hno;cases hno
  have hq1:Aj (Aw st.Aa (BV fet ti.cs v'.cells).2.2) q=some (.arr r.e false r.l):=by
    rw[CY _ _ _ hqU,hq,h1]
  have hx':AQ O st.Aa m w (a.eval x) (.CB q i off):=hx
  obtain⟨_,hx'⟩:=hx'
  rw[hq]at hx'
  simp only[Option.map_some,Obj.shp]at hx'
  obtain⟨g,n',cap,h5,h6⟩:=hx' h3
  obtain⟨hsz,hr'⟩:=hS1.Aa q _ hq1
  obtain⟨cur,h7,h8⟩: ∃ cur,m q= .slice (some (at' g 0)) r.l.es.length cap/\Em w g cur r.e/\cur.size=cap*r.l.sz/\r.l.es.length<=cap:=by
    rcases hr' with ⟨_,h9,_⟩ | ⟨h9,g',cap',cur,h10,h11,h12,h13,h14,_⟩
    ·rw[h9]at h3;simp at h3
    ·have h10':=h10
     rw[h5]at h10'
     injection h10' with q1 q2 q3;injection q1 with q1;injection q1 with q1
     subst q1;subst q3
     exact⟨cur,h10,h11,h14,h12⟩
  obtain⟨h8,h9,h10⟩:=h8
  have hsz2:(a.eval y).cells.size=ti.cs.length:=by rw[hvc.1,g2]
  have hrow:i*r.l.sz+off+ti.cs.length<=cur.size:=by
    have:(i+1)*r.l.sz<=r.l.es.length*r.l.sz:=Nat.mul_le_mul_right _ h3
    have:r.l.es.length*r.l.sz<=cap*r.l.sz:=Nat.mul_le_mul_right _ h10
    rw[Nat.add_mul]at *;omega
  have hrun:(execOp a.eval o).run P w= .ok .skip (w.setCells g (i*r.l.sz+off) (a.eval y).cells.toList):=by
    have:=lT (P:=P) (w:=w) (b:=g) (k:=i*r.l.sz+off) hT hsz2 (fun j hj=>(hvc.2 j (by rw[<- hvc.1];exact hj)).one) (fun j hj=>by
      have hlt:i*r.l.sz+off+j<cur.size:=by omega
      rw[h8.cell];simp [hlt]) (fun j hj=>h8.frozen (by omega))
    simp only[execOp,ho,Instr.storeAt,Instr.sureAddr,h6,Sem.run_bind,Sem.run_pure,Result.andThen_ok,this]
  unfold Oper.wp
  rw[hrun,Oper.upon_skip]
  have hfin:=Afg hS1 (i:=i) (off:=off) (vs:=(a.eval y).cells.toList) (xs:=(BV fet ti.cs v'.cells).2.1) hq1 h7 h8 h3 (Sl.AmK r.l h3' hset) rfl (by rw[g1];exact h2) (by rw[Array.length_toList,hsz2,g1]) (by rw[g1];exact h4) (fun j hj=>by
    rw[g1]at hj
    have e1:(a.eval y).cells.toList.getD j undef=(a.eval y).cells.getD j undef:=by
      rw[Array.getD_eq_getD_getElem?,List.getD_eq_getElem?_getD,Array.getElem?_toList]
    rw[e1]
    exact g4 hp1 hv1 j hj)
  refine hn O1 m _ _ ?_
  have happ:apply st o {ok:=(BV fet ti.cs v'.cells).1++[!r.frz,(r.l.set i off (BV fet ti.cs v'.cells).2.1).1,Nat.ble (off+ti.cs.length) r.l.sz,decide (i<r.l.xs.length),Nat.blt 0 ti.cs.length,!(has ((BV fet ti.cs v'.cells).2.2.map (·.1)) q)],val:=.undef,upd:=(BV fet ti.cs v'.cells).2.2++[(q,.arr r.e false (r.l.set i off (BV fet ti.cs v'.cells).2.1).2)]} =
      {tmps:=st.tmps,Aa:=C9 (Aw st.Aa (BV fet ti.cs v'.cells).2.2) q (.arr r.e false (r.l.set i off (BV fet ti.cs v'.cells).2.1).2)}:=by
    have hsa: ∀(l:List (Nat×Obj)) (u:List (Nat×Obj)) (p:Nat×Obj),Aw l (u++[p])=C9 (Aw l u) p.1 p.2:=by
      intro l u p
      induction u generalizing l with
      | nil=>rfl
      | cons s u ih=>exact ih _
    unfold apply
    rw[hd,hsa]
    rfl
  rw[happ,hd]
  exact hfin
end
end Go.Proofs.YtadefjgbcapakaaGreatDoor.Vm
namespace Go.Proofs.YtadefjgbcapakaaGreatDoor.Vm
open Classical
open Go.Lib (bytesWorld bytesCells bytesWorld_at_old bytesWorld_at_new bytesWorld_size)
section
variable {P:Program} {C:Ctx} {V0:Nat->Value} {O0 O:Own} {w0 w:World} {m:Nat->Value} {st:St} {a:Act} {o:Oper}
theorem Afw (w:World) (e:TypeId) (s:ByteArray):Moves O (fun _=>False) w (bytesWorld w e s):=by
  refine⟨rfl,rfl,rfl,?_,fun b hb=>.inl (bytesWorld_at_old w e s b hb)⟩
  rw[bytesWorld_size];omega
theorem AgL {s t:Nat} {x:Operand} (hC:TOk P C) (hS:Sim V0 O0 w0 O m st a w) {d:Tmp} (hd:o.dst=some d) (ho:o.op= .convert s t x) {l:List UInt8} (hx:A8 O st.Aa m w (a.eval x) (.str l))
    (hok:A7 (fZ C d s t l).ok) (hfr: ∀ p∈(fZ C d s t l).new,st.fresh p.1=true):Good P V0 O0 w0 (apply st o (fZ C d s t l)) o a w:=by
  intro next Q hn
  unfold fZ at *
  obtain⟨ts,hts,he⟩:=Bz hok
  rw[he]at hok hfr hn;clear he
  obtain⟨ti,e,te,ht,hte,hd',he⟩:=Wi hok
  rw[he]at hok hfr hn;clear he
  obtain⟨h1,h2⟩:=hok.cons
  have h2:=h2.cons.1
  have hlen:l.length<=140737488355328:=by simpa using h2
  have hde:=Aeu h1
  have hue:=(hC.is hd').d
  rw[hde]at hue
  have hut:=(hC.is ht).d
  rw[hte]at hut
  obtain⟨b,hb,hl⟩:=hx.str
  have hbl:b.size=l.length:=by rw[LH,hl]
  have hr:(execOp a.eval o).run P w= .ok (.value (.slice (some (at' w.heap.size 0)) b.size (grownCap w b.size 0 e))) (bytesWorld w e b):=by
    have:=Go.Lib.run_convert_string_bytes (P:=P) w s t e b (hC.is hts).d hut hue
    simp only[execOp,ho,hb,Sem.run_bind,this]
    rfl
  unfold Oper.wp
  rw[hr,Oper.upon_value,hd]
  have hge:=grownCap_ge w b.size 0 e
  have hes:(⟨TP,l.map (fun(b:UInt8)=>((b.toNat:Int)))⟩:Sl).es=l.map (fun(x:UInt8)=>[A.int .u8 (x.toNat:Int)]):=by
    show List.map (Ty.int IntKind.u8 Ty.nil).cells (List.map (fun(b:UInt8)=>((b.toNat:Int))) l)=_
    exact List.map_map.trans rfl
  have hesl:(⟨TP,l.map (fun(b:UInt8)=>((b.toNat:Int)))⟩:Sl).es.length=b.size:=by rw[hes,List.length_map,hbl]
  have hcs:(bytesCells w e b).size=grownCap w b.size 0 e:=by
    simp [bytesCells]
    have:b.data.size=b.size:=rfl
    omega
  obtain⟨O',m',h⟩:=qH hS (Afw w e b) (d:=d) (e:=e) (cap:=grownCap w b.size 0 e) (frz:=false) (l:=⟨TP,l.map (fun(b:UInt8)=>((b.toNat:Int)))⟩) (del:=[]) (cur:=bytesCells w e b)
    ⟨_,bytesWorld_at_new w e b,.inr (Nat.le_refl _)⟩ (by rw[hesl];exact hge) (grownCap_le_maxLen w _ _ _ (by unfold maxLen;omega)) (by rw[hcs];show _=_*1;omega) ⟨Sl.es_len _,fun i j hi hj=>by
      have hj0:j=0:=by
        have:j<1:=hj
        omega
      subst hj0
      rw[hesl]at hi
      have hi':i<l.length:=by omega
      have hi2:i<b.data.toList.length:=by rw[hl];exact hi'
      refine⟨.int .u8 (l.getD i 0).toNat,?_,?_⟩
      ·have hlt:i<b.data.size:=hi
       show(bytesCells w e b)[i*1+0]? =_
       rw[Nat.mul_one,Nat.add_zero]
       unfold bytesCells
       rw[Array.getElem?_append_left (by simpa using hlt)]
       rw[Array.getElem?_map]
       have:b.data[i]? =some (l.getD i 0):=by
         rw[<- Array.getElem?_toList,hl,List.getD_eq_getElem?_getD,List.getElem?_eq_getElem hi'];rfl
       rw[this];rfl
      ·rw[hes]
       have:(l.map (fun(x:UInt8)=>[A.int .u8 (x.toNat:Int)])).getD i []=[A.int .u8 ((l.getD i 0).toNat:Int)]:=by
         simp [List.getD_eq_getElem?_getD,hi']
       rw[this]
       exact .int _ _⟩ (DL (hfr _ List.mem_cons_self))
  rw[hesl]at h
  refine hn O' m' _ _ ?_
  rw[Qm hd]
  exact h
theorem Ai3 {s t:Nat} {x:Operand} (hC:TOk P C) (hS:Sim V0 O0 w0 O m st a w) (ho:o.op= .convert s t x) {fet:Fet} (hf:Hl st.Aa fet) {x':A} (hx:A8 O st.Aa m w (a.eval x) x')
    (hok:A7 (mQ C o fet s t x').ok) (hfr: ∀ p∈(mQ C o fet s t x').new,st.fresh p.1=true):Good P V0 O0 w0 (apply st o (mQ C o fet s t x')) o a w:=by
  have hF:FOk O st.Aa m w fet:=fun q x h=>⟨hf q x h,hS.Aa q x (hf q x h)⟩
  by_cases hs: ∃ l,x'= .str l
  ·obtain⟨l,rfl⟩:=hs
   unfold mQ at *
   dsimp only at hok hfr ⊢
   obtain⟨tt,htt,he⟩:=Bz hok
   rw[he]at hok hfr ⊢;clear he
   cases hb:Aet tt.d with
   | true =>
     rw[hb]at hok hfr
     simp only[cond_true]at hok hfr ⊢
     obtain⟨d,hd,he⟩:=AY hok
     rw[he]at hok hfr ⊢;clear he
     exact AgL hC hS hd ho hx hok hfr
   | false =>
     rw[hb]at hok
     simp only[cond_false]at hok ⊢
     exact(gZ hC hF ho hx hok).good hS
  ·have e:mQ C o fet s t x'=Qz C fet s t x':=by
     cases x'<;>first | rfl | exact absurd ⟨_,rfl⟩ hs
   rw[e]at hok ⊢
   exact(gZ hC hF ho hx hok).good hS
theorem AlR (n:Nat) (cs:List CK) {i j:Nat} (hi:i<n) (hj:j<cs.length):((List.replicate n cs).flatten).getD (i*cs.length+j) .oth=cs.getD j .oth:=by
  induction n generalizing i with
  | zero=>omega
  | succ n ih =>
    rw[List.replicate_succ,List.flatten_cons,List.getD_eq_getElem?_getD]
    cases i with
    | zero=>rw[List.getElem?_append_left (by omega),Nat.zero_mul,Nat.zero_add,<- List.getD_eq_getElem?_getD]
    | succ i =>
      rw[Nat.add_mul,Nat.one_mul,List.getElem?_append_right (by omega),show i*cs.length+cs.length+j - cs.length=i*cs.length+j from by omega,<- List.getD_eq_getElem?_getD]
      exact ih (by omega)
theorem Aca {t n e:Nat} {ti te:TI} (hC:TOk P C) (hS:Sim V0 O0 w0 O m st a w) {d:Tmp} (hd:o.dst=some d) (ho:o.op= .alloc t) (ht:C.T t=some ti)
    (hp:te.cs.all CK.plain=true) (h0:0<te.cs.length) (hn0:0<n) (hn:n<=16777216) (hcs:ti.cs=(List.replicate n te.cs).flatten) (hfresh:F7 st (b2 d)) :
    Good P V0 O0 w0 {tmps:=st.tmps.set d (.CB (b2 d) 0 0),Aa:=Aw (Bh st.Aa []) [(b2 d,.arr t false ⟨tyl te.cs,List.replicate n (tyl te.cs).zero⟩)]} o a w:=by
  intro next Q hnx
  have hT:=hC.is ht
  obtain⟨i,z,g1,g2,g3,g4,g5,g6⟩:=hT.i
  have hsz:z.cells.size=ti.cs.length:=by
    rw[<- Array.length_toList];exact(I4 (O:=O) (Aa:=[]) (m:=fun _=>undef) (w:=w) _ _ g5).1
  have hlen:ti.cs.length=n*te.cs.length:=by rw[hcs];simp
  have hpl:ti.cs.all CK.plain=true:=by
    rw[hcs,List.all_eq_true]
    intro k hk
    obtain⟨l,hl,hkl⟩:=List.mem_flatten.1 hk
    rw[List.eq_of_mem_replicate hl]at hkl
    exact List.all_eq_true.1 hp k hkl
  have hv:=Ti (O:=O) (w:=w) _ _ g5 hpl
  have hr:(execOp a.eval o).run P w= .ok (.value (.pointer (some (at' w.heap.size 0)))) (w.alloc (.cells z.cells t)):=by
    simp only[execOp,ho,Instr.alloc,Sem.run_bind,zeroValue,typeInfo,run_program,Result.andThen_ok,g1,g4,Sem.run_pure,newVar,newRow]
    rfl
  unfold Oper.wp
  rw[hr,Oper.upon_value,hd]
  have hel:(⟨tyl te.cs,List.replicate n (tyl te.cs).zero⟩:Sl).es=List.replicate n (te.cs.map CK.EP):=Sl.UM _ _ hp
  have hsl:(⟨tyl te.cs,List.replicate n (tyl te.cs).zero⟩:Sl).sz=te.cs.length:=LK _
  obtain⟨O',m',h⟩:=Pn hS (Moves.refl _ _ w) rfl (d:=d) (e:=t) (cap:=n) (frz:=false) (l:=⟨tyl te.cs,List.replicate n (tyl te.cs).zero⟩) (cur:=z.cells) (del:=[]) (by rw[Sl.BP,List.length_replicate];exact Nat.le_refl _) (by unfold maxLen;omega) (by rw[hsz,hlen,hsl])
    ⟨Sl.es_len _,fun r j hrl hj=>by
      rw[hsl]at hj ⊢
      rw[Sl.BP,List.length_replicate]at hrl
      have hlt:r*te.cs.length+j<n*te.cs.length:=by
        have:(r+1)*te.cs.length<=n*te.cs.length:=Nat.mul_le_mul_right _ hrl
        rw[Nat.add_mul]at this;omega
      refine⟨z.cells.toList.getD (r*te.cs.length+j) undef,?_,?_⟩
      ·rw[List.getD_eq_getElem?_getD,Array.getElem?_toList]
       rw[Array.getElem?_eq_getElem (by omega)];rfl
      ·have:=hv (r*te.cs.length+j) (by omega)
       have e1:(ti.cs.map CK.EP).getD (r*te.cs.length+j) .undef=(te.cs.map CK.EP).getD j .undef:=by
         have e2:(ti.cs.map CK.EP).getD (r*te.cs.length+j) .undef=(ti.cs.getD (r*te.cs.length+j) .oth).EP:=by
           have:r*te.cs.length+j<ti.cs.length:=by omega
           simp [List.getD_eq_getElem?_getD,this]
         have e3:(te.cs.map CK.EP).getD j .undef=(te.cs.getD j .oth).EP:=by simp [List.getD_eq_getElem?_getD,hj]
         rw[e2,e3,hcs,AlR n te.cs hrl hj]
       rw[e1]at this
       rw[hel]
       have e4:(List.replicate n (te.cs.map CK.EP)).getD r []=te.cs.map CK.EP:=by simp [List.getD_eq_getElem?_getD,hrl]
       rw[e4];exact this⟩ hfresh
  rw[Sl.BP,List.length_replicate]at h
  refine hnx O' m' _ _ ?_
  by_cases hdt:d<st.tmps.length
  ·
   have hslot:=h.tmps d (by simpa using hdt)
   have hself:(a.put (some d) (.slice (some (at' w.heap.size 0)) n n)).tmps.getD d undef= .slice (some (at' w.heap.size 0)) n n:=by
     have hs:d<a.tmps.size:=by rw[hS.size];exact hdt
     simp [Act.put,Array.getD_eq_getD_getElem?,hs]
   have hself2:(st.tmps.set d (.own (b2 d))).getD d .undef= .own (b2 d):=by simp [List.getD_eq_getElem?_getD,hdt]
   rw[hself,hself2]at hslot
   have hc:AQ O' (Aw (Bh st.Aa []) [(b2 d,.arr t false ⟨tyl te.cs,List.replicate n (tyl te.cs).zero⟩)]) m' (w.alloc (.cells z.cells t)) (.slice (some (at' w.heap.size 0)) n n) (.own (b2 d)):=hslot
   have hg:Aj (Aw (Bh st.Aa []) [(b2 d,Obj.arr t false ⟨tyl te.cs,List.replicate n (tyl te.cs).zero⟩)]) (b2 d)=some (.arr t false ⟨tyl te.cs,List.replicate n (tyl te.cs).zero⟩):=by
     simp only[Aw];rw[Bj,if_pos rfl]
   have hm: .slice (some (at' w.heap.size 0)) n n=m' (b2 d):=by
     have:=hc.2
     rw[hg]at this
     exact this
   have hcr:AQ O' (Aw (Bh st.Aa []) [(b2 d,.arr t false ⟨tyl te.cs,List.replicate n (tyl te.cs).zero⟩)]) m' (w.alloc (.cells z.cells t)) (.pointer (some (at' w.heap.size 0))) (.CB (b2 d) 0 0):=by
     simp only[AQ,hg,Option.map_some,Obj.shp]
     exact⟨rfl,fun _=>⟨w.heap.size,n,n,hm.symm,by simp⟩⟩
   have hnew:=h.put (some d) (x:=.CB (b2 d) 0 0) (v:=.pointer (some (at' w.heap.size 0))) hcr.toT
   have e1:put (st.tmps.set d (.own (b2 d))) (some d) (.CB (b2 d) 0 0)=st.tmps.set d (.CB (b2 d) 0 0):=by simp [put]
   have e2:(a.put (some d) (.slice (some (at' w.heap.size 0)) n n)).put (some d) (.pointer (some (at' w.heap.size 0)))=a.put (some d) (.pointer (some (at' w.heap.size 0))):=by simp [Act.put]
   rw[e2]at hnew
   dsimp only at hnew
   rw[e1]at hnew
   exact hnew
  ·have e1: ∀ x,st.tmps.set d x=st.tmps:=fun x=>List.set_eq_of_length_le (Nat.le_of_not_lt hdt)
   have e2: ∀ v,a.put (some d) v=a:=by
     intro v
     have hs: ¬ d<a.tmps.size:=by rw[hS.size];exact hdt
     have:a.tmps.setIfInBounds d v=a.tmps:=by simp [Array.setIfInBounds,hs]
     simp only[Act.put,this]
   rw[e1,e2]at h
   rw[e1,e2]
   exact h
theorem Afs {t:Nat} (hC:TOk P C) (hS:Sim V0 O0 w0 O m st a w) {d:Tmp} (hd:o.dst=some d) (ho:o.op= .alloc t)
    (hok:A7 (Rn C d t).ok) (hfr: ∀ p∈(Rn C d t).new,st.fresh p.1=true) (hnd:nodup ((Rn C d t).new.map (·.1))=true):Good P V0 O0 w0 (apply st o (Rn C d t)) o a w:=by
  unfold Rn at *
  obtain⟨ti,ht,he⟩:=Bz hok
  rw[he]at hok hfr hnd ⊢;clear he
  cases ha:AcZ ti.d with
  | some p =>
    obtain⟨n,e⟩:=p
    rw[ha]at hok hfr
    dsimp only at hok hfr ⊢
    obtain⟨te,hte,he⟩:=Bz hok
    rw[he]at hok hfr ⊢;clear he
    obtain⟨h1,h2⟩:=hok.cons
    obtain⟨h2,h3⟩:=h2.cons
    obtain⟨h3,h4⟩:=h3.cons
    obtain⟨h4,h5⟩:=h4.cons
    have h5:=h5.cons.1
    rw[Qm hd]
    exact Aca (n:=n) (e:=e) hC hS hd ho ht h1 (by simpa [Nat.blt_eq]using h2) (by simpa [Nat.blt_eq]using h3) (Nat.le_of_ble_eq_true h4) (by simpa using h5) (DL (hfr _ List.mem_cons_self))
  | none =>
    rw[ha]at hok hfr hnd
    exact Ad8 hC hS hd ho ht hok hfr hnd
end
