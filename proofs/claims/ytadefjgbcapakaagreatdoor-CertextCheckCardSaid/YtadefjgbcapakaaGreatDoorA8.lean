/-
  CertextCheck: the law returns true whatever the input; machine, functions, plain law (part 8 of 47.)
-/
import Derived.Test.YtadefjgbcapakaaGreatDoorA7
import Derived.Laws.Append
import Derived.Laws.AppendOwn
import Derived.Laws.OwnMore
set_option linter.unusedVariables false
set_option linter.unusedSimpArgs false
namespace Go.Proofs.YtadefjgbcapakaaGreatDoor.Vm
open Classical
section
variable {P:Program} {C:Ctx} {V0:Nat→Value} {O0 O:Own} {w0 w:World} {m:Nat→Value} {st:St} {a:Act} {o:Oper}
def Held (O:Own) (w:World) (cur:Array Value) (sz:Nat) (es:List (List A)):Prop :=
  (∀ x∈es,x.length=sz)∧ ∀ i j,i<es.length→j<sz→ ∃ u,cur[i*sz+j]? =some u∧Am O w u ((es.getD i []).getD j .undef)
theorem qU (hS:Sim V0 O0 w0 O m st a w) {w2:World} (hM:Moves O (fun _=>False) w w2) {d:Tmp} {e cap:Nat} {frz:Bool} {l:Sl} {cur:Array Value} {del:List Nat} (hnew:Es w2 w.heap.size cur e)
    (hcap:l.es.length≤cap) (hmax:cap≤maxLen) (hcur:cur.size=cap*l.sz) (hh:Held O w cur l.sz l.es) (hfresh:Gp st (b2 d)) :
    ∃ O' m',Sim V0 O0 w0 O' m' {tmps:=st.tmps.set d (.own (b2 d)),Aa:=Au (Bl st.Aa del) [(b2 d,.arr e frz l)]} (a.put (some d) (.slice (some (at' w.heap.size 0)) l.es.length cap)) w2:=by
  let id:=b2 d
  let O':Own:=fun b k=>if b=w.heap.size then(if frz=true∧k<l.es.length*l.sz then none else some id)else O b k
  let m':Nat→Value:=fun i=>if i=id then .slice (some (at' w.heap.size 0)) l.es.length cap else m i
  have hlt: ∀ {b k},b<w.heap.size→O' b k=O b k:=fun hb=>if_neg (Nat.ne_of_lt hb)
  have hP:Passes O O' (fun _=>False) w.heap.size:=⟨fun b k hb h=>by rw[hlt hb];exact h,fun b k q hb h _=>by rw[hlt hb];exact h⟩
  have hpr:=hM.Bj hP
  have hget: ∀ i y,Ai (Au (Bl st.Aa del) [(id,.arr e frz l)]) i=some y→(i=id∧y= .arr e frz l)∨(i≠id∧Ai st.Aa i=some y):=by
    intro i y hy
    simp only[Au]at hy
    rw[Bv]at hy
    by_cases hi:i=id
    ·rw[if_pos hi]at hy;injection hy with hy;exact .inl ⟨hi,hy.symm⟩
    ·rw[if_neg hi,JW]at hy
     split at hy
     ·cases hy
     ·exact .inr ⟨hi,hy⟩
  have hE:Hr st.Aa m (Au (Bl st.Aa del) [(id,.arr e frz l)]) m' (fun i=>i=id):=by
    intro i y hy
    rcases hget i y hy with ⟨h1,_⟩ | ⟨h1,h2⟩
    ·exact .inl h1
    ·exact .inr ⟨y,h2,rfl,if_neg h1⟩
  refine⟨O',m',hS.next (st':= {tmps:=st.tmps.set d (.own (b2 d)),Aa:=Au (Bl st.Aa del) [(id,.arr e frz l)]}) (x:=.own id) (T:=fun _=>False) (Nw:=fun i=>i=id) hM hP (fun b k hb h=>by rw[hlt hb]at h;exact h) hE (fun n hn=>by rw[hn];exact hfresh.both) (fun _ h=>h.elim) (fun i y hy=> ?_) rfl (fun _=> ?_)⟩
  ·rcases hget i y hy with ⟨h1,h2⟩ | ⟨h1,h2⟩
   ·right
    subst h1;subst h2
    refine⟨⟨hh.1,.inr ⟨trivial,w.heap.size,cap,cur,if_pos rfl,hnew,hcap,hmax,hcur,fun i j hi hj=> ?_,fun k hk hge=> ?_,fun k hk=> ?_⟩⟩,hfresh.ne⟩
    ·obtain⟨u,h3,h4⟩:=hh.2 i j hi hj
     exact⟨u,h3,h4.Bj hpr⟩
    ·show(if _ then(if _ then _ else _)else _)=_
     rw[if_pos rfl,if_neg (by omega)]
    ·show(if _ then(if _ then _ else _)else _)=_
     rw[if_pos rfl]
     cases frz
     ·simp
     ·simp [hk]
   ·exact .inl ⟨fun h=>h,h2,if_neg h1⟩
  ·refine⟨rfl,?_⟩
   have:Ai (Au (Bl st.Aa del) [(id,.arr e frz l)]) id=some (.arr e frz l):=by simp only[Au];rw[Bv,if_pos rfl]
   show match (Ai (Au (Bl st.Aa del) [(id,.arr e frz l)]) id).map Obj.shp with | some (.arr _ _)=>_ | some .mp=>_ | _=>True
   rw[this]
   exact(if_pos rfl:m' id=_).symm
theorem Pm (hS:Sim V0 O0 w0 O m st a w) {w1:World} (hM1:Moves O (fun _=>False) w w1) (hsz1:w1.heap.size=w.heap.size) {d:Tmp} {e cap:Nat} {frz:Bool} {l:Sl} {cur:Array Value} {del:List Nat}
    (hcap:l.es.length≤cap) (hmax:cap≤maxLen) (hcur:cur.size=cap*l.sz) (hh:Held O w cur l.sz l.es) (hfresh:Gp st (b2 d)) :
    ∃ O' m',Sim V0 O0 w0 O' m' {tmps:=st.tmps.set d (.own (b2 d)),Aa:=Au (Bl st.Aa del) [(b2 d,.arr e frz l)]} (a.put (some d) (.slice (some (at' w.heap.size 0)) l.es.length cap)) (w1.alloc (.cells cur e)):=by
  exact qU hS (hM1.then (by rw[← hsz1]at *;exact Moves.push _)) ⟨_,by rw[← hsz1];exact Za _ _,.inl rfl⟩ hcap hmax hcur hh hfresh
theorem Zr (hS:Sim V0 O0 w0 O m st a w) {d:Tmp} {e:Nat} {frz:Bool} {t:Ty} {del:List Nat} {id:Nat} (hfresh:Gp st id) :
    ∃ O' m',Sim V0 O0 w0 O' m' {tmps:=st.tmps.set d (.own id),Aa:=Au (Bl st.Aa del) [(id,.arr e frz ⟨t,[]⟩)]} (a.put (some d) (.slice none 0 0)) w:=by
  let m':Nat→Value:=fun i=>if i=id then .slice none 0 0 else m i
  have hget: ∀ i y,Ai (Au (Bl st.Aa del) [(id,.arr e frz ⟨t,[]⟩)]) i=some y→(i=id∧y= .arr e frz ⟨t,[]⟩)∨(i≠id∧Ai st.Aa i=some y):=by
    intro i y hy
    simp only[Au]at hy
    rw[Bv]at hy
    by_cases hi:i=id
    ·rw[if_pos hi]at hy;injection hy with hy;exact .inl ⟨hi,hy.symm⟩
    ·rw[if_neg hi,JW]at hy
     split at hy
     ·cases hy
     ·exact .inr ⟨hi,hy⟩
  have hE:Hr st.Aa m (Au (Bl st.Aa del) [(id,.arr e frz ⟨t,[]⟩)]) m' (fun i=>i=id):=by
    intro i y hy
    rcases hget i y hy with ⟨h1,_⟩ | ⟨h1,h2⟩
    ·exact .inl h1
    ·exact .inr ⟨y,h2,rfl,if_neg h1⟩
  refine⟨O,m',hS.next (st':= {tmps:=st.tmps.set d (.own id),Aa:=Au (Bl st.Aa del) [(id,.arr e frz ⟨t,[]⟩)]}) (x:=.own id) (T:=fun _=>False) (Nw:=fun i=>i=id) (Moves.refl _ _ _) ⟨fun _ _ _ h=>h,fun _ _ _ _ h _=>h⟩ (fun b k hb h=>h) hE (fun n hn=>by rw[hn];exact hfresh.both) (fun _ h=>h.elim) (fun i y hy=> ?_) rfl (fun _=> ?_)⟩
  ·rcases hget i y hy with ⟨h1,h2⟩ | ⟨h1,h2⟩
   ·right
    subst h1;subst h2
    exact⟨⟨by simp [Sl.es],.inl ⟨trivial,rfl,if_pos rfl⟩⟩,hfresh.ne⟩
   ·exact .inl ⟨fun h=>h,h2,if_neg h1⟩
  ·refine⟨rfl,?_⟩
   have:Ai (Au (Bl st.Aa del) [(id,.arr e frz ⟨t,[]⟩)]) id=some (.arr e frz ⟨t,[]⟩):=by simp only[Au];rw[Bv,if_pos rfl]
   show match (Ai (Au (Bl st.Aa del) [(id,.arr e frz ⟨t,[]⟩)]) id).map Obj.shp with | some (.arr _ _)=>_ | some .mp=>_ | _=>True
   rw[this]
   exact(if_pos rfl:m' id=_).symm
theorem Ag3 (hS:Sim V0 O0 w0 O m st a w) {d:Tmp} {q e cap g:Nat} {frz:Bool} {l l':Sl} {ns:List (List A)} {cur:Array Value} {news:List Value}
    (hq:Ai st.Aa q=some (.arr e frz l)) (hm:m q= .slice (some (at' g 0)) l.es.length cap) (hg:Es w g cur e) (hcap:l.es.length+ns.length≤cap) (hle:l'.es=l.es++ns) (hls:l'.sz=l.sz)
    (hl:news.length=ns.length*l.sz) (hns: ∀ x∈ns,x.length=l.sz) (hnv: ∀ i j,i<ns.length→j<l.sz→Am O w (news.getD (i*l.sz+j) undef) ((ns.getD i []).getD j .undef)) (hfresh:Gp st (b2 d)) :
    ∃ O' m',Sim V0 O0 w0 O' m' {tmps:=st.tmps.set d (.own (b2 d)),Aa:=Au (Bl st.Aa [q]) [(b2 d,.arr e frz l')]} (a.put (some d) (.slice (some (at' g 0)) (l.es.length+ns.length) cap)) (w.setCells g (l.es.length*l.sz) news):=by
  let id:=b2 d
  have hidq:id≠q:=fun h=>by
    have:=hfresh.2
    rw[show b2 d=id from rfl,h,hq]at this;cases this
  obtain⟨hsz,hr⟩:=hS.Aa q _ hq
  obtain⟨g',cap',cur',h2,h3,h4,h5,h6,h7,h8,h9⟩: ∃ g' cap' cur',m q= .slice (some (at' g' 0)) l.es.length cap'∧Es w g' cur' e∧l.es.length≤cap'∧cap'≤maxLen∧cur'.size=cap'*l.sz ∧
      (∀ i j,i<l.es.length→j<l.sz→ ∃ u,cur'[i*l.sz+j]? =some u∧Am O w u ((l.es.getD i []).getD j .undef))∧(∀ k,k<cur'.size→l.es.length*l.sz≤k→O g' k=some q)∧(∀ k,k<l.es.length*l.sz→O g' k=if frz then none else some q):=by
    rcases hr with ⟨_,_,h⟩ | ⟨_,h⟩
    ·rw[hm]at h;cases h
    ·exact h
  rw[hm]at h2
  injection h2 with h2 _ hcc;injection h2 with h2;injection h2 with h2
  subst h2;subst hcc
  obtain⟨h3,_⟩:=hg.inj h3
  subst h3
  obtain⟨fr,hg,hfr0⟩:=hg
  have hmul:(l.es.length+ns.length)*l.sz≤cap*l.sz:=Nat.mul_le_mul_right _ hcap
  rw[Nat.add_mul]at hmul
  obtain⟨c',g1,g2,g3,g4,g5,g6,g7,g8⟩:=SH g news (l.es.length*l.sz) w hg (by rw[hl,h6];exact hmul)
  let w':=w.setCells g (l.es.length*l.sz) news
  let O':Own:=fun b k=>if b=g∧k<cur.size then(if frz=true∧k<(l.es.length+ns.length)*l.sz then none else some id)else O b k
  let m':Nat→Value:=fun i=>if i=id then .slice (some (at' g 0)) (l.es.length+ns.length) cap else m i
  have hsame: ∀ k,(k<l.es.length*l.sz∨(l.es.length+ns.length)*l.sz≤k)→c'[k]? =cur[k]? :=by
    intro k hk
    rw[Nat.add_mul]at hk
    by_cases hks:k<cur.size
    ·have:=g3 k
     rw[if_neg (by rw[hl];omega)]at this
     rw[getD_eq (by omega),getD_eq hks,this]
    ·rw[Array.getElem?_eq_none (by omega),Array.getElem?_eq_none (by omega)]
  have hM:Moves O (fun i=>i=q) w w':=by
    refine Moves.row g6 g7 g8 g5 hg g1 g4 g2 (fun k hk=>hsame k ?_) ?_
    ·rcases Nat.lt_or_ge k (l.es.length*l.sz)with h | h
     ·exact .inl h
     ·right
      rcases Nat.lt_or_ge k cur.size with hks | hks
      ·exact absurd rfl (hk q (h8 k hks h))
      ·rw[Nat.add_mul];omega
    ·by_cases hn:ns.length*l.sz=0
     ·right
      have:news=[]:=List.eq_nil_of_length_eq_zero (by omega)
      apply Array.ext_getElem?
      intro k
      refine hsame k ?_
      rw[Nat.add_mul,hn];omega
     ·left
      refine⟨l.es.length*l.sz,q,by omega,h8 _ (by omega) (Nat.le_refl _),rfl⟩
  have hg':g<w.heap.size:=(Array.getElem?_eq_some_iff.1 hg).1
  have own_g: ∀ k,k<cur.size→O g k=none∨O g k=some q:=by
    intro k hk
    rcases Nat.lt_or_ge k (l.es.length*l.sz)with h | h
    ·rw[h9 k h];cases frz<;>simp
    ·exact .inr (h8 k hk h)
  have hP:Passes O O' (fun i=>i=q) w.heap.size:=by
    refine⟨fun b k _ h=> ?_,fun b k r _ h hne=> ?_⟩
    ·show(if _ then(if _ then _ else _)else _)=_
     by_cases hc:b=g∧k<cur.size
     ·rw[if_pos hc]
      obtain⟨rfl,hk⟩:=hc
      rcases Nat.lt_or_ge k (l.es.length*l.sz)with h' | h'
      ·have:=h9 k h'
       rw[h]at this
       cases frz
       ·simp at this
       ·rw[if_pos ⟨rfl,by rw[Nat.add_mul];omega⟩]
      ·rw[h8 k hk h']at h;cases h
     ·rw[if_neg hc];exact h
    ·show(if _ then(if _ then _ else _)else _)=_
     by_cases hc:b=g∧k<cur.size
     ·obtain⟨rfl,hk⟩:=hc
      rcases own_g k hk with h' | h'
      ·rw[h]at h';cases h'
      ·rw[h]at h';injection h' with h';exact absurd h' hne
     ·rw[if_neg hc];exact h
  have hpr:=hM.Bj hP
  have hget: ∀ i y,Ai (Au (Bl st.Aa [q]) [(id,.arr e frz l')]) i=some y→(i=id∧y= .arr e frz l')∨(i≠id∧i≠q∧Ai st.Aa i=some y):=by
    intro i y hy
    simp only[Au]at hy
    rw[Bv]at hy
    by_cases hi:i=id
    ·rw[if_pos hi]at hy;injection hy with hy;exact .inl ⟨hi,hy.symm⟩
    ·rw[if_neg hi,JW]at hy
     split at hy
     ·cases hy
     ·rename_i hnd;exact .inr ⟨hi,by simpa using hnd,hy⟩
  have hE:Hr st.Aa m (Au (Bl st.Aa [q]) [(id,.arr e frz l')]) m' (fun i=>i=id):=by
    intro i y hy
    rcases hget i y hy with ⟨h1,_⟩ | ⟨h1,_,h2⟩
    ·exact .inl h1
    ·exact .inr ⟨y,h2,rfl,if_neg h1⟩
  refine⟨O',m',hS.next (st':= {tmps:=st.tmps.set d (.own (b2 d)),Aa:=Au (Bl st.Aa [q]) [(id,.arr e frz l')]}) (x:=.own id) (T:=fun i=>i=q) (Nw:=fun i=>i=id) hM hP (fun b k hb h=> ?_) hE (fun n hn=>by rw[hn];exact hfresh.both) (fun o ho=>by rw[ho,hq];rfl) (fun i y hy=> ?_) rfl (fun _=> ?_)⟩
  ·have h':(if b=g∧k<cur.size then(if frz=true∧k<(l.es.length+ns.length)*l.sz then none else some id)else O b k)≠none:=h
   by_cases hc:b=g∧k<cur.size
   ·rw[if_pos hc]at h'
    obtain⟨rfl,hk⟩:=hc
    rcases Nat.lt_or_ge k (l.es.length*l.sz)with hlt | hge
    ·rw[h9 k hlt]
     cases frz
     ·simp
     ·exfalso;refine h' ?_;rw[if_pos ⟨rfl,by rw[Nat.add_mul];omega⟩]
    ·rw[h8 k hk hge];simp
   ·rw[if_neg hc]at h';exact h'
  ·rcases hget i y hy with ⟨h1,h2⟩ | ⟨h1,hiq,h2⟩
   ·right
    subst h1;subst h2
    refine⟨?_,hfresh.ne⟩
    simp only[Dc]
    rw[hle,hls]
    refine⟨fun x hx=>(List.mem_append.1 hx).elim (hsz x) (hns x),.inr ⟨trivial,g,cap,c',by rw[List.length_append];exact if_pos rfl,⟨fr,g1,by rw[g2];exact hfr0⟩,by rw[List.length_append];exact hcap,h5,by rw[g2];exact h6,fun i j hi hj=> ?_,fun k hk hge=> ?_,fun k hk=> ?_⟩⟩
    ·rw[List.length_append]at hi
     by_cases hil:i<l.es.length
     ·obtain⟨u,h10,h11⟩:=h7 i j hil hj
      have hlt:i*l.sz+j<l.es.length*l.sz:=by
        have:(i+1)*l.sz≤l.es.length*l.sz:=Nat.mul_le_mul_right _ hil
        rw[Nat.add_mul]at this;omega
      refine⟨u,by rw[hsame _ (.inl hlt)];exact h10,?_⟩
      have e1:(l.es++ns).getD i []=l.es.getD i []:=by
        simp only[List.getD_eq_getElem?_getD];rw[List.getElem?_append_left hil]
      rw[e1];exact h11.Bj hpr
     ·obtain⟨i',rfl⟩: ∃ i',i=l.es.length+i':=⟨i - l.es.length,by omega⟩
      have hi':i'<ns.length:=by omega
      have hlt:i'*l.sz+j<ns.length*l.sz:=by
        have:(i'+1)*l.sz≤ns.length*l.sz:=Nat.mul_le_mul_right _ hi'
        rw[Nat.add_mul]at this;omega
      have hidx:(l.es.length+i')*l.sz+j=l.es.length*l.sz+(i'*l.sz+j):=by rw[Nat.add_mul];omega
      have hsz':l.es.length*l.sz+(i'*l.sz+j)<c'.size:=by rw[g2,h6];omega
      refine⟨news.getD (i'*l.sz+j) undef,?_,?_⟩
      ·rw[hidx,getD_eq hsz',g3,if_pos ⟨by omega,by rw[hl];omega⟩]
       rw[show l.es.length*l.sz+(i'*l.sz+j) - l.es.length*l.sz=i'*l.sz+j from by omega]
      ·have e1:(l.es++ns).getD (l.es.length+i') []=ns.getD i' []:=by
         simp only[List.getD_eq_getElem?_getD];rw[List.getElem?_append_right (by omega),Nat.add_sub_cancel_left]
       rw[e1];exact(hnv i' j hi' hj).Bj hpr
    ·rw[g2]at hk
     rw[List.length_append]at hge
     show(if _ then(if _ then _ else _)else _)=_
     rw[if_pos ⟨rfl,hk⟩,if_neg (by omega)]
    ·rw[List.length_append]at hk
     show(if _ then(if _ then _ else _)else _)=_
     rw[if_pos ⟨rfl,by rw[Nat.add_mul]at hk;omega⟩]
     cases frz
     ·simp
     ·simp [hk]
   ·exact .inl ⟨hiq,h2,if_neg h1⟩
  ·refine⟨rfl,?_⟩
   have:Ai (Au (Bl st.Aa [q]) [(id,.arr e frz l')]) id=some (.arr e frz l'):=by simp only[Au];rw[Bv,if_pos rfl]
   show match (Ai (Au (Bl st.Aa [q]) [(id,.arr e frz l')]) id).map Obj.shp with | some (.arr _ _)=>_ | some .mp=>_ | _=>True
   rw[this]
   exact(if_pos rfl:m' id=_).symm
theorem Aif (hS:Sim V0 O0 w0 O m st a w) {d:Tmp} {q e cap g n:Nat} {l l':Sl} {cur:Array Value}
    (hq:Ai st.Aa q=some (.arr e false l)) (hm:m q= .slice (some (at' g 0)) l.es.length cap) (hg:Es w g cur e) (hn:n≤l.es.length) (hle:l'.es=l.es.take n) (hls:l'.sz=l.sz) (hfresh:Gp st (b2 d)) :
    ∃ O' m',Sim V0 O0 w0 O' m' {tmps:=st.tmps.set d (.own (b2 d)),Aa:=Au (Bl st.Aa [q]) [(b2 d,.arr e false l')]} (a.put (some d) (.slice (some (at' g 0)) n cap)) w:=by
  let id:=b2 d
  obtain⟨hsz,hr⟩:=hS.Aa q _ hq
  obtain⟨g',cap',cur',h2,h3,h4,h5,h6,h7,h8,h9⟩: ∃ g' cap' cur',m q= .slice (some (at' g' 0)) l.es.length cap'∧Es w g' cur' e∧l.es.length≤cap'∧cap'≤maxLen∧cur'.size=cap'*l.sz ∧
      (∀ i j,i<l.es.length→j<l.sz→ ∃ u,cur'[i*l.sz+j]? =some u∧Am O w u ((l.es.getD i []).getD j .undef))∧(∀ k,k<cur'.size→l.es.length*l.sz≤k→O g' k=some q)∧(∀ k,k<l.es.length*l.sz→O g' k=some q):=by
    rcases hr with ⟨_,_,h⟩ | ⟨_,h⟩
    ·rw[hm]at h;cases h
    ·simpa using h
  rw[hm]at h2
  injection h2 with h2 _ hcc;injection h2 with h2;injection h2 with h2
  subst h2;subst hcc
  obtain⟨h3,_⟩:=hg.inj h3
  subst h3
  have own_g: ∀ k,k<cur.size→O g k=some q:=by
    intro k hk
    rcases Nat.lt_or_ge k (l.es.length*l.sz)with h | h
    ·exact h9 k h
    ·exact h8 k hk h
  let O':Own:=fun b k=>if b=g∧k<cur.size then some id else O b k
  let m':Nat→Value:=fun i=>if i=id then .slice (some (at' g 0)) n cap else m i
  have hM:Moves O (fun i=>i=q) w w:=Moves.refl _ _ _
  have hP:Passes O O' (fun i=>i=q) w.heap.size:=by
    refine⟨fun b k _ h=> ?_,fun b k r _ h hne=> ?_⟩
    ·show(if _ then _ else _)=_
     by_cases hc:b=g∧k<cur.size
     ·obtain⟨rfl,hk⟩:=hc
      rw[own_g k hk]at h;cases h
     ·rw[if_neg hc];exact h
    ·show(if _ then _ else _)=_
     by_cases hc:b=g∧k<cur.size
     ·obtain⟨rfl,hk⟩:=hc
      rw[own_g k hk]at h;injection h with h;exact absurd h.symm hne
     ·rw[if_neg hc];exact h
  have hpr:=hM.Bj hP
  have hget: ∀ i y,Ai (Au (Bl st.Aa [q]) [(id,.arr e false l')]) i=some y→(i=id∧y= .arr e false l')∨(i≠id∧i≠q∧Ai st.Aa i=some y):=by
    intro i y hy
    simp only[Au]at hy
    rw[Bv]at hy
    by_cases hi:i=id
    ·rw[if_pos hi]at hy;injection hy with hy;exact .inl ⟨hi,hy.symm⟩
    ·rw[if_neg hi,JW]at hy
     split at hy
     ·cases hy
     ·rename_i hnd;exact .inr ⟨hi,by simpa using hnd,hy⟩
  have hE:Hr st.Aa m (Au (Bl st.Aa [q]) [(id,.arr e false l')]) m' (fun i=>i=id):=by
    intro i y hy
    rcases hget i y hy with ⟨h1,_⟩ | ⟨h1,_,h2⟩
    ·exact .inl h1
    ·exact .inr ⟨y,h2,rfl,if_neg h1⟩
  have hlen:l'.es.length=n:=by rw[hle,List.length_take];omega
  have hmul:n*l.sz≤l.es.length*l.sz:=Nat.mul_le_mul_right _ hn
  have hmul2:l.es.length*l.sz≤cap*l.sz:=Nat.mul_le_mul_right _ h4
  refine⟨O',m',hS.next (st':= {tmps:=st.tmps.set d (.own (b2 d)),Aa:=Au (Bl st.Aa [q]) [(id,.arr e false l')]}) (x:=.own id) (T:=fun i=>i=q) (Nw:=fun i=>i=id) hM hP (fun b k hb h=> ?_) hE (fun n hn=>by rw[hn];exact hfresh.both) (fun o ho=>by rw[ho,hq];rfl) (fun i y hy=> ?_) rfl (fun _=> ?_)⟩
  ·have h':(if b=g∧k<cur.size then some id else O b k)≠none:=h
   by_cases hc:b=g∧k<cur.size
   ·obtain⟨rfl,hk⟩:=hc
    rw[own_g k hk];simp
   ·rw[if_neg hc]at h';exact h'
  ·rcases hget i y hy with ⟨h1,h2⟩ | ⟨h1,hiq,h2⟩
   ·right
    subst h1;subst h2
    refine⟨?_,hfresh.ne⟩
    simp only[Dc]
    rw[hls,hlen]
    refine⟨fun x hx=>hsz x (by rw[hle]at hx;exact List.mem_of_mem_take hx),.inr ⟨trivial,g,cap,cur,if_pos rfl,hg,by omega,h5,h6,fun i j hi hj=> ?_,fun k hk hge=>if_pos ⟨rfl,hk⟩,fun k hk=> ?_⟩⟩
    ·obtain⟨u,h10,h11⟩:=h7 i j (by omega) hj
     refine⟨u,h10,?_⟩
     have e1:l'.es.getD i []=l.es.getD i []:=by
       rw[hle]
       simp only[List.getD_eq_getElem?_getD,List.getElem?_take]
       rw[if_pos hi]
     rw[e1];exact h11.Bj hpr
    ·show(if _ then _ else _)=_
     rw[if_pos ⟨rfl,by omega⟩];rfl
   ·exact .inl ⟨hiq,h2,if_neg h1⟩
  ·refine⟨rfl,?_⟩
   have:Ai (Au (Bl st.Aa [q]) [(id,.arr e false l')]) id=some (.arr e false l'):=by simp only[Au];rw[Bv,if_pos rfl]
   show match (Ai (Au (Bl st.Aa [q]) [(id,.arr e false l')]) id).map Obj.shp with | some (.arr _ _)=>_ | some .mp=>_ | _=>True
   rw[this]
   exact(if_pos rfl:m' id=_).symm
end
end Go.Proofs.YtadefjgbcapakaaGreatDoor.Vm
namespace Go.Proofs.YtadefjgbcapakaaGreatDoor.Vm
open Classical
section
variable {P:Program} {C:Ctx} {V0:Nat→Value} {O0 O:Own} {w0 w:World} {m:Nat→Value} {st:St} {a:Act} {o:Oper}
theorem Qh {δ :Dl} {d:Tmp} (hd:o.dst=some d):apply st o δ = {tmps:=st.tmps.set d δ.val,Aa:=Au (Bl (Au st.Aa δ.upd) δ.del) δ.new}:=by
  unfold apply;rw[hd];rfl
theorem VD {t:Nat} {k:Nat→TI→Dl} (hok:AA (elemOf C t k).ok): ∃ ti e te,C.T t=some ti∧ti.d= .slice e∧C.T e=some te∧elemOf C t k=k e te:=by
  unfold elemOf at *
  obtain⟨ti,ht,he⟩:=BB hok
  rw[he]at hok ⊢;clear he
  obtain⟨e,hel,he⟩:=Be hok
  rw[he]at hok ⊢;clear he
  obtain⟨te,hte,he⟩:=BB hok
  exact⟨ti,e,te,ht,LD hel,hte,he⟩
theorem Akl {O':Own} {w':World} {fet:Fet} {te:TI} {ty:Ty} (hf:Ir st.Aa fet) (hp:Ep O w O' w) (hw:w'=w): ∀(xs:List (Nat×A)) (ps:List (Nat×Value)) (vs:Array Value) (zs:List ty.Val),
    xs.length=ps.length→(∀(j:Nat) (x:Nat×A) (p:Nat×Value),xs[j]? =some x→ps[j]? =some p→p.1=x.1∧AB O st.Aa m w p.2 x.2∧x.2.isVal=true) →
    vs.size=zs.length*te.cs.length→Held O' w' vs te.cs.length (zs.map ty.cells)→AA (Em fet te ty xs zs).1 →
    (∀ p∈(Em fet te ty xs zs).2.2,∀ e l,p.2= .arr e true l→Am O' w (m p.1) (.sl l)) →
    (Em fet te ty xs zs).2.1.length=zs.length∧ ∃ vs',Instr.fill (fun i=>some (i*te.cs.length,te.cs.length)) vs ps=some vs'∧vs'.size=vs.size∧Held O' w' vs' te.cs.length ((Em fet te ty xs zs).2.1.map ty.cells):=by
  subst hw
  intro xs
  induction xs with
  | nil =>
    intro ps vs zs hl _ hsz hh _ _
    cases ps with
    | nil=>exact⟨rfl,vs,rfl,rfl,hh⟩
    | cons _ _=>simp at hl
  | cons x xs ih =>
    intro ps vs zs hl hr hsz hh hok hU
    cases ps with
    | nil=>simp at hl
    | cons p ps =>
      obtain⟨i,x⟩:=x
      obtain⟨i',v⟩:=p
      obtain⟨h1,h2,hval⟩:=hr 0 (i,x) (i',v) rfl rfl
      dsimp only at h1 h2 hval
      subst h1
      simp only[Em]at hok hU ⊢
      obtain⟨hok1,hok2⟩:=hok.append
      obtain⟨hok0,hok1⟩:=hok1.append
      obtain⟨hmk,hok1⟩:=hok1.cons
      have hmk:=Ty.Ob _ _ hmk
      have hil':i'<zs.length:=by simpa [Nat.blt_eq]using hok1.cons.1
      have hset:(zs.set i' (ty.mk (BZ fet te.cs x.cells).2.1).2).map ty.cells=(zs.map ty.cells).set i' (BZ fet te.cs x.cells).2.1:=by rw[List.map_set,hmk]
      have hzl:zs.length=(zs.map ty.cells).length:=by simp
      rw[hzl]at hsz hil'
      generalize hes:zs.map ty.cells=es at *
      have hil:i'<es.length:=hil'
      have hcs:=h2.cells hval
      obtain⟨g1,g2,g3,g4⟩:=VP hf te.cs x.cells (fun j=>v.cells.getD j undef) (fun j hj=>hcs.2 j hj) hok0
      have g5:=g4 hp (fun p hp'=>hU p (List.mem_append_left _ hp'))
      have hvsz:v.cells.size=te.cs.length:=by rw[hcs.1,g2]
      have hle:i'*te.cs.length+te.cs.length≤vs.size:=by
        rw[hsz]
        have:(i'+1)*te.cs.length≤es.length*te.cs.length:=Nat.mul_le_mul_right _ hil
        rw[Nat.add_mul]at this;omega
      have e0:v.cells.zipIdx.foldl (fun cs (c,j)=>cs.setIfInBounds (i'*te.cs.length+j) c) vs=(v.cells.toList.zipIdx 0).foldl (fun cs (p:Value×Nat)=>cs.setIfInBounds (i'*te.cs.length+p.2) p.1) vs:=by
        rw[← Array.foldl_toList];simp
      have hl0:i'*te.cs.length+0+v.cells.toList.length≤vs.size:=by rw[Array.length_toList,hvsz];omega
      obtain⟨k1,_⟩:=LH v.cells.toList 0 (i'*te.cs.length) vs 0 hl0
      have k2:=fun j=>(LH v.cells.toList 0 (i'*te.cs.length) vs j hl0).2
      rw[← e0]at k1
      have hh':Held O' w' (v.cells.zipIdx.foldl (fun cs (c,j)=>cs.setIfInBounds (i'*te.cs.length+j) c) vs) te.cs.length (es.set i' (BZ fet te.cs x.cells).2.1):=by
        refine⟨fun y hy=> ?_,fun r j hrl hj=> ?_⟩
        ·rcases List.mem_or_eq_of_mem_set hy with h | h
         ·exact hh.1 y h
         ·rw[h,g1]
        ·rw[List.length_set]at hrl
         have hlt:r*te.cs.length+j<vs.size:=by
           rw[hsz]
           have:(r+1)*te.cs.length≤es.length*te.cs.length:=Nat.mul_le_mul_right _ hrl
           rw[Nat.add_mul]at this;omega
         have hk:=k2 (r*te.cs.length+j)
         rw[← e0]at hk
         by_cases hri:r=i'
         ·subst hri
          rw[if_pos (by rw[Array.length_toList,hvsz];omega)]at hk
          have e1:(es.set r (BZ fet te.cs x.cells).2.1).getD r []=(BZ fet te.cs x.cells).2.1:=by
            simp [List.getD_eq_getElem?_getD,hil]
          refine⟨_,getD_eq (by omega),?_⟩
          rw[hk,e1,show r*te.cs.length+j - (r*te.cs.length+0)=j from by omega]
          have e2:v.cells.toList.getD j undef=v.cells.getD j undef:=by
            rw[Array.getD_eq_getD_getElem?,List.getD_eq_getElem?_getD,Array.getElem?_toList]
          rw[e2];exact g5 j hj
         ·have hno: ¬(i'*te.cs.length+0≤r*te.cs.length+j∧r*te.cs.length+j<i'*te.cs.length+0+v.cells.toList.length):=by
            rw[Array.length_toList,hvsz]
            rintro ⟨ha,hb⟩
            rcases Nat.lt_or_gt_of_ne hri with h | h
            ·have:(r+1)*te.cs.length≤i'*te.cs.length:=Nat.mul_le_mul_right _ h
             rw[Nat.add_mul]at this;omega
            ·have:(i'+1)*te.cs.length≤r*te.cs.length:=Nat.mul_le_mul_right _ h
             rw[Nat.add_mul]at this;omega
          rw[if_neg hno]at hk
          obtain⟨u,h3,h4⟩:=hh.2 r j hrl hj
          refine⟨u,?_,?_⟩
          ·rw[getD_eq (by omega),hk, ←getD_eq hlt];exact h3
          ·have e1:(es.set i' (BZ fet te.cs x.cells).2.1).getD r []=es.getD r []:=by
             simp only[List.getD_eq_getElem?_getD,List.getElem?_set]
             rw[if_neg (fun h=>hri h.symm)]
           rw[e1];exact h4
      obtain⟨f1,vs',f2,f3,f4⟩:=ih ps _ (zs.set i' (ty.mk (BZ fet te.cs x.cells).2.1).2) (by simpa using hl) (fun j x p hx hp=>hr (j+1) x p (by simpa using hx) (by simpa using hp)) (by rw[k1,hsz,List.length_set,hzl]) (by rw[hset];exact hh') hok2
        (fun p hp'=>hU p (List.mem_append_right _ hp'))
      refine⟨by rw[f1,List.length_set],vs',?_,by rw[f3,k1],f4⟩
      simp only[Instr.fill]
      have: ¬(v.cells.size≠te.cs.length||decide (i'*te.cs.length+v.cells.size>vs.size))=true:=by
        rw[hvsz];simp;omega
      rw[if_neg (by simpa using this)]
      exact f2
end
end Go.Proofs.YtadefjgbcapakaaGreatDoor.Vm
namespace Go.Proofs.YtadefjgbcapakaaGreatDoor.Vm
open Classical
section
variable {P:Program} {C:Ctx} {V0:Nat→Value} {O0 O:Own} {w0 w:World} {m:Nat→Value} {st:St} {a:Act} {o:Oper}
theorem Af7 {fet:Fet} {ks:List CK} {x:A} (hok:AA (BZ fet ks x.cells).1):x.isVal=true:=by
  have no: ∀ {y:A},(∀ k,(pur fet k y).1=[false])→ ¬ AA (BZ fet ks [y]).1:=by
    intro y h hh
    cases ks with
    | nil=>have:=hh false (by simp [BZ]);cases this
    | cons k ks =>
      have:=hh false (by simp [BZ,h k]);cases this
  cases x with
  | undef=>exact(no (fun k=>rfl) hok).elim
  | tup _=>exact(no (fun k=>rfl) hok).elim
  | usl _ _=>exact(no (fun k=>rfl) hok).elim
  | ump _=>exact(no (fun k=>rfl) hok).elim
  | box _=>exact(no (fun k=>rfl) hok).elim
  | cnd _ _=>exact(no (fun k=>rfl) hok).elim
  | _=>rfl
theorem Ag0 {fet:Fet} {te:TI} {ty:Ty} (hf:Ir st.Aa fet): ∀(xs:List (Nat×A)) (zs:List ty.Val),(∀ x∈xs,∃ v,AB O st.Aa m w v x.2)→AA (Em fet te ty xs zs).1→Frz st.Aa (Em fet te ty xs zs).2.2∧ ∀ x∈xs,x.2.isVal=true:=by
  intro xs
  induction xs with
  | nil=>intro zs _ _;exact⟨(fun p hp=>by simp [Em]at hp),fun x hx=>by cases hx⟩
  | cons x xs ih =>
    intro zs h hok
    obtain⟨i,x⟩:=x
    simp only[Em]at hok ⊢
    obtain⟨hok1,hok2⟩:=hok.append
    obtain⟨hok0,_⟩:=hok1.append
    have hv:=Af7 hok0
    obtain⟨v,hx⟩:=h (i,x) List.mem_cons_self
    have hcs:=AB.cells (show AB O st.Aa m w v x from hx) hv
    obtain⟨_,_,g3,_⟩:=VP hf te.cs x.cells (fun j=>v.cells.getD j undef) (fun j hj=>hcs.2 j hj) hok0
    obtain⟨f1,f2⟩:=ih _ (fun y hy=>h y (List.mem_cons_of_mem _ hy)) hok2
    exact⟨g3.append f1,fun y hy=>by rcases List.mem_cons.1 hy with rfl | hy;exact hv;exact f2 y hy⟩
theorem SL: ∀(vs:List Value) (ks:List CK),BD vs ks=true→ks.all CK.plain=true→ ∀ j,j<ks.length→Am O w (vs.getD j undef) ((ks.map CK.F6).getD j .undef):=by
  intro vs ks h hp j hj
  obtain⟨h1,h2⟩:=Jk (O:=O) (Aa:=[]) (m:=fun _=>undef) (w:=w) vs ks h
  have h3:=h2 j hj
  have hk:(ks.getD j .oth).plain=true:=by
    refine(List.all_eq_true.1 hp) _ ?_
    rw[List.getD_eq_getElem?_getD,List.getElem?_eq_getElem hj];simp
  have e1:(ks.map CK.zero).getD j .undef=(ks.getD j .oth).zero:=by simp [List.getD_eq_getElem?_getD,hj]
  have e2:(ks.map CK.F6).getD j .undef=(ks.getD j .oth).F6:=by simp [List.getD_eq_getElem?_getD,hj]
  rw[e1]at h3
  rw[e2]
  generalize ks.getD j .oth=k at *
  generalize vs.getD j undef=v at *
  cases k with
  | oth=>cases hk
  | mp _ _=>cases hk
  | fn=>exact h3
  | sl e sz=>have:=AV.CJ h3;subst this;exact .nil _
  | sln e sz=>have:=AV.CJ h3;subst this;exact .nil _
  | bool=>exact h3
  | int _=>exact h3
  | str=>exact h3
  | ptr=>exact h3
def zeros (z:Value) (n:Nat):Array Value:=(Array.range n).map (z.cells[· % z.cells.size]!)
theorem Held.less {cur:Array Value} {sz:Nat} {x:List A} {n k:Nat} (h:Held O w cur sz (List.replicate k x)) (hk:n≤k):Held O w cur sz (List.replicate n x):=by
  refine⟨fun y hy=> ?_,fun i j hi hj=> ?_⟩
  ·rw[List.eq_of_mem_replicate hy]
   cases k with
   | zero=>exact absurd (List.mem_replicate.1 hy).1 (by omega)
   | succ k=>exact h.1 x (List.mem_replicate.2 ⟨by omega,rfl⟩)
  ·rw[List.length_replicate]at hi
   obtain⟨u,h1,h2⟩:=h.2 i j (by rw[List.length_replicate];omega) hj
   refine⟨u,h1,?_⟩
   have e1:(List.replicate n x).getD i []=x:=by simp [List.getD_eq_getElem?_getD,hi]
   have e2:(List.replicate k x).getD i []=x:=by simp [List.getD_eq_getElem?_getD,show i<k by omega]
   rw[e1];rw[e2]at h2;exact h2
theorem yI {t:Nat} {te:TI} {z:Value} (hT:MI P t te) (hz:(P.info? t).bind (·.zero)=some z) (hp:te.cs.all CK.plain=true) (h0:0<te.cs.length) (n:Nat) :
    (zeros z (n*te.cs.length)).size=n*te.cs.length∧Held O w (zeros z (n*te.cs.length)) te.cs.length (List.replicate n (te.cs.map CK.F6)):=by
  obtain⟨i,z',h1,h2,h3,h4,h5,h6⟩:=hT.i
  rw[h1]at hz
  simp only[Option.bind_some,h4]at hz
  injection hz with hz
  subst hz
  have hsz:z'.cells.size=te.cs.length:=by
    rw[← Array.length_toList];exact(Jk (O:=O) (Aa:=[]) (m:=fun _=>undef) (w:=w) _ _ h5).1
  have hv:=SL (O:=O) (w:=w) _ _ h5 hp
  refine⟨by simp [zeros],fun x hx=>by rw[List.eq_of_mem_replicate hx];simp,fun r j hr hj=> ?_⟩
  rw[List.length_replicate]at hr
  have hlt:r*te.cs.length+j<n*te.cs.length:=by
    have:(r+1)*te.cs.length≤n*te.cs.length:=Nat.mul_le_mul_right _ hr
    rw[Nat.add_mul]at this;omega
  have hmod:(r*te.cs.length+j) % te.cs.length=j:=by
    rw[Nat.mul_comm,Nat.mul_add_mod];exact Nat.mod_eq_of_lt hj
  refine⟨z'.cells.toList.getD j undef,?_,?_⟩
  ·simp only[zeros,Array.getElem?_map,Array.getElem?_range]
   rw[if_pos hlt]
   simp only[Option.map_some,hsz,hmod]
   congr 1
   rw[getElem!_pos z'.cells j (by omega)]
   simp [List.getD_eq_getElem?_getD,show j<z'.cells.size from by omega]
  ·have e1:(List.replicate n (te.cs.map CK.F6)).getD r []=te.cs.map CK.F6:=by
     simp [List.getD_eq_getElem?_getD,hr]
   rw[e1];exact hv j hj
theorem xG {t n:Nat} {ps:Array (Nat×Operand)} (hC:TOk P C) (hS:Sim V0 O0 w0 O m st a w) {d:Tmp} (hd:o.dst=some d) (ho:o.op= .buildSlice t n ps) {fet:Fet} (hf:Ir st.Aa fet) {xs:List (Nat×A)}
    (hl:xs.length=ps.size) (hx: ∀(j:Nat) (x:Nat×A) (p:Nat×Operand),xs[j]? =some x→ps[j]? =some p→p.1=x.1∧AB O st.Aa m w (a.eval p.2) x.2)
    (hok:AA (Iu C fet d t n xs).ok) (hfr: ∀ p∈(Iu C fet d t n xs).new,st.fresh p.1=true):Good P V0 O0 w0 (apply st o (Iu C fet d t n xs)) o a w:=by
  intro next Q hn
  unfold Iu at *
  obtain⟨ti,e,te,ht,hte,hd',he⟩:=VD hok
  rw[he]at hn hfr hok;clear he
  obtain⟨hok1,hok2⟩:=hok.append
  obtain⟨hb1,hb2⟩:=hok2.cons
  obtain⟨hb2,hb3⟩:=hb2.cons
  have hb1:=Nat.le_of_ble_eq_true hb1
  have hb2:0<te.cs.length:=by simpa [Nat.blt_eq]using hb2
  have hb3:=hb3.cons.1
  have hT:=hC.is hd'
  obtain⟨i,z,h1,h2,h3,h4,h5,h6⟩:=hT.i
  have hu:=(hC.is ht).d
  rw[hte]at hu
  obtain⟨hU,hval⟩:=Ag0 (te:=te) (ty:=tyl te.cs) hf xs (List.replicate n (tyl te.cs).zero) (fun x hx'=>by
    obtain⟨j,hj,hje⟩:=List.mem_iff_getElem.1 hx'
    have:=hx j x (ps[j]'(by omega)) (by rw[← hje];exact List.getElem?_eq_getElem hj) (by simp [show j<ps.size from by omega])
    exact⟨_,this.2⟩) hok1
  obtain⟨O1,hS1,hp1,hle1,hv1,hE1,_⟩:=hS.freezes _ hU
  obtain⟨hz1,hz2⟩:=yI (O:=O1) (w:=w) hT (by rw[h1];exact h4) hb3 hb2 n
  obtain⟨f1,vs',f2,f3,f4⟩:=Akl (te:=te) (ty:=tyl te.cs) hf hp1 rfl xs (ps.map (fun(i,x)=>(i,a.eval x))).toList (zeros z (n*te.cs.length)) (List.replicate n (tyl te.cs).zero) (by simp [hl]) (fun j x p hxj hpj=>by
    simp only[Array.toList_map,List.getElem?_map]at hpj
    cases hq:ps.toList[j]? with
    | none=>rw[hq]at hpj;cases hpj
    | some q =>
      rw[hq]at hpj
      injection hpj with hpj
      subst hpj
      have:=hx j x q hxj (by simpa using hq)
      exact⟨this.1,this.2,hval x (List.mem_of_getElem? hxj)⟩) (by rw[hz1,List.length_replicate]) (by rw[← Sl.Ur _ _ hb3]at hz2;exact hz2) hok1 hv1
  have hlen:(Em fet te (tyl te.cs) xs (List.replicate n (tyl te.cs).zero)).2.1.length=n:=by rw[f1,List.length_replicate]
  have hnn:n*te.cs.length≤16777216:=hb1
  have hnle:n≤16777216:=Nat.le_trans (Nat.le_mul_of_pos_right n hb2) hnn
  have hr:(execOp a.eval o).run P w= .ok (.value (.slice (some (at' w.heap.size 0)) n n)) (w.alloc (.cells vs' e)):=by
    have hbig: ¬(16777216<n*te.cs.length):=by omega
    simp only[execOp,ho,Sem.run_bind,Instr.buildSlice,run_underlying hu,Result.andThen_ok,hT.JZ]
    rw[if_neg (by simpa using hbig)]
    by_cases h0:n*te.cs.length=0
    ·have hz0:(Array.range (n*te.cs.length)).map ((#[]:Array Value)[· % (#[]:Array Value).size]!)=zeros z (n*te.cs.length):=by simp [zeros,h0]
     simp only[if_pos h0,Sem.run_bind,Sem.run_pure,Result.andThen_ok,hz0,f2]
     rfl
    ·simp only[if_neg h0,Sem.run_bind,Sem.run_pure,Result.andThen_ok,zeroValue,typeInfo,run_program,h1,h4]
     have hz0:(Array.range (n*te.cs.length)).map (z.cells[· % z.cells.size]!)=zeros z (n*te.cs.length):=rfl
     rw[hz0,f2]
     rfl
  unfold Oper.wp
  rw[hr,Oper.upon_value,hd]
  have hfr':=(show Gp st (b2 d)from DU (hfr _ List.mem_cons_self)).frz hU
  obtain⟨O',m',h⟩:=Pm hS1 (Moves.refl _ _ w) rfl (d:=d) (e:=e) (cap:=n) (frz:=false) (l:=⟨tyl te.cs,(Em fet te (tyl te.cs) xs (List.replicate n (tyl te.cs).zero)).2.1⟩) (del:=[]) (by rw[Sl.BQ,hlen];exact Nat.le_refl _) (by unfold maxLen;omega) (by rw[f3,hz1];show _=_*(tyl te.cs).len;rw[Me]) (by show Held _ _ _ (tyl te.cs).len _;rw[Me];exact f4) hfr'
  rw[Sl.BQ,hlen]at h
  refine hn O' m' _ _ ?_
  rw[Qh hd]
  exact h
end
