import Derived.Test.YtbaomhegdndpnaaGreatDoorA5
import Derived.Laws.Append
import Derived.Laws.AppendOwn
import Derived.Laws.OwnMore
import Derived.Laws.MakeOwn
set_option linter.all false
namespace Go.Proofs.YtbaomhegdndpnaaGreatDoor.Vm
open Classical
section
variable {P:Program} {C:Ctx} {V0:Nat->Value} {O0 O:Own} {w0 w:World} {m:Nat->Value} {st:St} {a:Act} {o:Oper}
def Held (O:Own) (w:World) (cur:Array Value) (sz:Nat) (es:List (List A)):Prop :=
  (∀ x∈es,x.length=sz)/\ ∀ i j,i<es.length->j<sz-> ∃ u,cur[i*sz+j]? =some u/\Ak O w u ((es.getD i []).getD j .undef)
theorem ZW (hS:Sim V0 O0 w0 O m st a w) {w2:World} (hM:Moves O (fun _=>False) w w2) {d:Tmp} {e cap:Nat} {frz:Bool} {l:Sl} {cur:Array Value} {del:List Nat} (hnew:CX w2 w.heap.size cur e)
    (hcap:l.es.length<=cap) (hmax:cap<=maxLen) (hcur:cur.size=cap*l.sz) (hh:Held O w cur l.sz l.es) (hfresh:Ei st (b2 d)) :
    ∃ O' m',Sim V0 O0 w0 O' m' {tmps:=st.tmps.set d (.own (b2 d)),Aa:=Ar (AZ st.Aa del) [(b2 d,.arr e frz l)]} (a.put (some d) (.slice (some (at' w.heap.size 0)) l.es.length cap)) w2:=by
  let id:=b2 d
  let O':Own:=fun b k=>if b=w.heap.size then(if frz=true/\k<l.es.length*l.sz then none else some id)else O b k
  let m':Nat->Value:=fun i=>if i=id then .slice (some (at' w.heap.size 0)) l.es.length cap else m i
  have hlt: ∀ {b k},b<w.heap.size->O' b k=O b k:=fun hb=>if_neg (Nat.ne_of_lt hb)
  have hP:Passes O O' (fun _=>False) w.heap.size:=⟨fun b k hb h=>by rw[hlt hb];exact h,fun b k q hb h _=>by rw[hlt hb];exact h⟩
  have hpr:=hM.AQ hP
  have hget: ∀ i y,Ai (Ar (AZ st.Aa del) [(id,.arr e frz l)]) i=some y->(i=id/\y= .arr e frz l)\/(i≠id/\Ai st.Aa i=some y):=by
    intro i y hy
    simp only[Ar]at hy
    rw[Bc]at hy
    by_cases hi:i=id
    ·rw[if_pos hi]at hy;injection hy with hy;exact .inl ⟨hi,hy.symm⟩
    ·rw[if_neg hi,Gs]at hy
     split at hy
     ·cases hy
     ·exact .inr ⟨hi,hy⟩
  have hE:EX st.Aa m (Ar (AZ st.Aa del) [(id,.arr e frz l)]) m' (fun i=>i=id):=by
    intro i y hy
    rcases hget i y hy with ⟨h1,_⟩ | ⟨h1,h2⟩
    ·exact .inl h1
    ·exact .inr ⟨y,h2,rfl,if_neg h1⟩
  refine⟨O',m',hS.next (st':= {tmps:=st.tmps.set d (.own (b2 d)),Aa:=Ar (AZ st.Aa del) [(id,.arr e frz l)]}) (x:=.own id) (T:=fun _=>False) (Nw:=fun i=>i=id) hM hP (fun b k hb h=>by rw[hlt hb]at h;exact h) hE (fun n hn=>by rw[hn];exact hfresh.both) (fun _ h=>h.elim) (fun i y hy=> ?_) rfl (fun _=> ?_)⟩
  ·rcases hget i y hy with ⟨h1,h2⟩ | ⟨h1,h2⟩
   ·right
    subst h1;subst h2
    refine⟨⟨hh.1,.inr ⟨trivial,w.heap.size,cap,cur,if_pos rfl,hnew,hcap,hmax,hcur,fun i j hi hj=> ?_,fun k hk hge=> ?_,fun k hk=> ?_⟩⟩,hfresh.ne⟩
    ·obtain⟨u,h3,h4⟩:=hh.2 i j hi hj
     exact⟨u,h3,h4.AQ hpr⟩
    ·show(if _ then(if _ then _ else _)else _)=_
     rw[if_pos rfl,if_neg (by omega)]
    ·show(if _ then(if _ then _ else _)else _)=_
     rw[if_pos rfl]
     cases frz
     ·simp
     ·simp [hk]
   ·exact .inl ⟨fun h=>h,h2,if_neg h1⟩
  ·refine⟨rfl,?_⟩
   have:Ai (Ar (AZ st.Aa del) [(id,.arr e frz l)]) id=some (.arr e frz l):=by simp only[Ar];rw[Bc,if_pos rfl]
   show match (Ai (Ar (AZ st.Aa del) [(id,.arr e frz l)]) id).map Obj.shp with | some (.arr _ _)=>_ | some .mp=>_ | _=>True
   rw[this]
   exact(if_pos rfl:m' id=_).symm
theorem Kt (hS:Sim V0 O0 w0 O m st a w) {w1:World} (hM1:Moves O (fun _=>False) w w1) (hsz1:w1.heap.size=w.heap.size) {d:Tmp} {e cap:Nat} {frz:Bool} {l:Sl} {cur:Array Value} {del:List Nat}
    (hcap:l.es.length<=cap) (hmax:cap<=maxLen) (hcur:cur.size=cap*l.sz) (hh:Held O w cur l.sz l.es) (hfresh:Ei st (b2 d)) :
    ∃ O' m',Sim V0 O0 w0 O' m' {tmps:=st.tmps.set d (.own (b2 d)),Aa:=Ar (AZ st.Aa del) [(b2 d,.arr e frz l)]} (a.put (some d) (.slice (some (at' w.heap.size 0)) l.es.length cap)) (w1.alloc (.cells cur e)):=by
  exact ZW hS (hM1.then (by rw[<- hsz1]at *;exact Moves.push _)) ⟨_,by rw[<- hsz1];exact Vg _ _,.inl rfl⟩ hcap hmax hcur hh hfresh
theorem Vw (hS:Sim V0 O0 w0 O m st a w) {d:Tmp} {e:Nat} {frz:Bool} {t:Ty} {del:List Nat} {id:Nat} (hfresh:Ei st id) :
    ∃ O' m',Sim V0 O0 w0 O' m' {tmps:=st.tmps.set d (.own id),Aa:=Ar (AZ st.Aa del) [(id,.arr e frz ⟨t,[]⟩)]} (a.put (some d) (.slice none 0 0)) w:=by
  let m':Nat->Value:=fun i=>if i=id then .slice none 0 0 else m i
  have hget: ∀ i y,Ai (Ar (AZ st.Aa del) [(id,.arr e frz ⟨t,[]⟩)]) i=some y->(i=id/\y= .arr e frz ⟨t,[]⟩)\/(i≠id/\Ai st.Aa i=some y):=by
    intro i y hy
    simp only[Ar]at hy
    rw[Bc]at hy
    by_cases hi:i=id
    ·rw[if_pos hi]at hy;injection hy with hy;exact .inl ⟨hi,hy.symm⟩
    ·rw[if_neg hi,Gs]at hy
     split at hy
     ·cases hy
     ·exact .inr ⟨hi,hy⟩
  have hE:EX st.Aa m (Ar (AZ st.Aa del) [(id,.arr e frz ⟨t,[]⟩)]) m' (fun i=>i=id):=by
    intro i y hy
    rcases hget i y hy with ⟨h1,_⟩ | ⟨h1,h2⟩
    ·exact .inl h1
    ·exact .inr ⟨y,h2,rfl,if_neg h1⟩
  refine⟨O,m',hS.next (st':= {tmps:=st.tmps.set d (.own id),Aa:=Ar (AZ st.Aa del) [(id,.arr e frz ⟨t,[]⟩)]}) (x:=.own id) (T:=fun _=>False) (Nw:=fun i=>i=id) (Moves.refl _ _ _) ⟨fun _ _ _ h=>h,fun _ _ _ _ h _=>h⟩ (fun b k hb h=>h) hE (fun n hn=>by rw[hn];exact hfresh.both) (fun _ h=>h.elim) (fun i y hy=> ?_) rfl (fun _=> ?_)⟩
  ·rcases hget i y hy with ⟨h1,h2⟩ | ⟨h1,h2⟩
   ·right
    subst h1;subst h2
    exact⟨⟨by simp [Sl.es],.inl ⟨trivial,rfl,if_pos rfl⟩⟩,hfresh.ne⟩
   ·exact .inl ⟨fun h=>h,h2,if_neg h1⟩
  ·refine⟨rfl,?_⟩
   have:Ai (Ar (AZ st.Aa del) [(id,.arr e frz ⟨t,[]⟩)]) id=some (.arr e frz ⟨t,[]⟩):=by simp only[Ar];rw[Bc,if_pos rfl]
   show match (Ai (Ar (AZ st.Aa del) [(id,.arr e frz ⟨t,[]⟩)]) id).map Obj.shp with | some (.arr _ _)=>_ | some .mp=>_ | _=>True
   rw[this]
   exact(if_pos rfl:m' id=_).symm
theorem zQ (hS:Sim V0 O0 w0 O m st a w) {d:Tmp} {q e cap g:Nat} {frz:Bool} {l l':Sl} {ns:List (List A)} {cur:Array Value} {news:List Value}
    (hq:Ai st.Aa q=some (.arr e frz l)) (hm:m q= .slice (some (at' g 0)) l.es.length cap) (hg:CX w g cur e) (hcap:l.es.length+ns.length<=cap) (hle:l'.es=l.es++ns) (hls:l'.sz=l.sz)
    (hl:news.length=ns.length*l.sz) (hns: ∀ x∈ns,x.length=l.sz) (hnv: ∀ i j,i<ns.length->j<l.sz->Ak O w (news.getD (i*l.sz+j) undef) ((ns.getD i []).getD j .undef)) (hfresh:Ei st (b2 d)) :
    ∃ O' m',Sim V0 O0 w0 O' m' {tmps:=st.tmps.set d (.own (b2 d)),Aa:=Ar (AZ st.Aa [q]) [(b2 d,.arr e frz l')]} (a.put (some d) (.slice (some (at' g 0)) (l.es.length+ns.length) cap)) (w.setCells g (l.es.length*l.sz) news):=by
  let id:=b2 d
  have hidq:id≠q:=fun h=>by
    have:=hfresh.2
    rw[show b2 d=id from rfl,h,hq]at this;cases this
  obtain⟨hsz,hr⟩:=hS.Aa q _ hq
  obtain⟨g',cap',cur',h2,h3,h4,h5,h6,h7,h8,h9⟩: ∃ g' cap' cur',m q= .slice (some (at' g' 0)) l.es.length cap'/\CX w g' cur' e/\l.es.length<=cap'/\cap'<=maxLen/\cur'.size=cap'*l.sz /\
      (∀ i j,i<l.es.length->j<l.sz-> ∃ u,cur'[i*l.sz+j]? =some u/\Ak O w u ((l.es.getD i []).getD j .undef))/\(∀ k,k<cur'.size->l.es.length*l.sz<=k->O g' k=some q)/\(∀ k,k<l.es.length*l.sz->O g' k=if frz then none else some q):=by
    rcases hr with ⟨_,_,h⟩ | ⟨_,h⟩
    ·rw[hm]at h;cases h
    ·exact h
  rw[hm]at h2
  injection h2 with h2 _ hcc;injection h2 with h2;injection h2 with h2
  subst h2;subst hcc
  obtain⟨h3,_⟩:=hg.inj h3
  subst h3
  obtain⟨fr,hg,hfr0⟩:=hg
  have hmul:(l.es.length+ns.length)*l.sz<=cap*l.sz:=Nat.mul_le_mul_right _ hcap
  rw[Nat.add_mul]at hmul
  obtain⟨c',g1,g2,g3,g4,g5,g6,g7,g8⟩:=NZ g news (l.es.length*l.sz) w hg (by rw[hl,h6];exact hmul)
  let w':=w.setCells g (l.es.length*l.sz) news
  let O':Own:=fun b k=>if b=g/\k<cur.size then(if frz=true/\k<(l.es.length+ns.length)*l.sz then none else some id)else O b k
  let m':Nat->Value:=fun i=>if i=id then .slice (some (at' g 0)) (l.es.length+ns.length) cap else m i
  have hsame: ∀ k,(k<l.es.length*l.sz\/(l.es.length+ns.length)*l.sz<=k)->c'[k]? =cur[k]? :=by
    intro k hk
    rw[Nat.add_mul]at hk
    by_cases hks:k<cur.size
    ·have:=g3 k
     rw[if_neg (by rw[hl];omega)]at this
     rw[getD_eq (by omega),getD_eq hks,this]
    ·rw[Array.getElem?_eq_none (by omega),Array.getElem?_eq_none (by omega)]
  have hM:Moves O (fun i=>i=q) w w':=by
    refine Moves.row g6 g7 g8 g5 hg g1 g4 g2 (fun k hk=>hsame k ?_) ?_
    ·rcases Nat.lt_or_ge k (l.es.length*l.sz)with h | h
     ·exact .inl h
     ·right
      rcases Nat.lt_or_ge k cur.size with hks | hks
      ·exact absurd rfl (hk q (h8 k hks h))
      ·rw[Nat.add_mul];omega
    ·by_cases hn:ns.length*l.sz=0
     ·right
      have:news=[]:=List.eq_nil_of_length_eq_zero (by omega)
      apply Array.ext_getElem?
      intro k
      refine hsame k ?_
      rw[Nat.add_mul,hn];omega
     ·left
      refine⟨l.es.length*l.sz,q,by omega,h8 _ (by omega) (Nat.le_refl _),rfl⟩
  have hg':g<w.heap.size:=(Array.getElem?_eq_some_iff.1 hg).1
  have own_g: ∀ k,k<cur.size->O g k=none\/O g k=some q:=by
    intro k hk
    rcases Nat.lt_or_ge k (l.es.length*l.sz)with h | h
    ·rw[h9 k h];cases frz<;>simp
    ·exact .inr (h8 k hk h)
  have hP:Passes O O' (fun i=>i=q) w.heap.size:=by
    refine⟨fun b k _ h=> ?_,fun b k r _ h hne=> ?_⟩
    ·show(if _ then(if _ then _ else _)else _)=_
     by_cases hc:b=g/\k<cur.size
     ·rw[if_pos hc]
      obtain⟨rfl,hk⟩:=hc
      rcases Nat.lt_or_ge k (l.es.length*l.sz)with h' | h'
      ·have:=h9 k h'
       rw[h]at this
       cases frz
       ·simp at this
       ·rw[if_pos ⟨rfl,by rw[Nat.add_mul];omega⟩]
      ·rw[h8 k hk h']at h;cases h
     ·rw[if_neg hc];exact h
    ·show(if _ then(if _ then _ else _)else _)=_
     by_cases hc:b=g/\k<cur.size
     ·obtain⟨rfl,hk⟩:=hc
      rcases own_g k hk with h' | h'
      ·rw[h]at h';cases h'
      ·rw[h]at h';injection h' with h';exact absurd h' hne
     ·rw[if_neg hc];exact h
  have hpr:=hM.AQ hP
  have hget: ∀ i y,Ai (Ar (AZ st.Aa [q]) [(id,.arr e frz l')]) i=some y->(i=id/\y= .arr e frz l')\/(i≠id/\i≠q/\Ai st.Aa i=some y):=by
    intro i y hy
    simp only[Ar]at hy
    rw[Bc]at hy
    by_cases hi:i=id
    ·rw[if_pos hi]at hy;injection hy with hy;exact .inl ⟨hi,hy.symm⟩
    ·rw[if_neg hi,Gs]at hy
     split at hy
     ·cases hy
     ·rename_i hnd;exact .inr ⟨hi,by simpa using hnd,hy⟩
  have hE:EX st.Aa m (Ar (AZ st.Aa [q]) [(id,.arr e frz l')]) m' (fun i=>i=id):=by
    intro i y hy
    rcases hget i y hy with ⟨h1,_⟩ | ⟨h1,_,h2⟩
    ·exact .inl h1
    ·exact .inr ⟨y,h2,rfl,if_neg h1⟩
  refine⟨O',m',hS.next (st':= {tmps:=st.tmps.set d (.own (b2 d)),Aa:=Ar (AZ st.Aa [q]) [(id,.arr e frz l')]}) (x:=.own id) (T:=fun i=>i=q) (Nw:=fun i=>i=id) hM hP (fun b k hb h=> ?_) hE (fun n hn=>by rw[hn];exact hfresh.both) (fun o ho=>by rw[ho,hq];rfl) (fun i y hy=> ?_) rfl (fun _=> ?_)⟩
  ·have h':(if b=g/\k<cur.size then(if frz=true/\k<(l.es.length+ns.length)*l.sz then none else some id)else O b k)≠none:=h
   by_cases hc:b=g/\k<cur.size
   ·rw[if_pos hc]at h'
    obtain⟨rfl,hk⟩:=hc
    rcases Nat.lt_or_ge k (l.es.length*l.sz)with hlt | hge
    ·rw[h9 k hlt]
     cases frz
     ·simp
     ·exfalso;refine h' ?_;rw[if_pos ⟨rfl,by rw[Nat.add_mul];omega⟩]
    ·rw[h8 k hk hge];simp
   ·rw[if_neg hc]at h';exact h'
  ·rcases hget i y hy with ⟨h1,h2⟩ | ⟨h1,hiq,h2⟩
   ·right
    subst h1;subst h2
    refine⟨?_,hfresh.ne⟩
    simp only[BC]
    rw[hle,hls]
    refine⟨fun x hx=>(List.mem_append.1 hx).elim (hsz x) (hns x),.inr ⟨trivial,g,cap,c',by rw[List.length_append];exact if_pos rfl,⟨fr,g1,by rw[g2];exact hfr0⟩,by rw[List.length_append];exact hcap,h5,by rw[g2];exact h6,fun i j hi hj=> ?_,fun k hk hge=> ?_,fun k hk=> ?_⟩⟩
    ·rw[List.length_append]at hi
     by_cases hil:i<l.es.length
     ·obtain⟨u,h10,h11⟩:=h7 i j hil hj
      have hlt:i*l.sz+j<l.es.length*l.sz:=by
        have:(i+1)*l.sz<=l.es.length*l.sz:=Nat.mul_le_mul_right _ hil
        rw[Nat.add_mul]at this;omega
      refine⟨u,by rw[hsame _ (.inl hlt)];exact h10,?_⟩
      have e1:(l.es++ns).getD i []=l.es.getD i []:=by
        simp only[List.getD_eq_getElem?_getD];rw[List.getElem?_append_left hil]
      rw[e1];exact h11.AQ hpr
     ·obtain⟨i',rfl⟩: ∃ i',i=l.es.length+i':=⟨i - l.es.length,by omega⟩
      have hi':i'<ns.length:=by omega
      have hlt:i'*l.sz+j<ns.length*l.sz:=by
        have:(i'+1)*l.sz<=ns.length*l.sz:=Nat.mul_le_mul_right _ hi'
        rw[Nat.add_mul]at this;omega
      have hidx:(l.es.length+i')*l.sz+j=l.es.length*l.sz+(i'*l.sz+j):=by rw[Nat.add_mul];omega
      have hsz':l.es.length*l.sz+(i'*l.sz+j)<c'.size:=by rw[g2,h6];omega
      refine⟨news.getD (i'*l.sz+j) undef,?_,?_⟩
      ·rw[hidx,getD_eq hsz',g3,if_pos ⟨by omega,by rw[hl];omega⟩]
       rw[show l.es.length*l.sz+(i'*l.sz+j) - l.es.length*l.sz=i'*l.sz+j from by omega]
      ·have e1:(l.es++ns).getD (l.es.length+i') []=ns.getD i' []:=by
         simp only[List.getD_eq_getElem?_getD];rw[List.getElem?_append_right (by omega),Nat.add_sub_cancel_left]
       rw[e1];exact(hnv i' j hi' hj).AQ hpr
    ·rw[g2]at hk
     rw[List.length_append]at hge
     show(if _ then(if _ then _ else _)else _)=_
     rw[if_pos ⟨rfl,hk⟩,if_neg (by omega)]
    ·rw[List.length_append]at hk
     show(if _ then(if _ then _ else _)else _)=_
     rw[if_pos ⟨rfl,by rw[Nat.add_mul]at hk;omega⟩]
     cases frz
     ·simp
     ·simp [hk]
   ·exact .inl ⟨hiq,h2,if_neg h1⟩
  ·refine⟨rfl,?_⟩
   have:Ai (Ar (AZ st.Aa [q]) [(id,.arr e frz l')]) id=some (.arr e frz l'):=by simp only[Ar];rw[Bc,if_pos rfl]
   show match (Ai (Ar (AZ st.Aa [q]) [(id,.arr e frz l')]) id).map Obj.shp with | some (.arr _ _)=>_ | some .mp=>_ | _=>True
   rw[this]
   exact(if_pos rfl:m' id=_).symm
theorem AaW (hS:Sim V0 O0 w0 O m st a w) {d:Tmp} {q e cap g n:Nat} {l l':Sl} {cur:Array Value}
    (hq:Ai st.Aa q=some (.arr e false l)) (hm:m q= .slice (some (at' g 0)) l.es.length cap) (hg:CX w g cur e) (hn:n<=l.es.length) (hle:l'.es=l.es.take n) (hls:l'.sz=l.sz) (hfresh:Ei st (b2 d)) :
    ∃ O' m',Sim V0 O0 w0 O' m' {tmps:=st.tmps.set d (.own (b2 d)),Aa:=Ar (AZ st.Aa [q]) [(b2 d,.arr e false l')]} (a.put (some d) (.slice (some (at' g 0)) n cap)) w:=by
  let id:=b2 d
  obtain⟨hsz,hr⟩:=hS.Aa q _ hq
  obtain⟨g',cap',cur',h2,h3,h4,h5,h6,h7,h8,h9⟩: ∃ g' cap' cur',m q= .slice (some (at' g' 0)) l.es.length cap'/\CX w g' cur' e/\l.es.length<=cap'/\cap'<=maxLen/\cur'.size=cap'*l.sz /\
      (∀ i j,i<l.es.length->j<l.sz-> ∃ u,cur'[i*l.sz+j]? =some u/\Ak O w u ((l.es.getD i []).getD j .undef))/\(∀ k,k<cur'.size->l.es.length*l.sz<=k->O g' k=some q)/\(∀ k,k<l.es.length*l.sz->O g' k=some q):=by
    rcases hr with ⟨_,_,h⟩ | ⟨_,h⟩
    ·rw[hm]at h;cases h
    ·simpa using h
  rw[hm]at h2
  injection h2 with h2 _ hcc;injection h2 with h2;injection h2 with h2
  subst h2;subst hcc
  obtain⟨h3,_⟩:=hg.inj h3
  subst h3
  have own_g: ∀ k,k<cur.size->O g k=some q:=by
    intro k hk
    rcases Nat.lt_or_ge k (l.es.length*l.sz)with h | h
    ·exact h9 k h
    ·exact h8 k hk h
  let O':Own:=fun b k=>if b=g/\k<cur.size then some id else O b k
  let m':Nat->Value:=fun i=>if i=id then .slice (some (at' g 0)) n cap else m i
  have hM:Moves O (fun i=>i=q) w w:=Moves.refl _ _ _
  have hP:Passes O O' (fun i=>i=q) w.heap.size:=by
    refine⟨fun b k _ h=> ?_,fun b k r _ h hne=> ?_⟩
    ·show(if _ then _ else _)=_
     by_cases hc:b=g/\k<cur.size
     ·obtain⟨rfl,hk⟩:=hc
      rw[own_g k hk]at h;cases h
     ·rw[if_neg hc];exact h
    ·show(if _ then _ else _)=_
     by_cases hc:b=g/\k<cur.size
     ·obtain⟨rfl,hk⟩:=hc
      rw[own_g k hk]at h;injection h with h;exact absurd h.symm hne
     ·rw[if_neg hc];exact h
  have hpr:=hM.AQ hP
  have hget: ∀ i y,Ai (Ar (AZ st.Aa [q]) [(id,.arr e false l')]) i=some y->(i=id/\y= .arr e false l')\/(i≠id/\i≠q/\Ai st.Aa i=some y):=by
    intro i y hy
    simp only[Ar]at hy
    rw[Bc]at hy
    by_cases hi:i=id
    ·rw[if_pos hi]at hy;injection hy with hy;exact .inl ⟨hi,hy.symm⟩
    ·rw[if_neg hi,Gs]at hy
     split at hy
     ·cases hy
     ·rename_i hnd;exact .inr ⟨hi,by simpa using hnd,hy⟩
  have hE:EX st.Aa m (Ar (AZ st.Aa [q]) [(id,.arr e false l')]) m' (fun i=>i=id):=by
    intro i y hy
    rcases hget i y hy with ⟨h1,_⟩ | ⟨h1,_,h2⟩
    ·exact .inl h1
    ·exact .inr ⟨y,h2,rfl,if_neg h1⟩
  have hlen:l'.es.length=n:=by rw[hle,List.length_take];omega
  have hmul:n*l.sz<=l.es.length*l.sz:=Nat.mul_le_mul_right _ hn
  have hmul2:l.es.length*l.sz<=cap*l.sz:=Nat.mul_le_mul_right _ h4
  refine⟨O',m',hS.next (st':= {tmps:=st.tmps.set d (.own (b2 d)),Aa:=Ar (AZ st.Aa [q]) [(id,.arr e false l')]}) (x:=.own id) (T:=fun i=>i=q) (Nw:=fun i=>i=id) hM hP (fun b k hb h=> ?_) hE (fun n hn=>by rw[hn];exact hfresh.both) (fun o ho=>by rw[ho,hq];rfl) (fun i y hy=> ?_) rfl (fun _=> ?_)⟩
  ·have h':(if b=g/\k<cur.size then some id else O b k)≠none:=h
   by_cases hc:b=g/\k<cur.size
   ·obtain⟨rfl,hk⟩:=hc
    rw[own_g k hk];simp
   ·rw[if_neg hc]at h';exact h'
  ·rcases hget i y hy with ⟨h1,h2⟩ | ⟨h1,hiq,h2⟩
   ·right
    subst h1;subst h2
    refine⟨?_,hfresh.ne⟩
    simp only[BC]
    rw[hls,hlen]
    refine⟨fun x hx=>hsz x (by rw[hle]at hx;exact List.mem_of_mem_take hx),.inr ⟨trivial,g,cap,cur,if_pos rfl,hg,by omega,h5,h6,fun i j hi hj=> ?_,fun k hk hge=>if_pos ⟨rfl,hk⟩,fun k hk=> ?_⟩⟩
    ·obtain⟨u,h10,h11⟩:=h7 i j (by omega) hj
     refine⟨u,h10,?_⟩
     have e1:l'.es.getD i []=l.es.getD i []:=by
       rw[hle]
       simp only[List.getD_eq_getElem?_getD,List.getElem?_take]
       rw[if_pos hi]
     rw[e1];exact h11.AQ hpr
    ·show(if _ then _ else _)=_
     rw[if_pos ⟨rfl,by omega⟩];rfl
   ·exact .inl ⟨hiq,h2,if_neg h1⟩
  ·refine⟨rfl,?_⟩
   have:Ai (Ar (AZ st.Aa [q]) [(id,.arr e false l')]) id=some (.arr e false l'):=by simp only[Ar];rw[Bc,if_pos rfl]
   show match (Ai (Ar (AZ st.Aa [q]) [(id,.arr e false l')]) id).map Obj.shp with | some (.arr _ _)=>_ | some .mp=>_ | _=>True
   rw[this]
   exact(if_pos rfl:m' id=_).symm
end
end Go.Proofs.YtbaomhegdndpnaaGreatDoor.Vm
namespace Go.Proofs.YtbaomhegdndpnaaGreatDoor.Vm
open Classical
section
variable {P:Program} {C:Ctx} {V0:Nat->Value} {O0 O:Own} {w0 w:World} {m:Nat->Value} {st:St} {a:Act} {o:Oper}
theorem Jc {δ :Dl} {d:Tmp} (hd:o.dst=some d):apply st o δ = {tmps:=st.tmps.set d δ.val,Aa:=Ar (AZ (Ar st.Aa δ.upd) δ.del) δ.new}:=by
  unfold apply;rw[hd];rfl
theorem Jy {t:Nat} {k:Nat->TI->Dl} (hok:Am (elemOf C t k).ok): ∃ ti e te,C.T t=some ti/\ti.d= .slice e/\C.T e=some te/\elemOf C t k=k e te:=by
  unfold elemOf at *
  obtain⟨ti,ht,he⟩:=Ba hok
  rw[he]at hok ⊢;clear he
  obtain⟨e,hel,he⟩:=AA hok
  rw[he]at hok ⊢;clear he
  obtain⟨te,hte,he⟩:=Ba hok
  exact⟨ti,e,te,ht,FY hel,hte,he⟩
theorem AcJ {O':Own} {w':World} {fet:Fet} {te:TI} {ty:Ty} (hf:DL st.Aa fet) (hp:CS O w O' w) (hw:w'=w): ∀(xs:List (Nat×A)) (ps:List (Nat×Value)) (vs:Array Value) (zs:List ty.Val),
    xs.length=ps.length->(∀(j:Nat) (x:Nat×A) (p:Nat×Value),xs[j]? =some x->ps[j]? =some p->p.1=x.1/\Au O st.Aa m w p.2 x.2/\x.2.isVal=true) ->
    vs.size=zs.length*te.cs.length->Held O' w' vs te.cs.length (zs.map ty.cells)->Am (Dw fet te ty xs zs).1 ->
    (∀ p∈(Dw fet te ty xs zs).2.2,∀ e l,p.2= .arr e true l->Ak O' w (m p.1) (.sl l)) ->
    (Dw fet te ty xs zs).2.1.length=zs.length/\ ∃ vs',Instr.fill (fun i=>some (i*te.cs.length,te.cs.length)) vs ps=some vs'/\vs'.size=vs.size/\Held O' w' vs' te.cs.length ((Dw fet te ty xs zs).2.1.map ty.cells):=by
  subst hw
  intro xs
  induction xs with
  | nil =>
    intro ps vs zs hl _ hsz hh _ _
    cases ps with
    | nil=>exact⟨rfl,vs,rfl,rfl,hh⟩
    | cons _ _=>simp at hl
  | cons x xs ih =>
    intro ps vs zs hl hr hsz hh hok hU
    cases ps with
    | nil=>simp at hl
    | cons p ps =>
      obtain⟨i,x⟩:=x
      obtain⟨i',v⟩:=p
      obtain⟨h1,h2,hval⟩:=hr 0 (i,x) (i',v) rfl rfl
      dsimp only at h1 h2 hval
      subst h1
      simp only[Dw]at hok hU ⊢
      obtain⟨hok1,hok2⟩:=hok.append
      obtain⟨hok0,hok1⟩:=hok1.append
      obtain⟨hmk,hok1⟩:=hok1.cons
      have hmk:=Ty.Gi _ _ hmk
      have hil':i'<zs.length:=by simpa [Nat.blt_eq]using hok1.cons.1
      have hset:(zs.set i' (ty.mk (Bg fet te.cs x.cells).2.1).2).map ty.cells=(zs.map ty.cells).set i' (Bg fet te.cs x.cells).2.1:=by rw[List.map_set,hmk]
      have hzl:zs.length=(zs.map ty.cells).length:=by simp
      rw[hzl]at hsz hil'
      generalize hes:zs.map ty.cells=es at *
      have hil:i'<es.length:=hil'
      have hcs:=h2.cells hval
      obtain⟨g1,g2,g3,g4⟩:=Ho hf te.cs x.cells (fun j=>v.cells.getD j undef) (fun j hj=>hcs.2 j hj) hok0
      have g5:=g4 hp (fun p hp'=>hU p (List.mem_append_left _ hp'))
      have hvsz:v.cells.size=te.cs.length:=by rw[hcs.1,g2]
      have hle:i'*te.cs.length+te.cs.length<=vs.size:=by
        rw[hsz]
        have:(i'+1)*te.cs.length<=es.length*te.cs.length:=Nat.mul_le_mul_right _ hil
        rw[Nat.add_mul]at this;omega
      have e0:v.cells.zipIdx.foldl (fun cs (c,j)=>cs.setIfInBounds (i'*te.cs.length+j) c) vs=(v.cells.toList.zipIdx 0).foldl (fun cs (p:Value×Nat)=>cs.setIfInBounds (i'*te.cs.length+p.2) p.1) vs:=by
        rw[<- Array.foldl_toList];simp
      have hl0:i'*te.cs.length+0+v.cells.toList.length<=vs.size:=by rw[Array.length_toList,hvsz];omega
      obtain⟨k1,_⟩:=HY v.cells.toList 0 (i'*te.cs.length) vs 0 hl0
      have k2:=fun j=>(HY v.cells.toList 0 (i'*te.cs.length) vs j hl0).2
      rw[<- e0]at k1
      have hh':Held O' w' (v.cells.zipIdx.foldl (fun cs (c,j)=>cs.setIfInBounds (i'*te.cs.length+j) c) vs) te.cs.length (es.set i' (Bg fet te.cs x.cells).2.1):=by
        refine⟨fun y hy=> ?_,fun r j hrl hj=> ?_⟩
        ·rcases List.mem_or_eq_of_mem_set hy with h | h
         ·exact hh.1 y h
         ·rw[h,g1]
        ·rw[List.length_set]at hrl
         have hlt:r*te.cs.length+j<vs.size:=by
           rw[hsz]
           have:(r+1)*te.cs.length<=es.length*te.cs.length:=Nat.mul_le_mul_right _ hrl
           rw[Nat.add_mul]at this;omega
         have hk:=k2 (r*te.cs.length+j)
         rw[<- e0]at hk
         by_cases hri:r=i'
         ·subst hri
          rw[if_pos (by rw[Array.length_toList,hvsz];omega)]at hk
          have e1:(es.set r (Bg fet te.cs x.cells).2.1).getD r []=(Bg fet te.cs x.cells).2.1:=by
            simp [List.getD_eq_getElem?_getD,hil]
          refine⟨_,getD_eq (by omega),?_⟩
          rw[hk,e1,show r*te.cs.length+j - (r*te.cs.length+0)=j from by omega]
          have e2:v.cells.toList.getD j undef=v.cells.getD j undef:=by
            rw[Array.getD_eq_getD_getElem?,List.getD_eq_getElem?_getD,Array.getElem?_toList]
          rw[e2];exact g5 j hj
         ·have hno: ¬(i'*te.cs.length+0<=r*te.cs.length+j/\r*te.cs.length+j<i'*te.cs.length+0+v.cells.toList.length):=by
            rw[Array.length_toList,hvsz]
            rintro ⟨ha,hb⟩
            rcases Nat.lt_or_gt_of_ne hri with h | h
            ·have:(r+1)*te.cs.length<=i'*te.cs.length:=Nat.mul_le_mul_right _ h
             rw[Nat.add_mul]at this;omega
            ·have:(i'+1)*te.cs.length<=r*te.cs.length:=Nat.mul_le_mul_right _ h
             rw[Nat.add_mul]at this;omega
          rw[if_neg hno]at hk
          obtain⟨u,h3,h4⟩:=hh.2 r j hrl hj
          refine⟨u,?_,?_⟩
          ·rw[getD_eq (by omega),hk,<- getD_eq hlt];exact h3
          ·have e1:(es.set i' (Bg fet te.cs x.cells).2.1).getD r []=es.getD r []:=by
             simp only[List.getD_eq_getElem?_getD,List.getElem?_set]
             rw[if_neg (fun h=>hri h.symm)]
           rw[e1];exact h4
      obtain⟨f1,vs',f2,f3,f4⟩:=ih ps _ (zs.set i' (ty.mk (Bg fet te.cs x.cells).2.1).2) (by simpa using hl) (fun j x p hx hp=>hr (j+1) x p (by simpa using hx) (by simpa using hp)) (by rw[k1,hsz,List.length_set,hzl]) (by rw[hset];exact hh') hok2
        (fun p hp'=>hU p (List.mem_append_right _ hp'))
      refine⟨by rw[f1,List.length_set],vs',?_,by rw[f3,k1],f4⟩
      simp only[Instr.fill]
      have: ¬(v.cells.size≠te.cs.length||decide (i'*te.cs.length+v.cells.size>vs.size))=true:=by
        rw[hvsz];simp;omega
      rw[if_neg (by simpa using this)]
      exact f2
end
end Go.Proofs.YtbaomhegdndpnaaGreatDoor.Vm
namespace Go.Proofs.YtbaomhegdndpnaaGreatDoor.Vm
open Classical
section
variable {P:Program} {C:Ctx} {V0:Nat->Value} {O0 O:Own} {w0 w:World} {m:Nat->Value} {st:St} {a:Act} {o:Oper}
theorem V5 {fet:Fet} {ks:List CK} {x:A} (hok:Am (Bg fet ks x.cells).1):x.isVal=true:=by
  have no: ∀ {y:A},(∀ k,(pur fet k y).1=[false])-> ¬ Am (Bg fet ks [y]).1:=by
    intro y h hh
    cases ks with
    | nil=>have:=hh false (by simp [Bg]);cases this
    | cons k ks =>
      have:=hh false (by simp [Bg,h k]);cases this
  cases x with
  | undef=>exact(no (fun k=>rfl) hok).elim
  | tup _=>exact(no (fun k=>rfl) hok).elim
  | usl _ _ _=>exact(no (fun k=>rfl) hok).elim
  | ump _=>exact(no (fun k=>rfl) hok).elim
  | box _=>exact(no (fun k=>rfl) hok).elim
  | cbx _ _=>exact(no (fun k=>rfl) hok).elim
  | cnd _ _=>exact(no (fun k=>rfl) hok).elim
  | _=>rfl
theorem zM {fet:Fet} {te:TI} {ty:Ty} (hf:DL st.Aa fet): ∀(xs:List (Nat×A)) (zs:List ty.Val),(∀ x∈xs,∃ v,Au O st.Aa m w v x.2)->Am (Dw fet te ty xs zs).1->Frz st.Aa (Dw fet te ty xs zs).2.2/\ ∀ x∈xs,x.2.isVal=true:=by
  intro xs
  induction xs with
  | nil=>intro zs _ _;exact⟨(fun p hp=>by simp [Dw]at hp),fun x hx=>by cases hx⟩
  | cons x xs ih =>
    intro zs h hok
    obtain⟨i,x⟩:=x
    simp only[Dw]at hok ⊢
    obtain⟨hok1,hok2⟩:=hok.append
    obtain⟨hok0,_⟩:=hok1.append
    have hv:=V5 hok0
    obtain⟨v,hx⟩:=h (i,x) List.mem_cons_self
    have hcs:=Au.cells (show Au O st.Aa m w v x from hx) hv
    obtain⟨_,_,g3,_⟩:=Ho hf te.cs x.cells (fun j=>v.cells.getD j undef) (fun j hj=>hcs.2 j hj) hok0
    obtain⟨f1,f2⟩:=ih _ (fun y hy=>h y (List.mem_cons_of_mem _ hy)) hok2
    exact⟨g3.append f1,fun y hy=>by rcases List.mem_cons.1 hy with rfl | hy;exact hv;exact f2 y hy⟩
theorem Og: ∀(vs:List Value) (ks:List CK),Bf vs ks=true->ks.all CK.plain=true-> ∀ j,j<ks.length->Ak O w (vs.getD j undef) ((ks.map CK.D8).getD j .undef):=by
  intro vs ks h hp j hj
  obtain⟨h1,h2⟩:=FU (O:=O) (Aa:=[]) (m:=fun _=>undef) (w:=w) vs ks h
  have h3:=h2 j hj
  have hk:(ks.getD j .oth).plain=true:=by
    refine(List.all_eq_true.1 hp) _ ?_
    rw[List.getD_eq_getElem?_getD,List.getElem?_eq_getElem hj];simp
  have e1:(ks.map CK.zero).getD j .undef=(ks.getD j .oth).zero:=by simp [List.getD_eq_getElem?_getD,hj]
  have e2:(ks.map CK.D8).getD j .undef=(ks.getD j .oth).D8:=by simp [List.getD_eq_getElem?_getD,hj]
  rw[e1]at h3
  rw[e2]
  generalize ks.getD j .oth=k at *
  generalize vs.getD j undef=v at *
  cases k with
  | oth=>cases hk
  | mp _ _=>cases hk
  | bx _=>cases hk
  | fn=>exact h3
  | sl e sz=>have:=Aw.BB h3;subst this;exact .nil _
  | sln e sz=>have:=Aw.BB h3;subst this;exact .nil _
  | bool=>exact h3
  | int _=>exact h3
  | str=>exact h3
  | ptr=>exact h3
def zeros (z:Value) (n:Nat):Array Value:=(Array.range n).map (z.cells[· % z.cells.size]!)
theorem Held.less {cur:Array Value} {sz:Nat} {x:List A} {n k:Nat} (h:Held O w cur sz (List.replicate k x)) (hk:n<=k):Held O w cur sz (List.replicate n x):=by
  refine⟨fun y hy=> ?_,fun i j hi hj=> ?_⟩
  ·rw[List.eq_of_mem_replicate hy]
   cases k with
   | zero=>exact absurd (List.mem_replicate.1 hy).1 (by omega)
   | succ k=>exact h.1 x (List.mem_replicate.2 ⟨by omega,rfl⟩)
  ·rw[List.length_replicate]at hi
   obtain⟨u,h1,h2⟩:=h.2 i j (by rw[List.length_replicate];omega) hj
   refine⟨u,h1,?_⟩
   have e1:(List.replicate n x).getD i []=x:=by simp [List.getD_eq_getElem?_getD,hi]
   have e2:(List.replicate k x).getD i []=x:=by simp [List.getD_eq_getElem?_getD,show i<k by omega]
   rw[e1];rw[e2]at h2;exact h2
theorem Vh {t:Nat} {te:TI} {z:Value} (hT:Iq P t te) (hz:(P.info? t).bind (·.zero)=some z) (hp:te.cs.all CK.plain=true) (h0:0<te.cs.length) (n:Nat) :
    (zeros z (n*te.cs.length)).size=n*te.cs.length/\Held O w (zeros z (n*te.cs.length)) te.cs.length (List.replicate n (te.cs.map CK.D8)):=by
  obtain⟨i,z',h1,h2,h3,h4,h5,h6⟩:=hT.i
  rw[h1]at hz
  simp only[Option.bind_some,h4]at hz
  injection hz with hz
  subst hz
  have hsz:z'.cells.size=te.cs.length:=by
    rw[<- Array.length_toList];exact(FU (O:=O) (Aa:=[]) (m:=fun _=>undef) (w:=w) _ _ h5).1
  have hv:=Og (O:=O) (w:=w) _ _ h5 hp
  refine⟨by simp [zeros],fun x hx=>by rw[List.eq_of_mem_replicate hx];simp,fun r j hr hj=> ?_⟩
  rw[List.length_replicate]at hr
  have hlt:r*te.cs.length+j<n*te.cs.length:=by
    have:(r+1)*te.cs.length<=n*te.cs.length:=Nat.mul_le_mul_right _ hr
    rw[Nat.add_mul]at this;omega
  have hmod:(r*te.cs.length+j) % te.cs.length=j:=by
    rw[Nat.mul_comm,Nat.mul_add_mod];exact Nat.mod_eq_of_lt hj
  refine⟨z'.cells.toList.getD j undef,?_,?_⟩
  ·simp only[zeros,Array.getElem?_map,Array.getElem?_range]
   rw[if_pos hlt]
   simp only[Option.map_some,hsz,hmod]
   congr 1
   rw[getElem!_pos z'.cells j (by omega)]
   simp [List.getD_eq_getElem?_getD,show j<z'.cells.size from by omega]
  ·have e1:(List.replicate n (te.cs.map CK.D8)).getD r []=te.cs.map CK.D8:=by
     simp [List.getD_eq_getElem?_getD,hr]
   rw[e1];exact hv j hj
theorem eF {t n:Nat} {ps:Array (Nat×Operand)} (hC:TOk P C) (hS:Sim V0 O0 w0 O m st a w) {d:Tmp} (hd:o.dst=some d) (ho:o.op= .buildSlice t n ps) {fet:Fet} (hf:DL st.Aa fet) {xs:List (Nat×A)}
    (hl:xs.length=ps.size) (hx: ∀(j:Nat) (x:Nat×A) (p:Nat×Operand),xs[j]? =some x->ps[j]? =some p->p.1=x.1/\Au O st.Aa m w (a.eval p.2) x.2)
    (hok:Am (F5 C fet d t n xs).ok) (hfr: ∀ p∈(F5 C fet d t n xs).new,st.fresh p.1=true):Good P V0 O0 w0 (apply st o (F5 C fet d t n xs)) o a w:=by
  intro next Q hn
  unfold F5 at *
  obtain⟨ti,e,te,ht,hte,hd',he⟩:=Jy hok
  rw[he]at hn hfr hok;clear he
  obtain⟨hok1,hok2⟩:=hok.append
  obtain⟨hb1,hb2⟩:=hok2.cons
  obtain⟨hb2,hb3⟩:=hb2.cons
  have hb1:=Nat.le_of_ble_eq_true hb1
  have hb2:0<te.cs.length:=by simpa [Nat.blt_eq]using hb2
  have hb3:=hb3.cons.1
  have hT:=hC.is hd'
  obtain⟨i,z,h1,h2,h3,h4,h5,h6⟩:=hT.i
  have hu:=(hC.is ht).d
  rw[hte]at hu
  obtain⟨hU,hval⟩:=zM (te:=te) (ty:=tyl te.cs) hf xs (List.replicate n (tyl te.cs).zero) (fun x hx'=>by
    obtain⟨j,hj,hje⟩:=List.mem_iff_getElem.1 hx'
    have:=hx j x (ps[j]'(by omega)) (by rw[<- hje];exact List.getElem?_eq_getElem hj) (by simp [show j<ps.size from by omega])
    exact⟨_,this.2⟩) hok1
  obtain⟨O1,hS1,hp1,hle1,hv1,hE1,_⟩:=hS.freezes _ hU
  obtain⟨hz1,hz2⟩:=Vh (O:=O1) (w:=w) hT (by rw[h1];exact h4) hb3 hb2 n
  obtain⟨f1,vs',f2,f3,f4⟩:=AcJ (te:=te) (ty:=tyl te.cs) hf hp1 rfl xs (ps.map (fun(i,x)=>(i,a.eval x))).toList (zeros z (n*te.cs.length)) (List.replicate n (tyl te.cs).zero) (by simp [hl]) (fun j x p hxj hpj=>by
    simp only[Array.toList_map,List.getElem?_map]at hpj
    cases hq:ps.toList[j]? with
    | none=>rw[hq]at hpj;cases hpj
    | some q =>
      rw[hq]at hpj
      injection hpj with hpj
      subst hpj
      have:=hx j x q hxj (by simpa using hq)
      exact⟨this.1,this.2,hval x (List.mem_of_getElem? hxj)⟩) (by rw[hz1,List.length_replicate]) (by rw[<- Sl.PZ _ _ hb3]at hz2;exact hz2) hok1 hv1
  have hlen:(Dw fet te (tyl te.cs) xs (List.replicate n (tyl te.cs).zero)).2.1.length=n:=by rw[f1,List.length_replicate]
  have hnn:n*te.cs.length<=16777216:=hb1
  have hnle:n<=16777216:=Nat.le_trans (Nat.le_mul_of_pos_right n hb2) hnn
  have hr:(execOp a.eval o).run P w= .ok (.value (.slice (some (at' w.heap.size 0)) n n)) (w.alloc (.cells vs' e)):=by
    have hbig: ¬(16777216<n*te.cs.length):=by omega
    simp only[execOp,ho,Sem.run_bind,Instr.buildSlice,run_underlying hu,Result.andThen_ok,hT.Eb]
    rw[if_neg (by simpa using hbig)]
    by_cases h0:n*te.cs.length=0
    ·have hz0:(Array.range (n*te.cs.length)).map ((#[]:Array Value)[· % (#[]:Array Value).size]!)=zeros z (n*te.cs.length):=by simp [zeros,h0]
     simp only[if_pos h0,Sem.run_bind,Sem.run_pure,Result.andThen_ok,hz0,f2]
     rfl
    ·simp only[if_neg h0,Sem.run_bind,Sem.run_pure,Result.andThen_ok,zeroValue,typeInfo,run_program,h1,h4]
     have hz0:(Array.range (n*te.cs.length)).map (z.cells[· % z.cells.size]!)=zeros z (n*te.cs.length):=rfl
     rw[hz0,f2]
     rfl
  unfold Oper.wp
  rw[hr,Oper.upon_value,hd]
  have hfr':=(show Ei st (b2 d)from CJ (hfr _ List.mem_cons_self)).frz hU
  obtain⟨O',m',h⟩:=Kt hS1 (Moves.refl _ _ w) rfl (d:=d) (e:=e) (cap:=n) (frz:=false) (l:=⟨tyl te.cs,(Dw fet te (tyl te.cs) xs (List.replicate n (tyl te.cs).zero)).2.1⟩) (del:=[]) (by rw[Sl.Bj,hlen];exact Nat.le_refl _) (by unfold maxLen;omega) (by rw[f3,hz1];show _=_*(tyl te.cs).len;rw[Ij]) (by show Held _ _ _ (tyl te.cs).len _;rw[Ij];exact f4) hfr'
  rw[Sl.Bj,hlen]at h
  refine hn O' m' _ _ ?_
  rw[Jc hd]
  exact h
end
end Go.Proofs.YtbaomhegdndpnaaGreatDoor.Vm
namespace Go.Proofs.YtbaomhegdndpnaaGreatDoor.Vm
open Classical
section
variable {P:Program} {C:Ctx} {V0:Nat->Value} {O0 O:Own} {w0 w:World} {m:Nat->Value} {st:St} {a:Act} {o:Oper}
theorem AcT {t:Nat} {lo co:Operand} (hC:TOk P C) (hS:Sim V0 O0 w0 O m st a w) {d:Tmp} (hd:o.dst=some d) (ho:o.op= .makeSlice t lo co) {l c:A} (hl:Au O st.Aa m w (a.eval lo) l) (hc:Au O st.Aa m w (a.eval co) c)
    (hok:Am (Vr C d t l c).ok) (hfr: ∀ p∈(Vr C d t l c).new,st.fresh p.1=true):Good P V0 O0 w0 (apply st o (Vr C d t l c)) o a w:=by
  intro next Q hn
  unfold Vr at *
  obtain⟨n,hn1,he⟩:=AA hok
  rw[he]at hok hfr hn;clear he
  obtain⟨n',hn2,he⟩:=AA hok
  rw[he]at hok hfr hn;clear he
  obtain⟨ti,e,te,ht,hte,hd',he⟩:=Jy hok
  rw[he]at hok hfr hn;clear he
  obtain⟨k1,rfl⟩:=Hg hn1
  obtain⟨k2,rfl⟩:=Hg hn2
  obtain⟨h1,h2⟩:=hok.cons
  obtain⟨h2,h3⟩:=h2.cons
  obtain⟨h3,h4⟩:=h3.cons
  obtain⟨h4,h5⟩:=h4.cons
  have h5:=h5.cons.1
  have h1:n<=n':=by simpa using h1
  have h2:0<=n:=by simpa using h2
  have h3:n'*((te.bytes:Int)+1)<=140737488355328:=by simpa using h3
  have h4:0<te.cs.length:=by simpa [Nat.blt_eq]using h4
  have hl:=hl.int
  have hc:=hc.int
  obtain⟨k,rfl⟩:=Int.eq_ofNat_of_zero_le h2
  obtain⟨c,rfl⟩:=Int.eq_ofNat_of_zero_le (Int.le_trans h2 h1)
  have hkc:k<=c:=by omega
  have hT:=hC.is hd'
  obtain⟨i,z,g1,g2,g3,g4,g5,g6⟩:=hT.i
  have hu:=(hC.is ht).d
  rw[hte]at hu
  have h3':c*te.bytes+c<=140737488355328:=by
    have e0:(c:Int)*((te.bytes:Int)+1)=((c*te.bytes+c:Nat):Int):=by
      rw[Int.mul_add,Int.natCast_add,Int.natCast_mul,Int.mul_one]
    have h3:(c:Int)*((te.bytes:Int)+1)<=140737488355328:=h3
    rw[e0]at h3;omega
  obtain⟨hz1,hz2⟩:=Vh (O:=O) (w:=w) hT (by rw[g1];exact g4) h5 h4 c
  have hz2:=hz2.less hkc
  have hr:(execOp a.eval o).run P w= .ok (.value (.slice (some (at' w.heap.size 0)) k c)) (w.alloc (.cells (zeros z (c*te.cs.length)) e)):=by
    have e1:(i.bytes:Int)*(c:Int)<=281474976710656:=by
      have:(i.bytes:Int)*c=((c*te.bytes:Nat):Int):=by rw[g3,Int.mul_comm,Int.natCast_mul]
      rw[this];omega
    have:=run_make (P:=P) w t e i z hu g1 g4 k1 k2 k c (by omega) (by omega) e1 (by omega)
    simp only[Int.toNat_natCast,g2]at this
    have hl':a.eval lo= .int k1 (k:Int):=hl
    have hc':a.eval co= .int k2 (c:Int):=hc
    simp only[execOp,ho,Sem.run_bind,hl',hc',this,Result.andThen_ok,Sem.run_pure]
    rfl
  unfold Oper.wp
  rw[hr,Oper.upon_value,hd]
  obtain⟨O',m',h⟩:=Kt hS (Moves.refl _ _ w) rfl (d:=d) (e:=e) (cap:=c) (frz:=false) (l:=⟨tyl te.cs,List.replicate k (tyl te.cs).zero⟩) (del:=[]) (by rw[Sl.Bj,List.length_replicate];exact hkc) (by unfold maxLen;omega) (by rw[hz1];show _=_*(tyl te.cs).len;rw[Ij]) (by show Held _ _ _ (tyl te.cs).len _;rw[Ij,Sl.PZ _ _ h5];exact hz2) (CJ (hfr _ List.mem_cons_self))
  rw[Sl.Bj,List.length_replicate]at h
  refine hn O' m' _ _ ?_
  rw[Jc hd]
  exact h
theorem sU {t:Nat} {x:Operand} {lo hi mx:Option Operand} (hC:TOk P C) (hS:Sim V0 O0 w0 O m st a w) (ho:o.op= .slice t x lo hi mx) (hmx:mx=none) {fet:Fet} (hf:DL st.Aa fet) {q:Nat} {lo' hi':Option A}
    (hx:Au O st.Aa m w (a.eval x) (.own q)) (hlo:ORl O st.Aa m w (lo.map a.eval) lo') (hhi:ORl O st.Aa m w (hi.map a.eval) hi')
    (hok:Am (Ce C fet t (.own q) lo' hi').ok):Good P V0 O0 w0 (apply st o (Ce C fet t (.own q) lo' hi')) o a w:=by
  subst hmx
  intro next Q hn
  unfold Ce at *
  obtain⟨ti,ht,he⟩:=Ba hok
  rw[he]at hok hn;clear he
  dsimp only at hok hn
  obtain⟨ro,hro,he⟩:=AA hok
  rw[he]at hok hn;clear he
  obtain⟨r,hr,he⟩:=AA hok
  rw[he]at hok hn;clear he
  obtain⟨e,hel,he⟩:=AA hok
  rw[he]at hok hn;clear he
  obtain⟨te,hte,he⟩:=Ba hok
  rw[he]at hok hn;clear he
  obtain⟨h1,h2⟩:=hok.cons
  rw[<- Sl.Bj]at hr
  have hsz:=Nat.eq_of_beq_eq_true h1
  have hq:=hf q _ (CY hro)
  have key: ∃ O1,Sim V0 O0 w0 O1 m {st with Aa:=Ar st.Aa (bif ro.frz then []else [(q,.arr ro.e true ro.l)])} a w/\Ak O1 w (m q) (.sl ro.l):=by
    cases hfz:ro.frz with
    | false =>
      obtain⟨O1,hS1,_,_,hv1,_⟩:=hS.TV hq
      exact⟨O1,hS1,hv1⟩
    | true =>
      rw[hfz]at hq
      exact⟨O,hS,(hS.Aa q _ hq).frozen⟩
  obtain⟨O1,hS1,hv1⟩:=key
  have hd:=FY hel
  have hu:=(hC.is ht).run w
  rw[hd]at hu
  have hs:=(hC.is hte).Eb w
  rw[<- hsz]at hs
  have hxv:a.eval x=m q:=by
    have h2:Aw O st.Aa m w (a.eval x) (.own q):=hx
    have h2:=h2.2
    rw[hq]at h2
    exact h2
  obtain⟨h4,h5⟩:r.2.1<=r.2.2/\r.2.2<=ro.l.es.length:=(Js (isS:=true) (P:=P) hlo hhi (Nat.le_refl _) hr h2).2
  obtain⟨ad,n,c,hv,hn',hc,hcut⟩:=hv1.cut r.2.1 r.2.2 h4 h5
  obtain⟨h3,_,_⟩:=Js (isS:=true) (P:=P) (cap:=c) hlo hhi (by rw[<- hn'];exact hc) hr h2
  rw[<- hn']at h3
  have hrun:(execOp a.eval o).run P w= .ok (.value (.slice (if c=r.2.1 then ad else ad.map (·.add (r.2.1*ro.l.sz))) (r.2.2 - r.2.1) (c - r.2.1))) w:=by
    simp only[execOp,ho,Instr.sliceAt,Sem.run_bind,hu,Result.andThen_ok,Instr.slice,hxv,hv,Option.map_none,h3,hs,Sem.run_pure]
  unfold Oper.wp
  rw[hrun,Oper.upon_value]
  refine hn O1 m _ _ ?_
  have:=hS1.put o.dst (x:=.sl ⟨ro.l.t,A7 ro.l.xs r.2.1 r.2.2⟩) (v:=.slice (if c=r.2.1 then ad else ad.map (·.add (r.2.1*ro.l.sz))) (r.2.2 - r.2.1) (c - r.2.1)) (hcut c rfl)
  exact this
theorem AdK {t:Nat} {x h:Operand} (hC:TOk P C) (hS:Sim V0 O0 w0 O m st a w) {d:Tmp} (hd:o.dst=some d) (ho:o.op= .slice t x none (some h) none) {fet:Fet} (hf:DL st.Aa fet) {x' b':A}
    (hx:Au O st.Aa m w (a.eval x) x') (hb:Au O st.Aa m w (a.eval h) b') (hok:Am (X9 C fet d t x' b').ok) (hfr: ∀ p∈(X9 C fet d t x' b').new,st.fresh p.1=true) :
    Good P V0 O0 w0 (apply st o (X9 C fet d t x' b')) o a w:=by
  intro next Q hn
  unfold X9 at *
  obtain⟨ti,ht,he⟩:=Ba hok
  rw[he]at hok hn hfr;clear he
  cases x' with
  | own q =>
    dsimp only at hok hn hfr
    obtain⟨ro,hro,he⟩:=AA hok
    rw[he]at hok hn hfr;clear he
    obtain⟨r,hr,he⟩:=AA hok
    rw[he]at hok hn hfr;clear he
    obtain⟨e,hel,he⟩:=AA hok
    rw[he]at hok hn hfr;clear he
    obtain⟨te,hte,he⟩:=Ba hok
    rw[he]at hok hn hfr;clear he
    obtain⟨hok,hfz⟩:=hok.append
    obtain⟨h1,h2⟩:=hok.cons
    have hfz:ro.frz=false:=by simpa using hfz.cons.1
    rw[<- Sl.Bj]at hr
    have hsz:=Nat.eq_of_beq_eq_true h1
    have hq:=hf q _ (CY hro)
    rw[hfz]at hq
    have hd':=FY hel
    have hu:=(hC.is ht).run w
    rw[hd']at hu
    have hs:=(hC.is hte).Eb w
    rw[<- hsz]at hs
    have hxv:a.eval x=m q:=by
      have h2:Aw O st.Aa m w (a.eval x) (.own q):=hx
      have h2:=h2.2
      rw[hq]at h2
      exact h2
    have hh:ORl O st.Aa m w (some (a.eval h)) (some b'):=hb
    have hlo0:ORl O st.Aa m w none none:=trivial
    obtain⟨h4,h5⟩:r.2.1<=r.2.2/\r.2.2<=ro.l.es.length:=(Js (isS:=true) (P:=P) hlo0 hh (Nat.le_refl _) hr h2).2
    have hr0:r.2.1=0:=by
      unfold aY at hr
      split at hr<;>first | (injection hr with hr;rw[<- hr];done) | (injection hr with hr;rw[<- hr]) | cases hr
      all_goals (first | rfl | (rename_i hc _;cases hc))
    have hfresh:Ei st (b2 d):=CJ (hfr _ List.mem_cons_self)
    have hes:(⟨ro.l.t,A7 ro.l.xs r.2.1 r.2.2⟩:Sl).es=ro.l.es.take r.2.2:=by
      rw[Sl.AcA,hr0];simp [A7]
    obtain⟨hszs,hrow⟩:=hS.Aa q _ hq
    have hgoal: ∀ v,(∀ cap:Nat,True)->(execOp a.eval o).run P w= .ok (.value v) w->(∃ O' m',Sim V0 O0 w0 O' m' {tmps:=st.tmps.set d (.own (b2 d)),Aa:=Ar (AZ st.Aa [q]) [(b2 d,.arr ro.e false ⟨ro.l.t,A7 ro.l.xs r.2.1 r.2.2⟩)]} (a.put (some d) v) w)->o.wp P a w next Q:=by
      intro v _ hrun ⟨O',m',h⟩
      unfold Oper.wp
      rw[hrun,Oper.upon_value,hd]
      refine hn O' m' _ _ ?_
      unfold apply
      rw[hd]
      exact h
    rcases hrow with ⟨_,hnil,hm⟩ | ⟨_,g,cap,cur,hm,hg,hcap,_⟩
    ·have h0:r.2.2=0:=by rw[hnil]at h5;simpa using h5
     obtain⟨h3,_,_⟩:=Js (isS:=true) (P:=P) (w:=w) (cap:=0) hlo0 hh (by rw[hnil];exact Nat.le_refl _) hr h2
     rw[hnil]at h3
     refine hgoal (.slice none 0 0) (fun _=>trivial) ?_ ?_
     ·have h3:(Instr.sliceBounds true 0 0 none (some (a.eval h)) none).run P w= .ok (r.2.1,r.2.2,0) w:=h3
      rw[hr0,h0]at h3
      simp only[execOp,ho,Instr.sliceAt,Sem.run_bind,hu,Result.andThen_ok,Instr.slice,hxv,hm,Option.map_none,Option.map_some,h3,hs,Sem.run_pure]
      rfl
     ·have hxs:A7 ro.l.xs r.2.1 r.2.2=[]:=by
        have:ro.l.xs=[]:=kQ hnil
        rw[this];simp [A7]
      rw[hxs]
      exact Vw hS hfresh
    ·obtain⟨h3,_,_⟩:=Js (isS:=true) (P:=P) (w:=w) (cap:=cap) hlo0 hh hcap hr h2
     refine hgoal (.slice (some (at' g 0)) r.2.2 cap) (fun _=>trivial) ?_ ?_
     ·have h3:(Instr.sliceBounds true ro.l.es.length cap none (some (a.eval h)) none).run P w= .ok (r.2.1,r.2.2,cap) w:=h3
      rw[hr0]at h3
      simp only[execOp,ho,Instr.sliceAt,Sem.run_bind,hu,Result.andThen_ok,Instr.slice,hxv,hm,Option.map_none,Option.map_some,h3,hs,Sem.run_pure]
      simp [Fh]
     ·exact AaW hS hq hm hg h5 hes rfl hfresh
  | _=>exact(Az hok).elim
end
end Go.Proofs.YtbaomhegdndpnaaGreatDoor.Vm
namespace Go.Proofs.YtbaomhegdndpnaaGreatDoor.Vm
open Classical
section
variable {P:Program} {C:Ctx} {V0:Nat->Value} {O0 O:Own} {w0 w:World} {m:Nat->Value} {st:St} {a:Act} {o:Oper}
structure Src (P:Program) (O:Own) (w:World) (sz:Nat) (y:Value) (ns:List (List A)) (news:List Value):Prop where
  len: ∀ w',(Builtin.lenOf y).run P w'= .ok ns.length w'
  cells: ∀ w',(∀ b k u,w.cell? (at' b k)=some u->w'.cell? (at' b k)=some u)->(Builtin.firstCells sz ns.length y).run P w'= .ok news.toArray w'
  size:news.length=ns.length*sz
  each: ∀ x∈ns,x.length=sz
  rel: ∀ i j,i<ns.length->j<sz->Ak O w (news.getD (i*sz+j) undef) ((ns.getD i []).getD j .undef)
theorem Src.one {sz:Nat} {y:Value} {ns:List (List A)} {news:List Value} (h:Src P O w sz y ns news) (h0:0<sz): ∀ v∈news,v.oneCell'=true:=by
  intro v hv
  obtain⟨k,hk,hke⟩:=List.mem_iff_getElem.1 hv
  have hd:k=(k / sz)*sz+k % sz:=by rw[Nat.mul_comm];exact(Nat.div_add_mod k sz).symm
  have hlt:k / sz<ns.length:=by
    rw[Nat.div_lt_iff_lt_mul h0,<- h.size];exact hk
  have:=h.rel (k / sz) (k % sz) hlt (Nat.mod_lt _ h0)
  rw[<- hd,List.getD_eq_getElem?_getD,List.getElem?_eq_getElem hk]at this
  simp only[Option.getD_some,hke]at this
  exact this.one
theorem AfP {l:Sl} {v:Value} (h:uQ w O v l): ∃ news,Src P O w l.sz v l.es news:=by
  rcases h with ⟨ad,hv,hn⟩ | ⟨b,k,c,hv,hc,hcell⟩
  ·have hn:l.es=[]:=by simp [Sl.es,hn]
   refine⟨[],⟨fun w'=>by rw[hv,hn];rfl,fun w' _=>by
     rw[hv,hn]
     cases ad with
     | none=>rfl
     | some ad =>
       show(Builtin.firstCells l.sz 0 (.slice (some ad) 0 0)).run P w'=_
       simp only[Builtin.firstCells,Nat.zero_mul]
       exact run_loadCells (P:=P) w' ad 0 (fun _=>undef) (fun i hi=>absurd hi (Nat.not_lt_zero i)),by rw[hn];simp,l.es_len,fun i j hi=>by rw[hn]at hi;simp at hi⟩⟩
  ·let news:List Value:=(List.range (l.es.length*l.sz)).map fun i=>(w.cell? (at' b (k+i))).getD undef
   have hcells: ∀ i,i<l.es.length*l.sz-> ∃ u,w.cell? (at' b (k+i))=some u:=by
     intro i hi
     have h0:0<l.sz:=by
       rcases Nat.eq_zero_or_pos l.sz with h | h
       ·rw[h]at hi;simp at hi
       ·exact h
     have hd:i=(i / l.sz)*l.sz+i % l.sz:=by rw[Nat.mul_comm];exact(Nat.div_add_mod i l.sz).symm
     obtain⟨u,hu,_⟩:=hcell (i / l.sz) (i % l.sz) (by rw[Nat.div_lt_iff_lt_mul h0];exact hi) (Nat.mod_lt _ h0)
     rw[<- hd]at hu;exact⟨u,hu⟩
   refine⟨news,⟨fun w'=>by rw[hv];rfl,fun w' hw'=> ?_,by simp [news],l.es_len,fun i j hi hj=> ?_⟩⟩
   ·rw[hv]
    simp only[Builtin.firstCells]
    have:=run_loadCells (P:=P) w' (at' b k) (l.es.length*l.sz) (fun i=>(w.cell? (at' b (k+i))).getD undef) (fun i hi=>by
      obtain⟨u,hu⟩:=hcells i hi
      rw[Fh,hw' _ _ _ hu,hu];rfl)
    exact this
   ·obtain⟨u,h3,h4⟩:=hcell i j hi hj
    have hlt:i*l.sz+j<l.es.length*l.sz:=by
      have:(i+1)*l.sz<=l.es.length*l.sz:=Nat.mul_le_mul_right _ hi
      rw[Nat.add_mul]at this;omega
    have e1:news.getD (i*l.sz+j) undef=u:=by
      simp [news,List.getD_eq_getElem?_getD,hlt,h3]
    rw[e1];exact h4
theorem src_of {fet:Fet} {t:Ty} {y:A} {v:Value} (hf:FOk O st.Aa m w fet) (hy:Au O st.Aa m w v y) (hok:Am (Ez fet t y).1): ∃ news,Src P O w t.len v (⟨t,(Ez fet t y).2⟩:Sl).es news:=by
  have hrd:Am (rdT fet t y).1-> ∃ news,Src P O w t.len v (⟨t,(rdT fet t y).2⟩:Sl).es news:=fun hok=>AfP (Aa3 hf hy hok)
  by_cases hs: ∃ s,y= .str s
  ·obtain⟨s,rfl⟩:=hs
   by_cases ht:t= .int .u8 .nil
   ·subst ht
    obtain⟨b,hb,hl⟩:=hy.str
    have hbl:b.size=s.length:=by rw[Gu,hl]
    have hes:(⟨.int .u8 .nil,(Ez fet (.int .u8 .nil) (.str s)).2⟩:Sl).es=s.map (fun(x:UInt8)=>[A.int .u8 (x.toNat:Int)]):=by
      show List.map (Ty.int IntKind.u8 Ty.nil).cells (List.map (fun(b:UInt8)=>((b.toNat:Int))) s)=_
      exact List.map_map.trans rfl
    rw[hes]
    refine⟨s.map (fun(x:UInt8)=>Value.int .u8 (x.toNat:Int)),⟨fun w'=>by rw[hb];simp [Builtin.lenOf,hbl],fun w' _=> ?_,by simp [Ty.len],by simp [Ty.len],fun i j hi hj=> ?_⟩⟩
    ·rw[hb]
     simp only[Builtin.firstCells,List.length_map,Sem.run_pure]
     congr 1
     have:b.extract 0 s.length=b:=by
       rw[<- hbl]
       have h1:(b.extract 0 b.size).data.toList=b.data.toList:=by rw[ZJ,Gu];unfold A7;rw[List.drop_zero,List.take_length]
       exact ByteArray.ext (Array.toList_inj.1 h1)
     rw[this]
     apply Array.toList_inj.1
     simp [hl]
    ·have hj0:j=0:=by simp [Ty.len]at hj;omega
     subst hj0
     have hi':i<s.length:=by simpa using hi
     simp [List.getD_eq_getElem?_getD,hi',Ty.len]
     exact .int _ _
   ·have:(Ez fet t (.str s)).1=[false]:=by
      unfold Ez
      cases t with
      | int k r=>cases k<;>cases r<;>first | rfl | exact absurd rfl ht
      | _=>rfl
    rw[this]at hok
    have:=hok false (by simp);cases this
  ·have:Ez fet t y=rdT fet t y:=by
     cases y<;>first | rfl | exact absurd ⟨_,rfl⟩ hs
   rw[this]at hok ⊢
   exact hrd hok
theorem iT {d:TypeDesc} (h:LD d=true):(∃ e,d= .slice e)\/d= .string:=by
  unfold LD at h;split at h<;>simp_all
theorem WA {t u ty e n sLen sCap:Nat} {i:TypeInfo} {du:TypeDesc} {base:Option Addr} {y:Value} {news:List Value} {w':World} (hu:P.underlying t=some (.slice e)) (hu2:P.underlying u=some du) (hdu:LD du=true) (hi:P.info? e=some i)
    (hlen:(Builtin.lenOf y).run P w= .ok n w) (hnew:(Builtin.firstCells i.size n y).run P w= .ok news.toArray w) (hle:sLen+n<=sCap)
    (hst:match base with | some ad=>(storeCells (ad.add (sLen*i.size)) news).run P w= .ok () w' | none=>w'=w) :
    (Builtin.append_ #[t,u] ty #[.slice base sLen sCap,y]).run P w= .ok (.slice base (sLen+n) sCap) w':=by
  rcases iT hdu with ⟨e',rfl⟩ | rfl
  ·cases base with
   | none=>subst hst;simp [Builtin.append_,run_underlying hu,run_underlying hu2,sizeOf,typeInfo,hi,hlen,hnew,hle]
   | some ad=>dsimp only at hst;simp [Builtin.append_,run_underlying hu,run_underlying hu2,sizeOf,typeInfo,hi,hlen,hnew,hle,hst]
  ·cases base with
   | none=>subst hst;simp [Builtin.append_,run_underlying hu,run_underlying hu2,sizeOf,typeInfo,hi,hlen,hnew,hle]
   | some ad=>dsimp only at hst;simp [Builtin.append_,run_underlying hu,run_underlying hu2,sizeOf,typeInfo,hi,hlen,hnew,hle,hst]
theorem Uy {t u ty e n sLen sCap:Nat} {i:TypeInfo} {z:Value} {du:TypeDesc} {base:Option Addr} {y:Value} {olds news:List Value} (hu:P.underlying t=some (.slice e)) (hu2:P.underlying u=some du) (hdu:LD du=true) (hi:P.info? e=some i) (hz:i.zero=some z)
    (hlen:(Builtin.lenOf y).run P w= .ok n w) (hold:(Builtin.firstCells i.size sLen (.slice base sLen sCap)).run P w.drew= .ok olds.toArray w.drew) (hnew:(Builtin.firstCells i.size n y).run P w.drew= .ok news.toArray w.drew) (hgt:sCap<sLen+n)
    (hb:(sLen+n)*i.bytes<=140737488355328) (h0:0<i.bytes\/((sLen+n:Nat):Int)<=9223372036854775807) :
    (Builtin.append_ #[t,u] ty #[.slice base sLen sCap,y]).run P w =
      .ok (.slice (some (at' w.heap.size 0)) (sLen+n) (grownCap w (sLen+n) sCap e)) (w.drew.alloc (.cells (olds.toArray++news.toArray++Builtin.zeroCells z.cells (grownCap w (sLen+n) sCap e - (sLen+n))) e)):=by
  have hn: ¬(sLen+n<=sCap):=by omega
  have hfit:=growslice_fits hgt hb
  have h48': ¬(281474976710656<Builtin.nextslicecap (sLen+n) sCap*i.bytes):=by omega
  have h63: ¬(((sLen:Int)+(n:Int))>9223372036854775807/\i.bytes=0):=by
    rintro ⟨ha,hb'⟩
    rcases h0 with h0 | h0
    ·omega
    ·rw[Int.natCast_add]at h0;omega
  have h63': ¬(9223372036854775807<((sLen:Int)+(n:Int))/\i.bytes=0):=h63
  rcases iT hdu with ⟨e',rfl⟩ | rfl
  ·simp [Builtin.append_,run_underlying hu,run_underlying hu2,sizeOf,typeInfo,zeroValue,hi,hz,hlen,hn,h63',h48',Question.forced,hold,hnew,newRow,grownCap]
   congr 2
   apply Array.ext'
   simp [List.append_assoc]
  ·simp [Builtin.append_,run_underlying hu,run_underlying hu2,sizeOf,typeInfo,zeroValue,hi,hz,hlen,hn,h63',h48',Question.forced,hold,hnew,newRow,grownCap]
   congr 2
   apply Array.ext'
   simp [List.append_assoc]
end
