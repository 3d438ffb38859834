import Derived.Test.YtmgpaalplkkpnaaGreatDoorA5
import Derived.Calls
set_option linter.all false
namespace Go.Proofs.YtmgpaalplkkpnaaGreatDoor.Vm
open Classical
def A0O (k:Nat):Nat:=256000+256*k
def AfD:A->A
 | .agg cs=>.box cs
 | a=>a
def L6:List Sh->Nat->List Nat
 | [],_=>[]
 | s::ss,i=>bif KJ s then i::L6 ss (i+1)else L6 ss (i+1)
structure Came (O:Own) (w:World) (vs:Array Value) (sg:Sig) (rs:List A) (v:Value) (O':Own) (w':World):Prop where
 moves:Moves O (fun o=>o≠255) w w'
 less: ∀ b k,b<w.heap.size->O' b k≠none->O b k≠none
 y7: ∀ b k,b<w.heap.size->O b k=some 255->O' b k=some 255
 count:rs.length=sg.JP.length+(L6 sg.J7 0).length
 res: ∃ us:Array Value,us.size=sg.JP.length/\v=(if h:us.size=1 then us[0]else .tuple us)/\ ∀ k,k<us.size->IR O' w' (A0O k) (us.getD k undef) (rs.getD k .undef)
 boxes: ∀ j i,(L6 sg.J7 0)[j]? =some i->IR O' w' (256*i) (innerS w (sg.J7.getD i (.agg [])) (vs.getD i undef)) (AfD (rs.getD (sg.JP.length+j) .undef))
def Spec (P:Program) (f:FuncId) (sg:Sig):Prop :=
 (∀ args w,(callFunc f args).run P w= .ok (.enter f args) w) /\
 ∀(O:Own) (w:World) (vs:Array Value) (xs rs:List A),Inv O w->vs.size=xs.length->xs.length=sg.J7.length->xs.length<=100->(∀ j,j<xs.length->IR O w (256*j) (vs.getD j undef) (xs.getD j .undef))->sg.F xs=some rs ->
  Calls P f vs w fun e w'=> ∃ v O',e= .returned v/\Came O w vs sg rs v O' w'
section
variable {P:Program} {C:Ctx} {V0:Nat->Value} {O0 O:Own} {w0 w:World} {m:Nat->Value} {st:St} {a:Act} {o:Oper}
def YP (w:World) (f:Nat->Value) (id stride:Nat):List Sh->List A->Nat->List (Nat×Value)
 | [],_,_=>[]
 | s::ss,rs,j=>(back (id+stride*j) s (rs.getD j .undef)).2.2.map (fun p=>(p.1,Oz w (f j) (p.1 - (id+stride*j))))++YP w f id stride ss rs (j+1)
theorem At4 (w:World) (f:Nat->Value) (id stride:Nat): ∀(ss:List Sh) (rs:List A) (j:Nat),(YP w f id stride ss rs j).map (·.1)=(Ld id stride ss rs j).2.2.map (·.1):=by
 intro ss
 induction ss with
 | nil=>intro rs j;rfl
 | cons s ss ih=>intro rs j;simp [YP,Ld,ih]
theorem AwL {k:CK} {c:A} (hp:k.plain=true) (h:JE (force k c).1):(force k c).2.isVal=true:=by
 cases k<;>first
  | (cases hp;done)
  | (have h1:=h.cons.1;cases c<;>first | rfl | (cases h1;done))
theorem Aiy {Oc O':Own} {objs':List (Nat×Obj)} {m':Nat->Value} {cid cst id stride:Nat} {f g:Nat->Value} {rs:List A} (hp:N8 Oc w O' w) (hn: ∀ b k,Oc b k=none->O' b k=none): ∀(ss:List Sh) (j0:Nat),(∀ j,j<ss.length->g (j0+j)=innerS w (ss.getD j (.agg [])) (f (j0+j))) ->
 (∀ j,j<ss.length->IR Oc w (cid+cst*(j0+j)) (f (j0+j)) (rs.getD (j0+j) .undef))->(∀ j,j<ss.length-> ∀ b k i,i<255->Oc b k=some (cid+cst*(j0+j)+i)->O' b k=some (id+stride*(j0+j)+i)) ->
 JE (Ld id stride ss rs j0).1->(∀ p∈(Ld id stride ss rs j0).2.2,JA objs' p.1=some p.2)->(∀ p∈YP w g id stride ss rs j0,m' p.1=p.2) ->
 (Ld id stride ss rs j0).2.1.length=ss.length/\(∀ j,j<ss.length->JJ O' objs' m' w (f (j0+j)) ((Ld id stride ss rs j0).2.1.getD j .undef)/\((Ld id stride ss rs j0).2.1.getD j .undef).isVal=true) /\
   ∀ p∈(Ld id stride ss rs j0).2.2,Lt O' objs' m' w p.1 p.2:=by
 intro ss
 induction ss with
 | nil=>grind[Ld]
 | cons s ss ih =>
  intro j0 hg h hr hok hO hm;simp only[Ld]at hok hO ⊢;simp only[YP]at hm;obtain⟨hok1,hok2⟩:=hok.append
  obtain⟨g1,g2,g3⟩:=ih (j0+1) (fun j hj=>by have:=hg (j+1) (by simpa using hj);rwa [show j0+(j+1)=j0+1+j from by omega]at this) (fun j hj=>by have:=h (j+1) (by simpa using hj);rwa [show j0+(j+1)=j0+1+j from by omega]at this)
   (fun j hj=>by have:=hr (j+1) (by simpa using hj);rwa [show j0+(j+1)=j0+1+j from by omega]at this) hok2 (fun p hp=>hO p (DF _ hp)) (fun p hp=>hm p (DF _ hp))
  have h0:=h 0 (by simp);have hr0:=hr 0 (by simp);have hg0:g (j0+0)=innerS w s (f (j0+0)):=hg 0 (by simp);rw[Nat.add_zero]at h0 hr0 hg0;obtain⟨k1,k2⟩:=Awe (id:=id+stride*j0) (m':=m') (objs':=objs') hp hn h0 hr0 hok1 (fun p hp=>hO p (D9 _ hp)) (fun p hp i hi=>by have:=hm (p.1,Oz w (g j0) (p.1 - (id+stride*j0))) (D9 _ (DI.2 ⟨p,hp,rfl⟩));rw[this,hi,Hg,hg0]);refine⟨by simp [g1],fun j hj=> ?_,fun p hp=> ?_⟩
  .cases j with
   | zero =>
    refine⟨k1,?_⟩;show((back (id+stride*j0) s (rs.getD j0 .undef)).2.1).isVal=true;cases s with
    | agg ks=>rfl
    | box ks=>rfl
    | clo f' ks=>rfl
    | map kt vt=>rfl
    | cell u' k =>
     have hpl:k.plain=true:=by simp only[back]at hok1;exact hok1.append.2.cons.1
     cases u' with
     | true=>cases k<;>first | (cases hpl;done) | rfl | (exfalso;have:=hok1 false (by simp [back,JX]);cases this)
     | false =>
      have hf:JE (force k (rs.getD j0 .undef)).1:=by have h1:=hok1;simp only[back,JX]at h1;exact h1.append.1.append.1
      show(force k (rs.getD j0 .undef)).2.isVal=true;exact AwL hpl hf
   | succ j =>have:=g2 j (by simpa using hj);rw[show j0+(j+1)=j0+1+j from by omega];simpa using this
  .rcases DK.1 hp with hp | hp
   .exact k2 p hp
   .exact g3 p hp
def look (N:List (Nat×Nat)) (q:Nat):Option Nat:=(N.find? (fun p=>p.1==q)).map (·.2)
theorem ApO {N:List (Nat×Nat)} (hnd:nodup (N.map (·.1))=true): ∀ p∈N,look N p.1=some p.2:=by
 induction N with
 | nil=>intro p hp;cases hp
 | cons q N ih =>
  intro p hp;simp only[Ee,nodup,Dq,Eu]at hnd;unfold look;rcases D7.1 hp with rfl | hp
  .simp
  .have hne:q.1≠p.1:=fun e=>by
    have:has (N.map (·.1)) q.1=true:=PN.2 (DI.2 ⟨p,hp,e.symm⟩);rw[this]at hnd;cases hnd.1
   all_goals grind[nodup,look]
theorem Aeq {N:List (Nat×Nat)} {q i:Nat} (h:look N q=some i):(q,i)∈N:=by
 unfold look at h;cases hf:N.find? (fun p=>p.1==q)with
 | none=>rw[hf]at h;cases h
 | some p=>grind[look]
def vM (N:List (Nat×Value)) (q:Nat):Option Value:=(N.find? (fun p=>p.1==q)).map (·.2)
theorem Axn {N:List (Nat×Value)} (hnd:nodup (N.map (·.1))=true): ∀ p∈N,vM N p.1=some p.2:=by
 induction N with
 | nil=>intro p hp;cases hp
 | cons q N ih =>
  intro p hp;simp only[Ee,nodup,Dq,Eu]at hnd;unfold vM;rcases D7.1 hp with rfl | hp
  .simp
  .have hne:q.1≠p.1:=fun e=>by
    have:has (N.map (·.1)) q.1=true:=PN.2 (DI.2 ⟨p,hp,e.symm⟩);rw[this]at hnd;cases hnd.1
   all_goals grind[nodup,vM]
theorem AuM {N:List (Nat×Value)} {q:Nat} (h:q∉N.map (·.1)):vM N q=none:=by grind[vM]
theorem JJ.A3O {Js:List (Nat×Obj)} {v:Value} {x:A} (h:JJ O Js m w v x) (hv:x.isVal=true):T1 O Js m w v x:=by cases x<;>first | (cases hv;done) | exact h
theorem Z9 {fet:Fet}: ∀(ks:List (Bool×CK)) (cs:List A) (id:Nat),JE (JG fet ks cs).1-> ∀ p∈LY id ks cs,(JA fet p.1).isSome/\ ∃ x,x<ks.length/\p.2=id+x:=by
 intro ks
 induction ks with
 | nil=>intro cs id _ p hp;cases cs<;>simp [LY]at hp
 | cons k ks ih =>
  intro cs id hok p hp;obtain⟨u,k⟩:=k;cases cs with
  | nil=>cases u<;>simp [LY]at hp
  | cons c cs =>
   have step:JE (JG fet ks cs).1->p∈LY (id+1) ks cs->(JA fet p.1).isSome/\ ∃ x,x<((u,k)::ks).length/\p.2=id+x:=by intro h1 h2;obtain⟨h3,x,h4,h5⟩:=ih cs (id+1) h1 p h2;exact⟨h3,x+1,by simpa using h4,by omega⟩
   cases u with
   | false=>simp_all[LY,JG,hok,Fet,CK,JE,JA]
   | true =>
    cases k with
    | sl e sz =>
     cases c with
     | own q =>
      simp only[JG]at hok;cases hg:JA fet q with
      | none=>rw[hg]at hok;have:=hok false (by simp);cases this
      | some y =>
       cases y with
       | box _=>rw[hg]at hok;have:=hok false (by simp);cases this
       | mp _=>rw[hg]at hok;have:=hok false (by simp);cases this
       | arr e' fz l =>
        rw[hg]at hok;simp only[LY]at hp;rcases D7.1 hp with rfl | hp
        .exact⟨by rw[hg];rfl,0,by simp,rfl⟩
        .exact step hok.append.2 hp
     | LC =>simp only[JG]at hok;exact step hok hp
     | _=>have:=hok false (by simp [JG]);cases this
    | sln e sz =>
     cases c with
     | own q =>
      simp only[JG]at hok;cases hg:JA fet q with
      | none=>rw[hg]at hok;have:=hok false (by simp);cases this
      | some y =>
       cases y with
       | box _=>rw[hg]at hok;have:=hok false (by simp);cases this
       | mp _=>rw[hg]at hok;have:=hok false (by simp);cases this
       | arr e' fz l =>
        rw[hg]at hok;simp only[LY]at hp;rcases D7.1 hp with rfl | hp
        .exact⟨by rw[hg];rfl,0,by simp,rfl⟩
        .exact step hok.append.2 hp
     | LC =>simp only[JG]at hok;exact step hok hp
     | _=>have:=hok false (by simp [JG]);cases this
    | bx t =>
     cases c with
     | ptr q off =>
      simp only[JG]at hok;cases hg:MB fet q with
      | none=>rw[hg]at hok;have:=hok false (by simp);cases this
      | some zs =>
       rw[hg]at hok;simp only[LY]at hp;rcases D7.1 hp with rfl | hp
       .exact⟨by rw[LW hg];rfl,0,by simp,rfl⟩
       .exact step hok.cons.2.append.2 hp
     | _=>have:=hok false (by simp [JG]);cases this
    | _=>have:=hok false (by simp [JG]);cases this
theorem ApW {fet:Fet} {s:Sh} {x:A} {id:Nat} (hok:JE (JZ fet s x).ok): ∀ p∈OY fet id s x,(JA fet p.1).isSome/\ ∃ i,p.2=id+i/\(i<202\/(∃ ks,s= .agg ks)):=by
 intro p hp;cases s with
 | cell u k =>
  simp only[OY]at hp
  have hh:JE (JG fet [(u,k)] [x]).1:=by
   unfold JZ at hok;dsimp only at hok;generalize JG fet [(u,k)] [x]=r at *
   obtain⟨ok,cs,upd,del⟩:=r;cases cs with
   | nil=>have:=hok false (by simp);cases this
   | cons c cs =>
    cases cs with
    | nil=>exact hok
    | cons _ _=>have:=hok false (by simp);cases this
  obtain⟨h1,i,h2,h3⟩:=Z9 _ _ _ hh p hp;exact⟨h1,i,h3,.inl (by simp at h2;omega)⟩
 | agg ks =>
  cases x with
  | agg cs =>simp only[OY]at hp;obtain⟨h1,i,h2,h3⟩:=Z9 _ _ _ (show JE (JG fet ks cs).1 from hok) p hp;exact⟨h1,1+i,by omega,.inr ⟨ks,rfl⟩⟩
  | _=>cases hp
 | box ks =>
  cases x with
  | ptr q off =>
   simp only[OY]at hp;unfold JZ at hok;dsimp only at hok;cases hg:MB fet q with
   | none=>rw[hg]at hok;have:=hok false (by simp);cases this
   | some cs =>
    rw[hg]at hok hp;dsimp only at hok hp;obtain⟨_,hokA⟩:=hok.cons;obtain⟨hf,hokB⟩:=hokA.cons;have hf:=DL hf;rcases D7.1 hp with rfl | hp
    .exact⟨by rw[LW hg];rfl,0,rfl,.inl (by omega)⟩
    .obtain⟨h1,i,h2,h3⟩:=Z9 _ _ _ hokB p hp;exact⟨h1,1+i,by omega,.inl (by omega)⟩
  | _=>cases hp
 | clo f' ks =>
  cases x with
  | clo g q =>
   simp only[OY]at hp;unfold JZ at hok;dsimp only at hok;cases hg:MB fet q with
   | none=>rw[hg]at hok;have:=hok false (by simp);cases this
   | some cs =>
    rw[hg]at hok hp;dsimp only at hok hp;obtain⟨_,hokA⟩:=hok.cons;obtain⟨hf,hokB⟩:=hokA.cons;have hf:=DL hf;rcases D7.1 hp with rfl | hp
    .exact⟨by rw[LW hg];rfl,0,rfl,.inl (by omega)⟩
    .obtain⟨h1,i,h2,h3⟩:=Z9 _ _ _ hokB p hp;exact⟨h1,1+i,by omega,.inl (by omega)⟩
  | _=>cases hp
 | map kt vt =>
  cases x with
  | own q =>
   obtain rfl:p=(q,id):=by simpa [OY]using hp
   unfold JZ at hok;dsimp only at hok;cases hg:JA fet q with
   | none=>rw[hg]at hok;have:=hok false (by simp);cases this
   | some y=>exact⟨rfl,0,rfl,.inl (by omega)⟩
  | _=>cases hp
theorem jW {fet:Fet} {stride:Nat}: ∀(ss:List Sh) (xs:List A) (id:Nat),JE (JS fet ss xs).1-> ∀ p∈Oh fet id stride ss xs,(JA fet p.1).isSome:=by
 intro ss
 induction ss with
 | nil=>intro xs id _ p hp;cases xs<;>simp [Oh]at hp
 | cons s ss ih =>
  intro xs id hok p hp;cases xs with
  | nil=>simp [Oh]at hp
  | cons x xs =>
   simp only[JS]at hok;obtain⟨h1,h2⟩:=hok.append;rcases DK.1 hp with hp | hp
   .exact(ApW h1 p hp).1
   .exact ih xs _ h2 p hp
theorem Moves.A2r {ρ :Nat->Option Nat} {w w':World} (h:Moves (OH O ρ) (fun o=>o≠255) w w'):Moves O (fun o=> ∃ i,ρ o=some i) w w':=by
 refine⟨h.os,h.tape,h.output,h.size,fun b hb=> ?_⟩;have un: ∀ k i,OH O ρ b k=some i->i≠255-> ∃ q,O b k=some q/\ ∃ i,ρ q=some i:=by all_goals grind[OH]
 rcases h.blk b hb with he | ⟨c,c',e,fr,h1,h2,h3,h4,k,q,h5,h6,h7⟩ | ⟨es,ck,es',ck',q,h1,h2,h3,h4⟩
 .exact .inl he
 .refine .inr (.inl ⟨c,c',e,fr,h1,h2,h3,fun k hk=>h4 k (fun i hi hne=> ?_),k,?_⟩)
  .obtain⟨q,hq,hρ⟩:=un k i hi hne;exact hk q hq hρ
  .simp_all[un,OH]
 .simp_all[un,OH]
end
section
variable {P:Program} {C:Ctx} {V0:Nat->Value} {O0 O:Own} {w0 w:World} {m:Nat->Value} {st:St} {a:Act} {o:Oper}
def A2x (fet:Fet) (p:Nat×Sh) (x:Option A):Sh->Prop
 | .box ks=>(∃ cs,JA fet p.1=some (.box cs))/\x=some (.ptr p.1 0)/\ks.length<=200/\p.2= .box ks
 | .clo k ks=>(∃ cs,JA fet p.1=some (.box cs))/\x=some (.clo k p.1)/\ks.length<=200/\p.2= .box ks
 | .map kt vt=>(∃ l,JA fet p.1=some (.mp l))/\x=some (.own p.1)/\p.2= .map kt vt
 | _=>False
theorem AyB {fet:Fet} {stride:Nat}: ∀(ss:List Sh) (xs:List A) (id i0:Nat),JE (JS fet ss xs).1 ->
 (JS fet ss xs).2.2.2.2.length=(L6 ss i0).length/\ ∀(j:Nat) (p:Nat×Sh),(JS fet ss xs).2.2.2.2[j]? =some p-> ∃ i,(L6 ss i0)[j]? =some (i0+i)/\i<ss.length/\(p.1,id+stride*i)∈Oh fet id stride ss xs/\ ∃ s,ss[i]? =some s/\A2x fet p xs[i]? s:=by
 intro ss
 induction ss with
 | nil=>intro xs id i0 hok;cases xs with
  | nil=>exact⟨rfl,fun j p h=>by simp [JS]at h⟩
  | cons _ _=>have:=hok false (by simp [JS]);cases this
 | cons s ss ih =>
  intro xs id i0 hok;cases xs with
  | nil=>have:=hok false (by simp [JS]);cases this
  | cons x xs =>
   simp only[JS]at hok ⊢;obtain⟨h1,h2⟩:=hok.append;obtain⟨g1,g2⟩:=ih xs (id+stride) (i0+1) h2;have hrest: ∀(j:Nat) (p:Nat×Sh),(JS fet ss xs).2.2.2.2[j]? =some p-> ∃ i,(L6 ss (i0+1))[j]? =some (i0+i)/\i<(s::ss).length/\(p.1,id+stride*i)∈Oh fet id stride (s::ss) (x::xs)/\ ∃ s',(s::ss)[i]? =some s'/\A2x fet p (x::xs)[i]? s':=by intro j p hp;obtain⟨i,a1,a2,a3,s',a4,a5⟩:=g2 j p hp;refine⟨i+1,by rw[a1];congr 1;omega,by simpa using a2,DF _ ?_,s',by simpa using a4,by simpa using a5⟩;rw[show id+stride*(i+1)=id+stride+stride*i from by rw[Jl];omega];exact a3
   cases s with
   | box ks =>
    cases x with
    | ptr q off =>
     have hA:JE (JZ fet (.box ks) (.ptr q off)).ok:=h1;unfold JZ at h1;dsimp only at h1;cases hg:MB fet q with
     | none=>rw[hg]at h1;have:=h1 false (by simp);cases this
     | some cs =>
      rw[hg]at h1;dsimp only at h1;obtain⟨h3,h4⟩:=h1.cons;obtain⟨h4,_⟩:=h4.cons;have h3:=Dy h3;have h4:=DL h4;subst h3;have hb:(JZ fet (.box ks) (.ptr q 0)).boxes=[(q,.box ks)]:=by unfold JZ;dsimp only;rw[hg]
      rw[hb];refine⟨by simp [L6,KJ,g1],fun j p hp=> ?_⟩;cases j with
      | zero =>simp at hp;subst hp;exact⟨0,by simp [L6,KJ],by simp,D9 _ (by simp [OY]),_,rfl,⟨cs,LW hg⟩,rfl,h4,rfl⟩
      | succ j =>
       have hp':(JS fet ss xs).2.2.2.2[j]? =some p:=by simpa using hp
       obtain⟨i,a1,a2⟩:=hrest j p hp';exact⟨i,by simpa [L6,KJ]using a1,a2⟩
    | _=>have:=h1 false (by simp [JZ]);cases this
   | clo f' ks =>
    cases x with
    | clo g q =>
     have hA:JE (JZ fet (.clo f' ks) (.clo g q)).ok:=h1;unfold JZ at h1;dsimp only at h1;cases hg:MB fet q with
     | none=>rw[hg]at h1;have:=h1 false (by simp);cases this
     | some cs =>
      rw[hg]at h1;dsimp only at h1;obtain⟨h3,h4⟩:=h1.cons;obtain⟨h4,_⟩:=h4.cons;have h3:=Dy h3;have h4:=DL h4;subst h3;have hb:(JZ fet (.clo f' ks) (.clo f' q)).boxes=[(q,.box ks)]:=by unfold JZ;dsimp only;rw[hg]
      rw[hb];refine⟨by simp [L6,KJ,g1],fun j p hp=> ?_⟩;cases j with
      | zero =>simp at hp;subst hp;exact⟨0,by simp [L6,KJ],by simp,D9 _ (by simp [OY]),_,rfl,⟨cs,LW hg⟩,rfl,h4,rfl⟩
      | succ j =>
       have hp':(JS fet ss xs).2.2.2.2[j]? =some p:=by simpa using hp
       obtain⟨i,a1,a2⟩:=hrest j p hp';exact⟨i,by simpa [L6,KJ]using a1,a2⟩
    | _=>have:=h1 false (by simp [JZ]);cases this
   | cell u k=>grind[JZ,split,L6,KJ]
   | agg ks =>
    have hb:(JZ fet (.agg ks) x).boxes=[]:=by unfold JZ;cases x<;>rfl
    rw[hb];exact⟨by simpa [L6,KJ]using g1,fun j p hp=>by simpa [L6,KJ]using hrest j p (by simpa using hp)⟩
   | map kt vt =>
    cases x with
    | own q =>
     unfold JZ at h1;dsimp only at h1;cases hg:JA fet q with
     | none=>rw[hg]at h1;have:=h1 false (by simp);cases this
     | some y =>
      cases y with
      | box _=>rw[hg]at h1;have:=h1 false (by simp);cases this
      | arr _ _ _=>rw[hg]at h1;have:=h1 false (by simp);cases this
      | mp l =>
       have hb:(JZ fet (.map kt vt) (.own q)).boxes=[(q,.map kt vt)]:=by unfold JZ;dsimp only;rw[hg]
       rw[hb];refine⟨by simp [L6,KJ,g1],fun j p hp=> ?_⟩;cases j with
       | zero =>simp at hp;subst hp;exact⟨0,by simp [L6,KJ],by simp,D9 _ (by simp [OY]),_,rfl,⟨l,hg⟩,rfl,rfl⟩
       | succ j =>
        have hp':(JS fet ss xs).2.2.2.2[j]? =some p:=by simpa using hp
        obtain⟨i,a1,a2⟩:=hrest j p hp';exact⟨i,by simpa [L6,KJ]using a1,a2⟩
    | _=>have:=h1 false (by simp [JZ]);cases this
def Wv (rb:Nat->Nat) (w:World) (vf:Nat->Value) (rs:List A):List (Nat×Sh)->Nat->List (Nat×Value)
 | [],_=>[]
 | (o,s)::r,j=>(O7 (rb o) s (rs.getD j .undef)).2.2.map (fun p=>(p.1,Oz w (vf j) (p.1 - rb o)))++Wv rb w vf rs r (j+1)
theorem Ak4 (rb:Nat->Nat) (w:World) (vf:Nat->Value) (rs:List A): ∀(bs:List (Nat×Sh)) (j:Nat),(Wv rb w vf rs bs j).map (·.1)=(Ll rb rs bs j).2.2.map (·.1):=by
 intro bs
 induction bs with
 | nil=>intro j;rfl
 | cons b bs ih=>simp_all[Wv,Ll,Sh]
theorem AmY (rb:Nat->Nat) (rs:List A): ∀(bs:List (Nat×Sh)) (j:Nat),(Ll rb rs bs j).2.1.map (·.1)=bs.map (·.1):=by
 intro bs
 induction bs with
 | nil=>intro j;rfl
 | cons b bs ih=>grind[Ll]
theorem AoR {rb:Nat} {Oc O':Own} {objs':List (Nat×Obj)} {m':Nat->Value} {v:Value} {cid q:Nat} {s:Sh} {r:A} (hp:N8 Oc w O' w) (hn: ∀ b k,Oc b k=none->O' b k=none)
 (hs: ∀ ks,s= .box ks->ks.length<=200) (hmq:m' q=v) (hir:IR Oc w cid v (AfD r)) (hr: ∀ b k i,i<255->Oc b k=some (cid+i)->O' b k=some (if i=0 then q else rb+i))
 (hok:JE (O7 rb s r).1) (hO: ∀ p∈(O7 rb s r).2.2,JA objs' p.1=some p.2) (hm: ∀ p∈(O7 rb s r).2.2,m' p.1=Oz w v (p.1 - rb)) :
 Lt O' objs' m' w q (O7 rb s r).2.1/\ ∀ p∈(O7 rb s r).2.2,Lt O' objs' m' w p.1 p.2:=by
 cases s with
 | cell _ _=>have:=hok false (by simp [O7]);cases this
 | agg _=>have:=hok false (by simp [O7]);cases this
 | clo _ _=>have:=hok false (by simp [O7]);cases this
 | map kt vt =>simp only[O7]at hok ⊢;obtain⟨l,rfl,_,_⟩:=Aby hok.cons.1;refine⟨?_,fun p hp=>by cases hp⟩;show PD O' w q (m' q) l;rw[hmq];exact PD.carry (show PD Oc w cid v l from hir) hp (fun b k hb=>by have:=hr b k 0 (by omega) hb;exact this)
 | box ks =>
  have hf:=hs ks rfl;simp only[O7]at hok hO hm ⊢;obtain⟨hok0,hok1⟩:=hok.cons;cases r with
  | agg cs =>
   have hl:cs.length=ks.length:=by simpa [A.isAgg,Xl]using hok0
   obtain⟨bk,base,h1,h2⟩:=(show IR Oc w cid v (.box cs)from hir)
   have hcell: ∀ j,Oz w v (j+1)=(w.cell? (at' bk (base+j))).getD undef:=by intro j;rw[h1];rfl
   obtain⟨k1,k2,k3⟩:=TK (objs':=objs') (m':=m') (cid:=cid+1) (id:=rb+1) (f:=fun j=>(w.cell? (at' bk (base+j))).getD undef) hp hn ks cs 0 (fun j hj=>by
    obtain⟨_,_,u,h5,h6⟩:=h2 j (by omega);rw[DT,h5];exact h6) (fun b k i hi hb=>by
    have:=hr b k (1+i) (by omega) (by rw[<- ES];exact hb);rw[A51,<- ES]at this;exact this) hok1 hO (fun p hp i hi=>by
    have:=hm p hp;rw[this,hi,show rb+1+i - rb=i+1 from by omega,hcell])
   refine⟨⟨bk,base,by rw[hmq];exact h1,fun j hj=> ?_⟩,fun p hp=>(k3 p hp).1⟩;have hj:j<(JX (rb+1) ks cs 0).2.1.length:=hj;rw[k1]at hj;obtain⟨a1,a2,u,a3,_⟩:=h2 j (by omega);have:=k2 j hj;rw[DT,a3]at this;exact⟨by have:=hr bk (base+j) 0 (by omega) a1;exact this,a2,u,a3,this⟩
  | _=>cases hok0
theorem Ak5 {rb:Nat->Nat} {Oc O':Own} {objs':List (Nat×Obj)} {m':Nat->Value} {val:Nat->Value} {cid:Nat->Nat} {rs:List A} (hp:N8 Oc w O' w) (hn: ∀ b k,Oc b k=none->O' b k=none): ∀(bs:List (Nat×Sh)) (j0:Nat),
 (∀(j:Nat) (p:Nat×Sh),bs[j]? =some p->(∀ ks,p.2= .box ks->ks.length<=200)/\m' p.1=val (j0+j)/\IR Oc w (cid (j0+j)) (val (j0+j)) (AfD (rs.getD (j0+j) .undef))/\ ∀ b k i,i<255->Oc b k=some (cid (j0+j)+i)->O' b k=some (if i=0 then p.1 else rb p.1+i)) ->
 JE (Ll rb rs bs j0).1->(∀ p∈(Ll rb rs bs j0).2.2,JA objs' p.1=some p.2)->(∀ p∈Wv rb w val rs bs j0,m' p.1=p.2) ->
 (∀ p∈(Ll rb rs bs j0).2.1,Lt O' objs' m' w p.1 p.2)/\ ∀ p∈(Ll rb rs bs j0).2.2,Lt O' objs' m' w p.1 p.2:=by
 intro bs
 induction bs with
 | nil=>grind[Ll]
 | cons b bs ih =>
  intro j0 h hok hO hm;obtain⟨q,s⟩:=b;simp only[Ll]at hok hO ⊢;simp only[Wv]at hm;obtain⟨hok1,hok2⟩:=hok.append;obtain⟨g1,g2⟩:=ih (j0+1) (fun j p hj=>by have:=h (j+1) p (by simpa using hj);rwa [show j0+(j+1)=j0+1+j from by omega]at this) hok2 (fun p hp=>hO p (DF _ hp)) (fun p hp=>hm p (DF _ hp));obtain⟨hf,hmq,hir,hr⟩:=h 0 (q,s) rfl;rw[Nat.add_zero]at hmq hir hr;obtain⟨k1,k2⟩:=AoR (objs':=objs') (m':=m') (rb:=rb q) (q:=q) hp hn hf hmq hir hr hok1 (fun p hp=>hO p (D9 _ hp)) (fun p hp=>hm (p.1,Oz w (val j0) (p.1 - rb q)) (D9 _ (DI.2 ⟨p,hp,rfl⟩)));refine⟨fun p hp=> ?_,fun p hp=> ?_⟩
  .rcases D7.1 hp with rfl | hp
   .exact k1
   .exact g1 p hp
  .rcases DK.1 hp with hp | hp
   .exact k2 p hp
   .exact g2 p hp
end
section
variable {P:Program} {C:Ctx} {V0:Nat->Value} {O0 O:Own} {w0 w:World} {m:Nat->Value} {st:St} {a:Act} {o:Oper}
def Ai4 (ss:List Sh) (xs:List A) (i:Nat):Option Nat:=match ss.getD i (.agg []),xs.getD i .undef with
 | .map _ _,.own o=>some o
 | .clo _ _,.clo _ o=>some o
 | .box _,.clo _ o=>some o
 | .clo _ _,.ptr o _=>some o
 | _,.ptr o _=>some o
 | _,_=>none
def AfI (rb:Nat->Nat) (d:Nat) (ss:List Sh) (xs:List A) (n:Nat):Option Nat :=
 if 256000<=n then some (b2 d+16*((n - 256000) / 256)+(n - 256000) % 256)
 else match Ai4 ss xs (n / 256)with
  | some q=>some (if n % 256=0 then q else rb q+n % 256)
  | none=>none
def Ao4:Sh->Obj->Prop
 | .box _,.box _=>True
 | .map _ _,.mp _=>True
 | _,_=>False
theorem Ae3 {s:Sh} {e:Nat} {f:Bool} {l:Sl} (h:Ao4 s (.arr e f l)):False:=by cases s<;>exact h
theorem Ax5 {s:Sh} {y:Obj} {rb:Nat} {r:A} (h:Ao4 s y):y.shp=(O7 rb s r).2.1.shp:=by cases s<;>cases y<;>first | exact h.elim | rfl
theorem AoY {d:Nat} {fet:Fet} {sg:Sig} {xs:List A} (h:JE (QA fet d sg xs).ok):sg.ok (qB fet sg.J7 xs).vs=true:=by unfold QA Aop at h;exact h.append.1.append.1.append.1.append.2.cons.1
theorem Ai7 {c:Call} {f:Nat} {sg:Sig} {x0:Operand} {caps av:Array Value} (hS:Sim V0 O0 w0 O m st a w) (ho:o.op= .call c) (hcal:c.callee= .value x0) (hev:a.eval x0= .func (.func f) #[] caps) (hav:c.args.map a.eval++caps=av) (hsp:Spec P f sg) {d:Nat} {fet:Fet} (hf:Pz st.Js fet) {xs:List A}
 (hl:xs.length=av.size) (hx: ∀ j,j<xs.length->JJ O st.Js m w (av.getD j undef) (xs.getD j .undef))
 (hok:JE (QA fet d sg xs).ok) (hfr: ∀ p∈(QA fet d sg xs).new,st.fresh p.1=true) (hnd:nodup ((QA fet d sg xs).new.map (·.1))=true):Good P V0 O0 w0 (apply st o (QA fet d sg xs)) o a w:=by
 intro next Q hn
 unfold QA at hok hfr hnd hn;generalize hH:qB fet sg.J7 xs=H at *
 obtain⟨hok1,vsA,upd,del,bxs⟩:=H;have hHs:JS fet sg.J7 xs=(hok1,vsA,upd,del,bxs):=by unfold qB at hH;injection hH with q1 q2 q3 q4 q5;rw[<- q1,<- q2,<- q3,<- q4,<- q5]
 dsimp only at hok hfr hnd hn;unfold Aop at hok;obtain⟨hokA,hokB⟩:=hok.append;obtain⟨hokA,hokC⟩:=hokA.append;obtain⟨hokA,hokD⟩:=hokA.append;obtain⟨hokA,hokE⟩:=hokA.append;obtain⟨hN,hokB⟩:=hokB.cons;obtain⟨h100,hokB⟩:=hokB.cons;have h100:=DL h100;have hF:sg.F vsA=some (sg.val vsA):=by have:=hokE.cons.1;unfold Sig.F;rw[this];rfl
 have hokA':JE (JS fet sg.J7 xs).1:=by rw[hHs];exact hokA
 generalize sg.val vsA=rs at hF hfr hnd hn hokB hokC hokD;simp only[Aop]at hfr hnd hn hokB hokC hokD;have hcnt:=Dy hokB.cons.1;obtain⟨g1,g2,g3,g4,g5⟩:=jS (W:=upd=[]) hf hS.Js 256 sg.J7 xs 0 (fun j=>av.getD j undef) (fun e=>by have:=hokB.cons.2.cons.1;rw[e]at this;simpa using this) hx hokA';obtain⟨b1,b2'⟩:=AyB (fet:=fet) (stride:=256) sg.J7 xs 0 0 hokA';have halive:=jW (fet:=fet) (stride:=256) sg.J7 xs 0 hokA';rw[hHs]at g1 g3 g4 g5 b1 b2';dsimp only at g1 g3 g4 g5 b1 b2';generalize hNs:Oh fet 0 256 sg.J7 xs=N at *
 obtain⟨O1,hS1,hp1,hle1,hv1,hE1,hk1⟩:=hS.freezes _ g3;let ρ :=look N;have hρ : ∀ p∈N,ρ p.1=some p.2:=ApO hN;have hupdO: ∀ p∈upd,Lt O1 (JL st.Js upd) m w p.1 p.2:=by intro p hp;obtain⟨x,hx1,hx2⟩:=OO upd st.Js p.1 ⟨p,hp,rfl⟩;obtain⟨e,fz,l,k1,k2⟩:=g3 p hp;obtain⟨e',fz',l',k3,k4⟩:=g3 _ hx1;dsimp only at k3 k4;rw[k1]at k3;injection k3 with k3;injection k3 with q1 q2 q3;subst q1;subst q3;rw[k2,<- k4];exact hS1.Js p.1 x hx2
 have hIR:=g5 hp1 hv1 hupdO hk1 hρ;have hargs:av.size=vsA.length:=by rw[<- hl,g2,g1]
 have hexec:(execOp a.eval o).run P w= .ok (.enter f av) w:=by simp only[execOp,ho,resolve,hcal,hev,Deferred.ofValue,DJ,Sem.run_pure,Result.andThen_ok,invoke];have:=hsp.1 av w;simpa [hav]using this
 unfold Oper.wp;rw[hexec,Oper.upon_enter];refine(hsp.2 (OH O1 ρ) w av vsA rs ⟨fun g j p ht=>⟨aF.2 (hS1.Ajx.1 g j p ht).1,(hS1.Ajx.1 g j p ht).2⟩,hS1.Ajx.2⟩ hargs g1 (by rw[g1,<- g2];exact h100) (fun j hj=> ?_) hF).mono ?_
 .have:=hIR j (by rw[<- g1];exact hj);rw[DT]at this;exact this
 rintro e w' ⟨v,Of,rfl,hcame⟩;dsimp only;obtain⟨us,hus1,hus2,hus3⟩:=hcame.res;let T:Nat->Prop:=fun q=> ∃ i,ρ q=some i;let O2:Own:=fun b k=>if b<w.heap.size then(match O1 b k with | none=>none | some q=>if T q then(Of b k).bind (AfI (Nb fet) d sg.J7 xs)else some q)else(Of b k).bind (AfI (Nb fet) d sg.J7 xs);have hM:Moves O1 T w w':=hcame.moves.A2r;have hO2lt: ∀ {b k},b<w.heap.size->O2 b k=(match O1 b k with | none=>none | some q=>if T q then(Of b k).bind (AfI (Nb fet) d sg.J7 xs)else some q):=fun hb=>Dn hb;have hP2:Passes O1 O2 T w.heap.size:=by refine⟨fun b k hb h=>by rw[hO2lt hb,h],fun b k q hb h ht=> ?_⟩;rw[hO2lt hb,h];exact Dk ht
 have hless2: ∀ b k,b<w.heap.size->O2 b k≠none->O1 b k≠none:=by intro b k hb h h';rw[hO2lt hb,h']at h;exact h rfl
 have hnone: ∀ b k,Of b k=none->O2 b k=none:=by
  intro b k h;by_cases hb:b<w.heap.size
  .rw[hO2lt hb];cases hO:O1 b k with
   | none=>rfl
   | some q =>
    by_cases ht:T q
    .show(if T q then _ else _)=_;rw[Dn ht,h];rfl
    .exfalso
     have hr:OH O1 ρ b k=some 255:=by
      unfold OH;rw[hO]
      have: ρ q=none:=by
       cases hh: ρ q with
       | none=>rfl
       | some i=>exact absurd ⟨i,hh⟩ ht
      simp [this]
     have:=hcame.y7 b k hb hr;rw[h]at this;cases this
  .show(if _ then _ else _)=_;rw[Dk hb,h];rfl
 have hsome: ∀ b k n,Of b k=some n->n≠255->O2 b k=AfI (Nb fet) d sg.J7 xs n:=by
  intro b k n h hne;by_cases hb:b<w.heap.size
  .rw[hO2lt hb];have h1:=hcame.less b k hb (by rw[h];simp);rw[Ne,aF]at h1;cases hO:O1 b k with
   | none=>exact absurd hO h1
   | some q =>
    by_cases ht:T q
    .show(if T q then _ else _)=_;rw[Dn ht,h];rfl
    .exfalso
     have hr:OH O1 ρ b k=some 255:=by
      unfold OH;rw[hO]
      have: ρ q=none:=by
       cases hh: ρ q with
       | none=>rfl
       | some i=>exact absurd ⟨i,hh⟩ ht
      simp [this]
     have:=hcame.y7 b k hb hr;rw[h]at this;injection this with this;exact hne this
  .show(if _ then _ else _)=_;rw[Dk hb,h];rfl
 have hpf:N8 Of w' O2 w':=fun b k u h hc=>⟨hnone b k h,hc⟩
 have hbcnt:bxs.length=(L6 sg.J7 0).length:=b1;let bi:Nat->Nat:=fun j=>(L6 sg.J7 0).getD j 0;let bval:Nat->Value:=fun j=>innerS w (sg.J7.getD (bi j) (.agg [])) (av.getD (bi j) undef);let HV:=YP w' (fun k=>innerS w' (sg.JP.getD k (.agg [])) (us.getD k undef)) (b2 d) 16 sg.JP rs 0++Wv (Nb fet) w' bval (rs.drop sg.JP.length) bxs 0;have hHVf:HV.map (·.1)=((Ld (b2 d) 16 sg.JP rs 0).2.2++(Ll (Nb fet) (rs.drop sg.JP.length) bxs 0).2.2).map (·.1):=by simp only[HV,EX,At4,Ak4]
 have hHVn:nodup (HV.map (·.1))=true:=by rw[hHVf];exact hnd
 let m2:Nat->Value:=fun i=>(vM HV i).getD (m i);have hm2: ∀ p∈HV,m2 p.1=p.2:=by intro p hp;show(vM HV p.1).getD _=_;rw[Axn hHVn p hp];rfl
 let Nw:Nat->Prop:=fun i=> ∃ p∈(Ld (b2 d) 16 sg.JP rs 0).2.2++(Ll (Nb fet) (rs.drop sg.JP.length) bxs 0).2.2,p.1=i;have hNw: ∀ i,Nw i->Qe {st with Js:=JL st.Js upd} i:=by rintro i ⟨p,hp,rfl⟩;exact(N9 (hfr p hp)).frz g3
 have hm2not: ∀ i,¬ Nw i->m2 i=m i:=by
  intro i hi;show(vM HV i).getD _=_;rw[AuM (fun h=> ?_)]
  .rfl
  .rw[hHVf]at h;obtain⟨p,hp,hpe⟩:=DI.1 h;exact hi ⟨p,hp,hpe⟩
 have hrres: ∀ j,j<sg.JP.length-> ∀ b k i,i<255->Of b k=some (256000+256*(0+j)+i)->O2 b k=some (b2 d+16*(0+j)+i):=by
  intro j hj b k i hi h;rw[hsome b k _ h (by omega)];unfold AfI;rw[A52,DT];have e1:(256000+256*j+i - 256000) / 256=j:=by omega
  have e2:(256000+256*j+i - 256000) % 256=i:=by omega
  rw[e1,e2]
 have hbx: ∀(j:Nat) (p:Nat×Sh),bxs[j]? =some p->(∃ y,JA st.Js p.1=some y/\Ao4 p.2 y)/\(∀ ks,p.2= .box ks->ks.length<=200)/\m p.1=bval j/\IR Of w' (256*bi j) (bval j) (AfD (rs.getD (sg.JP.length+j) .undef)) /\
  ∀ b k i,i<255->Of b k=some (256*bi j+i)->O2 b k=some (if i=0 then p.1 else Nb fet p.1+i):=by
  intro j p hp;obtain⟨i',a1,a2,a3,s',a7,a4⟩:=b2' j p hp;rw[DT]at a1;have hbi:bi j=i':=by show(L6 sg.J7 0).getD j 0=_;rw[Dj,a1];rfl
  have c2:=hcame.boxes j i' a1;have hi'x:i'<xs.length:=by rw[g2];exact a2
  have hxv:=hx i' hi'x;have hF':FOk O st.Js m w fet:=fun q x h=>⟨hf q x h,hS.Js q x (hf q x h)⟩
  have hkey:(∃ y,JA st.Js p.1=some y/\Ao4 p.2 y)/\(∀ ks,p.2= .box ks->ks.length<=200)/\m p.1=innerS w (sg.J7.getD i' (.agg [])) (av.getD i' undef)/\Ai4 sg.J7 xs i'=some p.1:=by
   obtain⟨q,s⟩:=p;have hs':sg.J7.getD i' (.agg [])=s':=by rw[Dj,a7];rfl
   cases s' with
   | cell _ _=>exact a4.elim
   | agg _=>exact a4.elim
   | box ks =>
    obtain⟨⟨cs0,a4⟩,a5,a6,a8⟩:=a4;dsimp only at a8;subst a8;have e5:xs.getD i' .undef= .ptr q 0:=by rw[Dj,a5];rfl
    rw[e5]at hxv;obtain⟨bk,base,k1,k2,_⟩:=hxv.ptr hF' a4;refine⟨⟨_,hf _ _ a4,trivial⟩,(fun ks' h=>by injection h with h;rw[<- h];exact a6),by rw[hs'];dsimp only at k1 ⊢;rw[k1,k2,Nat.add_zero];rfl,?_⟩;unfold Ai4;rw[hs',e5]
   | clo f' ks =>
    obtain⟨⟨cs0,a4⟩,a5,a6,a8⟩:=a4;dsimp only at a8;subst a8;have e5:xs.getD i' .undef= .clo f' q:=by rw[Dj,a5];rfl
    rw[e5]at hxv;have hc:JO O st.Js m w (av.getD i' undef) (.clo f' q):=hxv;obtain⟨_,p',_,hc2,hc⟩:=hc;rw[hf _ _ a4]at hc;obtain⟨b',base',e1,e2⟩:=hc;have hc:lU O w f' (av.getD i' undef) (m q):=by rw[e1,<- e2];exact hc2
    refine⟨⟨_,hf _ _ a4,trivial⟩,(fun ks' h=>by injection h with h;rw[<- h];exact a6),by rw[hs'];exact hc.inner.symm,?_⟩;unfold Ai4;rw[hs',e5]
   | map kt vt =>
    obtain⟨⟨l,a4⟩,a5,a8⟩:=a4;dsimp only at a8;subst a8;have e5:xs.getD i' .undef= .own q:=by rw[Dj,a5];rfl
    rw[e5]at hxv;have hc:JO O st.Js m w (av.getD i' undef) (.own q):=hxv;have hc:=hc.2;rw[hf _ _ a4]at hc;refine⟨⟨_,hf _ _ a4,trivial⟩,(fun ks' h=>by cases h),by rw[hs'];exact hc.symm,?_⟩;unfold Ai4;rw[hs',e5]
  obtain⟨hky,hk200,hkm,e7⟩:=hkey;refine⟨hky,hk200,?_,?_,fun b k i hi h=> ?_⟩
  .show _=innerS w (sg.J7.getD (bi j) (.agg [])) (av.getD (bi j) undef);rw[hbi];exact hkm
  .show IR Of w' (256*bi j) (innerS w (sg.J7.getD (bi j) (.agg [])) (av.getD (bi j) undef)) _;rw[hbi];exact c2
  .rw[hbi]at h;rw[hsome b k _ h (by omega)];unfold AfI;rw[A51];have e1:(256*i'+i) / 256=i':=by omega
   have e2:(256*i'+i) % 256=i:=by omega
   rw[e1,e2,e7]
 let NEW:=(Ld (b2 d) 16 sg.JP rs 0).2.2++(Ll (Nb fet) (rs.drop sg.JP.length) bxs 0).2.2;let BX:=(Ll (Nb fet) (rs.drop sg.JP.length) bxs 0).2.1;let objsF:=JL (Kz (JL st.Js (upd++BX)) del) NEW;have hnewO: ∀ p∈NEW,JA objsF p.1=some p.2:=fun p hp=>AaQ hnd hp
 have hBXk: ∀ i z,(i,z)∈BX-> ∃(j:Nat) (p:Nat×Sh),bxs[j]? =some p/\p.1=i/\ ∃ r,z=(O7 (Nb fet p.1) p.2 r).2.1:=by
  intro i z hz
  have: ∀(bs:List (Nat×Sh)) (j0:Nat),(i,z)∈(Ll (Nb fet) (rs.drop sg.JP.length) bs j0).2.1-> ∃(j:Nat) (p:Nat×Sh),bs[j]? =some p/\p.1=i/\ ∃ r,z=(O7 (Nb fet p.1) p.2 r).2.1:=by
   intro bs
   induction bs with
   | nil=>intro j0 h;simp [Ll]at h
   | cons b bs ih =>
    intro j0 h;obtain⟨q,ks⟩:=b;simp only[Ll]at h;rcases D7.1 h with h | h
    .injection h with h1 h2;exact⟨0,(q,ks),rfl,h1.symm,_,h2⟩
    .obtain⟨j,p,h1,h2⟩:=ih (j0+1) h;exact⟨j+1,p,by simpa using h1,h2⟩
  exact this bxs 0 hz
 have hupdk: ∀ i z,(i,z)∈upd->(∃ e l f,z= .arr e true l/\JA st.Js i=some (.arr e f l))/\JA (JL st.Js upd) i=some z:=by intro i z hz;obtain⟨e,fz,l,k1,k2⟩:=g3 _ hz;dsimp only at k1 k2;refine⟨⟨e,l,fz,k2,k1⟩,?_⟩;obtain⟨x,hx1,hx2⟩:=OO upd st.Js i ⟨(i,z),hz,rfl⟩;obtain⟨e',fz',l',k3,k4⟩:=g3 _ hx1;dsimp only at k3 k4;rw[k1]at k3;injection k3 with k3;injection k3 with q1 q2 q3;subst q1;subst q3;rw[hx2,k4,k2]
 have hnoBX: ∀ i,(∃ e f l,JA st.Js i=some (.arr e f l))-> ∀ y,(i,y)∉BX:=by rintro i ⟨e,f',l,h⟩ y hy;obtain⟨j,p,h1,h2,_⟩:=hBXk i y hy;obtain⟨⟨y',h3,h4⟩,_⟩:=hbx j p h1;rw[h2,h]at h3;injection h3 with h3;subst h3;exact Ae3 h4
 have hTiff: ∀ i,T i->i∈del\/ ∃ y,(i,y)∈BX:=by
  rintro i ⟨n,hn'⟩;have h1:(i,n)∈N:=Aeq hn';have h2:=(g4 i).2 (DI.2 ⟨_,h1,rfl⟩);rcases DK.1 h2 with h2 | h2
  .exact .inl h2
  .right;rw[<- AmY (Nb fet) (rs.drop sg.JP.length) bxs 0]at h2;obtain⟨q,hq1,hq2⟩:=DI.1 h2;exact⟨q.2,by rw[<- hq2];exact hq1⟩
 have hget: ∀ i z,JA objsF i=some z->(i,z)∈NEW\/(¬ Nw i/\i∉del/\((i,z)∈BX\/((∀ y,(i,y)∉BX)/\JA (JL st.Js upd) i=some z))):=by
  intro i z hz;rcases YN hz with h | ⟨hno,hnd',h⟩
  .exact .inl h
  .have hni: ¬ Nw i:=by rintro ⟨p,hp,rfl⟩;exact hno p.2 hp
   refine .inr ⟨hni,hnd',?_⟩;rcases h with h | ⟨h1,h2⟩
   .rcases DK.1 h with h | h
    .obtain⟨⟨e,l,f',h3,h4⟩,h5⟩:=hupdk i z h;exact .inr ⟨hnoBX i ⟨e,f',l,h4⟩,h5⟩
    .exact .inl h
   .right;refine⟨fun y hy=>h1 y (DF _ hy),?_⟩;rw[MR _ _ _ (fun p hp e=>h1 p.2 (D9 _ (by rw[<- e];exact hp)))];exact h2
 have hbxst: ∀ i z,(i,z)∈BX-> ∃ y,JA st.Js i=some y/\JA (JL st.Js upd) i=some y/\y.shp=z.shp:=by
  intro i z hz;obtain⟨j,p,h1,h2,r,h4⟩:=hBXk i z hz;obtain⟨⟨y,h3,h5⟩,_⟩:=hbx j p h1;rw[h2]at h3;refine⟨y,h3,?_,by rw[h4];exact Ax5 h5⟩;rw[MR _ _ _ (fun p hp e=> ?_)]
  .exact h3
  .obtain⟨⟨e1,e2,e3,_,h6⟩,_⟩:=hupdk p.1 p.2 hp;rw[e,h3]at h6;injection h6 with h6;rw[h6]at h5;exact Ae3 h5
 have hE:RN (JL st.Js upd) m objsF m2 Nw:=by
  intro i z hz;rcases hget i z hz with h | ⟨h1,h2,h | ⟨h3,h4⟩⟩
  .exact .inl ⟨_,h,rfl⟩
  .obtain⟨y,h5,h6,h7⟩:=hbxst i z h;exact .inr ⟨y,h6,h7,hm2not i h1⟩
  .exact .inr ⟨z,h4,rfl,hm2not i h1⟩
 obtain⟨r1,r2,r3⟩:=Aiy (objs':=objsF) (m':=m2) (cid:=256000) (cst:=256) (id:=b2 d) (stride:=16) (f:=fun k=>us.getD k undef) (g:=fun k=>innerS w' (sg.JP.getD k (.agg [])) (us.getD k undef)) (rs:=rs) hpf hnone sg.JP 0 (fun j _=>by rw[DT]) (fun j hj=>by have:=hus3 j (by rw[hus1];exact hj);rw[DT];exact this) hrres hokD (fun p hp=>hnewO p (D9 _ hp)) (fun p hp=>hm2 p (D9 _ hp))
 obtain⟨s1,s2⟩:=Ak5 (rb:=Nb fet) (objs':=objsF) (m':=m2) (val:=bval) (cid:=fun j=>256*bi j) (rs:=rs.drop sg.JP.length) hpf hnone bxs 0 (fun j p hp=>by
  obtain⟨⟨y0,h0,h0'⟩,h1,h2,h4,h5⟩:=hbx j p hp
  have hni: ¬ Nw p.1:=fun h=>by
   have:=(hNw p.1 h).Js;dsimp only at this;rw[MR _ _ _ (fun p' hp' e=> ?_)]at this
   .rw[h0]at this;cases this
   .obtain⟨⟨e1,e2,e3,_,h6⟩,_⟩:=hupdk p'.1 p'.2 hp';rw[e,h0]at h6;injection h6 with h6;rw[h6]at h0';exact Ae3 h0'
  rw[DT];refine⟨h1,by rw[hm2not _ hni];exact h2,?_,h5⟩;rw[Dj,FZ,<- Dj];exact h4) hokC (fun p hp=>hnewO p (DF _ hp)) (fun p hp=>hm2 p (DF _ hp))
 let vsR:=(Ld (b2 d) 16 sg.JP rs 0).2.1
 have hval:JJ O2 objsF m2 w' v (AoA vsR):=by
  have hlen:vsR.length=us.size:=by rw[r1,hus1]
  rw[hus2];by_cases h1:us.size=1
  .rw[Iq h1];obtain⟨x,hx'⟩: ∃ x,vsR=[x]:=FC.1 (by rw[hlen];exact h1);rw[hx'];have:=(r2 0 (by rw[<- hus1];omega)).1;have e1:(Ld (b2 d) 16 sg.JP rs 0).2.1.getD 0 .undef=x:=by show vsR.getD 0 .undef=x;rw[hx'];rfl
   rw[e1]at this;have e2:us.getD (0+0) undef=us[0]:=by simp [Du,show 0<us.size from by omega]
   rw[<- e2];exact this
  .rw[Jg h1]
   have e1:AoA vsR= .tup vsR:=by
    cases hv':vsR with
    | nil=>rfl
    | cons x l =>
     cases l with
     | nil=>rw[hv']at hlen;simp at hlen;omega
     | cons _ _=>rfl
   rw[e1];refine⟨us,rfl,hlen.symm,fun j hj=> ?_⟩;have hj':j<sg.JP.length:=by rw[<- r1];exact hj
   have:=r2 j hj';rw[DT]at this;exact this.1.A3O this.2
 refine hn O2 m2 _ _ ?_;refine hS1.next (T:=T) (Nw:=Nw) (x:=AoA vsR) hM hP2 hless2 hE (fun n hn'=>(hNw n hn').both) (fun q hq=> ?_) (fun i z hz=> ?_) rfl (fun _=>hval)
 .obtain⟨n,hn'⟩:=hq;have h1:(q,n)∈N:=Aeq hn';have h2:=halive _ h1;obtain⟨y,hy⟩:=EY.1 h2;have h3:=hf _ _ hy;by_cases hu: ∃ p∈upd,p.1=q
  .obtain⟨x,_,hx2⟩:=OO upd st.Js q hu;exact EY.2 ⟨x,hx2⟩
  .dsimp only;rw[MR _ _ _ (fun p hp e=>hu ⟨p,hp,e⟩)];exact EY.2 ⟨y,h3⟩
 .rcases hget i z hz with h | ⟨h1,h2,h | ⟨h3,h4⟩⟩
  .right;refine⟨?_,(hNw i ⟨_,h,rfl⟩).ne⟩;rcases DK.1 h with h | h
   .exact r3 _ h
   .exact s2 _ h
  .right;obtain⟨y,h5,h6,_⟩:=hbxst i z h;exact⟨s1 _ h,hS.ids i _ h5⟩
  .left;refine⟨fun ht=> ?_,h4,hm2not i h1⟩;rcases hTiff i ht with h | ⟨y,hy⟩
   .exact h2 h
   .exact h3 y hy
theorem Amx {c:Call} {f:Nat} {sg:Sig} {x0:Operand} (hS:Sim V0 O0 w0 O m st a w) (ho:o.op= .call c) (hcal:c.callee= .value x0) (hev:a.eval x0= .func (.func f) #[] #[]) (hsp:Spec P f sg) {d:Nat} {fet:Fet} (hf:Pz st.Js fet) {xs:List A}
 (hl:xs.length=c.args.size) (hx: ∀ j,j<xs.length->JJ O st.Js m w (a.eval (c.args.getD j (.tmp 0))) (xs.getD j .undef))
 (hok:JE (QA fet d sg xs).ok) (hfr: ∀ p∈(QA fet d sg xs).new,st.fresh p.1=true) (hnd:nodup ((QA fet d sg xs).new.map (·.1))=true):Good P V0 O0 w0 (apply st o (QA fet d sg xs)) o a w:=by
 refine Ai7 (av:=c.args.map a.eval) hS ho hcal hev (by simp) hsp hf (by simpa using hl) (fun j hj=> ?_) hok hfr hnd;have hjs:j<c.args.size:=by rw[<- hl];exact hj
 have e:(c.args.map a.eval).getD j undef=a.eval (c.args.getD j (.tmp 0)):=by simp [Du,hjs]
 rw[e];exact hx j hj
end
section
variable {P:Program} {C:Ctx} {V0:Nat->Value} {O0 O:Own} {w0 w:World} {m:Nat->Value} {st:St} {a:Act} {o:Oper}
theorem Avq {cs:List A} {r:Nat} (h:Avp cs=some r):cs=[.ptr r 0]:=by unfold Avp at h;all_goals grind[split]
theorem AyF {f:Nat} {x:Operand} (hS:Sim V0 O0 w0 O m st a w) (ho:o.op= .makeFunc (.func f) #[] #[x]) {fet:Fet} (hf:Pz st.Js fet) {x':A} (hx:JJ O st.Js m w (a.eval x) x') (hok:JE (AkC fet f x').ok) :
 Good P V0 O0 w0 (apply st o (AkC fet f x')) o a w:=by
 intro next Q hn
 have hF:FOk O st.Js m w fet:=fun q x h=>⟨hf q x h,hS.Js q x (hf q x h)⟩
 cases x' with
 | ptr q off =>
  unfold AkC at hok hn;dsimp only at hok hn;obtain⟨cs,hb,he⟩:=JW hok;rw[he]at hok hn;clear he;obtain⟨r,hr,he⟩:=JW hok;rw[he]at hok hn;clear he;have h0:=Dy hok.cons.1;subst h0;obtain rfl:=Avq hr;obtain⟨b,base,g1,g2,g3⟩:=hx.ptr hF (LW hb);obtain⟨k1,k2,u,k3,k4⟩:=g3 0 (by simp);rw[Nat.add_zero]at k1 k3 g2;let O':Own:=fun b' k'=>if b'=b/\k'=base then none else O b' k';have hO': ∀ b' k',O' b' k'=if b'=b/\k'=base then none else O b' k':=fun _ _=>rfl;have hrun:(execOp a.eval o).run P w= .ok (.value (.func (.func f) #[] #[a.eval x])) w:=by simp [execOp,ho,Instr.makeFunc]
  unfold Oper.wp;rw[hrun,Oper.upon_value];refine hn O' m _ _ ?_;have hP:Passes O O' (· =q) w.heap.size:=by refine⟨fun b' k' _ h=> ?_,fun b' k' o' _ h ht=> ?_⟩;all_goals grind[split]
  have hget: ∀ i y,JA (apply st o {ok:=[Nat.beq 0 0],val:=.clo (f+1) r,del:=[q]}).Js i=some y->i≠q/\JA st.Js i=some y:=by
   intro i y hy;rcases YN hy with h | ⟨_,h2,h | ⟨_,h⟩⟩
   .cases h
   .cases h
   .exact⟨fun e=>h2 (by rw[e];exact Dv),h⟩
  refine hS.next (T:=(· =q)) (Nw:=fun _=>False) (Moves.refl O _ w) hP (fun b' k' _ h h'=>h (by rw[hO',h'];split<;>rfl)) (fun i y hy=>.inr ⟨y,(hget i y hy).2,rfl,rfl⟩) (fun _ h=>h.elim)
   (fun o' h=>by rw[h,hf _ _ (LW hb)];rfl) (fun i y hy=>.inl ⟨(hget i y hy).1,(hget i y hy).2,rfl⟩) rfl (fun _=> ?_)
  show JO O' _ m w _ (.clo (f+1) r);have k4:JO O st.Js m w u (.ptr r 0):=k4;refine⟨rfl,u,k4.1,⟨b,base,by rw[g2];rfl,by rw[hO',Dn ⟨rfl,rfl⟩],k3⟩,?_⟩;cases hr':JA (apply st o {ok:=[Nat.beq 0 0],val:=.clo (f+1) r,del:=[q]}).Js r with
  | none=>trivial
  | some y =>
   have hy:=(hget r y hr').2;cases y with
   | box cs' =>have k4:=k4.2;rw[hy]at k4;exact k4
   | _=>trivial
 | _=>exact(JR hok).elim
theorem Azc {C:Ctx} {d:TypeDesc}: ∀(xs:List (Nat×A)) (cs cs':List A),fill C d xs cs=some cs'-> ∀ i∈cs'.flatMap A.Nz,i∈cs.flatMap A.Nz\/ ∃ x∈xs,i∈x.2.ids:=by
 intro xs
 induction xs with
 | nil=>intro cs cs' h i hi;simp only[fill]at h;injection h with h;rw[h];exact .inl hi
 | cons x xs ih =>
  intro cs cs' h i hi;obtain⟨k,x⟩:=x;simp only[fill]at h;cases hp:AfB C d k with
  | none=>rw[hp]at h;cases h
  | some q =>
   obtain⟨off,ti⟩:=q;rw[hp]at h;dsimp only at h;cases hb:(x.isVal&&Nat.beq x.cells.length ti.cs.length&&Nat.ble (off+ti.cs.length) cs.length)with
   | false=>rw[hb]at h;cases h
   | true =>
    rw[hb]at h;simp only[cond_true]at h;simp only[Dq]at hb;rcases ih _ _ h i hi with h1 | ⟨y,h1,h2⟩
    .unfold splice at h1;simp only[List.flatMap_append,DK]at h1;rcases h1 with (h1 | h1) | h1
     .left;obtain⟨c,hc,hci⟩:=Ep.1 h1;exact Ep.2 ⟨c,Gi hc,hci⟩
     .right;refine⟨(k,x),Dv,?_⟩;obtain⟨c,hc,hci⟩:=Ep.1 h1;obtain⟨j,hj,rfl⟩:=Gj.1 hc;all_goals grind[Adx]
     .left;obtain⟨c,hc,hci⟩:=Ep.1 h1;exact Ep.2 ⟨c,GI hc,hci⟩
    .exact .inr ⟨y,Dx _ h1,h2⟩
theorem AyC {t n:Nat} {ps:Array (Nat×Operand)} (hC:TOk P C) (hS:Sim V0 O0 w0 O m st a w) {d:Tmp} (hd:o.dst=some d) (ho:o.op= .buildSlice t n ps) {xs:List (Nat×A)}
 (hl:xs.length=ps.size) (hx: ∀(j:Nat) (x:Nat×A) (p:Nat×Operand),xs[j]? =some x->ps[j]? =some p->p.1=x.1/\JJ O st.Js m w (a.eval p.2) x.2)
 (hids: ∀ x∈xs,∀ i∈x.2.ids,i∈st.ids\/(JA st.Js i).isSome)
 (hok:JE (Adt C d t n xs).ok) (hfr: ∀ p∈(Adt C d t n xs).new,st.fresh p.1=true) (hnd:nodup ((Adt C d t n xs).new.map (·.1))=true):Good P V0 O0 w0 (apply st o (Adt C d t n xs)) o a w:=by
 unfold Adt at *
 obtain⟨ti,e,te,ht,hte,hd',he⟩:=Y3 hok;rw[he]at hok hfr hnd ⊢;clear he;obtain⟨cs,hcs,he⟩:=JW hok;rw[he]at hok hfr hnd ⊢;clear he;obtain⟨h0,h1⟩:=hok.cons;have hn:=DL h1.cons.1;have hk:=Am9 h0;have hk1:te.cs.length=1:=by rw[hk];rfl
 have hT:=hC.is hd';obtain⟨i,z,g1,g2,g3,g4,g5,g6⟩:=hT.i;have hu:=(hC.is ht).d;rw[hte]at hu;obtain⟨hz1,hz2⟩:=Abv (O:=O) (w:=w) hT (by rw[g1];exact g4) (by rw[hk];rfl) (by rw[hk1];decide) n;rw[hk1,Fj]at hz1
 have hz:S9 O st.Js m w (zeros z (n*te.cs.length)) (List.replicate n .Me):=by
  rw[hk1,Fj];refine⟨by rw[hz1,EH],fun j hj=> ?_⟩;rw[EH]at hj;obtain⟨u,k1,k2⟩:=hz2.2 j 0 (by simpa using hj) (by rw[hk1];decide);rw[hk1,Fj,Fj,Nat.add_zero]at k1;have e1:(zeros z n).getD j undef=u:=by rw[Du,k1];rfl
  have e2:(List.replicate n A.Me).getD j .undef= .Me:=by simp [Dj,hj]
  rw[e1,e2];have e3:((List.replicate n (te.cs.map CK.OV)).getD j []).getD 0 .undef= .Me:=by simp [Dj,hj,hk,CK.OV,CK.zero]
  rw[e3]at k2;exact k2
 obtain⟨vs',f1,f2⟩:=Apx (O:=O) (Js:=st.Js) (m:=m) (w:=w) hC (d:=.array n e) (place:=fun i=>some (i*te.cs.length,te.cs.length)) (fun i p hp=>by
  simp only[qZ,g1,Option.map_some]at hp;rw[<- hp];have:te.cs.length=_:=rfl;simp [g2]) xs (ps.map (fun(i,x)=>(i,a.eval x))).toList _ _ cs (by simp [hl]) (fun j x p hxj hpj=>by
  simp only[Ir,EC]at hpj;cases hq:ps.toList[j]? with
  | none=>rw[hq]at hpj;cases hpj
  | some q =>rw[hq]at hpj;injection hpj with hpj;subst hpj;exact hx j x q hxj (by simpa using hq)) hz hcs
 refine Amv (ks:=[]) (t:=e) (r:=.slice (some (at' w.heap.size 0)) n n) hS f2 (fun j hj i hi=> ?_) hd ?_ (fun O' objs' m' w' c hc hm=> ?_) hfr hnd
 .rcases Azc _ _ _ hcs i (UA (f:=A.Nz) hj hi)with h | ⟨x,h2,h3⟩
  .obtain⟨c,hc,hci⟩:=Ep.1 h;rw[Gt hc]at hci;cases hci
  .exact hids x h2 i h3
 .have hbig: ¬(16777216<n*te.cs.length):=by rw[hk1];omega
  simp only[execOp,ho,DJ,Instr.buildSlice,Ec hu,Result.andThen_ok,hT.PR];rw[Dk (by simpa using hbig)];by_cases h0:n*te.cs.length=0
  .have hz0:(Array.range (n*te.cs.length)).map ((#[]:Array Value)[· % (#[]:Array Value).size]!)=zeros z (n*te.cs.length):=by simp [zeros,h0]
   simp only[Dn h0,DJ,Sem.run_pure,Result.andThen_ok,hz0,f1];rfl
  .simp only[Dk h0,DJ,Sem.run_pure,Result.andThen_ok,zeroValue,typeInfo,run_program,g1,g4];have hz0:(Array.range (n*te.cs.length)).map (z.cells[· % z.cells.size]!)=zeros z (n*te.cs.length):=rfl;rw[hz0,f1];rfl
 .show JO O' objs' m' w' _ (.bsl (b2 d) n);refine⟨rfl,?_⟩;rw[hc];exact⟨w.heap.size,0,hm,rfl⟩
end
structure OG (P:Program) (C:Ctx):Prop where
 T:TOk P C
 G: ∀ f sg,C.G f=some sg->Spec P f sg
 alt: ∀ f q,C.alt f=some q->Spec P f q.1/\Spec P f q.2.1
 dyn: ∀ t F,C.dyn t=some F->(∀ xs,(F 0).ok xs=false)/\ ∀ f xs,(F (f+1)).ok xs=true->Spec P f (F (f+1))
theorem OG.put {P:Program} {C:Ctx} (h:OG P C) {f:Nat} {s:Sig} (hs:Spec P f s):OG P (C.put f s):=⟨h.T,fun k sg hk=>by
 have hk':(bif Nat.beq f k then some s else C.G k)=some sg:=hk;cases hb:Nat.beq f k with
 | true=>simp_all
 | false=>rw[hb]at hk';exact h.G k sg hk',h.alt,h.dyn⟩
def A2R {a b:A} (h:eqC a b=true):a=b:=by
 unfold eqC at h;split at h
 .rw[FB h]
 .rw[Dq]at h;rw[A.Ri h.1,FB h.2]
 .rw[FB h]
 .cases h
def AuA {fet:Fet} {x:A} {j:Nat} {δ :Dl} (h:JE (Ux fet x j δ).ok):JE δ.ok/\(Ux fet x j δ).val= δ.val/\(Ux fet x j δ).new= δ.new/\(Ux fet x j δ).upd= δ.upd/\(Ux fet x j δ).del= δ.del:=by
 unfold Ux at *
 cases x with
 | ptr q off =>
  dsimp only at h ⊢;cases hb:MB fet q with
  | none=>rw[hb]at h;exact⟨h,rfl,rfl,rfl,rfl⟩
  | some cs =>
   rw[hb]at h;dsimp only at h ⊢;cases hc:Nat.blt j cs.length&& δ.upd.all (fun p=> !(Nat.beq p.1 q)||Aj7 cs.length p.2)with
   | false=>rw[hc]at h;exact⟨h,rfl,rfl,rfl,rfl⟩
   | true =>
    rw[hc]at h;obtain⟨h1,h2⟩:=(show JE (δ.ok++_)from h).append;refine⟨h1,rfl,rfl,?_,rfl⟩;show δ.upd.map _= δ.upd
    conv=>rhs;rw[<- Gp δ.upd]
    refine E5 fun p hp=> ?_;have h3:=h2 _ (DI.2 ⟨p,hp,rfl⟩);cases hq:Nat.beq p.1 q with
    | false=>rfl
    | true =>
     rw[hq]at h3;have h3:eqU j (cs.getD j .undef) p.2=true:=h3;obtain⟨n,y⟩:=p;cases y with
     | box ds =>
      have h4:=A2R (show eqC (ds.getD j .undef) (cs.getD j .undef)=true from h3);show(n,Obj.box (ds.set j (cs.getD j .undef)))=(n,Obj.box ds);rw[<- h4];congr 2;apply Ji;intro i;rw[FN];by_cases hij:j=i
      .subst hij;rw[Dn rfl];by_cases hl:j<ds.length
       .simp [hl,Dj]
       .simp [hl]
      .rw[Dk hij]
     | _=>cases h3
 | _=>exact⟨h,rfl,rfl,rfl,rfl⟩
def AuC {fet:Fet} {xs:List A}: ∀(ks:List (Nat×Nat)) {δ :Dl},JE (keepD fet xs ks δ).ok->JE δ.ok/\(keepD fet xs ks δ).val= δ.val/\(keepD fet xs ks δ).new= δ.new/\(keepD fet xs ks δ).upd= δ.upd/\(keepD fet xs ks δ).del= δ.del:=by
 intro ks
 induction ks with
 | nil=>intro δ h;exact⟨h,rfl,rfl,rfl,rfl⟩
 | cons k ks ih =>intro δ h;obtain⟨i,j⟩:=k;obtain⟨h1,h2,h3,h4,h5⟩:=ih (δ :=Ux fet (xs.getD i .undef) j δ) h;obtain⟨g1,g2,g3,g4,g5⟩:=AuA h1;exact⟨g1,h2.trans g2,h3.trans g3,h4.trans g4,h5.trans g5⟩
def OG.decide {P:Program} {C:Ctx} (h:OG P C) (ds:List Nat) (b:Bool):OG P (C.decide ds b):=⟨h.T,h.G,h.alt,h.dyn⟩
section
variable {P:Program} {C:Ctx} {V0:Nat->Value} {O0 O:Own} {w0 w:World} {m:Nat->Value} {st:St} {a:Act} {o:Oper}
theorem len1 {xs:List A} (h:xs.length=1): ∃ x,xs=[x]:=FC.1 h
theorem Aem {xs:List A} (h:xs.length=2): ∃ x y,xs=[x,y]:=by
 match xs,h with
 | [x,y],_=>exact⟨x,y,rfl⟩
theorem AuH {xs:List A} (h:xs.length=3): ∃ x y z,xs=[x,y,z]:=by
 match xs,h with
 | [x,y,z],_=>exact⟨x,y,z,rfl⟩
theorem AjF {δ :Dl} (h:JE δ.ok) (e: δ = .no):False:=by rw[e]at h;exact JR h
theorem nT {t:Nat} {x:Operand} {lo hi:Option Operand} (hC:TOk P C) (hS:Sim V0 O0 w0 O m st a w) (ho:o.op= .slice t x lo hi none) {fet:Fet} (hf:Pz st.Js fet) {x':A} {lo' hi':Option A} (hx:JJ O st.Js m w (a.eval x) x')
 (hlo:ORl O st.Js m w (lo.map a.eval) lo') (hhi:ORl O st.Js m w (hi.map a.eval) hi') (hok:JE (MZ C fet t x' lo' hi').ok):Good P V0 O0 w0 (apply st o (MZ C fet t x' lo' hi')) o a w:=by
 cases x' with
 | str s=>exact(AxT hC ho rfl hx hlo hhi hok).good hS
 | sl l=>exact(A0e hC ho rfl hx hlo hhi hok).good hS
 | own q=>grind[Aoc]
 | _=>grind[MZ,Ky,JR]
theorem A06 {k:A->Dl} {v:List A} (h:JE (a1 k v).ok): ∃ x,v=[x]:=by
 match v,h with
 | [x],_=>exact⟨x,rfl⟩
 | [],h=>exact(JR h).elim
 | _::_::_,h=>exact(JR h).elim
theorem Ais {k:A->A->Dl} {v:List A} (h:JE (a2 k v).ok): ∃ x y,v=[x,y]:=by
 match v,h with
 | [x,y],_=>exact⟨x,y,rfl⟩
 | [],h=>exact(JR h).elim
 | [_],h=>exact(JR h).elim
 | _::_::_::_,h=>exact(JR h).elim
set_option maxHeartbeats 1000000 in
theorem Aqi (hCx:OG P C) (hS:Sim V0 O0 w0 O m st a w) {fet:Fet} (hf:Pz st.Js fet) {xs:List A} (hl:xs.length=o.op.operands.size) (hx: ∀ j,j<xs.length->JJ O st.Js m w (a.eval (o.op.operands.getD j (.tmp 0))) (xs.getD j .undef))
 (hids: ∀ x∈xs,∀ i∈x.ids,i∈st.ids\/(JA st.Js i).isSome)
 (hok:JE (opX C o xs fet).ok) (hfr: ∀ p∈(opX C o xs fet).new,st.fresh p.1=true) (hnd:nodup ((opX C o xs fet).new.map (·.1))=true):Good P V0 O0 w0 (apply st o (opX C o xs fet)) o a w:=by
 have hC:=hCx.T;have hF:FOk O st.Js m w fet:=fun q x h=>⟨hf q x h,hS.Js q x (hf q x h)⟩
 obtain⟨dst,op,ty,pos,after,guard⟩:=o;cases op with
 | move x =>obtain⟨x',rfl⟩:=len1 hl;exact(AmE (o:=⟨dst,.move x,ty,pos,after,guard⟩) (.inl rfl) (hx 0 (by simp))).good hS
 | assign x =>obtain⟨x',rfl⟩:=len1 hl;exact(AmE (o:=⟨dst,.assign x,ty,pos,after,guard⟩) (.inr rfl) (hx 0 (by simp))).good hS
 | pick c x y =>obtain⟨c',x',y',rfl⟩:=AuH hl;exact(AxD rfl (hx 0 (by simp)) (hx 1 (by simp)) (hx 2 (by simp)) hok).good hS
 | alloc t =>obtain rfl:xs=[]:=FQ hl;obtain⟨d,hd,he⟩:=JW (show JE (Kv dst fun d=>fV C d t).ok from hok);have e1:opX C ⟨dst,.alloc t,ty,pos,after,guard⟩ [] fet=fV C d t:=he;rw[e1]at hok hfr hnd ⊢;exact Aro hC hS hd rfl hok hfr hnd
 | box t x =>obtain⟨x',rfl⟩:=len1 hl;obtain⟨d,hd,he⟩:=JW (show JE (Kv dst fun d=>Ads C d t x').ok from hok);have e1:opX C ⟨dst,.box t x,ty,pos,after,guard⟩ [x'] fet=Ads C d t x':=he;rw[e1]at hok hfr hnd ⊢;exact Awh hC hS hd rfl (hx 0 (by simp)) (hids x' (by simp)) hok hfr hnd
 | build t ps =>
  have hps:xs.length=ps.size:=by rw[hl];simp [Op.operands]
  have e1:opX C ⟨dst,.build t ps,ty,pos,after,guard⟩ xs fet=Adu C t ((ps.toList.map (fun(p:Nat×Operand)=>p.1)).zip xs):=rfl;rw[e1]at hok ⊢;refine(AtI (o:=⟨dst,.build t ps,ty,pos,after,guard⟩) (ps:=ps) (xs:=(ps.toList.map (fun(p:Nat×Operand)=>p.1)).zip xs) hC rfl (by simp [hps]) (fun j x p hxj hpj=> ?_) hok).good hS;have hj:j<ps.size:=(Ea.1 hpj).1;have hjx:j<xs.length:=by omega
  rw[GV]at hxj;obtain⟨h1,h2⟩:=hxj;have:=hx j hjx;have e1:(Op.build t ps).operands.getD j (.tmp 0)=p.2:=by simp only[Op.operands];rw[Du];simp [hpj]
  have e2:xs.getD j .undef=x.2:=by rw[Dj,h2];rfl
  refine⟨?_,?_⟩
  .simp [hpj]at h1;exact h1
  .rw[<- e1,<- e2];exact this
 | buildSlice t n ps =>
  obtain⟨d,hd,he⟩:=JW (show JE (Kv dst fun d=>bif Ajz ((ps.toList.map (·.1)).zip xs)then Adt C d t n ((ps.toList.map (·.1)).zip xs)else Tf C fet d t n ((ps.toList.map (·.1)).zip xs)).ok from hok);have e1:opX C ⟨dst,.buildSlice t n ps,ty,pos,after,guard⟩ xs fet=bif Ajz ((ps.toList.map (·.1)).zip xs)then Adt C d t n ((ps.toList.map (·.1)).zip xs)else Tf C fet d t n ((ps.toList.map (·.1)).zip xs):=he;rw[e1]at hok hfr hnd ⊢;have hps:xs.length=ps.size:=by rw[hl];simp [Op.operands]
  have hz:((ps.toList.map (·.1)).zip xs).length=ps.size:=by simp [hps]
  have hxz: ∀(j:Nat) (x:Nat×A) (p:Nat×Operand),((ps.toList.map (·.1)).zip xs)[j]? =some x->ps[j]? =some p->p.1=x.1/\JJ O st.Js m w (a.eval p.2) x.2:=by
   intro j x p hxj hpj;have hj:j<ps.size:=(Ea.1 hpj).1;have hjx:j<xs.length:=by omega
   rw[GV]at hxj;obtain⟨h1,h2⟩:=hxj;have:=hx j hjx;have e1:(Op.buildSlice t n ps).operands.getD j (.tmp 0)=p.2:=by simp only[Op.operands];rw[Du];simp [hpj]
   have e2:xs.getD j .undef=x.2:=by rw[Dj,h2];rfl
   refine⟨?_,?_⟩
   .simp [hpj]at h1;exact h1
   .rw[<- e1,<- e2];exact this
  cases hp:Ajz ((ps.toList.map (·.1)).zip xs)with
  | false =>rw[hp]at hok hfr;exact Ai6 (o:=⟨dst,.buildSlice t n ps,ty,pos,after,guard⟩) (ps:=ps) hC hS hd rfl hf hz hxz hok hfr
  | true =>rw[hp]at hok hfr hnd;exact AyC (o:=⟨dst,.buildSlice t n ps,ty,pos,after,guard⟩) (ps:=ps) hC hS hd rfl hz hxz (fun x hx'=>hids x.2 (List.of_mem_zip hx').2) hok hfr hnd
 | load t x =>obtain⟨x',rfl⟩:=len1 hl;exact(AmC hC hF rfl (hx 0 (by simp)) hok).good hS
 | store t x y =>
  obtain⟨x',y',rfl⟩:=Aem hl;cases dst with
  | some d=>exact(JR hok).elim
  | none =>
   have e1:opX C ⟨none,.store t x y,ty,pos,after,guard⟩ [x',y'] fet=Wp C fet t x' y':=rfl;rw[e1]at hok hfr hnd ⊢;cases x' with
   | ptr q off=>exact Aod hC hS rfl rfl hf (hx 0 (by simp)) (hx 1 (by simp)) (hids y' (by simp)) hok hfr hnd
   | Kt q i off=>exact Aoe hC hS rfl rfl hf (hx 0 (by simp)) (hx 1 (by simp)) hok
   | _ =>exfalso;unfold Wp at hok;obtain⟨ti,ht,he⟩:=Ky hok;rw[he]at hok;exact JR hok
 | nilCheck x =>obtain⟨x',rfl⟩:=len1 hl;exact(An4 hF rfl (hx 0 (by simp)) hok).good hS
 | binOp op t x y t' =>obtain⟨x',y',rfl⟩:=Aem hl;exact(Ay7 hC hF rfl (hx 0 (by simp)) (hx 1 (by simp)) hok).good hS
 | unOp op t x =>obtain⟨x',rfl⟩:=len1 hl;exact(A2q rfl (hx 0 (by simp)) hok).good hS
 | convert s t x =>obtain⟨x',rfl⟩:=len1 hl;exact Awo (o:=⟨dst,.convert s t x,ty,pos,after,guard⟩) hC hS rfl hf (hx 0 (by simp)) hok hfr
 | makeSlice t l c =>obtain⟨l',c',rfl⟩:=Aem hl;obtain⟨d,hd,he⟩:=JW (show JE (Kv dst fun d=>Ab4 C d t l' c').ok from hok);have e1:opX C ⟨dst,.makeSlice t l c,ty,pos,after,guard⟩ [l',c'] fet=Ab4 C d t l' c':=he;rw[e1]at hok hfr ⊢;exact Axr hC hS hd rfl (hx 0 (by simp)) (hx 1 (by simp)) hok hfr
 | slice t x lo hi mx =>
  have hok':JE (slX C dst fet t lo hi mx xs).ok:=hok;show Good P V0 O0 w0 (apply st _ (slX C dst fet t lo hi mx xs)) _ a w;cases mx with
  | some _=>exfalso;cases lo<;>cases hi<;>exact JR hok'
  | none =>
   cases lo with
   | none =>
    cases hi with
    | none =>obtain⟨x',rfl⟩:=len1 (by simpa [Op.operands]using hl);exact nT (o:=⟨dst,.slice t x none none none,ty,pos,after,guard⟩) (lo:=none) (hi:=none) (lo':=none) (hi':=none) hC hS rfl hf (hx 0 (by simp)) trivial trivial hok'
    | some h =>
     obtain⟨x',h',rfl⟩:=Aem (by simpa [Op.operands]using hl)
     have plain:JE (MZ C fet t x' none (some h')).ok->Good P V0 O0 w0 (apply st ⟨dst,.slice t x none (some h) none,ty,pos,after,guard⟩ (MZ C fet t x' none (some h'))) ⟨dst,.slice t x none (some h) none,ty,pos,after,guard⟩ a w:=fun hok'' =>
      nT (o:=⟨dst,.slice t x none (some h) none,ty,pos,after,guard⟩) (lo:=none) (hi:=some h) (lo':=none) (hi':=some h') hC hS rfl hf (hx 0 (by simp)) trivial (hx 1 (by simp)) hok''
     cases dst with
     | none=>exact plain hok'
     | some d =>
      have hfr': ∀ p∈(slX C (some d) fet t none (some h) none [x',h']).new,st.fresh p.1=true:=hfr;have e1:slX C (some d) fet t none (some h) none [x',h']=bif has C.cuts d then AdB C fet d t x' h' else MZ C fet t x' none (some h'):=rfl;rw[e1]at hok' hfr' ⊢;cases hc:has C.cuts d with
      | false=>rw[hc]at hok';exact plain hok'
      | true =>rw[hc]at hok' hfr';exact AyJ (o:=⟨some d,.slice t x none (some h) none,ty,pos,after,guard⟩) hC hS rfl rfl hf (hx 0 (by simp)) (hx 1 (by simp)) hok' hfr'
   | some l =>
    cases hi with
    | none =>
     obtain⟨x',l',rfl⟩:=Aem (by simpa [Op.operands]using hl)
     have plain:JE (MZ C fet t x' (some l') none).ok->Good P V0 O0 w0 (apply st ⟨dst,.slice t x (some l) none none,ty,pos,after,guard⟩ (MZ C fet t x' (some l') none)) ⟨dst,.slice t x (some l) none none,ty,pos,after,guard⟩ a w:=fun hok'' =>
      nT (o:=⟨dst,.slice t x (some l) none none,ty,pos,after,guard⟩) (lo:=some l) (hi:=none) (lo':=some l') (hi':=none) hC hS rfl hf (hx 0 (by simp)) (hx 1 (by simp)) trivial hok''
     cases dst with
     | none=>exact plain hok'
     | some d =>
      have e1:slX C (some d) fet t (some l) none none [x',l']=bif has C.cuts d then Ach C fet t x' l' else MZ C fet t x' (some l') none:=rfl;rw[e1]at hok' ⊢;cases hc:has C.cuts d with
      | false=>rw[hc]at hok';exact plain hok'
      | true =>rw[hc]at hok';exact(Ayb (o:=⟨some d,.slice t x (some l) none none,ty,pos,after,guard⟩) hC hF rfl (hx 0 (by simp)) (hx 1 (by simp)) hok').good hS
    | some h =>obtain⟨x',l',h',rfl⟩:=AuH (by simpa [Op.operands]using hl);exact nT (o:=⟨dst,.slice t x (some l) (some h) none,ty,pos,after,guard⟩) (lo:=some l) (hi:=some h) (lo':=some l') (hi':=some h') hC hS rfl hf (hx 0 (by simp)) (hx 1 (by simp)) (hx 2 (by simp)) hok'
 | fieldAddr t x f =>obtain⟨x',rfl⟩:=len1 hl;exact(Ald hC hF rfl (hx 0 (by simp)) hok).good hS
 | field t x f =>obtain⟨x',rfl⟩:=len1 hl;exact(Auo hC rfl (hx 0 (by simp)) hok).good hS
 | indexAddr t x i =>obtain⟨x',i',rfl⟩:=Aem hl;exact(Alm hC hF rfl (hx 0 (by simp)) (hx 1 (by simp)) hok).good hS
 | index t x i =>obtain⟨x',i',rfl⟩:=Aem hl;exact(Au6 hC rfl (hx 0 (by simp)) (hx 1 (by simp)) hok).good hS
 | extract x i =>obtain⟨x',rfl⟩:=len1 hl;exact(Apv rfl (hx 0 (by simp)) hok).good hS
 | makeFunc fn fi cap =>
  cases fn with
  | func f =>
   have e1:opX C ⟨dst,.makeFunc (.func f) fi cap,ty,pos,after,guard⟩ xs fet=bif fi.isEmpty then a1 (AkC fet f) xs else .no:=rfl;rw[e1]at hok ⊢;cases hfi:fi.isEmpty with
   | false=>rw[hfi]at hok;exact(JR hok).elim
   | true =>
    rw[hfi]at hok;obtain⟨x',rfl⟩:=A06 (show JE (a1 (AkC fet f) xs).ok from hok);have hfi':fi= #[]:=by simpa using hfi
    subst hfi'
    have hcap: ∃ x,cap= #[x]:=by
     have:cap.size=1:=by simpa [Op.operands]using hl.symm
     exact⟨cap[0],by apply FI (by simp [this]);intro i h1 h2;have:i=0:=by omega
                     subst this;rfl⟩
    obtain⟨x,rfl⟩:=hcap;exact AyF (o:=⟨dst,.makeFunc (.func f) #[] #[x],ty,pos,after,guard⟩) hS rfl hf (hx 0 (by simp)) hok
  | _=>exfalso;exact AjF hok rfl
 | makeMap t r =>obtain⟨d,hd,he⟩:=JW (show JE (Kv dst fun d=>Ym C d t xs).ok from hok);have e1:opX C ⟨dst,.makeMap t r,ty,pos,after,guard⟩ xs fet=Ym C d t xs:=he;rw[e1]at hok hfr ⊢;exact ApR hC hS hd rfl (by rw[hl];rfl) hok hfr
 | lookup t x i c =>obtain⟨x',i',rfl⟩:=Aem hl;exact(ArN hC hF rfl (hx 0 (by simp)) (hx 1 (by simp)) hok).good hS
 | mapUpdate t x i y =>
  obtain⟨x',i',y',rfl⟩:=AuH hl;cases dst with
  | some d=>exact(JR hok).elim
  | none=>exact AgY (o:=⟨none,.mapUpdate t x i y,ty,pos,after,guard⟩) hC hS rfl (.inl rfl) hf (hx 0 (by simp)) (hx 1 (by simp)) (hx 2 (by simp)) hok
 | insert t x i y =>
  obtain⟨x',i',y',rfl⟩:=AuH hl;cases dst with
  | some d=>exact(JR hok).elim
  | none=>exact AgY (o:=⟨none,.insert t x i y,ty,pos,after,guard⟩) hC hS rfl (.inr rfl) hf (hx 0 (by simp)) (hx 1 (by simp)) (hx 2 (by simp)) hok
 | call c =>
  obtain⟨callee,args,ts⟩:=c;cases callee with
  | value fo =>
   cases fo with
   | func f =>
    have hl':xs.length=1+args.size:=by rw[hl];simp [Op.operands,Call.operands]
    obtain⟨x0,xs',rfl⟩: ∃ x0 xs',xs=x0::xs':=by
     cases xs with
     | nil=>simp at hl';omega
     | cons x0 xs'=>exact⟨x0,xs',rfl⟩
    have e1:opX C ⟨dst,.call ⟨.value (.func f),args,ts⟩,ty,pos,after,guard⟩ (x0::xs') fet=lY C fet (dst.getD 0) f xs':=rfl;rw[e1]at hok hfr hnd ⊢;cases hsg:C.G f with
    | none=>exfalso;unfold lY at hok;rw[hsg]at hok;exact JR hok
    | some sg =>
     have e3:lY C fet (dst.getD 0) f xs'=keepD fet xs' (C.kept f) (QA fet (dst.getD 0) sg xs'):=by unfold lY;rw[hsg]
     rw[e3]at hok hfr hnd ⊢;obtain⟨hok,k1,k2,k3,k4⟩:=AuC _ hok;rw[k2]at hfr hnd;have e4: ∀ o',apply st o' (keepD fet xs' (C.kept f) (QA fet (dst.getD 0) sg xs'))=apply st o' (QA fet (dst.getD 0) sg xs'):=fun o'=>by unfold apply;rw[k1,k2,k3,k4]
     rw[e4];refine Amx (x0:=.func f) hS rfl rfl rfl (hCx.G f sg hsg) hf (by simp at hl';show xs'.length=args.size;omega) (fun j hj=> ?_) hok hfr hnd;have:=hx (j+1) (by simpa using hj);have e2:(Op.call ⟨.value (.func f),args,ts⟩).operands.getD (j+1) (.tmp 0)=args.getD j (.tmp 0):=by simp only[Op.operands,Call.operands];rw[Du,Du,F9 (by simp)];simp
     rw[e2]at this;simpa using this
   | tmp t =>
    have hl':xs.length=1+args.size:=by rw[hl];simp [Op.operands,Call.operands]
    obtain⟨x0,xs',rfl⟩: ∃ x0 xs',xs=x0::xs':=by
     cases xs with
     | nil=>simp at hl';omega
     | cons x0 xs'=>exact⟨x0,xs',rfl⟩
    have e1:opX C ⟨dst,.call ⟨.value (.tmp t),args,ts⟩,ty,pos,after,guard⟩ (x0::xs') fet=Apl C fet (dst.getD 0) t x0 xs':=rfl;rw[e1]at hok hfr hnd ⊢;have h0:=hx 0 (by simp);have e0:(Op.call ⟨.value (.tmp t),args,ts⟩).operands.getD 0 (.tmp 0)= .tmp t:=by show(#[Operand.tmp t]++args).getD 0 (.tmp 0)= .tmp t;rw[Du,Fb (by simp)];rfl
    rw[e0]at h0;have h0:JJ O st.Js m w (a.eval (.tmp t)) x0:=h0;unfold Apl at hok hfr hnd ⊢;cases x0 with
    | fn n =>
     cases hsg:C.dyn t with
     | none=>rw[hsg]at hok;exact(JR hok).elim
     | some F =>
      rw[hsg]at hok hfr hnd;dsimp only at hok hfr hnd ⊢;obtain⟨hd1,hd2⟩:=hCx.dyn t F hsg;have hok2:=AoY hok;cases n with
      | zero=>rw[hd1]at hok2;cases hok2
      | succ f =>
       have hev:a.eval (.tmp t)= .func (.func f) #[] #[]:=by have h1:JC O w (a.eval (.tmp t)) (.fn (f+1)):=h0;generalize a.eval (.tmp t)=v at h1 ⊢;cases h1;rfl
       refine Amx (x0:=.tmp t) hS rfl rfl hev (hd2 f _ hok2) hf (by simp at hl';show xs'.length=args.size;omega) (fun j hj=> ?_) hok hfr hnd;have:=hx (j+1) (by simpa using hj);have e2:(Op.call ⟨.value (.tmp t),args,ts⟩).operands.getD (j+1) (.tmp 0)=args.getD j (.tmp 0):=by simp only[Op.operands,Call.operands];rw[Du,Du,F9 (by simp)];simp
       rw[e2]at this;simpa using this
    | clo f q =>
     obtain⟨cs,hb,he⟩:=JW hok;dsimp only at he hok hfr hnd ⊢;rw[he]at hok hfr hnd ⊢;clear he;have hc:JO O st.Js m w (a.eval (.tmp t)) (.clo f q):=h0;obtain⟨_,p,k5,⟨b,j0,k2,k3,k4⟩,hc⟩:=hc;cases hsg:C.dyn t with
     | none=>rw[hsg]at hok;exact(JR hok).elim
     | some F =>
      rw[hsg]at hok hfr hnd;dsimp only at hok hfr hnd ⊢;obtain⟨hd1,hd2⟩:=hCx.dyn t F hsg;have hok2:=AoY hok;cases f with
      | zero=>rw[hd1]at hok2;cases hok2
      | succ f =>
       have hlx:xs'.length=args.size:=by simp at hl';omega
       refine Ai7 (x0:=.tmp t) (caps:= #[.pointer (some (at' b j0))]) (av:=args.map a.eval++ #[.pointer (some (at' b j0))]) hS rfl rfl k2 rfl (hd2 f _ hok2) hf (by simp [hlx]) (fun j hj=> ?_) hok hfr hnd;rcases Ej j xs'.length with hjl | hjl
       .have:=hx (j+1) (by simpa using hjl);have e2:(Op.call ⟨.value (.tmp t),args,ts⟩).operands.getD (j+1) (.tmp 0)=args.getD j (.tmp 0):=by simp only[Op.operands,Call.operands];rw[Du,Du,F9 (by simp)];simp
        rw[e2]at this;have hjs:j<args.size:=by omega
        have e3:(args.map a.eval++ #[Value.pointer (some (at' b j0))]).getD j undef=a.eval (args.getD j (.tmp 0)):=by rw[Du,Fb (by simpa using hjs),Du];simp [hjs]
        have e4:(xs'++[A.clo 0 q]).getD j .undef=xs'.getD j .undef:=by simp [Dj,Es,hjl]
        rw[e3,e4];simpa using this
       .have hj':j=xs'.length:=by simp at hj;omega
        subst hj';have e3:(args.map a.eval++ #[Value.pointer (some (at' b j0))]).getD xs'.length undef= .pointer (some (at' b j0)):=by rw[hlx,Du,F9 (by simp)];simp
        have e4:(xs'++[A.clo 0 q]).getD xs'.length .undef= .clo 0 q:=by simp [Dj]
        rw[e3,e4];show JO O st.Js m w _ (.clo 0 q);exact⟨rfl,p,k5,⟨b,j0,rfl,k3,k4⟩,hc⟩
    | _=>exact(JR hok).elim
   | _=>exfalso;exact AjF hok rfl
  | builtin b =>
   have hok':JE (blX C ⟨dst,.call ⟨.builtin b,args,ts⟩,ty,pos,after,guard⟩ fet ts.toList b xs).ok:=hok;cases b with
   | len =>
    obtain⟨x',rfl⟩:=A06 (show JE (a1 _ xs).ok from hok')
    have hargs: ∃ x,args= #[x]:=by
     have:args.size=1:=by simpa [Op.operands,Call.operands]using hl.symm
     exact⟨args[0],by apply FI (by simp [this]);intro i h1 h2;have:i=0:=by omega
                      subst this;rfl⟩
    obtain⟨x,rfl⟩:=hargs;obtain⟨t,ht,he⟩:=JW (show JE (Kv (one? ts.toList) fun t=>Als C fet t x').ok from hok');have e1:opX C ⟨dst,.call ⟨.builtin .len,#[x],ts⟩,ty,pos,after,guard⟩ [x'] fet=Als C fet t x':=he;rw[e1]at hok ⊢;exact(Azz hC hF rfl rfl rfl (AmK ht) (hx 0 (by simp)) hok).good hS
   | copy =>
    obtain⟨x',y',rfl⟩:=Ais (show JE (a2 _ xs).ok from hok')
    have hargs: ∃ x y,args= #[x,y]:=by
     have:args.size=2:=by simpa [Op.operands,Call.operands]using hl.symm
     refine⟨args[0],args[1],?_⟩;apply FI (by simp [this]);intro i h1 h2;have:i=0\/i=1:=by omega
     rcases this with rfl | rfl<;>rfl
    obtain⟨x,y,rfl⟩:=hargs;exact Awp (o:=⟨dst,.call ⟨.builtin .copy,#[x,y],ts⟩,ty,pos,after,guard⟩) (ts':=ts.toList) hC hS rfl rfl rfl rfl hf (hx 0 (by simp)) (hx 1 (by simp)) hok'
   | append =>
    obtain⟨x',y',rfl⟩:=Ais (show JE (a2 _ xs).ok from hok')
    have hargs: ∃ x y,args= #[x,y]:=by
     have:args.size=2:=by simpa [Op.operands,Call.operands]using hl.symm
     refine⟨args[0],args[1],?_⟩;apply FI (by simp [this]);intro i h1 h2;have:i=0\/i=1:=by omega
     rcases this with rfl | rfl<;>rfl
    obtain⟨x,y,rfl⟩:=hargs;have e0:opX C ⟨dst,.call ⟨.builtin .append,#[x,y],ts⟩,ty,pos,after,guard⟩ [x',y'] fet=Ayz C ⟨dst,.call ⟨.builtin .append,#[x,y],ts⟩,ty,pos,after,guard⟩ fet ts.toList x' y':=rfl;rw[e0]at hok hfr ⊢;clear hok' e0;generalize hts:ts.toList=tl at hok hfr ⊢;unfold Ayz at hok hfr ⊢;split at hok
    .rename_i t u;dsimp only at hfr ⊢;obtain⟨tu,htu,he⟩:=Ky hok;rw[he]at hok hfr ⊢;obtain⟨d,hd,he⟩:=JW hok;rw[he]at hok hfr ⊢;obtain⟨h1,h2⟩:=hok.cons;exact Arp hC hS hd rfl rfl rfl hts htu h1 hf (hx 0 (by simp)) (hx 1 (by simp)) h2 hfr
    .exact(JR hok).elim
   | delete =>
    obtain⟨x',y',rfl⟩:=Ais (show JE (a2 _ xs).ok from hok')
    have hargs: ∃ x y,args= #[x,y]:=by
     have:args.size=2:=by simpa [Op.operands,Call.operands]using hl.symm
     refine⟨args[0],args[1],?_⟩;apply FI (by simp [this]);intro i h1 h2;have:i=0\/i=1:=by omega
     rcases this with rfl | rfl<;>rfl
    obtain⟨x,y,rfl⟩:=hargs;have e0:opX C ⟨dst,.call ⟨.builtin .delete,#[x,y],ts⟩,ty,pos,after,guard⟩ [x',y'] fet=(match ts.toList with | t::_=>zZ C fet t x' y' | []=>.no):=rfl;rw[e0]at hok ⊢;clear hok' e0;generalize hts:ts.toList=tl at hok ⊢;cases tl with
    | nil=>exact(JR hok).elim
    | cons t r=>exact Ar2 (o:=⟨dst,.call ⟨.builtin .delete,#[x,y],ts⟩,ty,pos,after,guard⟩) hC hS rfl rfl rfl hts hf (hx 0 (by simp)) (hx 1 (by simp)) hok
   | min =>
    obtain⟨x',y',rfl⟩:=Ais (show JE (a2 _ xs).ok from hok')
    have hargs: ∃ x y,args= #[x,y]:=by
     have:args.size=2:=by simpa [Op.operands,Call.operands]using hl.symm
     refine⟨args[0],args[1],?_⟩;apply FI (by simp [this]);intro i h1 h2;have:i=0\/i=1:=by omega
     rcases this with rfl | rfl<;>rfl
    obtain⟨x,y,rfl⟩:=hargs;exact(Az9 (o:=⟨dst,.call ⟨.builtin .min,#[x,y],ts⟩,ty,pos,after,guard⟩) rfl rfl rfl (hx 0 (by simp)) (hx 1 (by simp)) hok).good hS
   | max =>
    obtain⟨x',y',rfl⟩:=Ais (show JE (a2 _ xs).ok from hok')
    have hargs: ∃ x y,args= #[x,y]:=by
     have:args.size=2:=by simpa [Op.operands,Call.operands]using hl.symm
     refine⟨args[0],args[1],?_⟩;apply FI (by simp [this]);intro i h1 h2;have:i=0\/i=1:=by omega
     rcases this with rfl | rfl<;>rfl
    obtain⟨x,y,rfl⟩:=hargs;exact(Az6 (o:=⟨dst,.call ⟨.builtin .max,#[x,y],ts⟩,ty,pos,after,guard⟩) rfl rfl rfl (hx 0 (by simp)) (hx 1 (by simp)) hok).good hS
   | _=>exfalso;exact JR hok'
  | invoke r mth=>exfalso;exact AjF hok rfl
 | _=>exfalso;exact AjF hok rfl
end
end Go.Proofs.YtmgpaalplkkpnaaGreatDoor.Vm
