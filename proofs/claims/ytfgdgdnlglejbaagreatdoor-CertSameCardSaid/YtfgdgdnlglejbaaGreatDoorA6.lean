import Derived.Test.YtfgdgdnlglejbaaGreatDoorA5
import Derived.Calls
set_option linter.all false
namespace Go.Proofs.YtfgdgdnlglejbaaGreatDoor.Vm
open Classical
def AzN (k:Nat):Nat:=256000+256*k
def Ahm:A->A
 | .agg cs=>.box cs
 | a=>a
def L6:List Sh->Nat->List Nat
 | [],_=>[]
 | s::ss,i=>bif KH s then i::L6 ss (i+1)else L6 ss (i+1)
structure Came (O:Own) (w:World) (vs:Array Value) (sg:Sig) (rs:List A) (v:Value) (O':Own) (w':World):Prop where
 moves:Moves O (fun o=>o≠255) w w'
 less: ∀ b k,b<w.heap.size->O' b k≠none->O b k≠none
 zD: ∀ b k,b<w.heap.size->O b k=some 255->O' b k=some 255
 count:rs.length=sg.JJ.length+(L6 sg.J6 0).length
 res: ∃ us:Array Value,us.size=sg.JJ.length/\v=(if h:us.size=1 then us[0]else .tuple us)/\ ∀ k,k<us.size->IR O' w' (AzN k) (us.getD k undef) (rs.getD k .undef)
 boxes: ∀ j i,(L6 sg.J6 0)[j]? =some i->IR O' w' (256*i) (innerS w (sg.J6.getD i (.agg [])) (vs.getD i undef)) (Ahm (rs.getD (sg.JJ.length+j) .undef))
def Spec (P:Program) (f:FuncId) (sg:Sig):Prop :=
 (∀ args w,(callFunc f args).run P w= .ok (.enter f args) w) /\
 ∀(O:Own) (w:World) (vs:Array Value) (xs rs:List A),Inv O w->vs.size=xs.length->xs.length=sg.J6.length->xs.length<=100->(∀ j,j<xs.length->IR O w (256*j) (vs.getD j undef) (xs.getD j .undef))->sg.F xs=some rs ->
  Calls P f vs w fun e w'=> ∃ v O',e= .returned v/\Came O w vs sg rs v O' w'
section
variable {P:Program} {C:Ctx} {V0:Nat->Value} {O0 O:Own} {w0 w:World} {m:Nat->Value} {st:St} {a:Act} {o:Oper}
def Zy (w:World) (f:Nat->Value) (id stride:Nat):List Sh->List A->Nat->List (Nat×Value)
 | [],_,_=>[]
 | s::ss,rs,j=>(back (id+stride*j) s (rs.getD j .undef)).2.2.map (fun p=>(p.1,O7 w (f j) (p.1 - (id+stride*j))))++Zy w f id stride ss rs (j+1)
def AtH (w:World) (f:Nat->Value) (id stride:Nat): ∀(ss:List Sh) (rs:List A) (j:Nat),(Zy w f id stride ss rs j).map (·.1)=(Le id stride ss rs j).2.2.map (·.1):=by
 intro ss
 induction ss with
 | nil=>intro rs j;rfl
 | cons s ss ih=>intro rs j;simp [Zy,Le,ih]
def Aw0 {k:CK} {c:A} (hp:k.plain=true) (h:JD (force k c).1):(force k c).2.isVal=true:=by
 cases k<;>first
  | (cases hp;done)
  | (have h1:=h.cons.1;cases c<;>first | rfl | (cases h1;done))
def AjU {Oc O':Own} {objs':List (Nat×Obj)} {m':Nat->Value} {cid cst id stride:Nat} {f g:Nat->Value} {rs:List A} (hp:N9 Oc w O' w) (hn: ∀ b k,Oc b k=none->O' b k=none): ∀(ss:List Sh) (j0:Nat),(∀ j,j<ss.length->g (j0+j)=innerS w (ss.getD j (.agg [])) (f (j0+j))) ->
 (∀ j,j<ss.length->IR Oc w (cid+cst*(j0+j)) (f (j0+j)) (rs.getD (j0+j) .undef))->(∀ j,j<ss.length-> ∀ b k i,i<255->Oc b k=some (cid+cst*(j0+j)+i)->O' b k=some (id+stride*(j0+j)+i)) ->
 JD (Le id stride ss rs j0).1->(∀ p∈(Le id stride ss rs j0).2.2,J9 objs' p.1=some p.2)->(∀ p∈Zy w g id stride ss rs j0,m' p.1=p.2) ->
 (Le id stride ss rs j0).2.1.length=ss.length/\(∀ j,j<ss.length->JH O' objs' m' w (f (j0+j)) ((Le id stride ss rs j0).2.1.getD j .undef)/\((Le id stride ss rs j0).2.1.getD j .undef).isVal=true) /\
   ∀ p∈(Le id stride ss rs j0).2.2,LK O' objs' m' w p.1 p.2:=by
 intro ss
 induction ss with
 | nil=>intro j0 _ _ _ _ _ _;exact⟨rfl,fun j hj=>by simp at hj,fun p hp=>by simp [Le]at hp⟩
 | cons s ss ih =>
  intro j0 hg h hr hok hO hm;simp only[Le]at hok hO ⊢;simp only[Zy]at hm;obtain⟨hok1,hok2⟩:=hok.append
  obtain⟨g1,g2,g3⟩:=ih (j0+1) (fun j hj=>by have:=hg (j+1) (by simpa using hj);rwa [show j0+(j+1)=j0+1+j from by omega]at this) (fun j hj=>by have:=h (j+1) (by simpa using hj);rwa [show j0+(j+1)=j0+1+j from by omega]at this)
   (fun j hj=>by have:=hr (j+1) (by simpa using hj);rwa [show j0+(j+1)=j0+1+j from by omega]at this) hok2 (fun p hp=>hO p (DD _ hp)) (fun p hp=>hm p (DD _ hp))
  have h0:=h 0 (by simp);have hr0:=hr 0 (by simp);have hg0:g (j0+0)=innerS w s (f (j0+0)):=hg 0 (by simp);rw[Nat.add_zero]at h0 hr0 hg0;obtain⟨k1,k2⟩:=AvO (id:=id+stride*j0) (m':=m') (objs':=objs') hp hn h0 hr0 hok1 (fun p hp=>hO p (DF _ hp)) (fun p hp i hi=>by have:=hm (p.1,O7 w (g j0) (p.1 - (id+stride*j0))) (DF _ (DJ.2 ⟨p,hp,rfl⟩));rw[this,hi,G6,hg0]);refine⟨by simp [g1],fun j hj=> ?_,fun p hp=> ?_⟩
  .cases j with
   | zero =>
    refine⟨k1,?_⟩;show((back (id+stride*j0) s (rs.getD j0 .undef)).2.1).isVal=true;cases s with
    | agg ks=>rfl
    | box ks=>rfl
    | clo f' ks=>rfl
    | map kt vt=>rfl
    | cell u' k =>
     have hpl:k.plain=true:=by simp only[back]at hok1;exact hok1.append.2.cons.1
     cases u' with
     | true=>cases k<;>first | (cases hpl;done) | rfl | (exfalso;have:=hok1 false (by simp [back,JW]);cases this)
     | false =>
      have hf:JD (force k (rs.getD j0 .undef)).1:=by have h1:=hok1;simp only[back,JW]at h1;exact h1.append.1.append.1
      show(force k (rs.getD j0 .undef)).2.isVal=true;exact Aw0 hpl hf
   | succ j =>have:=g2 j (by simpa using hj);rw[show j0+(j+1)=j0+1+j from by omega];simpa using this
  .rcases DV.1 hp with hp | hp
   .exact k2 p hp
   .exact g3 p hp
def look (N:List (Nat×Nat)) (q:Nat):Option Nat:=(N.find? (fun p=>p.1==q)).map (·.2)
def Aq8 {N:List (Nat×Nat)} (hnd:nodup (N.map (·.1))=true): ∀ p∈N,look N p.1=some p.2:=by
 induction N with
 | nil=>intro p hp;cases hp
 | cons q N ih =>
  intro p hp;simp only[Ee,nodup,Dw,E5]at hnd;unfold look;rcases D8.1 hp with rfl | hp
  .simp
  .have hne:q.1≠p.1:=fun e=>by
    have:has (N.map (·.1)) q.1=true:=Qa.2 (DJ.2 ⟨p,hp,e.symm⟩);rw[this]at hnd;cases hnd.1
   rw[H8 (by simpa using hne)];exact ih hnd.2 p hp
def AfE {N:List (Nat×Nat)} {q i:Nat} (h:look N q=some i):(q,i)∈N:=by
 unfold look at h;cases hf:N.find? (fun p=>p.1==q)with
 | none=>rw[hf]at h;cases h
 | some p =>
  rw[hf]at h;injection h with h;have h1:=List.find?_some hf;have h2:=List.mem_of_find?_eq_some hf;have:p.1=q:=by simpa using h1
  rw[<- this,<- h];exact h2
def Acx (N:List (Nat×Value)) (q:Nat):Option Value:=(N.find? (fun p=>p.1==q)).map (·.2)
def AwI {N:List (Nat×Value)} (hnd:nodup (N.map (·.1))=true): ∀ p∈N,Acx N p.1=some p.2:=by
 induction N with
 | nil=>intro p hp;cases hp
 | cons q N ih =>
  intro p hp;simp only[Ee,nodup,Dw,E5]at hnd;unfold Acx;rcases D8.1 hp with rfl | hp
  .simp
  .have hne:q.1≠p.1:=fun e=>by
    have:has (N.map (·.1)) q.1=true:=Qa.2 (DJ.2 ⟨p,hp,e.symm⟩);rw[this]at hnd;cases hnd.1
   rw[H8 (by simpa using hne)];exact ih hnd.2 p hp
def AuM {N:List (Nat×Value)} {q:Nat} (h:q∉N.map (·.1)):Acx N q=none:=by unfold Acx;rw[List.find?_eq_none.2 (fun p hp=>by simp;exact fun e=>h (DJ.2 ⟨p,hp,e⟩))];rfl
def JH.A2s {Ju:List (Nat×Obj)} {v:Value} {x:A} (h:JH O Ju m w v x) (hv:x.isVal=true):T1 O Ju m w v x:=by cases x<;>first | (cases hv;done) | exact h
def ZT {fet:Fet}: ∀(ks:List (Bool×CK)) (cs:List A) (id:Nat),JD (JE fet ks cs).1-> ∀ p∈MC id ks cs,(J9 fet p.1).isSome/\ ∃ x,x<ks.length/\p.2=id+x:=by
 intro ks
 induction ks with
 | nil=>intro cs id _ p hp;cases cs<;>simp [MC]at hp
 | cons k ks ih =>
  intro cs id hok p hp;obtain⟨u,k⟩:=k;cases cs with
  | nil=>cases u<;>simp [MC]at hp
  | cons c cs =>
   have step:JD (JE fet ks cs).1->p∈MC (id+1) ks cs->(J9 fet p.1).isSome/\ ∃ x,x<((u,k)::ks).length/\p.2=id+x:=by intro h1 h2;obtain⟨h3,x,h4,h5⟩:=ih cs (id+1) h1 p h2;exact⟨h3,x+1,by simpa using h4,by omega⟩
   cases u with
   | false =>
    have hnm:MC id ((false,k)::ks) (c::cs)=MC (id+1) ks cs:=by cases c<;>rfl
    rw[hnm]at hp;simp only[JE]at hok;exact step hok.append.2 hp
   | true =>
    cases k with
    | sl e sz =>
     cases c with
     | own q =>
      simp only[JE]at hok;cases hg:J9 fet q with
      | none=>rw[hg]at hok;have:=hok false (by simp);cases this
      | some y =>
       cases y with
       | box _=>rw[hg]at hok;have:=hok false (by simp);cases this
       | mp _=>rw[hg]at hok;have:=hok false (by simp);cases this
       | arr e' fz l =>
        rw[hg]at hok;simp only[MC]at hp;rcases D8.1 hp with rfl | hp
        .exact⟨by rw[hg];rfl,0,by simp,rfl⟩
        .exact step hok.append.2 hp
     | LJ =>simp only[JE]at hok;exact step hok hp
     | _=>have:=hok false (by simp [JE]);cases this
    | sln e sz =>
     cases c with
     | own q =>
      simp only[JE]at hok;cases hg:J9 fet q with
      | none=>rw[hg]at hok;have:=hok false (by simp);cases this
      | some y =>
       cases y with
       | box _=>rw[hg]at hok;have:=hok false (by simp);cases this
       | mp _=>rw[hg]at hok;have:=hok false (by simp);cases this
       | arr e' fz l =>
        rw[hg]at hok;simp only[MC]at hp;rcases D8.1 hp with rfl | hp
        .exact⟨by rw[hg];rfl,0,by simp,rfl⟩
        .exact step hok.append.2 hp
     | LJ =>simp only[JE]at hok;exact step hok hp
     | _=>have:=hok false (by simp [JE]);cases this
    | bx t =>
     cases c with
     | ptr q off =>
      simp only[JE]at hok;cases hg:MQ fet q with
      | none=>rw[hg]at hok;have:=hok false (by simp);cases this
      | some zs =>
       rw[hg]at hok;simp only[MC]at hp;rcases D8.1 hp with rfl | hp
       .exact⟨by rw[MH hg];rfl,0,by simp,rfl⟩
       .exact step hok.cons.2.append.2 hp
     | _=>have:=hok false (by simp [JE]);cases this
    | _=>have:=hok false (by simp [JE]);cases this
def AqH {fet:Fet} {s:Sh} {x:A} {id:Nat} (hok:JD (JY fet s x).ok): ∀ p∈Py fet id s x,(J9 fet p.1).isSome/\ ∃ i,p.2=id+i/\(i<202\/(∃ ks,s= .agg ks)):=by
 intro p hp;cases s with
 | cell u k =>
  simp only[Py]at hp
  have hh:JD (JE fet [(u,k)] [x]).1:=by
   unfold JY at hok;dsimp only at hok;generalize JE fet [(u,k)] [x]=r at *
   obtain⟨ok,cs,upd,del⟩:=r;cases cs with
   | nil=>have:=hok false (by simp);cases this
   | cons c cs =>
    cases cs with
    | nil=>exact hok
    | cons _ _=>have:=hok false (by simp);cases this
  obtain⟨h1,i,h2,h3⟩:=ZT _ _ _ hh p hp;exact⟨h1,i,h3,.inl (by simp at h2;omega)⟩
 | agg ks =>
  cases x with
  | agg cs =>simp only[Py]at hp;obtain⟨h1,i,h2,h3⟩:=ZT _ _ _ (show JD (JE fet ks cs).1 from hok) p hp;exact⟨h1,1+i,by omega,.inr ⟨ks,rfl⟩⟩
  | _=>cases hp
 | box ks =>
  cases x with
  | ptr q off =>
   simp only[Py]at hp;unfold JY at hok;dsimp only at hok;cases hg:MQ fet q with
   | none=>rw[hg]at hok;have:=hok false (by simp);cases this
   | some cs =>
    rw[hg]at hok hp;dsimp only at hok hp;obtain⟨_,hokA⟩:=hok.cons;obtain⟨hf,hokB⟩:=hokA.cons;have hf:=DR hf;rcases D8.1 hp with rfl | hp
    .exact⟨by rw[MH hg];rfl,0,rfl,.inl (by omega)⟩
    .obtain⟨h1,i,h2,h3⟩:=ZT _ _ _ hokB p hp;exact⟨h1,1+i,by omega,.inl (by omega)⟩
  | _=>cases hp
 | clo f' ks =>
  cases x with
  | clo g q =>
   simp only[Py]at hp;unfold JY at hok;dsimp only at hok;cases hg:MQ fet q with
   | none=>rw[hg]at hok;have:=hok false (by simp);cases this
   | some cs =>
    rw[hg]at hok hp;dsimp only at hok hp;obtain⟨_,hokA⟩:=hok.cons;obtain⟨hf,hokB⟩:=hokA.cons;have hf:=DR hf;rcases D8.1 hp with rfl | hp
    .exact⟨by rw[MH hg];rfl,0,rfl,.inl (by omega)⟩
    .obtain⟨h1,i,h2,h3⟩:=ZT _ _ _ hokB p hp;exact⟨h1,1+i,by omega,.inl (by omega)⟩
  | _=>cases hp
 | map kt vt =>
  cases x with
  | own q =>
   obtain rfl:p=(q,id):=by simpa [Py]using hp
   unfold JY at hok;dsimp only at hok;cases hg:J9 fet q with
   | none=>rw[hg]at hok;have:=hok false (by simp);cases this
   | some y=>exact⟨rfl,0,rfl,.inl (by omega)⟩
  | _=>cases hp
def kU {fet:Fet} {stride:Nat}: ∀(ss:List Sh) (xs:List A) (id:Nat),JD (JU fet ss xs).1-> ∀ p∈Ob fet id stride ss xs,(J9 fet p.1).isSome:=by
 intro ss
 induction ss with
 | nil=>intro xs id _ p hp;cases xs<;>simp [Ob]at hp
 | cons s ss ih =>
  intro xs id hok p hp;cases xs with
  | nil=>simp [Ob]at hp
  | cons x xs =>
   simp only[JU]at hok;obtain⟨h1,h2⟩:=hok.append;rcases DV.1 hp with hp | hp
   .exact(AqH h1 p hp).1
   .exact ih xs _ h2 p hp
def Moves.A0U {ρ :Nat->Option Nat} {w w':World} (h:Moves (PK O ρ) (fun o=>o≠255) w w'):Moves O (fun o=> ∃ i,ρ o=some i) w w':=by
 refine⟨h.os,h.tape,h.output,h.size,fun b hb=> ?_⟩
 have un: ∀ k i,PK O ρ b k=some i->i≠255-> ∃ q,O b k=some q/\ ∃ i,ρ q=some i:=by
  intro k i hr hne;unfold PK at hr;cases hO:O b k with
  | none=>rw[hO]at hr;cases hr
  | some q =>
   rw[hO]at hr;dsimp only at hr;cases hρ : ρ q with
   | none=>rw[hρ]at hr;injection hr with hr;exact absurd hr.symm hne
   | some j=>exact⟨q,rfl,j,hρ⟩
 rcases h.blk b hb with he | ⟨c,c',e,fr,h1,h2,h3,h4,k,q,h5,h6,h7⟩ | ⟨es,ck,es',ck',q,h1,h2,h3,h4⟩
 .exact .inl he
 .refine .inr (.inl ⟨c,c',e,fr,h1,h2,h3,fun k hk=>h4 k (fun i hi hne=> ?_),k,?_⟩)
  .obtain⟨q,hq,hρ⟩:=un k i hi hne;exact hk q hq hρ
  .obtain⟨q',hq',hρ⟩:=un k q h6 h7;exact⟨q',h5,hq',hρ⟩
 .obtain⟨q',hq',hρ⟩:=un 0 q h3 h4;exact .inr (.inr ⟨es,ck,es',ck',q',h1,h2,hq',hρ⟩)
end
section
variable {P:Program} {C:Ctx} {V0:Nat->Value} {O0 O:Own} {w0 w:World} {m:Nat->Value} {st:St} {a:Act} {o:Oper}
def A0Z (fet:Fet) (p:Nat×Sh) (x:Option A):Sh->Prop
 | .box ks=>(∃ cs,J9 fet p.1=some (.box cs))/\x=some (.ptr p.1 0)/\ks.length<=200/\p.2= .box ks
 | .clo k ks=>(∃ cs,J9 fet p.1=some (.box cs))/\x=some (.clo k p.1)/\ks.length<=200/\p.2= .box ks
 | .map kt vt=>(∃ l,J9 fet p.1=some (.mp l))/\x=some (.own p.1)/\p.2= .map kt vt
 | _=>False
def AxQ {fet:Fet} {stride:Nat}: ∀(ss:List Sh) (xs:List A) (id i0:Nat),JD (JU fet ss xs).1 ->
 (JU fet ss xs).2.2.2.2.length=(L6 ss i0).length/\ ∀(j:Nat) (p:Nat×Sh),(JU fet ss xs).2.2.2.2[j]? =some p-> ∃ i,(L6 ss i0)[j]? =some (i0+i)/\i<ss.length/\(p.1,id+stride*i)∈Ob fet id stride ss xs/\ ∃ s,ss[i]? =some s/\A0Z fet p xs[i]? s:=by
 intro ss
 induction ss with
 | nil=>intro xs id i0 hok;cases xs with
  | nil=>exact⟨rfl,fun j p h=>by simp [JU]at h⟩
  | cons _ _=>have:=hok false (by simp [JU]);cases this
 | cons s ss ih =>
  intro xs id i0 hok;cases xs with
  | nil=>have:=hok false (by simp [JU]);cases this
  | cons x xs =>
   simp only[JU]at hok ⊢;obtain⟨h1,h2⟩:=hok.append;obtain⟨g1,g2⟩:=ih xs (id+stride) (i0+1) h2;have hrest: ∀(j:Nat) (p:Nat×Sh),(JU fet ss xs).2.2.2.2[j]? =some p-> ∃ i,(L6 ss (i0+1))[j]? =some (i0+i)/\i<(s::ss).length/\(p.1,id+stride*i)∈Ob fet id stride (s::ss) (x::xs)/\ ∃ s',(s::ss)[i]? =some s'/\A0Z fet p (x::xs)[i]? s':=by intro j p hp;obtain⟨i,a1,a2,a3,s',a4,a5⟩:=g2 j p hp;refine⟨i+1,by rw[a1];congr 1;omega,by simpa using a2,DD _ ?_,s',by simpa using a4,by simpa using a5⟩;rw[show id+stride*(i+1)=id+stride+stride*i from by rw[IX];omega];exact a3
   cases s with
   | box ks =>
    cases x with
    | ptr q off =>
     have hA:JD (JY fet (.box ks) (.ptr q off)).ok:=h1;unfold JY at h1;dsimp only at h1;cases hg:MQ fet q with
     | none=>rw[hg]at h1;have:=h1 false (by simp);cases this
     | some cs =>
      rw[hg]at h1;dsimp only at h1;obtain⟨h3,h4⟩:=h1.cons;obtain⟨h4,_⟩:=h4.cons;have h3:=Dx h3;have h4:=DR h4;subst h3;have hb:(JY fet (.box ks) (.ptr q 0)).boxes=[(q,.box ks)]:=by unfold JY;dsimp only;rw[hg]
      rw[hb];refine⟨by simp [L6,KH,g1],fun j p hp=> ?_⟩;cases j with
      | zero =>simp at hp;subst hp;exact⟨0,by simp [L6,KH],by simp,DF _ (by simp [Py]),_,rfl,⟨cs,MH hg⟩,rfl,h4,rfl⟩
      | succ j =>
       have hp':(JU fet ss xs).2.2.2.2[j]? =some p:=by simpa using hp
       obtain⟨i,a1,a2⟩:=hrest j p hp';exact⟨i,by simpa [L6,KH]using a1,a2⟩
    | _=>have:=h1 false (by simp [JY]);cases this
   | clo f' ks =>
    cases x with
    | clo g q =>
     have hA:JD (JY fet (.clo f' ks) (.clo g q)).ok:=h1;unfold JY at h1;dsimp only at h1;cases hg:MQ fet q with
     | none=>rw[hg]at h1;have:=h1 false (by simp);cases this
     | some cs =>
      rw[hg]at h1;dsimp only at h1;obtain⟨h3,h4⟩:=h1.cons;obtain⟨h4,_⟩:=h4.cons;have h3:=Dx h3;have h4:=DR h4;subst h3;have hb:(JY fet (.clo f' ks) (.clo f' q)).boxes=[(q,.box ks)]:=by unfold JY;dsimp only;rw[hg]
      rw[hb];refine⟨by simp [L6,KH,g1],fun j p hp=> ?_⟩;cases j with
      | zero =>simp at hp;subst hp;exact⟨0,by simp [L6,KH],by simp,DF _ (by simp [Py]),_,rfl,⟨cs,MH hg⟩,rfl,h4,rfl⟩
      | succ j =>
       have hp':(JU fet ss xs).2.2.2.2[j]? =some p:=by simpa using hp
       obtain⟨i,a1,a2⟩:=hrest j p hp';exact⟨i,by simpa [L6,KH]using a1,a2⟩
    | _=>have:=h1 false (by simp [JY]);cases this
   | cell u k =>
    have hb:(JY fet (.cell u k) x).boxes=[]:=by unfold JY;dsimp only;split<;>rfl
    rw[hb];exact⟨by simpa [L6,KH]using g1,fun j p hp=>by simpa [L6,KH]using hrest j p (by simpa using hp)⟩
   | agg ks =>
    have hb:(JY fet (.agg ks) x).boxes=[]:=by unfold JY;cases x<;>rfl
    rw[hb];exact⟨by simpa [L6,KH]using g1,fun j p hp=>by simpa [L6,KH]using hrest j p (by simpa using hp)⟩
   | map kt vt =>
    cases x with
    | own q =>
     unfold JY at h1;dsimp only at h1;cases hg:J9 fet q with
     | none=>rw[hg]at h1;have:=h1 false (by simp);cases this
     | some y =>
      cases y with
      | box _=>rw[hg]at h1;have:=h1 false (by simp);cases this
      | arr _ _ _=>rw[hg]at h1;have:=h1 false (by simp);cases this
      | mp l =>
       have hb:(JY fet (.map kt vt) (.own q)).boxes=[(q,.map kt vt)]:=by unfold JY;dsimp only;rw[hg]
       rw[hb];refine⟨by simp [L6,KH,g1],fun j p hp=> ?_⟩;cases j with
       | zero =>simp at hp;subst hp;exact⟨0,by simp [L6,KH],by simp,DF _ (by simp [Py]),_,rfl,⟨l,hg⟩,rfl,rfl⟩
       | succ j =>
        have hp':(JU fet ss xs).2.2.2.2[j]? =some p:=by simpa using hp
        obtain⟨i,a1,a2⟩:=hrest j p hp';exact⟨i,by simpa [L6,KH]using a1,a2⟩
    | _=>have:=h1 false (by simp [JY]);cases this
def Xk (rb:Nat->Nat) (w:World) (vf:Nat->Value) (rs:List A):List (Nat×Sh)->Nat->List (Nat×Value)
 | [],_=>[]
 | (o,s)::r,j=>(OA (rb o) s (rs.getD j .undef)).2.2.map (fun p=>(p.1,O7 w (vf j) (p.1 - rb o)))++Xk rb w vf rs r (j+1)
def Amb (rb:Nat->Nat) (w:World) (vf:Nat->Value) (rs:List A): ∀(bs:List (Nat×Sh)) (j:Nat),(Xk rb w vf rs bs j).map (·.1)=(Lh rb rs bs j).2.2.map (·.1):=by
 intro bs
 induction bs with
 | nil=>intro j;rfl
 | cons b bs ih=>intro j;obtain⟨q,ks⟩:=b;simp [Xk,Lh,ih]
def Aor (rb:Nat->Nat) (rs:List A): ∀(bs:List (Nat×Sh)) (j:Nat),(Lh rb rs bs j).2.1.map (·.1)=bs.map (·.1):=by
 intro bs
 induction bs with
 | nil=>intro j;rfl
 | cons b bs ih=>intro j;obtain⟨q,ks⟩:=b;simp [Lh,ih]
def ApO {rb:Nat} {Oc O':Own} {objs':List (Nat×Obj)} {m':Nat->Value} {v:Value} {cid q:Nat} {s:Sh} {r:A} (hp:N9 Oc w O' w) (hn: ∀ b k,Oc b k=none->O' b k=none)
 (hs: ∀ ks,s= .box ks->ks.length<=200) (hmq:m' q=v) (hir:IR Oc w cid v (Ahm r)) (hr: ∀ b k i,i<255->Oc b k=some (cid+i)->O' b k=some (if i=0 then q else rb+i))
 (hok:JD (OA rb s r).1) (hO: ∀ p∈(OA rb s r).2.2,J9 objs' p.1=some p.2) (hm: ∀ p∈(OA rb s r).2.2,m' p.1=O7 w v (p.1 - rb)) :
 LK O' objs' m' w q (OA rb s r).2.1/\ ∀ p∈(OA rb s r).2.2,LK O' objs' m' w p.1 p.2:=by
 cases s with
 | cell _ _=>have:=hok false (by simp [OA]);cases this
 | agg _=>have:=hok false (by simp [OA]);cases this
 | clo _ _=>have:=hok false (by simp [OA]);cases this
 | map kt vt =>simp only[OA]at hok ⊢;obtain⟨l,rfl,_,_⟩:=Acs hok.cons.1;refine⟨?_,fun p hp=>by cases hp⟩;show PX O' w q (m' q) l;rw[hmq];exact PX.carry (show PX Oc w cid v l from hir) hp (fun b k hb=>by have:=hr b k 0 (by omega) hb;exact this)
 | box ks =>
  have hf:=hs ks rfl;simp only[OA]at hok hO hm ⊢;obtain⟨hok0,hok1⟩:=hok.cons;cases r with
  | agg cs =>
   have hl:cs.length=ks.length:=by simpa [A.isAgg,XV]using hok0
   obtain⟨bk,base,h1,h2⟩:=(show IR Oc w cid v (.box cs)from hir)
   have hcell: ∀ j,O7 w v (j+1)=(w.cell? (at' bk (base+j))).getD undef:=by intro j;rw[h1];rfl
   obtain⟨k1,k2,k3⟩:=Ub (objs':=objs') (m':=m') (cid:=cid+1) (id:=rb+1) (f:=fun j=>(w.cell? (at' bk (base+j))).getD undef) hp hn ks cs 0 (fun j hj=>by
    obtain⟨_,_,u,h5,h6⟩:=h2 j (by omega);rw[DT,h5];exact h6) (fun b k i hi hb=>by
    have:=hr b k (1+i) (by omega) (by rw[<- EJ];exact hb);rw[Du (by omega),<- EJ]at this;exact this) hok1 hO (fun p hp i hi=>by
    have:=hm p hp;rw[this,hi,show rb+1+i - rb=i+1 from by omega,hcell])
   refine⟨⟨bk,base,by rw[hmq];exact h1,fun j hj=> ?_⟩,fun p hp=>(k3 p hp).1⟩;have hj:j<(JW (rb+1) ks cs 0).2.1.length:=hj;rw[k1]at hj;obtain⟨a1,a2,u,a3,_⟩:=h2 j (by omega);have:=k2 j hj;rw[DT,a3]at this;exact⟨by have:=hr bk (base+j) 0 (by omega) a1;exact this,a2,u,a3,this⟩
  | _=>cases hok0
def Amc {rb:Nat->Nat} {Oc O':Own} {objs':List (Nat×Obj)} {m':Nat->Value} {val:Nat->Value} {cid:Nat->Nat} {rs:List A} (hp:N9 Oc w O' w) (hn: ∀ b k,Oc b k=none->O' b k=none): ∀(bs:List (Nat×Sh)) (j0:Nat),
 (∀(j:Nat) (p:Nat×Sh),bs[j]? =some p->(∀ ks,p.2= .box ks->ks.length<=200)/\m' p.1=val (j0+j)/\IR Oc w (cid (j0+j)) (val (j0+j)) (Ahm (rs.getD (j0+j) .undef))/\ ∀ b k i,i<255->Oc b k=some (cid (j0+j)+i)->O' b k=some (if i=0 then p.1 else rb p.1+i)) ->
 JD (Lh rb rs bs j0).1->(∀ p∈(Lh rb rs bs j0).2.2,J9 objs' p.1=some p.2)->(∀ p∈Xk rb w val rs bs j0,m' p.1=p.2) ->
 (∀ p∈(Lh rb rs bs j0).2.1,LK O' objs' m' w p.1 p.2)/\ ∀ p∈(Lh rb rs bs j0).2.2,LK O' objs' m' w p.1 p.2:=by
 intro bs
 induction bs with
 | nil=>intro j0 _ _ _ _;exact⟨fun p hp=>by simp [Lh]at hp,fun p hp=>by simp [Lh]at hp⟩
 | cons b bs ih =>
  intro j0 h hok hO hm;obtain⟨q,s⟩:=b;simp only[Lh]at hok hO ⊢;simp only[Xk]at hm;obtain⟨hok1,hok2⟩:=hok.append;obtain⟨g1,g2⟩:=ih (j0+1) (fun j p hj=>by have:=h (j+1) p (by simpa using hj);rwa [show j0+(j+1)=j0+1+j from by omega]at this) hok2 (fun p hp=>hO p (DD _ hp)) (fun p hp=>hm p (DD _ hp));obtain⟨hf,hmq,hir,hr⟩:=h 0 (q,s) rfl;rw[Nat.add_zero]at hmq hir hr;obtain⟨k1,k2⟩:=ApO (objs':=objs') (m':=m') (rb:=rb q) (q:=q) hp hn hf hmq hir hr hok1 (fun p hp=>hO p (DF _ hp)) (fun p hp=>hm (p.1,O7 w (val j0) (p.1 - rb q)) (DF _ (DJ.2 ⟨p,hp,rfl⟩)));refine⟨fun p hp=> ?_,fun p hp=> ?_⟩
  .rcases D8.1 hp with rfl | hp
   .exact k1
   .exact g1 p hp
  .rcases DV.1 hp with hp | hp
   .exact k2 p hp
   .exact g2 p hp
end
section
variable {P:Program} {C:Ctx} {V0:Nat->Value} {O0 O:Own} {w0 w:World} {m:Nat->Value} {st:St} {a:Act} {o:Oper}
def Akb (ss:List Sh) (xs:List A) (i:Nat):Option Nat:=match ss.getD i (.agg []),xs.getD i .undef with
 | .map _ _,.own o=>some o
 | .clo _ _,.clo _ o=>some o
 | .box _,.clo _ o=>some o
 | .clo _ _,.ptr o _=>some o
 | _,.ptr o _=>some o
 | _,_=>none
def Ahr (rb:Nat->Nat) (d:Nat) (ss:List Sh) (xs:List A) (n:Nat):Option Nat :=
 if 256000<=n then some (b2 d+16*((n - 256000) / 256)+(n - 256000) % 256)
 else match Akb ss xs (n / 256)with
  | some q=>some (if n % 256=0 then q else rb q+n % 256)
  | none=>none
def Ap5:Sh->Obj->Prop
 | .box _,.box _=>True
 | .map _ _,.mp _=>True
 | _,_=>False
def AfQ {s:Sh} {e:Nat} {f:Bool} {l:Sl} (h:Ap5 s (.arr e f l)):False:=by cases s<;>exact h
def AwZ {s:Sh} {y:Obj} {rb:Nat} {r:A} (h:Ap5 s y):y.shp=(OA rb s r).2.1.shp:=by cases s<;>cases y<;>first | exact h.elim | rfl
def ApS {d:Nat} {fet:Fet} {sg:Sig} {xs:List A} (h:JD (QV fet d sg xs).ok):sg.ok (qW fet sg.J6 xs).vs=true:=by unfold QV Apt at h;exact h.append.1.append.1.append.1.append.2.cons.1
def Ake {c:Call} {f:Nat} {sg:Sig} {x0:Operand} {caps av:Array Value} (hS:Sim V0 O0 w0 O m st a w) (ho:o.op= .call c) (hcal:c.callee= .value x0) (hev:a.eval x0= .func (.func f) #[] caps) (hav:c.args.map a.eval++caps=av) (hsp:Spec P f sg) {d:Nat} {fet:Fet} (hf:PG st.Ju fet) {xs:List A}
 (hl:xs.length=av.size) (hx: ∀ j,j<xs.length->JH O st.Ju m w (av.getD j undef) (xs.getD j .undef))
 (hok:JD (QV fet d sg xs).ok) (hfr: ∀ p∈(QV fet d sg xs).new,st.fresh p.1=true) (hnd:nodup ((QV fet d sg xs).new.map (·.1))=true):Good P V0 O0 w0 (apply st o (QV fet d sg xs)) o a w:=by
 intro next Q hn
 unfold QV at hok hfr hnd hn;generalize hH:qW fet sg.J6 xs=H at *
 obtain⟨hok1,vsA,upd,del,bxs⟩:=H;have hHs:JU fet sg.J6 xs=(hok1,vsA,upd,del,bxs):=by unfold qW at hH;injection hH with q1 q2 q3 q4 q5;rw[<- q1,<- q2,<- q3,<- q4,<- q5]
 dsimp only at hok hfr hnd hn;unfold Apt at hok;obtain⟨hokA,hokB⟩:=hok.append;obtain⟨hokA,hokC⟩:=hokA.append;obtain⟨hokA,hokD⟩:=hokA.append;obtain⟨hokA,hokE⟩:=hokA.append;obtain⟨hN,hokB⟩:=hokB.cons;obtain⟨h100,hokB⟩:=hokB.cons;have h100:=DR h100;have hF:sg.F vsA=some (sg.val vsA):=by have:=hokE.cons.1;unfold Sig.F;rw[this];rfl
 have hokA':JD (JU fet sg.J6 xs).1:=by rw[hHs];exact hokA
 generalize sg.val vsA=rs at hF hfr hnd hn hokB hokC hokD;simp only[Apt]at hfr hnd hn hokB hokC hokD;have hcnt:=Dx hokB.cons.1;obtain⟨g1,g2,g3,g4,g5⟩:=kM (W:=upd=[]) hf hS.Ju 256 sg.J6 xs 0 (fun j=>av.getD j undef) (fun e=>by have:=hokB.cons.2.cons.1;rw[e]at this;simpa using this) hx hokA';obtain⟨b1,b2'⟩:=AxQ (fet:=fet) (stride:=256) sg.J6 xs 0 0 hokA';have halive:=kU (fet:=fet) (stride:=256) sg.J6 xs 0 hokA';rw[hHs]at g1 g3 g4 g5 b1 b2';dsimp only at g1 g3 g4 g5 b1 b2';generalize hNs:Ob fet 0 256 sg.J6 xs=N at *
 obtain⟨O1,hS1,hp1,hle1,hv1,hE1,hk1⟩:=hS.freezes _ g3;let ρ :=look N;have hρ : ∀ p∈N,ρ p.1=some p.2:=Aq8 hN;have hupdO: ∀ p∈upd,LK O1 (JI st.Ju upd) m w p.1 p.2:=by intro p hp;obtain⟨x,hx1,hx2⟩:=OY upd st.Ju p.1 ⟨p,hp,rfl⟩;obtain⟨e,fz,l,k1,k2⟩:=g3 p hp;obtain⟨e',fz',l',k3,k4⟩:=g3 _ hx1;dsimp only at k3 k4;rw[k1]at k3;injection k3 with k3;injection k3 with q1 q2 q3;subst q1;subst q3;rw[k2,<- k4];exact hS1.Ju p.1 x hx2
 have hIR:=g5 hp1 hv1 hupdO hk1 hρ;have hargs:av.size=vsA.length:=by rw[<- hl,g2,g1]
 have hexec:(execOp a.eval o).run P w= .ok (.enter f av) w:=by simp only[execOp,ho,resolve,hcal,hev,Deferred.ofValue,DI,Sem.run_pure,Result.andThen_ok,invoke];have:=hsp.1 av w;simpa [hav]using this
 unfold Oper.wp;rw[hexec,Oper.upon_enter];refine(hsp.2 (PK O1 ρ) w av vsA rs ⟨fun g j p ht=>⟨aU.2 (hS1.AkR.1 g j p ht).1,(hS1.AkR.1 g j p ht).2⟩,hS1.AkR.2⟩ hargs g1 (by rw[g1,<- g2];exact h100) (fun j hj=> ?_) hF).mono ?_
 .have:=hIR j (by rw[<- g1];exact hj);rw[DT]at this;exact this
 rintro e w' ⟨v,Of,rfl,hcame⟩;dsimp only;obtain⟨us,hus1,hus2,hus3⟩:=hcame.res;let T:Nat->Prop:=fun q=> ∃ i,ρ q=some i;let O2:Own:=fun b k=>if b<w.heap.size then(match O1 b k with | none=>none | some q=>if T q then(Of b k).bind (Ahr (Np fet) d sg.J6 xs)else some q)else(Of b k).bind (Ahr (Np fet) d sg.J6 xs);have hM:Moves O1 T w w':=hcame.moves.A0U;have hO2lt: ∀ {b k},b<w.heap.size->O2 b k=(match O1 b k with | none=>none | some q=>if T q then(Of b k).bind (Ahr (Np fet) d sg.J6 xs)else some q):=fun hb=>Dt hb;have hP2:Passes O1 O2 T w.heap.size:=by refine⟨fun b k hb h=>by rw[hO2lt hb,h],fun b k q hb h ht=> ?_⟩;rw[hO2lt hb,h];exact Du ht
 have hless2: ∀ b k,b<w.heap.size->O2 b k≠none->O1 b k≠none:=by intro b k hb h h';rw[hO2lt hb,h']at h;exact h rfl
 have hnone: ∀ b k,Of b k=none->O2 b k=none:=by
  intro b k h;by_cases hb:b<w.heap.size
  .rw[hO2lt hb];cases hO:O1 b k with
   | none=>rfl
   | some q =>
    by_cases ht:T q
    .show(if T q then _ else _)=_;rw[Dt ht,h];rfl
    .exfalso
     have hr:PK O1 ρ b k=some 255:=by
      unfold PK;rw[hO]
      have: ρ q=none:=by
       cases hh: ρ q with
       | none=>rfl
       | some i=>exact absurd ⟨i,hh⟩ ht
      simp [this]
     have:=hcame.zD b k hb hr;rw[h]at this;cases this
  .show(if _ then _ else _)=_;rw[Du hb,h];rfl
 have hsome: ∀ b k n,Of b k=some n->n≠255->O2 b k=Ahr (Np fet) d sg.J6 xs n:=by
  intro b k n h hne;by_cases hb:b<w.heap.size
  .rw[hO2lt hb];have h1:=hcame.less b k hb (by rw[h];simp);rw[Ne,aU]at h1;cases hO:O1 b k with
   | none=>exact absurd hO h1
   | some q =>
    by_cases ht:T q
    .show(if T q then _ else _)=_;rw[Dt ht,h];rfl
    .exfalso
     have hr:PK O1 ρ b k=some 255:=by
      unfold PK;rw[hO]
      have: ρ q=none:=by
       cases hh: ρ q with
       | none=>rfl
       | some i=>exact absurd ⟨i,hh⟩ ht
      simp [this]
     have:=hcame.zD b k hb hr;rw[h]at this;injection this with this;exact hne this
  .show(if _ then _ else _)=_;rw[Du hb,h];rfl
 have hpf:N9 Of w' O2 w':=fun b k u h hc=>⟨hnone b k h,hc⟩
 have hbcnt:bxs.length=(L6 sg.J6 0).length:=b1;let bi:Nat->Nat:=fun j=>(L6 sg.J6 0).getD j 0;let bval:Nat->Value:=fun j=>innerS w (sg.J6.getD (bi j) (.agg [])) (av.getD (bi j) undef);let HV:=Zy w' (fun k=>innerS w' (sg.JJ.getD k (.agg [])) (us.getD k undef)) (b2 d) 16 sg.JJ rs 0++Xk (Np fet) w' bval (rs.drop sg.JJ.length) bxs 0;have hHVf:HV.map (·.1)=((Le (b2 d) 16 sg.JJ rs 0).2.2++(Lh (Np fet) (rs.drop sg.JJ.length) bxs 0).2.2).map (·.1):=by simp only[HV,ET,AtH,Amb]
 have hHVn:nodup (HV.map (·.1))=true:=by rw[hHVf];exact hnd
 let m2:Nat->Value:=fun i=>(Acx HV i).getD (m i);have hm2: ∀ p∈HV,m2 p.1=p.2:=by intro p hp;show(Acx HV p.1).getD _=_;rw[AwI hHVn p hp];rfl
 let Nw:Nat->Prop:=fun i=> ∃ p∈(Le (b2 d) 16 sg.JJ rs 0).2.2++(Lh (Np fet) (rs.drop sg.JJ.length) bxs 0).2.2,p.1=i;have hNw: ∀ i,Nw i->Q8 {st with Ju:=JI st.Ju upd} i:=by rintro i ⟨p,hp,rfl⟩;exact(NC (hfr p hp)).frz g3
 have hm2not: ∀ i,¬ Nw i->m2 i=m i:=by
  intro i hi;show(Acx HV i).getD _=_;rw[AuM (fun h=> ?_)]
  .rfl
  .rw[hHVf]at h;obtain⟨p,hp,hpe⟩:=DJ.1 h;exact hi ⟨p,hp,hpe⟩
 have hrres: ∀ j,j<sg.JJ.length-> ∀ b k i,i<255->Of b k=some (256000+256*(0+j)+i)->O2 b k=some (b2 d+16*(0+j)+i):=by
  intro j hj b k i hi h;rw[hsome b k _ h (by omega)];unfold Ahr;rw[Dt (by omega),DT];have e1:(256000+256*j+i - 256000) / 256=j:=by omega
  have e2:(256000+256*j+i - 256000) % 256=i:=by omega
  rw[e1,e2]
 have hbx: ∀(j:Nat) (p:Nat×Sh),bxs[j]? =some p->(∃ y,J9 st.Ju p.1=some y/\Ap5 p.2 y)/\(∀ ks,p.2= .box ks->ks.length<=200)/\m p.1=bval j/\IR Of w' (256*bi j) (bval j) (Ahm (rs.getD (sg.JJ.length+j) .undef)) /\
  ∀ b k i,i<255->Of b k=some (256*bi j+i)->O2 b k=some (if i=0 then p.1 else Np fet p.1+i):=by
  intro j p hp;obtain⟨i',a1,a2,a3,s',a7,a4⟩:=b2' j p hp;rw[DT]at a1;have hbi:bi j=i':=by show(L6 sg.J6 0).getD j 0=_;rw[Dn,a1];rfl
  have c2:=hcame.boxes j i' a1;have hi'x:i'<xs.length:=by rw[g2];exact a2
  have hxv:=hx i' hi'x;have hF':FOk O st.Ju m w fet:=fun q x h=>⟨hf q x h,hS.Ju q x (hf q x h)⟩
  have hkey:(∃ y,J9 st.Ju p.1=some y/\Ap5 p.2 y)/\(∀ ks,p.2= .box ks->ks.length<=200)/\m p.1=innerS w (sg.J6.getD i' (.agg [])) (av.getD i' undef)/\Akb sg.J6 xs i'=some p.1:=by
   obtain⟨q,s⟩:=p;have hs':sg.J6.getD i' (.agg [])=s':=by rw[Dn,a7];rfl
   cases s' with
   | cell _ _=>exact a4.elim
   | agg _=>exact a4.elim
   | box ks =>
    obtain⟨⟨cs0,a4⟩,a5,a6,a8⟩:=a4;dsimp only at a8;subst a8;have e5:xs.getD i' .undef= .ptr q 0:=by rw[Dn,a5];rfl
    rw[e5]at hxv;obtain⟨bk,base,k1,k2,_⟩:=hxv.ptr hF' a4;refine⟨⟨_,hf _ _ a4,trivial⟩,(fun ks' h=>by injection h with h;rw[<- h];exact a6),by rw[hs'];dsimp only at k1 ⊢;rw[k1,k2,Nat.add_zero];rfl,?_⟩;unfold Akb;rw[hs',e5]
   | clo f' ks =>
    obtain⟨⟨cs0,a4⟩,a5,a6,a8⟩:=a4;dsimp only at a8;subst a8;have e5:xs.getD i' .undef= .clo f' q:=by rw[Dn,a5];rfl
    rw[e5]at hxv;have hc:JP O st.Ju m w (av.getD i' undef) (.clo f' q):=hxv;obtain⟨_,p',_,hc2,hc⟩:=hc;rw[hf _ _ a4]at hc;obtain⟨b',base',e1,e2⟩:=hc;have hc:nM O w f' (av.getD i' undef) (m q):=by rw[e1,<- e2];exact hc2
    refine⟨⟨_,hf _ _ a4,trivial⟩,(fun ks' h=>by injection h with h;rw[<- h];exact a6),by rw[hs'];exact hc.inner.symm,?_⟩;unfold Akb;rw[hs',e5]
   | map kt vt =>
    obtain⟨⟨l,a4⟩,a5,a8⟩:=a4;dsimp only at a8;subst a8;have e5:xs.getD i' .undef= .own q:=by rw[Dn,a5];rfl
    rw[e5]at hxv;have hc:JP O st.Ju m w (av.getD i' undef) (.own q):=hxv;have hc:=hc.2;rw[hf _ _ a4]at hc;refine⟨⟨_,hf _ _ a4,trivial⟩,(fun ks' h=>by cases h),by rw[hs'];exact hc.symm,?_⟩;unfold Akb;rw[hs',e5]
  obtain⟨hky,hk200,hkm,e7⟩:=hkey;refine⟨hky,hk200,?_,?_,fun b k i hi h=> ?_⟩
  .show _=innerS w (sg.J6.getD (bi j) (.agg [])) (av.getD (bi j) undef);rw[hbi];exact hkm
  .show IR Of w' (256*bi j) (innerS w (sg.J6.getD (bi j) (.agg [])) (av.getD (bi j) undef)) _;rw[hbi];exact c2
  .rw[hbi]at h;rw[hsome b k _ h (by omega)];unfold Ahr;rw[Du (by omega)];have e1:(256*i'+i) / 256=i':=by omega
   have e2:(256*i'+i) % 256=i:=by omega
   rw[e1,e2,e7]
 let NEW:=(Le (b2 d) 16 sg.JJ rs 0).2.2++(Lh (Np fet) (rs.drop sg.JJ.length) bxs 0).2.2;let BX:=(Lh (Np fet) (rs.drop sg.JJ.length) bxs 0).2.1;let objsF:=JI (Ky (JI st.Ju (upd++BX)) del) NEW;have hnewO: ∀ p∈NEW,J9 objsF p.1=some p.2:=fun p hp=>AbB hnd hp
 have hBXk: ∀ i z,(i,z)∈BX-> ∃(j:Nat) (p:Nat×Sh),bxs[j]? =some p/\p.1=i/\ ∃ r,z=(OA (Np fet p.1) p.2 r).2.1:=by
  intro i z hz
  have: ∀(bs:List (Nat×Sh)) (j0:Nat),(i,z)∈(Lh (Np fet) (rs.drop sg.JJ.length) bs j0).2.1-> ∃(j:Nat) (p:Nat×Sh),bs[j]? =some p/\p.1=i/\ ∃ r,z=(OA (Np fet p.1) p.2 r).2.1:=by
   intro bs
   induction bs with
   | nil=>intro j0 h;simp [Lh]at h
   | cons b bs ih =>
    intro j0 h;obtain⟨q,ks⟩:=b;simp only[Lh]at h;rcases D8.1 h with h | h
    .injection h with h1 h2;exact⟨0,(q,ks),rfl,h1.symm,_,h2⟩
    .obtain⟨j,p,h1,h2⟩:=ih (j0+1) h;exact⟨j+1,p,by simpa using h1,h2⟩
  exact this bxs 0 hz
 have hupdk: ∀ i z,(i,z)∈upd->(∃ e l f,z= .arr e true l/\J9 st.Ju i=some (.arr e f l))/\J9 (JI st.Ju upd) i=some z:=by intro i z hz;obtain⟨e,fz,l,k1,k2⟩:=g3 _ hz;dsimp only at k1 k2;refine⟨⟨e,l,fz,k2,k1⟩,?_⟩;obtain⟨x,hx1,hx2⟩:=OY upd st.Ju i ⟨(i,z),hz,rfl⟩;obtain⟨e',fz',l',k3,k4⟩:=g3 _ hx1;dsimp only at k3 k4;rw[k1]at k3;injection k3 with k3;injection k3 with q1 q2 q3;subst q1;subst q3;rw[hx2,k4,k2]
 have hnoBX: ∀ i,(∃ e f l,J9 st.Ju i=some (.arr e f l))-> ∀ y,(i,y)∉BX:=by rintro i ⟨e,f',l,h⟩ y hy;obtain⟨j,p,h1,h2,_⟩:=hBXk i y hy;obtain⟨⟨y',h3,h4⟩,_⟩:=hbx j p h1;rw[h2,h]at h3;injection h3 with h3;subst h3;exact AfQ h4
 have hTiff: ∀ i,T i->i∈del\/ ∃ y,(i,y)∈BX:=by
  rintro i ⟨n,hn'⟩;have h1:(i,n)∈N:=AfE hn';have h2:=(g4 i).2 (DJ.2 ⟨_,h1,rfl⟩);rcases DV.1 h2 with h2 | h2
  .exact .inl h2
  .right;rw[<- Aor (Np fet) (rs.drop sg.JJ.length) bxs 0]at h2;obtain⟨q,hq1,hq2⟩:=DJ.1 h2;exact⟨q.2,by rw[<- hq2];exact hq1⟩
 have hget: ∀ i z,J9 objsF i=some z->(i,z)∈NEW\/(¬ Nw i/\i∉del/\((i,z)∈BX\/((∀ y,(i,y)∉BX)/\J9 (JI st.Ju upd) i=some z))):=by
  intro i z hz;rcases Zx hz with h | ⟨hno,hnd',h⟩
  .exact .inl h
  .have hni: ¬ Nw i:=by rintro ⟨p,hp,rfl⟩;exact hno p.2 hp
   refine .inr ⟨hni,hnd',?_⟩;rcases h with h | ⟨h1,h2⟩
   .rcases DV.1 h with h | h
    .obtain⟨⟨e,l,f',h3,h4⟩,h5⟩:=hupdk i z h;exact .inr ⟨hnoBX i ⟨e,f',l,h4⟩,h5⟩
    .exact .inl h
   .right;refine⟨fun y hy=>h1 y (DD _ hy),?_⟩;rw[Na _ _ _ (fun p hp e=>h1 p.2 (DF _ (by rw[<- e];exact hp)))];exact h2
 have hbxst: ∀ i z,(i,z)∈BX-> ∃ y,J9 st.Ju i=some y/\J9 (JI st.Ju upd) i=some y/\y.shp=z.shp:=by
  intro i z hz;obtain⟨j,p,h1,h2,r,h4⟩:=hBXk i z hz;obtain⟨⟨y,h3,h5⟩,_⟩:=hbx j p h1;rw[h2]at h3;refine⟨y,h3,?_,by rw[h4];exact AwZ h5⟩;rw[Na _ _ _ (fun p hp e=> ?_)]
  .exact h3
  .obtain⟨⟨e1,e2,e3,_,h6⟩,_⟩:=hupdk p.1 p.2 hp;rw[e,h3]at h6;injection h6 with h6;rw[h6]at h5;exact AfQ h5
 have hE:SB (JI st.Ju upd) m objsF m2 Nw:=by
  intro i z hz;rcases hget i z hz with h | ⟨h1,h2,h | ⟨h3,h4⟩⟩
  .exact .inl ⟨_,h,rfl⟩
  .obtain⟨y,h5,h6,h7⟩:=hbxst i z h;exact .inr ⟨y,h6,h7,hm2not i h1⟩
  .exact .inr ⟨z,h4,rfl,hm2not i h1⟩
 obtain⟨r1,r2,r3⟩:=AjU (objs':=objsF) (m':=m2) (cid:=256000) (cst:=256) (id:=b2 d) (stride:=16) (f:=fun k=>us.getD k undef) (g:=fun k=>innerS w' (sg.JJ.getD k (.agg [])) (us.getD k undef)) (rs:=rs) hpf hnone sg.JJ 0 (fun j _=>by rw[DT]) (fun j hj=>by have:=hus3 j (by rw[hus1];exact hj);rw[DT];exact this) hrres hokD (fun p hp=>hnewO p (DF _ hp)) (fun p hp=>hm2 p (DF _ hp))
 obtain⟨s1,s2⟩:=Amc (rb:=Np fet) (objs':=objsF) (m':=m2) (val:=bval) (cid:=fun j=>256*bi j) (rs:=rs.drop sg.JJ.length) hpf hnone bxs 0 (fun j p hp=>by
  obtain⟨⟨y0,h0,h0'⟩,h1,h2,h4,h5⟩:=hbx j p hp
  have hni: ¬ Nw p.1:=fun h=>by
   have:=(hNw p.1 h).Ju;dsimp only at this;rw[Na _ _ _ (fun p' hp' e=> ?_)]at this
   .rw[h0]at this;cases this
   .obtain⟨⟨e1,e2,e3,_,h6⟩,_⟩:=hupdk p'.1 p'.2 hp';rw[e,h0]at h6;injection h6 with h6;rw[h6]at h0';exact AfQ h0'
  rw[DT];refine⟨h1,by rw[hm2not _ hni];exact h2,?_,h5⟩;rw[Dn,Fa,<- Dn];exact h4) hokC (fun p hp=>hnewO p (DD _ hp)) (fun p hp=>hm2 p (DD _ hp))
 let vsR:=(Le (b2 d) 16 sg.JJ rs 0).2.1
 have hval:JH O2 objsF m2 w' v (Ap9 vsR):=by
  have hlen:vsR.length=us.size:=by rw[r1,hus1]
  rw[hus2];by_cases h1:us.size=1
  .rw[GM h1];obtain⟨x,hx'⟩: ∃ x,vsR=[x]:=F7.1 (by rw[hlen];exact h1);rw[hx'];have:=(r2 0 (by rw[<- hus1];omega)).1;have e1:(Le (b2 d) 16 sg.JJ rs 0).2.1.getD 0 .undef=x:=by show vsR.getD 0 .undef=x;rw[hx'];rfl
   rw[e1]at this;have e2:us.getD (0+0) undef=us[0]:=by simp [Dq,show 0<us.size from by omega]
   rw[<- e2];exact this
  .rw[Jk h1]
   have e1:Ap9 vsR= .tup vsR:=by
    cases hv':vsR with
    | nil=>rfl
    | cons x l =>
     cases l with
     | nil=>rw[hv']at hlen;simp at hlen;omega
     | cons _ _=>rfl
   rw[e1];refine⟨us,rfl,hlen.symm,fun j hj=> ?_⟩;have hj':j<sg.JJ.length:=by rw[<- r1];exact hj
   have:=r2 j hj';rw[DT]at this;exact this.1.A2s this.2
 refine hn O2 m2 _ _ ?_;refine hS1.next (T:=T) (Nw:=Nw) (x:=Ap9 vsR) hM hP2 hless2 hE (fun n hn'=>(hNw n hn').both) (fun q hq=> ?_) (fun i z hz=> ?_) rfl (fun _=>hval)
 .obtain⟨n,hn'⟩:=hq;have h1:(q,n)∈N:=AfE hn';have h2:=halive _ h1;obtain⟨y,hy⟩:=EM.1 h2;have h3:=hf _ _ hy;by_cases hu: ∃ p∈upd,p.1=q
  .obtain⟨x,_,hx2⟩:=OY upd st.Ju q hu;exact EM.2 ⟨x,hx2⟩
  .dsimp only;rw[Na _ _ _ (fun p hp e=>hu ⟨p,hp,e⟩)];exact EM.2 ⟨y,h3⟩
 .rcases hget i z hz with h | ⟨h1,h2,h | ⟨h3,h4⟩⟩
  .right;refine⟨?_,(hNw i ⟨_,h,rfl⟩).ne⟩;rcases DV.1 h with h | h
   .exact r3 _ h
   .exact s2 _ h
  .right;obtain⟨y,h5,h6,_⟩:=hbxst i z h;exact⟨s1 _ h,hS.ids i _ h5⟩
  .left;refine⟨fun ht=> ?_,h4,hm2not i h1⟩;rcases hTiff i ht with h | ⟨y,hy⟩
   .exact h2 h
   .exact h3 y hy
def AnC {c:Call} {f:Nat} {sg:Sig} {x0:Operand} (hS:Sim V0 O0 w0 O m st a w) (ho:o.op= .call c) (hcal:c.callee= .value x0) (hev:a.eval x0= .func (.func f) #[] #[]) (hsp:Spec P f sg) {d:Nat} {fet:Fet} (hf:PG st.Ju fet) {xs:List A}
 (hl:xs.length=c.args.size) (hx: ∀ j,j<xs.length->JH O st.Ju m w (a.eval (c.args.getD j (.tmp 0))) (xs.getD j .undef))
 (hok:JD (QV fet d sg xs).ok) (hfr: ∀ p∈(QV fet d sg xs).new,st.fresh p.1=true) (hnd:nodup ((QV fet d sg xs).new.map (·.1))=true):Good P V0 O0 w0 (apply st o (QV fet d sg xs)) o a w:=by
 refine Ake (av:=c.args.map a.eval) hS ho hcal hev (by simp) hsp hf (by simpa using hl) (fun j hj=> ?_) hok hfr hnd;have hjs:j<c.args.size:=by rw[<- hl];exact hj
 have e:(c.args.map a.eval).getD j undef=a.eval (c.args.getD j (.tmp 0)):=by simp [Dq,hjs]
 rw[e];exact hx j hj
end
section
variable {P:Program} {C:Ctx} {V0:Nat->Value} {O0 O:Own} {w0 w:World} {m:Nat->Value} {st:St} {a:Act} {o:Oper}
def Avi {cs:List A} {r:Nat} (h:Avh cs=some r):cs=[.ptr r 0]:=by
 unfold Avh at h;split at h
 .injection h with h;rw[h]
 .cases h
def AxY {f:Nat} {x:Operand} (hS:Sim V0 O0 w0 O m st a w) (ho:o.op= .makeFunc (.func f) #[] #[x]) {fet:Fet} (hf:PG st.Ju fet) {x':A} (hx:JH O st.Ju m w (a.eval x) x') (hok:JD (Amn fet f x').ok) :
 Good P V0 O0 w0 (apply st o (Amn fet f x')) o a w:=by
 intro next Q hn
 have hF:FOk O st.Ju m w fet:=fun q x h=>⟨hf q x h,hS.Ju q x (hf q x h)⟩
 cases x' with
 | ptr q off =>
  unfold Amn at hok hn;dsimp only at hok hn;obtain⟨cs,hb,he⟩:=JV hok;rw[he]at hok hn;clear he;obtain⟨r,hr,he⟩:=JV hok;rw[he]at hok hn;clear he;have h0:=Dx hok.cons.1;subst h0;obtain rfl:=Avi hr;obtain⟨b,base,g1,g2,g3⟩:=hx.ptr hF (MH hb);obtain⟨k1,k2,u,k3,k4⟩:=g3 0 (by simp);rw[Nat.add_zero]at k1 k3 g2;let O':Own:=fun b' k'=>if b'=b/\k'=base then none else O b' k';have hO': ∀ b' k',O' b' k'=if b'=b/\k'=base then none else O b' k':=fun _ _=>rfl;have hrun:(execOp a.eval o).run P w= .ok (.value (.func (.func f) #[] #[a.eval x])) w:=by simp [execOp,ho,Instr.makeFunc]
  unfold Oper.wp;rw[hrun,Oper.upon_value];refine hn O' m _ _ ?_
  have hP:Passes O O' (· =q) w.heap.size:=by
   refine⟨fun b' k' _ h=> ?_,fun b' k' o' _ h ht=> ?_⟩
   .rw[hO'];split
    .rfl
    .exact h
   .rw[hO',Du]
    .exact h
    .rintro ⟨rfl,rfl⟩;rw[k1]at h;injection h with h;exact ht h.symm
  have hget: ∀ i y,J9 (apply st o {ok:=[Nat.beq 0 0],val:=.clo (f+1) r,del:=[q]}).Ju i=some y->i≠q/\J9 st.Ju i=some y:=by
   intro i y hy;rcases Zx hy with h | ⟨_,h2,h | ⟨_,h⟩⟩
   .cases h
   .cases h
   .exact⟨fun e=>h2 (by rw[e];exact Dy),h⟩
  refine hS.next (T:=(· =q)) (Nw:=fun _=>False) (Moves.refl O _ w) hP (fun b' k' _ h h'=>h (by rw[hO',h'];split<;>rfl)) (fun i y hy=>.inr ⟨y,(hget i y hy).2,rfl,rfl⟩) (fun _ h=>h.elim)
   (fun o' h=>by rw[h,hf _ _ (MH hb)];rfl) (fun i y hy=>.inl ⟨(hget i y hy).1,(hget i y hy).2,rfl⟩) rfl (fun _=> ?_)
  show JP O' _ m w _ (.clo (f+1) r);have k4:JP O st.Ju m w u (.ptr r 0):=k4;refine⟨rfl,u,k4.1,⟨b,base,by rw[g2];rfl,by rw[hO',Dt ⟨rfl,rfl⟩],k3⟩,?_⟩;cases hr':J9 (apply st o {ok:=[Nat.beq 0 0],val:=.clo (f+1) r,del:=[q]}).Ju r with
  | none=>trivial
  | some y =>
   have hy:=(hget r y hr').2;cases y with
   | box cs' =>have k4:=k4.2;rw[hy]at k4;exact k4
   | _=>trivial
 | _=>exact(JQ hok).elim
def Ayo {C:Ctx} {d:TypeDesc}: ∀(xs:List (Nat×A)) (cs cs':List A),fill C d xs cs=some cs'-> ∀ i∈cs'.flatMap A.Nz,i∈cs.flatMap A.Nz\/ ∃ x∈xs,i∈x.2.ids:=by
 intro xs
 induction xs with
 | nil=>intro cs cs' h i hi;simp only[fill]at h;injection h with h;rw[h];exact .inl hi
 | cons x xs ih =>
  intro cs cs' h i hi;obtain⟨k,x⟩:=x;simp only[fill]at h;cases hp:Ahl C d k with
  | none=>rw[hp]at h;cases h
  | some q =>
   obtain⟨off,ti⟩:=q;rw[hp]at h;dsimp only at h;cases hb:(x.isVal&&Nat.beq x.cells.length ti.cs.length&&Nat.ble (off+ti.cs.length) cs.length)with
   | false=>rw[hb]at h;cases h
   | true =>
    rw[hb]at h;simp only[cond_true]at h;simp only[Dw]at hb;rcases ih _ _ h i hi with h1 | ⟨y,h1,h2⟩
    .unfold splice at h1;simp only[GX,DV]at h1;rcases h1 with (h1 | h1) | h1
     .left;obtain⟨c,hc,hci⟩:=Eg.1 h1;exact Eg.2 ⟨c,Gt hc,hci⟩
     .right;refine⟨(k,x),Dy,?_⟩;obtain⟨c,hc,hci⟩:=Eg.1 h1;obtain⟨j,hj,rfl⟩:=FH.1 hc;refine AeJ hb.1.1 hj ?_;rw[Dn,D9 hj];exact hci
     .left;obtain⟨c,hc,hci⟩:=Eg.1 h1;exact Eg.2 ⟨c,Ik hc,hci⟩
    .exact .inr ⟨y,D5 _ h1,h2⟩
def AxR {t n:Nat} {ps:Array (Nat×Operand)} (hC:TOk P C) (hS:Sim V0 O0 w0 O m st a w) {d:Tmp} (hd:o.dst=some d) (ho:o.op= .buildSlice t n ps) {xs:List (Nat×A)}
 (hl:xs.length=ps.size) (hx: ∀(j:Nat) (x:Nat×A) (p:Nat×Operand),xs[j]? =some x->ps[j]? =some p->p.1=x.1/\JH O st.Ju m w (a.eval p.2) x.2)
 (hids: ∀ x∈xs,∀ i∈x.2.ids,i∈st.ids\/(J9 st.Ju i).isSome)
 (hok:JD (AeF C d t n xs).ok) (hfr: ∀ p∈(AeF C d t n xs).new,st.fresh p.1=true) (hnd:nodup ((AeF C d t n xs).new.map (·.1))=true):Good P V0 O0 w0 (apply st o (AeF C d t n xs)) o a w:=by
 unfold AeF at *
 obtain⟨ti,e,te,ht,hte,hd',he⟩:=Zb hok;rw[he]at hok hfr hnd ⊢;clear he;obtain⟨cs,hcs,he⟩:=JV hok;rw[he]at hok hfr hnd ⊢;clear he;obtain⟨h0,h1⟩:=hok.cons;have hn:=DR h1.cons.1;have hk:=AnQ h0;have hk1:te.cs.length=1:=by rw[hk];rfl
 have hT:=hC.is hd';obtain⟨i,z,g1,g2,g3,g4,g5,g6⟩:=hT.i;have hu:=(hC.is ht).d;rw[hte]at hu;obtain⟨hz1,hz2⟩:=Acl (O:=O) (w:=w) hT (by rw[g1];exact g4) (by rw[hk];rfl) (by rw[hk1];decide) n;rw[hk1,EZ]at hz1
 have hz:SX O st.Ju m w (zeros z (n*te.cs.length)) (List.replicate n .MO):=by
  rw[hk1,EZ];refine⟨by rw[hz1,E8],fun j hj=> ?_⟩;rw[E8]at hj;obtain⟨u,k1,k2⟩:=hz2.2 j 0 (by simpa using hj) (by rw[hk1];decide);rw[hk1,EZ,EZ,Nat.add_zero]at k1;have e1:(zeros z n).getD j undef=u:=by rw[Dq,k1];rfl
  have e2:(List.replicate n A.MO).getD j .undef= .MO:=by simp [Dn,hj]
  rw[e1,e2];have e3:((List.replicate n (te.cs.map CK.Pv)).getD j []).getD 0 .undef= .MO:=by simp [Dn,hj,hk,CK.Pv,CK.zero]
  rw[e3]at k2;exact k2
 obtain⟨vs',f1,f2⟩:=Aqo (O:=O) (Ju:=st.Ju) (m:=m) (w:=w) hC (d:=.array n e) (place:=fun i=>some (i*te.cs.length,te.cs.length)) (fun i p hp=>by
  simp only[sH,g1,Option.map_some]at hp;rw[<- hp];have:te.cs.length=_:=rfl;simp [g2]) xs (ps.map (fun(i,x)=>(i,a.eval x))).toList _ _ cs (by simp [hl]) (fun j x p hxj hpj=>by
  simp only[Ho,Eu]at hpj;cases hq:ps.toList[j]? with
  | none=>rw[hq]at hpj;cases hpj
  | some q =>rw[hq]at hpj;injection hpj with hpj;subst hpj;exact hx j x q hxj (by simpa using hq)) hz hcs
 refine AnB (ks:=[]) (t:=e) (r:=.slice (some (at' w.heap.size 0)) n n) hS f2 (fun j hj i hi=> ?_) hd ?_ (fun O' objs' m' w' c hc hm=> ?_) hfr hnd
 .rcases Ayo _ _ _ hcs i (UO (f:=A.Nz) hj hi)with h | ⟨x,h2,h3⟩
  .obtain⟨c,hc,hci⟩:=Eg.1 h;rw[Gf hc]at hci;cases hci
  .exact hids x h2 i h3
 .have hbig: ¬(16777216<n*te.cs.length):=by rw[hk1];omega
  simp only[execOp,ho,DI,Instr.buildSlice,DY hu,Result.andThen_ok,hT.Ql];rw[Du (by simpa using hbig)];by_cases h0:n*te.cs.length=0
  .have hz0:(Array.range (n*te.cs.length)).map ((#[]:Array Value)[· % (#[]:Array Value).size]!)=zeros z (n*te.cs.length):=by simp [zeros,h0]
   simp only[Dt h0,DI,Sem.run_pure,Result.andThen_ok,hz0,f1];rfl
  .simp only[Du h0,DI,Sem.run_pure,Result.andThen_ok,zeroValue,typeInfo,run_program,g1,g4];have hz0:(Array.range (n*te.cs.length)).map (z.cells[· % z.cells.size]!)=zeros z (n*te.cs.length):=rfl;rw[hz0,f1];rfl
 .show JP O' objs' m' w' _ (.bsl (b2 d) n);refine⟨rfl,?_⟩;rw[hc];exact⟨w.heap.size,0,hm,rfl⟩
end
structure OT (P:Program) (C:Ctx):Prop where
 T:TOk P C
 G: ∀ f sg,C.G f=some sg->Spec P f sg
 alt: ∀ f q,C.alt f=some q->Spec P f q.1/\Spec P f q.2.1
 dyn: ∀ t F,C.dyn t=some F->(∀ xs,(F 0).ok xs=false)/\ ∀ f xs,(F (f+1)).ok xs=true->Spec P f (F (f+1))
theorem OT.put {P:Program} {C:Ctx} (h:OT P C) {f:Nat} {s:Sig} (hs:Spec P f s):OT P (C.put f s):=⟨h.T,fun k sg hk=>by
 have hk':(bif Nat.beq f k then some s else C.G k)=some sg:=hk;cases hb:Nat.beq f k with
 | true=>simp_all
 | false=>rw[hb]at hk';exact h.G k sg hk',h.alt,h.dyn⟩
def A1z {a b:A} (h:eqC a b=true):a=b:=by
 unfold eqC at h;split at h
 .rw[Gj h]
 .rw[Dw]at h;rw[A.RX h.1,Gj h.2]
 .rw[Gj h]
 .cases h
def AuC {fet:Fet} {x:A} {j:Nat} {δ :Dl} (h:JD (UN fet x j δ).ok):JD δ.ok/\(UN fet x j δ).val= δ.val/\(UN fet x j δ).new= δ.new/\(UN fet x j δ).upd= δ.upd/\(UN fet x j δ).del= δ.del:=by
 unfold UN at *
 cases x with
 | ptr q off =>
  dsimp only at h ⊢;cases hb:MQ fet q with
  | none=>rw[hb]at h;exact⟨h,rfl,rfl,rfl,rfl⟩
  | some cs =>
   rw[hb]at h;dsimp only at h ⊢;cases hc:Nat.blt j cs.length&& δ.upd.all (fun p=> !(Nat.beq p.1 q)||Alb cs.length p.2)with
   | false=>rw[hc]at h;exact⟨h,rfl,rfl,rfl,rfl⟩
   | true =>
    rw[hc]at h;obtain⟨h1,h2⟩:=(show JD (δ.ok++_)from h).append;refine⟨h1,rfl,rfl,?_,rfl⟩;show δ.upd.map _= δ.upd
    conv=>rhs;rw[<- FY δ.upd]
    refine Ea fun p hp=> ?_;have h3:=h2 _ (DJ.2 ⟨p,hp,rfl⟩);cases hq:Nat.beq p.1 q with
    | false=>rfl
    | true =>
     rw[hq]at h3;have h3:eqU j (cs.getD j .undef) p.2=true:=h3;obtain⟨n,y⟩:=p;cases y with
     | box ds =>
      have h4:=A1z (show eqC (ds.getD j .undef) (cs.getD j .undef)=true from h3);show(n,Obj.box (ds.set j (cs.getD j .undef)))=(n,Obj.box ds);rw[<- h4];congr 2;apply IP;intro i;rw[FV];by_cases hij:j=i
      .subst hij;rw[Dt rfl];by_cases hl:j<ds.length
       .simp [hl,Dn]
       .simp [hl]
      .rw[Du hij]
     | _=>cases h3
 | _=>exact⟨h,rfl,rfl,rfl,rfl⟩
def AuE {fet:Fet} {xs:List A}: ∀(ks:List (Nat×Nat)) {δ :Dl},JD (keepD fet xs ks δ).ok->JD δ.ok/\(keepD fet xs ks δ).val= δ.val/\(keepD fet xs ks δ).new= δ.new/\(keepD fet xs ks δ).upd= δ.upd/\(keepD fet xs ks δ).del= δ.del:=by
 intro ks
 induction ks with
 | nil=>intro δ h;exact⟨h,rfl,rfl,rfl,rfl⟩
 | cons k ks ih =>intro δ h;obtain⟨i,j⟩:=k;obtain⟨h1,h2,h3,h4,h5⟩:=ih (δ :=UN fet (xs.getD i .undef) j δ) h;obtain⟨g1,g2,g3,g4,g5⟩:=AuC h1;exact⟨g1,h2.trans g2,h3.trans g3,h4.trans g4,h5.trans g5⟩
def OT.decide {P:Program} {C:Ctx} (h:OT P C) (ds:List Nat) (b:Bool):OT P (C.decide ds b):=⟨h.T,h.G,h.alt,h.dyn⟩
section
variable {P:Program} {C:Ctx} {V0:Nat->Value} {O0 O:Own} {w0 w:World} {m:Nat->Value} {st:St} {a:Act} {o:Oper}
def len1 {xs:List A} (h:xs.length=1): ∃ x,xs=[x]:=F7.1 h
def AfC {xs:List A} (h:xs.length=2): ∃ x y,xs=[x,y]:=by
 match xs,h with
 | [x,y],_=>exact⟨x,y,rfl⟩
def AuK {xs:List A} (h:xs.length=3): ∃ x y z,xs=[x,y,z]:=by
 match xs,h with
 | [x,y,z],_=>exact⟨x,y,z,rfl⟩
def Alk {δ :Dl} (h:JD δ.ok) (e: δ = .no):False:=by rw[e]at h;exact JQ h
def oK {t:Nat} {x:Operand} {lo hi:Option Operand} (hC:TOk P C) (hS:Sim V0 O0 w0 O m st a w) (ho:o.op= .slice t x lo hi none) {fet:Fet} (hf:PG st.Ju fet) {x':A} {lo' hi':Option A} (hx:JH O st.Ju m w (a.eval x) x')
 (hlo:ORl O st.Ju m w (lo.map a.eval) lo') (hhi:ORl O st.Ju m w (hi.map a.eval) hi') (hok:JD (Nl C fet t x' lo' hi').ok):Good P V0 O0 w0 (apply st o (Nl C fet t x' lo' hi')) o a w:=by
 cases x' with
 | str s=>exact(Axv hC ho rfl hx hlo hhi hok).good hS
 | sl l=>exact(Azd hC ho rfl hx hlo hhi hok).good hS
 | own q=>grind[Aph]
 | _=>grind[Nl,KC,JQ]
def Azw {k:A->Dl} {v:List A} (h:JD (a1 k v).ok): ∃ x,v=[x]:=by
 match v,h with
 | [x],_=>exact⟨x,rfl⟩
 | [],h=>exact(JQ h).elim
 | _::_::_,h=>exact(JQ h).elim
def AjR {k:A->A->Dl} {v:List A} (h:JD (a2 k v).ok): ∃ x y,v=[x,y]:=by
 match v,h with
 | [x,y],_=>exact⟨x,y,rfl⟩
 | [],h=>exact(JQ h).elim
 | [_],h=>exact(JQ h).elim
 | _::_::_::_,h=>exact(JQ h).elim
set_option maxHeartbeats 1000000 in
def AqS (hCx:OT P C) (hS:Sim V0 O0 w0 O m st a w) {fet:Fet} (hf:PG st.Ju fet) {xs:List A} (hl:xs.length=o.op.operands.size) (hx: ∀ j,j<xs.length->JH O st.Ju m w (a.eval (o.op.operands.getD j (.tmp 0))) (xs.getD j .undef))
 (hids: ∀ x∈xs,∀ i∈x.ids,i∈st.ids\/(J9 st.Ju i).isSome)
 (hok:JD (opX C o xs fet).ok) (hfr: ∀ p∈(opX C o xs fet).new,st.fresh p.1=true) (hnd:nodup ((opX C o xs fet).new.map (·.1))=true):Good P V0 O0 w0 (apply st o (opX C o xs fet)) o a w:=by
 have hC:=hCx.T;have hF:FOk O st.Ju m w fet:=fun q x h=>⟨hf q x h,hS.Ju q x (hf q x h)⟩
 obtain⟨dst,op,ty,pos,after,guard⟩:=o;cases op with
 | move x =>obtain⟨x',rfl⟩:=len1 hl;exact(AnZ (o:=⟨dst,.move x,ty,pos,after,guard⟩) (.inl rfl) (hx 0 (by simp))).good hS
 | assign x =>obtain⟨x',rfl⟩:=len1 hl;exact(AnZ (o:=⟨dst,.assign x,ty,pos,after,guard⟩) (.inr rfl) (hx 0 (by simp))).good hS
 | pick c x y =>obtain⟨c',x',y',rfl⟩:=AuK hl;exact(Axj rfl (hx 0 (by simp)) (hx 1 (by simp)) (hx 2 (by simp)) hok).good hS
 | alloc t =>obtain rfl:xs=[]:=Gm hl;obtain⟨d,hd,he⟩:=JV (show JD (Kv dst fun d=>gY C d t).ok from hok);have e1:opX C ⟨dst,.alloc t,ty,pos,after,guard⟩ [] fet=gY C d t:=he;rw[e1]at hok hfr hnd ⊢;exact ArH hC hS hd rfl hok hfr hnd
 | box t x =>obtain⟨x',rfl⟩:=len1 hl;obtain⟨d,hd,he⟩:=JV (show JD (Kv dst fun d=>AeE C d t x').ok from hok);have e1:opX C ⟨dst,.box t x,ty,pos,after,guard⟩ [x'] fet=AeE C d t x':=he;rw[e1]at hok hfr hnd ⊢;exact AvT hC hS hd rfl (hx 0 (by simp)) (hids x' (by simp)) hok hfr hnd
 | build t ps =>
  have hps:xs.length=ps.size:=by rw[hl];simp [Op.operands]
  have e1:opX C ⟨dst,.build t ps,ty,pos,after,guard⟩ xs fet=AeG C t ((ps.toList.map (fun(p:Nat×Operand)=>p.1)).zip xs):=rfl;rw[e1]at hok ⊢;refine(AtU (o:=⟨dst,.build t ps,ty,pos,after,guard⟩) (ps:=ps) (xs:=(ps.toList.map (fun(p:Nat×Operand)=>p.1)).zip xs) hC rfl (by simp [hps]) (fun j x p hxj hpj=> ?_) hok).good hS;have hj:j<ps.size:=(DX.1 hpj).1;have hjx:j<xs.length:=by omega
  rw[Gv]at hxj;obtain⟨h1,h2⟩:=hxj;have:=hx j hjx;have e1:(Op.build t ps).operands.getD j (.tmp 0)=p.2:=by simp only[Op.operands];rw[Dq];simp [hpj]
  have e2:xs.getD j .undef=x.2:=by rw[Dn,h2];rfl
  refine⟨?_,?_⟩
  .simp [hpj]at h1;exact h1
  .rw[<- e1,<- e2];exact this
 | buildSlice t n ps =>
  obtain⟨d,hd,he⟩:=JV (show JD (Kv dst fun d=>bif AkU ((ps.toList.map (·.1)).zip xs)then AeF C d t n ((ps.toList.map (·.1)).zip xs)else TE C fet d t n ((ps.toList.map (·.1)).zip xs)).ok from hok);have e1:opX C ⟨dst,.buildSlice t n ps,ty,pos,after,guard⟩ xs fet=bif AkU ((ps.toList.map (·.1)).zip xs)then AeF C d t n ((ps.toList.map (·.1)).zip xs)else TE C fet d t n ((ps.toList.map (·.1)).zip xs):=he;rw[e1]at hok hfr hnd ⊢;have hps:xs.length=ps.size:=by rw[hl];simp [Op.operands]
  have hz:((ps.toList.map (·.1)).zip xs).length=ps.size:=by simp [hps]
  have hxz: ∀(j:Nat) (x:Nat×A) (p:Nat×Operand),((ps.toList.map (·.1)).zip xs)[j]? =some x->ps[j]? =some p->p.1=x.1/\JH O st.Ju m w (a.eval p.2) x.2:=by
   intro j x p hxj hpj;have hj:j<ps.size:=(DX.1 hpj).1;have hjx:j<xs.length:=by omega
   rw[Gv]at hxj;obtain⟨h1,h2⟩:=hxj;have:=hx j hjx;have e1:(Op.buildSlice t n ps).operands.getD j (.tmp 0)=p.2:=by simp only[Op.operands];rw[Dq];simp [hpj]
   have e2:xs.getD j .undef=x.2:=by rw[Dn,h2];rfl
   refine⟨?_,?_⟩
   .simp [hpj]at h1;exact h1
   .rw[<- e1,<- e2];exact this
  cases hp:AkU ((ps.toList.map (·.1)).zip xs)with
  | false =>rw[hp]at hok hfr;exact Akd (o:=⟨dst,.buildSlice t n ps,ty,pos,after,guard⟩) (ps:=ps) hC hS hd rfl hf hz hxz hok hfr
  | true =>rw[hp]at hok hfr hnd;exact AxR (o:=⟨dst,.buildSlice t n ps,ty,pos,after,guard⟩) (ps:=ps) hC hS hd rfl hz hxz (fun x hx'=>hids x.2 (List.of_mem_zip hx').2) hok hfr hnd
 | load t x =>obtain⟨x',rfl⟩:=len1 hl;exact(AnV hC hF rfl (hx 0 (by simp)) hok).good hS
 | store t x y =>
  obtain⟨x',y',rfl⟩:=AfC hl;cases dst with
  | some d=>exact(JQ hok).elim
  | none =>
   have e1:opX C ⟨none,.store t x y,ty,pos,after,guard⟩ [x',y'] fet=Xb C fet t x' y':=rfl;rw[e1]at hok hfr hnd ⊢;cases x' with
   | ptr q off=>exact Api hC hS rfl rfl hf (hx 0 (by simp)) (hx 1 (by simp)) (hids y' (by simp)) hok hfr hnd
   | Kr q i off=>exact Apj hC hS rfl rfl hf (hx 0 (by simp)) (hx 1 (by simp)) hok
   | _ =>exfalso;unfold Xb at hok;obtain⟨ti,ht,he⟩:=KC hok;rw[he]at hok;exact JQ hok
 | nilCheck x =>obtain⟨x',rfl⟩:=len1 hl;exact(AoC hF rfl (hx 0 (by simp)) hok).good hS
 | binOp op t x y t' =>obtain⟨x',y',rfl⟩:=AfC hl;exact(AxO hC hF rfl (hx 0 (by simp)) (hx 1 (by simp)) hok).good hS
 | unOp op t x =>obtain⟨x',rfl⟩:=len1 hl;exact(A0T rfl (hx 0 (by simp)) hok).good hS
 | convert s t x =>obtain⟨x',rfl⟩:=len1 hl;exact Awf (o:=⟨dst,.convert s t x,ty,pos,after,guard⟩) hC hS rfl hf (hx 0 (by simp)) hok hfr
 | makeSlice t l c =>obtain⟨l',c',rfl⟩:=AfC hl;obtain⟨d,hd,he⟩:=JV (show JD (Kv dst fun d=>Ac0 C d t l' c').ok from hok);have e1:opX C ⟨dst,.makeSlice t l c,ty,pos,after,guard⟩ [l',c'] fet=Ac0 C d t l' c':=he;rw[e1]at hok hfr ⊢;exact AwL hC hS hd rfl (hx 0 (by simp)) (hx 1 (by simp)) hok hfr
 | slice t x lo hi mx =>
  have hok':JD (slX C dst fet t lo hi mx xs).ok:=hok;show Good P V0 O0 w0 (apply st _ (slX C dst fet t lo hi mx xs)) _ a w;cases mx with
  | some _=>exfalso;cases lo<;>cases hi<;>exact JQ hok'
  | none =>
   cases lo with
   | none =>
    cases hi with
    | none =>obtain⟨x',rfl⟩:=len1 (by simpa [Op.operands]using hl);exact oK (o:=⟨dst,.slice t x none none none,ty,pos,after,guard⟩) (lo:=none) (hi:=none) (lo':=none) (hi':=none) hC hS rfl hf (hx 0 (by simp)) trivial trivial hok'
    | some h =>
     obtain⟨x',h',rfl⟩:=AfC (by simpa [Op.operands]using hl)
     have plain:JD (Nl C fet t x' none (some h')).ok->Good P V0 O0 w0 (apply st ⟨dst,.slice t x none (some h) none,ty,pos,after,guard⟩ (Nl C fet t x' none (some h'))) ⟨dst,.slice t x none (some h) none,ty,pos,after,guard⟩ a w:=fun hok'' =>
      oK (o:=⟨dst,.slice t x none (some h) none,ty,pos,after,guard⟩) (lo:=none) (hi:=some h) (lo':=none) (hi':=some h') hC hS rfl hf (hx 0 (by simp)) trivial (hx 1 (by simp)) hok''
     cases dst with
     | none=>exact plain hok'
     | some d =>
      have hfr': ∀ p∈(slX C (some d) fet t none (some h) none [x',h']).new,st.fresh p.1=true:=hfr;have e1:slX C (some d) fet t none (some h) none [x',h']=bif has C.cuts d then Afb C fet d t x' h' else Nl C fet t x' none (some h'):=rfl;rw[e1]at hok' hfr' ⊢;cases hc:has C.cuts d with
      | false=>rw[hc]at hok';exact plain hok'
      | true =>rw[hc]at hok' hfr';exact Ayc (o:=⟨some d,.slice t x none (some h) none,ty,pos,after,guard⟩) hC hS rfl rfl hf (hx 0 (by simp)) (hx 1 (by simp)) hok' hfr'
   | some l =>
    cases hi with
    | none =>
     obtain⟨x',l',rfl⟩:=AfC (by simpa [Op.operands]using hl)
     have plain:JD (Nl C fet t x' (some l') none).ok->Good P V0 O0 w0 (apply st ⟨dst,.slice t x (some l) none none,ty,pos,after,guard⟩ (Nl C fet t x' (some l') none)) ⟨dst,.slice t x (some l) none none,ty,pos,after,guard⟩ a w:=fun hok'' =>
      oK (o:=⟨dst,.slice t x (some l) none none,ty,pos,after,guard⟩) (lo:=some l) (hi:=none) (lo':=some l') (hi':=none) hC hS rfl hf (hx 0 (by simp)) (hx 1 (by simp)) trivial hok''
     cases dst with
     | none=>exact plain hok'
     | some d =>
      have e1:slX C (some d) fet t (some l) none none [x',l']=bif has C.cuts d then Adh C fet t x' l' else Nl C fet t x' (some l') none:=rfl;rw[e1]at hok' ⊢;cases hc:has C.cuts d with
      | false=>rw[hc]at hok';exact plain hok'
      | true =>rw[hc]at hok';exact(Axy (o:=⟨some d,.slice t x (some l) none none,ty,pos,after,guard⟩) hC hF rfl (hx 0 (by simp)) (hx 1 (by simp)) hok').good hS
    | some h =>obtain⟨x',l',h',rfl⟩:=AuK (by simpa [Op.operands]using hl);exact oK (o:=⟨dst,.slice t x (some l) (some h) none,ty,pos,after,guard⟩) (lo:=some l) (hi:=some h) (lo':=some l') (hi':=some h') hC hS rfl hf (hx 0 (by simp)) (hx 1 (by simp)) (hx 2 (by simp)) hok'
 | fieldAddr t x f =>obtain⟨x',rfl⟩:=len1 hl;exact(Am7 hC hF rfl (hx 0 (by simp)) hok).good hS
 | field t x f =>obtain⟨x',rfl⟩:=len1 hl;exact(Auv hC rfl (hx 0 (by simp)) hok).good hS
 | indexAddr t x i =>obtain⟨x',i',rfl⟩:=AfC hl;exact(AmF hC hF rfl (hx 0 (by simp)) (hx 1 (by simp)) hok).good hS
 | index t x i =>obtain⟨x',i',rfl⟩:=AfC hl;exact(Au6 hC rfl (hx 0 (by simp)) (hx 1 (by simp)) hok).good hS
 | extract x i =>obtain⟨x',rfl⟩:=len1 hl;exact(Aqm rfl (hx 0 (by simp)) hok).good hS
 | makeFunc fn fi cap =>
  cases fn with
  | func f =>
   have e1:opX C ⟨dst,.makeFunc (.func f) fi cap,ty,pos,after,guard⟩ xs fet=bif fi.isEmpty then a1 (Amn fet f) xs else .no:=rfl;rw[e1]at hok ⊢;cases hfi:fi.isEmpty with
   | false=>rw[hfi]at hok;exact(JQ hok).elim
   | true =>
    rw[hfi]at hok;obtain⟨x',rfl⟩:=Azw (show JD (a1 (Amn fet f) xs).ok from hok);have hfi':fi= #[]:=by simpa using hfi
    subst hfi'
    have hcap: ∃ x,cap= #[x]:=by
     have:cap.size=1:=by simpa [Op.operands]using hl.symm
     exact⟨cap[0],by apply Fp (by simp [this]);intro i h1 h2;have:i=0:=by omega
                     subst this;rfl⟩
    obtain⟨x,rfl⟩:=hcap;exact AxY (o:=⟨dst,.makeFunc (.func f) #[] #[x],ty,pos,after,guard⟩) hS rfl hf (hx 0 (by simp)) hok
  | _=>exfalso;exact Alk hok rfl
 | makeMap t r =>obtain⟨d,hd,he⟩:=JV (show JD (Kv dst fun d=>YK C d t xs).ok from hok);have e1:opX C ⟨dst,.makeMap t r,ty,pos,after,guard⟩ xs fet=YK C d t xs:=he;rw[e1]at hok hfr ⊢;exact AqD hC hS hd rfl (by rw[hl];rfl) hok hfr
 | lookup t x i c =>obtain⟨x',i',rfl⟩:=AfC hl;exact(Asj hC hF rfl (hx 0 (by simp)) (hx 1 (by simp)) hok).good hS
 | mapUpdate t x i y =>
  obtain⟨x',i',y',rfl⟩:=AuK hl;cases dst with
  | some d=>exact(JQ hok).elim
  | none=>exact Ai8 (o:=⟨none,.mapUpdate t x i y,ty,pos,after,guard⟩) hC hS rfl (.inl rfl) hf (hx 0 (by simp)) (hx 1 (by simp)) (hx 2 (by simp)) hok
 | insert t x i y =>
  obtain⟨x',i',y',rfl⟩:=AuK hl;cases dst with
  | some d=>exact(JQ hok).elim
  | none=>exact Ai8 (o:=⟨none,.insert t x i y,ty,pos,after,guard⟩) hC hS rfl (.inr rfl) hf (hx 0 (by simp)) (hx 1 (by simp)) (hx 2 (by simp)) hok
 | call c =>
  obtain⟨callee,args,ts⟩:=c;cases callee with
  | value fo =>
   cases fo with
   | func f =>
    have hl':xs.length=1+args.size:=by rw[hl];simp [Op.operands,Call.operands]
    obtain⟨x0,xs',rfl⟩: ∃ x0 xs',xs=x0::xs':=by
     cases xs with
     | nil=>simp at hl';omega
     | cons x0 xs'=>exact⟨x0,xs',rfl⟩
    have e1:opX C ⟨dst,.call ⟨.value (.func f),args,ts⟩,ty,pos,after,guard⟩ (x0::xs') fet=nT C fet (dst.getD 0) f xs':=rfl;rw[e1]at hok hfr hnd ⊢;cases hsg:C.G f with
    | none=>exfalso;unfold nT at hok;rw[hsg]at hok;exact JQ hok
    | some sg =>
     have e3:nT C fet (dst.getD 0) f xs'=keepD fet xs' (C.kept f) (QV fet (dst.getD 0) sg xs'):=by unfold nT;rw[hsg]
     rw[e3]at hok hfr hnd ⊢;obtain⟨hok,k1,k2,k3,k4⟩:=AuE _ hok;rw[k2]at hfr hnd;have e4: ∀ o',apply st o' (keepD fet xs' (C.kept f) (QV fet (dst.getD 0) sg xs'))=apply st o' (QV fet (dst.getD 0) sg xs'):=fun o'=>by unfold apply;rw[k1,k2,k3,k4]
     rw[e4];refine AnC (x0:=.func f) hS rfl rfl rfl (hCx.G f sg hsg) hf (by simp at hl';show xs'.length=args.size;omega) (fun j hj=> ?_) hok hfr hnd;have:=hx (j+1) (by simpa using hj);have e2:(Op.call ⟨.value (.func f),args,ts⟩).operands.getD (j+1) (.tmp 0)=args.getD j (.tmp 0):=by simp only[Op.operands,Call.operands];rw[Dq,Dq,F6 (by simp)];simp
     rw[e2]at this;simpa using this
   | tmp t =>
    have hl':xs.length=1+args.size:=by rw[hl];simp [Op.operands,Call.operands]
    obtain⟨x0,xs',rfl⟩: ∃ x0 xs',xs=x0::xs':=by
     cases xs with
     | nil=>simp at hl';omega
     | cons x0 xs'=>exact⟨x0,xs',rfl⟩
    have e1:opX C ⟨dst,.call ⟨.value (.tmp t),args,ts⟩,ty,pos,after,guard⟩ (x0::xs') fet=Aqa C fet (dst.getD 0) t x0 xs':=rfl;rw[e1]at hok hfr hnd ⊢;have h0:=hx 0 (by simp);have e0:(Op.call ⟨.value (.tmp t),args,ts⟩).operands.getD 0 (.tmp 0)= .tmp t:=by show(#[Operand.tmp t]++args).getD 0 (.tmp 0)= .tmp t;rw[Dq,ER (by simp)];rfl
    rw[e0]at h0;have h0:JH O st.Ju m w (a.eval (.tmp t)) x0:=h0;unfold Aqa at hok hfr hnd ⊢;cases x0 with
    | fn n =>
     cases hsg:C.dyn t with
     | none=>rw[hsg]at hok;exact(JQ hok).elim
     | some F =>
      rw[hsg]at hok hfr hnd;dsimp only at hok hfr hnd ⊢;obtain⟨hd1,hd2⟩:=hCx.dyn t F hsg;have hok2:=ApS hok;cases n with
      | zero=>rw[hd1]at hok2;cases hok2
      | succ f =>
       have hev:a.eval (.tmp t)= .func (.func f) #[] #[]:=by have h1:JA O w (a.eval (.tmp t)) (.fn (f+1)):=h0;generalize a.eval (.tmp t)=v at h1 ⊢;cases h1;rfl
       refine AnC (x0:=.tmp t) hS rfl rfl hev (hd2 f _ hok2) hf (by simp at hl';show xs'.length=args.size;omega) (fun j hj=> ?_) hok hfr hnd;have:=hx (j+1) (by simpa using hj);have e2:(Op.call ⟨.value (.tmp t),args,ts⟩).operands.getD (j+1) (.tmp 0)=args.getD j (.tmp 0):=by simp only[Op.operands,Call.operands];rw[Dq,Dq,F6 (by simp)];simp
       rw[e2]at this;simpa using this
    | clo f q =>
     obtain⟨cs,hb,he⟩:=JV hok;dsimp only at he hok hfr hnd ⊢;rw[he]at hok hfr hnd ⊢;clear he;have hc:JP O st.Ju m w (a.eval (.tmp t)) (.clo f q):=h0;obtain⟨_,p,k5,⟨b,j0,k2,k3,k4⟩,hc⟩:=hc;cases hsg:C.dyn t with
     | none=>rw[hsg]at hok;exact(JQ hok).elim
     | some F =>
      rw[hsg]at hok hfr hnd;dsimp only at hok hfr hnd ⊢;obtain⟨hd1,hd2⟩:=hCx.dyn t F hsg;have hok2:=ApS hok;cases f with
      | zero=>rw[hd1]at hok2;cases hok2
      | succ f =>
       have hlx:xs'.length=args.size:=by simp at hl';omega
       refine Ake (x0:=.tmp t) (caps:= #[.pointer (some (at' b j0))]) (av:=args.map a.eval++ #[.pointer (some (at' b j0))]) hS rfl rfl k2 rfl (hd2 f _ hok2) hf (by simp [hlx]) (fun j hj=> ?_) hok hfr hnd;rcases Ef j xs'.length with hjl | hjl
       .have:=hx (j+1) (by simpa using hjl);have e2:(Op.call ⟨.value (.tmp t),args,ts⟩).operands.getD (j+1) (.tmp 0)=args.getD j (.tmp 0):=by simp only[Op.operands,Call.operands];rw[Dq,Dq,F6 (by simp)];simp
        rw[e2]at this;have hjs:j<args.size:=by omega
        have e3:(args.map a.eval++ #[Value.pointer (some (at' b j0))]).getD j undef=a.eval (args.getD j (.tmp 0)):=by rw[Dq,ER (by simpa using hjs),Dq];simp [hjs]
        have e4:(xs'++[A.clo 0 q]).getD j .undef=xs'.getD j .undef:=by simp [Dn,Ep,hjl]
        rw[e3,e4];simpa using this
       .have hj':j=xs'.length:=by simp at hj;omega
        subst hj';have e3:(args.map a.eval++ #[Value.pointer (some (at' b j0))]).getD xs'.length undef= .pointer (some (at' b j0)):=by rw[hlx,Dq,F6 (by simp)];simp
        have e4:(xs'++[A.clo 0 q]).getD xs'.length .undef= .clo 0 q:=by simp [Dn]
        rw[e3,e4];show JP O st.Ju m w _ (.clo 0 q);exact⟨rfl,p,k5,⟨b,j0,rfl,k3,k4⟩,hc⟩
    | _=>exact(JQ hok).elim
   | _=>exfalso;exact Alk hok rfl
  | builtin b =>
   have hok':JD (blX C ⟨dst,.call ⟨.builtin b,args,ts⟩,ty,pos,after,guard⟩ fet ts.toList b xs).ok:=hok;cases b with
   | len =>
    obtain⟨x',rfl⟩:=Azw (show JD (a1 _ xs).ok from hok')
    have hargs: ∃ x,args= #[x]:=by
     have:args.size=1:=by simpa [Op.operands,Call.operands]using hl.symm
     exact⟨args[0],by apply Fp (by simp [this]);intro i h1 h2;have:i=0:=by omega
                      subst this;rfl⟩
    obtain⟨x,rfl⟩:=hargs;obtain⟨t,ht,he⟩:=JV (show JD (Kv (one? ts.toList) fun t=>AmI C fet t x').ok from hok');have e1:opX C ⟨dst,.call ⟨.builtin .len,#[x],ts⟩,ty,pos,after,guard⟩ [x'] fet=AmI C fet t x':=he;rw[e1]at hok ⊢;exact(Ay2 hC hF rfl rfl rfl (Aof ht) (hx 0 (by simp)) hok).good hS
   | copy =>
    obtain⟨x',y',rfl⟩:=AjR (show JD (a2 _ xs).ok from hok')
    have hargs: ∃ x y,args= #[x,y]:=by
     have:args.size=2:=by simpa [Op.operands,Call.operands]using hl.symm
     refine⟨args[0],args[1],?_⟩;apply Fp (by simp [this]);intro i h1 h2;have:i=0\/i=1:=by omega
     rcases this with rfl | rfl<;>rfl
    obtain⟨x,y,rfl⟩:=hargs;exact Awg (o:=⟨dst,.call ⟨.builtin .copy,#[x,y],ts⟩,ty,pos,after,guard⟩) (ts':=ts.toList) hC hS rfl rfl rfl rfl hf (hx 0 (by simp)) (hx 1 (by simp)) hok'
   | append =>
    obtain⟨x',y',rfl⟩:=AjR (show JD (a2 _ xs).ok from hok')
    have hargs: ∃ x y,args= #[x,y]:=by
     have:args.size=2:=by simpa [Op.operands,Call.operands]using hl.symm
     refine⟨args[0],args[1],?_⟩;apply Fp (by simp [this]);intro i h1 h2;have:i=0\/i=1:=by omega
     rcases this with rfl | rfl<;>rfl
    obtain⟨x,y,rfl⟩:=hargs;have e0:opX C ⟨dst,.call ⟨.builtin .append,#[x,y],ts⟩,ty,pos,after,guard⟩ [x',y'] fet=AxI C ⟨dst,.call ⟨.builtin .append,#[x,y],ts⟩,ty,pos,after,guard⟩ fet ts.toList x' y':=rfl;rw[e0]at hok hfr ⊢;clear hok' e0;generalize hts:ts.toList=tl at hok hfr ⊢;unfold AxI at hok hfr ⊢;split at hok
    .rename_i t u;dsimp only at hfr ⊢;obtain⟨tu,htu,he⟩:=KC hok;rw[he]at hok hfr ⊢;obtain⟨d,hd,he⟩:=JV hok;rw[he]at hok hfr ⊢;obtain⟨h1,h2⟩:=hok.cons;exact ArI hC hS hd rfl rfl rfl hts htu h1 hf (hx 0 (by simp)) (hx 1 (by simp)) h2 hfr
    .exact(JQ hok).elim
   | delete =>
    obtain⟨x',y',rfl⟩:=AjR (show JD (a2 _ xs).ok from hok')
    have hargs: ∃ x y,args= #[x,y]:=by
     have:args.size=2:=by simpa [Op.operands,Call.operands]using hl.symm
     refine⟨args[0],args[1],?_⟩;apply Fp (by simp [this]);intro i h1 h2;have:i=0\/i=1:=by omega
     rcases this with rfl | rfl<;>rfl
    obtain⟨x,y,rfl⟩:=hargs;have e0:opX C ⟨dst,.call ⟨.builtin .delete,#[x,y],ts⟩,ty,pos,after,guard⟩ [x',y'] fet=(match ts.toList with | t::_=>AaH C fet t x' y' | []=>.no):=rfl;rw[e0]at hok ⊢;clear hok' e0;generalize hts:ts.toList=tl at hok ⊢;cases tl with
    | nil=>exact(JQ hok).elim
    | cons t r=>exact ArQ (o:=⟨dst,.call ⟨.builtin .delete,#[x,y],ts⟩,ty,pos,after,guard⟩) hC hS rfl rfl rfl hts hf (hx 0 (by simp)) (hx 1 (by simp)) hok
   | min =>
    obtain⟨x',y',rfl⟩:=AjR (show JD (a2 _ xs).ok from hok')
    have hargs: ∃ x y,args= #[x,y]:=by
     have:args.size=2:=by simpa [Op.operands,Call.operands]using hl.symm
     refine⟨args[0],args[1],?_⟩;apply Fp (by simp [this]);intro i h1 h2;have:i=0\/i=1:=by omega
     rcases this with rfl | rfl<;>rfl
    obtain⟨x,y,rfl⟩:=hargs;exact(AyA (o:=⟨dst,.call ⟨.builtin .min,#[x,y],ts⟩,ty,pos,after,guard⟩) rfl rfl rfl (hx 0 (by simp)) (hx 1 (by simp)) hok).good hS
   | max =>
    obtain⟨x',y',rfl⟩:=AjR (show JD (a2 _ xs).ok from hok')
    have hargs: ∃ x y,args= #[x,y]:=by
     have:args.size=2:=by simpa [Op.operands,Call.operands]using hl.symm
     refine⟨args[0],args[1],?_⟩;apply Fp (by simp [this]);intro i h1 h2;have:i=0\/i=1:=by omega
     rcases this with rfl | rfl<;>rfl
    obtain⟨x,y,rfl⟩:=hargs;exact(Ay7 (o:=⟨dst,.call ⟨.builtin .max,#[x,y],ts⟩,ty,pos,after,guard⟩) rfl rfl rfl (hx 0 (by simp)) (hx 1 (by simp)) hok).good hS
   | _=>exfalso;exact JQ hok'
  | invoke r mth=>exfalso;exact Alk hok rfl
 | _=>exfalso;exact Alk hok rfl
end
end Go.Proofs.YtfgdgdnlglejbaaGreatDoor.Vm
