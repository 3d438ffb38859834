import Derived.Test.YtadefjgbcapakaaGreatDoorA21
set_option linter.all false
namespace Go.Proofs.YtadefjgbcapakaaGreatDoor.Pl
open IntKind (i64)
open Go Vm
def rg (x:Int):Prop:= -9223372036854775808<=x/\x<=9223372036854775807
theorem rg0:rg 0:=⟨by decide,by decide⟩
theorem Anr (x:Int):rg (i64.wrap x):=by
  by_cases h:x % 18446744073709551616>=9223372036854775808
  ·rw[show i64.wrap x=x % 18446744073709551616 - 18446744073709551616 from if_pos (decide_eq_true h)]
   exact⟨by omega,by omega⟩
  ·rw[show i64.wrap x=x % 18446744073709551616 from if_neg (fun e=>h (of_decide_eq_true e))]
   exact⟨by omega,by omega⟩
theorem AjT (r:Bs) (n:Nat):rg (flV r n).1:=by
  have key: ∀(l:List Nat) (a:Int),rg a->rg (l.foldl (fun acc i=>bif jO r i then Bi .or .i64 acc (i64.wrap (1*2 ^ min i 64))else acc) a):=by
    intro l
    induction l with
    | nil=>intro a h;exact h
    | cons x y ih =>
      intro a h
      refine ih _ ?_
      dsimp only
      cases jO r x with
      | false=>exact h
      | true=>exact Anr _
  unfold flV
  cases decide (0<n)&& !jO r (n - 1)with
  | true=>exact rg0
  | false =>
    cases decide (16<n)with
    | true=>exact rg0
    | false=>exact key _ 0 rg0
theorem AjS (s:Bs):rg (flP s).1:=by
  unfold flP
  cases (N8 s).2.2 != 0 with
  | true=>exact rg0
  | false=>exact AjT _ _
theorem Ahv (s:Bs) (hs:s.length<=1048576):GZ (Uu s).1:=by
  have h:=(wK s hs).1
  unfold Uu
  cases (Iq s).2 != 0 with
  | true=>intro p hp;cases hp
  | false =>
    cases hb:((Iq s).1.length:Int) != 1||((Iq s).1.getD 0 (0,[],[])).1 != 4 with
    | true=>intro p hp;cases hp
    | false =>
      rw[Bool.or_eq_false_iff]at hb
      have h1:(Iq s).1.length=1:=by
        have:=hb.1
        simp at this;omega
      exact(h _ (getD_mem (0,[],[]) (by omega))).2
theorem Ali {l:List El} (hg:Good 1048576 l):Gp (st1 l).1:=by
  unfold st1
  cases h1:(Be l 160).2.1 with
  | false=>intro g hgm;cases hgm
  | true =>
    have hl1:=Yn hg 160 h1
    have ho:=Q8 (Be l 160).1.2.1 160
    cases (C9 (Be l 160).1.2.1 160).2 != 0 with
    | true=>intro g hgm;cases hgm
    | false=>exact(wK _ (by omega)).1
theorem Alj (l:List El):rg (st2 l).1:=by
  unfold st2
  cases (Be l 129).2.1 with
  | false=>exact rg0
  | true =>
    cases (flP (Be l 129).1.2.1).2 != 0 with
    | true=>exact rg0
    | false =>
      cases (flP (Be l 129).1.2.1).1==0 with
      | true=>exact rg0
      | false=>exact AjS _
theorem Alk {l:List El} (hg:Good 1048576 l):GZ (st3 l).1.2:=by
  unfold st3
  cases h1:(Be l 162).2.1 with
  | false=>intro p hp;cases hp
  | true =>
    have hl1:=Yn hg 162 h1
    cases (Uu (Be l 162).1.2.1).2 != 0 with
    | true=>intro p hp;cases hp
    | false=>exact Ahv _ hl1
theorem QD:H7 zP:=⟨fun g h=>(by cases h),fun p h=>(by cases h),by decide,by decide⟩
theorem AkS {l:List El} (hg:Good 1048576 l):H7 (ptD l).1:=by
  unfold ptD
  cases (st1 l).2 != 0 with
  | true=>exact QD
  | false =>
    cases (st2 (r1 l)).2 != 0 with
    | true=>exact QD
    | false =>
      cases (st3 (r2 l)).2 != 0 with
      | true=>exact QD
      | false =>
        cases decide (r3 l≠ [])with
        | true=>exact QD
        | false=>exact⟨Ali hg,Alk (Ag6 hg),Alj _⟩
def elD (e:El):Pt×Int:=bif e.1 != 48 then(zP,5)else bif (AV e.2.1).2 != 0 then(zP,(AV e.2.1).2)else ptD (AV e.2.1).1
theorem AjA {e:El} (he:e.2.1.length<=1048576):H7 (elD e).1:=by
  unfold elD
  cases e.1 != 48 with
  | true=>exact QD
  | false =>
    cases (AV e.2.1).2 != 0 with
    | true=>exact QD
    | false=>exact AkS ((Dv e.2.1).mono he)
def psD (l:List El):List Pt×Int :=
  bif l.isEmpty then([],7)else bif AU (fun e=>(elD e).2) l != 0 then([],AU (fun e=>(elD e).2) l)else
  bif Gm (l.map fun e=>(elD e).1) != 0 then([],Gm (l.map fun e=>(elD e).1))else(l.map fun e=>(elD e).1,0)
def Ai6 (s:Bs):List Pt×Int:=bif (C9 s 48).2 != 0 then([],(C9 s 48).2)else bif (AV (C9 s 48).1.2.1).2 != 0 then([],(AV (C9 s 48).1.2.1).2)else psD (AV (C9 s 48).1.2.1).1
theorem Aou (N:Nat) (l:List Pt) (hN:1048578<N) (hs: ∀ p∈l,H7 p):BP N l=some (Gm l):=Gs N l hN hs
theorem Ajd (N:Nat) (e:El) (r:List El) (hN:1048578<N) (he:e.2.1.length<=1048576):DL N (e::r)=some (bif e.1 != 48 then .inr ((),5,e::r)else bif (AV e.2.1).2 != 0 then .inr ((),(AV e.2.1).2,r)else .inl ((AV e.2.1).1,0,r)):=by
  unfold DL Fv Mc Ib
  try simp only[clR]
  have hl:(e::r).length=r.length+1:=rfl
  simp (disch:=first | assumption | omega) only[Aq,hl,List.getD_cons_zero,Eb N e.2.1 (by omega) (by omega) (by omega)]
  rw[<- hl,show AB (e::r) 1 (e::r).length=r from by show((e::r).take (e::r).length).drop 1=r;rw[List.take_length];rfl]
  cases e.1 != 48 with
  | true=>rfl
  | false =>
    have hT:=Eb N e.2.1 (by omega) (by omega) (by omega)
    simp (disch:=first | assumption | omega) only[Aq,hT]
    cases (AV e.2.1).2 != 0<;>rfl
theorem FN (N:Nat) (s:Bs) (hN:1048578<N) (hs:s.length<=1048576):Ed N s=some (Ai6 s):=by
  unfold Ed
  try simp only[clR]
  rw[AnE N s 48 (by omega) (by omega) (by omega)]
  have hc:=Nr s
  have hg:Good 1048576 (AV (Cf s).1.2.1).1:=(Dv _).mono (by omega)
  unfold Ai6 C9 Aiy
  by_cases h1:(Cf s).2=0
  ·have b1:((Cf s).2 != 0)=false:=by simp [h1]
   rw[if_neg (fun h=>h h1),b1]
   simp only[cond_false]
   by_cases h2:(Cf s).1.1=48
   ·have b2:((Cf s).1.1 != 48)=false:=by simp [h2]
    rw[if_neg (fun h=>h h2),b2]
    simp only[cond_false]
    by_cases h3:(AV (Cf s).1.2.1).2=0
    ·have b3:((AV (Cf s).1.2.1).2 != 0)=false:=by simp [h3]
     rw[if_neg (fun h=>h h3),b3,QV]
     generalize (AV (Cf s).1.2.1).1=l at hg
     have hlen:=hg.len
     unfold Di psD
     cases hl:l with
     | nil=>rfl
     | cons a0 l0 =>
       rw[<- hl]
       have hp:0<l.length:=by rw[hl];exact Nat.succ_pos _
       have he:l.isEmpty=false:=by rw[hl];rfl
       rw[he]
       simp (disch:=first | assumption | omega) only[Aq]
       refine(Anb (R:=Int) (fun r acc=>(r,acc)) (fun r (acc:List Pt)=>Good 1048576 r/\acc.length+r.length<=1048576) (fun e acc=>bif (elD e).2 != 0 then .inl (elD e).2 else .inr (acc++[(elD e).1])) (fun e=>some ([],e)) (fun acc=>Ac (BP N acc) fun r46=>bif r46 != 0 then some ([],r46)else some (acc,0)) ?_ ?_ ?_ N l [] ⟨hg,by simpa using hlen⟩ (by omega)).trans ?_
       ·intro e r acc hI k
        have hee:=(hI.1.all e List.mem_cons_self).content
        have hlr:(e::r).length=r.length+1:=rfl
        have hI2:=hI.2
        rw[hlr]at hI2
        have hIn:=Ajd N e r hN (by omega)
        simp (disch:=first | assumption | omega) only[Aq,hlr,hIn]
        unfold elD
        cases b4:e.1 != 48 with
        | true=>rfl
        | false =>
          cases b5:(AV e.2.1).2 != 0 with
          | true =>
            simp only[cond_false,cond_true,b5,IG]
          | false =>
            obtain⟨rest,hd⟩:=Aaq N (AV e.2.1).1 hN ((Dv e.2.1).mono (by omega))
            simp only[cond_false,QV]
            simp (disch:=first | assumption | omega) only[Aq,hd]
       ·intro e r acc acc' hI hst
        have hI2:=hI.2
        rw[show(e::r).length=r.length+1 from rfl]at hI2
        cases b4:(elD e).2 != 0 with
        | true=>rw[b4]at hst;cases hst
        | false =>
          rw[b4]at hst;injection hst with hst;subst hst
          exact⟨hI.1.tail,by rw[List.length_append];show acc.length+1+r.length<=_;omega⟩
       ·intro acc k hI
        simp (disch:=first | assumption | omega) only[Aq]
        rfl
       ·rw[xI,Ht,List.nil_append]
        cases AU (fun e=>(elD e).2) l != 0 with
        | true=>rfl
        | false =>
          rw[cond_false,Aao,Aou N _ hN (fun p hp=>by
            obtain⟨x,hx,rfl⟩:=List.mem_map.1 hp
            exact AjA (by have:=(hg.all x hx).content;omega)),Ae,Bh]
          rfl
    ·have b3:((AV (Cf s).1.2.1).2 != 0)=true:=by simp [h3]
     rw[if_pos h3,b3,IG,b3];rfl
   ·have b2:((Cf s).1.1 != 48)=true:=by simp [h2]
    rw[if_pos h2,b2,IG];rfl
  ·have b1:((Cf s).2 != 0)=true:=by simp [h1]
   rw[if_pos h1,b1,IG]
   simp only[cond_true,b1]
theorem Kq {E:Type} {f:E->Int}: ∀ {l:List E},(∀ e∈l,f e=0)->AU f l=0:=by
  intro l
  induction l with
  | nil=>intro _;rfl
  | cons e r ih =>
    intro h
    show(if f e≠0 then f e else AU f r)=0
    rw[if_neg (by rw[h e List.mem_cons_self];decide)]
    exact ih fun x hx=>h x (List.mem_cons_of_mem _ hx)
theorem NC (t:Nat) (c:Bs) (ht:t<256) (h31:t % 32≠31) (hc:c.length<=131072):Fine (t,c):=⟨ht,h31,hc⟩
def okN (n:List (List Att)):Prop:=n.length<=3/\ ∀ r∈n,r∈QN
def nmC (n:List (List Att)):List (List Att):=n.map QA
structure Aqh (r:List Att):Prop where
  rd:Jc (AA 49 (Fa (r.map Hf)))=(QA r,0)
  i0:KL r=0
  i1:KL (QA r)=0
  same:Adw r (QA r)=true
  enc:JQ (QA r)=JQ r
  len:(Fa (r.map Hf)).length<=200
  s0: ∀ a∈r,Ny a
  s1: ∀ a∈QA r,Ny a
theorem Xl {r:List Att} (h:r∈QN):Aqh r:=by
  have h:=List.all_eq_true.1 Aox r h
  unfold An9 at h
  simp only[Bool.and_eq_true,beq_iff_eq,List.all_eq_true,decide_eq_true_eq]at h
  obtain⟨⟨⟨⟨⟨⟨⟨h1,h2⟩,h3⟩,h4⟩,h5⟩,h6⟩,h7⟩,h8⟩:=h
  rw[Wh]at h1 h6
  rw[Wh,Wh]at h4
  refine⟨Prod.ext (by unfold QA;rw[Wh]) h1,h2,h3,h5,by unfold JQ;rw[h4],h6,fun a ha=> ?_,fun a ha=> ?_⟩
  ·have:=h7 a ha;exact⟨by omega,by omega⟩
  ·have:=h8 a ha;exact⟨by omega,by omega⟩
theorem xR {n:List (List Att)} (h:n.length<=3) (hr: ∀ r∈n,KL r=0):Fb n=0:=by
  have:Tt n=some 0:=by
    unfold Tt
    rw[if_neg (by omega)]
    clear h
    induction n with
    | nil=>rfl
    | cons r n ih =>
      unfold Jd Ry
      rw[if_pos (hr r List.mem_cons_self)]
      exact ih fun x hx=>hr x (List.mem_cons_of_mem _ hx)
  unfold Fb;rw[this];rfl
section
variable {n:List (List Att)} (hn:okN n)
include hn
theorem An8:Fb n=0:=xR hn.1 fun r hr=>(Xl (hn.2 r hr)).i0
theorem y9:Fb (nmC n)=0:=xR (by unfold nmC;rw[List.length_map];exact hn.1) fun r hr=>by
  obtain⟨x,hx,rfl⟩:=List.mem_map.1 hr
  exact(Xl (hn.2 x hx)).i1
theorem AbO:GZ n:=fun r hr=>(Xl (hn.2 r hr)).s0
theorem y8:GZ (nmC n):=fun r hr=>by
  obtain⟨x,hx,rfl⟩:=List.mem_map.1 hr
  exact(Xl (hn.2 x hx)).s1
theorem Aqu:nmB (nmC n)=nmB n:=by
  unfold nmB nmC
  rw[List.map_map]
  congr 2
  exact List.map_congr_left fun r hr=>(Xl (hn.2 r hr)).enc
theorem AeT:(n.map JQ).flatten.length<=615:=by
  have h: ∀ r∈n,(JQ r).length<=205:=fun r hr=>by
    have h1:=(Xl (hn.2 r hr)).len
    have:=Sp.Aw 49 (Fa (r.map Hf))
    unfold JQ;omega
  have:=D5 (g:=JQ) (M:=205) (l:=n) h
  have:=hn.1
  omega
theorem Aoo:(nmB n).length<=620:=by
  have:=AeT hn
  have:=Sp.Aw 48 (n.map JQ).flatten
  unfold nmB;omega
theorem Aqv:nmD (nmB n)=(nmC n,0):=by
  have hl:=AeT hn
  have h1:=sW 48 (n.map JQ).flatten (by decide) (by decide) (by omega)
  have hf: ∀ r∈n,Fine (49,Fa (r.map Hf)):=fun r hr=>NC 49 _ (by decide) (by decide) (by have:=(Xl (hn.2 r hr)).len;omega)
  have h2:=EL (n.map fun r=>(49,Fa (r.map Hf))) (fun p hp=>by
    obtain⟨r,hr,rfl⟩:=List.mem_map.1 hp
    exact hf r hr)
  rw[List.map_map,List.map_map]at h2
  have h2:AV (n.map JQ).flatten=(n.map fun r=>AA 49 (Fa (r.map Hf)),0):=h2
  have h3:AU (fun a=>(Jc a).2) (n.map fun r=>AA 49 (Fa (r.map Hf)))=0:=Kq fun e he=>by
    obtain⟨r,hr,rfl⟩:=List.mem_map.1 he
    rw[(Xl (hn.2 r hr)).rd]
  have h4:(n.map fun r=>AA 49 (Fa (r.map Hf))).map (fun a=>(Jc a).1)=nmC n:=by
    rw[List.map_map]
    exact List.map_congr_left fun r hr=>by show(Jc _).1=_;rw[(Xl (hn.2 r hr)).rd]
  unfold nmD
  rw[show Cf (nmB n)=_ from h1]
  dsimp only[AA]
  rw[h2]
  dsimp only
  rw[h3,h4,y9 hn];rfl
end
def Afi:List Gn:=[[97,110,110,64,101,120,97,109,112,108,101,46,111,114,103],[65,78,78,64,101,120,97,109,112,108,101,46,111,114,103],[97,110,110,64,69,120,97,109,112,108,101,46,79,82,71],[98,46,99,64,109,97,105,108,46,101,120,97,109,112,108,101,46,111,114,103],[120,64,111,114,103],[97,39,98,64,97,46,98]].map (fun s=>(1,s,[])) ++
  [[101,120,97,109,112,108,101,46,111,114,103],[119,119,119,46,101,120,97,109,112,108,101,46,111,114,103],[87,87,87,46,69,120,97,109,112,108,101,46,111,114,103],[42,46,101,120,97,109,112,108,101,46,111,114,103],[97,46,98],[111,114,103],[109,121,101,120,97,109,112,108,101,46,111,114,103]].map (fun s=>(2,s,[])) ++
  [[10,0,0,1],[10,1,2,3],[192,168,1,7],[32,1,13,184,0,0,0,0,0,0,0,0,0,0,0,1]].map (fun s=>(7,s,[]))
def Ad9:List Gn:=[[97,110,110,64,101,120,97,109,112,108,101,46,111,114,103],[101,120,97,109,112,108,101,46,111,114,103],[46,101,120,97,109,112,108,101,46,111,114,103],[69,88,65,77,80,76,69,46,111,114,103],[46,111,114,103],[111,114,103],[109,97,105,108,46,101,120,97,109,112,108,101,46,111,114,103]].map (fun s=>(1,s,[])) ++
  [[101,120,97,109,112,108,101,46,111,114,103],[119,119,119,46,101,120,97,109,112,108,101,46,111,114,103],[],[69,120,97,109,112,108,101,46,79,82,71],[111,114,103],[98],[97,46,98]].map (fun s=>(2,s,[])) ++
  [[10,0,0,0,255,0,0,0],[10,1,0,0,255,255,0,0],[0,0,0,0,0,0,0,0],[10,1,2,3,255,255,255,255],[32,1,0,0,0,0,0,0,0,0,0,0,0,0,0,0,255,255,0,0,0,0,0,0,0,0,0,0,0,0,0,0]].map (fun s=>(7,s,[]))
def okG (c:Bool) (g:Gn):Prop:=g∈(bif c then Ad9 else Afi)\/ ∃ n,okN n/\g=(4,[],n)
def gnK (g:Gn):Gn:=(g.1,g.2.1,nmC g.2.2)
def gnT (g:Gn):Nat×Bs:=bif g.1==4 then(164,nmB g.2.2)else((128+g.1).toNat,g.2.1)
theorem wH (g:Gn):Cc g=Sp.elem (gnT g).1 (gnT g).2:=by
  unfold Cc gnT
  cases g.1==4<;>rfl
def zF (c:Bool) (g:Gn):Bool:=CZ g c==0&&(gnD (AA (gnT g).1 (gnT g).2) c==(g,0))&&g.2.2.isEmpty&&decide (g.2.1.length<=40)&&decide ((gnT g).1<256)&&decide ((gnT g).1 % 32≠31)&& !(g.1==4)
theorem Ane:Afi.all (zF false)=true:=by kernel_rfl
theorem AlE:Ad9.all (zF true)=true:=by kernel_rfl
structure AqA (c:Bool) (g:Gn):Prop where
  i0:CZ g c=0
  i1:CZ (gnK g) c=0
  fine:Fine (gnT g)
  len:(gnT g).2.length<=620
  rd:gnD (AA (gnT g).1 (gnT g).2) c=(gnK g,0)
  enc:Cc (gnK g)=Cc g
  s0:Ky g
  s1:Ky (gnK g)
  nm:okN g.2.2
theorem EK {c:Bool} {g:Gn} (h:okG c g):AqA c g:=by
  rcases h with h | ⟨n,hn,rfl⟩
  ·have h:zF c g=true:=by
     cases c with
     | true=>exact List.all_eq_true.1 AlE g h
     | false=>exact List.all_eq_true.1 Ane g h
   unfold zF at h
   simp only[Bool.and_eq_true,beq_iff_eq,decide_eq_true_eq,Bool.not_eq_true',List.isEmpty_iff]at h
   obtain⟨⟨⟨⟨⟨⟨h1,h2⟩,h3⟩,h4⟩,h5⟩,h6⟩,h7⟩:=h
   have hk:gnK g=g:=by obtain⟨k,s,n⟩:=g;dsimp only at h3;subst h3;rfl
   have ht:(gnT g).2=g.2.1:=by unfold gnT;rw[h7];rfl
   have hsm:Ky g:=⟨by omega,by rw[h3];intro r hr;cases hr⟩
   exact⟨h1,by rw[hk];exact h1,⟨h5,h6,by rw[ht];omega⟩,by rw[ht];omega,by rw[hk];exact h2,by rw[hk],hsm,by rw[hk];exact hsm,by rw[h3];exact⟨Nat.zero_le _,fun r hr=>by cases hr⟩⟩
  ·have hl:=Aoo hn
   have hv: ∀ m,Fb m=0->CZ (4,[],m) c=0:=fun m hm=>hm
   refine⟨hv n (An8 hn),hv _ (y9 hn),NC 164 (nmB n) (by decide) (by decide) (by omega),hl,?_,?_,⟨Nat.zero_le _,AbO hn⟩,⟨Nat.zero_le _,y8 hn⟩,hn⟩
   ·show(bif (nmD (nmB n)).2 != 0 then(zG,(nmD (nmB n)).2)else gnC (4,[],(nmD (nmB n)).1) c)=_
    rw[Aqv hn]
    show gnC (4,[],nmC n) c=_
    unfold gnC
    rw[hv _ (y9 hn)];rfl
   ·show Sp.elem 164 (nmB (nmC n))=Sp.elem 164 (nmB n)
    rw[Aqu hn]
theorem Akb {c:Bool} {l:List Gn} (h: ∀ g∈l,okG c g):AV (BD l)=(l.map fun g=>AA (gnT g).1 (gnT g).2,0):=by
  have h2:=EL (l.map gnT) (fun p hp=>by
    obtain⟨g,hg,rfl⟩:=List.mem_map.1 hp
    exact(EK (h g hg)).fine)
  rw[List.map_map,List.map_map]at h2
  unfold BD
  rw[show l.map Cc=l.map ((fun p=>Sp.elem p.1 p.2)∘gnT)from List.map_congr_left fun g _=>wH g,h2];rfl
theorem Amk {c:Bool} {l:List Gn} (h: ∀ g∈l,okG c g):(BD l).length<=625*l.length:=by
  refine D5 (g:=Cc) (M:=625) (l:=l) fun g hg=> ?_
  have:=(EK (h g hg)).len
  have:=Sp.Aw (gnT g).1 (gnT g).2
  rw[wH];omega
theorem AdY {l:List Gn} (h: ∀ g∈l,okG false g) (h0:l≠ []) (h1:l.length<=16):Iq (BD l)=(l.map gnK,0):=by
  unfold Iq
  rw[Akb h]
  dsimp only
  have e1:(l.map fun g=>AA (gnT g).1 (gnT g).2).isEmpty=false:=by cases l with | nil=>exact absurd rfl h0 | cons a r=>rfl
  have e2:decide (16<(l.map fun g=>AA (gnT g).1 (gnT g).2).length)=false:=by rw[List.length_map];exact decide_eq_false (by omega)
  have e3:AU (fun a=>(gnD a false).2) (l.map fun g=>AA (gnT g).1 (gnT g).2)=0:=Kq fun e he=>by
    obtain⟨g,hg,rfl⟩:=List.mem_map.1 he
    rw[(EK (h g hg)).rd]
  have e4:(l.map fun g=>AA (gnT g).1 (gnT g).2).map (fun a=>(gnD a false).1)=l.map gnK:=by
    rw[List.map_map]
    exact List.map_congr_left fun g hg=>by show(gnD _ _).1=_;rw[(EK (h g hg)).rd]
  rw[e1,e2,e3,e4];rfl
theorem AgB {c:Bool} {l:List Gn} (h: ∀ g∈l,okG c g):BD (l.map gnK)=BD l:=by
  unfold BD
  rw[List.map_map]
  congr 1
  exact List.map_congr_left fun g hg=>(EK (h g hg)).enc
end Go.Proofs.YtadefjgbcapakaaGreatDoor.Pl
namespace Go.Proofs.YtadefjgbcapakaaGreatDoor.Pl
open IntKind (i64)
open Go Vm
theorem Aol {r:Int} (h0: -9223372036854775808<=r) (h1:r<=9223372036854775807) (h:Bi .andNot .i64 r 510=0):0<=r/\r<512:=by
  have e:Bi .andNot .i64 r 510=i64.wrap ((BitVec.ofInt 64 r &&& ~~~(510#64)).toNat:Int):=rfl
  rw[e]at h
  generalize hb:BitVec.ofInt 64 r=b at h
  have hz:(b &&& ~~~(510#64)).toNat=0:=by
    have hlt:=(b &&& ~~~(510#64)).isLt
    generalize (b &&& ~~~(510#64)).toNat=n at h hlt
    have e2:i64.wrap (n:Int)=if 9223372036854775808<=(n:Int) % 18446744073709551616 then(n:Int) % 18446744073709551616 - 18446744073709551616 else(n:Int) % 18446744073709551616:=by
      show(if(true&&decide ((n:Int) % 18446744073709551616>=9223372036854775808))=true then _ else _)=_
      simp only[Bool.true_and,decide_eq_true_eq,ge_iff_le]
      rfl
    rw[e2]at h
    split at h<;>omega
  have hz2:b &&& ~~~(510#64)=0#64:=BitVec.eq_of_toNat_eq (by rw[hz];rfl)
  have hle:b.toNat<=510:=by
    have:b=b &&& 510#64:=by
      apply BitVec.eq_of_getLsbD_eq
      intro i hi
      have hq:(b &&& ~~~(510#64)).getLsbD i=false:=by rw[hz2];simp
      rw[BitVec.getLsbD_and,BitVec.getLsbD_not]at hq
      rw[BitVec.getLsbD_and]
      have hd:decide (i<64)=true:=decide_eq_true hi
      rw[hd,Bool.true_and]at hq
      revert hq
      cases b.getLsbD i<;>cases (510#64).getLsbD i<;>simp
    rw[this,BitVec.toNat_and]
    exact Nat.and_le_right
  have hn:(b.toNat:Int)=r % 18446744073709551616:=by
    rw[<- hb,BitVec.toNat_ofInt]
    have:(0:Int)<=r % 18446744073709551616:=by omega
    rw[show((2 ^ 64:Nat):Int)=18446744073709551616 from rfl]
    exact Int.toNat_of_nonneg this
  omega
def pnB (l:List Gn):Bs:=bif l.isEmpty then []else Sp.elem 160 (Sp.elem 160 (BD l))
def pfB (t:Nat) (r:Int):Bs:=bif r==0 then []else Sp.elem t (flB r)
def piB (b:Bool) (n:List (List Att)):Bs:=bif b then Sp.elem 162 (Cc (4,[],n))else []
def Ep (p:Pt):Bs:=Sp.elem 48 (pnB p.1++(pfB 129 p.2.1++piB p.2.2.1 p.2.2.2))
structure AgO (p:Pt):Prop where
  n16:p.1.length<=16
  ns:AU (fun g=>CZ g false) p.1=0
  r:0<=p.2.1/\p.2.1<512
  i:p.2.2.1=true->Fb p.2.2.2=0/\p.2.2.2≠ []
  ne:p.1=[]->p.2.2.1=true
  nb:p.2.2.1=false->p.2.2.2=[]
theorem Ap2 {p:Pt} (hs:H7 p) (h:ptI p=0):AgO p:=by
  obtain⟨g,r,b,n⟩:=p
  obtain⟨_,_,hr0,hr1⟩:=hs
  unfold ptI at h
  dsimp only at h hr0 hr1
  cases h1:(g.isEmpty&& !b)||(!n.isEmpty&& !b)with
  | true=>rw[h1]at h;cases h
  | false =>
    rw[h1,cond_false]at h
    cases h2:Bi .andNot .i64 r 510 != 0 with
    | true=>rw[h2]at h;cases h
    | false =>
      rw[h2,cond_false]at h
      cases h3:decide (16<g.length)with
      | true=>rw[h3]at h;cases h
      | false =>
        rw[h3,cond_false]at h
        cases h4:Ih g false != 0 with
        | true=>rw[h4,cond_true]at h;rw[h]at h4;cases h4
        | false =>
          rw[h4,cond_false]at h
          have:=of_decide_eq_false h3
          refine⟨by dsimp only;omega,by simpa [Ih]using h4,Aol hr0 hr1 (by simpa using h2),?_,?_,?_⟩
          ·intro hb
           dsimp only at hb ⊢
           subst hb
           rw[Bool.not_true,cond_false]at h
           cases h5:n.isEmpty with
           | true=>rw[h5]at h;cases h
           | false =>
             rw[h5,cond_false]at h
             exact⟨h,by intro hn;subst hn;cases h5⟩
          ·intro hg
           dsimp only at hg ⊢
           subst hg
           cases b with
           | true=>rfl
           | false=>cases h1
          ·intro hb
           dsimp only at hb ⊢
           subst hb
           cases n with
           | nil=>rfl
           | cons x y=>simp at h1
theorem AgG {p:Pt} (h:AgO p):(pnB p.1).length<=71978/\(BD p.1).length<=71968:=by
  have h1:=AbD h.ns h.n16
  have h2:=Sp.Aw 160 (BD p.1)
  have h3:=Sp.Aw 160 (Sp.elem 160 (BD p.1))
  refine⟨?_,h1⟩
  unfold pnB
  cases p.1.isEmpty with
  | true=>exact Nat.zero_le _
  | false=>rw[cond_false];omega
theorem Aa5 {r:Int} (h:0<=r/\r<512):(flB r).length<=3:=(Wv 1048579 r (by omega) h.1 h.2).2.2
theorem Aot {t:Nat} {r:Int} (h:0<=r/\r<512):(pfB t r).length<=8:=by
  have h1:=Aa5 h
  have h2:=Sp.Aw t (flB r)
  unfold pfB
  cases r==0 with
  | true=>exact Nat.zero_le _
  | false=>rw[cond_false];omega
theorem Aj2 {n:List (List Att)} (h:Fb n=0):CZ (4,[],n) false=0:=by
  unfold CZ
  rw[Na rfl,cond_true]
  exact h
theorem AgF {b:Bool} {n:List (List Att)} (h:b=true->Fb n=0/\n≠ []):(piB b n).length<=4503/\(b=true->(Cc (4,[],n)).length<=4498):=by
  unfold piB
  cases b with
  | false=>exact⟨Nat.zero_le _,fun h=>by cases h⟩
  | true =>
    have h1:=U0 (Aj2 (h rfl).1)
    have h2:=Sp.Aw 162 (Cc (4,[],n))
    rw[cond_true]
    exact⟨by omega,fun _=>h1⟩
theorem yF {p:Pt} (h:AgO p):(Ep p).length<=76494/\(pnB p.1++(pfB 129 p.2.1++piB p.2.2.1 p.2.2.2)).length<=76489:=by
  have h1:=(AgG h).1
  have h2:=Aot (t:=129) h.r
  have h3:=(AgF h.i).1
  have h4:=Sp.Aw 48 (pnB p.1++(pfB 129 p.2.1++piB p.2.2.1 p.2.2.2))
  unfold Ep
  rw[List.length_append,List.length_append]at *
  omega
theorem Aov {l:List Pt} (hs: ∀ p∈l,H7 p) (h:Gm l=0):l.length<=4/\ ∀ p∈l,AgO p:=by
  unfold Gm at h
  cases h1:decide (4<l.length)with
  | true=>rw[h1]at h;cases h
  | false =>
    rw[h1,cond_false]at h
    have:=of_decide_eq_false h1
    exact⟨by omega,fun p hp=>Ap2 (hs p hp) (Ov h p hp)⟩
def JP (l:List Pt):Bs×Int:=bif l.isEmpty then([],7)else bif Gm l != 0 then([],Gm l)else Aa4 48 (l.map Ep).flatten
theorem Aeu {l:List Gn} (h0:l≠ []) (h16:l.length<=16) (h:AU (fun g=>CZ g false) l=0):Adn l=(BD l,0):=by
  unfold Adn Ih
  rw[show l.isEmpty=false by cases l with | nil=>exact absurd rfl h0 | cons _ _=>rfl,cond_false,decide_eq_false (by omega),cond_false,h];rfl
theorem Ahw {n:List (List Att)} (h:GZ n):Ky (4,[],n):=⟨Nat.zero_le _,h⟩
theorem FO (N:Nat) (l:List Pt) (hN:1048578<N) (hs: ∀ p∈l,H7 p):Ee N l=some (JP l):=by
  unfold Ee JP
  try simp only[clR]
  rw[len0,Gs N l hN hs]
  cases he:l.isEmpty with
  | true=>rfl
  | false =>
    rw[cond_false,cond_false,Ae,<- Bh]
    show(bif Gm l != 0 then some ([],Gm l)else _)=bif Gm l != 0 then _ else _
    refine BU fun h0=> ?_
    obtain⟨h4,hok⟩:=Aov hs (by simpa using h0)
    refine(L8 (mk:=fun i a=>((i:Int),false,a)) l ([],0,false,[]) Ep (fun a=>Ac (AZ N false a) fun r88=>Ac (Js N r88.snd) fun r90=>bif r90.fst then some ([],2)else some (r88.fst,0)) ?_ ?_ N (by omega)).trans ?_
    ·intro i a hi ha k
     have hsm:=hs _ (getD_mem ([],0,false,[]) hi)
     have hp:=hok _ (getD_mem ([],0,false,[]) hi)
     dsimp only[U3]
     rw[Int.toNat_natCast]
     generalize l.getD i ([],0,false,[])=p at *
     obtain⟨g,r,b,n⟩:=p
     have l1:=AgG hp
     have l2:=Aa5 hp.r
     have l3:=AgF hp.i
     have l4:=yF hp
     dsimp only at l1 l2 l3 l4
     have hl160:=Sp.Aw 160 (BD g)
     have e1: ∀ K:Bool×Bs->Option (Bs×Int),True:=fun _=>trivial
     have hseq:AZ N false [pnB g,pfB 129 r,piB b n]=some (Ep (g,r,b,n),false):=by
       unfold AZ
       have w:Ak N false 48 [pnB g,pfB 129 r,piB b n]=_:=Oh N 48 false [pnB g,pfB 129 r,piB b n] (by omega) (by omega) hN (by simp) (by rw[flat3];omega)
       rw[w,Ae,flat3];rfl
     have fin: ∀(x:Bool×List Bs×List Bs),x=(false,[pnB g,pfB 129 r,piB b n],a)->U3 (fun b38144_0d l39936d l1012288d=>Ac (AZ N b38144_0d l39936d) fun r82=>Vm.chk (decide ((l1012288d.length+1)*17<=140737488355328)) (k (i64.wrap ((i:Int)+1),r82.snd,l1012288d++[r82.fst]))) x=k (((i+1:Nat):Int),false,a++[Ep (g,r,b,n)]):=by
       intro x hx
       subst hx
       dsimp only[U3]
       rw[hseq,Ae]
       simp (disch:=first | assumption | omega) only[Aq,BJ]
     have gen:G5 N (4,[],n) false=some (rG (4,[],n) false):=OV N (4,[],n) false hN (Ahw hsm.2.1)
     rw[Adg (show(i:Int)<(l.length:Int) by omega),cond_true,vT (by omega),A8,A8]
     simp only[Ho]
     have step1: ∀(J:List Gn×Int×Bool×List (List Att)×Bool×List Bs×List Bs->Option (Bs×Int)),(bif decide (((g.length:Nat):Int)>0)then Ac (Gg N g) fun r39=>Ac (BL N false r39.fst r39.snd) fun r42=>Ac (Ak N r42.snd 160 [r42.fst]) fun r44=>Ac (Ak N r44.snd 160 [r44.fst]) fun r46=>J (g,r,b,n,r46.snd,[r46.fst,[],[]],a)else J (g,r,b,n,false,[[],[],[]],a))=J (g,r,b,n,false,[pnB g,[],[]],a):=by
       intro J
       rw[iZ]
       unfold pnB
       cases hg:g.isEmpty with
       | true=>rfl
       | false =>
         have hg0:g≠ []:=by intro h;subst h;cases hg
         have w1:Ak N false 160 [BD g]=_:=Oh N 160 false [BD g] (by omega) (by omega) hN (by simp) (by rw[CV];omega)
         have w2:Ak N false 160 [Sp.elem 160 (BD g)]=_:=Oh N 160 false [Sp.elem 160 (BD g)] (by omega) (by omega) hN (by simp) (by rw[CV];omega)
         rw[CV]at w1 w2
         rw[Bool.not_false,cond_true,cond_false,PZ N g hN hsm.1,Aeu hg0 hp.n16 hp.ns,Ae,Kz,Ae]
         show Ac (Ak N false 160 [BD g]) _=_
         rw[w1,Ae]
         show Ac (Ak N false 160 [Sp.elem 160 (BD g)]) _=_
         rw[w2,Ae]
     refine(step1 _).trans ?_
     dsimp only[U7]
     have last: ∀ x:Bs,x=pfB 129 r->(bif b then Ac (G5 N (4,[],n) false) fun r72=>Ac (BL N false r72.fst r72.snd) fun r75=>Ac (Ak N r75.snd 162 [r75.fst]) fun r77=>Vm.chk (decide (2<(([pnB g,x,[]]:List Bs).length:Int))) (Vm.chk (decide (2<([pnB g,x,[]]:List Bs).length)) (U3 (fun b38144_0d l39936d l1012288d=>Ac (AZ N b38144_0d l39936d) fun r82=>Vm.chk (decide ((l1012288d.length+1)*17<=140737488355328)) (k (i64.wrap ((i:Int)+1),r82.snd,l1012288d++[r82.fst]))) (r77.snd,([pnB g,x,[]]:List Bs).set 2 r77.fst,a)))else U3 (fun b38144_0d l39936d l1012288d=>Ac (AZ N b38144_0d l39936d) fun r82=>Vm.chk (decide ((l1012288d.length+1)*17<=140737488355328)) (k (i64.wrap ((i:Int)+1),r82.snd,l1012288d++[r82.fst]))) (false,[pnB g,x,[]],a))=k (((i+1:Nat):Int),false,a++[Ep (g,r,b,n)]):=by
       intro x hx
       subst hx
       cases hb:b with
       | false =>
         subst hb
         rw[cond_false]
         exact fin _ rfl
       | true =>
         subst hb
         have hn:=hp.i rfl
         have l5:=l3.2 rfl
         have w1:Ak N false 162 [Cc (4,[],n)]=_:=Oh N 162 false [Cc (4,[],n)] (by omega) (by omega) hN (by simp) (by rw[CV];omega)
         rw[CV]at w1
         unfold rG at gen
         rw[Aj2 hn.1]at gen
         rw[cond_true,gen,Ae,Kz,Ae]
         show Ac (Ak N false 162 [Cc (4,[],n)]) _=_
         rw[w1,Ae]
         exact fin _ rfl
     by_cases hr:r=0
     ·rw[Nb hr,cond_false]
      refine last [] ?_
      unfold pfB
      rw[Na hr];rfl
     ·have w1:Ak N false 129 [flB r]=_:=Oh N 129 false [flB r] (by omega) (by omega) hN (by simp) (by rw[CV];omega)
      rw[CV]at w1
      rw[AdC hr,cond_true,(Wv N r hN hp.r.1 hp.r.2).1,Ae,Kz,Ae]
      show Ac (Ak N false 129 [flB r]) _=_
      rw[w1,Ae]
      refine last (Sp.elem 129 (flB r)) ?_
      unfold pfB
      rw[OB hr];rfl
    ·intro a k ha
     simp (disch:=first | assumption | omega) only[Aq]
    ·have hl:=D5 (g:=Ep) (M:=76494) (l:=l) (fun p hp=>(yF (hok p hp)).1)
     rw[AoP N false _ (by rw[List.length_map];omega) (by rw[List.length_map];omega),Ae]
     unfold Aa4 Js
     cases JV 48 (l.map Ep).flatten<;>rfl
theorem wO (t:Nat) (k:Int) (h:(t:Int)=k) (c:Bs) (r:List El):Be (AA t c::r) k=(AA t c,true,r):=Ag8 h
structure okP (p:Pt):Prop where
  nm: ∃ g,okG false g/\p.1=[g]
  re:p.2.1=0\/p.2.1∈([510,2,64,384]:List Int)
  is:(p.2.2.1=false/\p.2.2.2=[])\/(p.2.2.1=true/\okN p.2.2.2/\p.2.2.2≠ [])
def ptK (p:Pt):Pt:=(p.1.map gnK,p.2.1,p.2.2.1,nmC p.2.2.2)
def ptC (p:Pt):Bs:=pnB p.1++(pfB 129 p.2.1++piB p.2.2.1 p.2.2.2)
structure PtM (p:Pt):Prop where
  i0:ptI p=0
  i1:ptI (ptK p)=0
  len:(ptC p).length<=2000
  rd:elD (AA 48 (ptC p))=(ptK p,0)
  enc:Ep (ptK p)=Ep p
  s0:H7 p
  s1:H7 (ptK p)
theorem Ai9:([510,2,64,384]:List Int).all (fun r=>flP (flB r)==(r,0)&&decide ((flB r).length<=10)&&Bi .andNot .i64 r 510==0&& !(r==0)&&decide (-9223372036854775808<=r)&&decide (r<=9223372036854775807))=true:=by kernel_rfl
theorem An3 {g:Gn} (h:okG false g):BD [g]=Cc g:=by
  show Cc g++[]=Cc g
  rw[List.append_nil]
theorem iF {c:Bool} {g:Gn} (h:okG c g):(Cc g).length<=625:=by
  have:=(EK h).len
  have:=Sp.Aw (gnT g).1 (gnT g).2
  rw[wH];omega
theorem MJ {p:Pt} (h:okP p):PtM p:=by
  obtain⟨gs,r,b,n⟩:=p
  obtain⟨⟨g,hg,hgs⟩,hr,hi⟩:=h
  dsimp only at hgs hr hi
  subst hgs
  have G:=EK hg
  have hgl:=iF hg
  have hgd:Iq (BD [g])=([gnK g],0):=AdY (l:=[g]) (fun x hx=>by rw[List.mem_singleton.1 hx];exact hg) (by simp) (by simp)
  have hR:Bi .andNot .i64 r 510=0/\(r=0\/((r==0)=false/\flP (flB r)=(r,0)))/\(flB r).length<=10/\ -9223372036854775808<=r/\r<=9223372036854775807:=by
    rcases hr with rfl | hr
    ·exact⟨by kernel_rfl,Or.inl rfl,of_decide_eq_true (by kernel_rfl),by decide,by decide⟩
    ·have:=List.all_eq_true.1 Ai9 r hr
     simp only[Bool.and_eq_true,beq_iff_eq,decide_eq_true_eq,Bool.not_eq_true']at this
     obtain⟨⟨⟨⟨⟨h1,h2⟩,h3⟩,h4⟩,h5⟩,h6⟩:=this
     exact⟨h3,Or.inr ⟨h4,h1⟩,h2,h5,h6⟩
  obtain⟨hm,hfl,hflen,hr0,hr1⟩:=hR
  have hI:GZ n/\GZ (nmC n)/\okN n:=by
    rcases hi with ⟨_,rfl⟩ | ⟨_,hn,_⟩
    ·exact⟨fun _ h=>(by cases h),fun _ h=>(by cases h),Nat.zero_le _,fun _ h=>(by cases h)⟩
    ·exact⟨AbO hn,y8 hn,hn⟩
  obtain⟨hs0,hs1,hn⟩:=hI
  have hd:okG false (4,[],n):=Or.inr ⟨n,hn,rfl⟩
  have hdl:=iF hd
  have hdd:Iq (Cc (4,[],n))=([(4,[],nmC n)],0):=by
    rw[<- An3 hd]
    exact AdY (l:=[(4,[],n)]) (fun x hx=>by rw[List.mem_singleton.1 hx];exact hd) (by simp) (by simp)
  have hdir:Uu (Cc (4,[],n))=(nmC n,0):=by unfold Uu;rw[hdd];rfl
  have hv0:=An8 hn
  have hv1:=y9 hn
  have hL:=An3 hg
  have l160:=Sp.Aw 160 (BD [g])
  have o160:C9 (Sp.elem 160 (BD [g])) 160=(AA 160 (BD [g]),0):=We 160 (BD [g]) (by decide) (by decide) (by rw[hL];omega)
  have hpt: ∀(x:Gn) (m:List (List Att)),CZ x false=0->Fb m=0->(b=false/\m=[]\/b=true/\m≠ [])->ptI ([x],r,b,m)=0:=by
    intro x m h1 h2 h3
    unfold ptI
    dsimp only
    rw[hm]
    have e:Ih [x] false=0:=by unfold Ih;exact Kq fun y hy=>by rw[List.mem_singleton.1 hy];exact h1
    rw[e]
    rcases h3 with ⟨rfl,rfl⟩ | ⟨rfl,h3⟩
    ·rfl
    ·rw[h2]
     cases m with
     | nil=>exact absurd rfl h3
     | cons a q=>rfl
  have hlen:(ptC ([g],r,b,n)).length<=2000:=by
    have a1:(pnB [g]).length<=640:=by
      have:=Sp.Aw 160 (Sp.elem 160 (BD [g]))
      show(Sp.elem 160 (Sp.elem 160 (BD [g]))).length<=_
      rw[hL]at *;omega
    have a2:(pfB 129 r).length<=20:=by
      have:=Sp.Aw 129 (flB r)
      unfold pfB
      cases r==0 with
      | true=>exact Nat.zero_le _
      | false=>rw[cond_false];omega
    have a3:(piB b n).length<=640:=by
      have:=Sp.Aw 162 (Cc (4,[],n))
      unfold piB
      cases b with
      | true=>rw[cond_true];omega
      | false=>exact Nat.zero_le _
    show(pnB [g]++(pfB 129 r++piB b n)).length<=2000
    rw[List.length_append,List.length_append];omega
  have hel:AV (ptC ([g],r,b,n))=(AA 160 (Sp.elem 160 (BD [g]))::((bif r==0 then []else [AA 129 (flB r)])++(bif b then [AA 162 (Cc (4,[],n))]else [])),0):=by
    have f1:=NC 160 (Sp.elem 160 (BD [g])) (by decide) (by decide) (by rw[hL]at *;omega)
    have f2:=NC 129 (flB r) (by decide) (by decide) (by omega)
    have f3:=NC 162 (Cc (4,[],n)) (by decide) (by decide) (by omega)
    have h2:=EL ((160,Sp.elem 160 (BD [g]))::((bif r==0 then []else [(129,flB r)])++(bif b then [(162,Cc (4,[],n))]else []))) (fun p hp=>by
      rcases List.mem_cons.1 hp with rfl | hp
      ·exact f1
      ·rcases List.mem_append.1 hp with hp | hp
       ·cases hq:r==0 with
        | true=>rw[hq]at hp;cases hp
        | false=>rw[hq]at hp;rw[List.mem_singleton.1 hp];exact f2
       ·cases b with
        | true=>rw[List.mem_singleton.1 hp];exact f3
        | false=>cases hp)
    have e:ptC ([g],r,b,n)=(((160,Sp.elem 160 (BD [g]))::((bif r==0 then []else [(129,flB r)])++(bif b then [(162,Cc (4,[],n))]else []))).map fun p=>Sp.elem p.1 p.2).flatten:=by
      unfold ptC pnB pfB piB
      cases r==0<;>cases b<;>simp
    rw[e,h2]
    cases r==0<;>cases b<;>rfl
  refine⟨hpt g n G.i0 hv0 ?_,hpt (gnK g) (nmC n) G.i1 hv1 ?_,hlen,?_,?_,⟨fun x hx=>by rw[List.mem_singleton.1 hx];exact G.s0,hs0,hr0,hr1⟩,⟨fun x hx=>by rw[List.mem_singleton.1 hx];exact G.s1,hs1,hr0,hr1⟩⟩
  ·rcases hi with ⟨h1,h2⟩ | ⟨h1,_,h2⟩
   ·exact Or.inl ⟨h1,h2⟩
   ·exact Or.inr ⟨h1,h2⟩
  ·rcases hi with ⟨h1,h2⟩ | ⟨h1,_,h2⟩
   ·exact Or.inl ⟨h1,by rw[h2];rfl⟩
   ·exact Or.inr ⟨h1,fun h=>h2 (List.map_eq_nil_iff.1 h)⟩
  ·unfold elD
   show(bif (AV (ptC ([g],r,b,n))).2 != 0 then _ else ptD (AV (ptC ([g],r,b,n))).1)=_
   rw[hel]
   show ptD _=_
   have s1: ∀ t,st1 (AA 160 (Sp.elem 160 (BD [g]))::t)=([gnK g],0):=fun t=>by
     unfold st1
     rw[wO 160 160 rfl]
     show(bif (C9 (Sp.elem 160 (BD [g])) 160).2 != 0 then _ else Iq (C9 (Sp.elem 160 (BD [g])) 160).1.2.1)=_
     rw[o160];exact hgd
   have t1: ∀ t,r1 (AA 160 (Sp.elem 160 (BD [g]))::t)=t:=fun t=>by unfold r1;rw[wO 160 160 rfl]
   have q3:st3 (bif b then [AA 162 (Cc (4,[],n))]else [])=((b,nmC n),0)/\(Be (bif b then [AA 162 (Cc (4,[],n))]else []) 162).2.2=[]:=by
     rcases hi with ⟨rfl,rfl⟩ | ⟨rfl,_,_⟩
     ·exact⟨rfl,rfl⟩
     ·rw[cond_true]
      refine⟨?_,by rw[wO 162 162 rfl]⟩
      unfold st3
      rw[wO 162 162 rfl]
      show(bif (Uu (Cc (4,[],n))).2 != 0 then _ else((true,(Uu (Cc (4,[],n))).1),0))=_
      rw[hdir];rfl
   have q2: ∀ t,(t=[]\/ ∃ y,t=[AA 162 y])->st2 ((bif r==0 then []else [AA 129 (flB r)])++t)=(r,0)/\r2 (AA 160 (Sp.elem 160 (BD [g]))::((bif r==0 then []else [AA 129 (flB r)])++t))=t:=by
     intro t ht
     unfold r2
     rw[t1]
     rcases hfl with rfl | ⟨h0,hf⟩
     ·rcases ht with rfl | ⟨y,rfl⟩
      ·exact⟨rfl,rfl⟩
      ·show st2 [AA 162 y]=_/\(Be [AA 162 y] 129).2.2=_
       unfold st2
       rw[Ag7 (show ¬(AA 162 y).1=129 by show ¬((162:Nat):Int)=129;decide)]
       exact⟨rfl,rfl⟩
     ·rw[h0,cond_false]
      show st2 (AA 129 (flB r)::t)=_/\(Be (AA 129 (flB r)::t) 129).2.2=_
      unfold st2
      rw[wO 129 129 rfl]
      refine⟨?_,rfl⟩
      show(bif (flP (flB r)).2 != 0 then(0,(flP (flB r)).2)else bif (flP (flB r)).1==0 then(0,7)else((flP (flB r)).1,0))=_
      rw[hf]
      show(bif r==0 then((0:Int),(7:Int))else(r,0))=_
      rw[h0];rfl
   obtain⟨k1,k2⟩:=q2 (bif b then [AA 162 (Cc (4,[],n))]else []) (by cases b with
     | true=>exact Or.inr ⟨_,rfl⟩
     | false=>exact Or.inl rfl)
   unfold ptD r3
   rw[s1,k2,q3.1,q3.2,t1,k1]
   rfl
  ·unfold Ep ptK
   dsimp only
   have e1:pnB ([g].map gnK)=pnB [g]:=by
     show Sp.elem 160 (Sp.elem 160 (BD ([g].map gnK)))=Sp.elem 160 (Sp.elem 160 (BD [g]))
     rw[AgB (c:=false) (l:=[g]) fun x hx=>by rw[List.mem_singleton.1 hx];exact hg]
   have e2:piB b (nmC n)=piB b n:=by
     unfold piB
     rw[show Cc (4,[],nmC n)=Cc (4,[],n)from(EK hd).enc]
   rw[e1,e2]
end Go.Proofs.YtadefjgbcapakaaGreatDoor.Pl
namespace Go.Proofs.YtadefjgbcapakaaGreatDoor.Sp
def uD (b:UInt8):Int:=if b.toNat<128 then(b.toNat:Int)else(b.toNat:Int) - 256
def be (v:Int) (l:List UInt8):Int:=l.foldl (fun v b=>v*256+(b.toNat:Int)) v
def uU:List UInt8->Bool
  | []=>true
  | [_]=>false
  | a::b::_=>(decide (a.toNat=0)&&decide (b.toNat<128))||(decide (a.toNat=255)&&decide (128<=b.toNat))
def Akk:List UInt8->Int
  | []=>0
  | a::r=>be (uD a) r
def integer (l:List UInt8):Int×Int :=
  if uU l then(0,7)else if 8<l.length then(0,1)else(Akk l,0)
theorem AnK (v:Int) (l:List UInt8) (b:UInt8):be v (b::l)=be (v*256+(b.toNat:Int)) l:=rfl
theorem AiE (b:UInt8): -128<=uD b/\uD b<=127:=by
  unfold uD;have:=b.toNat_lt;split<;>omega
theorem AkR {m n:Nat} (h:m<=n):(256:Int) ^ m<=256 ^ n:=by
  have:=Int.ofNat_le.2 (Nat.pow_le_pow_right (n:=256) (by omega) h)
  rw[Int.natCast_pow,Int.natCast_pow]at this;exact this
def byteOf (q:Int):UInt8:=UInt8.ofNat (q % 256).toNat
def strip:List UInt8->List UInt8
  | []=>[]
  | [a]=>[a]
  | a::b::r=>if uU (a::b::r)then strip (b::r)else a::b::r
def fits (q:Int):Prop:= -128<=q/\q<=127
instance (q:Int):Decidable (fits q):=inferInstanceAs (Decidable (_/\_))
