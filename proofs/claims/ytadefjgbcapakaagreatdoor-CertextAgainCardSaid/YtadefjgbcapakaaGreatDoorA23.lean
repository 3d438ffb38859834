import Derived.Test.YtadefjgbcapakaaGreatDoorA22
set_option linter.all false
namespace Go.Proofs.YtadefjgbcapakaaGreatDoor.Pl
open IntKind (i64)
open Go Vm
def st1 (l:List El):List Gn×Int :=
  bif (Be l 160).2.1 then(bif (C9 (Be l 160).1.2.1 160).2 != 0 then([],(C9 (Be l 160).1.2.1 160).2)else H6 (C9 (Be l 160).1.2.1 160).1.2.1)else([],0)
def st2 (l:List El):Int×Int :=
  bif (Be l 129).2.1 then(bif (flP (Be l 129).1.2.1).2 != 0 then(0,(flP (Be l 129).1.2.1).2)else bif (flP (Be l 129).1.2.1).1==0 then(0,7)else((flP (Be l 129).1.2.1).1,0))else(0,0)
def TR (s:Bs):List (List Att)×Int :=
  bif (H6 s).2 != 0 then([],(H6 s).2)else bif ((H6 s).1.length:Int) != 1||((H6 s).1.getD 0 (0,[],[])).1 != 4 then([],7)else(((H6 s).1.getD 0 (0,[],[])).2.2,0)
def st3 (l:List El):(Bool×List (List Att))×Int :=
  bif (Be l 162).2.1 then(bif (TR (Be l 162).1.2.1).2 != 0 then((false,[]),(TR (Be l 162).1.2.1).2)else((true,(TR (Be l 162).1.2.1).1),0))else((false,[]),0)
def r1 (l:List El):List El:=(Be l 160).2.2
def r2 (l:List El):List El:=(Be (r1 l) 129).2.2
def r3 (l:List El):List El:=(Be (r2 l) 162).2.2
def zP:Pt:=([],0,false,[])
def ptD (l:List El):Pt×Int :=
  bif (st1 l).2 != 0 then(zP,(st1 l).2)else bif (st2 (r1 l)).2 != 0 then(zP,(st2 (r1 l)).2)else bif (st3 (r2 l)).2 != 0 then(zP,(st3 (r2 l)).2)else
  bif decide (r3 l≠ [])then(zP,4)else(((st1 l).1,(st2 (r1 l)).1,(st3 (r2 l)).1.1,(st3 (r2 l)).1.2),0)
theorem XH {l:List El} (hg:Good 1048576 l) (t:Int) (h:(Be l t).2.1=true):(Be l t).1.2.1.length<=1048576:=by have:=((PX hg t).2 h).content;omega
theorem Af5 {l:List El} (hg:Good 1048576 l):Good 1048576 (r1 l):=(PX hg 160).1
theorem Af6 {l:List El} (hg:Good 1048576 l):Good 1048576 (r2 l):=(PX (Af5 hg) 129).1
theorem AoA (N:Nat) (l:List El) (hN:1048578<N) (hg:Good 1048576 l) (J:List El×List Gn->Option (Pt×Int×List El)) :
    (Ac (Ce N l 160) fun r20=>bif r20.2.1 then Ac (IY N r20.1.2.1 160) fun r27=>bif r27.2 != 0 then some (zP,r27.2,r20.2.2)else Ac (DF N r27.1.2.1) fun r37=>bif r37.2 != 0 then some (zP,r37.2,r20.2.2)else J (r20.2.2,r37.1)else J (r20.2.2,[]))
      = bif (st1 l).2 != 0 then some (zP,(st1 l).2,r1 l)else J (r1 l,(st1 l).1):=by
  rw[WR,Ae]
  unfold st1 r1
  cases h1:(Be l 160).2.1 with
  | false=>rfl
  | true =>
    have hl1:=XH hg 160 h1
    have ho:=Qd (Be l 160).1.2.1 160
    rw[cond_true,cond_true,L8 N _ 160 hN hl1,Ae]
    cases h2:(C9 (Be l 160).1.2.1 160).2 != 0 with
    | true=>rw[cond_true,cond_true,h2];rfl
    | false=>rw[cond_false,cond_false,Ko N _ hN (by omega),Ae]
theorem AoB (N:Nat) (l:List El) (hN:1048578<N) (hg:Good 1048576 l) (J:List El×Int->Option (Pt×Int×List El)) :
    (Ac (Ce N l 129) fun r47=>bif r47.2.1 then Ac (LQ N r47.1.2.1) fun r54=>bif r54.2 != 0 then some (zP,r54.2,r47.2.2)else bif r54.1==0 then some (zP,7,r47.2.2)else J (r47.2.2,r54.1)else J (r47.2.2,0))
      = bif (st2 l).2 != 0 then some (zP,(st2 l).2,(Be l 129).2.2)else J ((Be l 129).2.2,(st2 l).1):=by
  rw[WR,Ae]
  unfold st2
  cases h1:(Be l 129).2.1 with
  | false=>rfl
  | true =>
    have hl1:=XH hg 129 h1
    rw[cond_true,cond_true,Z7 N _ hN hl1,Ae]
    cases h2:(flP (Be l 129).1.2.1).2 != 0 with
    | true=>rw[cond_true,cond_true,h2];rfl
    | false =>
      rw[cond_false,cond_false]
      cases (flP (Be l 129).1.2.1).1==0<;>rfl
theorem AoC (N:Nat) (l:List El) (hN:1048578<N) (hg:Good 1048576 l) (J:List El×Bool×List (List Att)->Option (Pt×Int×List El)) :
    (Ac (Ce N l 162) fun r68=>bif r68.2.1 then Ac (DF N r68.1.2.1) fun r75=>bif r75.2 != 0 then some (zP,r75.2,r68.2.2)else chk (decide ((0:Int)<(r75.1.length:Int))||((r75.1.length:Int) != 1))<|bif ((r75.1.length:Int) != 1)||((r75.1.getD 0 (0,[],[])).1 != 4)then some (zP,7,r68.2.2)else chk (decide ((0:Int)<(r75.1.length:Int)))<|J (r68.2.2,true,(r75.1.getD 0 (0,[],[])).2.2)else J (r68.2.2,false,[]))
      = bif (st3 l).2 != 0 then some (zP,(st3 l).2,(Be l 162).2.2)else J ((Be l 162).2.2,(st3 l).1.1,(st3 l).1.2):=by
  rw[WR,Ae]
  unfold st3 TR
  cases h1:(Be l 162).2.1 with
  | false=>rfl
  | true =>
    have hl1:=XH hg 162 h1
    rw[cond_true,cond_true,Ko N _ hN hl1,Ae]
    cases h2:(H6 (Be l 162).1.2.1).2 != 0 with
    | true=>simp only[h2,cond_true]
    | false =>
      rw[cond_false,cond_false]
      by_cases h3:(H6 (Be l 162).1.2.1).1.length=1
      ·simp (disch:=first | assumption | omega) only[A7,h3]
       cases ((H6 (Be l 162).1.2.1).1.getD 0 (0,[],[])).1 != 4<;>simp<;>rfl
      ·have h4:(((H6 (Be l 162).1.2.1).1.length:Int) != 1)=true:=by simp;omega
       rw[h4,Bool.or_true,AP,Bool.true_or]
       rfl
theorem yH (N:Nat) (l:List El) (hN:1048578<N) (hg:Good 1048576 l): ∃ rest,Hy N l=some ((ptD l).1,(ptD l).2,rest):=by
  unfold Hy
  try simp only[clR]
  rw[SV]
  refine Exists.imp (fun rest h=>Eq.trans (AoA N l hN hg _) h) ?_
  unfold ptD
  cases h1:(st1 l).2 != 0 with
  | true=>exact⟨_,rfl⟩
  | false =>
    rw[cond_false,cond_false]
    dsimp only[U2]
    rw[SV]
    refine Exists.imp (fun rest h=>Eq.trans (AoB N (r1 l) hN (Af5 hg) (fun p=>U3 _ (p.1,(st1 l).1,p.2))) h) ?_
    cases h2:(st2 (r1 l)).2 != 0 with
    | true=>exact⟨_,rfl⟩
    | false =>
      rw[cond_false,cond_false]
      dsimp only[U3]
      rw[SV]
      refine Exists.imp (fun rest h=>Eq.trans (AoC N (r2 l) hN (Af6 hg) (fun p=>U5 _ (p.1,(st1 l).1,(st2 (r1 l)).1,p.2.1,p.2.2))) h) ?_
      cases h3:(st3 (r2 l)).2 != 0 with
      | true=>exact⟨_,rfl⟩
      | false =>
        rw[cond_false,cond_false]
        dsimp only[U5]
        rw[Afo,Ae]
        show ∃ rest,(bif (if r3 l=[]then(0:Int)else 4) != 0 then some (zP,(if r3 l=[]then(0:Int)else 4),r3 l)else some (((st1 l).1,(st2 (r1 l)).1,(st3 (r2 l)).1.1,(st3 (r2 l)).1.2),0,r3 l))=_
        by_cases h4:r3 l=[]
        ·rw[if_pos h4,decide_eq_false (fun h=>h h4)];exact⟨_,rfl⟩
        ·rw[if_neg h4,decide_eq_true h4];exact⟨_,rfl⟩
def rg (x:Int):Prop:= -9223372036854775808<=x/\x<=9223372036854775807
theorem rg0:rg 0:=⟨by decide,by decide⟩
theorem Amo (x:Int):rg (i64.wrap x):=by
  by_cases h:x % 18446744073709551616>=9223372036854775808
  ·rw[show i64.wrap x=x % 18446744073709551616 - 18446744073709551616 from if_pos (decide_eq_true h)]
   exact⟨by omega,by omega⟩
  ·rw[show i64.wrap x=x % 18446744073709551616 from if_neg (fun e=>h (of_decide_eq_true e))]
   exact⟨by omega,by omega⟩
theorem AiU (r:Bs) (n:Nat):rg (flV r n).1:=by
  have key: ∀(l:List Nat) (a:Int),rg a->rg (l.foldl (fun acc i=>bif gG r i then Bi .or .i64 acc (i64.wrap (1*2 ^ min i 64))else acc) a):=by
    intro l
    induction l with
    | nil=>intro a h;exact h
    | cons x y ih =>
      intro a h
      refine ih _ ?_
      dsimp only
      cases gG r x with
      | false=>exact h
      | true=>exact Amo _
  unfold flV
  cases decide (0<n)&& !gG r (n - 1)with
  | true=>exact rg0
  | false =>
    cases decide (16<n)with
    | true=>exact rg0
    | false=>exact key _ 0 rg0
theorem AiT (s:Bs):rg (flP s).1:=by
  unfold flP
  cases (MZ s).2.2 != 0 with
  | true=>exact rg0
  | false=>exact AiU _ _
theorem Agv (s:Bs) (hs:s.length<=1048576):G9 (TR s).1:=by
  have h:=(tK s hs).1
  unfold TR
  cases (H6 s).2 != 0 with
  | true=>intro p hp;cases hp
  | false =>
    cases hb:((H6 s).1.length:Int) != 1||((H6 s).1.getD 0 (0,[],[])).1 != 4 with
    | true=>intro p hp;cases hp
    | false =>
      rw[Bool.or_eq_false_iff]at hb
      have h1:(H6 s).1.length=1:=by
        have:=hb.1
        simp at this;omega
      exact(h _ (getD_mem (0,[],[]) (by omega))).2
theorem Akj {l:List El} (hg:Good 1048576 l):FZ (st1 l).1:=by
  unfold st1
  cases h1:(Be l 160).2.1 with
  | false=>intro g hgm;cases hgm
  | true =>
    have hl1:=XH hg 160 h1
    have ho:=Qd (Be l 160).1.2.1 160
    cases (C9 (Be l 160).1.2.1 160).2 != 0 with
    | true=>intro g hgm;cases hgm
    | false=>exact(tK _ (by omega)).1
theorem Akk (l:List El):rg (st2 l).1:=by
  unfold st2
  cases (Be l 129).2.1 with
  | false=>exact rg0
  | true =>
    cases (flP (Be l 129).1.2.1).2 != 0 with
    | true=>exact rg0
    | false =>
      cases (flP (Be l 129).1.2.1).1==0 with
      | true=>exact rg0
      | false=>exact AiT _
theorem Akl {l:List El} (hg:Good 1048576 l):G9 (st3 l).1.2:=by
  unfold st3
  cases h1:(Be l 162).2.1 with
  | false=>intro p hp;cases hp
  | true =>
    have hl1:=XH hg 162 h1
    cases (TR (Be l 162).1.2.1).2 != 0 with
    | true=>intro p hp;cases hp
    | false=>exact Agv _ hl1
theorem Qi:GZ zP:=⟨fun g h=>(by cases h),fun p h=>(by cases h),by decide,by decide⟩
theorem AjT {l:List El} (hg:Good 1048576 l):GZ (ptD l).1:=by
  unfold ptD
  cases (st1 l).2 != 0 with
  | true=>exact Qi
  | false =>
    cases (st2 (r1 l)).2 != 0 with
    | true=>exact Qi
    | false =>
      cases (st3 (r2 l)).2 != 0 with
      | true=>exact Qi
      | false =>
        cases decide (r3 l≠ [])with
        | true=>exact Qi
        | false=>exact⟨Akj hg,Akl (Af6 hg),Akk _⟩
def elD (e:El):Pt×Int:=bif e.1 != 48 then(zP,5)else bif (AV e.2.1).2 != 0 then(zP,(AV e.2.1).2)else ptD (AV e.2.1).1
theorem AiB {e:El} (he:e.2.1.length<=1048576):GZ (elD e).1:=by
  unfold elD
  cases e.1 != 48 with
  | true=>exact Qi
  | false =>
    cases (AV e.2.1).2 != 0 with
    | true=>exact Qi
    | false=>exact AjT ((Dt e.2.1).mono he)
def psD (l:List El):List Pt×Int :=
  bif l.isEmpty then([],7)else bif AU (fun e=>(elD e).2) l != 0 then([],AU (fun e=>(elD e).2) l)else
  bif FY (l.map fun e=>(elD e).1) != 0 then([],FY (l.map fun e=>(elD e).1))else(l.map fun e=>(elD e).1,0)
def Ah6 (s:Bs):List Pt×Int:=bif (C9 s 48).2 != 0 then([],(C9 s 48).2)else bif (AV (C9 s 48).1.2.1).2 != 0 then([],(AV (C9 s 48).1.2.1).2)else psD (AV (C9 s 48).1.2.1).1
theorem Ann (N:Nat) (l:List Pt) (hN:1048578<N) (hs: ∀ p∈l,GZ p):BO N l=some (FY l):=Gg N l hN hs
theorem Aic (N:Nat) (e:El) (r:List El) (hN:1048578<N) (he:e.2.1.length<=1048576):DJ N (e::r)=some (bif e.1 != 48 then .inr ((),5,e::r)else bif (AV e.2.1).2 != 0 then .inr ((),(AV e.2.1).2,r)else .inl ((AV e.2.1).1,0,r)):=by
  unfold DJ Fe LC Hl
  try simp only[clR]
  have hl:(e::r).length=r.length+1:=rfl
  simp (disch:=first | assumption | omega) only[A7,hl,List.getD_cons_zero,DZ N e.2.1 (by omega) (by omega) (by omega)]
  rw[<- hl,show AA (e::r) 1 (e::r).length=r from by show((e::r).take (e::r).length).drop 1=r;rw[List.take_length];rfl]
  cases e.1 != 48 with
  | true=>rfl
  | false =>
    have hT:=DZ N e.2.1 (by omega) (by omega) (by omega)
    simp (disch:=first | assumption | omega) only[A7,hT]
    cases (AV e.2.1).2 != 0<;>rfl
theorem LX (N:Nat) (s:Bs) (hN:1048578<N) (hs:s.length<=1048576):EX N s=some (Ah6 s):=by
  unfold EX
  try simp only[clR]
  rw[Am9 N s 48 (by omega) (by omega) (by omega)]
  have hc:=MQ s
  have hg:Good 1048576 (AV (Cf s).1.2.1).1:=(Dt _).mono (by omega)
  unfold Ah6 C9 Ahy
  by_cases h1:(Cf s).2=0
  ·have b1:((Cf s).2 != 0)=false:=by simp [h1]
   rw[if_neg (fun h=>h h1),b1]
   simp only[cond_false]
   by_cases h2:(Cf s).1.1=48
   ·have b2:((Cf s).1.1 != 48)=false:=by simp [h2]
    rw[if_neg (fun h=>h h2),b2]
    simp only[cond_false]
    by_cases h3:(AV (Cf s).1.2.1).2=0
    ·have b3:((AV (Cf s).1.2.1).2 != 0)=false:=by simp [h3]
     rw[if_neg (fun h=>h h3),b3,Q3]
     generalize (AV (Cf s).1.2.1).1=l at hg
     have hlen:=hg.len
     unfold Dh psD
     cases hl:l with
     | nil=>rfl
     | cons a0 l0 =>
       rw[<- hl]
       have hp:0<l.length:=by rw[hl];exact Nat.succ_pos _
       have he:l.isEmpty=false:=by rw[hl];rfl
       rw[he]
       simp (disch:=first | assumption | omega) only[A7]
       refine(AlZ (R:=Int) (fun r acc=>(r,acc)) (fun r (acc:List Pt)=>Good 1048576 r/\acc.length+r.length<=1048576) (fun e acc=>bif (elD e).2 != 0 then .inl (elD e).2 else .inr (acc++[(elD e).1])) (fun e=>some ([],e)) (fun acc=>Ac (BO N acc) fun r46=>bif r46 != 0 then some ([],r46)else some (acc,0)) ?_ ?_ ?_ N l [] ⟨hg,by simpa using hlen⟩ (by omega)).trans ?_
       ·intro e r acc hI k
        have hee:=(hI.1.all e List.mem_cons_self).content
        have hlr:(e::r).length=r.length+1:=rfl
        have hI2:=hI.2
        rw[hlr]at hI2
        have hIn:=Aic N e r hN (by omega)
        simp (disch:=first | assumption | omega) only[A7,hlr,hIn]
        unfold elD
        cases b4:e.1 != 48 with
        | true=>rfl
        | false =>
          cases b5:(AV e.2.1).2 != 0 with
          | true =>
            simp only[cond_false,cond_true,b5,Ij]
          | false =>
            obtain⟨rest,hd⟩:=yH N (AV e.2.1).1 hN ((Dt e.2.1).mono (by omega))
            simp only[cond_false,Q3]
            simp (disch:=first | assumption | omega) only[A7,hd]
       ·intro e r acc acc' hI hst
        have hI2:=hI.2
        rw[show(e::r).length=r.length+1 from rfl]at hI2
        cases b4:(elD e).2 != 0 with
        | true=>rw[b4]at hst;cases hst
        | false =>
          rw[b4]at hst;injection hst with hst;subst hst
          exact⟨hI.1.tail,by rw[List.length_append];show acc.length+1+r.length<=_;omega⟩
       ·intro acc k hI
        simp (disch:=first | assumption | omega) only[A7]
        rfl
       ·rw[uQ,GN,List.nil_append]
        cases AU (fun e=>(elD e).2) l != 0 with
        | true=>rfl
        | false =>
          rw[cond_false,yF,Ann N _ hN (fun p hp=>by
            obtain⟨x,hx,rfl⟩:=List.mem_map.1 hp
            exact AiB (by have:=(hg.all x hx).content;omega)),Ae,Bh]
          rfl
    ·have b3:((AV (Cf s).1.2.1).2 != 0)=true:=by simp [h3]
     rw[if_pos h3,b3,Ij,b3];rfl
   ·have b2:((Cf s).1.1 != 48)=true:=by simp [h2]
    rw[if_pos h2,b2,Ij];rfl
  ·have b1:((Cf s).2 != 0)=true:=by simp [h1]
   rw[if_pos h1,b1,Ij]
   simp only[cond_true,b1]
theorem JJ {E:Type} {f:E->Int}: ∀ {l:List E},(∀ e∈l,f e=0)->AU f l=0:=by
  intro l
  induction l with
  | nil=>intro _;rfl
  | cons e r ih =>
    intro h
    show(if f e≠0 then f e else AU f r)=0
    rw[if_neg (by rw[h e List.mem_cons_self];decide)]
    exact ih fun x hx=>h x (List.mem_cons_of_mem _ hx)
theorem Nb (t:Nat) (c:Bs) (ht:t<256) (h31:t % 32≠31) (hc:c.length<=131072):Fine (t,c):=⟨ht,h31,hc⟩
def okN (n:List (List Att)):Prop:=n.length<=3/\ ∀ r∈n,r∈S9
def nmC (n:List (List Att)):List (List Att):=n.map Ux
structure Apc (r:List Att):Prop where
  rd:IE (A8 49 (EO (r.map GI)))=(Ux r,0)
  i0:Kr r=0
  i1:Kr (Ux r)=0
  same:Am4 r (Ux r)=true
  enc:J8 (Ux r)=J8 r
  len:(EO (r.map GI)).length<=200
  s0: ∀ a∈r,MV a
  s1: ∀ a∈Ux r,MV a
theorem Zf {r:List Att} (h:r∈S9):Apc r:=by
  have h:=List.all_eq_true.1 Anq r h
  unfold Am3 at h
  simp only[Bool.and_eq_true,beq_iff_eq,List.all_eq_true,decide_eq_true_eq]at h
  obtain⟨⟨⟨⟨⟨⟨⟨h1,h2⟩,h3⟩,h4⟩,h5⟩,h6⟩,h7⟩,h8⟩:=h
  rw[V8]at h1 h6
  rw[V8,V8]at h4
  refine⟨Prod.ext (by unfold Ux;rw[V8]) h1,h2,h3,h5,by unfold J8;rw[h4],h6,fun a ha=> ?_,fun a ha=> ?_⟩
  ·have:=h7 a ha;exact⟨by omega,by omega⟩
  ·have:=h8 a ha;exact⟨by omega,by omega⟩
theorem vC {n:List (List Att)} (h:n.length<=3) (hr: ∀ r∈n,Kr r=0):ER n=0:=by
  have:Sv n=some 0:=by
    unfold Sv
    rw[if_neg (by omega)]
    clear h
    induction n with
    | nil=>rfl
    | cons r n ih =>
      unfold IG QL
      rw[if_pos (hr r List.mem_cons_self)]
      exact ih fun x hx=>hr x (List.mem_cons_of_mem _ hx)
  unfold ER;rw[this];rfl
section
variable {n:List (List Att)} (hn:okN n)
include hn
theorem Am2:ER n=0:=vC hn.1 fun r hr=>(Zf (hn.2 r hr)).i0
theorem vN:ER (nmC n)=0:=vC (by unfold nmC;rw[List.length_map];exact hn.1) fun r hr=>by
  obtain⟨x,hx,rfl⟩:=List.mem_map.1 hr
  exact(Zf (hn.2 x hx)).i1
theorem AaR:G9 n:=fun r hr=>(Zf (hn.2 r hr)).s0
theorem vM:G9 (nmC n):=fun r hr=>by
  obtain⟨x,hx,rfl⟩:=List.mem_map.1 hr
  exact(Zf (hn.2 x hx)).s1
theorem Apt:nmB (nmC n)=nmB n:=by
  unfold nmB nmC
  rw[List.map_map]
  congr 2
  exact List.map_congr_left fun r hr=>(Zf (hn.2 r hr)).enc
theorem AdU:(n.map J8).flatten.length<=615:=by
  have h: ∀ r∈n,(J8 r).length<=205:=fun r hr=>by
    have h1:=(Zf (hn.2 r hr)).len
    have:=Sp.Ar 49 (EO (r.map GI))
    unfold J8;omega
  have:=Dy (g:=J8) (M:=205) (l:=n) h
  have:=hn.1
  omega
theorem Anh:(nmB n).length<=620:=by
  have:=AdU hn
  have:=Sp.Ar 48 (n.map J8).flatten
  unfold nmB;omega
theorem Apu:nmD (nmB n)=(nmC n,0):=by
  have hl:=AdU hn
  have h1:=qA 48 (n.map J8).flatten (by decide) (by decide) (by omega)
  have hf: ∀ r∈n,Fine (49,EO (r.map GI)):=fun r hr=>Nb 49 _ (by decide) (by decide) (by have:=(Zf (hn.2 r hr)).len;omega)
  have h2:=E8 (n.map fun r=>(49,EO (r.map GI))) (fun p hp=>by
    obtain⟨r,hr,rfl⟩:=List.mem_map.1 hp
    exact hf r hr)
  rw[List.map_map,List.map_map]at h2
  have h2:AV (n.map J8).flatten=(n.map fun r=>A8 49 (EO (r.map GI)),0):=h2
  have h3:AU (fun a=>(IE a).2) (n.map fun r=>A8 49 (EO (r.map GI)))=0:=JJ fun e he=>by
    obtain⟨r,hr,rfl⟩:=List.mem_map.1 he
    rw[(Zf (hn.2 r hr)).rd]
  have h4:(n.map fun r=>A8 49 (EO (r.map GI))).map (fun a=>(IE a).1)=nmC n:=by
    rw[List.map_map]
    exact List.map_congr_left fun r hr=>by show(IE _).1=_;rw[(Zf (hn.2 r hr)).rd]
  unfold nmD
  rw[show Cf (nmB n)=_ from h1]
  dsimp only[A8]
  rw[h2]
  dsimp only
  rw[h3,h4,vN hn];rfl
end
def Aek:List Gn:=[[97,110,110,64,101,120,97,109,112,108,101,46,111,114,103],[65,78,78,64,101,120,97,109,112,108,101,46,111,114,103],[97,110,110,64,69,120,97,109,112,108,101,46,79,82,71],[98,46,99,64,109,97,105,108,46,101,120,97,109,112,108,101,46,111,114,103],[120,64,111,114,103],[97,39,98,64,97,46,98]].map (fun s=>(1,s,[])) ++
  [[101,120,97,109,112,108,101,46,111,114,103],[119,119,119,46,101,120,97,109,112,108,101,46,111,114,103],[87,87,87,46,69,120,97,109,112,108,101,46,111,114,103],[42,46,101,120,97,109,112,108,101,46,111,114,103],[97,46,98],[111,114,103],[109,121,101,120,97,109,112,108,101,46,111,114,103]].map (fun s=>(2,s,[])) ++
  [[10,0,0,1],[10,1,2,3],[192,168,1,7],[32,1,13,184,0,0,0,0,0,0,0,0,0,0,0,1]].map (fun s=>(7,s,[]))
def Ac9:List Gn:=[[97,110,110,64,101,120,97,109,112,108,101,46,111,114,103],[101,120,97,109,112,108,101,46,111,114,103],[46,101,120,97,109,112,108,101,46,111,114,103],[69,88,65,77,80,76,69,46,111,114,103],[46,111,114,103],[111,114,103],[109,97,105,108,46,101,120,97,109,112,108,101,46,111,114,103]].map (fun s=>(1,s,[])) ++
  [[101,120,97,109,112,108,101,46,111,114,103],[119,119,119,46,101,120,97,109,112,108,101,46,111,114,103],[],[69,120,97,109,112,108,101,46,79,82,71],[111,114,103],[98],[97,46,98]].map (fun s=>(2,s,[])) ++
  [[10,0,0,0,255,0,0,0],[10,1,0,0,255,255,0,0],[0,0,0,0,0,0,0,0],[10,1,2,3,255,255,255,255],[32,1,0,0,0,0,0,0,0,0,0,0,0,0,0,0,255,255,0,0,0,0,0,0,0,0,0,0,0,0,0,0]].map (fun s=>(7,s,[]))
def okG (c:Bool) (g:Gn):Prop:=g∈(bif c then Ac9 else Aek)\/ ∃ n,okN n/\g=(4,[],n)
def gnK (g:Gn):Gn:=(g.1,g.2.1,nmC g.2.2)
def gnT (g:Gn):Nat×Bs:=bif g.1==4 then(164,nmB g.2.2)else((128+g.1).toNat,g.2.1)
theorem tC (g:Gn):Cc g=Sp.elem (gnT g).1 (gnT g).2:=by
  unfold Cc gnT
  cases g.1==4<;>rfl
def wW (c:Bool) (g:Gn):Bool:=CY g c==0&&(gnD (A8 (gnT g).1 (gnT g).2) c==(g,0))&&g.2.2.isEmpty&&decide (g.2.1.length<=40)&&decide ((gnT g).1<256)&&decide ((gnT g).1 % 32≠31)&& !(g.1==4)
theorem Amb:Aek.all (wW false)=true:=by kernel_rfl
theorem AkA:Ac9.all (wW true)=true:=by kernel_rfl
structure Ap9 (c:Bool) (g:Gn):Prop where
  i0:CY g c=0
  i1:CY (gnK g) c=0
  fine:Fine (gnT g)
  len:(gnT g).2.length<=620
  rd:gnD (A8 (gnT g).1 (gnT g).2) c=(gnK g,0)
  enc:Cc (gnK g)=Cc g
  s0:JQ g
  s1:JQ (gnK g)
  nm:okN g.2.2
theorem EP {c:Bool} {g:Gn} (h:okG c g):Ap9 c g:=by
  rcases h with h | ⟨n,hn,rfl⟩
  ·have h:wW c g=true:=by
     cases c with
     | true=>exact List.all_eq_true.1 AkA g h
     | false=>exact List.all_eq_true.1 Amb g h
   unfold wW at h
   simp only[Bool.and_eq_true,beq_iff_eq,decide_eq_true_eq,Bool.not_eq_true',List.isEmpty_iff]at h
   obtain⟨⟨⟨⟨⟨⟨h1,h2⟩,h3⟩,h4⟩,h5⟩,h6⟩,h7⟩:=h
   have hk:gnK g=g:=by obtain⟨k,s,n⟩:=g;dsimp only at h3;subst h3;rfl
   have ht:(gnT g).2=g.2.1:=by unfold gnT;rw[h7];rfl
   have hsm:JQ g:=⟨by omega,by rw[h3];intro r hr;cases hr⟩
   exact⟨h1,by rw[hk];exact h1,⟨h5,h6,by rw[ht];omega⟩,by rw[ht];omega,by rw[hk];exact h2,by rw[hk],hsm,by rw[hk];exact hsm,by rw[h3];exact⟨Nat.zero_le _,fun r hr=>by cases hr⟩⟩
  ·have hl:=Anh hn
   have hv: ∀ m,ER m=0->CY (4,[],m) c=0:=fun m hm=>hm
   refine⟨hv n (Am2 hn),hv _ (vN hn),Nb 164 (nmB n) (by decide) (by decide) (by omega),hl,?_,?_,⟨Nat.zero_le _,AaR hn⟩,⟨Nat.zero_le _,vM hn⟩,hn⟩
   ·show(bif (nmD (nmB n)).2 != 0 then(zG,(nmD (nmB n)).2)else gnC (4,[],(nmD (nmB n)).1) c)=_
    rw[Apu hn]
    show gnC (4,[],nmC n) c=_
    unfold gnC
    rw[hv _ (vN hn)];rfl
   ·show Sp.elem 164 (nmB (nmC n))=Sp.elem 164 (nmB n)
    rw[Apt hn]
theorem Ajc {c:Bool} {l:List Gn} (h: ∀ g∈l,okG c g):AV (BD l)=(l.map fun g=>A8 (gnT g).1 (gnT g).2,0):=by
  have h2:=E8 (l.map gnT) (fun p hp=>by
    obtain⟨g,hg,rfl⟩:=List.mem_map.1 hp
    exact(EP (h g hg)).fine)
  rw[List.map_map,List.map_map]at h2
  unfold BD
  rw[show l.map Cc=l.map ((fun p=>Sp.elem p.1 p.2)∘gnT)from List.map_congr_left fun g _=>tC g,h2];rfl
theorem Alf {c:Bool} {l:List Gn} (h: ∀ g∈l,okG c g):(BD l).length<=625*l.length:=by
  refine Dy (g:=Cc) (M:=625) (l:=l) fun g hg=> ?_
  have:=(EP (h g hg)).len
  have:=Sp.Ar (gnT g).1 (gnT g).2
  rw[tC];omega
theorem AcZ {l:List Gn} (h: ∀ g∈l,okG false g) (h0:l≠ []) (h1:l.length<=16):H6 (BD l)=(l.map gnK,0):=by
  unfold H6
  rw[Ajc h]
  dsimp only
  have e1:(l.map fun g=>A8 (gnT g).1 (gnT g).2).isEmpty=false:=by cases l with | nil=>exact absurd rfl h0 | cons a r=>rfl
  have e2:decide (16<(l.map fun g=>A8 (gnT g).1 (gnT g).2).length)=false:=by rw[List.length_map];exact decide_eq_false (by omega)
  have e3:AU (fun a=>(gnD a false).2) (l.map fun g=>A8 (gnT g).1 (gnT g).2)=0:=JJ fun e he=>by
    obtain⟨g,hg,rfl⟩:=List.mem_map.1 he
    rw[(EP (h g hg)).rd]
  have e4:(l.map fun g=>A8 (gnT g).1 (gnT g).2).map (fun a=>(gnD a false).1)=l.map gnK:=by
    rw[List.map_map]
    exact List.map_congr_left fun g hg=>by show(gnD _ _).1=_;rw[(EP (h g hg)).rd]
  rw[e1,e2,e3,e4];rfl
theorem AfB {c:Bool} {l:List Gn} (h: ∀ g∈l,okG c g):BD (l.map gnK)=BD l:=by
  unfold BD
  rw[List.map_map]
  congr 1
  exact List.map_congr_left fun g hg=>(EP (h g hg)).enc
end Go.Proofs.YtadefjgbcapakaaGreatDoor.Pl
namespace Go.Proofs.YtadefjgbcapakaaGreatDoor.Pl
open IntKind (i64)
open Go Vm
theorem Ane {r:Int} (h0: -9223372036854775808<=r) (h1:r<=9223372036854775807) (h:Bi .andNot .i64 r 510=0):0<=r/\r<512:=by
  have e:Bi .andNot .i64 r 510=i64.wrap ((BitVec.ofInt 64 r &&& ~~~(510#64)).toNat:Int):=rfl
  rw[e]at h
  generalize hb:BitVec.ofInt 64 r=b at h
  have hz:(b &&& ~~~(510#64)).toNat=0:=by
    have hlt:=(b &&& ~~~(510#64)).isLt
    generalize (b &&& ~~~(510#64)).toNat=n at h hlt
    have e2:i64.wrap (n:Int)=if 9223372036854775808<=(n:Int) % 18446744073709551616 then(n:Int) % 18446744073709551616 - 18446744073709551616 else(n:Int) % 18446744073709551616:=by
      show(if(true&&decide ((n:Int) % 18446744073709551616>=9223372036854775808))=true then _ else _)=_
      simp only[Bool.true_and,decide_eq_true_eq,ge_iff_le]
      rfl
    rw[e2]at h
    split at h<;>omega
  have hz2:b &&& ~~~(510#64)=0#64:=BitVec.eq_of_toNat_eq (by rw[hz];rfl)
  have hle:b.toNat<=510:=by
    have:b=b &&& 510#64:=by
      apply BitVec.eq_of_getLsbD_eq
      intro i hi
      have hq:(b &&& ~~~(510#64)).getLsbD i=false:=by rw[hz2];simp
      rw[BitVec.getLsbD_and,BitVec.getLsbD_not]at hq
      rw[BitVec.getLsbD_and]
      have hd:decide (i<64)=true:=decide_eq_true hi
      rw[hd,Bool.true_and]at hq
      revert hq
      cases b.getLsbD i<;>cases (510#64).getLsbD i<;>simp
    rw[this,BitVec.toNat_and]
    exact Nat.and_le_right
  have hn:(b.toNat:Int)=r % 18446744073709551616:=by
    rw[<- hb,BitVec.toNat_ofInt]
    have:(0:Int)<=r % 18446744073709551616:=by omega
    rw[show((2 ^ 64:Nat):Int)=18446744073709551616 from rfl]
    exact Int.toNat_of_nonneg this
  omega
def pnB (l:List Gn):Bs:=bif l.isEmpty then []else Sp.elem 160 (Sp.elem 160 (BD l))
def pfB (t:Nat) (r:Int):Bs:=bif r==0 then []else Sp.elem t (flB r)
def piB (b:Bool) (n:List (List Att)):Bs:=bif b then Sp.elem 162 (Cc (4,[],n))else []
def Ef (p:Pt):Bs:=Sp.elem 48 (pnB p.1++(pfB 129 p.2.1++piB p.2.2.1 p.2.2.2))
structure AfO (p:Pt):Prop where
  n16:p.1.length<=16
  ns:AU (fun g=>CY g false) p.1=0
  r:0<=p.2.1/\p.2.1<512
  i:p.2.2.1=true->ER p.2.2.2=0/\p.2.2.2≠ []
  ne:p.1=[]->p.2.2.1=true
  nb:p.2.2.1=false->p.2.2.2=[]
theorem Aoy {p:Pt} (hs:GZ p) (h:ptI p=0):AfO p:=by
  obtain⟨g,r,b,n⟩:=p
  obtain⟨_,_,hr0,hr1⟩:=hs
  unfold ptI at h
  dsimp only at h hr0 hr1
  cases h1:(g.isEmpty&& !b)||(!n.isEmpty&& !b)with
  | true=>rw[h1]at h;cases h
  | false =>
    rw[h1,cond_false]at h
    cases h2:Bi .andNot .i64 r 510 != 0 with
    | true=>rw[h2]at h;cases h
    | false =>
      rw[h2,cond_false]at h
      cases h3:decide (16<g.length)with
      | true=>rw[h3]at h;cases h
      | false =>
        rw[h3,cond_false]at h
        cases h4:Hr g false != 0 with
        | true=>rw[h4,cond_true]at h;rw[h]at h4;cases h4
        | false =>
          rw[h4,cond_false]at h
          have:=of_decide_eq_false h3
          refine⟨by dsimp only;omega,by simpa [Hr]using h4,Ane hr0 hr1 (by simpa using h2),?_,?_,?_⟩
          ·intro hb
           dsimp only at hb ⊢
           subst hb
           rw[Bool.not_true,cond_false]at h
           cases h5:n.isEmpty with
           | true=>rw[h5]at h;cases h
           | false =>
             rw[h5,cond_false]at h
             exact⟨h,by intro hn;subst hn;cases h5⟩
          ·intro hg
           dsimp only at hg ⊢
           subst hg
           cases b with
           | true=>rfl
           | false=>cases h1
          ·intro hb
           dsimp only at hb ⊢
           subst hb
           cases n with
           | nil=>rfl
           | cons x y=>simp at h1
theorem AfG {p:Pt} (h:AfO p):(pnB p.1).length<=71978/\(BD p.1).length<=71968:=by
  have h1:=AaG h.ns h.n16
  have h2:=Sp.Ar 160 (BD p.1)
  have h3:=Sp.Ar 160 (Sp.elem 160 (BD p.1))
  refine⟨?_,h1⟩
  unfold pnB
  cases p.1.isEmpty with
  | true=>exact Nat.zero_le _
  | false=>rw[cond_false];omega
theorem yX {r:Int} (h:0<=r/\r<512):(flB r).length<=3:=(VH 1048579 r (by omega) h.1 h.2).2.2
theorem Anm {t:Nat} {r:Int} (h:0<=r/\r<512):(pfB t r).length<=8:=by
  have h1:=yX h
  have h2:=Sp.Ar t (flB r)
  unfold pfB
  cases r==0 with
  | true=>exact Nat.zero_le _
  | false=>rw[cond_false];omega
theorem Ai3 {n:List (List Att)} (h:ER n=0):CY (4,[],n) false=0:=by
  unfold CY
  rw[MJ rfl,cond_true]
  exact h
theorem AfF {b:Bool} {n:List (List Att)} (h:b=true->ER n=0/\n≠ []):(piB b n).length<=4503/\(b=true->(Cc (4,[],n)).length<=4498):=by
  unfold piB
  cases b with
  | false=>exact⟨Nat.zero_le _,fun h=>by cases h⟩
  | true =>
    have h1:=TV (Ai3 (h rfl).1)
    have h2:=Sp.Ar 162 (Cc (4,[],n))
    rw[cond_true]
    exact⟨by omega,fun _=>h1⟩
theorem vV {p:Pt} (h:AfO p):(Ef p).length<=76494/\(pnB p.1++(pfB 129 p.2.1++piB p.2.2.1 p.2.2.2)).length<=76489:=by
  have h1:=(AfG h).1
  have h2:=Anm (t:=129) h.r
  have h3:=(AfF h.i).1
  have h4:=Sp.Ar 48 (pnB p.1++(pfB 129 p.2.1++piB p.2.2.1 p.2.2.2))
  unfold Ef
  rw[List.length_append,List.length_append]at *
  omega
theorem Ano {l:List Pt} (hs: ∀ p∈l,GZ p) (h:FY l=0):l.length<=4/\ ∀ p∈l,AfO p:=by
  unfold FY at h
  cases h1:decide (4<l.length)with
  | true=>rw[h1]at h;cases h
  | false =>
    rw[h1,cond_false]at h
    have:=of_decide_eq_false h1
    exact⟨by omega,fun p hp=>Aoy (hs p hp) (NU h p hp)⟩
def J7 (l:List Pt):Bs×Int:=bif l.isEmpty then([],7)else bif FY l != 0 then([],FY l)else yV 48 (l.map Ef).flatten
theorem Adv {l:List Gn} (h0:l≠ []) (h16:l.length<=16) (h:AU (fun g=>CY g false) l=0):Acm l=(BD l,0):=by
  unfold Acm Hr
  rw[show l.isEmpty=false by cases l with | nil=>exact absurd rfl h0 | cons _ _=>rfl,cond_false,decide_eq_false (by omega),cond_false,h];rfl
theorem Agw {n:List (List Att)} (h:G9 n):JQ (4,[],n):=⟨Nat.zero_le _,h⟩
theorem LY (N:Nat) (l:List Pt) (hN:1048578<N) (hs: ∀ p∈l,GZ p):EY N l=some (J7 l):=by
  unfold EY J7
  try simp only[clR]
  rw[len0,Gg N l hN hs]
  cases he:l.isEmpty with
  | true=>rfl
  | false =>
    rw[cond_false,cond_false,Ae,<- Bh]
    show(bif FY l != 0 then some ([],FY l)else _)=bif FY l != 0 then _ else _
    refine BR fun h0=> ?_
    obtain⟨h4,hok⟩:=Ano hs (by simpa using h0)
    refine(Lc (mk:=fun i a=>((i:Int),false,a)) l ([],0,false,[]) Ef (fun a=>Ac (AZ N false a) fun r88=>Ac (Jb N r88.snd) fun r90=>bif r90.fst then some ([],2)else some (r88.fst,0)) ?_ ?_ N (by omega)).trans ?_
    ·intro i a hi ha k
     have hsm:=hs _ (getD_mem ([],0,false,[]) hi)
     have hp:=hok _ (getD_mem ([],0,false,[]) hi)
     dsimp only[U3]
     rw[Int.toNat_natCast]
     generalize l.getD i ([],0,false,[])=p at *
     obtain⟨g,r,b,n⟩:=p
     have l1:=AfG hp
     have l2:=yX hp.r
     have l3:=AfF hp.i
     have l4:=vV hp
     dsimp only at l1 l2 l3 l4
     have hl160:=Sp.Ar 160 (BD g)
     have e1: ∀ K:Bool×Bs->Option (Bs×Int),True:=fun _=>trivial
     have hseq:AZ N false [pnB g,pfB 129 r,piB b n]=some (Ef (g,r,b,n),false):=by
       unfold AZ
       have w:Aj N false 48 [pnB g,pfB 129 r,piB b n]=_:=NI N 48 false [pnB g,pfB 129 r,piB b n] (by omega) (by omega) hN (by simp) (by rw[flat3];omega)
       rw[w,Ae,flat3];rfl
     have fin: ∀(x:Bool×List Bs×List Bs),x=(false,[pnB g,pfB 129 r,piB b n],a)->U3 (fun b38144_0d l39936d l1012288d=>Ac (AZ N b38144_0d l39936d) fun r82=>Vm.chk (decide ((l1012288d.length+1)*17<=140737488355328)) (k (i64.wrap ((i:Int)+1),r82.snd,l1012288d++[r82.fst]))) x=k (((i+1:Nat):Int),false,a++[Ef (g,r,b,n)]):=by
       intro x hx
       subst hx
       dsimp only[U3]
       rw[hseq,Ae]
       simp (disch:=first | assumption | omega) only[A7,BU]
     have gen:Gq N (4,[],n) false=some (oJ (4,[],n) false):=O5 N (4,[],n) false hN (Agw hsm.2.1)
     rw[Ag0 (show(i:Int)<(l.length:Int) by omega),cond_true,sD (by omega),AP,AP]
     simp only[GL]
     have step1: ∀(J:List Gn×Int×Bool×List (List Att)×Bool×List Bs×List Bs->Option (Bs×Int)),(bif decide (((g.length:Nat):Int)>0)then Ac (FT N g) fun r39=>Ac (BK N false r39.fst r39.snd) fun r42=>Ac (Aj N r42.snd 160 [r42.fst]) fun r44=>Ac (Aj N r44.snd 160 [r44.fst]) fun r46=>J (g,r,b,n,r46.snd,[r46.fst,[],[]],a)else J (g,r,b,n,false,[[],[],[]],a))=J (g,r,b,n,false,[pnB g,[],[]],a):=by
       intro J
       rw[fE]
       unfold pnB
       cases hg:g.isEmpty with
       | true=>rfl
       | false =>
         have hg0:g≠ []:=by intro h;subst h;cases hg
         have w1:Aj N false 160 [BD g]=_:=NI N 160 false [BD g] (by omega) (by omega) hN (by simp) (by rw[CU];omega)
         have w2:Aj N false 160 [Sp.elem 160 (BD g)]=_:=NI N 160 false [Sp.elem 160 (BD g)] (by omega) (by omega) hN (by simp) (by rw[CU];omega)
         rw[CU]at w1 w2
         rw[Bool.not_false,cond_true,cond_false,P7 N g hN hsm.1,Adv hg0 hp.n16 hp.ns,Ae,JR,Ae]
         show Ac (Aj N false 160 [BD g]) _=_
         rw[w1,Ae]
         show Ac (Aj N false 160 [Sp.elem 160 (BD g)]) _=_
         rw[w2,Ae]
     refine(step1 _).trans ?_
     dsimp only[U7]
     have last: ∀ x:Bs,x=pfB 129 r->(bif b then Ac (Gq N (4,[],n) false) fun r72=>Ac (BK N false r72.fst r72.snd) fun r75=>Ac (Aj N r75.snd 162 [r75.fst]) fun r77=>Vm.chk (decide (2<(([pnB g,x,[]]:List Bs).length:Int))) (Vm.chk (decide (2<([pnB g,x,[]]:List Bs).length)) (U3 (fun b38144_0d l39936d l1012288d=>Ac (AZ N b38144_0d l39936d) fun r82=>Vm.chk (decide ((l1012288d.length+1)*17<=140737488355328)) (k (i64.wrap ((i:Int)+1),r82.snd,l1012288d++[r82.fst]))) (r77.snd,([pnB g,x,[]]:List Bs).set 2 r77.fst,a)))else U3 (fun b38144_0d l39936d l1012288d=>Ac (AZ N b38144_0d l39936d) fun r82=>Vm.chk (decide ((l1012288d.length+1)*17<=140737488355328)) (k (i64.wrap ((i:Int)+1),r82.snd,l1012288d++[r82.fst]))) (false,[pnB g,x,[]],a))=k (((i+1:Nat):Int),false,a++[Ef (g,r,b,n)]):=by
       intro x hx
       subst hx
       cases hb:b with
       | false =>
         subst hb
         rw[cond_false]
         exact fin _ rfl
       | true =>
         subst hb
         have hn:=hp.i rfl
         have l5:=l3.2 rfl
         have w1:Aj N false 162 [Cc (4,[],n)]=_:=NI N 162 false [Cc (4,[],n)] (by omega) (by omega) hN (by simp) (by rw[CU];omega)
         rw[CU]at w1
         unfold oJ at gen
         rw[Ai3 hn.1]at gen
         rw[cond_true,gen,Ae,JR,Ae]
         show Ac (Aj N false 162 [Cc (4,[],n)]) _=_
         rw[w1,Ae]
         exact fin _ rfl
     by_cases hr:r=0
     ·rw[rD hr,cond_false]
      refine last [] ?_
      unfold pfB
      rw[MJ hr];rfl
     ·have w1:Aj N false 129 [flB r]=_:=NI N 129 false [flB r] (by omega) (by omega) hN (by simp) (by rw[CU];omega)
      rw[CU]at w1
      rw[AcC hr,cond_true,(VH N r hN hp.r.1 hp.r.2).1,Ae,JR,Ae]
      show Ac (Aj N false 129 [flB r]) _=_
      rw[w1,Ae]
      refine last (Sp.elem 129 (flB r)) ?_
      unfold pfB
      rw[Og hr];rfl
    ·intro a k ha
     simp (disch:=first | assumption | omega) only[A7]
    ·have hl:=Dy (g:=Ef) (M:=76494) (l:=l) (fun p hp=>(vV (hok p hp)).1)
     rw[AnJ N false _ (by rw[List.length_map];omega) (by rw[List.length_map];omega),Ae]
     unfold yV Jb
     cases JD 48 (l.map Ef).flatten<;>rfl
theorem tX (t:Nat) (k:Int) (h:(t:Int)=k) (c:Bs) (r:List El):Be (A8 t c::r) k=(A8 t c,true,r):=Af8 h
structure okP (p:Pt):Prop where
  nm: ∃ g,okG false g/\p.1=[g]
  re:p.2.1=0\/p.2.1∈([510,2,64,384]:List Int)
  is:(p.2.2.1=false/\p.2.2.2=[])\/(p.2.2.1=true/\okN p.2.2.2/\p.2.2.2≠ [])
def ptK (p:Pt):Pt:=(p.1.map gnK,p.2.1,p.2.2.1,nmC p.2.2.2)
def ptC (p:Pt):Bs:=pnB p.1++(pfB 129 p.2.1++piB p.2.2.1 p.2.2.2)
structure PtM (p:Pt):Prop where
  i0:ptI p=0
  i1:ptI (ptK p)=0
  len:(ptC p).length<=2000
  rd:elD (A8 48 (ptC p))=(ptK p,0)
  enc:Ef (ptK p)=Ef p
  s0:GZ p
  s1:GZ (ptK p)
theorem Ah9:([510,2,64,384]:List Int).all (fun r=>flP (flB r)==(r,0)&&decide ((flB r).length<=10)&&Bi .andNot .i64 r 510==0&& !(r==0)&&decide (-9223372036854775808<=r)&&decide (r<=9223372036854775807))=true:=by kernel_rfl
theorem Amx {g:Gn} (h:okG false g):BD [g]=Cc g:=by
  show Cc g++[]=Cc g
  rw[List.append_nil]
theorem dU {c:Bool} {g:Gn} (h:okG c g):(Cc g).length<=625:=by
  have:=(EP h).len
  have:=Sp.Ar (gnT g).1 (gnT g).2
  rw[tC];omega
theorem OV {p:Pt} (h:okP p):PtM p:=by
  obtain⟨gs,r,b,n⟩:=p
  obtain⟨⟨g,hg,hgs⟩,hr,hi⟩:=h
  dsimp only at hgs hr hi
  subst hgs
  have G:=EP hg
  have hgl:=dU hg
  have hgd:H6 (BD [g])=([gnK g],0):=AcZ (l:=[g]) (fun x hx=>by rw[List.mem_singleton.1 hx];exact hg) (by simp) (by simp)
  have hR:Bi .andNot .i64 r 510=0/\(r=0\/((r==0)=false/\flP (flB r)=(r,0)))/\(flB r).length<=10/\ -9223372036854775808<=r/\r<=9223372036854775807:=by
    rcases hr with rfl | hr
    ·exact⟨by kernel_rfl,Or.inl rfl,of_decide_eq_true (by kernel_rfl),by decide,by decide⟩
    ·have:=List.all_eq_true.1 Ah9 r hr
     simp only[Bool.and_eq_true,beq_iff_eq,decide_eq_true_eq,Bool.not_eq_true']at this
     obtain⟨⟨⟨⟨⟨h1,h2⟩,h3⟩,h4⟩,h5⟩,h6⟩:=this
     exact⟨h3,Or.inr ⟨h4,h1⟩,h2,h5,h6⟩
  obtain⟨hm,hfl,hflen,hr0,hr1⟩:=hR
  have hI:G9 n/\G9 (nmC n)/\okN n:=by
    rcases hi with ⟨_,rfl⟩ | ⟨_,hn,_⟩
    ·exact⟨fun _ h=>(by cases h),fun _ h=>(by cases h),Nat.zero_le _,fun _ h=>(by cases h)⟩
    ·exact⟨AaR hn,vM hn,hn⟩
  obtain⟨hs0,hs1,hn⟩:=hI
  have hd:okG false (4,[],n):=Or.inr ⟨n,hn,rfl⟩
  have hdl:=dU hd
  have hdd:H6 (Cc (4,[],n))=([(4,[],nmC n)],0):=by
    rw[<- Amx hd]
    exact AcZ (l:=[(4,[],n)]) (fun x hx=>by rw[List.mem_singleton.1 hx];exact hd) (by simp) (by simp)
  have hdir:TR (Cc (4,[],n))=(nmC n,0):=by unfold TR;rw[hdd];rfl
  have hv0:=Am2 hn
  have hv1:=vN hn
  have hL:=Amx hg
  have l160:=Sp.Ar 160 (BD [g])
  have o160:C9 (Sp.elem 160 (BD [g])) 160=(A8 160 (BD [g]),0):=V7 160 (BD [g]) (by decide) (by decide) (by rw[hL];omega)
  have hpt: ∀(x:Gn) (m:List (List Att)),CY x false=0->ER m=0->(b=false/\m=[]\/b=true/\m≠ [])->ptI ([x],r,b,m)=0:=by
    intro x m h1 h2 h3
    unfold ptI
    dsimp only
    rw[hm]
    have e:Hr [x] false=0:=by unfold Hr;exact JJ fun y hy=>by rw[List.mem_singleton.1 hy];exact h1
    rw[e]
    rcases h3 with ⟨rfl,rfl⟩ | ⟨rfl,h3⟩
    ·rfl
    ·rw[h2]
     cases m with
     | nil=>exact absurd rfl h3
     | cons a q=>rfl
  have hlen:(ptC ([g],r,b,n)).length<=2000:=by
    have a1:(pnB [g]).length<=640:=by
      have:=Sp.Ar 160 (Sp.elem 160 (BD [g]))
      show(Sp.elem 160 (Sp.elem 160 (BD [g]))).length<=_
      rw[hL]at *;omega
    have a2:(pfB 129 r).length<=20:=by
      have:=Sp.Ar 129 (flB r)
      unfold pfB
      cases r==0 with
      | true=>exact Nat.zero_le _
      | false=>rw[cond_false];omega
    have a3:(piB b n).length<=640:=by
      have:=Sp.Ar 162 (Cc (4,[],n))
      unfold piB
      cases b with
      | true=>rw[cond_true];omega
      | false=>exact Nat.zero_le _
    show(pnB [g]++(pfB 129 r++piB b n)).length<=2000
    rw[List.length_append,List.length_append];omega
  have hel:AV (ptC ([g],r,b,n))=(A8 160 (Sp.elem 160 (BD [g]))::((bif r==0 then []else [A8 129 (flB r)])++(bif b then [A8 162 (Cc (4,[],n))]else [])),0):=by
    have f1:=Nb 160 (Sp.elem 160 (BD [g])) (by decide) (by decide) (by rw[hL]at *;omega)
    have f2:=Nb 129 (flB r) (by decide) (by decide) (by omega)
    have f3:=Nb 162 (Cc (4,[],n)) (by decide) (by decide) (by omega)
    have h2:=E8 ((160,Sp.elem 160 (BD [g]))::((bif r==0 then []else [(129,flB r)])++(bif b then [(162,Cc (4,[],n))]else []))) (fun p hp=>by
      rcases List.mem_cons.1 hp with rfl | hp
      ·exact f1
      ·rcases List.mem_append.1 hp with hp | hp
       ·cases hq:r==0 with
        | true=>rw[hq]at hp;cases hp
        | false=>rw[hq]at hp;rw[List.mem_singleton.1 hp];exact f2
       ·cases b with
        | true=>rw[List.mem_singleton.1 hp];exact f3
        | false=>cases hp)
    have e:ptC ([g],r,b,n)=(((160,Sp.elem 160 (BD [g]))::((bif r==0 then []else [(129,flB r)])++(bif b then [(162,Cc (4,[],n))]else []))).map fun p=>Sp.elem p.1 p.2).flatten:=by
      unfold ptC pnB pfB piB
      cases r==0<;>cases b<;>simp
    rw[e,h2]
    cases r==0<;>cases b<;>rfl
  refine⟨hpt g n G.i0 hv0 ?_,hpt (gnK g) (nmC n) G.i1 hv1 ?_,hlen,?_,?_,⟨fun x hx=>by rw[List.mem_singleton.1 hx];exact G.s0,hs0,hr0,hr1⟩,⟨fun x hx=>by rw[List.mem_singleton.1 hx];exact G.s1,hs1,hr0,hr1⟩⟩
  ·rcases hi with ⟨h1,h2⟩ | ⟨h1,_,h2⟩
   ·exact Or.inl ⟨h1,h2⟩
   ·exact Or.inr ⟨h1,h2⟩
  ·rcases hi with ⟨h1,h2⟩ | ⟨h1,_,h2⟩
   ·exact Or.inl ⟨h1,by rw[h2];rfl⟩
   ·exact Or.inr ⟨h1,fun h=>h2 (List.map_eq_nil_iff.1 h)⟩
  ·unfold elD
   show(bif (AV (ptC ([g],r,b,n))).2 != 0 then _ else ptD (AV (ptC ([g],r,b,n))).1)=_
   rw[hel]
   show ptD _=_
   have s1: ∀ t,st1 (A8 160 (Sp.elem 160 (BD [g]))::t)=([gnK g],0):=fun t=>by
     unfold st1
     rw[tX 160 160 rfl]
     show(bif (C9 (Sp.elem 160 (BD [g])) 160).2 != 0 then _ else H6 (C9 (Sp.elem 160 (BD [g])) 160).1.2.1)=_
     rw[o160];exact hgd
   have t1: ∀ t,r1 (A8 160 (Sp.elem 160 (BD [g]))::t)=t:=fun t=>by unfold r1;rw[tX 160 160 rfl]
   have q3:st3 (bif b then [A8 162 (Cc (4,[],n))]else [])=((b,nmC n),0)/\(Be (bif b then [A8 162 (Cc (4,[],n))]else []) 162).2.2=[]:=by
     rcases hi with ⟨rfl,rfl⟩ | ⟨rfl,_,_⟩
     ·exact⟨rfl,rfl⟩
     ·rw[cond_true]
      refine⟨?_,by rw[tX 162 162 rfl]⟩
      unfold st3
      rw[tX 162 162 rfl]
      show(bif (TR (Cc (4,[],n))).2 != 0 then _ else((true,(TR (Cc (4,[],n))).1),0))=_
      rw[hdir];rfl
   have q2: ∀ t,(t=[]\/ ∃ y,t=[A8 162 y])->st2 ((bif r==0 then []else [A8 129 (flB r)])++t)=(r,0)/\r2 (A8 160 (Sp.elem 160 (BD [g]))::((bif r==0 then []else [A8 129 (flB r)])++t))=t:=by
     intro t ht
     unfold r2
     rw[t1]
     rcases hfl with rfl | ⟨h0,hf⟩
     ·rcases ht with rfl | ⟨y,rfl⟩
      ·exact⟨rfl,rfl⟩
      ·show st2 [A8 162 y]=_/\(Be [A8 162 y] 129).2.2=_
       unfold st2
       rw[Af7 (show ¬(A8 162 y).1=129 by show ¬((162:Nat):Int)=129;decide)]
       exact⟨rfl,rfl⟩
     ·rw[h0,cond_false]
      show st2 (A8 129 (flB r)::t)=_/\(Be (A8 129 (flB r)::t) 129).2.2=_
      unfold st2
      rw[tX 129 129 rfl]
      refine⟨?_,rfl⟩
      show(bif (flP (flB r)).2 != 0 then(0,(flP (flB r)).2)else bif (flP (flB r)).1==0 then(0,7)else((flP (flB r)).1,0))=_
      rw[hf]
      show(bif r==0 then((0:Int),(7:Int))else(r,0))=_
      rw[h0];rfl
   obtain⟨k1,k2⟩:=q2 (bif b then [A8 162 (Cc (4,[],n))]else []) (by cases b with
     | true=>exact Or.inr ⟨_,rfl⟩
     | false=>exact Or.inl rfl)
   unfold ptD r3
   rw[s1,k2,q3.1,q3.2,t1,k1]
   rfl
  ·unfold Ef ptK
   dsimp only
   have e1:pnB ([g].map gnK)=pnB [g]:=by
     show Sp.elem 160 (Sp.elem 160 (BD ([g].map gnK)))=Sp.elem 160 (Sp.elem 160 (BD [g]))
     rw[AfB (c:=false) (l:=[g]) fun x hx=>by rw[List.mem_singleton.1 hx];exact hg]
   have e2:piB b (nmC n)=piB b n:=by
     unfold piB
     rw[show Cc (4,[],nmC n)=Cc (4,[],n)from(EP hd).enc]
   rw[e1,e2]
end Go.Proofs.YtadefjgbcapakaaGreatDoor.Pl
namespace Go.Proofs.YtadefjgbcapakaaGreatDoor.Sp
def qK (b:UInt8):Int:=if b.toNat<128 then(b.toNat:Int)else(b.toNat:Int) - 256
def be (v:Int) (l:List UInt8):Int:=l.foldl (fun v b=>v*256+(b.toNat:Int)) v
def qZ:List UInt8->Bool
  | []=>true
  | [_]=>false
  | a::b::_=>(decide (a.toNat=0)&&decide (b.toNat<128))||(decide (a.toNat=255)&&decide (128<=b.toNat))
def Ajl:List UInt8->Int
  | []=>0
  | a::r=>be (qK a) r
def integer (l:List UInt8):Int×Int :=
  if qZ l then(0,7)else if 8<l.length then(0,1)else(Ajl l,0)
theorem AmF (v:Int) (l:List UInt8) (b:UInt8):be v (b::l)=be (v*256+(b.toNat:Int)) l:=rfl
theorem AhE (b:UInt8): -128<=qK b/\qK b<=127:=by
  unfold qK;have:=b.toNat_lt;split<;>omega
theorem AjS {m n:Nat} (h:m<=n):(256:Int) ^ m<=256 ^ n:=by
  have:=Int.ofNat_le.2 (Nat.pow_le_pow_right (n:=256) (by omega) h)
  rw[Int.natCast_pow,Int.natCast_pow]at this;exact this
def byteOf (q:Int):UInt8:=UInt8.ofNat (q % 256).toNat
def strip:List UInt8->List UInt8
  | []=>[]
  | [a]=>[a]
  | a::b::r=>if qZ (a::b::r)then strip (b::r)else a::b::r
def fits (q:Int):Prop:= -128<=q/\q<=127
instance (q:Int):Decidable (fits q):=inferInstanceAs (Decidable (_/\_))
