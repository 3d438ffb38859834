import Derived.Test.YtbnphelpndnnfabGreatDoorA19
import Derived.ChangeArms
import Derived.SliceStrings
import Derived.Test.YtbnphelpndnnfabGreatDoorRows
import Derived.Test.YtbnphelpndnnfabGreatDoorChecked
import Derived.Lib.LaidU8
import Derived.Shelf.Vars
import Derived.HandedShaped
import Derived.LaidLaws
set_option linter.all false
namespace Go.Proofs.YtbnphelpndnnfabGreatDoor.Pl
open IntKind (i64)
open Go Vm
theorem Itm.ne {s:Bs} (h:Itm s):s≠ []:=by
  have:=AiL 48 (itC s) []
  rw[List.append_nil,<- h.eq]at this
  exact this
def aX (n:Nat) (l:List Bs):Prop:=l.length<=n/\ ∀ s∈l,Itm s
def PI (q:Bs×Bs):Prop:=(q.1=[]\/Itm q.1)/\(q.2=[]\/Itm q.2)/\ ¬(q.1=[]/\q.2=[])
def Ams (n:Nat) (l:List (Bs×Bs)):Prop:=l.length<=n/\ ∀ q∈l,PI q
theorem AgE {n:Nat} {l:List Bs} {s:Bs} (h:aX n l) (hs:Itm s):aX (n+1) (l++[s]) :=
  ⟨by have:=h.1;simp;omega,fun x hx=>by
    rcases List.mem_append.1 hx with hx | hx
    ·exact h.2 x hx
    ·rw[List.mem_singleton.1 hx];exact hs⟩
theorem AnX {n:Nat} {l:List (Bs×Bs)} {s:Bs×Bs} (h:Ams n l) (h1:PI s):Ams (n+1) (l++[s]) :=
  ⟨by have:=h.1;simp;omega,fun x hx=>by
    rcases List.mem_append.1 hx with hx | hx
    ·exact h.2 x hx
    ·rw[List.mem_singleton.1 hx];exact h1⟩
theorem Z4 {n m:Nat} {l:List Bs} (h:aX n l) (hm:n<=m):aX m l:=⟨Nat.le_trans h.1 hm,h.2⟩
structure Mad (b:Ej):Prop where
  c:aX 3 b.1
  l:aX 3 b.2.1
  p:Ams 3 b.2.2
theorem LV {α ρ :Type} [Inhabited α] {o:Option α} {k: α ->Option ρ} {r: ρ} (h:Di o k=some r): ∃ a,o=some a/\k a=some r:=by
  cases o with
  | none=>cases h
  | some a=>exact⟨a,rfl,h⟩
theorem Aaa {L:List Int} (hL:L.length<=9223372036854775807) {d:List Int×Int} (hd:OV L d) :
    ∃(s:Bs) (d':List Int×Int),L6 2097152 d=some (s,d')/\Itm s/\OV L d':=by
  unfold L6;try simp -zeta only[Ap]
  obtain⟨r,d1,h1,hr,hd1⟩:=Oe 2097152 hL hd 5 (by omega) (by omega)
  rw[show(5:Int)=((5:Nat):Int)from rfl,h1,DL]
  dsimp only
  by_cases h0:r=0
  ·subst h0
   rw[show(((0:Nat):Int)==0)=true from rfl,cond_true]
   obtain⟨r2,d2,h2,hr2,hd2⟩:=Oe 2097152 hL hd1 3 (by omega) (by omega)
   rw[show(3:Int)=((3:Nat):Int)from rfl,h2,DL]
   dsimp only
   rw[show List.all ([IntKind.u8.wrap (r2:Int)]:List Int) isByte=true by simp [UU],EK,EU,if_pos (by simp)]
   refine⟨_,_,rfl,?_,hd2⟩
   rw[List.map_cons,List.map_nil,UE]
   exact ApH r2 hr2
  ·rw[show(((r:Nat):Int)==0)=false by simp;omega,cond_false]
   by_cases h1':r=1
   ·subst h1'
    rw[show(((1:Nat):Int)==1)=true from rfl,cond_true]
    obtain⟨r2,d2,h2,hr2,hd2⟩:=Oe 2097152 hL hd1 4 (by omega) (by omega)
    rw[show(4:Int)=((4:Nat):Int)from rfl,h2,DL]
    dsimp only
    obtain⟨s,hs,hsl⟩:=list_item r2 hr2
    unfold listItem at hs
    obtain⟨a,ha,hs⟩:=LV hs
    obtain⟨b,hb,hs⟩:=LV hs
    obtain⟨c,hc,hs⟩:=LV hs
    injection hs with hs
    rw[ha,DL,hb,DL,hc,DL,hs]
    exact⟨_,_,rfl,hsl,hd2⟩
   ·rw[show(((r:Nat):Int)==1)=false by simp;omega,cond_false]
    obtain⟨r2,d2,h2,hr2,hd2⟩:=Oe 2097152 hL hd1 4 (by omega) (by omega)
    rw[show(4:Int)=((4:Nat):Int)from rfl,h2,DL]
    dsimp only
    obtain⟨r3,d3,h3,hr3,hd3⟩:=Oe 2097152 hL hd2 3 (by omega) (by omega)
    rw[show(3:Int)=((3:Nat):Int)from rfl,h3,DL]
    dsimp only
    obtain⟨s,hs,hsl⟩:=An7 r2 r3 hr2 hr3
    unfold He at hs
    obtain⟨a,ha,hs⟩:=LV hs
    obtain⟨b,hb,hs⟩:=LV hs
    obtain⟨c,hc,hs⟩:=LV hs
    injection hs with hs
    rw[ha,DL,hb,DL,hc,DL,hs]
    exact⟨_,_,rfl,hsl,hd3⟩
set_option maxRecDepth 4000 in
theorem Aqx {L:List Int} (hL:L.length<=9223372036854775807) {d:List Int×Int} (hd:OV L d) :
    ∃(b:Ej) (d':List Int×Int),Oa 2097152 d=some (b,d')/\Mad b/\OV L d':=by
  unfold Oa;try simp -zeta only[Ap]
  obtain⟨r,d1,h1,hr,hd1⟩:=Oe 2097152 hL hd 4 (by omega) (by omega)
  rw[show(4:Int)=((4:Nat):Int)from rfl,h1,DL]
  dsimp only
  let Q:Option (Ej×(List Int×Int))->Prop:=fun o=> ∃(b:Ej) (d':List Int×Int),o=some (b,d')/\Mad b/\OV L d'
  show Q _
  refine Rj (fun x=> ∃ t:Nat,x.1=(t:Int)/\OV L (x.2.1,x.2.2.1)/\aX (3 - t) x.2.2.2/\t<=3) (fun x=>x.1.toNat) Q ?_ 2097152 _ ⟨r,rfl,hd1,⟨by simp,by simp⟩,by omega⟩ (by show(r:Int).toNat<_;omega)
  rintro ⟨t,L1,k1,acc⟩ ⟨tn,ht,hdk,hacc,ht3⟩ K hK
  dsimp only at ht hdk hacc hK
  subst ht
  dsimp only[U4]
  by_cases h:0<tn
  ·rw[F9,if_pos (by omega)]
   obtain⟨s,d2,h2,hs,hd2⟩:=Aaa hL hdk
   rw[h2,DL,EU,if_pos (by have:=hacc.1;omega),w64 (by omega) (by omega)]
   exact hK _ ⟨tn - 1,by show(tn:Int) - 1=((tn - 1:Nat):Int);omega,hd2,Z4 (AgE hacc hs) (by omega),by omega⟩ (by show((tn:Int) - 1).toNat<(tn:Int).toNat;omega)
  ·rw[F9,if_neg (by omega)]
   clear hK
   dsimp only[U3]
   obtain⟨r,d1,h1,hr,hd1⟩:=Oe 2097152 hL hdk 4 (by omega) (by omega)
   rw[h1,DL]
   dsimp only
   have hc:aX 3 acc:=Z4 hacc (by omega)
   refine Rj (fun x=> ∃ t:Nat,x.1=(t:Int)/\OV L (x.2.1,x.2.2.1)/\x.2.2.2.1=acc/\aX (3 - t) x.2.2.2.2/\t<=3) (fun x=>x.1.toNat) Q ?_ 2097152 _ ⟨r,rfl,hd1,rfl,⟨by simp,by simp⟩,by omega⟩ (by show(r:Int).toNat<_;omega)
   rintro ⟨t,L2,k2,acc1,acc2⟩ ⟨tn,ht,hdk,ha1,hacc2,ht3⟩ K hK
   dsimp only at ht hdk ha1 hacc2 hK
   subst ht;subst ha1
   dsimp only[U5]
   by_cases h:0<tn
   ·rw[F9,if_pos (by omega)]
    obtain⟨s,d2,h2,hs,hd2⟩:=Aaa hL hdk
    rw[h2,DL,EU,if_pos (by have:=hacc2.1;omega),w64 (by omega) (by omega)]
    exact hK _ ⟨tn - 1,by show(tn:Int) - 1=((tn - 1:Nat):Int);omega,hd2,rfl,Z4 (AgE hacc2 hs) (by omega),by omega⟩ (by show((tn:Int) - 1).toNat<(tn:Int).toNat;omega)
   ·rw[F9,if_neg (by omega)]
    clear hK
    dsimp only[U4]
    obtain⟨r,d1,h1,hr,hd1⟩:=Oe 2097152 hL hdk 3 (by omega) (by omega)
    rw[show(3:Int)=((3:Nat):Int)from rfl,h1,DL]
    dsimp only
    have hl:aX 3 acc2:=Z4 hacc2 (by omega)
    refine Rj (fun x=> ∃ t:Nat,x.1=(t:Int)/\OV L (x.2.1,x.2.2.1)/\x.2.2.2.1=acc1/\x.2.2.2.2.1=acc2/\Ams (3 - t) x.2.2.2.2.2/\t<=3) (fun x=>x.1.toNat) Q ?_ 2097152 _ ⟨r,rfl,hd1,rfl,rfl,⟨by simp,by simp⟩,by omega⟩ (by show(r:Int).toNat<_;omega)
    rintro ⟨t,L3,k3,b1,b2,acc3⟩ ⟨tn,ht,hdk,hb1,hb2,hacc3,ht3⟩ K hK
    dsimp only at ht hdk hb1 hb2 hacc3 hK
    subst ht;subst hb1;subst hb2
    dsimp only[U6]
    by_cases h:0<tn
    ·rw[F9,if_pos (by omega)]
     obtain⟨s1,d2,h2,hs1,hd2⟩:=Aaa hL hdk
     rw[h2,DL]
     dsimp only
     obtain⟨s2,d3,h3,hs2,hd3⟩:=Aaa hL hd2
     rw[h3,DL,AfL]
     dsimp only
     obtain⟨r4,d4,h4,hr4,hd4⟩:=Oe 2097152 hL hd3 3 (by omega) (by omega)
     rw[h4,DL]
     dsimp only
     have fin: ∀ f g:Bs,PI (f,g)->Q (Vm.chk (decide ((acc3.length+1)*33<=140737488355328))<|K (i64.wrap ((tn:Int) - (1:Int)),d4.1,d4.2,b1,b2,acc3++([(f,g)]:List (Bs×Bs)))):=by
       intro f g hfg
       rw[EU,if_pos (by have:=hacc3.1;omega),w64 (by omega) (by omega)]
       refine hK _ ⟨tn - 1,by show(tn:Int) - 1=((tn - 1:Nat):Int);omega,hd4,rfl,rfl,?_,by omega⟩ (by show((tn:Int) - 1).toNat<(tn:Int).toNat;omega)
       have:=AnX hacc3 (s:=(f,g)) hfg
       exact⟨by have:=this.1;show(acc3++[(f,g)]).length<=_;omega,this.2⟩
     by_cases h0:r4=0
     ·subst h0
      exact fin [] s2 ⟨Or.inl rfl,Or.inr hs2,fun h=>hs2.ne h.2⟩
     ·rw[show(((r4:Nat):Int)==0)=false by simp;omega,cond_false]
      by_cases h1:r4=1
      ·subst h1
       exact fin s1 [] ⟨Or.inr hs1,Or.inl rfl,fun h=>hs1.ne h.1⟩
      ·rw[show(((r4:Nat):Int)==1)=false by simp;omega,cond_false]
       exact fin s1 s2 ⟨Or.inr hs1,Or.inr hs2,fun h=>hs1.ne h.1⟩
    ·rw[F9,if_neg (by omega)]
     exact⟨_,_,rfl,⟨hc,hl,by have:=hacc3.1;exact⟨by show acc3.length<=3;omega,hacc3.2⟩⟩,hdk⟩
theorem Mad.small {b:Ej} (h:Mad b):Small 3 b :=
  ⟨⟨h.c.1,fun s hs=>(h.c.2 s hs).len⟩,⟨h.l.1,fun s hs=>(h.l.2 s hs).len⟩,h.p.1,fun q hq=>by
    obtain⟨h1,h2,_⟩:=h.p.2 q hq
    refine⟨?_,?_⟩
    ·rcases h1 with e | e
     ·rw[e];exact Nat.zero_le _
     ·exact e.len
    ·rcases h2 with e | e
     ·rw[e];exact Nat.zero_le _
     ·exact e.len⟩
theorem PI.err {q:Bs×Bs} (h:PI q):Ry q=0:=by
  obtain⟨h1,h2,h3⟩:=h
  have o: ∀ s:Bs,(s=[]\/Itm s)->VM s=0:=by
    intro s hs
    unfold VM
    rcases hs with e | e
    ·rw[if_pos e]
    ·rw[if_neg e.ne,e.err]
  unfold Ry
  rw[if_neg h3]
  show(if VM q.1≠0 then _ else if VM q.2≠0 then _ else _)=_
  rw[o _ h1,o _ h2];rfl
theorem Un {E:Type} (f:E->Int): ∀ l:List E,(∀ e∈l,f e=0)->EE f l=0:=by
  intro l
  induction l with
  | nil=>intro _;rfl
  | cons e r ih =>
    intro h
    show(if f e≠0 then f e else EE f r)=0
    rw[if_neg (by rw[h e List.mem_cons_self];simp),ih fun e he=>h e (List.mem_cons_of_mem _ he)]
theorem Ag1 {b:Ej} (h1:b.1.length<=64/\b.2.1.length<=64/\b.2.2.length<=64) (h2: ∀ s∈b.1,Itm s) (h3: ∀ s∈b.2.1,Itm s) (h4: ∀ q∈b.2.2,PI q):Jl b=0:=by
  unfold Jl
  rw[if_neg (by omega)]
  have hx:EE (EE Sp.GU) [b.1,b.2.1]=0:=Un _ _ fun l hl=>by
    simp only[List.mem_cons,List.not_mem_nil,or_false]at hl
    rcases hl with rfl | rfl
    ·exact Un _ _ fun s hs=>(h2 s hs).err
    ·exact Un _ _ fun s hs=>(h3 s hs).err
  rw[hx,Un Ry b.2.2 fun q hq=>(h4 q hq).err]
  rfl
def nS (t:Nat) (c:Bs):Option Bs:=if c=[]then some []else SL t c
theorem flatten_nil {l:List Bs} (h: ∀ s∈l,s=[]):l.flatten=[]:=List.flatten_eq_nil_iff.2 h
theorem Aq1 (N t:Nat) (b:Bool) (l:List Bs) (ht:t<256) (h31:t % 32≠31) (hN:l.length<N) (hl:l.length<=1099511627776):EY N b (t:Int) l=some ((nS t l.flatten).getD [],b||(nS t l.flatten).isNone):=by
  unfold EY;try simp -zeta only[Ap]
  refine Eq.trans (lF (fun x=> ∃ i,i<=l.length/\x=((i:Int),b)/\ ∀ s∈l.take i,s=[]) (fun x=>l.length - x.1.toNat) (fun _=>some ((nS t l.flatten).getD [],b||(nS t l.flatten).isNone)) ?_ N _ ⟨0,by omega,rfl,fun s hs=>by cases hs⟩ (by show l.length - 0<N;omega)) rfl
  rintro x ⟨i,hi,rfl,h0⟩ k hk
  show(bif decide ((i:Int)<(l.length:Int))then _ else _)=_
  by_cases h:i<l.length
  ·simp only[F9,EU,Int.toNat_natCast,kR]
   rw[if_pos (by omega),if_pos (by omega),if_pos (by omega)]
   by_cases he:l.getD i []=[]
   ·rw[show(!decide (l.getD i []=[]))=false by rw[decide_eq_true he];rfl,cond_false,w64 (by omega) (by omega)]
    refine hk _ ⟨i+1,h,rfl,fun s hs=> ?_⟩ (by show l.length - ((i:Int)+1).toNat<l.length - (i:Int).toNat;omega)
    rw[take_snoc h]at hs
    rcases List.mem_append.1 hs with hs | hs
    ·exact h0 s hs
    ·rw[List.mem_singleton.1 hs];rw[<- he];simp [List.getD_eq_getElem?_getD,h]
   ·rw[show(!decide (l.getD i []=[]))=true by rw[decide_eq_false he];rfl,cond_true]
    rw[Alp N t b l ht h31 hN hl,DL]
    have:l.flatten≠ []:=by
      intro hf
      exact he (List.flatten_eq_nil_iff.1 hf _ (getD_mem [] h))
    unfold nS
    rw[if_neg this]
  ·have hil:i=l.length:=by omega
   subst hil
   rw[F9,if_neg (by omega)]
   rw[List.take_length]at h0
   unfold nS
   rw[if_pos (flatten_nil h0)]
   simp
theorem AcR {t:Nat} {c:Bs} (h:c.length<=131072):SL t c=some (Sp.elem t c):=by unfold SL;rw[if_pos h]
def prt (t:Nat) (c:Bs):Bs:=if c=[]then []else Sp.elem t c
def pe (t:Nat) (c:Bs):List El:=if c=[]then []else [Np t c]
theorem iF (t:Nat) (c:Bs):(prt t c).length<=c.length+5:=by
  unfold prt
  have:=Sp.aU t c
  split
  ·simp
  ·omega
theorem iE {N t:Nat} {l:List Bs} (ht:t<256) (h31:t % 32≠31) (hN:l.length<N) (hl:l.length<=1000) (hf:l.flatten.length<=131072):EY N false (t:Int) l=some (prt t l.flatten,false):=by
  rw[Aq1 N t false l ht h31 hN (by omega)]
  unfold nS prt
  by_cases h:l.flatten=[]
  ·rw[if_pos h,if_pos h];rfl
  ·rw[if_neg h,if_neg h,AcR hf];rfl
def pC (q:Bs×Bs):Bs:=prt 160 q.1++prt 161 q.2
def pB (q:Bs×Bs):Bs:=Sp.elem 48 (pC q)
def F5 (b:Ej):Bs:=prt 160 b.1.flatten++(prt 161 b.2.1.flatten++prt 162 (b.2.2.map pB).flatten)
def Amn (b:Ej):Bs:=Sp.elem 48 (F5 b)
theorem zW {l:List Bs} {M:Nat} (h: ∀ s∈l,s.length<=M):l.flatten.length<=M*l.length:=by
  induction l with
  | nil=>simp
  | cons a r ih =>
    have:=ih fun s hs=>h s (List.mem_cons_of_mem _ hs)
    have:=h a List.mem_cons_self
    rw[List.flatten_cons,List.length_append,List.length_cons,Nat.mul_succ];omega
theorem Aes {q:Bs×Bs} (h1:q.1.length<=3000) (h2:q.2.length<=3000):(pC q).length<=6010:=by
  have:=iF 160 q.1
  have:=iF 161 q.2
  unfold pC
  rw[List.length_append];omega
structure Lens (b:Ej):Prop where
  a:b.1.flatten.length<=9000
  l:b.2.1.flatten.length<=9000
  q: ∀ x∈b.2.2,x.1.length<=3000/\x.2.length<=3000
  p:(b.2.2.map pB).flatten.length<=18100
  n:b.1.length<=3/\b.2.1.length<=3/\b.2.2.length<=3
  c:(F5 b).length<=36200
theorem Mad.lens {b:Ej} (h:Mad b):Lens b:=by
  have S:=h.small
  have h1:=zW S.c.2
  have h2:=zW S.l.2
  have c1:=S.c.1
  have c2:=S.l.1
  have c3:=S.p.1
  have h3:(b.2.2.map pB).flatten.length<=6015*(b.2.2.map pB).length:=zW fun s hs=>by
    obtain⟨q,hq,rfl⟩:=List.mem_map.1 hs
    have:=Aes (S.p.2 q hq).1 (S.p.2 q hq).2
    have:=Sp.aU 48 (pC q)
    unfold pB;omega
  rw[List.length_map]at h3
  have p1:=iF 160 b.1.flatten
  have p2:=iF 161 b.2.1.flatten
  have p3:=iF 162 (b.2.2.map pB).flatten
  have e1:b.1.flatten.length<=9000:=by omega
  have e2:b.2.1.flatten.length<=9000:=by omega
  have e3:(b.2.2.map pB).flatten.length<=18100:=by omega
  exact⟨e1,e2,S.p.2,e3,⟨c1,c2,c3⟩,by unfold F5;rw[List.length_append,List.length_append];omega⟩
theorem Mad.err {b:Ej} (h:Mad b):Jl b=0:=Ag1 (by have:=h.lens.n;omega) h.c.2 h.l.2 h.p.2
theorem Arb {N:Nat} (hN:N=2097152) {b:Ej} (h:Mad b):IU N b=some (Amn b,0):=by
  have L:=h.lens
  obtain⟨n1,n2,n3⟩:=L.n
  have hfit:Fit N b:=by rw[hN];exact h.small.fit
  have hc:=AbG N b (by omega) hfit
  rw[h.err]at hc
  unfold IU;try simp -zeta only[Ap]
  rw[hc,DL,show((0:Int) != 0)=false from rfl,cond_false]
  refine(Acr (mk:=fun i a=>((i:Int),b.1,b.2.1,b.2.2,false,a)) b.2.2 (([]:Bs),([]:Bs)) pB (fun a=>Di (EY N false 160 b.1) fun r45=>Di (EY N r45.2 161 b.2.1) fun r49=>Di (EY N r49.2 162 a) fun r52=>Di (EF N r52.2 ([r45.1,r49.1,r52.1]:List Bs)) fun r54=>Di (KL N r54.2) fun r56=>bif r56.1 then some (([]:Bs),2)else some (r54.1,0)) ?_ ?_ N (by omega)).trans ?_
  ·intro i a hi ha k
   have hq:=L.q _ (getD_mem ([],[]) hi)
   dsimp only[U6]
   rw[Int.toNat_natCast]
   generalize b.2.2.getD i (([]:Bs),([]:Bs))=q at hq ⊢
   have hp:=Aes hq.1 hq.2
   have h1:EY N false 160 [q.1]=_:=iE (N:=N) (t:=160) (l:=[q.1]) (by omega) (by omega) (by simp;omega) (by simp) (by simp;omega)
   have h2:EY N false 161 [q.2]=_:=iE (N:=N) (t:=161) (l:=[q.2]) (by omega) (by omega) (by simp;omega) (by simp) (by simp;omega)
   have h3:EF N false [prt 160 q.1,prt 161 q.2]=some (pB q,false):=by
     have e:([prt 160 q.1,prt 161 q.2]:List Bs).flatten=pC q:=by simp [pC]
     rw[Anu N false _ (by simp;omega) (by simp),e,AcR (by omega)];rfl
   have e1:([q.1]:List Bs).flatten=q.1:=by simp
   have e2:([q.2]:List Bs).flatten=q.2:=by simp
   rw[e1]at h1
   rw[e2]at h2
   rw[Zv (by omega),cond_true,Zt (by omega),EK,EK,h1,DL]
   dsimp only
   rw[h2,DL]
   dsimp only
   rw[h3,DL,EU,if_pos (by omega),w64 (by omega) (by omega)]
   rfl
  ·intro a k ha
   dsimp only[U6,U5]
   rw[Zu (by omega),cond_false]
  ·have h1:EY N false 160 b.1=_:=iE (N:=N) (t:=160) (l:=b.1) (by omega) (by omega) (by omega) (by omega) (by have:=L.a;omega)
   have h2:EY N false 161 b.2.1=_:=iE (N:=N) (t:=161) (l:=b.2.1) (by omega) (by omega) (by omega) (by omega) (by have:=L.l;omega)
   have h3:EY N false 162 (b.2.2.map pB)=_:=iE (N:=N) (t:=162) (l:=b.2.2.map pB) (by omega) (by omega) (by rw[List.length_map];omega) (by rw[List.length_map];omega) (by have:=L.p;omega)
   have h4:EF N false [prt 160 b.1.flatten,prt 161 b.2.1.flatten,prt 162 (b.2.2.map pB).flatten]=some (Amn b,false):=by
     have e:([prt 160 b.1.flatten,prt 161 b.2.1.flatten,prt 162 (b.2.2.map pB).flatten]:List Bs).flatten=F5 b:=by simp [F5]
     rw[Anu N false _ (by simp;omega) (by simp),e,AcR (by have:=L.c;omega)];rfl
   rw[h1,DL]
   dsimp only
   rw[h2,DL]
   dsimp only
   rw[h3,DL]
   dsimp only
   rw[h4,DL]
   rfl
def E48 (s:Bs):Prop:=s=Sp.elem 48 (itC s)/\(itC s).length<=131072
theorem Itm.e48 {s:Bs} (h:Itm s):E48 s:=⟨h.eq,by
  have:=Aql 48 (itC s)
  rw[<- h.eq]at this
  have:=h.len;omega⟩
theorem Apn {c:Bs} (h:c.length<=131072):itC (Sp.elem 48 c)=c:=by
  unfold itC
  rw[Ac1 48 c (by omega) (by omega) h];rfl
theorem E48.ne {s:Bs} (h:E48 s):s≠ []:=by
  have:=AiL 48 (itC s) []
  rw[List.append_nil,<- h.1]at this
  exact this
theorem Aru {q:Bs×Bs} (h:(pC q).length<=131072):E48 (pB q):=by
  unfold pB E48
  rw[Apn h]
  exact⟨rfl,h⟩
theorem Aqw {l:List Bs} (h: ∀ s∈l,E48 s):JL l.flatten=(l.map fun s=>Np 48 (itC s),0):=by
  have:=Aeh (l.map fun s=>(48,itC s)) fun p hp=>by
    obtain⟨s,hs,rfl⟩:=List.mem_map.1 hp
    exact Aif (by omega) (by omega) (h s hs).2
  rw[List.map_map,List.map_map]at this
  have e:(l.map ((fun p:Nat×Bs=>Sp.elem p.1 p.2)∘fun s=>(48,itC s)))=l:=by
    conv=>rhs;rw[<- List.map_id l]
    exact List.map_congr_left fun s hs=>(h s hs).1.symm
  rw[e]at this
  exact this
theorem Aew {A B C:Bs} (ha:A.length<=131072) (hb:B.length<=131072) (hc:C.length<=131072):JL (prt 160 A++(prt 161 B++prt 162 C))=(pe 160 A++(pe 161 B++pe 162 C),0):=by
  have fa:Fine (160,A):=Aif (by omega) (by omega) ha
  have fb:Fine (161,B):=Aif (by omega) (by omega) hb
  have fc:Fine (162,C):=Aif (by omega) (by omega) hc
  have key:=Aeh ((if A=[]then []else [(160,A)])++((if B=[]then []else [(161,B)])++(if C=[]then []else [(162,C)]))) (by
    intro p hp
    rcases List.mem_append.1 hp with hp | hp
    ·split at hp
     ·cases hp
     ·rw[List.mem_singleton.1 hp];exact fa
    ·rcases List.mem_append.1 hp with hp | hp
     ·split at hp
      ·cases hp
      ·rw[List.mem_singleton.1 hp];exact fb
     ·split at hp
      ·cases hp
      ·rw[List.mem_singleton.1 hp];exact fc)
  unfold prt pe
  by_cases h1:A=[]<;>by_cases h2:B=[]<;>by_cases h3:C=[]<;>simp only[h1,h2,h3,if_true,if_false,List.nil_append,List.append_nil,List.map_nil,List.map_cons,List.map_append,List.flatten_append,List.flatten_cons,List.flatten_nil,List.cons_append]at key ⊢ <;>exact key
def lT (t:Nat) (r:List El):Prop:= ∀ e∈r,e.1≠(t:Int)
theorem Al5 {t:Nat} {r:List El} (h:lT t r):Ajg r (t:Int)=((0,[],[]),false,r):=by
  cases r with
  | nil=>rfl
  | cons e r=>exact Aqr (h e List.mem_cons_self)
theorem Aep {t u:Nat} (h:u≠t) (c:Bs):lT t (pe u c):=by
  unfold pe lT
  intro e he
  split at he
  ·cases he
  ·rw[List.mem_singleton.1 he]
   show(u:Int)≠(t:Int)
   omega
theorem Aac {t:Nat} {a b:List El} (ha:lT t a) (hb:lT t b):lT t (a++b):=fun e he=>(List.mem_append.1 he).elim (ha e) (hb e)
theorem Aqp {l:List Bs} (h: ∀ s∈l,E48 s) (hl:l≠ []):l.flatten≠ []:=fun e=>by
  cases l with
  | nil=>exact hl rfl
  | cons a r=>exact(h a List.mem_cons_self).ne (List.flatten_eq_nil_iff.1 e a List.mem_cons_self)
theorem Amj {N t:Nat} {l:List Bs} {r:List El} (hN:1048578<N) (h: ∀ s∈l,E48 s) (hn:l.length<=100) (hf:l.flatten.length<=131072) (hr:lT t r):Fv N (pe t l.flatten++r) (t:Int)=some (l,0,r):=by
  unfold Fv;try simp -zeta only[Ap]
  rw[Ant,DL]
  by_cases hl:l=[]
  ·subst hl
   have e:pe t ([]:List Bs).flatten++r=r:=rfl
   rw[e,Al5 hr];rfl
  ·have hl':=Aqp h hl
   have e:pe t l.flatten++r=Np t l.flatten::r:=by unfold pe;rw[if_neg hl'];rfl
   have hpos:=List.length_pos_iff.2 hl
   rw[e,Ark rfl]
   dsimp only[Np]
   rw[Bool.not_true,cond_false,AbC N _ (by omega) (by omega) (by omega),Aqw h,DL]
   dsimp only
   rw[show((0:Int) != 0)=false from rfl,cond_false,List.length_map,AqL (by omega),cond_false]
   refine(Acr (mk:=fun i a=>((i:Int),r,a)) (l.map fun s=>Np 48 (itC s)) (0,([]:Bs),([]:Bs)) (fun e=>e.2.2) (fun a=>some (a,0,r)) ?_ ?_ N (by rw[List.length_map];omega)).trans ?_
   ·intro i a hi ha k
    rw[List.length_map]at hi
    dsimp only[U3]
    rw[Zv (by omega),cond_true,Zt (by omega),EK,EK,EU,if_pos (by omega),Int.toNat_natCast,w64 (by omega) (by omega)]
    rfl
   ·intro a k ha
    rw[List.length_map]at ha ⊢
    dsimp only[U3,U2]
    rw[Zu (by omega),cond_false]
   ·rw[List.map_map]
    have e:(l.map ((fun e:El=>e.2.2)∘fun s=>Np 48 (itC s)))=l:=by
      conv=>rhs;rw[<- List.map_id l]
      exact List.map_congr_left fun s hs=>(h s hs).1.symm
    rw[e]
theorem Al7 {N:Nat} {c:Bs} {es:List El} (hN:1048578<N) (hc:c.length<=131072) (he:JL c=(es,0)):Hg N (Sp.elem 48 c) 48=some (.inl (es,0)):=by
  have hl:=Sp.aU 48 c
  rw[Aqb N _ 48 (by omega) (by omega) (by omega)]
  unfold AmT
  rw[Ac1 48 c (by omega) (by omega) hc]
  dsimp only[Np]
  simp [he]
theorem ApU {N t:Nat} {s:Bs} {r:List El} (hN:1048578<N) (h:s=[]\/E48 s) (hl:s.length<=131072) (hr:lT t r):FX N (pe t s++r) (t:Int)=some (s,0,r):=by
  unfold FX
  rw[Ant,DL]
  by_cases h0:s=[]
  ·subst h0
   have e:pe t []++r=r:=rfl
   rw[e,Al5 hr];rfl
  ·have h:=h.resolve_left h0
   have e:pe t s++r=Np t s::r:=by unfold pe;rw[if_neg h0];rfl
   have ho:N8 s=(Np 48 (itC s),0):=by
     conv=>lhs;rw[h.1]
     exact Ac1 48 _ (by omega) (by omega) h.2
   rw[e,Ark rfl]
   dsimp only[Np]
   rw[Bool.not_true,cond_false,o5 N s (by omega) (by omega),ho,DL]
   dsimp only[Np]
   rw[<- h.1]
theorem ArF {N:Nat} {q:Bs×Bs} (hN:1048578<N) (h:PI q) (h1:q.1.length<=3000) (h2:q.2.length<=3000):Kz N (pB q)=some (q,0):=by
  have hp:=Aes h1 h2
  have hL:JL (pC q)=(pe 160 q.1++(pe 161 q.2++[]),0):=by
    have:=Aew (A:=q.1) (B:=q.2) (C:=[]) (by omega) (by omega) (by simp)
    have e1:prt 162 []=[]:=rfl
    have e2:pe 162 []=[]:=rfl
    rw[e1,e2,List.append_nil]at this
    exact this
  have ho:=Al7 hN (show(pC q).length<=131072 by omega) hL
  have o1:q.1=[]\/E48 q.1:=h.1.imp id Itm.e48
  have o2:q.2=[]\/E48 q.2:=h.2.1.imp id Itm.e48
  have d1:FX N (pe 160 q.1++(pe 161 q.2++[])) 160=_:=ApU (t:=160) hN o1 (by omega) (Aac (Aep (by omega) _) fun e he=>by cases he)
  have d2:FX N (pe 161 q.2++[]) 161=_:=ApU (t:=161) hN o2 (by omega) fun e he=>by cases he
  unfold Kz pB
  rw[ho,Ag2]
  dsimp only
  rw[show((0:Int) != 0)=false from rfl,cond_false,d1,DL]
  dsimp only
  rw[show((0:Int) != 0)=false from rfl,cond_false,d2,DL]
  dsimp only
  rw[show((0:Int) != 0)=false from rfl,cond_false,Alo,DL]
  rfl
theorem Ara {N:Nat} (hN:N=2097152) {b:Ej} (h:Mad b):JC N (Amn b)=some (b,0):=by
  have L:=h.lens
  obtain⟨n1,n2,n3⟩:=L.n
  have lc:=L.c
  have hfit:Fit N b:=by rw[hN];exact h.small.fit
  have hc:=AbG N b (by omega) hfit
  rw[h.err]at hc
  have hp: ∀ s∈b.2.2.map pB,E48 s:=fun s hs=>by
    obtain⟨q,hq,rfl⟩:=List.mem_map.1 hs
    have:=Aes (L.q q hq).1 (L.q q hq).2
    exact Aru (by omega)
  have hL:JL (F5 b)=(pe 160 b.1.flatten++(pe 161 b.2.1.flatten++(pe 162 (b.2.2.map pB).flatten++[])),0):=by
    rw[List.append_nil]
    exact Aew (by have:=L.a;omega) (by have:=L.l;omega) (by have:=L.p;omega)
  have ho:=Al7 (N:=N) (by omega) (show(F5 b).length<=131072 by omega) hL
  have nil: ∀ t,lT t ([]:List El):=fun t e he=>by cases he
  have d1:Fv N (pe 160 b.1.flatten++(pe 161 b.2.1.flatten++(pe 162 (b.2.2.map pB).flatten++[]))) 160=_:=Amj (t:=160) (by omega) (fun s hs=>(h.c.2 s hs).e48) (by omega) (by have:=L.a;omega) (Aac (Aep (by omega) _) (Aac (Aep (by omega) _) (nil _)))
  have d2:Fv N (pe 161 b.2.1.flatten++(pe 162 (b.2.2.map pB).flatten++[])) 161=_:=Amj (t:=161) (by omega) (fun s hs=>(h.l.2 s hs).e48) (by omega) (by have:=L.l;omega) (Aac (Aep (by omega) _) (nil _))
  have d3:Fv N (pe 162 (b.2.2.map pB).flatten++[]) 162=_:=Amj (t:=162) (by omega) hp (by rw[List.length_map];omega) (by have:=L.p;omega) (nil _)
  unfold JC Amn;try simp -zeta only[Ap]
  rw[ho,Ag2]
  dsimp only
  rw[show((0:Int) != 0)=false from rfl,cond_false,d1,DL]
  dsimp only
  rw[show((0:Int) != 0)=false from rfl,cond_false,d2,DL]
  dsimp only
  rw[show((0:Int) != 0)=false from rfl,cond_false,d3,DL]
  dsimp only
  rw[show((0:Int) != 0)=false from rfl,cond_false,List.length_map]
  refine(Acr (mk:=fun i a=>((i:Int),b.1,b.2.1,([]:List El),a)) b.2.2 (([]:Bs),([]:Bs)) id (fun a=>Di (DV N []) fun r76=>bif (r76.1 != (0:Int))then(some ((([]:List Bs),([]:List Bs),([]:List (Bs×Bs))),r76.1))else(Di (I8 N (b.1,b.2.1,a)) fun r82=>bif (r82 != (0:Int))then(some ((([]:List Bs),([]:List Bs),([]:List (Bs×Bs))),r82))else(some ((b.1,b.2.1,a),0)))) ?_ ?_ N (by omega)).trans ?_
  ·intro i a hi ha k
   have hm:=getD_mem (([]:Bs),([]:Bs)) hi
   have hq:=L.q _ hm
   have hd:=ArF (N:=N) (by omega) (h.p.2 _ hm) hq.1 hq.2
   have e:(b.2.2.map pB).getD i ([]:Bs)=pB (b.2.2.getD i (([]:Bs),([]:Bs))):=by
     rw[getD_lt _ _ _ (by rw[List.length_map];exact hi),List.getElem_map,getD_lt b.2.2 i _ hi]
   dsimp only[U5]
   rw[Int.toNat_natCast,e,hd,Zv (by omega),cond_true,Zt (by omega),EK,EK,DL]
   dsimp only
   rw[show((0:Int) != 0)=false from rfl,cond_false,EU,if_pos (by omega),w64 (by omega) (by omega)]
   rfl
  ·intro a k ha
   dsimp only[U5,U4]
   rw[Zu (by omega),cond_false]
  ·rw[List.map_id,Alo,DL]
   dsimp only
   rw[show((if([]:List El)=[]then(0:Int)else 4) != 0)=false from rfl,cond_false,hc,DL]
   rfl
section
variable {α :Type} [DecidableEq α]
def ded (s:List α):List α ->List α
  | []=>[]
  | x::r=>if x∈s then ded s r else x::ded (s++[x]) r
theorem AnJ: ∀(l s:List α),dd s l=s++ded s l:=by
  intro l
  induction l with
  | nil=>intro s;exact(List.append_nil s).symm
  | cons x r ih =>
    intro s
    show dd (app s x) r=s++(if x∈s then ded s r else x::ded (s++[x]) r)
    unfold app
    by_cases h:x∈s
    ·rw[if_pos h,if_pos h,ih]
    ·rw[if_neg h,if_neg h,ih,List.append_assoc];rfl
theorem zU (s a b:List α):dd s (a++b)=dd (dd s a) b:=List.foldl_append
theorem Anx {s:List α} {x y: α} (h:y∈s\/y=x):y∈app s x:=by
  unfold app
  by_cases hx:x∈s
  ·rw[if_pos hx];rcases h with h | h
   ·exact h
   ·rw[h];exact hx
  ·rw[if_neg hx];simpa using h
theorem Amb: ∀(l:List α) {s:List α} {y: α},y∈s\/y∈l->y∈dd s l:=by
  intro l
  induction l with
  | nil=>intro s y h;exact h.resolve_right (by simp)
  | cons x r ih =>
    intro s y h
    refine ih (s:=app s x) ?_
    rcases h with h | h
    ·exact .inl (Anx (.inl h))
    ·rcases List.mem_cons.1 h with h | h
     ·exact .inl (Anx (.inr h))
     ·exact .inr h
theorem Alz: ∀(l s:List α),(∀ x∈l,x∈s)->dd s l=s:=by
  intro l
  induction l with
  | nil=>intro s _;rfl
  | cons x r ih =>
    intro s h
    have e:app s x=s:=if_pos (h x List.mem_cons_self)
    show dd (app s x) r=s
    rw[e]
    exact ih s fun y hy=>h y (List.mem_cons_of_mem _ hy)
theorem Aly {β :Type} [DecidableEq β] (f: α ->List β): ∀(l s:List α) (acc:List β),(∀ x∈s,∀ y∈f x,y∈acc)->dd acc ((ded s l).flatMap f)=dd acc (l.flatMap f):=by
  intro l
  induction l with
  | nil=>intro s acc _;rfl
  | cons x r ih =>
    intro s acc h
    show dd acc ((if x∈s then ded s r else x::ded (s++[x]) r).flatMap f)=dd acc (f x++r.flatMap f)
    rw[zU]
    by_cases hx:x∈s
    ·rw[if_pos hx,Alz (f x) acc (h x hx)]
     exact ih s acc h
    ·rw[if_neg hx]
     show dd acc (f x++(ded (s++[x]) r).flatMap f)=_
     rw[zU]
     refine ih _ _ fun y hy z hz=> ?_
     rcases List.mem_append.1 hy with hy | hy
     ·exact Amb _ (.inl (h y hy z hz))
     ·rw[List.mem_singleton.1 hy]at hz
      exact Amb _ (.inr hz)
theorem Acg (l:List α):dd (dd [] l) l=dd [] l:=Alz l _ fun x hx=>Amb l (.inr hx)
end
def Uo (p:List (Bs×Bs)):List Bs:=p.flatMap fun q=>[q.1,q.2]
theorem Um {E:Type} (g:Bs->Bool) (f:E->List Bs): ∀ p:List E,(p.flatMap f).filter g=p.flatMap fun q=>(f q).filter g:=by
  intro p
  induction p with
  | nil=>rfl
  | cons q r ih=>rw[List.flatMap_cons,List.flatMap_cons,List.filter_append,ih]
theorem AiZ (l:List Bs):l.flatMap (fun s=>[s])=l:=by
  induction l with
  | nil=>rfl
  | cons a r ih=>rw[List.flatMap_cons,ih];rfl
theorem Ab9 (g:Bs->Bool) (c:List Bs) (p:List (Bs×Bs)):dd [] ((dd [] c++Uo (dd [] p)).filter g)=dd [] ((c++Uo p).filter g):=by
  have e1:(dd [] c).filter g=(ded [] c).flatMap fun s=>[s].filter g:=by
    rw[AnJ,List.nil_append]
    conv=>lhs;rw[<- AiZ (ded [] c)]
    exact Um g _ _
  have e2:c.filter g=c.flatMap fun s=>[s].filter g:=by
    conv=>lhs;rw[<- AiZ c]
    exact Um g _ _
  rw[List.filter_append,List.filter_append,zU,zU,e1,e2,Aly _ _ _ _ (fun x hx=>by cases hx)]
  unfold Uo
  rw[Um,Um,AnJ p [],List.nil_append,Aly _ _ _ _ (fun x hx=>by cases hx)]
theorem Akb (g:Bs->Bool) (c:List Bs):dd [] ((dd [] c).filter g)=dd [] (c.filter g):=by
  have:=Ab9 g c []
  have e1:Uo (dd [] ([]:List (Bs×Bs)))=[]:=rfl
  have e2:Uo ([]:List (Bs×Bs))=[]:=rfl
  rw[e1,e2,List.append_nil,List.append_nil]at this
  exact this
def cD (s:Bs):o7:=(Iu 2097152 s).getD default
def cG (s:Bs):Bool:=(cD s).2==0
def lD (s:Bs):uQ:=(NQ 2097152 s).getD default
def lG (s:Bs):Bool:=(lD s).2==0
def eU (b:Ej):KG:=(dd [] ((b.1++Uo b.2.2).filter cG)).map fun s=>(cD s).1
def xE (b:Ej):Tz:=(dd [] (b.2.1.filter lG)).map fun s=>(lD s).1
theorem ArE {s:Bs} (h:s=[]\/Itm s):Iu 2097152 s=some (cD s):=by
  have: ∃ r,Iu 2097152 s=some r/\(r.2=0->r.1.1=s):=by
    rcases h with rfl | h
    ·exact AoZ
    ·exact h.c
  obtain⟨r,h1,_⟩:=this
  unfold cD
  rw[h1];rfl
theorem ArG {s:Bs} (h:Itm s):NQ 2097152 s=some (lD s):=by
  obtain⟨r,h1,_⟩:=h.l
  unfold lD
  rw[h1];rfl
structure Kn (b:Ej):Prop where
  n:b.1.length<=3/\b.2.1.length<=3/\b.2.2.length<=3
  c: ∀ s∈b.1,Itm s
  l: ∀ s∈b.2.1,Itm s
  p: ∀ q∈b.2.2,PI q
theorem Mad.kn {b:Ej} (h:Mad b):Kn b:=⟨⟨h.c.1,h.l.1,h.p.1⟩,h.c.2,h.l.2,h.p.2⟩
def stepG (g:Bs->Bool) (s:List Bs) (x:Bs):List Bs:=if g x=true then app s x else s
theorem AgY (g:Bs->Bool) (s:List Bs) (x:Bs):(stepG g s x).length<=s.length+1:=by
  unfold stepG
  split
  ·exact zQ s x
  ·omega
theorem AdH (g:Bs->Bool) (l:List Bs):l.foldl (stepG g) []=dd [] (l.filter g):=(List.foldl_filter).symm
theorem Ai6 {N:Nat} (hN:N=2097152) {b:Ej} (h:Kn b):FK N b=some (eU b):=by
  obtain⟨n1,n2,n3⟩:=h.n
  unfold FK;try simp -zeta only[Ap]
  rw[EU,if_pos (by omega)]
  refine(NZ (S:=List Bs) (fun i s=>(i,s)) b.2.2 (([]:Bs),([]:Bs)) (fun s q=>s++[q.1,q.2]) (fun s=>some ((dd [] (s.filter cG)).map fun s=>(cD s).1)) (fun i s=>(∀ x∈s,x=[]\/Itm x)/\s.length<=3+2*i/\i<=3) ?_ ?_ N b.1 ⟨fun x hx=>.inr (h.c x hx),by omega,by omega⟩ (by omega)).trans ?_
  ·intro i s k hi ⟨hs,hl,_⟩
   have hq:=h.p _ (getD_mem (([]:Bs),([]:Bs)) hi)
   dsimp only[U2]
   rw[Int.toNat_natCast,Zv (by omega),cond_true,Zt (by omega),EK,EK,EU,if_pos (by omega),w64 (by omega) (by omega)]
   refine⟨rfl,fun x hx=> ?_,by rw[List.length_append];simp;omega,by omega⟩
   rcases List.mem_append.1 hx with hx | hx
   ·exact hs x hx
   ·simp only[List.mem_cons,List.not_mem_nil,or_false]at hx
    rcases hx with rfl | rfl
    ·exact hq.1
    ·exact hq.2.1
  ·intro s k ⟨hs,hl,_⟩
   dsimp only[U2]
   rw[Zu (by omega),cond_false]
   refine(NZ (S:=List Bs) (fun i z=>(i,ones (SK z),s,z.map fun s=>(cD s).1)) s ([]:Bs) (stepG cG) (fun z=>some (z.map fun s=>(cD s).1)) (fun i z=>z.length<=i/\i<=100) ?_ ?_ N [] ⟨by simp,by omega⟩ (by omega)).trans ?_
   ·intro i z k' hi ⟨hz,_⟩
    have hd:=ArE (hs _ (getD_mem ([]:Bs) hi))
    rw[<- hN]at hd
    have hst:=AgY cG z (s.getD i [])
    dsimp only[U4]
    rw[Int.toNat_natCast,Zv (by omega),cond_true,Zt (by omega),EK,EK]
    rw[show decide (i<s.length)=true from decide_eq_true hi,EK,hd,DL]
    refine⟨?_,by omega,by omega⟩
    generalize hx:s.getD i ([]:Bs)=x at hd ⊢
    rw[w64 (by omega) (by omega)]
    unfold stepG
    cases hg:cG x with
    | true =>
      have hg':((cD x).2==(0:Int))=true:=hg
      rw[hg',cond_true,EK,EK,EK,kU,DL]
      dsimp only
      rw[cond_true,EK,EK,cond_true,AbI,if_pos rfl]
      by_cases hm:x∈z
      ·rw[show decide ((x,([]:Bs))∉SK z)=false by simp [Nv,hm],cond_false]
       have e:app z x=z:=if_pos hm
       rw[e]
      ·rw[show decide ((x,([]:Bs))∉SK z)=true by simp [Nv,hm],cond_true,EU,if_pos (by rw[List.length_map];omega)]
       have e:app z x=z++[x]:=if_neg hm
       rw[e,List.map_append];rfl
    | false =>
      have hg':((cD x).2==(0:Int))=false:=hg
      rw[hg',cond_false]
      rfl
   ·intro z k' _
    dsimp only[U4]
    rw[Zu (by omega),cond_false]
   ·rw[AdH]
  ·unfold eU
   have e: ∀(l:List (Bs×Bs)) (a:List Bs),l.foldl (fun s q=>s++[q.1,q.2]) a=a++Uo l:=by
     intro l
     induction l with
     | nil=>intro a;exact(List.append_nil a).symm
     | cons q r ih=>intro a;rw[List.foldl_cons,ih,List.append_assoc];rfl
   rw[e]
theorem Ajr {N:Nat} (hN:N=2097152) {b:Ej} (h:Kn b):Ju N b=some (xE b):=by
  obtain⟨n1,n2,n3⟩:=h.n
  unfold Ju;try simp -zeta only[Ap]
  refine(NZ (S:=List Bs) (fun i z=>(i,ones (SK z),z.map fun s=>(lD s).1)) b.2.1 ([]:Bs) (stepG lG) (fun z=>some (z.map fun s=>(lD s).1)) (fun i z=>z.length<=i/\i<=100) ?_ ?_ N [] ⟨by simp,by omega⟩ (by omega)).trans ?_
  ·intro i z k' hi ⟨hz,_⟩
   have hd:=ArG (h.l _ (getD_mem ([]:Bs) hi))
   rw[<- hN]at hd
   have hst:=AgY lG z (b.2.1.getD i [])
   dsimp only[U3]
   rw[Int.toNat_natCast,Zv (by omega),cond_true,Zt (by omega),EK,EK,hd,DL]
   refine⟨?_,by omega,by omega⟩
   generalize hx:b.2.1.getD i ([]:Bs)=x at hd ⊢
   rw[w64 (by omega) (by omega)]
   unfold stepG
   cases hg:lG x with
   | true =>
     have hg':((lD x).2==(0:Int))=true:=hg
     rw[hg',cond_true,EK,EK,EK,kU,DL]
     dsimp only
     rw[cond_true,EK,EK,cond_true,AbI,if_pos rfl]
     by_cases hm:x∈z
     ·rw[show decide ((x,([]:Bs))∉SK z)=false by simp [Nv,hm],cond_false]
      have e:app z x=z:=if_pos hm
      rw[e]
     ·rw[show decide ((x,([]:Bs))∉SK z)=true by simp [Nv,hm],cond_true,EU,if_pos (by rw[List.length_map];omega)]
      have e:app z x=z++[x]:=if_neg hm
      rw[e,List.map_append];rfl
   | false =>
     have hg':((lD x).2==(0:Int))=false:=hg
     rw[hg',cond_false]
     rfl
  ·intro z k' _
   dsimp only[U3]
   rw[Zu (by omega),cond_false]
  ·rw[AdH];rfl
def mer (b:Ej):Ej:=(dd [] b.1,dd [] b.2.1,dd [] b.2.2)
theorem Aj3 {b:Ej} (h:Kn b):Kn (mer b):=by
  obtain⟨n1,n2,n3⟩:=h.n
  have m1:=fM b.1 []
  have m2:=fM b.2.1 []
  have m3:=fM b.2.2 []
  simp only[List.length_nil,Nat.zero_add]at m1 m2 m3
  refine⟨⟨Nat.le_trans m1 n1,Nat.le_trans m2 n2,Nat.le_trans m3 n3⟩,fun s hs=> ?_,fun s hs=> ?_,fun q hq=> ?_⟩
  ·exact h.c s ((vT _ hs).resolve_left (by simp))
  ·exact h.l s ((vT _ hs).resolve_left (by simp))
  ·exact h.p q ((vT _ hq).resolve_left (by simp))
theorem Small.up {n m:Nat} {b:Ej} (h:Small n b) (hm:n<=m):Small m b:=⟨AiV h.c hm,AiV h.l hm,Nat.le_trans h.p.1 hm,h.p.2⟩
theorem Apx {N:Nat} (hN:N=2097152) {b:Ej} (h:Mad b):KH N [b,b]=some (mer b,0):=by
  have S:=h.small.up (show 3<=100 by omega)
  have hk:=Aj3 h.kn
  have e:mgs [b,b]=mer b:=by
    show(dd (dd [] b.1) b.1,dd (dd [] b.2.1) b.2.1,dd (dd [] b.2.2) b.2.2)=_
    rw[Acg,Acg,Acg];rfl
  rw[AoK N hN [b,b] (by simp) (fun x hx=>by
    simp only[List.mem_cons,List.not_mem_nil,or_false,or_self]at hx
    rw[hx];exact S)]
  unfold Aj4
  rw[e,Ag1 (by have:=hk.n;omega) hk.c hk.l hk.p]
  rfl
theorem An8 (b:Ej):eU (mer b)=eU b:=congrArg (List.map fun s=>(cD s).1) (Ab9 cG b.1 b.2.2)
theorem Aoq (b:Ej):xE (mer b)=xE b:=congrArg (List.map fun s=>(lD s).1) (Akb lG b.2.1)
theorem AdF (g:Bs->Bool) (l:List Bs):(dd [] (l.filter g)).length<=l.length:=by
  have:=fM (l.filter g) []
  have:=List.length_filter_le g l
  simp only[List.length_nil,Nat.zero_add]at *
  omega
theorem Aoa (p:List (Bs×Bs)):(Uo p).length=2*p.length:=by
  unfold Uo
  induction p with
  | nil=>rfl
  | cons q r ih=>rw[List.flatMap_cons,List.length_append,ih,List.length_cons];simp;omega
theorem Aqg:OX 2097152=some true:=by kernel_rfl
theorem Aku {N:Nat} {L:List Int} {b m:Ej} {d d':List Int×Int} {s:Bs} {C:KG} {K:Tz} (h0:PZ N L=some d) (h1:Oa N d=some (b,d')) (h2:IU N b=some (s,0)) (h3:JC N s=some (b,0)) (h4:Ip N b b=some true)
    (h5:KH N [b,b]=some (m,0)) (h6:FK N b=some C) (h7:FK N m=some C) (h8:Ju N b=some K) (h9:Ju N m=some K) (hC:C.length<N) (hK:K.length<N) (hN:N<=9000000000) (haw:OX N=some true):G8 N L=some true:=by
  unfold G8;try simp -zeta only[Ap]
  rw[h0,DL,h1,DL]
  dsimp only
  rw[h2,DL]
  dsimp only
  rw[h3,DL]
  dsimp only
  rw[h4]
  simp (decide:=true) only[Option.isSome_some,Option.getD_some,bne_self_eq_false,cond_true,cond_false,EK,Bool.not_true,Bool.not_false,Bool.or_true,Bool.true_or,Bool.or_false]
  rw[h5,DL,h6,DL]
  dsimp only
  rw[h7,DL,h8,DL,h9,DL]
  simp (decide:=true) only[bne_self_eq_false,cond_true,cond_false,EK,Bool.not_true,Bool.not_false,Bool.or_true,Bool.true_or,Bool.or_false]
  refine AjG (fun i=>(i:Int)) C.length (some true) ?_ ?_ N hC
  ·intro i hi k
   rw[Zv (by omega),cond_true,Zt (by omega),EK,EK,EK,EK,beq_self_eq_true,Bool.not_true,cond_false,w64 (by omega) (by omega)]
   rfl
  ·intro k
   rw[Zu (by omega),cond_false]
   refine AjG (fun i=>(i:Int)) K.length (some true) ?_ ?_ N hK
   ·intro i hi k
    rw[Zv (by omega),cond_true,Zt (by omega),EK,EK,EK,EK,beq_self_eq_true,Bool.not_true,cond_false,w64 (by omega) (by omega)]
    rfl
   ·intro k
    rw[Zu (by omega),cond_false,haw]
    rfl
theorem AlG {N:Nat} (hN:N=2097152) (haw:OX N=some true) (L:List Int) (hL:L.length<=9223372036854775807) (hm: ∃(b:Ej) (d':List Int×Int),Oa N (L,0)=some (b,d')/\Mad b):G8 N L=some true:=by
  obtain⟨b,d',h1,hb⟩:=hm
  have hk:=hb.kn
  obtain⟨n1,n2,n3⟩:=hk.n
  have hs:=Ahb N b ⟨by omega,by omega,by omega⟩ ⟨by omega,by omega,by omega⟩
  have c2:=Ai6 hN (Aj3 hk)
  have l2:=Ajr hN (Aj3 hk)
  rw[An8]at c2
  rw[Aoq]at l2
  have hC:(eU b).length<=9:=by
    have:=AdF cG (b.1++Uo b.2.2)
    rw[List.length_append,Aoa]at this
    unfold eU
    rw[List.length_map];omega
  have hK:(xE b).length<=3:=by
    have:=AdF lG b.2.1
    unfold xE
    rw[List.length_map];omega
  exact Aku (d:=(L,0)) rfl h1 (Arb hN hb) (Ara hN hb) hs (Apx hN hb) (Ai6 hN hk) c2 (Ajr hN hk) l2 (by omega) (by omega) (by omega) haw
theorem AlH (L:List Int) (hL:L.length<=9223372036854775807):G8 2097152 L=some true:=by
  obtain⟨b,d',h1,hb,_⟩:=Aqx hL (d:=(L,0)) ⟨0,rfl,Nat.zero_le _⟩
  exact AlG rfl Aqg L hL ⟨b,d',h1,hb⟩
end Go.Proofs.YtbnphelpndnnfabGreatDoor.Pl
namespace Go.Proofs.YtbnphelpndnnfabGreatDoor.Vm
open Go.RowKit
theorem Moves.below {T:Nat->Prop} {w w':World} (h:Moves (fun _ _=>none) T w w'):Below w.heap.size w w' :=
  ⟨h.os,h.tape,h.output,h.size,fun b hb=>by
    rcases h.blk b hb with e | ⟨c,c',e,fr,_,_,_,_,k,o,_,ho,_⟩ | ⟨_,_,_,_,o,_,_,ho,_⟩
    ·exact e
    ·cases ho
    ·cases ho⟩
theorem Sig.Asd {Dv DI:List Sh} {f:ShT Dv->Option (ShT (FO Dv DI))} {xs:List A} {a:ShT Dv} {o:ShT (FO Dv DI)} (hd:TS Dv xs=some a) (hf:f a=some o):(Sig.of Dv DI f).F xs=some (encs (FO Dv DI) o):=by
  unfold Sig.F Sig.of
  dsimp only
  rw[hd]
  dsimp only
  rw[hf]
  rfl
theorem Aop {P:Program} {f:FuncId} {sg:Sig} (h:Spec P f sg) {xs:List A} {vs:Array Value} {W:World} (hF:sg.F xs=some [.bool true]) (hress:sg.DI=[.cell false .bool]) (hv:vs.size=xs.length) (hl:xs.length=sg.Dv.length) (h100:xs.length<=100)
    (hx: ∀ j,j<xs.length->IR (fun _ _=>none) W (256*j) (vs.getD j undef) (xs.getD j .undef)) (hI:Inv (fun _ _=>none) W):Calls P f vs W fun e w'=>e= .returned (.bool true)/\Below W.heap.size W w':=by
  refine(h.2 (fun _ _=>none) W vs xs _ hI hv hl h100 hx hF).mono fun e w' hq=> ?_
  obtain⟨v,O',he,hc⟩:=hq
  obtain⟨us,h1,h2,h3⟩:=hc.res
  rw[hress]at h1
  have h1':us.size=1:=h1
  have h4:D6 O' w' (us.getD 0 undef) (.bool true):=h3 0 (by omega)
  have h5:us.getD 0 undef= .bool true:=by
    generalize us.getD 0 undef=z at h4
    cases h4;rfl
  have h6:v= .bool true:=by
    rw[h2,dif_pos h1',<- h5]
    simp [Array.getD_eq_getD_getElem?,h1']
  exact⟨by rw[he,h6],hc.moves.below⟩
open Go.ChangeShapes Go.WideShapes
def nobody:Own:=fun _ _=>none
def Ap0:A->Prop
  | .int k n=>k.min<=n/\n<=k.max
  | .str s=>s.length<=9223372036854775807
  | _=>True
def okN:Nat->A->Prop
  | 0,_=>False
  | n+1,.sl l=>l.xs.length<=9223372036854775807/\ ∀ c∈l.es,∀ a∈c,okN n a
  | _+1,a=>Ap0 a
structure Opened (n:Nat) (w:World) (ks:List CK) (cs:List Value) (aa:List A):Prop where
  lc:cs.length=ks.length
  la:aa.length=ks.length
  rel: ∀ j,j<ks.length->D6 nobody w (cs.getD j undef) (aa.getD j .undef)
  made:((tyl ks).mk aa).1=true
  ok: ∀ a∈aa,okN n a
theorem Arq: ∀(n:Nat) (a:A),okN n a->okN (n+1) a:=by
  intro n
  induction n with
  | zero=>intro a h;exact h.elim
  | succ n ih =>
    intro a h
    cases a<;>first | exact h | exact⟨h.1,fun c hc z hz=>ih z (h.2 c hc z hz)⟩
theorem Opened.up {n:Nat} {w:World} {ks:List CK} {cs:List Value} {aa:List A} (h:Opened n w ks cs aa):Opened (n+1) w ks cs aa:=⟨h.lc,h.la,h.rel,h.made,fun a ha=>Arq n a (h.ok a ha)⟩
theorem Aou: ∀(a:List CK) {b:List CK} {x y:List A},((tyl a).mk x).1=true->((tyl b).mk y).1=true->((tyl (a++b)).mk (x++y)).1=true:=by
  intro a
  induction a with
  | nil =>
    intro b x y hx hy
    cases x with
    | nil=>exact hy
    | cons _ _=>cases hx
  | cons k a ih =>
    intro b x y hx hy
    cases k with
    | bool =>
      cases x with
      | nil=>cases hx
      | cons c x=>cases c<;>first | exact ih (x:=x) hx hy | cases hx
    | int k =>
      cases x with
      | nil=>cases hx
      | cons c x =>
        cases c<;>first
          | (simp only[tyl,Ty.mk,Bool.and_eq_true]at hx
             simp only[List.cons_append,tyl,Ty.mk,Bool.and_eq_true]
             exact⟨hx.1,ih hx.2 hy⟩)
          | cases hx
    | str =>
      cases x with
      | nil=>cases hx
      | cons c x=>cases c<;>first | exact ih (x:=x) hx hy | cases hx
    | sl e t =>
      cases x with
      | nil=>cases hx
      | cons c x =>
        cases c with
        | sl l =>
          simp only[tyl,Ty.mk]at hx
          simp only[List.cons_append,tyl,Ty.mk]
          cases hc:l.cast t with
          | none=>rw[hc]at hx;cases hx
          | some xs=>rw[hc]at hx;exact ih (x:=x) hx hy
        | _=>cases hx
    | sln e t =>
      cases x with
      | nil=>cases hx
      | cons c x =>
        cases c with
        | sl l =>
          simp only[tyl,Ty.mk]at hx
          simp only[List.cons_append,tyl,Ty.mk]
          cases hc:l.cast t with
          | none=>rw[hc]at hx;cases hx
          | some xs=>rw[hc]at hx;exact ih (x:=x) hx hy
        | _=>cases hx
    | ptr =>
      cases x with
      | nil=>cases hx
      | cons c x=>cases c<;>first | exact ih (x:=x) hx hy | cases hx
    | fn =>
      cases x with
      | nil=>cases hx
      | cons c x=>cases c<;>first | exact ih (x:=x) hx hy | cases hx
    | mp kt vt =>
      cases x with
      | nil=>cases hx
      | cons c x =>
        cases c with
        | ump l =>
          simp only[tyl,Ty.mk]at hx
          simp only[List.cons_append,tyl,Ty.mk]
          cases hc:l.cast kt vt with
          | none=>rw[hc]at hx;cases hx
          | some xs=>rw[hc]at hx;exact ih (x:=x) hx hy
        | _=>cases hx
    | bx t =>
      cases x with
      | nil=>cases hx
      | cons c x =>
        cases c with
        | sl l =>
          simp only[tyl,Ty.mk]at hx
          simp only[List.cons_append,tyl,Ty.mk]
          cases hc:l.cast t with
          | none=>rw[hc]at hx;cases hx
          | some xs=>rw[hc]at hx;exact ih (x:=x) hx hy
        | _=>cases hx
    | oth =>
      cases x with
      | nil=>cases hx
      | cons c x=>cases c<;>first | exact ih (x:=x) hx hy | cases hx
theorem Opened.nil {n:Nat} {w:World}:Opened n w [] [] []:=⟨rfl,rfl,fun j hj=>absurd hj (Nat.not_lt_zero j),rfl,fun a ha=>(by cases ha)⟩
theorem Opened.append {n:Nat} {w:World} {a b:List CK} {x y:List Value} {p q:List A} (h1:Opened n w a x p) (h2:Opened n w b y q):Opened n w (a++b) (x++y) (p++q):=by
  refine⟨by simp [h1.lc,h2.lc],by simp [h1.la,h2.la],fun j hj=> ?_,Aou a h1.made h2.made,fun z hz=> ?_⟩
  ·rw[List.length_append]at hj
   by_cases h:j<a.length
   ·have:=h1.rel j h
    rw[List.getD_eq_getElem?_getD,List.getElem?_append_left (by rw[h1.lc];exact h),<- List.getD_eq_getElem?_getD,List.getD_eq_getElem?_getD (l:=p++q),List.getElem?_append_left (by rw[h1.la];exact h),<- List.getD_eq_getElem?_getD]
    exact this
   ·have:=h2.rel (j - a.length) (by omega)
    rw[List.getD_eq_getElem?_getD,List.getElem?_append_right (by rw[h1.lc];omega),<- List.getD_eq_getElem?_getD,List.getD_eq_getElem?_getD (l:=p++q),List.getElem?_append_right (by rw[h1.la];omega),<- List.getD_eq_getElem?_getD,h1.lc,h1.la]
    exact this
  ·rcases List.mem_append.1 hz with hz | hz
   ·exact h1.ok z hz
   ·exact h2.ok z hz
theorem Opened.one {n:Nat} {w:World} {k:CK} {v:Value} {a:A} (hr:D6 nobody w v a) (hm:((tyl [k]).mk [a]).1=true) (ho:okN n a):Opened n w [k] [v] [a] :=
  ⟨rfl,rfl,fun j hj=>by
    have:j=0:=by simp at hj;omega
    subst this;exact hr,hm,fun z hz=>by rw[List.mem_singleton.1 hz];exact ho⟩
def Ug (P:Program) (n t:Nat):Nat:=match GX P n t with | some cs=>cs.length | none=>0
def Aeq (P:Program) (n:Nat):List Field->Nat->Bool
  | [],_=>true
  | f::r,o=>Nat.beq f.offset o&&Nat.beq (P.cellsOf f.type) (Ug P n f.type)&&Aeq P n r (o+Ug P n f.type)
def iD (P:Program):Nat->Nat->Bool
  | 0,_=>false
  | n+1,t=>match P.underlying t with
    | some .bool=>true
    | some (.int _)=>true
    | some .string=>true
    | some (.slice e)=>iD P n e&&Nat.beq (P.cellsOf e) (Ug P n e)&&Nat.blt 0 (Ug P n e)&&(match GX P n e with | some cs=>cs.all CK.plain | none=>false)
    | some (.struct fs)=>Nat.beq (P.cellsOf t) (Ug P (n+1) t)&&Aeq P n fs.toList 0&&fs.toList.all (fun f=>iD P n f.type)
    | _=>false
section
variable {H:Type} {enc:TypeId×Value->H} {P:Program} {w:World} {base:Nat} {spare:Nat->Bool} {held:Bool}
theorem tY {a:Addr} {n:Nat} {cs:List Value} (h:w.cells? base a n=some cs):cs.length=n/\ ∀ j,j<n->w.cell? (a.add j)=some (cs.getD j undef):=by
  unfold World.cells? at h
  split at h
  ·have key: ∀(l:List Nat) (cs:List Value),l.mapM (fun i=>w.cell? (a.add i))=some cs->cs.length=l.length/\ ∀ j (hj:j<l.length),w.cell? (a.add l[j])=some (cs.getD j undef):=by
     intro l
     induction l with
     | nil=>grind
     | cons i l ih =>
       intro cs h
       rw[List.mapM_cons]at h
       cases h1:w.cell? (a.add i)with
       | none=>rw[h1]at h;cases h
       | some v =>
         rw[h1]at h
         cases h2:l.mapM (fun i=>w.cell? (a.add i))with
         | none=>rw[h2]at h;cases h
         | some r =>
           rw[h2]at h
           injection h with h
           subst h
           obtain⟨k1,k2⟩:=ih r h2
           refine⟨by simp [k1],fun j hj=> ?_⟩
           cases j with
           | zero=>exact h1
           | succ j=>grind
   all_goals grind
  ·cases h
theorem ApF {l:List Value} {o a b:Nat}:(l.drop o).take (a+b)=(l.drop o).take a++(l.drop (o+a)).take b:=by
  rw[List.take_add,List.drop_drop]
theorem nR (e:Nat) (t:Ty) (xs:List t.Val):((tyl [.sl e t]).mk [.sl ⟨t,xs⟩]).1=true:=by
  simp only[tyl,Ty.mk]
  rw[Sl.UF]
  rfl
theorem Alk (hspare: ∀ b,spare b=true): ∀(n:Nat) (t:TypeId) (ks:List CK) (fuel:Nat) (cs:List Value) (x:DataW H×List MemPlace),GX P n t=some ks->iD P n t=true->DataW.trod enc P w base spare held fuel t cs=some x ->
    ∃ aa,Opened n w ks cs aa:=by
  intro n
  induction n with
  | zero=>intro t ks fuel cs x h;cases h
  | succ n ih =>
    intro t ks fuel cs x hck hok h
    unfold GX at hck
    unfold iD at hok
    cases hu:P.underlying t with
    | none=>rw[hu]at hck;cases hck
    | some d =>
      rw[hu]at hck hok
      cases d with
      | bool =>
        injection hck with hck
        subst hck
        obtain⟨b,rfl,_⟩:=DataW.trod_bool hu h
        exact⟨[.bool b],Opened.one (.bool b) rfl trivial⟩
      | int k =>
        injection hck with hck
        subst hck
        obtain⟨v,rfl,_,hw⟩:=DataW.trod_int hu h
        have hk:Ap0 (.int k v):=by
          unfold Lit.wf at hw
          rw[Bool.and_eq_true,decide_eq_true_eq,decide_eq_true_eq]at hw
          exact hw
        exact⟨[.int k v],Opened.one (.int k v) (by cases k<;>rfl) hk⟩
      | string =>
        injection hck with hck
        subst hck
        obtain⟨v,rfl,_,hw⟩:=DataW.trod_string hu h
        have hk:Ap0 (.str v.data.toList):=by
          show v.data.toList.length<=_
          have e:v.data.toList.length=v.size:=by rw[Array.length_toList];rfl
          have:maxLen=9223372036854775807:=rfl
          omega
        exact⟨[.str v.data.toList],Opened.one (.str v) rfl hk⟩
      | slice e =>
        dsimp only at hck hok
        simp only[Bool.and_eq_true]at hok
        obtain⟨⟨⟨hoe,hce⟩,hc0⟩,hpl⟩:=hok
        cases hke:GX P n e with
        | none=>rw[hke]at hpl;cases hpl
        | some ke =>
          rw[hke]at hck hpl
          dsimp only at hck hpl
          rw[hpl]at hck
          injection hck with hck
          subst hck
          have hlen:P.cellsOf e=ke.length:=by
            have:=Nat.eq_of_beq_eq_true hce
            unfold Ug at this
            rw[hke]at this;exact this
          rcases DataW.trod_slice hu h with ⟨rfl,_⟩ | ⟨a,len,cap,elems,rest,m,_,rfl,_,hb,hl,hm,hel,hels,hsp,_⟩
          ·exact⟨[.sl ⟨tyl ke,[]⟩],Opened.one (.nil _) (nR _ _ _) ⟨Nat.zero_le _,fun c hc=>(by cases hc)⟩⟩
          ·by_cases hcap:cap=0
           ·have hlen0:len=0:=by omega
            subst hcap
            subst hlen0
            exact⟨[.sl ⟨tyl ke,[]⟩],Opened.one (.sl0 a _) (nR _ _ _) ⟨Nat.zero_le _,fun c hc=>(by cases hc)⟩⟩
           have hk0:0<P.cellsOf e:=by
             have h2:=Nat.eq_of_beq_eq_true hce
             rw[h2]
             simpa using hc0
           have hread: ∃ u,w.cell? a=some u:=by
             by_cases h0:0<len
             ·have he:=hels 0 h0
              rw[List.getElem?_eq_getElem (by omega:0<elems.length),Option.bind_eq_some_iff]at he
              obtain⟨q,hq,_⟩:=he
              obtain⟨_,k2⟩:=tY hq
              have:=k2 0 hk0
              rw[Nat.zero_mul]at this
              exact⟨_,this⟩
             ·have hz:len=0:=by omega
              obtain⟨hr1,hr2⟩:=hsp (hspare _)
              have he:=hr2 0 (by omega)
              rw[List.getElem?_eq_getElem (by omega:0<rest.length),Option.bind_eq_some_iff]at he
              obtain⟨q,hq,_⟩:=he
              obtain⟨_,k2⟩:=tY hq
              have:=k2 0 hk0
              rw[hz,Nat.zero_mul]at this
              exact⟨_,this⟩
           have hspot:a.spot=none:=by
             obtain⟨u,hu⟩:=hread
             unfold World.cell? at hu
             split at hu
             ·cases hs:a.spot with
              | none=>rfl
              | some z=>rw[hs]at hu;cases hu
             ·cases hu
           have ha:a=at' a.block a.off:=by
             obtain⟨b,o,sp⟩:=a
             dsimp only at hspot
             rw[hspot]
           have each: ∀ i,∃(q:List Value) (aa:List A),i<len->(∀ j,j<ke.length->w.cell? (at' a.block (a.off+(i*ke.length+j)))=some (q.getD j undef))/\Opened n w ke q aa:=by
             intro i
             by_cases hi:i<len
             ·have he:=hels i hi
              have hei:elems[i]? =some (elems[i]'(by omega)):=List.getElem?_eq_getElem (by omega)
              rw[hei,Option.bind_eq_some_iff]at he
              obtain⟨q,hq,hq2⟩:=he
              obtain⟨k1,k2⟩:=tY hq
              rw[hlen]at k1 k2
              obtain⟨aa,h1⟩:=ih e ke m q _ hke hoe hq2
              refine⟨q,aa,fun _=>⟨fun j hj=> ?_,h1⟩⟩
              have:=k2 j hj
              rw[ha,JI,JI]at this
              rw[<- this];congr 2;omega
             ·exact⟨[],[],fun h=>absurd h hi⟩
           obtain⟨q,hq⟩:=Classical.axiomOfChoice each
           obtain⟨aa,haa⟩:=Classical.axiomOfChoice hq
           let l:Sl:=⟨tyl ke,(List.range len).map fun i=>((tyl ke).mk (aa i)).2⟩
           have hes:l.es=(List.range len).map aa:=by
             show((List.range len).map fun i=>((tyl ke).mk (aa i)).2).map (tyl ke).cells=_
             rw[List.map_map]
             refine List.map_congr_left fun i hi=> ?_
             exact Ty.Ny _ _ (haa i (List.mem_range.1 hi)).2.made
           have hesl:l.es.length=len:=by rw[hes,List.length_map,List.length_range]
           have hsz:l.sz=ke.length:=Oo ke
           have hget: ∀ i,i<len->l.es.getD i []=aa i:=fun i hi=>by
             rw[hes,List.getD_eq_getElem?_getD,List.getElem?_map,List.getElem?_range hi];rfl
           have hrel:D6 nobody w (.slice (some a) len cap) (.sl l):=by
             rw[ha,<- hesl]
             refine D6.sl (fun i j=>(q i).getD j undef) (by rw[hesl];exact hl) (fun i j hi hj=> ?_) (fun i j hi hj=> ?_)
             ·rw[hsz]at hj ⊢
              exact⟨rfl,(haa i (by rw[<- hesl];exact hi)).1 j hj⟩
             ·rw[hsz]at hj
              have hi':i<len:=by rw[<- hesl];exact hi
              rw[hget i hi']
              exact(haa i hi').2.rel j hj
           refine⟨[.sl l],Opened.one hrel (nR _ _ _) ⟨?_,fun c hc z hz=> ?_⟩⟩
           ·show((List.range len).map _).length<=_
            rw[List.length_map,List.length_range]
            have:maxLen=9223372036854775807:=rfl
            omega
           ·rw[hes]at hc
            obtain⟨i,hi,rfl⟩:=List.mem_map.1 hc
            exact(haa i (List.mem_range.1 hi)).2.ok z hz
      | struct fs =>
        dsimp only at hck hok
        simp only[Bool.and_eq_true]at hok
        obtain⟨⟨hcl,hoff⟩,hall⟩:=hok
        obtain⟨xs,m,_,_,hl,hxl,hxs⟩:=DataW.trod_struct hu h
        have fields: ∀(l:List Field) (o:Nat) (ks:List CK),l.foldr (fun f acc=>match GX P n f.type,acc with | some a,some b=>some (a++b) | _,_=>none) (some [])=some ks->Aeq P n l o=true->(∀ f∈l,iD P n f.type=true) ->
            (∀ f∈l,∃ y,DataW.trod enc P w base spare held m f.type ((cs.drop f.offset).take (P.cellsOf f.type))=some y)-> ∃ aa,Opened n w ks ((cs.drop o).take ks.length) aa:=by
          intro l
          induction l with
          | nil =>
            intro o ks hk _ _ _
            injection hk with hk
            subst hk
            exact⟨[],Opened.nil⟩
          | cons f r ihr =>
            intro o ks hk ho hf hy
            rw[List.foldr_cons]at hk
            cases ha:GX P n f.type with
            | none=>rw[ha]at hk;cases hk
            | some a =>
              rw[ha]at hk
              cases hb:r.foldr (fun f acc=>match GX P n f.type,acc with | some a,some b=>some (a++b) | _,_=>none) (some [])with
              | none=>rw[hb]at hk;cases hk
              | some b =>
                rw[hb]at hk
                injection hk with hk
                subst hk
                have hal:Ug P n f.type=a.length:=by unfold Ug;rw[ha]
                unfold Aeq at ho
                simp only[Bool.and_eq_true]at ho
                obtain⟨⟨h1,h2⟩,h3⟩:=ho
                have h1:=Nat.eq_of_beq_eq_true h1
                have h2:=Nat.eq_of_beq_eq_true h2
                rw[hal]at h2 h3
                obtain⟨y,hy1⟩:=hy f List.mem_cons_self
                rw[h1,h2]at hy1
                obtain⟨pa,p1⟩:=ih f.type a m _ y ha (hf f List.mem_cons_self) hy1
                obtain⟨pb,q1⟩:=ihr (o+a.length) b hb h3 (fun g hg=>hf g (List.mem_cons_of_mem _ hg)) (fun g hg=>hy g (List.mem_cons_of_mem _ hg))
                refine⟨pa++pb,?_⟩
                rw[List.length_append,ApF]
                exact p1.append q1
        obtain⟨aa,h1⟩:=fields fs.toList 0 ks hck hoff (fun f hf=>List.all_eq_true.1 hall f hf) (fun f hf=>by
          obtain⟨i,hi⟩:=List.getElem?_of_mem hf
          have hi':fs[i]? =some f:=by rw[<- Array.getElem?_toList];exact hi
          have:=hxs i f hi'
          have hlt:i<xs.length:=by
            rw[hxl]
            exact(Array.getElem?_eq_some_iff.1 hi').1
          rw[List.getElem?_eq_getElem hlt]at this
          exact⟨_,this⟩)
        have hcs:(cs.drop 0).take ks.length=cs:=by
          rw[List.drop_zero]
          refine List.take_of_length_le ?_
          have h3:=Nat.eq_of_beq_eq_true hcl
          have h4:Ug P (n+1) t=ks.length:=by
            unfold Ug GX
            rw[hu]
            dsimp only
            rw[hck]
          omega
        rw[hcs]at h1
        exact⟨aa,h1.up⟩
      | _=>cases hok
theorem AlU {r:Reach} {b0:Nat} {u:TypeId} {cs:Array Value} (h:Cell.okWide P w r b0 u (.agg cs)):False:=by
  have h':Cell.ok P w r b0 u (.agg cs):=by
    unfold Cell.okWide at h
    all_goals grind
  unfold Cell.ok at h'
  all_goals grind
def AqK (P:Program) (t:TypeId):Bool:=match P.underlying t with
  | some (.struct _)=>true
  | some (.array _ _)=>true
  | _=>false
theorem open_cell {r:Reach} {b0 n:Nat} {t:TypeId} {v:Value} {d:DataW H} {ps:List MemPlace} {k:CK} (hck:GX P n t=some [k]) (hspare: ∀ b,spare b=true) (hok:iD P n t=true) (ha:AqK P t=false) (hval:Value.okWide P w r b0 t v) (hd:DataW.Trod enc P w base spare held t v d ps) :
    ∃ a,D6 nobody w v a/\((tyl [k]).mk [a]).1=true/\okN n a:=by
  have hc:Cell.okWide P w r b0 t v:=by
    unfold Value.okWide at hval
    all_goals grind[AqK]
  have hcells:v.cells.toList=[v]:=by
    cases v with
    | agg cs=>exact(AlU hc).elim
    | _=>rfl
  obtain⟨fuel,h⟩:=hd
  rw[hcells]at h
  obtain⟨aa,h1⟩:=Alk hspare n t [k] fuel [v] _ hck hok h
  obtain⟨a,rfl⟩: ∃ a,aa=[a]:=List.length_eq_one_iff.1 h1.la
  exact⟨a,h1.rel 0 (by show 0<1;omega),h1.made,h1.ok a List.mem_cons_self⟩
theorem Opened.ir {n:Nat} {ks:List CK} {cs:Array Value} {aa:List A} (h:Opened n w ks cs.toList aa) (id:Nat):IR nobody w id (.agg cs) (.agg aa):=by
  refine⟨cs,rfl,?_,fun j hj=>D6.ic ?_⟩
  ·rw[<- Array.length_toList,h.lc,h.la]
  ·have:=h.rel j (by rw[<- h.la];exact hj)
   all_goals simp_all[CK,IR,nobody]
theorem D6.ir {id:Nat} {v:Value} {a:A} (h:D6 nobody w v a):IR nobody w id v a:=by
  have:=h.ic (id:=id)
  cases h<;>exact this
end
end Go.Proofs.YtbnphelpndnnfabGreatDoor.Vm
namespace Go.Proofs.YtbnphelpndnnfabGreatDoor.Vm
open Go Go.Lib
abbrev tabs:List (String×DataW Unit):=[("math/bits.deBruijn32tab",Rows.laid_math_bits_deBruijn32tab),("math/bits.deBruijn64tab",Rows.laid_math_bits_deBruijn64tab),("internal/strconv.uint64pow10",Rows.laid_internal_strconv_uint64pow10),("unicode/utf8.acceptRanges",Rows.laid_unicode_utf8_acceptRanges),("certpath/date.lengths",Rows.laid_certpath_date_lengths),("unicode/utf8.first",Rows.laid_unicode_utf8_first)]
def Asb:DataW Unit->Value
  | .lit (.int k n)=>.int k n
  | _=>undef
def Agr:DataW Unit->List Value
  | .agg l=>l.map Asb
  | _=>[]
def Ase:DataW Unit->List Value
  | .agg l=>l.flatMap Agr
  | _=>[]
noncomputable def laidWorld (os:Os):World :=
  let w0:=World.holding Tryz.prog os ⟨#[],#[],[]⟩
  {w0 with heap:=(((((w0.heap.modify 2 fun
     | .cells _ t frozen=>.cells (Agr Rows.laid_internal_strconv_uint64pow10).toArray t frozen
     | o=>o).modify 3 fun
     | .cells _ t frozen=>.cells (Agr Rows.laid_unicode_utf8_first).toArray t frozen
     | o=>o).modify 4 fun
     | .cells _ t frozen=>.cells (Ase Rows.laid_unicode_utf8_acceptRanges).toArray t frozen
     | o=>o).modify 5 fun
     | .cells _ t frozen=>.cells (Agr Rows.laid_math_bits_deBruijn32tab).toArray t frozen
     | o=>o).modify 0 fun
     | .cells _ t frozen=>.cells (Agr Rows.laid_certpath_date_lengths).toArray t frozen
     | o=>o).modify 6 fun
     | .cells _ t frozen=>.cells (Agr Rows.laid_math_bits_deBruijn64tab).toArray t frozen
     | o=>o}
theorem laid_met (os:Os) (args:Array Value):laidMet Tryz.prog tabs ((laidWorld os).forCall (fun _ _=>0) ⟨#[],args,[]⟩).memory :=
  laidMet_of_run' 8 (by kernel_rfl) (by kernel_rfl)
set_option maxRecDepth 1000000 in
theorem Aiy {W:World} (h:laidMet Tryz.prog tabs W) {nm:String} {D:DataW Unit} (hm:(nm,D)∈tabs) {g tA tE n:Nat} {k:IntKind} {f:Nat->Int} (hg0:Tryz.prog.globalNamed nm=some g) (ht0:(Tryz.prog.globals[g]?).map (·.type)=some tA) (hu:Tryz.prog.underlying tA=some (.array n tE)) (hu2:Tryz.prog.underlying tE=some (.int k)) (hc:Tryz.prog.cellsOf tE=1)
    (hds:D= .agg ((List.range n).map fun j=>.lit (.int k (f j)))) (j:Nat) (hj:j<n):W.cell? ⟨g,j,none⟩=some (.int k (f j)):=by
  obtain⟨g',t,cs,fuel,p,hg,ht,hvar,hd⟩:=laidMet.reads h (n:=nm) (d:=D) hm
  obtain rfl:=Option.some.inj (hg0.symm.trans hg)
  obtain rfl:=Option.some.inj (ht0.symm.trans ht)
  rw[hds]at hd
  obtain⟨fuel',d,q,h1,h2⟩:=array_elem hu hd j hj
  rw[List.getElem?_map,List.getElem?_range hj]at h1
  have h1:=Option.some.inj h1
  subst h1
  rw[hc,Nat.mul_one]at h2
  obtain⟨m,h3,h4,_⟩:=DataW.trod_int hu2 h2
  have hn:f j=m:=by
    have:=congrArg Prod.fst h4
    injection this with this
    injection this with _ this
  rw[World.var?_cell hg hvar j]
  have h5:(cs.toList.drop j)[0]? =some (.int k m):=by
    have:((cs.toList.drop j).take 1)[0]? =some (.int k m):=by rw[h3];rfl
    rwa [List.getElem?_take_of_lt (by omega)]at this
  rw[List.getElem?_drop,Nat.add_zero,Array.getElem?_toList]at h5
  rw[h5,hn]
set_option maxRecDepth 1000000 in
theorem Ap3 {W:World} (h:laidMet Tryz.prog tabs W) (j:Nat) (hj:j<20):W.cell? ⟨2,j,none⟩=some (.int .u64 ((10 ^ j:Nat):Int)):=by
  have hds:(Rows.laid_internal_strconv_uint64pow10:DataW Unit)= .agg ((List.range 20).map fun j=>.lit (.int .u64 ((10 ^ j:Nat):Int))):=by kernel_rfl
  have hm:(("internal/strconv.uint64pow10",Rows.laid_internal_strconv_uint64pow10):String×DataW Unit)∈tabs:=List.mem_cons_of_mem _ (List.mem_cons_of_mem _ List.mem_cons_self)
  generalize (Rows.laid_internal_strconv_uint64pow10:DataW Unit)=D at hds hm
  exact Aiy h (nm:= "internal/strconv.uint64pow10") (D:=D) hm (g:=2) (tA:=401) (tE:=281) (n:=20) (k:=.u64) (f:=fun j=>((10 ^ j:Nat):Int)) (by kernel_rfl) (by kernel_rfl) (by kernel_rfl) (by kernel_rfl) (by kernel_rfl) hds j hj
set_option maxRecDepth 1000000 in
theorem Aps {W:World} (h:laidMet Tryz.prog tabs W) (j:Nat) (hj:j<12):W.cell? ⟨0,j,none⟩=some (.int .i64 (([31,28,31,30,31,30,31,31,30,31,30,31]:List Int).getD j 0)) :=
  Aiy h (nm:= "certpath/date.lengths") (D:=Rows.laid_certpath_date_lengths) (List.mem_cons_of_mem _ (List.mem_cons_of_mem _ (List.mem_cons_of_mem _ (List.mem_cons_of_mem _ List.mem_cons_self)))) (g:=0) (tA:=357) (tE:=3) (n:=12) (k:=.i64) (f:=fun j=>([31,28,31,30,31,30,31,31,30,31,30,31]:List Int).getD j 0) (by kernel_rfl) (by kernel_rfl) (by kernel_rfl) (by kernel_rfl) (by kernel_rfl) (by kernel_rfl) j hj
theorem inv_of {W:World} (hs:W.ShapedOpen Tryz.prog) (hl:laidMet Tryz.prog tabs W):Inv nobody W:=by
  refine⟨fun g j p h=> ?_,fun g n h=> ?_⟩
  ·unfold Ank at h
   split at h
   ·injection h with h
    subst h
    obtain⟨m,hm⟩:=cell_of_shapedOpen_int (P:=Tryz.prog) (g:=1) (t:=3) (zero:= #[.int .i64 0]) (k:=.i64) hs (of_decide_eq_true (by kernel_rfl)) (by kernel_rfl) rfl (by kernel_rfl) (by kernel_rfl) (by kernel_rfl)
    exact⟨rfl,_,hm,m,rfl⟩
   ·split at h
    ·rename_i hj
     injection h with h
     subst h
     exact⟨rfl,_,Ap3 hl _ hj,rfl⟩
    ·cases h
   ·unfold zH at h
    split at h
    ·have h:(if j<12 then some (fun v=>v=Value.int .i64 (([31,28,31,30,31,30,31,31,30,31,30,31]:List Int).getD j 0))else none)=some p:=h
     split at h
     ·rename_i hj
      injection h with h
      subst h
      exact⟨rfl,_,Aps hl _ hj,rfl⟩
     ·cases h
    ·cases h
  ·unfold Ar7 at h
   split at h
   ·injection h with h
    subst h
    obtain⟨cs,h1,h2,_⟩:=hs.1 2 (Array.replicate 20 (.int .u64 0)) 401 (of_decide_eq_true (by kernel_rfl)) (by kernel_rfl)
    exact⟨cs,_,_,h1,h2⟩
   ·cases h
section
variable {H:Type} {enc:TypeId×Value->H}
theorem AjZ {a:Assume} {C:Checked} {os:Os} {f:FuncId} {fn:Func} {s:ChangeSpec} {conds:List PathCond} {apart fresh handsOn again:Bool} {X:World->Array Value->Prop}
    (hX: ∀(w w':World) (args:Array Value),w.heap=w'.heap->X w args->X w' args)
    (own:ownKnob C.prog.godebug=none) (started:os.Started) (noInit:C.prog.inits.idxOf? f=none) (hfn:C.prog.funcs[f]? =some fn)
    (witness: ∃(w:World) (tape:Tape) (i:Input),w.os=os/\(w.forCall tape i).Shaped C.prog/\i.vars=[]/\Input.okWide C.prog (w.forCall tape i) .any w.heap.size f i /\
      ((s.pre enc C.prog fn conds apart (w.forCall tape i).memory i.args/\X (w.forCall tape i).memory i.args)/\sizedMet enc C.prog fn (OpenSpec.ofChange s) apart (w.forCall tape i).memory i.args)/\a.holds C.prog (lone (Frame.enter C.prog f i.args .normal) [] (w.forCall tape i)))
    (contract: ∀(W:World) (base:Nat) (args:Array Value) (ds gs:List (DataW H)) (before:List MemPlace),
      (∀(j:Nat) t v,fn.params[j]? =some t->args[j]? =some v->Value.okWide C.prog W .any base t v) ->
      DataW.Whole enc C.prog fn.params.toList s.vars apart W args.toList ds gs before->W.ShapedOpen C.prog->X W args ->
      Calls C.prog f args W fun e W'=> ∃ v,e= .returned v/\s.post enc C.prog fn apart fresh handsOn again W args v W') :
    ReturnsInHanded a C os f .any (fun w args=>(s.pre enc C.prog fn conds apart w args/\X w args)/\sizedMet enc C.prog fn (OpenSpec.ofChange s) apart w args) (s.post enc C.prog fn apart fresh handsOn again):=by
  refine returnsInHanded_of_calls own started noInit witness ?_
  intro w tape i _ hsh _ hok hpre _
  obtain⟨_,_,_,fn',hfn',_,_,_,_,hval⟩:=hok
  obtain rfl:=Option.some.inj (hfn'.symm.trans hfn)
  obtain⟨⟨⟨ds,gs,before,hw,_⟩,hx⟩,_⟩:=hpre
  refine(contract (w.forCall tape i) w.heap.size i.args ds gs before hval (DataW.Whole.of_heap (w':=w.forCall tape i) (by rfl) hw) hsh (hX _ _ _ (by rfl) hx)).mono fun e W' ⟨v,he,hp⟩=> ?_
  subst he
  exact ChangeSpec.post_blind hp
end
