import Derived.Test.YtfgdgdnlglejbaaGreatDoorA20
set_option linter.all false
namespace Go.Proofs.YtfgdgdnlglejbaaGreatDoor.Pl
open IntKind (i64)
open Go Vm
def AsP (M:Nat) (g:Gn):Bool:=Gv (M+300) g true==some 0&&(ES (M+300) g true==some 0&&(Hf (M+300) g true==some (FZ g,0)&&(FD (M+300) g true==some (FZ g,0) &&
 (G7 (M+300) (TW g) true==some (g,0)&&(g.2.2.isEmpty&&(decide ((gnT g).2.length<=40)&&(decide ((gnT g).1<256)&&(decide ((gnT g).1 % 32≠31)&& !Sp.cons (gnT g).1))))))))
theorem Arw (M:Nat):AjZ.all (AsP M)=true:=by kernel_rfl
structure Auy (N:Nat) (g:Gn):Prop where
 chk:Gv N g true=some 0
 Alh:ES N g true=some 0
 enc:Hf N g true=some (FZ g,0)
 jJ:FD N g true=some (FZ g,0)
 dec:G7 N (TW g) true=some (gnK g,0)
 fine:Fine (gnT g)
 len:(gnT g).2.length<=620
 Aod:gnT (gnK g)=gnT g
 okK:okB (gnK g)
 par: ∀ d,d<=6->Par d (FZ g) [TW g]
section
variable {N:Nat} (hN:1048578<N)
include hN
theorem At4 {n:List (List Att)} (hn:okN n):Auy N (4,[],n):=by
 have h1:=Nz hN hn;have h2:=Og hN hn;have h3:=AcC hN hn;have h4:=ZM hN hn;have h5:=AcB hN hn;have hC:=AjC hN hn;have h6:=Nz hN hC;have hl:=Ab0 hN hn;have w:EE N 164 [nmT n]=_:=Apo N 164 [nmT n] (by omega) (by omega) hN (by simp) (by rw[Ez];omega);have v:DR N 164 [nmT n]=_:=MN N 164 [nmT n] (by omega) (by omega) hN (by simp) (by rw[Ez];omega);rw[Ez]at w v
 have c1: ∀ m:List (List Att),G8 N m=some 0->Gv N (4,[],m) true=some 0:=by
  intro m hm;unfold Gv pR;try simp only[clR]
  simp (disch:=first | assumption | omega) only[Et,hm,Option.isSome_some,Option.getD_some];try rfl
 have c2:ES N (4,[],n) true=some 0:=by
  unfold ES;try simp only[clR]
  dsimp only[U4,EJ];simp (disch:=first | assumption | omega) only[Et,h2,Option.isSome_some,Option.getD_some];try rfl
 have hf:Fine (164,nmT n):=(dR (by decide) (by decide) (by omega))
 refine⟨c1 n h1,c2,?_,?_,?_,hf,hl,?_,Or.inr ⟨_,hC,rfl⟩,fun d hd=>Tm hf (by omega) (Ang hN hn (by omega)).nest⟩
 ·unfold Hf;try simp only[clR]
  simp (disch:=first | assumption | omega) only[Et,c1 n h1,h3];show Dk (EE N 164 [nmT n]) _=_;rw[w];rfl
 ·unfold FD;try simp only[clR]
  simp (disch:=first | assumption | omega) only[Et,c2,h4];show Dk (DR N 164 [nmT n]) _=_;rw[v];rfl
 ·have c3:=c1 _ h6;unfold G7;try simp only[clR]
  show _=some ((4,[],nmC n),0);dsimp only[TW,gnT,Gx];simp (disch:=first | assumption | omega) only[Et,h5,c3,o8];try rfl
 ·show(164,nmT (nmC n))=(164,nmT n);unfold nmT;rw[Atd hN hn]
theorem Aoq {g:Gn} (h:okB g):Auy N g:=by
 rcases h with h | ⟨n,hn,rfl⟩
 ·have hh:=h;obtain⟨M,rfl⟩:=ofM hN;have h:=List.all_eq_true.1 (Arw M) g h;unfold AsP at h;simp only[Bool.and_eq_true,beq_iff_eq,decide_eq_true_eq,Bool.not_eq_true',List.isEmpty_iff]at h;obtain⟨h1,h2,h3,h4,h5,h6,h7,h8,h9,h10⟩:=h;have hk:gnK g=g:=by obtain⟨k,s,n⟩:=g;dsimp only at h6;subst h6;rfl
  have hf:Fine (gnT g):=⟨h8,h9,by omega⟩
  exact⟨h1,h2,h3,h4,by rw[hk];exact h5,hf,by omega,by rw[hk],by rw[hk];exact Or.inl hh,fun d hd=>AdN hf (by omega) h10⟩
 ·exact At4 hN hn
theorem AhZ {g:Gn} (h:okB g):(FZ g).length<=625:=by have:=(Aoq hN h).len;have:=Sp.Eb (gnT g).1 (gnT g).2;unfold FZ;omega
end
theorem of0 {o:Option Int} (h:Ends (fun r=>r=0) o):o=some 0:=by obtain⟨v,rfl,rfl⟩:=h;rfl
def AbD (l:List Gn):Bs:=(l.map fun g=>Sp.elem 48 (FZ g)).flatten
def partT (t:Nat) (l:List Gn):Bs:=bif l.isEmpty then []else Sp.elem t (AbD l)
def yU (s:List Gn×List Gn):Bs:=Sp.elem 48 (partT 160 s.1++partT 161 s.2)
theorem AuX {s:List Gn×List Gn} (h:okS s):(((s.1.length:Int)==0)&&((s.2.length:Int)==0))=false:=by
 obtain⟨a,b⟩:=s;have:=h.ne;cases a with
 | nil=>cases b with
  | nil=>simp at this
  | cons _ _=>simp;omega
 | cons _ _=>simp;omega
section
variable {N:Nat} (hN:1048578<N) {s:List Gn×List Gn} (h:okS s)
include hN h
theorem Aga:II N s=some 0:=by
 have l0:=h.l0;have l1:=h.l1;refine of0 ?_;unfold II;try simp only[clR]
 rw[AuX h,cond_false,decide_eq_false (by omega),decide_eq_false (by omega)];refine DD (decide_eq_true (by omega)) (DD (decide_eq_true (by omega)) ?_);have hll:(s.1++s.2).length<=6:=by rw[List.length_append];omega
 refine F5 (fun x=>0<=x.1/\x.1<=((s.1++s.2).length:Int)/\x.2=s.1++s.2) (fun x=>(((s.1++s.2).length:Int) - x.1).toNat) ?_ N _ ⟨by dsimp only;omega,by dsimp only;omega,rfl⟩ (by dsimp only;omega);rintro ⟨j,l⟩ ⟨j0,j1,hl⟩ k hk;dsimp only at j0 j1 hl;subst hl;dsimp only[U2];refine DI (fun hj=> ?_) (fun _=>DV rfl);have hj:=of_decide_eq_true hj;have hm:=getD_mem ((0,[],[]):Gn) (show j.toNat<(s.1++s.2).length by omega);refine DD (decide_eq_true j0) (DD (decide_eq_true hj) (DD (decide_eq_true (by omega)) ?_))
 have hg:okB ((s.1++s.2).getD j.toNat (0,[],[])):=by
  rcases List.mem_append.1 hm with hm | hm
  ·exact h.a0 _ hm
  ·exact h.a1 _ hm
 rw[(Aoq hN hg).Alh,Dz];refine DI (fun e=>by cases e) (fun _=>hk _ ⟨?_,?_,rfl⟩ ?_)
 ·dsimp only;rw[w64 (by omega) (by omega)];omega
 ·dsimp only;rw[w64 (by omega) (by omega)];omega
 ·dsimp only;rw[w64 (by omega) (by omega)];omega
end
section
variable {N:Nat} (hN:1048578<N) {l:List Gn} (h3:l.length<=3) (h: ∀ g∈l,okB g)
include hN h3 h
theorem AlE:(AbD l).length<=1890:=by
 have:=Ig (g:=fun g=>Sp.elem 48 (FZ g)) (M:=630) (l:=l) fun g hg=>by have:=AhZ hN (h g hg);have:=Sp.Eb 48 (FZ g);omega
 unfold AbD;omega
theorem qY (t:Nat):(partT t l).length<=1895:=by
 have:=AlE hN h3 h;have:=Sp.Eb t (AbD l);unfold partT;cases l.isEmpty with
 | true=>exact Nat.zero_le _
 | false=>rw[cond_false];omega
theorem AqJ (t:Nat) (ht:t<256) (h31:t % 32≠31):NI N (t:Int) l=some (partT t l,0):=by
 have hb:=AlE hN h3 h;unfold NI partT;try simp only[clR]
 cases l with
 | nil=>rfl
 | cons g r =>
  rw[YR (by simp;omega),cond_false];refine(SG (mk:=fun i a=>(a,(i:Int))) (g::r) (0,[],[]) (fun g=>Sp.elem 48 (FZ g)) (fun a=>Dk (Fb N (t:Int) [a]) fun r=>some (r.1,r.2)) ?_ ?_ N (by omega)).trans ?_
  ·intro i a hlt ha k;have hg:=h _ (getD_mem (0,[],[]) hlt);have e1:=(Aoq hN hg).jJ;have gl:=AhZ hN hg;have hb2:((g::r).map fun g=>Sp.elem 48 (FZ g)).flatten.length<=1890:=hb;have hc:decide (a.length+(Sp.elem 48 (FZ ((g::r).getD i (0,[],[])))).length<=140737488355328)=true:=decide_eq_true (by omega);have w:DR N 48 [FZ ((g::r).getD i (0,[],[]))]=_:=MN N 48 [FZ ((g::r).getD i (0,[],[]))] (by omega) (by omega) hN (by simp) (by rw[Ez];omega);rw[Ez]at w;simp (disch:=first | assumption | omega) only[Et,e1,w,hc,FX];try rfl
  ·intro a k;simp (disch:=first | assumption | omega) only[Et]
  ·have w:=Asw N t [AbD (g::r)] ht h31 hN (by simp) (by rw[Ez];omega);rw[Ez]at w;show Dk (Fb N (t:Int) [AbD (g::r)]) _=_;rw[w,Dz];rfl
end
section
variable {N:Nat} (hN:1048578<N) {s:List Gn×List Gn} (h:okS s)
include hN h
theorem Atw:(yU s).length<=3800:=by have a:=qY hN h.l0 h.a0 160;have b:=qY hN h.l1 h.a1 161;have:=Sp.Eb 48 (partT 160 s.1++partT 161 s.2);rw[List.length_append]at this;unfold yU;omega
theorem Av7:JI N s=some (yU s,0):=by have a:=qY hN h.l0 h.a0 160;have b:=qY hN h.l1 h.a1 161;have w:Fb N 48 [partT 160 s.1,partT 161 s.2]=_:=Asw N 48 [partT 160 s.1,partT 161 s.2] (by omega) (by omega) hN (by simp) (by rw[VW,List.length_append];omega);rw[VW]at w;have e1:NI N 160 s.1=_:=AqJ hN h.l0 h.a0 160 (by omega) (by omega);have e2:NI N 161 s.2=_:=AqJ hN h.l1 h.a1 161 (by omega) (by omega);unfold JI;rw[Aga hN h,Dz,show((0:Int) != 0)=false from rfl,cond_false,e1,Dz];dsimp only;rw[show((0:Int) != 0)=false from rfl,cond_false,e2,Dz];dsimp only;rw[show((0:Int) != 0)=false from rfl,cond_false,w,Dz];rfl
end
end Go.Proofs.YtfgdgdnlglejbaaGreatDoor.Pl
namespace Go.Proofs.YtfgdgdnlglejbaaGreatDoor.Pl
open IntKind (i64)
open Go Vm
theorem Ata {α :Type} {l:List α} (h:l.Nodup) (d: α) {i j:Nat} (hij:j<i) (hi:i<l.length):l.getD j d≠l.getD i d:=by rw[getD_lt l i d hi,getD_lt l j d (by omega)];exact List.pairwise_iff_getElem.1 h j i (by omega) hi hij
theorem Jy: ∀ s∈VG,s∈iR:=by decide
theorem Ab5: ∀ s∈VK,s∈iR:=by decide
section
variable {N:Nat} (hN:1048578<N) {L l:List Bs} (hL: ∀ s∈L,s∈iR) (h:AjB L l)
include hN hL h
theorem AsV {m:Int} (hm:3<=m):Ir N l m=some 0:=by
 have h3:=h.len;refine of0 ?_;unfold Ir;try simp only[clR]
 rw[decide_eq_false (by omega),cond_false];refine F5 (fun x=>0<=x/\x<=(l.length:Int)) (fun x=>((l.length:Int) - x).toNat) ?_ N _ ⟨by omega,by omega⟩ (by omega);intro i ⟨i0,i1⟩ k hk;dsimp only;refine DI (fun hi=> ?_) (fun _=>DV rfl);have hi:=of_decide_eq_true hi;refine DD (decide_eq_true i0) (DD (decide_eq_true hi) ?_);rw[(VY hN (hL _ (h.all _ (getD_mem [] (show i.toNat<l.length by omega))))).Apc,Dz];refine DI (fun e=>by cases e) (fun _=> ?_);refine F5 (fun x=>0<=x/\x<=i) (fun x=>(i - x).toNat) ?_ N _ ⟨by omega,by omega⟩ (by omega);intro j ⟨j0,j1⟩ k' hk';dsimp only;refine DI (fun hj=> ?_) (fun _=> ?_)
 ·have hj:=of_decide_eq_true hj;refine DD (decide_eq_true j0) (DD (decide_eq_true (by omega)) ?_);have hne:=Ata h.nod [] (i:=i.toNat) (j:=j.toNat) (by omega) (by omega);refine DI (fun e=>absurd (beq_iff_eq.1 e) hne) (fun _=>hk' _ ⟨?_,?_⟩ ?_)
  ·rw[w64 (by omega) (by omega)];omega
  ·rw[w64 (by omega) (by omega)];omega
  ·rw[w64 (by omega) (by omega)];omega
 ·refine hk _ ⟨?_,?_⟩ ?_
  ·rw[w64 (by omega) (by omega)];omega
  ·rw[w64 (by omega) (by omega)];omega
  ·rw[w64 (by omega) (by omega)];omega
end
section
variable {N:Nat} (hN:1048578<N) {l:List (Bs×Bs)} (h:AoO l)
include hN h
theorem AuS:IJ N l=some 0:=by
 have h3:=h.len;refine of0 ?_;unfold IJ;try simp only[clR]
 rw[decide_eq_false (by omega),cond_false];refine F5 (fun x=>0<=x/\x<=(l.length:Int)) (fun x=>((l.length:Int) - x).toNat) ?_ N _ ⟨by omega,by omega⟩ (by omega);intro i ⟨i0,i1⟩ k hk;dsimp only;refine DI (fun hi=> ?_) (fun _=>DV rfl);have hi:=of_decide_eq_true hi;refine DD (decide_eq_true i0) (DD (decide_eq_true hi) ?_);have hm:=h.all _ (getD_mem ([],[]) (show i.toNat<l.length by omega));have e1:=(VY hN (Jy _ hm.1)).Apc;have e2:=(VY hN (Jy _ hm.2)).Apc;rw[e1,Dz];simp only[e2,Option.isSome_some,Option.getD_some,Bool.true_or,Gs,Bool.not_true,Bool.or_false,cond_false];refine F5 (fun x=>0<=x.1/\x.1<=i/\x.2=l.getD i.toNat ([],[])) (fun x=>(i - x.1).toNat) ?_ N _ ⟨by dsimp only;omega,by dsimp only;omega,rfl⟩ (by dsimp only;omega);rintro ⟨j,a,b⟩ ⟨j0,j1,hab⟩ k' hk';dsimp only at j0 j1 hab;dsimp only[U3];refine DI (fun hj=> ?_) (fun _=> ?_)
 ·have hj:=of_decide_eq_true hj;refine DD (decide_eq_true j0) (DD (decide_eq_true (by omega)) ?_);have hne:=Ata h.nod ([],[]) (i:=i.toNat) (j:=j.toNat) (by omega) (by omega);refine DI (fun e=> ?_) (fun _=>hk' _ ⟨?_,?_,hab⟩ ?_)
  ·simp only[Bool.and_true,Bool.and_eq_true,beq_iff_eq]at e;exact absurd (by rw[<- hab,<- e.1,<- e.2]) hne
  ·dsimp only;rw[w64 (by omega) (by omega)];omega
  ·dsimp only;rw[w64 (by omega) (by omega)];omega
  ·dsimp only;rw[w64 (by omega) (by omega)];omega
 ·refine hk _ ⟨?_,?_⟩ ?_
  ·rw[w64 (by omega) (by omega)];omega
  ·rw[w64 (by omega) (by omega)];omega
  ·rw[w64 (by omega) (by omega)];omega
end
end Go.Proofs.YtfgdgdnlglejbaaGreatDoor.Pl
namespace Go.Proofs.YtfgdgdnlglejbaaGreatDoor.Pl
open IntKind (i64)
open Go Vm
theorem AfX (N:Nat) {n:Int} (h0: -1<=n) (h1:n<=64):Je N n=some true:=by
 unfold Je;try simp only[clR]
 first
 | rw[decide_eq_true (by omega),decide_eq_true (by omega)];rfl
 | simp;omega
theorem AuA {ca:Bool} {pl:Int} (h:(ca,pl)∈AjY): -1<=pl/\pl<=3/\(pl≠ -1->ca=true):=by simp only[AjY,List.mem_cons,Prod.mk.injEq,List.not_mem_nil,or_false]at h;rcases h with ⟨rfl,rfl⟩ | ⟨rfl,rfl⟩ | ⟨rfl,rfl⟩ | ⟨rfl,rfl⟩ | ⟨rfl,rfl⟩ | ⟨rfl,rfl⟩<;>decide
theorem lZ {n:Int} (h:n∈AkD): -1<=n/\n<=3:=by simp only[AkD,List.mem_cons,List.not_mem_nil,or_false]at h;omega
theorem Aho {x:Info} (h:OkI x):(x.2.1&& !x.1)=false/\ -1<=x.2.2.1/\x.2.2.1<=3/\((x.2.2.1 != -1)&& !x.2.1)=false:=by
 rcases h.bas with ⟨a,b⟩ | ⟨a,b,c⟩
 ·obtain⟨p,q,r⟩:=AuA b;refine⟨by rw[a];simp,p,q,?_⟩;by_cases e:x.2.2.1= -1
  ·rw[e];rfl
  ·rw[r e];simp
 ·rw[a,b,c];exact⟨rfl,by omega,by omega,rfl⟩
theorem Al3 {s:Bs} (h:s∈skL):s.length<=16:=by
 have: ∀ s∈skL,s.length<=16:=by decide
 exact this s h
theorem AjP {s:Bs} (h:s∈akL):s.length<=16:=by
 have: ∀ s∈akL,s.length<=16:=by decide
 exact this s h
theorem AlG {l:List Ex} (h:l∈unL):l.length<=2:=by
 have: ∀ l∈unL,l.length<=2:=by decide
 exact this l h
section
variable {N:Nat} (hN:1048578<N)
include hN
theorem Atf {l:List Pt} (h:l=[]\/qU l):FV N l=some 0:=by
 rcases h with rfl | h
 ·obtain⟨M,rfl⟩:=ofM hN;kernel_rfl
 ·exact Aiu hN h
theorem Aty {x:Info} (hu:x.2.2.2.2.2.2.2.2.2.2.2.2.2.2.2.2.2.2.length<=2):Ends (fun r=>r<=15) (Ws N x):=by
 unfold Ws;try simp only[clR]
 refine F5 (fun y=>0<=y.2.1/\y.2.1<=13/\0<=y.1/\y.1<=2+y.2.1/\y.2.2.length=13) (fun y=>(13 - y.2.1).toNat) ?_ N _ ⟨by dsimp only;omega,by dsimp only;omega,by dsimp only;omega,by dsimp only;omega,rfl⟩ (by dsimp only;omega);rintro ⟨a,i,l⟩ ⟨i0,i1,a0,a1,hl⟩ k hk;dsimp only at i0 i1 a0 a1 hl;dsimp only[U3];refine DI (fun hi=> ?_) (fun _=>DV (by show a<=15;omega));have hi:=of_decide_eq_true hi;refine DD (decide_eq_true (by omega)) (DD (decide_eq_true (by omega)) (DD (decide_eq_true (by omega)) (DI (fun _=>hk _ ⟨?_,?_,?_,?_,hl⟩ ?_) (fun _=>hk _ ⟨?_,?_,?_,?_,hl⟩ ?_))))
 all_goals
  dsimp only;try rw[w64 (x:=i+1) (by omega) (by omega)]
  try rw[w64 (x:=a+1) (by omega) (by omega)]
  omega
theorem Anc {x:Info} (h:OkI x):Le N x=some 0:=by
 refine of0 ?_;obtain⟨b1,b2,b3,b4⟩:=Aho h;obtain⟨hb,ca,pl,us,pu,po,ma,re,im,ia,na,hc,pe,ex,sk,ak,pt,fr,un⟩:=x;dsimp only at b1 b2 b3 b4;have l1:=lZ h.re;have l2:=lZ h.im;have l3:=h.ia;have l4:=h.us;dsimp only at l1 l2 l3 l4;unfold Le;try simp only[clR]
 simp only[AfX N (n:=pl) (by omega) (by omega),AfX N (n:=re) (by omega) (by omega),AfX N (n:=im) (by omega) (by omega),AfX N (n:=ia) (by omega) (by omega),Dz,Option.isSome_some,Option.getD_some,Bool.true_or,Gs,Bool.not_true,Bool.false_or];rw[b1,b4,decide_eq_false (show ¬ us<0 by omega),decide_eq_false (show ¬ us>511 by omega)];refine DD (by cases pl != -1<;>rfl) (DI (fun e=>by cases e) (fun _=>DI (fun e=>by cases e) (fun _=> ?_)));have e1:Ir N pu 8=some 0:=AsV hN Ab5 h.pu (by omega);have e2:Ir N po 8=some 0:=AsV hN Jy h.po (by omega);have e3:IJ N ma=some 0:=AuS hN h.ma;have e4:IZ N na=some 0:=Aay hN h.na;have e5:FV N pt=some 0:=Atf hN h.pt;have e6:FV N fr=some 0:=Atf hN h.fr;rw[e1,Dz];refine DI (fun e=>by cases e) (fun _=> ?_);rw[e2,Dz];refine DI (fun e=>by cases e) (fun _=> ?_);rw[e3,Dz];refine DI (fun e=>by cases e) (fun _=> ?_);rw[e4,Dz];refine DI (fun e=>by cases e) (fun _=> ?_);refine SY (P:=fun y=>y=(hb,ca,pl,us,pu,po,ma,re,im,ia,na,hc,pe,ex,sk,ak,pt,fr,un)) (fun j hj=> ?_) ?_
 ·rcases h.con with ⟨c0,c1,c2⟩ | ⟨c0,c1⟩
  ·dsimp only at c0 c1 c2;subst c0 c1 c2;refine DI (fun e=>by cases e) (fun _=>DI (fun e=>by cases e) (fun _=>hj _ rfl))
  ·dsimp only at c0 c1;subst c0;refine DI (fun _=> ?_) (fun e=>by cases e);rw[Aga hN c1,Dz];exact DI (fun e=>by cases e) (fun _=>hj _ rfl)
 rintro _ rfl;dsimp only[U19];have l5:=Al3 h.sk;have l6:=AjP h.ak;dsimp only at l5 l6;rw[decide_eq_false (show ¬(sk.length:Int)>32 by omega),decide_eq_false (show ¬(ak.length:Int)>32 by omega)];refine DI (fun e=>by cases e) (fun _=> ?_);rw[e5,Dz];refine DI (fun e=>by cases e) (fun _=> ?_);rw[e6,Dz];refine DI (fun e=>by cases e) (fun _=> ?_);have hu:un∈unL:=h.un;refine D8 (Aty hN (x:=(hb,ca,pl,us,pu,po,ma,re,im,ia,na,hc,pe,ex,sk,ak,pt,fr,un)) (AlG hu)) fun(c:Int) hc15=>DI (fun e=>by exfalso;have h1:c<=15:=hc15;have h2:c>24:=of_decide_eq_true e;omega) (fun _=> ?_);obtain⟨M,rfl⟩:=ofM hN;simp only[unL,List.mem_cons,List.not_mem_nil,or_false]at hu;clear h;rcases hu with rfl | rfl | rfl | rfl | rfl
 ·exact⟨0,by kernel_rfl,rfl⟩
 ·exact⟨0,by kernel_rfl,rfl⟩
 ·exact⟨0,by kernel_rfl,rfl⟩
 ·exact⟨0,by kernel_rfl,rfl⟩
 ·exact⟨0,by kernel_rfl,rfl⟩
omit hN in
end
end Go.Proofs.YtfgdgdnlglejbaaGreatDoor.Pl
namespace Go.Proofs.YtfgdgdnlglejbaaGreatDoor.Pl
open IntKind (i64)
open Go Vm
def usQ (M:Nat) (n:Nat):Bool:=I4 (M+300) (n:Int)==some (flB (n:Int),0)&&(JV (M+300) (n:Int)==some (flB (n:Int),0)&&(NC (M+300) (flB (n:Int))==some ((n:Int),0)&&decide ((flB (n:Int)).length<=5)))
theorem Avz (M:Nat):(List.range 512).all (usQ M)=true:=by kernel_rfl
structure AvX (N:Nat) (r:Int):Prop where
 put:I4 N r=some (flB r,0)
 Aly:JV N r=some (flB r,0)
 get:NC N (flB r)=some (r,0)
 len:(flB r).length<=5
theorem Atl {N:Nat} (hN:1048578<N) {r:Int} (h0:0<=r) (h1:r<=511):AvX N r:=by
 obtain⟨M,rfl⟩:=ofM hN;have h:=List.all_eq_true.1 (Avz M) r.toNat (List.mem_range.2 (by omega))
 unfold usQ at h;rw[show((r.toNat:Nat):Int)=r by omega]at h;simp only[Bool.and_eq_true,beq_iff_eq,decide_eq_true_eq]at h;exact⟨h.1,h.2.1,h.2.2.1,h.2.2.2⟩
def idB (s:Bs):Bs:=Sp.elem 6 (idT s)
def Agw (ca:Bool) (pl:Int):Bs:=Sp.elem 48 ((bif ca then Sp.elem 1 [255]else [])++(bif pl != -1 then GI 2 pl else []))
def Aht (l:List Bs):Bs:=Sp.elem 48 (l.map idB).flatten
def Ahr (l:List Bs):Bs:=Sp.elem 48 (l.map fun s=>Sp.elem 48 (idB s)).flatten
def Ahh (l:List (Bs×Bs)):Bs:=Sp.elem 48 (l.map fun m=>Sp.elem 48 (idB m.1++idB m.2)).flatten
def Aao (re im:Int):Bs:=Sp.elem 48 ((bif re != -1 then GI 128 re else [])++(bif im != -1 then GI 129 im else []))
section
variable {N:Nat} (hN:1048578<N)
include hN
theorem KJ {s:Bs} (h:s∈iR):(idB s).length<=15:=by have:=(VY hN h).len;have:=Sp.Eb 6 (idT s);unfold idB;omega
end
end Go.Proofs.YtfgdgdnlglejbaaGreatDoor.Pl
namespace Go.Proofs.YtfgdgdnlglejbaaGreatDoor.Pl
open IntKind (i64)
open Go Vm
section
variable {N:Nat} (hN:1048578<N)
include hN
theorem Sm {t:Nat} {n:Int} (h0:0<=n) (h1:n<256):(GI t n).length<=7:=by have:=(Aqn hN h0 h1).len;have:=Sp.Eb t (inB n);unfold GI;omega
theorem Ab1 {b:Bool} {c:Bs} {k:Nat} (h:b=true->c.length<=k):((bif b then c else []):Bs).length<=k:=by
 cases b with
 | true=>exact h rfl
 | false=>exact Nat.zero_le _
omit hN in
omit hN in
end
end Go.Proofs.YtfgdgdnlglejbaaGreatDoor.Pl
namespace Go.Proofs.YtfgdgdnlglejbaaGreatDoor.Pl
open IntKind (i64)
open Go Vm
def Ab9:Info->List (Bool×Ex)
 | (hb,ca,pl,us,pu,po,ma,re,im,ia,na,hc,pe,ex,sk,ak,pt,fr,un) =>
  [(hb,[50,46,53,46,50,57,46,49,57],true,Agw ca pl),
   (us != 0,[50,46,53,46,50,57,46,49,53],true,Sp.elem 3 (flB us)),
   (decide (((pu.length:Nat):Int)>0),[50,46,53,46,50,57,46,51,55],false,Aht pu),
   (decide (((po.length:Nat):Int)>0),[50,46,53,46,50,57,46,51,50],false,Ahr po),
   (decide (((ma.length:Nat):Int)>0),[50,46,53,46,50,57,46,51,51],true,Ahh ma),
   (re != -1||im != -1,[50,46,53,46,50,57,46,51,54],true,Aao re im),
   (ia != -1,[50,46,53,46,50,57,46,53,52],true,GI 2 ia),
   (decide (((na.length:Nat):Int)>0),[50,46,53,46,50,57,46,49,55],false,Sp.elem 48 (Ff na)),
   (hc,[50,46,53,46,50,57,46,51,48],true,yU (pe,ex)),
   (!(sk==[]),[50,46,53,46,50,57,46,49,52],false,Sp.elem 4 sk),
   (!(ak==[]),[50,46,53,46,50,57,46,51,53],false,Sp.elem 48 (Sp.elem 128 ak)),
   (decide (((pt.length:Nat):Int)>0),[50,46,53,46,50,57,46,51,49],false,psB pt),
   (decide (((fr.length:Nat):Int)>0),[50,46,53,46,50,57,46,52,54],false,psB fr)]
def EW (r:Bool×Ex):List Ex:=bif r.1 then [r.2]else []
def exI (x:Info):List Ex:=(Ab9 x).flatMap EW++x.2.2.2.2.2.2.2.2.2.2.2.2.2.2.2.2.2.2
theorem AqR (x:Info):(Ab9 x).length=13:=rfl
theorem ne_of {α :Type} {l:List α} (h:decide (((l.length:Nat):Int)>0)=true):l≠ []:=by rintro rfl;cases h
theorem ne1 {n:Int} (h:(n != -1)=true):n≠ -1:=by simpa using h
theorem AqM {l:List Pt} (h:l=[]\/qU l) (hh:decide (((l.length:Nat):Int)>0)=true):qU l:=h.resolve_left (ne_of hh)
theorem ApL {hb ca:Bool} {pl us:Int} {pu po:List Bs} {ma:List (Bs×Bs)} {re im ia:Int} {na:List Gn} {hc:Bool} {pe ex:List Gn} {sk ak:Bs} {pt fr:List Pt} {un:List Ex} (h:OkI (hb,ca,pl,us,pu,po,ma,re,im,ia,na,hc,pe,ex,sk,ak,pt,fr,un)) (hh:hc=true):okS (pe,ex):=by
 rcases h.con with ⟨a,_⟩ | ⟨_,c⟩
 ·dsimp only at a;rw[a]at hh;cases hh
 ·exact c
section
variable {N:Nat} (hN:1048578<N)
include hN
end
end Go.Proofs.YtfgdgdnlglejbaaGreatDoor.Pl
namespace Go.Proofs.YtfgdgdnlglejbaaGreatDoor.Pl
open IntKind (i64)
open Go Vm
theorem JS {α ρ :Type} {A:(α ->Option ρ)->Option ρ} {f: α ->Option ρ} {x: α} (h: ∀ j: α ->Option ρ,A j=j x):EJ A f=f x:=h f
theorem ge1 {n:Int} (h: -1<=n):decide (n>=0)=(n != -1):=by
 by_cases e:n= -1
 ·subst e;rfl
 ·rw[YS e];exact decide_eq_true (by omega)
theorem Io (r:Bool×Ex):(EW r).length<=1:=by unfold EW;cases r.1<;>simp
theorem of1 {α :Type} {o:Option α} {v: α} (h:Ends (fun r=>r=v) o):o=some v:=by obtain⟨w,rfl,rfl⟩:=h;rfl
section
variable {N:Nat} (hN:1048578<N)
include hN
theorem AuB (v:Bool):XL N 1 v=some (bif v then Sp.elem 1 [255]else []):=by obtain⟨M,rfl⟩:=ofM hN;cases v<;>kernel_rfl
theorem Af4 {n:Int} (h0:0<=n) (h1:n<256) {t:Nat} (ht:t<256) (h31:t % 32≠31):FC N (t:Int) n=some (GI t n):=by have I:=Aqn hN h0 h1;have w:=MN N t [inB n] ht h31 hN (by simp) (by rw[Ez];have:=I.len;omega);rw[Ez]at w;unfold FC;rw[I.Aly,Dz,w,Dz];rfl
theorem At9 {r:Int} (h0:0<=r) (h1:r<=511) (h2:r≠0):Jd N 3 r=some (Sp.elem 3 (flB r)):=by have U:=Atl hN h0 h1;have hl:=U.len;have w:DR N 3 [flB r]=_:=MN N 3 [flB r] (by omega) (by omega) hN (by simp) (by rw[Ez];omega);rw[Ez]at w;unfold Jd;rw[YR h2,cond_false,U.Aly,Dz];dsimp only;rw[w,Dz]
end
theorem Wv (N:Nat) (hN:1048578<N) (l:List Bs) (hl:l.length<=1000) (hs:l.flatten.length<=131072):DR N 48 l=some (Sp.elem 48 l.flatten):=MN N 48 l (by omega) (by omega) hN hl hs
set_option maxHeartbeats 1000000 in
theorem AuN {N:Nat} (hN:1048578<N) {x:Info} (h:OkI x):NK N x=some (exI x,0):=by
 have hck:=Anc hN h;obtain⟨_,b2,b3,_⟩:=Aho h;have l1:=lZ h.re;have l2:=lZ h.im;have l3:=h.ia;have l4:=h.us;have l9:=AlG h.un;obtain⟨hb,ca,pl,us,pu,po,ma,re,im,ia,na,hc,pe,ex,sk,ak,pt,fr,un⟩:=x;dsimp only at b2 b3 l1 l2 l3 l4 l9;unfold NK;try simp only[clR]
 rw[hck,Dz,show((0:Int) != 0)=false from rfl,cond_false];have n1:pl≠ -1->FC N 2 pl=some (GI 2 pl):=fun e=>Af4 hN (t:=2) (by omega) (by omega) (by omega) (by omega);have n2:re≠ -1->FC N 128 re=some (GI 128 re):=fun e=>Af4 hN (t:=128) (by omega) (by omega) (by omega) (by omega);have n3:im≠ -1->FC N 129 im=some (GI 129 im):=fun e=>Af4 hN (t:=129) (by omega) (by omega) (by omega) (by omega);have n4:ia≠ -1->FC N 2 ia=some (GI 2 ia):=fun e=>Af4 hN (t:=2) (by omega) (by omega) (by omega) (by omega);have q1:pl≠ -1->(GI 2 pl).length<=7:=fun e=>Sm hN (by omega) (by omega);have q2:re≠ -1->(GI 128 re).length<=7:=fun e=>Sm hN (by omega) (by omega);have q3:im≠ -1->(GI 129 im).length<=7:=fun e=>Sm hN (by omega) (by omega);have fl:us≠0->Jd N 3 us=some (Sp.elem 3 (flB us)):=fun e=>At9 hN l4.1 l4.2 e;refine(JS (x:=(hb,ca,pl,us,pu,po,ma,re,im,ia,na,hc,pe,ex,sk,ak,pt,fr,un,(EW (hb,[50,46,53,46,50,57,46,49,57],true,Agw ca pl)))) (fun j=> ?_)).trans ?_
 ·cases hb with
  | false=>rfl
  | true =>
   have hbl:((bif ca then Sp.elem 1 [255]else []):Bs).length<=10:=by cases ca<;>decide
   rw[cond_true,AuB hN ca,Dz,ge1 b2];simp only[EJ];unfold EW Agw;cases hp:pl != -1 with
   | true =>have q1':=q1 (ne1 hp);have w:=Wv N hN [(bif ca then Sp.elem 1 [255]else [])++GI 2 pl] (by simp) (by rw[Ez,List.length_append];omega);rw[Ez]at w;rw[cond_true,n1 (ne1 hp),Dz];dsimp only[U20];rw[N7 (by omega),Gs,w,Dz];rfl
   | false =>have w:=Wv N hN [(bif ca then Sp.elem 1 [255]else [])] (by simp) (by rw[Ez];omega);rw[Ez]at w;rw[cond_false];dsimp only[U20];rw[w,Dz,cond_true,cond_false,List.append_nil]
 generalize hl0:EW (hb,[50,46,53,46,50,57,46,49,57],true,Agw ca pl)=A0;have kA0:A0.length<=1:=by rw[<- hl0];exact Io _
 dsimp only[U20];refine(JS (x:=(hb,ca,pl,us,pu,po,ma,re,im,ia,na,hc,pe,ex,sk,ak,pt,fr,un,A0++EW (us != 0,[50,46,53,46,50,57,46,49,53],true,Sp.elem 3 (flB us)))) (fun j=> ?_)).trans ?_
 ·unfold EW;by_cases h5:us=0
  ·rw[Akb h5,cond_false,cond_false,List.append_nil]
  ·rw[YS h5,cond_true,fl h5,Dz,N7 (by omega),Gs];rfl
 obtain⟨A1,hA1⟩: ∃ A,A=A0++EW (us != 0,[50,46,53,46,50,57,46,49,53],true,Sp.elem 3 (flB us)):=⟨_,rfl⟩
 rw[<- hA1];have kA1:A1.length<=2:=by rw[hA1,List.length_append];have:=Io (us != 0,[50,46,53,46,50,57,46,49,53],true,Sp.elem 3 (flB us));omega
 dsimp only[U20];refine(JS (x:=(hb,ca,pl,us,pu,po,ma,re,im,ia,na,hc,pe,ex,sk,ak,pt,fr,un,A1++EW (decide (((pu.length:Nat):Int)>0),[50,46,53,46,50,57,46,51,55],false,Aht pu))) (fun j=> ?_)).trans ?_
 ·unfold EW;cases hh:decide (((pu.length:Nat):Int)>0)with
  | false=>rw[cond_false,cond_false,List.append_nil]
  | true =>
   have hl:=Ig (g:=idB) (M:=65) (l:=pu) (fun m hm=>by have:=KJ hN (Ab5 _ (h.pu.all m hm));omega);have hk:pu.length<=3:=h.pu.len;rw[cond_true,cond_true];refine(SG (mk:=fun i t=>(t,(i:Int),hb,ca,pl,us,pu,po,ma,re,im,ia,na,hc,pe,ex,sk,ak,pt,fr,un,A1)) pu [] (idB) (fun t=>Dk (DR N 48 [t]) fun r=>Vm.chk (decide ((A1.length+1)*41<=140737488355328)) (j (hb,ca,pl,us,pu,po,ma,re,im,ia,na,hc,pe,ex,sk,ak,pt,fr,un,A1++[([50,46,53,46,50,57,46,51,55],false,r)]))) ?_ ?_ N (by omega)).trans ?_
   ·intro i t hi ht k;dsimp only[U22];rw[Int.toNat_natCast];have hp:=(VY hN (Ab5 _ (h.pu.all _ (getD_mem [] hi)))).jJ;have hp2:Sp.elem 6 (idT (pu.getD i []))=idB (pu.getD i []):=rfl;simp (disch:=first | assumption | omega) only[Et,hp,hp2,FX]
   ·intro t k;dsimp only[U22];rw[Aj4 (by omega),cond_false];rfl
   ·have w:=Wv N hN [(pu.map idB).flatten] (by simp) (by rw[Ez];omega);rw[Ez]at w;rw[w,Dz,N7 (by omega),Gs];rfl
 obtain⟨A2,hA2⟩: ∃ A,A=A1++EW (decide (((pu.length:Nat):Int)>0),[50,46,53,46,50,57,46,51,55],false,Aht pu):=⟨_,rfl⟩
 rw[<- hA2];have kA2:A2.length<=3:=by rw[hA2,List.length_append];have:=Io (decide (((pu.length:Nat):Int)>0),[50,46,53,46,50,57,46,51,55],false,Aht pu);omega
 dsimp only[U20];refine(JS (x:=(hb,ca,pl,us,pu,po,ma,re,im,ia,na,hc,pe,ex,sk,ak,pt,fr,un,A2++EW (decide (((po.length:Nat):Int)>0),[50,46,53,46,50,57,46,51,50],false,Ahr po))) (fun j=> ?_)).trans ?_
 ·unfold EW;cases hh:decide (((po.length:Nat):Int)>0)with
  | false=>rw[cond_false,cond_false,List.append_nil]
  | true =>
   have hl:=Ig (g:=(fun s=>Sp.elem 48 (idB s))) (M:=70) (l:=po) (fun m hm=>by have:=KJ hN (Jy _ (h.po.all m hm));have:=Sp.Eb 48 (idB m);omega);have hk:po.length<=3:=h.po.len;rw[cond_true,cond_true];refine(SG (mk:=fun i t=>(t,(i:Int),hb,ca,pl,us,pu,po,ma,re,im,ia,na,hc,pe,ex,sk,ak,pt,fr,un,A2)) po [] ((fun s=>Sp.elem 48 (idB s))) (fun t=>Dk (DR N 48 [t]) fun r=>Vm.chk (decide ((A2.length+1)*41<=140737488355328)) (j (hb,ca,pl,us,pu,po,ma,re,im,ia,na,hc,pe,ex,sk,ak,pt,fr,un,A2++[([50,46,53,46,50,57,46,51,50],false,r)]))) ?_ ?_ N (by omega)).trans ?_
   ·intro i t hi ht k;dsimp only[U22];rw[Int.toNat_natCast];have hv:po.getD i []∈iR:=Jy _ (h.po.all _ (getD_mem [] hi));have hp:=(VY hN hv).jJ;have hp2:Sp.elem 6 (idT (po.getD i []))=idB (po.getD i []):=rfl;have w:=Wv N hN [idB (po.getD i [])] (by simp) (by rw[Ez];have:=KJ hN hv;omega);rw[Ez]at w;simp (disch:=first | assumption | omega) only[Et,hp,hp2,w,FX]
   ·intro t k;dsimp only[U22];rw[Aj4 (by omega),cond_false];rfl
   ·have w:=Wv N hN [(po.map (fun s=>Sp.elem 48 (idB s))).flatten] (by simp) (by rw[Ez];omega);rw[Ez]at w;rw[w,Dz,N7 (by omega),Gs];rfl
 obtain⟨A3,hA3⟩: ∃ A,A=A2++EW (decide (((po.length:Nat):Int)>0),[50,46,53,46,50,57,46,51,50],false,Ahr po):=⟨_,rfl⟩
 rw[<- hA3];have kA3:A3.length<=4:=by rw[hA3,List.length_append];have:=Io (decide (((po.length:Nat):Int)>0),[50,46,53,46,50,57,46,51,50],false,Ahr po);omega
 dsimp only[U20];refine(JS (x:=(hb,ca,pl,us,pu,po,ma,re,im,ia,na,hc,pe,ex,sk,ak,pt,fr,un,A3++EW (decide (((ma.length:Nat):Int)>0),[50,46,53,46,50,57,46,51,51],true,Ahh ma))) (fun j=> ?_)).trans ?_
 ·unfold EW;cases hh:decide (((ma.length:Nat):Int)>0)with
  | false=>rw[cond_false,cond_false,List.append_nil]
  | true =>
   have hl:=Ig (g:=(fun m:Bs×Bs=>Sp.elem 48 (idB m.1++idB m.2))) (M:=135) (l:=ma) (fun m hm=>by have:=KJ hN (Jy _ (h.ma.all m hm).1);have:=KJ hN (Jy _ (h.ma.all m hm).2);have:=Sp.Eb 48 (idB m.1++idB m.2);rw[List.length_append]at this;omega);have hk:ma.length<=3:=h.ma.len;rw[cond_true,cond_true];refine(SG (mk:=fun i t=>(t,(i:Int),hb,ca,pl,us,pu,po,ma,re,im,ia,na,hc,pe,ex,sk,ak,pt,fr,un,A3)) ma ([],[]) ((fun m:Bs×Bs=>Sp.elem 48 (idB m.1++idB m.2))) (fun t=>Dk (DR N 48 [t]) fun r=>Vm.chk (decide ((A3.length+1)*41<=140737488355328)) (j (hb,ca,pl,us,pu,po,ma,re,im,ia,na,hc,pe,ex,sk,ak,pt,fr,un,A3++[([50,46,53,46,50,57,46,51,51],true,r)]))) ?_ ?_ N (by omega)).trans ?_
   ·intro i t hi ht k;dsimp only[U22];rw[Int.toNat_natCast];have hv:(ma.getD i ([],[])).1∈VG/\(ma.getD i ([],[])).2∈VG:=h.ma.all _ (getD_mem ([],[]) hi);have hp:=(VY hN (Jy _ hv.1)).jJ;have hq:=(VY hN (Jy _ hv.2)).jJ;have hp2:Sp.elem 6 (idT (ma.getD i ([],[])).1)=idB (ma.getD i ([],[])).1:=rfl;have hq2:Sp.elem 6 (idT (ma.getD i ([],[])).2)=idB (ma.getD i ([],[])).2:=rfl;have w:=Wv N hN [idB (ma.getD i ([],[])).1,idB (ma.getD i ([],[])).2] (by simp) (by rw[VW,List.length_append];have:=KJ hN (Jy _ hv.1);have:=KJ hN (Jy _ hv.2);omega);rw[VW]at w;simp (disch:=first | assumption | omega) only[Et,hp,hq,hp2,hq2,w,FX]
   ·intro t k;dsimp only[U22];rw[Aj4 (by omega),cond_false];rfl
   ·have w:=Wv N hN [(ma.map (fun m:Bs×Bs=>Sp.elem 48 (idB m.1++idB m.2))).flatten] (by simp) (by rw[Ez];omega);rw[Ez]at w;rw[w,Dz,N7 (by omega),Gs];rfl
 obtain⟨A4,hA4⟩: ∃ A,A=A3++EW (decide (((ma.length:Nat):Int)>0),[50,46,53,46,50,57,46,51,51],true,Ahh ma):=⟨_,rfl⟩
 rw[<- hA4];have kA4:A4.length<=5:=by rw[hA4,List.length_append];have:=Io (decide (((ma.length:Nat):Int)>0),[50,46,53,46,50,57,46,51,51],true,Ahh ma);omega
 dsimp only[U20];refine(JS (x:=(hb,ca,pl,us,pu,po,ma,re,im,ia,na,hc,pe,ex,sk,ak,pt,fr,un,A4++EW (re != -1||im != -1,[50,46,53,46,50,57,46,51,54],true,Aao re im))) (fun j=> ?_)).trans ?_
 ·rw[ge1 l1.1,ge1 l2.1];unfold EW;cases hh:(re != -1||im != -1)with
  | false=>rw[cond_false,cond_false,List.append_nil]
  | true =>
   rw[cond_true,cond_true]
   have fin: ∀ a c:Bs,a=(bif re != -1 then GI 128 re else [])->c=(bif im != -1 then GI 129 im else [])->(Dk (DR N 48 [a++c]) fun r=>Vm.chk (decide ((A4.length+1)*41<=140737488355328)) (j (hb,ca,pl,us,pu,po,ma,re,im,ia,na,hc,pe,ex,sk,ak,pt,fr,un,A4++[([50,46,53,46,50,57,46,51,54],true,r)])))=j (hb,ca,pl,us,pu,po,ma,re,im,ia,na,hc,pe,ex,sk,ak,pt,fr,un,A4++[([50,46,53,46,50,57,46,51,54],true,Aao re im)]):=by
    intro a c ha hc
    have h1:a.length<=10:=by
     rw[ha];cases he:re != -1
     ·exact Nat.zero_le _
     ·have:=q2 (ne1 he);show(GI 128 re).length<=10;omega
    have h2:c.length<=10:=by
     rw[hc];cases he:im != -1
     ·exact Nat.zero_le _
     ·have:=q3 (ne1 he);show(GI 129 im).length<=10;omega
    have w:=Wv N hN [a++c] (by simp) (by rw[Ez,List.length_append];omega);rw[Ez]at w;rw[w,Dz,N7 (by omega),Gs];unfold Aao;rw[<- ha,<- hc]
   refine(JS (x:=(bif re != -1 then GI 128 re else [],hb,ca,pl,us,pu,po,ma,re,im,ia,na,hc,pe,ex,sk,ak,pt,fr,un,A4)) (fun j=> ?_)).trans ?_
   ·cases he:re != -1 with
    | true=>rw[cond_true,n2 (ne1 he),Dz];rfl
    | false=>rfl
   dsimp only[U21];obtain⟨a,ha⟩: ∃ a:Bs,a=(bif re != -1 then GI 128 re else []):=⟨_,rfl⟩
   rw[<- ha]
   have h1:a.length<=10:=by
    rw[ha];cases he:re != -1
    ·exact Nat.zero_le _
    ·have:=q2 (ne1 he);show(GI 128 re).length<=10;omega
   refine(JS (x:=(a++(bif im != -1 then GI 129 im else []),hb,ca,pl,us,pu,po,ma,re,im,ia,na,hc,pe,ex,sk,ak,pt,fr,un,A4)) (fun j=> ?_)).trans ?_
   ·rw[ge1 l2.1];cases he:im != -1 with
    | true =>have q3':=q3 (ne1 he);rw[cond_true,n3 (ne1 he),Dz,N7 (by omega),Gs];rfl
    | false=>rw[cond_false,cond_false,List.append_nil]
   dsimp only[U21];exact fin a _ ha rfl
 obtain⟨A5,hA5⟩: ∃ A,A=A4++EW (re != -1||im != -1,[50,46,53,46,50,57,46,51,54],true,Aao re im):=⟨_,rfl⟩
 rw[<- hA5];have kA5:A5.length<=6:=by rw[hA5,List.length_append];have:=Io (re != -1||im != -1,[50,46,53,46,50,57,46,51,54],true,Aao re im);omega
 dsimp only[U20];refine(JS (x:=(hb,ca,pl,us,pu,po,ma,re,im,ia,na,hc,pe,ex,sk,ak,pt,fr,un,A5++EW (ia != -1,[50,46,53,46,50,57,46,53,52],true,GI 2 ia))) (fun j=> ?_)).trans ?_
 ·rw[ge1 l3.1];unfold EW;cases hh:ia != -1 with
  | false=>rw[cond_false,cond_false,List.append_nil]
  | true=>rw[cond_true,cond_true,n4 (ne1 hh),Dz,N7 (by omega),Gs]
 obtain⟨A6,hA6⟩: ∃ A,A=A5++EW (ia != -1,[50,46,53,46,50,57,46,53,52],true,GI 2 ia):=⟨_,rfl⟩
 rw[<- hA6];have kA6:A6.length<=7:=by rw[hA6,List.length_append];have:=Io (ia != -1,[50,46,53,46,50,57,46,53,52],true,GI 2 ia);omega
 dsimp only[U20];refine(JS (x:=(hb,ca,pl,us,pu,po,ma,re,im,ia,na,hc,pe,ex,sk,ak,pt,fr,un,A6++EW (decide (((na.length:Nat):Int)>0),[50,46,53,46,50,57,46,49,55],false,Sp.elem 48 (Ff na)))) (fun j=> ?_)).trans ?_
 ·unfold EW;cases hh:decide (((na.length:Nat):Int)>0)with
  | false=>rw[cond_false,cond_false,List.append_nil]
  | true =>
   have hna0:na≠ []:=by intro h;subst h;cases hh
   have hl:(Ff na).length<=1250:=Td hN h.na;have w:=Wv N hN [Ff na] (by simp) (by rw[Ez];omega);rw[Ez]at w;rw[cond_true,cond_true,ZF hN h.na hna0,Dz];dsimp only;rw[w,Dz,N7 (by omega),Gs]
 obtain⟨A7,hA7⟩: ∃ A,A=A6++EW (decide (((na.length:Nat):Int)>0),[50,46,53,46,50,57,46,49,55],false,Sp.elem 48 (Ff na)):=⟨_,rfl⟩
 rw[<- hA7];have kA7:A7.length<=8:=by rw[hA7,List.length_append];have:=Io (decide (((na.length:Nat):Int)>0),[50,46,53,46,50,57,46,49,55],false,Sp.elem 48 (Ff na));omega
 dsimp only[U20];refine(JS (x:=(hb,ca,pl,us,pu,po,ma,re,im,ia,na,hc,pe,ex,sk,ak,pt,fr,un,A7++EW (hc,[50,46,53,46,50,57,46,51,48],true,yU (pe,ex)))) (fun j=> ?_)).trans ?_
 ·unfold EW;cases hh:hc with
  | false=>rw[cond_false,cond_false,List.append_nil]
  | true =>have hsub:=Av7 hN (ApL h hh);rw[cond_true,cond_true,hsub,Dz,show(((0:Int) != 0))=false from rfl,cond_false,N7 (by omega),Gs]
 obtain⟨A8,hA8⟩: ∃ A,A=A7++EW (hc,[50,46,53,46,50,57,46,51,48],true,yU (pe,ex)):=⟨_,rfl⟩
 rw[<- hA8];have kA8:A8.length<=9:=by rw[hA8,List.length_append];have:=Io (hc,[50,46,53,46,50,57,46,51,48],true,yU (pe,ex));omega
 dsimp only[U20];refine(JS (x:=(hb,ca,pl,us,pu,po,ma,re,im,ia,na,hc,pe,ex,sk,ak,pt,fr,un,A8++EW (!(sk==[]),[50,46,53,46,50,57,46,49,52],false,Sp.elem 4 sk))) (fun j=> ?_)).trans ?_
 ·unfold EW;cases hh:(!(sk==[]))with
  | false=>rw[cond_false,cond_false,List.append_nil]
  | true =>have hk:sk.length<=16:=Al3 h.sk;have w:DR N 4 [sk]=_:=MN N 4 [sk] (by omega) (by omega) hN (by simp) (by rw[Ez];omega);rw[Ez]at w;rw[cond_true,cond_true,w,Dz,N7 (by omega),Gs]
 obtain⟨A9,hA9⟩: ∃ A,A=A8++EW (!(sk==[]),[50,46,53,46,50,57,46,49,52],false,Sp.elem 4 sk):=⟨_,rfl⟩
 rw[<- hA9];have kA9:A9.length<=10:=by rw[hA9,List.length_append];have:=Io (!(sk==[]),[50,46,53,46,50,57,46,49,52],false,Sp.elem 4 sk);omega
 dsimp only[U20];refine(JS (x:=(hb,ca,pl,us,pu,po,ma,re,im,ia,na,hc,pe,ex,sk,ak,pt,fr,un,A9++EW (!(ak==[]),[50,46,53,46,50,57,46,51,53],false,Sp.elem 48 (Sp.elem 128 ak)))) (fun j=> ?_)).trans ?_
 ·unfold EW;cases hh:(!(ak==[]))with
  | false=>rw[cond_false,cond_false,List.append_nil]
  | true =>have hk:ak.length<=16:=AjP h.ak;have he:=Sp.Eb 128 ak;have w:DR N 128 [ak]=_:=MN N 128 [ak] (by omega) (by omega) hN (by simp) (by rw[Ez];omega);have w2:=Wv N hN [Sp.elem 128 ak] (by simp) (by rw[Ez];omega);rw[Ez]at w w2;rw[cond_true,cond_true,w,Dz,w2,Dz,N7 (by omega),Gs]
 obtain⟨A10,hA10⟩: ∃ A,A=A9++EW (!(ak==[]),[50,46,53,46,50,57,46,51,53],false,Sp.elem 48 (Sp.elem 128 ak)):=⟨_,rfl⟩
 rw[<- hA10];have kA10:A10.length<=11:=by rw[hA10,List.length_append];have:=Io (!(ak==[]),[50,46,53,46,50,57,46,51,53],false,Sp.elem 48 (Sp.elem 128 ak));omega
 dsimp only[U20];have kB:(A10++EW (decide (((pt.length:Nat):Int)>0),[50,46,53,46,50,57,46,51,49],false,psB pt)).length<=12:=by rw[List.length_append];have:=Io (decide (((pt.length:Nat):Int)>0),[50,46,53,46,50,57,46,51,49],false,psB pt);omega
 have kC:((A10++EW (decide (((pt.length:Nat):Int)>0),[50,46,53,46,50,57,46,51,49],false,psB pt))++EW (decide (((fr.length:Nat):Int)>0),[50,46,53,46,50,57,46,52,54],false,psB fr)).length<=13:=by rw[List.length_append];have:=Io (decide (((fr.length:Nat):Int)>0),[50,46,53,46,50,57,46,52,54],false,psB fr);omega
 have hflat:(Ab9 (hb,ca,pl,us,pu,po,ma,re,im,ia,na,hc,pe,ex,sk,ak,pt,fr,un)).flatMap EW=(A10++EW (decide (((pt.length:Nat):Int)>0),[50,46,53,46,50,57,46,51,49],false,psB pt))++EW (decide (((fr.length:Nat):Int)>0),[50,46,53,46,50,57,46,52,54],false,psB fr):=by rw[hA10,hA9,hA8,hA7,hA6,hA5,hA4,hA3,hA2,hA1,<- hl0];unfold Ab9;simp only[List.flatMap_cons,List.flatMap_nil,List.append_nil,List.append_assoc]
 refine of1 ?_;refine F5 (fun y=>y=((0:Int),hb,ca,pl,us,pu,po,ma,re,im,ia,na,hc,pe,ex,sk,ak,pt,fr,un,[pt,fr],A10)\/y=((1:Int),hb,ca,pl,us,pu,po,ma,re,im,ia,na,hc,pe,ex,sk,ak,pt,fr,un,[pt,fr],A10++EW (decide (((pt.length:Nat):Int)>0),[50,46,53,46,50,57,46,51,49],false,psB pt))\/y=((2:Int),hb,ca,pl,us,pu,po,ma,re,im,ia,na,hc,pe,ex,sk,ak,pt,fr,un,[pt,fr],(A10++EW (decide (((pt.length:Nat):Int)>0),[50,46,53,46,50,57,46,51,49],false,psB pt))++EW (decide (((fr.length:Nat):Int)>0),[50,46,53,46,50,57,46,52,54],false,psB fr))) (fun y=>(2 - y.1).toNat) ?_ N _ (Or.inl rfl) (by dsimp only;omega)
 have st: ∀(l:List Pt) (h:l=[]\/qU l) (i:Bs) (A:List Ex) (hA:A.length<=1000) (k:List Ex->Option (List Ex×Int)),(bif (((l.length:Nat):Int)==0)then k A else Dk (Jm N l) fun r=>bif r.2 != 0 then some ([],r.2)else Vm.chk true (Vm.chk true (Vm.chk true (Vm.chk (decide ((A.length+1)*41<=140737488355328)) (k (A++[(i,false,r.1)]))))))=k (A++EW (decide (((l.length:Nat):Int)>0),i,false,psB l)):=by
  intro l h i A hA k;rcases h with rfl | h
  ·show k A=k (A++[]);rw[List.append_nil]
  ·have hp:=List.length_pos_iff.2 h.ne;rw[YR (by omega),cond_false,AoV hN h,Dz,decide_eq_true (by omega:(A.length+1)*41<=140737488355328)];unfold EW;rw[decide_eq_true (by omega:((l.length:Nat):Int)>0)];rfl
 rintro y hy k hk;rcases hy with rfl | rfl | rfl
 ·refine(congrArg (Ends _) (st pt h.pt [50,46,53,46,50,57,46,51,49] A10 (by omega) (fun A=>k (1,hb,ca,pl,us,pu,po,ma,re,im,ia,na,hc,pe,ex,sk,ak,pt,fr,un,[pt,fr],A)))).mpr ?_;exact hk _ (Or.inr (Or.inl rfl)) (by dsimp only;omega)
 ·refine(congrArg (Ends _) (st fr h.fr [50,46,53,46,50,57,46,52,54] (A10++EW (decide (((pt.length:Nat):Int)>0),[50,46,53,46,50,57,46,51,49],false,psB pt)) (by omega) (fun A=>k (2,hb,ca,pl,us,pu,po,ma,re,im,ia,na,hc,pe,ex,sk,ak,pt,fr,un,[pt,fr],A)))).mpr ?_;exact hk _ (Or.inr (Or.inr rfl)) (by dsimp only;omega)
 ·show Ends _ (Vm.chk (decide ((((A10++EW (decide (((pt.length:Nat):Int)>0),[50,46,53,46,50,57,46,51,49],false,psB pt))++EW (decide (((fr.length:Nat):Int)>0),[50,46,53,46,50,57,46,52,54],false,psB fr)).length+un.length)*41<=140737488355328)) (some (((A10++EW (decide (((pt.length:Nat):Int)>0),[50,46,53,46,50,57,46,51,49],false,psB pt))++EW (decide (((fr.length:Nat):Int)>0),[50,46,53,46,50,57,46,52,54],false,psB fr))++un,(0:Int))));refine DD (decide_eq_true (by omega)) (DV ?_);unfold exI;rw[hflat]
end Go.Proofs.YtfgdgdnlglejbaaGreatDoor.Pl
namespace Go.Proofs.YtfgdgdnlglejbaaGreatDoor.Pl
open IntKind (i64)
open Go Vm
def okE (e:Ex):Prop:=e.1∈iR/\e.2.2.length<=6020
theorem AtH {Q:Ex->Prop} {l:List (Bool×Ex)} (h: ∀ r∈l,r.1=true->Q r.2): ∀ e∈l.flatMap EW,Q e:=by
 intro e he;obtain⟨r,hr,hg⟩:=List.mem_flatMap.1 he;unfold EW at hg;cases h1:r.1 with
 | true=>rw[h1,cond_true,List.mem_singleton]at hg;subst hg;exact h r hr h1
 | false=>rw[h1]at hg;exact nomatch hg
theorem AuJ: ∀ l:List (Bool×Ex),(l.flatMap EW).length<=l.length:=by
 intro l
 induction l with
 | nil=>exact Nat.le_refl _
 | cons r l ih=>rw[List.flatMap_cons,List.length_append,List.length_cons];have:=Io r;omega
theorem At8 {x:Info} (h:OkI x):(exI x).length<=15:=by have:=AuJ (Ab9 x);rw[AqR]at this;have:=AlG h.un;unfold exI;rw[List.length_append];omega
theorem Avy: ∀ l∈unL,∀ e∈l,e.1∈iR/\e.2.2.length<=6020:=by decide
theorem At7 {N:Nat} (hN:1048578<N) {x:Info} (h:OkI x): ∀ e∈exI x,okE e:=by
 obtain⟨_,b2,b3,_⟩:=Aho h;have l1:=lZ h.re;have l2:=lZ h.im;have l3:=h.ia;have l4:=h.us;have hu:=Avy _ h.un;obtain⟨hb,ca,pl,us,pu,po,ma,re,im,ia,na,hc,pe,ex,sk,ak,pt,fr,un⟩:=x;dsimp only at b2 b3 l1 l2 l3 l4 hu;intro e he;rcases(List.mem_append.1 he).symm with he | he
 ·exact hu e he
 refine AtH (Q:=okE) (fun r hr h1=> ?_) e he;simp only[Ab9,List.mem_cons,List.not_mem_nil,or_false]at hr;rcases hr with rfl | rfl | rfl | rfl | rfl | rfl | rfl | rfl | rfl | rfl | rfl | rfl | rfl
 ·refine⟨(by dsimp only;decide),?_⟩;have a1:=Ab1 hN (b:=ca) (c:=Sp.elem 1 [255]) (k:=10) (fun _=>by decide);have a2:=Ab1 hN (b:=pl != -1) (c:=GI 2 pl) (k:=7) (fun e=>Sm hN (by have e2:=ne1 e;omega) (by omega));have:=Sp.Eb 48 ((bif ca then Sp.elem 1 [255]else [])++(bif pl != -1 then GI 2 pl else []));rw[List.length_append]at this;show(Agw ca pl).length<=6020;unfold Agw;omega
 ·refine⟨(by dsimp only;decide),?_⟩;have:=(Atl hN l4.1 l4.2).len;have:=Sp.Eb 3 (flB us);show(Sp.elem 3 (flB us)).length<=6020;omega
 ·refine⟨(by dsimp only;decide),?_⟩;have hl:=Ig (g:=idB) (M:=15) (l:=pu) (fun s hm=>KJ hN (Ab5 s (h.pu.all s hm)));have hk:pu.length<=3:=h.pu.len;have:=Sp.Eb 48 (pu.map idB).flatten;show(Aht pu).length<=6020;unfold Aht;omega
 ·refine⟨(by dsimp only;decide),?_⟩;have hl:=Ig (g:=fun s=>Sp.elem 48 (idB s)) (M:=20) (l:=po) (fun s hm=>by have:=KJ hN (Jy s (h.po.all s hm));have:=Sp.Eb 48 (idB s);omega);have hk:po.length<=3:=h.po.len;have:=Sp.Eb 48 (po.map fun s=>Sp.elem 48 (idB s)).flatten;show(Ahr po).length<=6020;unfold Ahr;omega
 ·refine⟨(by dsimp only;decide),?_⟩;have hl:=Ig (g:=fun m:Bs×Bs=>Sp.elem 48 (idB m.1++idB m.2)) (M:=35) (l:=ma) (fun s hm=>by have:=KJ hN (Jy _ (h.ma.all s hm).1);have:=KJ hN (Jy _ (h.ma.all s hm).2);have:=Sp.Eb 48 (idB s.1++idB s.2);rw[List.length_append]at this;omega);have hk:ma.length<=3:=h.ma.len;have:=Sp.Eb 48 (ma.map fun m:Bs×Bs=>Sp.elem 48 (idB m.1++idB m.2)).flatten;show(Ahh ma).length<=6020;unfold Ahh;omega
 ·refine⟨(by dsimp only;decide),?_⟩;have a1:=Ab1 hN (b:=re != -1) (c:=GI 128 re) (k:=7) (fun e=>Sm hN (by have e2:=ne1 e;omega) (by omega));have a2:=Ab1 hN (b:=im != -1) (c:=GI 129 im) (k:=7) (fun e=>Sm hN (by have e2:=ne1 e;omega) (by omega));have:=Sp.Eb 48 ((bif re != -1 then GI 128 re else [])++(bif im != -1 then GI 129 im else []));rw[List.length_append]at this;show(Aao re im).length<=6020;unfold Aao;omega
 ·refine⟨(by dsimp only;decide),?_⟩;have e2:=ne1 h1;have:=Sm hN (t:=2) (n:=ia) (by omega) (by omega);show(GI 2 ia).length<=6020;omega
 ·refine⟨(by dsimp only;decide),?_⟩;have hl:(Ff na).length<=1250:=Td hN h.na;have:=Sp.Eb 48 (Ff na);show(Sp.elem 48 (Ff na)).length<=6020;omega
 ·refine⟨(by dsimp only;decide),?_⟩;have:=Atw hN (ApL h h1);show(yU (pe,ex)).length<=6020;omega
 ·refine⟨(by dsimp only;decide),?_⟩;have hk:sk.length<=16:=Al3 h.sk;have:=Sp.Eb 4 sk;show(Sp.elem 4 sk).length<=6020;omega
 ·refine⟨(by dsimp only;decide),?_⟩;have hk:ak.length<=16:=AjP h.ak;have:=Sp.Eb 128 ak;have:=Sp.Eb 48 (Sp.elem 128 ak);show(Sp.elem 48 (Sp.elem 128 ak)).length<=6020;omega
 ·refine⟨(by dsimp only;decide),?_⟩;have:=Ale hN (l:=pt) (AqM h.pt h1);have:=Sp.Eb 48 (psC pt);show(psB pt).length<=6020;unfold psB;omega
 ·refine⟨(by dsimp only;decide),?_⟩;have:=Ale hN (l:=fr) (AqM h.fr h1);have:=Sp.Eb 48 (psC fr);show(psB fr).length<=6020;unfold psB;omega
section
variable (N:Nat) (hN:1048700<N)
include hN
theorem zS (t:Nat) (l:List Bs) (ht:t<256) (h31:t % 32≠31) (hl:l.length<=1000) (hs:l.flatten.length<=140737488355328):Ends (fun r=>r.1.length<=131077) (Fb N (t:Int) l) :=
 ⟨_,Aem N t l ht h31 (by omega) (by omega) hs,Arb⟩
theorem Arh {l:List Ex} (hl:l.length<=1048600) (i:Bs):Ends (fun _=>True) (UF N l i):=by
 unfold UF;try simp only[clR]
 refine F5 (fun x=>0<=x/\x<=(l.length:Int)) (fun x=>((l.length:Int) - x).toNat) ?_ N _ ⟨by omega,by omega⟩ (by omega);intro x h k hk;dsimp only;refine DI (fun hx=> ?_) (fun _=>DV trivial);have hx:=of_decide_eq_true hx;refine DD (decide_eq_true h.1) (DD (decide_eq_true hx) (DI (fun _=>DV trivial) (fun _=>hk _ ?_ ?_)))
 ·rw[w64 (by omega) (by omega)];omega
 ·rw[w64 (by omega) (by omega)];omega
theorem ArE {l:List Ex} (hl:l.length<=1048600) (hs: ∀ e∈l,okE e):Ends (fun _=>True) (OQ N l):=by
 unfold OQ;try simp only[clR]
 refine F5 (fun x=>0<=x/\x<=(l.length:Int)) (fun x=>((l.length:Int) - x).toNat) ?_ N _ ⟨by omega,by omega⟩ (by omega);intro x ⟨h0,h1⟩ k hk;dsimp only;refine DI (fun hx=> ?_) (fun hx=>DV trivial);have hx:=of_decide_eq_true hx;refine DD (decide_eq_true h0) (DD (decide_eq_true hx) ?_);have hsm:=hs _ (getD_mem ([],false,[]) (show x.toNat<l.length by omega));rw[(VY (N:=N) (by omega) hsm.1).Apc,Dz];refine DI (fun _=>DV trivial) (fun _=> ?_);refine DD (decide_eq_true h0) (DD (decide_eq_true h1) ?_);refine D8 (Arh N hN (by unfold D9;rw[List.length_drop,List.length_take];omega) _) ?_;rintro ⟨e,f⟩ _;refine DI (fun _=>DV trivial) (fun _=> ?_);have hc:=hsm.2;rw[Ahv N _ (by omega) (by omega) (by omega),Dz];refine DI (fun _=>DV trivial) (fun _=>hk _ ⟨?_,?_⟩ ?_)
 ·rw[w64 (by omega) (by omega)];omega
 ·rw[w64 (by omega) (by omega)];omega
 ·rw[w64 (by omega) (by omega)];omega
theorem vI {l:List Ex} (hl:l.length<=1048600) (hs: ∀ e∈l,okE e):Ends (fun _=>True) (J4 N l):=by
 unfold J4;try simp only[clR]
 refine DI (fun _=>DV trivial) (fun _=>DI (fun _=>DV trivial) (fun _=>D8 (ArE N hN hl hs) fun v hv=>DV trivial))
theorem o5 {l:List Ex} (hl:l.length<=1048600) (hs: ∀ e∈l,okE e):Ends (fun r=>r.1.length<=131077) (Jc N l):=by
 unfold Jc;try simp only[clR]
 refine D8 (vI N hN hl hs) fun v hv=>DI (fun _=>DV (Nat.zero_le _)) (fun h0=> ?_);refine F5 (fun x=>0<=x.2/\x.2<=(l.length:Int)/\(x.1.length:Int)<=131077*x.2) (fun x=>((l.length:Int) - x.2).toNat) ?_ N _ ⟨by dsimp only;omega,by dsimp only;omega,by simp⟩ (by dsimp only;omega);rintro ⟨a,x⟩ ⟨h1,h2,h3⟩ k hk;dsimp only at h1 h2 h3;dsimp only[U2];refine DI (fun hx=> ?_) (fun hx=> ?_)
 ·have hx:=of_decide_eq_true hx;refine DD (decide_eq_true h1) (DD (decide_eq_true hx) ?_);have hm:=getD_mem ([],false,[]) (show x.toNat<l.length by omega);have hsm:=hs _ hm;generalize l.getD x.toNat ([],false,[])=e at hsm ⊢;have w:DR N 1 ([([255]:Bs)]:List Bs)=some (Sp.elem 1 [255]):=MN N 1 [[255]] (by omega) (by omega) (by omega) (by decide) (by decide);refine SY (P:=fun y=>y.1.length<=10/\y.2=e) (fun j hj=>DI (fun _=> ?_) (fun _=>hj _ ⟨Nat.zero_le _,rfl⟩)) ?_
  ·rw[show ND N true=some [255]from rfl,Dz,w,Dz];exact hj _ ⟨(by decide:(Sp.elem 1 [255]).length<=10),rfl⟩
  rintro ⟨c,y⟩ ⟨hc,he⟩;dsimp only at hc he;subst he;dsimp only[U4];have hb:=hsm.2;refine D8 (zS N hN 4 [y.2.2] (by omega) (by omega) (by simp) (by rw[Ez];omega)) fun r hr=> ?_;refine DI (fun _=>DV (Nat.zero_le _)) (fun _=> ?_);rw[(VY (N:=N) (by omega) hsm.1).jJ,Dz];have ho:(Sp.elem 6 (idT y.1)).length<=15:=KJ (N:=N) (by omega) hsm.1;refine D8 (zS N hN 48 [Sp.elem 6 (idT y.1),c,r.1] (by omega) (by omega) (by simp) (by simp;omega)) fun q hq=> ?_;refine DI (fun _=>DV (Nat.zero_le _)) (fun _=>DD (decide_eq_true (by omega)) (hk _ ⟨?_,?_,?_⟩ ?_))
  ·dsimp only;rw[w64 (by omega) (by omega)];omega
  ·dsimp only;rw[w64 (by omega) (by omega)];omega
  ·dsimp only;rw[w64 (by omega) (by omega),List.length_append];omega
  ·dsimp only;rw[w64 (by omega) (by omega)];omega
 ·refine D8 (zS N hN 48 [a] (by omega) (by omega) (by simp) (by rw[Ez];omega)) fun r hr=>DV hr
theorem AgO {x:Info} (hx:OkI x):Ends (fun r=>r.1.length<=131077) (NL N 163 x):=by
 unfold NL;try simp only[clR]
 rw[AuN (by omega) hx,Dz];have h1:=At7 (N:=N) (by omega) hx;have h2:=At8 hx;refine DI (fun _=>DV (Nat.zero_le _)) (fun _=> ?_);unfold XN;refine D8 (P:=fun r=>r.1.length<=131077) (D8 (o5 N hN (l:=exI x) (by omega) h1) fun v hv=>DI (fun _=>DV (Nat.zero_le _)) fun _=>D8 (zS N hN 163 [v.1] (by omega) (by omega) (by simp) (by rw[Ez];omega)) fun r hr=>DV hr) fun r hr=>DV hr
end
end Go.Proofs.YtfgdgdnlglejbaaGreatDoor.Pl
namespace Go.Proofs.YtfgdgdnlglejbaaGreatDoor.Pl
open IntKind (i64)
open Go Vm
abbrev RnT:Type:=List (Bs×Int×Bs)
abbrev GnT:Type:=Int×Bs×List RnT
abbrev PtT:Type:=List GnT×Int×Bool×List RnT
abbrev Y8T:Type:=Int×Int×Int×Int×Int×Int×Int×Int
abbrev HsT:Type:=Int×Int×Int×Int×Int×Int×Int×Int×List Int×Int
abbrev TrT:Type:=List (List Bs)×Bs×Bs×Int
abbrev SgT:Type:=Bs×Int×Int×List TrT
def Tot {α :Type} (Q: α ->Prop) (o:Option α):Prop:= ∃ v,o=some v/\Q v
theorem Tot.chk {α :Type} {Q: α ->Prop} {c:Bool} {k:Option α} (hc:c=true) (h:Tot Q k):Tot Q (Vm.chk c k):=by rw[hc];exact h
theorem Tot.call {α β :Type} [Inhabited α] {P: α ->Prop} {Q: β ->Prop} {x:Option α} {f: α ->Option β} (h:Tot P x) (hf: ∀ v,P v->Tot Q (f v)):Tot Q (Dk x f):=by obtain⟨v,rfl,hv⟩:=h;exact hf v hv
theorem Tot.bif {α :Type} {Q: α ->Prop} {b:Bool} {x y:Option α} (h1:b=true->Tot Q x) (h2:b=false->Tot Q y):Tot Q (bif b then x else y):=by
 cases b with
 | true=>exact h1 rfl
 | false=>exact h2 rfl
theorem Tot.some {α :Type} {Q: α ->Prop} {v: α} (h:Q v):Tot Q (some v):=⟨v,rfl,h⟩
theorem Tot.Aio {α :Type} {o:Option α} (h:o.isSome=true):Tot (fun _=>True) o:=by
 cases o with
 | none=>cases h
 | some v=>exact⟨v,rfl,trivial⟩
theorem Tot.mono {α :Type} {P Q: α ->Prop} {o:Option α} (h:Tot P o) (hq: ∀ v,P v->Q v):Tot Q o:=let ⟨v,e,p⟩:=h;⟨v,e,hq v p⟩
theorem Amn (l:List Int):l=(List.range l.length).map fun i=>l.getD i 0:=by
 apply List.ext_getElem
 ·simp
 ·intro i h1 h2;simp [List.getD_eq_getElem?_getD,h1]
theorem AnG (M:Nat) (p0:Y8T) (f:Nat->Int):(JZ (M+70) p0 ((List.range 64).map f)).isSome=true:=by kernel_rfl
theorem AhM {N:Nat} (hN:70<=N) (p0:Y8T) {l:List Int} (hl:l.length=64):Tot (fun _=>True) (JZ N p0 l):=by obtain⟨M,rfl⟩:=Nat.exists_eq_add_of_le' hN;have h:=AnG M p0 fun i=>l.getD i 0;rw[<- hl,<- Amn]at h;exact Tot.Aio h
theorem V3 {α :Type} (l:List α) (a b:Nat) (h:b<=l.length):(D9 l a b).length=b - a:=by simp [D9];omega
abbrev Agy (r:HsT):List Int:=r.2.2.2.2.2.2.2.2.1
theorem Ac2 (N:Nat):Tot (fun _=>True) (TZ N):=Tot.Aio (by kernel_rfl)
theorem Arc {N:Nat} (hN:70<=N) (hM:N<=1000000000) (p0:HsT) (h8:(Agy p0).length<64) (p1:Bs) (hl:p1.length+64<N):Tot (fun r=>(Agy r).length<64) (LP N p0 p1):=by
 unfold LP;try simp -zeta only[Ap]
 refine Tot.bif (fun _=>Tot.some h8) fun _=> ?_;refine Aig (fun x=>x.2.2.2.2.2.2.2.2.1.length<64) (Tot _) (fun j hj=>Tot.bif (fun _=>(Ac2 N).call fun v _=>hj _ h8) fun _=>hj _ h8) ?_;rintro ⟨b0,b1,b2,b3,b4,b5,b6,b7,b8,b9⟩ hb;have hb:b8.length<64:=hb;dsimp only[U10];refine Tot.chk (decide_eq_true (by omega)) (Tot.chk (decide_eq_true (by rw[List.length_map];omega)) ?_);refine KX (fun x=>x.1.length<N) (fun x=>x.1.length) (Tot _) ?_ N _ (by show(b8++p1.map _).length<N;rw[List.length_append,List.length_map];omega) (by show(b8++p1.map _).length<N;rw[List.length_append,List.length_map];omega);rintro ⟨t,c0,c1,c2,c3,c4,c5,c6,c7,c8,c9⟩ hI k hk;have hI:t.length<N:=hI;dsimp only[U11];refine Tot.bif (fun h=> ?_) fun h=> ?_
 ·have h:=of_decide_eq_true h;refine Tot.chk (decide_eq_true (by omega)) ((AhM hN _ (by rw[V3 _ _ _ (by omega)])).call fun v _=>Tot.chk (decide_eq_true (by omega)) (hk _ ?_ ?_))
  ·show(D9 t 64 t.length).length<N;rw[V3 _ _ _ (Nat.le_refl _)];omega
  ·show(D9 t 64 t.length).length<t.length;rw[V3 _ _ _ (Nat.le_refl _)];omega
 ·have h:=of_decide_eq_false h;refine Tot.chk (decide_eq_true (by omega)) (Tot.some ?_);show t.length<64;omega
theorem Avu (n:Nat):(n:Int).tmod 64=((n % 64:Nat):Int):=by rw[Int.tmod_eq_emod_of_nonneg (by omega)];omega
theorem Ato {N:Nat} (hN:150<=N) (p0:HsT) (h8:(Agy p0).length<64):Tot (fun r=>r.1.length=32) (OH N p0):=by
 unfold OH;try simp -zeta only[Ap]
 refine(Ac2 N).call fun v _=>Tot.chk rfl ?_;refine Aig (fun x=>x.2.2.2.2.2.2.2.2.2.2.2.1.length=8/\x.2.2.2.2.2.2.2.2.2.2.2.2.length<64) (Tot _) (fun j hj=>Tot.bif (fun _=>Tot.chk (decide_eq_true (by have:p0.2.2.2.2.2.2.2.2.1.length<64:=h8;omega)) (hj _ ⟨rfl,h8⟩)) fun _=>hj _ ⟨rfl,by show 0<64;omega⟩) ?_;rintro ⟨t,b0,b1,b2,b3,b4,b5,b6,b7,b8,b9,l1,l2⟩ ⟨h1,h2⟩;have h1:l1.length=8:=h1;have h2:l2.length<64:=h2;dsimp only[U13];refine Tot.chk (decide_eq_true (by omega)) ?_;refine KX (fun x=>x.2.2.2.2.2.2.2.2.2.2.1.length=8/\x.2.2.2.2.2.2.2.2.2.2.2.length<=120) (fun x=>120 - x.2.2.2.2.2.2.2.2.2.2.2.length) (Tot _) ?_ N _ ⟨h1,by show(l2++_).length<=120;simp;omega⟩ (by show 120 - _<N;omega);rintro ⟨b0,b1,b2,b3,b4,b5,b6,b7,b8,b9,l1,l2⟩ ⟨h1,h2⟩ k hk;have h1:l1.length=8:=h1;have h2:l2.length<=120:=h2;dsimp only[U12];rw[Avu];refine Tot.bif (fun h=> ?_) fun h=> ?_
 ·have h: ¬((l2.length % 64:Nat):Int)=56:=bne_iff_ne.1 h;refine Tot.chk (decide_eq_true (by omega)) (hk _ ⟨h1,?_⟩ ?_)
  ·show(l2++[0]).length<=120;simp;omega
  ·show 120 - (l2++[0]).length<120 - l2.length;simp;omega
 ·have h:((l2.length % 64:Nat):Int)=56:=by simpa using h
  clear k hk;refine KX (fun x=>x.2.2.2.2.2.2.2.2.2.2.2.1.length=8/\ -1<=x.1/\x.1<=7/\((x.2.2.2.2.2.2.2.2.2.2.2.2.length:Int)+x.1+1) % 64=0/\(x.2.2.2.2.2.2.2.2.2.2.2.2.length:Int)+x.1+1<=128) (fun x=>(x.1+1).toNat) (Tot _) ?_ N _ ⟨h1,by show(-1:Int)<=7;omega,by show(7:Int)<=7;omega,by show((l2.length:Int)+7+1) % 64=0;omega,by show(l2.length:Int)+7+1<=128;omega⟩ (by show((7:Int)+1).toNat<N;omega);rintro ⟨t,b0,b1,b2,b3,b4,b5,b6,b7,b8,b9,l1,l2⟩ ⟨h1,h3,h4,h5,h6⟩ k hk;have h1:l1.length=8:=h1;have h3: -1<=t:=h3;have h4:t<=7:=h4;have h5:((l2.length:Int)+t+1) % 64=0:=h5;have h6:(l2.length:Int)+t+1<=128:=h6;dsimp only[U13];refine Tot.bif (fun h=> ?_) fun h=> ?_
  ·have h:=of_decide_eq_true h;refine Tot.chk (decide_eq_true (by rw[wu64 (x:=t) (by omega) (by omega),wu64 (by omega) (by omega)];omega)) (Tot.chk (decide_eq_true (by omega)) (hk _ ⟨h1,?_⟩ ?_))
   ·show -1<=i64.wrap (t - 1)/\i64.wrap (t - 1)<=7/\(((l2++[_]).length:Int)+i64.wrap (t - 1)+1) % 64=0/\((l2++[_]).length:Int)+i64.wrap (t - 1)+1<=128;rw[w64 (by omega) (by omega)];simp;omega
   ·show(i64.wrap (t - 1)+1).toNat<(t+1).toNat
    rw[w64 (by omega) (by omega)];omega
  ·have h:=of_decide_eq_false h;have ht:t= -1:=by omega
   subst ht;clear k hk;refine KX (fun x=>x.2.2.2.2.2.2.2.2.2.2.2.length=8/\x.1.length % 64=0/\x.1.length<=128) (fun x=>x.1.length) (Tot _) ?_ N _ ⟨h1,by show l2.length % 64=0;omega,by show l2.length<=128;omega⟩ (by show l2.length<N;omega);rintro ⟨t,b0,b1,b2,b3,b4,b5,b6,b7,b8,b9,l1⟩ ⟨h1,h2,h3⟩ k hk;have h1:l1.length=8:=h1;have h2:t.length % 64=0:=h2;have h3:t.length<=128:=h3;dsimp only[U12];refine Tot.bif (fun h=> ?_) fun h=> ?_
   ·have h:=of_decide_eq_true h;refine Tot.chk (by rw[h1];rfl) (Tot.chk (decide_eq_true (by omega)) ((AhM (by omega) _ (by rw[V3 _ _ _ (by omega)])).call fun v _=>Tot.chk (by rw[h1];rfl) (Tot.chk (decide_eq_true (by omega)) (hk _ ⟨rfl,?_⟩ ?_))))
    ·show(D9 t 64 t.length).length % 64=0/\(D9 t 64 t.length).length<=128;rw[V3 _ _ _ (Nat.le_refl _)];omega
    ·show(D9 t 64 t.length).length<t.length;rw[V3 _ _ _ (Nat.le_refl _)];omega
   ·clear k hk h;dsimp only[U11];refine Tot.chk (by rw[h1];rfl) ?_;refine KX (fun x=>0<=x.1/\x.1<=8/\(x.2.2.2.2.2.2.2.2.2.2.2.length:Int)=4*x.1/\x.2.2.2.2.2.2.2.2.2.2.2.all Vm.isByte=true) (fun x=>(8 - x.1).toNat) (Tot _) ?_ N _ ⟨by show(0:Int)<=0;omega,by show(0:Int)<=8;omega,rfl,rfl⟩ (by show((8:Int) - 0).toNat<N;omega);rintro ⟨t,b0,b1,b2,b3,b4,b5,b6,b7,b8,b9,l⟩ ⟨h1,h2,h3,h4⟩ k hk;have h1:0<=t:=h1;have h2:t<=8:=h2;have h3:(l.length:Int)=4*t:=h3;have h4:l.all Vm.isByte=true:=h4;dsimp only[U12];refine Tot.bif (fun h=> ?_) fun h=> ?_
    ·have h:=of_decide_eq_true h;refine Tot.chk (decide_eq_true (by omega)) (Tot.chk (decide_eq_true (by omega)) (Tot.chk (decide_eq_true (by omega)) (hk _ ?_ ?_)))
     ·show 0<=i64.wrap (t+1)/\i64.wrap (t+1)<=8/\((l++[_,_,_,_]).length:Int)=4*i64.wrap (t+1)/\(l++[_,_,_,_]).all Vm.isByte=true;rw[w64 (by omega) (by omega)];refine⟨by omega,by omega,by simp;omega,?_⟩;rw[List.all_append,h4];simp only[List.all_cons,KW,List.all_nil,Bool.and_self]
     ·show(8 - i64.wrap (t+1)).toNat<(8 - t).toNat
      rw[w64 (by omega) (by omega)];omega
    ·have h:=of_decide_eq_false h;dsimp only[U11];refine Tot.chk h4 (Tot.some ?_);show(l.map Vm.byteOf).length=32;rw[List.length_map];omega
theorem ArO {N:Nat} (hN:150<=N) (hM:N<=1000000000) {l:List Bs} (hl:l.length<N) (hs: ∀ s∈l,s.length+64<N):Tot (fun r=>r.length=32) (pW N l):=by
 unfold pW;try simp -zeta only[Ap]
 refine Tot.call (P:=fun r=>(Agy r).length<64) ⟨_,rfl,by show 0<64;omega⟩ fun v hv=> ?_;refine KX (fun x=>0<=x.1/\x.1<=(l.length:Int)/\(Agy x.2).length<64) (fun x=>((l.length:Int) - x.1).toNat) (Tot _) ?_ N _ ⟨by show(0:Int)<=0;omega,by show(0:Int)<=l.length;omega,hv⟩ (by show((l.length:Int) - 0).toNat<N;omega);rintro ⟨t,b0,b1,b2,b3,b4,b5,b6,b7,b8,b9⟩ ⟨h1,h2,h3⟩ k hk;have h1:0<=t:=h1;have h2:t<=(l.length:Int):=h2;dsimp only[U11];refine Tot.bif (fun h=> ?_) fun h=> ?_
 ·have h:=of_decide_eq_true h;have hlt:t.toNat<l.length:=by omega
  refine Tot.chk (decide_eq_true h1) (Tot.chk (decide_eq_true h) ((Arc (by omega) hM _ h3 _ (by rw[getD_lt _ _ _ hlt];exact hs _ (List.getElem_mem hlt))).call fun v hv=>hk _ ?_ ?_))
  ·show 0<=i64.wrap (t+1)/\i64.wrap (t+1)<=(l.length:Int)/\(Agy v).length<64;rw[w64 (by omega) (by omega)];exact⟨by omega,by omega,hv⟩
  ·show((l.length:Int) - i64.wrap (t+1)).toNat<((l.length:Int) - t).toNat
   rw[w64 (by omega) (by omega)];omega
 ·dsimp only[U10];exact(Ato hN _ h3).call fun v hv=>Tot.some hv
theorem Ap0 {N:Nat} (hN:150<=N) (hM:N<=1000000000) {l:List Bs} (hl:l.length<N) (hs: ∀ s∈l,s.length+64<N):Tot (fun r=>r.length=16) (Gy N l):=by
 unfold Gy;try simp -zeta only[Ap]
 refine(ArO hN hM hl hs).call fun v hv=>Tot.chk (decide_eq_true (by omega)) (Tot.some ?_);rw[V3 _ _ _ (by omega)]
