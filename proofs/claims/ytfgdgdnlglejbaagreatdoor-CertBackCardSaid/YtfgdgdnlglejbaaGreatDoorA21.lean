import Derived.Test.YtfgdgdnlglejbaaGreatDoorA20
set_option linter.all false
namespace Go.Proofs.YtfgdgdnlglejbaaGreatDoor.Pl
open IntKind (i64)
open Go Vm
def Art (M:Nat) (g:Gn):Bool:=GH (M+300) g true==some 0&&(FY (M+300) g true==some 0&&(G6 (M+300) g true==some (F5 g,0)&&(H7 (M+300) g true==some (F5 g,0) &&
 (GV (M+300) (TY g) true==some (g,0)&&(g.2.2.isEmpty&&(decide ((gnT g).2.length<=40)&&(decide ((gnT g).1<256)&&(decide ((gnT g).1 % 32≠31)&& !Sp.cons (gnT g).1))))))))
theorem ApC (M:Nat):Ac9.all (Art M)=true:=by kernel_rfl
structure Ata (N:Nat) (g:Gn):Prop where
 chk:GH N g true=some 0
 AqE:FY N g true=some 0
 enc:G6 N g true=some (F5 g,0)
 Ana:H7 N g true=some (F5 g,0)
 dec:GV N (TY g) true=some (gnK g,0)
 fine:Fine (gnT g)
 len:(gnT g).2.length<=620
 Afb:gnT (gnK g)=gnT g
 okK:okB (gnK g)
 par: ∀ d,d<=6->Par d (F5 g) [TY g]
section
variable {N:Nat} (hN:1048578<N)
include hN
theorem Asa {n:List (List Att)} (hn:okN n):Ata N (4,[],n):=by
 have h1:=KX hN hn;have h2:=fH hN hn;have h3:=VT hN hn;have h4:=xZ hN hn;have h5:=fG hN hn;have hC:=zU hN hn;have h6:=KX hN hC;have hl:=kE hN hn;have w:Ej N 164 [nmT n]=_:=SQ N 164 [nmT n] (by omega) (by omega) hN (by simp) (by rw[EI];omega);have v:FZ N 164 [nmT n]=_:=AmY N 164 [nmT n] (by omega) (by omega) hN (by simp) (by rw[EI];omega);rw[EI]at w v
 have c1: ∀ m:List (List Att),Hf N m=some 0->GH N (4,[],m) true=some 0:=by
  intro m hm;unfold GH mX;try simp only[clR]
  simp (disch:=first | assumption | omega) only[DT,hm,Option.isSome_some,Option.getD_some];try rfl
 have c2:FY N (4,[],n) true=some 0:=by
  unfold FY;try simp only[clR]
  dsimp only[U4,Gm];simp (disch:=first | assumption | omega) only[DT,h2,Option.isSome_some,Option.getD_some];try rfl
 have hf:Fine (164,nmT n):=(FV (by decide) (by decide) (by omega))
 refine⟨c1 n h1,c2,?_,?_,?_,hf,hl,?_,Or.inr ⟨_,hC,rfl⟩,fun d hd=>GM hf (by omega) (zT hN hn (by omega)).nest⟩
 ·unfold G6;try simp only[clR]
  simp (disch:=first | assumption | omega) only[DT,c1 n h1,h3];show Dj (Ej N 164 [nmT n]) _=_;rw[w];rfl
 ·unfold H7;try simp only[clR]
  simp (disch:=first | assumption | omega) only[DT,c2,h4];show Dj (FZ N 164 [nmT n]) _=_;rw[v];rfl
 ·have c3:=c1 _ h6;unfold GV;try simp only[clR]
  show _=some ((4,[],nmC n),0);dsimp only[TY,gnT,Ea];simp (disch:=first | assumption | omega) only[DT,h5,c3,Abu];try rfl
 ·show(164,nmT (nmC n))=(164,nmT n);unfold nmT;rw[Ah4 hN hn]
theorem aY {g:Gn} (h:okB g):Ata N g:=by
 rcases h with h | ⟨n,hn,rfl⟩
 ·have hh:=h;obtain⟨M,rfl⟩:=ofM hN;have h:=List.all_eq_true.1 (ApC M) g h;unfold Art at h;simp only[Bool.and_eq_true,beq_iff_eq,decide_eq_true_eq,Bool.not_eq_true',List.isEmpty_iff]at h;obtain⟨h1,h2,h3,h4,h5,h6,h7,h8,h9,h10⟩:=h;have hk:gnK g=g:=by obtain⟨k,s,n⟩:=g;dsimp only at h6;subst h6;rfl
  have hf:Fine (gnT g):=⟨h8,h9,by omega⟩
  exact⟨h1,h2,h3,h4,by rw[hk];exact h5,hf,by omega,by rw[hk],by rw[hk];exact Or.inl hh,fun d hd=>JF hf (by omega) h10⟩
 ·exact Asa hN hn
theorem aZ {g:Gn} (h:okB g):(F5 g).length<=625:=by have:=(aY hN h).len;have:=Sp.DF (gnT g).1 (gnT g).2;unfold F5;omega
end
theorem of0 {o:Option Int} (h:Ends (fun r=>r=0) o):o=some 0:=by obtain⟨v,rfl,rfl⟩:=h;rfl
def PI (l:List Gn):Bs:=(l.map fun g=>Sp.elem 48 (F5 g)).flatten
def partT (t:Nat) (l:List Gn):Bs:=bif l.isEmpty then []else Sp.elem t (PI l)
def PU (s:List Gn×List Gn):Bs:=Sp.elem 48 (partT 160 s.1++partT 161 s.2)
theorem Aue {s:List Gn×List Gn} (h:okS s):(((s.1.length:Int)==0)&&((s.2.length:Int)==0))=false:=by
 obtain⟨a,b⟩:=s;have:=h.ne;cases a with
 | nil=>cases b with
  | nil=>simp at this
  | cons _ _=>simp;omega
 | cons _ _=>simp;omega
section
variable {N:Nat} (hN:1048578<N) {s:List Gn×List Gn} (h:okS s)
include hN h
theorem yV:Il N s=some 0:=by
 have l0:=h.l0;have l1:=h.l1;refine of0 ?_;unfold Il;try simp only[clR]
 rw[Aue h,cond_false,decide_eq_false (by omega),decide_eq_false (by omega)];refine FW (fun x=>0<=x.1/\x.1<=2/\x.2=[s.1,s.2]) (fun x=>(2 - x.1).toNat) ?_ N _ ⟨by dsimp only;omega,by dsimp only;omega,rfl⟩ (by dsimp only;omega);rintro ⟨i,l⟩ ⟨i0,i1,hl⟩ k hk;dsimp only at i0 i1 hl;subst hl;dsimp only[U2];refine DX (fun hi=> ?_) (fun _=>EK rfl);have hi:=of_decide_eq_true hi;refine DC (decide_eq_true i0) (DC (decide_eq_true (by show i<2;omega)) (DC (decide_eq_true (by show i.toNat<2;omega)) ?_))
 have hg: ∀ g∈ [s.1,s.2].getD i.toNat [],okB g:=by
  have:i=0\/i=1:=by omega
  rcases this with rfl | rfl
  ·exact h.a0
  ·exact h.a1
 have hlen:([s.1,s.2].getD i.toNat []).length<=3:=by
  have:i=0\/i=1:=by omega
  rcases this with rfl | rfl
  ·exact l0
  ·exact l1
 refine FW (fun x=>0<=x.1/\x.1<=(([s.1,s.2].getD i.toNat []).length:Int)/\x.2=[s.1,s.2]) (fun x=>((([s.1,s.2].getD i.toNat []).length:Int) - x.1).toNat) ?_ N _ ⟨by dsimp only;omega,by dsimp only;omega,rfl⟩ (by dsimp only;omega);rintro ⟨j,l⟩ ⟨j0,j1,hl⟩ k' hk';dsimp only at j0 j1 hl;subst hl;dsimp only[U2];refine DX (fun hj=> ?_) (fun _=> ?_)
 ·have hj:=of_decide_eq_true hj;refine DC (decide_eq_true j0) (DC (decide_eq_true hj) ?_);rw[(aY hN (hg _ (getD_mem (0,[],[]) (by omega)))).chk,Dn];refine DX (fun e=>by cases e) (fun _=>hk' _ ⟨?_,?_,rfl⟩ ?_)
  ·dsimp only;rw[w64 (by omega) (by omega)];omega
  ·dsimp only;rw[w64 (by omega) (by omega)];omega
  ·dsimp only;rw[w64 (by omega) (by omega)];omega
 ·refine hk _ ⟨?_,?_,rfl⟩ ?_
  ·dsimp only;rw[w64 (by omega) (by omega)];omega
  ·dsimp only;rw[w64 (by omega) (by omega)];omega
  ·dsimp only;rw[w64 (by omega) (by omega)];omega
end
section
variable {N:Nat} (hN:1048578<N) {l:List Gn} (h3:l.length<=3) (h: ∀ g∈l,okB g)
include hN h3 h
theorem pU:(PI l).length<=1890:=by
 have:=Gs (g:=fun g=>Sp.elem 48 (F5 g)) (M:=630) (l:=l) fun g hg=>by have:=aZ hN (h g hg);have:=Sp.DF 48 (F5 g);omega
 unfold PI;omega
theorem oG (t:Nat):(partT t l).length<=1895:=by
 have:=pU hN h3 h;have:=Sp.DF t (PI l);unfold partT;cases l.isEmpty with
 | true=>exact Nat.zero_le _
 | false=>rw[cond_false];omega
theorem AoZ (t:Nat) (ht:t<256) (h31:t % 32≠31):Ha N (t:Int) l=some (partT t l,0):=by
 have hb:=pU hN h3 h;unfold Ha partT;try simp only[clR]
 cases l with
 | nil=>rfl
 | cons g r =>
  rw[TK (by simp;omega),cond_false];refine(KH (mk:=fun i a=>((i:Int),a)) (g::r) (0,[],[]) (fun g=>Sp.elem 48 (F5 g)) (fun a=>Dj (Ej N (t:Int) a) fun r=>some (r.1,r.2)) ?_ ?_ N (by omega)).trans ?_
  ·intro i a hlt ha k;have hg:=h _ (getD_mem (0,[],[]) hlt);have e1:=(aY hN hg).enc;have gl:=aZ hN hg;have w:Ej N 48 [F5 ((g::r).getD i (0,[],[]))]=_:=SQ N 48 [F5 ((g::r).getD i (0,[],[]))] (by omega) (by omega) hN (by simp) (by rw[EI];omega);rw[EI]at w;simp (disch:=first | assumption | omega) only[DT,e1,w,ES];try rfl
  ·intro a k ha;simp (disch:=first | assumption | omega) only[DT]
  ·have w:=SQ N t ((g::r).map fun g=>Sp.elem 48 (F5 g)) ht h31 hN (by rw[List.length_map];omega) (by unfold PI at hb;omega);rw[w,Dn];rfl
end
section
variable {N:Nat} (hN:1048578<N) {s:List Gn×List Gn} (h:okS s)
include hN h
theorem AkJ:(PU s).length<=3800:=by have a:=oG hN h.l0 h.a0 160;have b:=oG hN h.l1 h.a1 161;have:=Sp.DF 48 (partT 160 s.1++partT 161 s.2);rw[List.length_append]at this;unfold PU;omega
theorem AuR:QP N s=some (PU s,0):=by have a:=oG hN h.l0 h.a0 160;have b:=oG hN h.l1 h.a1 161;have w:Ej N 48 [partT 160 s.1,partT 161 s.2]=_:=SQ N 48 [partT 160 s.1,partT 161 s.2] (by omega) (by omega) hN (by simp) (by rw[Yh,List.length_append];omega);rw[Yh]at w;have e1:Ha N 160 s.1=_:=AoZ hN h.l0 h.a0 160 (by omega) (by omega);have e2:Ha N 161 s.2=_:=AoZ hN h.l1 h.a1 161 (by omega) (by omega);unfold QP;rw[yV hN h,Dn,show((0:Int) != 0)=false from rfl,cond_false,e1,Dn];dsimp only;rw[show((0:Int) != 0)=false from rfl,cond_false,e2,Dn];dsimp only;rw[show((0:Int) != 0)=false from rfl,cond_false,w,Dn];rfl
end
end Go.Proofs.YtfgdgdnlglejbaaGreatDoor.Pl
namespace Go.Proofs.YtfgdgdnlglejbaaGreatDoor.Pl
open IntKind (i64)
open Go Vm
theorem Ar8 {α :Type} {l:List α} (h:l.Nodup) (d: α) {i j:Nat} (hij:j<i) (hi:i<l.length):l.getD j d≠l.getD i d:=by rw[getD_lt l i d hi,getD_lt l j d (by omega)];exact List.pairwise_iff_getElem.1 h j i (by omega) hi hij
theorem Aoa {α :Type} (l:List α) (d: α) {i j:Nat} (hij:j<i) (hi:i<l.length):(D7 l 0 i).getD j d=l.getD j d:=by
 have:D7 l 0 i=l.take i:=by unfold D7;rw[List.drop_zero]
 rw[this,getD_lt l j d (by omega),getD_lt _ j d (by rw[List.length_take];omega),List.getElem_take]
theorem Arx {α :Type} (l:List α) {i:Nat} (hi:i<=l.length):(D7 l 0 i).length=i:=by unfold D7;rw[List.drop_zero,List.length_take];omega
theorem FT: ∀ s∈SG,s∈Ub:=by decide
theorem VD: ∀ s∈SH,s∈Ub:=by decide
section
variable {N:Nat} (hN:1048578<N) {L l:List Bs} (hL: ∀ s∈L,s∈Ub) (h:bP L l)
include hN hL h
theorem Ar3 {m:Int} (hm:3<=m):Iu N l m=some 0:=by
 have h3:=h.len;refine of0 ?_;unfold Iu;try simp only[clR]
 rw[decide_eq_false (by omega),cond_false];refine FW (fun x=>0<=x/\x<=(l.length:Int)) (fun x=>((l.length:Int) - x).toNat) ?_ N _ ⟨by omega,by omega⟩ (by omega);intro i ⟨i0,i1⟩ k hk;dsimp only;refine DX (fun hi=> ?_) (fun _=>EK rfl);have hi:=of_decide_eq_true hi;refine DC (decide_eq_true i0) (DC (decide_eq_true hi) ?_);rw[(P5 hN (hL _ (h.all _ (getD_mem [] (show i.toNat<l.length by omega))))).val,Dn];refine DX (fun e=>by cases e) (fun _=>DC (decide_eq_true i0) (DC (decide_eq_true i1) ?_));have hc:=Arx l (i:=i.toNat) (by omega);refine FW (fun x=>0<=x/\x<=i) (fun x=>(i - x).toNat) ?_ N _ ⟨by omega,by omega⟩ (by omega);intro j ⟨j0,j1⟩ k' hk';dsimp only;refine DX (fun hj=> ?_) (fun _=> ?_)
 ·have hj:=of_decide_eq_true hj;rw[hc]at hj;refine DC (decide_eq_true j0) (DC (decide_eq_true (by omega)) ?_);have hne:=Ar8 h.nod [] (i:=i.toNat) (j:=j.toNat) (by omega) (by omega);rw[Aoa l [] (i:=i.toNat) (j:=j.toNat) (by omega) (by omega)];refine DX (fun e=>absurd (beq_iff_eq.1 e).symm hne) (fun _=>hk' _ ⟨?_,?_⟩ ?_)
  ·rw[w64 (by omega) (by omega)];omega
  ·rw[w64 (by omega) (by omega)];omega
  ·rw[w64 (by omega) (by omega)];omega
 ·refine hk _ ⟨?_,?_⟩ ?_
  ·rw[w64 (by omega) (by omega)];omega
  ·rw[w64 (by omega) (by omega)];omega
  ·rw[w64 (by omega) (by omega)];omega
end
section
variable {N:Nat} (hN:1048578<N) {l:List (Bs×Bs)} (h:AdN l)
include hN h
theorem AtW:I5 N l=some 0:=by
 have h3:=h.len;refine of0 ?_;unfold I5;try simp only[clR]
 rw[decide_eq_false (by omega),cond_false];refine FW (fun x=>0<=x/\x<=(l.length:Int)) (fun x=>((l.length:Int) - x).toNat) ?_ N _ ⟨by omega,by omega⟩ (by omega);intro i ⟨i0,i1⟩ k hk;dsimp only;refine DX (fun hi=> ?_) (fun _=>EK rfl);have hi:=of_decide_eq_true hi;refine DC (decide_eq_true i0) (DC (decide_eq_true hi) ?_);have hm:=h.all _ (getD_mem ([],[]) (show i.toNat<l.length by omega));have e1:=(P5 hN (FT _ hm.1)).val;have e2:=(P5 hN (FT _ hm.2)).val;rw[e1,Dn];simp only[e2,Option.isSome_some,Option.getD_some,Bool.true_or,Gh,Bool.not_true,Bool.or_false,cond_false];refine DC (decide_eq_true i0) (DC (decide_eq_true i1) ?_);have hc:=Arx l (i:=i.toNat) (by omega);refine FW (fun x=>0<=x.1/\x.1<=i/\x.2=l.getD i.toNat ([],[])) (fun x=>(i - x.1).toNat) ?_ N _ ⟨by dsimp only;omega,by dsimp only;omega,rfl⟩ (by dsimp only;omega);rintro ⟨j,a,b⟩ ⟨j0,j1,hab⟩ k' hk';dsimp only at j0 j1 hab;dsimp only[U3];refine DX (fun hj=> ?_) (fun _=> ?_)
 ·have hj:=of_decide_eq_true hj;rw[hc]at hj;refine DC (decide_eq_true j0) (DC (decide_eq_true (by omega)) ?_);have hne:=Ar8 h.nod ([],[]) (i:=i.toNat) (j:=j.toNat) (by omega) (by omega);rw[Aoa l ([],[]) (i:=i.toNat) (j:=j.toNat) (by omega) (by omega)];refine DX (fun e=> ?_) (fun _=>hk' _ ⟨?_,?_,hab⟩ ?_)
  ·simp only[Bool.and_true,Bool.and_eq_true,beq_iff_eq]at e;exact absurd (by rw[<- hab,e.1,e.2]) hne
  ·dsimp only;rw[w64 (by omega) (by omega)];omega
  ·dsimp only;rw[w64 (by omega) (by omega)];omega
  ·dsimp only;rw[w64 (by omega) (by omega)];omega
 ·refine hk _ ⟨?_,?_⟩ ?_
  ·rw[w64 (by omega) (by omega)];omega
  ·rw[w64 (by omega) (by omega)];omega
  ·rw[w64 (by omega) (by omega)];omega
end
end Go.Proofs.YtfgdgdnlglejbaaGreatDoor.Pl
namespace Go.Proofs.YtfgdgdnlglejbaaGreatDoor.Pl
open IntKind (i64)
open Go Vm
theorem Ael (N:Nat) {n:Int} (h0: -1<=n) (h1:n<=64):Ic N n=some true:=by
 unfold Ic;try simp only[clR]
 first
 | rw[decide_eq_true (by omega),decide_eq_true (by omega)];rfl
 | simp;omega
theorem Atq {ca:Bool} {pl:Int} (h:(ca,pl)∈dI): -1<=pl/\pl<=3/\(pl≠ -1->ca=true):=by simp only[dI,List.mem_cons,Prod.mk.injEq,List.not_mem_nil,or_false]at h;rcases h with ⟨rfl,rfl⟩ | ⟨rfl,rfl⟩ | ⟨rfl,rfl⟩ | ⟨rfl,rfl⟩ | ⟨rfl,rfl⟩ | ⟨rfl,rfl⟩<;>decide
theorem AdB {n:Int} (h:n∈Uf): -1<=n/\n<=3:=by simp only[Uf,List.mem_cons,List.not_mem_nil,or_false]at h;omega
theorem Af6 {x:Info} (h:OkI x):(x.2.1&& !x.1)=false/\ -1<=x.2.2.1/\x.2.2.1<=3/\((x.2.2.1 != -1)&& !x.2.1)=false:=by
 rcases h.bas with ⟨a,b⟩ | ⟨a,b,c⟩
 ·obtain⟨p,q,r⟩:=Atq b;refine⟨by rw[a];simp,p,q,?_⟩;by_cases e:x.2.2.1= -1
  ·rw[e];rfl
  ·rw[r e];simp
 ·rw[a,b,c];exact⟨rfl,by omega,by omega,rfl⟩
theorem Aek {s:Bs} (h:s∈skL):s.length<=16:=by
 have: ∀ s∈skL,s.length<=16:=by decide
 exact this s h
theorem uD {s:Bs} (h:s∈akL):s.length<=16:=by
 have: ∀ s∈akL,s.length<=16:=by decide
 exact this s h
theorem zD {l:List Ex} (h:l∈unL):l.length<=2:=by
 have: ∀ l∈unL,l.length<=2:=by decide
 exact this l h
section
variable {N:Nat} (hN:1048578<N)
include hN
theorem ArC {l:List Pt} (h:l=[]\/Qi l):EU N l=some 0:=by
 rcases h with rfl | h
 ·obtain⟨M,rfl⟩:=ofM hN;kernel_rfl
 ·exact Acm hN h
theorem ArV {x:Info} (h:OkI x):IY N x=some 0:=by
 obtain⟨hb,ca,pl,us,pu,po,ma,re,im,ia,na,hc,pe,ex,sk,ak,pt,fr,un⟩:=x;unfold IY;try simp only[clR]
 rcases h.con with ⟨c0,c1,c2⟩ | ⟨c0,c1⟩
 ·dsimp only at c0 c1 c2;subst c0 c1 c2;rfl
 ·dsimp only at c0 c1;subst c0;rw[cond_true,yV hN c1,Dn]
theorem Avk {l:List Ex} (h:l∈unL):Oe N l=some 0:=by obtain⟨M,rfl⟩:=ofM hN;simp only[unL,List.mem_cons,List.not_mem_nil,or_false]at h;rcases h with rfl | rfl | rfl | rfl | rfl<;>kernel_rfl
omit hN in
theorem ApW (x:Info) (i:Nat) (hi:i<13):Ends (fun _=>True) (jG N (((Ib 0).getD []).getD i ([],0,0,0,0)).2.2.1 x):=by
 have:i=0\/i=1\/i=2\/i=3\/i=4\/i=5\/i=6\/i=7\/i=8\/i=9\/i=10\/i=11\/i=12:=by omega
 rcases this with rfl | rfl | rfl | rfl | rfl | rfl | rfl | rfl | rfl | rfl | rfl | rfl | rfl
 all_goals
  obtain⟨hb,ca,pl,us,pu,po,ma,re,im,ia,na,hc,pe,ex,sk,ak,pt,fr,un⟩:=x;first
  | exact⟨_,rfl,trivial⟩
  | (have e: ∃ v,J7 N (hb,ca,pl,us,pu,po,ma,re,im,ia,na,hc,pe,ex,sk,ak,pt,fr,un)=some v:=by
      unfold J7;try simp only[clR]
      exact⟨_,rfl⟩
     obtain⟨v,e⟩:=e;exact⟨v,e,trivial⟩)
theorem Afo {x:Info} (h:OkI x):Jj N x=some 0:=by
 refine of0 ?_;obtain⟨b1,b2,b3,b4⟩:=Af6 h;have e7:=ArV hN h;obtain⟨hb,ca,pl,us,pu,po,ma,re,im,ia,na,hc,pe,ex,sk,ak,pt,fr,un⟩:=x;dsimp only at b1 b2 b3 b4;have l1:=AdB h.re;have l2:=AdB h.im;have l3:=h.ia;have l4:=h.us;dsimp only at l1 l2 l3 l4;unfold Jj;try simp only[clR]
 simp only[Ael N (n:=pl) (by omega) (by omega),Ael N (n:=re) (by omega) (by omega),Ael N (n:=im) (by omega) (by omega),Ael N (n:=ia) (by omega) (by omega),Dn,Option.isSome_some,Option.getD_some,Bool.true_or,Gh,Bool.not_true,Bool.false_or];rw[b1,b4,decide_eq_false (show ¬ us<0 by omega),decide_eq_false (show ¬ us>511 by omega)];refine DC (by cases pl != -1<;>rfl) (DX (fun e=>by cases e) (fun _=>DX (fun e=>by cases e) (fun _=> ?_)));have e1:Iu N pu 8=some 0:=Ar3 hN VD h.pu (by omega);have e2:Iu N po 8=some 0:=Ar3 hN FT h.po (by omega);have e3:I5 N ma=some 0:=AtW hN h.ma;have e4:I7 N na=some 0:=AaZ hN h.na;have e5:EU N pt=some 0:=ArC hN h.pt;have e6:EU N fr=some 0:=ArC hN h.fr;have l7:=h.na.1;dsimp only at l7;rw[e1,Dn];refine DX (fun e=>by cases e) (fun _=> ?_);rw[e2,Dn];refine DX (fun e=>by cases e) (fun _=> ?_);rw[e3,Dn];refine DX (fun e=>by cases e) (fun _=> ?_);rw[decide_eq_false (show ¬(na.length:Int)>16 by omega),cond_false,e4,Dn];refine DX (fun e=>by cases e) (fun _=> ?_);rw[e7,Dn];refine DX (fun e=>by cases e) (fun _=> ?_);have l5:=Aek h.sk;have l6:=uD h.ak;dsimp only at l5 l6;rw[decide_eq_false (show ¬(sk.length:Int)>32 by omega),decide_eq_false (show ¬(ak.length:Int)>32 by omega)];refine DX (fun e=>by cases e) (fun _=> ?_);rw[e5,Dn];refine DX (fun e=>by cases e) (fun _=> ?_);rw[e6,Dn];refine DX (fun e=>by cases e) (fun _=> ?_);have hu:un∈unL:=h.un;have hul:=zD hu;have hrw:Ib N=some ((Ib 0).getD []):=rfl;have hrl:((Ib 0).getD []).length=13:=rfl;rw[hrw,Dn];refine FW (fun y=>0<=y.2.1/\y.2.1<=13/\0<=y.1/\y.1<=2+y.2.1/\y.2.2=(hb,ca,pl,us,pu,po,ma,re,im,ia,na,hc,pe,ex,sk,ak,pt,fr,un)) (fun y=>(13 - y.2.1).toNat) ?_ N _ ⟨by dsimp only;omega,by dsimp only;omega,by dsimp only;omega,by dsimp only;omega,rfl⟩ (by dsimp only;omega);rintro ⟨a,i,y⟩ ⟨i0,i1,a0,a1,hl⟩ k hk;dsimp only at i0 i1 a0 a1 hl;subst hl;dsimp only[U21];refine DX (fun hi=> ?_) (fun _=> ?_)
 ·have hi:=of_decide_eq_true hi;rw[hrl]at hi;refine DC (decide_eq_true (by omega)) (DC (decide_eq_true (by omega)) (DN (ApW _ i.toNat (by omega)) fun v _=>DX (fun _=>hk _ ⟨?_,?_,?_,?_,rfl⟩ ?_) (fun _=>hk _ ⟨?_,?_,?_,?_,rfl⟩ ?_)))
  all_goals
   dsimp only;try rw[w64 (x:=i+1) (by omega) (by omega)]
   try rw[w64 (x:=a+1) (by omega) (by omega)]
   omega
 ·dsimp only[U20];refine DX (fun e=>by exfalso;have h2:a>24:=of_decide_eq_true e;omega) (fun _=> ?_);rw[Avk hN hu,Dn];exact EK rfl
end
end Go.Proofs.YtfgdgdnlglejbaaGreatDoor.Pl
namespace Go.Proofs.YtfgdgdnlglejbaaGreatDoor.Pl
open IntKind (i64)
open Go Vm
def usQ (M:Nat) (n:Nat):Bool:=Ik (M+300) (n:Int)==some (flB (n:Int),0)&&(QL (M+300) (n:Int)==some (flB (n:Int),0)&&(O5 (M+300) (flB (n:Int))==some ((n:Int),0)&&decide ((flB (n:Int)).length<=5)))
theorem AuI (M:Nat):(List.range 512).all (usQ M)=true:=by kernel_rfl
structure Avv (N:Nat) (r:Int):Prop where
 put:Ik N r=some (flB r,0)
 Aux:QL N r=some (flB r,0)
 get:O5 N (flB r)=some (r,0)
 len:(flB r).length<=5
theorem Anw {N:Nat} (hN:1048578<N) {r:Int} (h0:0<=r) (h1:r<=511):Avv N r:=by
 obtain⟨M,rfl⟩:=ofM hN;have h:=List.all_eq_true.1 (AuI M) r.toNat (List.mem_range.2 (by omega))
 unfold usQ at h;rw[show((r.toNat:Nat):Int)=r by omega]at h;simp only[Bool.and_eq_true,beq_iff_eq,decide_eq_true_eq]at h;exact⟨h.1,h.2.1,h.2.2.1,h.2.2.2⟩
def idB (s:Bs):Bs:=Sp.elem 6 (idT s)
def lD (ca:Bool) (pl:Int):Bs:=Sp.elem 48 ((bif ca then Sp.elem 1 [255]else [])++(bif pl != -1 then Ho 2 pl else []))
def Acn (l:List Bs):Bs:=Sp.elem 48 (l.map idB).flatten
def Ack (l:List Bs):Bs:=Sp.elem 48 (l.map fun s=>Sp.elem 48 (idB s)).flatten
def AbY (l:List (Bs×Bs)):Bs:=Sp.elem 48 (l.map fun m=>Sp.elem 48 (idB m.1++idB m.2)).flatten
def nT (re im:Int):Bs:=Sp.elem 48 ((bif re != -1 then Ho 128 re else [])++(bif im != -1 then Ho 129 im else []))
section
variable {N:Nat} (hN:1048578<N)
include hN
theorem IB {s:Bs} (h:s∈Ub):(idB s).length<=15:=by have:=(P5 hN h).len;have:=Sp.DF 6 (idT s);unfold idB;omega
theorem yP (b:Bool) (l:List Bs) (hl:l.length<=1000) (hs:l.flatten.length<=131072):Eb N b l=some (Sp.elem 48 l.flatten,b):=by unfold Eb;have w:DD N b 48 l=_:=UN N 48 b l (by omega) (by omega) hN hl hs;rw[w,Dn]
theorem Aab (b:Bool) {s:Bs} (h:s∈Ub):KE N b s=some (idB s,b):=by
 have I:=P5 hN h;have hl:=I.len;unfold KE;try simp only[clR]
 have w:DD N b 6 [idT s]=_:=UN N 6 b [idT s] (by omega) (by omega) hN (by simp) (by rw[EI];omega);rw[EI]at w;rw[I.enc,Dn,Nu N b,Dn,w,Dn];rfl
theorem Ava (b:Bool) {t:Nat} {n:Int} (ht:t<256) (h31:t % 32≠31) (h0:0<=n) (h1:n<256):DD N b (t:Int) [inB n]=some (Ho t n,b):=by have I:=Ai3 hN h0 h1;have w:=UN N t b [inB n] ht h31 hN (by simp) (by rw[EI];have:=I.len;omega);rw[EI]at w;exact w
theorem AsT (b:Bool) {x:Info} (h:OkI x):LD N b x=some (Sp.elem 3 (flB x.2.2.2.1),b):=by
 have U:=Anw hN h.us.1 h.us.2;have hl:=U.len;unfold LD;try simp only[clR]
 have w:DD N b 3 [flB x.2.2.2.1]=_:=UN N 3 b [flB x.2.2.2.1] (by omega) (by omega) hN (by simp) (by rw[EI];omega);rw[EI]at w;rw[U.put,Dn,Nu N b,Dn,w,Dn]
theorem Auo (b:Bool) {x:Info} (h:OkI x):Jv N b x=some (Acn x.2.2.2.2.1,b):=by
 have h3:=h.pu.len;have ha:=h.pu.all;unfold Jv Acn;try simp only[clR]
 generalize x.2.2.2.2.1=l at *
 have hl:=Gs (g:=idB) (M:=15) (l:=l) (fun s hm=>IB hN (VD s (ha s hm)));refine(KH (mk:=fun i a=>((i:Int),b,a)) l [] idB (fun a=>Dj (Eb N b a) fun r=>some (r.1,r.2)) ?_ ?_ N (by omega)).trans ?_
 ·intro i a hi ht k;have hp:=Aab hN b (VD _ (ha _ (getD_mem [] hi)));simp (disch:=first | assumption | omega) only[DT,hp,ES]
 ·intro a k ht;simp (disch:=first | assumption | omega) only[DT]
 ·rw[yP hN b _ (by rw[List.length_map];omega) (by omega),Dn]
theorem Auk (b:Bool) {x:Info} (h:OkI x):Ju N b x=some (Ack x.2.2.2.2.2.1,b):=by
 have h3:=h.po.len;have ha:=h.po.all;unfold Ju Ack;try simp only[clR]
 generalize x.2.2.2.2.2.1=l at *
 have hl:=Gs (g:=fun s=>Sp.elem 48 (idB s)) (M:=20) (l:=l) (fun s hm=>by have:=IB hN (FT s (ha s hm));have:=Sp.DF 48 (idB s);omega);refine(KH (mk:=fun i a=>((i:Int),b,a)) l [] (fun s=>Sp.elem 48 (idB s)) (fun a=>Dj (Eb N b a) fun r=>some (r.1,r.2)) ?_ ?_ N (by omega)).trans ?_
 ·intro i a hi ht k;have hv:=FT _ (ha _ (getD_mem [] hi));have hp:=Aab hN b hv;have hq:=yP hN b [idB (l.getD i [])] (by simp) (by rw[EI];have:=IB hN hv;omega);rw[EI]at hq;simp (disch:=first | assumption | omega) only[DT,hp,hq,ES]
 ·intro a k ht;simp (disch:=first | assumption | omega) only[DT]
 ·rw[yP hN b _ (by rw[List.length_map];omega) (by omega),Dn]
theorem As2 (b:Bool) {x:Info} (h:OkI x):Jt N b x=some (AbY x.2.2.2.2.2.2.1,b):=by
 have h3:=h.ma.len;have ha:=h.ma.all;unfold Jt AbY;try simp only[clR]
 generalize x.2.2.2.2.2.2.1=l at *
 have hl:=Gs (g:=fun m:Bs×Bs=>Sp.elem 48 (idB m.1++idB m.2)) (M:=35) (l:=l) (fun s hm=>by have:=IB hN (FT _ (ha s hm).1);have:=IB hN (FT _ (ha s hm).2);have:=Sp.DF 48 (idB s.1++idB s.2);rw[List.length_append]at this;omega);refine(KH (mk:=fun i a=>((i:Int),b,a)) l ([],[]) (fun m:Bs×Bs=>Sp.elem 48 (idB m.1++idB m.2)) (fun a=>Dj (Eb N b a) fun r=>some (r.1,r.2)) ?_ ?_ N (by omega)).trans ?_
 ·intro i a hi ht k;have hv:=ha _ (getD_mem ([],[]) hi);have hp:=Aab hN b (FT _ hv.1);have hp2:=Aab hN b (FT _ hv.2);have hq:=yP hN b [idB (l.getD i ([],[])).1,idB (l.getD i ([],[])).2] (by simp) (by rw[Yh,List.length_append];have:=IB hN (FT _ hv.1);have:=IB hN (FT _ hv.2);omega);rw[Yh]at hq;simp (disch:=first | assumption | omega) only[DT,hp,hp2,hq,ES]
 ·intro a k ht;simp (disch:=first | assumption | omega) only[DT]
 ·rw[yP hN b _ (by rw[List.length_map];omega) (by omega),Dn]
end
end Go.Proofs.YtfgdgdnlglejbaaGreatDoor.Pl
namespace Go.Proofs.YtfgdgdnlglejbaaGreatDoor.Pl
open IntKind (i64)
open Go Vm
section
variable {N:Nat} (hN:1048578<N)
include hN
theorem Zg {t:Nat} {n:Int} (h0:0<=n) (h1:n<256):(Ho t n).length<=7:=by have:=(Ai3 hN h0 h1).len;have:=Sp.DF t (inB n);unfold Ho;omega
theorem Y0 {b:Bool} {c:Bs} {k:Nat} (h:b=true->c.length<=k):((bif b then c else []):Bs).length<=k:=by
 cases b with
 | true=>exact h rfl
 | false=>exact Nat.zero_le _
theorem Arm (b:Bool) {n:Int} (h0:0<=n) (h1:n<256):Hl N b n=some (Ho 2 n,b):=by have w:DD N b 2 [inB n]=_:=Ava hN b (t:=2) (by omega) (by omega) h0 h1;unfold Hl;rw[(Ai3 hN h0 h1).put,Dn,w,Dn]
omit hN in
theorem AsZ (hN:1048578<N) (b v:Bool):TU N b 1 v=some (bif v then Sp.elem 1 [255]else [],b):=by obtain⟨M,rfl⟩:=ofM hN;cases b<;>cases v<;>kernel_rfl
theorem ArS (b:Bool) {x:Info} (h:OkI x):L9 N b x=some (lD x.2.1 x.2.2.1,b):=by
 obtain⟨_,p0,p1,_⟩:=Af6 h;obtain⟨hb,ca,pl,us,pu,po,ma,re,im,ia,na,hc,pe,ex,sk,ak,pt,fr,un⟩:=x;dsimp only at p0 p1;have f:=AsZ hN b ca;have s:=yP hN b [bif ca then Sp.elem 1 [255]else [],bif pl != -1 then Ho 2 pl else []] (by simp) (by rw[Yh,List.length_append];have a1:=Y0 hN (b:=ca) (c:=Sp.elem 1 [255]) (k:=10) (fun _=>by decide);have a2:=Y0 hN (b:=pl != -1) (c:=Ho 2 pl) (k:=7) (fun e=>Zg hN (by have e2:pl≠ -1:=(by simpa using e);omega) (by omega));omega);rw[Yh]at s;unfold L9 lD;try simp only[clR]
 by_cases e:pl= -1
 ·subst e;rw[show((-1:Int) != -1)=false from rfl,cond_false]at s ⊢;rw[Tt,cond_false];dsimp only[U21];rw[f,Dn];dsimp only;rw[s,Dn]
 ·rw[gV e,cond_true]at s ⊢;have w:=Arm hN b (n:=pl) (by omega) (by omega);rw[Tt,cond_true,w,Dn];dsimp only[U21];rw[f,Dn];dsimp only;rw[s,Dn]
omit hN in
theorem As1 (M:Nat) (b hb ca:Bool) (pl us:Int) (pu po:List Bs) (ma:List (Bs×Bs)) (ia:Int) (na:List Gn) (hc:Bool) (pe ex:List Gn) (sk ak:Bs) (pt fr:List Pt) (un:List Ex) :
 ∀ re∈Uf,∀ im∈Uf,KP (M+300) b (hb,ca,pl,us,pu,po,ma,re,im,ia,na,hc,pe,ex,sk,ak,pt,fr,un)=some (nT re im,b):=by
 intro re h1 im h2;simp only[Uf,List.mem_cons,List.not_mem_nil,or_false]at h1 h2;cases b
 all_goals
  rcases h1 with h1 | h1 | h1 | h1 | h1
  all_goals
   rcases h2 with h2 | h2 | h2 | h2 | h2
   all_goals
    rw[h1,h2];kernel_rfl
theorem AtQ (b:Bool) {x:Info} (h:OkI x):KP N b x=some (nT x.2.2.2.2.2.2.2.1 x.2.2.2.2.2.2.2.2.1,b):=by obtain⟨hb,ca,pl,us,pu,po,ma,re,im,ia,na,hc,pe,ex,sk,ak,pt,fr,un⟩:=x;obtain⟨M,rfl⟩:=ofM hN;exact As1 M b hb ca pl us pu po ma ia na hc pe ex sk ak pt fr un re h.re im h.im
theorem AuZ (b:Bool) {x:Info} (h:OkI x) (h0:x.2.2.2.2.2.2.2.2.2.1≠ -1):JO N b x=some (Ho 2 x.2.2.2.2.2.2.2.2.2.1,b):=by
 have l:=h.ia;unfold JO;try simp -zeta only[Ap]
 rw[Arm hN b (by omega) (by omega),Dn]
theorem AtX (b:Bool) {x:Info} (h:OkI x) (h0:x.2.2.2.2.2.2.2.2.2.2.1≠ []):LC N b x=some (Sp.elem 48 (EP x.2.2.2.2.2.2.2.2.2.2.1),b):=by
 have hl:=Qe hN h.na;have s:=yP hN b [EP x.2.2.2.2.2.2.2.2.2.2.1] (by simp) (by rw[EI];omega);rw[EI]at s;unfold LC;try simp -zeta only[Ap]
 rw[AaS hN h.na h0,Dn,Nu N b,Dn];dsimp only;rw[s,Dn]
theorem Atv (b:Bool) {x:Info} (h:okS (x.2.2.2.2.2.2.2.2.2.2.2.2.1,x.2.2.2.2.2.2.2.2.2.2.2.2.2.1)):Ia N b x=some (PU (x.2.2.2.2.2.2.2.2.2.2.2.2.1,x.2.2.2.2.2.2.2.2.2.2.2.2.2.1),b):=by
 unfold Ia;try simp -zeta only[Ap]
 rw[AuR hN h,Dn,Nu N b,Dn]
theorem Au6 (b:Bool) {x:Info} (h:OkI x):JP N b x=some (Sp.elem 4 x.2.2.2.2.2.2.2.2.2.2.2.2.2.2.1,b):=by
 have hl:=Aek h.sk;have w:DD N b 4 [x.2.2.2.2.2.2.2.2.2.2.2.2.2.2.1]=_:=UN N 4 b [x.2.2.2.2.2.2.2.2.2.2.2.2.2.2.1] (by omega) (by omega) hN (by simp) (by rw[EI];omega);rw[EI]at w;unfold JP;try simp -zeta only[Ap]
 rw[w,Dn]
theorem Atp (b:Bool) {x:Info} (h:OkI x):Jb N b x=some (Sp.elem 48 (Sp.elem 128 x.2.2.2.2.2.2.2.2.2.2.2.2.2.2.2.1),b):=by
 have hl:=uD h.ak;have hl2:=Sp.DF 128 x.2.2.2.2.2.2.2.2.2.2.2.2.2.2.2.1;have w:DD N b 128 [x.2.2.2.2.2.2.2.2.2.2.2.2.2.2.2.1]=_:=UN N 128 b [x.2.2.2.2.2.2.2.2.2.2.2.2.2.2.2.1] (by omega) (by omega) hN (by simp) (by rw[EI];omega);rw[EI]at w;have s:=yP hN b [Sp.elem 128 x.2.2.2.2.2.2.2.2.2.2.2.2.2.2.2.1] (by simp) (by rw[EI];omega);rw[EI]at s;unfold Jb;try simp -zeta only[Ap]
 rw[w,Dn];dsimp only;rw[s,Dn]
theorem Aui (b:Bool) {x:Info} (h:Qi x.2.2.2.2.2.2.2.2.2.2.2.2.2.2.2.2.1):KQ N b x=some (psB x.2.2.2.2.2.2.2.2.2.2.2.2.2.2.2.2.1,b):=by
 unfold KQ;try simp -zeta only[Ap]
 rw[Ag0 hN h,Dn,Nu N b,Dn]
theorem At4 (b:Bool) {x:Info} (h:Qi x.2.2.2.2.2.2.2.2.2.2.2.2.2.2.2.2.2.1):Js N b x=some (psB x.2.2.2.2.2.2.2.2.2.2.2.2.2.2.2.2.2.1,b):=by
 unfold Js;try simp -zeta only[Ap]
 rw[Ag0 hN h,Dn,Nu N b,Dn]
end
end Go.Proofs.YtfgdgdnlglejbaaGreatDoor.Pl
namespace Go.Proofs.YtfgdgdnlglejbaaGreatDoor.Pl
open IntKind (i64)
open Go Vm
def Ff:Info->List (Bool×Ex)
 | (hb,ca,pl,us,pu,po,ma,re,im,ia,na,hc,pe,ex,sk,ak,pt,fr,un) =>
  [(hb,[50,46,53,46,50,57,46,49,57],true,lD ca pl),
   (us != 0,[50,46,53,46,50,57,46,49,53],true,Sp.elem 3 (flB us)),
   (decide (((pu.length:Nat):Int)>0),[50,46,53,46,50,57,46,51,55],false,Acn pu),
   (decide (((po.length:Nat):Int)>0),[50,46,53,46,50,57,46,51,50],false,Ack po),
   (decide (((ma.length:Nat):Int)>0),[50,46,53,46,50,57,46,51,51],true,AbY ma),
   (re != -1||im != -1,[50,46,53,46,50,57,46,51,54],true,nT re im),
   (ia != -1,[50,46,53,46,50,57,46,53,52],true,Ho 2 ia),
   (decide (((na.length:Nat):Int)>0),[50,46,53,46,50,57,46,49,55],false,Sp.elem 48 (EP na)),
   (hc,[50,46,53,46,50,57,46,51,48],true,PU (pe,ex)),
   (!(sk==[]),[50,46,53,46,50,57,46,49,52],false,Sp.elem 4 sk),
   (!(ak==[]),[50,46,53,46,50,57,46,51,53],false,Sp.elem 48 (Sp.elem 128 ak)),
   (decide (((pt.length:Nat):Int)>0),[50,46,53,46,50,57,46,51,49],false,psB pt),
   (decide (((fr.length:Nat):Int)>0),[50,46,53,46,50,57,46,52,54],false,psB fr)]
abbrev zR:Bool×Ex:=(false,[],false,[])
def JS (r:Bool×Ex):List Ex:=bif r.1 then [r.2]else []
def exI (x:Info):List Ex:=(Ff x).flatMap JS++x.2.2.2.2.2.2.2.2.2.2.2.2.2.2.2.2.2.2
def rwL:List (Bs×Int×Nat×Nat×Nat):=(Ib 0).getD []
theorem dE (x:Info):(Ff x).length=13:=rfl
theorem ne_of {α :Type} {l:List α} (h:decide (((l.length:Nat):Int)>0)=true):l≠ []:=by rintro rfl;cases h
theorem ne1 {n:Int} (h:(n != -1)=true):n≠ -1:=by simpa using h
theorem WS {l:List Pt} (h:l=[]\/Qi l) (hh:decide (((l.length:Nat):Int)>0)=true):Qi l:=h.resolve_left (ne_of hh)
theorem AcN {hb ca:Bool} {pl us:Int} {pu po:List Bs} {ma:List (Bs×Bs)} {re im ia:Int} {na:List Gn} {hc:Bool} {pe ex:List Gn} {sk ak:Bs} {pt fr:List Pt} {un:List Ex} (h:OkI (hb,ca,pl,us,pu,po,ma,re,im,ia,na,hc,pe,ex,sk,ak,pt,fr,un)) (hh:hc=true):okS (pe,ex):=by
 rcases h.con with ⟨a,_⟩ | ⟨_,c⟩
 ·dsimp only at a;rw[a]at hh;cases hh
 ·exact c
theorem AsF (N:Nat) (x:Info) (i:Nat) (hi:i<13):jG N (rwL.getD i ([],0,0,0,0)).2.2.1 x=some ((Ff x).getD i zR).1:=by
 obtain⟨hb,ca,pl,us,pu,po,ma,re,im,ia,na,hc,pe,ex,sk,ak,pt,fr,un⟩:=x;have:i=0\/i=1\/i=2\/i=3\/i=4\/i=5\/i=6\/i=7\/i=8\/i=9\/i=10\/i=11\/i=12:=by omega
 rcases this with rfl | rfl | rfl | rfl | rfl | rfl | rfl | rfl | rfl | rfl | rfl | rfl | rfl
 all_goals
  first
  | rfl
  | (show J7 N _=some (re != -1||im != -1)
     unfold J7;try simp only[clR]
     try rfl)
theorem Aji (x:Info) (i:Nat) (hi:i<13):((rwL.getD i ([],0,0,0,0)).1,(rwL.getD i ([],0,0,0,0)).2.1==1||(rwL.getD i ([],0,0,0,0)).1==[50,46,53,46,50,57,46,51,51])=(((Ff x).getD i zR).2.1,((Ff x).getD i zR).2.2.1):=by
 obtain⟨hb,ca,pl,us,pu,po,ma,re,im,ia,na,hc,pe,ex,sk,ak,pt,fr,un⟩:=x;have:i=0\/i=1\/i=2\/i=3\/i=4\/i=5\/i=6\/i=7\/i=8\/i=9\/i=10\/i=11\/i=12:=by omega
 rcases this with rfl | rfl | rfl | rfl | rfl | rfl | rfl | rfl | rfl | rfl | rfl | rfl | rfl<;>rfl
section
variable {N:Nat} (hN:1048578<N)
include hN
theorem AsG (b:Bool) {x:Info} (h:OkI x) (i:Nat) (hi:i<13) (hh:((Ff x).getD i zR).1=true):AeU N (rwL.getD i ([],0,0,0,0)).2.2.2.1 (b,x)=some (((Ff x).getD i zR).2.2.2,b):=by
 obtain⟨hb,ca,pl,us,pu,po,ma,re,im,ia,na,hc,pe,ex,sk,ak,pt,fr,un⟩:=x;have:i=0\/i=1\/i=2\/i=3\/i=4\/i=5\/i=6\/i=7\/i=8\/i=9\/i=10\/i=11\/i=12:=by omega
 rcases this with rfl | rfl | rfl | rfl | rfl | rfl | rfl | rfl | rfl | rfl | rfl | rfl | rfl
 ·exact ArS hN b h
 ·exact AsT hN b h
 ·exact Auo hN b h
 ·exact Auk hN b h
 ·exact As2 hN b h
 ·exact AtQ hN b h
 ·exact AuZ hN b h (ne1 hh)
 ·exact AtX hN b h (ne_of hh)
 ·exact Atv hN b (AcN h hh)
 ·exact Au6 hN b h
 ·exact Atp hN b h
 ·exact Aui hN b (WS h.pt hh)
 ·exact At4 hN b (WS h.fr hh)
theorem AtH {x:Info} (h:OkI x):ND N x=some (exI x,0):=by
 have hck:=Afo hN h;have hhas:=AsF N x;have hput:=fun b=>AsG hN b h;have hcrit:=Aji x;have hrl:rwL.length=13:=rfl;have hul:=zD h.un;have hxl:=dE x
 suffices e:Ends (fun r=>r=(exI x,0)) (ND N x) by obtain⟨v,hv,rfl⟩:=e;exact hv
 unfold ND;try simp -zeta only[Ap]
 rw[hck,Dn,show((0:Int) != 0)=false from rfl,cond_false,show Ib N=some rwL from rfl,Dn];obtain⟨hb,ca,pl,us,pu,po,ma,re,im,ia,na,hc,pe,ex,sk,ak,pt,fr,un⟩:=x;dsimp only at hul;try simp only[clR]
 refine FW (fun y=>0<=y.1/\y.1<=13/\y.2=(hb,ca,pl,us,pu,po,ma,re,im,ia,na,hc,pe,ex,sk,ak,pt,fr,un,false,((Ff (hb,ca,pl,us,pu,po,ma,re,im,ia,na,hc,pe,ex,sk,ak,pt,fr,un)).take y.1.toNat).flatMap JS)) (fun y=>(13 - y.1).toNat) ?_ N _ ⟨by dsimp only;omega,by dsimp only;omega,rfl⟩ (by dsimp only;omega);rintro ⟨i,y⟩ ⟨i0,i1,hl⟩ k hk;dsimp only at i0 i1 hl;subst hl;dsimp only[U22]
 have hgl:(((Ff (hb,ca,pl,us,pu,po,ma,re,im,ia,na,hc,pe,ex,sk,ak,pt,fr,un)).take i.toNat).flatMap JS).length<=13:=by
  have: ∀ l:List (Bool×Ex),(l.flatMap JS).length<=l.length:=by
   intro l
   induction l with
   | nil=>exact Nat.le_refl _
   | cons r l ih=>rw[List.flatMap_cons,List.length_append,List.length_cons];have:(JS r).length<=1:=(by unfold JS;cases r.1<;>simp);omega
  have:=this ((Ff (hb,ca,pl,us,pu,po,ma,re,im,ia,na,hc,pe,ex,sk,ak,pt,fr,un)).take i.toNat);rw[List.length_take,hxl]at this;omega
 refine DX (fun hi=> ?_) (fun hi=> ?_)
 ·have hi:=of_decide_eq_true hi;rw[hrl]at hi;have hd:=hhas i.toNat (by omega)
  have hp:=hput false i.toNat (by omega)
  obtain⟨c1,c2⟩:=Prod.mk.inj (hcrit i.toNat (by omega));have htk:(Ff (hb,ca,pl,us,pu,po,ma,re,im,ia,na,hc,pe,ex,sk,ak,pt,fr,un)).take (i.toNat+1)=(Ff (hb,ca,pl,us,pu,po,ma,re,im,ia,na,hc,pe,ex,sk,ak,pt,fr,un)).take i.toNat++[(Ff (hb,ca,pl,us,pu,po,ma,re,im,ia,na,hc,pe,ex,sk,ak,pt,fr,un)).getD i.toNat zR]:=by rw[List.take_add_one,List.getElem?_eq_getElem (by omega),getD_lt _ _ zR (by omega)];rfl
  refine DC (decide_eq_true i0) (DC (decide_eq_true (by omega)) ?_);rw[hd,Dn];have h1:(i+1).toNat=i.toNat+1:=by omega
  refine DX (fun hh=> ?_) (fun hh=> ?_)
  ·rw[hp hh,Dn,c2,c1];refine DC (decide_eq_true (by omega)) (hk _ ⟨?_,?_,?_⟩ ?_)
   ·dsimp only;rw[w64 (by omega) (by omega)];omega
   ·dsimp only;rw[w64 (by omega) (by omega)];omega
   ·dsimp only;rw[w64 (by omega) (by omega),h1,htk,List.flatMap_append,List.flatMap_singleton];unfold JS;rw[hh,cond_true]
   ·dsimp only;rw[w64 (by omega) (by omega)];omega
  ·refine hk _ ⟨?_,?_,?_⟩ ?_
   ·dsimp only;rw[w64 (by omega) (by omega)];omega
   ·dsimp only;rw[w64 (by omega) (by omega)];omega
   ·dsimp only;rw[w64 (by omega) (by omega),h1,htk,List.flatMap_append,List.flatMap_singleton];unfold JS;rw[hh,cond_false,List.append_nil]
   ·dsimp only;rw[w64 (by omega) (by omega)];omega
 ·have hi:=of_decide_eq_false hi;rw[hrl]at hi;dsimp only[U21];have e13:i.toNat=13:=by omega
  rw[e13,<- hxl,List.take_length]at hgl ⊢;refine DN (P:=fun r=>r=(false,false)) ⟨_,rfl,rfl⟩ ?_;rintro _ rfl;exact DX (fun e=>by cases e) (fun _=>DC (decide_eq_true (by omega)) (EK rfl))
end
end Go.Proofs.YtfgdgdnlglejbaaGreatDoor.Pl
namespace Go.Proofs.YtfgdgdnlglejbaaGreatDoor.Pl
open IntKind (i64)
open Go Vm
theorem Aqj (r:Bool×Ex):(JS r).length<=1:=by unfold JS;cases r.1<;>simp
theorem of1 {α :Type} {o:Option α} {v: α} (h:Ends (fun r=>r=v) o):o=some v:=by obtain⟨w,rfl,rfl⟩:=h;rfl
section
variable {N:Nat} (hN:1048578<N)
include hN
end
end Go.Proofs.YtfgdgdnlglejbaaGreatDoor.Pl
namespace Go.Proofs.YtfgdgdnlglejbaaGreatDoor.Pl
open IntKind (i64)
open Go Vm
def okE (e:Ex):Prop:=e.1∈Ub/\e.2.2.length<=6020
theorem AkQ {Q:Ex->Prop} {l:List (Bool×Ex)} (h: ∀ r∈l,r.1=true->Q r.2): ∀ e∈l.flatMap JS,Q e:=by
 intro e he;obtain⟨r,hr,hg⟩:=List.mem_flatMap.1 he;unfold JS at hg;cases h1:r.1 with
 | true=>rw[h1,cond_true,List.mem_singleton]at hg;subst hg;exact h r hr h1
 | false=>rw[h1]at hg;exact nomatch hg
theorem At7: ∀ l:List (Bool×Ex),(l.flatMap JS).length<=l.length:=by
 intro l
 induction l with
 | nil=>exact Nat.le_refl _
 | cons r l ih=>rw[List.flatMap_cons,List.length_append,List.length_cons];have:=Aqj r;omega
theorem zL {x:Info} (h:OkI x):(exI x).length<=15:=by have:=At7 (Ff x);rw[dE]at this;have:=zD h.un;unfold exI;rw[List.length_append];omega
theorem AuG: ∀ l∈unL,∀ e∈l,e.1∈Ub/\e.2.2.length<=6020:=by decide
theorem jJ {N:Nat} (hN:1048578<N) {x:Info} (h:OkI x): ∀ e∈exI x,okE e:=by
 obtain⟨_,b2,b3,_⟩:=Af6 h;have l1:=AdB h.re;have l2:=AdB h.im;have l3:=h.ia;have l4:=h.us;have hu:=AuG _ h.un;obtain⟨hb,ca,pl,us,pu,po,ma,re,im,ia,na,hc,pe,ex,sk,ak,pt,fr,un⟩:=x;dsimp only at b2 b3 l1 l2 l3 l4 hu;intro e he;rcases(List.mem_append.1 he).symm with he | he
 ·exact hu e he
 refine AkQ (Q:=okE) (fun r hr h1=> ?_) e he;simp only[Ff,List.mem_cons,List.not_mem_nil,or_false]at hr;rcases hr with rfl | rfl | rfl | rfl | rfl | rfl | rfl | rfl | rfl | rfl | rfl | rfl | rfl
 ·refine⟨(by dsimp only;decide),?_⟩;have a1:=Y0 hN (b:=ca) (c:=Sp.elem 1 [255]) (k:=10) (fun _=>by decide);have a2:=Y0 hN (b:=pl != -1) (c:=Ho 2 pl) (k:=7) (fun e=>Zg hN (by have e2:=ne1 e;omega) (by omega));have:=Sp.DF 48 ((bif ca then Sp.elem 1 [255]else [])++(bif pl != -1 then Ho 2 pl else []));rw[List.length_append]at this;show(lD ca pl).length<=6020;unfold lD;omega
 ·refine⟨(by dsimp only;decide),?_⟩;have:=(Anw hN l4.1 l4.2).len;have:=Sp.DF 3 (flB us);show(Sp.elem 3 (flB us)).length<=6020;omega
 ·refine⟨(by dsimp only;decide),?_⟩;have hl:=Gs (g:=idB) (M:=15) (l:=pu) (fun s hm=>IB hN (VD s (h.pu.all s hm)));have hk:pu.length<=3:=h.pu.len;have:=Sp.DF 48 (pu.map idB).flatten;show(Acn pu).length<=6020;unfold Acn;omega
 ·refine⟨(by dsimp only;decide),?_⟩;have hl:=Gs (g:=fun s=>Sp.elem 48 (idB s)) (M:=20) (l:=po) (fun s hm=>by have:=IB hN (FT s (h.po.all s hm));have:=Sp.DF 48 (idB s);omega);have hk:po.length<=3:=h.po.len;have:=Sp.DF 48 (po.map fun s=>Sp.elem 48 (idB s)).flatten;show(Ack po).length<=6020;unfold Ack;omega
 ·refine⟨(by dsimp only;decide),?_⟩;have hl:=Gs (g:=fun m:Bs×Bs=>Sp.elem 48 (idB m.1++idB m.2)) (M:=35) (l:=ma) (fun s hm=>by have:=IB hN (FT _ (h.ma.all s hm).1);have:=IB hN (FT _ (h.ma.all s hm).2);have:=Sp.DF 48 (idB s.1++idB s.2);rw[List.length_append]at this;omega);have hk:ma.length<=3:=h.ma.len;have:=Sp.DF 48 (ma.map fun m:Bs×Bs=>Sp.elem 48 (idB m.1++idB m.2)).flatten;show(AbY ma).length<=6020;unfold AbY;omega
 ·refine⟨(by dsimp only;decide),?_⟩;have a1:=Y0 hN (b:=re != -1) (c:=Ho 128 re) (k:=7) (fun e=>Zg hN (by have e2:=ne1 e;omega) (by omega));have a2:=Y0 hN (b:=im != -1) (c:=Ho 129 im) (k:=7) (fun e=>Zg hN (by have e2:=ne1 e;omega) (by omega));have:=Sp.DF 48 ((bif re != -1 then Ho 128 re else [])++(bif im != -1 then Ho 129 im else []));rw[List.length_append]at this;show(nT re im).length<=6020;unfold nT;omega
 ·refine⟨(by dsimp only;decide),?_⟩;have e2:=ne1 h1;have:=Zg hN (t:=2) (n:=ia) (by omega) (by omega);show(Ho 2 ia).length<=6020;omega
 ·refine⟨(by dsimp only;decide),?_⟩;have hl:(EP na).length<=1250:=Qe hN h.na;have:=Sp.DF 48 (EP na);show(Sp.elem 48 (EP na)).length<=6020;omega
 ·refine⟨(by dsimp only;decide),?_⟩;have:=AkJ hN (AcN h h1);show(PU (pe,ex)).length<=6020;omega
 ·refine⟨(by dsimp only;decide),?_⟩;have hk:sk.length<=16:=Aek h.sk;have:=Sp.DF 4 sk;show(Sp.elem 4 sk).length<=6020;omega
 ·refine⟨(by dsimp only;decide),?_⟩;have hk:ak.length<=16:=uD h.ak;have:=Sp.DF 128 ak;have:=Sp.DF 48 (Sp.elem 128 ak);show(Sp.elem 48 (Sp.elem 128 ak)).length<=6020;omega
 ·refine⟨(by dsimp only;decide),?_⟩;have:=yE hN (l:=pt) (WS h.pt h1);have:=Sp.DF 48 (psC pt);show(psB pt).length<=6020;unfold psB;omega
 ·refine⟨(by dsimp only;decide),?_⟩;have:=yE hN (l:=fr) (WS h.fr h1);have:=Sp.DF 48 (psC fr);show(psB fr).length<=6020;unfold psB;omega
def inK:Info->Info
 | (hb,ca,pl,us,pu,po,ma,re,im,ia,na,hc,pe,ex,sk,ak,pt,fr,un)=>(hb,ca,pl,us,pu,po,ma,re,im,ia,na.map gnK,hc,pe.map gnK,ex.map gnK,sk,ak,pt.map ptK,fr.map ptK,un)
theorem zH {c:Bs} {es:List El} (hl:(Sp.elem 48 c).length<=6020) (h:Par 1 c es):Sp.chk (Sp.elem 48 c)=0:=AbB (FV (by decide) (by decide) (by have:=Yv 48 c;omega)) fun _=>h.nest
theorem ApN {t:Nat} {c:Bs} (ht:t<256) (h31:t % 32≠31) (hc:Sp.cons t=false) (hl:(Sp.elem t c).length<=6020):Sp.chk (Sp.elem t c)=0:=AbB (FV ht h31 (by have:=Yv t c;omega)) fun h=>by rw[hc]at h;cases h
theorem AuH: ∀ l∈unL,∀ e∈l,Sp.chk e.2.2=0:=by decide +kernel
theorem ArP:(dI.all fun p=>decide (Sp.chk (lD p.1 p.2)=0))=true:=by kernel_rfl
theorem Asz:(Uf.all fun a=>Uf.all fun b=>decide (Sp.chk (nT a b)=0))=true:=by kernel_rfl
theorem ArQ {a:Bool} {b:Int} (h:(a,b)∈dI):Sp.chk (lD a b)=0:=of_decide_eq_true (List.all_eq_true.1 ArP (a,b) h)
theorem As0 {a b:Int} (h:a∈Uf) (h2:b∈Uf):Sp.chk (nT a b)=0:=of_decide_eq_true (List.all_eq_true.1 (List.all_eq_true.1 Asz a h) b h2)
section
variable {N:Nat} (hN:1048578<N)
include hN
theorem ArB {s:List Gn×List Gn} (h:okS s):okS (s.1.map gnK,s.2.map gnK) :=
 ⟨by rw[List.length_map];exact h.l0,by rw[List.length_map];exact h.l1,h.ne.imp (fun a b=>a (List.map_eq_nil_iff.1 b)) (fun a b=>a (List.map_eq_nil_iff.1 b)),
   fun q hq=>by obtain⟨g,hg,rfl⟩:=List.mem_map.1 hq;exact(aY hN (h.a0 g hg)).okK,fun q hq=>by obtain⟨g,hg,rfl⟩:=List.mem_map.1 hq;exact(aY hN (h.a1 g hg)).okK⟩
theorem AuE {l:List Gn} (h: ∀ g∈l,okB g):PI (l.map gnK)=PI l:=by unfold PI;rw[List.map_map];congr 1;exact List.map_congr_left fun g hg=>by show Sp.elem 48 (F5 (gnK g))=_;unfold F5;rw[(aY hN (h g hg)).Afb]
theorem AoY {l:List Gn} (t:Nat) (h: ∀ g∈l,okB g):partT t (l.map gnK)=partT t l:=by unfold partT;rw[AuE hN h,List.isEmpty_map]
theorem AuQ {s:List Gn×List Gn} (h:okS s):PU (s.1.map gnK,s.2.map gnK)=PU s:=by unfold PU;rw[AoY hN 160 h.a0,AoY hN 161 h.a1]
theorem Ah8 {l:List Pt} (h:l=[]\/Qi l):(l.map ptK=[]\/Qi (l.map ptK))/\psB (l.map ptK)=psB l:=by
 rcases h with rfl | h
 ·exact⟨Or.inl rfl,rfl⟩
 ·exact⟨Or.inr (AoR hN h),Avf hN h⟩
theorem Arn {x:Info} (h:OkI x):OkI (inK x):=by
 obtain⟨hb,ca,pl,us,pu,po,ma,re,im,ia,na,hc,pe,ex,sk,ak,pt,fr,un⟩:=x;obtain⟨h1,h2,h3,h4,h5,h6,h7,h8,h9,h10,h11,h12,h13,h14,h15⟩:=h;refine⟨h1,h2,h3,h4,h5,h6,h7,h8,Auc hN h9,?_,h11,h12,(Ah8 hN h13).1,(Ah8 hN h14).1,h15⟩;rcases h10 with ⟨a,b,c⟩ | ⟨a,b⟩
 ·dsimp only at a b c;refine Or.inl ⟨a,?_,?_⟩
  ·show pe.map gnK=[];rw[b];rfl
  ·show ex.map gnK=[];rw[c];rfl
 ·exact Or.inr ⟨a,ArB hN b⟩
theorem Auw {x:Info} (h:OkI x):Ff (inK x)=Ff x:=by
 obtain⟨hb,ca,pl,us,pu,po,ma,re,im,ia,na,hc,pe,ex,sk,ak,pt,fr,un⟩:=x
 have a1:PU (pe.map gnK,ex.map gnK)=PU (pe,ex):=by
  rcases h.con with ⟨_,b,c⟩ | ⟨_,b⟩
  ·dsimp only at b c;rw[b,c];rfl
  ·exact AuQ hN b
 have a2:EP (na.map gnK)=EP na:=AkT hN h.na;have a3:=(Ah8 hN h.pt).2;have a4:=(Ah8 hN h.fr).2;dsimp only at a3 a4;unfold inK Ff;dsimp only;rw[a1,a2,a3,a4,List.length_map,List.length_map,List.length_map]
theorem AuV {x:Info} (h:OkI x):exI (inK x)=exI x:=by unfold exI;rw[Auw hN h];rfl
theorem Zf {s:Bs} (h:s∈Ub) {d:Nat} (hd:d<16):Par d (idB s) [Ea 6 (idT s)]:=JF (FV (by decide) (by decide) (by have:=(P5 hN h).len;omega)) hd (by decide)
def yB (s:Bs):El:=Ea 48 (idB s)
def xN (m:Bs×Bs):El:=Ea 48 (idB m.1++idB m.2)
theorem Alc {l:List Bs} (h:bP SH l) {d:Nat} (hd:d<16):Par d (l.map idB).flatten (l.map fun s=>Ea 6 (idT s)):=TA fun s hs=>Zf hN (VD s (h.all s hs)) hd
theorem Alb {l:List Bs} (h:bP SG l) {d:Nat} (hd:d<14):Par d (l.map fun s=>Sp.elem 48 (idB s)).flatten (l.map yB):=TA fun s hs=>by have hi:=FT s (h.all s hs);exact GM (FV (by decide) (by decide) (by have:=IB hN hi;omega)) (by omega) (Zf hN hi (by omega)).nest
theorem Afz {m:Bs×Bs} (h1:m.1∈SG) (h2:m.2∈SG):(idB m.1++idB m.2).length<=30:=by have:=IB hN (FT _ h1);have:=IB hN (FT _ h2);rw[List.length_append];omega
theorem AkU {l:List (Bs×Bs)} (h:AdN l) {d:Nat} (hd:d<14):Par d (l.map fun m=>Sp.elem 48 (idB m.1++idB m.2)).flatten (l.map xN):=TA fun m hm=>by obtain⟨h1,h2⟩:=h.all m hm;exact GM (FV (by decide) (by decide) (by have:=Afz hN h1 h2;omega)) (by omega) (GL (Zf hN (FT _ h1) (by omega)) (Zf hN (FT _ h2) (by omega))).nest
theorem Ajy {l:List Gn} (h: ∀ g∈l,okB g) {d:Nat} (hd:d<=5):Par d (PI l) (l.map fun g=>Ea 48 (F5 g)):=TA fun g hg =>
 GM (FV (by decide) (by decide) (by have:=aZ hN (h g hg);omega)) (by omega) ((aY hN (h g hg)).par _ (by omega)).nest
theorem AiZ {l:List Gn} (h: ∀ g∈l,okB g) (h3:l.length<=3) {t:Nat} (ht:t<256) (h31:t % 32≠31) {d:Nat} (hd:d<=4):Par d (partT t l) (bif l.isEmpty then []else [Ea t (PI l)]):=by
 unfold partT;cases l.isEmpty with
 | true=>exact zY d
 | false=>exact GM (FV ht h31 (by have:=pU hN h3 h;omega)) (by omega) (Ajy hN h (by omega)).nest
theorem AkK {s:List Gn×List Gn} (h:okS s) {d:Nat} (hd:d<=4):Par d (partT 160 s.1++partT 161 s.2) ((bif s.1.isEmpty then []else [Ea 160 (PI s.1)])++(bif s.2.isEmpty then []else [Ea 161 (PI s.2)])) :=
 GL (AiZ hN h.a0 h.l0 (by decide) (by decide) hd) (AiZ hN h.a1 h.l1 (by decide) (by decide) hd)
theorem Arw {x:Info} (h:OkI x): ∀ e∈exI x,Sp.chk e.2.2=0:=by
 have hl:=fun e he=>(jJ hN h e he).2;obtain⟨hb,ca,pl,us,pu,po,ma,re,im,ia,na,hc,pe,ex,sk,ak,pt,fr,un⟩:=x;unfold exI at hl ⊢;intro e he;rcases(List.mem_append.1 he).symm with he | he
 ·exact AuH _ h.un e he
 refine AkQ (Q:=fun e=>Sp.chk e.2.2=0) (fun r hr h1=> ?_) e he;have hl:=hl r.2 (List.mem_append_left _ (List.mem_flatMap.2 ⟨r,hr,by unfold JS;rw[h1];exact List.mem_singleton.2 rfl⟩));simp only[Ff,List.mem_cons,List.not_mem_nil,or_false]at hr;rcases hr with rfl | rfl | rfl | rfl | rfl | rfl | rfl | rfl | rfl | rfl | rfl | rfl | rfl
 ·rcases h.bas with ⟨_,h2⟩ | ⟨h2,_⟩
  ·exact ArQ h2
  ·dsimp only at h1 h2;rw[h2]at h1;cases h1
 ·exact ApN (by decide) (by decide) (by decide) hl
 ·exact zH hl (Alc hN h.pu (by decide))
 ·exact zH hl (Alb hN h.po (by decide))
 ·exact zH hl (AkU hN h.ma (by decide))
 ·exact As0 h.re h.im
 ·exact ApN (by decide) (by decide) (by decide) hl
 ·exact zH hl (AbT hN h.na (by decide))
 ·exact zH hl (AkK hN (AcN h h1) (by decide))
 ·exact ApN (by decide) (by decide) (by decide) hl
 ·exact zH hl (JF (FV (by decide) (by decide) (by have:=uD h.ak;dsimp only at this;omega)) (by decide) (by decide))
 ·exact Apc hN (WS h.pt h1)
 ·exact Apc hN (WS h.fr h1)
end
theorem Asn: ∀ l:List (Bool×Ex),(l.flatMap JS).Sublist (l.map Prod.snd):=by
 intro l
 induction l with
 | nil=>exact List.Sublist.refl _
 | cons r l ih =>
  rw[List.flatMap_cons,List.map_cons];unfold JS;cases r.1 with
  | true=>exact List.Sublist.cons_cons _ ih
  | false=>exact List.Sublist.cons _ ih
def Aqq:List Bs:=(rwL.map fun r=>r.1)++[(unX true).1,unY.1]
theorem AtN:Aqq.Nodup:=by decide +kernel
theorem Aig {x:Info} (h:OkI x):(exI x).Pairwise fun a b=>a.1≠b.1:=by
 have hs:((exI x).map fun e=>e.1).Sublist Aqq:=by
  unfold exI Aqq;rw[List.map_append];refine List.Sublist.append ?_ ?_
  ·have:=(Asn (Ff x)).map fun e:Ex=>e.1;rwa [List.map_map,show(Ff x).map ((fun e:Ex=>e.1)∘Prod.snd)=rwL.map fun r=>r.1 from rfl]at this
  ·exact(show ∀ l∈unL,(l.map fun e=>e.1).Sublist [(unX true).1,unY.1] by decide) _ h.un
 exact List.pairwise_map.1 (AtN.sublist hs)
theorem AcZ {N:Nat} (hN:1048578<N) {x:Info} (h:OkI x) (h0:exI x≠ []):Ate (exI x) :=
 ⟨List.length_pos_iff.2 h0,by have:=zL h;omega,fun e he=>⟨(jJ hN h e he).1,Arw hN h e he,by have:=(jJ hN h e he).2;omega⟩,Aig h⟩
end Go.Proofs.YtfgdgdnlglejbaaGreatDoor.Pl
namespace Go.Proofs.YtfgdgdnlglejbaaGreatDoor.Pl
open IntKind (i64)
open Go Vm
theorem AiS {N:Nat} (hN:1048578<N) {t:Nat} {c:Bs} {k:Int} (h:Fine (t,c)) (hk:(t:Int)=k):I8 N (Sp.elem t c) k=some (Ea t c,0):=by have:=h.len;have hB:=Sp.DF t c;rw[<- hk,lZ N _ t hN (by dsimp only at this;omega)];exact congrArg some (y9 t c h.lt h.low h.len)
theorem jV {α β :Type} {f g: α -> β} {l:List α} (h:l.map f=l.map g) {a: α} (ha:a∈l):f a=g a:=List.map_inj_left.1 h a ha
theorem AbG {α β :Type} (f: α -> β) (l:List α) (d: α) {i:Nat} (hi:i<l.length):(l.map f).drop i=f (l.getD i d)::(l.map f).drop (i+1):=by rw[List.drop_eq_getElem_cons (by rw[List.length_map];exact hi),List.getElem_map,getD_lt l i d hi]
theorem AfJ {α :Type} (l:List α) (d: α) {i:Nat} (hi:i<l.length):l.take i++[l.getD i d]=l.take (i+1):=by rw[List.take_add_one,List.getElem?_eq_getElem hi,getD_lt l i d hi];rfl
theorem AnH (M:Nat) (x:Info):(dI.map fun p=>Lt (M+300) (lD p.1 p.2) (false,false,-1,x.2.2.2))=dI.map fun p=>some (0,(true,p.1,p.2,x.2.2.2)):=by kernel_rfl
def Aqu:List (Int×Int):=(Uf.flatMap fun a=>Uf.map fun b=>(a,b)).filter fun p=>p.1 != -1||p.2 != -1
theorem Aqv (M:Nat) (x:Info):(Aqu.map fun p=>KN (M+300) (nT p.1 p.2) (x.1,x.2.1,x.2.2.1,x.2.2.2.1,x.2.2.2.2.1,x.2.2.2.2.2.1,x.2.2.2.2.2.2.1,-1,-1,x.2.2.2.2.2.2.2.2.2))=Aqu.map fun p=>some (0,(x.1,x.2.1,x.2.2.1,x.2.2.2.1,x.2.2.2.2.1,x.2.2.2.2.2.1,x.2.2.2.2.2.2.1,p.1,p.2,x.2.2.2.2.2.2.2.2.2)):=by kernel_rfl
theorem Asu (M:Nat) (x:Info):((List.range 65).map fun n:Nat=>JL (M+300) (Ho 2 (n:Int)) x)=(List.range 65).map fun n:Nat=>some (0,(x.1,x.2.1,x.2.2.1,x.2.2.2.1,x.2.2.2.2.1,x.2.2.2.2.2.1,x.2.2.2.2.2.2.1,x.2.2.2.2.2.2.2.1,x.2.2.2.2.2.2.2.2.1,(n:Int),x.2.2.2.2.2.2.2.2.2.2)):=by kernel_rfl
theorem ArR {N:Nat} (hN:1048578<N) {ca:Bool} {pl:Int} (h:(ca,pl)∈dI) (x:Info):Lt N (lD ca pl) (false,false,-1,x.2.2.2)=some (0,(true,ca,pl,x.2.2.2)):=by obtain⟨M,rfl⟩:=ofM hN;have e:=jV (AnH M x) h;exact e
theorem AtO {N:Nat} (hN:1048578<N) {re im:Int} (h:(re,im)∈Aqu) (x:Info):KN N (nT re im) (x.1,x.2.1,x.2.2.1,x.2.2.2.1,x.2.2.2.2.1,x.2.2.2.2.2.1,x.2.2.2.2.2.2.1,-1,-1,x.2.2.2.2.2.2.2.2.2)=some (0,(x.1,x.2.1,x.2.2.1,x.2.2.2.1,x.2.2.2.2.1,x.2.2.2.2.2.1,x.2.2.2.2.2.2.1,re,im,x.2.2.2.2.2.2.2.2.2)):=by obtain⟨M,rfl⟩:=ofM hN;have e:=jV (Aqv M x) h;exact e
theorem AuY {N:Nat} (hN:1048578<N) {n:Int} (h0:0<=n) (h1:n<=64) (x:Info):JL N (Ho 2 n) x=some (0,(x.1,x.2.1,x.2.2.1,x.2.2.2.1,x.2.2.2.2.1,x.2.2.2.2.2.1,x.2.2.2.2.2.2.1,x.2.2.2.2.2.2.2.1,x.2.2.2.2.2.2.2.2.1,n,x.2.2.2.2.2.2.2.2.2.2)):=by obtain⟨M,rfl⟩:=ofM hN;have:=jV (Asu M x) (a:=n.toNat) (List.mem_range.2 (by omega));rwa [show((n.toNat:Nat):Int)=n by omega]at this
section
variable {N:Nat} (hN:1048578<N)
include hN
theorem AsR {us:Int} (h0:0<=us) (h1:us<=511) (h2:us≠0) (x:Info):L6 N (Sp.elem 3 (flB us)) x=some (0,(x.1,x.2.1,x.2.2.1,us,x.2.2.2.2)):=by
 have U:=Anw hN h0 h1;unfold L6;try simp -zeta only[Ap]
 rw[AiS hN (t:=3) (k:=3) (FV (by decide) (by decide) (by have:=U.len;omega)) rfl,Dn];dsimp only[Ea];rw[show((0:Int) != 0)=false from rfl,cond_false,U.get,Dn];dsimp only;rw[show((0:Int) != 0)=false from rfl,cond_false,TK h2];rfl
theorem As4 {na:List Gn} (h:AiR na) (h0:na≠ []) (x:Info):Lu N (Sp.elem 48 (EP na)) x=some (0,(x.1,x.2.1,x.2.2.1,x.2.2.2.1,x.2.2.2.2.1,x.2.2.2.2.2.1,x.2.2.2.2.2.2.1,x.2.2.2.2.2.2.2.1,x.2.2.2.2.2.2.2.2.1,x.2.2.2.2.2.2.2.2.2.1,na.map gnK,x.2.2.2.2.2.2.2.2.2.2.2)):=by
 have hl:=Qe hN h;unfold Lu;try simp -zeta only[Ap]
 rw[AiS hN (t:=48) (k:=48) (FV (by decide) (by decide) (by omega)) rfl,Dn];dsimp only[Ea];rw[show((0:Int) != 0)=false from rfl,cond_false,fC hN h h0,Dn]
theorem Au5 {s:Bs} (h:s.length<=1000) (h0:s≠ []) (x:Info):JM N (Sp.elem 4 s) x=some (0,(x.1,x.2.1,x.2.2.1,x.2.2.2.1,x.2.2.2.2.1,x.2.2.2.2.2.1,x.2.2.2.2.2.2.1,x.2.2.2.2.2.2.2.1,x.2.2.2.2.2.2.2.2.1,x.2.2.2.2.2.2.2.2.2.1,x.2.2.2.2.2.2.2.2.2.2.1,x.2.2.2.2.2.2.2.2.2.2.2.1,x.2.2.2.2.2.2.2.2.2.2.2.2.1,x.2.2.2.2.2.2.2.2.2.2.2.2.2.1,s,x.2.2.2.2.2.2.2.2.2.2.2.2.2.2.2)):=by
 unfold JM NF;try simp -zeta only[Ap]
 rw[AiS hN (t:=4) (k:=4) (FV (by decide) (by decide) (by omega)) rfl,Dn];dsimp only[Ea];rw[show((0:Int) != 0)=false from rfl,cond_false,show(s==[])=false from beq_false_of_ne h0,cond_false,Dn]
theorem Ato {s:Bs} (h:s.length<=1000) (h0:s≠ []) (x:Info):Ja N (Sp.elem 48 (Sp.elem 128 s)) x=some (0,(x.1,x.2.1,x.2.2.1,x.2.2.2.1,x.2.2.2.2.1,x.2.2.2.2.2.1,x.2.2.2.2.2.2.1,x.2.2.2.2.2.2.2.1,x.2.2.2.2.2.2.2.2.1,x.2.2.2.2.2.2.2.2.2.1,x.2.2.2.2.2.2.2.2.2.2.1,x.2.2.2.2.2.2.2.2.2.2.2.1,x.2.2.2.2.2.2.2.2.2.2.2.2.1,x.2.2.2.2.2.2.2.2.2.2.2.2.2.1,x.2.2.2.2.2.2.2.2.2.2.2.2.2.2.1,s,x.2.2.2.2.2.2.2.2.2.2.2.2.2.2.2.2)):=by
 have hl:=Sp.DF 128 s;have ho:KF N (Sp.elem 48 (Sp.elem 128 s)) 48=some (.inl ([Ea 128 s],0)):=zV hN (by omega) (by omega) (by omega) (JF (FV (by decide) (by decide) (by omega)) (d:=0) (by decide) (by decide)).list;unfold Ja NF;try simp -zeta only[Ap]
 rw[ho,GI];dsimp only;rw[show((0:Int) != 0)=false from rfl,cond_false,Qx 128 s [] (k:=128) rfl,Dn];dsimp only[Ea];rw[show((0:Int) != 0)=false from rfl,cond_false,show(s==[])=false from beq_false_of_ne h0,cond_false,Dn,show((0:Int) != 0)=false from rfl,cond_false,N7];rfl
theorem Aq8 {l:List Pt} (h:Qi l) (x:Info):KO N (psB l) x=some (0,(x.1,x.2.1,x.2.2.1,x.2.2.2.1,x.2.2.2.2.1,x.2.2.2.2.2.1,x.2.2.2.2.2.2.1,x.2.2.2.2.2.2.2.1,x.2.2.2.2.2.2.2.2.1,x.2.2.2.2.2.2.2.2.2.1,x.2.2.2.2.2.2.2.2.2.2.1,x.2.2.2.2.2.2.2.2.2.2.2.1,x.2.2.2.2.2.2.2.2.2.2.2.2.1,x.2.2.2.2.2.2.2.2.2.2.2.2.2.1,x.2.2.2.2.2.2.2.2.2.2.2.2.2.2.1,x.2.2.2.2.2.2.2.2.2.2.2.2.2.2.2.1,l.map ptK,x.2.2.2.2.2.2.2.2.2.2.2.2.2.2.2.2.2)):=by
 unfold KO;try simp -zeta only[Ap]
 rw[Agz hN h,Dn]
theorem Asm {l:List Pt} (h:Qi l) (x:Info):Jo N (psB l) x=some (0,(x.1,x.2.1,x.2.2.1,x.2.2.2.1,x.2.2.2.2.1,x.2.2.2.2.2.1,x.2.2.2.2.2.2.1,x.2.2.2.2.2.2.2.1,x.2.2.2.2.2.2.2.2.1,x.2.2.2.2.2.2.2.2.2.1,x.2.2.2.2.2.2.2.2.2.2.1,x.2.2.2.2.2.2.2.2.2.2.2.1,x.2.2.2.2.2.2.2.2.2.2.2.2.1,x.2.2.2.2.2.2.2.2.2.2.2.2.2.1,x.2.2.2.2.2.2.2.2.2.2.2.2.2.2.1,x.2.2.2.2.2.2.2.2.2.2.2.2.2.2.2.1,x.2.2.2.2.2.2.2.2.2.2.2.2.2.2.2.2.1,l.map ptK,x.2.2.2.2.2.2.2.2.2.2.2.2.2.2.2.2.2.2)):=by
 unfold Jo;try simp -zeta only[Ap]
 rw[Agz hN h,Dn]
theorem Abk {l:List Gn} (h: ∀ g∈l,okB g) (h0:l≠ []) (h3:l.length<=3):II N (PI l)=some (l.map gnK,0):=by
 have hl:=pU hN h3 h;have hm:(l.map fun g=>Ea 48 (F5 g)).length=l.length:=List.length_map _;have hp:=List.length_pos_iff.2 h0;have hT:=Ii N (PI l) (by omega) (by omega) (by omega);rw[(Ajy hN h (d:=0) (by decide)).list]at hT;unfold II;try simp only[clR]
 rw[hT,Dn];dsimp only;rw[show((0:Int) != 0)=false from rfl,cond_false,TK (by rw[hm];omega),cond_false];refine(KH (mk:=fun i acc=>((i:Int),acc)) l (0,[],[]) gnK (fun acc=>some (acc,0)) ?_ ?_ N (by omega)).trans rfl
 ·intro i acc hi ha k;have e1:=AtU (fun g=>Ea 48 (F5 g)) l (0,[],[]) (0,[],[]) hi;have hg:=h _ (getD_mem (0,[],[]) hi);have hb:=aZ hN hg;have G:=aY hN hg;generalize l.getD i (0,[],[])=g at *
  have hL:=Ii N (F5 g) (by omega) (by omega) (by omega);rw[(G.par 0 (by decide)).list]at hL;have hD:=G.dec;dsimp only[U2];simp (disch:=first | assumption | omega) only[DT,hm,e1,el1,el2,hL,hD,ES,bne_self_eq_false,List.length_cons,List.length_nil,List.getD_cons_zero];try rfl
 ·intro acc k ha;dsimp only[U2];simp (disch:=first | assumption | omega) only[DT,hm]
theorem AlL {s:List Gn×List Gn} (h:okS s):QO N (PU s)=some ((s.1.map gnK,s.2.map gnK),0):=by
 have ck:=yV hN (ArB hN h);have hl:=AkJ hN h;have hg:=Yv 48 (partT 160 s.1++partT 161 s.2);have o:MI N (PU s)=some (Ea 48 (partT 160 s.1++partT 161 s.2),0):=by rw[QQ N _ (by omega) (by omega)];exact congrArg some (Zt 48 _ (by decide) (by decide) (by unfold PU at hl;omega))
 have L:=Ii N (partT 160 s.1++partT 161 s.2) (by omega) (by unfold PU at hl;omega) (by unfold PU at hl;omega);rw[(AkK hN h (d:=0) (by decide)).list]at L;have d1:=fun e=>Abk hN h.a0 (e:s.1≠ []) h.l0;have d2:=fun e=>Abk hN h.a1 (e:s.2≠ []) h.l1;have hne:=h.ne;obtain⟨a,b⟩:=s;dsimp only at *
 unfold QO;try simp only[clR]
 cases a with
 | nil =>
  have d2:=d2 (by rcases hne with h | h<;>first | exact h | exact absurd rfl h);rw[List.map_nil]at ck ⊢;cases b with
  | nil=>rcases hne with h | h<;>exact absurd rfl h
  | cons y b =>simp (disch:=first | assumption | omega) only[DT,o,L,el1,el2,d2,bne_self_eq_false,List.isEmpty_nil,List.isEmpty_cons,List.nil_append,List.length_cons,List.length_nil,List.getD_cons_zero,jD,List.drop_succ_cons,List.drop_zero,ck];try rfl
 | cons x a =>
  have d1:=d1 (by simp);cases b with
  | nil =>rw[List.map_nil (f:=gnK)]at ck ⊢;simp (disch:=first | assumption | omega) only[DT,o,L,el1,el2,d1,bne_self_eq_false,List.isEmpty_nil,List.isEmpty_cons,List.append_nil,List.length_cons,List.length_nil,List.getD_cons_zero,jD,List.drop_succ_cons,List.drop_zero,ck];try rfl
  | cons y b =>have d2:=d2 (by simp);simp (disch:=first | assumption | omega) only[DT,o,L,el1,el2,d1,d2,bne_self_eq_false,List.isEmpty_cons,List.cons_append,List.nil_append,List.length_cons,List.length_nil,List.getD_cons_zero,jD,List.drop_succ_cons,List.drop_zero,ck];try rfl
theorem Atu {s:List Gn×List Gn} (h:okS s) (x:Info):HY N (PU s) x=some (0,(x.1,x.2.1,x.2.2.1,x.2.2.2.1,x.2.2.2.2.1,x.2.2.2.2.2.1,x.2.2.2.2.2.2.1,x.2.2.2.2.2.2.2.1,x.2.2.2.2.2.2.2.2.1,x.2.2.2.2.2.2.2.2.2.1,x.2.2.2.2.2.2.2.2.2.2.1,true,s.1.map gnK,s.2.map gnK,x.2.2.2.2.2.2.2.2.2.2.2.2.2.2)):=by
 unfold HY;try simp -zeta only[Ap]
 rw[AlL hN h,Dn]
theorem mW {s:Bs} (h:s∈Ub) (r:List El):MB N (Ea 6 (idT s)::r)=some (s,0,r):=by unfold MB;rw[Qx 6 (idT s) r (k:=6) rfl,Dn];dsimp only[Ea];rw[show((0:Int) != 0)=false from rfl,cond_false,(P5 hN h).dec,Dn]
theorem Afs {c:Bs} {es:List El} (hc:c.length<=131072) (he:QG c=(es,0)) (h0:es≠ []):L8 N (Sp.elem 48 c)=some (.inl (es,0)):=by have ho:KF N (Sp.elem 48 c) 48=some (.inl (es,0)):=zV hN (by omega) (by omega) hc he;have:=List.length_pos_iff.2 h0;unfold L8 EH;rw[ho,GI];dsimp only;rw[show((0:Int) != 0)=false from rfl,cond_false,Dn];dsimp only;rw[TK (by omega)];rfl
theorem Aun {pu:List Bs} (h:bP SH pu) (h0:pu≠ []) (x:Info) (hx:x.2.2.2.2.1=[]):Jr N (Acn pu) x=some (0,(x.1,x.2.1,x.2.2.1,x.2.2.2.1,pu,x.2.2.2.2.2)):=by
 have h3:=h.len;have hl:=Gs (g:=idB) (M:=15) (l:=pu) (fun s hm=>IB hN (VD s (h.all s hm)));have ho:=Afs hN (c:=(pu.map idB).flatten) (by omega) (Alc hN h (d:=0) (by decide)).list (fun e=>h0 (List.map_eq_nil_iff.1 e));have hm:(pu.map fun s=>Ea 6 (idT s)).length=pu.length:=List.length_map _;unfold Jr Acn;try simp only[clR]
 rw[ho,GI];dsimp only;rw[hx];refine(GY (fun i=>(0,x.1,x.2.1,x.2.2.1,x.2.2.2.1,x.2.2.2.2.2.2.2.1,x.2.2.2.2.2.2.2.2.1,x.2.2.2.2.2.2.2.2.2.1,x.2.2.2.2.2.2.2.2.2.2.1,x.2.2.2.2.2.2.2.2.2.2.2.1,x.2.2.2.2.2.2.2.2.2.2.2.2.1,x.2.2.2.2.2.2.2.2.2.2.2.2.2.1,x.2.2.2.2.2.2.2.2.2.2.2.2.2.2.1,x.2.2.2.2.2.2.2.2.2.2.2.2.2.2.2.1,x.2.2.2.2.2.2.2.2.2.2.2.2.2.2.2.2.1,x.2.2.2.2.2.2.2.2.2.2.2.2.2.2.2.2.2.1,x.2.2.2.2.2.1,x.2.2.2.2.2.2.1,x.2.2.2.2.2.2.2.2.2.2.2.2.2.2.2.2.2.2,(pu.map fun s=>Ea 6 (idT s)).drop i,pu.take i)) pu.length (some (0,(x.1,x.2.1,x.2.2.1,x.2.2.2.1,pu,x.2.2.2.2.2))) ?_ ?_ (N+1) (by omega))
 ·intro i hi k;have e1:=AbG (fun s=>Ea 6 (idT s)) pu [] hi;have e2:=AfJ pu [] hi;have e3:=mW hN (VD _ (h.all _ (getD_mem [] hi))) ((pu.map fun s=>Ea 6 (idT s)).drop (i+1));have e4:(pu.take i).length=i:=by rw[List.length_take];omega
  have e5:(((pu.map fun s=>Ea 6 (idT s)).drop i).length:Int)=((pu.length - i:Nat):Int):=by rw[List.length_drop,hm]
  dsimp only[U21];unfold EH;rw[<- e1]at e3;simp (disch:=first | assumption | omega) only[DT,e5,Option.isSome_some,Option.getD_some,beq_self_eq_true,e3,e4,e2];try rfl
 ·intro k;have e1:(pu.map fun s=>Ea 6 (idT s)).drop pu.length=[]:=by rw[<- hm,List.drop_length]
  dsimp only[U21];unfold EH;rw[e1,List.take_length];rfl
set_option maxHeartbeats 400000 in
theorem Auj {po:List Bs} (h:bP SG po) (h0:po≠ []) (x:Info) (hx:x.2.2.2.2.2.1=[]):Jq N (Ack po) x=some (0,(x.1,x.2.1,x.2.2.1,x.2.2.2.1,x.2.2.2.2.1,po,x.2.2.2.2.2.2)):=by
 have h3:=h.len;have hl:=Gs (g:=fun s=>Sp.elem 48 (idB s)) (M:=20) (l:=po) (fun s hm=>by have:=IB hN (FT s (h.all s hm));have:=Sp.DF 48 (idB s);omega);have ho:=Afs hN (c:=(po.map fun s=>Sp.elem 48 (idB s)).flatten) (by omega) (Alb hN h (d:=0) (by decide)).list (fun e=>h0 (List.map_eq_nil_iff.1 e));have hm:(po.map yB).length=po.length:=List.length_map _;unfold Jq Sj Ack;try simp only[clR]
 rw[ho,GI];dsimp only;rw[show((0:Int) != 0)=false from rfl,cond_false,hx]
 suffices e: ∀ kk:Int×Info->Option (Int×Info),Dj (Dz _ (N+1) _ _) kk=kk (0,(x.1,x.2.1,x.2.2.1,x.2.2.2.1,x.2.2.2.2.1,po,x.2.2.2.2.2.2))from e _
 intro kk;refine(congrArg (fun o=>Dj o kk) (GY (fun i=>(x.1,x.2.1,x.2.2.1,x.2.2.2.1,x.2.2.2.2.2.2.2.1,x.2.2.2.2.2.2.2.2.1,x.2.2.2.2.2.2.2.2.2.1,x.2.2.2.2.2.2.2.2.2.2.1,x.2.2.2.2.2.2.2.2.2.2.2.1,x.2.2.2.2.2.2.2.2.2.2.2.2.1,x.2.2.2.2.2.2.2.2.2.2.2.2.2.1,x.2.2.2.2.2.2.2.2.2.2.2.2.2.2.1,x.2.2.2.2.2.2.2.2.2.2.2.2.2.2.2.1,x.2.2.2.2.2.2.2.2.2.2.2.2.2.2.2.2.1,x.2.2.2.2.2.2.2.2.2.2.2.2.2.2.2.2.2.1,(po.map yB).drop i,x.2.2.2.2.2.2.2.2.2.2.2.2.2.2.2.2.2.2,x.2.2.2.2.2.2.1,po.take i,x.2.2.2.2.1)) po.length (some (0,(x.1,x.2.1,x.2.2.1,x.2.2.2.1,x.2.2.2.2.1,po,x.2.2.2.2.2.2))) ?_ ?_ (N+1) (by omega))).trans rfl
 ·intro i hi k;have hi2:=FT _ (h.all _ (getD_mem [] hi));have e1:=AbG yB po [] hi;have e2:=AfJ po [] hi;have e3:=fun r=>mW hN hi2 r;have e4:(po.take i).length=i:=by rw[List.length_take];omega
  have e5:(((po.map yB).drop i).length:Int)=((po.length - i:Nat):Int):=by rw[List.length_drop,hm]
  have hq:Ku N [po.getD i []] (x.1,x.2.1,x.2.2.1,x.2.2.2.1,x.2.2.2.2.1,po.take i,x.2.2.2.2.2.2)=some (x.1,x.2.1,x.2.2.1,x.2.2.2.1,x.2.2.2.2.1,po.take (i+1),x.2.2.2.2.2.2):=by rw[<- e2];exact(Ed _ rfl).trans ((Ed _ (decide_eq_true (by dsimp only;omega))).trans rfl)
  have e6:FN N ((po.map yB).drop i)=some (.inl ([Ea 6 (idT (po.getD i []))],0,(po.map yB).drop (i+1))):=by rw[e1];exact bG hN (by have:=IB hN hi2;omega) (Zf hN hi2 (d:=0) (by decide)).list
  dsimp only[U20];unfold EH;simp (disch:=first | assumption | omega) only[DT,e5,e6,GI];rw[Fa];dsimp only[U22];simp (disch:=first | assumption | omega) only[DT,List.length_nil,e3];obtain⟨K,rfl⟩: ∃ K,N=K+1:=⟨N - 1,by omega⟩
  rw[Fa];dsimp only[U22];simp (disch:=first | assumption | omega) only[DT,List.length_cons,List.length_nil,List.nil_append];rw[N7,if_pos rfl,Dn];dsimp only;rw[show((0:Int) != 0)=false from rfl,cond_false];refine(congrArg (fun o=>Dj o _) hq).trans ?_;rw[Dn]
 ·intro k;have e1:(po.map yB).drop po.length=[]:=by rw[<- hm,List.drop_length]
  dsimp only[U20];unfold EH;rw[e1,List.take_length];rfl
end
end Go.Proofs.YtfgdgdnlglejbaaGreatDoor.Pl
namespace Go.Proofs.YtfgdgdnlglejbaaGreatDoor.Pl
open IntKind (i64)
open Go Vm
section
variable {N:Nat} (hN:1048578<N)
include hN
set_option maxHeartbeats 400000 in
theorem AtV {ma:List (Bs×Bs)} (h:AdN ma) (h0:ma≠ []) (x:Info) (hx:x.2.2.2.2.2.2.1=[]):Jp N (AbY ma) x=some (0,(x.1,x.2.1,x.2.2.1,x.2.2.2.1,x.2.2.2.2.1,x.2.2.2.2.2.1,ma,x.2.2.2.2.2.2.2)):=by
 have h3:=h.len;have hl:=Gs (g:=fun m:Bs×Bs=>Sp.elem 48 (idB m.1++idB m.2)) (M:=35) (l:=ma) (fun s hm=>by have:=Afz hN (h.all s hm).1 (h.all s hm).2;have:=Sp.DF 48 (idB s.1++idB s.2);omega);have hp:=(AkU hN h (d:=0) (by decide)).list;have ho:=Afs hN (by omega) hp (fun e=>h0 (List.map_eq_nil_iff.1 e));have hm:(ma.map xN).length=ma.length:=List.length_map _;unfold Jp Sm AbY;try simp only[clR]
 rw[ho,GI];dsimp only;rw[show((0:Int) != 0)=false from rfl,cond_false,hx]
 suffices e: ∀ kk:Int×Info->Option (Int×Info),Dj (Dz _ (N+1) _ _) kk=kk (0,(x.1,x.2.1,x.2.2.1,x.2.2.2.1,x.2.2.2.2.1,x.2.2.2.2.2.1,ma,x.2.2.2.2.2.2.2))from e _
 intro kk;refine(congrArg (fun o=>Dj o kk) (GY (fun i=>(x.1,x.2.1,x.2.2.1,x.2.2.2.1,x.2.2.2.2.2.2.2.1,x.2.2.2.2.2.2.2.2.1,x.2.2.2.2.2.2.2.2.2.1,x.2.2.2.2.2.2.2.2.2.2.1,x.2.2.2.2.2.2.2.2.2.2.2.1,x.2.2.2.2.2.2.2.2.2.2.2.2.1,x.2.2.2.2.2.2.2.2.2.2.2.2.2.1,x.2.2.2.2.2.2.2.2.2.2.2.2.2.2.1,x.2.2.2.2.2.2.2.2.2.2.2.2.2.2.2.1,x.2.2.2.2.2.2.2.2.2.2.2.2.2.2.2.2.1,x.2.2.2.2.2.2.2.2.2.2.2.2.2.2.2.2.2.1,(ma.map xN).drop i,x.2.2.2.2.2.2.2.2.2.2.2.2.2.2.2.2.2.2,ma.take i,x.2.2.2.2.2.1,x.2.2.2.2.1)) ma.length (some (0,(x.1,x.2.1,x.2.2.1,x.2.2.2.1,x.2.2.2.2.1,x.2.2.2.2.2.1,ma,x.2.2.2.2.2.2.2))) ?_ ?_ (N+1) (by omega))).trans rfl
 ·intro i hi k;have hi2:=h.all _ (getD_mem ([],[]) hi);have e1:=AbG xN ma ([],[]) hi;have e2:=AfJ ma ([],[]) hi;have e3:=fun r=>mW hN (FT _ hi2.1) r;have e3':=fun r=>mW hN (FT _ hi2.2) r;have e4:(ma.take i).length=i:=by rw[List.length_take];omega
  have e5:(((ma.map xN).drop i).length:Int)=((ma.length - i:Nat):Int):=by rw[List.length_drop,hm]
  have hq:Kt N [(ma.getD i ([],[])).1,(ma.getD i ([],[])).2] (x.1,x.2.1,x.2.2.1,x.2.2.2.1,x.2.2.2.2.1,x.2.2.2.2.2.1,ma.take i,x.2.2.2.2.2.2.2)=some (x.1,x.2.1,x.2.2.1,x.2.2.2.1,x.2.2.2.2.1,x.2.2.2.2.2.1,ma.take (i+1),x.2.2.2.2.2.2.2):=by rw[<- e2];exact(Ed _ rfl).trans ((Ed _ rfl).trans ((Ed _ (decide_eq_true (by dsimp only;omega))).trans rfl))
  have e6:FN N ((ma.map xN).drop i)=some (.inl ([Ea 6 (idT (ma.getD i ([],[])).1),Ea 6 (idT (ma.getD i ([],[])).2)],0,(ma.map xN).drop (i+1))):=by rw[e1];exact bG hN (by have:=Afz hN hi2.1 hi2.2;omega) (GL (Zf hN (FT _ hi2.1) (d:=0) (by decide)) (Zf hN (FT _ hi2.2) (d:=0) (by decide))).list
  dsimp only[U20];unfold EH;simp (disch:=first | assumption | omega) only[DT,e5,e6,GI];rw[Fa];dsimp only[U22];simp (disch:=first | assumption | omega) only[DT,List.length_nil,e3];obtain⟨K,rfl⟩: ∃ K,N=K+2:=⟨N - 2,by omega⟩
  rw[Fa];dsimp only[U22];simp (disch:=first | assumption | omega) only[DT,List.length_cons,List.length_nil,List.nil_append,e3'];rw[Fa];dsimp only[U22];simp (disch:=first | assumption | omega) only[DT,List.length_cons,List.length_nil,List.nil_append,List.cons_append];rw[N7,if_pos rfl,Dn];dsimp only;rw[show((0:Int) != 0)=false from rfl,cond_false];refine(congrArg (fun o=>Dj o _) hq).trans ?_;rw[Dn]
 ·intro k;have e1:(ma.map xN).drop ma.length=[]:=by rw[<- hm,List.drop_length]
  dsimp only[U20];unfold EH;rw[e1,List.take_length];rfl
end
