import Derived.Test.YtfgdgdnlglejbaaGreatDoorA19
set_option linter.all false
namespace Go.Proofs.YtfgdgdnlglejbaaGreatDoor.Pl
open IntKind (i64 u8 u32 u64)
open Go Vm
def Az0 (M:Nat) (g:Gn):Bool:=Ns (M+300) g true==some 0&&(Ll (M+300) g true==some 0&&(Oo (M+300) g true==some (ML g,0)&&(MF (M+300) g true==some (ML g,0) &&
 (ND (M+300) (ZF g) true==some (g,0)&&(g.2.2.isEmpty&&(decide ((gnT g).2.length<=40)&&(decide ((gnT g).1<256)&&(decide ((gnT g).1 % 32≠31)&& !Sp.cons (gnT g).1))))))))
def AxK (M:Nat):AjV.all (Az0 M)=true:=by kernel_rfl
structure A1d (N:Nat) (g:Gn):Prop where
 chk:Ns N g true=some 0
 Arc:Ll N g true=some 0
 enc:Oo N g true=some (ML g,0)
 YR:MF N g true=some (ML g,0)
 dec:ND N (ZF g) true=some (gnK g,0)
 fine:Fine (gnT g)
 len:(gnT g).2.length<=620
 Aqc:gnT (gnK g)=gnT g
 okK:okB (gnK g)
 par: ∀ d,d<=6->Par d (ML g) [ZF g]
section
variable {N:Nat} (hN:1048578<N)
include hN
theorem A0k {n:List (List Att)} (hn:okN n):A1d N (4,[],n):=by
 have h1:=QX hN hn;have h2:=V5 hN hn;have h3:=Aiq hN hn;have h4:=ZR hN hn;have h5:=zL hN hn;have hC:=Ahe hN hn;have h6:=QX hN hC;have hl:=Abe hN hn;have w:KP N 164 [nmT n]=_:=Av1 N 164 [nmT n] (by omega) (by omega) hN (by simp) (by rw[Kw];omega);have v:JG N 164 [nmT n]=_:=TS N 164 [nmT n] (by omega) (by omega) hN (by simp) (by rw[Kw];omega);rw[Kw]at w v
 have c1: ∀ m:List (List Att),NH N m=some 0->Ns N (4,[],m) true=some 0:=by
  intro m hm;unfold Ns Acg;try simp only[clR]
  simp (disch:=first | assumption | omega) only[JO,hm,Option.isSome_some,Option.getD_some];try rfl
 have c2:Ll N (4,[],n) true=some 0:=by
  unfold Ll;try simp only[clR]
  dsimp only[U4,KY];simp (disch:=first | assumption | omega) only[JO,h2,Option.isSome_some,Option.getD_some];try rfl
 have hf:Fine (164,nmT n):=(MN (by decide) (by decide) (by omega))
 refine⟨c1 n h1,c2,?_,?_,?_,hf,hl,?_,Or.inr ⟨_,hC,rfl⟩,fun d hd=>N8 hf (by omega) (Ahc hN hn (by omega)).nest⟩
 .unfold Oo;try simp only[clR]
  simp (disch:=first | assumption | omega) only[JO,c1 n h1,h3];show Jt (KP N 164 [nmT n]) _=_;rw[w];rfl
 .unfold MF;try simp only[clR]
  simp (disch:=first | assumption | omega) only[JO,c2,h4];show Jt (JG N 164 [nmT n]) _=_;rw[v];rfl
 .have c3:=c1 _ h6;unfold ND;try simp only[clR]
  show _=some ((4,[],nmC n),0);dsimp only[ZF,gnT,JX];simp (disch:=first | assumption | omega) only[JO,h5,c3,AiE];try rfl
 .show(164,nmT (nmC n))=(164,nmT n);unfold nmT;rw[AzH hN hn]
theorem wM {g:Gn} (h:okB g):A1d N g:=by
 rcases h with h | ⟨n,hn,rfl⟩
 .have hh:=h;obtain⟨M,rfl⟩:=ofM hN;have h:=D7.1 (AxK M) g h;unfold Az0 at h;simp only[Dw,EG,DK,E5,Fe]at h;obtain⟨h1,h2,h3,h4,h5,h6,h7,h8,h9,h10⟩:=h;have hk:gnK g=g:=by obtain⟨k,s,n⟩:=g;dsimp only at h6;subst h6;rfl
  have hf:Fine (gnT g):=⟨h8,h9,by omega⟩
  exact⟨h1,h2,h3,h4,by rw[hk];exact h5,hf,by omega,by rw[hk],by rw[hk];exact Or.inl hh,fun d hd=>Qd hf (by omega) h10⟩
 .exact A0k hN hn
theorem wO {g:Gn} (h:okB g):(ML g).length<=625:=by have:=(wM hN h).len;have:=Sp.JL (gnT g).1 (gnT g).2;unfold ML;omega
end
def of0 {o:Option Int} (h:Ends (fun r=>r=0) o):o=some 0:=by obtain⟨v,rfl,rfl⟩:=h;rfl
def Y4 (l:List Gn):Bs:=(l.map fun g=>Sp.elem 48 (ML g)).flatten
def partT (t:Nat) (l:List Gn):Bs:=bif l.isEmpty then []else Sp.elem t (Y4 l)
def ZB (s:List Gn×List Gn):Bs:=Sp.elem 48 (partT 160 s.1++partT 161 s.2)
def Axb {s:List Gn×List Gn} (h:okS s):(((s.1.length:Int)==0)&&((s.2.length:Int)==0))=false:=by
 obtain⟨a,b⟩:=s;have:=h.ne;cases a with
 | nil=>cases b with
  | nil=>simp at this
  | cons _ _=>simp;omega
 | cons _ _=>simp;omega
section
variable {N:Nat} (hN:1048578<N) {s:List Gn×List Gn} (h:okS s)
include hN h
theorem Aom:Ov N s=some 0:=by
 have l0:=h.l0;have l1:=h.l1;refine of0 ?_;unfold Ov;try simp only[clR]
 rw[Axb h,cond_false,DN (by omega),DN (by omega)];refine Lj (fun x=>0<=x.1/\x.1<=2/\x.2=[s.1,s.2]) (fun x=>(2 - x.1).toNat) ?_ N _ ⟨by dsimp only;omega,by dsimp only;omega,rfl⟩ (by dsimp only;omega);rintro ⟨i,l⟩ ⟨i0,i1,hl⟩ k hk;dsimp only at i0 i1 hl;subst hl;dsimp only[U2];refine JF (fun hi=> ?_) (fun _=>KG rfl);have hi:=D6 hi;refine JC (Dp i0) (JC (Dp (by show i<2;omega)) (JC (Dp (by show i.toNat<2;omega)) ?_))
 have hg: ∀ g∈ [s.1,s.2].getD i.toNat [],okB g:=by
  have:i=0\/i=1:=by omega
  rcases this with rfl | rfl
  .exact h.a0
  .exact h.a1
 have hlen:([s.1,s.2].getD i.toNat []).length<=3:=by
  have:i=0\/i=1:=by omega
  rcases this with rfl | rfl
  .exact l0
  .exact l1
 refine Lj (fun x=>0<=x.1/\x.1<=(([s.1,s.2].getD i.toNat []).length:Int)/\x.2=[s.1,s.2]) (fun x=>((([s.1,s.2].getD i.toNat []).length:Int) - x.1).toNat) ?_ N _ ⟨by dsimp only;omega,by dsimp only;omega,rfl⟩ (by dsimp only;omega);rintro ⟨j,l⟩ ⟨j0,j1,hl⟩ k' hk';dsimp only at j0 j1 hl;subst hl;dsimp only[U2];refine JF (fun hj=> ?_) (fun _=> ?_)
 .have hj:=D6 hj;refine JC (Dp j0) (JC (Dp hj) ?_);rw[(wM hN (hg _ (getD_mem (0,[],[]) (by omega)))).chk,Jy];refine JF (fun e=>by cases e) (fun _=>hk' _ ⟨?_,?_,rfl⟩ ?_)
  .dsimp only;rw[w64 (by omega) (by omega)];omega
  .dsimp only;rw[w64 (by omega) (by omega)];omega
  .dsimp only;rw[w64 (by omega) (by omega)];omega
 .refine hk _ ⟨?_,?_,rfl⟩ ?_
  .dsimp only;rw[w64 (by omega) (by omega)];omega
  .dsimp only;rw[w64 (by omega) (by omega)];omega
  .dsimp only;rw[w64 (by omega) (by omega)];omega
theorem AlN:PU N s=some 0:=by
 have l0:=h.l0;have l1:=h.l1;refine of0 ?_;unfold PU;try simp only[clR]
 rw[Axb h,cond_false,DN (by omega),DN (by omega)];refine JC (Dp (by omega)) (JC (Dp (by omega)) ?_);have hll:(s.1++s.2).length<=6:=by rw[Dv];omega
 refine Lj (fun x=>0<=x.1/\x.1<=((s.1++s.2).length:Int)/\x.2=s.1++s.2) (fun x=>(((s.1++s.2).length:Int) - x.1).toNat) ?_ N _ ⟨by dsimp only;omega,by dsimp only;omega,rfl⟩ (by dsimp only;omega);rintro ⟨j,l⟩ ⟨j0,j1,hl⟩ k hk;dsimp only at j0 j1 hl;subst hl;dsimp only[U2];refine JF (fun hj=> ?_) (fun _=>KG rfl);have hj:=D6 hj;have hm:=getD_mem ((0,[],[]):Gn) (show j.toNat<(s.1++s.2).length by omega);refine JC (Dp j0) (JC (Dp hj) (JC (Dp (by omega)) ?_))
 have hg:okB ((s.1++s.2).getD j.toNat (0,[],[])):=by
  rcases DV.1 hm with hm | hm
  .exact h.a0 _ hm
  .exact h.a1 _ hm
 rw[(wM hN hg).Arc,Jy];refine JF (fun e=>by cases e) (fun _=>hk _ ⟨?_,?_,rfl⟩ ?_)
 .dsimp only;rw[w64 (by omega) (by omega)];omega
 .dsimp only;rw[w64 (by omega) (by omega)];omega
 .dsimp only;rw[w64 (by omega) (by omega)];omega
end
section
variable {N:Nat} (hN:1048578<N) {l:List Gn} (h3:l.length<=3) (h: ∀ g∈l,okB g)
include hN h3 h
theorem Adk:(Y4 l).length<=1890:=by
 have:=Nc (g:=fun g=>Sp.elem 48 (ML g)) (M:=630) (l:=l) fun g hg=>by have:=wO hN (h g hg);have:=Sp.JL 48 (ML g);omega
 unfold Y4;omega
theorem Ac9 (t:Nat):(partT t l).length<=1895:=by
 have:=Adk hN h3 h;have:=Sp.JL t (Y4 l);unfold partT;cases l.isEmpty with
 | true=>exact Es _
 | false=>rw[cond_false];omega
theorem Axi (t:Nat) (ht:t<256) (h31:t % 32≠31):Vf N (t:Int) l=some (partT t l,0):=by
 have hb:=Adk hN h3 h;unfold Vf partT;try simp only[clR]
 cases l with
 | nil=>rfl
 | cons g r =>
  rw[Uc (by simp;omega),cond_false];refine(Xm (mk:=fun i a=>(a,(i:Int))) (g::r) (0,[],[]) (fun g=>Sp.elem 48 (ML g)) (fun a=>Jt (Lm N (t:Int) [a]) fun r=>some (r.1,r.2)) ?_ ?_ N (by omega)).trans ?_
  .intro i a hlt ha k;have hg:=h _ (getD_mem (0,[],[]) hlt);have e1:=(wM hN hg).YR;have gl:=wO hN hg;have hb2:((g::r).map fun g=>Sp.elem 48 (ML g)).flatten.length<=1890:=hb;have hc:decide (a.length+(Sp.elem 48 (ML ((g::r).getD i (0,[],[])))).length<=140737488355328)=true:=Dp (by omega);have w:JG N 48 [ML ((g::r).getD i (0,[],[]))]=_:=TS N 48 [ML ((g::r).getD i (0,[],[]))] (by omega) (by omega) hN (by simp) (by rw[Kw];omega);rw[Kw]at w;simp (disch:=first | assumption | omega) only[JO,e1,w,hc,KI];try rfl
  .intro a k;simp (disch:=first | assumption | omega) only[JO]
  .have w:=AcX N t [Y4 (g::r)] ht h31 hN (by simp) (by rw[Kw];omega);rw[Kw]at w;show Jt (Lm N (t:Int) [Y4 (g::r)]) _=_;rw[w,Jy];rfl
end
section
variable {N:Nat} (hN:1048578<N) {s:List Gn×List Gn} (h:okS s)
include hN h
theorem AsU:(ZB s).length<=3800:=by have a:=Ac9 hN h.l0 h.a0 160;have b:=Ac9 hN h.l1 h.a1 161;have:=Sp.JL 48 (partT 160 s.1++partT 161 s.2);rw[Dv]at this;unfold ZB;omega
theorem A27:Rf N s=some (ZB s,0):=by have a:=Ac9 hN h.l0 h.a0 160;have b:=Ac9 hN h.l1 h.a1 161;have w:Lm N 48 [partT 160 s.1,partT 161 s.2]=_:=AcX N 48 [partT 160 s.1,partT 161 s.2] (by omega) (by omega) hN (by simp) (by rw[wL,Dv];omega);rw[wL]at w;have e1:Vf N 160 s.1=_:=Axi hN h.l0 h.a0 160 (by omega) (by omega);have e2:Vf N 161 s.2=_:=Axi hN h.l1 h.a1 161 (by omega) (by omega);unfold Rf;rw[AlN hN h,Jy,show((0:Int) != 0)=false from rfl,cond_false,e1,Jy];dsimp only;rw[show((0:Int) != 0)=false from rfl,cond_false,e2,Jy];dsimp only;rw[show((0:Int) != 0)=false from rfl,cond_false,w,Jy];rfl
end
def Ap3 {α :Type} {l:List α} (h:l.Nodup) (d: α) {i j:Nat} (hij:j<i) (hi:i<l.length):l.getD j d≠l.getD i d:=by rw[getD_lt l i d hi,getD_lt l j d (by omega)];exact Hm.1 h j i (by omega) hi hij
def Awh {α :Type} (l:List α) (d: α) {i j:Nat} (hij:j<i) (hi:i<l.length):(JB l 0 i).getD j d=l.getD j d:=by
 have:JB l 0 i=l.take i:=by unfold JB;rw[Ff]
 rw[this,getD_lt l j d (by omega),getD_lt _ j d (by rw[DZ];omega),IW]
def Az4 {α :Type} (l:List α) {i:Nat} (hi:i<=l.length):(JB l 0 i).length=i:=by unfold JB;rw[Ff,DZ];omega
def LP: ∀ s∈WR,s∈ZI:=by decide
def Zl: ∀ s∈YO,s∈ZI:=by decide
section
variable {N:Nat} (hN:1048578<N) {L l:List Bs} (hL: ∀ s∈L,s∈ZI) (h:xA L l)
include hN hL h
theorem Az9 {m:Int} (hm:3<=m):O5 N l m=some 0:=by
 have h3:=h.len;refine of0 ?_;unfold O5;try simp only[clR]
 rw[DN (by omega),cond_false];refine Lj (fun x=>0<=x/\x<=(l.length:Int)) (fun x=>((l.length:Int) - x).toNat) ?_ N _ ⟨by omega,by omega⟩ (by omega);intro i ⟨i0,i1⟩ k hk;dsimp only;refine JF (fun hi=> ?_) (fun _=>KG rfl);have hi:=D6 hi;refine JC (Dp i0) (JC (Dp hi) ?_);rw[(Qm hN (hL _ (h.all _ (getD_mem [] (show i.toNat<l.length by omega))))).val,Jy];refine JF (fun e=>by cases e) (fun _=>JC (Dp i0) (JC (Dp i1) ?_));have hc:=Az4 l (i:=i.toNat) (by omega);refine Lj (fun x=>0<=x/\x<=i) (fun x=>(i - x).toNat) ?_ N _ ⟨by omega,by omega⟩ (by omega);intro j ⟨j0,j1⟩ k' hk';dsimp only;refine JF (fun hj=> ?_) (fun _=> ?_)
 .have hj:=D6 hj;rw[hc]at hj;refine JC (Dp j0) (JC (Dp (by omega)) ?_);have hne:=Ap3 h.nod [] (i:=i.toNat) (j:=j.toNat) (by omega) (by omega);rw[Awh l [] (i:=i.toNat) (j:=j.toNat) (by omega) (by omega)];refine JF (fun e=>absurd (EG.1 e).symm hne) (fun _=>hk' _ ⟨?_,?_⟩ ?_)
  .rw[w64 (by omega) (by omega)];omega
  .rw[w64 (by omega) (by omega)];omega
  .rw[w64 (by omega) (by omega)];omega
 .refine hk _ ⟨?_,?_⟩ ?_
  .rw[w64 (by omega) (by omega)];omega
  .rw[w64 (by omega) (by omega)];omega
  .rw[w64 (by omega) (by omega)];omega
theorem AzA {m:Int} (hm:3<=m):P5 N l m=some 0:=by
 have h3:=h.len;refine of0 ?_;unfold P5;try simp only[clR]
 rw[DN (by omega),cond_false];refine Lj (fun x=>0<=x/\x<=(l.length:Int)) (fun x=>((l.length:Int) - x).toNat) ?_ N _ ⟨by omega,by omega⟩ (by omega);intro i ⟨i0,i1⟩ k hk;dsimp only;refine JF (fun hi=> ?_) (fun _=>KG rfl);have hi:=D6 hi;refine JC (Dp i0) (JC (Dp hi) ?_);rw[(Qm hN (hL _ (h.all _ (getD_mem [] (show i.toNat<l.length by omega))))).Avn,Jy];refine JF (fun e=>by cases e) (fun _=> ?_);refine Lj (fun x=>0<=x/\x<=i) (fun x=>(i - x).toNat) ?_ N _ ⟨by omega,by omega⟩ (by omega);intro j ⟨j0,j1⟩ k' hk';dsimp only;refine JF (fun hj=> ?_) (fun _=> ?_)
 .have hj:=D6 hj;refine JC (Dp j0) (JC (Dp (by omega)) ?_);have hne:=Ap3 h.nod [] (i:=i.toNat) (j:=j.toNat) (by omega) (by omega);refine JF (fun e=>absurd (EG.1 e) hne) (fun _=>hk' _ ⟨?_,?_⟩ ?_)
  .rw[w64 (by omega) (by omega)];omega
  .rw[w64 (by omega) (by omega)];omega
  .rw[w64 (by omega) (by omega)];omega
 .refine hk _ ⟨?_,?_⟩ ?_
  .rw[w64 (by omega) (by omega)];omega
  .rw[w64 (by omega) (by omega)];omega
  .rw[w64 (by omega) (by omega)];omega
end
section
variable {N:Nat} (hN:1048578<N) {l:List (Bs×Bs)} (h:Alq l)
include hN h
theorem A1J:OB N l=some 0:=by
 have h3:=h.len;refine of0 ?_;unfold OB;try simp only[clR]
 rw[DN (by omega),cond_false];refine Lj (fun x=>0<=x/\x<=(l.length:Int)) (fun x=>((l.length:Int) - x).toNat) ?_ N _ ⟨by omega,by omega⟩ (by omega);intro i ⟨i0,i1⟩ k hk;dsimp only;refine JF (fun hi=> ?_) (fun _=>KG rfl);have hi:=D6 hi;refine JC (Dp i0) (JC (Dp hi) ?_);have hm:=h.all _ (getD_mem ([],[]) (show i.toNat<l.length by omega));have e1:=(Qm hN (LP _ hm.1)).val;have e2:=(Qm hN (LP _ hm.2)).val;rw[e1,Jy];simp only[e2,Option.isSome_some,Option.getD_some,EO,L8,EK,FM,cond_false];refine JC (Dp i0) (JC (Dp i1) ?_);have hc:=Az4 l (i:=i.toNat) (by omega);refine Lj (fun x=>0<=x.1/\x.1<=i/\x.2=l.getD i.toNat ([],[])) (fun x=>(i - x.1).toNat) ?_ N _ ⟨by dsimp only;omega,by dsimp only;omega,rfl⟩ (by dsimp only;omega);rintro ⟨j,a,b⟩ ⟨j0,j1,hab⟩ k' hk';dsimp only at j0 j1 hab;dsimp only[U3];refine JF (fun hj=> ?_) (fun _=> ?_)
 .have hj:=D6 hj;rw[hc]at hj;refine JC (Dp j0) (JC (Dp (by omega)) ?_);have hne:=Ap3 h.nod ([],[]) (i:=i.toNat) (j:=j.toNat) (by omega) (by omega);rw[Awh l ([],[]) (i:=i.toNat) (j:=j.toNat) (by omega) (by omega)];refine JF (fun e=> ?_) (fun _=>hk' _ ⟨?_,?_,hab⟩ ?_)
  .simp only[Gh,Dw,EG]at e;exact absurd (by rw[<- hab,e.1,e.2]) hne
  .dsimp only;rw[w64 (by omega) (by omega)];omega
  .dsimp only;rw[w64 (by omega) (by omega)];omega
  .dsimp only;rw[w64 (by omega) (by omega)];omega
 .refine hk _ ⟨?_,?_⟩ ?_
  .rw[w64 (by omega) (by omega)];omega
  .rw[w64 (by omega) (by omega)];omega
  .rw[w64 (by omega) (by omega)];omega
theorem A1K:PW N l=some 0:=by
 have h3:=h.len;refine of0 ?_;unfold PW;try simp only[clR]
 rw[DN (by omega),cond_false];refine Lj (fun x=>0<=x/\x<=(l.length:Int)) (fun x=>((l.length:Int) - x).toNat) ?_ N _ ⟨by omega,by omega⟩ (by omega);intro i ⟨i0,i1⟩ k hk;dsimp only;refine JF (fun hi=> ?_) (fun _=>KG rfl);have hi:=D6 hi;refine JC (Dp i0) (JC (Dp hi) ?_);have hm:=h.all _ (getD_mem ([],[]) (show i.toNat<l.length by omega));have e1:=(Qm hN (LP _ hm.1)).Avn;have e2:=(Qm hN (LP _ hm.2)).Avn;rw[e1,Jy];simp only[e2,Option.isSome_some,Option.getD_some,EO,L8,EK,FM,cond_false];refine Lj (fun x=>0<=x.1/\x.1<=i/\x.2=l.getD i.toNat ([],[])) (fun x=>(i - x.1).toNat) ?_ N _ ⟨by dsimp only;omega,by dsimp only;omega,rfl⟩ (by dsimp only;omega);rintro ⟨j,a,b⟩ ⟨j0,j1,hab⟩ k' hk';dsimp only at j0 j1 hab;dsimp only[U3];refine JF (fun hj=> ?_) (fun _=> ?_)
 .have hj:=D6 hj;refine JC (Dp j0) (JC (Dp (by omega)) ?_);have hne:=Ap3 h.nod ([],[]) (i:=i.toNat) (j:=j.toNat) (by omega) (by omega);refine JF (fun e=> ?_) (fun _=>hk' _ ⟨?_,?_,hab⟩ ?_)
  .simp only[Gh,Dw,EG]at e;exact absurd (by rw[<- hab,<- e.1,<- e.2]) hne
  .dsimp only;rw[w64 (by omega) (by omega)];omega
  .dsimp only;rw[w64 (by omega) (by omega)];omega
  .dsimp only;rw[w64 (by omega) (by omega)];omega
 .refine hk _ ⟨?_,?_⟩ ?_
  .rw[w64 (by omega) (by omega)];omega
  .rw[w64 (by omega) (by omega)];omega
  .rw[w64 (by omega) (by omega)];omega
end
def AlJ (N:Nat) {n:Int} (h0: -1<=n) (h1:n<=64):Qp N n=some true:=by
 unfold Qp;try simp only[clR]
 first
 | rw[Dp (by omega),Dp (by omega)];rfl
 | simp;omega
def AlK (N:Nat) {n:Int} (h0: -1<=n) (h1:n<=64):Oj N n=some true:=by
 unfold Oj;try simp only[clR]
 first
 | rw[Dp (by omega),Dp (by omega)];rfl
 | simp;omega
def A1t {C:Bool} {D:Int} (h:(C,D)∈yC): -1<=D/\D<=3/\(D≠ -1->C=true):=by simp only[yC,D8,Prod.mk.injEq,Ew,Fz]at h;rcases h with ⟨rfl,rfl⟩ | ⟨rfl,rfl⟩ | ⟨rfl,rfl⟩ | ⟨rfl,rfl⟩ | ⟨rfl,rfl⟩ | ⟨rfl,rfl⟩<;>decide
def iP {n:Int} (h:n∈rM): -1<=n/\n<=3:=by simp only[rM,D8,Ew,Fz]at h;omega
def Ahd {x:Info} (h:OkI x):(x.2.1&& !x.1)=false/\ -1<=x.2.2.1/\x.2.2.1<=3/\((x.2.2.1 != -1)&& !x.2.1)=false:=by
 rcases h.bas with ⟨a,b⟩ | ⟨a,b,c⟩
 .obtain⟨p,q,r⟩:=A1t b;refine⟨by rw[a];simp,p,q,?_⟩;by_cases e:x.2.2.1= -1
  .rw[e];rfl
  .rw[r e];simp
 .rw[a,b,c];exact⟨rfl,by omega,by omega,rfl⟩
def Ag8 {s:Bs} (h:s∈skL):s.length<=16:=by
 have: ∀ s∈skL,s.length<=16:=by decide
 exact this s h
def Aaf {s:Bs} (h:s∈akL):s.length<=16:=by
 have: ∀ s∈akL,s.length<=16:=by decide
 exact this s h
def Ab7 {l:List Ex} (h:l∈unL):l.length<=2:=by
 have: ∀ l∈unL,l.length<=2:=by decide
 exact this l h
section
variable {N:Nat} (hN:1048578<N)
include hN
theorem AzM {l:List Pt} (h:l=[]\/VH l):MX N l=some 0:=by
 rcases h with rfl | h
 .obtain⟨M,rfl⟩:=ofM hN;kernel_rfl
 .exact Aoi hN h
theorem AzL {l:List Pt} (h:l=[]\/VH l):Lr N l=some 0:=by
 rcases h with rfl | h
 .obtain⟨M,rfl⟩:=ofM hN;kernel_rfl
 .exact AqZ hN h
theorem A0g {x:Info} (hu:x.2.2.2.2.2.2.2.2.2.2.2.2.2.2.2.2.2.2.length<=2):Ends (fun r=>r<=15) (gJ N x):=by
 unfold gJ;try simp only[clR]
 refine Lj (fun y=>0<=y.2.1/\y.2.1<=13/\0<=y.1/\y.1<=2+y.2.1/\y.2.2.length=13) (fun y=>(13 - y.2.1).toNat) ?_ N _ ⟨by dsimp only;omega,by dsimp only;omega,by dsimp only;omega,by dsimp only;omega,rfl⟩ (by dsimp only;omega);rintro ⟨a,i,l⟩ ⟨i0,i1,a0,a1,hl⟩ k hk;dsimp only at i0 i1 a0 a1 hl;dsimp only[U3];refine JF (fun hi=> ?_) (fun _=>KG (by show a<=15;omega));have hi:=D6 hi;refine JC (Dp (by omega)) (JC (Dp (by omega)) (JC (Dp (by omega)) (JF (fun _=>hk _ ⟨?_,?_,?_,?_,hl⟩ ?_) (fun _=>hk _ ⟨?_,?_,?_,?_,hl⟩ ?_))))
 all_goals
  dsimp only;try rw[w64 (x:=i+1) (by omega) (by omega)]
  try rw[w64 (x:=a+1) (by omega) (by omega)]
  omega
theorem Atd {x:Info} (h:OkI x):QJ N x=some 0:=by
 refine of0 ?_;obtain⟨b1,b2,b3,b4⟩:=Ahd h;obtain⟨B,C,D,F,G,H,I,J,K,L,O,Q,R,S,T,U,V,W,X⟩:=x;dsimp only at b1 b2 b3 b4;have l1:=iP h.re;have l2:=iP h.im;have l3:=h.ia;have l4:=h.us;dsimp only at l1 l2 l3 l4;unfold QJ;try simp only[clR]
 simp only[AlJ N (n:=D) (by omega) (by omega),AlJ N (n:=J) (by omega) (by omega),AlJ N (n:=K) (by omega) (by omega),AlJ N (n:=L) (by omega) (by omega),Jy,Option.isSome_some,Option.getD_some,EO,L8,EK,GL];rw[b1,b4,DN (show ¬ F<0 by omega),DN (show ¬ F>511 by omega)];refine JC (by cases D != -1<;>rfl) (JF (fun e=>by cases e) (fun _=>JF (fun e=>by cases e) (fun _=> ?_)));have e1:P5 N G 8=some 0:=AzA hN Zl h.pu (by omega);have e2:P5 N H 8=some 0:=AzA hN LP h.po (by omega);have e3:PW N I=some 0:=A1K hN h.ma;have e4:Qk N O=some 0:=AfO hN h.na;have e5:MX N V=some 0:=AzM hN h.pt;have e6:MX N W=some 0:=AzM hN h.fr;rw[e1,Jy];refine JF (fun e=>by cases e) (fun _=> ?_);rw[e2,Jy];refine JF (fun e=>by cases e) (fun _=> ?_);rw[e3,Jy];refine JF (fun e=>by cases e) (fun _=> ?_);rw[e4,Jy];refine JF (fun e=>by cases e) (fun _=> ?_);refine iM (P:=fun y=>y=(B,C,D,F,G,H,I,J,K,L,O,Q,R,S,T,U,V,W,X)) (fun j hj=> ?_) ?_
 .rcases h.con with ⟨c0,c1,c2⟩ | ⟨c0,c1⟩
  .dsimp only at c0 c1 c2;subst c0 c1 c2;refine JF (fun e=>by cases e) (fun _=>JF (fun e=>by cases e) (fun _=>hj _ rfl))
  .dsimp only at c0 c1;subst c0;refine JF (fun _=> ?_) (fun e=>by cases e);rw[AlN hN c1,Jy];exact JF (fun e=>by cases e) (fun _=>hj _ rfl)
 rintro _ rfl;dsimp only[U19];have l5:=Ag8 h.sk;have l6:=Aaf h.ak;dsimp only at l5 l6;rw[DN (show ¬(T.length:Int)>32 by omega),DN (show ¬(U.length:Int)>32 by omega)];refine JF (fun e=>by cases e) (fun _=> ?_);rw[e5,Jy];refine JF (fun e=>by cases e) (fun _=> ?_);rw[e6,Jy];refine JF (fun e=>by cases e) (fun _=> ?_);have hu:X∈unL:=h.un;refine JM (A0g hN (x:=(B,C,D,F,G,H,I,J,K,L,O,Q,R,S,T,U,V,W,X)) (Ab7 hu)) fun(c:Int) hc15=>JF (fun e=>by exfalso;have h1:c<=15:=hc15;have h2:c>24:=D6 e;omega) (fun _=> ?_);obtain⟨M,rfl⟩:=ofM hN;simp only[unL,D8,Ew,Fz]at hu;clear h;rcases hu with rfl | rfl | rfl | rfl | rfl
 .exact⟨0,by kernel_rfl,rfl⟩
 .exact⟨0,by kernel_rfl,rfl⟩
 .exact⟨0,by kernel_rfl,rfl⟩
 .exact⟨0,by kernel_rfl,rfl⟩
 .exact⟨0,by kernel_rfl,rfl⟩
theorem A0e {x:Info} (h:OkI x):Ph N x=some 0:=by
 obtain⟨B,C,D,F,G,H,I,J,K,L,O,Q,R,S,T,U,V,W,X⟩:=x;unfold Ph;try simp only[clR]
 rcases h.con with ⟨c0,c1,c2⟩ | ⟨c0,c1⟩
 .dsimp only at c0 c1 c2;subst c0 c1 c2;rfl
 .dsimp only at c0 c1;subst c0;rw[cond_true,Aom hN c1,Jy]
theorem A2S {l:List Ex} (h:l∈unL):UC N l=some 0:=by obtain⟨M,rfl⟩:=ofM hN;simp only[unL,D8,Ew,Fz]at h;rcases h with rfl | rfl | rfl | rfl | rfl<;>kernel_rfl
omit hN in
theorem Ayg (x:Info) (i:Nat) (hi:i<13):Ends (fun _=>True) (AgS N (((Pn 0).getD []).getD i ([],0,0,0,0)).2.2.1 x):=by
 have:i=0\/i=1\/i=2\/i=3\/i=4\/i=5\/i=6\/i=7\/i=8\/i=9\/i=10\/i=11\/i=12:=by omega
 rcases this with rfl | rfl | rfl | rfl | rfl | rfl | rfl | rfl | rfl | rfl | rfl | rfl | rfl
 all_goals
  obtain⟨B,C,D,F,G,H,I,J,K,L,O,Q,R,S,T,U,V,W,X⟩:=x;first
  | exact⟨_,rfl,trivial⟩
  | (have e: ∃ v,Ue N (B,C,D,F,G,H,I,J,K,L,O,Q,R,S,T,U,V,W,X)=some v:=by
      unfold Ue;try simp only[clR]
      exact⟨_,rfl⟩
     obtain⟨v,e⟩:=e;exact⟨v,e,trivial⟩)
theorem Atc {x:Info} (h:OkI x):P9 N x=some 0:=by
 refine of0 ?_;obtain⟨b1,b2,b3,b4⟩:=Ahd h;have e7:=A0e hN h;obtain⟨B,C,D,F,G,H,I,J,K,L,O,Q,R,S,T,U,V,W,X⟩:=x;dsimp only at b1 b2 b3 b4;have l1:=iP h.re;have l2:=iP h.im;have l3:=h.ia;have l4:=h.us;dsimp only at l1 l2 l3 l4;unfold P9;try simp only[clR]
 simp only[AlK N (n:=D) (by omega) (by omega),AlK N (n:=J) (by omega) (by omega),AlK N (n:=K) (by omega) (by omega),AlK N (n:=L) (by omega) (by omega),Jy,Option.isSome_some,Option.getD_some,EO,L8,EK,GL];rw[b1,b4,DN (show ¬ F<0 by omega),DN (show ¬ F>511 by omega)];refine JC (by cases D != -1<;>rfl) (JF (fun e=>by cases e) (fun _=>JF (fun e=>by cases e) (fun _=> ?_)));have e1:O5 N G 8=some 0:=Az9 hN Zl h.pu (by omega);have e2:O5 N H 8=some 0:=Az9 hN LP h.po (by omega);have e3:OB N I=some 0:=A1J hN h.ma;have e4:OC N O=some 0:=Air hN h.na;have e5:Lr N V=some 0:=AzL hN h.pt;have e6:Lr N W=some 0:=AzL hN h.fr;have l7:=h.na.1;dsimp only at l7;rw[e1,Jy];refine JF (fun e=>by cases e) (fun _=> ?_);rw[e2,Jy];refine JF (fun e=>by cases e) (fun _=> ?_);rw[e3,Jy];refine JF (fun e=>by cases e) (fun _=> ?_);rw[DN (show ¬(O.length:Int)>16 by omega),cond_false,e4,Jy];refine JF (fun e=>by cases e) (fun _=> ?_);rw[e7,Jy];refine JF (fun e=>by cases e) (fun _=> ?_);have l5:=Ag8 h.sk;have l6:=Aaf h.ak;dsimp only at l5 l6;rw[DN (show ¬(T.length:Int)>32 by omega),DN (show ¬(U.length:Int)>32 by omega)];refine JF (fun e=>by cases e) (fun _=> ?_);rw[e5,Jy];refine JF (fun e=>by cases e) (fun _=> ?_);rw[e6,Jy];refine JF (fun e=>by cases e) (fun _=> ?_);have hu:X∈unL:=h.un;have hul:=Ab7 hu;have hrw:Pn N=some ((Pn 0).getD []):=rfl;have hrl:((Pn 0).getD []).length=13:=rfl;rw[hrw,Jy];refine Lj (fun y=>0<=y.2.1/\y.2.1<=13/\0<=y.1/\y.1<=2+y.2.1/\y.2.2=(B,C,D,F,G,H,I,J,K,L,O,Q,R,S,T,U,V,W,X)) (fun y=>(13 - y.2.1).toNat) ?_ N _ ⟨by dsimp only;omega,by dsimp only;omega,by dsimp only;omega,by dsimp only;omega,rfl⟩ (by dsimp only;omega);rintro ⟨a,i,y⟩ ⟨i0,i1,a0,a1,hl⟩ k hk;dsimp only at i0 i1 a0 a1 hl;subst hl;dsimp only[U21];refine JF (fun hi=> ?_) (fun _=> ?_)
 .have hi:=D6 hi;rw[hrl]at hi;refine JC (Dp (by omega)) (JC (Dp (by omega)) (JM (Ayg _ i.toNat (by omega)) fun v _=>JF (fun _=>hk _ ⟨?_,?_,?_,?_,rfl⟩ ?_) (fun _=>hk _ ⟨?_,?_,?_,?_,rfl⟩ ?_)))
  all_goals
   dsimp only;try rw[w64 (x:=i+1) (by omega) (by omega)]
   try rw[w64 (x:=a+1) (by omega) (by omega)]
   omega
 .dsimp only[U20];refine JF (fun e=>by exfalso;have h2:a>24:=D6 e;omega) (fun _=> ?_);rw[A2S hN hu,Jy];exact KG rfl
end
def usQ (M:Nat) (n:Nat):Bool:=PD (M+300) (n:Int)==some (flB (n:Int),0)&&(RF (M+300) (n:Int)==some (flB (n:Int),0)&&(UY (M+300) (flB (n:Int))==some ((n:Int),0)&&decide ((flB (n:Int)).length<=5)))
def A2x (M:Nat):(List.range 512).all (usQ M)=true:=by kernel_rfl
structure A3c (N:Nat) (r:Int):Prop where
 put:PD N r=some (flB r,0)
 Anv:RF N r=some (flB r,0)
 get:UY N (flB r)=some (r,0)
 len:(flB r).length<=5
def Av7 {N:Nat} (hN:1048578<N) {r:Int} (h0:0<=r) (h1:r<=511):A3c N r:=by
 obtain⟨M,rfl⟩:=ofM hN;have h:=D7.1 (A2x M) r.toNat (ES.2 (by omega))
 unfold usQ at h;rw[show((r.toNat:Nat):Int)=r by omega]at h;simp only[Dw,EG,DK]at h;exact⟨h.1,h.2.1,h.2.2.1,h.2.2.2⟩
def idB (s:Bs):Bs:=Sp.elem 6 (idT s)
def yB (ca:Bool) (pl:Int):Bs:=Sp.elem 48 ((bif ca then Sp.elem 1 [255]else [])++(bif pl != -1 then LX 2 pl else []))
def Agb (l:List Bs):Bs:=Sp.elem 48 (l.map idB).flatten
def AfU (l:List Bs):Bs:=Sp.elem 48 (l.map fun s=>Sp.elem 48 (idB s)).flatten
def AfH (l:List (Bs×Bs)):Bs:=Sp.elem 48 (l.map fun m=>Sp.elem 48 (idB m.1++idB m.2)).flatten
def kR (re im:Int):Bs:=Sp.elem 48 ((bif re != -1 then LX 128 re else [])++(bif im != -1 then LX 129 im else []))
section
variable {N:Nat} (hN:1048578<N)
include hN
theorem OI {s:Bs} (h:s∈ZI):(idB s).length<=15:=by have:=(Qm hN h).len;have:=Sp.JL 6 (idT s);unfold idB;omega
end
section
variable {N:Nat} (hN:1048578<N)
include hN
theorem YI {t:Nat} {n:Int} (h0:0<=n) (h1:n<256):(LX t n).length<=7:=by have:=(Aw6 hN h0 h1).len;have:=Sp.JL t (inB n);unfold LX;omega
theorem Ahh {b:Bool} {c:Bs} {k:Nat} (h:b=true->c.length<=k):((bif b then c else []):Bs).length<=k:=by
 cases b with
 | true=>exact h rfl
 | false=>exact Es _
omit hN in
omit hN in
end
def Nh:Info->List (Bool×Ex)
 | (B,C,D,F,G,H,I,J,K,L,M,O,P,Q,R,S,T,U,V) =>
  [(B,[50,46,53,46,50,57,46,49,57],true,yB C D),
   (F != 0,[50,46,53,46,50,57,46,49,53],true,Sp.elem 3 (flB F)),
   (decide (((G.length:Nat):Int)>0),[50,46,53,46,50,57,46,51,55],false,Agb G),
   (decide (((H.length:Nat):Int)>0),[50,46,53,46,50,57,46,51,50],false,AfU H),
   (decide (((I.length:Nat):Int)>0),[50,46,53,46,50,57,46,51,51],true,AfH I),
   (J != -1||K != -1,[50,46,53,46,50,57,46,51,54],true,kR J K),
   (L != -1,[50,46,53,46,50,57,46,53,52],true,LX 2 L),
   (decide (((M.length:Nat):Int)>0),[50,46,53,46,50,57,46,49,55],false,Sp.elem 48 (LG M)),
   (O,[50,46,53,46,50,57,46,51,48],true,ZB (P,Q)),
   (!(R==[]),[50,46,53,46,50,57,46,49,52],false,Sp.elem 4 R),
   (!(S==[]),[50,46,53,46,50,57,46,51,53],false,Sp.elem 48 (Sp.elem 128 S)),
   (decide (((T.length:Nat):Int)>0),[50,46,53,46,50,57,46,51,49],false,psB T),
   (decide (((U.length:Nat):Int)>0),[50,46,53,46,50,57,46,52,54],false,psB U)]
abbrev zR:Bool×Ex:=(false,[],false,[])
def KN (r:Bool×Ex):List Ex:=bif r.1 then [r.2]else []
def exI (x:Info):List Ex:=(Nh x).flatMap KN++x.2.2.2.2.2.2.2.2.2.2.2.2.2.2.2.2.2.2
def rwL:List (Bs×Int×Nat×Nat×Nat):=(Pn 0).getD []
def Ag4 (x:Info):(Nh x).length=13:=rfl
def ne_of {α :Type} {l:List α} (h:decide (((l.length:Nat):Int)>0)=true):l≠ []:=by rintro rfl;cases h
def ne1 {n:Int} (h:(n != -1)=true):n≠ -1:=by simpa using h
def Abj {l:List Pt} (h:l=[]\/VH l) (hh:decide (((l.length:Nat):Int)>0)=true):VH l:=h.resolve_left (ne_of hh)
def Akn {B C:Bool} {D F:Int} {G H:List Bs} {I:List (Bs×Bs)} {J K L:Int} {M:List Gn} {O:Bool} {P Q:List Gn} {R S:Bs} {T U:List Pt} {V:List Ex} (h:OkI (B,C,D,F,G,H,I,J,K,L,M,O,P,Q,R,S,T,U,V)) (hh:O=true):okS (P,Q):=by
 rcases h.con with ⟨a,_⟩ | ⟨_,c⟩
 .dsimp only at a;rw[a]at hh;cases hh
 .exact c
def AyQ (x:Info) (i:Nat) (hi:i<13):((rwL.getD i ([],0,0,0,0)).1,(rwL.getD i ([],0,0,0,0)).2.1==1||(rwL.getD i ([],0,0,0,0)).1==[50,46,53,46,50,57,46,51,51])=(((Nh x).getD i zR).2.1,((Nh x).getD i zR).2.2.1):=by
 obtain⟨B,C,D,F,G,H,I,J,K,L,M,O,P,Q,R,S,T,U,V⟩:=x;have:i=0\/i=1\/i=2\/i=3\/i=4\/i=5\/i=6\/i=7\/i=8\/i=9\/i=10\/i=11\/i=12:=by omega
 rcases this with rfl | rfl | rfl | rfl | rfl | rfl | rfl | rfl | rfl | rfl | rfl | rfl | rfl<;>rfl
section
variable {N:Nat} (hN:1048578<N)
include hN
end
def Rz {α ρ :Type} {A:(α ->Option ρ)->Option ρ} {f: α ->Option ρ} {x: α} (h: ∀ j: α ->Option ρ,A j=j x):KY A f=f x:=h f
def ge1 {n:Int} (h: -1<=n):decide (n>=0)=(n != -1):=by
 by_cases e:n= -1
 .subst e;rfl
 .rw[Aaj e];exact Dp (by omega)
def Px (r:Bool×Ex):(KN r).length<=1:=by unfold KN;cases r.1<;>simp
def of1 {α :Type} {o:Option α} {v: α} (h:Ends (fun r=>r=v) o):o=some v:=by obtain⟨w,rfl,rfl⟩:=h;rfl
section
variable {N:Nat} (hN:1048578<N)
include hN
theorem A1u (v:Bool):lI N 1 v=some (bif v then Sp.elem 1 [255]else []):=by obtain⟨M,rfl⟩:=ofM hN;cases v<;>kernel_rfl
theorem Alm {n:Int} (h0:0<=n) (h1:n<256) {t:Nat} (ht:t<256) (h31:t % 32≠31):LC N (t:Int) n=some (LX t n):=by have I:=Aw6 hN h0 h1;have w:=TS N t [inB n] ht h31 hN (by simp) (by rw[Kw];have:=I.len;omega);rw[Kw]at w;unfold LC;rw[I.Anv,Jy,w,Jy];rfl
theorem A0q {r:Int} (h0:0<=r) (h1:r<=511) (h2:r≠0):Qo N 3 r=some (Sp.elem 3 (flB r)):=by have U:=Av7 hN h0 h1;have hl:=U.len;have w:JG N 3 [flB r]=_:=TS N 3 [flB r] (by omega) (by omega) hN (by simp) (by rw[Kw];omega);rw[Kw]at w;unfold Qo;rw[Uc h2,cond_false,U.Anv,Jy];dsimp only;rw[w,Jy]
end
def gK (N:Nat) (hN:1048578<N) (l:List Bs) (hl:l.length<=1000) (hs:l.flatten.length<=131072):JG N 48 l=some (Sp.elem 48 l.flatten):=TS N 48 l (by omega) (by omega) hN hl hs
set_option maxHeartbeats 1000000 in
def A1B {N:Nat} (hN:1048578<N) {x:Info} (h:OkI x):Vg N x=some (exI x,0):=by
 have hck:=Atd hN h;obtain⟨_,b2,b3,_⟩:=Ahd h;have l1:=iP h.re;have l2:=iP h.im;have l3:=h.ia;have l4:=h.us;have l9:=Ab7 h.un;obtain⟨B,C,D,F,G,H,J,K,L,O,P,Q,R,S,T,V,W,X,Y⟩:=x;dsimp only at b2 b3 l1 l2 l3 l4 l9;unfold Vg;try simp only[clR]
 rw[hck,Jy,show((0:Int) != 0)=false from rfl,cond_false];have n1:D≠ -1->LC N 2 D=some (LX 2 D):=fun e=>Alm hN (t:=2) (by omega) (by omega) (by omega) (by omega);have n2:K≠ -1->LC N 128 K=some (LX 128 K):=fun e=>Alm hN (t:=128) (by omega) (by omega) (by omega) (by omega);have n3:L≠ -1->LC N 129 L=some (LX 129 L):=fun e=>Alm hN (t:=129) (by omega) (by omega) (by omega) (by omega);have n4:O≠ -1->LC N 2 O=some (LX 2 O):=fun e=>Alm hN (t:=2) (by omega) (by omega) (by omega) (by omega);have q1:D≠ -1->(LX 2 D).length<=7:=fun e=>YI hN (by omega) (by omega);have q2:K≠ -1->(LX 128 K).length<=7:=fun e=>YI hN (by omega) (by omega);have q3:L≠ -1->(LX 129 L).length<=7:=fun e=>YI hN (by omega) (by omega);have fl:F≠0->Qo N 3 F=some (Sp.elem 3 (flB F)):=fun e=>A0q hN l4.1 l4.2 e;refine(Rz (x:=(B,C,D,F,G,H,J,K,L,O,P,Q,R,S,T,V,W,X,Y,(KN (B,[50,46,53,46,50,57,46,49,57],true,yB C D)))) (fun j=> ?_)).trans ?_
 .cases B with
  | false=>rfl
  | true =>
   have hbl:((bif C then Sp.elem 1 [255]else []):Bs).length<=10:=by cases C<;>decide
   rw[cond_true,A1u hN C,Jy,ge1 b2];simp only[KY];unfold KN yB;cases hp:D != -1 with
   | true =>have q1':=q1 (ne1 hp);have w:=gK N hN [(bif C then Sp.elem 1 [255]else [])++LX 2 D] (by simp) (by rw[Kw,Dv];omega);rw[Kw]at w;rw[cond_true,n1 (ne1 hp),Jy];dsimp only[U20];rw[UU (by omega),L8,w,Jy];rfl
   | false =>have w:=gK N hN [(bif C then Sp.elem 1 [255]else [])] (by simp) (by rw[Kw];omega);rw[Kw]at w;rw[cond_false];dsimp only[U20];rw[w,Jy,cond_true,cond_false,DL]
 generalize hl0:KN (B,[50,46,53,46,50,57,46,49,57],true,yB C D)=A0;have kA0:A0.length<=1:=by rw[<- hl0];exact Px _
 dsimp only[U20];refine(Rz (x:=(B,C,D,F,G,H,J,K,L,O,P,Q,R,S,T,V,W,X,Y,A0++KN (F != 0,[50,46,53,46,50,57,46,49,53],true,Sp.elem 3 (flB F)))) (fun j=> ?_)).trans ?_
 .unfold KN;by_cases h5:F=0
  .rw[Zz h5,cond_false,cond_false,DL]
  .rw[Aaj h5,cond_true,fl h5,Jy,UU (by omega),L8];rfl
 obtain⟨A1,hA1⟩: ∃ A,A=A0++KN (F != 0,[50,46,53,46,50,57,46,49,53],true,Sp.elem 3 (flB F)):=⟨_,rfl⟩
 rw[<- hA1];have kA1:A1.length<=2:=by rw[hA1,Dv];have:=Px (F != 0,[50,46,53,46,50,57,46,49,53],true,Sp.elem 3 (flB F));omega
 dsimp only[U20];refine(Rz (x:=(B,C,D,F,G,H,J,K,L,O,P,Q,R,S,T,V,W,X,Y,A1++KN (decide (((G.length:Nat):Int)>0),[50,46,53,46,50,57,46,51,55],false,Agb G))) (fun j=> ?_)).trans ?_
 .unfold KN;cases hh:decide (((G.length:Nat):Int)>0)with
  | false=>rw[cond_false,cond_false,DL]
  | true =>
   have hl:=Nc (g:=idB) (M:=65) (l:=G) (fun m hm=>by have:=OI hN (Zl _ (h.pu.all m hm));omega);have hk:G.length<=3:=h.pu.len;rw[cond_true,cond_true];refine(Xm (mk:=fun i t=>(t,(i:Int),B,C,D,F,G,H,J,K,L,O,P,Q,R,S,T,V,W,X,Y,A1)) G [] (idB) (fun t=>Jt (JG N 48 [t]) fun r=>Vm.chk (decide ((A1.length+1)*41<=140737488355328)) (j (B,C,D,F,G,H,J,K,L,O,P,Q,R,S,T,V,W,X,Y,A1++[([50,46,53,46,50,57,46,51,55],false,r)]))) ?_ ?_ N (by omega)).trans ?_
   .intro i t hi ht k;dsimp only[U22];rw[Int.toNat_natCast];have hp:=(Qm hN (Zl _ (h.pu.all _ (getD_mem [] hi)))).YR;have hp2:Sp.elem 6 (idT (G.getD i []))=idB (G.getD i []):=rfl;simp (disch:=first | assumption | omega) only[JO,hp,hp2,KI]
   .intro t k;dsimp only[U22];rw[AgT (by omega),cond_false];rfl
   .have w:=gK N hN [(G.map idB).flatten] (by simp) (by rw[Kw];omega);rw[Kw]at w;rw[w,Jy,UU (by omega),L8];rfl
 obtain⟨A2,hA2⟩: ∃ A,A=A1++KN (decide (((G.length:Nat):Int)>0),[50,46,53,46,50,57,46,51,55],false,Agb G):=⟨_,rfl⟩
 rw[<- hA2];have kA2:A2.length<=3:=by rw[hA2,Dv];have:=Px (decide (((G.length:Nat):Int)>0),[50,46,53,46,50,57,46,51,55],false,Agb G);omega
 dsimp only[U20];refine(Rz (x:=(B,C,D,F,G,H,J,K,L,O,P,Q,R,S,T,V,W,X,Y,A2++KN (decide (((H.length:Nat):Int)>0),[50,46,53,46,50,57,46,51,50],false,AfU H))) (fun j=> ?_)).trans ?_
 .unfold KN;cases hh:decide (((H.length:Nat):Int)>0)with
  | false=>rw[cond_false,cond_false,DL]
  | true =>
   have hl:=Nc (g:=(fun s=>Sp.elem 48 (idB s))) (M:=70) (l:=H) (fun m hm=>by have:=OI hN (LP _ (h.po.all m hm));have:=Sp.JL 48 (idB m);omega);have hk:H.length<=3:=h.po.len;rw[cond_true,cond_true];refine(Xm (mk:=fun i t=>(t,(i:Int),B,C,D,F,G,H,J,K,L,O,P,Q,R,S,T,V,W,X,Y,A2)) H [] ((fun s=>Sp.elem 48 (idB s))) (fun t=>Jt (JG N 48 [t]) fun r=>Vm.chk (decide ((A2.length+1)*41<=140737488355328)) (j (B,C,D,F,G,H,J,K,L,O,P,Q,R,S,T,V,W,X,Y,A2++[([50,46,53,46,50,57,46,51,50],false,r)]))) ?_ ?_ N (by omega)).trans ?_
   .intro i t hi ht k;dsimp only[U22];rw[Int.toNat_natCast];have hv:H.getD i []∈ZI:=LP _ (h.po.all _ (getD_mem [] hi));have hp:=(Qm hN hv).YR;have hp2:Sp.elem 6 (idT (H.getD i []))=idB (H.getD i []):=rfl;have w:=gK N hN [idB (H.getD i [])] (by simp) (by rw[Kw];have:=OI hN hv;omega);rw[Kw]at w;simp (disch:=first | assumption | omega) only[JO,hp,hp2,w,KI]
   .intro t k;dsimp only[U22];rw[AgT (by omega),cond_false];rfl
   .have w:=gK N hN [(H.map (fun s=>Sp.elem 48 (idB s))).flatten] (by simp) (by rw[Kw];omega);rw[Kw]at w;rw[w,Jy,UU (by omega),L8];rfl
 obtain⟨A3,hA3⟩: ∃ A,A=A2++KN (decide (((H.length:Nat):Int)>0),[50,46,53,46,50,57,46,51,50],false,AfU H):=⟨_,rfl⟩
 rw[<- hA3];have kA3:A3.length<=4:=by rw[hA3,Dv];have:=Px (decide (((H.length:Nat):Int)>0),[50,46,53,46,50,57,46,51,50],false,AfU H);omega
 dsimp only[U20];refine(Rz (x:=(B,C,D,F,G,H,J,K,L,O,P,Q,R,S,T,V,W,X,Y,A3++KN (decide (((J.length:Nat):Int)>0),[50,46,53,46,50,57,46,51,51],true,AfH J))) (fun j=> ?_)).trans ?_
 .unfold KN;cases hh:decide (((J.length:Nat):Int)>0)with
  | false=>rw[cond_false,cond_false,DL]
  | true =>
   have hl:=Nc (g:=(fun m:Bs×Bs=>Sp.elem 48 (idB m.1++idB m.2))) (M:=135) (l:=J) (fun m hm=>by have:=OI hN (LP _ (h.ma.all m hm).1);have:=OI hN (LP _ (h.ma.all m hm).2);have:=Sp.JL 48 (idB m.1++idB m.2);rw[Dv]at this;omega);have hk:J.length<=3:=h.ma.len;rw[cond_true,cond_true];refine(Xm (mk:=fun i t=>(t,(i:Int),B,C,D,F,G,H,J,K,L,O,P,Q,R,S,T,V,W,X,Y,A3)) J ([],[]) ((fun m:Bs×Bs=>Sp.elem 48 (idB m.1++idB m.2))) (fun t=>Jt (JG N 48 [t]) fun r=>Vm.chk (decide ((A3.length+1)*41<=140737488355328)) (j (B,C,D,F,G,H,J,K,L,O,P,Q,R,S,T,V,W,X,Y,A3++[([50,46,53,46,50,57,46,51,51],true,r)]))) ?_ ?_ N (by omega)).trans ?_
   .intro i t hi ht k;dsimp only[U22];rw[Int.toNat_natCast];have hv:(J.getD i ([],[])).1∈WR/\(J.getD i ([],[])).2∈WR:=h.ma.all _ (getD_mem ([],[]) hi);have hp:=(Qm hN (LP _ hv.1)).YR;have hq:=(Qm hN (LP _ hv.2)).YR;have hp2:Sp.elem 6 (idT (J.getD i ([],[])).1)=idB (J.getD i ([],[])).1:=rfl;have hq2:Sp.elem 6 (idT (J.getD i ([],[])).2)=idB (J.getD i ([],[])).2:=rfl;have w:=gK N hN [idB (J.getD i ([],[])).1,idB (J.getD i ([],[])).2] (by simp) (by rw[wL,Dv];have:=OI hN (LP _ hv.1);have:=OI hN (LP _ hv.2);omega);rw[wL]at w;simp (disch:=first | assumption | omega) only[JO,hp,hq,hp2,hq2,w,KI]
   .intro t k;dsimp only[U22];rw[AgT (by omega),cond_false];rfl
   .have w:=gK N hN [(J.map (fun m:Bs×Bs=>Sp.elem 48 (idB m.1++idB m.2))).flatten] (by simp) (by rw[Kw];omega);rw[Kw]at w;rw[w,Jy,UU (by omega),L8];rfl
 obtain⟨A4,hA4⟩: ∃ A,A=A3++KN (decide (((J.length:Nat):Int)>0),[50,46,53,46,50,57,46,51,51],true,AfH J):=⟨_,rfl⟩
 rw[<- hA4];have kA4:A4.length<=5:=by rw[hA4,Dv];have:=Px (decide (((J.length:Nat):Int)>0),[50,46,53,46,50,57,46,51,51],true,AfH J);omega
 dsimp only[U20];refine(Rz (x:=(B,C,D,F,G,H,J,K,L,O,P,Q,R,S,T,V,W,X,Y,A4++KN (K != -1||L != -1,[50,46,53,46,50,57,46,51,54],true,kR K L))) (fun j=> ?_)).trans ?_
 .rw[ge1 l1.1,ge1 l2.1];unfold KN;cases hh:(K != -1||L != -1)with
  | false=>rw[cond_false,cond_false,DL]
  | true =>
   rw[cond_true,cond_true]
   have fin: ∀ a c:Bs,a=(bif K != -1 then LX 128 K else [])->c=(bif L != -1 then LX 129 L else [])->(Jt (JG N 48 [a++c]) fun r=>Vm.chk (decide ((A4.length+1)*41<=140737488355328)) (j (B,C,D,F,G,H,J,K,L,O,P,Q,R,S,T,V,W,X,Y,A4++[([50,46,53,46,50,57,46,51,54],true,r)])))=j (B,C,D,F,G,H,J,K,L,O,P,Q,R,S,T,V,W,X,Y,A4++[([50,46,53,46,50,57,46,51,54],true,kR K L)]):=by
    intro a c ha Q
    have h1:a.length<=10:=by
     rw[ha];cases he:K != -1
     .exact Es _
     .have:=q2 (ne1 he);show(LX 128 K).length<=10;omega
    have h2:c.length<=10:=by
     rw[Q];cases he:L != -1
     .exact Es _
     .have:=q3 (ne1 he);show(LX 129 L).length<=10;omega
    have w:=gK N hN [a++c] (by simp) (by rw[Kw,Dv];omega);rw[Kw]at w;rw[w,Jy,UU (by omega),L8];unfold kR;rw[<- ha,<- Q]
   refine(Rz (x:=(bif K != -1 then LX 128 K else [],B,C,D,F,G,H,J,K,L,O,P,Q,R,S,T,V,W,X,Y,A4)) (fun j=> ?_)).trans ?_
   .cases he:K != -1 with
    | true=>rw[cond_true,n2 (ne1 he),Jy];rfl
    | false=>rfl
   dsimp only[U21];obtain⟨a,ha⟩: ∃ a:Bs,a=(bif K != -1 then LX 128 K else []):=⟨_,rfl⟩
   rw[<- ha]
   have h1:a.length<=10:=by
    rw[ha];cases he:K != -1
    .exact Es _
    .have:=q2 (ne1 he);show(LX 128 K).length<=10;omega
   refine(Rz (x:=(a++(bif L != -1 then LX 129 L else []),B,C,D,F,G,H,J,K,L,O,P,Q,R,S,T,V,W,X,Y,A4)) (fun j=> ?_)).trans ?_
   .rw[ge1 l2.1];cases he:L != -1 with
    | true =>have q3':=q3 (ne1 he);rw[cond_true,n3 (ne1 he),Jy,UU (by omega),L8];rfl
    | false=>rw[cond_false,cond_false,DL]
   dsimp only[U21];exact fin a _ ha rfl
 obtain⟨A5,hA5⟩: ∃ A,A=A4++KN (K != -1||L != -1,[50,46,53,46,50,57,46,51,54],true,kR K L):=⟨_,rfl⟩
 rw[<- hA5];have kA5:A5.length<=6:=by rw[hA5,Dv];have:=Px (K != -1||L != -1,[50,46,53,46,50,57,46,51,54],true,kR K L);omega
 dsimp only[U20];refine(Rz (x:=(B,C,D,F,G,H,J,K,L,O,P,Q,R,S,T,V,W,X,Y,A5++KN (O != -1,[50,46,53,46,50,57,46,53,52],true,LX 2 O))) (fun j=> ?_)).trans ?_
 .rw[ge1 l3.1];unfold KN;cases hh:O != -1 with
  | false=>rw[cond_false,cond_false,DL]
  | true=>rw[cond_true,cond_true,n4 (ne1 hh),Jy,UU (by omega),L8]
 obtain⟨A6,hA6⟩: ∃ A,A=A5++KN (O != -1,[50,46,53,46,50,57,46,53,52],true,LX 2 O):=⟨_,rfl⟩
 rw[<- hA6];have kA6:A6.length<=7:=by rw[hA6,Dv];have:=Px (O != -1,[50,46,53,46,50,57,46,53,52],true,LX 2 O);omega
 dsimp only[U20];refine(Rz (x:=(B,C,D,F,G,H,J,K,L,O,P,Q,R,S,T,V,W,X,Y,A6++KN (decide (((P.length:Nat):Int)>0),[50,46,53,46,50,57,46,49,55],false,Sp.elem 48 (LG P)))) (fun j=> ?_)).trans ?_
 .unfold KN;cases hh:decide (((P.length:Nat):Int)>0)with
  | false=>rw[cond_false,cond_false,DL]
  | true =>
   have hna0:P≠ []:=by intro h;subst h;cases hh
   have hl:(LG P).length<=1250:=WN hN h.na;have w:=gK N hN [LG P] (by simp) (by rw[Kw];omega);rw[Kw]at w;rw[cond_true,cond_true,rO hN h.na hna0,Jy];dsimp only;rw[w,Jy,UU (by omega),L8]
 obtain⟨A7,hA7⟩: ∃ A,A=A6++KN (decide (((P.length:Nat):Int)>0),[50,46,53,46,50,57,46,49,55],false,Sp.elem 48 (LG P)):=⟨_,rfl⟩
 rw[<- hA7];have kA7:A7.length<=8:=by rw[hA7,Dv];have:=Px (decide (((P.length:Nat):Int)>0),[50,46,53,46,50,57,46,49,55],false,Sp.elem 48 (LG P));omega
 dsimp only[U20];refine(Rz (x:=(B,C,D,F,G,H,J,K,L,O,P,Q,R,S,T,V,W,X,Y,A7++KN (Q,[50,46,53,46,50,57,46,51,48],true,ZB (R,S)))) (fun j=> ?_)).trans ?_
 .unfold KN;cases hh:Q with
  | false=>rw[cond_false,cond_false,DL]
  | true =>have hsub:=A27 hN (Akn h hh);rw[cond_true,cond_true,hsub,Jy,show(((0:Int) != 0))=false from rfl,cond_false,UU (by omega),L8]
 obtain⟨A8,hA8⟩: ∃ A,A=A7++KN (Q,[50,46,53,46,50,57,46,51,48],true,ZB (R,S)):=⟨_,rfl⟩
 rw[<- hA8];have kA8:A8.length<=9:=by rw[hA8,Dv];have:=Px (Q,[50,46,53,46,50,57,46,51,48],true,ZB (R,S));omega
 dsimp only[U20];refine(Rz (x:=(B,C,D,F,G,H,J,K,L,O,P,Q,R,S,T,V,W,X,Y,A8++KN (!(T==[]),[50,46,53,46,50,57,46,49,52],false,Sp.elem 4 T))) (fun j=> ?_)).trans ?_
 .unfold KN;cases hh:(!(T==[]))with
  | false=>rw[cond_false,cond_false,DL]
  | true =>have hk:T.length<=16:=Ag8 h.sk;have w:JG N 4 [T]=_:=TS N 4 [T] (by omega) (by omega) hN (by simp) (by rw[Kw];omega);rw[Kw]at w;rw[cond_true,cond_true,w,Jy,UU (by omega),L8]
 obtain⟨A9,hA9⟩: ∃ A,A=A8++KN (!(T==[]),[50,46,53,46,50,57,46,49,52],false,Sp.elem 4 T):=⟨_,rfl⟩
 rw[<- hA9];have kA9:A9.length<=10:=by rw[hA9,Dv];have:=Px (!(T==[]),[50,46,53,46,50,57,46,49,52],false,Sp.elem 4 T);omega
 dsimp only[U20];refine(Rz (x:=(B,C,D,F,G,H,J,K,L,O,P,Q,R,S,T,V,W,X,Y,A9++KN (!(V==[]),[50,46,53,46,50,57,46,51,53],false,Sp.elem 48 (Sp.elem 128 V)))) (fun j=> ?_)).trans ?_
 .unfold KN;cases hh:(!(V==[]))with
  | false=>rw[cond_false,cond_false,DL]
  | true =>have hk:V.length<=16:=Aaf h.ak;have he:=Sp.JL 128 V;have w:JG N 128 [V]=_:=TS N 128 [V] (by omega) (by omega) hN (by simp) (by rw[Kw];omega);have w2:=gK N hN [Sp.elem 128 V] (by simp) (by rw[Kw];omega);rw[Kw]at w w2;rw[cond_true,cond_true,w,Jy,w2,Jy,UU (by omega),L8]
 obtain⟨A10,hA10⟩: ∃ A,A=A9++KN (!(V==[]),[50,46,53,46,50,57,46,51,53],false,Sp.elem 48 (Sp.elem 128 V)):=⟨_,rfl⟩
 rw[<- hA10];have kA10:A10.length<=11:=by rw[hA10,Dv];have:=Px (!(V==[]),[50,46,53,46,50,57,46,51,53],false,Sp.elem 48 (Sp.elem 128 V));omega
 dsimp only[U20];have kB:(A10++KN (decide (((W.length:Nat):Int)>0),[50,46,53,46,50,57,46,51,49],false,psB W)).length<=12:=by rw[Dv];have:=Px (decide (((W.length:Nat):Int)>0),[50,46,53,46,50,57,46,51,49],false,psB W);omega
 have kC:((A10++KN (decide (((W.length:Nat):Int)>0),[50,46,53,46,50,57,46,51,49],false,psB W))++KN (decide (((X.length:Nat):Int)>0),[50,46,53,46,50,57,46,52,54],false,psB X)).length<=13:=by rw[Dv];have:=Px (decide (((X.length:Nat):Int)>0),[50,46,53,46,50,57,46,52,54],false,psB X);omega
 have hflat:(Nh (B,C,D,F,G,H,J,K,L,O,P,Q,R,S,T,V,W,X,Y)).flatMap KN=(A10++KN (decide (((W.length:Nat):Int)>0),[50,46,53,46,50,57,46,51,49],false,psB W))++KN (decide (((X.length:Nat):Int)>0),[50,46,53,46,50,57,46,52,54],false,psB X):=by rw[hA10,hA9,hA8,hA7,hA6,hA5,hA4,hA3,hA2,hA1,<- hl0];unfold Nh;simp only[FW,List.flatMap_nil,DL,Ed]
 refine of1 ?_;refine Lj (fun y=>y=((0:Int),B,C,D,F,G,H,J,K,L,O,P,Q,R,S,T,V,W,X,Y,[W,X],A10)\/y=((1:Int),B,C,D,F,G,H,J,K,L,O,P,Q,R,S,T,V,W,X,Y,[W,X],A10++KN (decide (((W.length:Nat):Int)>0),[50,46,53,46,50,57,46,51,49],false,psB W))\/y=((2:Int),B,C,D,F,G,H,J,K,L,O,P,Q,R,S,T,V,W,X,Y,[W,X],(A10++KN (decide (((W.length:Nat):Int)>0),[50,46,53,46,50,57,46,51,49],false,psB W))++KN (decide (((X.length:Nat):Int)>0),[50,46,53,46,50,57,46,52,54],false,psB X))) (fun y=>(2 - y.1).toNat) ?_ N _ (Or.inl rfl) (by dsimp only;omega)
 have st: ∀(l:List Pt) (h:l=[]\/VH l) (i:Bs) (A:List Ex) (hA:A.length<=1000) (k:List Ex->Option (List Ex×Int)),(bif (((l.length:Nat):Int)==0)then k A else Jt (Qy N l) fun r=>bif r.2 != 0 then some ([],r.2)else Vm.chk true (Vm.chk true (Vm.chk true (Vm.chk (decide ((A.length+1)*41<=140737488355328)) (k (A++[(i,false,r.1)]))))))=k (A++KN (decide (((l.length:Nat):Int)>0),i,false,psB l)):=by
  intro l h i A hA k;rcases h with rfl | h
  .show k A=k (A++[]);rw[DL]
  .have hp:=Eo.2 h.ne;rw[Uc (by omega),cond_false,Avg hN h,Jy,Dp (by omega:(A.length+1)*41<=140737488355328)];unfold KN;rw[Dp (by omega:((l.length:Nat):Int)>0)];rfl
 rintro y hy k hk;rcases hy with rfl | rfl | rfl
 .refine(congrArg (Ends _) (st W h.pt [50,46,53,46,50,57,46,51,49] A10 (by omega) (fun A=>k (1,B,C,D,F,G,H,J,K,L,O,P,Q,R,S,T,V,W,X,Y,[W,X],A)))).mpr ?_;exact hk _ (Or.inr (Or.inl rfl)) (by dsimp only;omega)
 .refine(congrArg (Ends _) (st X h.fr [50,46,53,46,50,57,46,52,54] (A10++KN (decide (((W.length:Nat):Int)>0),[50,46,53,46,50,57,46,51,49],false,psB W)) (by omega) (fun A=>k (2,B,C,D,F,G,H,J,K,L,O,P,Q,R,S,T,V,W,X,Y,[W,X],A)))).mpr ?_;exact hk _ (Or.inr (Or.inr rfl)) (by dsimp only;omega)
 .show Ends _ (Vm.chk (decide ((((A10++KN (decide (((W.length:Nat):Int)>0),[50,46,53,46,50,57,46,51,49],false,psB W))++KN (decide (((X.length:Nat):Int)>0),[50,46,53,46,50,57,46,52,54],false,psB X)).length+Y.length)*41<=140737488355328)) (some (((A10++KN (decide (((W.length:Nat):Int)>0),[50,46,53,46,50,57,46,51,49],false,psB W))++KN (decide (((X.length:Nat):Int)>0),[50,46,53,46,50,57,46,52,54],false,psB X))++Y,(0:Int))));refine JC (Dp (by omega)) (KG ?_);unfold exI;rw[hflat]
def okE (e:Ex):Prop:=e.1∈ZI/\e.2.2.length<=6020
def Atb {Q:Ex->Prop} {l:List (Bool×Ex)} (h: ∀ r∈l,r.1=true->Q r.2): ∀ e∈l.flatMap KN,Q e:=by
 intro e he;obtain⟨r,hr,hg⟩:=Eg.1 he;unfold KN at hg;cases h1:r.1 with
 | true=>rw[h1,cond_true,Ei]at hg;subst hg;exact h r hr h1
 | false=>rw[h1]at hg;exact nomatch hg
def A17: ∀ l:List (Bool×Ex),(l.flatMap KN).length<=l.length:=by
 intro l
 induction l with
 | nil=>exact DW _
 | cons r l ih=>rw[FW,Dv,List.length_cons];have:=Px r;omega
def AgW {x:Info} (h:OkI x):(exI x).length<=15:=by have:=A17 (Nh x);rw[Ag4]at this;have:=Ab7 h.un;unfold exI;rw[Dv];omega
def A2v: ∀ l∈unL,∀ e∈l,e.1∈ZI/\e.2.2.length<=6020:=by decide
def AaK {N:Nat} (hN:1048578<N) {x:Info} (h:OkI x): ∀ e∈exI x,okE e:=by
 obtain⟨_,b2,b3,_⟩:=Ahd h;have l1:=iP h.re;have l2:=iP h.im;have l3:=h.ia;have l4:=h.us;have hu:=A2v _ h.un;obtain⟨B,C,D,F,G,H,I,J,K,L,O,P,R,S,T,U,V,W,X⟩:=x;dsimp only at b2 b3 l1 l2 l3 l4 hu;intro e he;rcases(DV.1 he).symm with he | he
 .exact hu e he
 refine Atb (Q:=okE) (fun r hr h1=> ?_) e he;simp only[Nh,D8,Ew,Fz]at hr;rcases hr with rfl | rfl | rfl | rfl | rfl | rfl | rfl | rfl | rfl | rfl | rfl | rfl | rfl
 .refine⟨(by dsimp only;decide),?_⟩;have a1:=Ahh hN (b:=C) (c:=Sp.elem 1 [255]) (k:=10) (fun _=>by decide);have a2:=Ahh hN (b:=D != -1) (c:=LX 2 D) (k:=7) (fun e=>YI hN (by have e2:=ne1 e;omega) (by omega));have:=Sp.JL 48 ((bif C then Sp.elem 1 [255]else [])++(bif D != -1 then LX 2 D else []));rw[Dv]at this;show(yB C D).length<=6020;unfold yB;omega
 .refine⟨(by dsimp only;decide),?_⟩;have:=(Av7 hN l4.1 l4.2).len;have:=Sp.JL 3 (flB F);show(Sp.elem 3 (flB F)).length<=6020;omega
 .refine⟨(by dsimp only;decide),?_⟩;have hl:=Nc (g:=idB) (M:=15) (l:=G) (fun s hm=>OI hN (Zl s (h.pu.all s hm)));have hk:G.length<=3:=h.pu.len;have:=Sp.JL 48 (G.map idB).flatten;show(Agb G).length<=6020;unfold Agb;omega
 .refine⟨(by dsimp only;decide),?_⟩;have hl:=Nc (g:=fun s=>Sp.elem 48 (idB s)) (M:=20) (l:=H) (fun s hm=>by have:=OI hN (LP s (h.po.all s hm));have:=Sp.JL 48 (idB s);omega);have hk:H.length<=3:=h.po.len;have:=Sp.JL 48 (H.map fun s=>Sp.elem 48 (idB s)).flatten;show(AfU H).length<=6020;unfold AfU;omega
 .refine⟨(by dsimp only;decide),?_⟩;have hl:=Nc (g:=fun m:Bs×Bs=>Sp.elem 48 (idB m.1++idB m.2)) (M:=35) (l:=I) (fun s hm=>by have:=OI hN (LP _ (h.ma.all s hm).1);have:=OI hN (LP _ (h.ma.all s hm).2);have:=Sp.JL 48 (idB s.1++idB s.2);rw[Dv]at this;omega);have hk:I.length<=3:=h.ma.len;have:=Sp.JL 48 (I.map fun m:Bs×Bs=>Sp.elem 48 (idB m.1++idB m.2)).flatten;show(AfH I).length<=6020;unfold AfH;omega
 .refine⟨(by dsimp only;decide),?_⟩;have a1:=Ahh hN (b:=J != -1) (c:=LX 128 J) (k:=7) (fun e=>YI hN (by have e2:=ne1 e;omega) (by omega));have a2:=Ahh hN (b:=K != -1) (c:=LX 129 K) (k:=7) (fun e=>YI hN (by have e2:=ne1 e;omega) (by omega));have:=Sp.JL 48 ((bif J != -1 then LX 128 J else [])++(bif K != -1 then LX 129 K else []));rw[Dv]at this;show(kR J K).length<=6020;unfold kR;omega
 .refine⟨(by dsimp only;decide),?_⟩;have e2:=ne1 h1;have:=YI hN (t:=2) (n:=L) (by omega) (by omega);show(LX 2 L).length<=6020;omega
 .refine⟨(by dsimp only;decide),?_⟩;have hl:(LG O).length<=1250:=WN hN h.na;have:=Sp.JL 48 (LG O);show(Sp.elem 48 (LG O)).length<=6020;omega
 .refine⟨(by dsimp only;decide),?_⟩;have:=AsU hN (Akn h h1);show(ZB (R,S)).length<=6020;omega
 .refine⟨(by dsimp only;decide),?_⟩;have hk:T.length<=16:=Ag8 h.sk;have:=Sp.JL 4 T;show(Sp.elem 4 T).length<=6020;omega
 .refine⟨(by dsimp only;decide),?_⟩;have hk:U.length<=16:=Aaf h.ak;have:=Sp.JL 128 U;have:=Sp.JL 48 (Sp.elem 128 U);show(Sp.elem 48 (Sp.elem 128 U)).length<=6020;omega
 .refine⟨(by dsimp only;decide),?_⟩;have:=AfY hN (l:=V) (Abj h.pt h1);have:=Sp.JL 48 (psC V);show(psB V).length<=6020;unfold psB;omega
 .refine⟨(by dsimp only;decide),?_⟩;have:=AfY hN (l:=W) (Abj h.fr h1);have:=Sp.JL 48 (psC W);show(psB W).length<=6020;unfold psB;omega
def inK:Info->Info
 | (B,C,D,F,G,H,I,J,K,L,M,O,P,R,S,T,U,V,W)=>(B,C,D,F,G,H,I,J,K,L,M.map gnK,O,P.map gnK,R.map gnK,S,T,U.map ptK,V.map ptK,W)
def AgO {c:Bs} {es:List El} (hl:(Sp.elem 48 c).length<=6020) (h:Par 1 c es):Sp.chk (Sp.elem 48 c)=0:=AiV (MN (by decide) (by decide) (by have:=oP 48 c;omega)) fun _=>h.nest
def AxW {t:Nat} {c:Bs} (ht:t<256) (h31:t % 32≠31) (O:Sp.cons t=false) (hl:(Sp.elem t c).length<=6020):Sp.chk (Sp.elem t c)=0:=AiV (MN ht h31 (by have:=oP t c;omega)) fun h=>by rw[O]at h;cases h
def A2w: ∀ l∈unL,∀ e∈l,Sp.chk e.2.2=0:=by decide +kernel
def A0a:(yC.all fun p=>decide (Sp.chk (yB p.1 p.2)=0))=true:=by kernel_rfl
def A06:(rM.all fun a=>rM.all fun b=>decide (Sp.chk (kR a b)=0))=true:=by kernel_rfl
def A0b {a:Bool} {b:Int} (h:(a,b)∈yC):Sp.chk (yB a b)=0:=D6 (D7.1 A0a (a,b) h)
def A07 {a b:Int} (h:a∈rM) (h2:b∈rM):Sp.chk (kR a b)=0:=D6 (D7.1 (D7.1 A06 a h) b h2)
section
variable {N:Nat} (hN:1048578<N)
include hN
theorem AzJ {s:List Gn×List Gn} (h:okS s):okS (s.1.map gnK,s.2.map gnK) :=
 ⟨by rw[Dz];exact h.l0,by rw[Dz];exact h.l1,h.ne.imp (fun a b=>a (Fg.1 b)) (fun a b=>a (Fg.1 b)),
   fun q hq=>by obtain⟨g,hg,rfl⟩:=DJ.1 hq;exact(wM hN (h.a0 g hg)).okK,fun q hq=>by obtain⟨g,hg,rfl⟩:=DJ.1 hq;exact(wM hN (h.a1 g hg)).okK⟩
theorem AzK {l:List Pt} (h:l=[]\/VH l):(l.map ptK=[]\/VH (l.map ptK))/\psB (l.map ptK)=psB l:=by
 rcases h with rfl | h
 .exact⟨Or.inl rfl,rfl⟩
 .exact⟨Or.inr (Axa hN h),A2N hN h⟩
theorem Azv {x:Info} (h:OkI x):OkI (inK x):=by
 obtain⟨B,C,D,F,G,H,I,J,K,L,M,O,P,R,S,T,U,V,W⟩:=x;obtain⟨h1,h2,h3,h4,h5,h6,h7,h8,h9,h10,h11,h12,h13,h14,h15⟩:=h;refine⟨h1,h2,h3,h4,h5,h6,h7,h8,A1O hN h9,?_,h11,h12,(AzK hN h13).1,(AzK hN h14).1,h15⟩;rcases h10 with ⟨a,b,c⟩ | ⟨a,b⟩
 .dsimp only at a b c;refine Or.inl ⟨a,?_,?_⟩
  .show P.map gnK=[];rw[b];rfl
  .show R.map gnK=[];rw[c];rfl
 .exact Or.inr ⟨a,AzJ hN b⟩
theorem rD {s:Bs} (h:s∈ZI) {d:Nat} (hd:d<16):Par d (idB s) [JX 6 (idT s)]:=Qd (MN (by decide) (by decide) (by have:=(Qm hN h).len;omega)) hd (by decide)
def AfV (s:Bs):El:=JX 48 (idB s)
def AfI (m:Bs×Bs):El:=JX 48 (idB m.1++idB m.2)
theorem Atn {l:List Bs} (h:xA YO l) {d:Nat} (hd:d<16):Par d (l.map idB).flatten (l.map fun s=>JX 6 (idT s)):=Zj fun s hs=>rD hN (Zl s (h.all s hs)) hd
theorem Atm {l:List Bs} (h:xA WR l) {d:Nat} (hd:d<14):Par d (l.map fun s=>Sp.elem 48 (idB s)).flatten (l.map AfV):=Zj fun s hs=>by have hi:=LP s (h.all s hs);exact N8 (MN (by decide) (by decide) (by have:=OI hN hi;omega)) (by omega) (rD hN hi (by omega)).nest
theorem AmQ {m:Bs×Bs} (h1:m.1∈WR) (h2:m.2∈WR):(idB m.1++idB m.2).length<=30:=by have:=OI hN (LP _ h1);have:=OI hN (LP _ h2);rw[Dv];omega
theorem Atg {l:List (Bs×Bs)} (h:Alq l) {d:Nat} (hd:d<14):Par d (l.map fun m=>Sp.elem 48 (idB m.1++idB m.2)).flatten (l.map AfI):=Zj fun m hm=>by obtain⟨h1,h2⟩:=h.all m hm;exact N8 (MN (by decide) (by decide) (by have:=AmQ hN h1 h2;omega)) (by omega) (N7 (rD hN (LP _ h1) (by omega)) (rD hN (LP _ h2) (by omega))).nest
theorem Ar7 {l:List Gn} (h: ∀ g∈l,okB g) {d:Nat} (hd:d<=5):Par d (Y4 l) (l.map fun g=>JX 48 (ML g)):=Zj fun g hg =>
 N8 (MN (by decide) (by decide) (by have:=wO hN (h g hg);omega)) (by omega) ((wM hN (h g hg)).par _ (by omega)).nest
theorem AqX {l:List Gn} (h: ∀ g∈l,okB g) (h3:l.length<=3) {t:Nat} (ht:t<256) (h31:t % 32≠31) {d:Nat} (hd:d<=4):Par d (partT t l) (bif l.isEmpty then []else [JX t (Y4 l)]):=by
 unfold partT;cases l.isEmpty with
 | true=>exact Ahj d
 | false=>exact N8 (MN ht h31 (by have:=Adk hN h3 h;omega)) (by omega) (Ar7 hN h (by omega)).nest
theorem AsV {s:List Gn×List Gn} (h:okS s) {d:Nat} (hd:d<=4):Par d (partT 160 s.1++partT 161 s.2) ((bif s.1.isEmpty then []else [JX 160 (Y4 s.1)])++(bif s.2.isEmpty then []else [JX 161 (Y4 s.2)])) :=
 N7 (AqX hN h.a0 h.l0 (by decide) (by decide) hd) (AqX hN h.a1 h.l1 (by decide) (by decide) hd)
theorem Az3 {x:Info} (h:OkI x): ∀ e∈exI x,Sp.chk e.2.2=0:=by
 have hl:=fun e he=>(AaK hN h e he).2;obtain⟨B,C,D,F,G,H,I,J,K,L,M,O,P,R,S,T,U,V,W⟩:=x;unfold exI at hl ⊢;intro e he;rcases(DV.1 he).symm with he | he
 .exact A2w _ h.un e he
 refine Atb (Q:=fun e=>Sp.chk e.2.2=0) (fun r hr h1=> ?_) e he;have hl:=hl r.2 (DF _ (Eg.2 ⟨r,hr,by unfold KN;rw[h1];exact Ei.2 rfl⟩));simp only[Nh,D8,Ew,Fz]at hr;rcases hr with rfl | rfl | rfl | rfl | rfl | rfl | rfl | rfl | rfl | rfl | rfl | rfl | rfl
 .rcases h.bas with ⟨_,h2⟩ | ⟨h2,_⟩
  .exact A0b h2
  .dsimp only at h1 h2;rw[h2]at h1;cases h1
 .exact AxW (by decide) (by decide) (by decide) hl
 .exact AgO hl (Atn hN h.pu (by decide))
 .exact AgO hl (Atm hN h.po (by decide))
 .exact AgO hl (Atg hN h.ma (by decide))
 .exact A07 h.re h.im
 .exact AxW (by decide) (by decide) (by decide) hl
 .exact AgO hl (Ajn hN h.na (by decide))
 .exact AgO hl (AsV hN (Akn h h1) (by decide))
 .exact AxW (by decide) (by decide) (by decide) hl
 .exact AgO hl (Qd (MN (by decide) (by decide) (by have:=Aaf h.ak;dsimp only at this;omega)) (by decide) (by decide))
 .exact Axl hN (Abj h.pt h1)
 .exact Axl hN (Abj h.fr h1)
end
def A0v: ∀ l:List (Bool×Ex),(l.flatMap KN).Sublist (l.map Prod.snd):=by
 intro l
 induction l with
 | nil=>exact List.Sublist.refl _
 | cons r l ih =>
  rw[FW,Ee];unfold KN;cases r.1 with
  | true=>exact List.Sublist.cons_cons _ ih
  | false=>exact List.Sublist.cons _ ih
def Ayz:List Bs:=(rwL.map fun r=>r.1)++[(unX true).1,unY.1]
def A1E:Ayz.Nodup:=by decide +kernel
def Aqg {x:Info} (h:OkI x):(exI x).Pairwise fun a b=>a.1≠b.1:=by
 have hs:((exI x).map fun e=>e.1).Sublist Ayz:=by
  unfold exI Ayz;rw[ET];refine List.Sublist.append ?_ ?_
  .have:=(A0v (Nh x)).map fun e:Ex=>e.1;rwa [EC,show(Nh x).map ((fun e:Ex=>e.1)∘Prod.snd)=rwL.map fun r=>r.1 from rfl]at this
  .exact(show ∀ l∈unL,(l.map fun e=>e.1).Sublist [(unX true).1,unY.1] by decide) _ h.un
 exact IQ.1 (A1E.sublist hs)
def Akz {N:Nat} (hN:1048578<N) {x:Info} (h:OkI x) (h0:exI x≠ []):A1h (exI x) :=
 ⟨Eo.2 h0,by have:=AgW h;omega,fun e he=>⟨(AaK hN h e he).1,Az3 hN h e he,by have:=(AaK hN h e he).2;omega⟩,Aqg h⟩
def AqR {N:Nat} (hN:1048578<N) {t:Nat} {c:Bs} {k:Int} (h:Fine (t,c)) (hk:(t:Int)=k):OD N (Sp.elem t c) k=some (JX t c,0):=by have:=h.len;have hB:=Sp.JL t c;rw[<- hk,AbU N _ t hN (by dsimp only at this;omega)];exact congrArg some (AfS t c h.lt h.low h.len)
def AaX {α β :Type} {f g: α -> β} {l:List α} (h:l.map f=l.map g) {a: α} (ha:a∈l):f a=g a:=List.map_inj_left.1 h a ha
def Aja {α β :Type} (f: α -> β) (l:List α) (d: α) {i:Nat} (hi:i<l.length):(l.map f).drop i=f (l.getD i d)::(l.map f).drop (i+1):=by rw[EI (by rw[Dz];exact hi),Fb,getD_lt l i d hi]
def Anz {α :Type} (l:List α) (d: α) {i:Nat} (hi:i<l.length):l.take i++[l.getD i d]=l.take (i+1):=by rw[F5,D9 hi,getD_lt l i d hi];rfl
def AvQ (M:Nat) (x:Info):(yC.map fun p=>RJ (M+300) (yB p.1 p.2) (false,false,-1,x.2.2.2))=yC.map fun p=>some (0,(true,p.1,p.2,x.2.2.2)):=by kernel_rfl
def Ay3:List (Int×Int):=(rM.flatMap fun a=>rM.map fun b=>(a,b)).filter fun p=>p.1 != -1||p.2 != -1
def Ay4 (M:Nat) (x:Info):(Ay3.map fun p=>QP (M+300) (kR p.1 p.2) (x.1,x.2.1,x.2.2.1,x.2.2.2.1,x.2.2.2.2.1,x.2.2.2.2.2.1,x.2.2.2.2.2.2.1,-1,-1,x.2.2.2.2.2.2.2.2.2))=Ay3.map fun p=>some (0,(x.1,x.2.1,x.2.2.1,x.2.2.2.1,x.2.2.2.2.1,x.2.2.2.2.2.1,x.2.2.2.2.2.2.1,p.1,p.2,x.2.2.2.2.2.2.2.2.2)):=by kernel_rfl
def A01 (M:Nat) (x:Info):((List.range 65).map fun n:Nat=>Qr (M+300) (LX 2 (n:Int)) x)=(List.range 65).map fun n:Nat=>some (0,(x.1,x.2.1,x.2.2.1,x.2.2.2.1,x.2.2.2.2.1,x.2.2.2.2.2.1,x.2.2.2.2.2.2.1,x.2.2.2.2.2.2.2.1,x.2.2.2.2.2.2.2.2.1,(n:Int),x.2.2.2.2.2.2.2.2.2.2)):=by kernel_rfl
def A0c {N:Nat} (hN:1048578<N) {ca:Bool} {pl:Int} (h:(ca,pl)∈yC) (x:Info):RJ N (yB ca pl) (false,false,-1,x.2.2.2)=some (0,(true,ca,pl,x.2.2.2)):=by obtain⟨M,rfl⟩:=ofM hN;have e:=AaX (AvQ M x) h;exact e
def A1F {N:Nat} (hN:1048578<N) {re im:Int} (h:(re,im)∈Ay3) (x:Info):QP N (kR re im) (x.1,x.2.1,x.2.2.1,x.2.2.2.1,x.2.2.2.2.1,x.2.2.2.2.2.1,x.2.2.2.2.2.2.1,-1,-1,x.2.2.2.2.2.2.2.2.2)=some (0,(x.1,x.2.1,x.2.2.1,x.2.2.2.1,x.2.2.2.2.1,x.2.2.2.2.2.1,x.2.2.2.2.2.2.1,re,im,x.2.2.2.2.2.2.2.2.2)):=by obtain⟨M,rfl⟩:=ofM hN;have e:=AaX (Ay4 M x) h;exact e
def A2H {N:Nat} (hN:1048578<N) {n:Int} (h0:0<=n) (h1:n<=64) (x:Info):Qr N (LX 2 n) x=some (0,(x.1,x.2.1,x.2.2.1,x.2.2.2.1,x.2.2.2.2.1,x.2.2.2.2.2.1,x.2.2.2.2.2.2.1,x.2.2.2.2.2.2.2.1,x.2.2.2.2.2.2.2.2.1,n,x.2.2.2.2.2.2.2.2.2.2)):=by obtain⟨M,rfl⟩:=ofM hN;have:=AaX (A01 M x) (a:=n.toNat) (ES.2 (by omega));rwa [show((n.toNat:Nat):Int)=n by omega]at this
section
variable {N:Nat} (hN:1048578<N)
include hN
theorem A0W {us:Int} (h0:0<=us) (h1:us<=511) (h2:us≠0) (x:Info):RP N (Sp.elem 3 (flB us)) x=some (0,(x.1,x.2.1,x.2.2.1,us,x.2.2.2.2)):=by
 have U:=Av7 hN h0 h1;unfold RP;try simp -zeta only[Ap]
 rw[AqR hN (t:=3) (k:=3) (MN (by decide) (by decide) (by have:=U.len;omega)) rfl,Jy];dsimp only[JX];rw[show((0:Int) != 0)=false from rfl,cond_false,U.get,Jy];dsimp only;rw[show((0:Int) != 0)=false from rfl,cond_false,Uc h2];rfl
theorem A0A {na:List Gn} (h:AqP na) (h0:na≠ []) (x:Info):RN N (Sp.elem 48 (LG na)) x=some (0,(x.1,x.2.1,x.2.2.1,x.2.2.2.1,x.2.2.2.2.1,x.2.2.2.2.2.1,x.2.2.2.2.2.2.1,x.2.2.2.2.2.2.2.1,x.2.2.2.2.2.2.2.2.1,x.2.2.2.2.2.2.2.2.2.1,na.map gnK,x.2.2.2.2.2.2.2.2.2.2.2)):=by
 have hl:=WN hN h;unfold RN;try simp -zeta only[Ap]
 rw[AqR hN (t:=48) (k:=48) (MN (by decide) (by decide) (by omega)) rfl,Jy];dsimp only[JX];rw[show((0:Int) != 0)=false from rfl,cond_false,zG hN h h0,Jy]
theorem A2m {s:Bs} (h:s.length<=1000) (h0:s≠ []) (x:Info):Qs N (Sp.elem 4 s) x=some (0,(x.1,x.2.1,x.2.2.1,x.2.2.2.1,x.2.2.2.2.1,x.2.2.2.2.2.1,x.2.2.2.2.2.2.1,x.2.2.2.2.2.2.2.1,x.2.2.2.2.2.2.2.2.1,x.2.2.2.2.2.2.2.2.2.1,x.2.2.2.2.2.2.2.2.2.2.1,x.2.2.2.2.2.2.2.2.2.2.2.1,x.2.2.2.2.2.2.2.2.2.2.2.2.1,x.2.2.2.2.2.2.2.2.2.2.2.2.2.1,s,x.2.2.2.2.2.2.2.2.2.2.2.2.2.2.2)):=by
 unfold Qs Ud;try simp -zeta only[Ap]
 rw[AqR hN (t:=4) (k:=4) (MN (by decide) (by decide) (by omega)) rfl,Jy];dsimp only[JX];rw[show((0:Int) != 0)=false from rfl,cond_false,show(s==[])=false from FI h0,cond_false,Jy]
theorem A1s {s:Bs} (h:s.length<=1000) (h0:s≠ []) (x:Info):Pm N (Sp.elem 48 (Sp.elem 128 s)) x=some (0,(x.1,x.2.1,x.2.2.1,x.2.2.2.1,x.2.2.2.2.1,x.2.2.2.2.2.1,x.2.2.2.2.2.2.1,x.2.2.2.2.2.2.2.1,x.2.2.2.2.2.2.2.2.1,x.2.2.2.2.2.2.2.2.2.1,x.2.2.2.2.2.2.2.2.2.2.1,x.2.2.2.2.2.2.2.2.2.2.2.1,x.2.2.2.2.2.2.2.2.2.2.2.2.1,x.2.2.2.2.2.2.2.2.2.2.2.2.2.1,x.2.2.2.2.2.2.2.2.2.2.2.2.2.2.1,s,x.2.2.2.2.2.2.2.2.2.2.2.2.2.2.2.2)):=by
 have hl:=Sp.JL 128 s;have ho:QL N (Sp.elem 48 (Sp.elem 128 s)) 48=some (.inl ([JX 128 s],0)):=Ahg hN (by omega) (by omega) (by omega) (Qd (MN (by decide) (by decide) (by omega)) (d:=0) (by decide) (by decide)).list;unfold Pm Ud;try simp -zeta only[Ap]
 rw[ho,NW];dsimp only;rw[show((0:Int) != 0)=false from rfl,cond_false,Xj 128 s [] (k:=128) rfl,Jy];dsimp only[JX];rw[show((0:Int) != 0)=false from rfl,cond_false,show(s==[])=false from FI h0,cond_false,Jy,show((0:Int) != 0)=false from rfl,cond_false,TY];rfl
theorem AyG {l:List Pt} (h:VH l) (x:Info):QQ N (psB l) x=some (0,(x.1,x.2.1,x.2.2.1,x.2.2.2.1,x.2.2.2.2.1,x.2.2.2.2.2.1,x.2.2.2.2.2.2.1,x.2.2.2.2.2.2.2.1,x.2.2.2.2.2.2.2.2.1,x.2.2.2.2.2.2.2.2.2.1,x.2.2.2.2.2.2.2.2.2.2.1,x.2.2.2.2.2.2.2.2.2.2.2.1,x.2.2.2.2.2.2.2.2.2.2.2.2.1,x.2.2.2.2.2.2.2.2.2.2.2.2.2.1,x.2.2.2.2.2.2.2.2.2.2.2.2.2.2.1,x.2.2.2.2.2.2.2.2.2.2.2.2.2.2.2.1,l.map ptK,x.2.2.2.2.2.2.2.2.2.2.2.2.2.2.2.2.2)):=by
 unfold QQ;try simp -zeta only[Ap]
 rw[Aoh hN h,Jy]
theorem A0u {l:List Pt} (h:VH l) (x:Info):PL N (psB l) x=some (0,(x.1,x.2.1,x.2.2.1,x.2.2.2.1,x.2.2.2.2.1,x.2.2.2.2.2.1,x.2.2.2.2.2.2.1,x.2.2.2.2.2.2.2.1,x.2.2.2.2.2.2.2.2.1,x.2.2.2.2.2.2.2.2.2.1,x.2.2.2.2.2.2.2.2.2.2.1,x.2.2.2.2.2.2.2.2.2.2.2.1,x.2.2.2.2.2.2.2.2.2.2.2.2.1,x.2.2.2.2.2.2.2.2.2.2.2.2.2.1,x.2.2.2.2.2.2.2.2.2.2.2.2.2.2.1,x.2.2.2.2.2.2.2.2.2.2.2.2.2.2.2.1,x.2.2.2.2.2.2.2.2.2.2.2.2.2.2.2.2.1,l.map ptK,x.2.2.2.2.2.2.2.2.2.2.2.2.2.2.2.2.2.2)):=by
 unfold PL;try simp -zeta only[Ap]
 rw[Aoh hN h,Jy]
theorem Ai7 {l:List Gn} (h: ∀ g∈l,okB g) (h0:l≠ []) (h3:l.length<=3):OQ N (Y4 l)=some (l.map gnK,0):=by
 have hl:=Adk hN h3 h;have hm:(l.map fun g=>JX 48 (ML g)).length=l.length:=Dz _;have hp:=Eo.2 h0;have hT:=Ou N (Y4 l) (by omega) (by omega) (by omega);rw[(Ar7 hN h (d:=0) (by decide)).list]at hT;unfold OQ;try simp only[clR]
 rw[hT,Jy];dsimp only;rw[show((0:Int) != 0)=false from rfl,cond_false,Uc (by rw[hm];omega),cond_false];refine(dR (mk:=fun i acc=>((i:Int),acc)) l (0,[],[]) gnK (fun acc=>some (acc,0)) ?_ ?_ N (by omega)).trans rfl
 .intro i acc hi ha k;have e1:=A1H (fun g=>JX 48 (ML g)) l (0,[],[]) (0,[],[]) hi;have hg:=h _ (getD_mem (0,[],[]) hi);have hb:=wO hN hg;have G:=wM hN hg;generalize l.getD i (0,[],[])=g at *
  have hL:=Ou N (ML g) (by omega) (by omega) (by omega);rw[(G.par 0 (by decide)).list]at hL;have hD:=G.dec;dsimp only[U2];simp (disch:=first | assumption | omega) only[JO,hm,e1,el1,el2,hL,hD,KI,Ej,List.length_cons,List.length_nil,EH];try rfl
 .intro acc k ha;dsimp only[U2];simp (disch:=first | assumption | omega) only[JO,hm]
theorem Auc {s:List Gn×List Gn} (h:okS s):XB N (ZB s)=some ((s.1.map gnK,s.2.map gnK),0):=by
 have ck:=Aom hN (AzJ hN h);have hl:=AsU hN h;have hg:=oP 48 (partT 160 s.1++partT 161 s.2);have o:SV N (ZB s)=some (JX 48 (partT 160 s.1++partT 161 s.2),0):=by rw[XC N _ (by omega) (by omega)];exact congrArg some (rY 48 _ (by decide) (by decide) (by unfold ZB at hl;omega))
 have L:=Ou N (partT 160 s.1++partT 161 s.2) (by omega) (by unfold ZB at hl;omega) (by unfold ZB at hl;omega);rw[(AsV hN h (d:=0) (by decide)).list]at L;have d1:=fun e=>Ai7 hN h.a0 (e:s.1≠ []) h.l0;have d2:=fun e=>Ai7 hN h.a1 (e:s.2≠ []) h.l1;have hne:=h.ne;obtain⟨a,b⟩:=s;dsimp only at *
 unfold XB;try simp only[clR]
 cases a with
 | nil =>
  have d2:=d2 (by rcases hne with h | h<;>first | exact h | exact absurd rfl h);rw[EN]at ck ⊢;cases b with
  | nil=>rcases hne with h | h<;>exact absurd rfl h
  | cons y b =>simp (disch:=first | assumption | omega) only[JO,o,L,el1,el2,d2,Ej,List.isEmpty_nil,List.isEmpty_cons,List.nil_append,List.length_cons,List.length_nil,EH,AaF,FN,Ff,ck];try rfl
 | cons x a =>
  have d1:=d1 (by simp);cases b with
  | nil =>rw[EN (f:=gnK)]at ck ⊢;simp (disch:=first | assumption | omega) only[JO,o,L,el1,el2,d1,Ej,List.isEmpty_nil,List.isEmpty_cons,DL,List.length_cons,List.length_nil,EH,AaF,FN,Ff,ck];try rfl
  | cons y b =>have d2:=d2 (by simp);simp (disch:=first | assumption | omega) only[JO,o,L,el1,el2,d1,d2,Ej,List.isEmpty_cons,List.cons_append,List.nil_append,List.length_cons,List.length_nil,EH,AaF,FN,Ff,ck];try rfl
theorem A1x {s:List Gn×List Gn} (h:okS s) (x:Info):Oi N (ZB s) x=some (0,(x.1,x.2.1,x.2.2.1,x.2.2.2.1,x.2.2.2.2.1,x.2.2.2.2.2.1,x.2.2.2.2.2.2.1,x.2.2.2.2.2.2.2.1,x.2.2.2.2.2.2.2.2.1,x.2.2.2.2.2.2.2.2.2.1,x.2.2.2.2.2.2.2.2.2.2.1,true,s.1.map gnK,s.2.map gnK,x.2.2.2.2.2.2.2.2.2.2.2.2.2.2)):=by
 unfold Oi;try simp -zeta only[Ap]
 rw[Auc hN h,Jy]
theorem Acf {s:Bs} (h:s∈ZI) (r:List El):SK N (JX 6 (idT s)::r)=some (s,0,r):=by unfold SK;rw[Xj 6 (idT s) r (k:=6) rfl,Jy];dsimp only[JX];rw[show((0:Int) != 0)=false from rfl,cond_false,(Qm hN h).dec,Jy]
theorem AmJ {c:Bs} {es:List El} (hc:c.length<=131072) (he:X0 c=(es,0)) (h0:es≠ []):RQ N (Sp.elem 48 c)=some (.inl (es,0)):=by have ho:QL N (Sp.elem 48 c) 48=some (.inl (es,0)):=Ahg hN (by omega) (by omega) hc he;have:=Eo.2 h0;unfold RQ KW;rw[ho,NW];dsimp only;rw[show((0:Int) != 0)=false from rfl,cond_false,Jy];dsimp only;rw[Uc (by omega)];rfl
theorem A1W {pu:List Bs} (h:xA YO pu) (h0:pu≠ []) (x:Info) (hx:x.2.2.2.2.1=[]):PO N (Agb pu) x=some (0,(x.1,x.2.1,x.2.2.1,x.2.2.2.1,pu,x.2.2.2.2.2)):=by
 have h3:=h.len;have hl:=Nc (g:=idB) (M:=15) (l:=pu) (fun s hm=>OI hN (Zl s (h.all s hm)));have ho:=AmJ hN (c:=(pu.map idB).flatten) (by omega) (Atn hN h (d:=0) (by decide)).list (fun e=>h0 (Fg.1 e));have hm:(pu.map fun s=>JX 6 (idT s)).length=pu.length:=Dz _;unfold PO Agb;try simp only[clR]
 rw[ho,NW];dsimp only;rw[hx];refine(MR (fun i=>(0,x.1,x.2.1,x.2.2.1,x.2.2.2.1,x.2.2.2.2.2.2.2.1,x.2.2.2.2.2.2.2.2.1,x.2.2.2.2.2.2.2.2.2.1,x.2.2.2.2.2.2.2.2.2.2.1,x.2.2.2.2.2.2.2.2.2.2.2.1,x.2.2.2.2.2.2.2.2.2.2.2.2.1,x.2.2.2.2.2.2.2.2.2.2.2.2.2.1,x.2.2.2.2.2.2.2.2.2.2.2.2.2.2.1,x.2.2.2.2.2.2.2.2.2.2.2.2.2.2.2.1,x.2.2.2.2.2.2.2.2.2.2.2.2.2.2.2.2.1,x.2.2.2.2.2.2.2.2.2.2.2.2.2.2.2.2.2.1,x.2.2.2.2.2.1,x.2.2.2.2.2.2.1,x.2.2.2.2.2.2.2.2.2.2.2.2.2.2.2.2.2.2,(pu.map fun s=>JX 6 (idT s)).drop i,pu.take i)) pu.length (some (0,(x.1,x.2.1,x.2.2.1,x.2.2.2.1,pu,x.2.2.2.2.2))) ?_ ?_ (N+1) (by omega))
 .intro i hi k;have e1:=Aja (fun s=>JX 6 (idT s)) pu [] hi;have e2:=Anz pu [] hi;have e3:=Acf hN (Zl _ (h.all _ (getD_mem [] hi))) ((pu.map fun s=>JX 6 (idT s)).drop (i+1));have e4:(pu.take i).length=i:=by rw[DZ];omega
  have e5:(((pu.map fun s=>JX 6 (idT s)).drop i).length:Int)=((pu.length - i:Nat):Int):=by rw[Et,hm]
  dsimp only[U21];unfold KW;rw[<- e1]at e3;simp (disch:=first | assumption | omega) only[JO,e5,Option.isSome_some,Option.getD_some,Em,e3,e4,e2];try rfl
 .intro k;have e1:(pu.map fun s=>JX 6 (idT s)).drop pu.length=[]:=by rw[<- hm,FC]
  dsimp only[U21];unfold KW;rw[e1,Ez];rfl
set_option maxHeartbeats 400000 in
theorem A1T {po:List Bs} (h:xA WR po) (h0:po≠ []) (x:Info) (hx:x.2.2.2.2.2.1=[]):PN N (AfU po) x=some (0,(x.1,x.2.1,x.2.2.1,x.2.2.2.1,x.2.2.2.2.1,po,x.2.2.2.2.2.2)):=by
 have h3:=h.len;have hl:=Nc (g:=fun s=>Sp.elem 48 (idB s)) (M:=20) (l:=po) (fun s hm=>by have:=OI hN (LP s (h.all s hm));have:=Sp.JL 48 (idB s);omega);have ho:=AmJ hN (c:=(po.map fun s=>Sp.elem 48 (idB s)).flatten) (by omega) (Atm hN h (d:=0) (by decide)).list (fun e=>h0 (Fg.1 e));have hm:(po.map AfV).length=po.length:=Dz _;unfold PN Y9 AfU;try simp only[clR]
 rw[ho,NW];dsimp only;rw[show((0:Int) != 0)=false from rfl,cond_false,hx]
 suffices e: ∀ kk:Int×Info->Option (Int×Info),Jt (J8 _ (N+1) _ _) kk=kk (0,(x.1,x.2.1,x.2.2.1,x.2.2.2.1,x.2.2.2.2.1,po,x.2.2.2.2.2.2))from e _
 intro kk;refine(congrArg (fun o=>Jt o kk) (MR (fun i=>(x.1,x.2.1,x.2.2.1,x.2.2.2.1,x.2.2.2.2.2.2.2.1,x.2.2.2.2.2.2.2.2.1,x.2.2.2.2.2.2.2.2.2.1,x.2.2.2.2.2.2.2.2.2.2.1,x.2.2.2.2.2.2.2.2.2.2.2.1,x.2.2.2.2.2.2.2.2.2.2.2.2.1,x.2.2.2.2.2.2.2.2.2.2.2.2.2.1,x.2.2.2.2.2.2.2.2.2.2.2.2.2.2.1,x.2.2.2.2.2.2.2.2.2.2.2.2.2.2.2.1,x.2.2.2.2.2.2.2.2.2.2.2.2.2.2.2.2.1,x.2.2.2.2.2.2.2.2.2.2.2.2.2.2.2.2.2.1,(po.map AfV).drop i,x.2.2.2.2.2.2.2.2.2.2.2.2.2.2.2.2.2.2,x.2.2.2.2.2.2.1,po.take i,x.2.2.2.2.1)) po.length (some (0,(x.1,x.2.1,x.2.2.1,x.2.2.2.1,x.2.2.2.2.1,po,x.2.2.2.2.2.2))) ?_ ?_ (N+1) (by omega))).trans rfl
 .intro i hi k;have hi2:=LP _ (h.all _ (getD_mem [] hi));have e1:=Aja AfV po [] hi;have e2:=Anz po [] hi;have e3:=fun r=>Acf hN hi2 r;have e4:(po.take i).length=i:=by rw[DZ];omega
  have e5:(((po.map AfV).drop i).length:Int)=((po.length - i:Nat):Int):=by rw[Et,hm]
  have hq:QB N [po.getD i []] (x.1,x.2.1,x.2.2.1,x.2.2.2.1,x.2.2.2.2.1,po.take i,x.2.2.2.2.2.2)=some (x.1,x.2.1,x.2.2.1,x.2.2.2.1,x.2.2.2.2.1,po.take (i+1),x.2.2.2.2.2.2):=by rw[<- e2];exact(KD _ rfl).trans ((KD _ (Dp (by dsimp only;omega))).trans rfl)
  have e6:MJ N ((po.map AfV).drop i)=some (.inl ([JX 6 (idT (po.getD i []))],0,(po.map AfV).drop (i+1))):=by rw[e1];exact wR hN (by have:=OI hN hi2;omega) (rD hN hi2 (d:=0) (by decide)).list
  dsimp only[U20];unfold KW;simp (disch:=first | assumption | omega) only[JO,e5,e6,NW];rw[Nu];dsimp only[U22];simp (disch:=first | assumption | omega) only[JO,List.length_nil,e3];obtain⟨K,rfl⟩: ∃ K,N=K+1:=⟨N - 1,by omega⟩
  rw[Nu];dsimp only[U22];simp (disch:=first | assumption | omega) only[JO,List.length_cons,List.length_nil,List.nil_append];rw[TY,Dt rfl,Jy];dsimp only;rw[show((0:Int) != 0)=false from rfl,cond_false];refine(congrArg (fun o=>Jt o _) hq).trans ?_;rw[Jy]
 .intro k;have e1:(po.map AfV).drop po.length=[]:=by rw[<- hm,FC]
  dsimp only[U20];unfold KW;rw[e1,Ez];rfl
end
section
variable {N:Nat} (hN:1048578<N)
include hN
set_option maxHeartbeats 400000 in
theorem A1I {ma:List (Bs×Bs)} (h:Alq ma) (h0:ma≠ []) (x:Info) (hx:x.2.2.2.2.2.2.1=[]):PM N (AfH ma) x=some (0,(x.1,x.2.1,x.2.2.1,x.2.2.2.1,x.2.2.2.2.1,x.2.2.2.2.2.1,ma,x.2.2.2.2.2.2.2)):=by
 have h3:=h.len;have hl:=Nc (g:=fun m:Bs×Bs=>Sp.elem 48 (idB m.1++idB m.2)) (M:=35) (l:=ma) (fun s hm=>by have:=AmQ hN (h.all s hm).1 (h.all s hm).2;have:=Sp.JL 48 (idB s.1++idB s.2);omega);have hp:=(Atg hN h (d:=0) (by decide)).list;have ho:=AmJ hN (by omega) hp (fun e=>h0 (Fg.1 e));have hm:(ma.map AfI).length=ma.length:=Dz _;unfold PM YA AfH;try simp only[clR]
 rw[ho,NW];dsimp only;rw[show((0:Int) != 0)=false from rfl,cond_false,hx]
 suffices e: ∀ kk:Int×Info->Option (Int×Info),Jt (J8 _ (N+1) _ _) kk=kk (0,(x.1,x.2.1,x.2.2.1,x.2.2.2.1,x.2.2.2.2.1,x.2.2.2.2.2.1,ma,x.2.2.2.2.2.2.2))from e _
 intro kk;refine(congrArg (fun o=>Jt o kk) (MR (fun i=>(x.1,x.2.1,x.2.2.1,x.2.2.2.1,x.2.2.2.2.2.2.2.1,x.2.2.2.2.2.2.2.2.1,x.2.2.2.2.2.2.2.2.2.1,x.2.2.2.2.2.2.2.2.2.2.1,x.2.2.2.2.2.2.2.2.2.2.2.1,x.2.2.2.2.2.2.2.2.2.2.2.2.1,x.2.2.2.2.2.2.2.2.2.2.2.2.2.1,x.2.2.2.2.2.2.2.2.2.2.2.2.2.2.1,x.2.2.2.2.2.2.2.2.2.2.2.2.2.2.2.1,x.2.2.2.2.2.2.2.2.2.2.2.2.2.2.2.2.1,x.2.2.2.2.2.2.2.2.2.2.2.2.2.2.2.2.2.1,(ma.map AfI).drop i,x.2.2.2.2.2.2.2.2.2.2.2.2.2.2.2.2.2.2,ma.take i,x.2.2.2.2.2.1,x.2.2.2.2.1)) ma.length (some (0,(x.1,x.2.1,x.2.2.1,x.2.2.2.1,x.2.2.2.2.1,x.2.2.2.2.2.1,ma,x.2.2.2.2.2.2.2))) ?_ ?_ (N+1) (by omega))).trans rfl
 .intro i hi k;have hi2:=h.all _ (getD_mem ([],[]) hi);have e1:=Aja AfI ma ([],[]) hi;have e2:=Anz ma ([],[]) hi;have e3:=fun r=>Acf hN (LP _ hi2.1) r;have e3':=fun r=>Acf hN (LP _ hi2.2) r;have e4:(ma.take i).length=i:=by rw[DZ];omega
  have e5:(((ma.map AfI).drop i).length:Int)=((ma.length - i:Nat):Int):=by rw[Et,hm]
  have hq:QA N [(ma.getD i ([],[])).1,(ma.getD i ([],[])).2] (x.1,x.2.1,x.2.2.1,x.2.2.2.1,x.2.2.2.2.1,x.2.2.2.2.2.1,ma.take i,x.2.2.2.2.2.2.2)=some (x.1,x.2.1,x.2.2.1,x.2.2.2.1,x.2.2.2.2.1,x.2.2.2.2.2.1,ma.take (i+1),x.2.2.2.2.2.2.2):=by rw[<- e2];exact(KD _ rfl).trans ((KD _ rfl).trans ((KD _ (Dp (by dsimp only;omega))).trans rfl))
  have e6:MJ N ((ma.map AfI).drop i)=some (.inl ([JX 6 (idT (ma.getD i ([],[])).1),JX 6 (idT (ma.getD i ([],[])).2)],0,(ma.map AfI).drop (i+1))):=by rw[e1];exact wR hN (by have:=AmQ hN hi2.1 hi2.2;omega) (N7 (rD hN (LP _ hi2.1) (d:=0) (by decide)) (rD hN (LP _ hi2.2) (d:=0) (by decide))).list
  dsimp only[U20];unfold KW;simp (disch:=first | assumption | omega) only[JO,e5,e6,NW];rw[Nu];dsimp only[U22];simp (disch:=first | assumption | omega) only[JO,List.length_nil,e3];obtain⟨K,rfl⟩: ∃ K,N=K+2:=⟨N - 2,by omega⟩
  rw[Nu];dsimp only[U22];simp (disch:=first | assumption | omega) only[JO,List.length_cons,List.length_nil,List.nil_append,e3'];rw[Nu];dsimp only[U22];simp (disch:=first | assumption | omega) only[JO,List.length_cons,List.length_nil,List.nil_append,List.cons_append];rw[TY,Dt rfl,Jy];dsimp only;rw[show((0:Int) != 0)=false from rfl,cond_false];refine(congrArg (fun o=>Jt o _) hq).trans ?_;rw[Jy]
 .intro k;have e1:(ma.map AfI).drop ma.length=[]:=by rw[<- hm,FC]
  dsimp only[U20];unfold KW;rw[e1,Ez];rfl
end
end Go.Proofs.YtfgdgdnlglejbaaGreatDoor.Pl
