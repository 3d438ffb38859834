import Derived.Test.YtbgjmioccbacdaaGreatDoorA19
set_option linter.all false
namespace Go.Proofs.YtbgjmioccbacdaaGreatDoor.Pl
open IntKind (i64 u8 u32 u64)
open Go Vm
def UH (n:Int):Bs:=(Q5 300 n).getD []
def Aln (M:Nat) (n:Nat):Bool:=Q5 (M+300) (n:Int)==some (UH n)&&(true&&(UM (M+300) (UH n)==some ((n:Int),0)&&decide ((UH n).length<=2)))
def ArP (M:Nat):(List.range 256).all (Aln M)=true:=by kernel_rfl
structure Agb (N:Nat) (n:Int):Prop where
 put:Q5 N n=some (UH n)
 Aua:True
 int:UM N (UH n)=some (n,0)
 len:(UH n).length<=2
def Ahu {N:Nat} (hN:1048578<N) {n:Int} (h0:0<=n) (h1:n<256):Agb N n:=by
 obtain⟨M,rfl⟩:=ofM hN;obtain⟨k,rfl⟩: ∃ k:Nat,n=k:=⟨n.toNat,by omega⟩
 have h:=D7.1 (ArP M) k (ER.2 (by omega));unfold Aln at h;simp only[Dq,EK,DJ]at h;obtain⟨h1,h2,h3,h4⟩:=h;exact⟨h1,h2,h3,h4⟩
def Qm (t:Nat) (n:Int):Bs:=Sp.elem t (UH n)
def Alm (t:Nat) (n:Int):El:=JQ t (UH n)
def Ap9 {N:Nat} {n:Int} (h:Agb N n) {t:Nat} (ht:t<256) (h31:t % 32≠31):Fine (t,UH n):=⟨ht,h31,by have:=h.len;show(UH n).length<=_;omega⟩
def Adu:List Int:=[0,1000,2000000000,3155759999,3155760000,254033452799,2400000000]
def Uz:List Bs:=[[50,46,53,46,50,57,46,50,49],[50,46,53,46,50,57,46,50,52],[50,46,53,46,50,57,46,50,57],[50,46,53,46,50,57,46,51,53],[50,46,53,46,50,57,46,50,48],[50,46,53,46,50,57,46,50,55],[50,46,53,46,50,57,46,50,56],[50,46,53,46,50,57,46,52,54],[50,46,53,46,50,57,46,49,57],[50,46,53,46,50,57,46,49,53],[50,46,53,46,50,57,46,51,55],[50,46,53,46,50,57,46,51,50],[50,46,53,46,50,57,46,51,51],[50,46,53,46,50,57,46,51,54],[50,46,53,46,50,57,46,53,52],[50,46,53,46,50,57,46,49,55],[50,46,53,46,50,57,46,51,48],[50,46,53,46,50,57,46,49,52],[50,46,53,46,50,57,46,51,49],[49,46,50,46,51,46,49],[49,46,50,46,51,46,50],[49,46,50,46,51,46,51],[49,46,50,46,51,46,52],[49,46,50,46,51,46,53],[50,46,57,57,57,46,49],[50,46,57,57,57,46,50],[49,46,50,46,51],[50,46,53,46,50,57,46,51,50,46,48],[49,46,51,46,54,46,49,46,53,46,53,46,55,46,51,46,49],[49,46,51,46,54,46,49,46,53,46,53,46,55,46,51,46,50],[49,46,51,46,54,46,49,46,53,46,53,46,55,46,51,46,51],[49,46,51,46,54,46,49,46,53,46,53,46,55,46,51,46,52],[50,46,53,46,50,57,46,51,55,46,48],[49,46,50,46,51,46,52,46,53],[49,46,50,46,51,46,52,46,54]]
def idT (s:Bs):Bs:=((Sj 300 s).getD default).1
def idQ (M:Nat) (s:Bs):Bool:=OA (M+300) s==some true&&(true&&(Sj (M+300) s==some (idT s,0)&&(true&&(TS (M+300) (idT s)==some (s,0)&&decide ((idT s).length<=10)))))
def Atk (M:Nat):Uz.all (idQ M)=true:=by kernel_rfl
structure AuI (N:Nat) (s:Bs):Prop where
 val:OA N s=some true
 Avh:True
 enc:Sj N s=some (idT s,0)
 AtW:True
 dec:TS N (idT s)=some (s,0)
 len:(idT s).length<=10
def Uy {N:Nat} (hN:1048578<N) {s:Bs} (h:s∈Uz):AuI N s:=by obtain⟨M,rfl⟩:=ofM hN;have h:=D7.1 (Atk M) s h;unfold idQ at h;simp only[Dq,EK,DJ]at h;obtain⟨h1,h2,h3,h4,h5,h6⟩:=h;exact⟨h1,h2,h3,h4,h5,h6⟩
def Ae9:List Int:=[2,64,384,510]
def Og (n:Int):Bs:=((Ol 300 n).getD default).1
def Aub (M:Nat) (r:Int):Bool:=Ol (M+300) r==some (Og r,0)&&(true&&(TU (M+300) (Og r)==some (r,0)&&(decide ((Og r).length<=5)&&(JJ .andNot .i64 r 510==0&& !(r==0)))))
def Asp (M:Nat):Ae9.all (Aub M)=true:=by kernel_rfl
structure Auu (N:Nat) (r:Int):Prop where
 put:Ol N r=some (Og r,0)
 Aua:True
 get:TU N (Og r)=some (r,0)
 len:(Og r).length<=5
 mask:JJ .andNot .i64 r 510=0
 ne:r≠0
def XG {N:Nat} (hN:1048578<N) {r:Int} (h:r∈Ae9):Auu N r:=by obtain⟨M,rfl⟩:=ofM hN;have h:=D7.1 (Asp M) r h;unfold Aub at h;simp only[Dq,EK,DJ,Ef,beq_eq_false_iff_ne]at h;obtain⟨h1,h2,h3,h4,h5,h6⟩:=h;exact⟨h1,h2,h3,h4,h5,h6⟩
def Au6:JJ .andNot .i64 0 510=0:=by kernel_rfl
def okR (r:Int):Prop:=r=0\/r∈Ae9
def flT (t:Nat) (r:Int):Bs:=bif r != 0 then Sp.elem t (Og r)else []
def flE (t:Nat) (r:Int):List El:=bif r != 0 then [JQ t (Og r)]else []
def ApR {r:Int} (h:okR r):JJ .andNot .i64 r 510=0:=by
 rcases h with rfl | h
 .exact Au6
 .exact(XG (N:=1048579) (by omega) h).mask
def Asb {r:Int} (h:okR r) (t:Nat):(flT t r).length<=10:=by
 rcases h with rfl | h
 .exact EF _
 .have R:=XG (N:=1048579) (by omega) h;have:=R.len;have:=Sp.JD t (Og r);unfold flT;rw[jC R.ne,cond_true];omega
def Atc {r:Int} (h:okR r) {t d:Nat} (ht:t<256) (h31:t % 32≠31) (hd:d<16) (hc:Sp.cons t=false):Par d (flT t r) (flE t r):=Aex _ fun hr=>by
 rcases h with rfl | h
 .cases hr
 .exact QD ⟨ht,h31,by have:=(XG (N:=1048579) (by omega) h).len;show(Og r).length<=_;omega⟩ hd hc
abbrev PtL:Type:=List GnL×Int×Bool×List (List MF)
structure okP (p:PtL):Prop where
 nm: ∃ g,okG g/\p.1=[g]
 re:okR p.2.1
 is:(p.2.2.1=false/\p.2.2.2=[])\/(p.2.2.1=true/\okN p.2.2.2/\p.2.2.2≠ [])
def ptK (p:PtL):PtL:=(p.1.map gnK,p.2.1,p.2.2.1,nmC p.2.2.2)
def piT (p:PtL):Bs:=bif p.2.2.1 then Sp.elem 162 (KW (4,[],p.2.2.2))else []
def ptC (p:PtL):Bs:=Sp.elem 160 (Sp.elem 160 (KH p.1))++(flT 129 p.2.1++piT p)
def ptB (p:PtL):Bs:=Sp.elem 48 (ptC p)
def ptE (p:PtL):El:=JQ 48 (ptC p)
def gs1 {g:GnL} (h:okG g):AhJ [g]:=⟨by simp,fun x hx=>by rw[Eh.1 hx];exact h⟩
structure PtM (N:Nat) (p:PtL):Prop where
 chk:RU N p=some 0
 len:(ptC p).length<=2000
 els:VU (ptC p)=(JQ 160 (Sp.elem 160 (KH p.1))::(flE 129 p.2.1++(bif p.2.2.1 then [JQ 162 (KW (4,[],p.2.2.2))]else [])),0)
 par: ∀ d,d<=2->Par d (ptB p) [ptE p]
 okK:okP (ptK p)
 AgO:ptB (ptK p)=ptB p
 dec:Ru N (JQ 160 (Sp.elem 160 (KH p.1))::(flE 129 p.2.1++(bif p.2.2.1 then [JQ 162 (KW (4,[],p.2.2.2))]else [])))=some (ptK p,0,[])
section
variable {N:Nat} (hN:1048578<N)
include hN
theorem oQ {p:PtL} (h:okP p):PtM N p:=by
 obtain⟨gs,r,b,n⟩:=p;obtain⟨⟨g,hg,hgs⟩,hr,hi⟩:=h;dsimp only at hgs hr hi;subst hgs;have h1:=gs1 hg;have hl:=TN hN h1;have hm:=ApR hr;have ck:=Aan hN h1;have l1: [g].length=1:=rfl;have hfl:=Asb hr 129;have e1:=Sp.JD 160 (KH [g]);have e2:=Sp.JD 160 (Sp.elem 160 (KH [g]))
 have hpi:(piT ([g],r,b,n)).length<=640:=by
  unfold piT;rcases hi with ⟨rfl,_⟩ | ⟨rfl,hn,_⟩
  .exact EF _
  .have:=dW hN (Or.inr ⟨n,hn,rfl⟩:okG (4,[],n));have:=Sp.JD 162 (KW (4,[],n));show(Sp.elem 162 (KW (4,[],n))).length<=_;omega
 have hlen:(ptC ([g],r,b,n)).length<=2000:=by unfold ptC;rw[Dv,Dv];dsimp only;omega
 have hpar: ∀ d,d<=3->Par d (ptC ([g],r,b,n)) (JQ 160 (Sp.elem 160 (KH [g]))::(flE 129 r++(bif b then [JQ 162 (KW (4,[],n))]else []))):=by
  intro d hd;show Par d (Sp.elem 160 (Sp.elem 160 (KH [g]))++(flT 129 r++piT ([g],r,b,n))) _;refine Q4 (es:=[_]) (NS (MC (by decide) (by decide)) (by omega) (NS (t:=160) (MC (by decide) (by decide)) (by omega) (AaY hN h1 (by omega)).nest).nest) (Q4 (Atc hr (by decide) (by decide) (by omega) (by decide)) ?_);show Par d (bif b then Sp.elem 162 (KW (4,[],n))else []) _;refine Aex b fun hb=> ?_;rcases hi with ⟨rfl,_⟩ | ⟨rfl,hn,_⟩
  .cases hb
  .have hd4:okG (4,[],n):=Or.inr ⟨n,hn,rfl⟩;exact NS (MC (by decide) (by decide) (by have:=dW hN hd4;omega)) (by omega) ((VS hN hd4).par _ (by omega)).nest
 have hf:Fine (48,ptC ([g],r,b,n)):=(MC (by decide) (by decide))
 have hK:KH ([g].map gnK)=KH [g]:=ArV hN h1;have hls:=(iC hN h1 (by simp))
 have o160:Pv N (Sp.elem 160 (KH [g])) 160=some (JQ 160 (KH [g]),0):=by rw[mZ N _ 160 hN (by omega)];exact congrArg some (wP 160 (KH [g]) (by decide) (by decide) (by omega))
 refine⟨?_,hlen,(hpar 0 (by omega)).list,fun d hd=>NS hf (by omega) (hpar _ (by omega)).nest,?_,?_,?_⟩
 .unfold RU;try simp only[clR]
  rcases hi with ⟨rfl,rfl⟩ | ⟨rfl,hn,hne⟩
  .simp (disch:=omega) only[JO,hm,ck,l1,List.length_nil];try rfl
  .have hpos:=EW.2 hne;have hc:=QN hN hn;simp (disch:=omega) only[JO,hm,ck,l1,hc];try rfl
 .refine⟨⟨gnK g,(VS hN hg).okK,rfl⟩,hr,?_⟩;rcases hi with ⟨rfl,rfl⟩ | ⟨rfl,hn,hne⟩
  .exact Or.inl ⟨rfl,rfl⟩
  .exact Or.inr ⟨rfl,AcR hN hn,fun h=>hne (Fq.1 h)⟩
 .unfold ptB ptC ptK piT;dsimp only;rw[hK];rcases hi with ⟨rfl,rfl⟩ | ⟨rfl,hn,hne⟩
  .rfl
  .rw[show KW (4,[],nmC n)=KW (4,[],n)from congrArg (fun p:Nat×Bs=>Sp.elem p.1 p.2) (VS hN (Or.inr ⟨n,hn,rfl⟩:okG (4,[],n))).AgO]
 .have hflE:flE 129 r=[]/\r=0\/flE 129 r=[JQ 129 (Og r)]/\r∈Ae9:=by
   rcases hr with rfl | hr
   .exact Or.inl ⟨rfl,rfl⟩
   .refine Or.inr ⟨?_,hr⟩;unfold flE;rw[jC (XG hN hr).ne];rfl
  have hI:b=false/\n=[]\/b=true/\Ot N (KW (4,[],n))=some ([(4,[],nmC n)],0):=by
   rcases hi with h | ⟨h,hn,_⟩
   .exact Or.inl h
   .refine Or.inr ⟨h,?_⟩;have:=iC hN (gs1 (Or.inr ⟨n,hn,rfl⟩:okG (4,[],n))) (by simp);rwa [show KH [((4:Int),([]:Bs),n)]=KW (4,[],n)from Ee _]at this
  unfold Ru;try simp only[clR]
  rcases hflE with ⟨h1,h2⟩ | ⟨h1,h2⟩<;>rcases hI with ⟨rfl,rfl⟩ | ⟨rfl,h3⟩
  .rw[h1];subst h2;simp (disch:=omega) only[JO,sD,Ahs,Ali,Ahr,el1,el2,el3,List.cons_append,List.nil_append,o160,hls,XQ];try rfl
  .rw[h1];subst h2;simp (disch:=omega) only[JO,sD,Ahs,Ali,Ahr,el1,el2,el3,List.cons_append,List.nil_append,o160,hls,XQ,h3];try rfl
  .have hg:=(XG hN h2).get;have hne:=(XG hN h2).ne;rw[h1];simp (disch:=omega) only[JO,sD,Ahs,Ali,Ahr,el1,el2,el3,List.cons_append,List.nil_append,o160,hls,XQ,hg];try rfl
  .have hg:=(XG hN h2).get;have hne:=(XG hN h2).ne;rw[h1];simp (disch:=omega) only[JO,sD,Ahs,Ali,Ahr,el1,el2,el3,List.cons_append,List.nil_append,o160,hls,XQ,hg,h3];try rfl
end
abbrev ExL:Type:=Bs×Bool×Bs
structure OkX (x:ExL):Prop where
 id:x.1∈Uz
 chk:Sp.chk x.2.2=0
 len:x.2.2.length<=8000
structure AsD (l:List ExL):Prop where
 ne:0<l.length
 len:l.length<=16
 all: ∀ x∈l,OkX x
 nd:l.Pairwise fun a b=>a.1≠b.1
def exC (x:ExL):Bs:=Sp.elem 6 (idT x.1)++((bif x.2.1 then Sp.elem 1 [255]else [])++Sp.elem 4 x.2.2)
def exB (x:ExL):Bs:=Sp.elem 48 (exC x)
def exE (x:ExL):El:=JQ 48 (exC x)
def xsC (l:List ExL):Bs:=(l.map exB).flatten
def xsB (l:List ExL):Bs:=Sp.elem 48 (xsC l)
def zX:ExL:=([],false,[])
def kC {α :Type} (l:List α):J6 l 1 l.length=l.drop 1:=by show(l.take l.length).drop 1=_;rw[EI]
section
variable {N:Nat} (hN:1048578<N) {x:ExL} (h:OkX x)
include hN h
theorem Ace:(exC x).length<=x.2.2.length+23:=by
 have h1:=(Uy hN h.id).len;have h2:=Sp.JD 6 (idT x.1);have h3:=Sp.JD 4 x.2.2;have h4:=h.len;have h5:(bif x.2.1 then Sp.elem 1 [255]else []:Bs).length<=3:=by cases x.2.1<;>decide
 unfold exC;rw[Dv,Dv];omega
theorem Anx {d:Nat} (hd:d<16):Par d (exC x) (JQ 6 (idT x.1)::((bif x.2.1 then [JQ 1 [255]]else [])++[JQ 4 x.2.2])):=by have h1:=(Uy hN h.id).len;have h4:=h.len;exact Q4 (es:=[_]) (QD (MC (by decide) (by decide)) hd (by decide)) (Q4 (Aex x.2.1 fun _=>QD (MC (by decide) (by decide) (by decide)) hd (by decide)) (QD (MC (by decide) (by decide)) hd (by decide)))
theorem Ata:VU (exC x)=(JQ 6 (idT x.1)::((bif x.2.1 then [JQ 1 [255]]else [])++[JQ 4 x.2.2]),0):=(Anx hN h (d:=0) (by decide)).list
theorem Anw:Ud N x=some (exB x,0):=by
 have I:=Uy hN h.id;have h1:=I.len;have h3:=h.len;have h4:=Ace hN h;have h5:=Sp.JD 6 (idT x.1);have h6:=Sp.JD 4 x.2.2;have e1:=I.enc;have w1:Ko N 6 [idT x.1]=_:=Ub N 6 [idT x.1] (by omega) (by omega) hN (by simp) (by rw[KJ];omega);have w2:Ko N 4 [x.2.2]=_:=Ub N 4 [x.2.2] (by omega) (by omega) hN (by simp) (by rw[KJ];omega);rw[KJ]at w1 w2;unfold exB exC at *
 obtain⟨id,c,v⟩:=x;dsimp only at *
 cases c with
 | true =>
  have w3:Ko N 1 [[255]]=some (Sp.elem 1 [255],0):=Ub N 1 [[255]] (by omega) (by omega) hN (by simp) (by simp);have w4:Ko N 48 [Sp.elem 6 (idT id),Sp.elem 1 [255],Sp.elem 4 v]=_:=Ub N 48 [Sp.elem 6 (idT id),Sp.elem 1 [255],Sp.elem 4 v] (by omega) (by omega) hN (by simp) (by rw[kN];exact Gj h4 (by omega));rw[kN]at w4;have p:U1 N true=some [255]:=rfl;unfold Ud;try simp only[clR]
  simp (disch:=omega) only[JO,e1,w1,w2,w3,p,Es,List.length_cons,List.length_nil];exact congrArg (fun o=>Jq o _) w4
 | false =>
  have w4:Ko N 48 [Sp.elem 6 (idT id),[],Sp.elem 4 v]=_:=Ub N 48 [Sp.elem 6 (idT id),[],Sp.elem 4 v] (by omega) (by omega) hN (by simp) (by rw[kN];exact Gj h4 (by omega));rw[kN]at w4;unfold Ud;try simp only[clR]
  simp (disch:=omega) only[JO,e1,w1,w2,Es,List.length_cons,List.length_nil];exact congrArg (fun o=>Jq o _) w4
theorem AeW:QB N (exE x)=some (x,0):=by
 have h4:=Ace hN h;have h3:=h.len;have hl:=Oi N (exC x);rw[Ata hN h]at hl;have I:=(Uy hN h.id).dec;obtain⟨id,c,v⟩:=x;dsimp only at *
 unfold QB exE;try simp only[clR]
 rw[show(JQ 48 (exC (id,c,v))).1=48 from rfl,show(JQ 48 (exC (id,c,v))).2.1=exC (id,c,v)from rfl];cases c with
 | true =>simp (disch:=omega) only[JO,hl,el1,el2,el3,Es,List.length_cons,List.length_nil,EH,kC,Gg,F6,List.cons_append,List.nil_append,I];try rfl
 | false =>simp (disch:=omega) only[JO,hl,el1,el2,el3,Es,List.length_cons,List.length_nil,EH,kC,Gg,F6,List.cons_append,List.nil_append,I];try rfl
theorem Atb:Sz N x.2.2=some 0:=by have:=h.len;rw[xY N _,h.chk]
end
def AnR {β :Type} (k:Bs): ∀(m:List (Bs× β)),(∀ p∈m,k≠p.1)->TR (.str .nil) k m=none:=by
 intro m
 induction m with
 | nil=>intro _;rfl
 | cons p m ih =>
  intro h;have h1:(Ty.str .nil).same k p.1=false:=by show((k==p.1)&&true)=false;rw[FQ (h p Du)];rfl
  show(bif (Ty.str .nil).same k p.1 then some p.2 else TR (.str .nil) k m)=none;rw[h1,cond_false];exact ih fun q hq=>h q (Dy _ hq)
def AnT {β :Type} (k:Bs) (v: β): ∀(m:List (Bs× β)),(∀ p∈m,k≠p.1)->Zg (.str .nil) k v m=m++[(k,v)]:=by
 intro m
 induction m with
 | nil=>intro _;rfl
 | cons p m ih =>
  intro h;have h1:(Ty.str .nil).same k p.1=false:=by show((k==p.1)&&true)=false;rw[FQ (h p Du)];rfl
  show(bif (Ty.str .nil).same k p.1 then(p.1,v)::m else p::Zg (.str .nil) k v m)=_;rw[h1,cond_false,ih fun q hq=>h q (Dy _ hq)];rfl
def ArX {β :Type} (k:Bs) (v: β) (t:List (Bs× β)): ∀(m:List (Bs× β)),(∀ p∈m,k≠p.1)->TR (.str .nil) k (m++(k,v)::t)=some v:=by
 intro m
 induction m with
 | nil =>intro _;show(bif ((k==k)&&true)then some v else _)=_;rw[DK];rfl
 | cons p m ih =>
  intro h;have h1:(Ty.str .nil).same k p.1=false:=by show((k==p.1)&&true)=false;rw[FQ (h p Du)];rfl
  show(bif (Ty.str .nil).same k p.1 then some p.2 else TR (.str .nil) k (m++(k,v)::t))=_;rw[h1,cond_false];exact ih fun q hq=>h q (Dy _ hq)
def Xt (l:List ExL) (n:Nat):List (Bs×Int):=(List.range n).map fun i=>((l.getD i zX).1,(i:Int))
section
variable {l:List ExL} (h:AsD l)
include h
theorem AuG {i j:Nat} (hi:i<j) (hj:j<l.length):(l.getD i zX).1≠(l.getD j zX).1:=by rw[getD_lt l i zX,getD_lt l j zX hj];exact GY.1 h.nd i j (by omega) hj hi
theorem Aef {n:Nat} (hn:n<l.length): ∀ p∈Xt l n,(l.getD n zX).1≠p.1:=by intro p hp;obtain⟨i,hi,rfl⟩:=DF.1 hp;exact(AuG h (ER.1 hi) hn).symm
theorem ArL {n:Nat} (hn:n<l.length):TR (.str .nil) (l.getD n zX).1 (Xt l l.length)=some (n:Int):=by
 have e:Xt l l.length=Xt l n++((l.getD n zX).1,(n:Int))::(List.range (l.length - (n+1))).map fun i=>((l.getD (n+1+i) zX).1,((n+1+i:Nat):Int)):=by
  unfold Xt;obtain⟨k,hk⟩: ∃ k,l.length=n+1+k:=⟨l.length - (n+1),by omega⟩
  rw[hk,show n+1+k - (n+1)=k by omega,List.range_add,EY,FU,EY,EO,Eg];rfl
 rw[e];exact ArX _ _ _ _ (Aef h hn)
variable {N:Nat} (hN:1048578<N)
include hN
theorem AgY:dU N l=some (Xt l l.length):=by
 have hl:=h.len;unfold dU;try simp only[clR]
 refine(MZ (fun i=>((i:Int),Xt l i)) l.length (some (Xt l l.length)) ?_ ?_ N).trans rfl
 .intro i hlt k;have e1:=AnR (β :=Int) (l.getD i zX).1 (Xt l i) (Aef h hlt);have e2:=AnT (l.getD i zX).1 (i:Int) (Xt l i) (Aef h hlt);have e3:Xt l i++[((l.getD i zX).1,(i:Int))]=Xt l (i+1):=by unfold Xt;rw[FU,EY];rfl
  unfold zX at e1 e2 e3;simp (disch:=omega) only[JO,e1,e2,e3,LC,Option.isSome_none]
 .intro k;simp (disch:=omega) only[JO]
theorem Aiv:WJ N l=some 0:=by
 have hl:=h.len;have h0:=h.ne;have hi:=AgY h hN;unfold WJ;try simp only[clR]
 simp (disch:=omega) only[JO,hi];refine MZ (fun i=>((i:Int),Xt l l.length)) l.length _ ?_ ?_ N
 .intro i hlt k;have hx:=h.all _ (getD_mem zX hlt);have e1:=ArL h hlt;have e2:=Atb hN hx;have e3:=(Uy hN hx.id).val;unfold zX at *
  simp (disch:=omega) only[JO,e1,e2,e3,LC,Option.getD_some];try rfl
 .intro k;simp (disch:=omega) only[JO]
theorem Akg {m:Nat} (hm: ∀ x∈l,x.2.2.length<=m):(xsC l).length<=(m+28)*l.length :=
 MK (g:=exB) (M:=m+28) (l:=l) fun x hx=>by have:=Ace hN (h.all x hx);have:=Sp.JD 48 (exC x);have:=hm x hx;unfold exB;omega
theorem xs_len:(xsC l).length<=128448:=by have:=Akg h hN (m:=8000) fun x hx=>(h.all x hx).len;have:=h.len;omega
theorem AoI {d:Nat} (hd:d<15):Par d (xsC l) (l.map exE):=WR fun x hx=>by have hx:=h.all x hx;have h4:=Ace hN hx;have h5:=hx.len;exact NS (MC (by decide) (by decide)) (by omega) (Anx hN hx (by omega)).nest
theorem As4:Fine (48,xsC l):=(MC (by decide) (by decide) (by have:=xs_len h hN;omega))
theorem AoH:Z7 N l=some (xsB l,0):=by
 have hl:=h.len;have hb:=xs_len h hN;unfold Z7;try simp only[clR]
 rw[Aiv h hN,Jr,show((0:Int) != 0)=false from rfl,cond_false];refine(QC (mk:=fun i a=>((i:Int),a)) l zX exB (fun a=>Jq (Ko N 48 a) fun r=>bif r.2 != 0 then some ([],2)else some (r.1,0)) ?_ ?_ N).trans ?_
 .intro i a hlt ha k;have e1:=Anw hN (h.all _ (getD_mem zX hlt));unfold zX at *
  simp (disch:=omega) only[JO,e1,LC];try rfl
 .intro a k ha;simp (disch:=omega) only[JO]
 .have w:Ko N 48 (l.map exB)=_:=Ub N 48 (l.map exB) (by omega) (by omega) hN (by rw[Dx];omega) (by unfold xsC at hb;omega);rw[w,Jr];rfl
theorem AoG:Z5 N (xsB l)=some (l,0):=by
 have hl:=h.len;have hb:=xs_len h hN;have hB:=Sp.JD 48 (xsC l);have h1:=bP 48 (xsC l) (by decide) (by decide) (by omega);have h2:=(AoI h hN (d:=0) (by decide)).list;have h4:=Oi N (xsC l);rw[h2]at h4;have hlm:(l.map exE).length=l.length:=Dx _;have h5:RJ N (xsB l)=some (JQ 48 (xsC l),0):=by rw[V3 N _ (by omega) (by unfold xsB;omega)];exact congrArg some h1
 unfold Z5;try simp only[clR]
 rw[h5,Jr];dsimp only[JQ];simp (disch:=omega) only[JO,h4];refine(QC (mk:=fun i acc=>((i:Int),acc)) (l.map exE) (0,[],[]) (fun e=>((QB N e).getD default).1) (fun acc=>Jq (WJ N acc) fun r=>bif r != 0 then some ([],r)else some (acc,0)) ?_ ?_ N).trans ?_
 .intro i acc hi ha k;rw[hlm]at hi;have hr:=AeW hN (h.all _ (getD_mem zX hi));have hg:(l.map exE).getD i (0,[],[])=exE (l.getD i zX):=by rw[getD_lt _ _ _ (by rw[hlm];exact hi),Fa,getD_lt l i zX hi]
  simp (disch:=omega) only[JO,hg,hlm,hr,LC,Option.getD_some];try rfl
 .intro acc k ha;simp (disch:=omega) only[JO,hlm]
 .have e:(l.map exE).map (fun e=>((QB N e).getD default).1)=l:=by
   rw[EO];refine(Ej fun x hx=> ?_).trans (Gq l);show((QB N (exE x)).getD default).1=_;rw[AeW hN (h.all x hx)];rfl
  rw[e,Aiv h hN];rfl
end
def aut (k:Nat):List (List MF):=(QU 300 (k:Int)).getD []
def AsP (M k:Nat):Bool:=QU (M+300) (k:Int)==some (aut k)&&(decide ((aut k).length<=3)&&((aut k).all (fun r=>NP.contains r)&&(!(aut k).isEmpty&&(nmC (aut k)==aut k))))
def Ars (M:Nat):(List.range 16).all (AsP M)=true:=by kernel_rfl
structure Aus (N k:Nat):Prop where
 made:QU N (k:Int)=some (aut k)
 ok:okN (aut k)
 ne:aut k≠ []
 C:nmC (aut k)=aut k
def AmE {N:Nat} (hN:1048578<N) {k:Nat} (h:k<16):Aus N k:=by obtain⟨M,rfl⟩:=ofM hN;have h:=D7.1 (Ars M) k (ER.2 h);unfold AsP at h;simp only[Dq,EK,D7,DJ,FT,Ef,List.isEmpty_eq_false_iff,ER]at h;obtain⟨h1,h2,h3,h4,h5⟩:=h;exact⟨h1,⟨h2,h3⟩,h4,h5⟩
abbrev En:Type:=Int×Int×Int×Int×Nat
abbrev En.k (e:En):Nat:=e.2.2.2.2
abbrev En.re (e:En):Int:=e.2.2.1
abbrev En.iv (e:En):Int:=e.2.2.2.1
abbrev Ey:Type:=Int×Int×Int×Int×List (List MF)
def enY (e:En):Ey:=(e.1,e.2.1,e.re,e.iv,aut e.k)
def reL:List Int:=[0,1,2,3,4,5,6,8,9,10]
structure OkE (base:Int) (ind:Bool) (p:Nat) (e:En):Prop where
 s0:1<=e.1
 s1:e.1<=9
 ti:e.2.1∈Adu
 re:e.re∈reL
 r8:e.re=8->base≠ -1
 iv:e.iv= -1\/e.iv∈Adu
 k:e.k<16
 is:ind=true\/e.k % 8=p % 8
def UZ (N:Nat) (b:Bool) (s:Bs):JZ N b s 0=some (s,b):=by rw[AjA];simp
def isB (k:Nat):Bs:=Sp.elem 48 (KW (4,[],aut k))
def AjW {n:List (List MF)} (h:okN n):okG (4,[],n):=Or.inr ⟨n,h,rfl⟩
section
variable {N:Nat} (hN:1048578<N) {base:Int} {ind:Bool} {p q:Nat} {e:En} (h:OkE base ind q e)
include hN
include h
end
structure UL (l:List PtL):Prop where
 ne:l≠ []
 len:l.length<=3
 all: ∀ p∈l,okP p
def psC (l:List PtL):Bs:=(l.map ptB).flatten
def psB (l:List PtL):Bs:=Sp.elem 48 (psC l)
def zPt:PtL:=([],0,false,[])
section
variable {N:Nat} (hN:1048578<N) {l:List PtL} (h:UL l)
include hN h
theorem xA:(psC l).length<=6015:=by
 have:=MK (g:=ptB) (M:=2005) (l:=l) fun p hp=>by have h1:=(oQ hN (h.all p hp)).len;have:=Sp.JD 48 (ptC p);show(Sp.elem 48 (ptC p)).length<=_;omega
 have:=h.len;unfold psC;omega
theorem Aot {d:Nat} (hd:d<=2):Par d (psC l) (l.map ptE):=WR fun p hp=>(oQ hN (h.all p hp)).par d hd
theorem Asf:Fine (48,psC l):=(MC (by decide) (by decide) (by have:=xA hN h;omega))
theorem Aos:Sp.chk (psB l)=0:=AaL (Asf hN h) fun _=>(Aot hN h (by decide)).nest
theorem Aoh:UL (l.map ptK):=⟨fun e=>h.ne (Fq.1 e),by rw[Dx];exact h.len,fun q hq=>by obtain⟨p,hp,rfl⟩:=DF.1 hq;exact(oQ hN (h.all p hp)).okK⟩
theorem Au9:psB (l.map ptK)=psB l:=by unfold psB psC;rw[EO];congr 2;exact Ej fun p hp=>(oQ hN (h.all p hp)).AgO
theorem Abp:KQ N l=some 0:=by
 have h3:=h.len;unfold KQ;try simp only[clR]
 simp (disch:=omega) only[JO];refine MZ (fun i=>(i:Int)) l.length _ ?_ ?_ N
 .intro i hi k;have e:=(oQ hN (h.all _ (getD_mem zPt hi))).chk;unfold zPt at *
  simp (disch:=omega) only[JO,e,LC];try rfl
 .intro k;simp (disch:=omega) only[JO]
theorem Afp:OT N l=some (psB l,0):=by
 have h3:=h.len;have hpos:=EW.2 h.ne;have hl:=xA hN h;unfold OT;try simp only[clR]
 rw[Abp hN h,ZW (by omega),cond_false,Jr,show((0:Int) != 0)=false from rfl,cond_false];refine(QC (mk:=fun i a=>((i:Int),false,a)) l zPt ptB (fun a=>Jq (JS N false a) fun r88=>Jq (N7 N r88.snd) fun r90=>bif r90.fst then some ([],2)else some (r88.fst,0)) ?_ ?_ N).trans ?_
 .intro i a hi ha k;have hp:=h.all _ (getD_mem zPt hi);have hP:=oQ hN hp;unfold zPt at *
  dsimp only[U3];rw[Int.toNat_natCast];generalize l.getD i ([],0,false,[])=p at *
  have hlen:=hP.len;unfold ptB;obtain⟨gs,r,b,n⟩:=p;obtain⟨⟨g,hg,hgs⟩,hr,hi'⟩:=hp;dsimp only at hgs hr hi';subst hgs;have l1: [g].length=1:=rfl;have hle:=TN hN (gs1 hg);have e1:=Sp.JD 160 (KH [g]);have ge:=Aal hN (gs1 hg) (by simp);have w1:JB N false 160 [KH [g]]=_:=V5 N 160 false [KH [g]] (by omega) (by omega) hN (by simp) (by rw[KJ];omega);have w2:JB N false 160 [Sp.elem 160 (KH [g])]=_:=V5 N 160 false [Sp.elem 160 (KH [g])] (by omega) (by omega) hN (by simp) (by rw[KJ];omega);rw[KJ]at w1 w2
  have hf:(r=0/\flT 129 r=[])\/(r≠0/\flT 129 r=Sp.elem 129 (Og r)/\Ol N r=some (Og r,0)/\JB N false 129 [Og r]=some (Sp.elem 129 (Og r),false)):=by
   rcases hr with rfl | hr
   .exact Or.inl ⟨rfl,rfl⟩
   .have R:=XG hN hr;refine Or.inr ⟨R.ne,by unfold flT;rw[jC R.ne];rfl,R.put,?_⟩;have w3:JB N false 129 [Og r]=_:=V5 N 129 false [Og r] (by omega) (by omega) hN (by simp) (by rw[KJ];have:=R.len;omega);rw[KJ]at w3;exact w3
  have hw:(b=false/\n=[]/\piT ([g],r,b,n)=[])\/(b=true/\piT ([g],r,b,n)=Sp.elem 162 (KW (4,[],n))/\MS N (4,[],n) false=some (KW (4,[],n),0)/\JB N false 162 [KW (4,[],n)]=some (Sp.elem 162 (KW (4,[],n)),false)):=by
   rcases hi' with ⟨rfl,rfl⟩ | ⟨rfl,hn,_⟩
   .exact Or.inl ⟨rfl,rfl,rfl⟩
   .have G:=VS hN (AjW hn);have:=dW hN (AjW hn);have w4:JB N false 162 [KW (4,[],n)]=_:=V5 N 162 false [KW (4,[],n)] (by omega) (by omega) hN (by simp) (by rw[KJ];omega);rw[KJ]at w4;exact Or.inr ⟨rfl,rfl,G.enc,w4⟩
  have wS:JS N false [Sp.elem 160 (Sp.elem 160 (KH [g])),flT 129 r,piT ([g],r,b,n)]=some (Sp.elem 48 (ptC ([g],r,b,n)),false):=by rw[AbC N false _ (by show 3<N;omega) (by show 3<=_;omega),kN,WX (by unfold ptC at hlen;dsimp only at hlen;omega)];rfl
  clear hP hlen;have fin: ∀(x:Bool×List Bs×List Bs),x=(false,[Sp.elem 160 (Sp.elem 160 (KH [g])),flT 129 r,piT ([g],r,b,n)],a)->U3 (fun b38144_0d l39936d l1012288d=>Jq (JS N b38144_0d l39936d) fun r82=>Vm.chk (decide ((l1012288d.length+1)*17<=140737488355328)) (k (i64.wrap ((i:Int)+1),r82.snd,l1012288d++[r82.fst]))) x=k (((i+1:Nat):Int),false,a++[Sp.elem 48 (ptC ([g],r,b,n))]):=by intro x hx;subst hx;dsimp only[U3];rw[wS,Jr];simp (disch:=omega) only[JO,LC]
  rw[AqL (show(i:Int)<(l.length:Int) by omega),cond_true,AqK (by omega),LG,LG];simp only[Ou];have step1: ∀(J:List GnL×Int×Bool×List (List MF)×Bool×List Bs×List Bs->Option (Bs×Int)),(bif decide ((([g]:List GnL).length:Int)>0)then Jq (PY N [g]) fun r39=>Jq (JZ N false r39.fst r39.snd) fun r42=>Jq (JB N r42.snd 160 [r42.fst]) fun r44=>Jq (JB N r44.snd 160 [r44.fst]) fun r46=>J ([g],r,b,n,r46.snd,[r46.fst,[],[]],a)else J ([g],r,b,n,false,[[],[],[]],a))=J ([g],r,b,n,false,[Sp.elem 160 (Sp.elem 160 (KH [g])),[],[]],a):=by intro J;rw[show decide ((([g]:List GnL).length:Int)>0)=true from rfl,cond_true,ge,Jr,UZ,Jr];show Jq (JB N false 160 [KH [g]]) _=_;rw[w1,Jr];show Jq (JB N false 160 [Sp.elem 160 (KH [g])]) _=_;rw[w2,Jr]
  refine(step1 _).trans ?_;dsimp only[U7]
  have last: ∀ x:Bs,x=flT 129 r->(bif b then Jq (MS N (4,[],n) false) fun r72=>Jq (JZ N false r72.fst r72.snd) fun r75=>Jq (JB N r75.snd 162 [r75.fst]) fun r77=>Vm.chk (decide (2<(([Sp.elem 160 (Sp.elem 160 (KH [g])),x,[]]:List Bs).length:Int))) (Vm.chk (decide (2<([Sp.elem 160 (Sp.elem 160 (KH [g])),x,[]]:List Bs).length)) (U3 (fun b38144_0d l39936d l1012288d=>Jq (JS N b38144_0d l39936d) fun r82=>Vm.chk (decide ((l1012288d.length+1)*17<=140737488355328)) (k (i64.wrap ((i:Int)+1),r82.snd,l1012288d++[r82.fst]))) (r77.snd,([Sp.elem 160 (Sp.elem 160 (KH [g])),x,[]]:List Bs).set 2 r77.fst,a)))else U3 (fun b38144_0d l39936d l1012288d=>Jq (JS N b38144_0d l39936d) fun r82=>Vm.chk (decide ((l1012288d.length+1)*17<=140737488355328)) (k (i64.wrap ((i:Int)+1),r82.snd,l1012288d++[r82.fst]))) (false,[Sp.elem 160 (Sp.elem 160 (KH [g])),x,[]],a))=k (((i+1:Nat):Int),false,a++[Sp.elem 48 (ptC ([g],r,b,n))]):=by
   intro x hx;subst hx;rcases hw with ⟨rfl,_,hw⟩ | ⟨rfl,hw,hw1,hw2⟩
   .rw[cond_false];exact fin _ (by rw[hw])
   .rw[cond_true,hw1,Jr,UZ,Jr];show Jq (JB N false 162 [KW (4,[],n)]) _=_;rw[hw2,Jr];exact fin _ (by rw[hw];rfl)
  rcases hf with ⟨hr0,hf⟩ | ⟨hne,hf,hf1,hf2⟩
  .rw[Xb hr0,cond_false];exact last [] hf.symm
  .rw[jC hne,cond_true,hf1,Jr,UZ,Jr];show Jq (JB N false 129 [Og r]) _=_;rw[hf2,Jr];exact last (Sp.elem 129 (Og r)) hf.symm
 .intro a k ha;simp (disch:=omega) only[JO]
 .rw[AbC N false _ (by rw[Dx];omega) (by rw[Dx];omega),Jr,WX (by unfold psC at hl;omega)];rfl
end
def yM {N:Nat} (hN:1048578<N) {t:Nat} {c:Bs} {es:List El} (ht:t<256) (h31:t % 32≠31) (hc:c.length<=131072) (he:VU c=(es,0)):QA N (Sp.elem t c) (t:Int)=some (.inl (es,0)):=by have hB:=Sp.JD t c;have h1:=Oi N c;rw[he]at h1;unfold QA Qi;rw[mZ N _ t hN (by omega),wP t c ht h31 hc,Jr];show PE (Jq (NI N c) _) _ _=_;rw[h1];rfl
def AkE (e:El) (r:List El):J6 (e::r) 1 (e::r).length=r:=by show((e::r).take (e::r).length).drop 1=r;rw[EI];rfl
def Am6 (N:Nat) (e:El) (r:List El):Tn N (e::r)=some (e,0,r):=by
 have h2:decide ((0:Int)<((e::r).length:Int))=true:=Dk (by simp only[List.length_cons];omega);have h3:decide ((1:Int)<=((e::r).length:Int))=true:=Dk (by simp only[List.length_cons];omega);have h4:(((e::r).length:Int)==(0:Int))=false:=by simp;omega
 unfold Tn;try simp -zeta only[Aq]
 rw[h2,h3,h4,AkE];rfl
def WG {N:Nat} (t:Nat) (c:Bs) (r:List El) {k:Int} (h:(t:Int)=k):LX N (JQ t c::r) k=some (JQ t c,0,r):=by
 have h1:decide (((JQ t c::r).length:Int)>(0:Int))=true:=Dk (by simp only[List.length_cons];omega);have h5:(((JQ t c::r).getD 0 (0,[],[])).1 != k)=false:=by show((t:Int) != k)=false;rw[h];simp
 unfold LX;try simp -zeta only[Aq]
 rw[h1,h5,Am6];rfl
def vO {N:Nat} (hN:1048578<N) {c:Bs} {es r:List El} (hc:c.length<=131072) (he:VU c=(es,0)):MB N (JQ 48 c::r)=some (.inl (es,0,r)):=by have h1:=Oi N c;rw[he]at h1;unfold MB;rw[WG 48 c r (k:=48) rfl,Jr];show PE (Qi N c) _ _=_;unfold Qi;rw[h1];rfl
def Afo {N:Nat} (hN:1048578<N) {l:List PtL} (h:UL l):OQ N (psB l)=some (l.map ptK,0):=by
 have h3:=h.len;have hpos:=EW.2 h.ne;have hl:=xA hN h;have ho:QA N (psB l) 48=some (.inl (l.map ptE,0)):=yM hN (by omega) (by omega) (by omega) (Aot hN h (d:=0) (by decide)).list;have hlm:(l.map ptE).length=l.length:=Dx _;unfold OQ;try simp only[clR]
 rw[ho,Nk];unfold KL;dsimp only;simp (disch:=omega) only[JO,hlm,Es];refine(MZ (fun i=>((l.map ptE).drop i,(l.take i).map ptK)) l.length (Jq (KQ N (l.map ptK)) fun r=>bif r != 0 then some ([],r)else some (l.map ptK,0)) ?_ ?_ N).trans ?_
 .intro i hi k;have hp:=h.all _ (getD_mem zPt hi);have P:=oQ hN hp;have e1:(l.map ptE).drop i=ptE (l.getD i zPt)::(l.map ptE).drop (i+1):=by rw[Et (by rw[hlm];exact hi),Fa,getD_lt l i zPt hi]
  have e2:(l.take i).map ptK++[ptK (l.getD i zPt)]=(l.take (i+1)).map ptK:=by rw[FI,D9 hi,EY,getD_lt l i zPt hi];rfl
  have e3:MB N (ptE (l.getD i zPt)::(l.map ptE).drop (i+1))=_:=vO hN (c:=ptC (l.getD i zPt)) (r:=(l.map ptE).drop (i+1)) (by have:=P.len;omega) P.els;have e4:((l.take i).map ptK).length=i:=by rw[Dx,Ea];omega
  dsimp only[U2];rw[e1];have e5:((ptE (l.getD i zPt)::(l.map ptE).drop (i+1)).length:Int)=((l.length - i:Nat):Int):=by rw[List.length_cons,Ew,hlm];omega
  have e6:=P.dec;rw[e5,AqJ (by omega),cond_true];rw[e3,Nk];simp (disch:=omega) only[JO,e6,e4,e2,Es];try rfl
 .intro k;have e1:(l.map ptE).drop l.length=[]:=by rw[<- hlm,FO]
  have e2:(l.take l.length).map ptK=l.map ptK:=by rw[EI]
  dsimp only[U2];rw[e1,e2];rfl
 .rw[Abp hN (Aoh hN h)];rfl
abbrev Sc:Type:=List GnL×Bool×Bool×Int×Bool
def zSc:Sc:=([],false,false,0,false)
structure AsC (s:Sc):Prop where
 ns:AhJ s.1
 re:okR s.2.2.2.1
 sh:(s.2.1=true/\s.2.2.1=false/\s.1=[])\/(s.2.1=false/\s.2.2.1=true/\s.1=[])\/(s.2.1=false/\s.2.2.1=false/\s.1≠ [])
section
variable {N:Nat} (hN:1048578<N)
include hN
variable {s:Sc} (h:AsC s)
include h
end
structure Li:Type where
 k:Nat
 this:Int
 next:Int
 num:Int
 base:Int
 ak:Bs
 hs:Bool
 s:Sc
 fr:List PtL
 es:List En
def akV:Bs:=[102,101,100,99,98,97,57,56,55,54,53,52,51,50,49,48]
abbrev Ly:Type:=Bs×Bs×List (List MF)×Int×Int×Int×Int×Bs×Bool×List GnL×Bool×Bool×Int×Bool×List PtL×List Ey×Bs
def Li.y (x:Li) (raw tbs sig:Bs):Ly:=(raw,tbs,aut x.k,x.this,x.next,x.num,x.base,x.ak,x.hs,x.s.1,x.s.2.1,x.s.2.2.1,x.s.2.2.2.1,x.s.2.2.2.2,x.fr,x.es.map enY,sig)
structure OkL (x:Li):Prop where
 k:x.k<16
 th:x.this∈Adu
 nx:x.next∈Adu
 le:x.this<=x.next
 n0:1<=x.num
 n1:x.num<=200
 b:x.base= -1\/(0<=x.base/\x.base<x.num)
 ak:x.ak=[]\/x.ak=akV
 sc:(x.hs=false/\x.s=zSc)\/(x.hs=true/\AsC x.s)
 fr:x.fr=[]\/(x.base= -1/\UL x.fr)
 len:x.es.length<=5
 all: ∀ e∈x.es,OkE x.base x.s.2.2.2.2 x.k e
 nd:x.es.Pairwise fun a b=> ¬(a.1=b.1/\a.k % 8=b.k % 8)
def Att {α β :Type} (f: α -> β) (l:List α) (d: α) (c: β) {i:Nat} (h:i<l.length):(l.map f).getD i c=f (l.getD i d):=by rw[getD_lt _ _ _ (by rw[Dx];exact h),Fa,getD_lt l i d h]
section
variable {N:Nat} (hN:1048578<N)
include hN
variable {x:Li} (h:OkL x)
include h
omit hN in
omit hN in
variable (raw tbs sig:Bs)
end
def Wx {α :Type} {P: α ->Prop} {l:List α} {x: α} (h: ∀ y∈l,P y) (hx:P x): ∀ y∈l++[x],P y:=by
 intro y hy;rcases DU.1 hy with hy | hy
 .exact h y hy
 .rw[Eh.1 hy];exact hx
def Ends {α :Type} (Q: α ->Prop) (o:Option α):Prop:= ∃ v,o=some v/\Q v
def Kv {α :Type} {Q: α ->Prop} {v: α} (h:Q v):Ends Q (some v):=⟨v,rfl,h⟩
def JA {α ρ :Type} [Inhabited α] {P: α ->Prop} {Q: ρ ->Prop} {o:Option α} {k: α ->Option ρ} (h:Ends P o) (hk: ∀ v,P v->Ends Q (k v)):Ends Q (Jq o k):=by obtain⟨v,rfl,hv⟩:=h;exact hk v hv
def Jz {ρ :Type} {Q: ρ ->Prop} {c:Bool} {k:Option ρ} (h:c=true) (hk:Ends Q k):Ends Q (Vm.chk c k):=by rw[h];exact hk
def JH {ρ :Type} {Q: ρ ->Prop} {c:Bool} {x y:Option ρ} (h1:c=true->Ends Q x) (h2:c=false->Ends Q y):Ends Q (bif c then x else y):=by
 cases c with
 | true=>exact h1 rfl
 | false=>exact h2 rfl
def dY {α ρ :Type} {P: α ->Prop} {Q: ρ ->Prop} {A:(α ->Option ρ)->Option ρ} {f: α ->Option ρ} (hA: ∀ j: α ->Option ρ,(∀ x,P x->Ends Q (j x))->Ends Q (A j)) (hf: ∀ x,P x->Ends Q (f x)):Ends Q (Ou A f):=hA f hf
def KT {X Y ρ :Type} {B:X->(X->Option ρ)->(Y->Option ρ)->Option ρ} {kx:Y->Option ρ} {Q: ρ ->Prop} (I:X->Prop) (μ :X->Nat)
 (h: ∀ x,I x-> ∀ k:X->Option ρ,(∀ x',I x'-> μ x'< μ x->Ends Q (k x'))->Ends Q (B x k kx)) (N:Nat) (x:X) (hI:I x) (hm: μ x<N:=by omega):Ends Q (J4 B N x kx):=RZ I μ (Ends Q) h N x hI hm
def KN (L:List Int) (d:List Int×Int):Prop:= ∃ k:Nat,d=(L,(k:Int))/\k<=L.length
def AnV (N:Nat) {L:List Int} (hL:L.length<=9223372036854775807) {d:List Int×Int} (hd:KN L d) (n:Nat) (hn:0<n) (hn':n<2147483648) :
 Ends (fun r=>0<=r.1/\r.1<(n:Int)/\KN L r.2) (JG N d (n:Int)):=by
 obtain⟨k,rfl,hk⟩:=hd;unfold JG;try simp -zeta only[Aq]
 try dsimp only
 by_cases h:k<L.length
 .rw[jB,AvH,w64 (x:=(k:Int)+1),w64 (x:=(k:Int)+1 - 1),uM,AvI,uM,AvI];generalize L.getD _ _=x;have hne:((n:Int) != 0)=true:=by simp;omega
  rw[hne,LG,LG];have h1:=I8 x (show(0:Int)<(n:Int) by omega);have h2: -(n:Int)<x.tmod (n:Int):=Int.lt_tmod_of_pos x (by omega);rw[w64 (x:=x.tmod (n:Int)+(n:Int))];have h3:0<=(x.tmod (n:Int)+(n:Int)).tmod (n:Int):=Int.tmod_nonneg _ (by omega);have h4:=I8 (x.tmod (n:Int)+(n:Int)) (show(0:Int)<(n:Int) by omega);refine⟨_,rfl,h3,h4,k+1,by rw[show((k+1:Nat):Int)=(k:Int)+1 by omega],h⟩
 .rw[jB,AvI];exact⟨_,rfl,EM _,by show(0:Int)<n;omega,k,rfl,hk⟩
def QE {α :Type} {P: α ->Prop} {l:List α} {d: α} {i:Int} (h: ∀ x∈l,P x) (h0:0<=i) (hi:i<(l.length:Int)):P (l.getD i.toNat d):=h _ (getD_mem d (by omega))
section
variable (N:Nat) (hN:1048578<N) {L:List Int} (hL:L.length<=9223372036854775807)
include hL
theorem nx {d:List Int×Int} (hd:KN L d) (n:Int) (h0:0<n:=by omega) (h1:n<2147483648:=by omega):Ends (fun r=>0<=r.1/\r.1<n/\KN L r.2) (JG N d n):=by
 have:=AnV N hL hd n.toNat (by omega) (by omega)
 rw[show((n.toNat:Nat):Int)=n by omega]at this;exact this
end
section
variable (N:Nat) (hN:1048578<N) {L:List Int} (hL:L.length<=9223372036854775807)
include hL
omit hL in
theorem AlB {a:MF} (h:a∈Yz): [a]∈NP:=DD _ (DD _ (DF.2 ⟨a,h,rfl⟩))
omit hL in
theorem ApM {a b:MF} (h:a∈Yz) (hb:b∈Yz) (hn:b.1≠a.1): [a,b]∈NP :=
 DD _ (DC _ (DX.2 ⟨a,h,DF.2 ⟨b,IZ.2 ⟨hb,by simpa using Ne.symm hn⟩,rfl⟩⟩))
theorem AgC {d:List Int×Int} (hd:KN L d):Ends (fun r=>r.1∈Yz/\KN L r.2) (Vr N d):=by
 unfold Vr;try simp -zeta only[Aq]
 refine JA (nx N hL hd 12) ?_;rintro ⟨r,d'⟩ ⟨h0,h1,h2⟩;dsimp only at h0 h1 h2 ⊢;refine Jz (by simp;omega) (Jz (by simp;omega) (Jz (by simp;omega) (Kv ⟨?_,h2⟩)));exact QE (P:=fun x=>x∈Yz) (fun x hx=>hx) h0 h1
include hN in
theorem Aeq {d:List Int×Int} (hd:KN L d):Ends (fun r=>okN r.1/\KN L r.2) (WN N d):=by
 unfold WN;try simp only[clR]
 refine JA (nx N hL hd 4) ?_;rintro ⟨r,d1,d2⟩ ⟨h0,h1,h2⟩;dsimp only at h0 h1 h2 ⊢;refine KT (fun x=>0<=x.1/\x.1<4/\KN L (x.2.1,x.2.2.1)/\((x.2.2.2.length:Int)+x.1<=3)/\ ∀ r∈x.2.2.2,r∈NP) (fun x=>x.1.toNat) ?_ N _ ⟨h0,h1,h2,by simp;omega,fun r hr=>by cases hr⟩ (by dsimp only;omega);rintro ⟨t,a,b,acc⟩ ⟨g0,g1,g2,g3,g4⟩ k hk;dsimp only[U4]at g0 g1 g2 g3 g4 ⊢;refine JH (fun ht=> ?_) (fun _=> ?_)
 .have ht:=D5 ht;refine JA (nx N hL g2 5) ?_;rintro ⟨r,e1,e2⟩ ⟨f0,f1,f2⟩;dsimp only at f0 f1 f2 ⊢
  have hw:i64.wrap (1+i64.wrap (r.tdiv 4))<=2/\1<=i64.wrap (1+i64.wrap (r.tdiv 4)):=by
   have:r=0\/r=1\/r=2\/r=3\/r=4:=by omega
   rcases this with rfl | rfl | rfl | rfl | rfl<;>decide
  refine KT (fun x=>0<=x.1/\x.1<=2/\KN L (x.2.1,x.2.2.1)/\((x.2.2.2.1.length:Int)+x.1<=2)/\((x.2.2.2.1=[]/\1<=x.1)\/(∃ y∈Yz,x.2.2.2.1=[y])\/(x.2.2.2.1.length=2/\x.2.2.2.1∈NP))/\x.2.2.2.2=acc) (fun x=>x.1.toNat) ?_ N _ ⟨by dsimp only;omega,hw.1,f2,by simp;omega,Or.inl ⟨rfl,hw.2⟩,rfl⟩ (by dsimp only;omega);rintro ⟨t',a',b',acc',out⟩ ⟨p0,p1,p2,p3,p4,p5⟩ k' hk';dsimp only[U5]at p0 p1 p2 p3 p4 p5 ⊢;subst p5;refine JH (fun ht'=> ?_) (fun ht'=> ?_)
  .have ht':=D5 ht';refine JA (AgC N hL p2) ?_;rintro ⟨r,q1,q2⟩ ⟨z0,z1⟩;dsimp only at z0 z1 ⊢
   have taut:(decide ((0:Int)<(acc'.length:Int))||((acc'.length:Nat):Int)==0)=true:=by
    cases acc' with
    | nil=>rfl
    | cons x y=>rw[Dk (by rw[List.length_cons];omega)];rfl
   have Agw:(decide (0<acc'.length)||((acc'.length:Nat):Int)==0)=true:=by
    cases acc' with
    | nil=>rfl
    | cons x y=>rw[Dk (by rw[List.length_cons];omega)];rfl
   refine Jz (by first | exact taut | exact Agw) (Jz (by first | exact taut | exact Agw) (Jz (by first | exact taut | exact Agw) ?_))
   have p4':acc'=[]\/ ∃ y∈Yz,acc'=[y]:=by
    rcases p4 with ⟨h,_⟩ | h | ⟨h,_⟩
    .exact Or.inl h
    .exact Or.inr h
    .rw[h]at p3;omega
   refine JH (fun hc=> ?_) (fun hc=> ?_)
   .refine Jz (Dk) (hk' _ ⟨?_,?_,z1,?_,?_,rfl⟩ ?_)
    .dsimp only;rw[w64];omega
    .dsimp only;rw[w64];omega
    .dsimp only;rw[w64,Dv];simp;omega
    .dsimp only;rcases p4' with rfl | ⟨y,hy,rfl⟩
     .exact Or.inr (Or.inl ⟨r,z0,rfl⟩)
     .refine Or.inr (Or.inr ⟨rfl,ApM hy z0 fun e=> ?_⟩);rw[e]at hc;simp at hc
    .dsimp only;rw[w64];omega
   .refine hk' _ ⟨?_,?_,z1,?_,?_,rfl⟩ ?_
    .dsimp only;rw[w64];omega
    .dsimp only;rw[w64];omega
    .dsimp only;rw[w64];omega
    .dsimp only;rcases p4' with rfl | h
     .simp at hc
     .exact Or.inr (Or.inl h)
    .dsimp only;rw[w64];omega
  .have ht':=EN ht';dsimp only[U4]
   have hin:acc'∈NP:=by
    rcases p4 with ⟨_,h⟩ | ⟨y,hy,rfl⟩ | ⟨_,h⟩
    .omega
    .exact AlB hy
    .exact h
   refine Jz (Dk) (hk _ ⟨?_,?_,p2,?_,Wx g4 hin⟩ ?_)
   .dsimp only;rw[w64];omega
   .dsimp only;rw[w64];omega
   .dsimp only;rw[w64,Dv];simp;omega
   .dsimp only;rw[w64];omega
 .dsimp only[U3];exact Kv ⟨⟨by dsimp only;omega,g4⟩,g2⟩
include hN hL
theorem nM {d:List Int×Int} (hd:KN L d):Ends (fun r=>okG r.1/\KN L r.2) (TA N d):=by
 have hT: ∀(l:List Bs) (k:Int),l.all (fun s=>Adt.contains (k,s,[]))=true-> ∀ s∈l,okG (k,s,[]):=fun l k h s hs=>Or.inl (FT.1 (D7.1 h s hs));unfold TA;try simp only[clR]
 refine JA (nx N hL hd 4) ?_;rintro ⟨r,d'⟩ ⟨h0,h1,h2⟩;dsimp only at h0 h1 h2 ⊢;refine JH (fun _=> ?_) (fun _=>JH (fun _=> ?_) (fun _=>JH (fun _=> ?_) (fun _=> ?_)))
 .refine JA (nx N hL h2 6) ?_;rintro ⟨r,d'⟩ ⟨h0,h1,h2⟩;dsimp only at h0 h1 h2 ⊢;refine Jz (Dk) (Jz (Dk) (Jz (Dk) (Kv ⟨QE (P:=fun s=>okG (1,s,[])) (hT _ 1 (by kernel_rfl)) h0 h1,h2⟩)))
 .refine JA (nx N hL h2 7) ?_;rintro ⟨r,d'⟩ ⟨h0,h1,h2⟩;dsimp only at h0 h1 h2 ⊢;refine Jz (Dk) (Jz (Dk) (Jz (Dk) (Kv ⟨QE (P:=fun s=>okG (2,s,[])) (hT _ 2 (by kernel_rfl)) h0 h1,h2⟩)))
 .refine JA (nx N hL h2 4) ?_;rintro ⟨r,d'⟩ ⟨h0,h1,h2⟩;dsimp only at h0 h1 h2 ⊢;refine Jz (Dk) (Jz (Dk) (Jz (Dk) (Kv ⟨QE (P:=fun s=>okG (7,s,[])) (hT _ 7 (by kernel_rfl)) h0 h1,h2⟩)))
 .refine JA (Aeq N hN hL h2) ?_;rintro ⟨n,d'⟩ ⟨g0,g1⟩;exact Kv ⟨Or.inr ⟨n,g0,rfl⟩,g1⟩
omit hL in
theorem AgD {k:Int} (h0:0<=k) (h1:k<16):Ends (fun n=> ∃ j:Nat,j<16/\n=aut j) (QU N k):=by
 obtain⟨j,rfl⟩: ∃ j:Nat,k=j:=⟨k.toNat,by omega⟩
 exact⟨aut j,(AmE hN (by omega)).made,j,by omega,rfl⟩
theorem Afn {d:List Int×Int} (hd:KN L d):Ends (fun r=>UL r.1/\KN L r.2) (VJ N d):=by
 unfold VJ;try simp only[clR]
 refine JA (nx N hL hd 3) ?_;rintro ⟨r,d1,d2⟩ ⟨h0,h1,h2⟩;dsimp only at h0 h1 h2 ⊢;rw[w64];refine KT (fun x=>0<=x.1/\x.1<4/\KN L (x.2.1,x.2.2.1)/\((x.2.2.2.length:Int)+x.1<=3)/\(x.2.2.2=[]->1<=x.1)/\ ∀ p∈x.2.2.2,okP p) (fun x=>x.1.toNat) ?_ N _ ⟨by dsimp only;omega,by dsimp only;omega,h2,by simp;omega,(fun _=>by dsimp only;omega),(fun r hr=>by cases hr)⟩ (by dsimp only;omega);rintro ⟨t,a,b,acc⟩ ⟨g0,g1,g2,g3,g5,g4⟩ k hk;dsimp only[U4]at g0 g1 g2 g3 g4 g5 ⊢;refine JH (fun ht=> ?_) (fun ht=>by dsimp only[U3];exact Kv ⟨⟨fun e=>by have:=g5 e;have:=EN ht;omega,by dsimp only;omega,g4⟩,g2⟩);have ht:=D5 ht;refine JA (nM N hN hL g2) ?_;rintro ⟨g,e⟩ ⟨f0,f1⟩;refine JA (nx N hL f1 6) ?_;rintro ⟨r6,e1,e2⟩ ⟨c0,c1,c2⟩;dsimp only at c0 c1 c2 f0 ⊢;refine Jz (Dk) (Jz (Dk) (Jz (Dk) ?_));have hr: [(0:Int),0,510,2,64,384].getD r6.toNat 0=0\/ [(0:Int),0,510,2,64,384].getD r6.toNat 0∈Ae9:=QE (P:=fun x:Int=>x=0\/x∈Ae9) (by decide) c0 c1;refine dY (P:=fun x=>KN L (x.1,x.2.1)/\x.2.2.1=[(0:Int),0,510,2,64,384].getD r6.toNat 0/\((x.2.2.2.1=false/\x.2.2.2.2.1=[])\/(x.2.2.2.1=true/\okN x.2.2.2.2.1/\x.2.2.2.2.1≠ []))/\x.2.2.2.2.2.1=[g]/\x.2.2.2.2.2.2=acc) (fun j hj=> ?_) ?_
 .refine JA (nx N hL c2 3) ?_;rintro ⟨r3,q1,q2⟩ ⟨z0,z1,z2⟩;dsimp only at z0 z1 z2 ⊢;refine JH (fun _=> ?_) (fun _=>hj _ ⟨z2,rfl,Or.inl ⟨rfl,rfl⟩,rfl,rfl⟩);refine JA (nx N hL z2 16) ?_;rintro ⟨r3,q1,q2⟩ ⟨z0,z1,z2⟩;dsimp only at z0 z1 z2 ⊢;refine JA (AgD N hN z0 z1) ?_;rintro n ⟨i,hi,rfl⟩;have A:=AmE hN hi;exact hj _ ⟨z2,rfl,Or.inr ⟨rfl,A.ok,A.ne⟩,rfl,rfl⟩
 .rintro ⟨q1,q2,x1,x2,x3,x4,x5⟩ ⟨y1,y2,y3,y4,y5⟩;dsimp only[U7]at y1 y2 y3 y4 y5 ⊢;subst y2 y4 y5;refine Jz (Dk) (hk _ ⟨?_,?_,y1,?_,?_,Wx g4 ⟨⟨g,f0,rfl⟩,hr,y3⟩⟩ ?_)
  .grind[w64]
  .dsimp only;rw[w64];omega
  .dsimp only;rw[w64,Dv];simp;omega
  .intro e;simp at e
  .dsimp only;rw[w64];omega
end
abbrev Info:Type:=Bool×Bool×Int×Int×List Bs×List Bs×List (Bs×Bs)×Int×Int×Int×List GnL×Bool×List GnL×List GnL×Bs×Bs×List PtL×List PtL×List ExL
def Wy:List Bs:=[[49,46,50,46,51,46,49],[49,46,50,46,51,46,50],[49,46,50,46,51,46,51],[49,46,50,46,51,46,52],[49,46,50,46,51,46,53],[50,46,57,57,57,46,49],[50,46,57,57,57,46,50],[49,46,50,46,51],[50,46,53,46,50,57,46,51,50,46,48]]
def W9:List Bs:=[[49,46,51,46,54,46,49,46,53,46,53,46,55,46,51,46,49],[49,46,51,46,54,46,49,46,53,46,53,46,55,46,51,46,50],[49,46,51,46,54,46,49,46,53,46,53,46,55,46,51,46,51],[49,46,51,46,54,46,49,46,53,46,53,46,55,46,51,46,52],[50,46,53,46,50,57,46,51,55,46,48]]
def skL:List Bs:=[[],[48,49,50,51,52,53,54,55,56,57,97,98,99,100,101,102],[120]]
def akL:List Bs:=[[],[102,101,100,99,98,97,57,56,55,54,53,52,51,50,49,48]]
def AbJ:List GnL:=[[97,110,110,64,101,120,97,109,112,108,101,46,111,114,103],[101,120,97,109,112,108,101,46,111,114,103],[46,101,120,97,109,112,108,101,46,111,114,103],[69,88,65,77,80,76,69,46,111,114,103],[46,111,114,103],[111,114,103],[109,97,105,108,46,101,120,97,109,112,108,101,46,111,114,103]].map (fun s=>(1,s,[])) ++
 [[101,120,97,109,112,108,101,46,111,114,103],[119,119,119,46,101,120,97,109,112,108,101,46,111,114,103],[],[69,120,97,109,112,108,101,46,79,82,71],[111,114,103],[98],[97,46,98]].map (fun s=>(2,s,[])) ++
 [[10,0,0,0,255,0,0,0],[10,1,0,0,255,255,0,0],[0,0,0,0,0,0,0,0],[10,1,2,3,255,255,255,255],[32,1,0,0,0,0,0,0,0,0,0,0,0,0,0,0,255,255,0,0,0,0,0,0,0,0,0,0,0,0,0,0]].map (fun s=>(7,s,[]))
def okB (g:GnL):Prop:=g∈AbJ\/ ∃ n,okN n/\g=(4,[],n)
structure okS (s:List GnL×List GnL):Prop where
 l0:s.1.length<=3
 l1:s.2.length<=3
 ne:s.1≠ []\/s.2≠ []
 a0: ∀ g∈s.1,okB g
 a1: ∀ g∈s.2,okB g
def fJ:List (Bool×Int):=[(true,-1),(true,0),(true,1),(true,2),(true,3),(false,-1)]
def Xv:List Int:=[-1,0,1,2,3]
def unX (c:Bool):ExL:=([49,46,50,46,51,46,52,46,53],c,[5,0])
def unY:ExL:=([49,46,50,46,51,46,52,46,54],false,[48,3,2,1,7])
def unL:List (List ExL):=[[],[unX true],[unX false],[unX true,unY],[unX false,unY]]
structure eU (L l:List Bs):Prop where
 len:l.length<=3
 all: ∀ s∈l,s∈L
 nod:l.Nodup
structure AcQ (l:List (Bs×Bs)):Prop where
 len:l.length<=3
 all: ∀ m∈l,m.1∈Wy/\m.2∈Wy
 nod:l.Nodup
structure OkI (x:Info):Prop where
 bas:(x.1=true/\(x.2.1,x.2.2.1)∈fJ)\/(x.1=false/\x.2.1=false/\x.2.2.1= -1)
 us:0<=x.2.2.2.1/\x.2.2.2.1<=511
 pu:eU W9 x.2.2.2.2.1
 po:eU Wy x.2.2.2.2.2.1
 ma:AcQ x.2.2.2.2.2.2.1
 re:x.2.2.2.2.2.2.2.1∈Xv
 im:x.2.2.2.2.2.2.2.2.1∈Xv
 ia: -1<=x.2.2.2.2.2.2.2.2.2.1/\x.2.2.2.2.2.2.2.2.2.1<=64
 na:x.2.2.2.2.2.2.2.2.2.2.1.length<=2/\ ∀ g∈x.2.2.2.2.2.2.2.2.2.2.1,okG g
 con:(x.2.2.2.2.2.2.2.2.2.2.2.1=false/\x.2.2.2.2.2.2.2.2.2.2.2.2.1=[]/\x.2.2.2.2.2.2.2.2.2.2.2.2.2.1=[])\/(x.2.2.2.2.2.2.2.2.2.2.2.1=true/\okS (x.2.2.2.2.2.2.2.2.2.2.2.2.1,x.2.2.2.2.2.2.2.2.2.2.2.2.2.1))
 sk:x.2.2.2.2.2.2.2.2.2.2.2.2.2.2.1∈skL
 ak:x.2.2.2.2.2.2.2.2.2.2.2.2.2.2.2.1∈akL
 pt:x.2.2.2.2.2.2.2.2.2.2.2.2.2.2.2.2.1=[]\/UL x.2.2.2.2.2.2.2.2.2.2.2.2.2.2.2.2.1
 fr:x.2.2.2.2.2.2.2.2.2.2.2.2.2.2.2.2.2.1=[]\/UL x.2.2.2.2.2.2.2.2.2.2.2.2.2.2.2.2.2.1
 un:x.2.2.2.2.2.2.2.2.2.2.2.2.2.2.2.2.2.2∈unL
section
variable (N:Nat) (hN:1048578<N) {L:List Int} (hL:L.length<=9223372036854775807)
include hN hL
theorem AdA {d:List Int×Int} (hd:KN L d):Ends (fun r=>okB r.1/\KN L r.2) (WM N d):=by
 have hT: ∀(l:List Bs) (k:Int),l.all (fun s=>AbJ.contains (k,s,[]))=true-> ∀ s∈l,okB (k,s,[]):=fun l k h s hs=>Or.inl (FT.1 (D7.1 h s hs));unfold WM;try simp only[clR]
 refine JA (nx N hL hd 4) ?_;rintro ⟨r,d'⟩ ⟨h0,h1,h2⟩;dsimp only at h0 h1 h2 ⊢;refine JH (fun _=> ?_) (fun _=>JH (fun _=> ?_) (fun _=>JH (fun _=> ?_) (fun _=> ?_)))
 .refine JA (nx N hL h2 7) ?_;rintro ⟨r,d'⟩ ⟨h0,h1,h2⟩;dsimp only at h0 h1 h2 ⊢;refine Jz (Dk) (Jz (Dk) (Jz (Dk) (Kv ⟨QE (P:=fun s=>okB (1,s,[])) (hT _ 1 (by kernel_rfl)) h0 h1,h2⟩)))
 .refine JA (nx N hL h2 7) ?_;rintro ⟨r,d'⟩ ⟨h0,h1,h2⟩;dsimp only at h0 h1 h2 ⊢;refine Jz (Dk) (Jz (Dk) (Jz (Dk) (Kv ⟨QE (P:=fun s=>okB (2,s,[])) (hT _ 2 (by kernel_rfl)) h0 h1,h2⟩)))
 .refine JA (nx N hL h2 5) ?_;rintro ⟨r,d'⟩ ⟨h0,h1,h2⟩;dsimp only at h0 h1 h2 ⊢;refine Jz (Dk) (Jz (Dk) (Jz (Dk) (Kv ⟨QE (P:=fun s=>okB (7,s,[])) (hT _ 7 (by kernel_rfl)) h0 h1,h2⟩)))
 .refine JA (Aeq N hN hL h2) ?_;rintro ⟨n,d'⟩ ⟨g0,g1⟩;exact Kv ⟨Or.inr ⟨n,g0,rfl⟩,g1⟩
theorem Ajz {d:List Int×Int} (hd:KN L d):Ends (fun r=>okS r.1/\KN L r.2) (VY N d):=by
 unfold VY;try simp only[clR]
 refine JA (nx N hL hd 4) ?_;rintro ⟨r,d1,d2⟩ ⟨h0,h1,h2⟩;dsimp only at h0 h1 h2 ⊢;refine KT (fun x=>0<=x.1/\x.1<4/\KN L (x.2.1,x.2.2.1)/\((x.2.2.2.length:Int)+x.1<=3)/\ ∀ g∈x.2.2.2,okB g) (fun x=>x.1.toNat) ?_ N _ ⟨h0,h1,h2,by simp;omega,(fun r hr=>by cases hr)⟩ (by dsimp only;omega);rintro ⟨t,a,b,acc⟩ ⟨g0,g1,g2,g3,g4⟩ k hk;dsimp only[U4]at g0 g1 g2 g3 g4 ⊢;refine JH (fun ht=> ?_) (fun _=> ?_)
 .have ht:=D5 ht;refine JA (AdA N hN hL g2) ?_;rintro ⟨g,e1,e2⟩ ⟨f0,f1⟩;dsimp only at f0 f1 ⊢;refine Jz (Dk) (hk _ ⟨?_,?_,f1,?_,Wx g4 f0⟩ ?_)
  .dsimp only;rw[w64];omega
  .dsimp only;rw[w64];omega
  .dsimp only;rw[w64,Dv];simp;omega
  .dsimp only;rw[w64];omega
 .dsimp only[U3];refine JA (nx N hL g2 3) ?_;rintro ⟨r,e1,e2⟩ ⟨f0,f1,f2⟩;dsimp only at f0 f1 f2 ⊢;refine KT (fun x=>0<=x.1/\x.1<3/\KN L (x.2.1,x.2.2.1)/\x.2.2.2.1=acc/\((x.2.2.2.2.length:Int)+x.1<=2)/\ ∀ g∈x.2.2.2.2,okB g) (fun x=>x.1.toNat) ?_ N _ ⟨f0,f1,f2,rfl,by simp;omega,(fun r hr=>by cases hr)⟩ (by dsimp only;omega);rintro ⟨t',a',b',acc',out⟩ ⟨p0,p1,p2,p3,p4,p5⟩ k' hk';dsimp only[U5]at p0 p1 p2 p3 p4 p5 ⊢;subst p3;refine JH (fun ht'=> ?_) (fun _=> ?_)
  .have ht':=D5 ht';refine JA (AdA N hN hL p2) ?_;rintro ⟨g,q1,q2⟩ ⟨z0,z1⟩;dsimp only at z0 z1 ⊢;refine Jz (Dk) (hk' _ ⟨?_,?_,z1,rfl,?_,Wx p5 z0⟩ ?_)
   .dsimp only;rw[w64];omega
   .dsimp only;rw[w64];omega
   .dsimp only;rw[w64,Dv];simp;omega
   .dsimp only;rw[w64];omega
  .dsimp only[U4];refine JH (fun _=> ?_) (fun hc=>Kv ⟨⟨by dsimp only;omega,by dsimp only;omega,?_,g4,p5⟩,p2⟩)
   .refine JA (AdA N hN hL p2) ?_;rintro ⟨g,q1,q2⟩ ⟨z0,z1⟩;dsimp only at z0 z1 ⊢;refine Jz (Dk) (Kv ⟨⟨by dsimp only;omega,?_,Or.inr (by simp),g4,Wx p5 z0⟩,z1⟩);dsimp only;rw[Dv];simp;omega
   .dsimp only;by_cases e1:acc'=[]
    .refine Or.inr fun e2=> ?_;subst e1 e2;cases hc
    .exact Or.inl e1
end
section
variable (N:Nat) (hN:1048578<N) {L:List Int} (hL:L.length<=9223372036854775807)
theorem wW {k:Int} (h0:0<=k) (h1:k<9):Ends (fun s=>s∈Wy) (Ul N k):=by
 unfold Ul;try simp -zeta only[Aq]
 have h:k.tmod 9=k:=by
  have:k=0\/k=1\/k=2\/k=3\/k=4\/k=5\/k=6\/k=7\/k=8:=by omega
  rcases this with rfl | rfl | rfl | rfl | rfl | rfl | rfl | rfl | rfl<;>rfl
 rw[h];exact Jz (Dk) (Jz (Dk) (Jz (Dk) (Kv (QE (P:=fun s=>s∈Wy) (fun s hs=>hs) h0 h1))))
theorem take_any {α :Type} (p: α ->Bool) {l:List α} {i:Nat} (hi:i<l.length) (d: α):(l.take (i+1)).any p=((l.take i).any p||p (l.getD i d)):=by rw[FI,D9 hi,getD_lt l i d hi,List.any_append];simp
theorem Afj {α :Type} {l:List α} {x: α} (h:l.Nodup) (hx:x∉l):(l++[x]).Nodup:=by rw[List.nodup_append];refine⟨h,List.nodup_cons.2 ⟨ED,Gm⟩,fun a ha b hb=> ?_⟩;rw[Eh.1 hb];exact fun e=>hx (e▸ha)
include hN hL in
theorem AjV {d:List Int×Int} (p:Bool) (hd:KN L d):Ends (fun r=>(eU (bif p then W9 else Wy) r.1)/\KN L r.2) (YP N d p):=by
 unfold YP;try simp only[clR]
 refine JA (nx N hL hd 3) ?_;rintro ⟨r,d1,d2⟩ ⟨h0,h1,h2⟩;dsimp only at h0 h1 h2 ⊢;rw[w64];refine KT (fun x=>0<=x.1/\x.1<4/\KN L (x.2.1,x.2.2.1)/\((x.2.2.2.length:Int)+x.1<=3)/\(∀ s∈x.2.2.2,s∈(bif p then W9 else Wy))/\x.2.2.2.Nodup) (fun x=>x.1.toNat) ?_ N _ ⟨by dsimp only;omega,by dsimp only;omega,h2,by simp;omega,(fun r hr=>by cases hr),Gm⟩ (by dsimp only;omega);rintro ⟨t,a,b,acc⟩ ⟨g0,g1,g2,g3,g4,g5⟩ k hk;dsimp only[U4]at g0 g1 g2 g3 g4 g5 ⊢;refine JH (fun ht=> ?_) (fun _=>by dsimp only[U3];exact Kv ⟨⟨by dsimp only;omega,g4,g5⟩,g2⟩);have ht:=D5 ht;refine JA (nx N hL g2 9) ?_;rintro ⟨r9,e1,e2⟩ ⟨c0,c1,c2⟩;dsimp only at c0 c1 c2 ⊢;refine JA (wW N c0 c1) ?_;intro s hs;refine dY (P:=fun x=>x.1∈(bif p then W9 else Wy)/\KN L (x.2.1,x.2.2.1)/\x.2.2.2=acc) (fun j hj=> ?_) ?_
 .cases p with
  | false=>exact hj _ ⟨hs,c2,rfl⟩
  | true =>simp only[cond_true];refine JA (nx N hL c2 5) ?_;rintro ⟨r3,q1,q2⟩ ⟨z0,z1,z2⟩;dsimp only at z0 z1 z2 ⊢;exact Jz (Dk) (Jz (Dk) (Jz (Dk) (hj _ ⟨QE (P:=fun s=>s∈W9) (fun s hs=>hs) z0 z1,z2,rfl⟩)))
 .rintro ⟨s,q1,q2,x⟩ ⟨y1,y2,y3⟩;dsimp only at y1 y2 y3;subst y3;dsimp only[U4];refine KT (fun z=>0<=z.2.1/\z.2.1<=(x.length:Int)/\KN L (z.2.2.1,z.2.2.2.1)/\z.2.2.2.2=x/\z.1=(x.take z.2.1.toNat).any (fun y=>s==y)) (fun z=>x.length - z.2.1.toNat) ?_ N _ ⟨EM _,by dsimp only;omega,y2,rfl,rfl⟩ (by dsimp only;omega);rintro ⟨w1,i,a',b',x'⟩ ⟨p0,p1,p2,p3,p4⟩ k' hk';dsimp only[U5]at p0 p1 p2 p3 p4 ⊢;subst p3;refine JH (fun hi=> ?_) (fun hi=> ?_)
  .have hi:=D5 hi;refine Jz (Dk) (Jz (Dk) (Jz (Dk) (hk' _ ⟨?_,?_,p2,rfl,?_⟩ ?_)))
   .dsimp only;rw[w64];omega
   .dsimp only;rw[w64];omega
   .dsimp only;rw[w64,show(i+1).toNat=i.toNat+1 by omega,take_any _ (by omega) [],p4]
   .dsimp only;rw[w64];omega
  .have hi:=EN hi;rw[EL (by omega)]at p4;dsimp only[U4];refine JH (fun hc=> ?_) (fun _=> ?_)
   .have hnot:s∉x':=fun hm=>by
     rw[p4,Fz.2 ⟨s,hm,DK s⟩]at hc;cases hc
    refine Jz (Dk) (hk _ ⟨?_,?_,p2,?_,Wx g4 y1,Afj g5 hnot⟩ ?_)
    .dsimp only;rw[w64];omega
    .dsimp only;rw[w64];omega
    .dsimp only;rw[w64,Dv];simp;omega
    .dsimp only;rw[w64];omega
   .refine hk _ ⟨?_,?_,p2,?_,g4,g5⟩ ?_
    .dsimp only;rw[w64];omega
    .dsimp only;rw[w64];omega
    .dsimp only;rw[w64];omega
    .dsimp only;rw[w64];omega
include hN hL in
theorem Ajh {d:List Int×Int} (hd:KN L d):Ends (fun r=>AcQ r.1/\KN L r.2) (VZ N d):=by
 unfold VZ;try simp only[clR]
 refine JA (nx N hL hd 3) ?_;rintro ⟨r,d1,d2⟩ ⟨h0,h1,h2⟩;dsimp only at h0 h1 h2 ⊢;rw[w64];refine KT (fun x=>0<=x.1/\x.1<4/\KN L (x.2.1,x.2.2.1)/\((x.2.2.2.length:Int)+x.1<=3)/\(∀ m∈x.2.2.2,m.1∈Wy/\m.2∈Wy)/\x.2.2.2.Nodup) (fun x=>x.1.toNat) ?_ N _ ⟨by dsimp only;omega,by dsimp only;omega,h2,by simp;omega,(fun r hr=>by cases hr),Gm⟩ (by dsimp only;omega);rintro ⟨t,a,b,acc⟩ ⟨g0,g1,g2,g3,g4,g5⟩ k hk;dsimp only[U4]at g0 g1 g2 g3 g4 g5 ⊢;refine JH (fun ht=> ?_) (fun _=>by dsimp only[U3];exact Kv ⟨⟨by dsimp only;omega,g4,g5⟩,g2⟩);have ht:=D5 ht;refine JA (nx N hL g2 9) ?_;rintro ⟨r9,e1,e2⟩ ⟨c0,c1,c2⟩;dsimp only at c0 c1 c2 ⊢;refine JA (wW N c0 c1) ?_;intro s hs;refine JA (nx N hL c2 9) ?_;rintro ⟨r9,e1,e2⟩ ⟨c0,c1,c2⟩;dsimp only at c0 c1 c2 ⊢;refine JA (wW N c0 c1) ?_;intro s2 hs2;refine KT (fun z=>0<=z.2.1/\z.2.1<=(acc.length:Int)/\KN L (z.2.2.1,z.2.2.2.1)/\z.2.2.2.2.1=s/\z.2.2.2.2.2.1=s2/\z.2.2.2.2.2.2=acc/\z.1=(acc.take z.2.1.toNat).any (fun y=>s==y.1&&(s2==y.2&&true))) (fun z=>acc.length - z.2.1.toNat) ?_ N _ ⟨EM _,by dsimp only;omega,c2,rfl,rfl,rfl,rfl⟩ (by dsimp only;omega);rintro ⟨w1,i,a',b',s',s2',x'⟩ ⟨p0,p1,p2,p3,p4,p5,p6⟩ k' hk';dsimp only[U7]at p0 p1 p2 p3 p4 p5 p6 ⊢;subst p3 p4 p5;refine JH (fun hi=> ?_) (fun hi=> ?_)
 .have hi:=D5 hi;refine Jz (Dk) (Jz (Dk) (Jz (Dk) (hk' _ ⟨?_,?_,p2,rfl,rfl,rfl,?_⟩ ?_)))
  .dsimp only;rw[w64];omega
  .dsimp only;rw[w64];omega
  .dsimp only;rw[w64,show(i+1).toNat=i.toNat+1 by omega,take_any _ (by omega) ([],[]),p6]
  .dsimp only;rw[w64];omega
 .have hi:=EN hi;rw[EL (by omega)]at p6;dsimp only[U6];refine JH (fun hc=> ?_) (fun _=> ?_)
  .have hnot:(s',s2')∉x':=fun hm=>by
    rw[p6,Fz.2 ⟨(s',s2'),hm,by simp⟩]at hc;cases hc
   refine Jz (Dk) (hk _ ⟨?_,?_,p2,?_,Wx g4 ⟨hs,hs2⟩,Afj g5 hnot⟩ ?_)
   .dsimp only;rw[w64];omega
   .dsimp only;rw[w64];omega
   .dsimp only;rw[w64,Dv];simp;omega
   .dsimp only;rw[w64];omega
  .refine hk _ ⟨?_,?_,p2,?_,g4,g5⟩ ?_
   .dsimp only;rw[w64];omega
   .dsimp only;rw[w64];omega
   .dsimp only;rw[w64];omega
   .dsimp only;rw[w64];omega
theorem Asa:OkI (false,false,-1,0,[],[],[],-1,-1,-1,[],false,[],[],[],[],[],[],[]) :=
 ⟨Or.inr ⟨rfl,rfl,rfl⟩,by decide,⟨EF _,(fun s hs=>by cases hs),Gm⟩,⟨EF _,(fun s hs=>by cases hs),Gm⟩,⟨EF _,(fun s hs=>by cases hs),Gm⟩,by decide,by decide,by decide,⟨EF _,fun s hs=>by cases hs⟩,Or.inl ⟨rfl,rfl,rfl⟩,by decide,by decide,Or.inl rfl,Or.inl rfl,by decide⟩
theorem five {n:Int} (h0:0<=n) (h1:n<5):i64.wrap (n - 1)∈Xv/\(true,i64.wrap (n - 1))∈fJ:=by
 have:n=0\/n=1\/n=2\/n=3\/n=4:=by omega
 rcases this with rfl | rfl | rfl | rfl | rfl<;>exact⟨by decide,by decide⟩
theorem Ar5 {α :Type} {l:List α} {a b:Nat} {x: α} (h:x∈J6 l a b):x∈l:=Gn (Ie h)
include hN hL in
theorem ArM {d:List Int×Int} (hd:KN L d):Ends (fun r=>OkI r.1/\KN L r.2) (eG N d):=by
 unfold eG;try simp only[clR]
 rw[show oZ N=some (false,false,-1,0,[],[],[],-1,-1,-1,[],false,[],[],[],[],[],[],[])from rfl,Jr];refine JA (nx N hL hd 6) ?_;rintro ⟨r,d1,d2⟩ ⟨h0,h1,h2⟩;dsimp only at h0 h1 h2 ⊢;refine KT (fun x=>0<=x.1/\x.1<6/\KN L (x.2.1,x.2.2.1)/\OkI x.2.2.2) (fun x=>x.1.toNat) ?_ N _ ⟨h0,h1,h2,Asa⟩ (by dsimp only;omega);rintro ⟨t,a,b,hb,ca,pl,us,pu,po,ma,re,im,ia,na,hc,pe,ex,sk,ak,pt,fr,un⟩ ⟨g0,g1,g2,P⟩ k hk;dsimp only at g0 g1 g2 P hk;dsimp only[U22];refine JH (fun ht=> ?_) (fun _=> ?_)
 .have ht:=D5 ht;have go: ∀(a':List Int) (b':Int) (i:Info),KN L (a',b')->OkI i->Ends (fun r=>OkI r.1/\KN L r.2) (k (i64.wrap (t - 1),a',b',i)):=by intro a' b' i hda hP;rw[w64];exact hk (t - 1,a',b',i) ⟨by dsimp only;omega,by dsimp only;omega,hda,hP⟩ (by dsimp only;omega)
  refine JA (nx N hL g2 14) ?_;rintro ⟨r,d1,d2⟩ ⟨h0,h1,h2⟩;dsimp only at h0 h1 h2 ⊢;refine dY (P:=fun x=> ∃ q,x=(q,d1,d2,hb,ca,pl,us,pu,po,ma,re,im,ia,na,hc,pe,ex,sk,ak,pt,fr,un)) (fun j hj=>JH (fun _=>hj _ ⟨_,rfl⟩) (fun _=>hj _ ⟨_,rfl⟩)) ?_;rintro _ ⟨q,rfl⟩;dsimp only[U22];refine JH (fun _=> ?_) (fun _=>JH (fun _=> ?_) (fun _=>JH (fun _=> ?_) (fun _=>JH (fun _=> ?_) (fun _=>JH (fun _=> ?_) (fun _=>JH (fun _=> ?_) (fun _=>JH (fun _=> ?_) (fun _=>JH (fun _=> ?_) (fun _=>JH (fun _=> ?_) (fun _=>JH (fun _=> ?_) (fun _=>JH (fun _=> ?_) (fun _=>JH (fun _=> ?_) (fun _=> ?_))))))))))))
  .refine JA (nx N hL h2 5) ?_;rintro ⟨r,e1,e2⟩ ⟨f0,f1,f2⟩;dsimp only at f0 f1 f2 ⊢;exact go _ _ _ f2 {P with bas:=Or.inl ⟨rfl,(five f0 f1).2⟩}
  .exact go _ _ _ h2 {P with bas:=Or.inl ⟨rfl,(by decide:(false,(-1:Int))∈fJ)⟩}
  .refine JA (nx N hL h2 511) ?_;rintro ⟨r,e1,e2⟩ ⟨f0,f1,f2⟩;dsimp only at f0 f1 f2 ⊢;exact go _ _ _ f2 {P with us:=by dsimp only;rw[w64];omega}
  .refine JA (AjV N hN hL true h2) ?_;rintro ⟨r,e1,e2⟩ ⟨f0,f2⟩;exact go _ _ _ f2 {P with pu:=f0}
  .refine JA (AjV N hN hL false h2) ?_;rintro ⟨r,e1,e2⟩ ⟨f0,f2⟩;exact go _ _ _ f2 {P with po:=f0}
  .refine JA (Ajh N hN hL h2) ?_;rintro ⟨r,e1,e2⟩ ⟨f0,f2⟩;exact go _ _ _ f2 {P with ma:=f0}
  .refine JA (nx N hL h2 5) ?_;rintro ⟨r,e⟩ ⟨f0,f1,f2⟩;refine JA (nx N hL f2 5) ?_;rintro ⟨r2,e1,e2⟩ ⟨c0,c1,c2⟩;dsimp only at f0 f1 c0 c1 c2 ⊢;exact go _ _ _ c2 {P with re:=(five f0 f1).1,im:=(five c0 c1).1}
  .refine JA (nx N hL h2 65) ?_;rintro ⟨r,e1,e2⟩ ⟨f0,f1,f2⟩;dsimp only at f0 f1 f2 ⊢;exact go _ _ _ f2 {P with ia:=by dsimp only;omega}
  .refine JA (nM N hN hL h2) ?_;rintro ⟨x,e⟩ ⟨f0,f2⟩;refine JA (nM N hN hL f2) ?_;rintro ⟨y,e⟩ ⟨f1,f2⟩;refine JA (nx N hL f2 2) ?_;rintro ⟨r2,e1,e2⟩ ⟨c0,c1,c2⟩;dsimp only at f0 f1 c0 c1 c2 ⊢;rw[w64];refine Jz (Dk) (Jz (Dk) ?_);refine go _ _ _ c2 {P with na:=⟨?_,fun g hg=> ?_⟩}
   .unfold J6;rw[Ew,Ea];simp;omega
   .rcases Dz.1 (Ar5 hg)with rfl | hg
    .exact f0
    .rw[Eh.1 hg];exact f1
  .refine JA (Ajz N hN hL h2) ?_;rintro ⟨⟨x,y⟩,e1,e2⟩ ⟨f0,f2⟩;exact go _ _ _ f2 {P with con:=Or.inr ⟨rfl,f0⟩}
  .refine JA (nx N hL h2 3) ?_;rintro ⟨r,e⟩ ⟨f0,f1,f2⟩;dsimp only at f0 f1 f2 ⊢;refine Jz (Dk) (Jz (Dk) (Jz (Dk) ?_));refine JA (nx N hL f2 2) ?_;rintro ⟨r2,e1,e2⟩ ⟨c0,c1,c2⟩;dsimp only at c0 c1 c2 ⊢;refine Jz (Dk) (Jz (Dk) (Jz (Dk) ?_));exact go _ _ _ c2 {P with sk:=QE (P:=fun s=>s∈skL) (fun s hs=>hs) f0 f1,ak:=QE (P:=fun s=>s∈akL) (fun s hs=>hs) c0 c1}
  .refine JA (Afn N hN hL h2) ?_;rintro ⟨r,e1,e2⟩ ⟨f0,f2⟩;exact go _ _ _ f2 {P with pt:=Or.inr f0}
  .refine JA (Afn N hN hL h2) ?_;rintro ⟨r,e⟩ ⟨f0,f2⟩;refine JA (nx N hL f2 2) ?_;rintro ⟨r2,e⟩ ⟨c0,c1,c2⟩;refine JA (nx N hL c2 3) ?_;rintro ⟨r3,e1,e2⟩ ⟨z0,z1,z2⟩;dsimp only at f0 c0 c1 z0 z1 z2 ⊢;refine Jz (Dk) (Jz (Dk) ?_);refine go _ _ _ z2 {P with fr:=Or.inr f0,un:= ?_};have hz:r3=0\/r3=1\/r3=2:=by omega
   rcases hz with rfl | rfl | rfl
   .exact Du
   .dsimp only;cases r2==1<;>decide
   .dsimp only;cases r2==1<;>decide
 .dsimp only[U21];exact Kv ⟨P,g2⟩
end
def AqC (M:Nat) (g:GnL):Bool:=MW (M+300) g true==some 0&&(true&&(MS (M+300) g true==some (KW g,0)&&(true &&
 (Np (M+300) (Xq g) true==some (g,0)&&(g.2.2.isEmpty&&(decide ((gnT g).2.length<=40)&&(decide ((gnT g).1<256)&&(decide ((gnT g).1 % 32≠31)&& !Sp.cons (gnT g).1))))))))
def AoZ (M:Nat):AbJ.all (AqC M)=true:=by kernel_rfl
structure As7 (N:Nat) (g:GnL):Prop where
 chk:MW N g true=some 0
 AtO:True
 enc:MS N g true=some (KW g,0)
 AtW:True
 dec:Np N (Xq g) true=some (gnK g,0)
 fine:Fine (gnT g)
 len:(gnT g).2.length<=620
 AgO:gnT (gnK g)=gnT g
 okK:okB (gnK g)
 par: ∀ d,d<=6->Par d (KW g) [Xq g]
section
variable {N:Nat} (hN:1048578<N)
include hN
theorem Ar7 {n:List (List MF)} (hn:okN n):As7 N (4,[],n):=by
 have h1:=QN hN hn;have h3:=iH hN hn;have h5:=iG hN hn;have hC:=AcR hN hn;have h6:=QN hN hC;have hl:=yL hN hn;have w:Ko N 164 [nmT n]=_:=Ub N 164 [nmT n] (by omega) (by omega) hN (by simp) (by rw[KJ];omega);rw[KJ]at w
 have c1: ∀ m:List (List MF),Ob N m=some 0->MW N (4,[],m) true=some 0:=by
  intro m hm;unfold MW nO;try simp only[clR]
  simp (disch:=omega) only[JO,hm,Option.isSome_some,Option.getD_some];try rfl
 have hf:Fine (164,nmT n):=(MC (by decide) (by decide))
 refine⟨c1 n h1,trivial,?_,trivial,?_,hf,hl,?_,Or.inr ⟨_,hC,rfl⟩,fun d hd=>NS hf (by omega) (Aes hN hn (by omega)).nest⟩
 .unfold MS;try simp only[clR]
  simp (disch:=omega) only[JO,c1 n h1,h3];show Jq (Ko N 164 [nmT n]) _=_;rw[w];rfl
 .have c3:=c1 _ h6;unfold Np;try simp only[clR]
  show _=some ((4,[],nmC n),0);dsimp only[Xq,gnT,JQ];simp (disch:=omega) only[JO,h5,c3,Aa2];try rfl
 .show(164,nmT (nmC n))=(164,nmT n);unfold nmT;rw[AqW hN hn]
theorem nK {g:GnL} (h:okB g):As7 N g:=by
 rcases h with h | ⟨n,hn,rfl⟩
 .have hh:=h;obtain⟨M,rfl⟩:=ofM hN;have h:=D7.1 (AoZ M) g h;unfold AqC at h;simp only[Dq,EK,DJ,Ef,Fg]at h;obtain⟨h1,h2,h3,h4,h5,h6,h7,h8,h9,h10⟩:=h;have hk:gnK g=g:=by obtain⟨k,s,n⟩:=g;dsimp only at h6;subst h6;rfl
  have hf:Fine (gnT g):=⟨h8,h9,by omega⟩
  exact⟨h1,h2,h3,h4,by rw[hk];exact h5,hf,by omega,by rw[hk],by rw[hk];exact Or.inl hh,fun d hd=>QD hf (by omega) h10⟩
 .exact Ar7 hN hn
theorem dX {g:GnL} (h:okB g):(KW g).length<=625:=by have:=(nK hN h).len;have:=Sp.JD (gnT g).1 (gnT g).2;unfold KW;omega
end
def of0 {o:Option Int} (h:Ends (fun r=>r=0) o):o=some 0:=by obtain⟨v,rfl,rfl⟩:=h;rfl
def XM (l:List GnL):Bs:=(l.map fun g=>Sp.elem 48 (KW g)).flatten
def partT (t:Nat) (l:List GnL):Bs:=bif l.isEmpty then []else Sp.elem t (XM l)
def Zb (s:List GnL×List GnL):Bs:=Sp.elem 48 (partT 160 s.1++partT 161 s.2)
def At3 {s:List GnL×List GnL} (h:okS s):(((s.1.length:Int)==0)&&((s.2.length:Int)==0))=false:=by
 obtain⟨a,b⟩:=s;have:=h.ne;cases a with
 | nil=>cases b with
  | nil=>simp at this
  | cons _ _=>simp;omega
 | cons _ _=>simp;omega
section
variable {N:Nat} (hN:1048578<N) {s:List GnL×List GnL} (h:okS s)
include hN h
theorem xX:Om N s=some 0:=by
 have l0:=h.l0;have l1:=h.l1;refine of0 ?_;unfold Om;try simp only[clR]
 rw[At3 h,cond_false,DV (by omega),DV (by omega)];refine KT (fun x=>0<=x.1/\x.1<=2/\x.2=[s.1,s.2]) (fun x=>(2 - x.1).toNat) ?_ N _ ⟨by dsimp only;omega,by dsimp only;omega,rfl⟩ (by dsimp only;omega);rintro ⟨i,l⟩ ⟨i0,i1,hl⟩ k hk;dsimp only at i0 i1 hl;subst hl;dsimp only[U2];refine JH (fun hi=> ?_) (fun _=>Kv rfl);have hi:=D5 hi;refine Jz (Dk i0) (Jz (Dk (by show i<2;omega)) (Jz (Dk (by show i.toNat<2;omega)) ?_))
 have hg: ∀ g∈ [s.1,s.2].getD i.toNat [],okB g:=by
  have:i=0\/i=1:=by omega
  rcases this with rfl | rfl
  .exact h.a0
  .exact h.a1
 have hlen:([s.1,s.2].getD i.toNat []).length<=3:=by
  have:i=0\/i=1:=by omega
  rcases this with rfl | rfl
  .exact l0
  .exact l1
 refine KT (fun x=>0<=x.1/\x.1<=(([s.1,s.2].getD i.toNat []).length:Int)/\x.2=[s.1,s.2]) (fun x=>((([s.1,s.2].getD i.toNat []).length:Int) - x.1).toNat) ?_ N _ ⟨by dsimp only;omega,by dsimp only;omega,rfl⟩ (by dsimp only;omega);rintro ⟨j,l⟩ ⟨j0,j1,hl⟩ k' hk';dsimp only at j0 j1 hl;subst hl;dsimp only[U2];refine JH (fun hj=> ?_) (fun _=> ?_)
 .have hj:=D5 hj;refine Jz (Dk j0) (Jz (Dk hj) ?_);rw[(nK hN (hg _ (getD_mem (0,[],[]) (by omega)))).chk,Jr];refine JH (fun e=>by cases e) (fun _=>hk' _ ⟨?_,?_,rfl⟩ ?_)
  .dsimp only;rw[w64];omega
  .dsimp only;rw[w64];omega
  .dsimp only;rw[w64];omega
 .refine hk _ ⟨?_,?_,rfl⟩ ?_
  .dsimp only;rw[w64];omega
  .dsimp only;rw[w64];omega
  .dsimp only;rw[w64];omega
end
section
variable {N:Nat} (hN:1048578<N) {l:List GnL} (h3:l.length<=3) (h: ∀ g∈l,okB g)
include hN h3 h
theorem qI:(XM l).length<=1890:=by
 have:=MK (g:=fun g=>Sp.elem 48 (KW g)) (M:=630) (l:=l) fun g hg=>by have:=dX hN (h g hg);have:=Sp.JD 48 (KW g);omega
 unfold XM;omega
theorem oO (t:Nat):(partT t l).length<=1895:=by
 have:=qI hN h3 h;have:=Sp.JD t (XM l);unfold partT;cases l.isEmpty with
 | true=>exact EF _
 | false=>rw[cond_false];omega
theorem Aop (t:Nat) (ht:t<256:=by omega) (h31:t % 32≠31:=by omega):Nv N (t:Int) l=some (partT t l,0):=by
 have hb:=qI hN h3 h;unfold Nv partT;try simp only[clR]
 cases l with
 | nil=>rfl
 | cons g r =>
  rw[ZW (by simp;omega),cond_false];refine(QC (mk:=fun i a=>((i:Int),a)) (g::r) (0,[],[]) (fun g=>Sp.elem 48 (KW g)) (fun a=>Jq (Ko N (t:Int) a) fun r=>some (r.1,r.2)) ?_ ?_ N).trans ?_
  .intro i a hlt ha k;have hg:=h _ (getD_mem (0,[],[]) hlt);have e1:=(nK hN hg).enc;have gl:=dX hN hg;have w:Ko N 48 [KW ((g::r).getD i (0,[],[]))]=_:=Ub N 48 [KW ((g::r).getD i (0,[],[]))] (by omega) (by omega) hN (by simp) (by rw[KJ];omega);rw[KJ]at w;simp (disch:=omega) only[JO,e1,w,LC];try rfl
  .intro a k ha;simp (disch:=omega) only[JO]
  .have w:=Ub N t ((g::r).map fun g=>Sp.elem 48 (KW g)) ht h31 hN (by rw[Dx];omega) (by unfold XM at hb;omega);rw[w,Jr];rfl
end
section
variable {N:Nat} (hN:1048578<N) {s:List GnL×List GnL} (h:okS s)
include hN h
theorem AjJ:(Zb s).length<=3800:=by have a:=oO hN h.l0 h.a0 160;have b:=oO hN h.l1 h.a1 161;have:=Sp.JD 48 (partT 160 s.1++partT 161 s.2);rw[Dv]at this;unfold Zb;omega
theorem Aux:Vz N s=some (Zb s,0):=by have a:=oO hN h.l0 h.a0 160;have b:=oO hN h.l1 h.a1 161;have w:Ko N 48 [partT 160 s.1,partT 161 s.2]=_:=Ub N 48 [partT 160 s.1,partT 161 s.2] (by omega) (by omega) hN (by simp) (by rw[YI,Dv];omega);rw[YI]at w;have e1:Nv N 160 s.1=_:=Aop hN h.l0 h.a0 160;have e2:Nv N 161 s.2=_:=Aop hN h.l1 h.a1 161;unfold Vz;rw[xX hN h,Jr,show((0:Int) != 0)=false from rfl,cond_false,e1,Jr];dsimp only;rw[show((0:Int) != 0)=false from rfl,cond_false,e2,Jr];dsimp only;rw[show((0:Int) != 0)=false from rfl,cond_false,w,Jr];rfl
end
def AqT {α :Type} {l:List α} (h:l.Nodup) (d: α) {i j:Nat} (hij:j<i:=by omega) (hi:i<l.length:=by omega):l.getD j d≠l.getD i d:=by rw[getD_lt l i d hi,getD_lt l j d];exact GY.1 h j i (by omega) hi hij
def Anh {α :Type} (l:List α) (d: α) {i j:Nat} (hij:j<i:=by omega) (hi:i<l.length:=by omega):(J6 l 0 i).getD j d=l.getD j d:=by
 have:J6 l 0 i=l.take i:=by unfold J6;rw[F6]
 rw[this,getD_lt l j d,getD_lt _ j d (by rw[Ea];omega),IG]
def AqH {α :Type} (l:List α) {i:Nat} (hi:i<=l.length):(J6 l 0 i).length=i:=by unfold J6;rw[F6,Ea];omega
def LW: ∀ s∈Wy,s∈Uz:=by decide
def Yt: ∀ s∈W9,s∈Uz:=by decide
section
variable {N:Nat} (hN:1048578<N) {L l:List Bs} (hL: ∀ s∈L,s∈Uz) (h:eU L l)
include hN hL h
theorem AqO {m:Int} (hm:3<=m):Oq N l m=some 0:=by
 have h3:=h.len;refine of0 ?_;unfold Oq;try simp only[clR]
 rw[DV (by omega),cond_false];refine KT (fun x=>0<=x/\x<=(l.length:Int)) (fun x=>((l.length:Int) - x).toNat) ?_ N _ ⟨by omega,by omega⟩;intro i ⟨i0,i1⟩ k hk;dsimp only;refine JH (fun hi=> ?_) (fun _=>Kv rfl);have hi:=D5 hi;refine Jz (Dk i0) (Jz (Dk hi) ?_);rw[(Uy hN (hL _ (h.all _ (getD_mem [] (show i.toNat<l.length by omega))))).val,Jr];refine JH (fun e=>by cases e) (fun _=>Jz (Dk i0) (Jz (Dk i1) ?_));have hc:=AqH l (i:=i.toNat) (by omega);refine KT (fun x=>0<=x/\x<=i) (fun x=>(i - x).toNat) ?_ N _ ⟨by omega,by omega⟩;intro j ⟨j0,j1⟩ k' hk';dsimp only;refine JH (fun hj=> ?_) (fun _=> ?_)
 .have hj:=D5 hj;rw[hc]at hj;refine Jz (Dk j0) (Jz (Dk) ?_);have hne:=AqT h.nod [] (i:=i.toNat) (j:=j.toNat);rw[Anh l [] (i:=i.toNat) (j:=j.toNat)];refine JH (fun e=>absurd (EK.1 e).symm hne) (fun _=>hk' _ ⟨?_,?_⟩ ?_)
  .rw[w64];omega
  .rw[w64];omega
  .rw[w64];omega
 .refine hk _ ⟨?_,?_⟩ ?_
  .rw[w64];omega
  .rw[w64];omega
  .rw[w64];omega
end
section
variable {N:Nat} (hN:1048578<N) {l:List (Bs×Bs)} (h:AcQ l)
include hN h
theorem Atv:Oy N l=some 0:=by
 have h3:=h.len;refine of0 ?_;unfold Oy;try simp only[clR]
 rw[DV (by omega),cond_false];refine KT (fun x=>0<=x/\x<=(l.length:Int)) (fun x=>((l.length:Int) - x).toNat) ?_ N _ ⟨by omega,by omega⟩;intro i ⟨i0,i1⟩ k hk;dsimp only;refine JH (fun hi=> ?_) (fun _=>Kv rfl);have hi:=D5 hi;refine Jz (Dk i0) (Jz (Dk hi) ?_);have hm:=h.all _ (getD_mem ([],[]) (show i.toNat<l.length by omega));have e1:=(Uy hN (LW _ hm.1)).val;have e2:=(Uy hN (LW _ hm.2)).val;rw[e1,Jr];simp only[e2,Option.isSome_some,Option.getD_some,EJ,LG,Eu,FK,cond_false];refine Jz (Dk i0) (Jz (Dk i1) ?_);have hc:=AqH l (i:=i.toNat) (by omega);refine KT (fun x=>0<=x.1/\x.1<=i/\x.2=l.getD i.toNat ([],[])) (fun x=>(i - x.1).toNat) ?_ N _ ⟨by dsimp only;omega,by dsimp only;omega,rfl⟩ (by dsimp only;omega);rintro ⟨j,a,b⟩ ⟨j0,j1,hab⟩ k' hk';dsimp only at j0 j1 hab;dsimp only[U3];refine JH (fun hj=> ?_) (fun _=> ?_)
 .have hj:=D5 hj;rw[hc]at hj;refine Jz (Dk j0) (Jz (Dk) ?_);have hne:=AqT h.nod ([],[]) (i:=i.toNat) (j:=j.toNat);rw[Anh l ([],[]) (i:=i.toNat) (j:=j.toNat)];refine JH (fun e=> ?_) (fun _=>hk' _ ⟨?_,?_,hab⟩ ?_)
  .simp only[Gh,Dq,EK]at e;exact absurd (by rw[<- hab,e.1,e.2]) hne
  .dsimp only;rw[w64];omega
  .dsimp only;rw[w64];omega
  .dsimp only;rw[w64];omega
 .refine hk _ ⟨?_,?_⟩ ?_
  .rw[w64];omega
  .rw[w64];omega
  .rw[w64];omega
end
end Go.Proofs.YtbgjmioccbacdaaGreatDoor.Pl
