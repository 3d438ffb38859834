import Derived.Test.YtmgpaalplkkpnaaGreatDoorA20
set_option linter.all false
namespace Go.Proofs.YtmgpaalplkkpnaaGreatDoor.Pl
open IntKind (i64 u8 u32 u64)
open Go Vm
def aut (k:Nat):List (List N7):=(KN 300 (k:Int)).getD []
def A2C (M k:Nat):Bool:=KN (M+300) (k:Int)==some (aut k)&&(decide ((aut k).length<=3)&&((aut k).all (fun r=>Ou.contains r)&&(!(aut k).isEmpty&&(nmC (aut k)==aut k&&(List.range 16).all fun j=>OL (M+300) (aut k) (aut j)==some (k % 8==j % 8)&&LK (M+300) (aut k) (aut j)==some (k % 8==j % 8)))))
def A1f (M:Nat):(List.range 16).all (A2C M)=true:=by kernel_rfl
structure A03 (N k:Nat):Prop where
 made:KN N (k:Int)=some (aut k)
 ok:okN (aut k)
 ne:aut k≠ []
 C:nmC (aut k)=aut k
 mt: ∀ j,j<16->OL N (aut k) (aut j)=some (k % 8==j % 8)
 rmt: ∀ j,j<16->LK N (aut k) (aut j)=some (k % 8==j % 8)
def Xw {N:Nat} (hN:1048578<N) {k:Nat} (h:k<16):A03 N k:=by obtain⟨M,rfl⟩:=ofM hN;have h:=D8.1 (A1f M) k (Fe.2 h);unfold A2C at h;simp only[Dq,EN,D8,D5,Hw,Eu,List.isEmpty_eq_false_iff,Fe]at h;obtain⟨h1,h2,h3,h4,h5,h6⟩:=h;exact⟨h1,⟨h2,h3⟩,h4,h5,fun j hj=>(h6 j hj).1,fun j hj=>(h6 j hj).2⟩
def AsA {N:Nat} {k:Nat} (h:A03 N k):0<(aut k).length:=EO.2 h.ne
abbrev En:Type:=Int×Int×Int×Int×Nat
abbrev En.k (e:En):Nat:=e.2.2.2.2
abbrev En.re (e:En):Int:=e.2.2.1
abbrev En.iv (e:En):Int:=e.2.2.2.1
abbrev Ey:Type:=Int×Int×Int×Int×List (List N7)
def enY (e:En):Ey:=(e.1,e.2.1,e.re,e.iv,aut e.k)
def reL:List Int:=[0,1,2,3,4,5,6,8,9,10]
structure OkE (base:Int) (ind:Bool) (p:Nat) (e:En):Prop where
 s0:1<=e.1
 s1:e.1<=9
 ti:e.2.1∈Ve
 re:e.re∈reL
 r8:e.re=8->base≠ -1
 iv:e.iv= -1\/e.iv∈Ve
 k:e.k<16
 is:ind=true\/e.k % 8=p % 8
def ApC:Bs:=[50,46,53,46,50,57,46,50,49]
def ApD:Bs:=[50,46,53,46,50,57,46,50,52]
def ApE:Bs:=[50,46,53,46,50,57,46,50,57]
def A14:ApC∈Zq:=by decide
def A15:ApD∈Zq:=by decide
def A18:ApE∈Zq:=by decide
def isB (k:Nat):Bs:=Sp.elem 48 (MN (4,[],aut k))
def enX (e:En) (p:Nat):List ExL:=(bif e.re != 0 then [(ApC,false,RS 10 e.re)]else [])++((bif e.iv != -1 then [(ApD,false,Rx e.iv)]else [])++(bif !(e.k % 8==p % 8)then [(ApE,true,isB e.k)]else []))
def enO (e:En) (p:Nat):Bs:=bif decide (((enX e p).length:Int)>0)then xsB (enX e p)else []
def enC (e:En) (p:Nat):Bs:=RS 2 e.1++(Rx e.2.1++enO e p)
def enB (e:En) (p:Nat):Bs:=Sp.elem 48 (enC e p)
def Aqy {r:Int} (h:r∈reL):0<=r/\r<11:=by unfold reL at h;simp only[D7,Fp,GK]at h;omega
def Aa0 {n:List (List N7)} (h:okN n):okG (4,[],n):=Or.inr ⟨n,h,rfl⟩
def AlB (n:List (List N7)):KT [((4:Int),([]:Bs),n)]=MN (4,[],n):=DX _
section
variable {N:Nat} (hN:1048578<N) {base:Int} {ind:Bool} {p q:Nat} {e:En} (h:OkE base ind q e)
include hN
theorem A3f {k:Nat} (hk:k<16):Sp.chk (isB k)=0/\(isB k).length<=630/\RZ N (isB k)=some (aut k,0):=by
 have A:=Xw hN hk;have hg:=Aa0 A.ok;have hl:=Y4 hN hg;have hB:=Sp.JM 48 (MN (4,[],aut k));have hf:Fine (48,MN (4,[],aut k)):=(WC (by decide) (by decide))
 refine⟨bH hf fun _=>((XR hN hg).par 1 (by omega)).nest,by unfold isB;omega,?_⟩;have h1:OB N (isB k) 48=some (MF 48 (MN (4,[],aut k)),0):=by rw[SK N _ 48 hN (by unfold isB;omega)];exact congrArg some (Ae4 48 (MN (4,[],aut k)) (by decide) (by decide) hf.len)
 have h2:=yA hN (gs1 hg);rw[AlB]at h2;unfold RZ;try simp only[clR]
 rw[h1,Jt];dsimp only[MF];simp (disch:=omega) only[JH,h2,Ee,Ff,List.length_cons,List.length_nil,Eh];unfold gnK;rw[A.C];rfl
include h
theorem Aw6: ∀ x∈enX e p,OkX x/\x.2.2.length<=635:=by
 intro x hx;unfold enX at hx;rcases DK.1 hx with hx | hx
 .cases hb:e.re != 0 with
  | false=>rw[hb]at hx;cases hx
  | true =>
   rw[hb]at hx;have hr:=Aqy h.re;have I:=Aej hN (n:=e.re);have:=I.len;have:=Sp.JM 10 (Xi e.re);have hl:(RS 10 e.re).length<=635:=by unfold RS;omega
   rw[DR.1 hx];exact⟨⟨A14,bH (ApF I) fun h=>absurd h (by decide),by show(RS 10 e.re).length<=_;omega⟩,hl⟩
 .rcases DK.1 hx with hx | hx
  .cases hb:e.iv != -1 with
   | false=>rw[hb]at hx;cases hx
   | true =>
    rw[hb]at hx
    have hi:e.iv∈Ve:=by
     rcases h.iv with h | h
     .rw[h]at hb;cases hb
     .exact h
    have T:=Vd hN hi;have:=Acj T;have hl:(Rx e.iv).length<=635:=by omega
    rw[DR.1 hx];exact⟨⟨A15,(by show Sp.chk (Rx e.iv)=0;rw[T.eq];exact bH T.fine fun h=>(by rw[T.A4F]at h;cases h)),by show(Rx e.iv).length<=_;omega⟩,hl⟩
  .cases hb: !(e.k % 8==p % 8)with
   | false=>rw[hb]at hx;cases hx
   | true =>rw[hb]at hx;obtain⟨h1,h2,_⟩:=A3f hN h.k;rw[DR.1 hx];exact⟨⟨A18,h1,by show(isB e.k).length<=_;omega⟩,by show(isB e.k).length<=_;omega⟩
theorem AsM (h0:0<(enX e p).length):Ayl (enX e p):=by
 refine⟨h0,?_,fun x hx=>(Aw6 hN h x hx).1,?_⟩
 .unfold enX;cases e.re != 0<;>cases e.iv != -1<;>cases !(e.k % 8==p % 8)<;>simp
 .unfold enX;cases e.re != 0<;>cases e.iv != -1<;>cases !(e.k % 8==p % 8)<;>simp [ApC,ApD,ApE]
theorem A1s:(enO e p).length<=3400:=by
 unfold enO;cases hb:decide (((enX e p).length:Int)>0)with
 | false=>exact DN _
 | true =>
  have h0:0<(enX e p).length:=by have:=D6 hb;omega
  have X:=AsM hN h h0;have:=Aml X hN (m:=635) fun x hx=>(Aw6 hN h x hx).2;have:(enX e p).length<=3:=by unfold enX;cases e.re != 0<;>cases e.iv != -1<;>cases !(e.k % 8==p % 8)<;>simp
  have:=Sp.JM 48 (xsC (enX e p));rw[cond_true];unfold xsB;omega
theorem AsL:(enC e p).length<=3450:=by have h1:=(Aej hN (n:=e.1) (by have:=h.s0;omega) (by have:=h.s1;omega)).len;have h2:=Sp.JM 2 (Xi e.1);have h3:=Acj (Vd hN h.ti);have h4:=A1s hN h (p:=p);unfold enC RS;rw[Dp,Dp];omega
theorem Ala:(enB e p).length<=3455:=by have:=AsL hN h (p:=p);have:=Sp.JM 48 (enC e p);unfold enB;omega
end
structure AhG (l:List PtL):Prop where
 ne:l≠ []
 len:l.length<=3
 all: ∀ p∈l,okP p
def psC (l:List PtL):Bs:=(l.map ptB).flatten
def psB (l:List PtL):Bs:=Sp.elem 48 (psC l)
def zPt:PtL:=([],0,false,[])
section
variable {N:Nat} (hN:1048578<N) {l:List PtL} (h:AhG l)
include hN h
theorem Aqp:(psC l).length<=6015:=by
 have:=Oo (g:=ptB) (M:=2005) (l:=l) fun p hp=>by have h1:=(Avo hN (h.all p hp)).len;have:=Sp.JM 48 (ptC p);show(Sp.elem 48 (ptC p)).length<=_;omega
 have:=h.len;unfold psC;omega
theorem A3u {d:Nat} (hd:d<=2):Par d (psC l) (l.map ptE):=AlD fun p hp=>(Avo hN (h.all p hp)).par d hd
theorem A1V:Fine (48,psC l):=(WC (by decide) (by decide) (by have:=Aqp hN h;omega))
theorem A3t:Sp.chk (psB l)=0:=bH (A1V hN h) fun _=>(A3u hN h (by decide)).nest
theorem AmN:Pm N l=some 0:=by
 have h3:=h.len;unfold Pm;try simp only[clR]
 simp (disch:=omega) only[JH];refine QS (fun i=>(i:Int)) l.length _ ?_ ?_ N
 .intro i hi k;have hp:=h.all _ (getD_mem zPt hi);unfold zPt at *
  dsimp only;rw[Int.toNat_natCast];generalize l.getD i ([],0,false,[])=p at *
  obtain⟨gs,r,b,n⟩:=p;obtain⟨⟨g,hg,hgs⟩,hr,hi'⟩:=hp;dsimp only at hgs hr hi';subst hgs;have hm:=AhH hr;have ck:=Aey hN (gs1 hg);have l1: [g].length=1:=rfl;rcases hi' with ⟨rfl,rfl⟩ | ⟨rfl,hn,hne⟩
  .simp (disch:=omega) only[JH,hm,ck,l1,List.length_nil,KX];try rfl
  .have hpos:=EO.2 hne;have hc:=X8 hN hn;simp (disch:=omega) only[JH,hm,ck,l1,hc,KX];try rfl
 .intro k;simp (disch:=omega) only[JH]
theorem A4f {n:List (List N7)} (hn:okN n):Pg N n=some (MN (4,[],n)):=by have h1:=Zt hN (gs1 (Aa0 hn));rw[AlB]at h1;unfold Pg;rw[h1];rfl
theorem Avn:Qa N l=some (psB l,0):=by
 have h3:=h.len;have hpos:=EO.2 h.ne;have hl:=Aqp hN h;unfold Qa;try simp only[clR]
 rw[AmN hN h,MO,cond_false,Jt,show((0:Int) != 0)=false from rfl,cond_false];refine(yZ (mk:=fun i t=>(t,(i:Int))) l zPt ptB (fun t=>Jr (Lh N 48 [t]) fun r=>some (r.1,r.2)) ?_ ?_ N).trans ?_
 .intro i t hi ht k;have hp:=h.all _ (getD_mem zPt hi);have hP:=Avo hN hp;unfold zPt psC at *
  dsimp only[U2];rw[Int.toNat_natCast];generalize l.getD i ([],0,false,[])=p at *
  have hlen:=hP.len;have ht:=Gs ht hl;unfold ptB at ht ⊢;obtain⟨gs,r,b,n⟩:=p;obtain⟨⟨g,hg,hgs⟩,hr,hi'⟩:=hp;dsimp only at hgs hr hi';subst hgs;have ge:=Zt hN (gs1 hg);have hle:=U0 hN (gs1 hg);have e1:=Sp.JM 160 (KT [g]);have w1:JV N 160 [KT [g]]=_:=QJ N 160 [KT [g]] (by omega) (by omega) hN (by simp) (by rw[Le];omega);have w2:JV N 160 [Sp.elem 160 (KT [g])]=_:=QJ N 160 [Sp.elem 160 (KT [g])] (by omega) (by omega) hN (by simp) (by rw[Le];omega);rw[Le]at w1 w2;have f1:Ny N [g]=some (Sp.elem 160 (Sp.elem 160 (KT [g]))):=by unfold Ny;rw[show((([g]:List GnL).length:Int)==0)=false from rfl,cond_false,ge,Jt];dsimp only;rw[w1,Jt,w2,Jt]
  have f2:PV N 129 r=some (flT 129 r):=by
   unfold PV;rcases hr with rfl | hr
   .rfl
   .have R:=XH hN hr;have w3:JV N 129 [Xg r]=_:=QJ N 129 [Xg r] (by omega) (by omega) hN (by simp) (by rw[Le];have:=R.len;omega);rw[Le]at w3;rw[MO R.ne,cond_false,R.Avw,Jt];dsimp only;rw[w3,Jt];unfold flT;rw[UU R.ne,cond_true]
  have wS:JV N 48 [Sp.elem 160 (Sp.elem 160 (KT [g])),flT 129 r,piT ([g],r,b,n)]=some (Sp.elem 48 (ptC ([g],r,b,n))):=by have:=QJ N 48 [Sp.elem 160 (Sp.elem 160 (KT [g])),flT 129 r,piT ([g],r,b,n)] (by omega) (by omega) hN (by simp) (by rw[X3];unfold ptC at hlen;dsimp only at hlen;omega);rw[X3]at this;exact this
  rw[uS (show(i:Int)<(l.length:Int) by omega),cond_true,Abh,JI,JI];simp only[KC];have fin: ∀ y:Bs,y=piT ([g],r,b,n)->U5 (fun t8b b34560_0b b34560_1b b34560_2b b34560_3b=>Jr (Ny N b34560_0b) fun r33=>Jr (PV N 129 b34560_1b) fun r36=>Jr (JV N 48 [r33,r36,t8b]) fun r39=>Vm.chk (decide (t.length+r39.length<=140737488355328)) (k (t++r39,i64.wrap ((i:Int)+1)))) (y,[g],r,b,n)=k (t++Sp.elem 48 (ptC ([g],r,b,n)),((i+1:Nat):Int)):=by intro y hy;subst hy;dsimp only[U5];rw[f1,Jt,f2,Jt,wS,Jt];simp (disch:=omega) only[JH,KX]
  rcases hi' with ⟨rfl,hn0⟩ | ⟨rfl,hn,_⟩
  .exact fin [] rfl
  .have d1:=A4f hN h hn;have:=Y4 hN (Aa0 hn);have w4:JV N 162 [MN (4,[],n)]=_:=QJ N 162 [MN (4,[],n)] (by omega) (by omega) hN (by simp) (by rw[Le];omega);rw[Le]at w4;rw[cond_true,d1,Jt,w4,Jt];exact fin _ rfl
 .intro t k;simp (disch:=omega) only[JH]
 .have w:Lh N 48 [(l.map ptB).flatten]=_:=yL N 48 [(l.map ptB).flatten] (by omega) (by omega) hN (by simp) (by rw[Le];unfold psC at hl;omega);rw[w,Jt,Le];rfl
end
abbrev Sc:Type:=List GnL×Bool×Bool×Int×Bool
def zSc:Sc:=([],false,false,0,false)
structure AoD (s:Sc):Prop where
 ns:AhF s.1
 re:okR s.2.2.2.1
 sh:(s.2.1=true/\s.2.2.1=false/\s.1=[])\/(s.2.1=false/\s.2.2.1=true/\s.1=[])\/(s.2.1=false/\s.2.2.1=false/\s.1≠ [])
def nsB (l:List GnL):Bs:=bif decide ((l.length:Int)>0)then Sp.elem 160 (Sp.elem 160 (KT l))else []
def nsE (l:List GnL):List El:=bif decide ((l.length:Int)>0)then [MF 160 (Sp.elem 160 (KT l))]else []
def boB (t:Nat) (b:Bool):Bs:=bif b then Sp.elem t [255]else []
def boE (t:Nat) (b:Bool):List El:=bif b then [MF t [255]]else []
def scC (s:Sc):Bs:=nsB s.1++(boB 129 s.2.1++(boB 130 s.2.2.1++(flT 131 s.2.2.2.1++boB 132 s.2.2.2.2)))
def scB (s:Sc):Bs:=Sp.elem 48 (scC s)
def scE (s:Sc):List El:=nsE s.1++(boE 129 s.2.1++(boE 130 s.2.2.1++(flE 131 s.2.2.2.1++boE 132 s.2.2.2.2)))
def AoV {t d:Nat} (b:Bool) (ht:t<256) (h31:t % 32≠31) (hc:Sp.cons t=false) (hd:d<16:=by omega):Par d (boB t b) (boE t b):=AfA b fun _=>AhM (WC ht h31 (by show 1<=_;omega)) hd hc
def AoU (t:Nat) (b:Bool):(boB t b).length<=6:=by
 have:=Sp.JM t [255];cases b with
 | true=>show(Sp.elem t [255]).length<=_;simp at this;omega
 | false=>exact DN _
section
variable {N:Nat} (hN:1048578<N)
include hN
theorem A3l {l:List GnL} (h:AhF l):(nsB l).length<=1260:=by
 have:=U0 hN h;have:=Sp.JM 160 (KT l);have:=Sp.JM 160 (Sp.elem 160 (KT l));unfold nsB;cases decide ((l.length:Int)>0)with
 | true=>rw[cond_true];omega
 | false=>exact DN _
theorem A3m {l:List GnL} (h:AhF l) {d:Nat} (hd:d<=4):Par d (nsB l) (nsE l):=AfA _ fun _=>by have:=U0 hN h;have:=Sp.JM 160 (KT l);exact WN (WC (by decide) (by decide)) (by omega) (WN (t:=160) (WC (by decide) (by decide)) (by omega) (Ah4 hN h).nest).nest
variable {s:Sc} (h:AoD s)
include h
theorem AqH:(scC s).length<=1300:=by have h1:=A3l hN h.ns;have h2:=AoU 129 s.2.1;have h3:=AoU 130 s.2.2.1;have h4:=AoU 132 s.2.2.2.2;have h5:=Atb h.re 131;unfold scC;rw[Dp,Dp,Dp,Dp];omega
theorem A36 {d:Nat} (hd:d<=4):Par d (scC s) (scE s):=dE (A3m hN h.ns hd) (dE (AoV _ (by decide) (by decide) (by decide)) (dE (AoV _ (by decide) (by decide) (by decide)) (dE (AwH h.re (by decide) (by decide) (by omega) (by decide)) (AoV _ (by decide) (by decide) (by decide)))))
theorem A2h:Fine (48,scC s):=(WC (by decide) (by decide) (by have:=AqH hN h;omega))
theorem A35:Sp.chk (scB s)=0:=bH (A2h hN h) fun _=>(A36 hN h (by decide)).nest
end
def A2O (e:En):(enY e).1=e.1:=rfl
def A2P (e:En):(enY e).2.1=e.2.1:=rfl
def A2Q (e:En):(enY e).2.2.2.1=e.iv:=rfl
def A4B (e:En):(enY e).2.2.2.2=aut e.k:=rfl
structure Li:Type where
 k:Nat
 this:Int
 next:Int
 num:Int
 base:Int
 ak:Bs
 hs:Bool
 s:Sc
 fr:List PtL
 es:List En
def akV:Bs:=[102,101,100,99,98,97,57,56,55,54,53,52,51,50,49,48]
def zE:En:=(0,0,0,0,0)
def zY:Ey:=(0,0,0,0,[])
abbrev Ly:Type:=Bs×Bs×List (List N7)×Int×Int×Int×Int×Bs×Bool×List GnL×Bool×Bool×Int×Bool×List PtL×List Ey×Bs
def Li.y (x:Li) (raw tbs sig:Bs):Ly:=(raw,tbs,aut x.k,x.this,x.next,x.num,x.base,x.ak,x.hs,x.s.1,x.s.2.1,x.s.2.2.1,x.s.2.2.2.1,x.s.2.2.2.2,x.fr,x.es.map enY,sig)
structure OkL (x:Li):Prop where
 k:x.k<16
 th:x.this∈Ve
 nx:x.next∈Ve
 le:x.this<=x.next
 n0:1<=x.num
 n1:x.num<=200
 b:x.base= -1\/(0<=x.base/\x.base<x.num)
 ak:x.ak=[]\/x.ak=akV
 sc:(x.hs=false/\x.s=zSc)\/(x.hs=true/\AoD x.s)
 fr:x.fr=[]\/(x.base= -1/\AhG x.fr)
 len:x.es.length<=5
 all: ∀ e∈x.es,OkE x.base x.s.2.2.2.2 x.k e
 nd:x.es.Pairwise fun a b=> ¬(a.1=b.1/\a.k % 8=b.k % 8)
def AjB {α β :Type} (f: α -> β) (l:List α) (d: α) (c: β) {i:Nat} (h:i<l.length):(l.map f).getD i c=f (l.getD i d):=by rw[getD_lt _ _ _ (by rw[Dz];exact h),FV,getD_lt l i d h]
def Ahy (j:Nat) (s:Int) (e:En):Bool:=e.1==s&&e.k % 8==j % 8
section
variable {N:Nat} (hN:1048578<N)
include hN
theorem AzU {es:List En} (hk: ∀ e∈es,e.k<16) (hl:es.length<=100) {j:Nat} (hj:j<16) (s:Int) {y:Ly} (hy:y.2.2.2.2.2.2.2.2.2.2.2.2.2.2.2.1=es.map enY):V8 N y (aut j) s=some (match (List.range es.length).find? fun i=>Ahy j s (es.getD i zE)with | some i=>(enY (es.getD i zE),true) | none=>(zY,false)):=by
 have hlm:(es.map enY).length=es.length:=Dz _;unfold V8;try simp -zeta only[Ap]
 rw[hy];refine(vJ (X:=Int×List (List N7)) (fun i (_:Unit)=>(i,aut j)) (List.range es.length) 0 (fun _ _=>True) (fun i (_:Unit)=>if Ahy j s (es.getD i zE)then(.inl (some (enY (es.getD i zE),true)):Option (Ey×Bool) ⊕ Unit)else .inr ()) (fun _=>some (zY,false)) (fun i u hi _=> ?_) (fun u k _=> ?_) N () trivial (by rw[Ef];omega)).trans (Aze _ (fun i=>(enY (es.getD i zE),true)) (zY,false) _)
 .rw[Ef]at hi;rw[AbJ hi];have hm:=(Xw hN (hk _ (getD_mem zE hi))).rmt j hj;have e1:=AjB enY es zE zY hi;unfold zY at e1;refine Asq trivial fun k=> ?_;dsimp only[U2];rw[hlm,Int.toNat_natCast,e1];unfold enY Ahy;simp (disch:=omega) only[JH,hm,Option.isSome_some,Option.getD_some,TM,VF,Tj,KX];cases (es.getD i zE).1==s<;>cases ((es.getD i zE).k % 8==j % 8)<;>rfl
 .dsimp only[U2];rw[Ef,hlm,A50];rfl
variable {x:Li} (h:OkL x)
include h
omit hN in
omit hN in
theorem A4k {i j:Nat} (hi:i<j) (hj:j<x.es.length):Ahy (x.es.getD j zE).k (x.es.getD j zE).1 (x.es.getD i zE)=false:=by
 have:=Ip.1 h.nd i j (by omega) hj hi;rw[getD_lt _ i zE,getD_lt _ j zE hj];unfold Ahy;rw[Fv];by_cases h1:(x.es[i]).1=(x.es[j]).1
 .right;exact EP fun e=>this ⟨h1,e⟩
 .left;exact EP h1
variable (raw tbs sig:Bs)
end
def Xd:Bs:=(NV 300).getD []
def xB:Bs:=Xd.drop 2
def A25 (M:Nat):Bool:=NV (M+300)==some Xd&&(Qo (M+300)==some Xd&&(LJ (M+300) (MF 48 xB)==some 0&&(Xd==Sp.elem 48 xB&&(decide (xB.length<=30)&&Sp.within (xB.length+1) 3 xB==0))))
def A0Y (M:Nat):A25 M=true:=by kernel_rfl
structure A02 (N:Nat):Prop where
 enc:NV N=some Xd
 sH:Qo N=some Xd
 chk:LJ N (MF 48 xB)=some 0
 eq:Xd=Sp.elem 48 xB
 len:xB.length<=30
 nest:Xa 3 xB
def Aiu {N:Nat} (hN:1048578<N):A02 N:=by obtain⟨M,rfl⟩:=ofM hN;have h:=A0Y M;unfold A25 at h;simp only[Dq,EN,D5]at h;obtain⟨h1,h2,h3,h4,h5,h6⟩:=h;exact⟨h1,h2,h3,h4,h5,h6⟩
def AoJ {N:Nat} (h:A02 N):Xd.length<=35:=by have:=h.len;have:=Sp.JM 48 xB;rw[h.eq];omega
def Azn:Bs:=[50,46,53,46,50,57,46,51,53]
def Azk:Bs:=[50,46,53,46,50,57,46,50,48]
def Azl:Bs:=[50,46,53,46,50,57,46,50,55]
def Azm:Bs:=[50,46,53,46,50,57,46,50,56]
def Azo:Bs:=[50,46,53,46,50,57,46,52,54]
def A19:Azn∈Zq:=by decide
def A13:Azk∈Zq:=by decide
def A16:Azl∈Zq:=by decide
def A17:Azm∈Zq:=by decide
def A1A:Azo∈Zq:=by decide
def lx (x:Li):List ExL:=(bif !(x.ak==[])then [(Azn,false,Sp.elem 48 (Sp.elem 128 x.ak))]else [])++([(Azk,false,RS 2 x.num)]++((bif x.base != -1 then [(Azl,true,RS 2 x.base)]else [])++((bif x.hs then [(Azm,true,scB x.s)]else [])++(bif decide ((x.fr.length:Int)>0)then [(Azo,false,psB x.fr)]else []))))
def AsV (x:Li):(lx x).length<=5:=by unfold lx;cases !(x.ak==[])<;>cases x.base != -1<;>cases x.hs<;>cases decide ((x.fr.length:Int)>0)<;>simp
def vK (x:Li) (i:Nat):Nat:=if i=0 then x.k else(x.es.getD (i - 1) zE).k
def esF (x:Li) (i:Nat):Bs:=enB (x.es.getD i zE) (vK x i)
def esB (x:Li):List Bs:=(List.range x.es.length).map (esF x)
def mV (x:Li):Bs:=bif decide ((x.es.length:Int)>0)then Sp.elem 48 (esB x).flatten else []
def AqS (x:Li):List Bs:=[RS 2 1,Xd,nmT (aut x.k),Rx x.this,Rx x.next,mV x,Sp.elem 160 (xsB (lx x))]
def Afn (x:Li):Bs:=RS 2 1++(Xd++(nmT (aut x.k)++(Rx x.this++(Rx x.next++(mV x++Sp.elem 160 (xsB (lx x)))))))
def Xv (x:Li):Bs:=Sp.elem 48 (Afn x)
def AqT (x:Li):(AqS x).flatten=Afn x:=by simp [AqS,Afn]
def AxH {l:List PtL} {b:Int} (h:l=[]\/(b= -1/\AhG l)) (hb:decide ((l.length:Int)>0)=true):AhG l:=by
 rcases h with rfl | h
 .cases hb
 .exact h.2
section
variable {N:Nat} (hN:1048578<N) {x:Li} (h:OkL x)
include hN h
theorem A4b:Sp.chk (Sp.elem 48 (Sp.elem 128 x.ak))=0/\(Sp.elem 48 (Sp.elem 128 x.ak)).length<=40/\(x.ak==[]||QX N (Sp.elem 48 (Sp.elem 128 x.ak))==some (x.ak,0))=true:=by
 rcases h.ak with h | h
 .rw[h];exact⟨by kernel_rfl,D6 (by kernel_rfl),rfl⟩
 .rw[h];obtain⟨M,rfl⟩:=ofM hN;exact⟨by kernel_rfl,D6 (by kernel_rfl),by kernel_rfl⟩
theorem A3h: ∀ e∈lx x,OkX e:=by
 intro e he;have b0:=h.b;have n0:=h.n0;have n1:=h.n1;have int: ∀ n:Int,0<=n->n<256->Sp.chk (RS 2 n)=0/\(RS 2 n).length<=8000:=fun n g0 g1=>by have I:=Aej hN g0 g1;have:=I.len;have:=Sp.JM 2 (Xi n);exact⟨bH (ApF I) fun h=>absurd h (by decide),by unfold RS;omega⟩
 unfold lx at he;rcases DK.1 he with he | he
 .cases hb: !(x.ak==[])with
  | false=>rw[hb]at he;cases he
  | true =>rw[hb]at he;obtain⟨a1,a2,_⟩:=A4b hN h;rw[DR.1 he];exact⟨A19,a1,by show(Sp.elem 48 (Sp.elem 128 x.ak)).length<=_;omega⟩
 rcases DK.1 he with he | he
 .obtain⟨a1,a2⟩:=int x.num (by omega) (by omega);rw[DR.1 he];exact⟨A13,a1,a2⟩
 rcases DK.1 he with he | he
 .cases hb:x.base != -1 with
  | false=>rw[hb]at he;cases he
  | true =>
   rw[hb]at he;have hb':x.base≠ -1:=by simpa using hb
   obtain⟨a1,a2⟩:=int x.base (by omega) (by omega);rw[DR.1 he];exact⟨A16,a1,a2⟩
 rcases DK.1 he with he | he
 .cases hb:x.hs with
  | false=>rw[hb]at he;cases he
  | true =>
   rw[hb]at he
   have S:AoD x.s:=by
    rcases h.sc with ⟨h1,_⟩ | ⟨_,h1⟩
    .rw[hb]at h1;cases h1
    .exact h1
   have:=AqH hN S;have:=Sp.JM 48 (scC x.s);rw[DR.1 he];exact⟨A17,A35 hN S,by show(scB x.s).length<=_;unfold scB;omega⟩
 .cases hb:decide ((x.fr.length:Int)>0)with
  | false=>rw[hb]at he;cases he
  | true =>rw[hb]at he;have P:=AxH h.fr hb;have:=Aqp hN P;have:=Sp.JM 48 (psC x.fr);rw[DR.1 he];exact⟨A1A,A3t hN P,by show(psB x.fr).length<=_;unfold psB;omega⟩
theorem AuO:Ayl (lx x):=by
 refine⟨?_,?_,A3h hN h,?_⟩
 all_goals
  unfold lx;cases !(x.ak==[])<;>cases x.base != -1<;>cases x.hs<;>cases decide ((x.fr.length:Int)>0)<;>simp [Azn,Azk,Azl,Azm,Azo]
end
section
variable {N:Nat} (hN:1048578<N) {x:Li} (h:OkL x)
include h
theorem Azw {i:Nat} (hi:i<=x.es.length):vK x i<16:=by
 unfold vK;by_cases h0:i=0
 .rw[Dn h0];exact h.k
 .rw[Dk h0];exact(h.all _ (getD_mem zE)).k
include hN
theorem es_len:(esB x).flatten.length<=17275:=by have:=Oo (g:=esF x) (M:=3455) (l:=List.range x.es.length) fun i hi=>Ala hN (h.all _ (getD_mem zE (Fe.1 hi)));rw[Ef]at this;have:=h.len;unfold esB;omega
theorem AyW:(mV x).length<=17280:=by
 have:=es_len hN h;have:=Sp.JM 48 (esB x).flatten;unfold mV;cases decide ((x.es.length:Int)>0)with
 | true=>rw[cond_true];omega
 | false=>exact DN _
theorem Amc:(Afn x).length<=59000:=by have h1:=(Aej hN (n:=1)).len;have h2:=Sp.JM 2 (Xi 1);have h3:=AoJ (Aiu hN);have h4:=Al7 hN (Xw hN h.k).ok;have h5:=Acj (Vd hN h.th);have h6:=Acj (Vd hN h.nx);have h7:=AyW hN h;have h8:=Atm (AuO hN h) hN (AsV x);have h9:=Sp.JM 48 (xsC (lx x));have h10:=Sp.JM 160 (xsB (lx x));unfold xsB at h10;unfold Afn RS xsB;rw[Dp,Dp,Dp,Dp,Dp,Dp];omega
theorem AqR:(Xv x).length<=59005:=by have:=Amc hN h;have:=Sp.JM 48 (Afn x);unfold Xv;omega
theorem A2v:(xsB (lx x)).length<=40145:=by have:=Atm (AuO hN h) hN (AsV x);have:=Sp.JM 48 (xsC (lx x));unfold xsB;omega
variable (raw tbs sig:Bs)
end
section
variable {N:Nat} (hN:1048578<N)
include hN
theorem AjG {n:Int} (h0:0<=n:=by omega) (h1:n<256:=by omega) {t:Nat} (ht:t<256:=by omega) (h31:t % 32≠31:=by omega):LQ N (t:Int) n=some (RS t n):=by have I:=Aej hN h0 h1;have w:=QJ N t [Xi n] ht h31 hN (by simp) (by rw[Le];have:=I.len;omega);rw[Le]at w;unfold LQ;rw[I.Avw,Jt,w];rfl
theorem AoW {t:Nat} (b:Bool) (ht:t<256:=by omega) (h31:t % 32≠31:=by omega):Ov N (t:Int) b=some (boB t b):=by
 unfold Ov;cases b with
 | false=>rfl
 | true =>have w3:=QJ N t [[255]] ht h31 hN;rw[EI,cond_false];show Jr (some [255]) _=_;rw[Jt,w3];rfl
theorem A1y {r:Int} (h:okR r) {t:Nat} (ht:t<256) (h31:t % 32≠31):PV N (t:Int) r=some (flT t r):=by
 unfold PV;rcases h with rfl | hr
 .rfl
 .have R:=XH hN hr;have w3:=QJ N t [Xg r] ht h31 hN (by simp) (by rw[Le];have:=R.len;omega);rw[Le]at w3;rw[MO R.ne,cond_false,R.Avw,Jt];dsimp only;rw[w3,Jt];unfold flT;rw[UU R.ne,cond_true]
theorem A2W {l:List GnL} (h:AhF l):Ny N l=some (nsB l):=by
 unfold Ny nsB;cases l with
 | nil=>rfl
 | cons a r =>have ge:=Zt hN h;have hle:=U0 hN h;have e1:=Sp.JM 160 (KT (a::r));have w1:JV N 160 [KT (a::r)]=_:=QJ N 160 [KT (a::r)] (by omega) (by omega) hN (by simp) (by rw[Le];omega);have w2:JV N 160 [Sp.elem 160 (KT (a::r))]=_:=QJ N 160 [Sp.elem 160 (KT (a::r))] (by omega) (by omega) hN (by simp) (by rw[Le];omega);rw[Le]at w1 w2;rw[MO (by rw[List.length_cons];omega),cond_false,A0F (by rw[List.length_cons];omega),cond_true,ge,Jt];dsimp only;rw[w1,Jt,w2,Jt]
theorem A1v {base:Int} {ind:Bool} {p q:Nat} {e:En} (h:OkE base ind q e) (hp:p<16):fH N (enY e) (aut p)=some (enB e p):=by
 have A:=Xw hN h.k;have hm:=A.rmt p hp;have T:=(Vd hN h.ti).sH;have hr:=Aqy h.re;have nI:LQ N 2 e.1=_:=AjG hN (n:=e.1) (by have:=h.s0;omega) (by have:=h.s1;omega) (t:=2) (by omega) (by omega);have nR:LQ N 10 e.re=_:=AjG hN (n:=e.re) (by omega) (by omega) (t:=10) (by omega) (by omega);have hl:=AsL hN h (p:=p);have hgl:=Y4 hN (Aa0 A.ok);have hd:Pg N (aut e.k)=some (MN (4,[],aut e.k)):=by have h1:=Zt hN (gs1 (Aa0 A.ok));rw[AlB]at h1;unfold Pg;rw[h1];rfl
 have wI:JV N 48 [MN (4,[],aut e.k)]=some (isB e.k):=by have:=QJ N 48 [MN (4,[],aut e.k)] (by omega) (by omega) hN (by simp) (by rw[Le];omega);rw[Le]at this;exact this
 have wS:JV N 48 [RS 2 e.1,Rx e.2.1,enO e p]=some (enB e p):=by have:=QJ N 48 [RS 2 e.1,Rx e.2.1,enO e p] (by omega) (by omega) hN (by simp) (by rw[X3];unfold enC at hl;omega);rw[X3]at this;exact this
 have wX:decide (((enX e p).length:Int)>0)=true->MI N (enX e p)=some (xsB (enX e p),0):=fun hb=>Akv (AsM hN h (by have:=D6 hb;omega)) hN;have hiv2:(e.iv != -1)=true->Nk N e.iv=some (Rx e.iv,0):=fun hn=>(Vd hN (h.iv.resolve_left (by simpa using hn))).sH
 have fin:(KC (fun j4=>bif decide (((enX e p).length:Int)>(0:Int))then(Jr (MI N (enX e p)) fun r54=>j4 (r54.1,e.1,e.2.1,e.re,e.iv,aut e.k))else(j4 (([]:Bs),e.1,e.2.1,e.re,e.iv,aut e.k)))
  (U6 fun t8d b33280_0d b33280_1d b33280_2d b33280_3d (b33280_4d:List (List N7))=>Jr (Nk N b33280_1d) fun r60=>Jr (LQ N 2 b33280_0d) fun r65=>Jr (JV N 48 ([r65,r60.1,t8d]:List Bs)) fun r69=>some r69):Option Bs)=some (enB e p):=by
  rw[TT];cases hb:decide (((enX e p).length:Int)>0)with
  | true =>
   have hO:enO e p=xsB (enX e p):=by unfold enO;rw[hb];rfl
   rw[hO]at wS;rw[cond_true,wX hb,Jt];dsimp only[U6];rw[T,Jt,nI,Jt];dsimp only;rw[wS,Jt]
  | false =>
   have hO:enO e p=[]:=by unfold enO;rw[hb];rfl
   rw[hO]at wS;rw[cond_false];dsimp only[U6];rw[T,Jt,nI,Jt];dsimp only;rw[wS,Jt]
 unfold fH;try simp only[clR]
 refine ER ?_ fin;unfold enX enY;dsimp only;cases h1:e.re != 0<;>cases h2:e.iv != -1<;>cases h3:(e.k % 8==p % 8)
 all_goals
  rw[h3]at hm
  first
   | (have hv:=hiv2 h2
      simp (disch:=omega) only[JH,h1,h2,h3,nR,hv,hm,hd,wI,List.length_cons,List.length_nil,List.nil_append,List.cons_append,ApC,ApD,ApE,RS]
      done)
   | (simp (disch:=omega) only[JH,h1,h2,h3,nR,hm,hd,wI,List.length_cons,List.length_nil,List.nil_append,List.cons_append,ApC,ApD,ApE,RS]
      done)
theorem AzH {l:List PtL} {b:Int} (h:l=[]\/(b= -1/\AhG l)):Pm N l=some 0:=by
 rcases h with rfl | h
 .obtain⟨M,rfl⟩:=ofM hN;kernel_rfl
 .exact AmN hN h.2
variable {x:Li} (h:OkL x)
include h
theorem A2T (raw tbs sig:Bs):Ph N (x.y raw tbs sig)=some (lx x,0):=by
 have b0:=h.b;have n0:=h.n0;have n1:=h.n1;have wn:LQ N 2 x.num=some (RS 2 x.num):=AjG hN (t:=2)
 have wb:(x.base != -1)=true->LQ N 2 x.base=some (RS 2 x.base):=fun hb=>by
  have hb':x.base≠ -1:=by simpa using hb
  exact AjG hN (t:=2)
 have wa:JV N 128 [x.ak]=some (Sp.elem 128 x.ak)/\JV N 48 [Sp.elem 128 x.ak]=some (Sp.elem 48 (Sp.elem 128 x.ak)):=by
  have hl:x.ak.length<=16:=by
   rcases h.ak with h | h<;>rw[h]
   .exact DN _
   .decide
  have:=Sp.JM 128 x.ak;have w:=QJ N 128 [x.ak] (by omega) (by omega) hN (by simp) (by rw[Le];omega);have v:=QJ N 48 [Sp.elem 128 x.ak] (by omega) (by omega) hN (by simp) (by rw[Le];omega);rw[Le]at w v;exact⟨w,v⟩
 have hsc:x.hs=true->Ny N x.s.1=some (nsB x.s.1)/\Ov N 129 x.s.2.1=some (boB 129 x.s.2.1)/\Ov N 130 x.s.2.2.1=some (boB 130 x.s.2.2.1)/\PV N 131 x.s.2.2.2.1=some (flT 131 x.s.2.2.2.1)/\Ov N 132 x.s.2.2.2.2=some (boB 132 x.s.2.2.2.2) /\
  JV N 48 [nsB x.s.1,boB 129 x.s.2.1,boB 130 x.s.2.2.1,flT 131 x.s.2.2.2.1,boB 132 x.s.2.2.2.2]=some (scB x.s):=fun hb=>by
  have S:AoD x.s:=by
   rcases h.sc with ⟨h1,_⟩ | ⟨_,h1⟩
   .rw[hb]at h1;cases h1
   .exact h1
  have hlen:=AqH hN S;have hf: [nsB x.s.1,boB 129 x.s.2.1,boB 130 x.s.2.2.1,flT 131 x.s.2.2.2.1,boB 132 x.s.2.2.2.2].flatten=scC x.s:=by simp [scC]
  have wS:=QJ N 48 [nsB x.s.1,boB 129 x.s.2.1,boB 130 x.s.2.2.1,flT 131 x.s.2.2.2.1,boB 132 x.s.2.2.2.2] (by omega) (by omega) hN (by simp) (by rw[hf];omega);rw[hf]at wS;exact⟨A2W hN S.ns,AoW hN (t:=129) _,AoW hN (t:=130) _,A1y hN S.re (t:=131) (by omega) (by omega),AoW hN (t:=132) _,wS⟩
 have wp:decide ((x.fr.length:Int)>0)=true->Qa N x.fr=some (psB x.fr,0):=fun hb=>Avn hN (AxH h.fr hb);obtain⟨wa1,wa2⟩:=wa;obtain⟨k,this,next,num,base,ak,hs,s,fr,es⟩:=x;obtain⟨s1,s2,s3,s4,s5⟩:=s;unfold Ph lx Li.y;try simp only[clR]
 dsimp only at *
 simp only[TT];cases h1: !(ak==[])<;>cases h2:base != -1<;>cases h3:hs<;>cases h4:decide ((fr.length:Int)>0)
 all_goals
  try subst h3
  simp only[h2,h4,forall_const,true_implies]at wb hsc wp;try dsimp only at wb hsc wp
  try obtain⟨c1,c2,c3,c4,c5,c6⟩:=hsc
  first
   | (simp (disch:=omega) only[JH,h1,h2,h4,wa1,wa2,wn,wb,c1,c2,c3,c4,c5,c6,wp,Gh,U18,List.cons_append,List.nil_append,List.length_cons,List.length_nil]
      try rfl)
   | (simp (disch:=omega) only[JH,h1,h2,h4,wa1,wa2,wn,wb,wp,Gh,U18,List.cons_append,List.nil_append,List.length_cons,List.length_nil]
      try rfl)
end
section
variable {x:Li} (h:OkL x)
include h
omit h in
omit h in
end
section
variable {N:Nat} (hN:1048578<N) {base:Int} {ind:Bool} {p q d:Nat} {e:En} (h:OkE base ind q e)
include hN h
end
section
variable {N:Nat} (hN:1048578<N) {x:Li} (h:OkL x)
include hN h
end
section
variable {N:Nat} (hN:1048578<N) {x:Li} (h:OkL x)
include h
include hN
end
def Av0 (t sig:Bs):Bs:=t++(Xd++Sp.elem 3 (0::sig))
def Ao7 (t sig:Bs):Bs:=Sp.elem 48 (Av0 t sig)
section
variable {N:Nat} (hN:1048578<N) {x:Li} (h:OkL x)
include hN h
end
def Aff:Bs:=[110,111,32,115,105,103,110,97,116,117,114,101]
section
variable {N:Nat} (hN:1048578<N) {x:Li} (h:OkL x) (raw tbs sig:Bs)
include hN h
theorem A2j:Rw N (x.y raw tbs sig)=some 0:=by
 rcases h.sc with ⟨h1,h2⟩ | ⟨h1,S⟩
 .unfold Rw Li.y;try simp -zeta only[Ap]
  try dsimp only
  rw[h1,h2];obtain⟨M,rfl⟩:=ofM hN;kernel_rfl
 .have hm:=AhH S.re;have nm:=Aey hN S.ns
  have z:Qq N (x.s.1,x.s.2.1,x.s.2.2.1,x.s.2.2.2.1,x.s.2.2.2.2)=some false/\(x.s.2.1&&x.s.2.2.1)=false:=by
   unfold Qq;try simp -zeta only[Ap]
   try dsimp only
   rcases S.sh with ⟨g1,g2,g3⟩ | ⟨g1,g2,g3⟩ | ⟨g1,g2,g3⟩
   .rw[g1,g2];refine⟨?_,rfl⟩;cases ((x.s.1.length:Int)==0)<;>cases x.s.2.2.2.1==0<;>cases x.s.2.2.2.2<;>rfl
   .rw[g1,g2];refine⟨?_,rfl⟩;cases ((x.s.1.length:Int)==0)<;>cases x.s.2.2.2.1==0<;>cases x.s.2.2.2.2<;>rfl
   .have hp:=EO.2 g3;rw[g1,g2,MO (show(x.s.1.length:Int)≠0 by omega)];refine⟨?_,rfl⟩;cases x.s.2.2.2.1==0<;>cases x.s.2.2.2.2<;>rfl
  obtain⟨z1,z2⟩:=z;unfold Rw Li.y;try simp -zeta only[Ap]
  try dsimp only
  rw[h1,z1,hm,nm];have z3:(bif x.s.2.1 then x.s.2.2.1 else false)=false:=by rw[AsB];exact z2
  rw[z3];cases x.s.2.1<;>rfl
theorem AyV {i:Nat} (hi:i<x.es.length):UM N (x.y raw tbs sig) (i:Int)=some 0:=by
 have hE:=h.all _ (getD_mem zE hi);have A:=Xw hN hE.k;have e1:=AjB enY x.es zE zY hi;have hlm:(x.es.map enY).length=x.es.length:=Dz _;have hl5:=h.len;have T:=Vd hN hE.ti;have t0:=T.p0;have t1:=T.p1
 have hiv: -1<=(x.es.getD i zE).iv/\(x.es.getD i zE).iv<=254033452799:=by
  rcases hE.iv with h | h
  .rw[h];decide
  .have T:=Vd hN h;have:=T.p0;have:=T.p1;omega
 have s0:=hE.s0;have s1:=hE.s1;have hr8:=hE.r8;have hne:=AsA A;have hc:=X8 hN A.ok;have hm:=A.rmt x.k h.k;have his:=hE.is
 have hreason:TZ N (x.es.getD i zE).re=some true:=by
  have: ∀ r∈reL,TZ N r=some true:=by intro r hr;obtain⟨M,rfl⟩:=ofM hN;have:=D8.1 (show reL.all (fun r=>TZ (M+300) r==some true)=true by kernel_rfl) r hr;exact FB this
  exact this _ hE.re
 have h8:((x.es.getD i zE).re==8&&x.base== -1)=false:=by
  cases h8:(x.es.getD i zE).re==8 with
  | false=>rfl
  | true=>exact EP (hr8 (FB h8))
 have h31:(!x.s.2.2.2.2&& !((x.es.getD i zE).k % 8==x.k % 8))=false:=by
  rcases his with h | h
  .rw[h];rfl
  .rw[h,ET,EI,Ha]
 have d1:decide ((enY (x.es.getD i zE)).1<1)=false:=Dw (by rw[A2O];omega);have d2:decide ((enY (x.es.getD i zE)).1>4611686018427387904)=false:=Dw (by rw[A2O];omega);have d3:decide ((enY (x.es.getD i zE)).2.1<0)=false:=Dw (by rw[A2P];omega);have d4:decide ((enY (x.es.getD i zE)).2.1>254033452799)=false:=Dw (by rw[A2P];omega);have d5:decide ((enY (x.es.getD i zE)).2.2.2.1< -1)=false:=Dw (by rw[A2Q];omega);have d6:decide ((enY (x.es.getD i zE)).2.2.2.1>254033452799)=false:=Dw (by rw[A2Q];omega);have c1:(((enY (x.es.getD i zE)).2.2.2.2.length:Int)==0)=false:=MO (by rw[A4B];omega);have c2:Nv N (enY (x.es.getD i zE)).2.2.2.2=some 0:=hc;have c3:LK N (enY (x.es.getD i zE)).2.2.2.2 (aut x.k)=some ((x.es.getD i zE).k % 8==x.k % 8):=hm;have c4:TZ N (enY (x.es.getD i zE)).2.2.1=some true:=hreason;have c5:((enY (x.es.getD i zE)).2.2.1==8&&x.base== -1)=false:=h8;have c6:(!x.s.2.2.2.2&& !((x.es.getD i zE).k % 8==x.k % 8))=false:=h31;unfold UM Li.y;try simp -zeta only[Ap]
 try dsimp only
 rw[hlm,Int.toNat_natCast];unfold zY at e1;rw[e1,Abh,uS,JI,JI];try simp only[clR]
 rw[d1,d2,d3,d4,d5,d6];simp only[EI,Et,EF,DU,FP,F7,FM,JI,cond_true,cond_false,GG];rw[c4,Jt];simp only[EI,Et,EF,DU,FP,F7,FM,JI,cond_true,cond_false,GG,FD,FW,FH,TM,Tj,VF];rw[c5,cond_false,c1,cond_false,c2,Jt,show((0:Int) != 0)=false from rfl,cond_false,c3];simp only[Option.isSome_some,Option.getD_some,EI,Et,EF,DU,JI,TM,Tj,VF];rw[c6,cond_false];refine(QS (fun j=>((j:Int),raw,tbs,aut x.k,x.this,x.next,x.num,x.base,x.ak,x.hs,x.s.1,x.s.2.1,x.s.2.2.1,x.s.2.2.2.1,x.s.2.2.2.2,x.fr,x.es.map enY,sig,(enY (x.es.getD i zE)).1,(enY (x.es.getD i zE)).2.1,(enY (x.es.getD i zE)).2.2.1,(enY (x.es.getD i zE)).2.2.2.1,(enY (x.es.getD i zE)).2.2.2.2)) i (some 0) ?_ ?_ N)
 .intro j hj k;have g1:=AjB enY x.es zE zY (show j<x.es.length by omega);have g2:=A4k h hj hi;have g3:LK N (enY (x.es.getD j zE)).2.2.2.2 (enY (x.es.getD i zE)).2.2.2.2=some ((x.es.getD j zE).k % 8==(x.es.getD i zE).k % 8):=(Xw hN (h.all _ (getD_mem zE (show j<x.es.length by omega))).k).rmt _ hE.k;have g4:((enY (x.es.getD j zE)).1==(enY (x.es.getD i zE)).1&&(x.es.getD j zE).k % 8==(x.es.getD i zE).k % 8)=false:=g2;unfold zY at g1;dsimp only[U23];rw[uS,cond_true,hlm,Int.toNat_natCast,g1,g3,Abh,uS];simp only[Option.isSome_some,Option.getD_some,DU,JI,TM,Tj,VF];rw[g4,cond_false,w64];rfl
 .intro k;dsimp only[U23];rw[Aou,cond_false]
theorem ArL:V7 N (x.y raw tbs sig)=some 0:=by
 have A:=Xw hN h.k;have hp:=AsA A;have hc:=X8 hN A.ok;have T1:=Vd hN h.th;have T2:=Vd hN h.nx;have a0:=T1.p0;have a1:=T1.p1;have a2:=T2.p0;have a3:=T2.p1;have a4:=h.le;have a5:=h.n0;have a6:=h.n1;have hb: -1<=x.base/\x.base<=200:=by rcases h.b with h | h<;>omega
 have hb2:(x.base != -1&&decide (x.base>=x.num))=false:=by
  rcases h.b with h | h
  .rw[h];rfl
  .rw[A0E (by omega),Ha]
 have hak:x.ak.length<=32:=by rcases h.ak with h | h<;>rw[h]<;>decide
 have hfr:=AzH hN h.fr
 have hfr2:(x.base != -1&&decide ((x.fr.length:Int)>0))=false:=by
  rcases h.fr with h | h
  .rw[h];exact Ha _
  .rw[h.1];rfl
 have hsc:=A2j hN h raw tbs sig;have hlm:(x.es.map enY).length=x.es.length:=Dz _;have h5:=h.len;have d1:decide (x.this<0)=false:=A50;have d2:decide (x.this>254033452799)=false:=A50;have d3:decide (x.next<0)=false:=A50;have d4:decide (x.next>254033452799)=false:=A50;have d5:decide (x.this>x.next)=false:=A50;have d6:decide (x.num<0)=false:=A50;have d7:decide (x.num>4611686018427387904)=false:=A50;have d8:decide (x.base< -1)=false:=A50;have d9:decide (x.base>4611686018427387904)=false:=A50;unfold V7;try simp only[clR]
 rw[hsc];unfold Li.y;dsimp only;rw[hlm,hfr];rw[MO,cond_false,hc,Jt,show((0:Int) != 0)=false from rfl,cond_false,d1,d2,d3,d4,d5,d6,d7,d8,d9];simp only[hb2,hfr2,AsB,EI,Et,EF,DU,FP,F7,FD,FM,FW,FH,JI,TM,Tj,VF,cond_true,cond_false,GG];rw[Aos,cond_false,Jt,show((0:Int) != 0)=false from rfl,cond_false,Jt,show((0:Int) != 0)=false from rfl,cond_false,Aos,cond_false];refine(QS (fun i=>((i:Int),raw,tbs,aut x.k,x.this,x.next,x.num,x.base,x.ak,x.hs,x.s.1,x.s.2.1,x.s.2.2.1,x.s.2.2.2.1,x.s.2.2.2.2,x.fr,x.es.map enY,sig)) x.es.length (some 0) ?_ ?_ N)
 .intro i hi k;have he:=AyV hN h raw tbs sig hi;unfold Li.y at he;dsimp only[U18];rw[uS,cond_true];refine(congrArg (fun o=>Jr o _) he).trans ?_;rw[Jt,show((0:Int) != 0)=false from rfl,cond_false,w64];rfl
 .intro k;dsimp only[U18];rw[Aou,cond_false]
theorem A4a:RJ N (x.y raw tbs sig)=some (Xv x,0):=by
 have hl:=h.len;have hxs:=Akv (AuO hN h) hN;have hxl:=A2v hN h;have htl:=Amc hN h;have hep:=A2T hN h raw tbs sig;have hc:=ArL hN h raw tbs sig;have ha:=(Aiu hN).sH;have hn:=Aex hN (Xw hN h.k).ok;have t1:=(Vd hN h.th).sH;have t2:=(Vd hN h.nx).sH;have n1:LQ N 2 1=some (RS 2 1):=AjG hN (t:=2);have wx:=yL N 160 [xsB (lx x)] (by omega) (by omega) hN (by simp) (by rw[Le];omega);rw[Le]at wx;have wr:Vb N 160 (lx x)=some (Sp.elem 160 (xsB (lx x)),0):=by unfold Vb;rw[hxs,Jt];dsimp only;rw[show((0:Int) != 0)=false from rfl,cond_false];refine(congrArg (fun o=>Jr o _) wx).trans ?_;rfl
 have wS:Lh N 48 (AqS x)=some (Xv x,0):=by have:=yL N 48 (AqS x) (by omega) (by omega) hN (by show 7<=_;omega) (by rw[AqT];omega);rw[AqT]at this;exact this
 have hes:=es_len hN h;have we:Lh N 48 [(esB x).flatten]=some (Sp.elem 48 (esB x).flatten,0):=by have:=yL N 48 [(esB x).flatten] (by omega) (by omega) hN (by simp) (by rw[Le];omega);rw[Le]at this;exact this
 have hlm:(x.es.map enY).length=x.es.length:=Dz _;unfold RJ;try simp only[clR]
 rw[hc,Jt,show((0:Int) != 0)=false from rfl,cond_false];unfold Li.y at *
 dsimp only at *
 rw[hn,Jt,t1,Jt,t2,Jt]
 have fin: ∀ e:Bs,e=mV x->U18 (fun t11c b33024_0c b33024_1c b33024_2c b33024_3c b33024_4c b33024_5c b33024_6c b33024_7c b33024_8c b33024_9c b33024_10c b33024_11c b33024_12c b33024_13c b33024_14c b33024_15c b33024_16c =>
  Jr (Ph N (b33024_0c,b33024_1c,b33024_2c,b33024_3c,b33024_4c,b33024_5c,b33024_6c,b33024_7c,b33024_8c,b33024_9c,b33024_10c,b33024_11c,b33024_12c,b33024_13c,b33024_14c,b33024_15c,b33024_16c)) fun r76=>bif (r76.2 != (0:Int))then(some (([]:Bs),(2:Int)))else(Jr (Vb N 160 r76.1) fun r83=>bif (r83.2 != (0:Int))then(some (([]:Bs),2))else(Jr (LQ N 2 1) fun r88=>Jr (Qo N) fun r89=>Jr (Lh N 48 ([r88,r89,nmT (aut x.k),Rx x.this,Rx x.next,t11c,r83.1]:List Bs)) fun r96=>some (r96.1,r96.2))))
  (e,raw,tbs,aut x.k,x.this,x.next,x.num,x.base,x.ak,x.hs,x.s.1,x.s.2.1,x.s.2.2.1,x.s.2.2.2.1,x.s.2.2.2.2,x.fr,x.es.map enY,sig)=some (Xv x,0):=by
  intro e he;subst he;unfold AqS at wS;dsimp only[U18];rw[hep,Jt];dsimp only;rw[show((0:Int) != 0)=false from rfl,cond_false,wr,Jt];dsimp only;rw[show((0:Int) != 0)=false from rfl,cond_false,n1,Jt,ha,Jt,wS,Jt]
 refine(QS (fun i=>(((List.range i).map (esF x)).flatten,(i:Int),raw,tbs,aut x.k,x.this,x.next,x.num,x.base,x.ak,x.hs,x.s.1,x.s.2.1,x.s.2.2.1,x.s.2.2.2.1,x.s.2.2.2.2,x.fr,x.es.map enY,sig,aut (vK x i))) x.es.length (some (Xv x,0)) ?_ ?_ N)
 .intro i hi k;have hE:=h.all _ (getD_mem zE hi);have e1:=AjB enY x.es zE zY hi;have e2:=A1v hN hE (p:=vK x i) (Azw h (by omega));have e3:((List.range i).map (esF x)).flatten++enB (x.es.getD i zE) (vK x i)=((List.range (i+1)).map (esF x)).flatten:=by rw[List.range_succ,EX,EZ];simp [esF]
  have e4:((List.range i).map (esF x)).flatten.length+(enB (x.es.getD i zE) (vK x i)).length<=140737488355328:=by have:=Oo (g:=esF x) (M:=3455) (l:=List.range i) fun j hj=>Ala hN (h.all _ (getD_mem zE (show j<x.es.length by have:=Fe.1 hj;omega)));rw[Ef]at this;have:=Ala hN hE (p:=vK x i);omega
  unfold zY at e1;dsimp only[U20];rw[hlm,Int.toNat_natCast,e1,uS,cond_true,Abh,JI,JI,e2,Jt,Ab9 e4,JI,e3,w64];rfl
 .intro k;dsimp only[U20];rw[hlm,Aou,cond_false];dsimp only[U18];rw[TT,show((List.range x.es.length).map (esF x)).flatten=(esB x).flatten from rfl];cases hb:decide ((x.es.length:Int)>0)with
  | true =>
   have hE:mV x=Sp.elem 48 (esB x).flatten:=by unfold mV;rw[hb];rfl
   rw[hlm,hb,cond_true,we,Jt];dsimp only;rw[show((0:Int) != 0)=false from rfl,cond_false];exact fin _ hE.symm
  | false =>
   have hE:mV x=[]:=by unfold mV;rw[hb];rfl
   have h0:x.es.length=0:=by have:=DY hb;omega
   have h1:(esB x).flatten=[]:=by unfold esB;rw[h0];rfl
   rw[hlm,hb,cond_false,h1];exact fin [] hE.symm
theorem A38 {sig:Bs} (hs:sig.length<=60000):nO N (Xv x) sig=some (Sp.elem 48 (Xv x++(Xd++Sp.elem 3 (0::sig))),0):=by
 have hl:=Amc hN h;have hB:=AqR hN h;have h2:=AoJ (Aiu hN);have h3:=Sp.JM 3 (0::sig);rw[List.length_cons]at h3;have w:XG N (Xv x) 48=some (MF 48 (Afn x),0):=by rw[A00 N _ 48 hN (by omega)];exact congrArg some (Ae4 48 (Afn x) (by decide) (by decide) (by omega))
 have f3:=yL N 3 [[0],sig] (by omega) (by omega) hN (by simp) (by rw[AwI];show(0::sig).length<=_;rw[List.length_cons];omega);rw[AwI]at f3;have f3:Lh N 3 [[0],sig]=some (Sp.elem 3 (0::sig),0):=f3;have f48:Lh N 48 [Xv x,Xd,Sp.elem 3 (0::sig)]=some (Sp.elem 48 (Xv x++(Xd++Sp.elem 3 (0::sig))),0):=by have:=yL N 48 [Xv x,Xd,Sp.elem 3 (0::sig)] (by omega) (by omega) hN (by simp) (by rw[X3,Dp,Dp];omega);rw[X3]at this;exact this
 unfold nO;rw[w,Jt];dsimp only;rw[show((0:Int) != 0)=false from rfl,cond_false,f3,Jt];dsimp only;rw[show((0:Int) != 0)=false from rfl,cond_false,(Aiu hN).sH,Jt,f48,Jt]
end
section
variable (N:Nat) (hN:1048578<N) {L:List Int} (hL:L.length<=9223372036854775807)
include hL
omit hL in
theorem AuT {a:N7} (h:a∈dV): [a]∈Ou:=D9 _ (D9 _ (DI.2 ⟨a,h,rfl⟩))
omit hL in
theorem Az8 {a b:N7} (h:a∈dV) (hb:b∈dV) (hn:b.1≠a.1): [a,b]∈Ou :=
 D9 _ (DF _ (Ep.2 ⟨a,h,DI.2 ⟨b,List.mem_filter.2 ⟨hb,by simpa using Ne.symm hn⟩,rfl⟩⟩))
theorem AoQ {d:List Int×Int} (hd:KY L d):Ends (fun r=>r.1∈dV/\KY L r.2) (WL N d):=by
 unfold WL;try simp -zeta only[Ap]
 refine Jz (nx N hL hd 12 (by omega)) ?_;rintro ⟨r,d'⟩ ⟨h0,h1,h2⟩;dsimp only at h0 h1 h2 ⊢;refine J9 (by simp;omega) (J9 (by simp;omega) (J9 (by simp;omega) (Ju ⟨?_,h2⟩)));exact VV (P:=fun x=>x∈dV) (fun x hx=>hx) h0 h1
include hN in
theorem A1L {d:List Int×Int} (hd:KY L d):Ends (fun r=>okN r.1/\KY L r.2) (vO N d):=by
 unfold vO;try simp only[clR]
 refine Jz (nx N hL hd 4 (by omega)) ?_;rintro ⟨r,d1,d2⟩ ⟨h0,h1,h2⟩;dsimp only at h0 h1 h2 ⊢;refine KP (fun x=>0<=x.1/\x.1<4/\KY L (x.2.1,x.2.2.1)/\((x.2.2.2.length:Int)+x.1<=3)/\ ∀ r∈x.2.2.2,r∈Ou) (fun x=>x.1.toNat) ?_ N _ ⟨h0,h1,h2,by simp;omega,fun r hr=>by cases hr⟩ (by dsimp only;omega);rintro ⟨t,a,b,acc⟩ ⟨g0,g1,g2,g3,g4⟩ k hk;dsimp only[U4]at g0 g1 g2 g3 g4 ⊢;refine Jv (fun ht=> ?_) (fun _=> ?_)
 .have ht:=D6 ht;refine Jz (nx N hL g2 5 (by omega)) ?_;rintro ⟨r,e1,e2⟩ ⟨f0,f1,f2⟩;dsimp only at f0 f1 f2 ⊢
  have hw:i64.wrap (1+i64.wrap (r.tdiv 4))<=2/\1<=i64.wrap (1+i64.wrap (r.tdiv 4)):=by
   have:r=0\/r=1\/r=2\/r=3\/r=4:=by omega
   rcases this with rfl | rfl | rfl | rfl | rfl<;>decide
  refine KP (fun x=>0<=x.1/\x.1<=2/\KY L (x.2.1,x.2.2.1)/\((x.2.2.2.1.length:Int)+x.1<=2)/\((x.2.2.2.1=[]/\1<=x.1)\/(∃ y∈dV,x.2.2.2.1=[y])\/(x.2.2.2.1.length=2/\x.2.2.2.1∈Ou))/\x.2.2.2.2=acc) (fun x=>x.1.toNat) ?_ N _ ⟨by dsimp only;omega,hw.1,f2,by simp;omega,Or.inl ⟨rfl,hw.2⟩,rfl⟩ (by dsimp only;omega);rintro ⟨t',a',b',acc',out⟩ ⟨p0,p1,p2,p3,p4,p5⟩ k' hk';dsimp only[U5]at p0 p1 p2 p3 p4 p5 ⊢;subst p5;refine Jv (fun ht'=> ?_) (fun ht'=> ?_)
  .have ht':=D6 ht';refine Jz (AoQ N hL p2) ?_;rintro ⟨r,q1,q2⟩ ⟨z0,z1⟩;dsimp only at z0 z1 ⊢
   have taut:(decide ((0:Int)<(acc'.length:Int))||((acc'.length:Nat):Int)==0)=true:=by
    cases acc' with
    | nil=>rfl
    | cons x y=>rw[Di (by rw[List.length_cons];omega)];rfl
   have Ao9:(decide (0<acc'.length)||((acc'.length:Nat):Int)==0)=true:=by
    cases acc' with
    | nil=>rfl
    | cons x y=>rw[Di (by rw[List.length_cons];omega)];rfl
   refine J9 (by first | exact taut | exact Ao9) (J9 (by first | exact taut | exact Ao9) (J9 (by first | exact taut | exact Ao9) ?_))
   have p4':acc'=[]\/ ∃ y∈dV,acc'=[y]:=by
    rcases p4 with ⟨h,_⟩ | h | ⟨h,_⟩
    .exact Or.inl h
    .exact Or.inr h
    .rw[h]at p3;omega
   refine Jv (fun hc=> ?_) (fun hc=> ?_)
   .refine J9 (Di) (hk' _ ⟨?_,?_,z1,?_,?_,rfl⟩ ?_)
    .dsimp only;rw[w64];omega
    .dsimp only;rw[w64];omega
    .dsimp only;rw[w64,Dp];simp;omega
    .dsimp only;rcases p4' with rfl | ⟨y,hy,rfl⟩
     .exact Or.inr (Or.inl ⟨r,z0,rfl⟩)
     .refine Or.inr (Or.inr ⟨rfl,Az8 hy z0 fun e=> ?_⟩);rw[e]at hc;simp at hc
    .dsimp only;rw[w64];omega
   .refine hk' _ ⟨?_,?_,z1,?_,?_,rfl⟩ ?_
    .dsimp only;rw[w64];omega
    .dsimp only;rw[w64];omega
    .dsimp only;rw[w64];omega
    .dsimp only;rcases p4' with rfl | h
     .simp at hc
     .exact Or.inr (Or.inl h)
    .dsimp only;rw[w64];omega
  .have ht':=DY ht';dsimp only[U4]
   have hin:acc'∈Ou:=by
    rcases p4 with ⟨_,h⟩ | ⟨y,hy,rfl⟩ | ⟨_,h⟩
    .omega
    .exact AuT hy
    .exact h
   refine J9 (Di) (hk _ ⟨?_,?_,p2,?_,OX g4 hin⟩ ?_)
   .dsimp only;rw[w64];omega
   .dsimp only;rw[w64];omega
   .dsimp only;rw[w64,Dp];simp;omega
   .dsimp only;rw[w64];omega
 .dsimp only[U3];exact Ju ⟨⟨by dsimp only;omega,g4⟩,g2⟩
include hN hL
theorem Abp {d:List Int×Int} (hd:KY L d):Ends (fun r=>okG r.1/\KY L r.2) (TU N d):=by
 have hT: ∀(l:List Bs) (k:Int),l.all (fun s=>AqW.contains (k,s,[]))=true-> ∀ s∈l,okG (k,s,[]):=fun l k h s hs=>Or.inl (Hw.1 (D8.1 h s hs));unfold TU;try simp only[clR]
 refine Jz (nx N hL hd 4 (by omega)) ?_;rintro ⟨r,d'⟩ ⟨h0,h1,h2⟩;dsimp only at h0 h1 h2 ⊢;refine Jv (fun _=> ?_) (fun _=>Jv (fun _=> ?_) (fun _=>Jv (fun _=> ?_) (fun _=> ?_)))
 .refine Jz (nx N hL h2 6 (by omega)) ?_;rintro ⟨r,d'⟩ ⟨h0,h1,h2⟩;dsimp only at h0 h1 h2 ⊢;refine J9 (Di) (J9 (Di) (J9 (Di) (Ju ⟨VV (P:=fun s=>okG (1,s,[])) (hT _ 1 (by kernel_rfl)) h0 h1,h2⟩)))
 .refine Jz (nx N hL h2 7 (by omega)) ?_;rintro ⟨r,d'⟩ ⟨h0,h1,h2⟩;dsimp only at h0 h1 h2 ⊢;refine J9 (Di) (J9 (Di) (J9 (Di) (Ju ⟨VV (P:=fun s=>okG (2,s,[])) (hT _ 2 (by kernel_rfl)) h0 h1,h2⟩)))
 .refine Jz (nx N hL h2 4 (by omega)) ?_;rintro ⟨r,d'⟩ ⟨h0,h1,h2⟩;dsimp only at h0 h1 h2 ⊢;refine J9 (Di) (J9 (Di) (J9 (Di) (Ju ⟨VV (P:=fun s=>okG (7,s,[])) (hT _ 7 (by kernel_rfl)) h0 h1,h2⟩)))
 .refine Jz (A1L N hN hL h2) ?_;rintro ⟨n,d'⟩ ⟨g0,g1⟩;exact Ju ⟨Or.inr ⟨n,g0,rfl⟩,g1⟩
omit hN in
theorem AfJ {d:List Int×Int} (hd:KY L d):Ends (fun r=>r.1∈Ve/\KY L r.2) (VS N d):=by
 unfold VS;try simp -zeta only[Ap]
 refine Jz (nx N hL hd 7 (by omega)) ?_;rintro ⟨r,d'⟩ ⟨h0,h1,h2⟩;dsimp only at h0 h1 h2 ⊢;exact J9 (Di) (J9 (Di) (J9 (Di) (Ju ⟨VV (P:=fun x=>x∈Ve) (fun x hx=>hx) h0 h1,h2⟩)))
omit hL in
theorem oJ {k:Int} (h0:0<=k) (h1:k<16):Ends (fun n=> ∃ j:Nat,j<16/\n=aut j) (KN N k):=by
 obtain⟨j,rfl⟩: ∃ j:Nat,k=j:=⟨k.toNat,by omega⟩
 exact⟨aut j,(Xw hN (by omega)).made,j,by omega,rfl⟩
theorem AxF {d:List Int×Int} (hd:KY L d):Ends (fun r=>AhG r.1/\KY L r.2) (eP N d):=by
 unfold eP;try simp only[clR]
 refine Jz (nx N hL hd 3 (by omega)) ?_;rintro ⟨r,d1,d2⟩ ⟨h0,h1,h2⟩;dsimp only at h0 h1 h2 ⊢;rw[w64];refine KP (fun x=>0<=x.1/\x.1<4/\KY L (x.2.1,x.2.2.1)/\((x.2.2.2.length:Int)+x.1<=3)/\(x.2.2.2=[]->1<=x.1)/\ ∀ p∈x.2.2.2,okP p) (fun x=>x.1.toNat) ?_ N _ ⟨by dsimp only;omega,by dsimp only;omega,h2,by simp;omega,(fun _=>by dsimp only;omega),(fun r hr=>by cases hr)⟩ (by dsimp only;omega);rintro ⟨t,a,b,acc⟩ ⟨g0,g1,g2,g3,g5,g4⟩ k hk;dsimp only[U4]at g0 g1 g2 g3 g4 g5 ⊢;refine Jv (fun ht=> ?_) (fun ht=>by dsimp only[U3];exact Ju ⟨⟨fun e=>by have:=g5 e;have:=DY ht;omega,by dsimp only;omega,g4⟩,g2⟩);have ht:=D6 ht;refine Jz (Abp N hN hL g2) ?_;rintro ⟨g,e⟩ ⟨f0,f1⟩;refine Jz (nx N hL f1 6 (by omega)) ?_;rintro ⟨r6,e1,e2⟩ ⟨c0,c1,c2⟩;dsimp only at c0 c1 c2 f0 ⊢;refine J9 (Di) (J9 (Di) (J9 (Di) ?_));have hr: [(0:Int),0,510,2,64,384].getD r6.toNat 0=0\/ [(0:Int),0,510,2,64,384].getD r6.toNat 0∈Aif:=VV (P:=fun x:Int=>x=0\/x∈Aif) (by decide) c0 c1;refine KE (P:=fun x=>KY L (x.1,x.2.1)/\x.2.2.1=[(0:Int),0,510,2,64,384].getD r6.toNat 0/\((x.2.2.2.1=false/\x.2.2.2.2.1=[])\/(x.2.2.2.1=true/\okN x.2.2.2.2.1/\x.2.2.2.2.1≠ []))/\x.2.2.2.2.2.1=[g]/\x.2.2.2.2.2.2=acc) (fun j hj=> ?_) ?_
 .refine Jz (nx N hL c2 3 (by omega)) ?_;rintro ⟨r3,q1,q2⟩ ⟨z0,z1,z2⟩;dsimp only at z0 z1 z2 ⊢;refine Jv (fun _=> ?_) (fun _=>hj _ ⟨z2,rfl,Or.inl ⟨rfl,rfl⟩,rfl,rfl⟩);refine Jz (nx N hL z2 16 (by omega)) ?_;rintro ⟨r3,q1,q2⟩ ⟨z0,z1,z2⟩;dsimp only at z0 z1 z2 ⊢;refine Jz (oJ N hN z0 z1) ?_;rintro n ⟨i,hi,rfl⟩;have A:=Xw hN hi;exact hj _ ⟨z2,rfl,Or.inr ⟨rfl,A.ok,A.ne⟩,rfl,rfl⟩
 .rintro ⟨q1,q2,x1,x2,x3,x4,x5⟩ ⟨y1,y2,y3,y4,y5⟩;dsimp only[U7]at y1 y2 y3 y4 y5 ⊢;subst y2 y4 y5;refine J9 (Di) (hk _ ⟨?_,?_,y1,?_,?_,OX g4 ⟨⟨g,f0,rfl⟩,hr,y3⟩⟩ ?_)
  .grind[w64]
  .dsimp only;rw[w64];omega
  .dsimp only;rw[w64,Dp];simp;omega
  .intro e;simp at e
  .dsimp only;rw[w64];omega
theorem A1I {d:List Int×Int} (hd:KY L d):Ends (fun r=>(∃ x,OkL x/\r.1=x.y [] [] [])/\KY L r.2) (vN N d):=by
 unfold vN;try simp -zeta only[Ap]
 refine Jz (nx N hL hd 16 (by omega)) ?_;rintro ⟨r,d1⟩ ⟨h0,h1,h2⟩;dsimp only at h0 h1 h2 ⊢;refine Jz (oJ N hN h0 h1) ?_;rintro _ ⟨kk,hkk,rfl⟩;refine Jz (AfJ N hL h2) ?_;rintro ⟨t1,d2⟩ ⟨ht1,h3⟩;refine Jz (AfJ N hL h3) ?_;rintro ⟨t2,d3⟩ ⟨ht2,h4⟩;refine Jz (nx N hL h4 200 (by omega)) ?_;rintro ⟨r5,d5a,d5b⟩ ⟨h5,h6,h7⟩;dsimp only at ht1 h3 ht2 h4 h5 h6 h7 ⊢;refine KE (P:=fun x=> ∃ u v,x=(d5a,d5b,aut kk,u,v,1+r5)/\u∈Ve/\v∈Ve/\u<=v) (fun j hj=> ?_) ?_
 .rw[w64];exact Jv (fun hb=>hj _ ⟨_,_,rfl,ht2,ht1,by have:=D6 hb;omega⟩) (fun hb=>hj _ ⟨_,_,rfl,ht1,ht2,by have:=DY hb;omega⟩)
 rintro _ ⟨u,v,rfl,hu,hv,huv⟩;dsimp only[U6];refine KE (P:=fun x=> ∃ a b w,x=(a,b,aut kk,u,v,1+r5,w)/\KY L (a,b)/\(w= -1\/(0<=w/\w<1+r5))) (fun j hj=> ?_) ?_
 .refine Jz (nx N hL h7 3 (by omega)) ?_;rintro ⟨r,d1⟩ ⟨h0,h1,h2⟩;dsimp only at h0 h1 h2 ⊢;refine Jv (fun _=> ?_) (fun _=>hj _ ⟨_,_,_,rfl,h2,Or.inl rfl⟩);refine Jz (nx N hL h2 (1+r5) (by omega)) ?_;rintro ⟨r,d1⟩ ⟨h0,h1,h2⟩;exact hj _ ⟨_,_,_,rfl,h2,Or.inr ⟨h0,h1⟩⟩
 rintro _ ⟨a,b,w,rfl,hab,hw⟩;dsimp only[U7];refine KE (P:=fun x=> ∃ a b s,x=(a,b,aut kk,u,v,1+r5,w,s)/\KY L (a,b)/\(s=[]\/s=akV)) (fun j hj=> ?_) ?_
 .refine Jz (nx N hL hab 3 (by omega)) ?_;rintro ⟨r,d1⟩ ⟨h0,h1,h2⟩;dsimp only at h0 h1 h2 ⊢;exact Jv (fun _=>hj _ ⟨_,_,_,rfl,h2,Or.inr rfl⟩) (fun _=>hj _ ⟨_,_,_,rfl,h2,Or.inl rfl⟩)
 clear hab a b;rintro _ ⟨a,b,s,rfl,hab,hs⟩;dsimp only[U8];refine KE (P:=fun x=> ∃ a b p q r t y z,x=(a,b,aut kk,u,v,1+r5,w,s,p,q,r,t,y,z)/\KY L (a,b)/\((p=false/\(q,r,t,y,z)=zSc)\/(p=true/\AoD (q,r,t,y,z)))) (fun j hj=> ?_) ?_
 .refine Jz (nx N hL hab 2 (by omega)) ?_;rintro ⟨r,d1⟩ ⟨h0,h1,h2⟩;dsimp only at h0 h1 h2 ⊢;refine Jv (fun _=> ?_) (fun _=>hj _ ⟨_,_,_,_,_,_,_,_,rfl,h2,Or.inl ⟨rfl,rfl⟩⟩);refine Jz (nx N hL h2 4 (by omega)) ?_;rintro ⟨r,d1⟩ ⟨h0,h1,h2⟩;dsimp only at h0 h1 h2 ⊢;refine J9 (Di) (J9 (Di) (J9 (Di) ?_))
  have hr:okR ([(0:Int),2,64,510].getD r.toNat 0):=VV (P:=okR) (fun x hx=>by
   have: ∀ x∈ [(0:Int),2,64,510],x=0\/x∈Aif:=by decide
   exact this x hx) h0 h1
  generalize [(0:Int),2,64,510].getD r.toNat 0=rr at hr ⊢;refine Jz (nx N hL h2 2 (by omega)) ?_;rintro ⟨r,d1⟩ ⟨h0,h1,h2⟩;dsimp only at h0 h1 h2 ⊢;refine Jz (nx N hL h2 4 (by omega)) ?_;rintro ⟨r',d1⟩ ⟨h0,h1,h2⟩;dsimp only at h0 h1 h2 ⊢;have hn0:AhF []:=⟨by simp,fun g hg=>by cases hg⟩
  refine Jv (fun _=>hj _ ⟨_,_,_,_,_,_,_,_,rfl,h2,Or.inr ⟨rfl,hn0,hr,Or.inl ⟨rfl,rfl,rfl⟩⟩⟩) (fun _=>Jv (fun _=>hj _ ⟨_,_,_,_,_,_,_,_,rfl,h2,Or.inr ⟨rfl,hn0,hr,Or.inr (Or.inl ⟨rfl,rfl,rfl⟩)⟩⟩) (fun _=> ?_));refine Jz (Abp N hN hL h2) ?_;rintro ⟨g1,d1⟩ ⟨hg1,h2⟩;refine Jz (Abp N hN hL h2) ?_;rintro ⟨g2,d1⟩ ⟨hg2,h2⟩;refine Jz (nx N hL h2 2 (by omega)) ?_;rintro ⟨r7,d1⟩ ⟨h0,h1,h2⟩;dsimp only at h0 h1 h2 hg1 hg2 ⊢;rw[w64 (x:=1+r7)];refine J9 (Di) (J9 (Di) (hj _ ⟨_,_,_,_,_,_,_,_,rfl,h2,Or.inr ⟨rfl,?_,hr,Or.inr (Or.inr ⟨rfl,rfl,?_⟩)⟩⟩))
  .have e:r7=0\/r7=1:=by omega
   rcases e with rfl | rfl
   .exact gs1 hg1
   .exact⟨by show [g1,g2].length<=2;simp,fun x hx=>by
     have hx:x∈ [g1,g2]:=hx;rcases D7.1 hx with rfl | hx
     .exact hg1
     .rw[DR.1 hx];exact hg2⟩
  .have e:r7=0\/r7=1:=by omega
   rcases e with rfl | rfl<;>(intro h;cases h)
 clear hab a b;rintro _ ⟨a,b,p,q,r,t,y,z,rfl,hab,hsc⟩;dsimp only[U14];refine KE (P:=fun x=> ∃ a b o,x=(a,b,aut kk,u,v,1+r5,w,s,p,q,r,t,y,z,o)/\KY L (a,b)/\(o=[]\/(w= -1/\AhG o))) (fun j hj=> ?_) ?_
 .obtain⟨⟨g,d1⟩,e1,h0,h1,h2⟩:=nx N hL hab 4 (by omega);rw[e1];simp only[TM,VF,Tj,Option.isSome_some,DU,JI,Option.getD_some]
  have hd:KY L ((bif (w==(-1:Int))then d1.1 else a),(bif (w==(-1:Int))then d1.2 else b)):=by
   cases (w==(-1:Int))
   .exact hab
   .exact h2
  refine Jv (fun hb=> ?_) (fun _=>hj _ ⟨_,_,_,rfl,hd,Or.inl rfl⟩)
  have hw1:w= -1:=by
   cases hq:w==(-1:Int)with
   | true=>exact FB hq
   | false=>rw[hq]at hb;cases hb
  refine Jz (AxF N hN hL hd) ?_;rintro ⟨g,d1⟩ ⟨h0,h2⟩;exact hj _ ⟨_,_,_,rfl,h2,Or.inr ⟨hw1,h0⟩⟩
 clear hab a b;rintro _ ⟨a,b,o,rfl,hab,ho⟩;dsimp only[U15];refine Jz (nx N hL hab 6 (by omega)) ?_;clear hab a b;rintro ⟨g,a,b⟩ ⟨h0,h1,hab⟩;dsimp only at h0 h1 hab ⊢;refine KP (fun x=> ∃(t':Int) (a:List Int) (b:Int) (es:List En),x=(t',a,b,aut kk,u,v,1+r5,w,s,p,q,r,t,y,z,o,es.map enY)/\0<=t'/\t'<6/\KY L (a,b)/\(es.length:Int)+t'<=5/\(∀ e∈es,OkE w z kk e)/\es.Pairwise (fun a b=> ¬(a.1=b.1/\a.k % 8=b.k % 8))) (fun x=>x.1.toNat) ?_ N _ ⟨_,_,_,[],rfl,h0,h1,hab,by simp;omega,(fun e he=>by cases he),List.Pairwise.nil⟩ (by dsimp only;omega);clear hab a b h0 h1;rintro _ ⟨t',a,b,es,rfl,g0,g1,hab,g3,g4,g5⟩ k hk;dsimp only[U17];refine Jv (fun ht=> ?_) (fun _=> ?_)
 .have ht:=D6 ht;refine Jz (nx N hL hab 9 (by omega)) ?_;rintro ⟨c1,d1⟩ ⟨h0,h1,h2⟩;dsimp only at h0 h1 h2 ⊢;rw[w64 (x:=1+c1)];refine Jz (AfJ N hL h2) ?_;rintro ⟨c2,d2⟩ ⟨hc2,h3⟩;dsimp only at hc2 h3 ⊢;refine Jz (nx N hL h3 9 (by omega)) ?_;rintro ⟨c3,d3⟩ ⟨f0,f1,f2⟩;dsimp only at f0 f1 f2 ⊢;refine J9 (Di) (J9 (Di) (J9 (Di) ?_));have hre:([0,1,2,3,4,5,6,9,10]:List Int).getD c3.toNat 0∈reL/\([0,1,2,3,4,5,6,9,10]:List Int).getD c3.toNat 0≠8:=VV (P:=fun x:Int=>x∈reL/\x≠8) (by decide) f0 f1;generalize ([0,1,2,3,4,5,6,9,10]:List Int).getD c3.toNat 0=c3' at hre ⊢;refine KE (P:=fun x=> ∃ a b c4,x=(a,b,aut kk,u,v,1+r5,w,s,p,q,r,t,y,z,o,1+c1,c2,c3',c4,aut kk,es.map enY)/\KY L (a,b)/\(c4= -1\/c4∈Ve)) (fun j hj=> ?_) ?_
  .refine Jz (nx N hL f2 3 (by omega)) ?_;rintro ⟨g,d1⟩ ⟨h0,h1,h2⟩;dsimp only at h0 h1 h2 ⊢;refine Jv (fun _=> ?_) (fun _=>hj _ ⟨_,_,_,rfl,h2,Or.inl rfl⟩);refine Jz (AfJ N hL h2) ?_;rintro ⟨g,d1⟩ ⟨hg,h3⟩;exact hj _ ⟨_,_,_,rfl,h3,Or.inr hg⟩
  clear hab;rintro _ ⟨a,b,c4,rfl,hab,hc4⟩;dsimp only[U21];refine KE (P:=fun x=> ∃ a b c3,x=(a,b,aut kk,u,v,1+r5,w,s,p,q,r,t,y,z,o,1+c1,c2,c3,c4,aut kk,es.map enY)/\KY L (a,b)/\c3∈reL/\(c3=8->w≠ -1)) (fun j hj=> ?_) ?_
  .obtain⟨⟨g,d1⟩,e1,h0,h1,h2⟩:=nx N hL hab 3 (by omega);rw[e1];simp only[TM,VF,Tj,Option.isSome_some,DU,JI,Option.getD_some]
   have hd:KY L ((bif (w != (-1:Int))then d1.1 else a),(bif (w != (-1:Int))then d1.2 else b)):=by
    cases (w != (-1:Int))
    .exact hab
    .exact h2
   refine Jv (fun hb=>hj _ ⟨_,_,_,rfl,hd,by decide,fun _ hw=> ?_⟩) (fun _=>hj _ ⟨_,_,_,rfl,hd,hre.1,fun h=>absurd h hre.2⟩);rw[hw]at hb;cases hb
  clear hab;rintro _ ⟨a,b,c5,rfl,hab,hc5,hc8⟩;dsimp only[U21];refine KE (P:=fun x=> ∃ a b k',x=(a,b,aut kk,u,v,1+r5,w,s,p,q,r,t,y,z,o,1+c1,c2,c5,c4,aut k',es.map enY)/\k'<16/\(z=true\/k' % 8=kk % 8)/\KY L (a,b)) (fun j hj=> ?_) ?_
  .refine Jv (fun hz=> ?_) (fun _=>hj _ ⟨_,_,_,rfl,hkk,Or.inr rfl,hab⟩);refine Jz (nx N hL hab 16 (by omega)) ?_;rintro ⟨g,d1⟩ ⟨h0,h1,h2⟩;dsimp only at h0 h1 h2 ⊢;refine Jz (oJ N hN h0 h1) ?_;rintro _ ⟨k',hk',rfl⟩;exact hj _ ⟨_,_,_,rfl,hk',Or.inl hz,h2⟩
  clear hab;rintro _ ⟨a,b,k',rfl,hk',hz,hab⟩;dsimp only[U21];rw[w64 (x:=t' - 1),AzU hN (fun e he=>(g4 e he).k) (by omega) hk' (1+c1) (y:=(([]:Bs),([]:Bs),aut kk,u,v,1+r5,w,s,p,q,r,t,y,z,o,es.map enY,([]:Bs))) rfl,Jt];cases hf:(List.range es.length).find? fun i=>Ahy k' (1+c1) (es.getD i zE)with
  | some i=>exact hk _ ⟨_,_,_,es,rfl,by omega,by omega,hab,by omega,g4,g5⟩ (by dsimp only;omega)
  | none =>refine J9 (Di (by rw[Dz];omega)) (hk _ ⟨_,_,_,es++[(1+c1,c2,c5,c4,k')],by rw[EX];rfl,by omega,by omega,hab,by rw[Dp];simp;omega,OX g4 ⟨by dsimp only;omega,by dsimp only;omega,hc2,hc5,hc8,hc4,hk',hz⟩,?_⟩ (by dsimp only;omega));rw[H7];refine⟨g5,Gx _ _,fun e he e' he' hq=> ?_⟩;rw[DR.1 he']at hq;obtain⟨i,hi,rfl⟩:=IP he;have:=List.find?_eq_none.1 hf i (Fe.2 hi);rw[getD_lt es i zE hi]at this;unfold Ahy at this;rw[hq.1,hq.2]at this;simp at this
 .dsimp only[U16];exact Ju ⟨⟨⟨kk,u,v,1+r5,w,s,p,(q,r,t,y,z),o,es⟩,⟨hkk,hu,hv,huv,by dsimp only;omega,by dsimp only;omega,hw,hs,hsc,ho,by dsimp only;omega,g4,g5⟩,rfl⟩,hab⟩
end
abbrev RnT:Type:=List (Bs×Int×Bs)
abbrev GnT:Type:=Int×Bs×List RnT
abbrev PtT:Type:=List GnT×Int×Bool×List RnT
abbrev EnT:Type:=Int×Int×Int×Int×List RnT
abbrev LsT:Type:=Bs×Bs×List RnT×Int×Int×Int×Int×Bs×Bool×List GnT×Bool×Bool×Int×Bool×List PtT×List EnT×Bs
abbrev Y8T:Type:=Int×Int×Int×Int×Int×Int×Int×Int
abbrev HsT:Type:=Int×Int×Int×Int×Int×Int×Int×Int×List Int×Int
abbrev TrT:Type:=List (List Bs)×Bs×Bs×Int
abbrev SgT:Type:=Bs×Int×Int×List TrT
def Tot {α :Type} (Q: α ->Prop) (o:Option α):Prop:= ∃ v,o=some v/\Q v
def Tot.chk {α :Type} {Q: α ->Prop} {c:Bool} {k:Option α} (hc:c=true) (h:Tot Q k):Tot Q (Vm.chk c k):=by rw[hc];exact h
def Tot.call {α β :Type} [Inhabited α] {P: α ->Prop} {Q: β ->Prop} {x:Option α} {f: α ->Option β} (h:Tot P x) (hf: ∀ v,P v->Tot Q (f v)):Tot Q (Jr x f):=by obtain⟨v,rfl,hv⟩:=h;exact hf v hv
def Tot.bif {α :Type} {Q: α ->Prop} {b:Bool} {x y:Option α} (h1:b=true->Tot Q x) (h2:b=false->Tot Q y):Tot Q (bif b then x else y):=by
 cases b with
 | true=>exact h1 rfl
 | false=>exact h2 rfl
def Tot.some {α :Type} {Q: α ->Prop} {v: α} (h:Q v):Tot Q (some v):=⟨v,rfl,h⟩
def Tot.AmH {α :Type} {o:Option α} (h:o.isSome=true):Tot (fun _=>True) o:=by
 cases o with
 | none=>cases h
 | some v=>exact⟨v,rfl,trivial⟩
def Tot.mono {α :Type} {P Q: α ->Prop} {o:Option α} (h:Tot P o) (hq: ∀ v,P v->Q v):Tot Q o:=let ⟨v,e,p⟩:=h;⟨v,e,hq v p⟩
def ArM (l:List Int):l=(List.range l.length).map fun i=>l.getD i 0:=by
 apply Iy
 .simp
 .intro i h1 h2;simp [Dj,h1]
def AtA (M:Nat) (p0:Y8T) (f:Nat->Int):(Rh (M+70) p0 ((List.range 64).map f)).isSome=true:=by kernel_rfl
def Amt {N:Nat} (hN:70<=N) (p0:Y8T) {l:List Int} (hl:l.length=64):Tot (fun _=>True) (Rh N p0 l):=by obtain⟨M,rfl⟩:=Nat.exists_eq_add_of_le' hN;have h:=AtA M p0 fun i=>l.getD i 0;rw[<- hl,<- ArM]at h;exact Tot.AmH h
def bM {α :Type} (l:List α) (a b:Nat) (h:b<=l.length:=by omega):(JD l a b).length=b - a:=by simp [JD];omega
abbrev Ak8 (r:HsT):List Int:=r.2.2.2.2.2.2.2.2.1
def Ag8 (N:Nat):Tot (fun _=>True) (Zm N):=Tot.AmH (by kernel_rfl)
def Ayi {N:Nat} (hN:70<=N) (hM:N<=1000000000) (p0:HsT) (h8:(Ak8 p0).length<64) (p1:Bs) (hl:p1.length+64<N):Tot (fun r=>(Ak8 r).length<64) (TC N p0 p1):=by
 unfold TC;try simp -zeta only[Ap]
 refine Tot.bif (fun _=>Tot.some h8) fun _=> ?_;refine AmB (fun x=>x.2.2.2.2.2.2.2.2.1.length<64) (Tot _) (fun j hj=>Tot.bif (fun _=>(Ag8 N).call fun v _=>hj _ h8) fun _=>hj _ h8) ?_;rintro ⟨b0,b1,b2,b3,b4,b5,b6,b7,b8,b9⟩ hb;have hb:b8.length<64:=hb;dsimp only[U10];refine Tot.chk (Di) (Tot.chk (Di (by rw[Dz];omega)) ?_);refine QE (fun x=>x.1.length<N) (fun x=>x.1.length) (Tot _) ?_ N _ (by show(b8++p1.map _).length<N;rw[Dp,Dz];omega) (by show(b8++p1.map _).length<N;rw[Dp,Dz];omega);rintro ⟨t,c0,c1,c2,c3,c4,c5,c6,c7,c8,c9⟩ hI k hk;have hI:t.length<N:=hI;dsimp only[U11];refine Tot.bif (fun h=> ?_) fun h=> ?_
 .have h:=D6 h;refine Tot.chk (Di) ((Amt hN _ (by rw[bM _ _ _])).call fun v _=>Tot.chk (Di) (hk _ ?_ ?_))
  .show(JD t 64 t.length).length<N;rw[bM _ _ _ (DV _)];omega
  .show(JD t 64 t.length).length<t.length;rw[bM _ _ _ (DV _)];omega
 .have h:=DY h;refine Tot.chk (Di) (Tot.some ?_);show t.length<64;omega
def A3N (n:Nat):(n:Int).tmod 64=((n % 64:Nat):Int):=by rw[Em (by omega)];omega
def A0W {N:Nat} (hN:150<=N) (p0:HsT) (h8:(Ak8 p0).length<64):Tot (fun r=>r.1.length=32) (V4 N p0):=by
 unfold V4;try simp -zeta only[Ap]
 refine(Ag8 N).call fun v _=>Tot.chk rfl ?_;refine AmB (fun x=>x.2.2.2.2.2.2.2.2.2.2.2.1.length=8/\x.2.2.2.2.2.2.2.2.2.2.2.2.length<64) (Tot _) (fun j hj=>Tot.bif (fun _=>Tot.chk (Di (by have:p0.2.2.2.2.2.2.2.2.1.length<64:=h8;omega)) (hj _ ⟨rfl,h8⟩)) fun _=>hj _ ⟨rfl,by show 0<64;omega⟩) ?_;rintro ⟨t,b0,b1,b2,b3,b4,b5,b6,b7,b8,b9,l1,l2⟩ ⟨h1,h2⟩;have h1:l1.length=8:=h1;have h2:l2.length<64:=h2;dsimp only[U13];refine Tot.chk (Di) ?_;refine QE (fun x=>x.2.2.2.2.2.2.2.2.2.2.1.length=8/\x.2.2.2.2.2.2.2.2.2.2.2.length<=120) (fun x=>120 - x.2.2.2.2.2.2.2.2.2.2.2.length) (Tot _) ?_ N _ ⟨h1,by show(l2++_).length<=120;simp;omega⟩ (by show 120 - _<N;omega);rintro ⟨b0,b1,b2,b3,b4,b5,b6,b7,b8,b9,l1,l2⟩ ⟨h1,h2⟩ k hk;have h1:l1.length=8:=h1;have h2:l2.length<=120:=h2;dsimp only[U12];rw[A3N];refine Tot.bif (fun h=> ?_) fun h=> ?_
 .have h: ¬((l2.length % 64:Nat):Int)=56:=FK.1 h;refine Tot.chk (Di) (hk _ ⟨h1,?_⟩ ?_)
  .show(l2++[0]).length<=120;simp;omega
  .show 120 - (l2++[0]).length<120 - l2.length;simp;omega
 .have h:((l2.length % 64:Nat):Int)=56:=by simpa using h
  clear k hk;refine QE (fun x=>x.2.2.2.2.2.2.2.2.2.2.2.1.length=8/\ -1<=x.1/\x.1<=7/\((x.2.2.2.2.2.2.2.2.2.2.2.2.length:Int)+x.1+1) % 64=0/\(x.2.2.2.2.2.2.2.2.2.2.2.2.length:Int)+x.1+1<=128) (fun x=>(x.1+1).toNat) (Tot _) ?_ N _ ⟨h1,by show(-1:Int)<=7;omega,by show(7:Int)<=7;omega,by show((l2.length:Int)+7+1) % 64=0;omega,by show(l2.length:Int)+7+1<=128;omega⟩ (by show((7:Int)+1).toNat<N;omega);rintro ⟨t,b0,b1,b2,b3,b4,b5,b6,b7,b8,b9,l1,l2⟩ ⟨h1,h3,h4,h5,h6⟩ k hk;have h1:l1.length=8:=h1;have h3: -1<=t:=h3;have h4:t<=7:=h4;have h5:((l2.length:Int)+t+1) % 64=0:=h5;have h6:(l2.length:Int)+t+1<=128:=h6;dsimp only[U13];refine Tot.bif (fun h=> ?_) fun h=> ?_
  .have h:=D6 h;refine Tot.chk (Di (by rw[wu64 (x:=t) (by omega),wu64 (by omega)];omega)) (Tot.chk (Di) (hk _ ⟨h1,?_⟩ ?_))
   .show -1<=i64.wrap (t - 1)/\i64.wrap (t - 1)<=7/\(((l2++[_]).length:Int)+i64.wrap (t - 1)+1) % 64=0/\((l2++[_]).length:Int)+i64.wrap (t - 1)+1<=128;rw[w64];simp;omega
   .show(i64.wrap (t - 1)+1).toNat<(t+1).toNat
    rw[w64];omega
  .have h:=DY h;have ht:t= -1:=by omega
   subst ht;clear k hk;refine QE (fun x=>x.2.2.2.2.2.2.2.2.2.2.2.length=8/\x.1.length % 64=0/\x.1.length<=128) (fun x=>x.1.length) (Tot _) ?_ N _ ⟨h1,by show l2.length % 64=0;omega,by show l2.length<=128;omega⟩ (by show l2.length<N;omega);rintro ⟨t,b0,b1,b2,b3,b4,b5,b6,b7,b8,b9,l1⟩ ⟨h1,h2,h3⟩ k hk;have h1:l1.length=8:=h1;have h2:t.length % 64=0:=h2;have h3:t.length<=128:=h3;dsimp only[U12];refine Tot.bif (fun h=> ?_) fun h=> ?_
   .have h:=D6 h;refine Tot.chk (by rw[h1];rfl) (Tot.chk (Di) ((Amt (by omega) _ (by rw[bM _ _ _])).call fun v _=>Tot.chk (by rw[h1];rfl) (Tot.chk (Di) (hk _ ⟨rfl,?_⟩ ?_))))
    .show(JD t 64 t.length).length % 64=0/\(JD t 64 t.length).length<=128;rw[bM _ _ _ (DV _)];omega
    .show(JD t 64 t.length).length<t.length;rw[bM _ _ _ (DV _)];omega
   .clear k hk h;dsimp only[U11];refine Tot.chk (by rw[h1];rfl) ?_;refine QE (fun x=>0<=x.1/\x.1<=8/\(x.2.2.2.2.2.2.2.2.2.2.2.length:Int)=4*x.1/\x.2.2.2.2.2.2.2.2.2.2.2.all Vm.isByte=true) (fun x=>(8 - x.1).toNat) (Tot _) ?_ N _ ⟨by show(0:Int)<=0;omega,by show(0:Int)<=8;omega,rfl,rfl⟩ (by show((8:Int) - 0).toNat<N;omega);rintro ⟨t,b0,b1,b2,b3,b4,b5,b6,b7,b8,b9,l⟩ ⟨h1,h2,h3,h4⟩ k hk;have h1:0<=t:=h1;have h2:t<=8:=h2;have h3:(l.length:Int)=4*t:=h3;have h4:l.all Vm.isByte=true:=h4;dsimp only[U12];refine Tot.bif (fun h=> ?_) fun h=> ?_
    .have h:=D6 h;refine Tot.chk (Di) (Tot.chk (Di) (Tot.chk (Di) (hk _ ?_ ?_)))
     .show 0<=i64.wrap (t+1)/\i64.wrap (t+1)<=8/\((l++[_,_,_,_]).length:Int)=4*i64.wrap (t+1)/\(l++[_,_,_,_]).all Vm.isByte=true;rw[w64];refine⟨by omega,by omega,by simp;omega,?_⟩;rw[H8,h4];simp only[List.all_cons,PY,List.all_nil,Ij]
     .show(8 - i64.wrap (t+1)).toNat<(8 - t).toNat
      rw[w64];omega
    .have h:=DY h;dsimp only[U11];refine Tot.chk h4 (Tot.some ?_);show(l.map Vm.byteOf).length=32;rw[Dz];omega
def Azi {N:Nat} (hN:150<=N) (hM:N<=1000000000) {l:List Bs} (hl:l.length<N) (hs: ∀ s∈l,s.length+64<N):Tot (fun r=>r.length=32) (Abt N l):=by
 unfold Abt;try simp -zeta only[Ap]
 refine Tot.call (P:=fun r=>(Ak8 r).length<64) ⟨_,rfl,by show 0<64;omega⟩ fun v hv=> ?_;refine QE (fun x=>0<=x.1/\x.1<=(l.length:Int)/\(Ak8 x.2).length<64) (fun x=>((l.length:Int) - x.1).toNat) (Tot _) ?_ N _ ⟨by show(0:Int)<=0;omega,by show(0:Int)<=l.length;omega,hv⟩ (by show((l.length:Int) - 0).toNat<N;omega);rintro ⟨t,b0,b1,b2,b3,b4,b5,b6,b7,b8,b9⟩ ⟨h1,h2,h3⟩ k hk;have h1:0<=t:=h1;have h2:t<=(l.length:Int):=h2;dsimp only[U11];refine Tot.bif (fun h=> ?_) fun h=> ?_
 .have h:=D6 h;have hlt:t.toNat<l.length:=by omega
  refine Tot.chk (Di h1) (Tot.chk (Di h) ((Ayi (by omega) hM _ h3 _ (by rw[getD_lt _ _ _ hlt];exact hs _ (Eo hlt))).call fun v hv=>hk _ ?_ ?_))
  .show 0<=i64.wrap (t+1)/\i64.wrap (t+1)<=(l.length:Int)/\(Ak8 v).length<64;rw[w64];exact⟨by omega,by omega,hv⟩
  .show((l.length:Int) - i64.wrap (t+1)).toNat<((l.length:Int) - t).toNat
   rw[w64];omega
 .dsimp only[U10];exact(A0W hN _ h3).call fun v hv=>Tot.some hv
def AvU {N:Nat} (hN:150<=N) (hM:N<=1000000000) {l:List Bs} (hl:l.length<N) (hs: ∀ s∈l,s.length+64<N):Tot (fun r=>r.length=16) (Nr N l):=by
 unfold Nr;try simp -zeta only[Ap]
 refine(Azi hN hM hl hs).call fun v hv=>Tot.chk (Di) (Tot.some ?_);rw[bM _ _ _]
end Go.Proofs.YtmgpaalplkkpnaaGreatDoor.Pl
