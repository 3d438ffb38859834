import Derived.Test.YtmgpaalplkkpnaaGreatDoorA19
set_option linter.all false
namespace Go.Proofs.YtmgpaalplkkpnaaGreatDoor.Pl
open IntKind (i64 u8 u32 u64)
open Go Vm
def Aaq (n a b:Int):Bool:=decide (n>=a)&&decide (n<=b)
def Yj (N:Nat) (n a b:Int):PG N n a b=some (Aaq n a b):=by
 unfold PG Aaq;try simp -zeta only[Ap]
 cases decide (n>=a)<;>rfl
def A1h (N:Nat) (n:Int):Ends (fun r=>r≠0->0<=n/\n<=10) (TN N n):=by
 unfold TN;try simp only[clR]
 refine Jv (fun h=>J9 ?_ (Ju fun _=> ?_)) (fun _=>Jv (fun h=>Ju fun _=> ?_) (fun _=>Jv (fun h=>Ju fun _=> ?_) (fun _=>Ju fun h=>absurd rfl h)))
 .rw[D5];have:u64.wrap n=n % 18446744073709551616:=rfl;rw[this];exact Int.emod_nonneg _ (by decide)
 .rw[Dq,D5,D5]at h;omega
 .have h:n=9:=by simpa using h
  omega
 .have h:n=10:=by simpa using h
  omega
def Avt (N:Nat) (n:Int):Ends (fun v=>v=true->0<=n/\n<=10) (mG N n):=by
 unfold mG;try simp only[clR]
 obtain⟨v,hv,hb⟩:=A1h N n;rw[hv];simp only[Option.isSome_some,Option.getD_some,DU,JI];refine Ju fun h=> ?_;by_cases h0:n=0
 .omega
 by_cases h8:n=8
 .omega
 rw[MO h0,MO h8]at h;refine hb fun x=> ?_;rw[x]at h;cases h
def A1B (N:Nat) (l:Yq4):Ends (fun _=>True) (YX N l):=by
 unfold YX;try simp only[clR]
 exact Ju trivial
section
variable {N:Nat} (hN:1048578<N)
include hN
theorem AxE (l:List Yq3) (n:List (List Att)) (k:Int) (hl:l.length<=1048576) (he: ∀ e∈l,Abj e) (hn:cpN n):Ends (fun _=>True) (gQ N l n k):=by
 unfold gQ;try simp only[clR]
 refine KP (fun(x:Int×List (List Att))=>0<=x.1/\x.1<=(l.length:Int)/\x.2=n) (fun x=>((l.length:Int) - x.1).toNat) ?_ N _ ⟨by dsimp only;omega,by dsimp only;omega,rfl⟩ (by dsimp only;omega);rintro ⟨i,n'⟩ ⟨i0,i1,rfl⟩ c hc;dsimp only at i0 i1 hc hn;dsimp only[U2];refine Jv (fun h=> ?_) (fun _=>Ju trivial);have h:i<(l.length:Int):=D6 h;have hx:=he _ (getD_mem ((0,0,0,0,[]):Yq3) (show i.toNat<l.length by omega));obtain⟨v,hv⟩:=get_some (Abd hN hx hn);rw[hv,w64 (x:=i+1),Di i0,Di h];simp only[Option.isSome_some,Option.getD_some,DU,JI];exact Jv (fun _=>Ju trivial) (fun _=>hc _ ⟨by dsimp only;omega,by dsimp only;omega,rfl⟩ (by dsimp only;omega))
def enQ (e:Yq3):Prop:=(1<=e.1/\e.1<=4611686018427387904)/\(0<=e.2.1/\e.2.1<=254033452799)/\(-1<=e.2.2.2.1/\e.2.2.2.1<=254033452799)/\(0<=e.2.2.1/\e.2.2.1<=10)
omit hN in
theorem Yk {n a b:Int} (h:Aaq n a b=true):a<=n/\n<=b:=by unfold Aaq at h;rw[Dq,D5,D5]at h;exact h
theorem AtL (l:Yq4) (hl:OkD l) (i:Int) (i0:0<=i) (i1:i<(l.2.2.2.2.2.2.2.2.2.2.2.2.2.2.2.1.length:Int)):Ends (fun e=>e=0->enQ (l.2.2.2.2.2.2.2.2.2.2.2.2.2.2.2.1.getD i.toNat (0,0,0,0,[]))) (Wy N l i):=by
 obtain⟨a,b,c,d,e,f,g,h,i',j,k,m,n,o,p,q,r⟩:=l;have hl:TE c h j p q:=hl;have i1:i<(q.length:Int):=i1;have hx:=hl.2.2.2.2.2 _ (getD_mem ((0,0,0,0,[]):Yq3) (show i.toNat<q.length by omega));have hlq:=hl.2.2.2.2.1;have z: ∀ {w:Int} {P:Prop},w≠0->(w=0->P):=fun h x=>absurd x h;unfold Wy;try simp only[clR]
 refine J9 (Di i0) (J9 (Di i1) ?_);generalize hE:q.getD i.toNat (0,0,0,0,[])=en at hx ⊢;obtain⟨e1,e2,e3,e4,e5⟩:=en;dsimp only at hx ⊢;rw[Yj,Jt];refine Jv (fun _=>Ju (z (by decide))) (fun s1=> ?_);rw[Yj,Jt,Yj];simp only[Option.isSome_some,Option.getD_some,DU,JI];refine Jv (fun _=>Ju (z (by decide))) (fun s2=> ?_);refine Jz (Avt N e3) fun(v:Bool) hv9=> ?_;generalize (e3==8)=w8;refine J9 (by cases v<;>cases w8<;>rfl) ?_;refine Jv (fun _=>Ju (z (by decide))) (fun s9=>Jv (fun _=>Ju (z (by decide))) (fun _=> ?_));have s9:v=true:=by rw[EU]at s9;simpa using s9.1
 have s9:=hv9 s9;rw[Sj N e5 hN hx.1,Jt];refine Jv (fun hh=>Ju (fun x=>by rw[x]at hh;cases hh)) (fun _=> ?_);refine Jz (A1B N _) fun w _=> ?_;obtain⟨v2,hv2⟩:=get_some (Abd hN hx hl.1);rw[hv2];simp only[Option.isSome_some,Option.getD_some,DU,JI];refine Jv (fun _=>Ju (z (by decide))) (fun _=>J9 (Di i0) (J9 (Di) ?_));refine Jz (AxE hN (JD q 0 i.toNat) e5 e1 ?_ ?_ hx) fun v3 _=>Jv (fun _=>Ju (z (by decide))) (fun _=>Ju fun _=> ?_)
 .show(q.take i.toNat).length<=_;rw[Eb];omega
 .intro y hy;exact hl.2.2.2.2.2 y (Gi (show y∈q.take i.toNat from hy))
 .rw[EU]at s2;exact⟨Yk (by simpa using s1),Yk (by simpa using s2.1),Yk (by simpa using s2.2),s9⟩
theorem AtN (l:Yq4) (hl:OkD l):Ends (fun e=>e=0->JF .andNot .i64 l.2.2.2.2.2.2.2.2.2.2.2.2.1 510=0/\l.2.2.2.2.2.2.2.2.2.1.length<=16) (W9 N l):=by
 obtain⟨a,b,c,d,e,f,g,h,i',j,k,m,n,o,p,q,r⟩:=l;have hl:TE c h j p q:=hl;have z: ∀ {w:Int} {P:Prop},w≠0->(w=0->P):=fun h x=>absurd x h;unfold W9;try simp only[clR]
 refine KE (P:=fun x=>x.2=(j,k,m,n,o)) (fun jj hj=> ?_) ?_
 .generalize (((j.length:Nat):Int)==0&& !k&& !m&&n==0&& !o)=pl;exact Jv (fun _=>hj _ rfl) (fun _=>J9 (by cases i'<;>cases pl<;>cases k<;>rfl) (J9 (by cases i'<;>cases pl<;>rfl) (hj _ rfl)))
 .rintro ⟨b1,j',k',m',n',o'⟩ hP;injection hP with p1 hP;injection hP with p2 hP;injection hP with p3 hP;injection hP with p4 p5;subst p1 p2 p3 p4 p5;dsimp only[U6];refine Jv (fun _=>Ju (z (by decide))) (fun _=>Jv (fun _=>Ju (z (by decide))) (fun h1=>Jv (fun _=>Ju (z (by decide))) (fun h2=> ?_)));have h1:JF .andNot .i64 n' 510=0:=by simpa using h1
  have h2: ¬(j'.length:Int)>16:=DY h2;refine KP (fun(x:Int)=>0<=x/\x<=(j'.length:Int)) (fun x=>((j'.length:Int) - x).toNat) ?_ N _ ⟨by omega,by omega⟩;intro t ⟨t0,t1⟩ y hy;refine Jv (fun hh=> ?_) (fun _=>Ju fun _=>⟨h1,by show j'.length<=16;omega⟩);have hh:t<(j'.length:Int):=D6 hh;have hg:=hl.2.2.1 _ (getD_mem ((0,[],[]):Gn) (show t.toNat<j'.length by omega));refine J9 (Di t0) (J9 (Di hh) ?_);rw[TQ N _ false hN hg,Jt,w64 (x:=t+1)];exact Jv (fun hh=>Ju (fun x=>by rw[x]at hh;cases hh)) (fun _=>hy _ ⟨by omega,by omega⟩ (by omega))
structure CkD (l:Yq4):Prop where
 this:0<=l.2.2.2.1/\l.2.2.2.1<=254033452799
 next:0<=l.2.2.2.2.1/\l.2.2.2.2.1<=254033452799
 number:0<=l.2.2.2.2.2.1/\l.2.2.2.2.2.1<=4611686018427387904
 base: -1<=l.2.2.2.2.2.2.1/\l.2.2.2.2.2.2.1<=4611686018427387904
 ak:l.2.2.2.2.2.2.2.1.length<=32
 rs:JF .andNot .i64 l.2.2.2.2.2.2.2.2.2.2.2.2.1 510=0
 ns:l.2.2.2.2.2.2.2.2.2.1.length<=16
 len:l.2.2.2.2.2.2.2.2.2.2.2.2.2.2.2.1.length<=256
 en: ∀ i:Nat,i<l.2.2.2.2.2.2.2.2.2.2.2.2.2.2.2.1.length->enQ (l.2.2.2.2.2.2.2.2.2.2.2.2.2.2.2.1.getD i (0,0,0,0,[]))
theorem Amn (l:Yq4) (hl:OkD l):Ends (fun e=>e=0->CkD l) (Yy N l):=by
 have hl0:=hl;obtain⟨a,b,c,d,e,f,g,h,i',j,k,m,n,o,p,q,r⟩:=l;have hl:TE c h j p q:=hl;have z: ∀ {w:Int} {P:Prop},w≠0->(w=0->P):=fun h x=>absurd x h;unfold Yy;try simp only[clR]
 refine Jv (fun _=>Ju (z (by decide))) (fun _=> ?_);rw[Sj N c hN hl.1.1,Jt];refine Jv (fun hh=>Ju (fun x=>by rw[x]at hh;cases hh)) (fun _=> ?_);rw[Yj,Jt,Yj];simp only[Option.isSome_some,Option.getD_some,DU,JI];refine Jv (fun _=>Ju (z (by decide))) (fun s1=> ?_);rw[Yj,Jt,Yj];simp only[Option.isSome_some,Option.getD_some,DU,JI];refine J9 (by cases Aaq f 0 4611686018427387904<;>cases Aaq g (-1) 4611686018427387904<;>cases g != -1<;>rfl) ?_;refine Jv (fun _=>Ju (z (by decide))) (fun s2=>Jv (fun _=>Ju (z (by decide))) (fun s3=> ?_));refine Jz (AtN hN _ hl0) fun(v:Int) hv=>Jv (fun hh=>Ju (fun x=>by rw[x]at hh;cases hh)) (fun s4=>Jv (fun _=>Ju (z (by decide))) (fun _=> ?_));have s4:v=0:=by simpa using s4
 obtain⟨v1,v2⟩:=hv s4;rw[Ti N p hN hl.2.2.2.1,Jt];refine Jv (fun hh=>Ju (fun x=>by rw[x]at hh;cases hh)) (fun _=>Jv (fun _=>Ju (z (by decide))) (fun s5=> ?_));have s5: ¬(q.length:Int)>256:=DY s5;have s3: ¬(h.length:Int)>32:=DY s3;refine KP (fun(x:Int×Yq4)=>0<=x.1/\x.1<=(q.length:Int)/\x.2=(a,b,c,d,e,f,g,h,i',j,k,m,n,o,p,q,r)/\ ∀ y:Nat,y<x.1.toNat->enQ (q.getD y (0,0,0,0,[]))) (fun x=>((q.length:Int) - x.1).toNat) ?_ N _ ⟨by dsimp only;omega,by dsimp only;omega,rfl,fun y hy=>absurd hy (Hy _)⟩ (by dsimp only;omega);rintro ⟨t,l2⟩ ⟨t0,t1,t2,t3⟩ w hw;have t2:l2=(a,b,c,d,e,f,g,h,i',j,k,m,n,o,p,q,r):=t2;subst t2;dsimp only at t0 t1 t3 hw;dsimp only[U18];refine Jv (fun hh=> ?_) (fun hh=> ?_)
 .have hh:t<(q.length:Int):=D6 hh;refine Jz (AtL hN _ hl0 t t0 hh) fun(u:Int) hu=>Jv (fun hh=>Ju (fun x=>by rw[x]at hh;cases hh)) (fun s6=> ?_);have s6:u=0:=by simpa using s6
  have hu:enQ (q.getD t.toNat (0,0,0,0,[])):=hu s6;rw[w64 (x:=t+1)];refine hw _ ⟨by dsimp only;omega,by dsimp only;omega,rfl,fun y hy=> ?_⟩ (by dsimp only;omega);dsimp only at hy;by_cases e9:y=t.toNat
  .rw[e9];exact hu
  .exact t3 y (by omega)
 .have hh: ¬ t<(q.length:Int):=DY hh;simp only[EU,Bool.not_eq_false']at s1 s2;exact Ju fun _=>⟨Yk s1.1.1,Yk s1.1.2,Yk s2.1.1,Yk s2.1.2,by show h.length<=32;omega,v1,v2,by show q.length<=256;omega,fun y hy=>t3 y (by have hy:y<q.length:=hy;omega)⟩
end
def A2G (k:Int):Int:=([4611686018427387904,18014398509481984,70368744177664,274877906944,1073741824,4194304,16384,64]:List Int).getD (k - 1).toNat 0
def A3U (x:Int):0<=u64.wrap x:=by have:u64.wrap x=x % 18446744073709551616:=rfl;rw[this];exact Int.emod_nonneg _ (by decide)
section
variable {N:Nat} (hN:1048578<N)
include hN
theorem AjX (n:Int) (h0: -1<=n) (h1:n<=4611686018427387904):Ends (fun r=>r.length<=8) (Ob N n):=by
 unfold Ob;try simp only[clR]
 refine KP (fun(x:Int×Int)=>1<=x.1/\x.1<=8/\ -1<=x.2/\x.2<=A2G x.1) (fun x=>(9 - x.1).toNat) ?_ N _ ⟨by dsimp only;omega,by dsimp only;omega,h0,h1⟩ (by dsimp only;omega);rintro ⟨k,v⟩ ⟨k0,k1,v0,v1⟩ c hc;dsimp only at k0 k1 v0 v1 hc;dsimp only[U2];refine Jv (fun hh=> ?_) (fun _=> ?_)
 .have hv:127<v:=by
   rw[EE,D5,D5]at hh;have hh:v< -128\/v>127:=hh;omega
  have q:v.fdiv 256=v / 256:=GR v (by decide);rw[q,w64 (x:=k+1)];have:k=1\/k=2\/k=3\/k=4\/k=5\/k=6\/k=7\/k=8:=by omega
  have key:k+1<=8/\v / 256<=A2G (k+1):=by
   rcases this with rfl | rfl | rfl | rfl | rfl | rfl | rfl | rfl
   .have v1:v<=4611686018427387904:=v1;exact⟨by omega,by show v / 256<=18014398509481984;omega⟩
   .have v1:v<=18014398509481984:=v1;exact⟨by omega,by show v / 256<=70368744177664;omega⟩
   .have v1:v<=70368744177664:=v1;exact⟨by omega,by show v / 256<=274877906944;omega⟩
   .have v1:v<=274877906944:=v1;exact⟨by omega,by show v / 256<=1073741824;omega⟩
   .have v1:v<=1073741824:=v1;exact⟨by omega,by show v / 256<=4194304;omega⟩
   .have v1:v<=4194304:=v1;exact⟨by omega,by show v / 256<=16384;omega⟩
   .have v1:v<=16384:=v1;exact⟨by omega,by show v / 256<=64;omega⟩
   .have v1:v<=64:=v1;omega
  exact hc _ ⟨by dsimp only;omega,by dsimp only;omega,by dsimp only;omega,key.2⟩ (by dsimp only;omega)
 .refine KP (fun(x:Int×List Int)=>0<=x.1/\x.1<=k/\(x.2.length:Int)=x.1/\ ∀ y∈x.2,isByte y=true) (fun x=>(k - x.1).toNat) ?_ N _ ⟨by dsimp only;omega,by dsimp only;omega,rfl,fun y hy=>by cases hy⟩ (by dsimp only;omega);rintro ⟨i,L⟩ ⟨i0,i1,i2,i3⟩ d hd;dsimp only at i0 i1 i2 i3 hd;dsimp only[U2];refine Jv (fun h=> ?_) (fun h=> ?_)
  .have h:i<k:=D6 h;refine J9 (Di (A3U _)) (J9 (Di) ?_);rw[w64 (x:=i+1)];exact hd _ ⟨by dsimp only;omega,by dsimp only;omega,by dsimp only;rw[Dp];show((L.length+1:Nat):Int)=_;omega,OX i3 (PY _)⟩ (by dsimp only;omega)
  .refine J9 (by rw[D8];exact i3) (Ju ?_);rw[Dz];omega
theorem Uk (t:Nat) (b:Bool) (l:List Bs) (ht:t<256) (h31:t % 32≠31) (hl:l.length<=1000:=by simp):Ends (fun r=>r.1.length<=131077) (JU N b (t:Int) l):=by rw[Ak0 N t b l ht h31];exact Ju wZ
theorem dR (b:Bool) (l:List Bs) (hl:l.length<=1000:=by simp):Ends (fun r=>r.1.length<=131077) (KG N b l):=by rw[AvT N b l (by omega) (by omega)];exact Ju wZ
theorem Acl (b:Bool) (n:Int) (h0: -1<=n) (h1:n<=4611686018427387904):Ends (fun r=>r.1.length<=131077) (PI N b n):=by unfold PI;exact Jz (AjX hN n h0 h1) fun v hv=>Jz (Uk hN 2 b _ (by omega) (by omega)) fun w hw=>Ju hw
end
section
variable {N:Nat} (hN:1048578<N)
include hN
theorem Aqt (b:Bool) (e:Yq3) (n:List (List Att)) (he:Abj e) (hc:enQ e) (hn:cpN n):Ends (fun r=>r.1.length<=131077) (Za N b e n):=by
 obtain⟨e1,e2,e3,e4,e5⟩:=e;have he:cpN e5:=he;obtain⟨⟨c1,c2⟩,⟨c3,c4⟩,⟨c5,c6⟩,c7,c8⟩:=hc;dsimp only at c1 c2 c3 c4 c5 c6 c7 c8;have sx: ∀(i:Bs) (c:Bool) (s:Bs),i.length<=100->s.length<=131077->NH (i,c,s):=fun i c s h1 h2=>⟨by show i.length<=_;omega,by show s.length<=_;omega⟩
 unfold Za;try simp -zeta only[Ap]
 refine KE (P:=fun x=> ∃(b':Bool) (L:List Ex),x=(b',e1,e2,e3,e4,e5,n,L)/\(∀ y∈L,NH y)/\L.length<=1) (fun j hj=>Jv (fun _=> ?_) (fun _=>hj _ ⟨_,_,rfl,(fun y hy=>by cases hy),by simp⟩)) ?_
 .refine Jz (AjX hN e3 (by omega) (by omega)) fun v hv=>Jz (Uk hN 10 b _ (by omega) (by omega)) fun w hw=>hj _ ⟨_,_,rfl,(fun y hy=> ?_),by simp⟩;rw[DR]at hy;subst hy;exact sx _ _ _ (by simp) hw
 rintro _ ⟨b1,L1,rfl,s1,l1⟩;dsimp only[U8];refine KE (P:=fun x=> ∃(b':Bool) (L:List Ex),x=(b',e1,e2,e3,e4,e5,n,L)/\(∀ y∈L,NH y)/\L.length<=2) (fun j hj=>Jv (fun h=> ?_) (fun _=>hj _ ⟨_,_,rfl,s1,by omega⟩)) ?_
 .have h:e4≠ -1:=by simpa using h
  refine Jz (dY hN e4 (by omega) c6) fun v hv=> ?_;rw[PE,Jt];exact J9 (Di) (hj _ ⟨_,_,rfl,OX s1 (sx _ _ _ (by simp) hv),by rw[Dp];show L1.length+1<=2;omega⟩)
 rintro _ ⟨b2,L2,rfl,s2,l2⟩;dsimp only[U8];refine KE (P:=fun x=> ∃(b':Bool) (L:List Ex),x=(b',e1,e2,e3,e4,e5,L)/\(∀ y∈L,NH y)/\L.length<=3) (fun j hj=> ?_) ?_
 .refine Jz (Abd hN he hn) fun v _=>Jv (fun _=> ?_) (fun _=>hj _ ⟨_,_,rfl,s2,by omega⟩);rw[Zl N (4,[],e5) false hN ⟨DN _,he.1⟩,Jt,PE,Jt];refine Jz (dR hN _ _) fun w hw=>J9 (Di) (hj _ ⟨_,_,rfl,OX s2 (sx _ _ _ (by simp) hw),by rw[Dp];show L2.length+1<=3;omega⟩)
 rintro _ ⟨b3,L3,rfl,s3,l3⟩;dsimp only[U7];refine KE (P:=fun x=> ∃(s:Bs) (b':Bool),x=(s,b',e1,e2,e3,e4,e5)) (fun j hj=>Jv (fun _=> ?_) (fun _=>hj _ ⟨_,_,rfl⟩)) ?_
 .refine Jz (Agz hN L3 s3 (by omega)) fun v hv=> ?_;rw[PE,Jt];exact hj _ ⟨_,_,rfl⟩
 rintro _ ⟨s4,b4,rfl⟩;dsimp only[U7];refine Jz (Acl hN b4 e1 (by omega) c2) fun v hv=>Jz (dY hN e2 c3 c4) fun w hw=> ?_;rw[PE,Jt];exact Jz (dR hN _ _) fun q hq=>Ju hq
end
def AsW {r:Int} (h0: -9223372036854775808<=r) (h1:r<=9223372036854775807) (h:JF .andNot .i64 r 510=0):0<=r/\r<512:=by
 have e:JF .andNot .i64 r 510=i64.wrap ((BitVec.ofInt 64 r &&& ~~~(510#64)).toNat:Int):=rfl;rw[e]at h;generalize hb:BitVec.ofInt 64 r=b at h
 have hz:(b &&& ~~~(510#64)).toNat=0:=by
  have hlt:=(b &&& ~~~(510#64)).isLt;generalize (b &&& ~~~(510#64)).toNat=n at h hlt;have e2:i64.wrap (n:Int)=if 9223372036854775808<=(n:Int) % 18446744073709551616 then(n:Int) % 18446744073709551616 - 18446744073709551616 else(n:Int) % 18446744073709551616:=by show(if(true&&decide ((n:Int) % 18446744073709551616>=9223372036854775808))=true then _ else _)=_;simp only[FD,D5,ge_iff_le];rfl
  rw[e2]at h;split at h<;>omega
 have hz2:b &&& ~~~(510#64)=0#64:=BitVec.eq_of_toNat_eq (by rw[hz];rfl)
 have hle:b.toNat<=510:=by
  have:b=b &&& 510#64:=by
   apply BitVec.eq_of_getLsbD_eq;intro i hi;have hq:(b &&& ~~~(510#64)).getLsbD i=false:=by rw[hz2];simp
   rw[Je,BitVec.getLsbD_not]at hq;rw[Je];have hd:decide (i<64)=true:=Di hi;rw[hd,FD]at hq;revert hq;cases b.getLsbD i<;>cases (510#64).getLsbD i<;>simp
  rw[this,BitVec.toNat_and];exact Nat.and_le_right
 have hn:(b.toNat:Int)=r % 18446744073709551616:=by
  rw[<- hb,Ih];have:(0:Int)<=r % 18446744073709551616:=by omega
  rw[show((2 ^ 64:Nat):Int)=18446744073709551616 from rfl];exact IM this
 omega
def pnB (l:List Gn):Bs:=bif l.isEmpty then []else Sp.elem 160 (Sp.elem 160 (Uz l))
def pfB (t:Nat) (r:Int):Bs:=bif r==0 then []else Sp.elem t (flB r)
def piB (b:Bool) (n:List (List Att)):Bs:=bif b then Sp.elem 162 (Zk (4,[],n))else []
def ZL (p:Pt):Bs:=Sp.elem 48 (pnB p.1++(pfB 129 p.2.1++piB p.2.2.1 p.2.2.2))
structure Atr (p:Pt):Prop where
 n16:p.1.length<=16
 ns:KW (fun g=>P6 g false) p.1=0
 r:0<=p.2.1/\p.2.1<512
 i:p.2.2.1=true->RI p.2.2.2=0/\p.2.2.2≠ []
 ne:p.1=[]->p.2.2.1=true
 nb:p.2.2.1=false->p.2.2.2=[]
def A3v {p:Pt} (hs:Qr p) (h:ptI p=0):Atr p:=by
 obtain⟨g,r,b,n⟩:=p;obtain⟨_,_,hr0,hr1⟩:=hs;unfold ptI at h;dsimp only at h hr0 hr1;cases h1:(g.isEmpty&& !b)||(!n.isEmpty&& !b)with
 | true=>rw[h1]at h;cases h
 | false =>
  rw[h1,cond_false]at h;cases h2:JF .andNot .i64 r 510 != 0 with
  | true=>rw[h2]at h;cases h
  | false =>
   rw[h2,cond_false]at h;cases h3:decide (16<g.length)with
   | true=>rw[h3]at h;cases h
   | false =>
    rw[h3,cond_false]at h;cases h4:ZA g false != 0 with
    | true=>rw[h4,cond_true]at h;rw[h]at h4;cases h4
    | false =>
     rw[h4,cond_false]at h;have:=DY h3;refine⟨by dsimp only;omega,by simpa [ZA]using h4,AsW hr0 hr1 (by simpa using h2),?_,?_,?_⟩
     .intro hb;dsimp only at hb ⊢;subst hb;rw[EI,cond_false]at h;cases h5:n.isEmpty with
      | true=>rw[h5]at h;cases h
      | false =>rw[h5,cond_false]at h;exact⟨h,by intro hn;subst hn;cases h5⟩
     .intro hg;dsimp only at hg ⊢;subst hg;cases b with
      | true=>rfl
      | false=>cases h1
     .intro hb;dsimp only at hb ⊢;subst hb;cases n with
      | nil=>rfl
      | cons x y=>simp at h1
def Ate {p:Pt} (h:Atr p):(pnB p.1).length<=71978/\(Uz p.1).length<=71968:=by
 have h1:=Axl h.ns h.n16;have h2:=Sp.JM 160 (Uz p.1);have h3:=Sp.JM 160 (Sp.elem 160 (Uz p.1));refine⟨?_,h1⟩;unfold pnB;cases p.1.isEmpty with
 | true=>exact DN _
 | false=>rw[cond_false];omega
def AsN {r:Int} (h:0<=r/\r<512):(flB r).length<=3:=(xA 1048579 r (by omega) h.1 h.2).2.2
def A1U {t:Nat} {r:Int} (h:0<=r/\r<512):(pfB t r).length<=8:=by
 have h1:=AsN h;have h2:=Sp.JM t (flB r);unfold pfB;cases r==0 with
 | true=>exact DN _
 | false=>rw[cond_false];omega
def Aww {n:List (List Att)} (h:RI n=0):P6 (4,[],n) false=0:=by unfold P6;rw[UT rfl,cond_true];exact h
def Atd {b:Bool} {n:List (List Att)} (h:b=true->RI n=0/\n≠ []):(piB b n).length<=4503/\(b=true->(Zk (4,[],n)).length<=4498):=by
 unfold piB;cases b with
 | false=>exact⟨DN _,fun h=>by cases h⟩
 | true =>have h1:=Ahu (Aww (h rfl).1);have h2:=Sp.JM 162 (Zk (4,[],n));rw[cond_true];exact⟨by omega,fun _=>h1⟩
def AjS {p:Pt} (h:Atr p):(ZL p).length<=76494/\(pnB p.1++(pfB 129 p.2.1++piB p.2.2.1 p.2.2.2)).length<=76489:=by
 have h1:=(Ate h).1;have h2:=A1U (t:=129) h.r;have h3:=(Atd h.i).1;have h4:=Sp.JM 48 (pnB p.1++(pfB 129 p.2.1++piB p.2.2.1 p.2.2.2));unfold ZL;rw[Dp,Dp]at *
 omega
def A1X {l:List Pt} (hs: ∀ p∈l,Qr p) (h:rF l=0):l.length<=4/\ ∀ p∈l,Atr p:=by
 unfold rF at h;cases h1:decide (4<l.length)with
 | true=>rw[h1]at h;cases h
 | false =>rw[h1,cond_false]at h;have:=DY h1;exact⟨by omega,fun p hp=>A3v (hs p hp) (Ae2 h p hp)⟩
def Avr (l:List Pt):Bs×Int:=bif l.isEmpty then([],7)else bif rF l != 0 then([],rF l)else A2V 48 (l.map ZL).flatten
def Az0 {l:List Gn} (h0:l≠ []) (h16:l.length<=16) (h:KW (fun g=>P6 g false) l=0):Ao1 l=(Uz l,0):=by unfold Ao1 ZA;rw[show l.isEmpty=false by cases l with | nil=>exact absurd rfl h0 | cons _ _=>rfl,cond_false,A50,cond_false,h];rfl
def Auf {n:List (List Att)} (h:Ua n):aN (4,[],n):=⟨DN _,h⟩
def sV (N:Nat) (l:List Pt) (hN:1048578<N) (hs: ∀ p∈l,Qr p):QC N l=some (Avr l):=by
 unfold QC Avr;try simp only[clR]
 rw[len0,Ti N l hN hs];cases he:l.isEmpty with
 | true=>rfl
 | false =>
  rw[cond_false,cond_false,Jt,<- Lr];show(bif rF l != 0 then some ([],rF l)else _)=bif rF l != 0 then _ else _;refine OQ fun h0=> ?_;obtain⟨h4,hok⟩:=A1X hs (by simpa using h0);refine(Yi (mk:=fun i a=>((i:Int),false,a)) l ([],0,false,[]) ZL (fun a=>Jr (KG N false a) fun r88=>Jr (NL N r88.snd) fun r90=>bif r90.fst then some ([],2)else some (r88.fst,0)) ?_ ?_ N).trans ?_
  .intro i a hi ha k;have hsm:=hs _ (getD_mem ([],0,false,[]) hi);have hp:=hok _ (getD_mem ([],0,false,[]) hi);dsimp only[U3];rw[Int.toNat_natCast];generalize l.getD i ([],0,false,[])=p at *
   obtain⟨g,r,b,n⟩:=p;have l1:=Ate hp;have l2:=AsN hp.r;have l3:=Atd hp.i;have l4:=AjS hp;dsimp only at l1 l2 l3 l4;have hl160:=Sp.JM 160 (Uz g);have e1: ∀ K:Bool×Bs->Option (Bs×Int),True:=fun _=>trivial;have hseq:KG N false [pnB g,pfB 129 r,piB b n]=some (ZL (g,r,b,n),false):=by unfold KG;have w:JU N false 48 [pnB g,pfB 129 r,piB b n]=_:=Aip N 48 false [pnB g,pfB 129 r,piB b n] (by omega) (by omega) hN (by simp) (by rw[flat3];omega);rw[w,Jt,flat3];rfl
   have fin: ∀(x:Bool×List Bs×List Bs),x=(false,[pnB g,pfB 129 r,piB b n],a)->U3 (fun b38144_0d l39936d l1012288d=>Jr (KG N b38144_0d l39936d) fun r82=>Vm.chk (decide ((l1012288d.length+1)*17<=140737488355328)) (k (i64.wrap ((i:Int)+1),r82.snd,l1012288d++[r82.fst]))) x=k (((i+1:Nat):Int),false,a++[ZL (g,r,b,n)]):=by intro x hx;subst hx;dsimp only[U3];rw[hseq,Jt];simp (disch:=omega) only[JH,KX]
   have gen:NC N (4,[],n) false=some (Alf (4,[],n) false):=Zl N (4,[],n) false hN (Auf hsm.2.1);rw[uS (show(i:Int)<(l.length:Int) by omega),cond_true,Abh,JI,JI];simp only[KC]
   have step1: ∀(J:List Gn×Int×Bool×List (List Att)×Bool×List Bs×List Bs->Option (Bs×Int)),(bif decide (((g.length:Nat):Int)>0)then Jr (PL N g) fun r39=>Jr (Ku N false r39.fst r39.snd) fun r42=>Jr (JU N r42.snd 160 [r42.fst]) fun r44=>Jr (JU N r44.snd 160 [r44.fst]) fun r46=>J (g,r,b,n,r46.snd,[r46.fst,[],[]],a)else J (g,r,b,n,false,[[],[],[]],a))=J (g,r,b,n,false,[pnB g,[],[]],a):=by
    intro J;rw[Alr];unfold pnB;cases hg:g.isEmpty with
    | true=>rfl
    | false =>
     have hg0:g≠ []:=by intro h;subst h;cases hg
     have w1:JU N false 160 [Uz g]=_:=Aip N 160 false [Uz g] (by omega) (by omega) hN (by simp) (by rw[RD];omega);have w2:JU N false 160 [Sp.elem 160 (Uz g)]=_:=Aip N 160 false [Sp.elem 160 (Uz g)] (by omega) (by omega) hN (by simp) (by rw[RD];omega);rw[RD]at w1 w2;rw[Et,cond_true,cond_false,aT N g hN hsm.1,Az0 hg0 hp.n16 hp.ns,Jt,PE,Jt];show Jr (JU N false 160 [Uz g]) _=_;rw[w1,Jt];show Jr (JU N false 160 [Sp.elem 160 (Uz g)]) _=_;rw[w2,Jt]
   refine(step1 _).trans ?_;dsimp only[U7]
   have last: ∀ x:Bs,x=pfB 129 r->(bif b then Jr (NC N (4,[],n) false) fun r72=>Jr (Ku N false r72.fst r72.snd) fun r75=>Jr (JU N r75.snd 162 [r75.fst]) fun r77=>Vm.chk (decide (2<(([pnB g,x,[]]:List Bs).length:Int))) (Vm.chk (decide (2<([pnB g,x,[]]:List Bs).length)) (U3 (fun b38144_0d l39936d l1012288d=>Jr (KG N b38144_0d l39936d) fun r82=>Vm.chk (decide ((l1012288d.length+1)*17<=140737488355328)) (k (i64.wrap ((i:Int)+1),r82.snd,l1012288d++[r82.fst]))) (r77.snd,([pnB g,x,[]]:List Bs).set 2 r77.fst,a)))else U3 (fun b38144_0d l39936d l1012288d=>Jr (KG N b38144_0d l39936d) fun r82=>Vm.chk (decide ((l1012288d.length+1)*17<=140737488355328)) (k (i64.wrap ((i:Int)+1),r82.snd,l1012288d++[r82.fst]))) (false,[pnB g,x,[]],a))=k (((i+1:Nat):Int),false,a++[ZL (g,r,b,n)]):=by
    intro x hx;subst hx;cases hb:b with
    | false =>subst hb;rw[cond_false];exact fin _ rfl
    | true =>subst hb;have hn:=hp.i rfl;have l5:=l3.2 rfl;have w1:JU N false 162 [Zk (4,[],n)]=_:=Aip N 162 false [Zk (4,[],n)] (by omega) (by omega) hN (by simp) (by rw[RD];omega);rw[RD]at w1;unfold Alf at gen;rw[Aww hn.1]at gen;rw[cond_true,gen,Jt,PE,Jt];show Jr (JU N false 162 [Zk (4,[],n)]) _=_;rw[w1,Jt];exact fin _ rfl
   by_cases hr:r=0
   .rw[YQ hr,cond_false];refine last [] ?_;unfold pfB;rw[UT hr];rfl
   .have w1:JU N false 129 [flB r]=_:=Aip N 129 false [flB r] (by omega) (by omega) hN (by simp) (by rw[RD];omega);rw[RD]at w1;rw[UU hr,cond_true,(xA N r hN hp.r.1 hp.r.2).1,Jt,PE,Jt];show Jr (JU N false 129 [flB r]) _=_;rw[w1,Jt];refine last (Sp.elem 129 (flB r)) ?_;unfold pfB;rw[MO hr];rfl
  .intro a k ha;simp (disch:=omega) only[JH]
  .have hl:=Oo (g:=ZL) (M:=76494) (l:=l) (fun p hp=>(AjS (hok p hp)).1);rw[AvT N false _ (by rw[Dz];omega) (by rw[Dz];omega),Jt];unfold A2V NL;cases NM 48 (l.map ZL).flatten<;>rfl
section
variable {N:Nat} (hN:1048578<N)
include hN
theorem Aft (b:Bool) (t:Nat) (v:Bool) (ht:t<256:=by omega) (h31:t % 32≠31:=by omega):Ends (fun r=>r.1.length<=131077) (Qj N b (t:Int) v):=by unfold Qj;refine Jv (fun _=>Ju (DN _)) (fun _=> ?_);rw[show SV N true=some [255]from rfl,Jt];exact Jz (Uk hN t b _ ht h31) fun w hw=>Ju hw
theorem Aqu (b:Bool) (j:List Gn) (k m:Bool) (n:Int) (o:Bool) (hj:OE j) (h0:0<=n) (h1:n<512):Ends (fun r=>r.1.length<=131077) (Zb N b (j,k,m,n,o)):=by
 unfold Zb;try simp -zeta only[Ap]
 refine KE (P:=fun x=> ∃(s:Bs) (b':Bool),x=(s,b',j,k,m,n,o)) (fun jj hjj=>Jv (fun _=> ?_) (fun _=>hjj _ ⟨_,_,rfl⟩)) ?_
 .rw[aT N j hN hj,Jt,PE,Jt];exact Jz (Uk hN 160 _ _ (by omega) (by omega)) fun v _=>Jz (Uk hN 160 _ _ (by omega) (by omega)) fun w _=>hjj _ ⟨_,_,rfl⟩
 rintro _ ⟨s1,b1,rfl⟩;dsimp only[U7];refine KE (P:=fun x=> ∃(s:Bs) (b':Bool),x=(s,b',j,k,m,n,o)) (fun jj hjj=>Jv (fun _=> ?_) (fun _=>hjj _ ⟨_,_,rfl⟩)) ?_
 .rw[(xA N n hN h0 h1).1,Jt,PE,Jt];exact Jz (Uk hN 131 _ _ (by omega) (by omega)) fun v _=>hjj _ ⟨_,_,rfl⟩
 rintro _ ⟨s2,b2,rfl⟩;dsimp only[U7];refine Jz (Aft hN b2 129 k) fun v _=>Jz (Aft hN v.2 130 m) fun w _=>Jz (Aft hN w.2 132 o) fun y _=>Jz (dR hN _ _) fun q hq=>Ju hq
theorem Axh (b0:Bool) (l:Yq4) (hl:OkD l) (hr:rg l.2.2.2.2.2.2.2.2.2.2.2.2.1) (hc:CkD l):Ends (fun r=>(∀ y∈r.1,NH y)/\r.1.length<=5) (SH N b0 l):=by
 obtain⟨a,b,c,d,e,f,g,h,i',j,k,m,n,o,p,q,r⟩:=l;have hl:TE c h j p q:=hl;have hn:0<=n/\n<512:=AsW hr.1 hr.2 hc.rs;have c1:0<=f/\f<=4611686018427387904:=hc.number;have c2: -1<=g/\g<=4611686018427387904:=hc.base;have sx: ∀(i:Bs) (c:Bool) (s:Bs),i.length<=100->s.length<=131077->NH (i,c,s):=fun i c s h1 h2=>⟨by show i.length<=_;omega,by show s.length<=_;omega⟩
 unfold SH;try simp -zeta only[Ap]
 refine KE (P:=fun x=> ∃(b':Bool) (L:List Ex),x=(b',a,b,c,d,e,f,g,h,i',j,k,m,n,o,p,q,r,L)/\(∀ y∈L,NH y)/\L.length<=1) (fun jj hj=>Jv (fun _=> ?_) (fun _=>hj _ ⟨_,_,rfl,(fun y hy=>by cases hy),by simp⟩)) ?_
 .refine Jz (Uk hN 128 b0 _ (by omega) (by omega)) fun v _=>Jz (dR hN _ _) fun w hw=>hj _ ⟨_,_,rfl,(fun y hy=> ?_),by simp⟩;rw[DR]at hy;subst hy;exact sx _ _ _ (by simp) hw
 rintro _ ⟨b1,L1,rfl,s1,l1⟩;dsimp only[U19];refine Jz (Acl hN b1 f (by omega) c1.2) fun v hv=>J9 (Di) ?_;have s1': ∀ y∈L1++[(([50,46,53,46,50,57,46,50,48]:Bs),false,v.1)],NH y:=OX s1 (sx _ _ _ (by simp) hv);have l1':(L1++[(([50,46,53,46,50,57,46,50,48]:Bs),false,v.1)]).length<=2:=by rw[Dp];show L1.length+1<=2;omega
 generalize L1++[(([50,46,53,46,50,57,46,50,48]:Bs),false,v.1)]=L2 at s1' l1' ⊢;refine KE (P:=fun x=> ∃(b':Bool) (L:List Ex),x=(b',a,b,c,d,e,f,g,h,i',j,k,m,n,o,p,q,r,L)/\(∀ y∈L,NH y)/\L.length<=3) (fun jj hj=>Jv (fun _=> ?_) (fun _=>hj _ ⟨_,_,rfl,s1',by omega⟩)) ?_
 .exact Jz (Acl hN v.2 g c2.1 c2.2) fun w hw=>J9 (Di) (hj _ ⟨_,_,rfl,OX s1' (sx _ _ _ (by simp) hw),by rw[Dp];show L2.length+1<=3;omega⟩)
 rintro _ ⟨b3,L3,rfl,s3,l3⟩;dsimp only[U19];refine KE (P:=fun x=> ∃(b':Bool) (L:List Ex),x=(b',a,b,c,d,e,f,g,h,i',j,k,m,n,o,p,q,r,L)/\(∀ y∈L,NH y)/\L.length<=4) (fun jj hj=>Jv (fun _=> ?_) (fun _=>hj _ ⟨_,_,rfl,s3,by omega⟩)) ?_
 .exact Jz (Aqu hN b3 j k m n o hl.2.2.1 hn.1 hn.2) fun w hw=>J9 (Di) (hj _ ⟨_,_,rfl,OX s3 (sx _ _ _ (by simp) hw),by rw[Dp];show L3.length+1<=4;omega⟩)
 rintro _ ⟨b4,L4,rfl,s4,l4⟩;dsimp only[U19];refine Jv (fun _=> ?_) (fun _=>Ju ⟨s4,by show L4.length<=5;omega⟩);rw[sV N p hN hl.2.2.2.1,Jt,PE,Jt]
 have hp:(Avr p).1.length<=131077:=by
  unfold Avr;cases p.isEmpty with
  | true=>exact DN _
  | false=>cases rF p != 0 with
   | true=>exact DN _
   | false=>exact wZ
 exact J9 (Di) (Ju ⟨OX s4 (sx _ _ _ (by simp) hp),by show(L4++[_]).length<=5;rw[Dp];show L4.length+1<=5;omega⟩)
end
section
variable {N:Nat} (hN:1048578<N)
include hN
theorem A0X (l:Yq4) (hl:OkD l) (hr:rg l.2.2.2.2.2.2.2.2.2.2.2.2.1):Ends (fun _=>True) (Vg N l):=by
 have hl0:=hl;have hr0:=hr;unfold Vg;try simp -zeta only[Ap]
 refine Jz (Amn hN l hl) fun(v:Int) hv=>Jv (fun _=>Ju trivial) (fun h=> ?_);have h:v=0:=by simpa using h
 have hc:=hv h;obtain⟨a,b,c,d,e,f,g,h,i',j,k,m,n,o,p,q,r⟩:=l;have hl:TE c h j p q:=hl;have c1:0<=d/\d<=254033452799:=hc.this;have c2:0<=e/\e<=254033452799:=hc.next;have c3:q.length<=256:=hc.len;have c4: ∀ i:Nat,i<q.length->enQ (q.getD i (0,0,0,0,[])):=hc.en;refine KE (P:=fun x=> ∃(s:Bs) (b':Bool),x=(s,a,b,c,d,e,f,g,h,i',j,k,m,n,o,p,q,r,b')) (fun jj hj=>Jv (fun _=> ?_) (fun _=>hj _ ⟨_,_,rfl⟩)) ?_
 .dsimp only;refine KP (fun x=> ∃(t:Int) (last:List (List Att)) (b':Bool) (L:List Bs),x=(t,a,b,c,d,e,f,g,h,i',j,k,m,n,o,p,q,r,last,b',L)/\0<=t/\t<=(q.length:Int)/\cpN last/\(L.length:Int)=t) (fun x=>((q.length:Int) - x.1).toNat) ?_ N _ ⟨0,c,false,[],rfl,by omega,by omega,hl.1,rfl⟩ (by dsimp only;omega);rintro _ ⟨t,last,b',L,rfl,t0,t1,t2,t3⟩ y hy;dsimp only at hy;dsimp only[U21];refine Jv (fun hh=> ?_) (fun _=> ?_)
  .have hh:t<(q.length:Int):=D6 hh;have hi:t.toNat<q.length:=by omega
   have he:=hl.2.2.2.2.2 _ (getD_mem ((0,0,0,0,[]):Yq3) hi);refine J9 (Di t0) (J9 (Di hh) (Jz (Aqt hN b' _ last he (c4 _ hi) t2) fun w hw=>J9 (Di) ?_));rw[w64 (x:=t+1)];exact hy _ ⟨t+1,_,_,_,rfl,by omega,by omega,he,by rw[Dp];show((L.length+1:Nat):Int)=_;omega⟩ (by dsimp only;omega)
  .dsimp only[U19];exact Jz (dR hN b' L (by omega)) fun w _=>hj _ ⟨_,_,rfl⟩
 rintro _ ⟨s1,b1,rfl⟩;dsimp only[U19];obtain⟨M,rfl⟩: ∃ M,N=M+300:=⟨N - 300,by omega⟩
 refine Jz (Acl hN b1 1 (by omega) (by omega)) fun v1 _=> ?_;rw[As6,Jt,uU _ c hN hl.1.1,Jt,PE,Jt];refine Jz (dY hN d c1.1 c1.2) fun v2 _=> ?_;rw[PE,Jt];refine Jz (dY hN e c2.1 c2.2) fun v3 _=> ?_;rw[PE,Jt];refine Jz (Axh hN _ (a,b,c,d,e,f,g,h,i',j,k,m,n,o,p,q,r) hl0 hr0 hc) fun v4 hv4=> ?_;refine Jz (Agz hN v4.1 hv4.1 (by omega)) fun v5 _=> ?_;rw[PE,Jt];refine Jz (Uk hN 160 _ _ (by omega) (by omega)) fun v6 _=> ?_;refine Jz (dR hN _ _) fun v7 _=> ?_;rw[show ∀ x:Bool,NL (M+300) x=some (x,x)from fun _=>rfl,Jt];exact Jv (fun _=>Ju trivial) (fun _=>Ju trivial)
theorem Ato (s:Bs) (hs:s.length<=1048576):Ends (fun _=>True) (PS N s):=by
 unfold PS;try simp -zeta only[Ap]
 rw[uD N s hN hs];have hg:=wR s hs;generalize Wl s=r at hg ⊢;obtain⟨es,er⟩:=r;dsimp only at hg ⊢;refine Jv (fun h=>by rw[h];exact Ju trivial) (fun _=>Jv (fun _=>Ju trivial) (fun _=> ?_));refine Jz (dB hg 48) fun v1 g1=>Jv (fun _=>Ju trivial) (fun _=> ?_);refine Jz (Atk hN (A:=s) (B:=v1.1.2.2) (s,v1.1.2.2,[],0,0,0,-1,[],false,[],false,false,0,false,[],[],[]) v1.1.2.1 ⟨rfl,rfl,⟨cp0,DN _,(fun g hg=>by cases hg),(fun g hg=>by cases hg),DN _,(fun g hg=>by cases hg)⟩,by unfold rg;dsimp only;omega⟩ g1.1.1) ?_;rintro ⟨ve,x0,x1,x2,x3,x4,x5,x6,x7,x8,x9,y0,y1,y2,y3,y4,y5,y6⟩ ⟨_,_,hl,hr⟩;dsimp only;have hl:TE x2 x7 x9 y4 y5:=hl;have hr:rg y2:=hr;refine Jv (fun _=>Ju trivial) (fun _=> ?_);refine Jz (AhP hN g1.2) fun v2 g2=>Jv (fun _=>Ju trivial) (fun _=> ?_);refine Jz (AqE hN g2) fun v3 g3=>Jv (fun _=>Ju trivial) (fun _=> ?_);refine Jz (pV _) fun v4 _=>Jv (fun _=>Ju trivial) (fun _=> ?_);have hl1:OkD (x0,x1,x2,x3,x4,x5,x6,x7,x8,x9,y0,y1,y2,y3,y4,y5,v3.1):=(show TE x2 x7 x9 y4 y5 from hl)
 refine Jz (Amn hN _ hl1) fun v5 _=>Jv (fun _=>Ju trivial) (fun _=> ?_);refine Jz (A0X hN _ hl1 (show rg y2 from hr)) fun v6 _=> ?_;try simp only[clR]
 exact Jv (fun _=>Ju trivial) (fun _=>Ju trivial)
end
def u8n {n:Nat} (h:n<256):(UInt8.ofNat n).toNat=n:=by rw[F5];omega
def u8m (n:Nat):(UInt8.ofNat n).toNat=n % 256:=F5
def AwS (t n:Nat) (s:Bs) (ht:t<256) (h31:t % 32≠31) (hn:n<=131072):Sp.head (UInt8.ofNat t::(Sp.MG n++s))=(0,1+(Sp.MG n).length,n):=by
 have h1: ¬(UInt8.ofNat t).toNat % 32=31:=by rw[u8n ht];exact h31
 unfold Sp.MG;by_cases a1:n<128
 .rw[Dn a1];have e:=u8n (show n<256 by omega);unfold Sp.head;dsimp only[List.cons_append,List.nil_append];rw[Dk h1,e,Dn a1];rfl
 .rw[Dk a1];by_cases a2:n<256
  .rw[Dn a2];have e:=u8n a2;have hb:Sp.beNat (((UInt8.ofNat n)::s).take 1)=n:=by show 0*256+(UInt8.ofNat n).toNat=n;omega
   unfold Sp.head;dsimp only[List.cons_append,List.nil_append];rw[Dk h1,Dk (by decide),Dk (by decide),show(129:UInt8).toNat - 128=1 from rfl];rw[hb,Dk (by simp),Dk (by rw[show Sp.leastOf 1=128 from rfl];omega)];rfl
  .rw[Dk a2];by_cases a3:n<65536
   .rw[Dn a3];have e1:=u8m (n / 256);have e2:=u8m n;have hb:Sp.beNat (((UInt8.ofNat (n / 256))::UInt8.ofNat n::s).take 2)=n:=by show(0*256+(UInt8.ofNat (n / 256)).toNat)*256+(UInt8.ofNat n).toNat=n;omega
    unfold Sp.head;dsimp only[List.cons_append,List.nil_append];rw[Dk h1,Dk (by decide),Dk (by decide),show(130:UInt8).toNat - 128=2 from rfl];rw[hb,Dk (by simp),Dk (by rw[show Sp.leastOf 2=256 from rfl];omega)];rfl
   .rw[Dk a3];have e0:=u8m (n / 65536);have e1:=u8m (n / 256);have e2:=u8m n;have hb:Sp.beNat (((UInt8.ofNat (n / 65536))::(UInt8.ofNat (n / 256))::UInt8.ofNat n::s).take 3)=n:=by show((0*256+(UInt8.ofNat (n / 65536)).toNat)*256+(UInt8.ofNat (n / 256)).toNat)*256+(UInt8.ofNat n).toNat=n;omega
    unfold Sp.head;dsimp only[List.cons_append,List.nil_append];rw[Dk h1,Dk (by decide),Dk (by decide),show(131:UInt8).toNat - 128=3 from rfl];rw[hb,Dk (by simp),Dk (by rw[show Sp.leastOf 3=65536 from rfl];omega)];rfl
section
variable (t:Nat) (c r:Bs) (ht:t<256) (h31:t % 32≠31) (hc:c.length<=131072)
include ht h31 hc
theorem A1Z:Sp.rd (Sp.elem t c++r)=(0,1+(Sp.MG c.length).length,c.length):=by
 have h:Sp.elem t c++r=UInt8.ofNat t::(Sp.MG c.length++(c++r)):=by unfold Sp.elem;simp
 unfold Sp.rd;rw[h,AwS t c.length (c++r) ht h31 hc];rw[Dk];rintro ⟨_,h2⟩;simp only[List.length_cons,Dp]at h2;omega
theorem AeA:Sp.err (Sp.elem t c++r)=0/\KZ (Sp.elem t c++r)=((t:Int),c,Sp.elem t c)/\Sp.rest (Sp.elem t c++r)=r:=by
 have h:=A1Z t c r ht h31 hc;have hl:(Sp.elem t c).length=1+(Sp.MG c.length).length+c.length:=by unfold Sp.elem;simp;omega
 have hd:(Sp.elem t c++r).drop (1+(Sp.MG c.length).length)=c++r:=by
  have h2:Sp.elem t c++r=(UInt8.ofNat t::Sp.MG c.length)++(c++r):=by unfold Sp.elem;simp
  rw[h2];exact List.drop_left' (by simp;omega)
 refine⟨by unfold Sp.err;rw[h],?_,?_⟩
 .unfold KZ Sp.content Sp.raw;rw[h];dsimp only;rw[hd,Ie,<- hl,Ie];rw[show Sp.tag (Sp.elem t c++r)=t from u8n ht]
 .unfold Sp.rest;rw[h];dsimp only;rw[<- hl,Hf]
end
def MF (t:Nat) (c:Bs):El:=((t:Int),c,Sp.elem t c)
def Aqh (t:Nat) (c:Bs) (ht:t<256) (h31:t % 32≠31) (hc:c.length<=131072):KH (Sp.elem t c)=(MF t c,0):=by obtain⟨h1,h2,h3⟩:=AeA t c [] ht h31 hc;rw[DX]at h1 h2 h3;unfold KH Sp.NP;rw[h1,h3,Dn (show(if(0:Int)≠0 then(0:Int)else if([]:Bs)=[]then 0 else 4)=0 from rfl),h2];rfl
def Ae4 (t:Nat) (c:Bs) (ht:t<256) (h31:t % 32≠31) (hc:c.length<=131072):ML (Sp.elem t c) t=(MF t c,0):=by unfold ML;rw[Aqh t c ht h31 hc];show(bif ((t:Int) != (t:Int))then((0,[],[]),(5:Int))else(MF t c,0))=_;rw[show((t:Int) != (t:Int))=false by simp];rfl
structure Fine (p:Nat×Bs):Prop where
 lt:p.1<256
 low:p.1 % 32≠31
 len:p.2.length<=131072
def WC {t:Nat} {c:Bs} (ht:t<256) (h31:t % 32≠31) (hc:c.length<=131072:=by omega):Fine (t,c):=⟨ht,h31,hc⟩
def Xa (d:Nat) (s:Bs):Prop:=Sp.within (s.length+1) d s=0
def AzB (d:Nat):Xa d []:=Sp.AvO _ _
def As1: ∀(f d:Nat) (l:Bs),Sp.within f (d+1) l=0->Sp.within f d l=0:=by
 intro f
 induction f with
 | zero=>intro d l _;rfl
 | succ f ih =>
  intro d l h;unfold Sp.within at h ⊢;by_cases h1:l=[]
  .rw[Dn h1]
  .rw[Dk h1]at h ⊢;by_cases h2:Sp.err l≠0
   .rw[Dn h2]at h;exact absurd h h2
   .rw[Dk h2]at h ⊢;by_cases h3:16<=d+1
    .rw[Dn h3]at h;cases h
    .rw[Dk h3]at h;rw[A51];by_cases h4:(if Sp.cons (Sp.tag l)=true then Sp.within f (d+1+1) (Sp.content l)else 0)=0
     .have h5:(if Sp.cons (Sp.tag l)=true then Sp.within f (d+1) (Sp.content l)else 0)=0:=by
       by_cases hc:Sp.cons (Sp.tag l)=true
       .rw[Dn hc]at h4 ⊢;exact ih _ _ h4
       .rw[Dk hc]
      rw[Dk (by simp [h4])]at h;rw[Dk (by simp [h5])];exact ih _ _ h
     .rw[Dn h4]at h;exact absurd h h4
def A1M {d e:Nat} (h:d<=e) {s:Bs} (hs:Xa e s):Xa d s:=by
 obtain⟨k,rfl⟩: ∃ k,e=d+k:=⟨e - d,by omega⟩
 clear h
 induction k with
 | zero=>exact hs
 | succ k ih=>exact ih (As1 _ _ _ hs)
def Apm (t:Nat) (c r:Bs):Sp.elem t c++r≠ []:=by unfold Sp.elem;simp
def AkX (t:Nat) (c:Bs):c.length<(Sp.elem t c).length:=by unfold Sp.elem;simp;omega
def Aq0 {t:Nat} {c r:Bs} (h:Fine (t,c)):Sp.err (Sp.elem t c++r)=0/\Sp.tag (Sp.elem t c++r)=t/\Sp.content (Sp.elem t c++r)=c/\Sp.rest (Sp.elem t c++r)=r:=by obtain⟨h1,h2,h3⟩:=AeA t c r h.lt h.low h.len;unfold KZ at h2;injection h2 with h4 h5;injection h5 with h5 h6;exact⟨h1,by exact_mod_cast h4,h5,h3⟩
def Axw {d t:Nat} {c r:Bs} (h:Fine (t,c)) (hd:d<16) (hc:Sp.cons t=true->Xa (d+1) c) (hr:Xa d r):Xa d (Sp.elem t c++r):=by
 obtain⟨h1,h2,h3,h4⟩:=Aq0 (r:=r) h;have hl:=AkX t c;have hlen:(Sp.elem t c++r).length=(Sp.elem t c).length+r.length:=Dp;unfold Xa;rw[Sp.AgZ _ d _ (Apm t c r) h1 (by omega),h4]
 .rw[WJ _ (r.length+1) d r (by omega) (by omega)];exact hr
 .rw[h2,h3];unfold Sp.inner;by_cases hq:Sp.cons t=true
  .rw[Dn hq,WJ _ (c.length+1) (d+1) c (by omega) (by omega)];exact hc hq
  .rw[Dk hq]
def bH {t:Nat} {c:Bs} (h:Fine (t,c)) (hc:Sp.cons t=true->Xa 1 c):Sp.chk (Sp.elem t c)=0:=by
 obtain⟨h1,h2,h3,h4⟩:=Aq0 (r:=[]) h;rw[DX]at h1 h2 h3 h4;have hl:=AkX t c;have ho:Sp.NP (Sp.elem t c)=0:=by unfold Sp.NP;rw[h1,h4,Dk (by decide),Dn rfl]
 unfold Sp.chk;rw[ho,Dk (by decide),h2,h3];unfold Sp.inner;by_cases hq:Sp.cons t=true
 .rw[Dn hq,WJ _ (c.length+1) 1 c (by omega) (by omega)];exact hc hq
 .rw[Dk hq]
def Axm: ∀(f:Nat) (s:Bs) (a:List El),Oa f s a=if(Oa f s []).2=0 then(a++(Oa f s []).1,0)else([],(Oa f s []).2):=by
 intro f
 induction f with
 | zero=>intro s a;show(a,(0:Int))=if(0:Int)=0 then(a++[],0)else _;rw[Dn rfl,DX]
 | succ f ih =>
  intro s a;show(if s=[]then(a,(0:Int))else if Sp.err s≠0 then([],Sp.err s)else Oa f (Sp.rest s) (a++[KZ s]))=if(if s=[]then(([]:List El),(0:Int))else if Sp.err s≠0 then([],Sp.err s)else Oa f (Sp.rest s) ([]++[KZ s])).2=0 then(a++(if s=[]then(([]:List El),(0:Int))else if Sp.err s≠0 then([],Sp.err s)else Oa f (Sp.rest s) ([]++[KZ s])).1,0)else([],(if s=[]then(([]:List El),(0:Int))else if Sp.err s≠0 then([],Sp.err s)else Oa f (Sp.rest s) ([]++[KZ s])).2);by_cases h1:s=[]
  .simp only[Dn h1];rw[Dn trivial,DX]
  .simp only[Dk h1];by_cases h2:Sp.err s=0
   .have h2': ¬ Sp.err s≠0:=fun h=>h h2;simp only[Dk h2'];rw[ih _ (a++[KZ s]),ih _ ([]++[KZ s])];by_cases h3:(Oa f (Sp.rest s) []).2=0
    .simp only[Dn h3];simp
    .simp only[Dk h3]
   .have h2':Sp.err s≠0:=h2;simp only[Dn h2',Dk h2]
structure Par (d:Nat) (x:Bs) (es:List El):Prop where
 rd: ∀ r fs,JQ r=(fs,0)->JQ (x++r)=(es++fs,0)
 ns: ∀ r,Xa d r->Xa d (x++r)
def Az1:JQ []=([],0):=rfl
def Par.list {d:Nat} {x:Bs} {es:List El} (h:Par d x es):JQ x=(es,0):=by have:=h.rd [] [] Az1;rwa [DX,DX]at this
def Par.nest {d:Nat} {x:Bs} {es:List El} (h:Par d x es):Xa d x:=by have:=h.ns [] (AzB d);rwa [DX]at this
def Atc (d:Nat):Par d [] []:=⟨fun _ _ h=>h,fun _ h=>h⟩
def dE {d:Nat} {x y:Bs} {es fs:List El} (h:Par d x es) (g:Par d y fs):Par d (x++y) (es++fs):=by
 refine⟨fun r gs hr=> ?_,fun r hr=> ?_⟩
 .rw[DZ,DZ];exact h.rd _ _ (g.rd _ _ hr)
 .rw[DZ];exact h.ns _ (g.ns _ hr)
def Aqm {d t:Nat} {c:Bs} (h:Fine (t,c)) (hd:d<16) (hc:Sp.cons t=true->Xa (d+1) c):Par d (Sp.elem t c) [MF t c]:=by refine⟨fun r fs hr=> ?_,fun r hr=>Axw h hd hc hr⟩;obtain⟨h1,h2,h3⟩:=AeA t c r h.lt h.low h.len;have hl:=AkX t c;have hlen:(Sp.elem t c++r).length=(Sp.elem t c).length+r.length:=Dp;unfold JQ at hr ⊢;show(if Sp.elem t c++r=[]then(([]:List El),(0:Int))else if Sp.err (Sp.elem t c++r)≠0 then([],Sp.err (Sp.elem t c++r))else Oa (Sp.elem t c++r).length (Sp.rest (Sp.elem t c++r)) ([]++[KZ (Sp.elem t c++r)]))=_;rw[Dk (Apm t c r),h1,Dk (by decide),h2,h3,Axm,Ab2 _ (r.length+1) r [] (by omega) (by omega),hr,Dn rfl];rfl
def WN {d t:Nat} {c:Bs} (h:Fine (t,c)) (hd:d<16) (hc:Xa (d+1) c):Par d (Sp.elem t c) [MF t c]:=Aqm h hd fun _=>hc
def AhM {d t:Nat} {c:Bs} (h:Fine (t,c)) (hd:d<16) (hc:Sp.cons t=false):Par d (Sp.elem t c) [MF t c]:=Aqm h hd fun h=>by rw[hc]at h;cases h
def AfA {d:Nat} {x:Bs} {es:List El} (b:Bool) (h:b=true->Par d x es):Par d (bif b then x else []) (bif b then es else []):=by
 cases b with
 | true=>exact h rfl
 | false=>exact Atc d
def AlD {α :Type} {d:Nat} {f: α ->Bs} {g: α ->El}: ∀ {l:List α},(∀ a∈l,Par d (f a) [g a])->Par d (l.map f).flatten (l.map g):=by
 intro l
 induction l with
 | nil=>intro _;exact Atc d
 | cons a l ih =>intro h;rw[Ee,Ee,List.flatten_cons];exact dE (h a Dv) (ih fun b hb=>h b (Dx _ hb))
def Au3 {t:Nat} {c:Bs} {r:List El} {k:Int} (h:(t:Int)=k):Lu (MF t c::r) k=(MF t c,true,r):=AsT h
def Au1 {t:Nat} {c:Bs} {r:List El} {k:Int} (h: ¬(t:Int)=k):Lu (MF t c::r) k=((0,[],[]),false,MF t c::r):=AsR h
def Au2 (k:Int):Lu [] k=((0,[],[]),false,[]):=rfl
def el1 (t:Nat) (c:Bs):(MF t c).1=(t:Int):=rfl
def el2 (t:Nat) (c:Bs):(MF t c).2.1=c:=rfl
def el3 (t:Nat) (c:Bs):(MF t c).2.2=Sp.elem t c:=rfl
section
variable {X Y ρ :Type} {B:X->(X->Option ρ)->(Y->Option ρ)->Option ρ} {kx:Y->Option ρ}
theorem QS (mk:Nat->X) (n:Nat) (fin:Option ρ) (h: ∀ i,i<n-> ∀ k,B (mk i) k kx=k (mk (i+1))) (hend: ∀ k,B (mk n) k kx=fin) (N:Nat) (hN:n<N:=by omega):JB B N (mk 0) kx=fin:=by refine(Auq mk n (fun _=>0) (fun _=>none) fin (fun i hi k=>h i hi k) hend N hN).trans ?_;rw[Ahp];rfl
end
def Aze {β :Type} (f:Nat->Bool) (g:Nat-> β) (d: β): ∀(l:List Nat),RV (fun i (_:Unit)=>if f i then(.inl (some (g i)):Option β ⊕ Unit)else .inr ()) (fun _=>some d) l ()=some (match l.find? f with | some i=>g i | none=>d):=by
 intro l
 induction l with
 | nil=>rfl
 | cons e r ih =>
  unfold RV;rw[List.find?_cons];cases h:f e with
  | true=>rfl
  | false=>exact ih
def Asq {X β :Type} {b:(X->Option β)->Option β} {nx:Unit->X} {I:Unit->Prop} {c:Bool} {v: β} (hI:I ()) (h: ∀ k,b k=if c then some v else k (nx ())):AaK b nx I (if c then(.inl (some v):Option β ⊕ Unit)else .inr ()):=by
 cases c with
 | true=>exact h
 | false=>exact⟨h,hI⟩
abbrev N7:Type:=Bs×Int×Bs
def Afu {t:Nat} {c:Bs} (h:c.length<=131072):NM t c=some (Sp.elem t c):=by unfold NM;rw[Dn h]
def AvD (N t:Nat) (l:List Bs) (ht:t<256) (h31:t % 32≠31) (hN:1048578<N) (hl:l.length<=1000) (hs:l.flatten.length<=131072):KD N (t:Int) l=some (Sp.elem t l.flatten,0):=by rw[fM N t l ht h31,Afu hs];rfl
def QJ (N t:Nat) (l:List Bs) (ht:t<256) (h31:t % 32≠31) (hN:1048578<N) (hl:l.length<=1000:=by simp) (hs:l.flatten.length<=131072:=by simp):JV N (t:Int) l=some (Sp.elem t l.flatten):=by unfold JV;rw[jZ N t l ht h31 (by omega) (by omega) (by omega),Jt,Afu hs];rfl
def yL (N t:Nat) (l:List Bs) (ht:t<256) (h31:t % 32≠31) (hN:1048578<N) (hl:l.length<=1000) (hs:l.flatten.length<=131072):Lh N (t:Int) l=some (Sp.elem t l.flatten,0):=by rw[A2y N t l ht h31 (by omega) (by omega) (by omega),Afu hs];rfl
def Le (a:Bs): [a].flatten=a:=by simp
def AwI (a b:Bs): [a,b].flatten=a++b:=by simp
def X3 (a b c:Bs): [a,b,c].flatten=a++(b++c):=by simp
def ofM {N:Nat} (hN:1048578<N): ∃ M,N=M+300:=⟨N - 300,by omega⟩
def dV:List N7:=[([50,46,53,46,52,46,51],12,[65,110,110]),([50,46,53,46,52,46,51],19,[32,97,110,110]),([50,46,53,46,52,46,51],12,[103,114,195,182,195,159,101]),([50,46,53,46,52,46,54],19,[85,83]),([50,46,53,46,52,46,49,48],19,[69,120,97,109,112,108,101,32,32,67,111,114,112]),([50,46,53,46,52,46,49,48],12,[101,120,97,109,112,108,101,32,99,111,114,112]),([50,46,53,46,52,46,49,49],22,[97,44,98,43,99,61,100,92,101]),([48,46,57,46,50,51,52,50,46,49,57,50,48,48,51,48,48,46,49,48,48,46,49,46,50,53],22,[111,114,103]),([49,46,50,46,56,52,48,46,49,49,51,53,52,57,46,49,46,57,46,49],22,[97,110,110,64,101,120,97,109,112,108,101,46,111,114,103]),([49,46,50,46,56,52,48,46,49,49,51,53,52,57,46,49,46,57,46,49],22,[110,111,32,97,100,100,114,101,115,115]),([50,46,53,46,52,46,57,57],19,[120]),([50,46,53,46,52,46,55],12,[76])]
def A46:List N7:=[[48],[49],[50],[51]].flatMap fun k=>[([50,46,53,46,52,46,49,48],19,[67,65,32]++k),([50,46,53,46,52,46,49,48],19,[32,99,97,32,32]++k)]
def A4w:N7:=([50,46,53,46,52,46,49,49],12,[85,110,105,116])
def Ou:List (List N7):=dV.map (fun a=>[a])++(dV.flatMap fun a=>(dV.filter fun b=>a.1 != b.1).map fun b=>[a,b])++(A4w::A46).map fun a=>[a]
def A3q (l:List Bs):Bs:=(l.foldl (fun s x=>VP x s) []).flatten
def bG (a:N7):Bs:=((MQ 300 a).getD default).1
def Q3 (r:List N7):Bs:=A3q (r.map bG)
def rG (r:List N7):Bs:=Sp.elem 49 (Q3 r)
def Aie (r:List N7):List N7:=((Lp 300 (MF 49 (Q3 r))).getD default).1
structure A3Y (N:Nat) (r:List N7):Prop where
 chk:Np N r=some 0
 AzO:Qn N r=some 0
 A4G:UL N r=some (r.map bG)
 att: ∀ a∈r,MQ N a=some (bG a,0)
 dec:Lp N (MF 49 (Q3 r))=some (Aie r,0)
 inC:Aie r∈Ou
 enc:Q3 (Aie r)=Q3 r
 len:(Q3 r).length<=200
 lens:(r.map bG).flatten.length<=200
 p0:0<r.length
 p2:r.length<=2
 nest:Xa 9 (Q3 r)
def aC (M:Nat) (r:List N7):Bool :=
 Np (M+300) r==some 0&&(Qn (M+300) r==some 0&&(UL (M+300) r==some (r.map bG)&&(r.all (fun a=>MQ (M+300) a==some (bG a,0)) &&
 (Lp (M+300) (MF 49 (Q3 r))==some (Aie r,0)&&(Ou.contains (Aie r)&&(Q3 (Aie r)==Q3 r&&(decide ((Q3 r).length<=200)&&(decide ((r.map bG).flatten.length<=200)&&(decide (0<r.length)&&(decide (r.length<=2)&&(Sp.within ((Q3 r).length+1) 9 (Q3 r)==0)))))))))))
def Atw {α :Type} (p: α ->Bool) (l:List α) (n:Nat) (h: ∀ i,i<n->((l.drop (12*i)).take 12).all p=true) (hl:l.length<=12*n):l.all p=true:=by rw[D8];intro x hx;obtain⟨j,hj,rfl⟩:=IP hx;refine D8.1 (h (j / 12) (by omega)) _ ?_;rw[Gj];refine⟨j % 12,by rw[Eb,Ew];omega,?_⟩;rw[List.getElem_take,List.getElem_drop];congr 1;omega
def ck0 (M:Nat):((Ou.drop (12*0)).take 12).all (aC M)=true:=by kernel_rfl
def ck1 (M:Nat):((Ou.drop (12*1)).take 12).all (aC M)=true:=by kernel_rfl
def ck2 (M:Nat):((Ou.drop (12*2)).take 12).all (aC M)=true:=by kernel_rfl
def ck3 (M:Nat):((Ou.drop (12*3)).take 12).all (aC M)=true:=by kernel_rfl
def ck4 (M:Nat):((Ou.drop (12*4)).take 12).all (aC M)=true:=by kernel_rfl
def ck5 (M:Nat):((Ou.drop (12*5)).take 12).all (aC M)=true:=by kernel_rfl
def ck6 (M:Nat):((Ou.drop (12*6)).take 12).all (aC M)=true:=by kernel_rfl
def ck7 (M:Nat):((Ou.drop (12*7)).take 12).all (aC M)=true:=by kernel_rfl
def ck8 (M:Nat):((Ou.drop (12*8)).take 12).all (aC M)=true:=by kernel_rfl
def ck9 (M:Nat):((Ou.drop (12*9)).take 12).all (aC M)=true:=by kernel_rfl
def A49 (M:Nat):((Ou.drop (12*10)).take 12).all (aC M)=true:=by kernel_rfl
def A4A (M:Nat):((Ou.drop (12*11)).take 12).all (aC M)=true:=by kernel_rfl
def AzQ:Ou.length<=144:=of_decide_eq_true (by kernel_rfl)
def A2c (M:Nat):Ou.all (aC M)=true:=by
 refine Atw _ _ 12 (fun i hi=> ?_) AzQ
 match i,hi with
 | 0,_=>exact ck0 M
 | 1,_=>exact ck1 M
 | 2,_=>exact ck2 M
 | 3,_=>exact ck3 M
 | 4,_=>exact ck4 M
 | 5,_=>exact ck5 M
 | 6,_=>exact ck6 M
 | 7,_=>exact ck7 M
 | 8,_=>exact ck8 M
 | 9,_=>exact ck9 M
 | 10,_=>exact A49 M
 | 11,_=>exact A4A M
def Wi {N:Nat} (hN:1048578<N) {r:List N7} (h:r∈Ou):A3Y N r:=by obtain⟨M,rfl⟩:=ofM hN;have h:=D8.1 (A2c M) r h;unfold aC at h;simp only[Dq,EN,D8,D5,Hw]at h;obtain⟨h1,h2,h3,h4,h5,h6,h7,h8,h9,h10,h11,h12⟩:=h;exact⟨h1,h2,h3,h4,h5,h6,h7,h8,h9,h10,h11,h12⟩
def AzP {N:Nat} (hN:1048578<N) {r:List N7} (h:r∈Ou):(rG r).length<=205:=by have:=(Wi hN h).len;have:=Sp.JM 49 (Q3 r);unfold rG;omega
def okN (n:List (List N7)):Prop:=n.length<=3/\ ∀ r∈n,r∈Ou
def nmC (n:List (List N7)):List (List N7):=n.map Aie
def Xm (n:List (List N7)):Bs:=(n.map rG).flatten
def nmT (n:List (List N7)):Bs:=Sp.elem 48 (Xm n)
section
variable {N:Nat} (hN:1048578<N) {n:List (List N7)} (hn:okN n)
include hN hn
theorem Ave:okN (nmC n):=⟨by unfold nmC;rw[Dz];exact hn.1,fun r hr=>by obtain⟨x,hx,rfl⟩:=DI.1 hr;exact(Wi hN (hn.2 x hx)).inC⟩
theorem A4m:Xm (nmC n)=Xm n:=by unfold Xm nmC;rw[Fh];congr 1;exact E5 fun r hr=>by show Sp.elem 49 _=Sp.elem 49 _;rw[(Wi hN (hn.2 r hr)).enc]
theorem qP:(Xm n).length<=615:=by have:=Oo (g:=rG) (M:=205) (l:=n) fun r hr=>AzP hN (hn.2 r hr);have:=hn.1;unfold Xm;omega
theorem Al7:(nmT n).length<=620:=by have:=qP hN hn;have:=Sp.JM 48 (Xm n);unfold nmT;omega
theorem Axz:Par 8 (Xm n) (n.map fun r=>MF 49 (Q3 r)):=AlD fun r hr=>WN (WC (by decide) (by decide) (by have:=(Wi hN (hn.2 r hr)).len;omega)) (by decide) (Wi hN (hn.2 r hr)).nest
theorem AsZ:Fine (48,Xm n):=(WC (by decide) (by decide) (by have:=qP hN hn;omega))
theorem Z8:MC N n=some 0:=by
 have h3:=hn.1;unfold MC;try simp only[clR]
 simp (disch:=omega) only[JH];refine QS (fun i=>(i:Int)) n.length _ ?_ ?_ N
 .intro i hi k;have h:=(Wi hN (hn.2 _ (getD_mem [] hi))).chk;simp (disch:=omega) only[JH,h,KX];try rfl
 .intro k;simp (disch:=omega) only[JH]
theorem X8:Nv N n=some 0:=by
 have h3:=hn.1;unfold Nv;try simp only[clR]
 simp (disch:=omega) only[JH];refine QS (fun i=>(i:Int)) n.length _ ?_ ?_ N
 .intro i hi k;have h:=Wi hN (hn.2 _ (getD_mem [] hi));have h1:=h.AzO;have h2:=h.p0;have h3:=h.p2;simp (disch:=omega) only[JH,h1,KX];try rfl
 .intro k;simp (disch:=omega) only[JH]
theorem ArU:QZ N n=some (nmT n,0):=by
 have h3:=hn.1;have hl:=qP hN hn;unfold QZ;try simp only[clR]
 rw[Z8 hN hn,Jt,show((0:Int) != 0)=false from rfl,cond_false];refine(Yi (mk:=fun i acc=>((i:Int),acc)) n [] rG (fun l=>Jr (KD N 48 l) fun r62=>some (r62.fst,r62.snd)) ?_ ?_ N).trans ?_
 .intro i acc hi hacc k;have h:=Wi hN (hn.2 _ (getD_mem [] hi));dsimp only[U2];rw[Int.toNat_natCast];generalize n.getD i []=r at *
  have p0:=h.p0;have p2:=h.p2;simp (disch:=omega) only[JH];refine(Yi (mk:=fun j a=>((j:Int),a,acc)) r ([],0,[]) bG (fun l=>Jr (SY N l) fun r48=>Jr (KD N 49 [r48]) fun r50=>bif r50.snd != 0 then some ([],r50.snd)else chk (decide ((acc.length+1)*17<=140737488355328)) (k ((i:Int)+1,acc++[r50.fst]))) ?_ ?_ N).trans ?_
  .intro j a hj ha k;have he:=h.att _ (getD_mem ([],0,[]) hj);simp (disch:=omega) only[JH,he,KX]
  .intro a k ha;simp (disch:=omega) only[JH]
  .have hlen:=h.len;have hlens:=h.lens;have e:Q8 (r.map bG)=Q3 r:=(AhI _).symm;have w:KD N 49 [Q8 (r.map bG)]=_:=AvD N 49 [Q8 (r.map bG)] (by omega) (by omega) hN (by simp) (by rw[Le,e];omega);rw[Le,e]at w;unfold SY;rw[Ao3 (by rw[Dz];omega),Ab9 (by rw[Dz];omega),Ab9 (by omega)];simp only[Ij,cond_true,Jt];rw[e,w,Jt];simp (disch:=omega) only[JH,KX];try rfl
 .intro acc k ha;simp (disch:=omega) only[JH]
 .have w:KD N 48 (n.map rG)=_:=AvD N 48 (n.map rG) (by omega) (by omega) hN (by rw[Dz];omega) (by unfold Xm at hl;omega);rw[w,Jt];rfl
theorem Aex:Rq N n=some (nmT n,0):=by
 have h3:=hn.1;have hl:=qP hN hn;unfold Rq;try simp only[clR]
 rw[X8 hN hn,Jt,show((0:Int) != 0)=false from rfl,cond_false];refine(yZ (mk:=fun i t=>(t,(i:Int))) n [] rG (fun t=>Jr (JV N 48 [t]) fun r30=>some (r30,0)) ?_ ?_ N).trans ?_
 .intro i t hi ht k;have h:=Wi hN (hn.2 _ (getD_mem [] hi));have hlen:=h.len;have hlens:=h.lens;have p2:=h.p2;have hat:=h.A4G;have e:Q8 ((n.getD i []).map bG)=Q3 (n.getD i []):=(AhI _).symm;have hor:=AlN N ((n.getD i []).map bG) hN (by rw[Dz];omega) (by omega);rw[e]at hor;have w:JV N 49 [Q3 (n.getD i [])]=_:=QJ N 49 [Q3 (n.getD i [])] (by omega) (by omega) hN (by simp) (by rw[Le];omega);rw[Le]at w;have hw:Sp.elem 49 (Q3 (n.getD i []))=rG (n.getD i []):=rfl;unfold Xm at hl;simp (disch:=omega) only[JH,hat,hor,w,hw,KX]
 .intro t k;simp (disch:=omega) only[JH]
 .have w:JV N 48 [(n.map rG).flatten]=_:=QJ N 48 [(n.map rG).flatten] (by omega) (by omega) hN (by simp) (by rw[Le];unfold Xm at hl;omega);rw[w,Jt,Le];rfl
theorem ArT:QY N (nmT n)=some (nmC n,0):=by
 have h3:=hn.1;have hl:=qP hN hn;have hT:=Al7 hN hn;have hF:=AsZ hN hn;have h1:=Aqh 48 (Xm n) (by decide) (by decide) hF.len;have h2:=(Axz hN hn).list;have hC:=Ave hN hn;unfold QY;try simp only[clR]
 rw[UR N _,show KH (nmT n)=_ from h1,Jt];have h4:=MK N (Xm n);rw[h2]at h4;dsimp only[MF];simp (disch:=omega) only[JH,h4];refine(Yi (mk:=fun i acc=>((i:Int),acc)) (n.map fun r=>MF 49 (Q3 r)) (0,[],[]) (fun e=>((Lp N e).getD default).1) (fun acc=>Jr (MC N acc) fun r60=>bif r60 != 0 then some ([],r60)else some (acc,0)) ?_ ?_ N (by rw[Dz];omega)).trans ?_
 .intro i acc hi ha k;rw[Dz]at hi;have hr:=(Wi hN (hn.2 _ (getD_mem [] hi))).dec;have hg:(n.map fun r=>MF 49 (Q3 r)).getD i (0,[],[])=MF 49 (Q3 (n.getD i [])):=by rw[getD_lt _ _ _ (by rw[Dz];exact hi),FV,getD_lt n i [] hi]
  have hlm:(n.map fun r=>MF 49 (Q3 r)).length=n.length:=Dz _;simp (disch:=omega) only[JH,hg,hlm,hr,KX,Option.getD_some];try rfl
 .intro acc k ha;simp (disch:=omega) only[JH]
 .have e:(n.map fun r=>MF 49 (Q3 r)).map (fun e=>((Lp N e).getD default).1)=nmC n:=by
   rw[Fh];exact E5 fun r hr=>by show((Lp N _).getD default).1=_;rw[(Wi hN (hn.2 r hr)).dec];rfl
  rw[e,Z8 hN hC];rfl
end
abbrev GnL:Type:=Int×Bs×List (List N7)
def AqW:List GnL:=[[97,110,110,64,101,120,97,109,112,108,101,46,111,114,103],[65,78,78,64,101,120,97,109,112,108,101,46,111,114,103],[97,110,110,64,69,120,97,109,112,108,101,46,79,82,71],[98,46,99,64,109,97,105,108,46,101,120,97,109,112,108,101,46,111,114,103],[120,64,111,114,103],[97,39,98,64,97,46,98]].map (fun s=>(1,s,[])) ++
 [[101,120,97,109,112,108,101,46,111,114,103],[119,119,119,46,101,120,97,109,112,108,101,46,111,114,103],[87,87,87,46,69,120,97,109,112,108,101,46,111,114,103],[42,46,101,120,97,109,112,108,101,46,111,114,103],[97,46,98],[111,114,103],[109,121,101,120,97,109,112,108,101,46,111,114,103]].map (fun s=>(2,s,[])) ++
 [[10,0,0,1],[10,1,2,3],[192,168,1,7],[32,1,13,184,0,0,0,0,0,0,0,0,0,0,0,1]].map (fun s=>(7,s,[]))
def okG (g:GnL):Prop:=g∈AqW\/ ∃ n,okN n/\g=(4,[],n)
def gnK (g:GnL):GnL:=(g.1,g.2.1,nmC g.2.2)
def gnT (g:GnL):Nat×Bs:=bif g.1==4 then(164,nmT g.2.2)else((128+g.1).toNat,g.2.1)
def MN (g:GnL):Bs:=Sp.elem (gnT g).1 (gnT g).2
def xW (g:GnL):El:=MF (gnT g).1 (gnT g).2
def A0R (M:Nat) (g:GnL):Bool:=NI (M+300) g false==some 0&&(NG (M+300) g false==some 0&&(NC (M+300) g false==some (MN g,0)&&(P9 (M+300) g false==some (MN g,0) &&
 (OW (M+300) (xW g) false==some (g,0)&&(g.2.2.isEmpty&&(decide ((gnT g).2.length<=40)&&(decide ((gnT g).1<256)&&(decide ((gnT g).1 % 32≠31)&& !Sp.cons (gnT g).1))))))))
def A0o (M:Nat):AqW.all (A0R M)=true:=by kernel_rfl
structure A2z (N:Nat) (g:GnL):Prop where
 chk:NI N g false=some 0
 AzO:NG N g false=some 0
 enc:NC N g false=some (MN g,0)
 sH:P9 N g false=some (MN g,0)
 dec:OW N (xW g) false=some (gnK g,0)
 fine:Fine (gnT g)
 len:(gnT g).2.length<=620
 AyS:gnT (gnK g)=gnT g
 okK:okG (gnK g)
 par: ∀ d,d<=6->Par d (MN g) [xW g]
section
variable {N:Nat} (hN:1048578<N)
include hN
theorem A1O {n:List (List N7)} (hn:okN n) {d:Nat} (hd:d<=8):Xa d (Xm n):=A1M hd (Axz hN hn).nest
theorem A1N {n:List (List N7)} (hn:okN n) {d:Nat} (hd:d<=7):Par d (nmT n) [MF 48 (Xm n)]:=WN (AsZ hN hn) (by omega) (A1O hN hn (by omega))
theorem A1p {n:List (List N7)} (hn:okN n):A2z N (4,[],n):=by
 have h1:=Z8 hN hn;have h2:=X8 hN hn;have h3:=ArU hN hn;have h4:=Aex hN hn;have h5:=ArT hN hn;have hC:=Ave hN hn;have h6:=Z8 hN hC;have hl:=Al7 hN hn;have w:KD N 164 [nmT n]=_:=AvD N 164 [nmT n] (by omega) (by omega) hN (by simp) (by rw[Le];omega);have v:JV N 164 [nmT n]=_:=QJ N 164 [nmT n] (by omega) (by omega) hN (by simp) (by rw[Le];omega);rw[Le]at w v
 have c1: ∀ m:List (List N7),MC N m=some 0->NI N (4,[],m) false=some 0:=by
  intro m hm;unfold NI Abq;try simp only[clR]
  simp (disch:=omega) only[JH,hm,Option.isSome_some,Option.getD_some];try rfl
 have c2:NG N (4,[],n) false=some 0:=by
  unfold NG;try simp only[clR]
  dsimp only[U4,KC];simp (disch:=omega) only[JH,h2,Option.isSome_some,Option.getD_some];try rfl
 have hf:Fine (164,nmT n):=(WC (by decide) (by decide))
 refine⟨c1 n h1,c2,?_,?_,?_,hf,hl,?_,Or.inr ⟨_,hC,rfl⟩,fun d hd=>WN hf (by omega) (A1N hN hn (by omega)).nest⟩
 .unfold NC;try simp only[clR]
  simp (disch:=omega) only[JH,c1 n h1,h3];show Jr (KD N 164 [nmT n]) _=_;rw[w];rfl
 .unfold P9;try simp only[clR]
  simp (disch:=omega) only[JH,c2,h4];show Jr (JV N 164 [nmT n]) _=_;rw[v];rfl
 .have c3:=c1 _ h6;unfold OW;try simp only[clR]
  show _=some ((4,[],nmC n),0);dsimp only[xW,gnT,MF];simp (disch:=omega) only[JH,h5,c3,Lr];try rfl
 .show(164,nmT (nmC n))=(164,nmT n);unfold nmT;rw[A4m hN hn]
theorem XR {g:GnL} (h:okG g):A2z N g:=by
 rcases h with h | ⟨n,hn,rfl⟩
 .have hh:=h;obtain⟨M,rfl⟩:=ofM hN;have h:=D8.1 (A0o M) g h;unfold A0R at h;simp only[Dq,EN,D5,Eu,Ht]at h;obtain⟨h1,h2,h3,h4,h5,h6,h7,h8,h9,h10⟩:=h;have hk:gnK g=g:=by obtain⟨k,s,n⟩:=g;dsimp only at h6;subst h6;rfl
  have hf:Fine (gnT g):=⟨h8,h9,by omega⟩
  exact⟨h1,h2,h3,h4,by rw[hk];exact h5,hf,by omega,by rw[hk],by rw[hk];exact Or.inl hh,fun d hd=>AhM hf (by omega) h10⟩
 .exact A1p hN hn
theorem Y4 {g:GnL} (h:okG g):(MN g).length<=625:=by have:=(XR hN h).len;have:=Sp.JM (gnT g).1 (gnT g).2;unfold MN;omega
end
def AhF (l:List GnL):Prop:=l.length<=2/\ ∀ g∈l,okG g
def KT (l:List GnL):Bs:=(l.map MN).flatten
section
variable {N:Nat} (hN:1048578<N) {l:List GnL} (hl:AhF l)
include hN hl
theorem U0:(KT l).length<=1250:=by have:=Oo (g:=MN) (M:=625) (l:=l) fun g hg=>Y4 hN (hl.2 g hg);have:=hl.1;unfold KT;omega
theorem Ah4 {d:Nat} (hd:d<=6:=by omega):Par d (KT l) (l.map xW):=AlD fun g hg=>(XR hN (hl.2 g hg)).par d hd
theorem A1H:KT (l.map gnK)=KT l:=by unfold KT;rw[Fh];congr 1;exact E5 fun g hg=>by show Sp.elem _ _=Sp.elem _ _;rw[(XR hN (hl.2 g hg)).AyS]
theorem ArV:O9 N l=some 0:=by
 have h2:=hl.1;unfold O9;try simp only[clR]
 refine QS (fun i=>(i:Int)) l.length _ ?_ ?_ N
 .intro i hi k;have h:=(XR hN (hl.2 _ (getD_mem (0,[],[]) hi))).chk;simp (disch:=omega) only[JH,h,KX];try rfl
 .intro k;simp (disch:=omega) only[JH]
theorem Aey:Ru N l=some 0:=by
 have h2:=hl.1;unfold Ru;try simp only[clR]
 simp (disch:=omega) only[JH];refine QS (fun i=>(i:Int)) l.length _ ?_ ?_ N
 .intro i hi k;have h:=(XR hN (hl.2 _ (getD_mem (0,[],[]) hi))).AzO;simp (disch:=omega) only[JH,h,KX];try rfl
 .intro k;simp (disch:=omega) only[JH]
theorem Zt (h0:l≠ []:=by simp):Ro N l=some (KT l,0):=by
 have h2:=hl.1;have hp:=EO.2 h0;have hb:=U0 hN hl;unfold KT at hb;unfold Ro;try simp only[clR]
 simp (disch:=omega) only[JH];refine(yZ (mk:=fun i t=>(t,(i:Int))) l (0,[],[]) MN (fun t=>some (t,0)) ?_ ?_ N).trans rfl
 .intro i t hi ht k;have h:=(XR hN (hl.2 _ (getD_mem (0,[],[]) hi))).sH;simp (disch:=omega) only[JH,h,KX];try rfl
 .intro t k;simp (disch:=omega) only[JH]
theorem yA (h0:l≠ []:=by simp):L9 N (KT l)=some (l.map gnK,0):=by
 have h2:=hl.1;have hp:=EO.2 h0;have hb:=U0 hN hl;have h3:=(Ah4 hN hl (d:=0)).list;have h4:=MK N (KT l);rw[h3]at h4;have hlm:(l.map xW).length=l.length:=Dz _;unfold L9 Vj;try simp only[clR]
 simp (disch:=omega) only[JH,h4,hlm];refine(Yi (mk:=fun i acc=>((i:Int),acc)) (l.map xW) (0,[],[]) (fun e=>((OW N e false).getD default).1) (fun acc=>some (acc,0)) ?_ ?_ N).trans ?_
 .intro i acc hi ha k;rw[hlm]at hi;have hr:=(XR hN (hl.2 _ (getD_mem (0,[],[]) hi))).dec;have hg:(l.map xW).getD i (0,[],[])=xW (l.getD i (0,[],[])):=by rw[getD_lt _ _ _ (by rw[hlm];exact hi),FV,getD_lt l i _ hi]
  simp (disch:=omega) only[JH,hg,hlm,hr,KX,Option.getD_some];try rfl
 .intro acc k ha;simp (disch:=omega) only[JH,hlm]
 .rw[Fh];congr 2;exact E5 fun g hg=>by show((OW N (xW g) false).getD default).1=_;rw[(XR hN (hl.2 g hg)).dec];rfl
end
def Xi (n:Int):Bs:=(Ob 300 n).getD []
def A3e (M:Nat) (n:Nat):Bool:=Ob (M+300) (n:Int)==some (Xi n)&&(UG (M+300) (n:Int)==some (Xi n)&&(PZ (M+300) (Xi n)==some ((n:Int),0)&&decide ((Xi n).length<=2)))
def A1D (M:Nat):(List.range 256).all (A3e M)=true:=by kernel_rfl
structure A04 (N:Nat) (n:Int):Prop where
 put:Ob N n=some (Xi n)
 Avw:UG N n=some (Xi n)
 int:PZ N (Xi n)=some (n,0)
 len:(Xi n).length<=2
def Aej {N:Nat} (hN:1048578<N) {n:Int} (h0:0<=n:=by omega) (h1:n<256:=by omega):A04 N n:=by
 obtain⟨M,rfl⟩:=ofM hN;obtain⟨k,rfl⟩: ∃ k:Nat,n=k:=⟨n.toNat,by omega⟩
 have h:=D8.1 (A1D M) k (Fe.2 (by omega));unfold A3e at h;simp only[Dq,EN,D5]at h;obtain⟨h1,h2,h3,h4⟩:=h;exact⟨h1,h2,h3,h4⟩
def RS (t:Nat) (n:Int):Bs:=Sp.elem t (Xi n)
def ApF {N:Nat} {n:Int} (h:A04 N n) {t:Nat} (ht:t<256:=by decide) (h31:t % 32≠31:=by decide):Fine (t,Xi n):=⟨ht,h31,by have:=h.len;show(Xi n).length<=_;omega⟩
def Ve:List Int:=[0,1000,2000000000,3155759999,3155760000,254033452799,2400000000]
def Rx (t:Int):Bs:=((Ol 300 t).getD default).1
def UQ (t:Int):Nat×Bs:=(((Rx t).headD 0).toNat,(Rx t).drop 2)
def A3K (M:Nat) (t:Int):Bool:=Ol (M+300) t==some (Rx t,0)&&(Nk (M+300) t==some (Rx t,0)&&(Tm (M+300) ((UQ t).1:Int) (UQ t).2==some (t,0)&&(Rx t==Sp.elem (UQ t).1 (UQ t).2 &&
 (decide ((UQ t).1<256)&&(decide ((UQ t).1 % 32≠31)&&(decide ((UQ t).2.length<=20)&&(!Sp.cons (UQ t).1&&(decide (0<=t)&&(decide (t<=254033452799)&& !((UQ t).1==48))))))))))
def A0p (M:Nat):Ve.all (A3K M)=true:=by kernel_rfl
structure A05 (N:Nat) (t:Int):Prop where
 enc:Ol N t=some (Rx t,0)
 sH:Nk N t=some (Rx t,0)
 dec:Tm N ((UQ t).1:Int) (UQ t).2=some (t,0)
 eq:Rx t=Sp.elem (UQ t).1 (UQ t).2
 fine:Fine (UQ t)
 len:(UQ t).2.length<=20
 A4F:Sp.cons (UQ t).1=false
 p0:0<=t
 p1:t<=254033452799
 n48:(UQ t).1≠48
def Vd {N:Nat} (hN:1048578<N) {t:Int} (h:t∈Ve):A05 N t:=by obtain⟨M,rfl⟩:=ofM hN;have h:=D8.1 (A0p M) t h;unfold A3K at h;simp only[Dq,EN,D5,Eu,HY]at h;obtain⟨h1,h2,h3,h4,h5,h6,h7,h8,h9,h10,h11⟩:=h;exact⟨h1,h2,h3,h4,⟨h5,h6,by omega⟩,h7,h8,h9,h10,h11⟩
def Acj {N:Nat} {t:Int} (h:A05 N t):(Rx t).length<=25:=by have:=h.len;have:=Sp.JM (UQ t).1 (UQ t).2;rw[h.eq];omega
def Zq:List Bs:=[[50,46,53,46,50,57,46,50,49],[50,46,53,46,50,57,46,50,52],[50,46,53,46,50,57,46,50,57],[50,46,53,46,50,57,46,51,53],[50,46,53,46,50,57,46,50,48],[50,46,53,46,50,57,46,50,55],[50,46,53,46,50,57,46,50,56],[50,46,53,46,50,57,46,52,54],[50,46,53,46,50,57,46,49,57],[50,46,53,46,50,57,46,49,53],[50,46,53,46,50,57,46,51,55],[50,46,53,46,50,57,46,51,50],[50,46,53,46,50,57,46,51,51],[50,46,53,46,50,57,46,51,54],[50,46,53,46,50,57,46,53,52],[50,46,53,46,50,57,46,49,55],[50,46,53,46,50,57,46,51,48],[50,46,53,46,50,57,46,49,52],[50,46,53,46,50,57,46,51,49],[49,46,50,46,51,46,49],[49,46,50,46,51,46,50],[49,46,50,46,51,46,51],[49,46,50,46,51,46,52],[49,46,50,46,51,46,53],[50,46,57,57,57,46,49],[50,46,57,57,57,46,50],[49,46,50,46,51],[50,46,53,46,50,57,46,51,50,46,48],[49,46,51,46,54,46,49,46,53,46,53,46,55,46,51,46,49],[49,46,51,46,54,46,49,46,53,46,53,46,55,46,51,46,50],[49,46,51,46,54,46,49,46,53,46,53,46,55,46,51,46,51],[49,46,51,46,54,46,49,46,53,46,53,46,55,46,51,46,52],[50,46,53,46,50,57,46,51,55,46,48],[49,46,50,46,51,46,52,46,53],[49,46,50,46,51,46,52,46,54]]
def idT (s:Bs):Bs:=((QH 300 s).getD default).1
def idQ (M:Nat) (s:Bs):Bool:=Uh (M+300) s==some true&&(PQ (M+300) s==some true&&(QH (M+300) s==some (idT s,0)&&(YF (M+300) s==some (Sp.elem 6 (idT s))&&(SS (M+300) (idT s)==some (s,0)&&decide ((idT s).length<=10)))))
def A3c (M:Nat):Zq.all (idQ M)=true:=by kernel_rfl
structure A4z (N:Nat) (s:Bs):Prop where
 val:Uh N s=some true
 A4I:PQ N s=some true
 enc:QH N s=some (idT s,0)
 sH:YF N s=some (Sp.elem 6 (idT s))
 dec:SS N (idT s)=some (s,0)
 len:(idT s).length<=10
def Au5 {N:Nat} (hN:1048578<N) {s:Bs} (h:s∈Zq):A4z N s:=by obtain⟨M,rfl⟩:=ofM hN;have h:=D8.1 (A3c M) s h;unfold idQ at h;simp only[Dq,EN,D5]at h;obtain⟨h1,h2,h3,h4,h5,h6⟩:=h;exact⟨h1,h2,h3,h4,h5,h6⟩
def Aif:List Int:=[2,64,384,510]
def Xg (n:Int):Bs:=((Ot 300 n).getD default).1
def A33 (M:Nat) (r:Int):Bool:=Ot (M+300) r==some (Xg r,0)&&(QV (M+300) r==some (Xg r,0)&&(QI (M+300) (Xg r)==some (r,0)&&(decide ((Xg r).length<=5)&&(JF .andNot .i64 r 510==0&& !(r==0)))))
def A2e (M:Nat):Aif.all (A33 M)=true:=by kernel_rfl
structure A3Z (N:Nat) (r:Int):Prop where
 put:Ot N r=some (Xg r,0)
 Avw:QV N r=some (Xg r,0)
 get:QI N (Xg r)=some (r,0)
 len:(Xg r).length<=5
 mask:JF .andNot .i64 r 510=0
 ne:r≠0
def XH {N:Nat} (hN:1048578<N) {r:Int} (h:r∈Aif):A3Z N r:=by obtain⟨M,rfl⟩:=ofM hN;have h:=D8.1 (A2e M) r h;unfold A33 at h;simp only[Dq,EN,D5,Eu,HY]at h;obtain⟨h1,h2,h3,h4,h5,h6⟩:=h;exact⟨h1,h2,h3,h4,h5,h6⟩
def A4j:JF .andNot .i64 0 510=0:=by kernel_rfl
def okR (r:Int):Prop:=r=0\/r∈Aif
def flT (t:Nat) (r:Int):Bs:=bif r != 0 then Sp.elem t (Xg r)else []
def flE (t:Nat) (r:Int):List El:=bif r != 0 then [MF t (Xg r)]else []
def AhH {r:Int} (h:okR r):JF .andNot .i64 r 510=0:=by
 rcases h with rfl | h
 .exact A4j
 .exact(XH (N:=1048579) (by omega) h).mask
def Atb {r:Int} (h:okR r) (t:Nat):(flT t r).length<=10:=by
 rcases h with rfl | h
 .exact DN _
 .have R:=XH (N:=1048579) (by omega) h;have:=R.len;have:=Sp.JM t (Xg r);unfold flT;rw[UU R.ne,cond_true];omega
def AwH {r:Int} (h:okR r) {t d:Nat} (ht:t<256) (h31:t % 32≠31) (hd:d<16) (hc:Sp.cons t=false):Par d (flT t r) (flE t r):=AfA _ fun hr=>by
 rcases h with rfl | h
 .cases hr
 .exact AhM ⟨ht,h31,by have:=(XH (N:=1048579) (by omega) h).len;show(Xg r).length<=_;omega⟩ hd hc
abbrev PtL:Type:=List GnL×Int×Bool×List (List N7)
structure okP (p:PtL):Prop where
 nm: ∃ g,okG g/\p.1=[g]
 re:okR p.2.1
 is:(p.2.2.1=false/\p.2.2.2=[])\/(p.2.2.1=true/\okN p.2.2.2/\p.2.2.2≠ [])
def ptK (p:PtL):PtL:=(p.1.map gnK,p.2.1,p.2.2.1,nmC p.2.2.2)
def piT (p:PtL):Bs:=bif p.2.2.1 then Sp.elem 162 (MN (4,[],p.2.2.2))else []
def ptC (p:PtL):Bs:=Sp.elem 160 (Sp.elem 160 (KT p.1))++(flT 129 p.2.1++piT p)
def ptB (p:PtL):Bs:=Sp.elem 48 (ptC p)
def ptE (p:PtL):El:=MF 48 (ptC p)
def gs1 {g:GnL} (h:okG g):AhF [g]:=⟨by simp,fun x hx=>by rw[DR.1 hx];exact h⟩
structure PtM (N:Nat) (p:PtL):Prop where
 chk:OA N p=some 0
 len:(ptC p).length<=2000
 els:JQ (ptC p)=(MF 160 (Sp.elem 160 (KT p.1))::(flE 129 p.2.1++(bif p.2.2.1 then [MF 162 (MN (4,[],p.2.2.2))]else [])),0)
 par: ∀ d,d<=2->Par d (ptB p) [ptE p]
 okK:okP (ptK p)
 AyS:ptB (ptK p)=ptB p
 dec:Oe N (MF 160 (Sp.elem 160 (KT p.1))::(flE 129 p.2.1++(bif p.2.2.1 then [MF 162 (MN (4,[],p.2.2.2))]else [])))=some (ptK p,0,[])
section
variable {N:Nat} (hN:1048578<N)
include hN
theorem Avo {p:PtL} (h:okP p):PtM N p:=by
 obtain⟨gs,r,b,n⟩:=p;obtain⟨⟨g,hg,hgs⟩,hr,hi⟩:=h;dsimp only at hgs hr hi;subst hgs;have h1:=gs1 hg;have hl:=U0 hN h1;have hm:=AhH hr;have ck:=ArV hN h1;have l1: [g].length=1:=rfl;have hfl:=Atb hr 129;have e1:=Sp.JM 160 (KT [g]);have e2:=Sp.JM 160 (Sp.elem 160 (KT [g]))
 have hpi:(piT ([g],r,b,n)).length<=640:=by
  unfold piT;rcases hi with ⟨rfl,_⟩ | ⟨rfl,hn,_⟩
  .exact DN _
  .have:=Y4 hN (Or.inr ⟨n,hn,rfl⟩:okG (4,[],n));have:=Sp.JM 162 (MN (4,[],n));show(Sp.elem 162 (MN (4,[],n))).length<=_;omega
 have hlen:(ptC ([g],r,b,n)).length<=2000:=by unfold ptC;rw[Dp,Dp];dsimp only;omega
 have hpar: ∀ d,d<=3->Par d (ptC ([g],r,b,n)) (MF 160 (Sp.elem 160 (KT [g]))::(flE 129 r++(bif b then [MF 162 (MN (4,[],n))]else []))):=by
  intro d hd;show Par d (Sp.elem 160 (Sp.elem 160 (KT [g]))++(flT 129 r++piT ([g],r,b,n))) _;refine dE (es:=[_]) (WN (WC (by decide) (by decide)) (by omega) (WN (t:=160) (WC (by decide) (by decide)) (by omega) (Ah4 hN h1).nest).nest) (dE (AwH hr (by decide) (by decide) (by omega) (by decide)) ?_);show Par d (bif b then Sp.elem 162 (MN (4,[],n))else []) _;refine AfA b fun hb=> ?_;rcases hi with ⟨rfl,_⟩ | ⟨rfl,hn,_⟩
  .cases hb
  .have hd4:okG (4,[],n):=Or.inr ⟨n,hn,rfl⟩;exact WN (WC (by decide) (by decide) (by have:=Y4 hN hd4;omega)) (by omega) ((XR hN hd4).par _ (by omega)).nest
 have hf:Fine (48,ptC ([g],r,b,n)):=(WC (by decide) (by decide))
 have hK:KT ([g].map gnK)=KT [g]:=A1H hN h1;have hls:=(yA hN h1)
 have o160:OB N (Sp.elem 160 (KT [g])) 160=some (MF 160 (KT [g]),0):=by rw[SK N _ 160 hN (by omega)];exact congrArg some (Ae4 160 (KT [g]) (by decide) (by decide) (by omega))
 refine⟨?_,hlen,(hpar 0 (by omega)).list,fun d hd=>WN hf (by omega) (hpar _ (by omega)).nest,?_,?_,?_⟩
 .unfold OA;try simp only[clR]
  rcases hi with ⟨rfl,rfl⟩ | ⟨rfl,hn,hne⟩
  .simp (disch:=omega) only[JH,hm,ck,l1,List.length_nil];try rfl
  .have hpos:=EO.2 hne;have hc:=Z8 hN hn;simp (disch:=omega) only[JH,hm,ck,l1,hc];try rfl
 .refine⟨⟨gnK g,(XR hN hg).okK,rfl⟩,hr,?_⟩;rcases hi with ⟨rfl,rfl⟩ | ⟨rfl,hn,hne⟩
  .exact Or.inl ⟨rfl,rfl⟩
  .exact Or.inr ⟨rfl,Ave hN hn,fun h=>hne (List.map_eq_nil_iff.1 h)⟩
 .unfold ptB ptC ptK piT;dsimp only;rw[hK];rcases hi with ⟨rfl,rfl⟩ | ⟨rfl,hn,hne⟩
  .rfl
  .rw[show MN (4,[],nmC n)=MN (4,[],n)from congrArg (fun p:Nat×Bs=>Sp.elem p.1 p.2) (XR hN (Or.inr ⟨n,hn,rfl⟩:okG (4,[],n))).AyS]
 .have hflE:flE 129 r=[]/\r=0\/flE 129 r=[MF 129 (Xg r)]/\r∈Aif:=by
   rcases hr with rfl | hr
   .exact Or.inl ⟨rfl,rfl⟩
   .refine Or.inr ⟨?_,hr⟩;unfold flE;rw[UU (XH hN hr).ne];rfl
  have hI:b=false/\n=[]\/b=true/\L9 N (MN (4,[],n))=some ([(4,[],nmC n)],0):=by
   rcases hi with h | ⟨h,hn,_⟩
   .exact Or.inl h
   .refine Or.inr ⟨h,?_⟩;have:=yA hN (gs1 (Or.inr ⟨n,hn,rfl⟩:okG (4,[],n)));rwa [show KT [((4:Int),([]:Bs),n)]=MN (4,[],n)from DX _]at this
  unfold Oe;try simp only[clR]
  rcases hflE with ⟨h1,h2⟩ | ⟨h1,h2⟩<;>rcases hI with ⟨rfl,rfl⟩ | ⟨rfl,h3⟩
  .rw[h1];subst h2;simp (disch:=omega) only[JH,fQ,Au3,Au1,Au2,el1,el2,el3,List.cons_append,List.nil_append,o160,hls,aZ];try rfl
  .rw[h1];subst h2;simp (disch:=omega) only[JH,fQ,Au3,Au1,Au2,el1,el2,el3,List.cons_append,List.nil_append,o160,hls,aZ,h3];try rfl
  .have hg:=(XH hN h2).get;have hne:=(XH hN h2).ne;rw[h1];simp (disch:=omega) only[JH,fQ,Au3,Au1,Au2,el1,el2,el3,List.cons_append,List.nil_append,o160,hls,aZ,hg];try rfl
  .have hg:=(XH hN h2).get;have hne:=(XH hN h2).ne;rw[h1];simp (disch:=omega) only[JH,fQ,Au3,Au1,Au2,el1,el2,el3,List.cons_append,List.nil_append,o160,hls,aZ,hg,h3];try rfl
end
abbrev ExL:Type:=Bs×Bool×Bs
structure OkX (x:ExL):Prop where
 id:x.1∈Zq
 chk:Sp.chk x.2.2=0
 len:x.2.2.length<=8000
structure Ayl (l:List ExL):Prop where
 ne:0<l.length
 len:l.length<=16
 all: ∀ x∈l,OkX x
 nd:l.Pairwise fun a b=>a.1≠b.1
def exC (x:ExL):Bs:=Sp.elem 6 (idT x.1)++((bif x.2.1 then Sp.elem 1 [255]else [])++Sp.elem 4 x.2.2)
def exB (x:ExL):Bs:=Sp.elem 48 (exC x)
def xsC (l:List ExL):Bs:=(l.map exB).flatten
def xsB (l:List ExL):Bs:=Sp.elem 48 (xsC l)
def zX:ExL:=([],false,[])
section
variable {N:Nat} (hN:1048578<N) {x:ExL} (h:OkX x)
include hN h
theorem AwD:(exC x).length<=x.2.2.length+23:=by
 have h1:=(Au5 hN h.id).len;have h2:=Sp.JM 6 (idT x.1);have h3:=Sp.JM 4 x.2.2;have h4:=h.len;have h5:(bif x.2.1 then Sp.elem 1 [255]else []:Bs).length<=3:=by cases x.2.1<;>decide
 unfold exC;rw[Dp,Dp];omega
theorem A1w:XC N x.2.2=some 0:=by have:=h.len;rw[AlJ N _ (by omega) (by omega) (by omega),h.chk]
end
section
variable {l:List ExL} (h:Ayl l)
include h
theorem A4y {i j:Nat} (hi:i<j) (hj:j<l.length):(l.getD i zX).1≠(l.getD j zX).1:=by rw[getD_lt l i zX,getD_lt l j zX hj];exact Ip.1 h.nd i j (by omega) hj hi
variable {N:Nat} (hN:1048578<N)
include hN
theorem Aml {m:Nat} (hm: ∀ x∈l,x.2.2.length<=m):(xsC l).length<=(m+28)*l.length :=
 Oo (g:=exB) (M:=m+28) (l:=l) fun x hx=>by have:=AwD hN (h.all x hx);have:=Sp.JM 48 (exC x);have:=hm x hx;unfold exB;omega
theorem Atm (h5:l.length<=5):(xsC l).length<=40140:=by have:=Aml h hN (m:=8000) fun x hx=>(h.all x hx).len;omega
theorem xs_len:(xsC l).length<=128448:=by have:=Aml h hN (m:=8000) fun x hx=>(h.all x hx).len;have:=h.len;omega
theorem Akv:MI N l=some (xsB l,0):=by
 have hl:=h.len;have h0:=h.ne;have hb:=xs_len h hN
 have hce:V9 N l=some 0:=by
  unfold V9;try simp only[clR]
  refine QS (fun i=>(i:Int)) l.length (some 0) ?_ ?_ N
  .intro i hlt k;have hx:=h.all _ (getD_mem zX hlt);have e2:=A1w hN hx;have e3:=(Au5 hN hx.id).A4I
   have e4:nN N (l.take i) (l.getD i zX).1=some (([],false,[]),false):=by
    unfold nN;try simp only[clR]
    have hlt':(l.take i).length=i:=by rw[Eb];omega
    refine QS (fun j=>(j:Int)) (l.take i).length _ ?_ ?_ N
    .intro j hj k;rw[hlt']at hj;have hne:=A4y h hj hlt;have e5:((l.getD j zX).1==(l.getD i zX).1)=false:=EP hne;have e6:=Ayc l zX hj;unfold zX at *
     simp (disch:=omega) only[JH,hlt',e6,e5,KX]
    .intro k;simp (disch:=omega) only[JH,hlt']
   unfold zX at *
   simp (disch:=omega) only[JH,Awr,e2,e3,e4,KX];try rfl
  .intro k;simp (disch:=omega) only[JH]
 have hc:Qp N l=some 0:=by unfold Qp;rw[MO,cond_false,Aos,cond_false,hce];rfl
 unfold MI;try simp only[clR]
 rw[hc,Jt,show((0:Int) != 0)=false from rfl,cond_false];refine(yZ (mk:=fun i t=>(t,(i:Int))) l zX exB (fun t=>Jr (Lh N 48 [t]) fun r=>some (r.1,r.2)) ?_ ?_ N).trans ?_
 .intro i t hlt ht k;have hx:=h.all _ (getD_mem zX hlt);have I:=Au5 hN hx.id;have h1:=I.len;have e1:=I.sH;have h3:=hx.len;have h4:=AwD hN hx;dsimp only[U2];rw[Int.toNat_natCast];unfold xsC at hb;unfold zX at *
  generalize l.getD i ([],false,[])=x at *
  have ht:=Gs ht hb;unfold exB exC at ht ⊢;unfold exC at h4;obtain⟨id,c,v⟩:=x;dsimp only at *
  have w2:Lh N 4 [v]=_:=yL N 4 [v] (by omega) (by omega) hN (by simp) (by rw[Le];omega);rw[Le]at w2;cases c with
  | true =>have w3:JV N 1 [[255]]=some (Sp.elem 1 [255]):=QJ N 1 [[255]] (by omega) (by omega) hN;have w4:Lh N 48 [Sp.elem 6 (idT id),Sp.elem 1 [255],Sp.elem 4 v]=_:=yL N 48 [Sp.elem 6 (idT id),Sp.elem 1 [255],Sp.elem 4 v] (by omega) (by omega) hN (by simp) (by rw[X3];exact Gs h4 (by omega));rw[X3]at w4;have p:UF N true=some [255]:=rfl;dsimp only[cond_true]at ht ⊢;simp (disch:=omega) only[JH,e1,w2,w3,w4,p,KX,Gh];try rfl
  | false =>have w4:Lh N 48 [Sp.elem 6 (idT id),[],Sp.elem 4 v]=_:=yL N 48 [Sp.elem 6 (idT id),[],Sp.elem 4 v] (by omega) (by omega) hN (by simp) (by rw[X3];exact Gs h4 (by omega));rw[X3]at w4;dsimp only[cond_false]at ht ⊢;simp (disch:=omega) only[JH,e1,w2,w4,KX,Gh];try rfl
 .intro t k;simp (disch:=omega) only[JH]
 .have w:Lh N 48 [(l.map exB).flatten]=_:=yL N 48 [(l.map exB).flatten] (by omega) (by omega) hN (by simp) (by rw[Le];unfold xsC at hb;omega);rw[w,Jt,Le];rfl
end
end Go.Proofs.YtmgpaalplkkpnaaGreatDoor.Pl
