import Derived.Test.YtakmjgnpefmjhaaGreatDoorA13
import Derived.Lib.TrimUEq
set_option linter.all false
namespace Go.Proofs.YtakmjgnpefmjhaaGreatDoor.Pl
open IntKind (i64 u8 u32 u64)
open Go Vm
def Amx {X Y ρ :Type} {B:X->(X->Option ρ)->(Y->Option ρ)->Option ρ} {kx:Y->Option ρ} (P:X->Option ρ ->Prop) (μ :X->Nat)
 (h: ∀ x v,P x v-> ∀ k:X->Option ρ,(∀ x' v',P x' v'-> μ x'< μ x->k x'=v')->B x k kx=v): ∀(N:Nat) (x:X) (v:Option ρ),P x v-> μ x<N->J6 B N x kx=v:=by
 intro N
 induction N with
 | zero=>intro x v _ h;omega
 | succ N ih=>intro x v hI hm;exact h x v hI _ (fun x' v' hI' hm'=>ih x' v' hI' (by omega))
def cc (acc:List Nat):Nat:=if acc=[]then 0 else acc.length+1
def Ajt:Option (Bs×Int):=some ([],11)
def AzW (kx:Bs×Bool->Option (Bs×Int)):Option (List Nat)->Option (Bs×Int)
 | none=>Ajt
 | some l=>if 11<l.length then Ajt else kx (SS (two l),false)
def Aye {l:List Nat} (v:Nat) (h:l≠ []):two (l++[v])=two l++[v]:=by
 cases l with
 | nil=>exact absurd rfl h
 | cons n t=>rfl
def Awx (v:Nat): ∀ a:List Nat,a≠ []->SS (a++[v])=SS a++46::dd v:=by
 intro a
 induction a with
 | nil=>intro h;exact absurd rfl h
 | cons n r ih =>
  intro _;cases r with
  | nil =>show([46]:Bs).intercalate [dd n,dd v]=([46]:Bs).intercalate [dd n]++_;simp [List.intercalate]
  | cons m r =>have h2:=ih (by simp);unfold SS at h2 ⊢;show([46]:Bs).intercalate (dd n::dd m::(r++[v]).map dd)=([46]:Bs).intercalate (dd n::dd m::r.map dd)++_;have h3:([46]:Bs).intercalate (dd m::(r++[v]).map dd)=([46]:Bs).intercalate (dd m::r.map dd)++46::dd v:=h2;rw[bK,bK,h3,Ei];rfl
def Ayc (n:Nat):SS (two [n])=dd (if 2<n / 40 then 2 else n / 40)++[46]++dd (n - 40*(if 2<n / 40 then 2 else n / 40)):=by show([46]:Bs).intercalate [dd _,dd _]=_;rw[bK];simp [List.intercalate]
def Xv (N:Nat) (s:Bs) (hs:s.length<=1048576) (hN:s.length+1<N) (hN2:1000<N):Pg N s=some (OU (TZ s)):=by
 unfold Pg;try simp only[clR]
 refine Ey (Amx (P:=fun(x:Bs×Int×Bool×Int×Int) v=> ∃(i cur:Nat) (mid:Bool) (acc:List Nat),x=(SS (two acc),(cur:Int),mid,((cc acc:Nat):Int),(i:Int))/\i<=s.length/\acc.length<=11/\(∀ x∈acc,x<=2147483727)/\cur<=2147483727/\v=AzW (fun q=>Vm.chk ((KL N q.1).isSome||(((s.length:Nat):Int)==0||q.2)) (bif (((s.length:Nat):Int)==0||q.2|| !(KL N q.1).getD default)then some ([],11)else some (q.1,0))) (Oe 2147483727 (s.drop i) cur mid acc)) (μ :=fun x=>s.length - x.2.2.2.2.toNat) ?_ N ([],0,false,0,0) _ ⟨0,0,false,[],rfl,DF _,DF _,fun x (h:x∈ [])=>absurd h (Gp),DF _,rfl⟩ (by show s.length - 0<N;omega)) ?_
 .rintro x v ⟨i,cur,mid,acc,rfl,h1,h2,h3,h4,rfl⟩ k hk;dsimp only[U5,U2];rw[show((i:Int)).toNat=i by omega];by_cases hl:i<s.length
  .have hg:s.getD i 0=s[i]:=getD_lt s i 0 hl;have hb:=Ur s[i];rw[hg,Dn (by omega),cond_true,Dn (by omega)];simp only[DV,J8];rw[Es hl,QZ];by_cases h8:mid=false/\s[i].toNat=128
   .rw[Dq h8,h8.1,h8.2];rfl
   .have hbe:(!mid&&((s[i].toNat:Nat):Int)==128)=false:=by
     apply Fa.2;intro h;simp only[Dv,EF,EU]at h;exact h8 ⟨h.1,by omega⟩
    rw[Dt h8,hbe,cond_false];rw[show((s[i].toNat:Nat):Int).tmod 128=((s[i].toNat % 128:Nat):Int)from rfl,w64 (x:=((s[i].toNat % 128:Nat):Int)) (by omega) (by omega),w64 (x:=128*(cur:Int)) (by omega) (by omega),w64 (x:=128*(cur:Int)+_) (by omega) (by omega),show 128*(cur:Int)+((s[i].toNat % 128:Nat):Int)=((cur*128+s[i].toNat % 128:Nat):Int) by omega];generalize hw:cur*128+s[i].toNat % 128=w;by_cases hv:2147483727<w
    .rw[Dq hv,Dn (by omega),cond_true];rfl
    .rw[Dt hv,Du (by omega),cond_false,w64 (x:=(i:Int)+1) (by omega) (by omega),show((i:Int)+1)=((i+1:Nat):Int)from rfl]
     have hmu: ∀(a:Bs) (b:Int) (c:Bool) (d:Int),s.length - ((a,b,c,d,((i+1:Nat):Int)):Bs×Int×Bool×Int×Int).2.2.2.2.toNat<s.length - ((SS (two acc),(cur:Int),mid,((cc acc:Nat):Int),(i:Int)):Bs×Int×Bool×Int×Int).2.2.2.2.toNat:=by
      intro a b c d;show s.length - ((i+1:Nat):Int).toNat<s.length - ((i:Int)).toNat
      omega
     by_cases hc:128<=s[i].toNat
     .rw[Dq hc,Dn (by omega),cond_true];exact hk _ _ ⟨i+1,w,true,acc,rfl,by omega,h2,h3,by omega,rfl⟩ (hmu _ _ _ _)
     .rw[Dt hc,Du (by omega),cond_false,Pz];by_cases ha:acc=[]
      .subst ha;have hq:(if 2<w / 40 then 2 else w / 40)<=2:=by split<;>omega
       rw[Asp w (by omega),AqF w (by omega),Aox N 9 _ (by omega) (by omega) N (by omega),Aox N 9 _ (by omega) (by omega) N (by omega)];rw[Js,Js];have hd1:=Aa9 9 (if 2<w / 40 then 2 else w / 40) (by omega);have hd2:=Aa9 9 (w - 40*(if 2<w / 40 then 2 else w / 40)) (by omega);rw[show(((cc []:Nat):Int)==0)=true from rfl,cond_true,Dn (by omega),J8,Dn (by rw[Dx,List.length_singleton];omega),J8];dsimp only[U2];rw[<- Ayc];rw[show(decide (i64.wrap ((1:Int)+1)>12))=false by decide,cond_false,show i64.wrap ((1:Int)+1)=((cc [w]:Nat):Int) by unfold cc;rw[Dt (by simp),List.length_singleton];decide];exact hk _ _ ⟨i+1,0,false,[w],rfl,by omega,by simp,fun x hx=>by rw[DY]at hx;omega,by omega,rfl⟩ (hmu _ _ _ _)
      .have hcc:cc acc=acc.length+1:=Dt ha;have hpos:=FD.2 ha;have h2l:=AgE ha;have htl:=AcW (two acc) (fun x hx=>by have:=AkE (m:=2147483728) (by omega) (fun x hx=>by have:=h3 x hx;omega) x hx;omega);have hd1:=Aa9 9 w (by omega);have hne:two acc≠ []:=by intro e;rw[e]at h2l;simp at h2l
       have hz:(((cc acc:Nat):Int)==0)=false:=by apply Fa.2;intro h;have:=FT h;omega
       rw[hz,cond_false,Aox N 9 w (by omega) (by omega) N (by omega),Js,Dn (by omega),J8,Dn (by simp only[Dx,List.length_singleton];omega),J8];dsimp only[U2];rw[show SS (two acc)++([46]++dd w)=SS (two (acc++[w])) by rw[Aye w ha,Awx w _ hne];rfl];rw[w64 (by omega) (by omega)];by_cases h11:acc.length=11
       .rw[Dn (by omega),cond_true];cases hsc:Oe 2147483727 (s.drop (i+1)) 0 false (acc++[w])with
        | none=>rfl
        | some l =>obtain⟨t,rfl⟩:=Afv _ _ _ _ _ _ hsc;show _=if 11<((acc++[w])++t).length then Ajt else _;rw[Dq (by simp only[Dx,List.length_singleton];omega)];rfl
       .rw[Du (by omega),cond_false];have hcc2:cc (acc++[w])=acc.length+2:=by unfold cc;rw[Dt (by simp),Dx,List.length_singleton]
        rw[show((cc acc:Nat):Int)+1=((cc (acc++[w]):Nat):Int) by omega];refine hk _ _ ⟨i+1,0,false,acc++[w],rfl,by omega,by rw[Dx,List.length_singleton];omega,fun x hx=> ?_,by omega,rfl⟩ (hmu _ _ _ _);rcases DR.1 hx with hx | hx
        .exact h3 x hx
        .rw[DY]at hx;omega
  .rw[Du (by omega),cond_false,show i=s.length by omega,EY];cases mid with
   | true =>simp only[EE,J8,DV,cond_true];rfl
   | false =>show _=if 11<acc.length then Ajt else _;rw[Dt (by omega)]
 .have hlim:=Am5 4294967294 2147483727 (by omega) s 0 false [] (fun x (h:x∈ [])=>absurd h (Gp));rw[Gl,hlim];unfold TZ;cases hsc:Oe 4294967294 s 0 false []with
  | none=>rfl
  | some l =>
   show AzW _ (upTo 2147483727 l)=some (OU (if l.length=0\/11<l.length then none else upTo 2147483647 (two l)));by_cases hu: ∀ x∈l,x<=2147483727
   .rw[show upTo 2147483727 l=some l from Dq hu];show(if 11<l.length then Ajt else _)=_;by_cases h11:11<l.length
    .rw[Dq h11,Dq (Or.inr h11)];rfl
    .rw[Dt h11];by_cases h0:l=[]
     .subst h0;rw[Dq (show([]:List Nat).length=0\/11<([]:List Nat).length from Or.inl rfl)];have hv:=(Yh N [] (by omega) (DF _) (by show 0+1<N;omega)).2;show Vm.chk ((KL N []).isSome||_) (bif (_|| !(KL N []).getD default)then _ else _)=_;rw[hv];simp only[Option.isSome_some,DV,J8];rw[show(some (ND []).isSome:Option Bool).getD default=false from by decide,Ee,EE];rfl
     .have hpos:=FD.2 h0;have h2l:=AgE h0;have htl:=AcW (two l) (fun x hx=>by have:=AkE (m:=2147483728) (by omega) (fun x hx=>by have:=hu x hx;omega) x hx;omega);have hv:=(Yh N (SS (two l)) (by omega) (by omega) (by omega)).2;rw[AuI h0 (by omega) (fun x hx=>by have:=hu x hx;omega)]at hv;rw[Dt (by omega)];have hs0:(((s.length:Nat):Int)==0)=false:=by apply Fa.2;intro h;have h1:=FT h;have h2:s=[]:=F7.1 (by omega);rw[h2]at hsc;injection hsc with hsc;exact h0 hsc.symm
      dsimp only;rw[hv,hs0];simp only[Option.isSome_some,DV,J8,EI];unfold upTo;by_cases h3: ∀ x∈two l,x<=2147483647
      .rw[Dq h3];rfl
      .rw[Dt h3];rfl
   .rw[show upTo 2147483727 l=none from Dt hu];have:upTo 2147483647 (two l)=none:=Dt fun h=>hu (A0K h);rw[this];split<;>rfl
def aF {E ρ :Type} (p:E->Bool) (bad:Option ρ) (fin:Unit->Option ρ): ∀ l:List E,UY (fun e (_:Unit)=>if p e=true then .inr ()else .inl bad) fin l ()=if l.all p=true then fin ()else bad:=by
 intro l
 induction l with
 | nil=>rfl
 | cons e r ih =>
  rw[List.all_cons];unfold UY;by_cases h:p e=true
  .rw[Dq h,h,ET];exact ih
  .rw[Dt h,Dt (by simp [h])]
def TN {X E ρ :Type} {p:E->Bool} {bad:Option ρ} {e:E} {b:(X->Option ρ)->Option ρ} {nx:Unit->X} {I:Unit->Prop} (h0:p e=false-> ∀ k,b k=bad) (h1:p e=true->(∀ k,b k=k (nx ()))/\I ()):Agf b nx I (if p e=true then .inr ()else .inl bad):=by
 cases h:p e with
 | true=>rw[Dq rfl];exact h1 h
 | false=>rw[Dt (by decide)];exact h0 h
def AgC:Bs:=[32,39,40,41,43,44,45,46,47,58,61,63]
def VM (c:UInt8):Bool:=(decide (97<=c.toNat)&&decide (c.toNat<=122))||(decide (65<=c.toNat)&&decide (c.toNat<=90))||(decide (48<=c.toNat)&&decide (c.toNat<=57))
def prC (c:UInt8):Bool:=VM c||AgC.any (· ==c)
def iaC (c:UInt8):Bool:=decide (32<=c.toNat)&&decide (c.toNat<=126)
def Ab2 {P:UInt8->Prop} (h: ∀ n:Fin 256,P (UInt8.ofNat n.val)) (c:UInt8):P c:=by have:=h ⟨c.toNat,Hm c⟩;rwa [H5]at this
def Ab3 (N:Nat) (c:UInt8):Rq N (c.toNat:Int)=some (VM c):=by refine Ab2 (P:=fun c=>Rq N (c.toNat:Int)=some (VM c)) ?_ c;show ∀ n:Fin 256,Rq 0 ((UInt8.ofNat n.val).toNat:Int)=some (VM (UInt8.ofNat n.val));decide +kernel
def Asx (N:Nat) (c:UInt8):UZ N (c.toNat:Int)=some (prC c):=by refine Ab2 (P:=fun c=>UZ N (c.toNat:Int)=some (prC c)) ?_ c;show ∀ n:Fin 256,UZ 0 ((UInt8.ofNat n.val).toNat:Int)=some (prC (UInt8.ofNat n.val));decide +kernel
def Asy (N:Nat) (c:UInt8):Va N (c.toNat:Int)=some (iaC c):=by refine Ab2 (P:=fun c=>Va N (c.toNat:Int)=some (iaC c)) ?_ c;show ∀ n:Fin 256,Va 0 ((UInt8.ofNat n.val).toNat:Int)=some (iaC (UInt8.ofNat n.val));decide +kernel
def Aov (N:Nat) (l:Bs) (c:UInt8) (hl:l.length<N) (hs:l.length<=1048576):Ue N (c.toNat:Int) l=some (l.any (· ==c)):=by
 unfold Ue;try simp -zeta only[Ap]
 refine Ey (OY (S:=Unit) (mk:=fun i _=>i) (out:=fun a=>a) l 0 (fun _ _=>True) (fun e (_:Unit)=>if(!(e==c))=true then .inr ()else .inl (some true)) ?_ ?_ N () trivial hl) ?_
 .intro i a hi _;refine TN (p:=fun e=> !(e==c)) (fun h k=> ?_) (fun h=>⟨fun k=> ?_,trivial⟩)
  .have hb:((((l.getD i 0).toNat:Nat):Int)==((c.toNat:Nat):Int))=true:=by
    have:l.getD i 0=c:=by simpa using h
    rw[this];simp
   rw[show((i:Int)).toNat=i by omega,Dn (by omega),cond_true,Dn (by omega),J8,J8,hb,cond_true]
  .have hb:((((l.getD i 0).toNat:Nat):Int)==((c.toNat:Nat):Int))=false:=by
    apply Fa.2;intro h2;have h3:=FT h2;have h4:l.getD i 0=c:=Ik.1 (by omega);rw[h4]at h;simp at h
   rw[show((i:Int)).toNat=i by omega,Dn (by omega),cond_true,Dn (by omega),J8,J8,hb,cond_false,w64 (by omega) (by omega)]
 .intro a k _;rw[Du (by omega),cond_false]
 .rw[aF (p:=fun e=> !(e==c))];rw[show l.any (· ==c)= !(l.all fun e=> !(e==c)) by rw[GN];simp];cases l.all fun e=> !(e==c)<;>rfl
def all_eq (N f:Nat) (s:Bs) (p:UInt8->Bool) (hf: ∀ c:UInt8,Agv N f (c.toNat:Int)=some (p c)) (hl:s.length<N) (hs:s.length<=1048576):Z9 N s f=some (s.all p):=by
 unfold Z9;try simp -zeta only[Ap]
 refine Ey (OY (S:=Unit) (mk:=fun i _=>i) (out:=fun a=>a) s 0 (fun _ _=>True) (fun e (_:Unit)=>if p e=true then .inr ()else .inl (some false)) ?_ ?_ N () trivial hl) ?_
 .intro i a hi _;have key: ∀(A:Option Bool) (K:Bool->Option Bool),(bif decide ((i:Int)<(s.length:Int))then Vm.chk (decide (0<=(i:Int))) (Vm.chk (decide ((i:Int)<(s.length:Int))) (Jq (Agv N f ((s.getD (i:Int).toNat 0).toNat:Int)) K))else A)=K (p (s.getD i 0)):=by intro A K;rw[show((i:Int)).toNat=i by omega,Dn (by omega),cond_true,Dn (by omega),J8,J8,hf,Js]
  refine TN (p:=p) (fun h k=> ?_) (fun h=>⟨fun k=> ?_,trivial⟩)
  .rw[key,h];rfl
  .rw[key,h,w64 (by omega) (by omega)];rfl
 .intro a k _;rw[Du (by omega),cond_false]
 .rw[aF];cases s.all p<;>rfl
def Aw5 (N:Nat) (s:Bs) (hl:s.length<N) (hs:s.length<=1048576):VJ N 19 s=some (s.all prC):=by show Jq (Z9 N s 282) (fun r=>some r)=_;rw[all_eq N 282 s prC (fun c=>Asx N c) hl hs];rfl
def Aw6 (N:Nat) (s:Bs) (hl:s.length<N) (hs:s.length<=1048576):VJ N 22 s=some (s.all iaC):=by show Jq (Z9 N s 285) (fun r=>some r)=_;rw[all_eq N 285 s iaC (fun c=>Asy N c) hl hs];rfl
def Ao8 (N:Nat) (s:Bs) (hl:s.length<N) (hs:s.length<=1048576) (hN:16<N):Ny N 19 s=some (s.all prC):=by
 unfold Ny;try simp only[clR]
 simp only[show((19:Int)==12)=false from rfl,show((19:Int)==19)=true from rfl,show((19:Int)==22)=false from rfl,cond_false,cond_true,Pz,FN,Ee,Ec,ET,EE,DV,EI,Fh,J8];refine Ey (OY (S:=Unit) (mk:=fun i _=>i) (out:=fun a=>a) s 0 (fun _ _=>True) (fun e (_:Unit)=>if prC e=true then .inr ()else .inl (some false)) ?_ ?_ N () trivial hl) ?_
 .intro i a hi _;have ha:=Aov N AgC (s.getD i 0) (by show 12<N;omega) (by decide);refine TN (p:=prC) (fun h k=> ?_) (fun h=>⟨fun k=> ?_,trivial⟩)
  .unfold prC at h;rw[show((i:Int)).toNat=i by omega,Dn (show(i:Int)<(s.length:Int) by omega),cond_true,Dn (show(0:Int)<=(i:Int) by omega),Ab3,show([32,39,40,41,43,44,45,46,47,58,61,63]:Bs)=AgC from rfl,ha];generalize VM (s.getD i 0)=q at h ⊢;generalize AgC.any (fun x=>x==s.getD i 0)=r at h ⊢;cases q<;>cases r<;>first | rfl | exact absurd h (by decide)
  .unfold prC at h;rw[show((i:Int)).toNat=i by omega,Dn (show(i:Int)<(s.length:Int) by omega),cond_true,Dn (show(0:Int)<=(i:Int) by omega),Ab3,show([32,39,40,41,43,44,45,46,47,58,61,63]:Bs)=AgC from rfl,ha,w64 (by omega) (by omega)];generalize VM (s.getD i 0)=q at h ⊢;generalize AgC.any (fun x=>x==s.getD i 0)=r at h ⊢;cases q<;>cases r<;>first | rfl | exact absurd h (by decide)
 .intro a k _;rw[Du (by omega),cond_false]
 .rw[aF];cases s.all prC<;>rfl
def Ao9 (N:Nat) (s:Bs) (hl:s.length<N) (hs:s.length<=1048576):Ny N 22 s=some (s.all iaC):=by
 unfold Ny;try simp only[clR]
 simp only[show((22:Int)==12)=false from rfl,show((22:Int)==19)=false from rfl,show((22:Int)==22)=true from rfl,cond_false,cond_true,Pz,FN,Hq,Ee,Ec,ET,EE,DV,EI,Fh,J8];refine Ey (OY (S:=Unit) (mk:=fun i _=>i) (out:=fun a=>a) s 0 (fun _ _=>True) (fun e (_:Unit)=>if iaC e=true then .inr ()else .inl (some false)) ?_ ?_ N () trivial hl) ?_
 .intro i a hi _;have key: ∀(c:UInt8),decide (((c.toNat:Nat):Int)<32)=decide (c.toNat<32)/\decide (((c.toNat:Nat):Int)>126)=decide (126<c.toNat):=fun c=>⟨by congr 1;apply propext;omega,by congr 1;apply propext;omega⟩
  refine TN (p:=iaC) (fun h k=> ?_) (fun h=>⟨fun k=> ?_,trivial⟩)
  .unfold iaC at h;rw[show((i:Int)).toNat=i by omega,Dn (show(i:Int)<(s.length:Int) by omega),cond_true,Dn (show(0:Int)<=(i:Int) by omega)];have h2:(decide (((s.getD i 0).toNat:Int)<32)||decide (((s.getD i 0).toNat:Int)>126))=true:=by simp only[ER,Ed]at h;simp only[E5,D6];omega
   generalize decide (((s.getD i 0).toNat:Int)<32)=q at h2 ⊢;generalize decide (((s.getD i 0).toNat:Int)>126)=r at h2 ⊢;cases q<;>cases r<;>first | rfl | exact absurd h2 (by decide)
  .unfold iaC at h;rw[show((i:Int)).toNat=i by omega,Dn (show(i:Int)<(s.length:Int) by omega),cond_true,Dn (show(0:Int)<=(i:Int) by omega),w64 (by omega) (by omega)];have h2:decide (((s.getD i 0).toNat:Int)<32)=false/\decide (((s.getD i 0).toNat:Int)>126)=false:=by simp only[Dv,D6]at h;simp only[Ed];omega
   rw[h2.1,h2.2];rfl
 .intro a k _;rw[Du (by omega),cond_false]
 .rw[aF];cases s.all iaC<;>rfl
def chR (n b0 b1 b2 b3:Nat):Option Nat :=
 if b0<32\/b0=127 then none
 else if b0<128 then some 1
 else if 192<=b0/\b0<224 then
  (if n<=1\/b1 / 64≠2 then none
   else if b0 % 32*64+b1 % 64<128 then none else some 2)
 else if 224<=b0/\b0<240 then
  (if n<=2\/b1 / 64≠2\/b2 / 64≠2 then none
   else if b0 % 16*4096+b1 % 64*64+b2 % 64<2048\/(55296<=b0 % 16*4096+b1 % 64*64+b2 % 64/\b0 % 16*4096+b1 % 64*64+b2 % 64<57344)then none else some 3)
 else if 240<=b0/\b0<248 then
  (if n<=3\/b1 / 64≠2\/b2 / 64≠2\/b3 / 64≠2 then none
   else if b0 % 8*262144+b1 % 64*4096+b2 % 64*64+b3 % 64<65536\/1114111<b0 % 8*262144+b1 % 64*4096+b2 % 64*64+b3 % 64 then none else some 4)
 else none
set_option maxHeartbeats 4000000 in
def AzU (n b0 b1 b2 b3:Nat) (h0:b0<256) (h1:b1<256) (h2:b2<256) (h3:b3<256) :
 chR n b0 b1 b2 b3=if(Lib.decodeN n b0 b1 b2 b3).1<32\/(Lib.decodeN n b0 b1 b2 b3).1=127\/((Lib.decodeN n b0 b1 b2 b3).1=65533/\ ¬(3<=n/\b0=239/\b1=191/\b2=189))then none else some (Lib.decodeN n b0 b1 b2 b3).2:=by
 by_cases c1:b0<128
 .have hd:Lib.decodeN n b0 b1 b2 b3=(b0,1):=by unfold Lib.decodeN;rw[Dq c1]
  rw[hd];unfold chR;dsimp only;by_cases c2:b0<32\/b0=127
  .rw[Dq c2,Dq (by omega)]
  .rw[Dt c2,Dq c1,Dt (by omega)]
 .unfold chR Lib.decodeN;rw[Dt c1,Dt (by omega),Dt c1];by_cases c2:192<=b0/\b0<224
  .rw[Dq c2];repeat' split
   all_goals first | rfl | (exfalso;dsimp only at *;omega)
  .rw[Dt c2,Dt (show ¬(b0 / 32=6/\(1<n/\b1 / 64=2)) by omega)];by_cases c3:224<=b0/\b0<240
   .rw[Dq c3];repeat' split
    all_goals first | rfl | (exfalso;dsimp only at *;omega)
   .rw[Dt c3,Dt (show ¬(b0 / 16=14/\(1<n/\b1 / 64=2)/\(2<n/\b2 / 64=2)) by omega)];repeat' split
    all_goals first | rfl | (exfalso;dsimp only at *;omega)
def AkT (s:Bs) (i:Nat):Option Nat:=chR (s.length - i) (s.getD i 0).toNat (s.getD (i+1) 0).toNat (s.getD (i+2) 0).toNat (s.getD (i+3) 0).toNat
def Sv (s:Bs):Nat->Nat->Bool
 | 0,_=>true
 | n+1,i=>if i<s.length then(match AkT s i with
  | none=>false
  | some w=>Sv s n (i+w))else true
def Aqa (l:Bs):Lib.hasPrefix l [239,191,189]=true↔3<=l.length/\(l.getD 0 0).toNat=239/\(l.getD 1 0).toNat=191/\(l.getD 2 0).toNat=189:=by
 have hb: ∀(x:UInt8) (k:Nat),k<256->((UInt8.ofNat k==x)=true↔x.toNat=k):=by
  intro x k hk;rw[EU];constructor
  .intro h;rw[<- h,Gs];omega
  .intro h;rw[<- h,H5]
 match l with
 | []=>simp [Lib.hasPrefix,List.isPrefixOf]
 | [x]=>simp [Lib.hasPrefix,List.isPrefixOf]
 | [x,y]=>simp [Lib.hasPrefix,List.isPrefixOf]
 | x::y::z::r =>show((UInt8.ofNat 239==x)&&((UInt8.ofNat 191==y)&&((UInt8.ofNat 189==z)&&true)))=true↔3<=r.length+1+1+1/\x.toNat=239/\y.toNat=191/\z.toNat=189;rw[Dv,Dv,Hu,hb _ _ (by decide),hb _ _ (by decide),hb _ _ (by decide)];exact⟨fun h=>⟨by omega,h⟩,fun h=>h.2⟩
def A0M (s:Bs): ∀(n i:Nat),Vb ⟨s.toArray⟩ n i=Sv s n i:=by
 intro n
 induction n with
 | zero=>intro i;rfl
 | succ n ih =>
  intro i;have hd:=Lib.decode_N ⟨s.toArray⟩ i;have hc:=AzU (s.length - i) (s.getD i 0).toNat (s.getD (i+1) 0).toNat (s.getD (i+2) 0).toNat (s.getD (i+3) 0).toNat (Ur _) (Ur _) (Ur _) (Ur _)
  have hp:=Aqa (s.drop i);rw[ED,Lib.getD_dropU,Lib.getD_dropU,Lib.getD_dropU,Nat.add_zero]at hp;unfold Vb Sv;show(if i<s.length then _ else _)=_;by_cases hl:i<s.length
  .rw[Dq hl,Dq hl];show(let d:=Utf8.decode ⟨s.toArray⟩ i;if d.1<32\/d.1=127 then false else if d.1=65533/\Lib.hasPrefix (s.drop i) [239,191,189]=false then false else Vb ⟨s.toArray⟩ n (i+d.2))=_;unfold AkT;have hd':Utf8.decode ⟨s.toArray⟩ i=Lib.decodeN (s.length - i) (s.getD i 0).toNat (s.getD (i+1) 0).toNat (s.getD (i+2) 0).toNat (s.getD (i+3) 0).toNat:=hd;rw[hc,hd'];generalize Lib.decodeN (s.length - i) (s.getD i 0).toNat (s.getD (i+1) 0).toNat (s.getD (i+2) 0).toNat (s.getD (i+3) 0).toNat=d;dsimp only;by_cases h1:d.1<32\/d.1=127
   .rw[Dq h1,Dq (by omega)]
   .rw[Dt h1];by_cases h2:d.1=65533/\Lib.hasPrefix (s.drop i) [239,191,189]=false
    .have h3: ¬(3<=s.length - i/\(s.getD i 0).toNat=239/\(s.getD (i+1) 0).toNat=191/\(s.getD (i+2) 0).toNat=189):=fun h=>by
      have:=hp.2 h;rw[h2.2]at this;cases this
     rw[Dq h2,Dq (Or.inr (Or.inr ⟨h2.1,h3⟩))]
    .have h3: ¬(d.1<32\/d.1=127\/(d.1=65533/\ ¬(3<=s.length - i/\(s.getD i 0).toNat=239/\(s.getD (i+1) 0).toNat=191/\(s.getD (i+2) 0).toNat=189))):=by
      rintro (h | h | ⟨h,h4⟩)
      .exact h1 (Or.inl h)
      .exact h1 (Or.inr h)
      .refine h2 ⟨h,?_⟩;apply Fa.2;intro h5;exact h4 (hp.1 h5)
     rw[Dt h2,Dt h3];exact ih _
  .rw[Dt hl,Dt hl]
def A0Q {n b0 b1 b2 b3 w:Nat} (hn:1<=n) (h:chR n b0 b1 b2 b3=some w):1<=w/\w<=n:=by
 unfold chR at h;repeat' split at h
 all_goals first | (cases h;done) | (injection h with h;omega)
def Art (s:Bs): ∀(n m i:Nat),s.length - i<=n->s.length - i<=m->Sv s n i=Sv s m i:=by
 intro n
 induction n with
 | zero =>
  intro m i h1 _;cases m with
  | zero=>rfl
  | succ m=>unfold Sv;rw[Dt (by omega)]
 | succ n ih =>
  intro m i h1 h2;cases m with
  | zero=>unfold Sv;rw[Dt (by omega)]
  | succ m =>
   unfold Sv;by_cases hl:i<s.length
   .rw[Dq hl,Dq hl];cases hc:AkT s i with
    | none=>rfl
    | some w =>have:=A0Q (by omega) hc;exact ih m (i+w) (by omega) (by omega)
   .rw[Dt hl,Dt hl]
def VQ (s:Bs) (i:Nat):Nat->Bool
 | 0=>true
 | k+1=>VQ s i k&&decide ((s.getD (i+(k+1)) 0).toNat / 64=2)
def YO (s:Bs) (i r:Nat):Nat->Nat
 | 0=>r
 | k+1=>64*YO s i r k+(s.getD (i+(k+1)) 0).toNat % 64
def AwS (s:Bs) (i r:Nat) (hr:r<32): ∀ k,YO s i r k<32*64 ^ k:=by
 intro k
 induction k with
 | zero=>show r<32*64 ^ 0;rw[Nat.pow_zero];omega
 | succ k ih=>show 64*YO s i r k+_<_;rw[Nat.pow_succ];omega
def AeF {ρ :Type} (N:Nat) (s:Bs) (i k r:Nat) (hk:k<=3) (hN:16<N) (hr:r<32) (hi:i+k<s.length) (hs:s.length<=1048576) (bad:Option ρ) (fin:Int->Option ρ) :
 J6 (X:=Int×Int) (Y:=Int) (U2 fun t7c t8c k4 x5 =>
         bif decide (t8c<=(k:Int))then
          Vm.chk (decide (0<=i64.wrap ((i:Int)+t8c)))
           (Vm.chk (decide (i64.wrap ((i:Int)+t8c)< ↑(List.length s)))
             (bif
               u8.wrap
                ((↑(List.getD s (i64.wrap ((i:Int)+t8c)).toNat 0).toNat:Int).tdiv 64) !=
                2 then
               bad
             else
              Vm.chk (decide (0<=i64.wrap ((i:Int)+t8c)))
               (Vm.chk (decide (i64.wrap ((i:Int)+t8c)< ↑(List.length s)))
                 (k4
                   (i64.wrap
                     (i64.wrap (64*t7c) +
                       i64.wrap
                        ((↑(List.getD s (i64.wrap ((i:Int)+t8c)).toNat 0).toNat:Int).tmod
                          64)),
                     i64.wrap (t8c+1))))))
         else x5 t7c) N ((r:Int),1) fin=if VQ s i k=true then fin ((YO s i r k:Nat):Int)else bad:=by
 refine Amx (P:=fun(x:Int×Int) v=> ∃ j:Nat,x=(((YO s i r j:Nat):Int),((j+1:Nat):Int))/\j<=k/\VQ s i j=true/\v=if VQ s i k=true then fin ((YO s i r k:Nat):Int)else bad) (μ :=fun x=>k+1 - x.2.toNat) ?_ N _ _ ⟨0,rfl,DF _,rfl,rfl⟩ (by show k+1 - 1<N;omega);rintro x v ⟨j,rfl,h1,h2,rfl⟩ kk hkk;have hv:=AwS s i r hr j;have hp:(64:Nat) ^ j<=64 ^ 3:=FQ (by decide) (by omega);dsimp only[U2];by_cases hj:j<k
 .have hb:=Ur (s.getD (i+(j+1)) 0);rw[Dn (by omega),cond_true,w64 (x:=(i:Int)+((j+1:Nat):Int)) (by omega) (by omega),show((i:Int)+((j+1:Nat):Int)).toNat=i+(j+1) by omega,Dn (by omega),J8,Dn (by omega),J8,J8,J8];rw[show((((s.getD (i+(j+1)) 0).toNat:Nat):Int)).tdiv 64=(((s.getD (i+(j+1)) 0).toNat / 64:Nat):Int)from rfl,show((((s.getD (i+(j+1)) 0).toNat:Nat):Int)).tmod 64=(((s.getD (i+(j+1)) 0).toNat % 64:Nat):Int)from rfl,w8];by_cases hc:(s.getD (i+(j+1)) 0).toNat / 64=2
  .rw[hc,show(((2:Nat):Int) % 256 != 2)=false from rfl,cond_false,w64 (x:=64*((YO s i r j:Nat):Int)) (by omega) (by omega),w64 (x:=(((s.getD (i+(j+1)) 0).toNat % 64:Nat):Int)) (by omega) (by omega),w64 (by omega) (by omega),w64 (by omega) (by omega)];refine hkk _ _ ⟨j+1,?_,by omega,by show(VQ s i j&&decide _)=true;rw[h2,hc];rfl,rfl⟩ (by show k+1 - (((j+1:Nat):Int)+1).toNat<k+1 - ((j+1:Nat):Int).toNat;omega);refine IB ?_ rfl;show 64*((YO s i r j:Nat):Int)+_=((64*YO s i r j+(s.getD (i+(j+1)) 0).toNat % 64:Nat):Int);omega
  .have hne:((((s.getD (i+(j+1)) 0).toNat / 64:Nat):Int) % 256 != 2)=true:=by
    rw[EO];omega
   rw[hne,cond_true]
   have hbad:VQ s i k=false:=by
    have: ∀ d,VQ s i (j+1+d)=false:=by
     intro d
     induction d with
     | zero=>show(VQ s i j&&decide _)=false;rw[Du hc,Hq]
     | succ d ih=>show(VQ s i (j+1+d)&&_)=false;rw[ih,FN]
    have h:=this (k - (j+1));rwa [show j+1+(k - (j+1))=k by omega]at h
   rw[hbad];rfl
 .have:j=k:=by omega
  subst this;rw[Du (by omega),cond_false,h2];rfl
def AzO (a:Nat) (h:a<256):JY .and .i64 (a:Int) 15=((a % 16:Nat):Int):=by
 have: ∀ a:Fin 256,JY .and .i64 ((a.val:Nat):Int) 15=((a.val % 16:Nat):Int):=by decide +kernel
 exact this ⟨a,h⟩
def and7 (a:Nat) (h:a<256):JY .and .i64 (a:Int) 7=((a % 8:Nat):Int):=by
 have: ∀ a:Fin 256,JY .and .i64 ((a.val:Nat):Int) 7=((a.val % 8:Nat):Int):=by decide +kernel
 exact this ⟨a,h⟩
def AlW (V:Nat) (mn:Int) (X Y:Option Bool):Vm.chk
 (!decide ((V:Int)>=55296) ||
   !(decide ((V:Int)<mn)||decide ((V:Int)>1114111)) &&
     decide ((V:Int)>=55296) ||
   (decide ((V:Int)<mn)||decide ((V:Int)>1114111)))
 (bif
   decide ((V:Int)<mn)||decide ((V:Int)>1114111) ||
    decide ((V:Int)>=55296)&&decide ((V:Int)<57344)then
   X
 else Y)=if(V:Int)<mn\/1114111<V\/(55296<=V/\V<57344)then X else Y:=by
 by_cases hc:(V:Int)<mn\/1114111<V\/(55296<=V/\V<57344)
 .rw[Dq hc];by_cases h1:(V:Int)<mn<;>by_cases h2:(V:Int)>1114111<;>by_cases h3:(V:Int)>=55296<;>by_cases h4:(V:Int)<57344<;>simp only[h1,h2,h3,h4,Gy,H7]<;>first | rfl | (exfalso;omega)
 .rw[Dt hc];by_cases h1:(V:Int)<mn<;>by_cases h2:(V:Int)>1114111<;>by_cases h3:(V:Int)>=55296<;>by_cases h4:(V:Int)<57344<;>simp only[h1,h2,h3,h4,Gy,H7]<;>first | rfl | (exfalso;omega)
def AnE (N:Nat) (s:Bs) (hN:s.length<N) (hN2:16<N) (hs:s.length<=1048576):dH N s=some (Sv s s.length 0):=by
 unfold dH;try simp only[clR]
 refine Ey (Ox (I:=fun x:Int=> ∃ i:Nat,x=(i:Int)/\i<=s.length) (μ :=fun x=>s.length - x.toNat) (F:=fun x=>some (Sv s (s.length - x.toNat) x.toNat)) ?_ N 0 ⟨0,rfl,DF _⟩ (by show s.length - 0<N;omega)) rfl;rintro x ⟨i,rfl,h1⟩ k hk;rw[show((i:Int)).toNat=i by omega];by_cases hl:i<s.length
 .obtain⟨n,hn⟩: ∃ n,s.length - i=n+1:=⟨s.length - i - 1,by omega⟩
  have hgo: ∀ w:Nat,AkT s i=some w->1<=w->i+w<=s.length->k (((i+w:Nat)):Int)=some (Sv s (s.length - i) i):=by
   intro w hw hw1 hw2;rw[hk _ ⟨i+w,rfl,hw2⟩ (by show s.length - ((i+w:Nat):Int).toNat<s.length - ((i:Int)).toNat;omega)];rw[show(((i+w:Nat)):Int).toNat=i+w by omega,hn]
   conv=>rhs;unfold Sv
   rw[Dq hl,hw];exact congrArg some (Art s _ _ _ (DK _) (by omega))
  have hno:AkT s i=none->(some false:Option Bool)=some (Sv s (s.length - i) i):=by intro hw;rw[hn];unfold Sv;rw[Dq hl,hw]
  have hb:=Ur (s.getD i 0);unfold AkT at hgo hno;unfold chR at hgo hno;generalize hb0:(s.getD i 0).toNat=b0 at *
  rw[Dn (show(i:Int)<(s.length:Int) by omega),cond_true,Dn (show(0:Int)<=(i:Int) by omega),J8,J8,Pz];by_cases c1:b0<32\/b0=127
  .rw[Dq c1]at hno;have hq:(decide ((b0:Int)<32)||((b0:Int)==127))=true:=by rw[E5,D6,EU];omega
   rw[hq,cond_true];exact hno rfl
  .rw[Dt c1]at hno;simp only[Dt c1]at hgo;have hq:(decide ((b0:Int)<32)||((b0:Int)==127))=false:=by apply Fa.2;rw[Ne,E5,D6,EU];omega
   rw[hq,cond_false];by_cases c2:b0<128
   .simp only[Dq c2]at hgo;rw[Dn (by omega),cond_true,w64 (by omega) (by omega)];exact hgo 1 rfl (DK _) (by omega)
   .rw[Dt c2]at hno;simp only[Dt c2]at hgo;rw[Du (show ¬(b0:Int)<128 by omega),cond_false];by_cases c3:192<=b0/\b0<224
    .rw[Dq c3]at hno;simp only[Dq c3]at hgo;rw[Dn (show(b0:Int)>=192 by omega),Dn (show(b0:Int)<224 by omega),G9,cond_true];dsimp only[U3];by_cases c4:s.length - i<=1
     .rw[Dq (Or.inl c4)]at hno;rw[w64 (x:=(s.length:Int) - (i:Int)) (by omega) (by omega),Dn (show((s.length:Int) - (i:Int))<=1 by omega),cond_true];exact hno rfl
     .rw[w64 (x:=(s.length:Int) - (i:Int)) (by omega) (by omega),Du (show ¬((s.length:Int) - (i:Int))<=1 by omega),cond_false];rw[show(JY BinOp.and i64 (i64.wrap (b0:Int)) (i64.wrap (i64.wrap (1*2 ^ min (i64.wrap (6 - 1)).toNat 64) - 1)))=((b0 % 32:Nat):Int) by rw[w64 (x:=(b0:Int)) (by omega) (by omega)];exact Ayo b0 (by omega)];have hcl:=AeF N s i 1 (b0 % 32) (by omega) hN2 (by omega) (by omega) hs (some false:Option Bool);rw[show(decide ((0:Int)<=i64.wrap (6 - 1)))=true by decide,J8];refine(hcl _).trans ?_;rw[AlW,show VQ s i 1=decide ((s.getD (i+1) 0).toNat / 64=2)from rfl,show YO s i (b0 % 32) 1=64*(b0 % 32)+(s.getD (i+1) 0).toNat % 64 from rfl];have hb1:=Ur (s.getD (i+1) 0);generalize (s.getD (i+1) 0).toNat=b1 at hno hgo hb1 ⊢;by_cases c5:b1 / 64=2
      .rw[Dq (by rw[Dn c5])];rw[Dt (by omega)]at hno;simp only[Dt (show ¬(s.length - i<=1\/b1 / 64≠2) by omega)]at hgo;by_cases c6:b0 % 32*64+b1 % 64<128
       .rw[Dq c6]at hno;rw[Dq (by omega)];exact hno rfl
       .simp only[Dt c6]at hgo;rw[Dt (by omega),w64 (x:=1+1) (by omega) (by omega),w64 (by omega) (by omega)];exact hgo 2 rfl (by omega) (by omega)
      .rw[Dt (by rw[Du c5];decide)];rw[Dq (Or.inr c5)]at hno;exact hno rfl
    .rw[Dt c3]at hno;simp only[Dt c3]at hgo;rw[show(decide ((b0:Int)>=192)&&decide ((b0:Int)<224))=false by simp only[ER,Ed];omega,cond_false];by_cases d3:224<=b0/\b0<240
     .rw[Dq d3]at hno;simp only[Dq d3]at hgo;rw[Dn (show(b0:Int)>=224 by omega),Dn (show(b0:Int)<240 by omega),G9,cond_true];dsimp only[U3];by_cases c4:s.length - i<=2
      .rw[Dq (Or.inl c4)]at hno;rw[w64 (x:=(s.length:Int) - (i:Int)) (by omega) (by omega),Dn (show((s.length:Int) - (i:Int))<=2 by omega),cond_true];exact hno rfl
      .rw[w64 (x:=(s.length:Int) - (i:Int)) (by omega) (by omega),Du (show ¬((s.length:Int) - (i:Int))<=2 by omega),cond_false];rw[show(JY BinOp.and i64 (i64.wrap (b0:Int)) (i64.wrap (i64.wrap (1*2 ^ min (i64.wrap (6 - 2)).toNat 64) - 1)))=((b0 % 16:Nat):Int) by rw[w64 (x:=(b0:Int)) (by omega) (by omega)];exact AzO b0 (by omega)];have hcl:=AeF N s i 2 (b0 % 16) (by omega) hN2 (by omega) (by omega) hs (some false:Option Bool);rw[show(decide ((0:Int)<=i64.wrap (6 - 2)))=true by decide,J8];refine(hcl _).trans ?_;rw[AlW,show VQ s i 2=(decide ((s.getD (i+1) 0).toNat / 64=2)&&decide ((s.getD (i+2) 0).toNat / 64=2))from rfl,show YO s i (b0 % 16) 2=64*(64*(b0 % 16)+(s.getD (i+1) 0).toNat % 64)+(s.getD (i+2) 0).toNat % 64 from rfl];have hb1:=Ur (s.getD (i+1) 0);have hb2:=Ur (s.getD (i+2) 0);generalize (s.getD (i+1) 0).toNat=b1 at hno hgo hb1 ⊢;generalize (s.getD (i+2) 0).toNat=b2 at hno hgo hb2 ⊢;by_cases c5:b1 / 64=2/\b2 / 64=2
       .rw[Dq (show(decide (b1 / 64=2)&&decide (b2 / 64=2))=true by simp only[c5,Gy,G9])];rw[Dt (show ¬(s.length - i<=2\/b1 / 64≠2\/b2 / 64≠2) by omega)]at hno;simp only[Dt (show ¬(s.length - i<=2\/b1 / 64≠2\/b2 / 64≠2) by omega)]at hgo;by_cases c6:b0 % 16*4096+b1 % 64*64+b2 % 64<2048\/(55296<=b0 % 16*4096+b1 % 64*64+b2 % 64/\b0 % 16*4096+b1 % 64*64+b2 % 64<57344)
        .rw[Dq c6]at hno;rw[Dq (by omega)];exact hno rfl
        .simp only[Dt c6]at hgo;rw[Dt (by omega),w64 (x:=2+1) (by omega) (by omega),w64 (by omega) (by omega)];exact hgo 3 rfl (by omega) (by omega)
       .rw[Dt (show ¬(decide (b1 / 64=2)&&decide (b2 / 64=2))=true by simp only[Dv,D6];omega)];rw[Dq (show s.length - i<=2\/b1 / 64≠2\/b2 / 64≠2 by omega)]at hno;exact hno rfl
     .rw[Dt d3]at hno;simp only[Dt d3]at hgo;rw[show(decide ((b0:Int)>=224)&&decide ((b0:Int)<240))=false by simp only[ER,Ed];omega,cond_false];by_cases e3:240<=b0/\b0<248
      .rw[Dq e3]at hno;simp only[Dq e3]at hgo;rw[Dn (show(b0:Int)>=240 by omega),Dn (show(b0:Int)<248 by omega),G9,cond_true];dsimp only[U3];by_cases c4:s.length - i<=3
       .rw[Dq (Or.inl c4)]at hno;rw[w64 (x:=(s.length:Int) - (i:Int)) (by omega) (by omega),Dn (show((s.length:Int) - (i:Int))<=3 by omega),cond_true];exact hno rfl
       .rw[w64 (x:=(s.length:Int) - (i:Int)) (by omega) (by omega),Du (show ¬((s.length:Int) - (i:Int))<=3 by omega),cond_false];rw[show(JY BinOp.and i64 (i64.wrap (b0:Int)) (i64.wrap (i64.wrap (1*2 ^ min (i64.wrap (6 - 3)).toNat 64) - 1)))=((b0 % 8:Nat):Int) by rw[w64 (x:=(b0:Int)) (by omega) (by omega)];exact and7 b0 (by omega)];have hcl:=AeF N s i 3 (b0 % 8) (by omega) hN2 (by omega) (by omega) hs (some false:Option Bool);rw[show(decide ((0:Int)<=i64.wrap (6 - 3)))=true by decide,J8];refine(hcl _).trans ?_;rw[AlW,show VQ s i 3=(decide ((s.getD (i+1) 0).toNat / 64=2)&&decide ((s.getD (i+2) 0).toNat / 64=2)&&decide ((s.getD (i+3) 0).toNat / 64=2))from rfl,show YO s i (b0 % 8) 3=64*(64*(64*(b0 % 8)+(s.getD (i+1) 0).toNat % 64)+(s.getD (i+2) 0).toNat % 64)+(s.getD (i+3) 0).toNat % 64 from rfl];have hb1:=Ur (s.getD (i+1) 0);have hb2:=Ur (s.getD (i+2) 0);have hb3:=Ur (s.getD (i+3) 0);generalize (s.getD (i+1) 0).toNat=b1 at hno hgo hb1 ⊢;generalize (s.getD (i+2) 0).toNat=b2 at hno hgo hb2 ⊢;generalize (s.getD (i+3) 0).toNat=b3 at hno hgo hb3 ⊢;by_cases c5:b1 / 64=2/\b2 / 64=2/\b3 / 64=2
        .rw[Dq (show(decide (b1 / 64=2)&&decide (b2 / 64=2)&&decide (b3 / 64=2))=true by simp only[c5,Gy,G9])];rw[Dt (show ¬(s.length - i<=3\/b1 / 64≠2\/b2 / 64≠2\/b3 / 64≠2) by omega)]at hno;simp only[Dt (show ¬(s.length - i<=3\/b1 / 64≠2\/b2 / 64≠2\/b3 / 64≠2) by omega)]at hgo;by_cases c6:b0 % 8*262144+b1 % 64*4096+b2 % 64*64+b3 % 64<65536\/1114111<b0 % 8*262144+b1 % 64*4096+b2 % 64*64+b3 % 64
         .rw[Dq c6]at hno;rw[Dq (by omega)];exact hno rfl
         .simp only[Dt c6]at hgo;rw[Dt (by omega),w64 (x:=3+1) (by omega) (by omega),w64 (by omega) (by omega)];exact hgo 4 rfl (by omega) (by omega)
        .rw[Dt (show ¬(decide (b1 / 64=2)&&decide (b2 / 64=2)&&decide (b3 / 64=2))=true by simp only[Dv,D6];omega)];rw[Dq (show s.length - i<=3\/b1 / 64≠2\/b2 / 64≠2\/b3 / 64≠2 by omega)]at hno;exact hno rfl
      .rw[Dt e3]at hno;rw[show(decide ((b0:Int)>=240)&&decide ((b0:Int)<248))=false by simp only[ER,Ed];omega,cond_false];exact hno rfl
 .rw[Du (by omega),cond_false,show s.length - i=0 by omega];rfl
def XD (t:Int) (s:Bs):Bool:=if t=12 then Sv s s.length 0 else if t=19 then s.all prC else if t=22 then s.all iaC else false
def AnV (N:Nat) (t:Int) (s:Bs) (hl:s.length<N) (hs:s.length<=1048576):VJ N t s=some (XD t s):=by
 unfold XD;by_cases h1:t=12
 .subst h1;rw[Dq rfl];show Jq (AcX N s) (fun r=>some r)=_;unfold AcX;rw[Dn (by omega)];show some (Au5 s)=_;unfold Au5;rw[A0M]
 .rw[Dt h1];by_cases h2:t=19
  .subst h2;rw[Dq rfl];exact Aw5 N s hl hs
  .rw[Dt h2];by_cases h3:t=22
   .subst h3;rw[Dq rfl];exact Aw6 N s hl hs
   .rw[Dt h3];unfold VJ;rw[show(t==12)=false from Eg h1,show(t==19)=false from Eg h2,show(t==22)=false from Eg h3];rfl
def Af9 (N:Nat) (t:Int) (s:Bs) (hl:s.length<N) (hs:s.length<=1048576) (hN:16<N):Ny N t s=some (XD t s):=by
 unfold XD;by_cases h1:t=12
 .subst h1;rw[Dq rfl];show Jq (dH N s) (fun r=>some r)=_;rw[AnE N s hl hN hs];rfl
 .rw[Dt h1];by_cases h2:t=19
  .subst h2;rw[Dq rfl];exact Ao8 N s hl hs hN
  .rw[Dt h2];by_cases h3:t=22
   .subst h3;rw[Dq rfl];exact Ao9 N s hl hs
   .rw[Dt h3];unfold Ny;try simp -zeta only[Ap]
    rw[show(t==12)=false from Eg h1,show(t==19)=false from Eg h2,show(t==22)=false from Eg h3];rfl
abbrev Att:Type:=Bs×Int×Bs
def SV (e:Att) (seen:List Att):Int :=
 if ND e.1=none then 11
 else if e.2.2=[]\/XD e.2.1 e.2.2=false then 13
 else if 64<e.2.2.length then 2
 else if seen.any (fun x=>x.1==e.1)=true then 10 else 0
def Awk (N:Nat) (q:List Att) (e:Att) (hl:q.length<N) (hs:q.length<=1048576) (fin:Unit->Option Int) :
 J6 (X:=Int×Bs×Int×Bs) (Y:=Unit) (U4 fun t43b b33792_0b b33792_1b b33792_2b k3 x4 =>
         bif decide (t43b< ↑q.length)then
          Vm.chk (decide (0<=t43b))
           (Vm.chk (decide (t43b< ↑q.length))
             (bif (q.getD t43b.toNat ([],0,[])).1==b33792_0b then
               some 10
             else k3 (i64.wrap (t43b+1),b33792_0b,b33792_1b,b33792_2b)))
         else x4 ()) N (0,e.1,e.2.1,e.2.2) fin=if q.any (fun x=>x.1==e.1)=true then some 10 else fin ():=by
 refine Ey (OY (S:=Unit) (mk:=fun i _=>(i,e.1,e.2.1,e.2.2)) (out:=fun a=>a) q ([],0,[]) (fun _ _=>True) (fun x (_:Unit)=>if(!(x.1==e.1))=true then .inr ()else .inl (some 10)) ?_ ?_ N () trivial hl) ?_
 .intro i a hi _;refine TN (p:=fun x:Att=> !(x.1==e.1)) (fun h k=> ?_) (fun h=>⟨fun k=> ?_,trivial⟩)
  .dsimp only[U4];have h':((q.getD i ([],0,[])).1==e.1)=true:=by simpa using h
   rw[show((i:Int)).toNat=i by omega,Dn (by omega),cond_true,Dn (by omega),J8,J8,h',cond_true]
  .dsimp only[U4];have h':((q.getD i ([],0,[])).1==e.1)=false:=by simpa using h
   rw[show((i:Int)).toNat=i by omega,Dn (by omega),cond_true,Dn (by omega),J8,J8,h',cond_false,w64 (by omega) (by omega)]
 .intro a k _;dsimp only[U4];rw[Du (by omega),cond_false]
 .rw[aF (p:=fun x:Att=> !(x.1==e.1))];rw[show q.any (fun x=>x.1==e.1)= !(q.all fun x=> !(x.1==e.1)) by rw[GN];simp];cases q.all fun x=> !(x.1==e.1)<;>rfl
def YJ (e:Att):Prop:=e.1.length<=1048576/\e.2.2.length<=1048576
def XF (e:Att) (seen:List Att):Option Int ⊕ List Att:=if SV e seen=0 then .inr (seen++[e])else .inl (some (SV e seen))
def Aqj (p:List Att):Option Int:=UY XF (fun _=>some 0) p []
def Ag4 (v:Bs):(v==[])=decide (v=[]):=by cases v<;>rfl
def Arz (N:Nat) (p:List Att) (hN:1048578<N) (hp: ∀ e∈p,YJ e):PL N p=if p=[]then some 14 else if 4<p.length then some 2 else Aqj p:=by
 unfold PL;try simp only[clR]
 by_cases h0:p=[]
 .subst h0;rfl
 .have hpos:=FD.2 h0;have hb:(((p.length:Nat):Int)==0)=false:=Eg (by omega);rw[hb,cond_false,Dt h0];by_cases h4:4<p.length
  .rw[Dq h4,Dn (by omega),cond_true]
  .rw[Dt h4,Du (by omega),cond_false];refine kM (S:=List Att) (mk:=fun i _=>i) p ([],0,[]) (fun i s=>s=p.take i) XF (fun _=>some 0) ?_ ?_ N [] rfl (by omega)
   .intro i s hi hs;subst hs;have hm:=hp p[i] (EL hi);have hcut:J9 p 0 i=p.take i:=rfl;have htk:p.take i++[p[i]]=p.take (i+1):=by rw[Fv,D9 hi];rfl
    have hlt:(p.take i).length<=4:=by rw[DL];omega
    rw[getD_lt p i _ hi];generalize he:p[i]=e at hm htk;have ho:=(Yh N e.1 (by omega) hm.1 (by have:=hm.1;omega)).1;have ht:=AnV N e.2.1 e.2.2 (by have:=hm.2;omega) hm.2;have hsl:=fun fin=>Awk N (p.take i) e (by omega) (by omega) fin;unfold XF;by_cases a1:ND e.1=none
    .have hat:SV e (p.take i)=11:=by unfold SV;rw[Dq a1]
     rw[hat,Dt (by decide)];intro k;dsimp only;rw[show((i:Int)).toNat=i by omega,getD_lt p i _ hi,he,Dn (show(i:Int)<(p.length:Int) by omega),cond_true,Dn (show(0:Int)<=(i:Int) by omega),J8,J8,ho,Js,a1];rfl
    .have hsome:(ND e.1).isSome=true:=by cases hq:ND e.1 with
      | none=>exact absurd hq a1
      | some l=>rfl
     rw[hsome]at ho;by_cases a2:e.2.2=[]\/XD e.2.1 e.2.2=false
     .have hat:SV e (p.take i)=13:=by unfold SV;rw[Dt a1,Dq a2]
      rw[hat,Dt (by decide)];intro k;dsimp only;rw[show((i:Int)).toNat=i by omega,getD_lt p i _ hi,he,Dn (show(i:Int)<(p.length:Int) by omega),cond_true,Dn (show(0:Int)<=(i:Int) by omega),J8,J8,ho,Js,ht,Ag4];rcases a2 with a2 | a2
      .rw[Dn a2];rfl
      .rw[a2];cases decide (e.2.2=[])<;>rfl
     .have a3: ¬ e.2.2=[]:=fun h=>a2 (Or.inl h)
      have a4:XD e.2.1 e.2.2=true:=by
       cases hq:XD e.2.1 e.2.2 with
       | true=>rfl
       | false=>exact absurd (Or.inr hq) a2
      by_cases a5:64<e.2.2.length
      .have hat:SV e (p.take i)=2:=by unfold SV;rw[Dt a1,Dt a2,Dq a5]
       rw[hat,Dt (by decide)];intro k;dsimp only;rw[show((i:Int)).toNat=i by omega,getD_lt p i _ hi,he,Dn (show(i:Int)<(p.length:Int) by omega),cond_true,Dn (show(0:Int)<=(i:Int) by omega),J8,J8,ho,Js,ht,Ag4,Du a3,a4];rw[Dn (show(e.2.2.length:Int)>64 by omega)];rfl
      .have hat:SV e (p.take i)=if(p.take i).any (fun x=>x.1==e.1)=true then 10 else 0:=by unfold SV;rw[Dt a1,Dt a2,Dt a5]
       have go: ∀ k:Int->Option Int,(bif decide ((i:Int)<(p.length:Int))then k (i64.wrap ((i:Int)+1))else none)=k ((i:Int)+1):=fun k=>by rw[Dn (by omega),cond_true,w64 (by omega) (by omega)]
       have hw:i64.wrap ((i:Int)+1)=(i:Int)+1:=w64 (by omega) (by omega);rw[hat];by_cases a6:(p.take i).any (fun x=>x.1==e.1)=true
       .rw[Dq a6,Dt (by decide)];intro k;dsimp only;rw[show((i:Int)).toNat=i by omega,getD_lt p i _ hi,he,Dn (show(i:Int)<(p.length:Int) by omega),cond_true,Dn (show(0:Int)<=(i:Int) by omega),J8,J8,ho,Js,ht,Ag4,Du a3,a4,Du (show ¬(e.2.2.length:Int)>64 by omega),Dn (show(i:Int)<=(p.length:Int) by omega),hcut,hsl,Dq a6];rfl
       .rw[Dt a6,Dq rfl];refine⟨fun k=> ?_,htk⟩;dsimp only;rw[show((i:Int)).toNat=i by omega,getD_lt p i _ hi,he,Dn (show(i:Int)<(p.length:Int) by omega),cond_true,Dn (show(0:Int)<=(i:Int) by omega),J8,J8,ho,Js,ht,Ag4,Du a3,a4,Du (show ¬(e.2.2.length:Int)>64 by omega),Dn (show(i:Int)<=(p.length:Int) by omega),hcut,hsl,Dt a6,hw];rfl
   .intro s k _;rw[Du (by omega),cond_false]
def Aul (N:Nat) (p:List Att) (i:Nat) (e:Att) (hi:i<=p.length) (hl:i<N) (hs:i<=1048576) (fin:Unit->Option Int) :
 J6 (X:=Int×Bs×Int×Bs) (Y:=Unit) (U4 fun t5b b33792_0b b33792_1b b33792_2b k3 x4 =>
         bif decide (t5b<(i:Int))then
          Vm.chk (decide (0<=t5b))
           (Vm.chk (decide (t5b< ↑(List.length p)))
             (bif (List.getD p t5b.toNat ([],0,[])).1==b33792_0b then some 10
             else k3 (i64.wrap (t5b+1),b33792_0b,b33792_1b,b33792_2b)))
         else x4 ()) N (0,e.1,e.2.1,e.2.2) fin=if(p.take i).any (fun x=>x.1==e.1)=true then some 10 else fin ():=by
 have hlen:(p.take i).length=i:=by rw[DL];omega
 refine Ey (OY (S:=Unit) (mk:=fun i _=>(i,e.1,e.2.1,e.2.2)) (out:=fun a=>a) (p.take i) ([],0,[]) (fun _ _=>True) (fun x (_:Unit)=>if(!(x.1==e.1))=true then .inr ()else .inl (some 10)) ?_ ?_ N () trivial (by omega)) ?_
 .intro j a hj _;have hg:(p.take i).getD j ([],0,[])=p.getD j ([],0,[]):=by rw[getD_lt _ j _ hj,getD_lt p j _ (by omega),List.getElem_take]
  rw[hg];refine TN (p:=fun x:Att=> !(x.1==e.1)) (fun h k=> ?_) (fun h=>⟨fun k=> ?_,trivial⟩)
  .dsimp only[U4];have h':((p.getD j ([],0,[])).1==e.1)=true:=by simpa using h
   rw[show((j:Int)).toNat=j by omega,Dn (by omega),cond_true,Dn (by omega),J8,Dn (by omega),J8,h',cond_true]
  .dsimp only[U4];have h':((p.getD j ([],0,[])).1==e.1)=false:=by simpa using h
   rw[show((j:Int)).toNat=j by omega,Dn (by omega),cond_true,Dn (by omega),J8,Dn (by omega),J8,h',cond_false,w64 (by omega) (by omega)]
 .intro a k _;dsimp only[U4];rw[Du (by omega),cond_false]
 .rw[aF (p:=fun x:Att=> !(x.1==e.1))];rw[show(p.take i).any (fun x=>x.1==e.1)= !((p.take i).all fun x=> !(x.1==e.1)) by rw[GN];simp];cases (p.take i).all fun x=> !(x.1==e.1)<;>rfl
def Ag3 (v:Bs):(((v.length:Nat):Int)==0)=decide (v=[]):=by
 cases v with
 | nil=>rfl
 | cons a r=>rw[Du (by simp)];exact Eg (by rw[List.length_cons];omega)
def AmX (N:Nat) (p:List Att) (hN:1048578<N) (hp: ∀ e∈p,YJ e) (h4:p.length<=4):MR N p=Aqj p:=by
 unfold MR;try simp only[clR]
 refine kM (S:=List Att) (mk:=fun i _=>i) p ([],0,[]) (fun i s=>s=p.take i) XF (fun _=>some 0) ?_ ?_ N [] rfl (by omega)
 .intro i s hi hs;subst hs;have hm:=hp p[i] (EL hi);have htk:p.take i++[p[i]]=p.take (i+1):=by rw[Fv,D9 hi];rfl
  have hlt:(p.take i).length<=4:=by rw[DL];omega
  rw[getD_lt p i _ hi];generalize he:p[i]=e at hm htk;have ho:=(Yh N e.1 (by omega) hm.1 (by have:=hm.1;omega)).2;have ht:=Af9 N e.2.1 e.2.2 (by have:=hm.2;omega) hm.2 (by omega);have hsl:=fun fin=>Aul N p i e (by omega) (by omega) (by omega) fin;unfold XF;by_cases a1:ND e.1=none
  .have hat:SV e (p.take i)=11:=by unfold SV;rw[Dq a1]
   rw[hat,Dt (by decide)];intro k;dsimp only;rw[show((i:Int)).toNat=i by omega,getD_lt p i _ hi,he,Dn (show(i:Int)<(p.length:Int) by omega),cond_true,Dn (show(0:Int)<=(i:Int) by omega),J8,J8,ho,Js,a1];rfl
  .have hsome:(ND e.1).isSome=true:=by cases hq:ND e.1 with
    | none=>exact absurd hq a1
    | some l=>rfl
   rw[hsome]at ho;by_cases a2:e.2.2=[]\/XD e.2.1 e.2.2=false
   .have hat:SV e (p.take i)=13:=by unfold SV;rw[Dt a1,Dq a2]
    rw[hat,Dt (by decide)];intro k;dsimp only;rw[show((i:Int)).toNat=i by omega,getD_lt p i _ hi,he,Dn (show(i:Int)<(p.length:Int) by omega),cond_true,Dn (show(0:Int)<=(i:Int) by omega),J8,J8,ho,Js,ht,Ag3];rcases a2 with a2 | a2
    .rw[Dn a2];rfl
    .rw[a2];cases decide (e.2.2=[])<;>rfl
   .have a3: ¬ e.2.2=[]:=fun h=>a2 (Or.inl h)
    have a4:XD e.2.1 e.2.2=true:=by
     cases hq:XD e.2.1 e.2.2 with
     | true=>rfl
     | false=>exact absurd (Or.inr hq) a2
    by_cases a5:64<e.2.2.length
    .have hat:SV e (p.take i)=2:=by unfold SV;rw[Dt a1,Dt a2,Dq a5]
     rw[hat,Dt (by decide)];intro k;dsimp only;rw[show((i:Int)).toNat=i by omega,getD_lt p i _ hi,he,Dn (show(i:Int)<(p.length:Int) by omega),cond_true,Dn (show(0:Int)<=(i:Int) by omega),J8,J8,ho,Js,ht,Ag3,Du a3,a4];rw[Dn (show(e.2.2.length:Int)>64 by omega)];rfl
    .have hat:SV e (p.take i)=if(p.take i).any (fun x=>x.1==e.1)=true then 10 else 0:=by unfold SV;rw[Dt a1,Dt a2,Dt a5]
     have go: ∀ k:Int->Option Int,(bif decide ((i:Int)<(p.length:Int))then k (i64.wrap ((i:Int)+1))else none)=k ((i:Int)+1):=fun k=>by rw[Dn (by omega),cond_true,w64 (by omega) (by omega)]
     have hw:i64.wrap ((i:Int)+1)=(i:Int)+1:=w64 (by omega) (by omega);rw[hat];by_cases a6:(p.take i).any (fun x=>x.1==e.1)=true
     .rw[Dq a6,Dt (by decide)];intro k;dsimp only;rw[show((i:Int)).toNat=i by omega,getD_lt p i _ hi,he,Dn (show(i:Int)<(p.length:Int) by omega),cond_true,Dn (show(0:Int)<=(i:Int) by omega),J8,J8,ho,Js,ht,Ag3,Du a3,a4,Du (show ¬(e.2.2.length:Int)>64 by omega),hsl,Dq a6];rfl
     .rw[Dt a6,Dq rfl];refine⟨fun k=> ?_,htk⟩;dsimp only;rw[show((i:Int)).toNat=i by omega,getD_lt p i _ hi,he,Dn (show(i:Int)<(p.length:Int) by omega),cond_true,Dn (show(0:Int)<=(i:Int) by omega),J8,J8,ho,Js,ht,Ag3,Du a3,a4,Du (show ¬(e.2.2.length:Int)>64 by omega),hsl,Dt a6,hw];rfl
 .intro s k _;rw[Du (by omega),cond_false]
def AmF (p:List Att): ∃ v,Aqj p=some v:=by
 have: ∀(l s:List Att),∃ v,UY XF (fun _=>some 0) l s=some v:=by
  intro l
  induction l with
  | nil=>intro s;exact⟨0,rfl⟩
  | cons e r ih =>
   intro s;unfold UY XF;by_cases h:SV e s=0
   .rw[Dq h];exact ih _
   .rw[Dt h];exact⟨_,rfl⟩
 exact this p []
def X7 (p:List Att):Int:=if p=[]then 14 else if 4<p.length then 2 else(Aqj p).getD 0
def Azv (N:Nat) (p:List Att) (hN:1048578<N) (hp: ∀ e∈p,YJ e):PL N p=some (X7 p):=by
 rw[Arz N p hN hp];unfold X7;obtain⟨v,hv⟩:=AmF p;rw[hv];split
 .rfl
 .split<;>rfl
def bW (p:List Att) (_:Unit):Option Int ⊕ Unit:=if X7 p=0 then .inr ()else .inl (some (X7 p))
def pI (n:List (List Att)):Option Int:=if 8<n.length then some 2 else UY bW (fun _=>some 0) n ()
def OC (n:List (List Att)):Prop:= ∀ p∈n,∀ e∈p,YJ e
def AkZ (N:Nat) (n:List (List Att)) (hN:1048578<N) (hn:OC n):Qc N n=pI n:=by
 unfold Qc pI;try simp -zeta only[Ap]
 by_cases h8:8<n.length
 .rw[Dq h8,Dn (by omega),cond_true]
 .rw[Dt h8,Du (by omega),cond_false];refine kM (S:=Unit) (mk:=fun i _=>i) n [] (fun _ _=>True) bW (fun _=>some 0) ?_ ?_ N () trivial (by omega)
  .intro i s hi _;rw[getD_lt n i [] hi];have hr:=Azv N n[i] hN (hn _ (EL hi));unfold bW;by_cases h:X7 n[i]=0
   .rw[Dq h];refine⟨fun k=> ?_,trivial⟩;dsimp only;rw[show((i:Int)).toNat=i by omega,getD_lt n i [] hi,Dn (by omega),cond_true,Dn (by omega),J8,J8,hr,Js,h,w64 (by omega) (by omega)];rfl
   .rw[Dt h];intro k;dsimp only;rw[show((i:Int)).toNat=i by omega,getD_lt n i [] hi,Dn (by omega),cond_true,Dn (by omega),J8,J8,hr,Js,show(X7 n[i] != 0)=true from EO.2 h,cond_true]
  .intro s k _;rw[Du (by omega),cond_false]
def Aow (N:Nat) (n:List (List Att)) (hN:1048578<N) (hn:OC n):Nz N n=pI n:=by
 unfold Nz pI;try simp -zeta only[Ap]
 by_cases h8:8<n.length
 .rw[Dq h8,Dn (by omega),cond_true]
 .rw[Dt h8,Du (by omega),cond_false];refine kM (S:=Unit) (mk:=fun i _=>i) n [] (fun _ _=>True) bW (fun _=>some 0) ?_ ?_ N () trivial (by omega)
  .intro i s hi _;rw[getD_lt n i [] hi];have ha:=fun(h4:(n[i]).length<=4)=>AmX N n[i] hN (hn _ (EL hi)) h4;obtain⟨v,hv⟩:=AmF n[i];have pre: ∀(A:Option Int) (K:List Att->Option Int),(bif decide ((i:Int)<(n.length:Int))then Vm.chk (decide ((0:Int)<=(i:Int))) (Vm.chk (decide ((i:Int)<(n.length:Int))) (K (n.getD (i:Int).toNat [])))else A)=K n[i]:=by intro A K;rw[show((i:Int)).toNat=i by omega,getD_lt n i [] hi,Dn (by omega),cond_true,Dn (by omega),J8,J8]
   have key: ∀ k:Int->Option Int,(bif (((n[i].length:Nat):Int)==0)then some 14 else bif decide ((n[i].length:Int)>4)then some 2 else Jq (MR N n[i]) fun r=>bif r != 0 then some r else k (i64.wrap ((i:Int)+1)))=if X7 n[i]=0 then k ((i:Int)+1)else some (X7 n[i]):=by
    intro k;unfold X7;by_cases h0:n[i]=[]
    .rw[h0];rfl
    .have hpos:=FD.2 h0;rw[show(((n[i].length:Nat):Int)==0)=false from Eg (by omega),cond_false];simp only[Dt h0];by_cases h4:4<n[i].length
     .rw[Dn (by omega),cond_true];simp only[Dq h4];rfl
     .rw[Du (by omega),cond_false,ha (by omega),hv,Js,w64 (by omega) (by omega)];simp only[Dt h4,Option.getD_some];by_cases hz:v=0
      .rw[Dq hz,hz];rfl
      .rw[Dt hz,show(v != 0)=true from EO.2 hz,cond_true]
   unfold bW;by_cases h:X7 n[i]=0
   .rw[Dq h];refine⟨fun k=> ?_,trivial⟩;refine(pre _ (fun a=>bif (((a.length:Nat):Int)==0)then some 14 else bif decide ((a.length:Int)>4)then some 2 else Jq (MR N a) fun r=>bif r != 0 then some r else k (i64.wrap ((i:Int)+1)))).trans ?_;refine(key k).trans ?_;rw[Dq h]
   .rw[Dt h];intro k;refine(pre _ (fun a=>bif (((a.length:Nat):Int)==0)then some 14 else bif decide ((a.length:Int)>4)then some 2 else Jq (MR N a) fun r=>bif r != 0 then some r else k (i64.wrap ((i:Int)+1)))).trans ?_;refine(key k).trans ?_;rw[Dt h]
  .intro s k _;rw[Du (by omega),cond_false]
def Ao6 (N:Nat) (s:Bs) (c:UInt8) (hN:s.length+2<N) (hs:s.length<=1048576):Rx N s (c.toNat:Int)=some (KA c s):=by
 unfold Rx;try simp only[clR]
 refine Ey (Ox (I:=fun x:Int×Int×List Bs=> ∃(a j:Nat) (acc:List Bs),x=((a:Int),(j:Int),acc)/\((a<=j/\j<=s.length/\c∉J9 s a j)\/(a=s.length+1/\j=s.length+1))/\acc.length<=j) (μ :=fun x=>s.length+1 - x.2.1.toNat) (F:=fun x=>some (if x.1.toNat<=s.length then x.2.2++KA c (s.drop x.1.toNat)else x.2.2)) ?_ N (0,0,[]) ⟨0,0,[],rfl,Or.inl ⟨DK _,DF _,by rw[ZH];exact Gp⟩,DF _⟩ (by show s.length+1 - 0<N;omega)) ?_
 .rintro x ⟨a,j,acc,rfl,hi,hacc⟩ k hk;dsimp only[U3];rw[show((a:Int)).toNat=a by omega,show((j:Int)).toNat=j by omega];rcases hi with ⟨h1,h2,h3⟩ | ⟨h1,h2⟩
  .have hsplit:s.drop a=J9 s a j++s.drop j:=by
    unfold J9
    conv=>lhs;rw[<- FZ j s]
    rw[He (by rw[DL];omega)]
   rw[Dn (show(j:Int)<=(s.length:Int) by omega),cond_true,Dn (show(0:Int)<=(j:Int) by omega)];simp only[DV,J8];by_cases hl:j<s.length
   .rw[Dn (show(j:Int)<(s.length:Int) by omega),getD_lt s j 0 hl];simp only[DV,J8];rw[show(((j:Nat):Int)==((s.length:Nat):Int))=false from Eg (by omega),EI];by_cases hc:s[j]=c
    .rw[hc,show(((c.toNat:Nat):Int)==((c.toNat:Nat):Int))=true from Ep _,cond_true,Dn (by omega),J8,Dn (by omega),J8,Dn (by omega),J8,w64 (by omega) (by omega),show((j:Int)+1)=((j+1:Nat):Int)from rfl];rw[hk _ ⟨j+1,j+1,_,rfl,Or.inl ⟨DK _,by omega,by rw[ZH];exact Gp⟩,by rw[Dx,List.length_singleton];omega⟩ (by show s.length+1 - ((j+1:Nat):Int).toNat<s.length+1 - ((j:Int)).toNat;omega)];show some (if((j+1:Nat):Int).toNat<=s.length then(acc++[J9 s a j])++KA c (s.drop ((j+1:Nat):Int).toNat)else _)=_;rw[show((j+1:Nat):Int).toNat=j+1 by omega,Dq (by omega),Dq (by omega),hsplit,Es hl,hc,Vh _ _ _ h3,Ei];rfl
    .have hne:(((s[j].toNat:Nat):Int)==((c.toNat:Nat):Int))=false:=Eg fun h=>hc (Ik.1 (by omega));rw[hne,cond_false,w64 (by omega) (by omega),show((j:Int)+1)=((j+1:Nat):Int)from rfl];rw[hk _ ⟨a,j+1,acc,rfl,Or.inl ⟨by omega,by omega,by rw[AeH s h1 hl,DR,DY];rintro (h | h);exact h3 h;exact hc h.symm⟩,by omega⟩ (by show s.length+1 - ((j+1:Nat):Int).toNat<s.length+1 - ((j:Int)).toNat;omega)];show some (if((a:Int)).toNat<=s.length then acc++KA c (s.drop ((a:Int)).toNat)else _)=_;rw[show((a:Int)).toNat=a by omega]
   .have hj:j=s.length:=by omega
    subst hj;rw[show(((s.length:Nat):Int)==((s.length:Nat):Int))=true from Ep _];simp only[EE,DV,J8,cond_true];rw[Dn (by omega),J8,Dn (by omega),J8,Dn (by omega),J8,w64 (by omega) (by omega),show((s.length:Int)+1)=((s.length+1:Nat):Int)from rfl];rw[hk _ ⟨s.length+1,s.length+1,_,rfl,Or.inr ⟨rfl,rfl⟩,by rw[Dx,List.length_singleton];omega⟩ (by show s.length+1 - ((s.length+1:Nat):Int).toNat<s.length+1 - ((s.length:Int)).toNat;omega)];show some (if((s.length+1:Nat):Int).toNat<=s.length then _ else acc++[J9 s a s.length])=_;rw[Dt (by omega),Dq (by omega),hsplit,EY,DW,YL _ _ h3]
  .subst h1;subst h2;rw[Du (by omega),cond_false,Dt (by omega)]
 .rfl
def Acl (c:UInt8):Bool:=VM c||decide (c.toNat=45)
def sH (s:Bs):Bool:= !(decide (s.length<1)||decide (63<s.length)||decide ((s.getD 0 0).toNat=45)||decide ((s.getD (s.length - 1) 0).toNat=45))&&s.all Acl
def AaI (N:Nat) (c:UInt8): ∃ a b,Uc N (c.toNat:Int)=some a/\TC N (c.toNat:Int)=some b/\(a||b)=VM c:=by refine Ab2 (P:=fun c=> ∃ a b,Uc N (c.toNat:Int)=some a/\TC N (c.toNat:Int)=some b/\(a||b)=VM c) ?_ c;intro n;refine⟨(Uc 0 ((UInt8.ofNat n.val).toNat:Int)).getD false,(TC 0 ((UInt8.ofNat n.val).toNat:Int)).getD false,?_⟩;show Uc 0 _=_/\TC 0 _=_/\_;revert n;decide +kernel
def Anj (N:Nat) (s:Bs) (hN:70<N) (hs:s.length<=1048576):oW N s=some (sH s):=by
 unfold oW sH;try simp only[clR]
 by_cases h1:s.length<1
 .have:s=[]:=F7.1 (by omega);subst this;rfl
 .rw[Du h1,Du (show ¬(s.length:Int)<1 by omega),Dn (show(0:Int)<(s.length:Int) by omega),w64 (by omega) (by omega),Dn (show(0:Int)<=(s.length:Int) - 1 by omega),Dn (show(s.length:Int) - 1<(s.length:Int) by omega),show((s.length:Int) - 1).toNat=s.length - 1 by omega];simp only[DV,J8,EI]
  have e1: ∀ c:UInt8,(((c.toNat:Nat):Int)==45)=decide (c.toNat=45):=fun c=>by
   by_cases h:c.toNat=45
   .rw[h];rfl
   .rw[Du h];exact Eg (by omega)
  rw[e1,e1,show decide ((s.length:Int)>63)=decide (63<s.length) by congr 1;apply propext;omega];generalize decide ((s.getD 0 0).toNat=45)=q1;generalize decide ((s.getD (s.length - 1) 0).toNat=45)=q2;by_cases h2:63<s.length
  .rw[Dn h2];rfl
  .rw[Du h2];cases q1<;>cases q2<;>first | rfl | skip
   rw[show(false||false||false)=false from rfl,cond_false,Dn (by omega),J8];have hml:((s.map fun b=>((b.toNat:Nat):Int)).length)=s.length:=D7 ..;refine Ey (OY (S:=Unit) (mk:=fun i _=>(i,s.map fun b=>((b.toNat:Nat):Int))) (out:=fun a=>a) s 0 (fun _ _=>True) (fun e (_:Unit)=>if Acl e=true then .inr ()else .inl (some false)) ?_ ?_ N () trivial (by omega)) ?_
   .intro i a hi _;obtain⟨x,y,hx,hy,hxy⟩:=AaI N (s.getD i 0);have hg:(s.map fun b=>((b.toNat:Nat):Int)).getD i 0=(((s.getD i 0).toNat:Nat):Int):=by rw[getD_lt _ i 0 (by omega),getD_lt s i 0 hi,GY]
    have hne:((((s.getD i 0).toNat:Nat):Int) != 45)= !decide ((s.getD i 0).toNat=45):=by rw[bne,e1]
    refine TN (p:=Acl) (fun h k=> ?_) (fun h=>⟨fun k=> ?_,trivial⟩)
    .dsimp only[U2];unfold Acl at h;rw[hml,show((i:Int)).toNat=i by omega,Dn (by omega),cond_true,Dn (by omega),J8,Dn (by omega),J8,hg,hx,Js,hy,hne];rw[<- hxy]at h;generalize decide ((s.getD i 0).toNat=45)=z at h;cases x<;>cases y<;>cases z<;>first | rfl | (exact absurd h (by decide))
    .dsimp only[U2];unfold Acl at h;rw[hml,show((i:Int)).toNat=i by omega,Dn (by omega),cond_true,Dn (by omega),J8,Dn (by omega),J8,hg,hx,Js,hy,hne,w64 (by omega) (by omega)];rw[<- hxy]at h;generalize decide ((s.getD i 0).toNat=45)=z at h;cases x<;>cases y<;>cases z<;>first | rfl | (exact absurd h (by decide))
   .intro a k _;dsimp only[U2];rw[hml,Du (by omega),cond_false]
   .rw[aF];cases s.all Acl<;>rfl
def RZ (s:Bs):Bool:= !decide (128<s.length)&&(KA 46 s).all sH
def Y3 (N:Nat) (s:Bs) (hN:200<N):QH N s=some (RZ s):=by
 unfold QH RZ;try simp -zeta only[Ap]
 by_cases h:128<s.length
 .rw[Dn h,Dn (show(s.length:Int)>128 by omega),cond_true];rfl
 .rw[Du h,Du (show ¬(s.length:Int)>128 by omega),cond_false];have hsp:strings_Split N s [46]=some (KA 46 s):=by unfold strings_Split;rw[Dn (by omega),Aq8];rfl
  rw[hsp,Js];have hlen:=dZ 46 s;generalize KA 46 s=p at hlen ⊢;refine Ey (OY (S:=Unit) (mk:=fun i _=>i) (out:=fun a=>a) p [] (fun _ _=>True) (fun e (_:Unit)=>if sH e=true then .inr ()else .inl (some false)) ?_ ?_ N () trivial (by omega)) ?_
  .intro i a hi _;have hm:=hlen.2.2 (p.getD i []) (by rw[getD_lt p i [] hi];exact EL hi);have hlab:=Anj N (p.getD i []) (by omega) (by omega);refine TN (p:=sH) (fun h k=> ?_) (fun h=>⟨fun k=> ?_,trivial⟩)
   .dsimp only;rw[show((i:Int)).toNat=i by omega,Dn (by omega),cond_true,Dn (by omega),J8,J8,hlab,Js,h];rfl
   .dsimp only;rw[show((i:Int)).toNat=i by omega,Dn (by omega),cond_true,Dn (by omega),J8,J8,hlab,Js,h,w64 (by omega) (by omega)];rfl
  .intro a k _;dsimp only;rw[Du (by omega),cond_false]
  .rw[aF];cases p.all sH<;>rfl
end Go.Proofs.YtakmjgnpefmjhaaGreatDoor.Pl
namespace Go.Proofs.YtakmjgnpefmjhaaGreatDoor.Vm
open IntKind (i64 u8 u32 u64)
open Go
def AbV {a b:Int} {q:Decidable (a<b)} (h:a<b): @decide (a<b) q=true:= @Dn _ q h
def oQ {a b:Int} {q:Decidable (a<b)} (h:b<=a): @decide (a<b) q=false:= @Du _ q (by omega)
def iZ {a b:Int} {q:Decidable (a<=b)} (h:a<=b): @decide (a<=b) q=true:= @Dn _ q h
def Ayw {a b:Int} {q:Decidable (a<=b)} (h:b<a): @decide (a<=b) q=false:= @Du _ q (by omega)
def Ajl {a b:Int} {q:Decidable (a>b)} (h:b<a): @decide (a>b) q=true:= @Dn _ q h
def AbT {a b:Int} {q:Decidable (a>b)} (h:a<=b): @decide (a>b) q=false:= @Du _ q (by omega)
def A0S {a b:Int} {q:Decidable (a>=b)} (h:b<=a): @decide (a>=b) q=true:= @Dn _ q h
def A0R {a b:Int} {q:Decidable (a>=b)} (h:a<b): @decide (a>=b) q=false:= @Du _ q (by omega)
def AtG {a b:Nat} {q:Decidable (a<b)} (h:a<b): @decide (a<b) q=true:= @Dn _ q h
def Aoo {a b:Nat} {q:Decidable (a<b)} (h:b<=a): @decide (a<b) q=false:= @Du _ q (by omega)
def Qd {a b:Nat} {q:Decidable (a<=b)} (h:a<=b): @decide (a<=b) q=true:= @Dn _ q h
def AjX {a b:Nat} {q:Decidable (a<=b)} (h:b<a): @decide (a<=b) q=false:= @Du _ q (by omega)
def Y0 {a b:Int} (h:a=b):(a==b)=true:=by subst h;exact Ep _
def VN {a b:Int} (h:a≠b):(a==b)=false:=Eg h
def aQ {a b:Int} (h:a≠b):(a != b)=true:=by unfold bne;rw[VN h];rfl
def aP {a b:Int} (h:a=b):(a != b)=false:=by unfold bne;rw[Y0 h];rfl
def toNat_add (a b:Nat):((a:Int)+(b:Int)).toNat=a+b:=by omega
def toNat_sub (a b:Nat):((a:Int) - (b:Int)).toNat=a - b:=by omega
def Au2 (a:Nat):((a:Int)+1).toNat=a+1:=by omega
def AkD (a:Nat):((a:Int) - 1).toNat=a - 1:=by omega
def Ko (a:Nat):((a:Int)+1)=((a+1:Nat):Int):=rfl
def Axt {α :Type} (a: α):(some a).isSome=true:=rfl
def getD_mem {α :Type} {l:List α} {i:Nat} (d: α) (h:i<l.length):l.getD i d∈l:=by rw[getD_lt l i d h];exact EL h
def SK {R S ρ :Type} (x:R ⊕ S) (ret:R->Option ρ) (k:S->Option ρ):Option ρ :=match x with
 | .inl r=>ret r
 | .inr s=>k s
def AyK {R S ρ :Type} (r:R) (ret:R->Option ρ) (k:S->Option ρ):SK (.inl r) ret k=ret r:=rfl
def AkX {R S ρ :Type} (s:S) (ret:R->Option ρ) (k:S->Option ρ):SK (.inr s) ret k=k s:=rfl
def Rn {R S ρ :Type} (b:Bool) (x y:R ⊕ S) (ret:R->Option ρ) (k:S->Option ρ):SK (bif b then x else y) ret k=bif b then SK x ret k else SK y ret k:=by cases b<;>rfl
def Avb {R S ρ :Type} (b:Prop) [Decidable b] (x y:R ⊕ S) (ret:R->Option ρ) (k:S->Option ρ):SK (if b then x else y) ret k=if b then SK x ret k else SK y ret k:=by split<;>rfl
def Ajk {R S ρ :Type} (x:R ⊕ S) (f:R-> ρ) (g:S-> ρ):SK x (fun r=>some (f r)) (fun s=>some (g s))=some (x.elim f g):=by cases x<;>rfl
def P7 {E R S:Type} (step:E->S->R ⊕ S):List E->S->R ⊕ S
 | [],s=>.inr s
 | e::r,s=>match step e s with
  | .inl x=>.inl x
  | .inr s'=>P7 step r s'
def AvG {E R S:Type} (step:E->S->R ⊕ S) (s:S):P7 step [] s= .inr s:=rfl
def Nv {E R S:Type} (step:E->S->R ⊕ S) (e:E) (l:List E) (s:S):P7 step (e::l) s=(step e s).elim Sum.inl (fun s'=>P7 step l s'):=by simp only[P7];cases step e s<;>rfl
def ZW {X Y S E R ρ :Type} {B:X->(X->Option ρ)->(Y->Option ρ)->Option ρ} {kx:Y->Option ρ} (mk:Nat->S->X) (l:List E) (d:E) (I:Nat->S->Prop) (step:E->S->R ⊕ S) (ret:R->Option ρ) (fin:S->Option ρ)
 (h: ∀(i:Nat) (s:S),i<l.length->I i s-> ∀ k,B (mk i s) k kx=SK (step (l.getD i d) s) ret fun s'=>k (mk (i+1) s'))
 (hI: ∀(i:Nat) (s s':S),i<l.length->I i s->step (l.getD i d) s= .inr s'->I (i+1) s')
 (hend: ∀(s:S) (k:X->Option ρ),I l.length s->B (mk l.length s) k kx=fin s) (N:Nat) (s:S) (h0:I 0 s) (hN:l.length<N):J6 B N (mk 0 s) kx=SK (P7 step l s) ret fin:=by
 have key: ∀(n i:Nat) (s:S),I i s->i<=l.length->l.length - i<n->J6 B n (mk i s) kx=SK (P7 step (l.drop i) s) ret fin:=by
  intro n
  induction n with
  | zero=>intro i s _ _ h;omega
  | succ n ih =>
   intro i s hi hil hn;rw[OA];by_cases hl:i<l.length
   .rw[h i s hl hi,Es hl];have hs:=hI i s;rw[show l.getD i d=l[i]from getD_lt l i d hl]at *
    rw[Nv];cases hst:step l[i] s with
    | inl x=>rfl
    | inr s'=>exact ih (i+1) _ (hs _ hl hi hst) (by omega) (by omega)
   .have:i=l.length:=by omega
    subst this;rw[hend s _ hi,EY];rfl
 exact key N 0 s h0 (by omega) (by omega)
def Qq {X Y S E R ρ :Type} {B:X->(X->Option ρ)->(Y->Option ρ)->Option ρ} {kx:Y->Option ρ} (mk:Nat->S->X) (l:List E) (d:E) (step:E->S->R ⊕ S) (ret:R->Option ρ) (fin:S->Option ρ)
 (h: ∀(i:Nat) (s:S),i<l.length-> ∀ k,B (mk i s) k kx=SK (step (l.getD i d) s) ret fun s'=>k (mk (i+1) s'))
 (hend: ∀(s:S) (k:X->Option ρ),B (mk l.length s) k kx=fin s) (N:Nat) (s:S) (hN:l.length<N):J6 B N (mk 0 s) kx=SK (P7 step l s) ret fin :=
 ZW mk l d (fun _ _=>True) step ret fin (fun i s hi _=>h i s hi) (fun _ _ _ _ _ _=>trivial) (fun s k _=>hend s k) N s trivial hN
def Ayb {X Y S E R ρ :Type} {B:X->(X->Option ρ)->(Y->Option ρ)->Option ρ} {kx:Y->Option ρ} (mk:List E->S->X) (I:List E->S->Prop) (step:E->S->R ⊕ S) (ret:R->Option ρ) (fin:S->Option ρ)
 (h: ∀(e:E) (r:List E) (s:S),I (e::r) s-> ∀ k,B (mk (e::r) s) k kx=SK (step e s) ret fun s'=>k (mk r s'))
 (hI: ∀(e:E) (r:List E) (s s':S),I (e::r) s->step e s= .inr s'->I r s')
 (hend: ∀(s:S) (k:X->Option ρ),I [] s->B (mk [] s) k kx=fin s): ∀(N:Nat) (l:List E) (s:S),I l s->l.length<N->J6 B N (mk l s) kx=SK (P7 step l s) ret fin:=by
 intro N
 induction N with
 | zero=>intro l s _ h;omega
 | succ N ih =>
  intro l s hi hn;rw[OA];cases l with
  | nil=>rw[hend s _ hi];rfl
  | cons e r =>
   rw[h e r s hi,Nv];cases hst:step e s with
   | inl x=>rfl
   | inr s'=>exact ih r s' (hI e r s s' hi hst) (by simp at hn;omega)
def Aq5 {X Y E ρ :Type} {B:X->(X->Option ρ)->(Y->Option ρ)->Option ρ} {kx:Y->Option ρ} (mk:Nat->X) (out:Nat->Y) (l:List E) (d:E) (p:E->Bool)
 (h: ∀(i:Nat) (k:X->Option ρ),i<l.length->B (mk i) k kx=bif p (l.getD i d)then kx (out i)else k (mk (i+1)))
 (hend: ∀ k:X->Option ρ,B (mk l.length) k kx=kx (out l.length)) (N:Nat) (hN:l.length<N):J6 B N (mk 0) kx=kx (out (l.findIdx p)):=by
 have key: ∀(n i:Nat),i<=l.length->l.length - i<n->J6 B n (mk i) kx=kx (out (i+(l.drop i).findIdx p)):=by
  intro n
  induction n with
  | zero=>intro i _ h;omega
  | succ n ih =>
   intro i hi hn;rw[OA];by_cases hl:i<l.length
   .rw[h i _ hl,Es hl,G5,show l.getD i d=l[i]from getD_lt l i d hl];cases p l[i]with
    | true=>rfl
    | false =>rw[cond_false,cond_false,ih (i+1) (by omega) (by omega)];congr 2;omega
   .have:i=l.length:=by omega
    subst this;rw[hend,EY];rfl
 have:=key N 0 (DF _) (by omega);rwa [Ea,Gl]at this
def Api {E:Type} (p:E->Bool): ∀ l:List E,(∀ x∈l,p x=false)->l.findIdx p=l.length:=by
 intro l
 induction l with
 | nil=>intro _;rfl
 | cons x r ih =>intro h;rw[G5,h x Dw,ih (fun y hy=>h y (Dz _ hy))];rfl
def Atf {E:Type} (p:E->Bool): ∀(a:List E) (x:E) (r:List E),(∀ x∈a,p x=false)->p x=true->(a++x::r).findIdx p=a.length:=by
 intro a
 induction a with
 | nil=>intro x r _ h;rw[List.nil_append,G5,h];rfl
 | cons y a ih =>intro x r h hx;rw[List.cons_append,G5,h y Dw,ih x r (fun y hy=>h y (Dz _ hy)) hx];rfl
def Afm {E R:Type} (p:E->Bool) (r:R): ∀ l:List E,P7 (fun e (_:Unit)=>bif p e then .inr ()else .inl r) l ()=bif l.all p then .inr ()else .inl r:=by
 intro l
 induction l with
 | nil=>rfl
 | cons e t ih =>
  rw[Nv,List.all_cons];cases p e with
  | true=>exact ih
  | false=>rfl
def Am0 {E R:Type} (p:E->Bool) (r:R): ∀ l:List E,P7 (fun e (_:Unit)=>bif p e then .inl r else .inr ()) l ()=bif l.any p then .inl r else .inr ():=by
 intro l
 induction l with
 | nil=>rfl
 | cons e t ih =>
  rw[Nv,List.any_cons];cases p e with
  | true=>rfl
  | false=>exact ih
def Ari {E:Type} (f:E->Int): ∀ l:List E,P7 (fun e (_:Unit)=>bif f e != 0 then .inl (f e)else .inr ()) l ()=bif JV f l != 0 then .inl (JV f l)else .inr ():=by
 intro l
 induction l with
 | nil=>rfl
 | cons e t ih =>
  rw[Nv];unfold JV;by_cases h:f e=0
  .rw[h,show((0:Int) != 0)=false from rfl];exact ih
  .rw[Dq h,show(f e != 0)=true from EO.2 h];rfl
def Ai0 {n i:Nat} (h:i<n):(List.range n).getD i 0=i:=by rw[getD_lt _ _ _ (by rw[Ef];exact h),Ja]
section
variable {X Y E ρ :Type} {B:X->(X->Option ρ)->(Y->Option ρ)->Option ρ} {kx:Y->Option ρ}
def Ve (mk:Nat->X) (l:List E) (d:E) (f:E->Int) (ret:Int->Option ρ) (fin:Option ρ)
 (h: ∀ i,i<l.length-> ∀ k,B (mk i) k kx=bif f (l.getD i d) != 0 then ret (f (l.getD i d))else k (mk (i+1)))
 (hend: ∀ k,B (mk l.length) k kx=fin) (N:Nat) (hN:l.length<N):J6 B N (mk 0) kx=bif JV f l != 0 then ret (JV f l)else fin:=by
 refine Ey (Qq (S:=Unit) (R:=Int) (mk:=fun i _=>mk i) l d (fun e _=>bif f e != 0 then .inl (f e)else .inr ()) ret (fun _=>fin) ?_ (fun _ k=>hend k) N () hN) ?_
 .intro i _ hi k;rw[h i hi,Rn];rfl
 .rw[Ari,Rn];rfl
def XP (mk:Nat->X) (n:Nat) (f:Nat->Int) (ret:Int->Option ρ) (fin:Option ρ)
 (h: ∀ i,i<n-> ∀ k,B (mk i) k kx=bif f i != 0 then ret (f i)else k (mk (i+1)))
 (hend: ∀ k,B (mk n) k kx=fin) (N:Nat) (hN:n<N):J6 B N (mk 0) kx=bif JV f (List.range n) != 0 then ret (JV f (List.range n))else fin:=by
 refine Ve mk (List.range n) 0 f ret fin ?_ ?_ N (by rw[Ef];exact hN)
 .intro i hi k;rw[Ef]at hi;rw[Ai0 hi];exact h i hi k
 .intro k;rw[Ef];exact hend k
def Rz (mk:Nat->X) (l:List E) (d:E) (p:E->Bool) (x fin:Option ρ)
 (h: ∀ i,i<l.length-> ∀ k,B (mk i) k kx=bif p (l.getD i d)then x else k (mk (i+1)))
 (hend: ∀ k,B (mk l.length) k kx=fin) (N:Nat) (hN:l.length<N):J6 B N (mk 0) kx=bif l.any p then x else fin:=by
 refine Ey (Qq (S:=Unit) (R:=Unit) (mk:=fun i _=>mk i) l d (fun e _=>bif p e then .inl ()else .inr ()) (fun _=>x) (fun _=>fin) ?_ (fun _ k=>hend k) N () hN) ?_
 .intro i _ hi k;rw[h i hi,Rn];rfl
 .rw[Am0,Rn];rfl
end
def first_some (e:Int):(bif e != 0 then some e else some 0)=some e:=by
 by_cases h:e=0
 .subst h;rfl
 .rw[show(e != 0)=true from EO.2 h];rfl
def JD {α :Type} (b:Bool) (x y: α):(bif b then some x else some y)=some (bif b then x else y):=by cases b<;>rfl
def Ane {E:Type} (f:E->Int): ∀ a b:List E,JV f (a++b)=bif JV f a != 0 then JV f a else JV f b:=by
 intro a
 induction a with
 | nil=>intro b;rfl
 | cons x r ih =>
  intro b;show(if f x≠0 then f x else JV f (r++b))=bif (if f x≠0 then f x else JV f r) != 0 then(if f x≠0 then f x else JV f r)else JV f b;by_cases h:f x=0
  .rw[Dt (fun hn=>hn h),Dt (fun hn=>hn h)];exact ih b
  .rw[Dq h,Dq h,show(f x != 0)=true from EO.2 h];rfl
def Ua {E:Type} (f:E->Int) (x:E) (r:List E):JV f (x::r)=bif f x != 0 then f x else JV f r:=by
 show(if f x≠0 then f x else JV f r)=_;by_cases h:f x=0
 .rw[Dt (fun hn=>hn h),h];rfl
 .rw[Dq h,show(f x != 0)=true from EO.2 h];rfl
def AmO {α :Type} (l:List α) (d: α) {i j:Nat} (h:j<i):(l.take i).getD j d=l.getD j d:=by rw[Dp,F5,Dq h,<- Dp]
def Vd {α :Type} (l:List α) (i:Nat):J9 l 0 i=l.take i:=rfl
section
variable {X Y E A ρ :Type} {B:X->(X->Option ρ)->(Y->Option ρ)->Option ρ} {kx:Y->Option ρ}
def AjQ (er:E->Int) (g:E->A): ∀(l:List E) (acc:List A),P7 (fun e (acc:List A)=>bif er e != 0 then Sum.inl (er e)else Sum.inr (acc++[g e])) l acc=bif JV er l != 0 then .inl (JV er l)else .inr (acc++l.map g):=by
 intro l
 induction l with
 | nil=>intro acc;rw[Fq,DW];rfl
 | cons e r ih =>
  intro acc;rw[Nv,Ua];cases h:er e != 0 with
  | true=>rw[cond_true,cond_true,h];rfl
  | false =>rw[cond_false,cond_false];show P7 _ r (acc++[g e])=_;rw[ih,Ei];rfl
def PT (mk:Nat->List A->X) (l:List E) (d:E) (er:E->Int) (g:E->A) (ret:Int->Option ρ) (fin:List A->Option ρ)
 (h: ∀(i:Nat) (acc:List A),i<l.length->acc.length=i-> ∀ k,B (mk i acc) k kx=bif er (l.getD i d) != 0 then ret (er (l.getD i d))else k (mk (i+1) (acc++[g (l.getD i d)])))
 (hend: ∀(acc:List A) (k:X->Option ρ),acc.length=l.length->B (mk l.length acc) k kx=fin acc) (N:Nat) (hN:l.length<N):J6 B N (mk 0 []) kx=bif JV er l != 0 then ret (JV er l)else fin (l.map g):=by
 refine(ZW (S:=List A) (R:=Int) mk l d (fun i acc=>acc.length=i) (fun e acc=>bif er e != 0 then .inl (er e)else .inr (acc++[g e])) ret fin ?_ ?_ (fun acc k ha=>hend acc k ha) N [] rfl hN).trans ?_
 .intro i acc hi ha k;rw[h i acc hi ha,Rn];rfl
 .intro i acc acc' hi ha he;cases hb:er (l.getD i d) != 0 with
  | true=>rw[hb]at he;cases he
  | false =>rw[hb]at he;injection he with he;subst he;rw[Dx,ha];rfl
 .rw[AjQ,Rn,List.nil_append];rfl
def Apj: ∀ l:List E,JV (fun _=>(0:Int)) l=0:=by
 intro l
 induction l with
 | nil=>rfl
 | cons e r ih=>rw[Ua];exact ih
def Aik (mk:Nat->List A->X) (l:List E) (d:E) (g:E->A) (fin:List A->Option ρ)
 (h: ∀(i:Nat) (acc:List A),i<l.length->acc.length=i-> ∀ k,B (mk i acc) k kx=k (mk (i+1) (acc++[g (l.getD i d)])))
 (hend: ∀(acc:List A) (k:X->Option ρ),acc.length=l.length->B (mk l.length acc) k kx=fin acc) (N:Nat) (hN:l.length<N):J6 B N (mk 0 []) kx=fin (l.map g):=by
 refine(PT mk l d (fun _=>0) g (fun _=>none) fin (fun i acc hi ha k=>h i acc hi ha k) hend N hN).trans ?_;rw[Apj];rfl
def Amo (g:E->Bs) (l:List E) (d:E) {i:Nat} (h:i<l.length):((l.take i).map g).flatten++g (l.getD i d)=((l.take (i+1)).map g).flatten:=by rw[getD_lt l i d h,Fv,D9 h,FC,FH];simp
def AyV (g:E->Bs) (l:List E) (i:Nat):((l.take i).map g).flatten.length<=(l.map g).flatten.length:=by
 conv=>rhs;rw[<- FZ i l,FC,FH,Dx]
 omega
def AoM (mk:Nat->Bs->X) (l:List E) (d:E) (er:E->Int) (g:E->Bs) (ret:Int->Option ρ) (fin:Bs->Option ρ)
 (h: ∀(i:Nat) (t:Bs),i<l.length->t.length+(g (l.getD i d)).length<=(l.map g).flatten.length-> ∀ k,B (mk i t) k kx=bif er (l.getD i d) != 0 then ret (er (l.getD i d))else k (mk (i+1) (t++g (l.getD i d))))
 (hend: ∀(t:Bs) (k:X->Option ρ),B (mk l.length t) k kx=fin t) (N:Nat) (hN:l.length<N):J6 B N (mk 0 []) kx=bif JV er l != 0 then ret (JV er l)else fin (l.map g).flatten:=by
 refine(ZW (S:=Bs) (R:=Int) mk l d (fun i t=>t=((l.take i).map g).flatten) (fun e t=>bif er e != 0 then .inl (er e)else .inr (t++g e)) ret fin ?_ ?_ (fun t k _=>hend t k) N [] rfl hN).trans ?_
 .intro i t hi ht k;rw[h i t hi ?_,Rn]
  .rfl
  .rw[ht,<- Dx,Amo g l d hi];exact AyV g l (i+1)
 .intro i t t' hi ht he;cases hb:er (l.getD i d) != 0 with
  | true=>rw[hb]at he;cases he
  | false =>rw[hb]at he;injection he with he;rw[<- he,ht,Amo g l d hi]
 .have: ∀(l:List E) (t:Bs),P7 (fun e (t:Bs)=>bif er e != 0 then Sum.inl (er e)else Sum.inr (t++g e)) l t=bif JV er l != 0 then .inl (JV er l)else .inr (t++(l.map g).flatten):=by
   intro l
   induction l with
   | nil=>intro t;simp [AvG,JV]
   | cons e r ih =>
    intro t;rw[Nv,Ua];cases h:er e != 0 with
    | true=>rw[cond_true,cond_true,h];rfl
    | false=>rw[cond_false,cond_false,Ej,List.flatten_cons,<- Ei,<- ih];rfl
  rw[this,Rn,List.nil_append];rfl
def fP (mk:Nat->Bs->X) (l:List E) (d:E) (g:E->Bs) (fin:Bs->Option ρ)
 (h: ∀(i:Nat) (t:Bs),i<l.length->t.length+(g (l.getD i d)).length<=(l.map g).flatten.length-> ∀ k,B (mk i t) k kx=k (mk (i+1) (t++g (l.getD i d))))
 (hend: ∀(t:Bs) (k:X->Option ρ),B (mk l.length t) k kx=fin t) (N:Nat) (hN:l.length<N):J6 B N (mk 0 []) kx=fin (l.map g).flatten:=by
 refine(AoM mk l d (fun _=>0) g (fun _=>none) fin (fun i t hi ht k=>h i t hi ht k) hend N hN).trans ?_;rw[Apj];rfl
def ZU {f:E->Int}: ∀ {l:List E},JV f l=0-> ∀ e∈l,f e=0:=by
 intro l
 induction l with
 | nil=>intro _ e he;cases he
 | cons x r ih =>
  intro h e he;rw[Ua]at h;cases hx:f x != 0 with
  | true=>rw[hx]at h;rw[show f x=0 from h]at hx;cases hx
  | false =>
   rw[hx]at h;rcases D8.1 he with rfl | he
   .simpa using hx
   .exact ih h e he
def NM {g:E->Bs} {M:Nat}: ∀ {l:List E},(∀ e∈l,(g e).length<=M)->(l.map g).flatten.length<=M*l.length:=by
 intro l
 induction l with
 | nil=>intro _;simp
 | cons e r ih =>intro h;have h1:=h e Dw;have h2:=ih fun e he=>h e (Dz _ he);rw[Ej,List.flatten_cons,Dx,List.length_cons,Nat.mul_succ];omega
end
def Ay6 (x y:Bool):(!x|| !y&&x||y)=true:=by cases x<;>cases y<;>rfl
def Aot (x y:Bool):(x|| !y&& !x||y)=true:=by cases x<;>cases y<;>rfl
def Ku {α :Type} {c:Bool} {a x y: α} (h:c=false->x=y):(bif c then a else x)=bif c then a else y:=by
 cases c with
 | true=>rfl
 | false=>exact h rfl
set_option linter.defProp false in
def J4:=And.intro @Al2 (And.intro @Pz (And.intro @J8 (And.intro @Js (And.intro @cond_true.{1} (And.intro @cond_false.{1} (And.intro @AbV (And.intro @oQ (And.intro @iZ (And.intro @Ayw (And.intro @Ajl (And.intro @AbT (And.intro @A0S (And.intro @A0R (And.intro @AtG (And.intro @Aoo (And.intro @Qd (And.intro @AjX (And.intro @Y0 (And.intro @VN (And.intro @aQ (And.intro @aP (And.intro @w64 (And.intro @Int.toNat_natCast (And.intro @toNat_add (And.intro @toNat_sub (And.intro @Au2 (And.intro @AkD (And.intro @DV (And.intro @EE (And.intro @EI (And.intro @Fh (And.intro @ET (And.intro @Hu (And.intro @FN (And.intro @Hq (And.intro @Ec (And.intro @Ee (And.intro @IZ (And.intro @Jj (And.intro @Ie (And.intro @Bool.cond_self.{1} (And.intro @IG (And.intro @I9 (And.intro @IA (And.intro @Iz (And.intro @FP (And.intro @G9 (And.intro @AyK (And.intro @AkX (And.intro @Rn (And.intro @Avb (And.intro @U2.eq_1 (And.intro @U3.eq_1 (And.intro @U4.eq_1 (And.intro @U5.eq_1 (And.intro @U6.eq_1 (And.intro @U7.eq_1 (And.intro @U8.eq_1 (And.intro @U9.eq_1 (@U10.eq_1))))))))))))))))))))))))))))))))))))))))))))))))))))))))))))
end Go.Proofs.YtakmjgnpefmjhaaGreatDoor.Vm
namespace Go.Proofs.YtakmjgnpefmjhaaGreatDoor.Pl
open IntKind (i64 u8 u32 u64)
open Go Vm
def AwH (c:UInt8) (n:Nat) (hn:n<256):(((c.toNat:Nat):Int)==(n:Int))=(c==UInt8.ofNat n):=by
 by_cases h:c=UInt8.ofNat n
 .subst h;rw[Ep,Gs,show n % 2 ^ 8=n from F6 hn];exact Ep _
 .rw[Eg h];refine Eg fun h2=>h ?_;apply Ik.1;rw[Gs,show n % 2 ^ 8=n from F6 hn];omega
def AzR (c:UInt8) (n:Nat) (hn:n<256):(((c.toNat:Nat):Int) != (n:Int))= !(c==UInt8.ofNat n):=by unfold bne;rw[AwH c n hn]
def beq46 (c:UInt8):(((c.toNat:Nat):Int)==46)=(c==46):=AwH c 46 (by omega)
def Ayr (c:UInt8):(((c.toNat:Nat):Int)==45)=(c==45):=AwH c 45 (by omega)
def A0O (c:UInt8):(((c.toNat:Nat):Int) != 45)= !(c==45):=AzR c 45 (by omega)
def A0P (c:UInt8):(((c.toNat:Nat):Int) != 64)= !(c==64):=AzR c 64 (by omega)
def AsN (c:UInt8):decide (c.toNat=45)=(c==45):=by
 rw[<- Ayr];by_cases h:c.toNat=45
 .rw[h];rfl
 .rw[Du h];exact(Eg (by omega)).symm
def UO (N:Nat) (s:Bs) (hN:1048578<N):Oh N s=some (RZ s):=by
 unfold Oh RZ;try simp only[clR]
 by_cases h1:128<s.length
 .rw[Ajl (by omega),cond_true,AtG h1];rfl
 .rw[AbT (by omega),cond_false,Aoo (by omega)];have hsp:Rx N s 46=some (KA 46 s):=Ao6 N s 46 (by omega) (by omega);rw[hsp,Js];have hlen:=dZ 46 s;generalize KA 46 s=p at hlen ⊢;refine Ey (Qq (S:=Unit) (R:=Bool) (mk:=fun i _=>(i:Int)) p [] (fun l _=>bif sH l then .inr ()else .inl false) some (fun _=>some true) ?_ ?_ N () (by omega)) ?_
  .intro i _ hi k;have hm:=hlen.2.2 _ (getD_mem [] hi);dsimp only;rw[show((i:Int)).toNat=i by omega];generalize p.getD i []=l at hm ⊢;unfold sH;rw[AsN,AsN];by_cases h2:l.length<1
   .simp (disch:=omega) only[J4]
   .by_cases h3:63<l.length
    .simp (disch:=omega) only[J4]
    .simp (disch:=omega) only[J4,Ayr,Ko];cases l.getD 0 0==45<;>cases l.getD (l.length - 1) 0==45<;>first | rfl | skip
     refine Ey (Qq (S:=Unit) (R:=Bool) (mk:=fun i _=>(i:Int)) l 0 (fun c _=>bif Acl c then .inr ()else .inl false) some (fun _=>k ((i+1:Nat):Int)) ?_ ?_ N () (by omega)) ?_
     .intro j _ hj k;simp (disch:=omega) only[J4,Ab3,A0O,Ko];unfold Acl;rw[AsN];cases VM (l.getD j 0)<;>cases l.getD j 0==45<;>rfl
     .intro _ k;simp (disch:=omega) only[J4]
     .rw[Afm];cases l.all Acl<;>rfl
  .intro _ k;simp (disch:=omega) only[J4]
  .rw[Afm];cases p.all sH<;>rfl
end Go.Proofs.YtakmjgnpefmjhaaGreatDoor.Pl
