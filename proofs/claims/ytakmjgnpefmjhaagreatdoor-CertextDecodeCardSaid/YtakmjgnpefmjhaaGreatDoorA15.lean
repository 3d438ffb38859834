import Derived.Test.YtakmjgnpefmjhaaGreatDoorA14
set_option linter.all false
namespace Go.Proofs.YtakmjgnpefmjhaaGreatDoor.Pl
open IntKind (i64 u8 u32 u64)
open Go Vm
def contains_one (c:UInt8) (s:Bs):Lib.contains s [c]=s.contains c:=by
 unfold Lib.contains;rcases kG c s with h | ⟨a,r,rfl,ha⟩
 .rw[index_none c s h];have:s.contains c=false:=by simpa using h
  rw[this];rfl
 .rw[Aie c a r ha];have:(a++c::r).contains c=true:=by simp
  rw[this];exact Dn (by omega)
def Acz (s:Bs):Bool:=bif Lib.hasPrefix s [42,46]then decide (s.length<=128)&&RZ (s.drop 2)&&(s.drop 2).contains 46 else RZ s
def A0H {s p:Bs} (h:Lib.hasPrefix s p=true):Lib.trimPrefix s p=s.drop p.length:=by unfold Lib.trimPrefix;rw[Dq h]
def A0G {s p:Bs} (h:Lib.hasPrefix s p=false):Lib.trimPrefix s p=s:=by unfold Lib.trimPrefix;rw[Dt (by rw[h];decide)]
def Aj5 (N:Nat) (s:Bs) (hN:1048578<N):Xo N s=some (Acz s):=by
 unfold Xo Acz strings_CutPrefix;try simp only[clR]
 rw[Js];cases hp:Lib.hasPrefix s [42,46]with
 | false=>rw[A0G hp,Y3 N _ (by omega)];rfl
 | true =>
  rw[A0H hp,show s.drop ([42,46]:Bs).length=s.drop 2 from rfl];simp (disch:=omega) only[J4,Y3,Axt,Option.getD_some];by_cases h:s.length<=128
  .unfold strings_Contains;rw[Dn (show(s.drop 2).length<4294967281 by rw[ED];omega),cond_true,contains_one,Qd h,iZ (by omega)];rfl
  .rw[AjX (by omega),Ayw (by omega)];simp [chk]
def AwY (r:Bs):RZ (42::46::r)=false:=by unfold RZ;rw[show(42::46::r:Bs)=[42]++46::r from rfl,Vh _ _ _ (by decide),List.all_cons,show sH [42]=false by decide];simp
def AyP (r:Bs):RZ (46::r)=false:=by unfold RZ;rw[show(46::r:Bs)=[]++46::r from rfl,Vh _ _ _ (by decide),List.all_cons,show sH []=false by decide];simp
def Ald:RZ []=false:=by decide
def Awp (s:Bs):decide (2<=(KA 46 s).length)=s.contains 46:=by
 rcases kG 46 s with h | ⟨a,r,rfl,ha⟩
 .rw[YL _ _ h];have:s.contains 46=false:=by simpa using h
  rw[this];rfl
 .rw[Vh _ _ _ ha];have:(a++46::r).contains 46=true:=by simp
  rw[this];have:=(dZ 46 r).2.1;exact Dn (by rw[List.length_cons];omega)
def Az6 (s:Bs):(∃ r,s=42::46::r)\/(Lib.hasPrefix s [42,46]=false/\(J9 s 0 2==[42,46])=false):=by
 match s with
 | []=>right;exact⟨rfl,rfl⟩
 | [a]=>right;exact⟨by simp [Lib.hasPrefix,List.isPrefixOf],by simp [J9]⟩
 | a::b::r =>
  by_cases h:a=42/\b=46
  .left;exact⟨r,by rw[h.1,h.2]⟩
  .right;refine⟨?_,?_⟩
   .cases hq:Lib.hasPrefix (a::b::r) [42,46]with
    | false=>rfl
    | true =>exfalso;simp [Lib.hasPrefix,List.isPrefixOf]at hq;exact h ⟨hq.1.symm,hq.2.symm⟩
   .refine Eg fun hq=>h ?_;simp [J9]at hq;exact hq
def Ai9 (N:Nat) (s:Bs) (hN:1048578<N) (hs:s.length<=1048576):VZ N s=some (Acz s):=by
 unfold VZ Acz;try simp only[clR]
 have hsp:Rx N s 46=some (KA 46 s):=Ao6 N s 46 (by omega) (by omega);rw[UO N s hN,Js,UO N _ hN,hsp];simp only[Option.isSome_some,Option.getD_some,DV,J8];rcases Az6 s with ⟨r,rfl⟩ | ⟨h1,h2⟩
 .rw[AwY,show Lib.hasPrefix (42::46::r) [42,46]=true by simp [Lib.hasPrefix,List.isPrefixOf],cond_true,show(42::46::r:Bs).drop 2=r from rfl];rw[show J9 (42::46::r:Bs) 2 (42::46::r:Bs).length=r by unfold J9;rw[Ez];rfl,show(J9 (42::46::r:Bs) 0 2==[42,46])=true by simp [J9]];rw[show decide (((KA 46 (42::46::r)).length:Int)>2)=r.contains 46 by rw[<- Awp,show(42::46::r:Bs)=[42]++46::r from rfl,Vh _ _ _ (by decide),List.length_cons];congr 1;apply propext;omega];rw[show decide (((42::46::r:Bs).length:Int)<=128)=decide ((42::46::r:Bs).length<=128) by congr 1;apply propext;omega];rw[iZ (show(2:Int)<=((42::46::r:Bs).length:Int) by simp;omega)];cases r with
  | nil=>rw[Ald];simp [chk]
  | cons x r =>rw[Ajl (show((42::46::x::r:Bs).length:Int)>2 by simp;omega)];cases decide ((42::46::x::r:Bs).length<=128)<;>cases RZ (x::r)<;>cases (x::r).contains 46<;>rfl
 .rw[h1,cond_false,h2]
  have:decide (2<=((s.length:Nat):Int))=true\/decide (((s.length:Nat):Int)>2)=false:=by
   by_cases h:2<=s.length
   .left;exact Dn (by omega)
   .right;exact Du (by omega)
  rcases this with h | h<;>rw[h]<;>cases RZ s<;>cases decide (((s.length:Nat):Int)<=128)<;>simp [chk]
def Ab8 (s:Bs):Bool:=(s==[])||RZ s
def Ap0 (N:Nat) (s:Bs) (hN:1048578<N):kK N s=some (Ab8 s):=by
 unfold kK Ab8;try simp only[clR]
 simp (disch:=omega) only[J4,Y3,Option.isSome_some,Option.getD_some]
def AnG (N:Nat) (s:Bs) (hN:1048578<N):dI N s=some (Ab8 s):=by
 unfold dI Ab8;try simp only[clR]
 simp (disch:=omega) only[J4,UO,Option.isSome_some,Option.getD_some]
def AcO:Bs:=[33,35,36,37,38,39,42,43,45,47,61,63,94,95,96,123,124,125,126,46]
def Ud (c:UInt8):Bool:=VM c||AcO.any (· ==c)
def dots:Bs->Bool
 | x::y::r=>(x==46&&y==46)||dots (y::r)
 | _=>false
def Anb: ∀ s:Bs,Lib.contains s [46,46]=dots s:=by
 have key: ∀ s:Bs,(Lib.index s [46,46]= -1/\dots s=false)\/(0<=Lib.index s [46,46]/\dots s=true):=by
  intro s
  induction s with
  | nil=>left;exact⟨rfl,rfl⟩
  | cons x r ih =>
   cases r with
   | nil =>left;refine⟨?_,rfl⟩;show(if List.isPrefixOf [46,46] [x]=true then(0:Int)else _)= -1;rw[Dt (by simp [List.isPrefixOf])];rfl
   | cons y r =>
    have e:Lib.index (x::y::r) [46,46]=if List.isPrefixOf [46,46] (x::y::r)=true then(0:Int)else if Lib.index (y::r) [46,46]== -1 then -1 else Lib.index (y::r) [46,46]+1:=rfl;have d:dots (x::y::r)=((x==46&&y==46)||dots (y::r)):=rfl;have p:List.isPrefixOf [46,46] (x::y::r)=(x==46&&y==46):=by simp only[List.isPrefixOf,Hu];rw[IE (a:=(46:UInt8)),IE (a:=(46:UInt8))]
    rw[e,d,p];cases (x==46&&y==46)with
    | true=>right;exact⟨by rw[Dq rfl];exact Ip 0,rfl⟩
    | false =>
     rcases ih with ⟨h1,h2⟩ | ⟨h1,h2⟩
     .left;rw[h1,h2];exact⟨rfl,rfl⟩
     .right;rw[h2];refine⟨?_,rfl⟩;rw[Dt (by decide),Dt (by simp;omega)];omega
 intro s;unfold Lib.contains;rcases key s with ⟨h1,h2⟩ | ⟨h1,h2⟩
 .rw[h1,h2];rfl
 .rw[h2];exact Dn h1
def Afk (s:Bs):Bool:= !(decide (s.length<1)||decide (64<s.length)||(s.getD 0 0==46)||(s.getD (s.length - 1) 0==46)||dots s)&&s.all Ud
def Ann (c:UInt8): ∀ l:Bs,decide (Lib.indexByte l c>=0)=l.any (· ==c):=by
 intro l
 induction l with
 | nil=>rfl
 | cons b r ih =>
  show decide ((if(b==c)=true then(0:Int)else if Lib.indexByte r c== -1 then -1 else Lib.indexByte r c+1)>=0)=(b==c||r.any (· ==c));cases b==c with
  | true=>rfl
  | false =>
   rw[Dt (by decide),EI,<- ih];have:=Lib.indexByte_ge r c;by_cases h:Lib.indexByte r c= -1
   .rw[h];rfl
   .rw[Dt (by simpa using h)];congr 1;apply propext;omega
def A0L (c:UInt8):c.toNat.toUInt8=c:=H5
def Anl (N:Nat) (s:Bs) (hN:1048578<N) (hs:s.length<=1048576):bJ N s=some (Afk s):=by
 unfold bJ Afk;try simp only[clR]
 unfold strings_Contains;rw[Dn (show s.length<4294967281 by omega),cond_true,Anb];by_cases h1:s.length<1
 .have:s=[]:=F7.1 (by omega);subst this;rfl
 .by_cases h2:64<s.length
  .simp (disch:=omega) only[J4,Option.isSome_some]
  .simp (disch:=omega) only[J4,Option.isSome_some,Option.getD_some,beq46];cases s.getD 0 0==46<;>cases s.getD (s.length - 1) 0==46<;>cases dots s<;>first | rfl | skip
   simp only[EI,Fh,cond_false,Ee,ET];have hml:((s.map fun b=>((b.toNat:Nat):Int)).length)=s.length:=D7 ..;refine Ey (Qq (S:=Unit) (R:=Bool) (mk:=fun i _=>((i:Int),s.map fun b=>((b.toNat:Nat):Int))) s 0 (fun c _=>bif Ud c then .inr ()else .inl false) some (fun _=>some true) ?_ ?_ N () (by omega)) ?_
   .intro i _ hi k;obtain⟨x,y,hx,hy,hxy⟩:=AaI N (s.getD i 0);have hg:(s.map fun b=>((b.toNat:Nat):Int)).getD i 0=(((s.getD i 0).toNat:Nat):Int):=by rw[getD_lt _ i 0 (by omega),getD_lt s i 0 hi,GY]
    simp (disch:=omega) only[J4,hml,hg,hx,hy,Ko,strings_IndexByte,A0L,Ann];unfold Ud;rw[<- hxy];show _=bif _||AcO.any (· ==s.getD i 0)then _ else _;rw[show([33,35,36,37,38,39,42,43,45,47,61,63,94,95,96,123,124,125,126,46]:Bs)=AcO from rfl];cases x<;>cases y<;>cases AcO.any (· ==s.getD i 0)<;>rfl
   .intro _ k;simp (disch:=omega) only[J4,hml]
   .rw[Afm];cases s.all Ud<;>rfl
def AoS {c:UInt8} {s:Bs} (h:c∉s):Lib.cut s [c]=(s,[],false):=by unfold Lib.cut;rw[index_none c s h];rfl
def AoR {c:UInt8} {a r:Bs} (h:c∉a):Lib.cut (a++c::r) [c]=(a,r,true):=by
 unfold Lib.cut;rw[Aie c a r h,Dq (by omega)];have e1:((a.length:Int)).toNat=a.length:=by omega
 rw[e1,Ho,<- FM,G6];rfl
def P8 (s:Bs):Bool:=(Lib.cut s [64]).2.2&&decide (s.length<=128)&&Afk (Lib.cut s [64]).1&&RZ (Lib.cut s [64]).2.1
def Afc (N:Nat) (s:Bs) (hN:1048578<N) (hs:s.length<=1048576):Xn N s=some (P8 s):=by
 unfold Xn P8 strings_Cut;try simp only[clR]
 rw[Dn (show s.length<4294967281 by omega),cond_true,Js]
 have hl:(Lib.cut s [64]).1.length<=s.length:=by
  rcases kG 64 s with h | ⟨a,r,rfl,ha⟩
  .rw[AoS h];exact DK _
  .rw[AoR ha];simp
 rw[Anl N _ hN (by omega),Y3 N _ (by omega)];rw[show decide (((s.length:Nat):Int)<=128)=decide (s.length<=128) by congr 1;apply propext;omega];rfl
def AuG (r:Bs): ∀ a:Bs,(List.range a.length).any (fun i=> !Ud ((a++64::r).getD i 0)||((a++64::r).getD i 0==46&&(a++64::r).getD (i+1) 0==46))=(!(a.all Ud)||dots a):=by
 intro a
 induction a with
 | nil=>rfl
 | cons x t ih =>
  rw[List.length_cons,Io,List.any_cons,List.any_map,List.all_cons];have e:(List.range t.length).any ((fun i=> !Ud ((x::t++64::r).getD i 0)||((x::t++64::r).getD i 0==46&&(x::t++64::r).getD (i+1) 0==46))∘Nat.succ)=(List.range t.length).any (fun i=> !Ud ((t++64::r).getD i 0)||((t++64::r).getD i 0==46&&(t++64::r).getD (i+1) 0==46)):=rfl;rw[e,ih];show((!Ud x||(x==46&&(t++64::r).getD 0 0==46))||_)=_;cases t with
  | nil =>show((!Ud x||(x==46&&(64:UInt8)==46))||(!true||false))=(!(Ud x&&true)||false);cases Ud x<;>cases x==46<;>rfl
  | cons y t =>show((!Ud x||(x==46&&y==46))||(!((y::t).all Ud)||dots (y::t)))=(!(Ud x&&(y::t).all Ud)||((x==46&&y==46)||dots (y::t)));cases Ud x<;>cases (y::t).all Ud<;>cases x==46&&y==46<;>cases dots (y::t)<;>rfl
def Aca (n i:Nat) (h:i<n):(List.range n).getD i 0=i:=by rw[getD_lt _ _ _ (by rw[Ef];exact h),Ja]
def Aze {a r:Bs} (ha:64∉a):P8 (a++64::r)=(decide ((a++64::r).length<=128)&&Afk a&&RZ r):=by unfold P8;rw[AoR ha,ET]
def AlQ (N:Nat) (s:Bs) (hN:1048578<N) (hs:s.length<=1048576):jL N s=some (bif P8 s then((Lib.cut s [64]).1,(Lib.cut s [64]).2.1,true)else([],[],false)):=by
 unfold jL;try simp only[clR]
 by_cases h0:128<s.length
 .rw[Ajl (by omega),cond_true];unfold P8;rw[AjX h0];simp
 rw[AbT (by omega),cond_false];refine(Aq5 (mk:=fun i=>(i:Int)) (out:=fun i=>(i:Int)) s 0 (fun c=>c==64) ?_ ?_ N (by omega)).trans ?_
 .intro i k hi;simp (disch:=omega) only[J4,A0P,Ko];cases s.getD i 0==64<;>rfl
 .intro k;simp (disch:=omega) only[J4]
 .rcases kG 64 s with h | ⟨a,r,rfl,ha⟩
  .rw[Api _ _ (fun x hx=>Eg (b:=(64:UInt8)) (show x≠64 from fun hx2=>h (by rw[<- hx2];exact hx)))];unfold P8;rw[AoS h];simp (disch:=omega) only[J4]
  .rw[Atf _ a 64 r (fun x hx=>Eg (b:=(64:UInt8)) (show x≠64 from fun hx2=>ha (by rw[<- hx2];exact hx))) rfl,Aze ha,AoR ha];have hlen:(a++64::r).length=a.length+r.length+1:=by simp;omega
   rw[Qd (by omega),ET];unfold Afk;by_cases h1:a.length<1
   .simp (disch:=omega) only[J4]
   by_cases h2:64<a.length
   .simp (disch:=omega) only[J4]
   have hcut:J9 (a++64::r) (a.length+1) (a++64::r).length=r:=by unfold J9;rw[Ez,<- FM,G6];rfl
   have hcut0:J9 (a++64::r) 0 a.length=a:=by unfold J9;rw[Gl,Ho]
   have hg: ∀ i,i<a.length->(a++64::r).getD i 0=a.getD i 0:=fun i hi=>by rw[Dp,Ew hi,<- Dp]
   have hg0:=hg 0 (by omega);have hg1:=hg (a.length - 1) (by omega);rw[w64 (by omega) (by omega),w64 (by omega) (by omega)];rw[Ko,Int.toNat_natCast,AkD,hcut,hg0,hg1,UO N r hN,beq46,beq46];rw[oQ (show(1:Int)<=a.length by omega),AbT (show(a.length:Int)<=64 by omega),VN (show(a.length:Int)≠((a++64::r).length:Nat) by omega),iZ (show(0:Int)<=((a.length+1:Nat):Int) by omega),iZ (show((a.length+1:Nat):Int)<=((a++64::r).length:Nat) by omega),AbV (show(0:Int)<((a++64::r).length:Nat) by omega),iZ (show(0:Int)<=(a.length:Int) - 1 by omega),AbV (show(a.length:Int) - 1<((a++64::r).length:Nat) by omega),Aoo (show 1<=a.length by omega),Aoo (show a.length<=64 by omega)];simp only[DV,J8,EI,Option.getD_some,Option.isSome_some];cases RZ r<;>cases a.getD 0 0==46<;>cases a.getD (a.length - 1) 0==46<;>first | (simp;done) | skip
   simp only[Ec,EI,Ee,cond_false,ET,Hu];refine Ey (Qq (S:=Unit) (R:=Bs×Bs×Bool) (mk:=fun i _=>(i:Int)) (List.range a.length) 0 (fun i _=>bif (!Ud ((a++64::r).getD i 0)||((a++64::r).getD i 0==46&&(a++64::r).getD (i+1) 0==46))then .inl ([],[],false)else .inr ()) some (fun _=>some (a,r,true)) ?_ ?_ N () (by rw[Ef];omega)) ?_
   .intro i _ hi k;rw[Ef]at hi;rw[Aca _ _ hi];have hAm:=Aov N AcO ((a++64::r).getD i 0) (by show 20<N;omega) (by decide);rw[show AcO=([33,35,36,37,38,39,42,43,45,47,61,63,94,95,96,123,124,125,126,46]:Bs)from rfl]at hAm;simp (disch:=omega) only[J4,Ab3,Ko,hAm,beq46,Option.isSome_some,Option.getD_some];unfold Ud;rw[show AcO=([33,35,36,37,38,39,42,43,45,47,61,63,94,95,96,123,124,125,126,46]:Bs)from rfl];generalize List.any _ _=u;generalize ((a++64::r).getD (i+1) 0==46)=v;cases VM ((a++64::r).getD i 0)<;>cases u<;>cases (a++64::r).getD i 0==46<;>cases v<;>rfl
   .intro _ k;rw[Ef];simp (disch:=omega) only[J4,hcut,hcut0,Ko]
   .rw[Am0,AuG];cases a.all Ud<;>cases dots a<;>rfl
def Adm (N:Nat) (s:Bs) (hN:1048578<N) (hs:s.length<=1048576):Ya N s=some (P8 s):=by unfold Ya;rw[AlQ N s hN hs,Js];cases P8 s<;>rfl
def mbP (s:Bs):Bool:=decide (s.length<=128)&&(P8 s||RZ (Lib.trimPrefix s [46]))
def Avj (n:Nat):decide ((n:Int)<=128)=decide (n<=128):=by congr 1;apply propext;omega
def Aic (N:Nat) (s:Bs) (hN:1048578<N) (hs:s.length<=1048576):VU N s=some (mbP s):=by
 unfold VU mbP strings_TrimPrefix;try simp only[clR]
 rw[Afc N s hN hs];simp only[Option.isSome_some,Option.getD_some,DV,J8];rw[Y3 N _ (by omega),Avj];simp only[Option.isSome_some,Option.getD_some,DV,J8];cases P8 s<;>cases decide (s.length<=128)<;>rfl
def AjU {s:Bs} (h:128<s.length):P8 s=false:=by unfold P8;rw[AjX h];simp
def Amn {s:Bs} (h:128<s.length):RZ s=false:=by unfold RZ;rw[AtG h];rfl
def Ahf (N:Nat) (s:Bs) (hN:1048578<N) (hs:s.length<=1048576):UX N s=some (mbP s):=by
 unfold UX mbP;try simp only[clR]
 rw[Adm N s hN hs,Js,UO N s hN,UO N _ hN,Avj];simp only[Option.isSome_some,Option.getD_some,DV,J8];by_cases h0:s.length<=128
 .rw[Qd h0];cases s with
  | nil=>rw[Ald];cases P8 []<;>rfl
  | cons x r =>
   have hcut:J9 (x::r) 1 (x::r).length=r:=by unfold J9;rw[Ez];rfl
   rw[hcut,show(x::r:Bs).getD 0 0=x from rfl,beq46];rw[AbV (show(0:Int)<((x::r:Bs).length:Nat) by rw[List.length_cons];omega),iZ (show(1:Int)<=((x::r:Bs).length:Nat) by rw[List.length_cons];omega)];by_cases hx:x=46
   .subst hx;rw[AyP,show Lib.trimPrefix (46::r) [46]=r by simp [Lib.trimPrefix,Lib.hasPrefix,List.isPrefixOf]];cases r with
    | nil=>rw[Ald];cases P8 [46]<;>rfl
    | cons y r =>rw[Ajl (show((46::y::r:Bs).length:Int)>1 by simp;omega)];cases P8 (46::y::r)<;>cases RZ (y::r)<;>rfl
   .rw[Eg hx,show Lib.trimPrefix (x::r) [46]=x::r by
     have: ¬(46:UInt8)=x:=fun h=>hx h.symm;simp [Lib.trimPrefix,Lib.hasPrefix,List.isPrefixOf,this]]
    cases P8 (x::r)<;>cases RZ (x::r)<;>cases decide (((x::r:Bs).length:Int)>1)<;>rfl
 .rw[AjX (by omega),AjU (by omega),Amn (by omega)];simp (disch:=omega) only[J4]
def Ab4 (s:Bs):Bool:=decide (s.length=4)||decide (s.length=16)
def Afg (a b:Nat):(((a:Nat):Int)==((b:Nat):Int))=decide (a=b):=by
 by_cases h:a=b
 .rw[h,Dn rfl];exact Ep _
 .rw[Du h];exact Eg (by omega)
def Aj4 (N:Nat) (s:Bs):Xm N s=some (Ab4 s):=by
 unfold Xm Ab4;try simp only[clR]
 rw[show(((s.length:Nat):Int)==4)=decide (s.length=4)from Afg _ 4,show(((s.length:Nat):Int)==16)=decide (s.length=16)from Afg _ 16]
def Ai8 (N:Nat) (s:Bs):VY N s=some (Ab4 s):=by
 unfold VY Ab4;try simp only[clR]
 rw[show(((s.length:Nat):Int)==4)=decide (s.length=4)from Afg _ 4,show(((s.length:Nat):Int)==16)=decide (s.length=16)from Afg _ 16]
def Ab9 (c:UInt8) (k:Nat):Bool:=c.toNat / 2 ^ k % 2==1
def AwM (c:UInt8) (k:Nat) (hk:k<8):(JY .and .u8 (((c.toNat:Nat):Int).fdiv (2 ^ min k 8)) 1==1)=Ab9 c k:=by
 have: ∀ k:Fin 8,∀ n:Fin 256,(JY .and .u8 ((((UInt8.ofNat n.val).toNat:Nat):Int).fdiv (2 ^ min k.val 8)) 1==1)=Ab9 (UInt8.ofNat n.val) k.val:=by decide +kernel
 exact Ab2 (P:=fun c=>(JY .and .u8 (((c.toNat:Nat):Int).fdiv (2 ^ min k 8)) 1==1)=Ab9 c k) (this ⟨k,hk⟩) c
def AyH (c:UInt8) (k:Nat) (hk:k<8):((((c.toNat:Nat):Int).fdiv (2 ^ min k 8)).tmod 2==1)=Ab9 c k:=by
 have: ∀ k:Fin 8,∀ n:Fin 256,(((((UInt8.ofNat n.val).toNat:Nat):Int).fdiv (2 ^ min k.val 8)).tmod 2==1)=Ab9 (UInt8.ofNat n.val) k.val:=by decide +kernel
 exact Ab2 (P:=fun c=>((((c.toNat:Nat):Int).fdiv (2 ^ min k 8)).tmod 2==1)=Ab9 c k) (this ⟨k,hk⟩) c
def Ay7 (i:Nat):((i:Int)).tdiv 8=((i / 8:Nat):Int):=rfl
def Ay8 (i:Nat):((i:Int)).tmod 8=((i % 8:Nat):Int):=rfl
def Aux (i:Nat):((i:Int)).tdiv 2=((i / 2:Nat):Int):=rfl
def AkC (i:Nat):((7:Int) - (i:Int)).toNat=7 - i:=by omega
def Yp (s:Bs) (i:Nat):Bool:=Ab9 (s.getD (i / 8) 0) (7 - i % 8)
def Ahz (N:Nat) (s:Bs) (i:Nat) (h:i<8*s.length) (hs:s.length<=1048576):iF N s (i:Int)=some (Yp s i):=by
 unfold iF Yp;try simp -zeta only[Ap]
 have:i / 8<s.length:=by omega
 have:i % 8<8:=by omega
 simp (disch:=omega) only[J4,Ay7,Ay8,wu64,AkC];rw[AwM _ _ (by omega)]
def rngS (s:Bs) (i:Nat) (z:Bool):Bool ⊕ Bool:=bif (Yp (s.drop (s.length / 2)) i&&z)||(!Yp (s.drop (s.length / 2)) i&&Yp s i)then .inl false else .inr (z|| !Yp (s.drop (s.length / 2)) i)
def AcM (s:Bs):Bool:=bif decide (s.length=8)||decide (s.length=32)then(P7 (rngS s) (List.range (8*(s.length / 2))) false).elim id (fun _=>true)else false
def Ang (N:Nat) (s:Bs) (hN:1048578<N):bI N s=some (AcM s):=by
 unfold bI;try simp only[clR]
 unfold AcM;rw[show(((s.length:Nat):Int) != 8)= !decide (s.length=8)from congrArg _ (Afg _ 8),show(((s.length:Nat):Int) != 32)= !decide (s.length=32)from congrArg _ (Afg _ 32)];by_cases h0:s.length=8\/s.length=32
 .have hb:(decide (s.length=8)||decide (s.length=32))=true:=by simpa using h0
  rw[hb,cond_true,show(!decide (s.length=8)&& !decide (s.length=32))=false by rw[<- Iq,hb];rfl,cond_false];have hd:s.length / 2<=s.length:=by omega
  have hh:jC N s=some (s.take (s.length / 2),s.drop (s.length / 2)):=by
   unfold jC;try simp -zeta only[Ap]
   simp (disch:=omega) only[J4,Aux,wu64];unfold J9;rw[Ez];rfl
  rw[hh,Js];have hl:(s.drop (s.length / 2)).length=s.length / 2:=by rw[ED];omega
  have hl1:(s.take (s.length / 2)).length=s.length / 2:=by rw[DL];omega
  refine Ey (Qq (S:=Bool) (R:=Bool) (mk:=fun i z=>(z,(i:Int))) (List.range (8*(s.length / 2))) 0 (rngS s) some (fun _=>some true) ?_ ?_ N false (by rw[Ef];omega)) ?_
  .intro i z hi k;rw[Ef]at hi;rw[Aca _ _ hi];have hb1:=Ahz N (s.drop (s.length / 2)) i (by omega) (by omega);have hb2:=Ahz N (s.take (s.length / 2)) i (by omega) (by omega);have hb3:Yp (s.take (s.length / 2)) i=Yp s i:=by unfold Yp;congr 1;rw[Dp,F5,Dq (by omega),<- Dp]
   rw[hb3]at hb2;unfold rngS;simp (disch:=omega) only[J4,hl,hb1,hb2,Option.isSome_some,Option.getD_some,Ko];cases Yp (s.drop (s.length / 2)) i<;>cases Yp s i<;>cases z<;>rfl
  .intro z k;rw[Ef];simp (disch:=omega) only[J4,hl]
  .exact Ajk _ id (fun _=>true)
 .have hb:(decide (s.length=8)||decide (s.length=32))=false:=by simpa using h0
  rw[hb,show(!decide (s.length=8)&& !decide (s.length=32))=true by rw[<- Iq,hb];rfl];rfl
def AlN (N:Nat) (s:Bs) (hN:1048578<N):YF N s=some (AcM s):=by
 unfold YF;try simp only[clR]
 unfold AcM;rw[show(((s.length:Nat):Int) != 8)= !decide (s.length=8)from congrArg _ (Afg _ 8),show(((s.length:Nat):Int) != 32)= !decide (s.length=32)from congrArg _ (Afg _ 32)];by_cases h0:s.length=8\/s.length=32
 .have hb:(decide (s.length=8)||decide (s.length=32))=true:=by simpa using h0
  rw[hb,cond_true,show(!decide (s.length=8)&& !decide (s.length=32))=false by rw[<- Iq,hb];rfl,cond_false];refine Ey (Qq (S:=Bool) (R:=Bool) (mk:=fun i z=>(z,(i:Int))) (List.range (8*(s.length / 2))) 0 (rngS s) some (fun _=>some true) ?_ ?_ N false (by rw[Ef];omega)) ?_
  .intro i z hi k;rw[Ef]at hi;rw[Aca _ _ hi];have hbd:Ab9 (s.getD (s.length / 2+i / 8) 0) (7 - i % 8)=Yp (s.drop (s.length / 2)) i:=by unfold Yp;congr 1;rw[Dp,Dp,Ff]
   unfold rngS;have:i % 8<8:=by omega
   simp (disch:=omega) only[J4,Aux,Ay7,Ay8,AkC,AyH,hbd,Ko];rw[show Ab9 (s.getD (i / 8) 0) (7 - i % 8)=Yp s i from rfl];cases Yp (s.drop (s.length / 2)) i<;>cases Yp s i<;>cases z<;>rfl
  .intro z k;rw[Ef];simp (disch:=omega) only[J4,Aux]
  .exact Ajk _ id (fun _=>true)
 .have hb:(decide (s.length=8)||decide (s.length=32))=false:=by simpa using h0
  rw[hb,show(!decide (s.length=8)&& !decide (s.length=32))=true by rw[<- Iq,hb];rfl];rfl
def AtF (n:List (List Att)): ∃ v,pI n=some v:=by
 unfold pI;by_cases h:8<n.length
 .rw[Dq h];exact⟨_,rfl⟩
 .rw[Dt h]
  have: ∀(l:List (List Att)) (s:Unit),∃ v,UY bW (fun _=>some 0) l s=some v:=by
   intro l
   induction l with
   | nil=>intro s;exact⟨0,rfl⟩
   | cons e r ih =>
    intro s;unfold UY bW;by_cases h:X7 e=0
    .rw[Dq h];exact ih _
    .rw[Dt h];exact⟨_,rfl⟩
  exact this n ()
def QC (n:List (List Att)):Int:=(pI n).getD 0
def ArX (n:List (List Att)):pI n=some (QC n):=by obtain⟨v,h⟩:=AtF n;unfold QC;rw[h];rfl
def lS (N:Nat) (n:List (List Att)) (hN:1048578<N) (hn:OC n):Qc N n=some (QC n):=(AkZ N n hN hn).trans (ArX n)
def iV (N:Nat) (n:List (List Att)) (hN:1048578<N) (hn:OC n):Nz N n=some (QC n):=(Aow N n hN hn).trans (ArX n)
abbrev Gn:Type:=Int×Bs×List (List Att)
def We (g:Gn):Prop:=g.2.1.length<=1048576/\OC g.2.2
def AhY (k:Int) (s:Bs) (c:Bool):Bool:=bif k==1 then(bif c then mbP s else P8 s)else bif k==2 then(bif c then Ab8 s else Acz s)else bif k==7 then(bif c then AcM s else Ab4 s)else false
def LZ (g:Gn) (c:Bool):Int:=bif g.1==4 then(bif g.2.1==[]then QC g.2.2 else 14)else bif AhY g.1 g.2.1 c&&g.2.2.isEmpty then 0 else 14
def iH {α :Type} (l:List α):decide (((l.length:Nat):Int)>0)= !l.isEmpty:=by
 cases l with
 | nil=>rfl
 | cons a r=>rw[Dn (by rw[List.length_cons];omega)];rfl
def Ano (N:Nat) (k:Int) (s:Bs) (c:Bool) (hN:1048578<N) (hs:s.length<=1048576):PU N k s c=some (bif k==0 then(bif c then mbP s else P8 s)else bif k==1 then(bif c then Ab8 s else Acz s)else bif k==3 then(bif c then AcM s else Ab4 s)else false):=by
 unfold PU;try simp only[clR]
 simp only[Aic N s hN hs,Afc N s hN hs,Ap0 N s hN,Aj5 N s hN,Ang N s hN,Aj4 N s,Option.isSome_some,Option.getD_some,DV,J8];cases k==0<;>cases k==1<;>cases k==3<;>cases c<;>simp [chk]
def XR (N:Nat) (g:Gn) (c:Bool) (hN:1048578<N) (hg:We g):Ro N g c=some (LZ g c):=by
 obtain⟨k,s,n⟩:=g;unfold Ro;try simp only[clR]
 have hg:s.length<=1048576/\OC n:=hg;have hd:=lS N n hN hg.2;have hk: ∀ k:Int,PU N k s c=_:=fun k=>Ano N k s c hN hg.1;have h1:=hg.1;unfold LZ AhY Aia;by_cases e1:k=1
 .subst e1;simp (disch:=omega) only[J4,hk,Option.isSome_some,Option.getD_some,iH];cases n.isEmpty<;>cases c<;>cases mbP s<;>cases P8 s<;>rfl
 .by_cases e2:k=2
  .subst e2;simp (disch:=omega) only[J4,hk,Option.isSome_some,Option.getD_some,iH];cases n.isEmpty<;>cases c<;>cases Ab8 s<;>cases Acz s<;>rfl
  .by_cases e4:k=4
   .subst e4;simp (disch:=omega) only[J4,hd,Option.isSome_some,Option.getD_some,iH];cases s==[]<;>rfl
   .by_cases e7:k=7
    .subst e7;simp (disch:=omega) only[J4,hk,Option.isSome_some,Option.getD_some,iH];cases n.isEmpty<;>cases c<;>cases AcM s<;>cases Ab4 s<;>rfl
    .simp (disch:=omega) only[J4]
def Tn (N:Nat) (g:Gn) (c:Bool) (hN:1048578<N) (hg:We g):MX N g c=some (LZ g c):=by
 obtain⟨k,s,n⟩:=g;unfold MX;try simp only[clR]
 have hg:s.length<=1048576/\OC n:=hg;have hd:=iV N n hN hg.2;unfold LZ AhY;dsimp only[U4,Ld];simp only[Ahf N s hN hg.1,Adm N s hN hg.1,AnG N s hN,Ai9 N s hN hg.1,AlN N s hN,Ai8 N s,Option.isSome_some,Option.getD_some,DV,J8,hd,Js,iH];by_cases e1:k=1
 .subst e1;cases n.isEmpty<;>cases c<;>cases mbP s<;>cases P8 s<;>rfl
 .by_cases e2:k=2
  .subst e2;cases n.isEmpty<;>cases c<;>cases Ab8 s<;>cases Acz s<;>rfl
  .by_cases e4:k=4
   .subst e4;cases s==[]<;>rfl
   .by_cases e7:k=7
    .subst e7;cases n.isEmpty<;>cases c<;>cases AcM s<;>cases Ab4 s<;>rfl
    .simp (disch:=omega) only[J4]
def len0 {α :Type} (l:List α):(((l.length:Nat):Int)==0)=l.isEmpty:=by
 cases l with
 | nil=>rfl
 | cons a r=>exact Eg (by rw[List.length_cons];omega)
theorem SX (n k:Nat):decide ((n:Int)>(k:Int))=decide (k<n):=by congr 1;apply propext;omega
def Me (l:List Gn):Prop:= ∀ g∈l,We g
def Qp (l:List Gn) (c:Bool):Int:=JV (fun g=>LZ g c) l
def ZE (N:Nat) (l:List Gn) (hN:1048578<N) (hl:l.length<=1048576) (hs:Me l):Qk N l=some (Qp l false):=by
 unfold Qk;try simp -zeta only[Ap]
 refine(Ve (mk:=fun i=>(i:Int)) l (0,[],[]) (fun g=>LZ g false) some (some 0) ?_ ?_ N (by omega)).trans (first_some _)
 .intro i hi k;have h:=XR N (l.getD i (0,[],[])) false hN (hs _ (getD_mem _ hi));simp (disch:=omega) only[J4,h,Ko]
 .intro k;simp (disch:=omega) only[J4]
def fG (N:Nat) (l:List Gn) (hN:1048578<N) (hs:Me l):SE N l=some (bif decide (16<l.length)then 2 else Qp l false):=by
 unfold SE;try simp -zeta only[Ap]
 rw[show decide (((l.length:Nat):Int)>16)=decide (16<l.length)from SX _ 16];by_cases h16:16<l.length
 .rw[Dn h16];rfl
 .rw[Du h16,cond_false,cond_false];refine(Ve (mk:=fun i=>(i:Int)) l (0,[],[]) (fun g=>LZ g false) some (some 0) ?_ ?_ N (by omega)).trans (first_some _)
  .intro i hi k;have h:=Tn N (l.getD i (0,[],[])) false hN (hs _ (getD_mem _ hi));simp (disch:=omega) only[J4,h,Ko]
  .intro k;simp (disch:=omega) only[J4]
abbrev Pt:Type:=List Gn×Int×Bool×List (List Att)
def NS (p:Pt):Prop:=Me p.1/\OC p.2.2.2/\ -9223372036854775808<=p.2.1/\p.2.1<=9223372036854775807
def ptI (p:Pt):Int :=
 bif (p.1.isEmpty&& !p.2.2.1)||(!p.2.2.2.isEmpty&& !p.2.2.1)then 7
 else bif JY .andNot .i64 p.2.1 510 != 0 then 1
 else bif decide (16<p.1.length)then 2
 else bif Qp p.1 false != 0 then Qp p.1 false
 else bif !p.2.2.1 then 0
 else bif p.2.2.2.isEmpty then 14 else QC p.2.2.2
def Aaj (N:Nat) (p:Pt) (hN:1048578<N) (hs:NS p):TA N p=some (ptI p):=by
 obtain⟨g,r,b,n⟩:=p;have hg:Me g:=hs.1;have hn:OC n:=hs.2.1;unfold TA ptI;try simp only[clR]
 simp only[Ld,U5,len0,iH];have e: ∀ x y:Bool,(bif x then(bif x then some (7:Int)else none)else none)=(bif x then some 7 else none):=fun x y=>by cases x<;>rfl
 rw[show decide (((g.length:Nat):Int)>16)=decide (16<g.length)from SX _ 16];cases g.isEmpty&& !b with
 | true=>rfl
 | false =>
  rw[cond_false,EI];cases (!n.isEmpty&& !b)with
  | true=>rfl
  | false =>
   rw[cond_false,cond_false];cases JY .andNot .i64 r 510 != 0 with
   | true=>rfl
   | false =>
    rw[cond_false,cond_false];by_cases h16:16<g.length
    .rw[Dn h16];rfl
    .rw[Du h16,cond_false,cond_false,ZE N g hN (by omega) hg,Js,lS N n hN hn,Js,JD,JD,JD]
def TU (N:Nat) (l:List Pt) (hN:1048578<N) (hs: ∀ p∈l,NS p):Lm N l=some (bif decide (4<l.length)then 2 else JV ptI l):=by
 unfold Lm;try simp -zeta only[Ap]
 rw[show decide (((l.length:Nat):Int)>4)=decide (4<l.length)from SX _ 4];by_cases h4:4<l.length
 .rw[Dn h4];rfl
 .rw[Du h4,cond_false,cond_false];refine(Ve (mk:=fun i=>(i:Int)) l ([],0,false,[]) ptI some (some 0) ?_ ?_ N (by omega)).trans (first_some _)
  .intro i hi k;have h:=Aaj N (l.getD i ([],0,false,[])) hN (hs _ (getD_mem _ hi));simp (disch:=omega) only[J4,h,Ko]
  .intro k;simp (disch:=omega) only[J4]
def Rj (N:Nat) (l:List Pt) (hN:1048578<N) (hs: ∀ p∈l,NS p):LK N l=some (bif decide (4<l.length)then 2 else JV ptI l):=by
 unfold LK;try simp only[clR]
 rw[show decide (((l.length:Nat):Int)>4)=decide (4<l.length)from SX _ 4];by_cases h4:4<l.length
 .rw[Dn h4];rfl
 .rw[Du h4,cond_false,cond_false];refine(Ve (mk:=fun i=>(i:Int)) l ([],0,false,[]) ptI some (some 0) ?_ ?_ N (by omega)).trans (first_some _)
  .intro i hi k;have hm:=hs _ (getD_mem ([],0,false,[]) hi);have h1:=fun(h:Me (l.getD i ([],0,false,[])).1)=>fG N _ hN h;have h1:=h1 hm.1;have h2:=iV N _ hN hm.2.1;simp (disch:=omega) only[J4,h1,h2,Ko,len0,iH];generalize l.getD i ([],0,false,[])=p;unfold ptI;cases p.1.isEmpty<;>cases p.2.2.1<;>cases p.2.2.2.isEmpty<;>cases JY .andNot .i64 p.2.1 510 != 0<;>cases decide (16<p.1.length)<;>cases h5:Qp p.1 false != 0<;>simp [h5,chk]
  .intro k;simp (disch:=omega) only[J4]
abbrev St2:Type:=List Gn×List Gn
def eH (s:St2):Int:=bif s.1.isEmpty&&s.2.isEmpty then 7 else bif decide (16<s.1.length)||decide (16<s.2.length)then 2 else JV (fun g=>LZ g true) (s.1++s.2)
def uT (N:Nat) (s:St2) (hN:1048578<N) (h1:Me s.1) (h2:Me s.2):Oq N s=some (eH s):=by
 obtain⟨a,b⟩:=s;unfold Oq eH;try simp only[clR]
 rw[len0,len0,show decide (((a.length:Nat):Int)>16)=decide (16<a.length)from SX _ 16,show decide (((b.length:Nat):Int)>16)=decide (16<b.length)from SX _ 16];cases a.isEmpty&&b.isEmpty with
 | true=>rfl
 | false =>
  rw[cond_false,cond_false];by_cases h:16<a.length\/16<b.length
  .have hb:(decide (16<a.length)||decide (16<b.length))=true:=by simpa using h
   rw[hb];rfl
  .have hb:(decide (16<a.length)||decide (16<b.length))=false:=by simpa using h
   rw[hb,cond_false,cond_false];refine(Ve (mk:=fun i=>((i:Int),[a,b])) [a,b] [] (fun l=>JV (fun g=>LZ g true) l) some (some 0) ?_ ?_ N (by show 2<N;omega)).trans ?_
   .intro i hi k;have hi:i<2:=hi
    have hm:Me ([a,b].getD i []):=by
     have:i=0\/i=1:=by omega
     rcases this with rfl | rfl
     .exact h1
     .exact h2
    have hml:([a,b].getD i []).length<=16:=by
     have:i=0\/i=1:=by omega
     rcases this with rfl | rfl
     .show a.length<=16;omega
     .show b.length<=16;omega
    have h22: [a,b].length=2:=rfl;simp (disch:=omega) only[J4,h22];refine(Ve (mk:=fun j=>((j:Int),[a,b])) ([a,b].getD i []) (0,[],[]) (fun g=>LZ g true) some (k ((i+1:Nat),[a,b])) ?_ ?_ N (by omega)).trans rfl
    .intro j hj k;have h:=XR N (([a,b].getD i []).getD j (0,[],[])) true hN (hm _ (getD_mem _ hj));simp (disch:=omega) only[J4,h,Ko]
    .intro k;simp (disch:=omega) only[J4];rfl
   .intro k;rfl
   .rw[first_some,Ane];rw[Ua,Ua]
    have e: ∀ x:Int,(bif x != 0 then x else JV (fun l=>JV (fun g=>LZ g true) l) ([]:List (List Gn)))=x:=fun x=>by
     by_cases hx:x=0
     .subst hx;rfl
     .rw[show(x != 0)=true from EO.2 hx];rfl
    rw[e]
def Zg (N:Nat) (s:St2) (hN:1048578<N) (h1:Me s.1) (h2:Me s.2):MM N s=some (eH s):=by
 obtain⟨a,b⟩:=s;unfold MM eH;try simp only[clR]
 rw[len0,len0,show decide (((a.length:Nat):Int)>16)=decide (16<a.length)from SX _ 16,show decide (((b.length:Nat):Int)>16)=decide (16<b.length)from SX _ 16];cases a.isEmpty&&b.isEmpty with
 | true=>rfl
 | false =>
  rw[cond_false,cond_false];by_cases h:16<a.length\/16<b.length
  .have hb:(decide (16<a.length)||decide (16<b.length))=true:=by simpa using h
   rw[hb];rfl
  .have hb:(decide (16<a.length)||decide (16<b.length))=false:=by simpa using h
   rw[hb,cond_false,cond_false];rw[Qd (by omega),Qd (by omega),J8,J8]
   have hm:Me (a++b):=fun g hg=>by
    rcases DR.1 hg with hg | hg
    .exact h1 g hg
    .exact h2 g hg
   have hml:(a++b).length<=32:=by rw[Dx];omega
   generalize a++b=l at hm hml ⊢;refine(Ve (mk:=fun j=>((j:Int),l)) l (0,[],[]) (fun g=>LZ g true) some (some 0) ?_ ?_ N (by omega)).trans (first_some _)
   .intro j hj k;have h:=Tn N (l.getD j (0,[],[])) true hN (hm _ (getD_mem _ hj));simp (disch:=omega) only[J4,h,Ko]
   .intro k;simp (disch:=omega) only[J4]
end Go.Proofs.YtakmjgnpefmjhaaGreatDoor.Pl
namespace Go.Proofs.YtakmjgnpefmjhaaGreatDoor.Sp
def beNat (l:List UInt8):Nat:=l.foldl (fun v b=>v*256+b.toNat) 0
def leastOf (k:Nat):Nat:=if k=1 then 128 else 2 ^ (8*(k - 1))
def As7 (l:List UInt8) (b:UInt8):beNat (l++[b])=beNat l*256+b.toNat:=by simp [beNat,Hz]
def AwF (l:List UInt8):beNat l<256 ^ l.length:=by
 have h: ∀(l:List UInt8) (v h:Nat),v<h->l.foldl (fun v b=>v*256+b.toNat) v<h*256 ^ l.length:=by
  intro l
  induction l with
  | nil=>intro v h hv;simpa using hv
  | cons b r ih =>intro v h hv;have hb:=b.toNat_lt;have:=ih (v*256+b.toNat) (h*256) (by omega);rw[List.foldl_cons,List.length_cons,Nat.pow_succ];rw[HY (256 ^ r.length) 256,<- Nat.mul_assoc];exact this
 have:=h l 0 1 (by omega);simpa [beNat]using this
def head (l:List UInt8):Int×Nat×Nat :=
 match l with
 | []=>(3,0,0)
 | t::r =>
  if t.toNat % 32=31 then(5,0,0)else
  match r with
  | []=>(3,0,0)
  | n::r =>
   if n.toNat<128 then(0,2,n.toNat)else
   if n.toNat=128\/131<n.toNat then(6,0,0)else
   if r.length<n.toNat - 128 then(3,0,0)else
   if beNat (r.take (n.toNat - 128))<leastOf (n.toNat - 128)\/131072<beNat (r.take (n.toNat - 128))then(6,0,0)else
   (0,2+(n.toNat - 128),beNat (r.take (n.toNat - 128)))
def rd (l:List UInt8):Int×Nat×Nat:=if(head l).1=0/\l.length - (head l).2.1<(head l).2.2 then(3,0,0)else head l
def err (l:List UInt8):Int:=(rd l).1
def tag (l:List UInt8):Nat:=(l.headD 0).toNat
def content (l:List UInt8):List UInt8:=(l.drop (rd l).2.1).take (rd l).2.2
def raw (l:List UInt8):List UInt8:=l.take ((rd l).2.1+(rd l).2.2)
def rest (l:List UInt8):List UInt8:=l.drop ((rd l).2.1+(rd l).2.2)
def AyZ (l:List UInt8) (h:(head l).1=0):2<=(head l).2.1/\(head l).2.1<=l.length/\(head l).2.1<=5/\(head l).2.2<=131072:=by
 unfold head at *
 split at h
 .simp at h
 .split at h
  .simp at h
  .split at h
   .simp at h
   .split at h
    .simp only[*,Ir,Gf,List.length_cons];omega
    .split at h
     .simp at h
     .split at h
      .simp at h
      .split at h
       .simp at h
       .simp only[*,Gf,List.length_cons];omega
def Ac3 (l:List UInt8) (h:err l=0):2<=(rd l).2.1/\(rd l).2.1+(rd l).2.2<=l.length/\(rd l).2.1<=5/\(rd l).2.2<=131072:=by
 unfold err rd at *
 by_cases hc:(head l).1=0/\l.length - (head l).2.1<(head l).2.2
 .rw[Dq hc]at h;simp at h
 .rw[Dt hc]at h ⊢;have:=AyZ l h;omega
def qH (l:List UInt8) (h:err l=0):(rest l).length<l.length:=by have:=Ac3 l h;unfold rest;rw[ED];omega
def TB (l:List UInt8) (h:err l=0):(content l).length<l.length:=by have:=Ac3 l h;unfold content;rw[DL,ED];omega
def Aa8 (l:List UInt8) (h:err l=0):(content l).length=(rd l).2.2:=by have:=Ac3 l h;unfold content;rw[DL,ED];omega
def Aks (l:List UInt8) (h:err l=0):(raw l).length=(rd l).2.1+(rd l).2.2:=by have:=Ac3 l h;unfold raw;rw[DL];omega
def S9 (l:List UInt8):Int:=if err l≠0 then err l else if rest l=[]then 0 else 4
def cons (t:Nat):Bool:=decide (t / 32 % 2=1)
def within:Nat->Nat->List UInt8->Int
 | 0,_,_=>0
 | f+1,d,l =>
  if l=[]then 0 else
  if err l≠0 then err l else
  if 16<=d then 8 else
  if(if cons (tag l)then within f (d+1) (content l)else 0)≠0 then(if cons (tag l)then within f (d+1) (content l)else 0)
  else within f d (rest l)
def inner (f d:Nat) (t:Nat) (c:List UInt8):Int:=if cons t then within f d c else 0
def Au7 (f d:Nat) (l:List UInt8) (h:l≠ []) (he:err l≠0):within (f+1) d l=err l:=by rw[within,Dt h,Dq he]
def ArB (f d:Nat) (l:List UInt8) (h:l≠ []) (he:err l=0) (hd:16<=d):within (f+1) d l=8:=by rw[within,Dt h,Dt (by simp [he]),Dq hd]
def Au6 (f d:Nat) (l:List UInt8) (h:l≠ []) (he:err l=0) (hd: ¬ 16<=d) (hi:inner f (d+1) (tag l) (content l)≠0):within (f+1) d l=inner f (d+1) (tag l) (content l):=by rw[within,Dt h,Dt (by simp [he]),Dt hd];unfold inner at hi ⊢;rw[Dq hi]
def ArC (f d:Nat) (l:List UInt8) (h:l≠ []) (he:err l=0) (hd: ¬ 16<=d) (hi:inner f (d+1) (tag l) (content l)=0):within (f+1) d l=within f d (rest l):=by rw[within,Dt h,Dt (by simp [he]),Dt hd];unfold inner at hi;rw[Dt (by simp [hi])]
def chk (l:List UInt8):Int:=if S9 l≠0 then S9 l else inner (l.length+1) 1 (tag l) (content l)
def sK (n:Nat):List UInt8 :=
 if n<128 then [UInt8.ofNat n]else if n<256 then [129,UInt8.ofNat n]else if n<65536 then [130,UInt8.ofNat (n / 256),UInt8.ofNat n]
 else [131,UInt8.ofNat (n / 65536),UInt8.ofNat (n / 256),UInt8.ofNat n]
def elem (t:Nat) (c:List UInt8):List UInt8:=UInt8.ofNat t::sK c.length++c
def wrap (t:Int) (c:List UInt8):List UInt8×Int :=
 if t<0\/255<t\/t % 32=31 then([],5)else if 131072<c.length then([],6)else(elem t.toNat c,0)
def AjM (n:Nat):(sK n).length<=4:=by unfold sK;split<;>(try split)<;>(try split)<;>simp
def Kw (t:Nat) (c:List UInt8):(elem t c).length<=c.length+5:=by have:=AjM c.length;unfold elem;simp;omega
end Go.Proofs.YtakmjgnpefmjhaaGreatDoor.Sp
