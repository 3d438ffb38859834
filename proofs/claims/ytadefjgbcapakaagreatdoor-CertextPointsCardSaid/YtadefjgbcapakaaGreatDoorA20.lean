import Derived.Test.YtadefjgbcapakaaGreatDoorA19
import Derived.Sort.Walk0
set_option linter.all false
namespace Go.Proofs.YtadefjgbcapakaaGreatDoor.Pl
open IntKind (i64)
open Go Vm
theorem Ad4 (N:Nat) (s:Bs) (c:UInt8) (hN:s.length+2<N) (hs:s.length<=1048576):FU N s (c.toNat:Int)=some (Bf c s):=by
  unfold FU
  try simp only[clR]
  refine Eq.trans (DI (I:=fun x:Int×Int×List Bs=> ∃(a j:Nat) (acc:List Bs),x=((a:Int),(j:Int),acc)/\((a<=j/\j<=s.length/\c∉Ar s a j)\/(a=s.length+1/\j=s.length+1))/\acc.length<=j) (μ :=fun x=>s.length+1 - x.2.1.toNat) (F:=fun x=>some (if x.1.toNat<=s.length then x.2.2++Bf c (s.drop x.1.toNat)else x.2.2)) ?_ N (0,0,[]) ⟨0,0,[],rfl,Or.inl ⟨Nat.le_refl _,Nat.zero_le _,by rw[Oj];exact List.not_mem_nil⟩,Nat.zero_le _⟩ (by show s.length+1 - 0<N;omega)) ?_
  ·rintro x ⟨a,j,acc,rfl,hi,hacc⟩ k hk
   dsimp only[U3]
   rw[show((a:Int)).toNat=a by omega,show((j:Int)).toNat=j by omega]
   rcases hi with ⟨h1,h2,h3⟩ | ⟨h1,h2⟩
   ·have hsplit:s.drop a=Ar s a j++s.drop j:=by
      unfold Ar
      conv=>lhs;rw[<- List.take_append_drop j s]
      rw[List.drop_append_of_le_length (by rw[List.length_take];omega)]
    rw[decide_eq_true (show(j:Int)<=(s.length:Int) by omega),cond_true,decide_eq_true (show(0:Int)<=(j:Int) by omega)]
    simp only[Bool.true_or,Ai]
    by_cases hl:j<s.length
    ·rw[decide_eq_true (show(j:Int)<(s.length:Int) by omega),getD_lt s j 0 hl]
     simp only[Bool.true_or,Ai]
     rw[show(((j:Nat):Int)==((s.length:Nat):Int))=false from beq_false_of_ne (by omega),Bool.false_or]
     by_cases hc:s[j]=c
     ·rw[hc,show(((c.toNat:Nat):Int)==((c.toNat:Nat):Int))=true from beq_self_eq_true _,cond_true,decide_eq_true (by omega),Ai,decide_eq_true (by omega),Ai,decide_eq_true (by omega),Ai,w64 (by omega) (by omega),show((j:Int)+1)=((j+1:Nat):Int)from rfl]
      rw[hk _ ⟨j+1,j+1,_,rfl,Or.inl ⟨Nat.le_refl _,by omega,by rw[Oj];exact List.not_mem_nil⟩,by rw[List.length_append,List.length_singleton];omega⟩ (by show s.length+1 - ((j+1:Nat):Int).toNat<s.length+1 - ((j:Int)).toNat;omega)]
      show some (if((j+1:Nat):Int).toNat<=s.length then(acc++[Ar s a j])++Bf c (s.drop ((j+1:Nat):Int).toNat)else _)=_
      rw[show((j+1:Nat):Int).toNat=j+1 by omega,if_pos (by omega),if_pos (by omega),hsplit,List.drop_eq_getElem_cons hl,hc,I8 _ _ _ h3,List.append_assoc]
      rfl
     ·have hne:(((s[j].toNat:Nat):Int)==((c.toNat:Nat):Int))=false:=beq_false_of_ne fun h=>hc (UInt8.toNat_inj.1 (by omega))
      rw[hne,cond_false,w64 (by omega) (by omega),show((j:Int)+1)=((j+1:Nat):Int)from rfl]
      rw[hk _ ⟨a,j+1,acc,rfl,Or.inl ⟨by omega,by omega,by rw[iC s h1 hl,List.mem_append,List.mem_singleton];rintro (h | h);exact h3 h;exact hc h.symm⟩,by omega⟩ (by show s.length+1 - ((j+1:Nat):Int).toNat<s.length+1 - ((j:Int)).toNat;omega)]
      show some (if((a:Int)).toNat<=s.length then acc++Bf c (s.drop ((a:Int)).toNat)else _)=_
      rw[show((a:Int)).toNat=a by omega]
    ·have hj:j=s.length:=by omega
     subst hj
     rw[show(((s.length:Nat):Int)==((s.length:Nat):Int))=true from beq_self_eq_true _]
     simp only[Bool.or_true,Bool.true_or,Ai,cond_true]
     rw[decide_eq_true (by omega),Ai,decide_eq_true (by omega),Ai,decide_eq_true (by omega),Ai,w64 (by omega) (by omega),show((s.length:Int)+1)=((s.length+1:Nat):Int)from rfl]
     rw[hk _ ⟨s.length+1,s.length+1,_,rfl,Or.inr ⟨rfl,rfl⟩,by rw[List.length_append,List.length_singleton];omega⟩ (by show s.length+1 - ((s.length+1:Nat):Int).toNat<s.length+1 - ((s.length:Int)).toNat;omega)]
     show some (if((s.length+1:Nat):Int).toNat<=s.length then _ else acc++[Ar s a s.length])=_
     rw[if_neg (by omega),if_pos (by omega),hsplit,List.drop_length,List.append_nil,Na _ _ h3]
   ·subst h1;subst h2
    rw[decide_eq_false (by omega),cond_false,if_neg (by omega)]
  ·rfl
def Zy (c:UInt8):Bool:=IZ c||decide (c.toNat=45)
def UT (s:Bs):Bool:= !(decide (s.length<1)||decide (63<s.length)||decide ((s.getD 0 0).toNat=45)||decide ((s.getD (s.length - 1) 0).toNat=45))&&s.all Zy
theorem Yi (N:Nat) (c:UInt8): ∃ a b,Ht N (c.toNat:Int)=some a/\GN N (c.toNat:Int)=some b/\(a||b)=IZ c:=by
  refine YJ (P:=fun c=> ∃ a b,Ht N (c.toNat:Int)=some a/\GN N (c.toNat:Int)=some b/\(a||b)=IZ c) ?_ c
  intro n
  refine⟨(Ht 0 ((UInt8.ofNat n.val).toNat:Int)).getD false,(GN 0 ((UInt8.ofNat n.val).toNat:Int)).getD false,?_⟩
  show Ht 0 _=_/\GN 0 _=_/\_
  revert n
  decide +kernel
theorem Acm (N:Nat) (s:Bs) (hN:70<N) (hs:s.length<=1048576):TW N s=some (UT s):=by
  unfold TW UT
  try simp only[clR]
  by_cases h1:s.length<1
  ·have:s=[]:=List.length_eq_zero_iff.1 (by omega)
   subst this;rfl
  ·rw[decide_eq_false h1,decide_eq_false (show ¬(s.length:Int)<1 by omega),decide_eq_true (show(0:Int)<(s.length:Int) by omega),w64 (by omega) (by omega),decide_eq_true (show(0:Int)<=(s.length:Int) - 1 by omega),decide_eq_true (show(s.length:Int) - 1<(s.length:Int) by omega),show((s.length:Int) - 1).toNat=s.length - 1 by omega]
   simp only[Bool.true_or,Ai,Bool.false_or]
   have e1: ∀ c:UInt8,(((c.toNat:Nat):Int)==45)=decide (c.toNat=45):=fun c=>by
     by_cases h:c.toNat=45
     ·rw[h];rfl
     ·rw[decide_eq_false h];exact beq_false_of_ne (by omega)
   rw[e1,e1,show decide ((s.length:Int)>63)=decide (63<s.length) by congr 1;apply propext;omega]
   generalize decide ((s.getD 0 0).toNat=45)=q1
   generalize decide ((s.getD (s.length - 1) 0).toNat=45)=q2
   by_cases h2:63<s.length
   ·rw[decide_eq_true h2];rfl
   ·rw[decide_eq_false h2]
    cases q1<;>cases q2<;>first | rfl | skip
    rw[show(false||false||false)=false from rfl,cond_false,decide_eq_true (by omega),Ai]
    have hml:((s.map fun b=>((b.toNat:Nat):Int)).length)=s.length:=List.length_map ..
    refine Eq.trans (DY (S:=Unit) (mk:=fun i _=>(i,s.map fun b=>((b.toNat:Nat):Int))) (out:=fun a=>a) s 0 (fun _ _=>True) (fun e (_:Unit)=>if Zy e=true then .inr ()else .inl (some false)) ?_ ?_ N () trivial (by omega)) ?_
    ·intro i a hi _
     obtain⟨x,y,hx,hy,hxy⟩:=Yi N (s.getD i 0)
     have hg:(s.map fun b=>((b.toNat:Nat):Int)).getD i 0=(((s.getD i 0).toNat:Nat):Int):=by
       rw[getD_lt _ i 0 (by omega),getD_lt s i 0 hi,List.getElem_map]
     have hne:((((s.getD i 0).toNat:Nat):Int) != 45)= !decide ((s.getD i 0).toNat=45):=by rw[bne,e1]
     refine Hf (p:=Zy) (fun h k=> ?_) (fun h=>⟨fun k=> ?_,trivial⟩)
     ·dsimp only[U2]
      unfold Zy at h
      rw[hml,show((i:Int)).toNat=i by omega,decide_eq_true (by omega),cond_true,decide_eq_true (by omega),Ai,decide_eq_true (by omega),Ai,hg,hx,Ae,hy,hne]
      rw[<- hxy]at h
      generalize decide ((s.getD i 0).toNat=45)=z at h
      cases x<;>cases y<;>cases z<;>first | rfl | (exact absurd h (by decide))
     ·dsimp only[U2]
      unfold Zy at h
      rw[hml,show((i:Int)).toNat=i by omega,decide_eq_true (by omega),cond_true,decide_eq_true (by omega),Ai,decide_eq_true (by omega),Ai,hg,hx,Ae,hy,hne,w64 (by omega) (by omega)]
      rw[<- hxy]at h
      generalize decide ((s.getD i 0).toNat=45)=z at h
      cases x<;>cases y<;>cases z<;>first | rfl | (exact absurd h (by decide))
    ·intro a k _
     dsimp only[U2]
     rw[hml,decide_eq_false (by omega),cond_false]
    ·rw[OA]
     cases s.all Zy<;>rfl
def FX (s:Bs):Bool:= !decide (128<s.length)&&(Bf 46 s).all UT
theorem MO (N:Nat) (s:Bs) (hN:200<N):Fj N s=some (FX s):=by
  unfold Fj FX
  by_cases h:128<s.length
  ·rw[decide_eq_true h,decide_eq_true (show(s.length:Int)>128 by omega),cond_true];rfl
  ·rw[decide_eq_false h,decide_eq_false (show ¬(s.length:Int)>128 by omega),cond_false]
   have hsp:strings_Split N s [46]=some (Bf 46 s):=by
     unfold strings_Split
     rw[decide_eq_true (by omega),Afd];rfl
   rw[hsp,Ae]
   have hlen:=PX 46 s
   generalize Bf 46 s=p at hlen ⊢
   refine Eq.trans (DY (S:=Unit) (mk:=fun i _=>i) (out:=fun a=>a) p [] (fun _ _=>True) (fun e (_:Unit)=>if UT e=true then .inr ()else .inl (some false)) ?_ ?_ N () trivial (by omega)) ?_
   ·intro i a hi _
    have hm:=hlen.2.2 (p.getD i []) (by rw[getD_lt p i [] hi];exact List.getElem_mem hi)
    have hlab:=Acm N (p.getD i []) (by omega) (by omega)
    refine Hf (p:=UT) (fun h k=> ?_) (fun h=>⟨fun k=> ?_,trivial⟩)
    ·dsimp only
     rw[show((i:Int)).toNat=i by omega,decide_eq_true (by omega),cond_true,decide_eq_true (by omega),Ai,Ai,hlab,Ae,h];rfl
    ·dsimp only
     rw[show((i:Int)).toNat=i by omega,decide_eq_true (by omega),cond_true,decide_eq_true (by omega),Ai,Ai,hlab,Ae,h,w64 (by omega) (by omega)];rfl
   ·intro a k _
    dsimp only
    rw[decide_eq_false (by omega),cond_false]
   ·rw[OA]
    cases p.all UT<;>rfl
theorem AjW (c:UInt8) (n:Nat) (hn:n<256):(((c.toNat:Nat):Int)==(n:Int))=(c==UInt8.ofNat n):=by
  by_cases h:c=UInt8.ofNat n
  ·subst h
   rw[beq_self_eq_true,UInt8.toNat_ofNat',show n % 2 ^ 8=n from Nat.mod_eq_of_lt hn]
   exact beq_self_eq_true _
  ·rw[beq_false_of_ne h]
   refine beq_false_of_ne fun h2=>h ?_
   apply UInt8.toNat_inj.1
   rw[UInt8.toNat_ofNat',show n % 2 ^ 8=n from Nat.mod_eq_of_lt hn]
   omega
theorem AmD (c:UInt8) (n:Nat) (hn:n<256):(((c.toNat:Nat):Int) != (n:Int))= !(c==UInt8.ofNat n):=by
  unfold bne;rw[AjW c n hn]
theorem beq46 (c:UInt8):(((c.toNat:Nat):Int)==46)=(c==46):=AjW c 46 (by omega)
theorem Alu (c:UInt8):(((c.toNat:Nat):Int)==45)=(c==45):=AjW c 45 (by omega)
theorem AnA (c:UInt8):(((c.toNat:Nat):Int) != 45)= !(c==45):=AmD c 45 (by omega)
theorem AnB (c:UInt8):(((c.toNat:Nat):Int) != 64)= !(c==64):=AmD c 64 (by omega)
theorem AgT (c:UInt8):decide (c.toNat=45)=(c==45):=by
  rw[<- Alu]
  by_cases h:c.toNat=45
  ·rw[h];rfl
  ·rw[decide_eq_false h];exact(beq_false_of_ne (by omega)).symm
theorem Ip (N:Nat) (s:Bs) (hN:1048578<N):DR N s=some (FX s):=by
  unfold DR FX
  try simp only[clR]
  by_cases h1:128<s.length
  ·rw[mW (by omega),cond_true,Adp h1];rfl
  ·rw[wE (by omega),cond_false,Ado (by omega)]
   have hsp:FU N s 46=some (Bf 46 s):=Ad4 N s 46 (by omega) (by omega)
   rw[hsp,Ae]
   have hlen:=PX 46 s
   generalize Bf 46 s=p at hlen ⊢
   refine Eq.trans (GV (S:=Unit) (R:=Bool) (mk:=fun i _=>(i:Int)) p [] (fun l _=>bif UT l then .inr ()else .inl false) some (fun _=>some true) ?_ ?_ N () (by omega)) ?_
   ·intro i _ hi k
    have hm:=hlen.2.2 _ (getD_mem [] hi)
    dsimp only
    rw[show((i:Int)).toNat=i by omega]
    generalize p.getD i []=l at hm ⊢
    unfold UT
    rw[AgT,AgT]
    by_cases h2:l.length<1
    ·simp (disch:=first | assumption | omega) only[Am]
    ·by_cases h3:63<l.length
     ·simp (disch:=first | assumption | omega) only[Am]
     ·simp (disch:=first | assumption | omega) only[Am,Alu,BZ]
      cases l.getD 0 0==45<;>cases l.getD (l.length - 1) 0==45<;>first | rfl | skip
      refine Eq.trans (GV (S:=Unit) (R:=Bool) (mk:=fun i _=>(i:Int)) l 0 (fun c _=>bif Zy c then .inr ()else .inl false) some (fun _=>k ((i+1:Nat):Int)) ?_ ?_ N () (by omega)) ?_
      ·intro j _ hj k
       simp (disch:=first | assumption | omega) only[Am,YL,AnA,BZ]
       unfold Zy
       rw[AgT]
       cases IZ (l.getD j 0)<;>cases l.getD j 0==45<;>rfl
      ·intro _ k
       simp (disch:=first | assumption | omega) only[Am]
      ·rw[jO]
       cases l.all Zy<;>rfl
   ·intro _ k
    simp (disch:=first | assumption | omega) only[Am]
   ·rw[jO]
    cases p.all UT<;>rfl
theorem contains_one (c:UInt8) (s:Bs):Lib.contains s [c]=s.contains c:=by
  unfold Lib.contains
  rcases Rt c s with h | ⟨a,r,rfl,ha⟩
  ·rw[index_none c s h]
   have:s.contains c=false:=by simpa using h
   rw[this];rfl
  ·rw[sU c a r ha]
   have:(a++c::r).contains c=true:=by simp
   rw[this];exact decide_eq_true (by omega)
def ZK (s:Bs):Bool:=bif Lib.hasPrefix s [42,46]then decide (s.length<=128)&&FX (s.drop 2)&&(s.drop 2).contains 46 else FX s
theorem An2 {s p:Bs} (h:Lib.hasPrefix s p=true):Lib.trimPrefix s p=s.drop p.length:=by unfold Lib.trimPrefix;rw[if_pos h]
theorem An1 {s p:Bs} (h:Lib.hasPrefix s p=false):Lib.trimPrefix s p=s:=by unfold Lib.trimPrefix;rw[if_neg (by rw[h];decide)]
theorem xI (N:Nat) (s:Bs) (hN:1048578<N):Ky N s=some (ZK s):=by
  unfold Ky ZK strings_CutPrefix
  try simp only[clR]
  rw[Ae]
  cases hp:Lib.hasPrefix s [42,46]with
  | false=>rw[An1 hp,MO N _ (by omega)];rfl
  | true =>
    rw[An2 hp,show s.drop ([42,46]:Bs).length=s.drop 2 from rfl]
    simp (disch:=first | assumption | omega) only[Am,MO,Ak0,Option.getD_some]
    by_cases h:s.length<=128
    ·unfold strings_Contains
     rw[decide_eq_true (show(s.drop 2).length<4294967281 by rw[List.length_drop];omega),cond_true,contains_one,nO h,Ld (by omega)]
     rfl
    ·rw[yF (by omega),Alz (by omega)];simp [chk]
theorem Akj (r:Bs):FX (42::46::r)=false:=by
  unfold FX
  rw[show(42::46::r:Bs)=[42]++46::r from rfl,I8 _ _ _ (by decide),List.all_cons,show UT [42]=false by decide]
  simp
theorem AlM (r:Bs):FX (46::r)=false:=by
  unfold FX
  rw[show(46::r:Bs)=[]++46::r from rfl,I8 _ _ _ (by decide),List.all_cons,show UT []=false by decide]
  simp
theorem Aaw:FX []=false:=by decide
theorem Aj9 (s:Bs):decide (2<=(Bf 46 s).length)=s.contains 46:=by
  rcases Rt 46 s with h | ⟨a,r,rfl,ha⟩
  ·rw[Na _ _ h]
   have:s.contains 46=false:=by simpa using h
   rw[this];rfl
  ·rw[I8 _ _ _ ha]
   have:(a++46::r).contains 46=true:=by simp
   rw[this]
   have:=(PX 46 r).2.1
   exact decide_eq_true (by rw[List.length_cons];omega)
theorem Ams (s:Bs):(∃ r,s=42::46::r)\/(Lib.hasPrefix s [42,46]=false/\(Ar s 0 2==[42,46])=false):=by
  match s with
  | []=>right;exact⟨rfl,rfl⟩
  | [a]=>right;exact⟨by simp [Lib.hasPrefix,List.isPrefixOf],by simp [Ar]⟩
  | a::b::r =>
    by_cases h:a=42/\b=46
    ·left;exact⟨r,by rw[h.1,h.2]⟩
    ·right
     refine⟨?_,?_⟩
     ·cases hq:Lib.hasPrefix (a::b::r) [42,46]with
      | false=>rfl
      | true =>
        exfalso
        simp [Lib.hasPrefix,List.isPrefixOf]at hq
        exact h ⟨hq.1.symm,hq.2.symm⟩
     ·refine beq_false_of_ne fun hq=>h ?_
      simp [Ar]at hq
      exact hq
theorem uS (N:Nat) (s:Bs) (hN:1048578<N) (hs:s.length<=1048576):Jn N s=some (ZK s):=by
  unfold Jn ZK
  try simp only[clR]
  have hsp:FU N s 46=some (Bf 46 s):=Ad4 N s 46 (by omega) (by omega)
  rw[Ip N s hN,Ae,Ip N _ hN,hsp]
  simp only[Option.isSome_some,Option.getD_some,Bool.true_or,Ai]
  rcases Ams s with ⟨r,rfl⟩ | ⟨h1,h2⟩
  ·rw[Akj,show Lib.hasPrefix (42::46::r) [42,46]=true by simp [Lib.hasPrefix,List.isPrefixOf],cond_true,show(42::46::r:Bs).drop 2=r from rfl]
   rw[show Ar (42::46::r:Bs) 2 (42::46::r:Bs).length=r by unfold Ar;rw[List.take_length];rfl,show(Ar (42::46::r:Bs) 0 2==[42,46])=true by simp [Ar]]
   rw[show decide (((Bf 46 (42::46::r)).length:Int)>2)=r.contains 46 by
     rw[<- Aj9,show(42::46::r:Bs)=[42]++46::r from rfl,I8 _ _ _ (by decide),List.length_cons]
     congr 1;apply propext;omega]
   rw[show decide (((42::46::r:Bs).length:Int)<=128)=decide ((42::46::r:Bs).length<=128) by congr 1;apply propext;omega]
   rw[Ld (show(2:Int)<=((42::46::r:Bs).length:Int) by simp;omega)]
   cases r with
   | nil=>rw[Aaw];simp [chk]
   | cons x r =>
     rw[mW (show((42::46::x::r:Bs).length:Int)>2 by simp;omega)]
     cases decide ((42::46::x::r:Bs).length<=128)<;>cases FX (x::r)<;>cases (x::r).contains 46<;>rfl
  ·rw[h1,cond_false,h2]
   have:decide (2<=((s.length:Nat):Int))=true\/decide (((s.length:Nat):Int)>2)=false:=by
     by_cases h:2<=s.length
     ·left;exact decide_eq_true (by omega)
     ·right;exact decide_eq_false (by omega)
   rcases this with h | h<;>rw[h]<;>cases FX s<;>cases decide (((s.length:Nat):Int)<=128)<;>simp [chk]
def YQ (s:Bs):Bool:=(s==[])||FX s
theorem Aem (N:Nat) (s:Bs) (hN:1048578<N):Ry N s=some (YQ s):=by
  unfold Ry YQ
  try simp only[clR]
  simp (disch:=first | assumption | omega) only[Am,MO,Option.isSome_some,Option.getD_some]
theorem AcJ (N:Nat) (s:Bs) (hN:1048578<N):PK N s=some (YQ s):=by
  unfold PK YQ
  try simp only[clR]
  simp (disch:=first | assumption | omega) only[Am,Ip,Option.isSome_some,Option.getD_some]
def aJ:Bs:=[33,35,36,37,38,39,42,43,45,47,61,63,94,95,96,123,124,125,126,46]
def Hu (c:UInt8):Bool:=IZ c||aJ.any (· ==c)
def dots:Bs->Bool
  | x::y::r=>(x==46&&y==46)||dots (y::r)
  | _=>false
theorem Acg: ∀ s:Bs,Lib.contains s [46,46]=dots s:=by
  have key: ∀ s:Bs,(Lib.index s [46,46]= -1/\dots s=false)\/(0<=Lib.index s [46,46]/\dots s=true):=by
    intro s
    induction s with
    | nil=>left;exact⟨rfl,rfl⟩
    | cons x r ih =>
      cases r with
      | nil =>
        left
        refine⟨?_,rfl⟩
        show(if List.isPrefixOf [46,46] [x]=true then(0:Int)else _)= -1
        rw[if_neg (by simp [List.isPrefixOf])];rfl
      | cons y r =>
        have e:Lib.index (x::y::r) [46,46]=if List.isPrefixOf [46,46] (x::y::r)=true then(0:Int)else if Lib.index (y::r) [46,46]== -1 then -1 else Lib.index (y::r) [46,46]+1:=rfl
        have d:dots (x::y::r)=((x==46&&y==46)||dots (y::r)):=rfl
        have p:List.isPrefixOf [46,46] (x::y::r)=(x==46&&y==46):=by
          simp only[List.isPrefixOf,Bool.and_true]
          rw[Bool.beq_comm (a:=(46:UInt8)),Bool.beq_comm (a:=(46:UInt8))]
        rw[e,d,p]
        cases (x==46&&y==46)with
        | true=>right;exact⟨by rw[if_pos rfl];exact Int.le_refl 0,rfl⟩
        | false =>
          rcases ih with ⟨h1,h2⟩ | ⟨h1,h2⟩
          ·left;rw[h1,h2];exact⟨rfl,rfl⟩
          ·right
           rw[h2]
           refine⟨?_,rfl⟩
           rw[if_neg (by decide),if_neg (by simp;omega)];omega
  intro s
  unfold Lib.contains
  rcases key s with ⟨h1,h2⟩ | ⟨h1,h2⟩
  ·rw[h1,h2];rfl
  ·rw[h2];exact decide_eq_true h1
def jL (s:Bs):Bool:= !(decide (s.length<1)||decide (64<s.length)||(s.getD 0 0==46)||(s.getD (s.length - 1) 0==46)||dots s)&&s.all Hu
theorem Acr (c:UInt8): ∀ l:Bs,decide (Lib.indexByte l c>=0)=l.any (· ==c):=by
  intro l
  induction l with
  | nil=>rfl
  | cons b r ih =>
    show decide ((if(b==c)=true then(0:Int)else if Lib.indexByte r c== -1 then -1 else Lib.indexByte r c+1)>=0)=(b==c||r.any (· ==c))
    cases b==c with
    | true=>rfl
    | false =>
      rw[if_neg (by decide),Bool.false_or,<- ih]
      have:=Lib.indexByte_ge r c
      by_cases h:Lib.indexByte r c= -1
      ·rw[h];rfl
      ·rw[if_neg (by simpa using h)]
       congr 1;apply propext;omega
theorem An6 (c:UInt8):c.toNat.toUInt8=c:=UInt8.ofNat_toNat
theorem Aco (N:Nat) (s:Bs) (hN:1048578<N) (hs:s.length<=1048576):Ph N s=some (jL s):=by
  unfold Ph jL
  try simp only[clR]
  unfold strings_Contains
  rw[decide_eq_true (show s.length<4294967281 by omega),cond_true,Acg]
  by_cases h1:s.length<1
  ·have:s=[]:=List.length_eq_zero_iff.1 (by omega)
   subst this;rfl
  ·by_cases h2:64<s.length
   ·simp (disch:=first | assumption | omega) only[Am,Option.isSome_some]
   ·simp (disch:=first | assumption | omega) only[Am,Option.isSome_some,Option.getD_some,beq46]
    cases s.getD 0 0==46<;>cases s.getD (s.length - 1) 0==46<;>cases dots s<;>first | rfl | skip
    simp only[Bool.false_or,Bool.or_false,cond_false,Bool.not_false,Bool.true_and]
    have hml:((s.map fun b=>((b.toNat:Nat):Int)).length)=s.length:=List.length_map ..
    refine Eq.trans (GV (S:=Unit) (R:=Bool) (mk:=fun i _=>((i:Int),s.map fun b=>((b.toNat:Nat):Int))) s 0 (fun c _=>bif Hu c then .inr ()else .inl false) some (fun _=>some true) ?_ ?_ N () (by omega)) ?_
    ·intro i _ hi k
     obtain⟨x,y,hx,hy,hxy⟩:=Yi N (s.getD i 0)
     have hg:(s.map fun b=>((b.toNat:Nat):Int)).getD i 0=(((s.getD i 0).toNat:Nat):Int):=by
       rw[getD_lt _ i 0 (by omega),getD_lt s i 0 hi,List.getElem_map]
     simp (disch:=first | assumption | omega) only[Am,hml,hg,hx,hy,BZ,strings_IndexByte,An6,Acr]
     unfold Hu
     rw[<- hxy]
     show _=bif _||aJ.any (· ==s.getD i 0)then _ else _
     rw[show([33,35,36,37,38,39,42,43,45,47,61,63,94,95,96,123,124,125,126,46]:Bs)=aJ from rfl]
     cases x<;>cases y<;>cases aJ.any (· ==s.getD i 0)<;>rfl
    ·intro _ k
     simp (disch:=first | assumption | omega) only[Am,hml]
    ·rw[jO]
     cases s.all Hu<;>rfl
theorem AdL {c:UInt8} {s:Bs} (h:c∉s):Lib.cut s [c]=(s,[],false):=by
  unfold Lib.cut
  rw[index_none c s h];rfl
theorem AdK {c:UInt8} {a r:Bs} (h:c∉a):Lib.cut (a++c::r) [c]=(a,r,true):=by
  unfold Lib.cut
  rw[sU c a r h,if_pos (by omega)]
  have e1:((a.length:Int)).toNat=a.length:=by omega
  rw[e1,List.take_left,<- List.drop_drop,List.drop_left]
  rfl
def E8 (s:Bs):Bool:=(Lib.cut s [64]).2.2&&decide (s.length<=128)&&jL (Lib.cut s [64]).1&&FX (Lib.cut s [64]).2.1
theorem iZ (N:Nat) (s:Bs) (hN:1048578<N) (hs:s.length<=1048576):Kw N s=some (E8 s):=by
  unfold Kw E8 strings_Cut
  try simp only[clR]
  rw[decide_eq_true (show s.length<4294967281 by omega),cond_true,Ae]
  have hl:(Lib.cut s [64]).1.length<=s.length:=by
    rcases Rt 64 s with h | ⟨a,r,rfl,ha⟩
    ·rw[AdL h];exact Nat.le_refl _
    ·rw[AdK ha];simp
  rw[Aco N _ hN (by omega),MO N _ (by omega)]
  rw[show decide (((s.length:Nat):Int)<=128)=decide (s.length<=128) by congr 1;apply propext;omega]
  rfl
theorem Aio (r:Bs): ∀ a:Bs,(List.range a.length).any (fun i=> !Hu ((a++64::r).getD i 0)||((a++64::r).getD i 0==46&&(a++64::r).getD (i+1) 0==46))=(!(a.all Hu)||dots a):=by
  intro a
  induction a with
  | nil=>rfl
  | cons x t ih =>
    rw[List.length_cons,List.range_succ_eq_map,List.any_cons,List.any_map,List.all_cons]
    have e:(List.range t.length).any ((fun i=> !Hu ((x::t++64::r).getD i 0)||((x::t++64::r).getD i 0==46&&(x::t++64::r).getD (i+1) 0==46))∘Nat.succ)=(List.range t.length).any (fun i=> !Hu ((t++64::r).getD i 0)||((t++64::r).getD i 0==46&&(t++64::r).getD (i+1) 0==46)):=rfl
    rw[e,ih]
    show((!Hu x||(x==46&&(t++64::r).getD 0 0==46))||_)=_
    cases t with
    | nil =>
      show((!Hu x||(x==46&&(64:UInt8)==46))||(!true||false))=(!(Hu x&&true)||false)
      cases Hu x<;>cases x==46<;>rfl
    | cons y t =>
      show((!Hu x||(x==46&&y==46))||(!((y::t).all Hu)||dots (y::t)))=(!(Hu x&&(y::t).all Hu)||((x==46&&y==46)||dots (y::t)))
      cases Hu x<;>cases (y::t).all Hu<;>cases x==46&&y==46<;>cases dots (y::t)<;>rfl
theorem Zr (n i:Nat) (h:i<n):(List.range n).getD i 0=i:=by
  rw[getD_lt _ _ _ (by rw[List.length_range];exact h),List.getElem_range]
theorem AlY {a r:Bs} (ha:64∉a):E8 (a++64::r)=(decide ((a++64::r).length<=128)&&jL a&&FX r):=by
  unfold E8
  rw[AdK ha,Bool.true_and]
theorem Abb (N:Nat) (s:Bs) (hN:1048578<N) (hs:s.length<=1048576):Ri N s=some (bif E8 s then((Lib.cut s [64]).1,(Lib.cut s [64]).2.1,true)else([],[],false)):=by
  unfold Ri
  try simp only[clR]
  by_cases h0:128<s.length
  ·rw[mW (by omega),cond_true]
   unfold E8
   rw[yF h0];simp
  rw[wE (by omega),cond_false]
  refine(Afa (mk:=fun i=>(i:Int)) (out:=fun i=>(i:Int)) s 0 (fun c=>c==64) ?_ ?_ N (by omega)).trans ?_
  ·intro i k hi
   simp (disch:=first | assumption | omega) only[Am,AnB,BZ]
   cases s.getD i 0==64<;>rfl
  ·intro k
   simp (disch:=first | assumption | omega) only[Am]
  ·rcases Rt 64 s with h | ⟨a,r,rfl,ha⟩
   ·rw[Aea _ _ (fun x hx=>beq_false_of_ne (b:=(64:UInt8)) (show x≠64 from fun hx2=>h (by rw[<- hx2];exact hx)))]
    unfold E8
    rw[AdL h]
    simp (disch:=first | assumption | omega) only[Am]
   ·rw[Ahh _ a 64 r (fun x hx=>beq_false_of_ne (b:=(64:UInt8)) (show x≠64 from fun hx2=>ha (by rw[<- hx2];exact hx))) rfl,AlY ha,AdK ha]
    have hlen:(a++64::r).length=a.length+r.length+1:=by simp;omega
    rw[nO (by omega),Bool.true_and]
    unfold jL
    by_cases h1:a.length<1
    ·simp (disch:=first | assumption | omega) only[Am]
    by_cases h2:64<a.length
    ·simp (disch:=first | assumption | omega) only[Am]
    have hcut:Ar (a++64::r) (a.length+1) (a++64::r).length=r:=by
      unfold Ar
      rw[List.take_length,<- List.drop_drop,List.drop_left];rfl
    have hcut0:Ar (a++64::r) 0 a.length=a:=by
      unfold Ar
      rw[List.drop_zero,List.take_left]
    have hg: ∀ i,i<a.length->(a++64::r).getD i 0=a.getD i 0:=fun i hi=>by
      rw[List.getD_eq_getElem?_getD,List.getElem?_append_left hi,<- List.getD_eq_getElem?_getD]
    have hg0:=hg 0 (by omega)
    have hg1:=hg (a.length - 1) (by omega)
    rw[w64 (by omega) (by omega),w64 (by omega) (by omega)]
    rw[BZ,Int.toNat_natCast,zX,hcut,hg0,hg1,Ip N r hN,beq46,beq46]
    rw[mY (show(1:Int)<=a.length by omega),wE (show(a.length:Int)<=64 by omega),Ja (show(a.length:Int)≠((a++64::r).length:Nat) by omega),Ld (show(0:Int)<=((a.length+1:Nat):Int) by omega),Ld (show((a.length+1:Nat):Int)<=((a++64::r).length:Nat) by omega),QS (show(0:Int)<((a++64::r).length:Nat) by omega),Ld (show(0:Int)<=(a.length:Int) - 1 by omega),QS (show(a.length:Int) - 1<((a++64::r).length:Nat) by omega),Ado (show 1<=a.length by omega),Ado (show a.length<=64 by omega)]
    simp only[Bool.true_or,Ai,Bool.false_or,Option.getD_some,Option.isSome_some]
    cases FX r<;>cases a.getD 0 0==46<;>cases a.getD (a.length - 1) 0==46<;>first | (simp;done) | skip
    simp only[Bool.not_true,Bool.false_or,Bool.not_false,cond_false,Bool.true_and,Bool.and_true]
    refine Eq.trans (GV (S:=Unit) (R:=Bs×Bs×Bool) (mk:=fun i _=>(i:Int)) (List.range a.length) 0 (fun i _=>bif (!Hu ((a++64::r).getD i 0)||((a++64::r).getD i 0==46&&(a++64::r).getD (i+1) 0==46))then .inl ([],[],false)else .inr ()) some (fun _=>some (a,r,true)) ?_ ?_ N () (by rw[List.length_range];omega)) ?_
    ·intro i _ hi k
     rw[List.length_range]at hi
     rw[Zr _ _ hi]
     have hAm:=Adw N aJ ((a++64::r).getD i 0) (by show 20<N;omega) (by decide)
     rw[show aJ=([33,35,36,37,38,39,42,43,45,47,61,63,94,95,96,123,124,125,126,46]:Bs)from rfl]at hAm
     simp (disch:=first | assumption | omega) only[Am,YL,BZ,hAm,beq46,Option.isSome_some,Option.getD_some]
     unfold Hu
     rw[show aJ=([33,35,36,37,38,39,42,43,45,47,61,63,94,95,96,123,124,125,126,46]:Bs)from rfl]
     generalize List.any _ _=u
     generalize ((a++64::r).getD (i+1) 0==46)=v
     cases IZ ((a++64::r).getD i 0)<;>cases u<;>cases (a++64::r).getD i 0==46<;>cases v<;>rfl
    ·intro _ k
     rw[List.length_range]
     simp (disch:=first | assumption | omega) only[Am,hcut,hcut0,BZ]
    ·rw[AbA,Aio]
     cases a.all Hu<;>cases dots a<;>rfl
theorem bT (N:Nat) (s:Bs) (hN:1048578<N) (hs:s.length<=1048576):LD N s=some (E8 s):=by
  unfold LD
  rw[Abb N s hN hs,Ae]
  cases E8 s<;>rfl
def mbP (s:Bs):Bool:=decide (s.length<=128)&&(E8 s||FX (Lib.trimPrefix s [46]))
theorem Ai9 (n:Nat):decide ((n:Int)<=128)=decide (n<=128):=by congr 1;apply propext;omega
theorem sQ (N:Nat) (s:Bs) (hN:1048578<N) (hs:s.length<=1048576):Ji N s=some (mbP s):=by
  unfold Ji mbP strings_TrimPrefix
  try simp only[clR]
  rw[iZ N s hN hs]
  simp only[Option.isSome_some,Option.getD_some,Bool.true_or,Ai]
  rw[MO N _ (by omega),Ai9]
  simp only[Option.isSome_some,Option.getD_some,Bool.true_or,Ai]
  cases E8 s<;>cases decide (s.length<=128)<;>rfl
theorem yB {s:Bs} (h:128<s.length):E8 s=false:=by unfold E8;rw[yF h];simp
theorem Abv {s:Bs} (h:128<s.length):FX s=false:=by unfold FX;rw[Adp h];rfl
theorem pF (N:Nat) (s:Bs) (hN:1048578<N) (hs:s.length<=1048576):Ir N s=some (mbP s):=by
  unfold Ir mbP
  try simp only[clR]
  rw[bT N s hN hs,Ae,Ip N s hN,Ip N _ hN,Ai9]
  simp only[Option.isSome_some,Option.getD_some,Bool.true_or,Ai]
  by_cases h0:s.length<=128
  ·rw[nO h0]
   cases s with
   | nil=>rw[Aaw];cases E8 []<;>rfl
   | cons x r =>
     have hcut:Ar (x::r) 1 (x::r).length=r:=by unfold Ar;rw[List.take_length];rfl
     rw[hcut,show(x::r:Bs).getD 0 0=x from rfl,beq46]
     rw[QS (show(0:Int)<((x::r:Bs).length:Nat) by rw[List.length_cons];omega),Ld (show(1:Int)<=((x::r:Bs).length:Nat) by rw[List.length_cons];omega)]
     by_cases hx:x=46
     ·subst hx
      rw[AlM,show Lib.trimPrefix (46::r) [46]=r by simp [Lib.trimPrefix,Lib.hasPrefix,List.isPrefixOf]]
      cases r with
      | nil=>rw[Aaw];cases E8 [46]<;>rfl
      | cons y r =>
        rw[mW (show((46::y::r:Bs).length:Int)>1 by simp;omega)]
        cases E8 (46::y::r)<;>cases FX (y::r)<;>rfl
     ·rw[beq_false_of_ne hx,show Lib.trimPrefix (x::r) [46]=x::r by
        have: ¬(46:UInt8)=x:=fun h=>hx h.symm
        simp [Lib.trimPrefix,Lib.hasPrefix,List.isPrefixOf,this]]
      cases E8 (x::r)<;>cases FX (x::r)<;>cases decide (((x::r:Bs).length:Int)>1)<;>rfl
  ·rw[yF (by omega),yB (by omega),Abv (by omega)]
   simp (disch:=first | assumption | omega) only[Am]
def YN (s:Bs):Bool:=decide (s.length=4)||decide (s.length=16)
theorem jD (a b:Nat):(((a:Nat):Int)==((b:Nat):Int))=decide (a=b):=by
  by_cases h:a=b
  ·rw[h,decide_eq_true rfl];exact beq_self_eq_true _
  ·rw[decide_eq_false h];exact beq_false_of_ne (by omega)
theorem xH (N:Nat) (s:Bs):Kv N s=some (YN s):=by
  unfold Kv YN
  try simp only[clR]
  rw[show(((s.length:Nat):Int)==4)=decide (s.length=4)from jD _ 4,show(((s.length:Nat):Int)==16)=decide (s.length=16)from jD _ 16]
theorem uQ (N:Nat) (s:Bs):Jm N s=some (YN s):=by
  unfold Jm YN
  try simp only[clR]
  rw[show(((s.length:Nat):Int)==4)=decide (s.length=4)from jD _ 4,show(((s.length:Nat):Int)==16)=decide (s.length=16)from jD _ 16]
def YR (c:UInt8) (k:Nat):Bool:=c.toNat / 2 ^ k % 2==1
theorem Akb (c:UInt8) (k:Nat) (hk:k<8):(Ba .and .u8 (((c.toNat:Nat):Int).fdiv (2 ^ min k 8)) 1==1)=YR c k:=by
  have: ∀ k:Fin 8,∀ n:Fin 256,(Ba .and .u8 ((((UInt8.ofNat n.val).toNat:Nat):Int).fdiv (2 ^ min k.val 8)) 1==1)=YR (UInt8.ofNat n.val) k.val:=by decide +kernel
  exact YJ (P:=fun c=>(Ba .and .u8 (((c.toNat:Nat):Int).fdiv (2 ^ min k 8)) 1==1)=YR c k) (this ⟨k,hk⟩) c
theorem AlG (c:UInt8) (k:Nat) (hk:k<8):((((c.toNat:Nat):Int).fdiv (2 ^ min k 8)).tmod 2==1)=YR c k:=by
  have: ∀ k:Fin 8,∀ n:Fin 256,(((((UInt8.ofNat n.val).toNat:Nat):Int).fdiv (2 ^ min k.val 8)).tmod 2==1)=YR (UInt8.ofNat n.val) k.val:=by decide +kernel
  exact YJ (P:=fun c=>((((c.toNat:Nat):Int).fdiv (2 ^ min k 8)).tmod 2==1)=YR c k) (this ⟨k,hk⟩) c
theorem Al5 (i:Nat):((i:Int)).tdiv 8=((i / 8:Nat):Int):=rfl
theorem Al6 (i:Nat):((i:Int)).tmod 8=((i % 8:Nat):Int):=rfl
theorem Aib (i:Nat):((i:Int)).tdiv 2=((i / 2:Nat):Int):=rfl
theorem zW (i:Nat):((7:Int) - (i:Int)).toNat=7 - i:=by omega
def LX (s:Bs) (i:Nat):Bool:=YR (s.getD (i / 8) 0) (7 - i % 8)
theorem qB (N:Nat) (s:Bs) (i:Nat) (h:i<8*s.length) (hs:s.length<=1048576):QE N s (i:Int)=some (LX s i):=by
  unfold QE LX
  have:i / 8<s.length:=by omega
  have:i % 8<8:=by omega
  simp (disch:=first | assumption | omega) only[Am,Al5,Al6,wu64,zW]
  rw[Akb _ _ (by omega)]
def rngS (s:Bs) (i:Nat) (z:Bool):Bool ⊕ Bool:=bif (LX (s.drop (s.length / 2)) i&&z)||(!LX (s.drop (s.length / 2)) i&&LX s i)then .inl false else .inr (z|| !LX (s.drop (s.length / 2)) i)
def aI (s:Bs):Bool:=bif decide (s.length=8)||decide (s.length=32)then(Gt (rngS s) (List.range (8*(s.length / 2))) false).elim id (fun _=>true)else false
theorem Acj (N:Nat) (s:Bs) (hN:1048578<N):Pg N s=some (aI s):=by
  unfold Pg
  try simp only[clR]
  unfold aI
  rw[show(((s.length:Nat):Int) != 8)= !decide (s.length=8)from congrArg _ (jD _ 8),show(((s.length:Nat):Int) != 32)= !decide (s.length=32)from congrArg _ (jD _ 32)]
  by_cases h0:s.length=8\/s.length=32
  ·have hb:(decide (s.length=8)||decide (s.length=32))=true:=by simpa using h0
   rw[hb,cond_true,show(!decide (s.length=8)&& !decide (s.length=32))=false by rw[<- Bool.not_or,hb];rfl,cond_false]
   have hd:s.length / 2<=s.length:=by omega
   have hh:QV N s=some (s.take (s.length / 2),s.drop (s.length / 2)):=by
     unfold QV
     simp (disch:=first | assumption | omega) only[Am,Aib,wu64]
     unfold Ar
     rw[List.take_length];rfl
   rw[hh,Ae]
   have hl:(s.drop (s.length / 2)).length=s.length / 2:=by rw[List.length_drop];omega
   have hl1:(s.take (s.length / 2)).length=s.length / 2:=by rw[List.length_take];omega
   refine Eq.trans (GV (S:=Bool) (R:=Bool) (mk:=fun i z=>(z,(i:Int))) (List.range (8*(s.length / 2))) 0 (rngS s) some (fun _=>some true) ?_ ?_ N false (by rw[List.length_range];omega)) ?_
   ·intro i z hi k
    rw[List.length_range]at hi
    rw[Zr _ _ hi]
    have hb1:=qB N (s.drop (s.length / 2)) i (by omega) (by omega)
    have hb2:=qB N (s.take (s.length / 2)) i (by omega) (by omega)
    have hb3:LX (s.take (s.length / 2)) i=LX s i:=by
      unfold LX
      congr 1
      rw[List.getD_eq_getElem?_getD,List.getElem?_take,if_pos (by omega),<- List.getD_eq_getElem?_getD]
    rw[hb3]at hb2
    unfold rngS
    simp (disch:=first | assumption | omega) only[Am,hl,hb1,hb2,Option.isSome_some,Option.getD_some,BZ]
    cases LX (s.drop (s.length / 2)) i<;>cases LX s i<;>cases z<;>rfl
   ·intro z k
    rw[List.length_range]
    simp (disch:=first | assumption | omega) only[Am,hl]
   ·exact wC _ id (fun _=>true)
  ·have hb:(decide (s.length=8)||decide (s.length=32))=false:=by simpa using h0
   rw[hb,show(!decide (s.length=8)&& !decide (s.length=32))=true by rw[<- Bool.not_or,hb];rfl]
   rfl
theorem AaY (N:Nat) (s:Bs) (hN:1048578<N):MX N s=some (aI s):=by
  unfold MX
  try simp only[clR]
  unfold aI
  rw[show(((s.length:Nat):Int) != 8)= !decide (s.length=8)from congrArg _ (jD _ 8),show(((s.length:Nat):Int) != 32)= !decide (s.length=32)from congrArg _ (jD _ 32)]
  by_cases h0:s.length=8\/s.length=32
  ·have hb:(decide (s.length=8)||decide (s.length=32))=true:=by simpa using h0
   rw[hb,cond_true,show(!decide (s.length=8)&& !decide (s.length=32))=false by rw[<- Bool.not_or,hb];rfl,cond_false]
   refine Eq.trans (GV (S:=Bool) (R:=Bool) (mk:=fun i z=>(z,(i:Int))) (List.range (8*(s.length / 2))) 0 (rngS s) some (fun _=>some true) ?_ ?_ N false (by rw[List.length_range];omega)) ?_
   ·intro i z hi k
    rw[List.length_range]at hi
    rw[Zr _ _ hi]
    have hbd:YR (s.getD (s.length / 2+i / 8) 0) (7 - i % 8)=LX (s.drop (s.length / 2)) i:=by
      unfold LX
      congr 1
      rw[List.getD_eq_getElem?_getD,List.getD_eq_getElem?_getD,List.getElem?_drop]
    unfold rngS
    have:i % 8<8:=by omega
    simp (disch:=first | assumption | omega) only[Am,Aib,Al5,Al6,zW,AlG,hbd,BZ]
    rw[show YR (s.getD (i / 8) 0) (7 - i % 8)=LX s i from rfl]
    cases LX (s.drop (s.length / 2)) i<;>cases LX s i<;>cases z<;>rfl
   ·intro z k
    rw[List.length_range]
    simp (disch:=first | assumption | omega) only[Am,Aib]
   ·exact wC _ id (fun _=>true)
  ·have hb:(decide (s.length=8)||decide (s.length=32))=false:=by simpa using h0
   rw[hb,show(!decide (s.length=8)&& !decide (s.length=32))=true by rw[<- Bool.not_or,hb];rfl]
   rfl
theorem Ah8 (n:List (List Att)): ∃ v,Ua n=some v:=by
  unfold Ua
  by_cases h:8<n.length
  ·rw[if_pos h];exact⟨_,rfl⟩
  ·rw[if_neg h]
   have: ∀(l:List (List Att)) (s:Unit),∃ v,Iu Pq (fun _=>some 0) l s=some v:=by
     intro l
     induction l with
     | nil=>intro s;exact⟨0,rfl⟩
     | cons e r ih =>
       intro s
       unfold Iu Pq
       by_cases h:KL e=0
       ·rw[if_pos h];exact ih _
       ·rw[if_neg h];exact⟨_,rfl⟩
   exact this n ()
def Et (n:List (List Att)):Int:=(Ua n).getD 0
theorem Agn (n:List (List Att)):Ua n=some (Et n):=by
  obtain⟨v,h⟩:=Ah8 n
  unfold Et;rw[h];rfl
theorem Nh (N:Nat) (n:List (List Att)) (hN:1048578<N) (hn:DF n):EN N n=some (Et n):=(Aas N n hN hn).trans (Agn n)
theorem QN (N:Nat) (n:List (List Att)) (hN:1048578<N) (hn:DF n):Dx N n=some (Et n):=(Adx N n hN hn).trans (Agn n)
abbrev Gn:Type:=Int×Bs×List (List Att)
def Jr (g:Gn):Prop:=g.2.1.length<=1048576/\DF g.2.2
def sH (k:Int) (s:Bs) (c:Bool):Bool:=bif k==1 then(bif c then mbP s else E8 s)else bif k==2 then(bif c then YQ s else ZK s)else bif k==7 then(bif c then aI s else YN s)else false
def Dp (g:Gn) (c:Bool):Int:=bif g.1==4 then(bif g.2.1==[]then Et g.2.2 else 14)else bif sH g.1 g.2.1 c&&g.2.2.isEmpty then 0 else 14
theorem jK {α :Type} (l:List α):decide (((l.length:Nat):Int)>0)= !l.isEmpty:=by
  cases l with
  | nil=>rfl
  | cons a r=>rw[decide_eq_true (by rw[List.length_cons];omega)];rfl
theorem Acs (N:Nat) (k:Int) (s:Bs) (c:Bool) (hN:1048578<N) (hs:s.length<=1048576):EH N k s c=some (bif k==0 then(bif c then mbP s else E8 s)else bif k==1 then(bif c then YQ s else ZK s)else bif k==3 then(bif c then aI s else YN s)else false):=by
  unfold EH
  try simp only[clR]
  simp only[sQ N s hN hs,iZ N s hN hs,Aem N s hN,xI N s hN,Acj N s hN,xH N s,Option.isSome_some,Option.getD_some,Bool.true_or,Ai]
  cases k==0<;>cases k==1<;>cases k==3<;>cases c<;>simp [chk]
theorem Ll (N:Nat) (g:Gn) (c:Bool) (hN:1048578<N) (hg:Jr g):FP N g c=some (Dp g c):=by
  obtain⟨k,s,n⟩:=g
  unfold FP
  try simp only[clR]
  have hg:s.length<=1048576/\DF n:=hg
  have hd:=Nh N n hN hg.2
  have hk: ∀ k:Int,EH N k s c=_:=fun k=>Acs N k s c hN hg.1
  have h1:=hg.1
  unfold Dp sH sK
  by_cases e1:k=1
  ·subst e1
   simp (disch:=first | assumption | omega) only[Am,hk,Option.isSome_some,Option.getD_some,jK]
   cases n.isEmpty<;>cases c<;>cases mbP s<;>cases E8 s<;>rfl
  ·by_cases e2:k=2
   ·subst e2
    simp (disch:=first | assumption | omega) only[Am,hk,Option.isSome_some,Option.getD_some,jK]
    cases n.isEmpty<;>cases c<;>cases YQ s<;>cases ZK s<;>rfl
   ·by_cases e4:k=4
    ·subst e4
     simp (disch:=first | assumption | omega) only[Am,hd,Option.isSome_some,Option.getD_some,jK]
     cases s==[]<;>rfl
    ·by_cases e7:k=7
     ·subst e7
      simp (disch:=first | assumption | omega) only[Am,hk,Option.isSome_some,Option.getD_some,jK]
      cases n.isEmpty<;>cases c<;>cases aI s<;>cases YN s<;>rfl
     ·simp (disch:=first | assumption | omega) only[Am]
theorem JC (N:Nat) (g:Gn) (c:Bool) (hN:1048578<N) (hg:Jr g):D5 N g c=some (Dp g c):=by
  obtain⟨k,s,n⟩:=g
  unfold D5
  try simp only[clR]
  have hg:s.length<=1048576/\DF n:=hg
  have hd:=QN N n hN hg.2
  unfold Dp sH
  dsimp only[U4,Dz]
  simp only[pF N s hN hg.1,bT N s hN hg.1,AcJ N s hN,uS N s hN hg.1,AaY N s hN,uQ N s,Option.isSome_some,Option.getD_some,Bool.true_or,Ai,hd,Ae,jK]
  by_cases e1:k=1
  ·subst e1
   cases n.isEmpty<;>cases c<;>cases mbP s<;>cases E8 s<;>rfl
  ·by_cases e2:k=2
   ·subst e2
    cases n.isEmpty<;>cases c<;>cases YQ s<;>cases ZK s<;>rfl
   ·by_cases e4:k=4
    ·subst e4
     cases s==[]<;>rfl
    ·by_cases e7:k=7
     ·subst e7
      cases n.isEmpty<;>cases c<;>cases aI s<;>cases YN s<;>rfl
     ·simp (disch:=first | assumption | omega) only[Am]
def mV (l:List El):Bool:=(List.range (l.length - 1)).any fun i=>bytesLess (l.getD (i+1) (0,[],[])).2.2 (l.getD i (0,[],[])).2.2
theorem Aij (N:Nat) (l:List El) (hN:1048578<N) (hl:l.length<=1048576):Js N l=some (!mV l):=by
  unfold Js mV
  try simp only[clR]
  refine(X7 (fun i=>((i+1:Nat):Int)) (List.range (l.length - 1)) 0 (fun i=>bytesLess (l.getD (i+1) (0,[],[])).2.2 (l.getD i (0,[],[])).2.2) (some false) (some true) ?_ ?_ N (by rw[List.length_range];omega)).trans ?_
  ·intro i hi k
   rw[List.length_range]at hi
   rw[AeM hi]
   simp (disch:=first | assumption | omega) only[Am]
   rfl
  ·intro k
   rw[List.length_range]
   simp (disch:=first | assumption | omega) only[Am]
  ·cases List.any _ _<;>rfl
theorem Amh (N:Nat) (l:List El) (hN:1048578<N) (hl:l.length<=1048576):JJ N l=some (!mV l):=(show JJ N l=Js N l from rfl).trans (Aij N l hN hl)
def IV (e:El):List Att×Int :=
  bif e.1 != 49 then([],5)else bif (AB e.2.1).2 != 0 then([],(AB e.2.1).2)else bif mV (AB e.2.1).1 then([],9)else
  bif Bq (fun a=>(Ih a).2) (AB e.2.1).1 != 0 then([],Bq (fun a=>(Ih a).2) (AB e.2.1).1)else((AB e.2.1).1.map fun a=>(Ih a).1,0)
theorem AlJ (N:Nat) (e:El) (hN:1048578<N) (he:e.2.1.length<=1048576):F9 N e=some (IV e):=by
  unfold F9
  try simp only[clR]
  rw[H8 N e.2.1 (by omega) (by omega) (by omega)]
  unfold IV
  have hg:Good 1048576 (AB e.2.1).1:=(BG e.2.1).mono he
  generalize AB e.2.1=r at hg ⊢
  obtain⟨l,er⟩:=r
  have hlen:l.length<=1048576:=hg.len
  rw[Ae]
  dsimp only
  rw[Aij N l hN hlen]
  simp (disch:=first | assumption | omega) only[Am]
  simp only[<- Bc]
  refine CW fun _=>CW fun _=>CW fun _=> ?_
  refine(Kt (fun i acc=>((i:Int),acc)) l (0,[],[]) (fun a=>(Ih a).2) (fun a=>(Ih a).1) (fun e=>some ([],e)) (fun acc=>some (acc,0)) ?_ ?_ N (by omega)).trans ?_
  ·intro i acc hi ha k
   have hc:=(hg.all _ (getD_mem (0,[],[]) hi)).content
   dsimp only at hc
   have hE:=AlI N (l.getD i (0,[],[])) hN (by omega)
   simp (disch:=first | assumption | omega) only[Am,hE]
   generalize Ih (l.getD i (0,[],[]))=y
   cases y.2 != 0<;>rfl
  ·intro acc k ha
   simp (disch:=first | assumption | omega) only[Am]
  ·rfl
def nmD (s:Bs):List (List Att)×Int :=
  bif (BI s).2 != 0 then([],(BI s).2)else bif (BI s).1.1 != 48 then([],5)else bif (AB (BI s).1.2.1).2 != 0 then([],(AB (BI s).1.2.1).2)else
  bif Bq (fun a=>(IV a).2) (AB (BI s).1.2.1).1 != 0 then([],Bq (fun a=>(IV a).2) (AB (BI s).1.2.1).1)else
  bif Et ((AB (BI s).1.2.1).1.map fun a=>(IV a).1) != 0 then([],Et ((AB (BI s).1.2.1).1.map fun a=>(IV a).1))else((AB (BI s).1.2.1).1.map fun a=>(IV a).1,0)
theorem An4 (l:List Nat):(two l).length<=l.length+1:=by
  cases l with
  | nil=>exact Nat.zero_le _
  | cons n t=>show t.length+1+1<=t.length+1+1;omega
theorem AgU (s:Bs):(Ij (ND s)).1.length<=1048576:=by
  cases h:ND s with
  | none=>show 0<=_;omega
  | some a =>
    unfold ND at h
    cases hn:DN 4294967294 s 0 false []with
    | none=>rw[hn]at h;cases h
    | some l =>
      rw[hn]at h
      simp only[Option.bind_some]at h
      split at h
      ·cases h
      ·rename_i hne
       unfold upTo at h
       split at h
       ·rename_i hu
        injection h with h
        subst h
        have h1:=aS (two l) (fun x hx=>by have:=hu x hx;omega)
        have h2:=An4 l
        show(Gy (two l)).length<=_
        omega
       ·cases h
theorem AgA (e:El) (he:e.2.1.length<=1048576):KO (Ih e).1:=by
  have hg:Good 1048576 (AB e.2.1).1:=(BG e.2.1).mono he
  have hz:KO zA:=⟨by show 0<=_;omega,by show 0<=_;omega⟩
  unfold Ih
  cases e.1 != 48 with
  | true=>exact hz
  | false =>
    rw[cond_false]
    cases (AB e.2.1).2 != 0 with
    | true=>exact hz
    | false =>
      rw[cond_false]
      match (AB e.2.1).1,hg with
      | [],_=>exact hz
      | a::l,hg =>
        dsimp only
        cases a.1 != 6 with
        | true=>exact hz
        | false =>
          rw[cond_false]
          cases h3:(Ij (ND a.2.1)).2 != 0 with
          | true=>exact hz
          | false =>
            rw[cond_false]
            match l,hg with
            | [],_=>exact hz
            | b::m,hg =>
              dsimp only
              have hb:=(hg.all b (by simp)).content
              cases b.1 != 12&&b.1 != 19&&b.1 != 22 with
              | true=>exact hz
              | false =>
                match m with
                | []=>exact⟨AgU _,by show b.2.1.length<=_;omega⟩
                | _::_=>exact hz
theorem aG (e:El) (he:e.2.1.length<=1048576): ∀ a∈(IV e).1,KO a:=by
  have hg:Good 1048576 (AB e.2.1).1:=(BG e.2.1).mono he
  unfold IV
  cases e.1 != 49<;>cases (AB e.2.1).2 != 0<;>cases mV (AB e.2.1).1<;>cases Bq (fun a=>(Ih a).2) (AB e.2.1).1 != 0<;>intro a ha
  all_goals first
    | exact absurd ha (List.not_mem_nil)
    | (obtain⟨x,hx,rfl⟩:=List.mem_map.1 ha
       exact AgA x (by have:=(hg.all x hx).content;omega))
theorem wH (N:Nat) (s:Bs) (hN:1048578<N) (hs:s.length<=1048576):OT N s=some (nmD s):=by
  unfold OT
  try simp only[clR]
  rw[aU N s (by omega) (by omega)]
  have hc:=Hy s
  unfold nmD
  generalize BI s=o at hc ⊢
  rw[Ae]
  rw[H8 N o.1.2.1 (by omega) (by omega) (by omega)]
  have hg:Good 1048576 (AB o.1.2.1).1:=(BG o.1.2.1).mono (by omega)
  generalize AB o.1.2.1=r at hg ⊢
  obtain⟨l,er⟩:=r
  have hlen:l.length<=1048576:=hg.len
  rw[Ae]
  dsimp only
  simp only[<- Bc]
  refine CW fun _=>CW fun _=>CW fun _=> ?_
  refine(Kt (fun i acc=>((i:Int),acc)) l (0,[],[]) (fun a=>(IV a).2) (fun a=>(IV a).1) (fun e=>some ([],e)) (fun acc=>Ac (EN N acc) fun r60=>bif r60 != 0 then some ([],r60)else some (acc,0)) ?_ ?_ N (by omega)).trans ?_
  ·intro i acc hi ha k
   have hc:=(hg.all _ (getD_mem (0,[],[]) hi)).content
   dsimp only at hc
   have hE:=AlJ N (l.getD i (0,[],[])) hN (by omega)
   simp (disch:=first | assumption | omega) only[Am,hE]
   generalize IV (l.getD i (0,[],[]))=y
   cases y.2 != 0<;>rfl
  ·intro acc k ha
   simp (disch:=first | assumption | omega) only[Am]
  ·rw[Nh N _ hN (fun p hp e he=>by
     obtain⟨x,hx,rfl⟩:=List.mem_map.1 hp
     exact aG x (by have:=(hg.all x hx).content;omega) e he),Ae]
theorem AbW (N:Nat) (s:Bs) (hN:1048578<N) (hs:s.length<=1048576):IL N s=some (nmD s):=by
  unfold IL
  try simp only[clR]
  rw[Vl N s (by omega) (by omega)]
  have hc:=Hy s
  unfold nmD
  generalize BI s=o at hc ⊢
  rw[Ae,Uw N o.1 48 hN (by omega)]
  unfold ZJ
  have hg:Good 1048576 (AB o.1.2.1).1:=(BG o.1.2.1).mono (by omega)
  generalize AB o.1.2.1=r at hg ⊢
  obtain⟨l,er⟩:=r
  have hlen:l.length<=1048576:=hg.len
  rw[Ae]
  dsimp only
  cases o.2 != 0 with
  | true=>rfl
  | false =>
    cases o.1.1 != 48 with
    | true=>rfl
    | false =>
      dsimp only[cond_false]
      cases er != 0 with
      | true=>rfl
      | false =>
        dsimp only[cond_false]
        simp only[<- Bc]
        refine(Kt (fun i acc=>((i:Int),acc)) l (0,[],[]) (fun a=>(IV a).2) (fun a=>(IV a).1) (fun e=>some ([],e)) (fun acc=>Ac (Dx N acc) fun r60=>bif r60 != 0 then some ([],r60)else some (acc,0)) ?_ ?_ N (by omega)).trans ?_
        ·intro i acc hi ha k
         have hc:=(hg.all _ (getD_mem (0,[],[]) hi)).content
         dsimp only at hc
         have hE:=Uw N (l.getD i (0,[],[])) 49 hN (by omega)
         simp (disch:=first | assumption | omega) only[Am,hE]
         generalize l.getD i (0,[],[])=e at hc
         unfold ZJ IV
         cases e.1 != 49 with
         | true=>rfl
         | false =>
           have hgi:Good 1048576 (AB e.2.1).1:=(BG e.2.1).mono (by omega)
           generalize AB e.2.1=ri at hgi ⊢
           obtain⟨li,ei⟩:=ri
           have hli:li.length<=1048576:=hgi.len
           dsimp only[cond_false]
           cases h5:ei != 0 with
           | true=>show some ([],ei)=bif ei != 0 then some ([],ei)else _;rw[h5];rfl
           | false =>
             rw[cond_false,Amh N li hN hli,Ae,Bool.not_not]
             cases mV li with
             | true=>rfl
             | false =>
               rw[cond_false]
               refine(Kt (fun j a=>((j:Int),a,acc)) li (0,[],[]) (fun a=>(Ih a).2) (fun a=>(Ih a).1) (fun e=>some ([],e)) (fun a=>k (((i+1:Nat):Int),acc++[a])) ?_ ?_ N (by omega)).trans ?_
               ·intro j a hj haj k2
                have hc2:=(hgi.all _ (getD_mem (0,[],[]) hj)).content
                dsimp only at hc2
                have hE2:=Ami N (li.getD j (0,[],[])) hN (by omega)
                simp (disch:=first | assumption | omega) only[Am,hE2]
                generalize Ih (li.getD j (0,[],[]))=y
                cases y.2 != 0<;>rfl
               ·intro a k2 haj
                simp (disch:=first | assumption | omega) only[Am]
                rfl
               ·cases h6:Bq (fun a=>(Ih a).2) li != 0 with
                | true=>show some ([],Bq (fun a=>(Ih a).2) li)=bif Bq (fun a=>(Ih a).2) li != 0 then some ([],Bq (fun a=>(Ih a).2) li)else _;rw[h6];rfl
                | false=>rfl
        ·intro acc k ha
         simp (disch:=first | assumption | omega) only[Am]
        ·rw[QN N _ hN (fun p hp e he=>by
           obtain⟨x,hx,rfl⟩:=List.mem_map.1 hp
           exact aG x (by have:=(hg.all x hx).content;omega) e he),Ae]
theorem jV (s:Bs) (hs:s.length<=1048576):DF (nmD s).1:=by
  have hc:=Hy s
  have hg:Good 1048576 (AB (BI s).1.2.1).1:=(BG _).mono (by omega)
  unfold nmD
  intro p hp
  cases h1:(BI s).2 != 0 with
  | true=>rw[h1]at hp;cases hp
  | false =>
    cases h2:(BI s).1.1 != 48 with
    | true=>rw[h1,h2]at hp;cases hp
    | false =>
      cases h3:(AB (BI s).1.2.1).2 != 0 with
      | true=>rw[h1,h2,h3]at hp;cases hp
      | false =>
        cases h4:Bq (fun a=>(IV a).2) (AB (BI s).1.2.1).1 != 0 with
        | true=>rw[h1,h2,h3,h4]at hp;cases hp
        | false =>
          rw[h1,h2,h3,h4]at hp
          simp only[cond_false]at hp
          have hp:p∈(AB (BI s).1.2.1).1.map fun a=>(IV a).1:=by
            revert hp
            cases Et ((AB (BI s).1.2.1).1.map fun a=>(IV a).1) != 0 with
            | true=>intro hp;cases hp
            | false=>intro hp;exact hp
          obtain⟨x,hx,rfl⟩:=List.mem_map.1 hp
          exact aG x (by have:=(hg.all x hx).content;omega)
def zG:Gn:=(0,[],[])
def gnC (g:Gn) (c:Bool):Gn×Int:=bif Dp g c != 0 then(zG,Dp g c)else(g,0)
def gnD (e:El) (c:Bool):Gn×Int :=
  bif e.1==129||e.1==130||e.1==135 then gnC (e.1 - 128,e.2.1,[]) c else
  bif e.1==164 then(bif (nmD e.2.1).2 != 0 then(zG,(nmD e.2.1).2)else gnC (4,[],(nmD e.2.1).1) c)else(zG,5)
theorem wX (N:Nat) (e:El) (c:Bool) (hN:1048578<N) (he:e.2.1.length<=1048576):OY N e c=some (gnD e c):=by
  obtain⟨t,s,w⟩:=e
  have he:s.length<=1048576:=he
  have hC: ∀ k,FP N (k,s,[]) c=some (Dp (k,s,[]) c):=fun k=>Ll N _ c hN ⟨he,fun p hp=>by cases hp⟩
  have hD:=wH N s hN he
  have hC4:=Ll N (4,[],(nmD s).1) c hN ⟨by show 0<=_;omega,jV s he⟩
  unfold OY
  try simp only[clR]
  unfold gnD gnC
  by_cases h1:t=129
  ·subst h1;simp (disch:=first | assumption | omega) only[Am,hC,Bc];rfl
  ·by_cases h2:t=130
   ·subst h2;simp (disch:=first | assumption | omega) only[Am,hC,Bc];rfl
   ·by_cases h3:t=135
    ·subst h3;simp (disch:=first | assumption | omega) only[Am,hC,Bc];rfl
    ·by_cases h4:t=164
     ·subst h4;simp (disch:=first | assumption | omega) only[Am,hC4,hD,Bc];rfl
     ·simp (disch:=first | assumption | omega) only[Am];rfl
theorem qY (N:Nat) (e:El) (c:Bool) (hN:1048578<N) (he:e.2.1.length<=1048576):Gu N e c=some (gnD e c):=by
  obtain⟨t,s,w⟩:=e
  have he:s.length<=1048576:=he
  have hC: ∀ k,D5 N (k,s,[]) c=some (Dp (k,s,[]) c):=fun k=>JC N _ c hN ⟨he,fun p hp=>by cases hp⟩
  have hD:=AbW N s hN he
  have hC4:=JC N (4,[],(nmD s).1) c hN ⟨by show 0<=_;omega,jV s he⟩
  unfold Gu
  try simp only[clR]
  unfold gnD gnC
  by_cases h1:t=129
  ·subst h1;simp (disch:=first | assumption | omega) only[Am,hC,Bc];rfl
  ·by_cases h2:t=130
   ·subst h2;simp (disch:=first | assumption | omega) only[Am,hC,Bc];rfl
   ·by_cases h3:t=135
    ·subst h3;simp (disch:=first | assumption | omega) only[Am,hC,Bc];rfl
    ·by_cases h4:t=164
     ·subst h4;simp (disch:=first | assumption | omega) only[Am,hC4,hD,Bc];rfl
     ·simp (disch:=first | assumption | omega) only[Am];rfl
theorem AiT (e:El) (c:Bool) (he:e.2.1.length<=1048576):Jr (gnD e c).1:=by
  have hz:Jr zG:=⟨by show 0<=_;omega,fun p hp=>by cases hp⟩
  have hC: ∀ g:Gn,Jr g->Jr (gnC g c).1:=fun g hg=>by
    unfold gnC
    cases Dp g c != 0
    ·exact hg
    ·exact hz
  unfold gnD
  cases e.1==129||e.1==130||e.1==135 with
  | true=>exact hC _ ⟨he,fun p hp=>by cases hp⟩
  | false =>
    cases e.1==164 with
    | false=>exact hz
    | true =>
      cases h:(nmD e.2.1).2 != 0 with
      | true=>exact hz
      | false=>exact hC _ ⟨by show 0<=_;omega,jV _ he⟩
def E5 (s:Bs):List Gn×Int :=
  bif (AB s).2 != 0 then([],(AB s).2)else bif (AB s).1.isEmpty then([],7)else bif decide (16<(AB s).1.length)then([],2)else
  bif Bq (fun a=>(gnD a false).2) (AB s).1 != 0 then([],Bq (fun a=>(gnD a false).2) (AB s).1)else((AB s).1.map fun a=>(gnD a false).1,0)
theorem Qe (N:Nat) (s:Bs) (hN:1048578<N) (hs:s.length<=1048576):Ec N s=some (E5 s):=by
  unfold Ec MN
  try simp only[clR]
  rw[H8 N s (by omega) (by omega) (by omega)]
  unfold E5
  have hg:Good 1048576 (AB s).1:=(BG s).mono hs
  generalize AB s=r at hg ⊢
  obtain⟨l,er⟩:=r
  have hlen:l.length<=1048576:=hg.len
  rw[Ae]
  dsimp only
  rw[<- Bc]
  refine CW fun _=> ?_
  cases hl:l with
  | nil=>rfl
  | cons a0 l0 =>
    rw[<- hl]
    have hp:0<l.length:=by rw[hl];exact Nat.succ_pos _
    have he:l.isEmpty=false:=by rw[hl];rfl
    rw[he,cond_false]
    by_cases h16:16<l.length
    ·simp (disch:=first | assumption | omega) only[Am]
    ·simp (disch:=first | assumption | omega) only[Am]
     rw[<- Bc]
     refine(Kt (fun i acc=>((i:Int),acc)) l (0,[],[]) (fun a=>(gnD a false).2) (fun a=>(gnD a false).1) (fun e=>some ([],e)) (fun acc=>some (acc,0)) ?_ ?_ N (by omega)).trans ?_
     ·intro i acc hi ha k
      have hc:=(hg.all _ (getD_mem (0,[],[]) hi)).content
      dsimp only at hc
      have hE:=wX N (l.getD i (0,[],[])) false hN (by omega)
      simp (disch:=first | assumption | omega) only[Am,hE]
      generalize gnD (l.getD i (0,[],[])) false=y
      cases y.2 != 0<;>rfl
     ·intro acc k ha
      simp (disch:=first | assumption | omega) only[Am]
     ·rfl
theorem aY (N:Nat) (s:Bs) (hN:1048578<N) (hs:s.length<=1048576):Gm N s=some (E5 s):=by
  unfold Gm
  try simp only[clR]
  rw[SL N s (by omega) (by omega) (by omega)]
  unfold E5
  have hg:Good 1048576 (AB s).1:=(BG s).mono hs
  generalize AB s=r at hg ⊢
  obtain⟨l,er⟩:=r
  have hlen:l.length<=1048576:=hg.len
  rw[Ae]
  dsimp only
  rw[<- Bc]
  refine CW fun _=> ?_
  cases hl:l with
  | nil=>rfl
  | cons a0 l0 =>
    rw[<- hl]
    have hp:0<l.length:=by rw[hl];exact Nat.succ_pos _
    have he:l.isEmpty=false:=by rw[hl];rfl
    rw[he,cond_false]
    by_cases h16:16<l.length
    ·simp (disch:=first | assumption | omega) only[Am]
    ·simp (disch:=first | assumption | omega) only[Am]
     rw[<- Bc]
     refine(Kt (fun i acc=>((i:Int),acc)) l (0,[],[]) (fun a=>(gnD a false).2) (fun a=>(gnD a false).1) (fun e=>some ([],e)) (fun acc=>some (acc,0)) ?_ ?_ N (by omega)).trans ?_
     ·intro i acc hi ha k
      have hc:=(hg.all _ (getD_mem (0,[],[]) hi)).content
      dsimp only at hc
      have hE:=qY N (l.getD i (0,[],[])) false hN (by omega)
      simp (disch:=first | assumption | omega) only[Am,hE]
      generalize gnD (l.getD i (0,[],[])) false=y
      cases y.2 != 0<;>rfl
     ·intro acc k ha
      simp (disch:=first | assumption | omega) only[Am]
     ·rfl
theorem Df {α :Type} {P: α ->Prop} {b:Bool} {x y: α} (hx:P x) (hy:b=false->P y):P (bif b then x else y):=by
  cases b
  ·exact hy rfl
  ·exact hx
def nG (r:List Gn×Int):Prop:=(∀ g∈r.1,Jr g)/\r.1.length<=16
theorem xB (s:Bs) (hs:s.length<=1048576):nG (E5 s):=by
  have hg:Good 1048576 (AB s).1:=(BG s).mono hs
  have hz: ∀ e:Int,nG ([],e):=fun e=>⟨fun g hg=>(by cases hg),by show 0<=16;omega⟩
  refine Df (P:=nG) (hz _) fun _=>Df (P:=nG) (hz _) fun _=>Df (P:=nG) (hz _) fun h16=>Df (P:=nG) (hz _) fun _=>⟨fun g hgm=> ?_,?_⟩
  ·obtain⟨x,hx,rfl⟩:=List.mem_map.1 hgm
   exact AiT x false (by have:=(hg.all x hx).content;omega)
  ·show((AB s).1.map _).length<=16
   rw[List.length_map];have:=of_decide_eq_false h16;omega
def leB (a b:Bs):Bool:=Vm.bytesLess a b||a==b
theorem Ajh (a b:Bs):leB a b=decide (a<=b):=by
  unfold leB Vm.bytesLess
  rw[bytesLess_eq]
  by_cases h:a=b
  ·subst h
   rw[beq_self_eq_true,Bool.or_true]
   exact(decide_eq_true (List.le_refl a)).symm
  ·rw[beq_false_of_ne h,Bool.or_false]
   by_cases h2:a<b
   ·rw[decide_eq_true h2,decide_eq_true (List.le_of_lt h2)]
   ·rw[decide_eq_false h2,decide_eq_false]
    intro h3
    exact h (List.le_antisymm h3 (by simpa using h2))
def MB (x:Bs):List Bs->List Bs
  | []=>[x]
  | y::r=>bif leB y x then y::MB x r else x::y::r
theorem Zv (x:Bs): ∀ s:List Bs,(MB x s).Perm (x::s):=by
  intro s
  induction s with
  | nil=>exact List.Perm.refl _
  | cons y r ih =>
    show(bif leB y x then y::MB x r else x::y::r).Perm _
    cases leB y x with
    | true=>exact(List.Perm.cons y ih).trans (List.Perm.swap x y r)
    | false=>exact List.Perm.refl _
theorem Aky (x:Bs): ∀ s:List Bs,s.Pairwise (fun a b=>a<=b)->(MB x s).Pairwise (fun a b=>a<=b):=by
  intro s
  induction s with
  | nil=>intro _;exact List.pairwise_singleton _ _
  | cons y r ih =>
    intro h
    rw[List.pairwise_cons]at h
    show(bif leB y x then y::MB x r else x::y::r).Pairwise _
    cases hl:leB y x with
    | true =>
      rw[Ajh,decide_eq_true_eq]at hl
      rw[cond_true,List.pairwise_cons]
      refine⟨fun z hz=> ?_,ih h.2⟩
      rcases List.mem_cons.1 ((Zv x r).mem_iff.1 hz)with rfl | hz
      ·exact hl
      ·exact h.1 z hz
    | false =>
      rw[Ajh,decide_eq_false_iff_not]at hl
      have hxy:x<=y:=by
        rcases List.le_total x y with h | h
        ·exact h
        ·exact absurd h hl
      rw[cond_false,List.pairwise_cons,List.pairwise_cons]
      refine⟨fun z hz=> ?_,h⟩
      rcases List.mem_cons.1 hz with rfl | hz
      ·exact hxy
      ·exact List.le_trans hxy (h.1 z hz)
theorem Aee: ∀(l s:List Bs),s.Pairwise (fun a b=>a<=b)->(l.foldl (fun s x=>MB x s) s).Pairwise (fun a b=>a<=b)/\(l.foldl (fun s x=>MB x s) s).Perm (l++s):=by
  intro l
  induction l with
  | nil=>intro s h;exact⟨h,List.Perm.refl _⟩
  | cons x r ih =>
    intro s h
    obtain⟨h1,h2⟩:=ih (MB x s) (Aky x s h)
    refine⟨h1,h2.trans ?_⟩
    exact((Zv x s).append_left r).trans List.perm_middle
theorem AkJ (l:List Bs):(l.foldl (fun s x=>MB x s) []).flatten=Gj l:=by
  unfold Gj
  congr 1
  obtain⟨h1,h2⟩:=Aee l [] List.Pairwise.nil
  rw[List.append_nil]at h2
  refine List.Perm.eq_of_pairwise (le:=fun a b=>a<=b) (fun a b _ _ h3 h4=>List.le_antisymm h3 h4) h1 ?_ (h2.trans (List.mergeSort_perm l _).symm)
  have:=List.pairwise_mergeSort (le:=fun x y:Bs=>decide (x<=y)) (fun a b c h3 h4=>by
    rw[decide_eq_true_eq]at *
    exact List.le_trans h3 h4) (fun a b=>by
    rw[Bool.or_eq_true,decide_eq_true_eq,decide_eq_true_eq]
    exact List.le_total a b) l
  exact this.imp (fun h=>by simpa using h)
theorem AlW (x:Bs): ∀ s:List Bs,s.take (s.findIdx fun y=> !leB y x)++x::s.drop (s.findIdx fun y=> !leB y x)=MB x s:=by
  intro s
  induction s with
  | nil=>rfl
  | cons y r ih =>
    rw[List.findIdx_cons]
    show _=bif leB y x then y::MB x r else x::y::r
    cases leB y x with
    | true=>rw[Bool.not_true,cond_false,cond_true,List.take_succ_cons,List.drop_succ_cons,List.cons_append,ih]
    | false=>rfl
theorem AaU (N:Nat) (l:List Bs) (hN:1048578<N) (hl:l.length<=1048576) (hf:l.flatten.length<=1099511627776):Rh N l=some (Gj l):=by
  unfold Rh
  try simp only[clR]
  refine(WI (S:=List Bs) (R:=Unit) (mk:=fun i s=>((i:Int),s)) l [] (fun i s=>s.length=i/\s=(l.take i).foldl (fun s x=>MB x s) []) (fun x s=>.inr (MB x s)) (fun _=>none) (fun s=>some s.flatten) ?_ ?_ ?_ N [] ⟨rfl,rfl⟩ (by omega)).trans ?_
  ·intro i s hi hI k
   obtain⟨hs,_⟩:=hI
   have hp:(MB (l.getD i []) s).length=i+1:=by rw[(Zv _ s).length_eq,List.length_cons,hs]
   simp (disch:=first | assumption | omega) only[Am]
   refine(Afa (mk:=fun j=>((j:Int),s)) (out:=fun j=>((j:Int),s)) s [] (fun y=> !leB y (l.getD i [])) ?_ ?_ N (by omega)).trans ?_
   ·intro j k hj
    simp (disch:=first | assumption | omega) only[Am,BZ]
    unfold leB
    cases (Vm.bytesLess (s.getD j []) (l.getD i [])||s.getD j []==l.getD i [])<;>rfl
   ·intro k
    simp (disch:=first | assumption | omega) only[Am]
   ·have hc:=AlW (l.getD i []) s
    have hle:(s.findIdx fun y=> !leB y (l.getD i []))<=s.length:=List.findIdx_le_length
    generalize (s.findIdx fun y=> !leB y (l.getD i []))=m at hc hle
    have hc1:Ar s 0 m=s.take m:=rfl
    have hc2:Ar s m s.length=s.drop m:=by unfold Ar;rw[List.take_length]
    have hl1:(s.take m).length=m:=by rw[List.length_take];omega
    have hl2:(s.drop m).length=s.length - m:=List.length_drop ..
    have hl3:(s.take m++[l.getD i []]).length=m+1:=by rw[List.length_append,hl1];rfl
    simp (disch:=first | assumption | omega) only[Am,hc1,hc2,hl1,hl2,hl3,BZ]
    rw[List.append_assoc,List.singleton_append,hc]
  ·intro i s s' hi hI he
   injection he with he
   subst he
   refine⟨by rw[(Zv _ s).length_eq,List.length_cons,hI.1],?_⟩
   rw[hI.2,List.take_add_one,List.getElem?_eq_getElem hi,List.foldl_append,getD_lt l i _ hi];rfl
  ·intro s k hI
   have hp:s.flatten.length<=1099511627776:=by
     have:=(Aee l [] List.Pairwise.nil).2
     rw[List.append_nil]at this
     have h2:=hI.2
     rw[List.take_length]at h2
     rw[<- h2]at this
     have h3:=(this.map List.length).sum_nat
     rw[List.length_flatten]at hf ⊢
     omega
   have hsl:=hI.1
   simp (disch:=first | assumption | omega) only[Am]
   refine(Aaj (mk:=fun i t=>(t,(i:Int),s)) s [] id some ?_ ?_ N (by omega)).trans ?_
   ·intro i t hi ht k
    rw[List.map_id]at ht
    have ht:t.length+(s.getD i []).length<=s.flatten.length:=ht
    simp (disch:=first | assumption | omega) only[Am,BZ]
    rfl
   ·intro t k
    simp (disch:=first | assumption | omega) only[Am]
   ·rw[List.map_id]
  ·have: ∀(l s:List Bs),Gt (R:=Unit) (fun x (s:List Bs)=>.inr (MB x s)) l s= .inr (l.foldl (fun s x=>MB x s) s):=by
     intro l
     induction l with
     | nil=>intro s;rfl
     | cons x r ih=>intro s;rw[FB];exact ih _
   rw[this,Aao,AkJ]
