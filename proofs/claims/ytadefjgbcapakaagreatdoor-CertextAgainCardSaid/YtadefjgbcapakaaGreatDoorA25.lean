import Derived.Test.YtadefjgbcapakaaGreatDoorA24
set_option linter.all false
namespace Go.Proofs.YtadefjgbcapakaaGreatDoor.Pl
open IntKind (i64)
open Go Vm
def Ht:List Bs:=[[49,46,50,46,51,46,49],[49,46,50,46,51,46,50],[49,46,50,46,51,46,51],[49,46,50,46,51,46,52],[49,46,50,46,51,46,53],[50,46,57,57,57,46,49],[50,46,57,57,57,46,50],[49,46,50,46,51],[50,46,53,46,50,57,46,51,50,46,48]]
def Kq:List Bs:=[[49,46,51,46,54,46,49,46,53,46,53,46,55,46,51,46,49],[49,46,51,46,54,46,49,46,53,46,53,46,55,46,51,46,50],[49,46,51,46,54,46,49,46,53,46,53,46,55,46,51,46,51],[49,46,51,46,54,46,49,46,53,46,53,46,55,46,51,46,52],[50,46,53,46,50,57,46,51,55,46,48]]
theorem AkC:([(true,-1),(true,0),(true,1),(true,2),(true,3),(false,-1)]:List (Bool×Int)).all (fun p=>Ak9 (KL p.1 p.2)==0&&(Vk (Dn (KL p.1 p.2)).1 1).1==p.1&&(OB (Be (Dn (KL p.1 p.2)).1 1).2.2 2).1==p.2&&decide ((KL p.1 p.2).length<=100))=true:=by kernel_rfl
theorem Ami:(List.range 511).all (fun n=>Amj (Sp.elem 3 (flB (n+1:Nat)))==0&&(flP (cU (Sp.elem 3 (flB (n+1:Nat))))).1==((n+1:Nat):Int)&&decide ((flB (n+1:Nat)).length<=10))=true:=by kernel_rfl
theorem Ani:(Ht++Kq).all (fun s=>WC (A8 6 (FX s))==(s,0)&&decide ((FX s).length<=40)&&EI s&&decide (s.length<=40))=true:=by kernel_rfl
theorem Anu:Ht.all (fun s=>Ji (A8 48 (BJ s))==(s,0))=true:=by kernel_rfl
theorem Anv:Ht.all (fun s=>Ht.all fun t=>MI (A8 48 (BJ s++BJ t))==((s,t),0))=true:=by kernel_rfl
theorem Aom:([-1,0,1,2,3]:List Int).all (fun r=>([-1,0,1,2,3]:List Int).all fun m=>(r== -1&&m== -1)||(Al0 (YP r m)==0&&(OB (CQ (YP r m)).1 128).1==r&&(OB (Be (CQ (YP r m)).1 128).2.2 129).1==m&&decide ((YP r m).length<=100)))=true:=by kernel_rfl
theorem Aoi:(List.range 65).all (fun n=>Alk (Sp.elem 2 (inB n))==0&&(WB (C9 (Sp.elem 2 (inB n)) 2).1.2.1).1==(n:Int)&&decide ((inB n).length<=10))=true:=by kernel_rfl
def skL:List Bs:=[[],[48,49,50,51,52,53,54,55,56,57,97,98,99,100,101,102],[120]]
def akL:List Bs:=[[],[102,101,100,99,98,97,57,56,55,54,53,52,51,50,49,48]]
theorem Ap1:skL.all (fun s=>(s==[])||(AhL (Sp.elem 4 s)==0&&(C9 (Sp.elem 4 s) 4).1.2.1==s))=true:=by kernel_rfl
theorem Apd:akL.all (fun s=>(s==[])||(Ak7 (Sp.elem 48 (Sp.elem 128 s))==0&&(Cj (Dn (Sp.elem 48 (Sp.elem 128 s))).1 128).1.2.1==s))=true:=by kernel_rfl
theorem Akf {c:Bs} (h:c.length<=131072):Dn (Sp.elem 48 c)=AV c:=by
  unfold Dn
  rw[show C9 (Sp.elem 48 c) 48=(A8 48 c,0)from V7 48 c (by decide) (by decide) h];rfl
theorem fO {c:Bs} {l:List El} (h:c.length<=131072) (hl:AV c=(l,0)) (hn:l≠ []):CQ (Sp.elem 48 c)=(l,0):=by
  unfold CQ
  rw[Akf h,hl]
  show(bif l.isEmpty then _ else _)=_
  cases l with
  | nil=>exact absurd rfl hn
  | cons a r=>rfl
structure ApA (s:Bs):Prop where
  rd:WC (A8 6 (FX s))=(s,0)
  len:(FX s).length<=40
  ok:EI s=true
  sh:s.length<=40
theorem MP {s:Bs} (h:s∈Ht++Kq):ApA s:=by
  have h:=List.all_eq_true.1 Ani s h
  simp only[Bool.and_eq_true,beq_iff_eq,decide_eq_true_eq]at h
  exact⟨h.1.1.1,h.1.1.2,h.1.2,h.2⟩
theorem oH {E:Type} {g:E->Bs} {M:Nat} {l:List E} (h: ∀ e∈l,(g e).length<=M) (hl:l.length<=3):(l.map g).flatten.length<=M*3 :=
  Nat.le_trans (Dy (g:=g) (M:=M) (l:=l) h) (Nat.mul_le_mul_left _ hl)
theorem Aoh {l:List Bs} (h: ∀ s∈l,s∈Ht++Kq) (h0:l≠ []) (h3:l.length<=3):Acv (Ub l)=0/\Ahx (CQ (Ub l)).1=l/\(Ub l).length<=200:=by
  have hl:(l.map BJ).flatten.length<=135:=oH (M:=45) (fun s hs=>by
    have:=(MP (h s hs)).len
    have:=Sp.Ar 6 (FX s)
    unfold BJ;omega) h3
  have h2:=E8 (l.map fun s=>(6,FX s)) (fun q hq=>by
    obtain⟨s,hs,rfl⟩:=List.mem_map.1 hq
    exact Nb 6 _ (by decide) (by decide) (by have:=(MP (h s hs)).len;omega))
  rw[List.map_map,List.map_map]at h2
  have h2:AV (l.map BJ).flatten=(l.map fun s=>A8 6 (FX s),0):=h2
  have hn:CQ (Ub l)=(l.map fun s=>A8 6 (FX s),0):=fO (by omega) h2 (by simpa using h0)
  refine⟨?_,?_,by have:=Sp.Ar 48 (l.map BJ).flatten;unfold Ub;omega⟩
  ·unfold Acv Am1
   rw[hn]
   show AU _ (l.map fun s=>A8 6 (FX s))=0
   exact JJ fun e he=>by
     obtain⟨s,hs,rfl⟩:=List.mem_map.1 he
     rw[(MP (h s hs)).rd]
  ·unfold Ahx
   rw[hn,List.map_map]
   exact(List.map_congr_left fun s hs=>by show(WC _).1=id s;rw[(MP (h s hs)).rd];rfl).trans (List.map_id l)
theorem Aow {l:List Bs} (h: ∀ s∈l,s∈Ht) (h0:l≠ []) (h3:l.length<=3):Qu Ji (Ur l)=0/\Qv Ji (Ur l)=l/\(Ur l).length<=200:=by
  have ho: ∀ s∈l,(BJ s).length<=45:=fun s hs=>by
    have:=(MP (List.mem_append_left _ (h s hs))).len
    have:=Sp.Ar 6 (FX s)
    unfold BJ;omega
  have hl:(l.map fun s=>Sp.elem 48 (BJ s)).flatten.length<=150:=oH (M:=50) (fun s hs=>by
    have:=ho s hs
    have:=Sp.Ar 48 (BJ s)
    omega) h3
  have h2:=E8 (l.map fun s=>(48,BJ s)) (fun q hq=>by
    obtain⟨s,hs,rfl⟩:=List.mem_map.1 hq
    exact Nb 48 _ (by decide) (by decide) (by have:=ho s hs;omega))
  rw[List.map_map,List.map_map]at h2
  have h2:AV (l.map fun s=>Sp.elem 48 (BJ s)).flatten=(l.map fun s=>A8 48 (BJ s),0):=h2
  have hn:CQ (Ur l)=(l.map fun s=>A8 48 (BJ s),0):=fO (by omega) h2 (by simpa using h0)
  have hr: ∀ s∈l,Ji (A8 48 (BJ s))=(s,0):=fun s hs=>by simpa using List.all_eq_true.1 Anu s (h s hs)
  refine⟨?_,?_,by have:=Sp.Ar 48 (l.map fun s=>Sp.elem 48 (BJ s)).flatten;unfold Ur;omega⟩
  ·unfold Qu
   rw[hn]
   show AU _ (l.map fun s=>A8 48 (BJ s))=0
   exact JJ fun e he=>by
     obtain⟨s,hs,rfl⟩:=List.mem_map.1 he
     rw[hr s hs]
  ·unfold Qv
   rw[hn,List.map_map]
   exact(List.map_congr_left fun s hs=>by show(Ji _).1=id s;rw[hr s hs];rfl).trans (List.map_id l)
theorem Aoo {l:List (Bs×Bs)} (h: ∀ m∈l,m.1∈Ht/\m.2∈Ht) (h0:l≠ []) (h3:l.length<=3):Qu MI (Uf l)=0/\Qv MI (Uf l)=l/\(Uf l).length<=400:=by
  have ho: ∀ s∈Ht,(BJ s).length<=45:=fun s hs=>by
    have:=(MP (List.mem_append_left _ hs)).len
    have:=Sp.Ar 6 (FX s)
    unfold BJ;omega
  have hp: ∀ m∈l,(BJ m.1++BJ m.2).length<=90:=fun m hm=>by
    have:=ho _ (h m hm).1
    have:=ho _ (h m hm).2
    rw[List.length_append];omega
  have hl:(l.map fun m=>Sp.elem 48 (BJ m.1++BJ m.2)).flatten.length<=285:=oH (M:=95) (fun m hm=>by
    have:=hp m hm
    have:=Sp.Ar 48 (BJ m.1++BJ m.2)
    omega) h3
  have h2:=E8 (l.map fun m=>(48,BJ m.1++BJ m.2)) (fun q hq=>by
    obtain⟨m,hm,rfl⟩:=List.mem_map.1 hq
    exact Nb 48 _ (by decide) (by decide) (by have:=hp m hm;omega))
  rw[List.map_map,List.map_map]at h2
  have h2:AV (l.map fun m=>Sp.elem 48 (BJ m.1++BJ m.2)).flatten=(l.map fun m=>A8 48 (BJ m.1++BJ m.2),0):=h2
  have hn:CQ (Uf l)=(l.map fun m=>A8 48 (BJ m.1++BJ m.2),0):=fO (by omega) h2 (by simpa using h0)
  have hr: ∀ m∈l,MI (A8 48 (BJ m.1++BJ m.2))=(m,0):=fun m hm=>by
    have:=List.all_eq_true.1 (List.all_eq_true.1 Anv m.1 (h m hm).1) m.2 (h m hm).2
    simpa using this
  refine⟨?_,?_,by have:=Sp.Ar 48 (l.map fun m=>Sp.elem 48 (BJ m.1++BJ m.2)).flatten;unfold Uf;omega⟩
  ·unfold Qu
   rw[hn]
   show AU _ (l.map fun m=>A8 48 (BJ m.1++BJ m.2))=0
   exact JJ fun e he=>by
     obtain⟨m,hm,rfl⟩:=List.mem_map.1 he
     rw[hr m hm]
  ·unfold Qv
   rw[hn,List.map_map]
   exact(List.map_congr_left fun m hm=>by show(MI _).1=id m;rw[hr m hm];rfl).trans (List.map_id l)
section
variable (N:Nat) (hN:1048578<N)
include hN
theorem AdQ (b:Bool) (x:Info) (h1:spI x.2.2.2.2.2.2.2.1=true) (h2:spI x.2.2.2.2.2.2.2.2.1=true):Fz N b x=some (YP x.2.2.2.2.2.2.2.1 x.2.2.2.2.2.2.2.2.1,b):=by
  unfold Fz
  try simp only[clR]
  generalize x.2.2.2.2.2.2.2.1=re at *
  generalize x.2.2.2.2.2.2.2.2.1=im at *
  obtain⟨p1,_,l1⟩:=MX N re hN h1
  obtain⟨p2,_,l2⟩:=MX N im hN h2
  have q1:=Sp.Ar 128 (inB re)
  have q2:=Sp.Ar 129 (inB im)
  have w1:Aj N b 128 [inB re]=_:=NI N 128 b [inB re] (by omega) (by omega) hN (by simp) (by rw[CU];omega)
  have w2:Aj N b 129 [inB im]=_:=NI N 129 b [inB im] (by omega) (by omega) hN (by simp) (by rw[CU];omega)
  rw[CU]at w1 w2
  have w1':Aj N b (128+((0:Nat):Int)) [inB re]=some (Sp.elem 128 (inB re),b):=w1
  have w2':Aj N b (128+((1:Nat):Int)) [inB im]=some (Sp.elem 129 (inB im),b):=w2
  have g0: [re,im].getD 0 0=re:=rfl
  have g1: [re,im].getD 1 0=im:=rfl
  have g2: [re,im].length=2:=rfl
  refine(NW (S:=List Bs) (R:=Unit) (mk:=fun i s=>((i:Int),b,s,[re,im])) (List.range 2) 0 (fun _ s=>s.length=2) (fun i s=>.inr (bif [re,im].getD i 0 != -1 then s.set i (Sp.elem (128+i) (inB ([re,im].getD i 0)))else s)) (fun _=>none) (fun s=>Ac (AZ N b s) fun r=>some (r.1,r.2)) ?_ ?_ ?_ N [[],[]] rfl (by rw[List.length_range];omega)).trans ?_
  ·intro i s hi hI k
   rw[List.length_range]at hi
   rw[Zd hi]
   have hl:s.length=2:=hI
   rcases(by omega:i=0\/i=1)with rfl | rfl
   ·dsimp only[U4]
    simp (disch:=first | assumption | omega) only[A7,hl,g0,g2,p1,w1',BU]
    cases re != -1<;>rfl
   ·dsimp only[U4]
    simp (disch:=first | assumption | omega) only[A7,hl,g1,g2,p2,w2',BU]
    cases im != -1<;>rfl
  ·intro i s s' hi hI he
   injection he with he
   subst he
   cases [re,im].getD ((List.range 2).getD i 0) 0 != -1
   ·exact hI
   ·show(s.set _ _).length=2
    rw[List.length_set];exact hI
  ·intro s k hI
   rw[List.length_range]
   dsimp only[U4]
   simp (disch:=first | assumption | omega) only[A7]
  ·show(Ac (AZ N b (bif im != -1 then(bif re != -1 then [Sp.elem 128 (inB re),[]]else [[],[]]).set 1 (Sp.elem 129 (inB im))else(bif re != -1 then [Sp.elem 128 (inB re),[]]else [[],[]]))) fun r=>some (r.1,r.2))=_
   have e:(bif im != -1 then(bif re != -1 then [Sp.elem 128 (inB re),[]]else [[],[]]).set 1 (Sp.elem 129 (inB im))else(bif re != -1 then [Sp.elem 128 (inB re),[]]else [[],[]]))=[bif re != -1 then Sp.elem 128 (inB re)else [],bif im != -1 then Sp.elem 129 (inB im)else []]:=by
     cases re != -1<;>cases im != -1<;>rfl
   rw[e,gV N hN b _ (by simp) ?_,Ae,Sj]
   ·rfl
   ·rw[Sj,List.length_append]
    cases re != -1<;>cases im != -1<;>simp only[cond_true,cond_false,List.length_nil]<;>omega
theorem AbJ (b:Bool) (x:Info) (h:spI x.2.2.2.2.2.2.2.2.2.1=true):EL N b x=some (Sp.elem 2 (inB x.2.2.2.2.2.2.2.2.2.1),b):=by
  unfold EL
  rw[Aid N hN b h,Ae]
theorem AeW (b:Bool) (x:Info) (hs:FZ x.2.2.2.2.2.2.2.2.2.2.1) (h:x.2.2.2.2.2.2.2.2.2.2.1.length<=16/\AU (fun g=>CY g false) x.2.2.2.2.2.2.2.2.2.2.1=0) (h0:x.2.2.2.2.2.2.2.2.2.2.1≠ []):FP N b x=some (Sp.elem 48 (BD x.2.2.2.2.2.2.2.2.2.2.1),b):=by
  have hl:=AaG h.2 h.1
  unfold FP
  rw[P7 N _ hN hs,Adv h0 h.1 h.2,Ae,JR,Ae]
  have hq:=gV N hN b [BD x.2.2.2.2.2.2.2.2.2.2.1] (by simp) (by rw[CU];omega)
  rw[CU]at hq
  show Ac (AZ N (b||false) [BD x.2.2.2.2.2.2.2.2.2.2.1]) _=_
  rw[Bool.or_false,hq,Ae]
theorem kQ (b:Bool) (x:Info) (hx:KG x):Ey N b x=some ((Pj (x.2.2.2.2.2.2.2.2.2.2.2.2.1,x.2.2.2.2.2.2.2.2.2.2.2.2.2.1)).1,b||(Pj (x.2.2.2.2.2.2.2.2.2.2.2.2.1,x.2.2.2.2.2.2.2.2.2.2.2.2.2.1)).2 != 0):=by
  unfold Ey
  rw[kT N (x.2.2.2.2.2.2.2.2.2.2.2.2.1,x.2.2.2.2.2.2.2.2.2.2.2.2.2.1) hN hx.pe hx.ex,Ae,JR,Ae]
  congr 3
  by_cases h:(Pj (x.2.2.2.2.2.2.2.2.2.2.2.2.1,x.2.2.2.2.2.2.2.2.2.2.2.2.2.1)).2=0<;>simp [h]
theorem AbK (b:Bool) (x:Info) (h:x.2.2.2.2.2.2.2.2.2.2.2.2.2.2.1.length<=32):EM N b x=some (Sp.elem 4 x.2.2.2.2.2.2.2.2.2.2.2.2.2.2.1,b):=by
  have w:Aj N b 4 [x.2.2.2.2.2.2.2.2.2.2.2.2.2.2.1]=_:=NI N 4 b [x.2.2.2.2.2.2.2.2.2.2.2.2.2.2.1] (by omega) (by omega) hN (by simp) (by rw[CU];omega)
  rw[CU]at w
  unfold EM
  rw[w,Ae]
theorem wF (b:Bool) (x:Info) (h:x.2.2.2.2.2.2.2.2.2.2.2.2.2.2.2.1.length<=32):Ea N b x=some (Sp.elem 48 (Sp.elem 128 x.2.2.2.2.2.2.2.2.2.2.2.2.2.2.2.1),b):=by
  have hl:=Sp.Ar 128 x.2.2.2.2.2.2.2.2.2.2.2.2.2.2.2.1
  have w:Aj N b 128 [x.2.2.2.2.2.2.2.2.2.2.2.2.2.2.2.1]=_:=NI N 128 b [x.2.2.2.2.2.2.2.2.2.2.2.2.2.2.2.1] (by omega) (by omega) hN (by simp) (by rw[CU];omega)
  rw[CU]at w
  have hq:=gV N hN b [Sp.elem 128 x.2.2.2.2.2.2.2.2.2.2.2.2.2.2.2.1] (by simp) (by rw[CU];omega)
  rw[CU]at hq
  unfold Ea
  rw[w,Ae]
  dsimp only
  rw[hq,Ae]
theorem AdR (b:Bool) (x:Info) (hx:KG x):G7 N b x=some ((J7 x.2.2.2.2.2.2.2.2.2.2.2.2.2.2.2.2.1).1,b||(J7 x.2.2.2.2.2.2.2.2.2.2.2.2.2.2.2.2.1).2 != 0):=by
  unfold G7
  rw[LY N _ hN hx.pt,Ae,JR,Ae]
  congr 3
  by_cases h:(J7 x.2.2.2.2.2.2.2.2.2.2.2.2.2.2.2.2.1).2=0<;>simp [h]
theorem Aai (b:Bool) (x:Info) (hx:KG x):FD N b x=some ((J7 x.2.2.2.2.2.2.2.2.2.2.2.2.2.2.2.2.2.1).1,b||(J7 x.2.2.2.2.2.2.2.2.2.2.2.2.2.2.2.2.2.1).2 != 0):=by
  unfold FD
  rw[LY N _ hN hx.fr,Ae,JR,Ae]
  congr 3
  by_cases h:(J7 x.2.2.2.2.2.2.2.2.2.2.2.2.2.2.2.2.2.1).2=0<;>simp [h]
omit hN in
theorem AlN (x:Info) (i:Nat) (hi:i<13):(oN x).getD i false=((Em x).getD i noX).1:=by
  obtain⟨hb,ca,pl,us,pu,po,ma,re,im,ia,na,hc,pe,ex,sk,ak,pt,fr,un⟩:=x
  have:i=0\/i=1\/i=2\/i=3\/i=4\/i=5\/i=6\/i=7\/i=8\/i=9\/i=10\/i=11\/i=12:=by omega
  rcases this with rfl | rfl | rfl | rfl | rfl | rfl | rfl | rfl | rfl | rfl | rfl | rfl | rfl<;>rfl
omit hN in
theorem Aka (x:Info) (i:Nat) (hi:i<13):((Cm.getD i ([],0,0,0,0)).1,(Cm.getD i ([],0,0,0,0)).2.1==1||(Cm.getD i ([],0,0,0,0)).1==[50,46,53,46,50,57,46,51,51])=(((Em x).getD i noX).2.2.1,((Em x).getD i noX).2.2.2.1):=by
  obtain⟨hb,ca,pl,us,pu,po,ma,re,im,ia,na,hc,pe,ex,sk,ak,pt,fr,un⟩:=x
  have:i=0\/i=1\/i=2\/i=3\/i=4\/i=5\/i=6\/i=7\/i=8\/i=9\/i=10\/i=11\/i=12:=by omega
  rcases this with rfl | rfl | rfl | rfl | rfl | rfl | rfl | rfl | rfl | rfl | rfl | rfl | rfl<;>rfl
theorem AkT (b:Bool) (x:Info) (hx:KG x) (h0:J3 x=0) (i:Nat) (hi:i<13) (hh:((Em x).getD i noX).1=true):yJ N (Cm.getD i ([],0,0,0,0)).2.2.2.1 (b,x)=some (((Em x).getD i noX).2.2.2.2,b||((Em x).getD i noX).2.1):=by
  have e0:=fun h=>AeV N hN b x h
  have e1:=fun h=>AeX N hN b x h
  have e2:=fun h=>Aal N hN b x hx.pu.2 h
  have e3:=fun h=>Aak N hN b x hx.po.2 h
  have e4:=fun h=>Aaj N hN b x hx.ma h
  have e5:=fun h1 h2=>AdQ N hN b x h1 h2
  have e6:=fun h=>AbJ N hN b x h
  have e7:=fun h h0=>AeW N hN b x hx.na h h0
  have e8:=kQ N hN b x hx
  have e9:=fun h=>AbK N hN b x h
  have e10:=fun h=>wF N hN b x h
  have e11:=AdR N hN b x hx
  have e12:=Aai N hN b x hx
  obtain⟨hb,ca,pl,us,pu,po,ma,re,im,ia,na,hc,pe,ex,sk,ak,pt,fr,un⟩:=x
  obtain⟨ok,_⟩:=Alj h0
  have hor:b=(b||false):=(Bool.or_false b).symm
  have:i=0\/i=1\/i=2\/i=3\/i=4\/i=5\/i=6\/i=7\/i=8\/i=9\/i=10\/i=11\/i=12:=by omega
  rcases this with rfl | rfl | rfl | rfl | rfl | rfl | rfl | rfl | rfl | rfl | rfl | rfl | rfl
  ·show FO N b _=some (KL ca pl,b||false)
   rw[<- hor];exact e0 ok.sp.1
  ·show FQ N b _=some (_,b||false)
   rw[<- hor];exact e1 ok.us
  ·show Et N b _=some (_,b||false)
   rw[<- hor];exact e2 ok.pu
  ·show Es N b _=some (_,b||false)
   rw[<- hor];exact e3 ok.po
  ·show Ep N b _=some (_,b||false)
   rw[<- hor];exact e4 ok.ma
  ·show Fz N b _=some (_,b||false)
   rw[<- hor];exact e5 ok.sp.2.1 ok.sp.2.2.1
  ·show EL N b _=some (_,b||false)
   rw[<- hor];exact e6 ok.sp.2.2.2
  ·show FP N b _=some (_,b||false)
   rw[<- hor]
   refine e7 ok.na ?_
   intro hna
   have hna:na=[]:=hna
   subst hna
   cases hh
  ·exact e8
  ·show EM N b _=some (_,b||false)
   rw[<- hor];exact e9 ok.sk
  ·show Ea N b _=some (_,b||false)
   rw[<- hor];exact e10 ok.ak
  ·exact e11
  ·exact e12
end
end Go.Proofs.YtadefjgbcapakaaGreatDoor.Pl
namespace Go.Proofs.YtadefjgbcapakaaGreatDoor.Pl
open IntKind (i64)
open Go Vm
theorem Aj5: ∀(l:List (Bool×Bool×Ex)) (s:Bool×List Ex),FC (R:=Unit) (fun r s=>.inr (s.1||mJ r,s.2++O6 r)) l s= .inr (s.1||l.any mJ,s.2++l.flatMap O6):=by
  intro l
  induction l with
  | nil=>intro s;rw[List.any_nil,List.flatMap_nil,Bool.or_false,List.append_nil];rfl
  | cons r t ih =>
    intro s
    rw[Fh]
    show FC (R:=Unit) _ t _=_
    rw[ih,List.any_cons,List.flatMap_cons,Bool.or_assoc,List.append_assoc]
theorem AaY (x:Info):(Em x).length=13:=rfl
theorem Ada (r:Bool×Bool×Ex):(O6 r).length<=1:=by
  unfold O6
  cases r.1<;>simp
theorem Rt (N:Nat) (x:Info) (hN:1048578<N) (hx:KG x):FM N x=some (encI x):=by
  have hdisp:=AcL N x
  have hput:=fun(b:Bool) (h0:J3 x=0)=>AkT N hN b x hx h0
  have hhas:=AlN x
  have hcrit:=Aka x
  have hlen:=AaY x
  have hrl:=qJ
  have hck:=Tq N x hN hx
  have hun:=hx.un.1
  unfold FM encI
  try simp only[clR]
  rw[hck,Ae,<- Bh]
  refine BR fun h0=> ?_
  have h0:J3 x=0:=by simpa using h0
  obtain⟨hb,ca,pl,us,pu,po,ma,re,im,ia,na,hc,pe,ex,sk,ak,pt,fr,un⟩:=x
  have hun:un.length<=1048576:=hun
  generalize hX:(hb,ca,pl,us,pu,po,ma,re,im,ia,na,hc,pe,ex,sk,ak,pt,fr,un)=X at *
  rw[show Gm N=some Cm from rfl,Ae]
  subst hX
  refine(NW (S:=Bool×List Ex) (R:=Unit) (mk:=fun i s=>((i:Int),hb,ca,pl,us,pu,po,ma,re,im,ia,na,hc,pe,ex,sk,ak,pt,fr,un,s.1,s.2)) (Em (hb,ca,pl,us,pu,po,ma,re,im,ia,na,hc,pe,ex,sk,ak,pt,fr,un)) noX (fun i s=>s.2.length<=i) (fun r s=>.inr (s.1||mJ r,s.2++O6 r)) (fun _=>none) (fun s=>bif s.1 then some ([],2)else Vm.chk (decide ((s.2.length+un.length)*41<=140737488355328)) (some (s.2++un,0))) ?_ ?_ ?_ N (false,[]) (Nat.le_refl _) (by rw[hlen];omega)).trans ?_
  ·intro i s hi hI k
   rw[hlen]at hi
   have hI:s.2.length<=i:=hI
   have hd:=hdisp i hi
   rw[hhas i hi]at hd
   have hp:=hput s.1 h0 i hi
   have hcr:=hcrit i hi
   dsimp only[U22]
   rw[Int.toNat_natCast]
   generalize (Em (hb,ca,pl,us,pu,po,ma,re,im,ia,na,hc,pe,ex,sk,ak,pt,fr,un)).getD i noX=r at *
   generalize Cm.getD i ([],0,0,0,0)=q at *
   obtain⟨hc1,hc2⟩:=Prod.mk.inj hcr
   simp (disch:=first | assumption | omega) only[A7,hrl,hd,BU]
   unfold mJ O6
   cases hr:r.1 with
   | false=>rw[cond_false,cond_false,Bool.false_and,Bool.or_false,List.append_nil]
   | true =>
     rw[cond_true,hp hr,Ae,cond_true,Bool.true_and]
     dsimp only
     rw[hc2,hc1]
  ·intro i s s' hi hI he
   injection he with he
   subst he
   have:=Ada ((Em (hb,ca,pl,us,pu,po,ma,re,im,ia,na,hc,pe,ex,sk,ak,pt,fr,un)).getD i noX)
   have hI:s.2.length<=i:=hI
   show(s.2++O6 _).length<=i+1
   rw[List.length_append];omega
  ·intro s k hI
   rw[hlen]
   dsimp only[U22]
   rw[hrl,sF (by omega),cond_false]
   rfl
  ·rw[Aj5,yF]
   have hl:((Em (hb,ca,pl,us,pu,po,ma,re,im,ia,na,hc,pe,ex,sk,ak,pt,fr,un)).flatMap O6).length<=13:=by
     have: ∀ l:List (Bool×Bool×Ex),(l.flatMap O6).length<=l.length:=by
       intro l
       induction l with
       | nil=>simp
       | cons r t ih =>
         have:=Ada r
         rw[List.flatMap_cons,List.length_append,List.length_cons];omega
     have:=this (Em (hb,ca,pl,us,pu,po,ma,re,im,ia,na,hc,pe,ex,sk,ak,pt,fr,un))
     rw[hlen]at this
     exact this
   dsimp only
   rw[Bool.false_or,List.nil_append,vF (by omega),AP,Bh]
def xR:List (Bool×Int):=[(true,-1),(true,0),(true,1),(true,2),(true,3),(false,-1)]
def oW:List Int:=[-1,0,1,2,3]
def unX (c:Bool):Ex:=([49,46,50,46,51,46,52,46,53],c,[5,0])
def unY:Ex:=([49,46,50,46,51,46,52,46,54],false,[48,3,2,1,7])
def unL:List (List Ex):=[[],[unX true],[unX false],[unX true,unY],[unX false,unY]]
structure iY (L l:List Bs):Prop where
  len:l.length<=3
  all: ∀ s∈l,s∈L
  nod:l.Nodup
structure Aco (l:List (Bs×Bs)):Prop where
  len:l.length<=3
  all: ∀ m∈l,m.1∈Ht/\m.2∈Ht
  nod:l.Nodup
structure OkI (x:Info):Prop where
  bas:(x.1=true/\(x.2.1,x.2.2.1)∈xR)\/(x.1=false/\x.2.1=false/\x.2.2.1= -1)
  us:0<=x.2.2.2.1/\x.2.2.2.1<=511
  pu:iY Kq x.2.2.2.2.1
  po:iY Ht x.2.2.2.2.2.1
  ma:Aco x.2.2.2.2.2.2.1
  re:x.2.2.2.2.2.2.2.1∈oW
  im:x.2.2.2.2.2.2.2.2.1∈oW
  ia: -1<=x.2.2.2.2.2.2.2.2.2.1/\x.2.2.2.2.2.2.2.2.2.1<=64
  na:x.2.2.2.2.2.2.2.2.2.2.1.length<=2/\ ∀ g∈x.2.2.2.2.2.2.2.2.2.2.1,okG false g
  con:(x.2.2.2.2.2.2.2.2.2.2.2.1=false/\x.2.2.2.2.2.2.2.2.2.2.2.2.1=[]/\x.2.2.2.2.2.2.2.2.2.2.2.2.2.1=[])\/(x.2.2.2.2.2.2.2.2.2.2.2.1=true/\okS (x.2.2.2.2.2.2.2.2.2.2.2.2.1,x.2.2.2.2.2.2.2.2.2.2.2.2.2.1))
  sk:x.2.2.2.2.2.2.2.2.2.2.2.2.2.2.1∈skL
  ak:x.2.2.2.2.2.2.2.2.2.2.2.2.2.2.2.1∈akL
  pt:x.2.2.2.2.2.2.2.2.2.2.2.2.2.2.2.2.1=[]\/WE x.2.2.2.2.2.2.2.2.2.2.2.2.2.2.2.2.1
  fr:x.2.2.2.2.2.2.2.2.2.2.2.2.2.2.2.2.2.1=[]\/WE x.2.2.2.2.2.2.2.2.2.2.2.2.2.2.2.2.2.1
  un:x.2.2.2.2.2.2.2.2.2.2.2.2.2.2.2.2.2.2∈unL
def inK:Info->List Ex->Info
  | (hb,ca,pl,us,pu,po,ma,re,im,ia,na,hc,pe,ex,sk,ak,pt,fr,_),un=>(hb,ca,pl,us,pu,po,ma,re,im,ia,na.map gnK,hc,pe.map gnK,ex.map gnK,sk,ak,pt.map ptK,fr.map ptK,un)
theorem Sz {α :Type} {l:List α} (h:l.Nodup) {i:Nat} (hi:i<l.length) (d: α):l.getD i d∉l.take i:=by
  intro hm
  rw[getD_lt l i d hi]at hm
  have h2:=List.take_append_drop i l
  rw[<- h2,List.nodup_append]at h
  have hd:l[i]∈l.drop i:=by rw[List.drop_eq_getElem_cons hi];exact List.mem_cons_self
  exact h.2.2 _ hm _ hd rfl
theorem Aji {L l:List Bs} {m:Int} (h:iY L l) (hL: ∀ s∈L,s∈Ht++Kq) (hm:3<=m):Wv l m=0:=by
  unfold Wv
  have:=h.len
  rw[decide_eq_false (by omega),cond_false]
  refine JJ fun i hi=> ?_
  rw[List.mem_range]at hi
  unfold idI
  rw[(MP (hL _ (h.all _ (getD_mem [] hi)))).ok,List.any_eq_false.2 fun y hy=> ?_]
  ·rfl
  ·intro he
   rw[beq_iff_eq]at he
   subst he
   exact Sz h.nod hi [] hy
theorem Aop {l:List (Bs×Bs)} (h:Aco l):fM l=0:=by
  unfold fM
  have:=h.len
  rw[decide_eq_false (by omega),cond_false]
  refine JJ fun i hi=> ?_
  rw[List.mem_range]at hi
  have hm:=h.all _ (getD_mem ([],[]) hi)
  unfold mpI
  rw[(MP (List.mem_append_left _ hm.1)).ok,(MP (List.mem_append_left _ hm.2)).ok,List.any_eq_false.2 fun y hy=> ?_]
  ·rfl
  ·intro he
   rw[Bool.and_eq_true,beq_iff_eq,beq_iff_eq]at he
   have:y=l.getD i ([],[]):=Prod.ext he.1 he.2
   subst this
   exact Sz h.nod hi ([],[]) hy
theorem AnQ {hb ca:Bool} {pl:Int} (h:(hb=true/\(ca,pl)∈xR)\/(hb=false/\ca=false/\pl= -1)):((ca&& !hb)||(pl != -1&& !ca))=false/\spI pl=true:=by
  rcases h with ⟨rfl,h⟩ | ⟨rfl,rfl,rfl⟩
  ·have:xR.all (fun p=>(((p.1&& !true)||(p.2 != -1&& !p.1))==false)&&(spI p.2))=true:=by kernel_rfl
   have:=List.all_eq_true.1 this _ h
   rw[Bool.and_eq_true,beq_iff_eq]at this
   exact this
  ·exact⟨rfl,rfl⟩
theorem Ajz {n:Int} (h:n∈oW):spI n=true:=List.all_eq_true.1 (show oW.all spI=true by kernel_rfl) n h
def unR:List (List Ex):=unL++unL.map List.reverse
theorem jG {un:List Ex} (h:un∈unR):Aay un=0/\un.length<=2/\ ∀ x∈un,Aec x:=by
  have:=List.all_eq_true.1 (show unR.all (fun un=>Aay un==0&&decide (un.length<=2)&&un.all fun x=>decide (x.1.length<=40)&&decide (x.2.2.length<=40))=true by kernel_rfl) un h
  simp only[Bool.and_eq_true,beq_iff_eq,decide_eq_true_eq,List.all_eq_true]at this
  exact⟨this.1.1,this.1.2,fun x hx=>by have:=this.2 x hx;exact⟨by unfold FK;omega,by unfold FK;omega⟩⟩
section
variable {hb ca:Bool} {pl us:Int} {pu po:List Bs} {ma:List (Bs×Bs)} {re im ia:Int} {na:List Gn} {hc:Bool} {pe ex:List Gn} {sk ak:Bs} {pt fr:List Pt} {un un':List Ex}
theorem Ajj (h:OkI (hb,ca,pl,us,pu,po,ma,re,im,ia,na,hc,pe,ex,sk,ak,pt,fr,un)) {na' pe' ex':List Gn} {pt' fr':List Pt} (hu:un'∈unR)
    (hna:na'.length<=16/\ ∀ g∈na',CY g false=0) (hco:Y7 hc (pe',ex')=0) (hpt:FY pt'=0) (hfr:FY fr'=0) :
    J3 (hb,ca,pl,us,pu,po,ma,re,im,ia,na',hc,pe',ex',sk,ak,pt',fr',un')=0:=by
  obtain⟨h1,h2,h3,h4,h5,h6,h7,h8,h9,h10,h11,h12,h13,h14,h15⟩:=h
  dsimp only at h1 h2 h3 h4 h5 h6 h7 h8 h9 h10 h11 h12 h13 h14 h15
  obtain⟨b1,b2⟩:=AnQ h1
  have u:=jG hu
  have hs:sk.length<=32:=of_decide_eq_true (List.all_eq_true.1 (show skL.all (fun s=>decide (s.length<=32))=true by kernel_rfl) sk h11)
  have ha:ak.length<=32:=of_decide_eq_true (List.all_eq_true.1 (show akL.all (fun s=>decide (s.length<=32))=true by kernel_rfl) ak h12)
  have hi:spI ia=true:=by unfold spI;rw[decide_eq_true (show ia>= -1 from h8.1),decide_eq_true h8.2];rfl
  have hn:Hr na' false=0:=by unfold Hr;exact JJ hna.2
  have hcnt:(oN (hb,ca,pl,us,pu,po,ma,re,im,ia,na',hc,pe',ex',sk,ak,pt',fr',un')).count true<=13:=List.count_le_length
  unfold J3
  dsimp only
  rw[b1,b2,Ajz h6,Ajz h7,hi,Aji h3 (fun s hs=>List.mem_append_right _ hs) (by decide),Aji h4 (fun s hs=>List.mem_append_left _ hs) (by decide),Aop h5,hn,hco,hpt,hfr,u.1,
    decide_eq_false (show ¬ us<0 by omega),decide_eq_false (show ¬ us>511 by omega),decide_eq_false (show ¬ 16<na'.length by omega),decide_eq_false (show ¬ 32<sk.length by omega),decide_eq_false (show ¬ 32<ak.length by omega),decide_eq_false (by have:=u.2.1;omega)]
  rfl
theorem Amu (h:(hc=false/\pe=[]/\ex=[])\/(hc=true/\okS (pe,ex))):Y7 hc (pe,ex)=0/\Y7 hc (pe.map gnK,ex.map gnK)=0:=by
  unfold Y7
  rcases h with ⟨rfl,rfl,rfl⟩ | ⟨rfl,h⟩
  ·exact⟨rfl,rfl⟩
  ·have:=wR 2097152 (by decide) h
   exact⟨this.i0,this.i1⟩
theorem Acu (h:pt=[]\/WE pt):FY pt=0/\FY (pt.map ptK)=0:=by
  rcases h with rfl | h
  ·exact⟨rfl,rfl⟩
  ·exact⟨(Ut h).i0,(Ut h).i1⟩
end
theorem iG {un:List Ex} (h:un∈unL):un∈unR/\un.reverse∈unR:=⟨List.mem_append_left _ h,List.mem_append_right _ (List.mem_map.2 ⟨un,h,rfl⟩)⟩
theorem Ana {x:Info} (h:OkI x):J3 x=0:=by
  obtain⟨hb,ca,pl,us,pu,po,ma,re,im,ia,na,hc,pe,ex,sk,ak,pt,fr,un⟩:=x
  exact Ajj h (iG h.un).1 ⟨by have:=h.na.1;dsimp only at this;omega,fun g hg=>(EP (h.na.2 g hg)).i0⟩ (Amu h.con).1 (Acu h.pt).1 (Acu h.fr).1
theorem Adn {x:Info} (h:OkI x) {un:List Ex} (hu:un∈unR):J3 (inK x un)=0:=by
  obtain⟨hb,ca,pl,us,pu,po,ma,re,im,ia,na,hc,pe,ex,sk,ak,pt,fr,un'⟩:=x
  exact Ajj h hu ⟨by have:=h.na.1;dsimp only at this;rw[List.length_map];omega,fun q hq=>by obtain⟨g,hg,rfl⟩:=List.mem_map.1 hq;exact(EP (h.na.2 g hg)).i1⟩ (Amu h.con).2 (Acu h.pt).2 (Acu h.fr).2
end Go.Proofs.YtadefjgbcapakaaGreatDoor.Pl
namespace Go.Proofs.YtadefjgbcapakaaGreatDoor.Pl
open IntKind (i64)
open Go Vm
theorem Ee (N:Nat) (j:Info) (l:List Ex) (x:Ex) (row:Rw) (hN:1048578<N) (hv:BF N x.1=some true) (hl:l.length<=1048576) (hb:l.any (fun y=>y.1==x.1)=false) (hf:Bq N x.1=some (row,true))
    (h1:(bif row.2.1==1 then !x.2.1 else false)=false) (h2:(bif row.2.1==0 then x.2.1 else false)=false):Bv N j l x=Ac (iO N row.2.2.2.2 (x.2.2,j)) fun r=>some (r.1,r.2):=by
  obtain⟨hb',ca,pl,us,pu,po,ma,re,im,ia,na,hc,pe,ex,sk,ak,pt,fr,un⟩:=j
  obtain⟨id,c,v⟩:=x
  dsimp only at hv hb hf h1 h2 ⊢
  unfold Bv
  rw[hv,Ae]
  simp only[Bool.not_true,cond_false]
  refine(SN (mk:=fun i=>((i:Int),hb',ca,pl,us,re,im,ia,na,hc,pe,ex,sk,ak,pt,fr,pu,po,ma,un,id,c,v)) l ([],false,[]) (fun y=>y.1==id) (some (10,(hb',ca,pl,us,pu,po,ma,re,im,ia,na,hc,pe,ex,sk,ak,pt,fr,un)))
    (Ac (iO N row.2.2.2.2 (v,(hb',ca,pl,us,pu,po,ma,re,im,ia,na,hc,pe,ex,sk,ak,pt,fr,un))) fun r=>some (r.1,r.2)) ?_ ?_ N (by omega)).trans ?_
  ·intro i hi k
   dsimp only[U23]
   simp (disch:=first | assumption | omega) only[A7,BU]
  ·intro k
   dsimp only[U23]
   rw[sF (by omega),cond_false]
   dsimp only[U22]
   rw[hf,Ae]
   simp only[Bool.not_true,cond_false,zQ]
   rw[h1]
   simp only[cond_false,Bool.not_false,Bool.true_and,Bool.or_not_self,AP,Bool.not_true,Bool.true_or,Bool.or_false,Bool.cond_self,cond_true,Bool.or_self]
   rw[h2]
   cases row.2.1==1<;>cases row.2.1==0<;>rfl
  ·rw[hb];rfl
theorem Ama (N:Nat) (hb' ca:Bool) (pl us:Int) (pu po:List Bs) (ma:List (Bs×Bs)) (re im ia:Int) (na:List Gn) (hc:Bool) (pe ex:List Gn) (sk ak:Bs) (pt fr:List Pt) (un:List Ex) (l:List Ex) (x:Ex) (row:Rw) (hN:1048578<N) (hv:BF N x.1=some true) (hl:l.length<=1048576) (hb:l.any (fun y=>y.1==x.1)=false) (hf:Bq N x.1=some (row,false)) (hu:un.length<=100)
    (ht:Iz N x.2.2=some 0):Bv N (hb',ca,pl,us,pu,po,ma,re,im,ia,na,hc,pe,ex,sk,ak,pt,fr,un) l x=some (0,(hb',ca,pl,us,pu,po,ma,re,im,ia,na,hc,pe,ex,sk,ak,pt,fr,un++[x])):=by
  obtain⟨id,c,v⟩:=x
  dsimp only at hv hb hf ht ⊢
  unfold Bv
  rw[hv,Ae]
  simp only[Bool.not_true,cond_false]
  refine(SN (mk:=fun i=>((i:Int),hb',ca,pl,us,re,im,ia,na,hc,pe,ex,sk,ak,pt,fr,pu,po,ma,un,id,c,v)) l ([],false,[]) (fun y=>y.1==id) (some (10,(hb',ca,pl,us,pu,po,ma,re,im,ia,na,hc,pe,ex,sk,ak,pt,fr,un)))
    (some (0,(hb',ca,pl,us,pu,po,ma,re,im,ia,na,hc,pe,ex,sk,ak,pt,fr,un++[(id,c,v)]))) ?_ ?_ N (by omega)).trans ?_
  ·intro i hi k
   dsimp only[U23]
   simp (disch:=first | assumption | omega) only[A7,BU]
  ·intro k
   dsimp only[U23]
   rw[sF (by omega),cond_false]
   dsimp only[U22]
   rw[hf,Ae]
   simp only[Bool.not_false,cond_true]
   rw[bw (by omega),ht,Ae]
  ·rw[hb];rfl
theorem AaU {X Y ρ :Type} {B:X->(X->Option ρ)->(Y->Option ρ)->Option ρ} {kx:Y->Option ρ} (mk:Nat->X) (n:Nat) (fin:Option ρ)
    (h: ∀ i,i<n-> ∀ k,B (mk i) k kx=k (mk (i+1))) (hend: ∀ k,B (mk n) k kx=fin) (N:Nat) (hN:n<N):Ap B N (mk 0) kx=fin :=
  YE (S:=Unit) (fun i _=>mk i) n (fun _ s=>s) (fun _=>fin) (fun i _ hi k=>h i hi k) (fun _ k=>hend k) N () hN
theorem AfM (N:Nat) (l:List Ex) (J:Nat->Info) (hN:1048578<N) (hl:l.length<=24) (h0:J 0=(false,false,-1,0,[],[],[],-1,-1,-1,[],false,[],[],[],[],[],[],[]))
    (hs: ∀ i,i<l.length->Bv N (J i) (l.take i) (l.getD i ([],false,[]))=some (0,J (i+1))) (hsm:KG (J l.length)) (hi:J3 (J l.length)=0):GX N l=some (J l.length,0):=by
  have hck:=Tq N (J l.length) hN hsm
  rw[hi]at hck
  unfold GX
  rw[Amv (by omega),cond_false,show KO N=some (false,false,-1,0,[],[],[],-1,-1,-1,[],false,[],[],[],[],[],[],[])from rfl,Ae,<- h0]
  refine AaU (fun i=>((i:Int),(J i).1,(J i).2.1,(J i).2.2.1,(J i).2.2.2.1,(J i).2.2.2.2.2.2.2.1,(J i).2.2.2.2.2.2.2.2.1,(J i).2.2.2.2.2.2.2.2.2.1,(J i).2.2.2.2.2.2.2.2.2.2.1,(J i).2.2.2.2.2.2.2.2.2.2.2.1,(J i).2.2.2.2.2.2.2.2.2.2.2.2.1,(J i).2.2.2.2.2.2.2.2.2.2.2.2.2.1,(J i).2.2.2.2.2.2.2.2.2.2.2.2.2.2.1,(J i).2.2.2.2.2.2.2.2.2.2.2.2.2.2.2.1,(J i).2.2.2.2.2.2.2.2.2.2.2.2.2.2.2.2.1,(J i).2.2.2.2.2.2.2.2.2.2.2.2.2.2.2.2.2.1,(J i).2.2.2.2.2.2.2.2.2.2.2.2.2.2.2.2.2.2,(J i).2.2.2.2.2.2.1,(J i).2.2.2.2.2.1,(J i).2.2.2.2.1)) l.length (some (J l.length,0)) ?_ ?_ N (by omega)
  ·intro i hi' k
   dsimp only[U20]
   rw[Ag0 (by omega),cond_true,sD (by omega),sD (by omega),AP,AP,AP,AP]
   show Ac (Bv N (J i) (l.take i) (l.getD i ([],false,[]))) _=_
   rw[hs i hi',Ae]
   show k (i64.wrap ((i:Int)+1),_)=_
   rw[w64 (by omega) (by omega)]
   rfl
  ·intro k
   dsimp only[U20]
   rw[sF (by omega),cond_false]
   dsimp only[U19]
   show Ac (Ia N (J l.length)) _=_
   rw[hck,Ae]
   rfl
def part (x:Info) (S:Nat->Bool) (u:List Ex):Info :=
  match x with
  | (hb,ca,pl,us,pu,po,ma,re,im,ia,na,hc,pe,ex,sk,ak,pt,fr,_) =>
    (bif S 0 then hb else false,bif S 0 then ca else false,bif S 0 then pl else -1,bif S 1 then us else 0,bif S 2 then pu else [],bif S 3 then po else [],bif S 4 then ma else [],bif S 5 then re else -1,bif S 5 then im else -1,bif S 6 then ia else -1,
     bif S 7 then na.map gnK else [],bif S 8 then hc else false,bif S 8 then pe.map gnK else [],bif S 8 then ex.map gnK else [],bif S 9 then sk else [],bif S 10 then ak else [],bif S 11 then pt.map ptK else [],bif S 12 then fr.map ptK else [],u)
theorem Gives.is0 {e:Int} {u:Info} {o:Option (Int×Info)} (h:Gives e u o) (he:e=0):o=some (0,u):=by
  obtain⟨j,rfl,h2⟩:=h
  subst he;rw[h2 rfl]
def xk (x:Info) (k:Nat):Ex:=((Em x).getD k noX).2.2
def hasK (x:Info) (k:Nat):Bool:=((Em x).getD k noX).1
section
variable {hb ca:Bool} {pl us:Int} {pu po:List Bs} {ma:List (Bs×Bs)} {re im ia:Int} {na:List Gn} {hc:Bool} {pe ex:List Gn} {sk ak:Bs} {pt fr:List Pt} {un:List Ex} (N:Nat) (hN:1048578<N) (h:OkI (hb,ca,pl,us,pu,po,ma,re,im,ia,na,hc,pe,ex,sk,ak,pt,fr,un)) (S:Nat->Bool) (u:List Ex)
include hN h
theorem ApM (hh:hb=true) (hS:S 0=false):EE N (KL ca pl) (part (hb,ca,pl,us,pu,po,ma,re,im,ia,na,hc,pe,ex,sk,ak,pt,fr,un) S u)=some (0,part (hb,ca,pl,us,pu,po,ma,re,im,ia,na,hc,pe,ex,sk,ak,pt,fr,un) (fun i=>S i||i==0) u):=by
  have hb1:(ca,pl)∈xR:=by
    rcases h.bas with ⟨_,h1⟩ | ⟨h1,_⟩
    ·exact h1
    ·rw[hh]at h1;cases h1
  have f:=List.all_eq_true.1 AkC _ hb1
  simp only[Bool.and_eq_true,beq_iff_eq,decide_eq_true_eq]at f
  obtain⟨⟨⟨e0,e1⟩,e2⟩,e3⟩:=f
  have hl:(KL ca pl).length<=1048576:=by omega
  refine(AkB N (KL ca pl) hN hl (bif S 0 then hb else false) (bif S 0 then ca else false) (bif S 0 then pl else -1) (bif S 1 then us else 0) (bif S 2 then pu else []) (bif S 3 then po else []) (bif S 4 then ma else []) (bif S 5 then re else -1) (bif S 5 then im else -1) (bif S 6 then ia else -1) (bif S 7 then na.map gnK else []) (bif S 8 then hc else false) (bif S 8 then pe.map gnK else []) (bif S 8 then ex.map gnK else []) (bif S 9 then sk else []) (bif S 10 then ak else []) (bif S 11 then pt.map ptK else []) (bif S 12 then fr.map ptK else []) (u) (by rw[hS];rfl)).is0 e0 |>.trans ?_
  unfold part
  rw[hh,e1,e2]
  simp only[Nat.reduceBEq,Bool.or_false,Bool.or_true,BEq.rfl,cond_true,hh]
theorem ApN (hh:us≠0) (hS:S 1=false):EF N (Sp.elem 3 (flB us)) (part (hb,ca,pl,us,pu,po,ma,re,im,ia,na,hc,pe,ex,sk,ak,pt,fr,un) S u)=some (0,part (hb,ca,pl,us,pu,po,ma,re,im,ia,na,hc,pe,ex,sk,ak,pt,fr,un) (fun i=>S i||i==1) u):=by
  have hu1:=h.us
  dsimp only at hu1
  have f:=List.all_eq_true.1 Ami (us.toNat - 1) (List.mem_range.2 (by omega))
  rw[show(((us.toNat - 1+1:Nat)):Int)=us by omega]at f
  simp only[Bool.and_eq_true,beq_iff_eq,decide_eq_true_eq]at f
  obtain⟨⟨e0,e1⟩,e3⟩:=f
  have hl:(Sp.elem 3 (flB us)).length<=1048576:=by have:=Sp.Ar 3 (flB us);omega
  refine(Amh N (Sp.elem 3 (flB us)) hN hl (bif S 0 then hb else false) (bif S 0 then ca else false) (bif S 0 then pl else -1) (bif S 1 then us else 0) (bif S 2 then pu else []) (bif S 3 then po else []) (bif S 4 then ma else []) (bif S 5 then re else -1) (bif S 5 then im else -1) (bif S 6 then ia else -1) (bif S 7 then na.map gnK else []) (bif S 8 then hc else false) (bif S 8 then pe.map gnK else []) (bif S 8 then ex.map gnK else []) (bif S 9 then sk else []) (bif S 10 then ak else []) (bif S 11 then pt.map ptK else []) (bif S 12 then fr.map ptK else []) (u)).is0 e0 |>.trans ?_
  unfold part
  rw[e1]
  simp only[Nat.reduceBEq,Bool.or_false,Bool.or_true,BEq.rfl,cond_true,hh]
theorem ApO (hh:pu≠ []) (hS:S 2=false):DN N (Ub pu) (part (hb,ca,pl,us,pu,po,ma,re,im,ia,na,hc,pe,ex,sk,ak,pt,fr,un) S u)=some (0,part (hb,ca,pl,us,pu,po,ma,re,im,ia,na,hc,pe,ex,sk,ak,pt,fr,un) (fun i=>S i||i==2) u):=by
  obtain⟨e0,e1,e3⟩:=Aoh (l:=pu) (fun s hs=>List.mem_append_right _ (h.pu.all s hs)) hh h.pu.len
  have hl:(Ub pu).length<=1048576:=by omega
  refine(AeU N (Ub pu) hN hl (bif S 0 then hb else false) (bif S 0 then ca else false) (bif S 0 then pl else -1) (bif S 1 then us else 0) (bif S 2 then pu else []) (bif S 3 then po else []) (bif S 4 then ma else []) (bif S 5 then re else -1) (bif S 5 then im else -1) (bif S 6 then ia else -1) (bif S 7 then na.map gnK else []) (bif S 8 then hc else false) (bif S 8 then pe.map gnK else []) (bif S 8 then ex.map gnK else []) (bif S 9 then sk else []) (bif S 10 then ak else []) (bif S 11 then pt.map ptK else []) (bif S 12 then fr.map ptK else []) (u) (by rw[hS];rfl)).is0 e0 |>.trans ?_
  unfold part
  rw[e1]
  simp only[Nat.reduceBEq,Bool.or_false,Bool.or_true,BEq.rfl,cond_true,hh]
theorem ApP (hh:po≠ []) (hS:S 3=false):DL N (Ur po) (part (hb,ca,pl,us,pu,po,ma,re,im,ia,na,hc,pe,ex,sk,ak,pt,fr,un) S u)=some (0,part (hb,ca,pl,us,pu,po,ma,re,im,ia,na,hc,pe,ex,sk,ak,pt,fr,un) (fun i=>S i||i==3) u):=by
  obtain⟨e0,e1,e3⟩:=Aow (l:=po) (fun s hs=>h.po.all s hs) hh h.po.len
  have hl:(Ur po).length<=1048576:=by omega
  refine(AeS N (Ur po) hN hl (bif S 0 then hb else false) (bif S 0 then ca else false) (bif S 0 then pl else -1) (bif S 1 then us else 0) (bif S 2 then pu else []) (bif S 3 then po else []) (bif S 4 then ma else []) (bif S 5 then re else -1) (bif S 5 then im else -1) (bif S 6 then ia else -1) (bif S 7 then na.map gnK else []) (bif S 8 then hc else false) (bif S 8 then pe.map gnK else []) (bif S 8 then ex.map gnK else []) (bif S 9 then sk else []) (bif S 10 then ak else []) (bif S 11 then pt.map ptK else []) (bif S 12 then fr.map ptK else []) (u) (by rw[hS];rfl)).is0 e0 |>.trans ?_
  unfold part
  rw[e1]
  simp only[Nat.reduceBEq,Bool.or_false,Bool.or_true,BEq.rfl,cond_true,hh]
theorem get4 (hh:ma≠ []) (hS:S 4=false):DK N (Uf ma) (part (hb,ca,pl,us,pu,po,ma,re,im,ia,na,hc,pe,ex,sk,ak,pt,fr,un) S u)=some (0,part (hb,ca,pl,us,pu,po,ma,re,im,ia,na,hc,pe,ex,sk,ak,pt,fr,un) (fun i=>S i||i==4) u):=by
  obtain⟨e0,e1,e3⟩:=Aoo (l:=ma) (fun s hs=>h.ma.all s hs) hh h.ma.len
  have hl:(Uf ma).length<=1048576:=by omega
  refine(AeM N (Uf ma) hN hl (bif S 0 then hb else false) (bif S 0 then ca else false) (bif S 0 then pl else -1) (bif S 1 then us else 0) (bif S 2 then pu else []) (bif S 3 then po else []) (bif S 4 then ma else []) (bif S 5 then re else -1) (bif S 5 then im else -1) (bif S 6 then ia else -1) (bif S 7 then na.map gnK else []) (bif S 8 then hc else false) (bif S 8 then pe.map gnK else []) (bif S 8 then ex.map gnK else []) (bif S 9 then sk else []) (bif S 10 then ak else []) (bif S 11 then pt.map ptK else []) (bif S 12 then fr.map ptK else []) (u) (by rw[hS];rfl)).is0 e0 |>.trans ?_
  unfold part
  rw[e1]
  simp only[Nat.reduceBEq,Bool.or_false,Bool.or_true,BEq.rfl,cond_true,hh]
theorem ApQ (hh: ¬(re= -1/\im= -1)) (hS:S 5=false):Eh N (YP re im) (part (hb,ca,pl,us,pu,po,ma,re,im,ia,na,hc,pe,ex,sk,ak,pt,fr,un) S u)=some (0,part (hb,ca,pl,us,pu,po,ma,re,im,ia,na,hc,pe,ex,sk,ak,pt,fr,un) (fun i=>S i||i==5) u):=by
  have f:=List.all_eq_true.1 (List.all_eq_true.1 Aom _ h.re) _ h.im
  dsimp only at f
  rw[Bool.or_eq_true]at f
  have f:=f.resolve_left fun h'=>hh (by simpa using h')
  simp only[Bool.and_eq_true,beq_iff_eq,decide_eq_true_eq]at f
  obtain⟨⟨⟨e0,e1⟩,e2⟩,e3⟩:=f
  have hl:(YP re im).length<=1048576:=by omega
  refine(Aj0 N (YP re im) hN hl (bif S 0 then hb else false) (bif S 0 then ca else false) (bif S 0 then pl else -1) (bif S 1 then us else 0) (bif S 2 then pu else []) (bif S 3 then po else []) (bif S 4 then ma else []) (bif S 5 then re else -1) (bif S 5 then im else -1) (bif S 6 then ia else -1) (bif S 7 then na.map gnK else []) (bif S 8 then hc else false) (bif S 8 then pe.map gnK else []) (bif S 8 then ex.map gnK else []) (bif S 9 then sk else []) (bif S 10 then ak else []) (bif S 11 then pt.map ptK else []) (bif S 12 then fr.map ptK else []) (u) (by rw[hS];rfl) (by rw[hS];rfl)).is0 e0 |>.trans ?_
  unfold part
  rw[e1,e2]
  simp only[Nat.reduceBEq,Bool.or_false,Bool.or_true,BEq.rfl,cond_true,hh]
theorem ApR (hh:ia≠ -1) (hS:S 6=false):DU N (Sp.elem 2 (inB ia)) (part (hb,ca,pl,us,pu,po,ma,re,im,ia,na,hc,pe,ex,sk,ak,pt,fr,un) S u)=some (0,part (hb,ca,pl,us,pu,po,ma,re,im,ia,na,hc,pe,ex,sk,ak,pt,fr,un) (fun i=>S i||i==6) u):=by
  have hu1:=h.ia
  dsimp only at hu1
  have f:=List.all_eq_true.1 Aoi ia.toNat (List.mem_range.2 (by omega))
  rw[show((ia.toNat:Nat):Int)=ia by omega]at f
  simp only[Bool.and_eq_true,beq_iff_eq,decide_eq_true_eq]at f
  obtain⟨⟨e0,e1⟩,e3⟩:=f
  have hl:(Sp.elem 2 (inB ia)).length<=1048576:=by have:=Sp.Ar 2 (inB ia);omega
  refine(AgM N (Sp.elem 2 (inB ia)) hN hl (bif S 0 then hb else false) (bif S 0 then ca else false) (bif S 0 then pl else -1) (bif S 1 then us else 0) (bif S 2 then pu else []) (bif S 3 then po else []) (bif S 4 then ma else []) (bif S 5 then re else -1) (bif S 5 then im else -1) (bif S 6 then ia else -1) (bif S 7 then na.map gnK else []) (bif S 8 then hc else false) (bif S 8 then pe.map gnK else []) (bif S 8 then ex.map gnK else []) (bif S 9 then sk else []) (bif S 10 then ak else []) (bif S 11 then pt.map ptK else []) (bif S 12 then fr.map ptK else []) (u)).is0 e0 |>.trans ?_
  unfold part
  rw[e1]
  simp only[Nat.reduceBEq,Bool.or_false,Bool.or_true,BEq.rfl,cond_true,hh]
theorem ApS (hh:na≠ []) (hS:S 7=false):FN N (Sp.elem 48 (BD na)) (part (hb,ca,pl,us,pu,po,ma,re,im,ia,na,hc,pe,ex,sk,ak,pt,fr,un) S u)=some (0,part (hb,ca,pl,us,pu,po,ma,re,im,ia,na,hc,pe,ex,sk,ak,pt,fr,un) (fun i=>S i||i==7) u):=by
  have hl:=Alf h.na.2
  have hn:=h.na.1
  dsimp only at hl hn
  have ho:=L8 N (Sp.elem 48 (BD na)) 48 hN (by have:=Sp.Ar 48 (BD na);omega)
  rw[show C9 (Sp.elem 48 (BD na)) 48=(A8 48 (BD na),0)from V7 48 _ (by decide) (by decide) (by omega)]at ho
  have hd:=Ko N (BD na) hN (by omega)
  rw[AcZ (l:=na) h.na.2 hh (by omega)]at hd
  unfold FN
  rw[ho,Ae]
  rw[show((A8 48 (BD na),(0:Int)).2 != 0)=false from rfl,cond_false]
  show Ac (DF N (BD na)) _=_
  rw[hd,Ae]
  unfold part
  simp only[Nat.reduceBEq,Bool.or_false,Bool.or_true,BEq.rfl,cond_true]
theorem ApT (hh:hc=true) (hS:S 8=false):DI N (sbB (pe,ex)) (part (hb,ca,pl,us,pu,po,ma,re,im,ia,na,hc,pe,ex,sk,ak,pt,fr,un) S u)=some (0,part (hb,ca,pl,us,pu,po,ma,re,im,ia,na,hc,pe,ex,sk,ak,pt,fr,un) (fun i=>S i||i==8) u):=by
  have hs:okS (pe,ex):=by
    rcases h.con with ⟨h1,_⟩ | ⟨_,h1⟩
    ·dsimp only at h1;rw[hh]at h1;cases h1
    ·exact h1
  unfold DI
  rw[(wR N hN hs).rd,Ae]
  unfold part stK
  simp only[Nat.reduceBEq,Bool.or_false,Bool.or_true,BEq.rfl,cond_true,hh]
theorem ApU (hh:sk≠ []) (hS:S 9=false):DV N (Sp.elem 4 sk) (part (hb,ca,pl,us,pu,po,ma,re,im,ia,na,hc,pe,ex,sk,ak,pt,fr,un) S u)=some (0,part (hb,ca,pl,us,pu,po,ma,re,im,ia,na,hc,pe,ex,sk,ak,pt,fr,un) (fun i=>S i||i==9) u):=by
  have f:=List.all_eq_true.1 Ap1 _ h.sk
  dsimp only at f
  rw[Bool.or_eq_true]at f
  have f:=f.resolve_left fun h'=>hh (by simpa using h')
  simp only[Bool.and_eq_true,beq_iff_eq]at f
  obtain⟨e0,e1⟩:=f
  have hl:(Sp.elem 4 sk).length<=1048576:=by
    have:=of_decide_eq_true (List.all_eq_true.1 (show skL.all (fun s=>decide (s.length<=32))=true by kernel_rfl) sk h.sk)
    have:=Sp.Ar 4 sk;omega
  refine(AhM N (Sp.elem 4 sk) hN hl (bif S 0 then hb else false) (bif S 0 then ca else false) (bif S 0 then pl else -1) (bif S 1 then us else 0) (bif S 2 then pu else []) (bif S 3 then po else []) (bif S 4 then ma else []) (bif S 5 then re else -1) (bif S 5 then im else -1) (bif S 6 then ia else -1) (bif S 7 then na.map gnK else []) (bif S 8 then hc else false) (bif S 8 then pe.map gnK else []) (bif S 8 then ex.map gnK else []) (bif S 9 then sk else []) (bif S 10 then ak else []) (bif S 11 then pt.map ptK else []) (bif S 12 then fr.map ptK else []) (u)).is0 e0 |>.trans ?_
  unfold part
  rw[e1]
  simp only[Nat.reduceBEq,Bool.or_false,Bool.or_true,BEq.rfl,cond_true,hh]
theorem Apn (hh:ak≠ []) (hS:S 10=false):DC N (Sp.elem 48 (Sp.elem 128 ak)) (part (hb,ca,pl,us,pu,po,ma,re,im,ia,na,hc,pe,ex,sk,ak,pt,fr,un) S u)=some (0,part (hb,ca,pl,us,pu,po,ma,re,im,ia,na,hc,pe,ex,sk,ak,pt,fr,un) (fun i=>S i||i==10) u):=by
  have f:=List.all_eq_true.1 Apd _ h.ak
  dsimp only at f
  rw[Bool.or_eq_true]at f
  have f:=f.resolve_left fun h'=>hh (by simpa using h')
  simp only[Bool.and_eq_true,beq_iff_eq]at f
  obtain⟨e0,e1⟩:=f
  have hl:(Sp.elem 48 (Sp.elem 128 ak)).length<=1048576:=by
    have:=of_decide_eq_true (List.all_eq_true.1 (show akL.all (fun s=>decide (s.length<=32))=true by kernel_rfl) ak h.ak)
    have:=Sp.Ar 128 ak;have:=Sp.Ar 48 (Sp.elem 128 ak);omega
  refine(Ac6 N (Sp.elem 48 (Sp.elem 128 ak)) hN hl (bif S 0 then hb else false) (bif S 0 then ca else false) (bif S 0 then pl else -1) (bif S 1 then us else 0) (bif S 2 then pu else []) (bif S 3 then po else []) (bif S 4 then ma else []) (bif S 5 then re else -1) (bif S 5 then im else -1) (bif S 6 then ia else -1) (bif S 7 then na.map gnK else []) (bif S 8 then hc else false) (bif S 8 then pe.map gnK else []) (bif S 8 then ex.map gnK else []) (bif S 9 then sk else []) (bif S 10 then ak else []) (bif S 11 then pt.map ptK else []) (bif S 12 then fr.map ptK else []) (u)).is0 e0 |>.trans ?_
  unfold part
  rw[e1]
  simp only[Nat.reduceBEq,Bool.or_false,Bool.or_true,BEq.rfl,cond_true,hh]
theorem Apo (hh:pt≠ []) (hS:S 11=false):Fv N (psB pt) (part (hb,ca,pl,us,pu,po,ma,re,im,ia,na,hc,pe,ex,sk,ak,pt,fr,un) S u)=some (0,part (hb,ca,pl,us,pu,po,ma,re,im,ia,na,hc,pe,ex,sk,ak,pt,fr,un) (fun i=>S i||i==11) u):=by
  have hp:WE pt:=h.pt.resolve_left hh
  have P:=Ut hp
  have hd:=LX N (psB pt) hN (by have:=P.len;omega)
  rw[P.rd]at hd
  unfold Fv
  rw[hd,Ae]
  unfold part
  simp only[Nat.reduceBEq,Bool.or_false,Bool.or_true,BEq.rfl,cond_true]
theorem Apq (hh:fr≠ []) (hS:S 12=false):Eo N (psB fr) (part (hb,ca,pl,us,pu,po,ma,re,im,ia,na,hc,pe,ex,sk,ak,pt,fr,un) S u)=some (0,part (hb,ca,pl,us,pu,po,ma,re,im,ia,na,hc,pe,ex,sk,ak,pt,fr,un) (fun i=>S i||i==12) u):=by
  have hp:WE fr:=h.fr.resolve_left hh
  have P:=Ut hp
  have hd:=LX N (psB fr) hN (by have:=P.len;omega)
  rw[P.rd]at hd
  unfold Eo
  rw[hd,Ae]
  unfold part
  simp only[Nat.reduceBEq,Bool.or_false,Bool.or_true,BEq.rfl,cond_true]
end
