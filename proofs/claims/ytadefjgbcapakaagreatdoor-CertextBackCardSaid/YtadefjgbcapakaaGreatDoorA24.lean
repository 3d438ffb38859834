import Derived.Test.YtadefjgbcapakaaGreatDoorA23
set_option linter.all false
namespace Go.Proofs.YtadefjgbcapakaaGreatDoor.Pl
open IntKind (i64)
open Go Vm
def Ii:List Bs:=[[49,46,50,46,51,46,49],[49,46,50,46,51,46,50],[49,46,50,46,51,46,51],[49,46,50,46,51,46,52],[49,46,50,46,51,46,53],[50,46,57,57,57,46,49],[50,46,57,57,57,46,50],[49,46,50,46,51],[50,46,53,46,50,57,46,51,50,46,48]]
def KJ:List Bs:=[[49,46,51,46,54,46,49,46,53,46,53,46,55,46,51,46,49],[49,46,51,46,54,46,49,46,53,46,53,46,55,46,51,46,50],[49,46,51,46,54,46,49,46,53,46,53,46,55,46,51,46,51],[49,46,51,46,54,46,49,46,53,46,53,46,55,46,51,46,52],[50,46,53,46,50,57,46,51,55,46,48]]
theorem AlG:([(true,-1),(true,0),(true,1),(true,2),(true,3),(false,-1)]:List (Bool×Int)).all (fun p=>AlD (Ld p.1 p.2)==0&&(VJ (Dq (Ld p.1 p.2)).1 1).1==p.1&&(Ph (Be (Dq (Ld p.1 p.2)).1 1).2.2 2).1==p.2&&decide ((Ld p.1 p.2).length<=100))=true:=by kernel_rfl
theorem Anl:(List.range 511).all (fun n=>Anm (Sp.elem 3 (flB (n+1:Nat)))==0&&(flP (cU (Sp.elem 3 (flB (n+1:Nat))))).1==((n+1:Nat):Int)&&decide ((flB (n+1:Nat)).length<=10))=true:=by kernel_rfl
theorem Aop:(Ii++KJ).all (fun s=>Xk (AA 6 (Gl s))==(s,0)&&decide ((Gl s).length<=40)&&ET s&&decide (s.length<=40))=true:=by kernel_rfl
theorem Ao1:Ii.all (fun s=>J3 (AA 48 (BK s))==(s,0))=true:=by kernel_rfl
theorem Ao2:Ii.all (fun s=>Ii.all fun t=>MZ (AA 48 (BK s++BK t))==((s,t),0))=true:=by kernel_rfl
theorem Apq:([-1,0,1,2,3]:List Int).all (fun r=>([-1,0,1,2,3]:List Int).all fun m=>(r== -1&&m== -1)||(Am2 (Zw r m)==0&&(Ph (CS (Zw r m)).1 128).1==r&&(Ph (Be (CS (Zw r m)).1 128).2.2 129).1==m&&decide ((Zw r m).length<=100)))=true:=by kernel_rfl
theorem Apm:(List.range 65).all (fun n=>Amq (Sp.elem 2 (inB n))==0&&(Xj (C9 (Sp.elem 2 (inB n)) 2).1.2.1).1==(n:Int)&&decide ((inB n).length<=10))=true:=by kernel_rfl
def skL:List Bs:=[[],[48,49,50,51,52,53,54,55,56,57,97,98,99,100,101,102],[120]]
def akL:List Bs:=[[],[102,101,100,99,98,97,57,56,55,54,53,52,51,50,49,48]]
theorem Aq2:skL.all (fun s=>(s==[])||(AiL (Sp.elem 4 s)==0&&(C9 (Sp.elem 4 s) 4).1.2.1==s))=true:=by kernel_rfl
theorem Aqi:akL.all (fun s=>(s==[])||(AlA (Sp.elem 48 (Sp.elem 128 s))==0&&(Cj (Dq (Sp.elem 48 (Sp.elem 128 s))).1 128).1.2.1==s))=true:=by kernel_rfl
theorem Ale {c:Bs} (h:c.length<=131072):Dq (Sp.elem 48 c)=AV c:=by
  unfold Dq
  rw[show C9 (Sp.elem 48 c) 48=(AA 48 c,0)from We 48 c (by decide) (by decide) h];rfl
theorem jG {c:Bs} {l:List El} (h:c.length<=131072) (hl:AV c=(l,0)) (hn:l≠ []):CS (Sp.elem 48 c)=(l,0):=by
  unfold CS
  rw[Ale h,hl]
  show(bif l.isEmpty then _ else _)=_
  cases l with
  | nil=>exact absurd rfl hn
  | cons a r=>rfl
structure AqB (s:Bs):Prop where
  rd:Xk (AA 6 (Gl s))=(s,0)
  len:(Gl s).length<=40
  ok:ET s=true
  sh:s.length<=40
theorem Nq {s:Bs} (h:s∈Ii++KJ):AqB s:=by
  have h:=List.all_eq_true.1 Aop s h
  simp only[Bool.and_eq_true,beq_iff_eq,decide_eq_true_eq]at h
  exact⟨h.1.1.1,h.1.1.2,h.1.2,h.2⟩
theorem rE {E:Type} {g:E->Bs} {M:Nat} {l:List E} (h: ∀ e∈l,(g e).length<=M) (hl:l.length<=3):(l.map g).flatten.length<=M*3 :=
  Nat.le_trans (D5 (g:=g) (M:=M) (l:=l) h) (Nat.mul_le_mul_left _ hl)
theorem Apl {l:List Bs} (h: ∀ s∈l,s∈Ii++KJ) (h0:l≠ []) (h3:l.length<=3):Adu (UD l)=0/\Aix (CS (UD l)).1=l/\(UD l).length<=200:=by
  have hl:(l.map BK).flatten.length<=135:=rE (M:=45) (fun s hs=>by
    have:=(Nq (h s hs)).len
    have:=Sp.Aw 6 (Gl s)
    unfold BK;omega) h3
  have h2:=EL (l.map fun s=>(6,Gl s)) (fun q hq=>by
    obtain⟨s,hs,rfl⟩:=List.mem_map.1 hq
    exact NC 6 _ (by decide) (by decide) (by have:=(Nq (h s hs)).len;omega))
  rw[List.map_map,List.map_map]at h2
  have h2:AV (l.map BK).flatten=(l.map fun s=>AA 6 (Gl s),0):=h2
  have hn:CS (UD l)=(l.map fun s=>AA 6 (Gl s),0):=jG (by omega) h2 (by simpa using h0)
  refine⟨?_,?_,by have:=Sp.Aw 48 (l.map BK).flatten;unfold UD;omega⟩
  ·unfold Adu An7
   rw[hn]
   show AU _ (l.map fun s=>AA 6 (Gl s))=0
   exact Kq fun e he=>by
     obtain⟨s,hs,rfl⟩:=List.mem_map.1 he
     rw[(Nq (h s hs)).rd]
  ·unfold Aix
   rw[hn,List.map_map]
   exact(List.map_congr_left fun s hs=>by show(Xk _).1=id s;rw[(Nq (h s hs)).rd];rfl).trans (List.map_id l)
theorem Ap0 {l:List Bs} (h: ∀ s∈l,s∈Ii) (h0:l≠ []) (h3:l.length<=3):QP J3 (UW l)=0/\QQ J3 (UW l)=l/\(UW l).length<=200:=by
  have ho: ∀ s∈l,(BK s).length<=45:=fun s hs=>by
    have:=(Nq (List.mem_append_left _ (h s hs))).len
    have:=Sp.Aw 6 (Gl s)
    unfold BK;omega
  have hl:(l.map fun s=>Sp.elem 48 (BK s)).flatten.length<=150:=rE (M:=50) (fun s hs=>by
    have:=ho s hs
    have:=Sp.Aw 48 (BK s)
    omega) h3
  have h2:=EL (l.map fun s=>(48,BK s)) (fun q hq=>by
    obtain⟨s,hs,rfl⟩:=List.mem_map.1 hq
    exact NC 48 _ (by decide) (by decide) (by have:=ho s hs;omega))
  rw[List.map_map,List.map_map]at h2
  have h2:AV (l.map fun s=>Sp.elem 48 (BK s)).flatten=(l.map fun s=>AA 48 (BK s),0):=h2
  have hn:CS (UW l)=(l.map fun s=>AA 48 (BK s),0):=jG (by omega) h2 (by simpa using h0)
  have hr: ∀ s∈l,J3 (AA 48 (BK s))=(s,0):=fun s hs=>by simpa using List.all_eq_true.1 Ao1 s (h s hs)
  refine⟨?_,?_,by have:=Sp.Aw 48 (l.map fun s=>Sp.elem 48 (BK s)).flatten;unfold UW;omega⟩
  ·unfold QP
   rw[hn]
   show AU _ (l.map fun s=>AA 48 (BK s))=0
   exact Kq fun e he=>by
     obtain⟨s,hs,rfl⟩:=List.mem_map.1 he
     rw[hr s hs]
  ·unfold QQ
   rw[hn,List.map_map]
   exact(List.map_congr_left fun s hs=>by show(J3 _).1=id s;rw[hr s hs];rfl).trans (List.map_id l)
theorem Aps {l:List (Bs×Bs)} (h: ∀ m∈l,m.1∈Ii/\m.2∈Ii) (h0:l≠ []) (h3:l.length<=3):QP MZ (UH l)=0/\QQ MZ (UH l)=l/\(UH l).length<=400:=by
  have ho: ∀ s∈Ii,(BK s).length<=45:=fun s hs=>by
    have:=(Nq (List.mem_append_left _ hs)).len
    have:=Sp.Aw 6 (Gl s)
    unfold BK;omega
  have hp: ∀ m∈l,(BK m.1++BK m.2).length<=90:=fun m hm=>by
    have:=ho _ (h m hm).1
    have:=ho _ (h m hm).2
    rw[List.length_append];omega
  have hl:(l.map fun m=>Sp.elem 48 (BK m.1++BK m.2)).flatten.length<=285:=rE (M:=95) (fun m hm=>by
    have:=hp m hm
    have:=Sp.Aw 48 (BK m.1++BK m.2)
    omega) h3
  have h2:=EL (l.map fun m=>(48,BK m.1++BK m.2)) (fun q hq=>by
    obtain⟨m,hm,rfl⟩:=List.mem_map.1 hq
    exact NC 48 _ (by decide) (by decide) (by have:=hp m hm;omega))
  rw[List.map_map,List.map_map]at h2
  have h2:AV (l.map fun m=>Sp.elem 48 (BK m.1++BK m.2)).flatten=(l.map fun m=>AA 48 (BK m.1++BK m.2),0):=h2
  have hn:CS (UH l)=(l.map fun m=>AA 48 (BK m.1++BK m.2),0):=jG (by omega) h2 (by simpa using h0)
  have hr: ∀ m∈l,MZ (AA 48 (BK m.1++BK m.2))=(m,0):=fun m hm=>by
    have:=List.all_eq_true.1 (List.all_eq_true.1 Ao2 m.1 (h m hm).1) m.2 (h m hm).2
    simpa using this
  refine⟨?_,?_,by have:=Sp.Aw 48 (l.map fun m=>Sp.elem 48 (BK m.1++BK m.2)).flatten;unfold UH;omega⟩
  ·unfold QP
   rw[hn]
   show AU _ (l.map fun m=>AA 48 (BK m.1++BK m.2))=0
   exact Kq fun e he=>by
     obtain⟨m,hm,rfl⟩:=List.mem_map.1 he
     rw[hr m hm]
  ·unfold QQ
   rw[hn,List.map_map]
   exact(List.map_congr_left fun m hm=>by show(MZ _).1=id m;rw[hr m hm];rfl).trans (List.map_id l)
section
variable (N:Nat) (hN:1048578<N)
include hN
theorem AeP (b:Bool) (x:Info) (h1:spI x.2.2.2.2.2.2.2.1=true) (h2:spI x.2.2.2.2.2.2.2.2.1=true):FB N b x=some (Zw x.2.2.2.2.2.2.2.1 x.2.2.2.2.2.2.2.2.1,b):=by
  unfold FB
  try simp only[clR]
  generalize x.2.2.2.2.2.2.2.1=re at *
  generalize x.2.2.2.2.2.2.2.2.1=im at *
  obtain⟨p1,_,l1⟩:=N7 N re hN h1
  obtain⟨p2,_,l2⟩:=N7 N im hN h2
  have q1:=Sp.Aw 128 (inB re)
  have q2:=Sp.Aw 129 (inB im)
  have w1:Ak N b 128 [inB re]=_:=Oh N 128 b [inB re] (by omega) (by omega) hN (by simp) (by rw[CV];omega)
  have w2:Ak N b 129 [inB im]=_:=Oh N 129 b [inB im] (by omega) (by omega) hN (by simp) (by rw[CV];omega)
  rw[CV]at w1 w2
  have w1':Ak N b (128+((0:Nat):Int)) [inB re]=some (Sp.elem 128 (inB re),b):=w1
  have w2':Ak N b (128+((1:Nat):Int)) [inB im]=some (Sp.elem 129 (inB im),b):=w2
  have g0: [re,im].getD 0 0=re:=rfl
  have g1: [re,im].getD 1 0=im:=rfl
  have g2: [re,im].length=2:=rfl
  refine(Oy (S:=List Bs) (R:=Unit) (mk:=fun i s=>((i:Int),b,s,[re,im])) (List.range 2) 0 (fun _ s=>s.length=2) (fun i s=>.inr (bif [re,im].getD i 0 != -1 then s.set i (Sp.elem (128+i) (inB ([re,im].getD i 0)))else s)) (fun _=>none) (fun s=>Ac (AZ N b s) fun r=>some (r.1,r.2)) ?_ ?_ ?_ N [[],[]] rfl (by rw[List.length_range];omega)).trans ?_
  ·intro i s hi hI k
   rw[List.length_range]at hi
   rw[ZE hi]
   have hl:s.length=2:=hI
   rcases(by omega:i=0\/i=1)with rfl | rfl
   ·dsimp only[U4]
    simp (disch:=first | assumption | omega) only[Aq,hl,g0,g2,p1,w1',BJ]
    cases re != -1<;>rfl
   ·dsimp only[U4]
    simp (disch:=first | assumption | omega) only[Aq,hl,g1,g2,p2,w2',BJ]
    cases im != -1<;>rfl
  ·intro i s s' hi hI he
   injection he with he
   subst he
   cases [re,im].getD ((List.range 2).getD i 0) 0 != -1
   ·exact hI
   ·show(s.set _ _).length=2
    rw[List.length_set];exact hI
  ·intro s k hI
   rw[List.length_range]
   dsimp only[U4]
   simp (disch:=first | assumption | omega) only[Aq]
  ·show(Ac (AZ N b (bif im != -1 then(bif re != -1 then [Sp.elem 128 (inB re),[]]else [[],[]]).set 1 (Sp.elem 129 (inB im))else(bif re != -1 then [Sp.elem 128 (inB re),[]]else [[],[]]))) fun r=>some (r.1,r.2))=_
   have e:(bif im != -1 then(bif re != -1 then [Sp.elem 128 (inB re),[]]else [[],[]]).set 1 (Sp.elem 129 (inB im))else(bif re != -1 then [Sp.elem 128 (inB re),[]]else [[],[]]))=[bif re != -1 then Sp.elem 128 (inB re)else [],bif im != -1 then Sp.elem 129 (inB im)else []]:=by
     cases re != -1<;>cases im != -1<;>rfl
   rw[e,jW N hN b _ (by simp) ?_,Ae,Tj]
   ·rfl
   ·rw[Tj,List.length_append]
    cases re != -1<;>cases im != -1<;>simp only[cond_true,cond_false,List.length_nil]<;>omega
theorem AcH (b:Bool) (x:Info) (h:spI x.2.2.2.2.2.2.2.2.2.1=true):EX N b x=some (Sp.elem 2 (inB x.2.2.2.2.2.2.2.2.2.1),b):=by
  unfold EX
  rw[Aje N hN b h,Ae]
theorem AfW (b:Bool) (x:Info) (hs:Gp x.2.2.2.2.2.2.2.2.2.2.1) (h:x.2.2.2.2.2.2.2.2.2.2.1.length<=16/\AU (fun g=>CZ g false) x.2.2.2.2.2.2.2.2.2.2.1=0) (h0:x.2.2.2.2.2.2.2.2.2.2.1≠ []):FY N b x=some (Sp.elem 48 (BD x.2.2.2.2.2.2.2.2.2.2.1),b):=by
  have hl:=AbD h.2 h.1
  unfold FY
  rw[PZ N _ hN hs,Aeu h0 h.1 h.2,Ae,Kz,Ae]
  have hq:=jW N hN b [BD x.2.2.2.2.2.2.2.2.2.2.1] (by simp) (by rw[CV];omega)
  rw[CV]at hq
  show Ac (AZ N (b||false) [BD x.2.2.2.2.2.2.2.2.2.2.1]) _=_
  rw[Bool.or_false,hq,Ae]
theorem nJ (b:Bool) (x:Info) (hx:KY x):EH N b x=some ((PO (x.2.2.2.2.2.2.2.2.2.2.2.2.1,x.2.2.2.2.2.2.2.2.2.2.2.2.2.1)).1,b||(PO (x.2.2.2.2.2.2.2.2.2.2.2.2.1,x.2.2.2.2.2.2.2.2.2.2.2.2.2.1)).2 != 0):=by
  unfold EH
  rw[nP N (x.2.2.2.2.2.2.2.2.2.2.2.2.1,x.2.2.2.2.2.2.2.2.2.2.2.2.2.1) hN hx.pe hx.ex,Ae,Kz,Ae]
  congr 3
  by_cases h:(PO (x.2.2.2.2.2.2.2.2.2.2.2.2.1,x.2.2.2.2.2.2.2.2.2.2.2.2.2.1)).2=0<;>simp [h]
theorem AcI (b:Bool) (x:Info) (h:x.2.2.2.2.2.2.2.2.2.2.2.2.2.2.1.length<=32):EY N b x=some (Sp.elem 4 x.2.2.2.2.2.2.2.2.2.2.2.2.2.2.1,b):=by
  have w:Ak N b 4 [x.2.2.2.2.2.2.2.2.2.2.2.2.2.2.1]=_:=Oh N 4 b [x.2.2.2.2.2.2.2.2.2.2.2.2.2.2.1] (by omega) (by omega) hN (by simp) (by rw[CV];omega)
  rw[CV]at w
  unfold EY
  rw[w,Ae]
theorem yN (b:Bool) (x:Info) (h:x.2.2.2.2.2.2.2.2.2.2.2.2.2.2.2.1.length<=32):Ef N b x=some (Sp.elem 48 (Sp.elem 128 x.2.2.2.2.2.2.2.2.2.2.2.2.2.2.2.1),b):=by
  have hl:=Sp.Aw 128 x.2.2.2.2.2.2.2.2.2.2.2.2.2.2.2.1
  have w:Ak N b 128 [x.2.2.2.2.2.2.2.2.2.2.2.2.2.2.2.1]=_:=Oh N 128 b [x.2.2.2.2.2.2.2.2.2.2.2.2.2.2.2.1] (by omega) (by omega) hN (by simp) (by rw[CV];omega)
  rw[CV]at w
  have hq:=jW N hN b [Sp.elem 128 x.2.2.2.2.2.2.2.2.2.2.2.2.2.2.2.1] (by simp) (by rw[CV];omega)
  rw[CV]at hq
  unfold Ef
  rw[w,Ae]
  dsimp only
  rw[hq,Ae]
theorem AeQ (b:Bool) (x:Info) (hx:KY x):GU N b x=some ((JP x.2.2.2.2.2.2.2.2.2.2.2.2.2.2.2.2.1).1,b||(JP x.2.2.2.2.2.2.2.2.2.2.2.2.2.2.2.2.1).2 != 0):=by
  unfold GU
  rw[FO N _ hN hx.pt,Ae,Kz,Ae]
  congr 3
  by_cases h:(JP x.2.2.2.2.2.2.2.2.2.2.2.2.2.2.2.2.1).2=0<;>simp [h]
theorem Abc (b:Bool) (x:Info) (hx:KY x):FQ N b x=some ((JP x.2.2.2.2.2.2.2.2.2.2.2.2.2.2.2.2.2.1).1,b||(JP x.2.2.2.2.2.2.2.2.2.2.2.2.2.2.2.2.2.1).2 != 0):=by
  unfold FQ
  rw[FO N _ hN hx.fr,Ae,Kz,Ae]
  congr 3
  by_cases h:(JP x.2.2.2.2.2.2.2.2.2.2.2.2.2.2.2.2.2.1).2=0<;>simp [h]
omit hN in
theorem AmO (x:Info) (i:Nat) (hi:i<13):(rO x).getD i false=((Ez x).getD i noX).1:=by
  obtain⟨hb,ca,pl,us,pu,po,ma,re,im,ia,na,hc,pe,ex,sk,ak,pt,fr,un⟩:=x
  have:i=0\/i=1\/i=2\/i=3\/i=4\/i=5\/i=6\/i=7\/i=8\/i=9\/i=10\/i=11\/i=12:=by omega
  rcases this with rfl | rfl | rfl | rfl | rfl | rfl | rfl | rfl | rfl | rfl | rfl | rfl | rfl<;>rfl
omit hN in
theorem AkZ (x:Info) (i:Nat) (hi:i<13):((Cm.getD i ([],0,0,0,0)).1,(Cm.getD i ([],0,0,0,0)).2.1==1||(Cm.getD i ([],0,0,0,0)).1==[50,46,53,46,50,57,46,51,51])=(((Ez x).getD i noX).2.2.1,((Ez x).getD i noX).2.2.2.1):=by
  obtain⟨hb,ca,pl,us,pu,po,ma,re,im,ia,na,hc,pe,ex,sk,ak,pt,fr,un⟩:=x
  have:i=0\/i=1\/i=2\/i=3\/i=4\/i=5\/i=6\/i=7\/i=8\/i=9\/i=10\/i=11\/i=12:=by omega
  rcases this with rfl | rfl | rfl | rfl | rfl | rfl | rfl | rfl | rfl | rfl | rfl | rfl | rfl<;>rfl
theorem AlX (b:Bool) (x:Info) (hx:KY x) (h0:JK x=0) (i:Nat) (hi:i<13) (hh:((Ez x).getD i noX).1=true):Aas N (Cm.getD i ([],0,0,0,0)).2.2.2.1 (b,x)=some (((Ez x).getD i noX).2.2.2.2,b||((Ez x).getD i noX).2.1):=by
  have e0:=fun h=>AfV N hN b x h
  have e1:=fun h=>AfX N hN b x h
  have e2:=fun h=>Abf N hN b x hx.pu.2 h
  have e3:=fun h=>Abe N hN b x hx.po.2 h
  have e4:=fun h=>Abd N hN b x hx.ma h
  have e5:=fun h1 h2=>AeP N hN b x h1 h2
  have e6:=fun h=>AcH N hN b x h
  have e7:=fun h h0=>AfW N hN b x hx.na h h0
  have e8:=nJ N hN b x hx
  have e9:=fun h=>AcI N hN b x h
  have e10:=fun h=>yN N hN b x h
  have e11:=AeQ N hN b x hx
  have e12:=Abc N hN b x hx
  obtain⟨hb,ca,pl,us,pu,po,ma,re,im,ia,na,hc,pe,ex,sk,ak,pt,fr,un⟩:=x
  obtain⟨ok,_⟩:=Amo h0
  have hor:b=(b||false):=(Bool.or_false b).symm
  have:i=0\/i=1\/i=2\/i=3\/i=4\/i=5\/i=6\/i=7\/i=8\/i=9\/i=10\/i=11\/i=12:=by omega
  rcases this with rfl | rfl | rfl | rfl | rfl | rfl | rfl | rfl | rfl | rfl | rfl | rfl | rfl
  ·show FX N b _=some (Ld ca pl,b||false)
   rw[<- hor];exact e0 ok.sp.1
  ·show FZ N b _=some (_,b||false)
   rw[<- hor];exact e1 ok.us
  ·show EE N b _=some (_,b||false)
   rw[<- hor];exact e2 ok.pu
  ·show ED N b _=some (_,b||false)
   rw[<- hor];exact e3 ok.po
  ·show EC N b _=some (_,b||false)
   rw[<- hor];exact e4 ok.ma
  ·show FB N b _=some (_,b||false)
   rw[<- hor];exact e5 ok.sp.2.1 ok.sp.2.2.1
  ·show EX N b _=some (_,b||false)
   rw[<- hor];exact e6 ok.sp.2.2.2
  ·show FY N b _=some (_,b||false)
   rw[<- hor]
   refine e7 ok.na ?_
   intro hna
   have hna:na=[]:=hna
   subst hna
   cases hh
  ·exact e8
  ·show EY N b _=some (_,b||false)
   rw[<- hor];exact e9 ok.sk
  ·show Ef N b _=some (_,b||false)
   rw[<- hor];exact e10 ok.ak
  ·exact e11
  ·exact e12
end
end Go.Proofs.YtadefjgbcapakaaGreatDoor.Pl
namespace Go.Proofs.YtadefjgbcapakaaGreatDoor.Pl
open IntKind (i64)
open Go Vm
theorem Ak4: ∀(l:List (Bool×Bool×Ex)) (s:Bool×List Ex),FP (R:=Unit) (fun r s=>.inr (s.1||pG r,s.2++OW r)) l s= .inr (s.1||l.any pG,s.2++l.flatMap OW):=by
  intro l
  induction l with
  | nil=>intro s;rw[List.any_nil,List.flatMap_nil,Bool.or_false,List.append_nil];rfl
  | cons r t ih =>
    intro s
    rw[F6]
    show FP (R:=Unit) _ t _=_
    rw[ih,List.any_cons,List.flatMap_cons,Bool.or_assoc,List.append_assoc]
theorem AbU (x:Info):(Ez x).length=13:=rfl
theorem AdZ (r:Bool×Bool×Ex):(OW r).length<=1:=by
  unfold OW
  cases r.1<;>simp
theorem lL (N:Nat) (x:Info) (hN:1048578<N) (hx:KY x):H5 N x=some (encI x):=by
  have hdisp:=AdK N x
  have hput:=fun(b:Bool) (h0:JK x=0)=>AlX N hN b x hx h0
  have hhas:=AmO x
  have hcrit:=AkZ x
  have hlen:=AbU x
  have hrl:=uC
  have hck:=TZ N x hN hx
  have hun:=hx.un.1
  unfold H5 encI
  try simp only[clR]
  rw[hck,Ae,<- Bh]
  refine BU fun h0=> ?_
  have h0:JK x=0:=by simpa using h0
  obtain⟨hb,ca,pl,us,pu,po,ma,re,im,ia,na,hc,pe,ex,sk,ak,pt,fr,un⟩:=x
  have hun:un.length<=1048576:=hun
  generalize hX:(hb,ca,pl,us,pu,po,ma,re,im,ia,na,hc,pe,ex,sk,ak,pt,fr,un)=X at *
  rw[show Gz N=some Cm from rfl,Ae]
  subst hX
  refine(Oy (S:=Bool×List Ex) (R:=Unit) (mk:=fun i s=>((i:Int),hb,ca,pl,us,pu,po,ma,re,im,ia,na,hc,pe,ex,sk,ak,pt,fr,un,s.1,s.2)) (Ez (hb,ca,pl,us,pu,po,ma,re,im,ia,na,hc,pe,ex,sk,ak,pt,fr,un)) noX (fun i s=>s.2.length<=i) (fun r s=>.inr (s.1||pG r,s.2++OW r)) (fun _=>none) (fun s=>bif s.1 then some ([],2)else Vm.chk (decide ((s.2.length+un.length)*41<=140737488355328)) (some (s.2++un,0))) ?_ ?_ ?_ N (false,[]) (Nat.le_refl _) (by rw[hlen];omega)).trans ?_
  ·intro i s hi hI k
   rw[hlen]at hi
   have hI:s.2.length<=i:=hI
   have hd:=hdisp i hi
   rw[hhas i hi]at hd
   have hp:=hput s.1 h0 i hi
   have hcr:=hcrit i hi
   dsimp only[U22]
   rw[Int.toNat_natCast]
   generalize (Ez (hb,ca,pl,us,pu,po,ma,re,im,ia,na,hc,pe,ex,sk,ak,pt,fr,un)).getD i noX=r at *
   generalize Cm.getD i ([],0,0,0,0)=q at *
   obtain⟨hc1,hc2⟩:=Prod.mk.inj hcr
   simp (disch:=first | assumption | omega) only[Aq,hrl,hd,BJ]
   unfold pG OW
   cases hr:r.1 with
   | false=>rw[cond_false,cond_false,Bool.false_and,Bool.or_false,List.append_nil]
   | true =>
     rw[cond_true,hp hr,Ae,cond_true,Bool.true_and]
     dsimp only
     rw[hc2,hc1]
  ·intro i s s' hi hI he
   injection he with he
   subst he
   have:=AdZ ((Ez (hb,ca,pl,us,pu,po,ma,re,im,ia,na,hc,pe,ex,sk,ak,pt,fr,un)).getD i noX)
   have hI:s.2.length<=i:=hI
   show(s.2++OW _).length<=i+1
   rw[List.length_append];omega
  ·intro s k hI
   rw[hlen]
   dsimp only[U22]
   rw[hrl,kS (by omega),cond_false]
   rfl
  ·rw[Ak4,Aao]
   have hl:((Ez (hb,ca,pl,us,pu,po,ma,re,im,ia,na,hc,pe,ex,sk,ak,pt,fr,un)).flatMap OW).length<=13:=by
     have: ∀ l:List (Bool×Bool×Ex),(l.flatMap OW).length<=l.length:=by
       intro l
       induction l with
       | nil=>simp
       | cons r t ih =>
         have:=AdZ r
         rw[List.flatMap_cons,List.length_append,List.length_cons];omega
     have:=this (Ez (hb,ca,pl,us,pu,po,ma,re,im,ia,na,hc,pe,ex,sk,ak,pt,fr,un))
     rw[hlen]at this
     exact this
   dsimp only
   rw[Bool.false_or,List.nil_append,xU (by omega),A8,Bh]
def Aaa:List (Bool×Int):=[(true,-1),(true,0),(true,1),(true,2),(true,3),(false,-1)]
def rX:List Int:=[-1,0,1,2,3]
def unX (c:Bool):Ex:=([49,46,50,46,51,46,52,46,53],c,[5,0])
def unY:Ex:=([49,46,50,46,51,46,52,46,54],false,[48,3,2,1,7])
def unL:List (List Ex):=[[],[unX true],[unX false],[unX true,unY],[unX false,unY]]
structure l7 (L l:List Bs):Prop where
  len:l.length<=3
  all: ∀ s∈l,s∈L
  nod:l.Nodup
structure Adp (l:List (Bs×Bs)):Prop where
  len:l.length<=3
  all: ∀ m∈l,m.1∈Ii/\m.2∈Ii
  nod:l.Nodup
structure OkI (x:Info):Prop where
  bas:(x.1=true/\(x.2.1,x.2.2.1)∈Aaa)\/(x.1=false/\x.2.1=false/\x.2.2.1= -1)
  us:0<=x.2.2.2.1/\x.2.2.2.1<=511
  pu:l7 KJ x.2.2.2.2.1
  po:l7 Ii x.2.2.2.2.2.1
  ma:Adp x.2.2.2.2.2.2.1
  re:x.2.2.2.2.2.2.2.1∈rX
  im:x.2.2.2.2.2.2.2.2.1∈rX
  ia: -1<=x.2.2.2.2.2.2.2.2.2.1/\x.2.2.2.2.2.2.2.2.2.1<=64
  na:x.2.2.2.2.2.2.2.2.2.2.1.length<=2/\ ∀ g∈x.2.2.2.2.2.2.2.2.2.2.1,okG false g
  con:(x.2.2.2.2.2.2.2.2.2.2.2.1=false/\x.2.2.2.2.2.2.2.2.2.2.2.2.1=[]/\x.2.2.2.2.2.2.2.2.2.2.2.2.2.1=[])\/(x.2.2.2.2.2.2.2.2.2.2.2.1=true/\okS (x.2.2.2.2.2.2.2.2.2.2.2.2.1,x.2.2.2.2.2.2.2.2.2.2.2.2.2.1))
  sk:x.2.2.2.2.2.2.2.2.2.2.2.2.2.2.1∈skL
  ak:x.2.2.2.2.2.2.2.2.2.2.2.2.2.2.2.1∈akL
  pt:x.2.2.2.2.2.2.2.2.2.2.2.2.2.2.2.2.1=[]\/UR x.2.2.2.2.2.2.2.2.2.2.2.2.2.2.2.2.1
  fr:x.2.2.2.2.2.2.2.2.2.2.2.2.2.2.2.2.2.1=[]\/UR x.2.2.2.2.2.2.2.2.2.2.2.2.2.2.2.2.2.1
  un:x.2.2.2.2.2.2.2.2.2.2.2.2.2.2.2.2.2.2∈unL
def inK:Info->List Ex->Info
  | (hb,ca,pl,us,pu,po,ma,re,im,ia,na,hc,pe,ex,sk,ak,pt,fr,_),un=>(hb,ca,pl,us,pu,po,ma,re,im,ia,na.map gnK,hc,pe.map gnK,ex.map gnK,sk,ak,pt.map ptK,fr.map ptK,un)
theorem Tu {α :Type} {l:List α} (h:l.Nodup) {i:Nat} (hi:i<l.length) (d: α):l.getD i d∉l.take i:=by
  intro hm
  rw[getD_lt l i d hi]at hm
  have h2:=List.take_append_drop i l
  rw[<- h2,List.nodup_append]at h
  have hd:l[i]∈l.drop i:=by rw[List.drop_eq_getElem_cons hi];exact List.mem_cons_self
  exact h.2.2 _ hm _ hd rfl
theorem Akh {L l:List Bs} {m:Int} (h:l7 L l) (hL: ∀ s∈L,s∈Ii++KJ) (hm:3<=m):Xd l m=0:=by
  unfold Xd
  have:=h.len
  rw[decide_eq_false (by omega),cond_false]
  refine Kq fun i hi=> ?_
  rw[List.mem_range]at hi
  unfold idI
  rw[(Nq (hL _ (h.all _ (getD_mem [] hi)))).ok,List.any_eq_false.2 fun y hy=> ?_]
  ·rfl
  ·intro he
   rw[beq_iff_eq]at he
   subst he
   exact Tu h.nod hi [] hy
theorem Apt {l:List (Bs×Bs)} (h:Adp l):jF l=0:=by
  unfold jF
  have:=h.len
  rw[decide_eq_false (by omega),cond_false]
  refine Kq fun i hi=> ?_
  rw[List.mem_range]at hi
  have hm:=h.all _ (getD_mem ([],[]) hi)
  unfold mpI
  rw[(Nq (List.mem_append_left _ hm.1)).ok,(Nq (List.mem_append_left _ hm.2)).ok,List.any_eq_false.2 fun y hy=> ?_]
  ·rfl
  ·intro he
   rw[Bool.and_eq_true,beq_iff_eq,beq_iff_eq]at he
   have:y=l.getD i ([],[]):=Prod.ext he.1 he.2
   subst this
   exact Tu h.nod hi ([],[]) hy
theorem AoW {hb ca:Bool} {pl:Int} (h:(hb=true/\(ca,pl)∈Aaa)\/(hb=false/\ca=false/\pl= -1)):((ca&& !hb)||(pl != -1&& !ca))=false/\spI pl=true:=by
  rcases h with ⟨rfl,h⟩ | ⟨rfl,rfl,rfl⟩
  ·have:Aaa.all (fun p=>(((p.1&& !true)||(p.2 != -1&& !p.1))==false)&&(spI p.2))=true:=by kernel_rfl
   have:=List.all_eq_true.1 this _ h
   rw[Bool.and_eq_true,beq_iff_eq]at this
   exact this
  ·exact⟨rfl,rfl⟩
theorem Aky {n:Int} (h:n∈rX):spI n=true:=List.all_eq_true.1 (show rX.all spI=true by kernel_rfl) n h
def unR:List (List Ex):=unL++unL.map List.reverse
theorem lJ {un:List Ex} (h:un∈unR):Abu un=0/\un.length<=2/\ ∀ x∈un,Afa x:=by
  have:=List.all_eq_true.1 (show unR.all (fun un=>Abu un==0&&decide (un.length<=2)&&un.all fun x=>decide (x.1.length<=40)&&decide (x.2.2.length<=40))=true by kernel_rfl) un h
  simp only[Bool.and_eq_true,beq_iff_eq,decide_eq_true_eq,List.all_eq_true]at this
  exact⟨this.1.1,this.1.2,fun x hx=>by have:=this.2 x hx;exact⟨by unfold FV;omega,by unfold FV;omega⟩⟩
section
variable {hb ca:Bool} {pl us:Int} {pu po:List Bs} {ma:List (Bs×Bs)} {re im ia:Int} {na:List Gn} {hc:Bool} {pe ex:List Gn} {sk ak:Bs} {pt fr:List Pt} {un un':List Ex}
theorem Aki (h:OkI (hb,ca,pl,us,pu,po,ma,re,im,ia,na,hc,pe,ex,sk,ak,pt,fr,un)) {na' pe' ex':List Gn} {pt' fr':List Pt} (hu:un'∈unR)
    (hna:na'.length<=16/\ ∀ g∈na',CZ g false=0) (hco:Zf hc (pe',ex')=0) (hpt:Gm pt'=0) (hfr:Gm fr'=0) :
    JK (hb,ca,pl,us,pu,po,ma,re,im,ia,na',hc,pe',ex',sk,ak,pt',fr',un')=0:=by
  obtain⟨h1,h2,h3,h4,h5,h6,h7,h8,h9,h10,h11,h12,h13,h14,h15⟩:=h
  dsimp only at h1 h2 h3 h4 h5 h6 h7 h8 h9 h10 h11 h12 h13 h14 h15
  obtain⟨b1,b2⟩:=AoW h1
  have u:=lJ hu
  have hs:sk.length<=32:=of_decide_eq_true (List.all_eq_true.1 (show skL.all (fun s=>decide (s.length<=32))=true by kernel_rfl) sk h11)
  have ha:ak.length<=32:=of_decide_eq_true (List.all_eq_true.1 (show akL.all (fun s=>decide (s.length<=32))=true by kernel_rfl) ak h12)
  have hi:spI ia=true:=by unfold spI;rw[decide_eq_true (show ia>= -1 from h8.1),decide_eq_true h8.2];rfl
  have hn:Ih na' false=0:=by unfold Ih;exact Kq hna.2
  have hcnt:(rO (hb,ca,pl,us,pu,po,ma,re,im,ia,na',hc,pe',ex',sk,ak,pt',fr',un')).count true<=13:=List.count_le_length
  unfold JK
  dsimp only
  rw[b1,b2,Aky h6,Aky h7,hi,Akh h3 (fun s hs=>List.mem_append_right _ hs) (by decide),Akh h4 (fun s hs=>List.mem_append_left _ hs) (by decide),Apt h5,hn,hco,hpt,hfr,u.1,
    decide_eq_false (show ¬ us<0 by omega),decide_eq_false (show ¬ us>511 by omega),decide_eq_false (show ¬ 16<na'.length by omega),decide_eq_false (show ¬ 32<sk.length by omega),decide_eq_false (show ¬ 32<ak.length by omega),decide_eq_false (by have:=u.2.1;omega)]
  rfl
theorem Anx (h:(hc=false/\pe=[]/\ex=[])\/(hc=true/\okS (pe,ex))):Zf hc (pe,ex)=0/\Zf hc (pe.map gnK,ex.map gnK)=0:=by
  unfold Zf
  rcases h with ⟨rfl,rfl,rfl⟩ | ⟨rfl,h⟩
  ·exact⟨rfl,rfl⟩
  ·have:=yZ 2097152 (by decide) h
   exact⟨this.i0,this.i1⟩
theorem Adt (h:pt=[]\/UR pt):Gm pt=0/\Gm (pt.map ptK)=0:=by
  rcases h with rfl | h
  ·exact⟨rfl,rfl⟩
  ·exact⟨(PD h).i0,(PD h).i1⟩
end
theorem kH {un:List Ex} (h:un∈unL):un∈unR/\un.reverse∈unR:=⟨List.mem_append_left _ h,List.mem_append_right _ (List.mem_map.2 ⟨un,h,rfl⟩)⟩
theorem Aoi {x:Info} (h:OkI x):JK x=0:=by
  obtain⟨hb,ca,pl,us,pu,po,ma,re,im,ia,na,hc,pe,ex,sk,ak,pt,fr,un⟩:=x
  exact Aki h (kH h.un).1 ⟨by have:=h.na.1;dsimp only at this;omega,fun g hg=>(EK (h.na.2 g hg)).i0⟩ (Anx h.con).1 (Adt h.pt).1 (Adt h.fr).1
theorem Ael {x:Info} (h:OkI x) {un:List Ex} (hu:un∈unR):JK (inK x un)=0:=by
  obtain⟨hb,ca,pl,us,pu,po,ma,re,im,ia,na,hc,pe,ex,sk,ak,pt,fr,un'⟩:=x
  exact Aki h hu ⟨by have:=h.na.1;dsimp only at this;rw[List.length_map];omega,fun q hq=>by obtain⟨g,hg,rfl⟩:=List.mem_map.1 hq;exact(EK (h.na.2 g hg)).i1⟩ (Anx h.con).2 (Adt h.pt).2 (Adt h.fr).2
end Go.Proofs.YtadefjgbcapakaaGreatDoor.Pl
namespace Go.Proofs.YtadefjgbcapakaaGreatDoor.Pl
open IntKind (i64)
open Go Vm
theorem Eo (N:Nat) (j:Info) (l:List Ex) (x:Ex) (row:Rw) (hN:1048578<N) (hv:BF N x.1=some true) (hl:l.length<=1048576) (hb:l.any (fun y=>y.1==x.1)=false) (hf:Bq N x.1=some (row,true))
    (h1:(bif row.2.1==1 then !x.2.1 else false)=false) (h2:(bif row.2.1==0 then x.2.1 else false)=false):Bv N j l x=Ac (kQ N row.2.2.2.2 (x.2.2,j)) fun r=>some (r.1,r.2):=by
  obtain⟨hb',ca,pl,us,pu,po,ma,re,im,ia,na,hc,pe,ex,sk,ak,pt,fr,un⟩:=j
  obtain⟨id,c,v⟩:=x
  dsimp only at hv hb hf h1 h2 ⊢
  unfold Bv
  rw[hv,Ae]
  simp only[Bool.not_true,cond_false]
  refine(Qe (mk:=fun i=>((i:Int),hb',ca,pl,us,re,im,ia,na,hc,pe,ex,sk,ak,pt,fr,pu,po,ma,un,id,c,v)) l ([],false,[]) (fun y=>y.1==id) (some (10,(hb',ca,pl,us,pu,po,ma,re,im,ia,na,hc,pe,ex,sk,ak,pt,fr,un)))
    (Ac (kQ N row.2.2.2.2 (v,(hb',ca,pl,us,pu,po,ma,re,im,ia,na,hc,pe,ex,sk,ak,pt,fr,un))) fun r=>some (r.1,r.2)) ?_ ?_ N (by omega)).trans ?_
  ·intro i hi k
   dsimp only[U23]
   simp (disch:=first | assumption | omega) only[Aq,BJ]
  ·intro k
   dsimp only[U23]
   rw[kS (by omega),cond_false]
   dsimp only[U22]
   rw[hf,Ae]
   simp only[Bool.not_true,cond_false,kW]
   rw[h1]
   simp only[cond_false,Bool.not_false,Bool.true_and,Bool.or_not_self,A8,Bool.not_true,Bool.true_or,Bool.or_false,Bool.cond_self,cond_true,Bool.or_self]
   rw[h2]
   cases row.2.1==1<;>cases row.2.1==0<;>rfl
  ·rw[hb];rfl
theorem Anc (N:Nat) (hb' ca:Bool) (pl us:Int) (pu po:List Bs) (ma:List (Bs×Bs)) (re im ia:Int) (na:List Gn) (hc:Bool) (pe ex:List Gn) (sk ak:Bs) (pt fr:List Pt) (un:List Ex) (l:List Ex) (x:Ex) (row:Rw) (hN:1048578<N) (hv:BF N x.1=some true) (hl:l.length<=1048576) (hb:l.any (fun y=>y.1==x.1)=false) (hf:Bq N x.1=some (row,false)) (hu:un.length<=100)
    (ht:IW N x.2.2=some 0):Bv N (hb',ca,pl,us,pu,po,ma,re,im,ia,na,hc,pe,ex,sk,ak,pt,fr,un) l x=some (0,(hb',ca,pl,us,pu,po,ma,re,im,ia,na,hc,pe,ex,sk,ak,pt,fr,un++[x])):=by
  obtain⟨id,c,v⟩:=x
  dsimp only at hv hb hf ht ⊢
  unfold Bv
  rw[hv,Ae]
  simp only[Bool.not_true,cond_false]
  refine(Qe (mk:=fun i=>((i:Int),hb',ca,pl,us,re,im,ia,na,hc,pe,ex,sk,ak,pt,fr,pu,po,ma,un,id,c,v)) l ([],false,[]) (fun y=>y.1==id) (some (10,(hb',ca,pl,us,pu,po,ma,re,im,ia,na,hc,pe,ex,sk,ak,pt,fr,un)))
    (some (0,(hb',ca,pl,us,pu,po,ma,re,im,ia,na,hc,pe,ex,sk,ak,pt,fr,un++[(id,c,v)]))) ?_ ?_ N (by omega)).trans ?_
  ·intro i hi k
   dsimp only[U23]
   simp (disch:=first | assumption | omega) only[Aq,BJ]
  ·intro k
   dsimp only[U23]
   rw[kS (by omega),cond_false]
   dsimp only[U22]
   rw[hf,Ae]
   simp only[Bool.not_false,cond_true]
   rw[bw (by omega),ht,Ae]
  ·rw[hb];rfl
theorem Hy {X Y ρ :Type} {B:X->(X->Option ρ)->(Y->Option ρ)->Option ρ} {kx:Y->Option ρ} (mk:Nat->X) (n:Nat) (fin:Option ρ)
    (h: ∀ i,i<n-> ∀ k,B (mk i) k kx=k (mk (i+1))) (hend: ∀ k,B (mk n) k kx=fin) (N:Nat) (hN:n<N):Am B N (mk 0) kx=fin :=
  Uz (S:=Unit) (fun i _=>mk i) n (fun _ s=>s) (fun _=>fin) (fun i _ hi k=>h i hi k) (fun _ k=>hend k) N () hN
theorem AgM (N:Nat) (l:List Ex) (J:Nat->Info) (hN:1048578<N) (hl:l.length<=24) (h0:J 0=(false,false,-1,0,[],[],[],-1,-1,-1,[],false,[],[],[],[],[],[],[]))
    (hs: ∀ i,i<l.length->Bv N (J i) (l.take i) (l.getD i ([],false,[]))=some (0,J (i+1))) (hsm:KY (J l.length)) (hi:JK (J l.length)=0):Ec N l=some (J l.length,0):=by
  have hck:=TZ N (J l.length) hN hsm
  rw[hi]at hck
  unfold Ec
  rw[An1 (by omega),cond_false,show Lh N=some (false,false,-1,0,[],[],[],-1,-1,-1,[],false,[],[],[],[],[],[],[])from rfl,Ae,<- h0]
  refine Hy (fun i=>((i:Int),(J i).1,(J i).2.1,(J i).2.2.1,(J i).2.2.2.1,(J i).2.2.2.2.2.2.2.1,(J i).2.2.2.2.2.2.2.2.1,(J i).2.2.2.2.2.2.2.2.2.1,(J i).2.2.2.2.2.2.2.2.2.2.1,(J i).2.2.2.2.2.2.2.2.2.2.2.1,(J i).2.2.2.2.2.2.2.2.2.2.2.2.1,(J i).2.2.2.2.2.2.2.2.2.2.2.2.2.1,(J i).2.2.2.2.2.2.2.2.2.2.2.2.2.2.1,(J i).2.2.2.2.2.2.2.2.2.2.2.2.2.2.2.1,(J i).2.2.2.2.2.2.2.2.2.2.2.2.2.2.2.2.1,(J i).2.2.2.2.2.2.2.2.2.2.2.2.2.2.2.2.2.1,(J i).2.2.2.2.2.2.2.2.2.2.2.2.2.2.2.2.2.2,(J i).2.2.2.2.2.2.1,(J i).2.2.2.2.2.1,(J i).2.2.2.2.1)) l.length (some (J l.length,0)) ?_ ?_ N (by omega)
  ·intro i hi' k
   dsimp only[U20]
   rw[Adg (by omega),cond_true,vT (by omega),vT (by omega),A8,A8,A8,A8]
   show Ac (Bv N (J i) (l.take i) (l.getD i ([],false,[]))) _=_
   rw[hs i hi',Ae]
   show k (i64.wrap ((i:Int)+1),_)=_
   rw[w64 (by omega) (by omega)]
   rfl
  ·intro k
   dsimp only[U20]
   rw[kS (by omega),cond_false]
   dsimp only[U19]
   show Ac (I5 N (J l.length)) _=_
   rw[hck,Ae]
   rfl
def part (x:Info) (S:Nat->Bool) (u:List Ex):Info :=
  match x with
  | (hb,ca,pl,us,pu,po,ma,re,im,ia,na,hc,pe,ex,sk,ak,pt,fr,_) =>
    (bif S 0 then hb else false,bif S 0 then ca else false,bif S 0 then pl else -1,bif S 1 then us else 0,bif S 2 then pu else [],bif S 3 then po else [],bif S 4 then ma else [],bif S 5 then re else -1,bif S 5 then im else -1,bif S 6 then ia else -1,
     bif S 7 then na.map gnK else [],bif S 8 then hc else false,bif S 8 then pe.map gnK else [],bif S 8 then ex.map gnK else [],bif S 9 then sk else [],bif S 10 then ak else [],bif S 11 then pt.map ptK else [],bif S 12 then fr.map ptK else [],u)
theorem Gives.is0 {e:Int} {u:Info} {o:Option (Int×Info)} (h:Gives e u o) (he:e=0):o=some (0,u):=by
  obtain⟨j,rfl,h2⟩:=h
  subst he;rw[h2 rfl]
def xk (x:Info) (k:Nat):Ex:=((Ez x).getD k noX).2.2
def hasK (x:Info) (k:Nat):Bool:=((Ez x).getD k noX).1
section
variable {hb ca:Bool} {pl us:Int} {pu po:List Bs} {ma:List (Bs×Bs)} {re im ia:Int} {na:List Gn} {hc:Bool} {pe ex:List Gn} {sk ak:Bs} {pt fr:List Pt} {un:List Ex} (N:Nat) (hN:1048578<N) (h:OkI (hb,ca,pl,us,pu,po,ma,re,im,ia,na,hc,pe,ex,sk,ak,pt,fr,un)) (S:Nat->Bool) (u:List Ex)
include hN h
theorem AqN (hh:hb=true) (hS:S 0=false):EO N (Ld ca pl) (part (hb,ca,pl,us,pu,po,ma,re,im,ia,na,hc,pe,ex,sk,ak,pt,fr,un) S u)=some (0,part (hb,ca,pl,us,pu,po,ma,re,im,ia,na,hc,pe,ex,sk,ak,pt,fr,un) (fun i=>S i||i==0) u):=by
  have hb1:(ca,pl)∈Aaa:=by
    rcases h.bas with ⟨_,h1⟩ | ⟨h1,_⟩
    ·exact h1
    ·rw[hh]at h1;cases h1
  have f:=List.all_eq_true.1 AlG _ hb1
  simp only[Bool.and_eq_true,beq_iff_eq,decide_eq_true_eq]at f
  obtain⟨⟨⟨e0,e1⟩,e2⟩,e3⟩:=f
  have hl:(Ld ca pl).length<=1048576:=by omega
  refine(AlF N (Ld ca pl) hN hl (bif S 0 then hb else false) (bif S 0 then ca else false) (bif S 0 then pl else -1) (bif S 1 then us else 0) (bif S 2 then pu else []) (bif S 3 then po else []) (bif S 4 then ma else []) (bif S 5 then re else -1) (bif S 5 then im else -1) (bif S 6 then ia else -1) (bif S 7 then na.map gnK else []) (bif S 8 then hc else false) (bif S 8 then pe.map gnK else []) (bif S 8 then ex.map gnK else []) (bif S 9 then sk else []) (bif S 10 then ak else []) (bif S 11 then pt.map ptK else []) (bif S 12 then fr.map ptK else []) (u) (by rw[hS];rfl)).is0 e0 |>.trans ?_
  unfold part
  rw[hh,e1,e2]
  simp only[Nat.reduceBEq,Bool.or_false,Bool.or_true,BEq.rfl,cond_true,hh]
theorem AqO (hh:us≠0) (hS:S 1=false):EP N (Sp.elem 3 (flB us)) (part (hb,ca,pl,us,pu,po,ma,re,im,ia,na,hc,pe,ex,sk,ak,pt,fr,un) S u)=some (0,part (hb,ca,pl,us,pu,po,ma,re,im,ia,na,hc,pe,ex,sk,ak,pt,fr,un) (fun i=>S i||i==1) u):=by
  have hu1:=h.us
  dsimp only at hu1
  have f:=List.all_eq_true.1 Anl (us.toNat - 1) (List.mem_range.2 (by omega))
  rw[show(((us.toNat - 1+1:Nat)):Int)=us by omega]at f
  simp only[Bool.and_eq_true,beq_iff_eq,decide_eq_true_eq]at f
  obtain⟨⟨e0,e1⟩,e3⟩:=f
  have hl:(Sp.elem 3 (flB us)).length<=1048576:=by have:=Sp.Aw 3 (flB us);omega
  refine(Ank N (Sp.elem 3 (flB us)) hN hl (bif S 0 then hb else false) (bif S 0 then ca else false) (bif S 0 then pl else -1) (bif S 1 then us else 0) (bif S 2 then pu else []) (bif S 3 then po else []) (bif S 4 then ma else []) (bif S 5 then re else -1) (bif S 5 then im else -1) (bif S 6 then ia else -1) (bif S 7 then na.map gnK else []) (bif S 8 then hc else false) (bif S 8 then pe.map gnK else []) (bif S 8 then ex.map gnK else []) (bif S 9 then sk else []) (bif S 10 then ak else []) (bif S 11 then pt.map ptK else []) (bif S 12 then fr.map ptK else []) (u)).is0 e0 |>.trans ?_
  unfold part
  rw[e1]
  simp only[Nat.reduceBEq,Bool.or_false,Bool.or_true,BEq.rfl,cond_true,hh]
theorem AqP (hh:pu≠ []) (hS:S 2=false):DT N (UD pu) (part (hb,ca,pl,us,pu,po,ma,re,im,ia,na,hc,pe,ex,sk,ak,pt,fr,un) S u)=some (0,part (hb,ca,pl,us,pu,po,ma,re,im,ia,na,hc,pe,ex,sk,ak,pt,fr,un) (fun i=>S i||i==2) u):=by
  obtain⟨e0,e1,e3⟩:=Apl (l:=pu) (fun s hs=>List.mem_append_right _ (h.pu.all s hs)) hh h.pu.len
  have hl:(UD pu).length<=1048576:=by omega
  refine(AfU N (UD pu) hN hl (bif S 0 then hb else false) (bif S 0 then ca else false) (bif S 0 then pl else -1) (bif S 1 then us else 0) (bif S 2 then pu else []) (bif S 3 then po else []) (bif S 4 then ma else []) (bif S 5 then re else -1) (bif S 5 then im else -1) (bif S 6 then ia else -1) (bif S 7 then na.map gnK else []) (bif S 8 then hc else false) (bif S 8 then pe.map gnK else []) (bif S 8 then ex.map gnK else []) (bif S 9 then sk else []) (bif S 10 then ak else []) (bif S 11 then pt.map ptK else []) (bif S 12 then fr.map ptK else []) (u) (by rw[hS];rfl)).is0 e0 |>.trans ?_
  unfold part
  rw[e1]
  simp only[Nat.reduceBEq,Bool.or_false,Bool.or_true,BEq.rfl,cond_true,hh]
theorem AqQ (hh:po≠ []) (hS:S 3=false):DR N (UW po) (part (hb,ca,pl,us,pu,po,ma,re,im,ia,na,hc,pe,ex,sk,ak,pt,fr,un) S u)=some (0,part (hb,ca,pl,us,pu,po,ma,re,im,ia,na,hc,pe,ex,sk,ak,pt,fr,un) (fun i=>S i||i==3) u):=by
  obtain⟨e0,e1,e3⟩:=Ap0 (l:=po) (fun s hs=>h.po.all s hs) hh h.po.len
  have hl:(UW po).length<=1048576:=by omega
  refine(AfS N (UW po) hN hl (bif S 0 then hb else false) (bif S 0 then ca else false) (bif S 0 then pl else -1) (bif S 1 then us else 0) (bif S 2 then pu else []) (bif S 3 then po else []) (bif S 4 then ma else []) (bif S 5 then re else -1) (bif S 5 then im else -1) (bif S 6 then ia else -1) (bif S 7 then na.map gnK else []) (bif S 8 then hc else false) (bif S 8 then pe.map gnK else []) (bif S 8 then ex.map gnK else []) (bif S 9 then sk else []) (bif S 10 then ak else []) (bif S 11 then pt.map ptK else []) (bif S 12 then fr.map ptK else []) (u) (by rw[hS];rfl)).is0 e0 |>.trans ?_
  unfold part
  rw[e1]
  simp only[Nat.reduceBEq,Bool.or_false,Bool.or_true,BEq.rfl,cond_true,hh]
theorem get4 (hh:ma≠ []) (hS:S 4=false):DN N (UH ma) (part (hb,ca,pl,us,pu,po,ma,re,im,ia,na,hc,pe,ex,sk,ak,pt,fr,un) S u)=some (0,part (hb,ca,pl,us,pu,po,ma,re,im,ia,na,hc,pe,ex,sk,ak,pt,fr,un) (fun i=>S i||i==4) u):=by
  obtain⟨e0,e1,e3⟩:=Aps (l:=ma) (fun s hs=>h.ma.all s hs) hh h.ma.len
  have hl:(UH ma).length<=1048576:=by omega
  refine(AfM N (UH ma) hN hl (bif S 0 then hb else false) (bif S 0 then ca else false) (bif S 0 then pl else -1) (bif S 1 then us else 0) (bif S 2 then pu else []) (bif S 3 then po else []) (bif S 4 then ma else []) (bif S 5 then re else -1) (bif S 5 then im else -1) (bif S 6 then ia else -1) (bif S 7 then na.map gnK else []) (bif S 8 then hc else false) (bif S 8 then pe.map gnK else []) (bif S 8 then ex.map gnK else []) (bif S 9 then sk else []) (bif S 10 then ak else []) (bif S 11 then pt.map ptK else []) (bif S 12 then fr.map ptK else []) (u) (by rw[hS];rfl)).is0 e0 |>.trans ?_
  unfold part
  rw[e1]
  simp only[Nat.reduceBEq,Bool.or_false,Bool.or_true,BEq.rfl,cond_true,hh]
theorem AqR (hh: ¬(re= -1/\im= -1)) (hS:S 5=false):Et N (Zw re im) (part (hb,ca,pl,us,pu,po,ma,re,im,ia,na,hc,pe,ex,sk,ak,pt,fr,un) S u)=some (0,part (hb,ca,pl,us,pu,po,ma,re,im,ia,na,hc,pe,ex,sk,ak,pt,fr,un) (fun i=>S i||i==5) u):=by
  have f:=List.all_eq_true.1 (List.all_eq_true.1 Apq _ h.re) _ h.im
  dsimp only at f
  rw[Bool.or_eq_true]at f
  have f:=f.resolve_left fun h'=>hh (by simpa using h')
  simp only[Bool.and_eq_true,beq_iff_eq,decide_eq_true_eq]at f
  obtain⟨⟨⟨e0,e1⟩,e2⟩,e3⟩:=f
  have hl:(Zw re im).length<=1048576:=by omega
  refine(Akz N (Zw re im) hN hl (bif S 0 then hb else false) (bif S 0 then ca else false) (bif S 0 then pl else -1) (bif S 1 then us else 0) (bif S 2 then pu else []) (bif S 3 then po else []) (bif S 4 then ma else []) (bif S 5 then re else -1) (bif S 5 then im else -1) (bif S 6 then ia else -1) (bif S 7 then na.map gnK else []) (bif S 8 then hc else false) (bif S 8 then pe.map gnK else []) (bif S 8 then ex.map gnK else []) (bif S 9 then sk else []) (bif S 10 then ak else []) (bif S 11 then pt.map ptK else []) (bif S 12 then fr.map ptK else []) (u) (by rw[hS];rfl) (by rw[hS];rfl)).is0 e0 |>.trans ?_
  unfold part
  rw[e1,e2]
  simp only[Nat.reduceBEq,Bool.or_false,Bool.or_true,BEq.rfl,cond_true,hh]
theorem AqS (hh:ia≠ -1) (hS:S 6=false):DW N (Sp.elem 2 (inB ia)) (part (hb,ca,pl,us,pu,po,ma,re,im,ia,na,hc,pe,ex,sk,ak,pt,fr,un) S u)=some (0,part (hb,ca,pl,us,pu,po,ma,re,im,ia,na,hc,pe,ex,sk,ak,pt,fr,un) (fun i=>S i||i==6) u):=by
  have hu1:=h.ia
  dsimp only at hu1
  have f:=List.all_eq_true.1 Apm ia.toNat (List.mem_range.2 (by omega))
  rw[show((ia.toNat:Nat):Int)=ia by omega]at f
  simp only[Bool.and_eq_true,beq_iff_eq,decide_eq_true_eq]at f
  obtain⟨⟨e0,e1⟩,e3⟩:=f
  have hl:(Sp.elem 2 (inB ia)).length<=1048576:=by have:=Sp.Aw 2 (inB ia);omega
  refine(AhL N (Sp.elem 2 (inB ia)) hN hl (bif S 0 then hb else false) (bif S 0 then ca else false) (bif S 0 then pl else -1) (bif S 1 then us else 0) (bif S 2 then pu else []) (bif S 3 then po else []) (bif S 4 then ma else []) (bif S 5 then re else -1) (bif S 5 then im else -1) (bif S 6 then ia else -1) (bif S 7 then na.map gnK else []) (bif S 8 then hc else false) (bif S 8 then pe.map gnK else []) (bif S 8 then ex.map gnK else []) (bif S 9 then sk else []) (bif S 10 then ak else []) (bif S 11 then pt.map ptK else []) (bif S 12 then fr.map ptK else []) (u)).is0 e0 |>.trans ?_
  unfold part
  rw[e1]
  simp only[Nat.reduceBEq,Bool.or_false,Bool.or_true,BEq.rfl,cond_true,hh]
theorem AqT (hh:na≠ []) (hS:S 7=false):FW N (Sp.elem 48 (BD na)) (part (hb,ca,pl,us,pu,po,ma,re,im,ia,na,hc,pe,ex,sk,ak,pt,fr,un) S u)=some (0,part (hb,ca,pl,us,pu,po,ma,re,im,ia,na,hc,pe,ex,sk,ak,pt,fr,un) (fun i=>S i||i==7) u):=by
  have hl:=Amk h.na.2
  have hn:=h.na.1
  dsimp only at hl hn
  have ho:=LY N (Sp.elem 48 (BD na)) 48 hN (by have:=Sp.Aw 48 (BD na);omega)
  rw[show C9 (Sp.elem 48 (BD na)) 48=(AA 48 (BD na),0)from We 48 _ (by decide) (by decide) (by omega)]at ho
  have hd:=KI N (BD na) hN (by omega)
  rw[AdY (l:=na) h.na.2 hh (by omega)]at hd
  unfold FW
  rw[ho,Ae]
  rw[show((AA 48 (BD na),(0:Int)).2 != 0)=false from rfl,cond_false]
  show Ac (DJ N (BD na)) _=_
  rw[hd,Ae]
  unfold part
  simp only[Nat.reduceBEq,Bool.or_false,Bool.or_true,BEq.rfl,cond_true]
theorem AqU (hh:hc=true) (hS:S 8=false):DK N (sbB (pe,ex)) (part (hb,ca,pl,us,pu,po,ma,re,im,ia,na,hc,pe,ex,sk,ak,pt,fr,un) S u)=some (0,part (hb,ca,pl,us,pu,po,ma,re,im,ia,na,hc,pe,ex,sk,ak,pt,fr,un) (fun i=>S i||i==8) u):=by
  have hs:okS (pe,ex):=by
    rcases h.con with ⟨h1,_⟩ | ⟨_,h1⟩
    ·dsimp only at h1;rw[hh]at h1;cases h1
    ·exact h1
  unfold DK
  rw[(yZ N hN hs).rd,Ae]
  unfold part stK
  simp only[Nat.reduceBEq,Bool.or_false,Bool.or_true,BEq.rfl,cond_true,hh]
theorem AqV (hh:sk≠ []) (hS:S 9=false):DX N (Sp.elem 4 sk) (part (hb,ca,pl,us,pu,po,ma,re,im,ia,na,hc,pe,ex,sk,ak,pt,fr,un) S u)=some (0,part (hb,ca,pl,us,pu,po,ma,re,im,ia,na,hc,pe,ex,sk,ak,pt,fr,un) (fun i=>S i||i==9) u):=by
  have f:=List.all_eq_true.1 Aq2 _ h.sk
  dsimp only at f
  rw[Bool.or_eq_true]at f
  have f:=f.resolve_left fun h'=>hh (by simpa using h')
  simp only[Bool.and_eq_true,beq_iff_eq]at f
  obtain⟨e0,e1⟩:=f
  have hl:(Sp.elem 4 sk).length<=1048576:=by
    have:=of_decide_eq_true (List.all_eq_true.1 (show skL.all (fun s=>decide (s.length<=32))=true by kernel_rfl) sk h.sk)
    have:=Sp.Aw 4 sk;omega
  refine(AiM N (Sp.elem 4 sk) hN hl (bif S 0 then hb else false) (bif S 0 then ca else false) (bif S 0 then pl else -1) (bif S 1 then us else 0) (bif S 2 then pu else []) (bif S 3 then po else []) (bif S 4 then ma else []) (bif S 5 then re else -1) (bif S 5 then im else -1) (bif S 6 then ia else -1) (bif S 7 then na.map gnK else []) (bif S 8 then hc else false) (bif S 8 then pe.map gnK else []) (bif S 8 then ex.map gnK else []) (bif S 9 then sk else []) (bif S 10 then ak else []) (bif S 11 then pt.map ptK else []) (bif S 12 then fr.map ptK else []) (u)).is0 e0 |>.trans ?_
  unfold part
  rw[e1]
  simp only[Nat.reduceBEq,Bool.or_false,Bool.or_true,BEq.rfl,cond_true,hh]
theorem Aqp (hh:ak≠ []) (hS:S 10=false):DF N (Sp.elem 48 (Sp.elem 128 ak)) (part (hb,ca,pl,us,pu,po,ma,re,im,ia,na,hc,pe,ex,sk,ak,pt,fr,un) S u)=some (0,part (hb,ca,pl,us,pu,po,ma,re,im,ia,na,hc,pe,ex,sk,ak,pt,fr,un) (fun i=>S i||i==10) u):=by
  have f:=List.all_eq_true.1 Aqi _ h.ak
  dsimp only at f
  rw[Bool.or_eq_true]at f
  have f:=f.resolve_left fun h'=>hh (by simpa using h')
  simp only[Bool.and_eq_true,beq_iff_eq]at f
  obtain⟨e0,e1⟩:=f
  have hl:(Sp.elem 48 (Sp.elem 128 ak)).length<=1048576:=by
    have:=of_decide_eq_true (List.all_eq_true.1 (show akL.all (fun s=>decide (s.length<=32))=true by kernel_rfl) ak h.ak)
    have:=Sp.Aw 128 ak;have:=Sp.Aw 48 (Sp.elem 128 ak);omega
  refine(Ad6 N (Sp.elem 48 (Sp.elem 128 ak)) hN hl (bif S 0 then hb else false) (bif S 0 then ca else false) (bif S 0 then pl else -1) (bif S 1 then us else 0) (bif S 2 then pu else []) (bif S 3 then po else []) (bif S 4 then ma else []) (bif S 5 then re else -1) (bif S 5 then im else -1) (bif S 6 then ia else -1) (bif S 7 then na.map gnK else []) (bif S 8 then hc else false) (bif S 8 then pe.map gnK else []) (bif S 8 then ex.map gnK else []) (bif S 9 then sk else []) (bif S 10 then ak else []) (bif S 11 then pt.map ptK else []) (bif S 12 then fr.map ptK else []) (u)).is0 e0 |>.trans ?_
  unfold part
  rw[e1]
  simp only[Nat.reduceBEq,Bool.or_false,Bool.or_true,BEq.rfl,cond_true,hh]
theorem Aqq (hh:pt≠ []) (hS:S 11=false):F9 N (psB pt) (part (hb,ca,pl,us,pu,po,ma,re,im,ia,na,hc,pe,ex,sk,ak,pt,fr,un) S u)=some (0,part (hb,ca,pl,us,pu,po,ma,re,im,ia,na,hc,pe,ex,sk,ak,pt,fr,un) (fun i=>S i||i==11) u):=by
  have hp:UR pt:=h.pt.resolve_left hh
  have P:=PD hp
  have hd:=FN N (psB pt) hN (by have:=P.len;omega)
  rw[P.rd]at hd
  unfold F9
  rw[hd,Ae]
  unfold part
  simp only[Nat.reduceBEq,Bool.or_false,Bool.or_true,BEq.rfl,cond_true]
theorem Aqr (hh:fr≠ []) (hS:S 12=false):E8 N (psB fr) (part (hb,ca,pl,us,pu,po,ma,re,im,ia,na,hc,pe,ex,sk,ak,pt,fr,un) S u)=some (0,part (hb,ca,pl,us,pu,po,ma,re,im,ia,na,hc,pe,ex,sk,ak,pt,fr,un) (fun i=>S i||i==12) u):=by
  have hp:UR fr:=h.fr.resolve_left hh
  have P:=PD hp
  have hd:=FN N (psB fr) hN (by have:=P.len;omega)
  rw[P.rd]at hd
  unfold E8
  rw[hd,Ae]
  unfold part
  simp only[Nat.reduceBEq,Bool.or_false,Bool.or_true,BEq.rfl,cond_true]
end
end Go.Proofs.YtadefjgbcapakaaGreatDoor.Pl
namespace Go.Proofs.YtadefjgbcapakaaGreatDoor.Pl
open IntKind (i64)
open Go Vm
def idV:List Bs:=[[50,46,53,46,50,57,46,49,57],[50,46,53,46,50,57,46,49,53],[50,46,53,46,50,57,46,51,55],[50,46,53,46,50,57,46,51,50],[50,46,53,46,50,57,46,51,51],[50,46,53,46,50,57,46,51,54],[50,46,53,46,50,57,46,53,52],[50,46,53,46,50,57,46,49,55],[50,46,53,46,50,57,46,51,48],[50,46,53,46,50,57,46,49,52],[50,46,53,46,50,57,46,51,53],[50,46,53,46,50,57,46,51,49],[50,46,53,46,50,57,46,52,54],[49,46,50,46,51,46,52,46,53],[49,46,50,46,51,46,52,46,54]]
theorem Akg:idV.Nodup:=by decide +kernel
def GR (x:Info):List Ex:=x.2.2.2.2.2.2.2.2.2.2.2.2.2.2.2.2.2.2
def Gf (x:Info) (k:Nat):Ex:=if k<13 then xk x k else(GR x).getD (k - 13) ([],false,[])
def wL (x:Info) (k:Nat):Prop:=(k<13/\hasK x k=true)\/(13<=k/\k - 13<(GR x).length)
theorem jK {α :Type} {l:List α} (h:decide (((l.length:Nat):Int)>0)=true):l≠ []:=by
  intro h';subst h';cases h
theorem AjI (M:Nat):Bq (M+70) [50,46,53,46,50,57,46,49,57]=some (Cm.getD 0 ([],0,0,0,0),true)/\BF (M+70) [50,46,53,46,50,57,46,49,57]=some true:=⟨by kernel_rfl,by kernel_rfl⟩
theorem AjJ (M:Nat):Bq (M+70) [50,46,53,46,50,57,46,49,53]=some (Cm.getD 1 ([],0,0,0,0),true)/\BF (M+70) [50,46,53,46,50,57,46,49,53]=some true:=⟨by kernel_rfl,by kernel_rfl⟩
theorem AjK (M:Nat):Bq (M+70) [50,46,53,46,50,57,46,51,55]=some (Cm.getD 2 ([],0,0,0,0),true)/\BF (M+70) [50,46,53,46,50,57,46,51,55]=some true:=⟨by kernel_rfl,by kernel_rfl⟩
theorem AjL (M:Nat):Bq (M+70) [50,46,53,46,50,57,46,51,50]=some (Cm.getD 3 ([],0,0,0,0),true)/\BF (M+70) [50,46,53,46,50,57,46,51,50]=some true:=⟨by kernel_rfl,by kernel_rfl⟩
theorem AjM (M:Nat):Bq (M+70) [50,46,53,46,50,57,46,51,51]=some (Cm.getD 4 ([],0,0,0,0),true)/\BF (M+70) [50,46,53,46,50,57,46,51,51]=some true:=⟨by kernel_rfl,by kernel_rfl⟩
theorem AjN (M:Nat):Bq (M+70) [50,46,53,46,50,57,46,51,54]=some (Cm.getD 5 ([],0,0,0,0),true)/\BF (M+70) [50,46,53,46,50,57,46,51,54]=some true:=⟨by kernel_rfl,by kernel_rfl⟩
theorem AjO (M:Nat):Bq (M+70) [50,46,53,46,50,57,46,53,52]=some (Cm.getD 6 ([],0,0,0,0),true)/\BF (M+70) [50,46,53,46,50,57,46,53,52]=some true:=⟨by kernel_rfl,by kernel_rfl⟩
theorem AjP (M:Nat):Bq (M+70) [50,46,53,46,50,57,46,49,55]=some (Cm.getD 7 ([],0,0,0,0),true)/\BF (M+70) [50,46,53,46,50,57,46,49,55]=some true:=⟨by kernel_rfl,by kernel_rfl⟩
theorem AjQ (M:Nat):Bq (M+70) [50,46,53,46,50,57,46,51,48]=some (Cm.getD 8 ([],0,0,0,0),true)/\BF (M+70) [50,46,53,46,50,57,46,51,48]=some true:=⟨by kernel_rfl,by kernel_rfl⟩
theorem AjR (M:Nat):Bq (M+70) [50,46,53,46,50,57,46,49,52]=some (Cm.getD 9 ([],0,0,0,0),true)/\BF (M+70) [50,46,53,46,50,57,46,49,52]=some true:=⟨by kernel_rfl,by kernel_rfl⟩
theorem Ag1 (M:Nat):Bq (M+70) [50,46,53,46,50,57,46,51,53]=some (Cm.getD 10 ([],0,0,0,0),true)/\BF (M+70) [50,46,53,46,50,57,46,51,53]=some true:=⟨by kernel_rfl,by kernel_rfl⟩
theorem Ag2 (M:Nat):Bq (M+70) [50,46,53,46,50,57,46,51,49]=some (Cm.getD 11 ([],0,0,0,0),true)/\BF (M+70) [50,46,53,46,50,57,46,51,49]=some true:=⟨by kernel_rfl,by kernel_rfl⟩
theorem Ag3 (M:Nat):Bq (M+70) [50,46,53,46,50,57,46,52,54]=some (Cm.getD 12 ([],0,0,0,0),true)/\BF (M+70) [50,46,53,46,50,57,46,52,54]=some true:=⟨by kernel_rfl,by kernel_rfl⟩
section
variable {hb ca:Bool} {pl us:Int} {pu po:List Bs} {ma:List (Bs×Bs)} {re im ia:Int} {na:List Gn} {hc:Bool} {pe ex:List Gn} {sk ak:Bs} {pt fr:List Pt} {un:List Ex} (M:Nat) (hN:1048578<M+70) (h:OkI (hb,ca,pl,us,pu,po,ma,re,im,ia,na,hc,pe,ex,sk,ak,pt,fr,un)) (S:Nat->Bool) (u:List Ex) (l:List Ex) (hl:l.length<=1048576)
include hN h hl
theorem ApL (hk:hasK (hb,ca,pl,us,pu,po,ma,re,im,ia,na,hc,pe,ex,sk,ak,pt,fr,un) 0=true) (hS:S 0=false) (hb':l.any (fun y=>y.1==[50,46,53,46,50,57,46,49,57])=false):Bv (M+70) (part (hb,ca,pl,us,pu,po,ma,re,im,ia,na,hc,pe,ex,sk,ak,pt,fr,un) S u) l (xk (hb,ca,pl,us,pu,po,ma,re,im,ia,na,hc,pe,ex,sk,ak,pt,fr,un) 0)=some (0,part (hb,ca,pl,us,pu,po,ma,re,im,ia,na,hc,pe,ex,sk,ak,pt,fr,un) (fun i=>S i||i==0) u):=by
  have g:=AqN (M+70) hN h S u hk hS
  rw[Eo (M+70) _ l (xk (hb,ca,pl,us,pu,po,ma,re,im,ia,na,hc,pe,ex,sk,ak,pt,fr,un) 0) (Cm.getD 0 ([],0,0,0,0)) hN (AjI M).2 hl hb' (AjI M).1 rfl rfl]
  show Ac (EO (M+70) _ _) _=_
  rw[show(xk (hb,ca,pl,us,pu,po,ma,re,im,ia,na,hc,pe,ex,sk,ak,pt,fr,un) 0).2.2=_ from rfl]at *
  exact(congrArg (fun o=>Ac o fun r=>some (r.1,r.2)) g).trans rfl
theorem ApM (hk:hasK (hb,ca,pl,us,pu,po,ma,re,im,ia,na,hc,pe,ex,sk,ak,pt,fr,un) 1=true) (hS:S 1=false) (hb':l.any (fun y=>y.1==[50,46,53,46,50,57,46,49,53])=false):Bv (M+70) (part (hb,ca,pl,us,pu,po,ma,re,im,ia,na,hc,pe,ex,sk,ak,pt,fr,un) S u) l (xk (hb,ca,pl,us,pu,po,ma,re,im,ia,na,hc,pe,ex,sk,ak,pt,fr,un) 1)=some (0,part (hb,ca,pl,us,pu,po,ma,re,im,ia,na,hc,pe,ex,sk,ak,pt,fr,un) (fun i=>S i||i==1) u):=by
  have g:=AqO (M+70) hN h S u (by simpa [hasK,Ez]using hk) hS
  rw[Eo (M+70) _ l (xk (hb,ca,pl,us,pu,po,ma,re,im,ia,na,hc,pe,ex,sk,ak,pt,fr,un) 1) (Cm.getD 1 ([],0,0,0,0)) hN (AjJ M).2 hl hb' (AjJ M).1 rfl rfl]
  show Ac (EP (M+70) _ _) _=_
  rw[show(xk (hb,ca,pl,us,pu,po,ma,re,im,ia,na,hc,pe,ex,sk,ak,pt,fr,un) 1).2.2=_ from rfl]at *
  exact(congrArg (fun o=>Ac o fun r=>some (r.1,r.2)) g).trans rfl
theorem ApN (hk:hasK (hb,ca,pl,us,pu,po,ma,re,im,ia,na,hc,pe,ex,sk,ak,pt,fr,un) 2=true) (hS:S 2=false) (hb':l.any (fun y=>y.1==[50,46,53,46,50,57,46,51,55])=false):Bv (M+70) (part (hb,ca,pl,us,pu,po,ma,re,im,ia,na,hc,pe,ex,sk,ak,pt,fr,un) S u) l (xk (hb,ca,pl,us,pu,po,ma,re,im,ia,na,hc,pe,ex,sk,ak,pt,fr,un) 2)=some (0,part (hb,ca,pl,us,pu,po,ma,re,im,ia,na,hc,pe,ex,sk,ak,pt,fr,un) (fun i=>S i||i==2) u):=by
  have g:=AqP (M+70) hN h S u (jK hk) hS
  rw[Eo (M+70) _ l (xk (hb,ca,pl,us,pu,po,ma,re,im,ia,na,hc,pe,ex,sk,ak,pt,fr,un) 2) (Cm.getD 2 ([],0,0,0,0)) hN (AjK M).2 hl hb' (AjK M).1 rfl rfl]
  show Ac (DT (M+70) _ _) _=_
  rw[show(xk (hb,ca,pl,us,pu,po,ma,re,im,ia,na,hc,pe,ex,sk,ak,pt,fr,un) 2).2.2=_ from rfl]at *
  exact(congrArg (fun o=>Ac o fun r=>some (r.1,r.2)) g).trans rfl
theorem ApO (hk:hasK (hb,ca,pl,us,pu,po,ma,re,im,ia,na,hc,pe,ex,sk,ak,pt,fr,un) 3=true) (hS:S 3=false) (hb':l.any (fun y=>y.1==[50,46,53,46,50,57,46,51,50])=false):Bv (M+70) (part (hb,ca,pl,us,pu,po,ma,re,im,ia,na,hc,pe,ex,sk,ak,pt,fr,un) S u) l (xk (hb,ca,pl,us,pu,po,ma,re,im,ia,na,hc,pe,ex,sk,ak,pt,fr,un) 3)=some (0,part (hb,ca,pl,us,pu,po,ma,re,im,ia,na,hc,pe,ex,sk,ak,pt,fr,un) (fun i=>S i||i==3) u):=by
  have g:=AqQ (M+70) hN h S u (jK hk) hS
  rw[Eo (M+70) _ l (xk (hb,ca,pl,us,pu,po,ma,re,im,ia,na,hc,pe,ex,sk,ak,pt,fr,un) 3) (Cm.getD 3 ([],0,0,0,0)) hN (AjL M).2 hl hb' (AjL M).1 rfl rfl]
  show Ac (DR (M+70) _ _) _=_
  rw[show(xk (hb,ca,pl,us,pu,po,ma,re,im,ia,na,hc,pe,ex,sk,ak,pt,fr,un) 3).2.2=_ from rfl]at *
  exact(congrArg (fun o=>Ac o fun r=>some (r.1,r.2)) g).trans rfl
theorem ApP (hk:hasK (hb,ca,pl,us,pu,po,ma,re,im,ia,na,hc,pe,ex,sk,ak,pt,fr,un) 4=true) (hS:S 4=false) (hb':l.any (fun y=>y.1==[50,46,53,46,50,57,46,51,51])=false):Bv (M+70) (part (hb,ca,pl,us,pu,po,ma,re,im,ia,na,hc,pe,ex,sk,ak,pt,fr,un) S u) l (xk (hb,ca,pl,us,pu,po,ma,re,im,ia,na,hc,pe,ex,sk,ak,pt,fr,un) 4)=some (0,part (hb,ca,pl,us,pu,po,ma,re,im,ia,na,hc,pe,ex,sk,ak,pt,fr,un) (fun i=>S i||i==4) u):=by
  have g:=get4 (M+70) hN h S u (jK hk) hS
  rw[Eo (M+70) _ l (xk (hb,ca,pl,us,pu,po,ma,re,im,ia,na,hc,pe,ex,sk,ak,pt,fr,un) 4) (Cm.getD 4 ([],0,0,0,0)) hN (AjM M).2 hl hb' (AjM M).1 rfl rfl]
  show Ac (DN (M+70) _ _) _=_
  rw[show(xk (hb,ca,pl,us,pu,po,ma,re,im,ia,na,hc,pe,ex,sk,ak,pt,fr,un) 4).2.2=_ from rfl]at *
  exact(congrArg (fun o=>Ac o fun r=>some (r.1,r.2)) g).trans rfl
theorem ApQ (hk:hasK (hb,ca,pl,us,pu,po,ma,re,im,ia,na,hc,pe,ex,sk,ak,pt,fr,un) 5=true) (hS:S 5=false) (hb':l.any (fun y=>y.1==[50,46,53,46,50,57,46,51,54])=false):Bv (M+70) (part (hb,ca,pl,us,pu,po,ma,re,im,ia,na,hc,pe,ex,sk,ak,pt,fr,un) S u) l (xk (hb,ca,pl,us,pu,po,ma,re,im,ia,na,hc,pe,ex,sk,ak,pt,fr,un) 5)=some (0,part (hb,ca,pl,us,pu,po,ma,re,im,ia,na,hc,pe,ex,sk,ak,pt,fr,un) (fun i=>S i||i==5) u):=by
  have g:=AqR (M+70) hN h S u (fun h'=>by obtain⟨rfl,rfl⟩:=h';cases hk) hS
  rw[Eo (M+70) _ l (xk (hb,ca,pl,us,pu,po,ma,re,im,ia,na,hc,pe,ex,sk,ak,pt,fr,un) 5) (Cm.getD 5 ([],0,0,0,0)) hN (AjN M).2 hl hb' (AjN M).1 rfl rfl]
  show Ac (Et (M+70) _ _) _=_
  rw[show(xk (hb,ca,pl,us,pu,po,ma,re,im,ia,na,hc,pe,ex,sk,ak,pt,fr,un) 5).2.2=_ from rfl]at *
  exact(congrArg (fun o=>Ac o fun r=>some (r.1,r.2)) g).trans rfl
theorem ApR (hk:hasK (hb,ca,pl,us,pu,po,ma,re,im,ia,na,hc,pe,ex,sk,ak,pt,fr,un) 6=true) (hS:S 6=false) (hb':l.any (fun y=>y.1==[50,46,53,46,50,57,46,53,52])=false):Bv (M+70) (part (hb,ca,pl,us,pu,po,ma,re,im,ia,na,hc,pe,ex,sk,ak,pt,fr,un) S u) l (xk (hb,ca,pl,us,pu,po,ma,re,im,ia,na,hc,pe,ex,sk,ak,pt,fr,un) 6)=some (0,part (hb,ca,pl,us,pu,po,ma,re,im,ia,na,hc,pe,ex,sk,ak,pt,fr,un) (fun i=>S i||i==6) u):=by
  have g:=AqS (M+70) hN h S u (by simpa [hasK,Ez]using hk) hS
  rw[Eo (M+70) _ l (xk (hb,ca,pl,us,pu,po,ma,re,im,ia,na,hc,pe,ex,sk,ak,pt,fr,un) 6) (Cm.getD 6 ([],0,0,0,0)) hN (AjO M).2 hl hb' (AjO M).1 rfl rfl]
  show Ac (DW (M+70) _ _) _=_
  rw[show(xk (hb,ca,pl,us,pu,po,ma,re,im,ia,na,hc,pe,ex,sk,ak,pt,fr,un) 6).2.2=_ from rfl]at *
  exact(congrArg (fun o=>Ac o fun r=>some (r.1,r.2)) g).trans rfl
theorem ApS (hk:hasK (hb,ca,pl,us,pu,po,ma,re,im,ia,na,hc,pe,ex,sk,ak,pt,fr,un) 7=true) (hS:S 7=false) (hb':l.any (fun y=>y.1==[50,46,53,46,50,57,46,49,55])=false):Bv (M+70) (part (hb,ca,pl,us,pu,po,ma,re,im,ia,na,hc,pe,ex,sk,ak,pt,fr,un) S u) l (xk (hb,ca,pl,us,pu,po,ma,re,im,ia,na,hc,pe,ex,sk,ak,pt,fr,un) 7)=some (0,part (hb,ca,pl,us,pu,po,ma,re,im,ia,na,hc,pe,ex,sk,ak,pt,fr,un) (fun i=>S i||i==7) u):=by
  have g:=AqT (M+70) hN h S u (jK hk) hS
  rw[Eo (M+70) _ l (xk (hb,ca,pl,us,pu,po,ma,re,im,ia,na,hc,pe,ex,sk,ak,pt,fr,un) 7) (Cm.getD 7 ([],0,0,0,0)) hN (AjP M).2 hl hb' (AjP M).1 rfl rfl]
  show Ac (FW (M+70) _ _) _=_
  rw[show(xk (hb,ca,pl,us,pu,po,ma,re,im,ia,na,hc,pe,ex,sk,ak,pt,fr,un) 7).2.2=_ from rfl]at *
  exact(congrArg (fun o=>Ac o fun r=>some (r.1,r.2)) g).trans rfl
theorem ApT (hk:hasK (hb,ca,pl,us,pu,po,ma,re,im,ia,na,hc,pe,ex,sk,ak,pt,fr,un) 8=true) (hS:S 8=false) (hb':l.any (fun y=>y.1==[50,46,53,46,50,57,46,51,48])=false):Bv (M+70) (part (hb,ca,pl,us,pu,po,ma,re,im,ia,na,hc,pe,ex,sk,ak,pt,fr,un) S u) l (xk (hb,ca,pl,us,pu,po,ma,re,im,ia,na,hc,pe,ex,sk,ak,pt,fr,un) 8)=some (0,part (hb,ca,pl,us,pu,po,ma,re,im,ia,na,hc,pe,ex,sk,ak,pt,fr,un) (fun i=>S i||i==8) u):=by
  have g:=AqU (M+70) hN h S u hk hS
  rw[Eo (M+70) _ l (xk (hb,ca,pl,us,pu,po,ma,re,im,ia,na,hc,pe,ex,sk,ak,pt,fr,un) 8) (Cm.getD 8 ([],0,0,0,0)) hN (AjQ M).2 hl hb' (AjQ M).1 rfl rfl]
  have hs:okS (pe,ex):=by
    rcases h.con with ⟨h1,_⟩ | ⟨_,h1⟩
    ·dsimp only at h1;rw[show hc=true from hk]at h1;cases h1
    ·exact h1
  have e:(xk (hb,ca,pl,us,pu,po,ma,re,im,ia,na,hc,pe,ex,sk,ak,pt,fr,un) 8).2.2=sbB (pe,ex):=congrArg Prod.fst (yZ (M+70) hN hs).w0
  show Ac (DK (M+70) (xk (hb,ca,pl,us,pu,po,ma,re,im,ia,na,hc,pe,ex,sk,ak,pt,fr,un) 8).2.2 _) _=_
  rw[e,g,Ae]
theorem ApU (hk:hasK (hb,ca,pl,us,pu,po,ma,re,im,ia,na,hc,pe,ex,sk,ak,pt,fr,un) 9=true) (hS:S 9=false) (hb':l.any (fun y=>y.1==[50,46,53,46,50,57,46,49,52])=false):Bv (M+70) (part (hb,ca,pl,us,pu,po,ma,re,im,ia,na,hc,pe,ex,sk,ak,pt,fr,un) S u) l (xk (hb,ca,pl,us,pu,po,ma,re,im,ia,na,hc,pe,ex,sk,ak,pt,fr,un) 9)=some (0,part (hb,ca,pl,us,pu,po,ma,re,im,ia,na,hc,pe,ex,sk,ak,pt,fr,un) (fun i=>S i||i==9) u):=by
  have g:=AqV (M+70) hN h S u (by simpa [hasK,Ez]using hk) hS
  rw[Eo (M+70) _ l (xk (hb,ca,pl,us,pu,po,ma,re,im,ia,na,hc,pe,ex,sk,ak,pt,fr,un) 9) (Cm.getD 9 ([],0,0,0,0)) hN (AjR M).2 hl hb' (AjR M).1 rfl rfl]
  show Ac (DX (M+70) _ _) _=_
  rw[show(xk (hb,ca,pl,us,pu,po,ma,re,im,ia,na,hc,pe,ex,sk,ak,pt,fr,un) 9).2.2=_ from rfl]at *
  exact(congrArg (fun o=>Ac o fun r=>some (r.1,r.2)) g).trans rfl
theorem Ao9 (hk:hasK (hb,ca,pl,us,pu,po,ma,re,im,ia,na,hc,pe,ex,sk,ak,pt,fr,un) 10=true) (hS:S 10=false) (hb':l.any (fun y=>y.1==[50,46,53,46,50,57,46,51,53])=false):Bv (M+70) (part (hb,ca,pl,us,pu,po,ma,re,im,ia,na,hc,pe,ex,sk,ak,pt,fr,un) S u) l (xk (hb,ca,pl,us,pu,po,ma,re,im,ia,na,hc,pe,ex,sk,ak,pt,fr,un) 10)=some (0,part (hb,ca,pl,us,pu,po,ma,re,im,ia,na,hc,pe,ex,sk,ak,pt,fr,un) (fun i=>S i||i==10) u):=by
  have g:=Aqp (M+70) hN h S u (by simpa [hasK,Ez]using hk) hS
  rw[Eo (M+70) _ l (xk (hb,ca,pl,us,pu,po,ma,re,im,ia,na,hc,pe,ex,sk,ak,pt,fr,un) 10) (Cm.getD 10 ([],0,0,0,0)) hN (Ag1 M).2 hl hb' (Ag1 M).1 rfl rfl]
  show Ac (DF (M+70) _ _) _=_
  rw[show(xk (hb,ca,pl,us,pu,po,ma,re,im,ia,na,hc,pe,ex,sk,ak,pt,fr,un) 10).2.2=_ from rfl]at *
  exact(congrArg (fun o=>Ac o fun r=>some (r.1,r.2)) g).trans rfl
theorem AoA (hk:hasK (hb,ca,pl,us,pu,po,ma,re,im,ia,na,hc,pe,ex,sk,ak,pt,fr,un) 11=true) (hS:S 11=false) (hb':l.any (fun y=>y.1==[50,46,53,46,50,57,46,51,49])=false):Bv (M+70) (part (hb,ca,pl,us,pu,po,ma,re,im,ia,na,hc,pe,ex,sk,ak,pt,fr,un) S u) l (xk (hb,ca,pl,us,pu,po,ma,re,im,ia,na,hc,pe,ex,sk,ak,pt,fr,un) 11)=some (0,part (hb,ca,pl,us,pu,po,ma,re,im,ia,na,hc,pe,ex,sk,ak,pt,fr,un) (fun i=>S i||i==11) u):=by
  have g:=Aqq (M+70) hN h S u (jK hk) hS
  rw[Eo (M+70) _ l (xk (hb,ca,pl,us,pu,po,ma,re,im,ia,na,hc,pe,ex,sk,ak,pt,fr,un) 11) (Cm.getD 11 ([],0,0,0,0)) hN (Ag2 M).2 hl hb' (Ag2 M).1 rfl rfl]
  have e:(xk (hb,ca,pl,us,pu,po,ma,re,im,ia,na,hc,pe,ex,sk,ak,pt,fr,un) 11).2.2=psB pt:=congrArg Prod.fst (PD (h.pt.resolve_left (jK hk))).w0
  show Ac (F9 (M+70) (xk (hb,ca,pl,us,pu,po,ma,re,im,ia,na,hc,pe,ex,sk,ak,pt,fr,un) 11).2.2 _) _=_
  rw[e,g,Ae]
theorem AoB (hk:hasK (hb,ca,pl,us,pu,po,ma,re,im,ia,na,hc,pe,ex,sk,ak,pt,fr,un) 12=true) (hS:S 12=false) (hb':l.any (fun y=>y.1==[50,46,53,46,50,57,46,52,54])=false):Bv (M+70) (part (hb,ca,pl,us,pu,po,ma,re,im,ia,na,hc,pe,ex,sk,ak,pt,fr,un) S u) l (xk (hb,ca,pl,us,pu,po,ma,re,im,ia,na,hc,pe,ex,sk,ak,pt,fr,un) 12)=some (0,part (hb,ca,pl,us,pu,po,ma,re,im,ia,na,hc,pe,ex,sk,ak,pt,fr,un) (fun i=>S i||i==12) u):=by
  have g:=Aqr (M+70) hN h S u (jK hk) hS
  rw[Eo (M+70) _ l (xk (hb,ca,pl,us,pu,po,ma,re,im,ia,na,hc,pe,ex,sk,ak,pt,fr,un) 12) (Cm.getD 12 ([],0,0,0,0)) hN (Ag3 M).2 hl hb' (Ag3 M).1 rfl rfl]
  have e:(xk (hb,ca,pl,us,pu,po,ma,re,im,ia,na,hc,pe,ex,sk,ak,pt,fr,un) 12).2.2=psB fr:=congrArg Prod.fst (PD (h.fr.resolve_left (jK hk))).w0
  show Ac (E8 (M+70) (xk (hb,ca,pl,us,pu,po,ma,re,im,ia,na,hc,pe,ex,sk,ak,pt,fr,un) 12).2.2 _) _=_
  rw[e,g,Ae]
end
