/-
  CertextCheck: the law returns true whatever the input; machine, functions, plain law (part 40 of 47.)
-/
import Derived.Test.YtadefjgbcapakaaGreatDoorA39
set_option linter.unusedVariables false
set_option linter.unusedSimpArgs false
namespace Go.Proofs.YtadefjgbcapakaaGreatDoor.Pl
open IntKind (i64)
open Go Vm
theorem G8 {α ρ :Type} {A:(α →Option ρ)→Option ρ} {f: α →Option ρ} {x: α} (h: ∀ j: α →Option ρ,A j=j x):CS A f=f x:=h f
theorem number_eq (N t:Nat) (n:Int) (ht:t<256) (h31:t % 32≠31) (hN:1048578<N) (h:spI n=true):DF N (t:Int) n=some (Sp.elem t (inB n)):=by
  obtain⟨_,h2,h3⟩:=JB N n hN h
  have w:=Kt N t [inB n] ht h31 hN (by simp) (by rw[Bc];omega)
  rw[Bc]at w
  unfold DF
  rw[h2,Ae,w,Ae]
theorem AhT (N:Nat) (v:Bool) (hN:1048578<N):NH N 1 v=some (bif v then Sp.elem 1 [255]else []):=by
  unfold NH
  cases v with
  | false=>rfl
  | true =>
    have w:AP N 1 [[255]]=_:=Kt N 1 [[255]] (by omega) (by omega) hN (by simp) (by simp)
    show Ad (AP N 1 [[255]]) _=_
    rw[w,Ae];rfl
theorem QS (N:Nat) (hN:1048578<N) (l:List Bs) (hl:l.length≤1000) (hs:l.flatten.length≤131072):AP N 48 l=some (Sp.elem 48 l.flatten):=Kt N 48 l (by omega) (by omega) hN hl hs
theorem Ahu {t:Nat} {c:Bs} (h:(tY t c).2≠0):(tY t c).2=2:=by
  unfold tY at h ⊢
  dsimp only at h ⊢
  by_cases hn:(EH t c).isNone=true
  ·rw[if_pos hn]
  ·rw[if_neg hn]at h;exact absurd rfl h
theorem Ah5 {l:List Pt} (h0:l≠ []) (h1:I9 l=0) (h:(BF l).2≠0):(BF l).2=2:=by
  unfold BF at h ⊢
  rw[show l.isEmpty=false by cases l with | nil=>exact absurd rfl h0 | cons _ _=>rfl,h1]at h ⊢
  exact Ahu h
set_option maxHeartbeats 1000000 in
theorem Ac9 (N:Nat) (x:Info) (hN:1048578<N) (hx:JC x):GZ N x=some (encI x):=by
  have hck:=eX N x hN hx
  have hun:=hx.un.1
  unfold GZ encI
  try simp only[clR]
  rw[hck,Ae, ←Bd]
  refine BC fun h0=> ?_
  have h0:Jw x=0:=by simpa using h0
  clear hck
  obtain⟨hb,ca,pl,us,pu,po,ma,re,im,ia,na,hc,pe,ex,sk,ak,pt,fr,un⟩:=x
  have hun:un.length≤1048576:=hun
  obtain⟨ok,_⟩:=Afe h0
  obtain⟨s1,s2,s3,s4⟩:=ok.sp
  have i1:=XN N hN s1
  have i2:=XN N hN s2
  have i3:=XN N hN s3
  have i4:=XN N hN s4
  have n1:DF N 2 pl=_:=number_eq N 2 pl (by omega) (by omega) hN s1
  have n2:DF N 128 re=_:=number_eq N 128 re (by omega) (by omega) hN s2
  have n3:DF N 129 im=_:=number_eq N 129 im (by omega) (by omega) hN s3
  have n4:DF N 2 ia=_:=number_eq N 2 ia (by omega) (by omega) hN s4
  have q1:=Sp.Bf 2 (inB pl)
  have q2:=Sp.Bf 128 (inB re)
  have q3:=Sp.Bf 129 (inB im)
  have fl:G5 N 3 us=_:=AeN N 3 us (by omega) (by omega) hN ok.us
  have gg:=fun n h=>TA (n:=n) h
  refine(G8 (x:=(hb,ca,pl,us,pu,po,ma,re,im,ia,na,hc,pe,ex,sk,ak,pt,fr,un,(BJ (hb,false,[50,46,53,46,50,57,46,49,57],true,Ub ca pl)))) (fun j=> ?_)).trans ?_
  ·cases hb with
   | false=>rfl
   | true =>
     have hbl:((bif ca then Sp.elem 1 [255]else []):Bs).length≤10:=by cases ca<;>decide
     rw[cond_true,AhT N ca hN,Ae,TA s1]
     simp only[CS]
     unfold BJ Ub
     cases hp:pl != -1 with
     | true =>
       have w:=QS N hN [(bif ca then Sp.elem 1 [255]else [])++Sp.elem 2 (inB pl)] (by simp) (by rw[Bc,List.length_append];omega)
       rw[Bc]at w
       rw[cond_true,n1,Ae]
       dsimp only[U20]
       rw[Eo (by omega),Aj,w,Ae];rfl
     | false =>
       have w:=QS N hN [(bif ca then Sp.elem 1 [255]else [])] (by simp) (by rw[Bc];omega)
       rw[Bc]at w
       rw[cond_false]
       dsimp only[U20]
       rw[w,Ae,cond_true,cond_false,List.append_nil]
  generalize hl0:BJ (hb,false,[50,46,53,46,50,57,46,49,57],true,Ub ca pl)=A0
  have kA0:A0.length≤1:=by rw[← hl0];exact Eh _
  dsimp only[U20]
  refine(G8 (x:=(hb,ca,pl,us,pu,po,ma,re,im,ia,na,hc,pe,ex,sk,ak,pt,fr,un,A0++BJ (us != 0,false,[50,46,53,46,50,57,46,49,53],true,Sp.elem 3 (flB us)))) (fun j=> ?_)).trans ?_
  ·unfold BJ
   by_cases h:us=0
   ·rw[Uc h,cond_false,cond_false,List.append_nil]
   ·rw[xC h,cond_true,fl,Ae,Eo (by omega),Aj]
    unfold pfB
    rw[IP h];rfl
  obtain⟨A1,hA1⟩: ∃ A,A=A0++BJ (us != 0,false,[50,46,53,46,50,57,46,49,53],true,Sp.elem 3 (flB us)):=⟨_,rfl⟩
  rw[← hA1]
  have kA1:A1.length≤2:=by rw[hA1,List.length_append];have:=Eh (us != 0,false,[50,46,53,46,50,57,46,49,53],true,Sp.elem 3 (flB us));omega
  dsimp only[U20]
  refine(G8 (x:=(hb,ca,pl,us,pu,po,ma,re,im,ia,na,hc,pe,ex,sk,ak,pt,fr,un,A1++BJ (decide (((pu.length:Nat):Int)>0),false,[50,46,53,46,50,57,46,51,55],false,Abd pu))) (fun j=> ?_)).trans ?_
  ·unfold BJ
   cases hh:decide (((pu.length:Nat):Int)>0)with
   | false=>rw[cond_false,cond_false,List.append_nil]
   | true =>
     have hl:=Dk (g:=CU) (M:=65) (l:=pu) (fun m hm=>by exact E8 (ok.pu.2 m hm))
     have hk:=ok.pu.1
     rw[cond_true,cond_true]
     refine(Qj (mk:=fun i t=>(t,(i:Int),hb,ca,pl,us,pu,po,ma,re,im,ia,na,hc,pe,ex,sk,ak,pt,fr,un,A1)) pu [] (CU) (fun t=>Ad (AP N 48 [t]) fun r=>Vm.chk (decide ((A1.length+1)*41≤140737488355328)) (j (hb,ca,pl,us,pu,po,ma,re,im,ia,na,hc,pe,ex,sk,ak,pt,fr,un,A1++[([50,46,53,46,50,57,46,51,55],false,r)]))) ?_ ?_ N (by omega)).trans ?_
     ·intro i t hi ht k
      dsimp only[U22]
      rw[Int.toNat_natCast]
      have hp:=PM N _ hN (hx.pu.2 _ (getD_mem [] hi)) (ok.pu.2 _ (getD_mem [] hi))
      have hp2:Sp.elem 6 (FN (pu.getD i []))=CU (pu.getD i []):=rfl
      simp (disch:=first | assumption | omega) only[Aw,hp,hp2,AY]
     ·intro t k
      dsimp only[U22]
      rw[Jt (by omega),cond_false]
      rfl
     ·have w:=QS N hN [(pu.map CU).flatten] (by simp) (by rw[Bc];omega)
      rw[Bc]at w
      rw[w,Ae,Eo (by omega),Aj];rfl
  obtain⟨A2,hA2⟩: ∃ A,A=A1++BJ (decide (((pu.length:Nat):Int)>0),false,[50,46,53,46,50,57,46,51,55],false,Abd pu):=⟨_,rfl⟩
  rw[← hA2]
  have kA2:A2.length≤3:=by rw[hA2,List.length_append];have:=Eh (decide (((pu.length:Nat):Int)>0),false,[50,46,53,46,50,57,46,51,55],false,Abd pu);omega
  dsimp only[U20]
  refine(G8 (x:=(hb,ca,pl,us,pu,po,ma,re,im,ia,na,hc,pe,ex,sk,ak,pt,fr,un,A2++BJ (decide (((po.length:Nat):Int)>0),false,[50,46,53,46,50,57,46,51,50],false,Abu po))) (fun j=> ?_)).trans ?_
  ·unfold BJ
   cases hh:decide (((po.length:Nat):Int)>0)with
   | false=>rw[cond_false,cond_false,List.append_nil]
   | true =>
     have hl:=Dk (g:=(fun s=>Sp.elem 48 (CU s))) (M:=70) (l:=po) (fun m hm=>by have:=E8 (ok.po.2 m hm);have:=Sp.Bf 48 (CU m);omega)
     have hk:=ok.po.1
     rw[cond_true,cond_true]
     refine(Qj (mk:=fun i t=>(t,(i:Int),hb,ca,pl,us,pu,po,ma,re,im,ia,na,hc,pe,ex,sk,ak,pt,fr,un,A2)) po [] ((fun s=>Sp.elem 48 (CU s))) (fun t=>Ad (AP N 48 [t]) fun r=>Vm.chk (decide ((A2.length+1)*41≤140737488355328)) (j (hb,ca,pl,us,pu,po,ma,re,im,ia,na,hc,pe,ex,sk,ak,pt,fr,un,A2++[([50,46,53,46,50,57,46,51,50],false,r)]))) ?_ ?_ N (by omega)).trans ?_
     ·intro i t hi ht k
      dsimp only[U22]
      rw[Int.toNat_natCast]
      have hv:=ok.po.2 _ (getD_mem [] hi)
      have hp:=PM N _ hN (hx.po.2 _ (getD_mem [] hi)) hv
      have hp2:Sp.elem 6 (FN (po.getD i []))=CU (po.getD i []):=rfl
      have w:=QS N hN [CU (po.getD i [])] (by simp) (by rw[Bc];have:=E8 hv;omega)
      rw[Bc]at w
      simp (disch:=first | assumption | omega) only[Aw,hp,hp2,w,AY]
     ·intro t k
      dsimp only[U22]
      rw[Jt (by omega),cond_false]
      rfl
     ·have w:=QS N hN [(po.map (fun s=>Sp.elem 48 (CU s))).flatten] (by simp) (by rw[Bc];omega)
      rw[Bc]at w
      rw[w,Ae,Eo (by omega),Aj];rfl
  obtain⟨A3,hA3⟩: ∃ A,A=A2++BJ (decide (((po.length:Nat):Int)>0),false,[50,46,53,46,50,57,46,51,50],false,Abu po):=⟨_,rfl⟩
  rw[← hA3]
  have kA3:A3.length≤4:=by rw[hA3,List.length_append];have:=Eh (decide (((po.length:Nat):Int)>0),false,[50,46,53,46,50,57,46,51,50],false,Abu po);omega
  dsimp only[U20]
  refine(G8 (x:=(hb,ca,pl,us,pu,po,ma,re,im,ia,na,hc,pe,ex,sk,ak,pt,fr,un,A3++BJ (decide (((ma.length:Nat):Int)>0),false,[50,46,53,46,50,57,46,51,51],true,Abn ma))) (fun j=> ?_)).trans ?_
  ·unfold BJ
   cases hh:decide (((ma.length:Nat):Int)>0)with
   | false=>rw[cond_false,cond_false,List.append_nil]
   | true =>
     have hl:=Dk (g:=(fun m:Bs×Bs=>Sp.elem 48 (CU m.1++CU m.2))) (M:=135) (l:=ma) (fun m hm=>by have:=E8 (ok.ma.2 m hm).1;have:=E8 (ok.ma.2 m hm).2;have:=Sp.Bf 48 (CU m.1++CU m.2);rw[List.length_append]at this;omega)
     have hk:=ok.ma.1
     rw[cond_true,cond_true]
     refine(Qj (mk:=fun i t=>(t,(i:Int),hb,ca,pl,us,pu,po,ma,re,im,ia,na,hc,pe,ex,sk,ak,pt,fr,un,A3)) ma ([],[]) ((fun m:Bs×Bs=>Sp.elem 48 (CU m.1++CU m.2))) (fun t=>Ad (AP N 48 [t]) fun r=>Vm.chk (decide ((A3.length+1)*41≤140737488355328)) (j (hb,ca,pl,us,pu,po,ma,re,im,ia,na,hc,pe,ex,sk,ak,pt,fr,un,A3++[([50,46,53,46,50,57,46,51,51],true,r)]))) ?_ ?_ N (by omega)).trans ?_
     ·intro i t hi ht k
      dsimp only[U22]
      rw[Int.toNat_natCast]
      have hv:=ok.ma.2 _ (getD_mem ([],[]) hi)
      have hsm:Vd (ma.getD i ([],[])):=hx.ma _ (getD_mem ([],[]) hi)
      have hp:=PM N _ hN hsm.1 hv.1
      have hq:=PM N _ hN hsm.2 hv.2
      have hp2:Sp.elem 6 (FN (ma.getD i ([],[])).1)=CU (ma.getD i ([],[])).1:=rfl
      have hq2:Sp.elem 6 (FN (ma.getD i ([],[])).2)=CU (ma.getD i ([],[])).2:=rfl
      have w:=QS N hN [CU (ma.getD i ([],[])).1,CU (ma.getD i ([],[])).2] (by simp) (by rw[Jv,List.length_append];have:=E8 hv.1;have:=E8 hv.2;omega)
      rw[Jv]at w
      simp (disch:=first | assumption | omega) only[Aw,hp,hq,hp2,hq2,w,AY]
     ·intro t k
      dsimp only[U22]
      rw[Jt (by omega),cond_false]
      rfl
     ·have w:=QS N hN [(ma.map (fun m:Bs×Bs=>Sp.elem 48 (CU m.1++CU m.2))).flatten] (by simp) (by rw[Bc];omega)
      rw[Bc]at w
      rw[w,Ae,Eo (by omega),Aj];rfl
  obtain⟨A4,hA4⟩: ∃ A,A=A3++BJ (decide (((ma.length:Nat):Int)>0),false,[50,46,53,46,50,57,46,51,51],true,Abn ma):=⟨_,rfl⟩
  rw[← hA4]
  have kA4:A4.length≤5:=by rw[hA4,List.length_append];have:=Eh (decide (((ma.length:Nat):Int)>0),false,[50,46,53,46,50,57,46,51,51],true,Abn ma);omega
  dsimp only[U20]
  refine(G8 (x:=(hb,ca,pl,us,pu,po,ma,re,im,ia,na,hc,pe,ex,sk,ak,pt,fr,un,A4++BJ (re != -1||im != -1,false,[50,46,53,46,50,57,46,51,54],true,uN re im))) (fun j=> ?_)).trans ?_
  ·rw[TA s2,TA s3]
   unfold BJ
   cases hh:(re != -1||im != -1)with
   | false=>rw[cond_false,cond_false,List.append_nil]
   | true =>
     rw[cond_true,cond_true]
     have fin: ∀ a c:Bs,a=(bif re != -1 then Sp.elem 128 (inB re)else [])→c=(bif im != -1 then Sp.elem 129 (inB im)else [])→(Ad (AP N 48 [a++c]) fun r=>Vm.chk (decide ((A4.length+1)*41≤140737488355328)) (j (hb,ca,pl,us,pu,po,ma,re,im,ia,na,hc,pe,ex,sk,ak,pt,fr,un,A4++[([50,46,53,46,50,57,46,51,54],true,r)])))=j (hb,ca,pl,us,pu,po,ma,re,im,ia,na,hc,pe,ex,sk,ak,pt,fr,un,A4++[([50,46,53,46,50,57,46,51,54],true,uN re im)]):=by
       intro a c ha hc
       have h1:a.length≤10:=by
         rw[ha]
         cases re != -1
         ·exact Nat.zero_le _
         ·show(Sp.elem 128 (inB re)).length≤10;omega
       have h2:c.length≤10:=by
         rw[hc]
         cases im != -1
         ·exact Nat.zero_le _
         ·show(Sp.elem 129 (inB im)).length≤10;omega
       have w:=QS N hN [a++c] (by simp) (by rw[Bc,List.length_append];omega)
       rw[Bc]at w
       rw[w,Ae,Eo (by omega),Aj]
       unfold uN
       rw[← ha, ←hc]
     refine(G8 (x:=(bif re != -1 then Sp.elem 128 (inB re)else [],hb,ca,pl,us,pu,po,ma,re,im,ia,na,hc,pe,ex,sk,ak,pt,fr,un,A4)) (fun j=> ?_)).trans ?_
     ·cases re != -1 with
      | true=>rw[cond_true,n2,Ae];rfl
      | false=>rfl
     dsimp only[U21]
     obtain⟨a,ha⟩: ∃ a:Bs,a=(bif re != -1 then Sp.elem 128 (inB re)else []):=⟨_,rfl⟩
     rw[← ha]
     have h1:a.length≤10:=by
       rw[ha]
       cases re != -1
       ·exact Nat.zero_le _
       ·show(Sp.elem 128 (inB re)).length≤10;omega
     refine(G8 (x:=(a++(bif im != -1 then Sp.elem 129 (inB im)else []),hb,ca,pl,us,pu,po,ma,re,im,ia,na,hc,pe,ex,sk,ak,pt,fr,un,A4)) (fun j=> ?_)).trans ?_
     ·rw[TA s3]
      cases im != -1 with
      | true=>rw[cond_true,n3,Ae,Eo (by omega),Aj];rfl
      | false=>rw[cond_false,cond_false,List.append_nil]
     dsimp only[U21]
     exact fin a _ ha rfl
  obtain⟨A5,hA5⟩: ∃ A,A=A4++BJ (re != -1||im != -1,false,[50,46,53,46,50,57,46,51,54],true,uN re im):=⟨_,rfl⟩
  rw[← hA5]
  have kA5:A5.length≤6:=by rw[hA5,List.length_append];have:=Eh (re != -1||im != -1,false,[50,46,53,46,50,57,46,51,54],true,uN re im);omega
  dsimp only[U20]
  refine(G8 (x:=(hb,ca,pl,us,pu,po,ma,re,im,ia,na,hc,pe,ex,sk,ak,pt,fr,un,A5++BJ (ia != -1,false,[50,46,53,46,50,57,46,53,52],true,Sp.elem 2 (inB ia)))) (fun j=> ?_)).trans ?_
  ·rw[TA s4]
   unfold BJ
   cases hh:ia != -1 with
   | false=>rw[cond_false,cond_false,List.append_nil]
   | true=>rw[cond_true,cond_true,n4,Ae,Eo (by omega),Aj]
  obtain⟨A6,hA6⟩: ∃ A,A=A5++BJ (ia != -1,false,[50,46,53,46,50,57,46,53,52],true,Sp.elem 2 (inB ia)):=⟨_,rfl⟩
  rw[← hA6]
  have kA6:A6.length≤7:=by rw[hA6,List.length_append];have:=Eh (ia != -1,false,[50,46,53,46,50,57,46,53,52],true,Sp.elem 2 (inB ia));omega
  dsimp only[U20]
  refine(G8 (x:=(hb,ca,pl,us,pu,po,ma,re,im,ia,na,hc,pe,ex,sk,ak,pt,fr,un,A6++BJ (decide (((na.length:Nat):Int)>0),false,[50,46,53,46,50,57,46,49,55],false,Sp.elem 48 (D8 na)))) (fun j=> ?_)).trans ?_
  ·unfold BJ
   cases hh:decide (((na.length:Nat):Int)>0)with
   | false=>rw[cond_false,cond_false,List.append_nil]
   | true =>
     have hna0:na≠ []:=by intro h;subst h;cases hh
     have hl:=VH ok.na.2 ok.na.1
     have w:=QS N hN [D8 na] (by simp) (by rw[Bc];omega)
     rw[Bc]at w
     rw[cond_true,cond_true,RU N na hN hx.na,Uz hna0 ok.na.1 ok.na.2,Ae]
     dsimp only
     rw[w,Ae,Eo (by omega),Aj]
  obtain⟨A7,hA7⟩: ∃ A,A=A6++BJ (decide (((na.length:Nat):Int)>0),false,[50,46,53,46,50,57,46,49,55],false,Sp.elem 48 (D8 na)):=⟨_,rfl⟩
  rw[← hA7]
  have kA7:A7.length≤8:=by rw[hA7,List.length_append];have:=Eh (decide (((na.length:Nat):Int)>0),false,[50,46,53,46,50,57,46,49,55],false,Sp.elem 48 (D8 na));omega
  dsimp only[U20]
  have hsub:EE N (pe,ex)=some (FP (pe,ex)):=nJ N (pe,ex) hN hx.pe hx.ex
  cases hE:G9 (hc,(FP (pe,ex)).2 != 0,[50,46,53,46,50,57,46,51,48],true,(FP (pe,ex)).1)with
  | true =>
    have hany:(EF (hb,ca,pl,us,pu,po,ma,re,im,ia,na,hc,pe,ex,sk,ak,pt,fr,un)).any G9=true:=List.any_eq_true.2 ⟨(hc,(FP (pe,ex)).2 != 0,[50,46,53,46,50,57,46,51,48],true,(FP (pe,ex)).1),List.mem_iff_getElem?.2 ⟨8,rfl⟩,hE⟩
    rw[hany]
    unfold G9 at hE
    rw[Bool.and_eq_true]at hE
    obtain⟨hE1,hE2⟩:=hE
    have hE1:hc=true:=hE1
    have hE2:((FP (pe,ex)).2 != 0)=true:=hE2
    have hcon:=ok.con
    unfold YQ at hcon
    rw[hE1,cond_true]at hcon
    have h2:(FP (pe,ex)).2=2:=by
      unfold FP at hE2 ⊢
      rw[hcon]at hE2 ⊢
      exact Ahu (by simpa using hE2)
    show(bif hc then _ else _)=_
    rw[hE1,cond_true,hsub,Ae,hE2,cond_true,h2];rfl
  | false =>
  refine(G8 (x:=(hb,ca,pl,us,pu,po,ma,re,im,ia,na,hc,pe,ex,sk,ak,pt,fr,un,A7++BJ (hc,(FP (pe,ex)).2 != 0,[50,46,53,46,50,57,46,51,48],true,(FP (pe,ex)).1))) (fun j=> ?_)).trans ?_
  ·unfold BJ
   cases hh:hc with
   | false=>rw[cond_false,cond_false,List.append_nil]
   | true =>
     rw[hh,G9,Bool.true_and]at hE
     have hE:((FP (pe,ex)).2 != 0)=false:=hE
     rw[cond_true,cond_true,hsub,Ae,hE,cond_false,Eo (by omega),Aj]
  obtain⟨A8,hA8⟩: ∃ A,A=A7++BJ (hc,(FP (pe,ex)).2 != 0,[50,46,53,46,50,57,46,51,48],true,(FP (pe,ex)).1):=⟨_,rfl⟩
  rw[← hA8]
  have kA8:A8.length≤9:=by rw[hA8,List.length_append];have:=Eh (hc,(FP (pe,ex)).2 != 0,[50,46,53,46,50,57,46,51,48],true,(FP (pe,ex)).1);omega
  dsimp only[U20]
  refine(G8 (x:=(hb,ca,pl,us,pu,po,ma,re,im,ia,na,hc,pe,ex,sk,ak,pt,fr,un,A8++BJ (!(sk==[]),false,[50,46,53,46,50,57,46,49,52],false,Sp.elem 4 sk))) (fun j=> ?_)).trans ?_
  ·unfold BJ
   cases hh:(!(sk==[]))with
   | false=>rw[cond_false,cond_false,List.append_nil]
   | true =>
     have hk:=ok.sk
     have w:AP N 4 [sk]=_:=Kt N 4 [sk] (by omega) (by omega) hN (by simp) (by rw[Bc];omega)
     rw[Bc]at w
     rw[cond_true,cond_true,w,Ae,Eo (by omega),Aj]
  obtain⟨A9,hA9⟩: ∃ A,A=A8++BJ (!(sk==[]),false,[50,46,53,46,50,57,46,49,52],false,Sp.elem 4 sk):=⟨_,rfl⟩
  rw[← hA9]
  have kA9:A9.length≤10:=by rw[hA9,List.length_append];have:=Eh (!(sk==[]),false,[50,46,53,46,50,57,46,49,52],false,Sp.elem 4 sk);omega
  dsimp only[U20]
  refine(G8 (x:=(hb,ca,pl,us,pu,po,ma,re,im,ia,na,hc,pe,ex,sk,ak,pt,fr,un,A9++BJ (!(ak==[]),false,[50,46,53,46,50,57,46,51,53],false,Sp.elem 48 (Sp.elem 128 ak)))) (fun j=> ?_)).trans ?_
  ·unfold BJ
   cases hh:(!(ak==[]))with
   | false=>rw[cond_false,cond_false,List.append_nil]
   | true =>
     have hk:=ok.ak
     have he:=Sp.Bf 128 ak
     have w:AP N 128 [ak]=_:=Kt N 128 [ak] (by omega) (by omega) hN (by simp) (by rw[Bc];omega)
     have w2:=QS N hN [Sp.elem 128 ak] (by simp) (by rw[Bc];omega)
     rw[Bc]at w w2
     rw[cond_true,cond_true,w,Ae,w2,Ae,Eo (by omega),Aj]
  obtain⟨A10,hA10⟩: ∃ A,A=A9++BJ (!(ak==[]),false,[50,46,53,46,50,57,46,51,53],false,Sp.elem 48 (Sp.elem 128 ak)):=⟨_,rfl⟩
  rw[← hA10]
  have kA10:A10.length≤11:=by rw[hA10,List.length_append];have:=Eh (!(ak==[]),false,[50,46,53,46,50,57,46,51,53],false,Sp.elem 48 (Sp.elem 128 ak));omega
  dsimp only[U20]
  have hp1:Dt N pt=some (BF pt):=O6 N pt hN hx.pt
  have hp2:Dt N fr=some (BF fr):=O6 N fr hN hx.fr
  have hq1:pt≠ []→(BF pt).2≠0→(BF pt).2=2:=fun h h2=>Ah5 h ok.pt h2
  have hq2:fr≠ []→(BF fr).2≠0→(BF fr).2=2:=fun h h2=>Ah5 h ok.fr h2
  refine(Jo (S:=List Ex) (R:=Int) (mk:=fun i s=>((i:Int),hb,ca,pl,us,pu,po,ma,re,im,ia,na,hc,pe,ex,sk,ak,pt,fr,un,[pt,fr],s)) [(decide (((pt.length:Nat):Int)>0),(BF pt).2 != 0,[50,46,53,46,50,57,46,51,49],false,(BF pt).1),(decide (((fr.length:Nat):Int)>0),(BF fr).2 != 0,[50,46,53,46,50,57,46,52,54],false,(BF fr).1)] noX (fun i s=>s.length≤11+i) (fun r s=>bif G9 r then .inl 2 else .inr (s++BJ r)) (fun e=>some ([],e)) (fun s=>some (s++un,0)) ?_ ?_ ?_ N A10 kA10 (by show 2<N;omega)).trans ?_
  ·intro i s hi hI k
   have hi:i<2:=hi
   have hI:s.length≤11+i:=hI
   dsimp only[U22]
   rw[Ju (by omega),cond_true,Hg (by omega),Aj]
   rcases(by omega:i=0∨i=1)with rfl | rfl
   ·show Vm.chk true (Vm.chk true (bif (((pt.length:Nat):Int)==0)then k (i64.wrap (((0:Nat):Int)+1),hb,ca,pl,us,pu,po,ma,re,im,ia,na,hc,pe,ex,sk,ak,pt,fr,un,[pt,fr],s)else Ad (Dt N pt) fun r249=>bif r249.2 != 0 then some ([],r249.2)else Vm.chk true (Vm.chk true (Vm.chk true (Vm.chk (decide ((s.length+1)*41≤140737488355328)) (k (i64.wrap (((0:Nat):Int)+1),hb,ca,pl,us,pu,po,ma,re,im,ia,na,hc,pe,ex,sk,ak,pt,fr,un,[pt,fr],s++[([50,46,53,46,50,57,46,51,49],false,r249.1)])))))))=IG (bif G9 (decide (((pt.length:Nat):Int)>0),(BF pt).2 != 0,[50,46,53,46,50,57,46,51,49],false,(BF pt).1)then .inl 2 else .inr (s++BJ (decide (((pt.length:Nat):Int)>0),(BF pt).2 != 0,[50,46,53,46,50,57,46,51,49],false,(BF pt).1))) _ _
    unfold G9 BJ
    rw[len0,Pg,hp1,Ae,Eo (by omega)]
    cases he:pt.isEmpty with
    | true=>rw[Bool.not_true];simp only[Aj,cond_true,cond_false,Bool.false_and,List.append_nil];rfl
    | false =>
      have hne:pt≠ []:=by intro h;subst h;cases he
      rw[Bool.not_false]
      simp only[Aj,cond_true,cond_false,Bool.true_and]
      cases hz:(BF pt).2 != 0 with
      | true=>rw[hq1 hne (by simpa using hz)];rfl
      | false=>rfl
   ·show Vm.chk true (Vm.chk true (bif (((fr.length:Nat):Int)==0)then k (i64.wrap (((1:Nat):Int)+1),hb,ca,pl,us,pu,po,ma,re,im,ia,na,hc,pe,ex,sk,ak,pt,fr,un,[pt,fr],s)else Ad (Dt N fr) fun r249=>bif r249.2 != 0 then some ([],r249.2)else Vm.chk true (Vm.chk true (Vm.chk true (Vm.chk (decide ((s.length+1)*41≤140737488355328)) (k (i64.wrap (((1:Nat):Int)+1),hb,ca,pl,us,pu,po,ma,re,im,ia,na,hc,pe,ex,sk,ak,pt,fr,un,[pt,fr],s++[([50,46,53,46,50,57,46,52,54],false,r249.1)])))))))=IG (bif G9 (decide (((fr.length:Nat):Int)>0),(BF fr).2 != 0,[50,46,53,46,50,57,46,52,54],false,(BF fr).1)then .inl 2 else .inr (s++BJ (decide (((fr.length:Nat):Int)>0),(BF fr).2 != 0,[50,46,53,46,50,57,46,52,54],false,(BF fr).1))) _ _
    unfold G9 BJ
    rw[len0,Pg,hp2,Ae,Eo (by omega)]
    cases he:fr.isEmpty with
    | true=>rw[Bool.not_true];simp only[Aj,cond_true,cond_false,Bool.false_and,List.append_nil];rfl
    | false =>
      have hne:fr≠ []:=by intro h;subst h;cases he
      rw[Bool.not_false]
      simp only[Aj,cond_true,cond_false,Bool.true_and]
      cases hz:(BF fr).2 != 0 with
      | true=>rw[hq2 hne (by simpa using hz)];rfl
      | false=>rfl
  ·intro i s s' hi hI he
   have hI:s.length≤11+i:=hI
   generalize ([(decide (((pt.length:Nat):Int)>0),(BF pt).2 != 0,[50,46,53,46,50,57,46,51,49],false,(BF pt).1),(decide (((fr.length:Nat):Int)>0),(BF fr).2 != 0,[50,46,53,46,50,57,46,52,54],false,(BF fr).1)]:List (Bool×Bool×Ex)).getD i noX=r at he
   cases hb:G9 r with
   | true=>rw[hb]at he;cases he
   | false =>
     rw[hb]at he
     injection he with he
     subst he
     have:=Eh r
     show(s++BJ r).length≤11+(i+1)
     rw[List.length_append];omega
  ·intro s k hI
   have hI:s.length≤11+2:=hI
   dsimp only[U22]
   rw[Jt (by show(2:Int)≤((2:Nat):Int);omega),cond_false]
   dsimp only[U20]
   rw[Eo (by omega),Aj]
  ·rw[DR]
   have hany:(EF (hb,ca,pl,us,pu,po,ma,re,im,ia,na,hc,pe,ex,sk,ak,pt,fr,un)).any G9=(G9 (hc,(FP (pe,ex)).2 != 0,[50,46,53,46,50,57,46,51,48],true,(FP (pe,ex)).1)||(G9 (decide (((pt.length:Nat):Int)>0),(BF pt).2 != 0,[50,46,53,46,50,57,46,51,49],false,(BF pt).1)||G9 (decide (((fr.length:Nat):Int)>0),(BF fr).2 != 0,[50,46,53,46,50,57,46,52,54],false,(BF fr).1))):=by
     unfold EF G9
     simp
   have hflat:(EF (hb,ca,pl,us,pu,po,ma,re,im,ia,na,hc,pe,ex,sk,ak,pt,fr,un)).flatMap BJ=A10++(BJ (decide (((pt.length:Nat):Int)>0),(BF pt).2 != 0,[50,46,53,46,50,57,46,51,49],false,(BF pt).1)++BJ (decide (((fr.length:Nat):Int)>0),(BF fr).2 != 0,[50,46,53,46,50,57,46,52,54],false,(BF fr).1)):=by
     rw[hA10,hA9,hA8,hA7,hA6,hA5,hA4,hA3,hA2,hA1, ←hl0]
     unfold EF
     simp only[List.flatMap_cons,List.flatMap_nil,List.append_nil,List.append_assoc]
   rw[hany,hflat,hE,Bool.false_or]
   cases G9 (decide (((pt.length:Nat):Int)>0),(BF pt).2 != 0,[50,46,53,46,50,57,46,51,49],false,(BF pt).1)with
   | true=>rfl
   | false =>
     rw[cond_false,Sum.elim_inr,DR]
     cases G9 (decide (((fr.length:Nat):Int)>0),(BF fr).2 != 0,[50,46,53,46,50,57,46,52,54],false,(BF fr).1)with
     | true=>rfl
     | false =>
       rw[cond_false,Sum.elim_inr]
       show some ((A10++BJ (decide (((pt.length:Nat):Int)>0),(BF pt).2 != 0,[50,46,53,46,50,57,46,51,49],false,(BF pt).1)++BJ (decide (((fr.length:Nat):Int)>0),(BF fr).2 != 0,[50,46,53,46,50,57,46,52,54],false,(BF fr).1))++un,(0:Int))=some ((A10++(BJ (decide (((pt.length:Nat):Int)>0),(BF pt).2 != 0,[50,46,53,46,50,57,46,51,49],false,(BF pt).1)++BJ (decide (((fr.length:Nat):Int)>0),(BF fr).2 != 0,[50,46,53,46,50,57,46,52,54],false,(BF fr).1)))++un,0)
       rw[List.append_assoc A10]
def fD (a:Att):Bool:=decide (200<a.1.length)||decide (200<a.2.2.length)
def Yc (r:List Att):Bool:=decide (8<r.length)||r.any fD
def Il (n:List (List Att)):Bool:=bif decide (12<n.length)then false else bif n.any Yc then false else true
theorem fB (N:Nat) (n:List (List Att)) (hN:1048578<N):Ff N n=some (Il n):=by
  unfold Ff
  try simp only[clR]
  unfold Il
  rw[show decide (((n.length:Nat):Int)>12)=decide (12<n.length)from DC _ 12]
  by_cases h12:12<n.length
  ·rw[decide_eq_true h12];rfl
  rw[decide_eq_false h12,cond_false,cond_false, ←Bd]
  refine FT (mk:=fun i=>(i:Int)) n [] Yc (some false) (some true) ?_ ?_ N (by omega)
  ·intro i hi k
   dsimp only
   rw[Int.toNat_natCast]
   generalize n.getD i []=r
   rw[Ju (by omega),cond_true,Hg (by omega),Aj,Aj,show decide (((r.length:Nat):Int)>8)=decide (8<r.length)from DC _ 8]
   unfold Yc
   by_cases h8:8<r.length
   ·rw[decide_eq_true h8];rfl
   rw[decide_eq_false h8,cond_false,Bool.false_or]
   refine(FT (mk:=fun i=>(i:Int)) r ([],0,[]) fD (some false) (k ((i+1:Nat):Int)) ?_ ?_ N (by omega))
   ·intro j hj k
    dsimp only
    rw[Int.toNat_natCast]
    generalize r.getD j ([],0,[])=a
    rw[show decide (((a.1.length:Nat):Int)>200)=decide (200<a.1.length)from DC _ 200,show decide (((a.2.2.length:Nat):Int)>200)=decide (200<a.2.2.length)from DC _ 200]
    have ha:(decide (200<a.1.length)||decide (200<a.2.2.length))=fD a:=rfl
    rw[ha,Ju (by omega),cond_true,Hg (by omega),Aj,Aj,w64 (by omega) (by omega)];rfl
   ·intro k
    rw[Jt (by omega),cond_false,w64 (by omega) (by omega)];rfl
  ·intro k
   rw[Jt (by omega),cond_false]
theorem Ac2 {n:List (List Att)} (h:Il n=true):n.length≤12∧(∀ r∈n,r.length≤8)∧EG n:=by
  unfold Il at h
  cases h1:decide (12<n.length)with
  | true=>rw[h1]at h;cases h
  | false =>
    cases h2:n.any Yc with
    | true=>rw[h1,h2]at h;cases h
    | false =>
      have h1:=of_decide_eq_false h1
      have h2:=List.any_eq_false.1 h2
      refine⟨by omega,fun r hr=> ?_,fun r hr e he=> ?_⟩
      ·have:=h2 r hr
       unfold Yc at this
       rw[Bool.or_eq_true,decide_eq_true_eq]at this
       omega
      ·have h3:=h2 r hr
       unfold Yc at h3
       rw[Bool.or_eq_true]at h3
       have h4: ¬ fD e=true:=fun hb=>h3 (Or.inr (List.any_eq_true.2 ⟨e,he,hb⟩))
       unfold fD at h4
       rw[Bool.or_eq_true,decide_eq_true_eq,decide_eq_true_eq]at h4
       exact⟨by omega,by omega⟩
def yE (g:Gn):Bool:=decide (300<g.2.1.length)|| !Il g.2.2
def Fz (l:List Gn):Bool:=bif decide (20<l.length)then false else bif l.any yE then false else true
theorem aG (N:Nat) (l:List Gn) (hN:1048578<N):Dp N l=some (Fz l):=by
  unfold Dp
  try simp only[clR]
  unfold Fz
  rw[show decide (((l.length:Nat):Int)>20)=decide (20<l.length)from DC _ 20]
  by_cases h12:20<l.length
  ·rw[decide_eq_true h12];rfl
  rw[decide_eq_false h12,cond_false,cond_false, ←Bd]
  refine FT (mk:=fun i=>(i:Int)) l (0,[],[]) yE (some false) (some true) ?_ ?_ N (by omega)
  ·intro i hi k
   dsimp only
   rw[Int.toNat_natCast]
   generalize l.getD i (0,[],[])=g
   rw[fB N _ hN,Ju (by omega),cond_true,Hg (by omega),Aj,Aj,show decide (((g.2.1.length:Nat):Int)>300)=decide (300<g.2.1.length)from DC _ 300]
   simp only[Option.isSome_some,Bool.true_or,Aj,Option.getD_some]
   have ha:(decide (300<g.2.1.length)|| !Il g.2.2)=yE g:=rfl
   rw[ha,w64 (by omega) (by omega)];rfl
  ·intro k
   rw[Jt (by omega),cond_false]
theorem TN {l:List Gn} (h:Fz l=true):l.length≤20∧(∀ g∈l,g.2.1.length≤300∧Il g.2.2=true)∧BO l:=by
  unfold Fz at h
  cases h1:decide (20<l.length)with
  | true=>rw[h1]at h;cases h
  | false =>
    cases h2:l.any yE with
    | true=>rw[h1,h2]at h;cases h
    | false =>
      have h1:=of_decide_eq_false h1
      have h2:=List.any_eq_false.1 h2
      have key: ∀ g∈l,g.2.1.length≤300∧Il g.2.2=true:=by
        intro g hg
        have:=h2 g hg
        unfold yE at this
        rw[Bool.or_eq_true,decide_eq_true_eq]at this
        refine⟨by omega,?_⟩
        cases hq:Il g.2.2 with
        | true=>rfl
        | false=>exact absurd (Or.inr (by rw[hq];rfl)) this
      exact⟨by omega,key,fun g hg=>⟨by have:=(key g hg).1;omega,(Ac2 (key g hg).2).2.2⟩⟩
def ZT (l:List Pt):Bool:=bif decide (6<l.length)then false else bif l.any (fun p=> !Fz p.1|| !Il p.2.2.2)then false else true
theorem Xk (N:Nat) (l:List Pt) (hN:1048578<N):Fg N l=some (ZT l):=by
  unfold Fg
  try simp only[clR]
  unfold ZT
  rw[show decide (((l.length:Nat):Int)>6)=decide (6<l.length)from DC _ 6]
  by_cases h12:6<l.length
  ·rw[decide_eq_true h12];rfl
  rw[decide_eq_false h12,cond_false,cond_false, ←Bd]
  refine FT (mk:=fun i=>(i:Int)) l ([],0,false,[]) (fun p=> !Fz p.1|| !Il p.2.2.2) (some false) (some true) ?_ ?_ N (by omega)
  ·intro i hi k
   dsimp only
   rw[Int.toNat_natCast]
   generalize l.getD i ([],0,false,[])=g
   rw[aG N _ hN,Ae,fB N _ hN,Ju (by omega),cond_true,Hg (by omega),Aj,Aj]
   simp only[Option.isSome_some,Bool.true_or,Aj,Option.getD_some]
   rw[w64 (by omega) (by omega)];rfl
  ·intro k
   rw[Jt (by omega),cond_false]
theorem Amo {l:List Pt} (h:ZT l=true):l.length≤6∧ ∀ p∈l,Fz p.1=true∧Il p.2.2.2=true:=by
  unfold ZT at h
  cases h1:decide (6<l.length)with
  | true=>rw[h1]at h;cases h
  | false =>
    cases h2:l.any (fun p=> !Fz p.1|| !Il p.2.2.2)with
    | true=>rw[h1,h2]at h;cases h
    | false =>
      have h1:=of_decide_eq_false h1
      have h2:=List.any_eq_false.1 h2
      refine⟨by omega,fun p hp=> ?_⟩
      have:=h2 p hp
      cases hq:Fz p.1<;>cases hq2:Il p.2.2.2<;>rw[hq,hq2]at this<;>first | exact⟨rfl,rfl⟩ | exact absurd rfl this
def y7 (x:Ex):Bool:=decide (200<x.1.length)||decide (300<x.2.2.length)
def nH (l:List Ex):Bool:=bif decide (30<l.length)then false else bif l.any y7 then false else true
theorem fA (N:Nat) (l:List Ex) (hN:1048578<N):E5 N l=some (nH l):=by
  unfold E5
  try simp only[clR]
  unfold nH
  rw[show decide (((l.length:Nat):Int)>30)=decide (30<l.length)from DC _ 30]
  by_cases h12:30<l.length
  ·rw[decide_eq_true h12];rfl
  rw[decide_eq_false h12,cond_false,cond_false, ←Bd]
  refine FT (mk:=fun i=>(i:Int)) l ([],false,[]) y7 (some false) (some true) ?_ ?_ N (by omega)
  ·intro i hi k
   dsimp only
   rw[Int.toNat_natCast]
   generalize l.getD i ([],false,[])=a
   rw[show decide (((a.1.length:Nat):Int)>200)=decide (200<a.1.length)from DC _ 200,show decide (((a.2.2.length:Nat):Int)>300)=decide (300<a.2.2.length)from DC _ 300]
   have ha:(decide (200<a.1.length)||decide (300<a.2.2.length))=y7 a:=rfl
   rw[ha,Ju (by omega),cond_true,Hg (by omega),Aj,Aj,w64 (by omega) (by omega)];rfl
  ·intro k
   rw[Jt (by omega),cond_false]
theorem Amm {l:List Ex} (h:nH l=true):l.length≤30∧ ∀ x∈l,x.1.length≤200∧x.2.2.length≤300:=by
  unfold nH at h
  cases h1:decide (30<l.length)with
  | true=>rw[h1]at h;cases h
  | false =>
    cases h2:l.any y7 with
    | true=>rw[h1,h2]at h;cases h
    | false =>
      have h1:=of_decide_eq_false h1
      have h2:=List.any_eq_false.1 h2
      refine⟨by omega,fun p hp=> ?_⟩
      have:=h2 p hp
      unfold y7 at this
      rw[Bool.or_eq_true,decide_eq_true_eq,decide_eq_true_eq]at this
      omega
def QT (l:List Bs) (n m:Nat):Bool:=bif decide (n<l.length)then false else bif l.any (fun s=>decide (m<s.length))then false else true
theorem An0 (N:Nat) (l:List Bs) (n m:Nat) (hN:1048578<N) (hn:n≤1000):NW N l (n:Int) (m:Int)=some (QT l n m):=by
  unfold NW
  try simp only[clR]
  unfold QT
  rw[show decide (((l.length:Nat):Int)>(n:Int))=decide (n<l.length)from DC _ n]
  by_cases h12:n<l.length
  ·rw[decide_eq_true h12];rfl
  rw[decide_eq_false h12,cond_false,cond_false, ←Bd]
  refine FT (mk:=fun i=>(i:Int)) l [] (fun s=>decide (m<s.length)) (some false) (some true) ?_ ?_ N (by omega)
  ·intro i hi k
   dsimp only
   rw[Int.toNat_natCast]
   generalize l.getD i []=a
   rw[show decide (((a.length:Nat):Int)>(m:Int))=decide (m<a.length)from DC _ m]
   rw[Ju (by omega),cond_true,Hg (by omega),Aj,Aj,w64 (by omega) (by omega)];rfl
  ·intro k
   rw[Jt (by omega),cond_false]
theorem Amn {l:List Bs} {n m:Nat} (h:QT l n m=true):l.length≤n∧ ∀ s∈l,s.length≤m:=by
  unfold QT at h
  cases h1:decide (n<l.length)with
  | true=>rw[h1]at h;cases h
  | false =>
    cases h2:l.any (fun s=>decide (m<s.length))with
    | true=>rw[h1,h2]at h;cases h
    | false =>
      have h1:=of_decide_eq_false h1
      have h2:=List.any_eq_false.1 h2
      refine⟨by omega,fun p hp=> ?_⟩
      have:=h2 p hp
      rw[decide_eq_true_eq]at this
      omega
