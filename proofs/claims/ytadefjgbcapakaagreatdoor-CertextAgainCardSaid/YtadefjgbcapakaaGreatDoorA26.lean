import Derived.Test.YtadefjgbcapakaaGreatDoorA25
set_option linter.all false
namespace Go.Proofs.YtadefjgbcapakaaGreatDoor.Pl
open IntKind (i64)
open Go Vm
def idV:List Bs:=[[50,46,53,46,50,57,46,49,57],[50,46,53,46,50,57,46,49,53],[50,46,53,46,50,57,46,51,55],[50,46,53,46,50,57,46,51,50],[50,46,53,46,50,57,46,51,51],[50,46,53,46,50,57,46,51,54],[50,46,53,46,50,57,46,53,52],[50,46,53,46,50,57,46,49,55],[50,46,53,46,50,57,46,51,48],[50,46,53,46,50,57,46,49,52],[50,46,53,46,50,57,46,51,53],[50,46,53,46,50,57,46,51,49],[50,46,53,46,50,57,46,52,54],[49,46,50,46,51,46,52,46,53],[49,46,50,46,51,46,52,46,54]]
theorem Ajh:idV.Nodup:=by decide +kernel
def JC (x:Info):List Ex:=x.2.2.2.2.2.2.2.2.2.2.2.2.2.2.2.2.2.2
def Gp (x:Info) (k:Nat):Ex:=if k<13 then xk x k else(JC x).getD (k - 13) ([],false,[])
def tN (x:Info) (k:Nat):Prop:=(k<13/\hasK x k=true)\/(13<=k/\k - 13<(JC x).length)
theorem fV {α :Type} {l:List α} (h:decide (((l.length:Nat):Int)>0)=true):l≠ []:=by
  intro h';subst h';cases h
theorem AiJ (M:Nat):Bq (M+70) [50,46,53,46,50,57,46,49,57]=some (Cm.getD 0 ([],0,0,0,0),true)/\BF (M+70) [50,46,53,46,50,57,46,49,57]=some true:=⟨by kernel_rfl,by kernel_rfl⟩
theorem AiK (M:Nat):Bq (M+70) [50,46,53,46,50,57,46,49,53]=some (Cm.getD 1 ([],0,0,0,0),true)/\BF (M+70) [50,46,53,46,50,57,46,49,53]=some true:=⟨by kernel_rfl,by kernel_rfl⟩
theorem AiL (M:Nat):Bq (M+70) [50,46,53,46,50,57,46,51,55]=some (Cm.getD 2 ([],0,0,0,0),true)/\BF (M+70) [50,46,53,46,50,57,46,51,55]=some true:=⟨by kernel_rfl,by kernel_rfl⟩
theorem AiM (M:Nat):Bq (M+70) [50,46,53,46,50,57,46,51,50]=some (Cm.getD 3 ([],0,0,0,0),true)/\BF (M+70) [50,46,53,46,50,57,46,51,50]=some true:=⟨by kernel_rfl,by kernel_rfl⟩
theorem AiN (M:Nat):Bq (M+70) [50,46,53,46,50,57,46,51,51]=some (Cm.getD 4 ([],0,0,0,0),true)/\BF (M+70) [50,46,53,46,50,57,46,51,51]=some true:=⟨by kernel_rfl,by kernel_rfl⟩
theorem AiO (M:Nat):Bq (M+70) [50,46,53,46,50,57,46,51,54]=some (Cm.getD 5 ([],0,0,0,0),true)/\BF (M+70) [50,46,53,46,50,57,46,51,54]=some true:=⟨by kernel_rfl,by kernel_rfl⟩
theorem AiP (M:Nat):Bq (M+70) [50,46,53,46,50,57,46,53,52]=some (Cm.getD 6 ([],0,0,0,0),true)/\BF (M+70) [50,46,53,46,50,57,46,53,52]=some true:=⟨by kernel_rfl,by kernel_rfl⟩
theorem AiQ (M:Nat):Bq (M+70) [50,46,53,46,50,57,46,49,55]=some (Cm.getD 7 ([],0,0,0,0),true)/\BF (M+70) [50,46,53,46,50,57,46,49,55]=some true:=⟨by kernel_rfl,by kernel_rfl⟩
theorem AiR (M:Nat):Bq (M+70) [50,46,53,46,50,57,46,51,48]=some (Cm.getD 8 ([],0,0,0,0),true)/\BF (M+70) [50,46,53,46,50,57,46,51,48]=some true:=⟨by kernel_rfl,by kernel_rfl⟩
theorem AiS (M:Nat):Bq (M+70) [50,46,53,46,50,57,46,49,52]=some (Cm.getD 9 ([],0,0,0,0),true)/\BF (M+70) [50,46,53,46,50,57,46,49,52]=some true:=⟨by kernel_rfl,by kernel_rfl⟩
theorem Af1 (M:Nat):Bq (M+70) [50,46,53,46,50,57,46,51,53]=some (Cm.getD 10 ([],0,0,0,0),true)/\BF (M+70) [50,46,53,46,50,57,46,51,53]=some true:=⟨by kernel_rfl,by kernel_rfl⟩
theorem Af2 (M:Nat):Bq (M+70) [50,46,53,46,50,57,46,51,49]=some (Cm.getD 11 ([],0,0,0,0),true)/\BF (M+70) [50,46,53,46,50,57,46,51,49]=some true:=⟨by kernel_rfl,by kernel_rfl⟩
theorem Af3 (M:Nat):Bq (M+70) [50,46,53,46,50,57,46,52,54]=some (Cm.getD 12 ([],0,0,0,0),true)/\BF (M+70) [50,46,53,46,50,57,46,52,54]=some true:=⟨by kernel_rfl,by kernel_rfl⟩
section
variable {hb ca:Bool} {pl us:Int} {pu po:List Bs} {ma:List (Bs×Bs)} {re im ia:Int} {na:List Gn} {hc:Bool} {pe ex:List Gn} {sk ak:Bs} {pt fr:List Pt} {un:List Ex} (M:Nat) (hN:1048578<M+70) (h:OkI (hb,ca,pl,us,pu,po,ma,re,im,ia,na,hc,pe,ex,sk,ak,pt,fr,un)) (S:Nat->Bool) (u:List Ex) (l:List Ex) (hl:l.length<=1048576)
include hN h hl
theorem AoG (hk:hasK (hb,ca,pl,us,pu,po,ma,re,im,ia,na,hc,pe,ex,sk,ak,pt,fr,un) 0=true) (hS:S 0=false) (hb':l.any (fun y=>y.1==[50,46,53,46,50,57,46,49,57])=false):Bv (M+70) (part (hb,ca,pl,us,pu,po,ma,re,im,ia,na,hc,pe,ex,sk,ak,pt,fr,un) S u) l (xk (hb,ca,pl,us,pu,po,ma,re,im,ia,na,hc,pe,ex,sk,ak,pt,fr,un) 0)=some (0,part (hb,ca,pl,us,pu,po,ma,re,im,ia,na,hc,pe,ex,sk,ak,pt,fr,un) (fun i=>S i||i==0) u):=by
  have g:=ApM (M+70) hN h S u hk hS
  rw[Ee (M+70) _ l (xk (hb,ca,pl,us,pu,po,ma,re,im,ia,na,hc,pe,ex,sk,ak,pt,fr,un) 0) (Cm.getD 0 ([],0,0,0,0)) hN (AiJ M).2 hl hb' (AiJ M).1 rfl rfl]
  show Ac (EE (M+70) _ _) _=_
  rw[show(xk (hb,ca,pl,us,pu,po,ma,re,im,ia,na,hc,pe,ex,sk,ak,pt,fr,un) 0).2.2=_ from rfl]at *
  exact(congrArg (fun o=>Ac o fun r=>some (r.1,r.2)) g).trans rfl
theorem AoH (hk:hasK (hb,ca,pl,us,pu,po,ma,re,im,ia,na,hc,pe,ex,sk,ak,pt,fr,un) 1=true) (hS:S 1=false) (hb':l.any (fun y=>y.1==[50,46,53,46,50,57,46,49,53])=false):Bv (M+70) (part (hb,ca,pl,us,pu,po,ma,re,im,ia,na,hc,pe,ex,sk,ak,pt,fr,un) S u) l (xk (hb,ca,pl,us,pu,po,ma,re,im,ia,na,hc,pe,ex,sk,ak,pt,fr,un) 1)=some (0,part (hb,ca,pl,us,pu,po,ma,re,im,ia,na,hc,pe,ex,sk,ak,pt,fr,un) (fun i=>S i||i==1) u):=by
  have g:=ApN (M+70) hN h S u (by simpa [hasK,Em]using hk) hS
  rw[Ee (M+70) _ l (xk (hb,ca,pl,us,pu,po,ma,re,im,ia,na,hc,pe,ex,sk,ak,pt,fr,un) 1) (Cm.getD 1 ([],0,0,0,0)) hN (AiK M).2 hl hb' (AiK M).1 rfl rfl]
  show Ac (EF (M+70) _ _) _=_
  rw[show(xk (hb,ca,pl,us,pu,po,ma,re,im,ia,na,hc,pe,ex,sk,ak,pt,fr,un) 1).2.2=_ from rfl]at *
  exact(congrArg (fun o=>Ac o fun r=>some (r.1,r.2)) g).trans rfl
theorem AoI (hk:hasK (hb,ca,pl,us,pu,po,ma,re,im,ia,na,hc,pe,ex,sk,ak,pt,fr,un) 2=true) (hS:S 2=false) (hb':l.any (fun y=>y.1==[50,46,53,46,50,57,46,51,55])=false):Bv (M+70) (part (hb,ca,pl,us,pu,po,ma,re,im,ia,na,hc,pe,ex,sk,ak,pt,fr,un) S u) l (xk (hb,ca,pl,us,pu,po,ma,re,im,ia,na,hc,pe,ex,sk,ak,pt,fr,un) 2)=some (0,part (hb,ca,pl,us,pu,po,ma,re,im,ia,na,hc,pe,ex,sk,ak,pt,fr,un) (fun i=>S i||i==2) u):=by
  have g:=ApO (M+70) hN h S u (fV hk) hS
  rw[Ee (M+70) _ l (xk (hb,ca,pl,us,pu,po,ma,re,im,ia,na,hc,pe,ex,sk,ak,pt,fr,un) 2) (Cm.getD 2 ([],0,0,0,0)) hN (AiL M).2 hl hb' (AiL M).1 rfl rfl]
  show Ac (DN (M+70) _ _) _=_
  rw[show(xk (hb,ca,pl,us,pu,po,ma,re,im,ia,na,hc,pe,ex,sk,ak,pt,fr,un) 2).2.2=_ from rfl]at *
  exact(congrArg (fun o=>Ac o fun r=>some (r.1,r.2)) g).trans rfl
theorem AoJ (hk:hasK (hb,ca,pl,us,pu,po,ma,re,im,ia,na,hc,pe,ex,sk,ak,pt,fr,un) 3=true) (hS:S 3=false) (hb':l.any (fun y=>y.1==[50,46,53,46,50,57,46,51,50])=false):Bv (M+70) (part (hb,ca,pl,us,pu,po,ma,re,im,ia,na,hc,pe,ex,sk,ak,pt,fr,un) S u) l (xk (hb,ca,pl,us,pu,po,ma,re,im,ia,na,hc,pe,ex,sk,ak,pt,fr,un) 3)=some (0,part (hb,ca,pl,us,pu,po,ma,re,im,ia,na,hc,pe,ex,sk,ak,pt,fr,un) (fun i=>S i||i==3) u):=by
  have g:=ApP (M+70) hN h S u (fV hk) hS
  rw[Ee (M+70) _ l (xk (hb,ca,pl,us,pu,po,ma,re,im,ia,na,hc,pe,ex,sk,ak,pt,fr,un) 3) (Cm.getD 3 ([],0,0,0,0)) hN (AiM M).2 hl hb' (AiM M).1 rfl rfl]
  show Ac (DL (M+70) _ _) _=_
  rw[show(xk (hb,ca,pl,us,pu,po,ma,re,im,ia,na,hc,pe,ex,sk,ak,pt,fr,un) 3).2.2=_ from rfl]at *
  exact(congrArg (fun o=>Ac o fun r=>some (r.1,r.2)) g).trans rfl
theorem AoK (hk:hasK (hb,ca,pl,us,pu,po,ma,re,im,ia,na,hc,pe,ex,sk,ak,pt,fr,un) 4=true) (hS:S 4=false) (hb':l.any (fun y=>y.1==[50,46,53,46,50,57,46,51,51])=false):Bv (M+70) (part (hb,ca,pl,us,pu,po,ma,re,im,ia,na,hc,pe,ex,sk,ak,pt,fr,un) S u) l (xk (hb,ca,pl,us,pu,po,ma,re,im,ia,na,hc,pe,ex,sk,ak,pt,fr,un) 4)=some (0,part (hb,ca,pl,us,pu,po,ma,re,im,ia,na,hc,pe,ex,sk,ak,pt,fr,un) (fun i=>S i||i==4) u):=by
  have g:=get4 (M+70) hN h S u (fV hk) hS
  rw[Ee (M+70) _ l (xk (hb,ca,pl,us,pu,po,ma,re,im,ia,na,hc,pe,ex,sk,ak,pt,fr,un) 4) (Cm.getD 4 ([],0,0,0,0)) hN (AiN M).2 hl hb' (AiN M).1 rfl rfl]
  show Ac (DK (M+70) _ _) _=_
  rw[show(xk (hb,ca,pl,us,pu,po,ma,re,im,ia,na,hc,pe,ex,sk,ak,pt,fr,un) 4).2.2=_ from rfl]at *
  exact(congrArg (fun o=>Ac o fun r=>some (r.1,r.2)) g).trans rfl
theorem AoL (hk:hasK (hb,ca,pl,us,pu,po,ma,re,im,ia,na,hc,pe,ex,sk,ak,pt,fr,un) 5=true) (hS:S 5=false) (hb':l.any (fun y=>y.1==[50,46,53,46,50,57,46,51,54])=false):Bv (M+70) (part (hb,ca,pl,us,pu,po,ma,re,im,ia,na,hc,pe,ex,sk,ak,pt,fr,un) S u) l (xk (hb,ca,pl,us,pu,po,ma,re,im,ia,na,hc,pe,ex,sk,ak,pt,fr,un) 5)=some (0,part (hb,ca,pl,us,pu,po,ma,re,im,ia,na,hc,pe,ex,sk,ak,pt,fr,un) (fun i=>S i||i==5) u):=by
  have g:=ApQ (M+70) hN h S u (fun h'=>by obtain⟨rfl,rfl⟩:=h';cases hk) hS
  rw[Ee (M+70) _ l (xk (hb,ca,pl,us,pu,po,ma,re,im,ia,na,hc,pe,ex,sk,ak,pt,fr,un) 5) (Cm.getD 5 ([],0,0,0,0)) hN (AiO M).2 hl hb' (AiO M).1 rfl rfl]
  show Ac (Eh (M+70) _ _) _=_
  rw[show(xk (hb,ca,pl,us,pu,po,ma,re,im,ia,na,hc,pe,ex,sk,ak,pt,fr,un) 5).2.2=_ from rfl]at *
  exact(congrArg (fun o=>Ac o fun r=>some (r.1,r.2)) g).trans rfl
theorem AoM (hk:hasK (hb,ca,pl,us,pu,po,ma,re,im,ia,na,hc,pe,ex,sk,ak,pt,fr,un) 6=true) (hS:S 6=false) (hb':l.any (fun y=>y.1==[50,46,53,46,50,57,46,53,52])=false):Bv (M+70) (part (hb,ca,pl,us,pu,po,ma,re,im,ia,na,hc,pe,ex,sk,ak,pt,fr,un) S u) l (xk (hb,ca,pl,us,pu,po,ma,re,im,ia,na,hc,pe,ex,sk,ak,pt,fr,un) 6)=some (0,part (hb,ca,pl,us,pu,po,ma,re,im,ia,na,hc,pe,ex,sk,ak,pt,fr,un) (fun i=>S i||i==6) u):=by
  have g:=ApR (M+70) hN h S u (by simpa [hasK,Em]using hk) hS
  rw[Ee (M+70) _ l (xk (hb,ca,pl,us,pu,po,ma,re,im,ia,na,hc,pe,ex,sk,ak,pt,fr,un) 6) (Cm.getD 6 ([],0,0,0,0)) hN (AiP M).2 hl hb' (AiP M).1 rfl rfl]
  show Ac (DU (M+70) _ _) _=_
  rw[show(xk (hb,ca,pl,us,pu,po,ma,re,im,ia,na,hc,pe,ex,sk,ak,pt,fr,un) 6).2.2=_ from rfl]at *
  exact(congrArg (fun o=>Ac o fun r=>some (r.1,r.2)) g).trans rfl
theorem AoN (hk:hasK (hb,ca,pl,us,pu,po,ma,re,im,ia,na,hc,pe,ex,sk,ak,pt,fr,un) 7=true) (hS:S 7=false) (hb':l.any (fun y=>y.1==[50,46,53,46,50,57,46,49,55])=false):Bv (M+70) (part (hb,ca,pl,us,pu,po,ma,re,im,ia,na,hc,pe,ex,sk,ak,pt,fr,un) S u) l (xk (hb,ca,pl,us,pu,po,ma,re,im,ia,na,hc,pe,ex,sk,ak,pt,fr,un) 7)=some (0,part (hb,ca,pl,us,pu,po,ma,re,im,ia,na,hc,pe,ex,sk,ak,pt,fr,un) (fun i=>S i||i==7) u):=by
  have g:=ApS (M+70) hN h S u (fV hk) hS
  rw[Ee (M+70) _ l (xk (hb,ca,pl,us,pu,po,ma,re,im,ia,na,hc,pe,ex,sk,ak,pt,fr,un) 7) (Cm.getD 7 ([],0,0,0,0)) hN (AiQ M).2 hl hb' (AiQ M).1 rfl rfl]
  show Ac (FN (M+70) _ _) _=_
  rw[show(xk (hb,ca,pl,us,pu,po,ma,re,im,ia,na,hc,pe,ex,sk,ak,pt,fr,un) 7).2.2=_ from rfl]at *
  exact(congrArg (fun o=>Ac o fun r=>some (r.1,r.2)) g).trans rfl
theorem AoO (hk:hasK (hb,ca,pl,us,pu,po,ma,re,im,ia,na,hc,pe,ex,sk,ak,pt,fr,un) 8=true) (hS:S 8=false) (hb':l.any (fun y=>y.1==[50,46,53,46,50,57,46,51,48])=false):Bv (M+70) (part (hb,ca,pl,us,pu,po,ma,re,im,ia,na,hc,pe,ex,sk,ak,pt,fr,un) S u) l (xk (hb,ca,pl,us,pu,po,ma,re,im,ia,na,hc,pe,ex,sk,ak,pt,fr,un) 8)=some (0,part (hb,ca,pl,us,pu,po,ma,re,im,ia,na,hc,pe,ex,sk,ak,pt,fr,un) (fun i=>S i||i==8) u):=by
  have g:=ApT (M+70) hN h S u hk hS
  rw[Ee (M+70) _ l (xk (hb,ca,pl,us,pu,po,ma,re,im,ia,na,hc,pe,ex,sk,ak,pt,fr,un) 8) (Cm.getD 8 ([],0,0,0,0)) hN (AiR M).2 hl hb' (AiR M).1 rfl rfl]
  have hs:okS (pe,ex):=by
    rcases h.con with ⟨h1,_⟩ | ⟨_,h1⟩
    ·dsimp only at h1;rw[show hc=true from hk]at h1;cases h1
    ·exact h1
  have e:(xk (hb,ca,pl,us,pu,po,ma,re,im,ia,na,hc,pe,ex,sk,ak,pt,fr,un) 8).2.2=sbB (pe,ex):=congrArg Prod.fst (wR (M+70) hN hs).w0
  show Ac (DI (M+70) (xk (hb,ca,pl,us,pu,po,ma,re,im,ia,na,hc,pe,ex,sk,ak,pt,fr,un) 8).2.2 _) _=_
  rw[e,g,Ae]
theorem AoP (hk:hasK (hb,ca,pl,us,pu,po,ma,re,im,ia,na,hc,pe,ex,sk,ak,pt,fr,un) 9=true) (hS:S 9=false) (hb':l.any (fun y=>y.1==[50,46,53,46,50,57,46,49,52])=false):Bv (M+70) (part (hb,ca,pl,us,pu,po,ma,re,im,ia,na,hc,pe,ex,sk,ak,pt,fr,un) S u) l (xk (hb,ca,pl,us,pu,po,ma,re,im,ia,na,hc,pe,ex,sk,ak,pt,fr,un) 9)=some (0,part (hb,ca,pl,us,pu,po,ma,re,im,ia,na,hc,pe,ex,sk,ak,pt,fr,un) (fun i=>S i||i==9) u):=by
  have g:=ApU (M+70) hN h S u (by simpa [hasK,Em]using hk) hS
  rw[Ee (M+70) _ l (xk (hb,ca,pl,us,pu,po,ma,re,im,ia,na,hc,pe,ex,sk,ak,pt,fr,un) 9) (Cm.getD 9 ([],0,0,0,0)) hN (AiS M).2 hl hb' (AiS M).1 rfl rfl]
  show Ac (DV (M+70) _ _) _=_
  rw[show(xk (hb,ca,pl,us,pu,po,ma,re,im,ia,na,hc,pe,ex,sk,ak,pt,fr,un) 9).2.2=_ from rfl]at *
  exact(congrArg (fun o=>Ac o fun r=>some (r.1,r.2)) g).trans rfl
theorem An3 (hk:hasK (hb,ca,pl,us,pu,po,ma,re,im,ia,na,hc,pe,ex,sk,ak,pt,fr,un) 10=true) (hS:S 10=false) (hb':l.any (fun y=>y.1==[50,46,53,46,50,57,46,51,53])=false):Bv (M+70) (part (hb,ca,pl,us,pu,po,ma,re,im,ia,na,hc,pe,ex,sk,ak,pt,fr,un) S u) l (xk (hb,ca,pl,us,pu,po,ma,re,im,ia,na,hc,pe,ex,sk,ak,pt,fr,un) 10)=some (0,part (hb,ca,pl,us,pu,po,ma,re,im,ia,na,hc,pe,ex,sk,ak,pt,fr,un) (fun i=>S i||i==10) u):=by
  have g:=Apn (M+70) hN h S u (by simpa [hasK,Em]using hk) hS
  rw[Ee (M+70) _ l (xk (hb,ca,pl,us,pu,po,ma,re,im,ia,na,hc,pe,ex,sk,ak,pt,fr,un) 10) (Cm.getD 10 ([],0,0,0,0)) hN (Af1 M).2 hl hb' (Af1 M).1 rfl rfl]
  show Ac (DC (M+70) _ _) _=_
  rw[show(xk (hb,ca,pl,us,pu,po,ma,re,im,ia,na,hc,pe,ex,sk,ak,pt,fr,un) 10).2.2=_ from rfl]at *
  exact(congrArg (fun o=>Ac o fun r=>some (r.1,r.2)) g).trans rfl
theorem An4 (hk:hasK (hb,ca,pl,us,pu,po,ma,re,im,ia,na,hc,pe,ex,sk,ak,pt,fr,un) 11=true) (hS:S 11=false) (hb':l.any (fun y=>y.1==[50,46,53,46,50,57,46,51,49])=false):Bv (M+70) (part (hb,ca,pl,us,pu,po,ma,re,im,ia,na,hc,pe,ex,sk,ak,pt,fr,un) S u) l (xk (hb,ca,pl,us,pu,po,ma,re,im,ia,na,hc,pe,ex,sk,ak,pt,fr,un) 11)=some (0,part (hb,ca,pl,us,pu,po,ma,re,im,ia,na,hc,pe,ex,sk,ak,pt,fr,un) (fun i=>S i||i==11) u):=by
  have g:=Apo (M+70) hN h S u (fV hk) hS
  rw[Ee (M+70) _ l (xk (hb,ca,pl,us,pu,po,ma,re,im,ia,na,hc,pe,ex,sk,ak,pt,fr,un) 11) (Cm.getD 11 ([],0,0,0,0)) hN (Af2 M).2 hl hb' (Af2 M).1 rfl rfl]
  have e:(xk (hb,ca,pl,us,pu,po,ma,re,im,ia,na,hc,pe,ex,sk,ak,pt,fr,un) 11).2.2=psB pt:=congrArg Prod.fst (Ut (h.pt.resolve_left (fV hk))).w0
  show Ac (Fv (M+70) (xk (hb,ca,pl,us,pu,po,ma,re,im,ia,na,hc,pe,ex,sk,ak,pt,fr,un) 11).2.2 _) _=_
  rw[e,g,Ae]
theorem An5 (hk:hasK (hb,ca,pl,us,pu,po,ma,re,im,ia,na,hc,pe,ex,sk,ak,pt,fr,un) 12=true) (hS:S 12=false) (hb':l.any (fun y=>y.1==[50,46,53,46,50,57,46,52,54])=false):Bv (M+70) (part (hb,ca,pl,us,pu,po,ma,re,im,ia,na,hc,pe,ex,sk,ak,pt,fr,un) S u) l (xk (hb,ca,pl,us,pu,po,ma,re,im,ia,na,hc,pe,ex,sk,ak,pt,fr,un) 12)=some (0,part (hb,ca,pl,us,pu,po,ma,re,im,ia,na,hc,pe,ex,sk,ak,pt,fr,un) (fun i=>S i||i==12) u):=by
  have g:=Apq (M+70) hN h S u (fV hk) hS
  rw[Ee (M+70) _ l (xk (hb,ca,pl,us,pu,po,ma,re,im,ia,na,hc,pe,ex,sk,ak,pt,fr,un) 12) (Cm.getD 12 ([],0,0,0,0)) hN (Af3 M).2 hl hb' (Af3 M).1 rfl rfl]
  have e:(xk (hb,ca,pl,us,pu,po,ma,re,im,ia,na,hc,pe,ex,sk,ak,pt,fr,un) 12).2.2=psB fr:=congrArg Prod.fst (Ut (h.fr.resolve_left (fV hk))).w0
  show Ac (Eo (M+70) (xk (hb,ca,pl,us,pu,po,ma,re,im,ia,na,hc,pe,ex,sk,ak,pt,fr,un) 12).2.2 _) _=_
  rw[e,g,Ae]
end
end Go.Proofs.YtadefjgbcapakaaGreatDoor.Pl
namespace Go.Proofs.YtadefjgbcapakaaGreatDoor.Pl
open IntKind (i64)
open Go Vm
theorem YZ {x:Info} {S T:Nat->Bool} {u:List Ex} (h: ∀ i,i<13->S i=T i):part x S u=part x T u:=by
  obtain⟨hb,ca,pl,us,pu,po,ma,re,im,ia,na,hc,pe,ex,sk,ak,pt,fr,un⟩:=x
  unfold part
  simp only[h 0 (by decide),h 1 (by decide),h 2 (by decide),h 3 (by decide),h 4 (by decide),h 5 (by decide),h 6 (by decide),h 7 (by decide),h 8 (by decide),h 9 (by decide),h 10 (by decide),h 11 (by decide),h 12 (by decide)]
theorem An6 (M:Nat) (hN:1048578<M+70) {x:Info} (h:OkI x) (S:Nat->Bool) (u:List Ex) (l:List Ex) (hl:l.length<=1048576) {k:Nat} (hk:k<13) (hh:hasK x k=true) (hS:S k=false) (hb:l.any (fun y=>y.1==idV.getD k [])=false) :
    Bv (M+70) (part x S u) l (xk x k)=some (0,part x (fun i=>S i||i==k) u):=by
  obtain⟨hb,ca,pl,us,pu,po,ma,re,im,ia,na,hc,pe,ex,sk,ak,pt,fr,un⟩:=x
  match k,hk with
  | 0,_=>exact AoG M hN h S u l hl hh hS hb
  | 1,_=>exact AoH M hN h S u l hl hh hS hb
  | 2,_=>exact AoI M hN h S u l hl hh hS hb
  | 3,_=>exact AoJ M hN h S u l hl hh hS hb
  | 4,_=>exact AoK M hN h S u l hl hh hS hb
  | 5,_=>exact AoL M hN h S u l hl hh hS hb
  | 6,_=>exact AoM M hN h S u l hl hh hS hb
  | 7,_=>exact AoN M hN h S u l hl hh hS hb
  | 8,_=>exact AoO M hN h S u l hl hh hS hb
  | 9,_=>exact AoP M hN h S u l hl hh hS hb
  | 10,_=>exact An3 M hN h S u l hl hh hS hb
  | 11,_=>exact An4 M hN h S u l hl hh hS hb
  | 12,_=>exact An5 M hN h S u l hl hh hS hb
theorem Apa (M:Nat):(∀ c,Bq (M+70) (unX c).1=some (([],0,0,0,0),false)/\BF (M+70) (unX c).1=some true/\Iz (M+70) (unX c).2.2=some 0)/\Bq (M+70) unY.1=some (([],0,0,0,0),false)/\BF (M+70) unY.1=some true/\Iz (M+70) unY.2.2=some 0 :=
  ⟨fun _=>⟨by kernel_rfl,by kernel_rfl,by kernel_rfl⟩,by kernel_rfl,by kernel_rfl,by kernel_rfl⟩
theorem Am6 (M:Nat) {un:List Ex} (h:un∈unL) {i:Nat} (hi:i<un.length):(un.getD i ([],false,[])).1=idV.getD (13+i) []/\Bq (M+70) (un.getD i ([],false,[])).1=some (([],0,0,0,0),false)/\BF (M+70) (un.getD i ([],false,[])).1=some true/\Iz (M+70) (un.getD i ([],false,[])).2.2=some 0:=by
  obtain⟨h1,h2⟩:=Apa M
  unfold unL at h
  simp only[List.mem_cons,List.mem_nil_iff,or_false]at h
  rcases h with rfl | rfl | rfl | rfl | rfl
  ·cases hi
  ·match i,hi with
   | 0,_=>exact⟨rfl,h1 true⟩
  ·match i,hi with
   | 0,_=>exact⟨rfl,h1 false⟩
  ·match i,hi with
   | 0,_=>exact⟨rfl,h1 true⟩
   | 1,_=>exact⟨rfl,h2⟩
  ·match i,hi with
   | 0,_=>exact⟨rfl,h1 false⟩
   | 1,_=>exact⟨rfl,h2⟩
theorem Ap8 (x:Info) {k:Nat} (hk:k<13):(xk x k).1=idV.getD k []:=by
  obtain⟨hb,ca,pl,us,pu,po,ma,re,im,ia,na,hc,pe,ex,sk,ak,pt,fr,un⟩:=x
  match k,hk with
  | 0,_=>rfl
  | 1,_=>rfl
  | 2,_=>rfl
  | 3,_=>rfl
  | 4,_=>rfl
  | 5,_=>rfl
  | 6,_=>rfl
  | 7,_=>rfl
  | 8,_=>rfl
  | 9,_=>rfl
  | 10,_=>rfl
  | 11,_=>rfl
  | 12,_=>rfl
theorem AjC {l:List Bs} (h:l.Nodup) {i j:Nat} (hi:i<l.length) (hj:j<l.length) (he:l.getD i []=l.getD j []):i=j:=by
  have key: ∀ {a b:Nat},a<l.length->b<l.length->a<b->l.getD a []≠l.getD b []:=fun ha hb hab e=>by
    refine Sz h hb [] ?_
    rw[<- e,getD_lt l _ [] ha]
    exact List.mem_take_iff_getElem.2 ⟨_,by omega,rfl⟩
  rcases Nat.lt_trichotomy i j with hl | hl | hl
  ·exact absurd he (key hi hj hl)
  ·exact hl
  ·exact absurd he.symm (key hj hi hl)
section
variable (M:Nat) (hN:1048578<M+70) {x:Info} (h:OkI x)
include h
theorem Akt:(JC x).length<=2:=(jG (iG h.un).1).2.1
theorem Af0 {k:Nat} (hk:tN x k):(Gp x k).1=idV.getD k []/\k<15:=by
  unfold Gp
  rcases hk with ⟨h1,_⟩ | ⟨h1,h2⟩
  ·rw[if_pos h1];exact⟨Ap8 x h1,by omega⟩
  ·rw[if_neg (by omega),(Am6 (un:=JC x) 0 h.un (i:=k - 13) h2).1,show 13+(k - 13)=k by omega]
   have:=Akt h
   exact⟨rfl,by omega⟩
def unP (x:Info) (its:List Nat):List Ex:=(its.filter fun k=>decide (13<=k)).map (Gp x)
include hN
theorem Ako (its:List Nat) {k:Nat} (hk:tN x k) (hg: ∀ i∈its,tN x i) (hn:k∉its) (hlen:its.length<=100) :
    Bv (M+70) (part x (fun i=>decide (i∈its)) (unP x its)) (its.map (Gp x)) (Gp x k)=some (0,part x (fun i=>decide (i∈its++[k])) (unP x (its++[k]))):=by
  have hlt:=(Af0 h hk).2
  have hb:(its.map (Gp x)).any (fun y=>y.1==idV.getD k [])=false:=by
    rw[List.any_map,List.any_eq_false]
    intro i hi he
    have hi2:=Af0 h (hg i hi)
    simp only[Function.comp_apply,beq_iff_eq]at he
    rw[hi2.1]at he
    have hl15:idV.length=15:=rfl
    have:=AjC Ajh (by omega) (by omega) he
    exact hn (this▸hi)
  have hS:part x (fun i=>decide (i∈its++[k])) (unP x (its++[k]))=part x (fun i=>decide (i∈its)||i==k) (unP x (its++[k])):=YZ fun i _=>by
    rw[Bool.eq_iff_iff]
    simp [List.mem_append]
  rw[hS]
  rcases hk with ⟨h1,h2⟩ | ⟨h1,h2⟩
  ·have hu:unP x (its++[k])=unP x its:=by
     unfold unP
     rw[List.filter_append,List.filter_cons_of_neg (by simp;omega),List.filter_nil,List.append_nil]
   have he:Gp x k=xk x k:=by unfold Gp;rw[if_pos h1]
   rw[hu,he]
   exact An6 M hN h _ _ _ (by rw[List.length_map];omega) h1 h2 (decide_eq_false hn) hb
  ·have hu:unP x (its++[k])=unP x its++[Gp x k]:=by
     unfold unP
     rw[List.filter_append,List.filter_cons_of_pos (by simpa using h1),List.filter_nil,List.map_append];rfl
   have he:Gp x k=(JC x).getD (k - 13) ([],false,[]):=by unfold Gp;rw[if_neg (by omega)]
   have hp:part x (fun i=>decide (i∈its)||i==k) (unP x its++[Gp x k])=part x (fun i=>decide (i∈its)) (unP x its++[Gp x k]):=YZ fun i hi=>by
     rw[show(i==k)=false by simp;omega,Bool.or_false]
   obtain⟨a1,a2,a3,a4⟩:=Am6 M h.un h2
   have hul:(unP x its).length<=100:=by
     unfold unP
     rw[List.length_map]
     exact Nat.le_trans (List.length_filter_le _ _) hlen
   rw[show 13+(k - 13)=k by omega]at a1
   have a1':((JC x).getD (k - 13) ([],false,[])).1=idV.getD k []:=a1
   rw[hu,hp,he]
   have hb':(its.map (Gp x)).any (fun y=>y.1==((JC x).getD (k - 13) ([],false,[])).1)=false:=by rw[a1'];exact hb
   obtain⟨hb,ca,pl,us,pu,po,ma,re,im,ia,na,hc,pe,ex,sk,ak,pt,fr,un⟩:=x
   exact Ama (M+70) _ _ _ _ _ _ _ _ _ _ _ _ _ _ _ _ _ _ _ _ _ _ hN a3 (by rw[List.length_map];omega) hb' a2 hul a4
theorem AcI (its:List Nat) (hg: ∀ i∈its,tN x i) (hn:its.Nodup) (hlen:its.length<=24) (hsm:KG (part x (fun i=>decide (i∈its)) (unP x its))) (hi:J3 (part x (fun i=>decide (i∈its)) (unP x its))=0) :
    GX (M+70) (its.map (Gp x))=some (part x (fun i=>decide (i∈its)) (unP x its),0):=by
  have e: ∀ m,its.length<=m->its.take m=its:=fun m hm=>List.take_of_length_le hm
  have hL:(its.map (Gp x)).length=its.length:=List.length_map _
  have:=AfM (M+70) (its.map (Gp x)) (fun m=>part x (fun i=>decide (i∈its.take m)) (unP x (its.take m))) hN (by rw[hL];exact hlen) ?_ ?_ ?_ ?_
  ·rw[this,hL,e _ (Nat.le_refl _)]
  ·obtain⟨hb,ca,pl,us,pu,po,ma,re,im,ia,na,hc,pe,ex,sk,ak,pt,fr,un⟩:=x
   rfl
  ·intro i hi'
   rw[hL]at hi'
   have hk:its.getD i 0∈its:=getD_mem 0 hi'
   have h1:=Ako M hN h (its.take i) (hg _ hk) (fun j hj=>hg j (List.mem_of_mem_take hj)) (Sz hn hi' 0) (by rw[List.length_take];omega)
   have h2:its.take (i+1)=its.take i++[its.getD i 0]:=by
     rw[List.take_add_one,List.getElem?_eq_getElem hi',getD_lt its i 0 hi'];rfl
   rw[<- h2]at h1
   rw[Ad2 (Gp x) its 0 ([],false,[]) hi',<- List.map_take]
   exact h1
  ·rw[hL,e _ (Nat.le_refl _)];exact hsm
  ·rw[hL,e _ (Nat.le_refl _)];exact hi
end
end Go.Proofs.YtadefjgbcapakaaGreatDoor.Pl
namespace Go.Proofs.YtadefjgbcapakaaGreatDoor.Pl
open IntKind (i64)
open Go Vm
theorem Alc: ∀ l:List (Bool×Bool×Ex),l.flatMap O6=((List.range l.length).filter (fun k=>(l.getD k noX).1)).map (fun k=>(l.getD k noX).2.2):=by
  intro l
  induction l with
  | nil=>rfl
  | cons r t ih =>
    rw[List.flatMap_cons,ih,List.length_cons,List.range_succ_eq_map,List.filter_cons,List.filter_map]
    have e1:(fun k=>((r::t).getD k noX).1)∘Nat.succ=fun k=>(t.getD k noX).1:=rfl
    have e2:(fun k=>((r::t).getD k noX).2.2)∘Nat.succ=fun k=>(t.getD k noX).2.2:=rfl
    rw[e1]
    show O6 r++_=List.map _ (if r.1=true then _ else _)
    unfold O6
    cases r.1 with
    | true=>rw[if_pos rfl,List.map_cons,List.map_map,e2];rfl
    | false=>rw[if_neg (by decide),List.map_map,e2];rfl
theorem map_range {α :Type} (l:List α) (d: α):(List.range l.length).map (fun i=>l.getD i d)=l:=by
  refine List.ext_getElem (by simp) fun i h1 h2=> ?_
  rw[List.getElem_map,List.getElem_range,getD_lt l i d h2]
def La (x:Info):List Nat:=(List.range 13).filter (hasK x)++(List.range (JC x).length).map (13+ ·)
theorem Ajt (x:Info):(La x).map (Gp x)=(Em x).flatMap O6++JC x:=by
  unfold La
  rw[List.map_append,List.map_map,Alc,AaY]
  congr 1
  ·refine List.map_congr_left fun k hk=> ?_
   have:=List.mem_range.1 (List.mem_filter.1 hk).1
   unfold Gp
   rw[if_pos this];rfl
  ·refine(List.map_congr_left fun k hk=> ?_).trans (map_range (JC x) ([],false,[]))
   show Gp x (13+k)=_
   unfold Gp
   rw[if_neg (by omega),show 13+k - 13=k by omega]
theorem Alr (x:Info): ∀ k∈La x,tN x k:=by
  intro k hk
  unfold La at hk
  rcases List.mem_append.1 hk with hk | hk
  ·have:=List.mem_filter.1 hk
   exact Or.inl ⟨List.mem_range.1 this.1,this.2⟩
  ·obtain⟨i,hi,rfl⟩:=List.mem_map.1 hk
   exact Or.inr ⟨by omega,by rw[show 13+i - 13=i by omega];exact List.mem_range.1 hi⟩
theorem Anb (x:Info) {k:Nat} (hk:k<13):decide (k∈La x)=hasK x k:=by
  rw[Bool.eq_iff_iff,decide_eq_true_eq]
  unfold La
  rw[List.mem_append,List.mem_filter,List.mem_range]
  constructor
  ·rintro (h | h)
   ·exact h.2
   ·obtain⟨i,_,h⟩:=List.mem_map.1 h;omega
  ·exact fun h=>Or.inl ⟨hk,h⟩
theorem Aju (x:Info):(La x).Nodup:=by
  unfold La
  rw[List.nodup_append]
  refine⟨List.Pairwise.filter _ List.nodup_range,?_,?_⟩
  ·refine List.Pairwise.map (13+ ·) (fun a b (hab:a≠b)=> ?_) List.nodup_range
   show 13+a≠13+b;omega
  ·intro a ha b hb
   have:=List.mem_range.1 (List.mem_filter.1 ha).1
   obtain⟨i,_,rfl⟩:=List.mem_map.1 hb
   omega
theorem Aol (x:Info):unP x (La x)=JC x:=by
  unfold unP La
  rw[List.filter_append]
  have e1:List.filter (fun k=>decide (13<=k)) (List.filter (hasK x) (List.range 13))=[]:=by
    rw[List.filter_eq_nil_iff]
    intro a ha
    have:=List.mem_range.1 (List.mem_filter.1 ha).1
    simp;omega
  have e2:List.filter (fun k=>decide (13<=k)) ((List.range (JC x).length).map (13+ ·))=(List.range (JC x).length).map (13+ ·):=by
    rw[List.filter_eq_self]
    intro a ha
    obtain⟨i,_,rfl⟩:=List.mem_map.1 ha
    simp
  rw[e1,e2,List.nil_append,List.map_map]
  refine(List.map_congr_left fun k hk=> ?_).trans (map_range (JC x) ([],false,[]))
  show Gp x (13+k)=_
  unfold Gp
  rw[if_neg (by omega),show 13+k - 13=k by omega]
theorem AfA {x:Info} (h:OkI x):(La x).length<=15:=by
  have:=Akt h
  unfold La
  rw[List.length_append,List.length_map,List.length_range]
  have:=List.length_filter_le (hasK x) (List.range 13)
  rw[List.length_range]at this
  omega
theorem sel {α :Type} (b:Bool) (v d: α) (h:b=false->v=d):(bif b then v else d)=v:=by
  cases b with
  | true=>rfl
  | false=>exact(h rfl).symm
theorem zY {α β :Type} (f: α -> β) {l:List α} (h:decide (((l.length:Nat):Int)>0)=false):l.map f=[]:=by
  cases l with
  | nil=>rfl
  | cons a r=>rw[decide_eq_true (by rw[List.length_cons];omega)]at h;cases h
theorem AlF {x:Info} (h:OkI x) (u:List Ex):part x (hasK x) u=inK x u:=by
  obtain⟨hb,ca,pl,us,pu,po,ma,re,im,ia,na,hc,pe,ex,sk,ak,pt,fr,un⟩:=x
  have hb1:hb=false->ca=false/\pl= -1:=fun h0=>by
    rcases h.bas with ⟨h1,_⟩ | ⟨_,h1⟩
    ·rw[show hb=true from h1]at h0;cases h0
    ·exact h1
  have hc1:hc=false->pe=[]/\ex=[]:=fun h0=>by
    rcases h.con with ⟨_,h1⟩ | ⟨h1,_⟩
    ·exact h1
    ·rw[show hc=true from h1]at h0;cases h0
  show(bif hb then hb else false,bif hb then ca else false,bif hb then pl else -1,bif us != 0 then us else 0,bif decide (((pu.length:Nat):Int)>0)then pu else [],bif decide (((po.length:Nat):Int)>0)then po else [],bif decide (((ma.length:Nat):Int)>0)then ma else [],
    bif re != -1||im != -1 then re else -1,bif re != -1||im != -1 then im else -1,bif ia != -1 then ia else -1,bif decide (((na.length:Nat):Int)>0)then na.map gnK else [],bif hc then hc else false,bif hc then pe.map gnK else [],bif hc then ex.map gnK else [],
    bif !(sk==[])then sk else [],bif !(ak==[])then ak else [],bif decide (((pt.length:Nat):Int)>0)then pt.map ptK else [],bif decide (((fr.length:Nat):Int)>0)then fr.map ptK else [],u)=(hb,ca,pl,us,pu,po,ma,re,im,ia,na.map gnK,hc,pe.map gnK,ex.map gnK,sk,ak,pt.map ptK,fr.map ptK,u)
  rw[sel hb hb false id,sel hb ca false (fun h=>(hb1 h).1),sel hb pl (-1) (fun h=>(hb1 h).2),sel _ us 0 (fun h=>by simpa using h),sel _ pu [] (fun h=>by simpa using zY id h),sel _ po [] (fun h=>by simpa using zY id h),sel _ ma [] (fun h=>by simpa using zY id h),
    sel _ re (-1) (fun h=>by simp at h;exact h.1),sel _ im (-1) (fun h=>by simp at h;exact h.2),sel _ ia (-1) (fun h=>by simpa using h),sel _ (na.map gnK) [] (zY gnK),sel hc hc false id,sel hc (pe.map gnK) [] (fun h=>by rw[(hc1 h).1];rfl),sel hc (ex.map gnK) [] (fun h=>by rw[(hc1 h).2];rfl),
    sel _ sk [] (fun h=>by simpa using h),sel _ ak [] (fun h=>by simpa using h),sel _ (pt.map ptK) [] (zY ptK),sel _ (fr.map ptK) [] (zY ptK)]
theorem Aed {x:Info} (h:OkI x):KG x:=by
  obtain⟨hb,ca,pl,us,pu,po,ma,re,im,ia,na,hc,pe,ex,sk,ak,pt,fr,un⟩:=x
  have ho: ∀ s,s∈Ht++Kq->FK s:=fun s hs=>by have:=(MP hs).sh;unfold FK;omega
  refine⟨⟨by have:=h.pu.len;omega,fun s hs=>ho s (List.mem_append_right _ (h.pu.all s hs))⟩,⟨by have:=h.po.len;omega,fun s hs=>ho s (List.mem_append_left _ (h.po.all s hs))⟩,fun m hm=>⟨ho _ (List.mem_append_left _ (h.ma.all m hm).1),ho _ (List.mem_append_left _ (h.ma.all m hm).2)⟩,
    fun g hg=>(EP (h.na.2 g hg)).s0,?_,?_,?_,?_,⟨by have:=(jG (iG h.un).1).2.1;omega,(jG (iG h.un).1).2.2⟩⟩
  ·rcases h.con with ⟨_,h1,_⟩ | ⟨_,h1⟩
   ·dsimp only at h1 ⊢;rw[h1];exact fun g hg=>by cases hg
   ·exact fun g hg=>(EP (h1.a0 g hg)).s0
  ·rcases h.con with ⟨_,_,h1⟩ | ⟨_,h1⟩
   ·dsimp only at h1 ⊢;rw[h1];exact fun g hg=>by cases hg
   ·exact fun g hg=>(EP (h1.a1 g hg)).s0
  ·rcases h.pt with h1 | h1
   ·dsimp only at h1 ⊢;rw[h1];exact fun p hp=>by cases hp
   ·exact fun p hp=>(OV (h1.all p hp)).s0
  ·rcases h.fr with h1 | h1
   ·dsimp only at h1 ⊢;rw[h1];exact fun p hp=>by cases hp
   ·exact fun p hp=>(OV (h1.all p hp)).s0
theorem AfK {x:Info} (h:OkI x) {u:List Ex} (hu:u∈unR):KG (inK x u):=by
  have h0:=Aed h
  obtain⟨hb,ca,pl,us,pu,po,ma,re,im,ia,na,hc,pe,ex,sk,ak,pt,fr,un⟩:=x
  refine⟨h0.pu,h0.po,h0.ma,?_,?_,?_,?_,?_,⟨by have:=(jG hu).2.1;show u.length<=_;omega,(jG hu).2.2⟩⟩
  ·intro q hq
   obtain⟨g,hg,rfl⟩:=List.mem_map.1 hq
   exact(EP (h.na.2 g hg)).s1
  ·intro q hq
   obtain⟨g,hg,rfl⟩:=List.mem_map.1 hq
   rcases h.con with ⟨_,h1,_⟩ | ⟨_,h1⟩
   ·dsimp only at h1;rw[h1]at hg;cases hg
   ·exact(EP (h1.a0 g hg)).s1
  ·intro q hq
   obtain⟨g,hg,rfl⟩:=List.mem_map.1 hq
   rcases h.con with ⟨_,_,h1⟩ | ⟨_,h1⟩
   ·dsimp only at h1;rw[h1]at hg;cases hg
   ·exact(EP (h1.a1 g hg)).s1
  ·intro q hq
   obtain⟨p,hp,rfl⟩:=List.mem_map.1 hq
   rcases h.pt with h1 | h1
   ·dsimp only at h1;rw[h1]at hp;cases hp
   ·exact(OV (h1.all p hp)).s1
  ·intro q hq
   obtain⟨p,hp,rfl⟩:=List.mem_map.1 hq
   rcases h.fr with h1 | h1
   ·dsimp only at h1;rw[h1]at hp;cases hp
   ·exact(OV (h1.all p hp)).s1
theorem Aly {α β :Type} (f: α -> β) (l:List α):(((l.map f).length:Nat):Int)=((l.length:Nat):Int):=by rw[List.length_map]
theorem AdY {x:Info} (h:OkI x) (u:List Ex):Em (inK x u)=Em x/\(Em x).any mJ=false:=by
  obtain⟨hb,ca,pl,us,pu,po,ma,re,im,ia,na,hc,pe,ex,sk,ak,pt,fr,un⟩:=x
  have hs:Pj (pe.map gnK,ex.map gnK)=Pj (pe,ex)/\(hc&&(Pj (pe,ex)).2 != 0)=false:=by
    rcases h.con with ⟨h0,h1,h2⟩ | ⟨_,h1⟩
    ·dsimp only at h0 h1 h2
     subst h0 h1 h2
     exact⟨rfl,rfl⟩
    ·have S:=wR 2097152 (by decide) h1
     refine⟨S.w1.trans S.w0.symm,?_⟩
     rw[S.w0];exact Bool.and_false _
  have hp: ∀ l:List Pt,(l=[]\/WE l)->J7 (l.map ptK)=J7 l/\(decide (((l.length:Nat):Int)>0)&&(J7 l).2 != 0)=false:=by
    rintro l (rfl | h1)
    ·exact⟨rfl,rfl⟩
    ·have P:=Ut h1
     refine⟨P.w1.trans P.w0.symm,?_⟩
     rw[P.w0];exact Bool.and_false _
  obtain⟨p1,p2⟩:=hp pt h.pt
  obtain⟨f1,f2⟩:=hp fr h.fr
  have hl:=AfB (c:=false) (l:=na) h.na.2
  constructor
  ·unfold inK Em
   dsimp only
   rw[hs.1,p1,f1,hl,Aly,Aly,Aly]
  ·unfold Em mJ
   simp only[List.any_cons,List.any_nil,Bool.and_false,Bool.false_or,Bool.or_false]
   rw[hs.2,p2,f2];rfl
theorem sN {x:Info} (h:OkI x):encI x=((La x).map (Gp x),0):=by
  unfold encI
  rw[Ana h,(AdY h []).2,Ajt];rfl
theorem Apm {x:Info} (h:OkI x):encI (inK x (JC x))=encI x:=by
  rw[sN h,Ajt]
  unfold encI
  rw[Adn h (un:=JC x) (iG h.un).1,(AdY h _).1,(AdY h []).2]
  obtain⟨hb,ca,pl,us,pu,po,ma,re,im,ia,na,hc,pe,ex,sk,ak,pt,fr,un⟩:=x
  rfl
theorem AnY {N:Nat} (hN:1048578<N) {x:Info} (h:OkI x):GX N (encI x).1=some (inK x (JC x),0):=by
  obtain⟨M,rfl⟩: ∃ M,N=M+70:=⟨N - 70,by omega⟩
  have hp:part x (fun i=>decide (i∈La x)) (unP x (La x))=inK x (JC x):=by
    rw[Aol,YZ (fun i hi=>Anb x hi)];exact AlF h _
  rw[sN h]
  rw[<- hp]
  exact AcI M hN h (La x) (Alr x) (Aju x) (by have:=AfA h;omega) (by rw[hp];exact AfK h (iG h.un).1) (by rw[hp];exact Adn h (iG h.un).1)
theorem ZC (N:Nat) (l:List Ex) (hN:1048578<N) (hl:l.length<=1048576):Fq N l l=some true:=by
  unfold Fq
  try simp only[clR]
  rw[rD rfl,cond_false]
  refine AaU (fun i=>(i:Int)) l.length (some true) ?_ ?_ N (by omega)
  ·intro i hi k
   simp (disch:=first | assumption | omega) only[A7,BU,beq_self_eq_true]
  ·intro k
   simp (disch:=first | assumption | omega) only[A7]
def Ends {α :Type} (Q: α ->Prop) (o:Option α):Prop:= ∃ v,o=some v/\Q v
theorem D8 {α :Type} {Q: α ->Prop} {v: α} (h:Q v):Ends Q (some v):=⟨v,rfl,h⟩
theorem AQ {α ρ :Type} [Inhabited α] {P: α ->Prop} {Q: ρ ->Prop} {o:Option α} {k: α ->Option ρ} (h:Ends P o) (hk: ∀ v,P v->Ends Q (k v)):Ends Q (Ac o k):=by
  obtain⟨v,rfl,hv⟩:=h
  exact hk v hv
theorem AX {ρ :Type} {Q: ρ ->Prop} {c:Bool} {k:Option ρ} (h:c=true) (hk:Ends Q k):Ends Q (Vm.chk c k):=by rw[h];exact hk
theorem BA {ρ :Type} {Q: ρ ->Prop} {c:Bool} {x y:Option ρ} (h1:c=true->Ends Q x) (h2:c=false->Ends Q y):Ends Q (bif c then x else y):=by
  cases c with
  | true=>exact h1 rfl
  | false=>exact h2 rfl
theorem eF {α ρ :Type} {P: α ->Prop} {Q: ρ ->Prop} {A:(α ->Option ρ)->Option ρ} {f: α ->Option ρ} (hA: ∀ j: α ->Option ρ,(∀ x,P x->Ends Q (j x))->Ends Q (A j)) (hf: ∀ x,P x->Ends Q (f x)):Ends Q (GL A f):=hA f hf
theorem GU {X Y ρ :Type} {B:X->(X->Option ρ)->(Y->Option ρ)->Option ρ} {kx:Y->Option ρ} {Q: ρ ->Prop} (I:X->Prop) (μ :X->Nat)
    (h: ∀ x,I x-> ∀ k:X->Option ρ,(∀ x',I x'-> μ x'< μ x->Ends Q (k x'))->Ends Q (B x k kx)) (N:Nat) (x:X) (hI:I x) (hm: μ x<N):Ends Q (Ap B N x kx):=AgT I μ (Ends Q) h N x hI hm
def BV (L:List Int) (d:List Int×Int):Prop:= ∃ k:Nat,d=(L,(k:Int))/\k<=L.length
theorem AjA (N:Nat) {L:List Int} (hL:L.length<=9223372036854775807) {d:List Int×Int} (hd:BV L d) (n:Nat) (hn:0<n) (hn':n<2147483648) :
    Ends (fun r=>0<=r.1/\r.1<(n:Int)/\BV L r.2) (Aw N d (n:Int)):=by
  obtain⟨k,rfl,hk⟩:=hd
  unfold Aw
  dsimp only
  by_cases h:k<L.length
  ·rw[WU,if_neg (by omega),w64 (x:=(k:Int)+1) (by omega) (by omega),w64 (x:=(k:Int)+1 - 1) (by omega) (by omega),dC,if_pos (by omega),dC,if_pos (by omega)]
   generalize L.getD _ _=x
   have hne:((n:Int) != 0)=true:=by simp;omega
   rw[hne,AP,AP]
   have h1:=Int.tmod_lt_of_pos x (show(0:Int)<(n:Int) by omega)
   have h2: -(n:Int)<x.tmod (n:Int):=Int.lt_tmod_of_pos x (by omega)
   rw[w64 (x:=x.tmod (n:Int)+(n:Int)) (by omega) (by omega)]
   have h3:0<=(x.tmod (n:Int)+(n:Int)).tmod (n:Int):=Int.tmod_nonneg _ (by omega)
   have h4:=Int.tmod_lt_of_pos (x.tmod (n:Int)+(n:Int)) (show(0:Int)<(n:Int) by omega)
   refine⟨_,rfl,h3,h4,k+1,by rw[show((k+1:Nat):Int)=(k:Int)+1 by omega],h⟩
  ·rw[WU,if_pos (by omega)]
   exact⟨_,rfl,Int.le_refl _,by show(0:Int)<n;omega,k,rfl,hk⟩
theorem G5 {α :Type} {P: α ->Prop} {l:List α} {d: α} {i:Int} (h: ∀ x∈l,P x) (h0:0<=i) (hi:i<(l.length:Int)):P (l.getD i.toNat d):=h _ (getD_mem d (by omega))
section
variable (N:Nat) (hN:1048578<N) {L:List Int} (hL:L.length<=9223372036854775807)
include hL
theorem nx {d:List Int×Int} (hd:BV L d) (n:Int) (h0:0<n) (h1:n<2147483648):Ends (fun r=>0<=r.1/\r.1<n/\BV L r.2) (Aw N d n):=by
  have:=AjA N hL hd n.toNat (by omega) (by omega)
  rw[show((n.toNat:Nat):Int)=n by omega]at this
  exact this
def AnP (a:Att):Prop:=a.1.length<=40/\a.2.2.length<=40
instance (a:Att):Decidable (AnP a):=by unfold AnP;infer_instance
include hN in
end
end Go.Proofs.YtadefjgbcapakaaGreatDoor.Pl
namespace Go.Proofs.YtadefjgbcapakaaGreatDoor.Pl
open IntKind (i64)
open Go Vm
theorem Ahj {a:Att} (h:a∈Qj): [a]∈S9:=List.mem_append_left _ (List.mem_append_left _ (List.mem_map.2 ⟨a,h,rfl⟩))
theorem Al7 {a b:Att} (h:a∈Qj) (hb:b∈Qj) (hn:b.1≠a.1): [a,b]∈S9 :=
  List.mem_append_left _ (List.mem_append_right _ (List.mem_flatMap.2 ⟨a,h,List.mem_map.2 ⟨b,List.mem_filter.2 ⟨hb,by simpa using Ne.symm hn⟩,rfl⟩⟩))
theorem Qb {α :Type} {P: α ->Prop} {l:List α} {x: α} (h: ∀ y∈l,P y) (hx:P x): ∀ y∈l++[x],P y:=by
  intro y hy
  rcases List.mem_append.1 hy with hy | hy
  ·exact h y hy
  ·rw[List.mem_singleton.1 hy];exact hx
section
variable (N:Nat) (hN:1048578<N) {L:List Int} (hL:L.length<=9223372036854775807)
include hL
theorem Ac5 {d:List Int×Int} (hd:BV L d):Ends (fun r=>r.1∈Qj/\BV L r.2) (LP N d):=by
  unfold LP
  refine AQ (nx N hL hd 12 (by omega) (by omega)) ?_
  rintro ⟨r,d'⟩ ⟨h0,h1,h2⟩
  dsimp only at h0 h1 h2 ⊢
  refine AX (by simp;omega) (AX (by simp;omega) (AX (by simp;omega) (D8 ⟨?_,h2⟩)))
  exact G5 (P:=fun x=>x∈Qj) (fun x hx=>hx) h0 h1
include hN in
theorem AfC {d:List Int×Int} (hd:BV L d):Ends (fun r=>okN r.1/\BV L r.2) (QJ N d):=by
  unfold QJ
  try simp only[clR]
  refine AQ (nx N hL hd 4 (by omega) (by omega)) ?_
  rintro ⟨r,d1,d2⟩ ⟨h0,h1,h2⟩
  dsimp only at h0 h1 h2 ⊢
  refine GU (fun x=>0<=x.1/\x.1<4/\BV L (x.2.1,x.2.2.1)/\((x.2.2.2.length:Int)+x.1<=3)/\ ∀ r∈x.2.2.2,r∈S9) (fun x=>x.1.toNat) ?_ N _ ⟨h0,h1,h2,by simp;omega,fun r hr=>by cases hr⟩ (by dsimp only;omega)
  rintro ⟨t,a,b,acc⟩ ⟨g0,g1,g2,g3,g4⟩ k hk
  dsimp only[U4]at g0 g1 g2 g3 g4 ⊢
  refine BA (fun ht=> ?_) (fun _=> ?_)
  ·have ht:=of_decide_eq_true ht
   refine AQ (nx N hL g2 5 (by omega) (by omega)) ?_
   rintro ⟨r,e1,e2⟩ ⟨f0,f1,f2⟩
   dsimp only at f0 f1 f2 ⊢
   have hw:i64.wrap (1+i64.wrap (r.tdiv 4))<=2/\1<=i64.wrap (1+i64.wrap (r.tdiv 4)):=by
     have:r=0\/r=1\/r=2\/r=3\/r=4:=by omega
     rcases this with rfl | rfl | rfl | rfl | rfl<;>decide
   refine GU (fun x=>0<=x.1/\x.1<=2/\BV L (x.2.1,x.2.2.1)/\((x.2.2.2.1.length:Int)+x.1<=2)/\((x.2.2.2.1=[]/\1<=x.1)\/(∃ y∈Qj,x.2.2.2.1=[y])\/(x.2.2.2.1.length=2/\x.2.2.2.1∈S9))/\x.2.2.2.2=acc) (fun x=>x.1.toNat) ?_ N _ ⟨by dsimp only;omega,hw.1,f2,by simp;omega,Or.inl ⟨rfl,hw.2⟩,rfl⟩ (by dsimp only;omega)
   rintro ⟨t',a',b',acc',out⟩ ⟨p0,p1,p2,p3,p4,p5⟩ k' hk'
   dsimp only[U5]at p0 p1 p2 p3 p4 p5 ⊢
   subst p5
   refine BA (fun ht'=> ?_) (fun ht'=> ?_)
   ·have ht':=of_decide_eq_true ht'
    refine AQ (Ac5 N hL p2) ?_
    rintro ⟨r,q1,q2⟩ ⟨z0,z1⟩
    dsimp only at z0 z1 ⊢
    have taut:(decide ((0:Int)<(acc'.length:Int))||((acc'.length:Nat):Int)==0)=true:=by
      cases acc' with
      | nil=>rfl
      | cons x y=>rw[decide_eq_true (by rw[List.length_cons];omega)];rfl
    have Acy:(decide (0<acc'.length)||((acc'.length:Nat):Int)==0)=true:=by
      cases acc' with
      | nil=>rfl
      | cons x y=>rw[decide_eq_true (by rw[List.length_cons];omega)];rfl
    refine AX (by first | exact taut | exact Acy) (AX (by first | exact taut | exact Acy) (AX (by first | exact taut | exact Acy) ?_))
    have p4':acc'=[]\/ ∃ y∈Qj,acc'=[y]:=by
      rcases p4 with ⟨h,_⟩ | h | ⟨h,_⟩
      ·exact Or.inl h
      ·exact Or.inr h
      ·rw[h]at p3;omega
    refine BA (fun hc=> ?_) (fun hc=> ?_)
    ·refine AX (decide_eq_true (by omega)) (hk' _ ⟨?_,?_,z1,?_,?_,rfl⟩ ?_)
     ·dsimp only;rw[w64 (by omega) (by omega)];omega
     ·dsimp only;rw[w64 (by omega) (by omega)];omega
     ·dsimp only;rw[w64 (by omega) (by omega),List.length_append];simp;omega
     ·dsimp only
      rcases p4' with rfl | ⟨y,hy,rfl⟩
      ·exact Or.inr (Or.inl ⟨r,z0,rfl⟩)
      ·refine Or.inr (Or.inr ⟨rfl,Al7 hy z0 fun e=> ?_⟩)
       rw[e]at hc
       simp at hc
     ·dsimp only;rw[w64 (by omega) (by omega)];omega
    ·refine hk' _ ⟨?_,?_,z1,?_,?_,rfl⟩ ?_
     ·dsimp only;rw[w64 (by omega) (by omega)];omega
     ·dsimp only;rw[w64 (by omega) (by omega)];omega
     ·dsimp only;rw[w64 (by omega) (by omega)];omega
     ·dsimp only
      rcases p4' with rfl | h
      ·simp at hc
      ·exact Or.inr (Or.inl h)
     ·dsimp only;rw[w64 (by omega) (by omega)];omega
   ·have ht':=of_decide_eq_false ht'
    dsimp only[U4]
    have hin:acc'∈S9:=by
      rcases p4 with ⟨_,h⟩ | ⟨y,hy,rfl⟩ | ⟨_,h⟩
      ·omega
      ·exact Ahj hy
      ·exact h
    refine AX (decide_eq_true (by omega)) (hk _ ⟨?_,?_,p2,?_,Qb g4 hin⟩ ?_)
    ·dsimp only;rw[w64 (by omega) (by omega)];omega
    ·dsimp only;rw[w64 (by omega) (by omega)];omega
    ·dsimp only;rw[w64 (by omega) (by omega),List.length_append];simp;omega
    ·dsimp only;rw[w64 (by omega) (by omega)];omega
  ·dsimp only[U3]
   exact D8 ⟨⟨by dsimp only;omega,g4⟩,g2⟩
omit hL
def nmQ (o:Option (List (List Att))):Bool:=match o with
  | some n=>decide (n.length<=3)&& !n.isEmpty&&n.all fun r=>S9.contains r
  | none=>false
theorem Aew (M:Nat): ∀ k:Fin 16,nmQ (Jf (M+70) (k.val:Int))=true:=of_decide_eq_true (by kernel_rfl)
include hN in
theorem Ac7 {k:Int} (h0:0<=k) (h1:k<16):Ends (fun n=>okN n/\n≠ []) (Jf N k):=by
  obtain⟨M,rfl⟩: ∃ M,N=M+70:=⟨N - 70,by omega⟩
  have h:=Aew M ⟨k.toNat,by omega⟩
  rw[show(((⟨k.toNat,by omega⟩:Fin 16).val:Nat):Int)=k from Int.toNat_of_nonneg h0]at h
  cases ho:Jf (M+70) k with
  | none=>rw[ho]at h;cases h
  | some n =>
    rw[ho]at h
    simp only[nmQ,Bool.and_eq_true,decide_eq_true_eq,Bool.not_eq_true',List.all_eq_true,List.contains_iff_mem]at h
    exact⟨n,rfl,⟨h.1.1,h.2⟩,fun e=>by rw[e]at h;cases h.1.2⟩
include hN hL
theorem YG {d:List Int×Int} (hd:BV L d):Ends (fun r=>okG false r.1/\BV L r.2) (Jg N d):=by
  have hT: ∀(l:List Bs) (k:Int),l.all (fun s=>Aek.contains (k,s,[]))=true-> ∀ s∈l,okG false (k,s,[]):=fun l k h s hs=>Or.inl (List.contains_iff_mem.1 (List.all_eq_true.1 h s hs))
  unfold Jg
  try simp only[clR]
  refine AQ (nx N hL hd 4 (by omega) (by omega)) ?_
  rintro ⟨r,d'⟩ ⟨h0,h1,h2⟩
  dsimp only at h0 h1 h2 ⊢
  refine BA (fun _=> ?_) (fun _=>BA (fun _=> ?_) (fun _=>BA (fun _=> ?_) (fun _=> ?_)))
  ·refine AQ (nx N hL h2 6 (by omega) (by omega)) ?_
   rintro ⟨r,d'⟩ ⟨h0,h1,h2⟩
   dsimp only at h0 h1 h2 ⊢
   refine AX (decide_eq_true (by omega)) (AX (decide_eq_true (by omega)) (AX (decide_eq_true (by omega)) (D8 ⟨G5 (P:=fun s=>okG false (1,s,[])) (hT _ 1 (by kernel_rfl)) h0 h1,h2⟩)))
  ·refine AQ (nx N hL h2 7 (by omega) (by omega)) ?_
   rintro ⟨r,d'⟩ ⟨h0,h1,h2⟩
   dsimp only at h0 h1 h2 ⊢
   refine AX (decide_eq_true (by omega)) (AX (decide_eq_true (by omega)) (AX (decide_eq_true (by omega)) (D8 ⟨G5 (P:=fun s=>okG false (2,s,[])) (hT _ 2 (by kernel_rfl)) h0 h1,h2⟩)))
  ·refine AQ (nx N hL h2 4 (by omega) (by omega)) ?_
   rintro ⟨r,d'⟩ ⟨h0,h1,h2⟩
   dsimp only at h0 h1 h2 ⊢
   refine AX (decide_eq_true (by omega)) (AX (decide_eq_true (by omega)) (AX (decide_eq_true (by omega)) (D8 ⟨G5 (P:=fun s=>okG false (7,s,[])) (hT _ 7 (by kernel_rfl)) h0 h1,h2⟩)))
  ·refine AQ (AfC N hN hL h2) ?_
   rintro ⟨n,d'⟩ ⟨g0,g1⟩
   exact D8 ⟨Or.inr ⟨n,g0,rfl⟩,g1⟩
theorem xW {d:List Int×Int} (hd:BV L d):Ends (fun r=>okG true r.1/\BV L r.2) (NT N d):=by
  have hT: ∀(l:List Bs) (k:Int),l.all (fun s=>Ac9.contains (k,s,[]))=true-> ∀ s∈l,okG true (k,s,[]):=fun l k h s hs=>Or.inl (List.contains_iff_mem.1 (List.all_eq_true.1 h s hs))
  unfold NT
  try simp only[clR]
  refine AQ (nx N hL hd 4 (by omega) (by omega)) ?_
  rintro ⟨r,d'⟩ ⟨h0,h1,h2⟩
  dsimp only at h0 h1 h2 ⊢
  refine BA (fun _=> ?_) (fun _=>BA (fun _=> ?_) (fun _=>BA (fun _=> ?_) (fun _=> ?_)))
  ·refine AQ (nx N hL h2 7 (by omega) (by omega)) ?_
   rintro ⟨r,d'⟩ ⟨h0,h1,h2⟩
   dsimp only at h0 h1 h2 ⊢
   refine AX (decide_eq_true (by omega)) (AX (decide_eq_true (by omega)) (AX (decide_eq_true (by omega)) (D8 ⟨G5 (P:=fun s=>okG true (1,s,[])) (hT _ 1 (by kernel_rfl)) h0 h1,h2⟩)))
  ·refine AQ (nx N hL h2 7 (by omega) (by omega)) ?_
   rintro ⟨r,d'⟩ ⟨h0,h1,h2⟩
   dsimp only at h0 h1 h2 ⊢
   refine AX (decide_eq_true (by omega)) (AX (decide_eq_true (by omega)) (AX (decide_eq_true (by omega)) (D8 ⟨G5 (P:=fun s=>okG true (2,s,[])) (hT _ 2 (by kernel_rfl)) h0 h1,h2⟩)))
  ·refine AQ (nx N hL h2 5 (by omega) (by omega)) ?_
   rintro ⟨r,d'⟩ ⟨h0,h1,h2⟩
   dsimp only at h0 h1 h2 ⊢
   refine AX (decide_eq_true (by omega)) (AX (decide_eq_true (by omega)) (AX (decide_eq_true (by omega)) (D8 ⟨G5 (P:=fun s=>okG true (7,s,[])) (hT _ 7 (by kernel_rfl)) h0 h1,h2⟩)))
  ·refine AQ (AfC N hN hL h2) ?_
   rintro ⟨n,d'⟩ ⟨g0,g1⟩
   exact D8 ⟨Or.inr ⟨n,g0,rfl⟩,g1⟩
theorem Afe {d:List Int×Int} (hd:BV L d):Ends (fun r=>okS r.1/\BV L r.2) (Nk N d):=by
  unfold Nk
  try simp only[clR]
  refine AQ (nx N hL hd 4 (by omega) (by omega)) ?_
  rintro ⟨r,d1,d2⟩ ⟨h0,h1,h2⟩
  dsimp only at h0 h1 h2 ⊢
  refine GU (fun x=>0<=x.1/\x.1<4/\BV L (x.2.1,x.2.2.1)/\((x.2.2.2.length:Int)+x.1<=3)/\ ∀ g∈x.2.2.2,okG true g) (fun x=>x.1.toNat) ?_ N _ ⟨h0,h1,h2,by simp;omega,(fun r hr=>by cases hr)⟩ (by dsimp only;omega)
  rintro ⟨t,a,b,acc⟩ ⟨g0,g1,g2,g3,g4⟩ k hk
  dsimp only[U4]at g0 g1 g2 g3 g4 ⊢
  refine BA (fun ht=> ?_) (fun _=> ?_)
  ·have ht:=of_decide_eq_true ht
   refine AQ (xW N hN hL g2) ?_
   rintro ⟨g,e1,e2⟩ ⟨f0,f1⟩
   dsimp only at f0 f1 ⊢
   refine AX (decide_eq_true (by omega)) (hk _ ⟨?_,?_,f1,?_,Qb g4 f0⟩ ?_)
   ·dsimp only;rw[w64 (by omega) (by omega)];omega
   ·dsimp only;rw[w64 (by omega) (by omega)];omega
   ·dsimp only;rw[w64 (by omega) (by omega),List.length_append];simp;omega
   ·dsimp only;rw[w64 (by omega) (by omega)];omega
  ·dsimp only[U3]
   refine AQ (nx N hL g2 3 (by omega) (by omega)) ?_
   rintro ⟨r,e1,e2⟩ ⟨f0,f1,f2⟩
   dsimp only at f0 f1 f2 ⊢
   refine GU (fun x=>0<=x.1/\x.1<3/\BV L (x.2.1,x.2.2.1)/\x.2.2.2.1=acc/\((x.2.2.2.2.length:Int)+x.1<=2)/\ ∀ g∈x.2.2.2.2,okG true g) (fun x=>x.1.toNat) ?_ N _ ⟨f0,f1,f2,rfl,by simp;omega,(fun r hr=>by cases hr)⟩ (by dsimp only;omega)
   rintro ⟨t',a',b',acc',out⟩ ⟨p0,p1,p2,p3,p4,p5⟩ k' hk'
   dsimp only[U5]at p0 p1 p2 p3 p4 p5 ⊢
   subst p3
   refine BA (fun ht'=> ?_) (fun _=> ?_)
   ·have ht':=of_decide_eq_true ht'
    refine AQ (xW N hN hL p2) ?_
    rintro ⟨g,q1,q2⟩ ⟨z0,z1⟩
    dsimp only at z0 z1 ⊢
    refine AX (decide_eq_true (by omega)) (hk' _ ⟨?_,?_,z1,rfl,?_,Qb p5 z0⟩ ?_)
    ·dsimp only;rw[w64 (by omega) (by omega)];omega
    ·dsimp only;rw[w64 (by omega) (by omega)];omega
    ·dsimp only;rw[w64 (by omega) (by omega),List.length_append];simp;omega
    ·dsimp only;rw[w64 (by omega) (by omega)];omega
   ·dsimp only[U4]
    refine BA (fun _=> ?_) (fun hc=>D8 ⟨⟨by dsimp only;omega,by dsimp only;omega,?_,g4,p5⟩,p2⟩)
    ·refine AQ (xW N hN hL p2) ?_
     rintro ⟨g,q1,q2⟩ ⟨z0,z1⟩
     dsimp only at z0 z1 ⊢
     refine AX (decide_eq_true (by omega)) (D8 ⟨⟨by dsimp only;omega,?_,Or.inr (by simp),g4,Qb p5 z0⟩,z1⟩)
     dsimp only
     rw[List.length_append];simp;omega
    ·dsimp only
     by_cases e1:acc'=[]
     ·refine Or.inr fun e2=> ?_
      subst e1 e2
      cases hc
     ·exact Or.inl e1
theorem AaV {d:List Int×Int} (hd:BV L d):Ends (fun r=>WE r.1/\BV L r.2) (MO N d):=by
  unfold MO
  try simp only[clR]
  refine AQ (nx N hL hd 3 (by omega) (by omega)) ?_
  rintro ⟨r,d1,d2⟩ ⟨h0,h1,h2⟩
  dsimp only at h0 h1 h2 ⊢
  rw[w64 (by omega) (by omega)]
  refine GU (fun x=>0<=x.1/\x.1<4/\BV L (x.2.1,x.2.2.1)/\((x.2.2.2.length:Int)+x.1<=3)/\(x.2.2.2=[]->1<=x.1)/\ ∀ p∈x.2.2.2,okP p) (fun x=>x.1.toNat) ?_ N _ ⟨by dsimp only;omega,by dsimp only;omega,h2,by simp;omega,(fun _=>by dsimp only;omega),(fun r hr=>by cases hr)⟩ (by dsimp only;omega)
  rintro ⟨t,a,b,acc⟩ ⟨g0,g1,g2,g3,g5,g4⟩ k hk
  dsimp only[U4]at g0 g1 g2 g3 g4 g5 ⊢
  refine BA (fun ht=> ?_) (fun ht=>by dsimp only[U3];exact D8 ⟨⟨fun e=>by have:=g5 e;have:=of_decide_eq_false ht;omega,by dsimp only;omega,g4⟩,g2⟩)
  have ht:=of_decide_eq_true ht
  refine AQ (YG N hN hL g2) ?_
  rintro ⟨g,e⟩ ⟨f0,f1⟩
  refine AQ (nx N hL f1 6 (by omega) (by omega)) ?_
  rintro ⟨r6,e1,e2⟩ ⟨c0,c1,c2⟩
  dsimp only at c0 c1 c2 f0 ⊢
  refine AX (decide_eq_true (by omega)) (AX (decide_eq_true (by omega)) (AX (decide_eq_true (by omega)) ?_))
  have hr: [(0:Int),0,510,2,64,384].getD r6.toNat 0=0\/ [(0:Int),0,510,2,64,384].getD r6.toNat 0∈([510,2,64,384]:List Int):=G5 (P:=fun x:Int=>x=0\/x∈([510,2,64,384]:List Int)) (by decide) c0 c1
  refine eF (P:=fun x=>BV L (x.1,x.2.1)/\x.2.2.1=[(0:Int),0,510,2,64,384].getD r6.toNat 0/\((x.2.2.2.1=false/\x.2.2.2.2.1=[])\/(x.2.2.2.1=true/\okN x.2.2.2.2.1/\x.2.2.2.2.1≠ []))/\x.2.2.2.2.2.1=[g]/\x.2.2.2.2.2.2=acc) (fun j hj=> ?_) ?_
  ·refine AQ (nx N hL c2 3 (by omega) (by omega)) ?_
   rintro ⟨r3,q1,q2⟩ ⟨z0,z1,z2⟩
   dsimp only at z0 z1 z2 ⊢
   refine BA (fun _=> ?_) (fun _=>hj _ ⟨z2,rfl,Or.inl ⟨rfl,rfl⟩,rfl,rfl⟩)
   refine AQ (nx N hL z2 16 (by omega) (by omega)) ?_
   rintro ⟨r3,q1,q2⟩ ⟨z0,z1,z2⟩
   dsimp only at z0 z1 z2 ⊢
   refine AQ (Ac7 N hN z0 z1) ?_
   intro n hn
   exact hj _ ⟨z2,rfl,Or.inr ⟨rfl,hn.1,hn.2⟩,rfl,rfl⟩
  ·rintro ⟨q1,q2,x1,x2,x3,x4,x5⟩ ⟨y1,y2,y3,y4,y5⟩
   dsimp only[U7]at y1 y2 y3 y4 y5 ⊢
   subst y2 y4 y5
   refine AX (decide_eq_true (by omega)) (hk _ ⟨?_,?_,y1,?_,?_,Qb g4 ⟨⟨g,f0,rfl⟩,hr,y3⟩⟩ ?_)
   ·dsimp only;rw[w64 (by omega) (by omega)];omega
   ·dsimp only;rw[w64 (by omega) (by omega)];omega
   ·dsimp only;rw[w64 (by omega) (by omega),List.length_append];simp;omega
   ·intro e;simp at e
   ·dsimp only;rw[w64 (by omega) (by omega)];omega
end
