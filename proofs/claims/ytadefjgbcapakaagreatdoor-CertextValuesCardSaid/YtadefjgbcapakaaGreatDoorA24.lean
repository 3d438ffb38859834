import Derived.Test.YtadefjgbcapakaaGreatDoorA23
set_option linter.all false
namespace Go.Proofs.YtadefjgbcapakaaGreatDoor.Pl
open IntKind (i64)
open Go Vm
theorem AdR (N:Nat) (e:El) (hN:1048578<N) (he:KA 1048576 e):Jg N e 48=some (((elL e).1,0),(elL e).2):=by
  have:=he.content
  unfold Jg elL
  cases e.1 != 48 with
  | true=>rfl
  | false=>rw[cond_false,cond_false,V4 N _ (by omega) (by omega) (by omega),Af]
theorem dL (N:Nat) (es l:List El) (x:List El×Int) (hN:1048578<N) (hx:At es l x) (hl:es.length<=1099511627776) (hg:Good 1048576 l) :
    ∃ y,At es (AP l 6).2.2 y/\Ee N x 6=some ((AP l 6).1,(AP l 6).2.1,y)/\(((AP l 6).2.1 != 0)=false->EC N (AP l 6).1.2.1=some (IA (Me (AP l 6).1.2.1))):=by
  obtain⟨y,h1,h2⟩:=sJ N es l x hx hl 6 (by omega)
  refine⟨y,h2,h1,fun h=> ?_⟩
  have h0:(AP l 6).2.1=0:=by simpa using h
  have:=((QO hg 6).2 h0).content
  exact NF N _ (by omega) (by omega) (by omega)
theorem vG {E A:Type} (f:E->A) (l:List E) (d:E) (d':A) {i:Nat} (h:i<l.length):(l.map f).getD i d'=f (l.getD i d):=by
  simp [List.getD_eq_getElem?_getD,h]
theorem AgJ (N:Nat) (s:Bs) (hN:1048578<N) (hs:s.length<=1048576):Ht N s 1=some (bif CZ CW s != 0 then([],CZ CW s)else((ED CW s).map (fun x=>[x]),0)):=by
  obtain⟨M,rfl⟩: ∃ M,N=M+4:=⟨N - 4,by omega⟩
  have hg0:=GV s hs
  have hl:=hg0.len
  unfold Ht CZ ED
  simp only[MM _ s hN hs,Af,len0]
  have hn:BJ s=bif (AQ s).2 != 0 then([],(AQ s).2)else bif (AQ s).1.isEmpty then([],7)else((AQ s).1,0):=rfl
  cases h:(AQ s).2 != 0 with
  | true=>rw[h]at hn;rw[hn];simp only[cond_true,h]
  | false =>
    rw[h]at hn
    simp only[cond_false]at hn ⊢
    cases h1:(AQ s).1.isEmpty with
    | true=>rw[h1]at hn;rw[hn];rfl
    | false =>
      rw[h1]at hn;rw[hn]
      simp only[cond_false,bne_self_eq_false]
      refine(Uw (mk:=fun i acc=>((i:Int),acc)) (AQ s).1 (0,[],[]) (fun e=>(CW e).2) (fun e=>[(CW e).1]) (fun e=>some ([],e)) (fun acc=>some (acc,0)) ?_ ?_ _ (by omega)).trans ?_
      ·intro i acc hi ha k
       have he:=hg0.all _ (getD_mem ((0,[],[]):El) hi)
       have ho:=AdR (M+4) _ hN he
       have hge:=PX he (Nat.le_refl _)
       dsimp only[U2]
       simp (disch:=first | assumption | omega) only[AU,ho]
       unfold CW
       generalize (AQ s).1.getD i (0,[],[])=e at *
       cases h2:(elL e).2 != 0 with
       | true=>simp only[cond_true,h2]
       | false =>
         simp only[cond_false]
         rw[CY]
         dsimp only[U5]
         rw[show decide ((0:Int)<1)=true from rfl,cond_true]
         obtain⟨y,hy,h3,h4⟩:=dL (M+4) (elL e).1 (elL e).1 ((elL e).1,0) hN ⟨0,rfl,Nat.zero_le _,rfl⟩ (by have:=hge.len;omega) hge
         have hi:idD (elL e).1=bif (AP (elL e).1 6).2.1 != 0 then([],(AP (elL e).1 6).2.1)else IA (Me (AP (elL e).1 6).1.2.1):=rfl
         rw[h3,Af]
         dsimp only
         cases h5:(AP (elL e).1 6).2.1 != 0 with
         | true=>rw[h5]at hi;rw[hi];simp only[cond_true,h5]
         | false =>
           rw[h5]at hi
           simp only[cond_false]at hi ⊢
           rw[h4 h5,Af,<- hi]
           cases h6:(idD (elL e).1).2 != 0 with
           | true=>simp only[cond_true,h6]
           | false =>
             simp only[cond_false,List.nil_append]
             rw[bw (by decide),CY]
             dsimp only[U5]
             rw[show decide (i64.wrap (0+1)<(1:Int))=false from rfl,cond_false]
             dsimp only[U4]
             rw[rend_eq hy,Af]
             dsimp only
             cases h7:Kw (AP (elL e).1 6).2.2 != 0 with
             | true=>rfl
             | false=>simp only[cond_false];rw[bw (by omega)];rfl
      ·intro acc k ha
       dsimp only[U2]
       simp (disch:=first | assumption | omega) only[AU]
      ·rw[AZ,List.map_map];rfl
theorem AgK (N:Nat) (s:Bs) (hN:1048578<N) (hs:s.length<=1048576):Ht N s 2=some (bif CZ Dt s != 0 then([],CZ Dt s)else((ED Dt s).map (fun x=>[x.1,x.2]),0)):=by
  obtain⟨M,rfl⟩: ∃ M,N=M+4:=⟨N - 4,by omega⟩
  have hg0:=GV s hs
  have hl:=hg0.len
  unfold Ht CZ ED
  simp only[MM _ s hN hs,Af,len0]
  have hn:BJ s=bif (AQ s).2 != 0 then([],(AQ s).2)else bif (AQ s).1.isEmpty then([],7)else((AQ s).1,0):=rfl
  cases h:(AQ s).2 != 0 with
  | true=>rw[h]at hn;rw[hn];simp only[cond_true,h]
  | false =>
    rw[h]at hn
    simp only[cond_false]at hn ⊢
    cases h1:(AQ s).1.isEmpty with
    | true=>rw[h1]at hn;rw[hn];rfl
    | false =>
      rw[h1]at hn;rw[hn]
      simp only[cond_false,bne_self_eq_false]
      refine(Uw (mk:=fun i acc=>((i:Int),acc)) (AQ s).1 (0,[],[]) (fun e=>(Dt e).2) (fun e=>[(Dt e).1.1,(Dt e).1.2]) (fun e=>some ([],e)) (fun acc=>some (acc,0)) ?_ ?_ _ (by omega)).trans ?_
      ·intro i acc hi ha k
       have he:=hg0.all _ (getD_mem ((0,[],[]):El) hi)
       have ho:=AdR (M+4) _ hN he
       have hge:=PX he (Nat.le_refl _)
       dsimp only[U2]
       simp (disch:=first | assumption | omega) only[AU,ho]
       unfold Dt
       generalize (AQ s).1.getD i (0,[],[])=e at *
       cases h2:(elL e).2 != 0 with
       | true=>simp only[cond_true,h2]
       | false =>
         simp only[cond_false]
         rw[CY]
         dsimp only[U5]
         rw[show decide ((0:Int)<2)=true from rfl,cond_true]
         obtain⟨y,hy,h3,h4⟩:=dL (M+4) (elL e).1 (elL e).1 ((elL e).1,0) hN ⟨0,rfl,Nat.zero_le _,rfl⟩ (by have:=hge.len;omega) hge
         have hi:idD (elL e).1=bif (AP (elL e).1 6).2.1 != 0 then([],(AP (elL e).1 6).2.1)else IA (Me (AP (elL e).1 6).1.2.1):=rfl
         rw[h3,Af]
         dsimp only
         cases h5:(AP (elL e).1 6).2.1 != 0 with
         | true=>rw[h5]at hi;rw[hi];simp only[cond_true,h5]
         | false =>
           rw[h5]at hi
           simp only[cond_false]at hi ⊢
           rw[h4 h5,Af,<- hi]
           cases h6:(idD (elL e).1).2 != 0 with
           | true=>simp only[cond_true,h6]
           | false =>
             simp only[cond_false,List.nil_append]
             obtain⟨z,hz,h6',h7'⟩:=dL (M+4) (elL e).1 (AP (elL e).1 6).2.2 y hN hy (by have:=hge.len;omega) (QO hge 6).1
             have hj:idD (AP (elL e).1 6).2.2=bif (AP (AP (elL e).1 6).2.2 6).2.1 != 0 then([],(AP (AP (elL e).1 6).2.2 6).2.1)else IA (Me (AP (AP (elL e).1 6).2.2 6).1.2.1):=rfl
             rw[bw (by decide),CY]
             dsimp only[U5]
             rw[show decide (i64.wrap (0+1)<(2:Int))=true from rfl,cond_true,h6',Af]
             dsimp only
             cases h8:(AP (AP (elL e).1 6).2.2 6).2.1 != 0 with
             | true=>rw[h8]at hj;rw[hj];simp only[cond_true,h8]
             | false =>
               rw[h8]at hj
               simp only[cond_false]at hj ⊢
               rw[h7' h8,Af,<- hj]
               cases h9:(idD (AP (elL e).1 6).2.2).2 != 0 with
               | true=>simp only[cond_true,h9]
               | false =>
                 simp only[cond_false,List.cons_append,List.nil_append]
                 rw[bw (by simp),CY]
                 dsimp only[U5]
                 rw[show decide (i64.wrap (i64.wrap (0+1)+1)<(2:Int))=false from rfl,cond_false]
                 dsimp only[U4]
                 rw[rend_eq hz,Af]
                 dsimp only
                 cases h7:Kw (AP (AP (elL e).1 6).2.2 6).2.2 != 0 with
                 | true=>rfl
                 | false=>simp only[cond_false];rw[bw (by omega)];rfl
      ·intro acc k ha
       dsimp only[U2]
       simp (disch:=first | assumption | omega) only[AU]
      ·rw[AZ,List.map_map];rfl
theorem Yf (N:Nat) (s:Bs) (hN:1048578<N) (hs:s.length<=1048576) (hb ca:Bool) (pl us:Int) (pu po:List Bs) (ma:List (Bs×Bs)) (re im ia:Int) (na:List Gn) (hc:Bool) (pe ex:List Gn) (sk ak:Bs) (pt fr:List Pt) (un:List Ex) (hpo:po=[]) (c:Bool) :
    Gives (CZ CW s) (hb,ca,pl,us,pu,ED CW s,ma,re,im,ia,na,hc,pe,ex,sk,ak,pt,fr,un) (Bh N (hb,ca,pl,us,pu,po,ma,re,im,ia,na,hc,pe,ex,sk,ak,pt,fr,un) ([50,46,53,46,50,57,46,51,50],c,s)):=by
  subst hpo
  have hl:=(Df s hs).len
  unfold Bh
  simp (decide:=true) only[cond_true,cond_false,AgJ N s hN hs,Af]
  obtain⟨V,h0,h1,h2⟩: ∃ V:List Bs,V.length<=1048576/\(bif CZ CW s != 0 then([],CZ CW s)else((ED CW s).map (fun x=>[x]),0))=(V.map (fun x=>[x]),CZ CW s)/\(CZ CW s=0->V=ED CW s):=by
    by_cases h:CZ CW s=0
    ·exact⟨ED CW s,by rw[show(ED CW s).length=(BJ s).1.length from List.length_map _];exact hl,by rw[h];rfl,fun _=>rfl⟩
    ·exact⟨[],Nat.zero_le _,by rw[show(CZ CW s != 0)=true from bne_iff_ne.2 h];rfl,fun h'=>absurd h' h⟩
  rw[h1]
  dsimp only
  refine⟨_,uZ (mk:=fun i acc=>((i:Int),hb,ca,pl,us,pu,re,im,ia,na,hc,pe,ex,sk,ak,pt,fr,ma,un,acc)) V ([]:Bs) id (fun acc=>some (CZ CW s,(hb,ca,pl,us,pu,acc,ma,re,im,ia,na,hc,pe,ex,sk,ak,pt,fr,un))) ?_ ?_ N (by omega),fun h=> ?_⟩
  ·intro i acc hi ha k
   have hm:=vG (fun x=>[x]) V ([]:Bs) ([]:List Bs) hi
   dsimp only[U20]
   simp (disch:=first | assumption | omega) only[AU,List.length_map,hm]
   rfl
  ·intro acc k ha
   dsimp only[U20]
   simp (disch:=first | assumption | omega) only[AU,List.length_map]
   rfl
  ·rw[List.map_id,h2 h]
theorem Ye (N:Nat) (s:Bs) (hN:1048578<N) (hs:s.length<=1048576) (hb ca:Bool) (pl us:Int) (pu po:List Bs) (ma:List (Bs×Bs)) (re im ia:Int) (na:List Gn) (hc:Bool) (pe ex:List Gn) (sk ak:Bs) (pt fr:List Pt) (un:List Ex) (hma:ma=[]) (c:Bool) :
    Gives (CZ Dt s) (hb,ca,pl,us,pu,po,ED Dt s,re,im,ia,na,hc,pe,ex,sk,ak,pt,fr,un) (Bh N (hb,ca,pl,us,pu,po,ma,re,im,ia,na,hc,pe,ex,sk,ak,pt,fr,un) ([50,46,53,46,50,57,46,51,51],c,s)):=by
  subst hma
  have hl:=(Df s hs).len
  unfold Bh
  simp (decide:=true) only[cond_true,cond_false,AgK N s hN hs,Af]
  obtain⟨V,h0,h1,h2⟩: ∃ V:List (Bs×Bs),V.length<=1048576/\(bif CZ Dt s != 0 then([],CZ Dt s)else((ED Dt s).map (fun x=>[x.1,x.2]),0))=(V.map (fun x=>[x.1,x.2]),CZ Dt s)/\(CZ Dt s=0->V=ED Dt s):=by
    by_cases h:CZ Dt s=0
    ·exact⟨ED Dt s,by rw[show(ED Dt s).length=(BJ s).1.length from List.length_map _];exact hl,by rw[h];rfl,fun _=>rfl⟩
    ·exact⟨[],Nat.zero_le _,by rw[show(CZ Dt s != 0)=true from bne_iff_ne.2 h];rfl,fun h'=>absurd h' h⟩
  rw[h1]
  dsimp only
  refine⟨_,uZ (mk:=fun i acc=>((i:Int),hb,ca,pl,us,pu,re,im,ia,na,hc,pe,ex,sk,ak,pt,fr,po,un,acc)) V (([],[]):Bs×Bs) id (fun acc=>some (CZ Dt s,(hb,ca,pl,us,pu,po,acc,re,im,ia,na,hc,pe,ex,sk,ak,pt,fr,un))) ?_ ?_ N (by omega),fun h=> ?_⟩
  ·intro i acc hi ha k
   have hm:=vG (fun x=>[x.1,x.2]) V (([],[]):Bs×Bs) ([]:List Bs) hi
   dsimp only[U20]
   simp (disch:=first | assumption | omega) only[AU,List.length_map,hm]
   rfl
  ·intro acc k ha
   dsimp only[U20]
   simp (disch:=first | assumption | omega) only[AU,List.length_map]
   rfl
  ·rw[List.map_id,h2 h]
theorem AgX (l:List Nat):(two l).length<=l.length+1:=by
  cases l with
  | nil=>exact Nat.zero_le _
  | cons n t=>show t.length+1+1<=t.length+1+1;omega
theorem eX (s:Bs):(IA (Me s)).1.length<=1048576:=by
  cases h:Me s with
  | none=>show 0<=_;omega
  | some a =>
    unfold Me at h
    cases hn:Dw 4294967294 s 0 false []with
    | none=>rw[hn]at h;cases h
    | some l =>
      rw[hn]at h
      simp only[Option.bind_some]at h
      split at h
      ·cases h
      ·rename_i hne
       unfold upTo at h
       split at h
       ·rename_i hu
        injection h with h
        subst h
        have h1:=Vs (two l) (fun x hx=>by have:=hu x hx;omega)
        have h2:=AgX l
        show(Fz (two l)).length<=_
        omega
       ·cases h
def Pv:Info:=(false,false,0,0,[],[],[],0,0,0,[],false,[],[],[],[],[],[],[])
def Bl:Info:=(false,false,-1,0,[],[],[],-1,-1,-1,[],false,[],[],[],[],[],[],[])
def lM (e:Int) (u:Info):Info×Int:=bif e != 0 then(Pv,e)else bif U1 u != 0 then(Pv,U1 u)else(u,0)
theorem dN (M:Nat) (x:Ex) (t:Int×Info) (h:Bc (M+2) Bl [] x=some t) :
    EX (M+2) [x]=bif t.1 != 0 then some (Pv,t.1)else Ae (FC (M+2) t.2) fun r=>bif r != 0 then some (Pv,r)else some (t.2,0):=by
  unfold EX
  rw[show decide ((([x]:List Ex).length:Int)>24)=false from rfl,cond_false,show I4 (M+2)=some Bl from rfl,Af]
  rw[CY]
  dsimp only[U20,Bl]
  simp only[show decide ((0:Int)<(([x]:List Ex).length:Int))=true from rfl,show decide ((0:Int)<=0)=true from rfl,show decide ((0:Int)<=(([x]:List Ex).length:Int))=true from decide_eq_true (by simp),AY,cond_true]
  show Ae (Bc (M+2) Bl [] x) _=_
  rw[h,Af]
  cases t.1 != 0 with
  | true=>rfl
  | false =>
    rw[cond_false,cond_false,CY]
    dsimp only[U20]
    rw[show decide (i64.wrap (0+1)<(([x]:List Ex).length:Int))=false from rfl,cond_false]
    rfl
theorem jU (M:Nat) (x:Ex) (t:Int×Info) (h0:A7 (M+2) x.1=some true) (h1:AB (M+2) x=some false) (h:Bh (M+2) Bl x=some t) :
    Di (M+2) [x]=bif t.1 != 0 then some (Pv,t.1)else Ae (FU (M+2) t.2) fun r=>bif r != 0 then some (Pv,r)else some (t.2,0):=by
  unfold Di
  rw[show decide ((([x]:List Ex).length:Int)>24)=false from rfl,cond_false,show OW (M+2)=some Bl from rfl,Af]
  rw[CY]
  dsimp only[U20,Bl]
  simp only[show decide ((0:Int)<(([x]:List Ex).length:Int))=true from rfl,show decide ((0:Int)<=0)=true from rfl,show decide ((0:Int)<=(([x]:List Ex).length:Int))=true from decide_eq_true (by simp),AY,cond_true]
  show Ae (A7 (M+2) x.1) _=_
  rw[h0,Af]
  simp only[Bool.not_true,cond_false]
  show Ae (EO (M+2) [] x.1) _=_
  rw[show EO (M+2) [] x.1=some (([],false,[]),false)from rfl,Af]
  simp only[cond_false]
  show Ae (AB (M+2) x) _=_
  rw[h1,Af]
  simp only[cond_false]
  show Ae (Bh (M+2) Bl x) _=_
  rw[h,Af]
  cases t.1 != 0 with
  | true=>rfl
  | false =>
    rw[cond_false,cond_false,CY]
    dsimp only[U20]
    rw[show decide (i64.wrap (0+1)<(([x]:List Ex).length:Int))=false from rfl,cond_false]
    rfl
theorem jT (M:Nat) (x:Ex) (h0:A7 (M+2) x.1=some true) (h1:AB (M+2) x=some true):Di (M+2) [x]=some (Pv,20):=by
  unfold Di
  rw[show decide ((([x]:List Ex).length:Int)>24)=false from rfl,cond_false,show OW (M+2)=some Bl from rfl,Af]
  rw[CY]
  dsimp only[U20,Bl]
  simp only[show decide ((0:Int)<(([x]:List Ex).length:Int))=true from rfl,show decide ((0:Int)<=0)=true from rfl,show decide ((0:Int)<=(([x]:List Ex).length:Int))=true from decide_eq_true (by simp),AY,cond_true]
  show Ae (A7 (M+2) x.1) _=_
  rw[h0,Af]
  simp only[Bool.not_true,cond_false]
  show Ae (EO (M+2) [] x.1) _=_
  rw[show EO (M+2) [] x.1=some (([],false,[]),false)from rfl,Af]
  simp only[cond_false]
  show Ae (AB (M+2) x) _=_
  rw[h1,Af]
  rfl
theorem sD {N:Nat} {x:Ex} {e:Int} {u:Info} (hN:1048578<N) (h:Gives e u (Bc N Bl [] x)) (hu:Jp u):EX N [x]=some (lM e u):=by
  obtain⟨M,rfl⟩: ∃ M,N=M+2:=⟨N - 2,by omega⟩
  obtain⟨j,hj,h2⟩:=h
  rw[dN M x _ hj]
  unfold lM
  cases h:e != 0 with
  | true=>simp only[h,cond_true]
  | false =>
    have h0:e=0:=by simpa using h
    simp only[h,cond_false,h2 h0,ZM _ u hN hu,Af]
    exact AZ _ _ _
theorem ZI {N:Nat} {x:Ex} {e:Int} {u:Info} (hN:1048578<N) (h0:A7 N x.1=some true) (h1:AB N x=some false) (h:Gives e u (Bh N Bl x)) (hu:Jp u):Di N [x]=some (lM e u):=by
  obtain⟨M,rfl⟩: ∃ M,N=M+2:=⟨N - 2,by omega⟩
  obtain⟨j,hj,h2⟩:=h
  rw[jU M x _ h0 h1 hj]
  unfold lM
  cases h:e != 0 with
  | true=>simp only[h,cond_true]
  | false =>
    have h0:e=0:=by simpa using h
    simp only[h,cond_false,h2 h0,rY _ u hN hu,Af]
    exact AZ _ _ _
theorem Gives.got {e:Int} {u:Info} {o:Option (Int×Info)} (h:Gives e u o):Gives e u (Ae o fun r=>some (r.1,r.2)):=by
  obtain⟨j,rfl,h⟩:=h
  exact⟨j,rfl,h⟩
def Both (N:Nat) (x:Ex):Prop:= ∃ r:Info×Int,EX N [x]=some r/\Di N [x]=some r/\Jp r.1/\r.1.2.2.2.2.2.2.2.2.2.2.2.2.2.2.2.2.2.2=[]/\r.1.2.2.2.2.2.2.1.length<=1048576
theorem noX {α :Type} {P: α ->Prop}: ∀ s∈([]:List α),P s:=fun _ h=>(by cases h)
theorem Vw:Jp Pv:=⟨rfl,⟨Nat.zero_le _,noX⟩,⟨Nat.zero_le _,noX⟩,noX,rfl,rfl,rfl,noX,noX,⟨Nat.zero_le _,noX⟩⟩
theorem both_ok {N:Nat} {x:Ex} {e:Int} {u:Info} (hN:1048578<N) (h0:A7 N x.1=some true) (h1:AB N x=some false) (hp:Gives e u (Bc N Bl [] x)) (hr:Gives e u (Bh N Bl x)) (hu:Jp u)
    (hn:u.2.2.2.2.2.2.2.2.2.2.2.2.2.2.2.2.2.2=[]) (hm:u.2.2.2.2.2.2.1.length<=1048576):Both N x:=by
  refine⟨lM e u,sD hN hp hu,ZI hN h0 h1 hr hu,?_⟩
  unfold lM
  cases e != 0 with
  | true=>exact⟨Vw,rfl,Nat.zero_le _⟩
  | false=>cases U1 u != 0 with
    | true=>exact⟨Vw,rfl,Nat.zero_le _⟩
    | false=>exact⟨hu,hn,hm⟩
theorem LJ {N:Nat} {x:Ex} (hN:1048578<N) (h0:A7 N x.1=some true) (h1:AB N x=some true) (hp:Bc N Bl [] x=some (20,Bl)):Both N x:=by
  obtain⟨M,rfl⟩: ∃ M,N=M+2:=⟨N - 2,by omega⟩
  exact⟨(Pv,20),(dN M x _ hp).trans rfl,jT M x h0 h1,Vw,rfl,by decide⟩
theorem AbV (M:Nat) (s:Bs):Bc (M+70) Bl [] ([50,46,53,46,50,57,46,49,57],true,s)=Ae (En (M+70) s Bl) fun r=>some (r.1,r.2):=by kernel_rfl
theorem Ad2 (M:Nat) (s:Bs):AB (M+70) ([50,46,53,46,50,57,46,49,57],true,s)=some false:=by kernel_rfl
theorem yY (M:Nat) (s:Bs):Bc (M+70) Bl [] ([50,46,53,46,50,57,46,49,57],false,s)=some (20,Bl):=by kernel_rfl
theorem Abr (M:Nat) (s:Bs):AB (M+70) ([50,46,53,46,50,57,46,49,57],false,s)=some true:=by kernel_rfl
theorem vo0 (M:Nat):A7 (M+70) [50,46,53,46,50,57,46,49,57]=some true:=by kernel_rfl
theorem AbW (M:Nat) (s:Bs):Bc (M+70) Bl [] ([50,46,53,46,50,57,46,49,53],true,s)=Ae (Eo (M+70) s Bl) fun r=>some (r.1,r.2):=by kernel_rfl
theorem Ad3 (M:Nat) (s:Bs):AB (M+70) ([50,46,53,46,50,57,46,49,53],true,s)=some false:=by kernel_rfl
theorem yZ (M:Nat) (s:Bs):Bc (M+70) Bl [] ([50,46,53,46,50,57,46,49,53],false,s)=some (20,Bl):=by kernel_rfl
theorem Abs (M:Nat) (s:Bs):AB (M+70) ([50,46,53,46,50,57,46,49,53],false,s)=some true:=by kernel_rfl
theorem vo1 (M:Nat):A7 (M+70) [50,46,53,46,50,57,46,49,53]=some true:=by kernel_rfl
theorem AbX (M:Nat) (s:Bs):Bc (M+70) Bl [] ([50,46,53,46,50,57,46,51,55],true,s)=Ae (CU (M+70) s Bl) fun r=>some (r.1,r.2):=by kernel_rfl
theorem Ad4 (M:Nat) (s:Bs):AB (M+70) ([50,46,53,46,50,57,46,51,55],true,s)=some false:=by kernel_rfl
theorem zA (M:Nat) (s:Bs):Bc (M+70) Bl [] ([50,46,53,46,50,57,46,51,55],false,s)=Ae (CU (M+70) s Bl) fun r=>some (r.1,r.2):=by kernel_rfl
theorem Abt (M:Nat) (s:Bs):AB (M+70) ([50,46,53,46,50,57,46,51,55],false,s)=some false:=by kernel_rfl
theorem vo2 (M:Nat):A7 (M+70) [50,46,53,46,50,57,46,51,55]=some true:=by kernel_rfl
theorem AbY (M:Nat) (s:Bs):Bc (M+70) Bl [] ([50,46,53,46,50,57,46,51,50],true,s)=Ae (CS (M+70) s Bl) fun r=>some (r.1,r.2):=by kernel_rfl
theorem Ad5 (M:Nat) (s:Bs):AB (M+70) ([50,46,53,46,50,57,46,51,50],true,s)=some false:=by kernel_rfl
theorem zB (M:Nat) (s:Bs):Bc (M+70) Bl [] ([50,46,53,46,50,57,46,51,50],false,s)=Ae (CS (M+70) s Bl) fun r=>some (r.1,r.2):=by kernel_rfl
theorem Abu (M:Nat) (s:Bs):AB (M+70) ([50,46,53,46,50,57,46,51,50],false,s)=some false:=by kernel_rfl
theorem vo3 (M:Nat):A7 (M+70) [50,46,53,46,50,57,46,51,50]=some true:=by kernel_rfl
theorem AbZ (M:Nat) (s:Bs):Bc (M+70) Bl [] ([50,46,53,46,50,57,46,51,51],true,s)=Ae (CQ (M+70) s Bl) fun r=>some (r.1,r.2):=by kernel_rfl
theorem Ad6 (M:Nat) (s:Bs):AB (M+70) ([50,46,53,46,50,57,46,51,51],true,s)=some false:=by kernel_rfl
theorem zC (M:Nat) (s:Bs):Bc (M+70) Bl [] ([50,46,53,46,50,57,46,51,51],false,s)=Ae (CQ (M+70) s Bl) fun r=>some (r.1,r.2):=by kernel_rfl
theorem Abv (M:Nat) (s:Bs):AB (M+70) ([50,46,53,46,50,57,46,51,51],false,s)=some false:=by kernel_rfl
theorem vo4 (M:Nat):A7 (M+70) [50,46,53,46,50,57,46,51,51]=some true:=by kernel_rfl
theorem Aca (M:Nat) (s:Bs):Bc (M+70) Bl [] ([50,46,53,46,50,57,46,51,54],true,s)=Ae (Ec (M+70) s Bl) fun r=>some (r.1,r.2):=by kernel_rfl
theorem Ad7 (M:Nat) (s:Bs):AB (M+70) ([50,46,53,46,50,57,46,51,54],true,s)=some false:=by kernel_rfl
theorem zD (M:Nat) (s:Bs):Bc (M+70) Bl [] ([50,46,53,46,50,57,46,51,54],false,s)=some (20,Bl):=by kernel_rfl
theorem Abw (M:Nat) (s:Bs):AB (M+70) ([50,46,53,46,50,57,46,51,54],false,s)=some true:=by kernel_rfl
theorem vo5 (M:Nat):A7 (M+70) [50,46,53,46,50,57,46,51,54]=some true:=by kernel_rfl
theorem Acb (M:Nat) (s:Bs):Bc (M+70) Bl [] ([50,46,53,46,50,57,46,53,52],true,s)=Ae (DF (M+70) s Bl) fun r=>some (r.1,r.2):=by kernel_rfl
theorem Ad8 (M:Nat) (s:Bs):AB (M+70) ([50,46,53,46,50,57,46,53,52],true,s)=some false:=by kernel_rfl
theorem zF (M:Nat) (s:Bs):Bc (M+70) Bl [] ([50,46,53,46,50,57,46,53,52],false,s)=some (20,Bl):=by kernel_rfl
theorem Abx (M:Nat) (s:Bs):AB (M+70) ([50,46,53,46,50,57,46,53,52],false,s)=some true:=by kernel_rfl
theorem vo6 (M:Nat):A7 (M+70) [50,46,53,46,50,57,46,53,52]=some true:=by kernel_rfl
theorem Acd (M:Nat) (s:Bs):Bc (M+70) Bl [] ([50,46,53,46,50,57,46,49,52],true,s)=some (20,Bl):=by kernel_rfl
theorem Ad9 (M:Nat) (s:Bs):AB (M+70) ([50,46,53,46,50,57,46,49,52],true,s)=some true:=by kernel_rfl
theorem zG (M:Nat) (s:Bs):Bc (M+70) Bl [] ([50,46,53,46,50,57,46,49,52],false,s)=Ae (DI (M+70) s Bl) fun r=>some (r.1,r.2):=by kernel_rfl
theorem Aby (M:Nat) (s:Bs):AB (M+70) ([50,46,53,46,50,57,46,49,52],false,s)=some false:=by kernel_rfl
theorem vo7 (M:Nat):A7 (M+70) [50,46,53,46,50,57,46,49,52]=some true:=by kernel_rfl
theorem Ace (M:Nat) (s:Bs):Bc (M+70) Bl [] ([50,46,53,46,50,57,46,51,53],true,s)=some (20,Bl):=by kernel_rfl
theorem AdA (M:Nat) (s:Bs):AB (M+70) ([50,46,53,46,50,57,46,51,53],true,s)=some true:=by kernel_rfl
theorem zH (M:Nat) (s:Bs):Bc (M+70) Bl [] ([50,46,53,46,50,57,46,51,53],false,s)=Ae (Dk (M+70) s Bl) fun r=>some (r.1,r.2):=by kernel_rfl
theorem Abz (M:Nat) (s:Bs):AB (M+70) ([50,46,53,46,50,57,46,51,53],false,s)=some false:=by kernel_rfl
theorem vo8 (M:Nat):A7 (M+70) [50,46,53,46,50,57,46,51,53]=some true:=by kernel_rfl
theorem Sj {α :Type} {P: α ->Prop} {b:Bool} {x y: α} (hx:P x) (hy:b=false->P y):P (bif b then x else y):=by
  cases b with
  | true=>exact hx
  | false=>exact hy rfl
theorem gV (e:El):Dj (NZ e).1:=by
  unfold NZ
  cases e.1 != 6 with
  | true=>exact Nat.zero_le _
  | false=>exact eX _
theorem Xt (l:List El):Dj (idD l).1:=by
  unfold idD
  cases (AP l 6).2.1 != 0 with
  | true=>exact Nat.zero_le _
  | false=>exact eX _
theorem jF (e:El):Dj (CW e).1:=by
  unfold CW
  refine Sj (P:=fun r:Bs×Int=>Dj r.1) (Nat.zero_le _) fun _=>Sj (P:=fun r:Bs×Int=>Dj r.1) (Nat.zero_le _) fun _=>Xt _
theorem Pg (e:El):Lp (Dt e).1:=by
  unfold Dt
  have hz:Lp ([],[]):=⟨Nat.zero_le _,Nat.zero_le _⟩
  refine Sj (P:=fun r:(Bs×Bs)×Int=>Lp r.1) hz fun _=>Sj (P:=fun r:(Bs×Bs)×Int=>Lp r.1) hz fun _=>Sj (P:=fun r:(Bs×Bs)×Int=>Lp r.1) hz fun _=>⟨Xt _,Xt _⟩
theorem GR {A:Type} {l:List El} (f:El->A) {P:A->Prop} (hl:l.length<=1048576) (h: ∀ e,P (f e)):(l.map f).length<=1048576/\ ∀ s∈l.map f,P s:=by
  refine⟨by rw[List.length_map];exact hl,fun s hs=> ?_⟩
  obtain⟨e,_,rfl⟩:=List.mem_map.1 hs
  exact h e
theorem EE (hb ca:Bool) (pl us:Int) (pu po:List Bs) (ma:List (Bs×Bs)) (re im ia:Int) (sk ak:Bs) (hpu:pu.length<=1048576/\ ∀ s∈pu,Dj s) (hpo:po.length<=1048576/\ ∀ s∈po,Dj s) (hma: ∀ s∈ma,Lp s) :
    Jp (hb,ca,pl,us,pu,po,ma,re,im,ia,[],false,[],[],sk,ak,[],[],[]):=⟨rfl,hpu,hpo,hma,rfl,rfl,rfl,noX,noX,⟨Nat.zero_le _,noX⟩⟩
theorem Ci {A:Type} {P:A->Prop}:([]:List A).length<=1048576/\ ∀ s∈([]:List A),P s:=⟨Nat.zero_le _,noX⟩
section
variable (M:Nat) (s:Bs) (hM:1048578<M+70) (hs:s.length<=1048576)
include hM hs
theorem Ahb (c:Bool):Both (M+70) ([50,46,53,46,50,57,46,49,57],c,s):=by
  cases c with
  | true=>exact both_ok hM (vo0 M) (Ad2 M s) (by rw[AbV];exact(Aeo (M+70) s hM hs false false (-1) 0 [] [] [] (-1) (-1) (-1) [] false [] [] [] [] [] [] [] rfl).got) (AdP (M+70) s hM hs false false (-1) 0 [] [] [] (-1) (-1) (-1) [] false [] [] [] [] [] [] [] true) (EE _ _ _ _ _ _ _ _ _ _ _ _ Ci Ci noX) rfl (Nat.zero_le _)
  | false=>exact LJ hM (vo0 M) (Abr M s) (yY M s)
theorem Ahc (c:Bool):Both (M+70) ([50,46,53,46,50,57,46,49,53],c,s):=by
  cases c with
  | true=>exact both_ok hM (vo1 M) (Ad3 M s) (by rw[AbW];exact(Aft (M+70) s hM hs false false (-1) 0 [] [] [] (-1) (-1) (-1) [] false [] [] [] [] [] [] []).got) (AdV (M+70) s hM hs false false (-1) 0 [] [] [] (-1) (-1) (-1) [] false [] [] [] [] [] [] [] true) (EE _ _ _ _ _ _ _ _ _ _ _ _ Ci Ci noX) rfl (Nat.zero_le _)
  | false=>exact LJ hM (vo1 M) (Abs M s) (yZ M s)
theorem Ahd (c:Bool):Both (M+70) ([50,46,53,46,50,57,46,51,55],c,s):=by
  cases c with
  | true=>exact both_ok hM (vo2 M) (Ad4 M s) (by rw[AbX];exact(ZC (M+70) s hM hs false false (-1) 0 [] [] [] (-1) (-1) (-1) [] false [] [] [] [] [] [] [] rfl).got) (Yg (M+70) s hM hs false false (-1) 0 [] [] [] (-1) (-1) (-1) [] false [] [] [] [] [] [] [] true) (EE _ _ _ _ _ _ _ _ _ _ _ _ (GR _ (Df s hs).len gV) Ci noX) rfl (Nat.zero_le _)
  | false=>exact both_ok hM (vo2 M) (Abt M s) (by rw[zA];exact(ZC (M+70) s hM hs false false (-1) 0 [] [] [] (-1) (-1) (-1) [] false [] [] [] [] [] [] [] rfl).got) (Yg (M+70) s hM hs false false (-1) 0 [] [] [] (-1) (-1) (-1) [] false [] [] [] [] [] [] [] false) (EE _ _ _ _ _ _ _ _ _ _ _ _ (GR _ (Df s hs).len gV) Ci noX) rfl (Nat.zero_le _)
theorem Ahe (c:Bool):Both (M+70) ([50,46,53,46,50,57,46,51,50],c,s):=by
  cases c with
  | true=>exact both_ok hM (vo3 M) (Ad5 M s) (by rw[AbY];exact(Z9 (M+70) s hM hs false false (-1) 0 [] [] [] (-1) (-1) (-1) [] false [] [] [] [] [] [] [] rfl).got) (Yf (M+70) s hM hs false false (-1) 0 [] [] [] (-1) (-1) (-1) [] false [] [] [] [] [] [] [] rfl true) (EE _ _ _ _ _ _ _ _ _ _ _ _ Ci (GR _ (Df s hs).len jF) noX) rfl (Nat.zero_le _)
  | false=>exact both_ok hM (vo3 M) (Abu M s) (by rw[zB];exact(Z9 (M+70) s hM hs false false (-1) 0 [] [] [] (-1) (-1) (-1) [] false [] [] [] [] [] [] [] rfl).got) (Yf (M+70) s hM hs false false (-1) 0 [] [] [] (-1) (-1) (-1) [] false [] [] [] [] [] [] [] rfl false) (EE _ _ _ _ _ _ _ _ _ _ _ _ Ci (GR _ (Df s hs).len jF) noX) rfl (Nat.zero_le _)
theorem Ahf (c:Bool):Both (M+70) ([50,46,53,46,50,57,46,51,51],c,s):=by
  cases c with
  | true=>exact both_ok hM (vo4 M) (Ad6 M s) (by rw[AbZ];exact(Z4 (M+70) s hM hs false false (-1) 0 [] [] [] (-1) (-1) (-1) [] false [] [] [] [] [] [] [] rfl).got) (Ye (M+70) s hM hs false false (-1) 0 [] [] [] (-1) (-1) (-1) [] false [] [] [] [] [] [] [] rfl true) (EE _ _ _ _ _ _ _ _ _ _ _ _ Ci Ci (GR _ (Df s hs).len Pg).2) rfl (GR _ (Df s hs).len Pg).1
  | false=>exact both_ok hM (vo4 M) (Abv M s) (by rw[zC];exact(Z4 (M+70) s hM hs false false (-1) 0 [] [] [] (-1) (-1) (-1) [] false [] [] [] [] [] [] [] rfl).got) (Ye (M+70) s hM hs false false (-1) 0 [] [] [] (-1) (-1) (-1) [] false [] [] [] [] [] [] [] rfl false) (EE _ _ _ _ _ _ _ _ _ _ _ _ Ci Ci (GR _ (Df s hs).len Pg).2) rfl (GR _ (Df s hs).len Pg).1
theorem Ahg (c:Bool):Both (M+70) ([50,46,53,46,50,57,46,51,54],c,s):=by
  cases c with
  | true=>exact both_ok hM (vo5 M) (Ad7 M s) (by rw[Aca];exact(Adx (M+70) s hM hs false false (-1) 0 [] [] [] (-1) (-1) (-1) [] false [] [] [] [] [] [] [] rfl rfl).got) (AbK (M+70) s hM hs false false (-1) 0 [] [] [] (-1) (-1) (-1) [] false [] [] [] [] [] [] [] true) (EE _ _ _ _ _ _ _ _ _ _ _ _ Ci Ci noX) rfl (Nat.zero_le _)
  | false=>exact LJ hM (vo5 M) (Abw M s) (zD M s)
theorem Ahh (c:Bool):Both (M+70) ([50,46,53,46,50,57,46,53,52],c,s):=by
  cases c with
  | true=>exact both_ok hM (vo6 M) (Ad8 M s) (by rw[Acb];exact(AaY (M+70) s hM hs false false (-1) 0 [] [] [] (-1) (-1) (-1) [] false [] [] [] [] [] [] []).got) (yT (M+70) s hM hs false false (-1) 0 [] [] [] (-1) (-1) (-1) [] false [] [] [] [] [] [] [] true) (EE _ _ _ _ _ _ _ _ _ _ _ _ Ci Ci noX) rfl (Nat.zero_le _)
  | false=>exact LJ hM (vo6 M) (Abx M s) (zF M s)
theorem Ahi (c:Bool):Both (M+70) ([50,46,53,46,50,57,46,49,52],c,s):=by
  cases c with
  | true=>exact LJ hM (vo7 M) (Ad9 M s) (Acd M s)
  | false=>exact both_ok hM (vo7 M) (Aby M s) (by rw[zG];exact(AbU (M+70) s hM hs false false (-1) 0 [] [] [] (-1) (-1) (-1) [] false [] [] [] [] [] [] []).got) (yU (M+70) s hM hs false false (-1) 0 [] [] [] (-1) (-1) (-1) [] false [] [] [] [] [] [] [] false) (EE _ _ _ _ _ _ _ _ _ _ _ _ Ci Ci noX) rfl (Nat.zero_le _)
theorem Ahj (c:Bool):Both (M+70) ([50,46,53,46,50,57,46,51,53],c,s):=by
  cases c with
  | true=>exact LJ hM (vo8 M) (AdA M s) (Ace M s)
  | false=>exact both_ok hM (vo8 M) (Abz M s) (by rw[zH];exact(sS (M+70) s hM hs false false (-1) 0 [] [] [] (-1) (-1) (-1) [] false [] [] [] [] [] [] []).got) (pG (M+70) s hM hs false false (-1) 0 [] [] [] (-1) (-1) (-1) [] false [] [] [] [] [] [] [] false) (EE _ _ _ _ _ _ _ _ _ _ _ _ Ci Ci noX) rfl (Nat.zero_le _)
end
end Go.Proofs.YtadefjgbcapakaaGreatDoor.Pl
namespace Go.Proofs.YtadefjgbcapakaaGreatDoor.Pl
open IntKind (i64)
open Go Vm
theorem P9 (N:Nat) (l:List Bs) (hN:1048578<N) (hl:l.length<=1048576):Dq N l l=some true:=by
  unfold Dq
  try simp only[clR]
  rw[sZ rfl,cond_false]
  refine(JJ (mk:=fun i=>(i:Int)) l [] (fun _=>false) (some false) (some true) ?_ ?_ N (by omega)).trans ?_
  ·intro i hi k
   simp (disch:=first | assumption | omega) only[AU,CO]
   rw[beq_self_eq_true];rfl
  ·intro k
   simp (disch:=first | assumption | omega) only[AU]
  ·rw[List.any_eq_false.2 (fun _ _=>by decide)];rfl
theorem Zl (N:Nat) (l:List (Bs×Bs)) (hN:1048578<N) (hl:l.length<=1048576):Ez N l l=some true:=by
  unfold Ez
  try simp only[clR]
  rw[sZ rfl,cond_false]
  refine(JJ (mk:=fun i=>(i:Int)) l ([],[]) (fun _=>false) (some false) (some true) ?_ ?_ N (by omega)).trans ?_
  ·intro i hi k
   simp (disch:=first | assumption | omega) only[AU,CO]
   rw[beq_self_eq_true,beq_self_eq_true];rfl
  ·intro k
   simp (disch:=first | assumption | omega) only[AU]
  ·rw[List.any_eq_false.2 (fun _ _=>by decide)];rfl
theorem AdC (M:Nat):CG (M+70) [] []=some true/\FV (M+70) ([],[]) ([],[])=some true/\DC (M+70) [] []=some true/\EP (M+70) [] []=some true/\BN (M+70) [] []=some true/\EH (M+70) [] []=some true :=
  ⟨by kernel_rfl,by kernel_rfl,by kernel_rfl,by kernel_rfl,by kernel_rfl,by kernel_rfl⟩
theorem AaM (N:Nat) (x:Info) (hN:1048578<N) (hx:Jp x) (hn:x.2.2.2.2.2.2.2.2.2.2.2.2.2.2.2.2.2.2=[]) (hm:x.2.2.2.2.2.2.1.length<=1048576):Js N x x=some true:=by
  obtain⟨M,rfl⟩: ∃ M,N=M+70:=⟨N - 70,by omega⟩
  obtain⟨hb,ca,pl,us,pu,po,ma,re,im,ia,na,hc,pe,ex,sk,ak,pt,fr,un⟩:=x
  obtain⟨_,⟨q1,_⟩,⟨q2,_⟩,_,q4,q5,q6,q7,q8,_⟩:=hx
  have q7':=Ab2 q7
  have q8':=Ab2 q8
  dsimp only[P8]at q1 q2 q4 q5 q6 q7' q8' hn hm
  subst hn q4 q5 q6 q7' q8'
  obtain⟨g1,g2,g3,g4,g5,g6⟩:=AdC M
  have hs:Jh (M+70) (hb,ca,pl,us,pu,po,ma,re,im,ia,[],hc,[],[],sk,ak,[],[],[]) (hb,ca,pl,us,pu,po,ma,re,im,ia,[],hc,[],[],sk,ak,[],[],[])=some true:=by
    unfold Jh
    simp only[Am,beq_self_eq_true,cond_true,AY,Bool.true_or,Option.isSome_some,Option.getD_some,P9 _ _ hN q1,P9 _ _ hN q2,Zl _ _ hN hm,g1,g2,g3,g4]
  unfold Js
  simp only[hs,Af,Am,cond_true,cond_false,AY,Bool.not_true,Bool.not_false,Bool.true_or,Option.isSome_some,Option.getD_some,g5,g6]
theorem Aen (M:Nat):MS (M+400)=some true:=by kernel_rfl
def Xy:List Bs:=[[50,46,53,46,50,57,46,49,57],[50,46,53,46,50,57,46,49,53],[50,46,53,46,50,57,46,51,55],[50,46,53,46,50,57,46,51,50],[50,46,53,46,50,57,46,51,51],[50,46,53,46,50,57,46,51,54],[50,46,53,46,50,57,46,53,52],[50,46,53,46,50,57,46,49,52],[50,46,53,46,50,57,46,51,53]]
theorem Aev (N:Nat) (hN:1048578<N) (s:Bs) (hs:s.length<=1048576) (c:Bool) (k:Nat) (hk:k<9):Both N (Xy.getD k [],c,s):=by
  obtain⟨M,rfl⟩: ∃ M,N=M+70:=⟨N - 70,by omega⟩
  match k,hk with
  | 0,_=>exact Ahb M s hN hs c
  | 1,_=>exact Ahc M s hN hs c
  | 2,_=>exact Ahd M s hN hs c
  | 3,_=>exact Ahe M s hN hs c
  | 4,_=>exact Ahf M s hN hs c
  | 5,_=>exact Ahg M s hN hs c
  | 6,_=>exact Ahh M s hN hs c
  | 7,_=>exact Ahi M s hN hs c
  | 8,_=>exact Ahj M s hN hs c
section
variable {ρ :Type} {B:Bs×Int×List Bs->(Bs×Int×List Bs->Option ρ)->(Bs×List Bs->Option ρ)->Option ρ} {kx:Bs×List Bs->Option ρ}
theorem AeD (L:List Bs) (h: ∀(i:Nat) (t:Bs),t.length<=10*i-> ∀ k,B (t,(i:Int),L) k kx=kx (t,L)\/i<5/\ ∃ y:Bs,y.length<=10/\B (t,(i:Int),L) k kx=k (t++y,((i+1:Nat):Int),L)) :
    ∀(d i:Nat) (t:Bs) (n:Nat),i+d=5->t.length<=10*i->d<n-> ∃ x:Bs,x.length<=50/\Ar B n (t,(i:Int),L) kx=kx (x,L):=by
  intro d
  induction d with
  | zero =>
    intro i t n hi ht hn
    obtain⟨m,rfl⟩: ∃ m,n=m+1:=⟨n - 1,by omega⟩
    rcases h i t ht (fun s=>Ar B m s kx)with h1 | ⟨h1,_⟩
    ·exact⟨t,by omega,h1⟩
    ·omega
  | succ d ih =>
    intro i t n hi ht hn
    obtain⟨m,rfl⟩: ∃ m,n=m+1:=⟨n - 1,by omega⟩
    rcases h i t ht (fun s=>Ar B m s kx)with h1 | ⟨_,y,hy,h1⟩
    ·exact⟨t,by omega,h1⟩
    ·obtain⟨x,hx,h2⟩:=ih (i+1) (t++y) m (by omega) (by rw[List.length_append];omega) (by omega)
     exact⟨x,hx,h1.trans h2⟩
theorem Adf {r:Option ρ} (L:List Bs) (h: ∀(i:Nat) (t:Bs),t.length<=10*i-> ∀ k,B (t,(i:Int),L) k kx=kx (t,L)\/i<5/\ ∃ y:Bs,y.length<=10/\B (t,(i:Int),L) k kx=k (t++y,((i+1:Nat):Int),L))
    (hf: ∀ x:Bs,x.length<=50->kx (x,L)=r) (N:Nat) (hN:6<N):Ar B N ([],0,L) kx=r:=by
  obtain⟨x,hx,h1⟩:=AeD L h 5 0 [] N rfl (Nat.zero_le _) (by omega)
  exact h1.trans (hf x hx)
end
theorem pieces_len: ∀ k:Nat,(([[1,1,255],[1,1,0],[2,1,5],[2,1,65],[2,1,255],[128,1,3],[129,1,0],[6,3,85,29,19],[48,4,6,2,42,3],[48,8,6,2,42,3,6,2,42,4],[128,0],[4,1,120]]:List Bs).getD k []).length<=10:=by
  intro k
  match k with
  | 0 | 1 | 2 | 3 | 4 | 5 | 6 | 7 | 8 | 9 | 10 | 11=>decide
  | n+12=>exact Nat.zero_le _
theorem Acr (N:Nat) (p0 p1 p2:Int) (p3:List Int) (p4:Bool) (hN:1048578<N) (h0:0<=p0) (h3: ∀ v∈p3,0<=v):Ej N p0 p1 p2 p3 p4=some true:=by
  have ha:MS N=some true:=by
    obtain⟨M,rfl⟩: ∃ M,N=M+400:=⟨N - 400,by omega⟩
    exact Aen M
  unfold Ej
  refine Adf Xy ?_ ?_ N (by omega)
  ·intro i t ht k
   dsimp only[U3]
   by_cases hi:i<p3.length
   ·by_cases h5:i<5
    ·right
     have hv:=h3 _ (getD_mem 0 hi)
     have hm:0<=(p3.getD i 0).tmod 12/\(p3.getD i 0).tmod 12<12:=by rw[Int.tmod_eq_emod_of_nonneg hv];omega
     have hp:=pieces_len ((p3.getD i 0).tmod 12).toNat
     refine⟨h5,_,hp,?_⟩
     simp (disch:=first | assumption | omega) only[AU,Af1 (show(i:Int)<5 by omega),Bool.or_false]
     rfl
    ·left
     simp (disch:=first | assumption | omega) only[AU,Af0 (show(5:Int)<=(i:Int) by omega),Bool.or_false]
   ·left
    simp (disch:=first | assumption | omega) only[AU]
  ·intro x hx
   dsimp only[U2]
   have hm:0<=p0.tmod 9/\p0.tmod 9<9:=by
     rw[Int.tmod_eq_emod_of_nonneg h0];omega
   have hw: ∀ n:Int,List.all ([48,IntKind.u8.wrap n]:List Int) isByte=true:=fun n=>by
     rw[List.all_cons,List.all_cons,QK];rfl
   have hw2: ∀ a b:Int,List.all ([IntKind.u8.wrap a,IntKind.u8.wrap b]:List Int) isByte=true:=fun a b=>by
     rw[List.all_cons,List.all_cons,QK,QK];rfl
   have hw3: ∀ a b:Int,List.all ([(IntKind.u8.wrap a).tmod 9,IntKind.u8.wrap b]:List Int) isByte=true:=fun a b=>by
     have h:0<=IntKind.u8.wrap a/\IntKind.u8.wrap a<256:=by rw[w8];omega
     have h9:isByte ((IntKind.u8.wrap a).tmod 9)=true:=by
       rw[Int.tmod_eq_emod_of_nonneg h.1]
       unfold isByte
       rw[decide_eq_true (show(0:Int)<=IntKind.u8.wrap a % 9 by omega),decide_eq_true (show IntKind.u8.wrap a % 9<256 by omega)];rfl
     rw[List.all_cons,List.all_cons,QK,h9];rfl
   have hl2: ∀(a b:Int),(List.map Vm.byteOf ([a,b]:List Int)).length=2:=fun _ _=>rfl
   rw[hw,AY,bw (by rw[hl2];omega)]
   refine Adw (P:=fun s:Bs×List Bs=>s.2=Xy/\s.1.length<=1048576) (Q:=fun r=>r=some true) ?_ ?_
   ·intro j hj
    cases p1.tmod 5==1 with
    | true=>rw[cond_true,hw2,AY,bw (by rw[hl2];omega)];exact hj _ ⟨rfl,by rw[List.length_append,hl2];show 2+2<=_;omega⟩
    | false =>
      rw[cond_false]
      cases p1.tmod 5==2 with
      | true=>rw[cond_true,hw3,AY,bw (by rw[hl2];omega)];exact hj _ ⟨rfl,by rw[List.length_append,hl2];show 2+2<=_;omega⟩
      | false =>
        rw[cond_false]
        cases p1.tmod 5==3 with
        | true=>exact hj _ ⟨rfl,by show x.length<=_;omega⟩
        | false=>exact hj _ ⟨rfl,by rw[List.length_append,hl2];omega⟩
   ·rintro ⟨t,L⟩ ⟨hL,ht⟩
    dsimp only at hL ht
    subst hL
    dsimp only[U2]
    obtain⟨r,h1,h2,h4,h5,h6⟩:=Aev N hN t ht p4 (p0.tmod 9).toNat (by omega)
    have he:=AaM N r.1 hN h4 h5 h6
    rw[decide_eq_true hm.1,decide_eq_true (show p0.tmod 9<(Xy.length:Int)from hm.2),decide_eq_true (show(p0.tmod 9).toNat<Xy.length by show _<9;omega),AY,AY,AY,h1,Af,h2,Af,ha,Af]
    simp only[cond_true,beq_self_eq_true,Bool.true_or,Bool.not_true,Bool.or_false,AY,he,Option.isSome_some,Option.getD_some]
end Go.Proofs.YtadefjgbcapakaaGreatDoor.Pl
namespace Go.Proofs.YtadefjgbcapakaaGreatDoor.Vm
open Go.RowKit
theorem Moves.below {T:Nat->Prop} {w w':World} (h:Moves (fun _ _=>none) T w w'):Below w.heap.size w w' :=
  ⟨h.os,h.tape,h.output,h.size,fun b hb=>by
    rcases h.blk b hb with e | ⟨c,c',e,fr,_,_,_,_,k,o,_,ho,_⟩ | ⟨_,_,_,_,o,_,_,ho,_⟩
    ·exact e
    ·cases ho
    ·cases ho⟩
theorem Sig.Ah7 {Ad Aq:List Sh} {f:ShT Ad->Option (ShT (D9 Ad Aq))} {xs:List A} {a:ShT Ad} {o:ShT (D9 Ad Aq)} (hd:MB Ad xs=some a) (hf:f a=some o):(Sig.of Ad Aq f).F xs=some (encs (D9 Ad Aq) o):=by
  unfold Sig.F Sig.of
  dsimp only
  rw[hd]
  dsimp only
  rw[hf]
  rfl
theorem Adu {P:Program} {f:FuncId} {sg:Sig} (h:Spec P f sg) {xs:List A} {vs:Array Value} {W:World} (hF:sg.F xs=some [.bool true]) (hress:sg.Aq=[.cell false .bool]) (hv:vs.size=xs.length) (hl:xs.length=sg.Ad.length) (h100:xs.length<=100)
    (hx: ∀ j,j<xs.length->IR (fun _ _=>none) W (256*j) (vs.getD j undef) (xs.getD j .undef)) (hI:Inv (fun _ _=>none) W):Calls P f vs W fun e w'=>e= .returned (.bool true)/\Below W.heap.size W w':=by
  refine(h.2 (fun _ _=>none) W vs xs _ hI hv hl h100 hx hF).mono fun e w' hq=> ?_
  obtain⟨v,O',he,hc⟩:=hq
  obtain⟨us,h1,h2,h3⟩:=hc.res
  rw[hress]at h1
  have h1':us.size=1:=h1
  have h4:Ai O' w' (us.getD 0 undef) (.bool true):=h3 0 (by omega)
  have h5:us.getD 0 undef= .bool true:=by
    generalize us.getD 0 undef=z at h4
    cases h4;rfl
  have h6:v= .bool true:=by
    rw[h2,dif_pos h1',<- h5]
    simp [Array.getD_eq_getD_getElem?,h1']
  exact⟨by rw[he,h6],hc.moves.below⟩
