import Derived.Test.YtadefjgbcapakaaGreatDoorA24
set_option linter.all false
namespace Go.Proofs.YtadefjgbcapakaaGreatDoor.Pl
open IntKind (i64)
open Go Vm
theorem Tv {x:Info} {S T:Nat->Bool} {u:List Ex} (h: ∀ i,i<13->S i=T i):part x S u=part x T u:=by
  obtain⟨hb,ca,pl,us,pu,po,ma,re,im,ia,na,hc,pe,ex,sk,ak,pt,fr,un⟩:=x
  unfold part
  simp only[h 0 (by decide),h 1 (by decide),h 2 (by decide),h 3 (by decide),h 4 (by decide),h 5 (by decide),h 6 (by decide),h 7 (by decide),h 8 (by decide),h 9 (by decide),h 10 (by decide),h 11 (by decide),h 12 (by decide)]
theorem AoC (M:Nat) (hN:1048578<M+70) {x:Info} (h:OkI x) (S:Nat->Bool) (u:List Ex) (l:List Ex) (hl:l.length<=1048576) {k:Nat} (hk:k<13) (hh:hasK x k=true) (hS:S k=false) (hb:l.any (fun y=>y.1==idV.getD k [])=false) :
    Bv (M+70) (part x S u) l (xk x k)=some (0,part x (fun i=>S i||i==k) u):=by
  obtain⟨hb,ca,pl,us,pu,po,ma,re,im,ia,na,hc,pe,ex,sk,ak,pt,fr,un⟩:=x
  match k,hk with
  | 0,_=>exact ApL M hN h S u l hl hh hS hb
  | 1,_=>exact ApM M hN h S u l hl hh hS hb
  | 2,_=>exact ApN M hN h S u l hl hh hS hb
  | 3,_=>exact ApO M hN h S u l hl hh hS hb
  | 4,_=>exact ApP M hN h S u l hl hh hS hb
  | 5,_=>exact ApQ M hN h S u l hl hh hS hb
  | 6,_=>exact ApR M hN h S u l hl hh hS hb
  | 7,_=>exact ApS M hN h S u l hl hh hS hb
  | 8,_=>exact ApT M hN h S u l hl hh hS hb
  | 9,_=>exact ApU M hN h S u l hl hh hS hb
  | 10,_=>exact Ao9 M hN h S u l hl hh hS hb
  | 11,_=>exact AoA M hN h S u l hl hh hS hb
  | 12,_=>exact AoB M hN h S u l hl hh hS hb
theorem Aqf (M:Nat):(∀ c,Bq (M+70) (unX c).1=some (([],0,0,0,0),false)/\BF (M+70) (unX c).1=some true/\IW (M+70) (unX c).2.2=some 0)/\Bq (M+70) unY.1=some (([],0,0,0,0),false)/\BF (M+70) unY.1=some true/\IW (M+70) unY.2.2=some 0 :=
  ⟨fun _=>⟨by kernel_rfl,by kernel_rfl,by kernel_rfl⟩,by kernel_rfl,by kernel_rfl,by kernel_rfl⟩
theorem AnB (M:Nat) {un:List Ex} (h:un∈unL) {i:Nat} (hi:i<un.length):(un.getD i ([],false,[])).1=idV.getD (13+i) []/\Bq (M+70) (un.getD i ([],false,[])).1=some (([],0,0,0,0),false)/\BF (M+70) (un.getD i ([],false,[])).1=some true/\IW (M+70) (un.getD i ([],false,[])).2.2=some 0:=by
  obtain⟨h1,h2⟩:=Aqf M
  unfold unL at h
  simp only[List.mem_cons,List.mem_nil_iff,or_false]at h
  rcases h with rfl | rfl | rfl | rfl | rfl
  ·cases hi
  ·match i,hi with
   | 0,_=>exact⟨rfl,h1 true⟩
  ·match i,hi with
   | 0,_=>exact⟨rfl,h1 false⟩
  ·match i,hi with
   | 0,_=>exact⟨rfl,h1 true⟩
   | 1,_=>exact⟨rfl,h2⟩
  ·match i,hi with
   | 0,_=>exact⟨rfl,h1 false⟩
   | 1,_=>exact⟨rfl,h2⟩
theorem Aq9 (x:Info) {k:Nat} (hk:k<13):(xk x k).1=idV.getD k []:=by
  obtain⟨hb,ca,pl,us,pu,po,ma,re,im,ia,na,hc,pe,ex,sk,ak,pt,fr,un⟩:=x
  match k,hk with
  | 0,_=>rfl
  | 1,_=>rfl
  | 2,_=>rfl
  | 3,_=>rfl
  | 4,_=>rfl
  | 5,_=>rfl
  | 6,_=>rfl
  | 7,_=>rfl
  | 8,_=>rfl
  | 9,_=>rfl
  | 10,_=>rfl
  | 11,_=>rfl
  | 12,_=>rfl
theorem AkB {l:List Bs} (h:l.Nodup) {i j:Nat} (hi:i<l.length) (hj:j<l.length) (he:l.getD i []=l.getD j []):i=j:=by
  have key: ∀ {a b:Nat},a<l.length->b<l.length->a<b->l.getD a []≠l.getD b []:=fun ha hb hab e=>by
    refine Tu h hb [] ?_
    rw[<- e,getD_lt l _ [] ha]
    exact List.mem_take_iff_getElem.2 ⟨_,by omega,rfl⟩
  rcases Nat.lt_trichotomy i j with hl | hl | hl
  ·exact absurd he (key hi hj hl)
  ·exact hl
  ·exact absurd he.symm (key hj hi hl)
section
variable (M:Nat) (hN:1048578<M+70) {x:Info} (h:OkI x)
include h
theorem Afm:(GR x).length<=2:=(lJ (kH h.un).1).2.1
theorem Ag0 {k:Nat} (hk:wL x k):(Gf x k).1=idV.getD k []/\k<15:=by
  unfold Gf
  rcases hk with ⟨h1,_⟩ | ⟨h1,h2⟩
  ·rw[if_pos h1];exact⟨Aq9 x h1,by omega⟩
  ·rw[if_neg (by omega),(AnB (un:=GR x) 0 h.un (i:=k - 13) h2).1,show 13+(k - 13)=k by omega]
   have:=Afm h
   exact⟨rfl,by omega⟩
def unP (x:Info) (its:List Nat):List Ex:=(its.filter fun k=>decide (13<=k)).map (Gf x)
include hN
theorem Alo (its:List Nat) {k:Nat} (hk:wL x k) (hg: ∀ i∈its,wL x i) (hn:k∉its) (hlen:its.length<=100) :
    Bv (M+70) (part x (fun i=>decide (i∈its)) (unP x its)) (its.map (Gf x)) (Gf x k)=some (0,part x (fun i=>decide (i∈its++[k])) (unP x (its++[k]))):=by
  have hlt:=(Ag0 h hk).2
  have hb:(its.map (Gf x)).any (fun y=>y.1==idV.getD k [])=false:=by
    rw[List.any_map,List.any_eq_false]
    intro i hi he
    have hi2:=Ag0 h (hg i hi)
    simp only[Function.comp_apply,beq_iff_eq]at he
    rw[hi2.1]at he
    have hl15:idV.length=15:=rfl
    have:=AkB Akg (by omega) (by omega) he
    exact hn (this▸hi)
  have hS:part x (fun i=>decide (i∈its++[k])) (unP x (its++[k]))=part x (fun i=>decide (i∈its)||i==k) (unP x (its++[k])):=Tv fun i _=>by
    rw[Bool.eq_iff_iff]
    simp [List.mem_append]
  rw[hS]
  rcases hk with ⟨h1,h2⟩ | ⟨h1,h2⟩
  ·have hu:unP x (its++[k])=unP x its:=by
     unfold unP
     rw[List.filter_append,List.filter_cons_of_neg (by simp;omega),List.filter_nil,List.append_nil]
   have he:Gf x k=xk x k:=by unfold Gf;rw[if_pos h1]
   rw[hu,he]
   exact AoC M hN h _ _ _ (by rw[List.length_map];omega) h1 h2 (decide_eq_false hn) hb
  ·have hu:unP x (its++[k])=unP x its++[Gf x k]:=by
     unfold unP
     rw[List.filter_append,List.filter_cons_of_pos (by simpa using h1),List.filter_nil,List.map_append];rfl
   have he:Gf x k=(GR x).getD (k - 13) ([],false,[]):=by unfold Gf;rw[if_neg (by omega)]
   have hp:part x (fun i=>decide (i∈its)||i==k) (unP x its++[Gf x k])=part x (fun i=>decide (i∈its)) (unP x its++[Gf x k]):=Tv fun i hi=>by
     rw[show(i==k)=false by simp;omega,Bool.or_false]
   obtain⟨a1,a2,a3,a4⟩:=AnB M h.un h2
   have hul:(unP x its).length<=100:=by
     unfold unP
     rw[List.length_map]
     exact Nat.le_trans (List.length_filter_le _ _) hlen
   rw[show 13+(k - 13)=k by omega]at a1
   have a1':((GR x).getD (k - 13) ([],false,[])).1=idV.getD k []:=a1
   rw[hu,hp,he]
   have hb':(its.map (Gf x)).any (fun y=>y.1==((GR x).getD (k - 13) ([],false,[])).1)=false:=by rw[a1'];exact hb
   obtain⟨hb,ca,pl,us,pu,po,ma,re,im,ia,na,hc,pe,ex,sk,ak,pt,fr,un⟩:=x
   exact Anc (M+70) _ _ _ _ _ _ _ _ _ _ _ _ _ _ _ _ _ _ _ _ _ _ hN a3 (by rw[List.length_map];omega) hb' a2 hul a4
theorem gG (its:List Nat) (hg: ∀ i∈its,wL x i) (hn:its.Nodup) (hlen:its.length<=24) (hsm:KY (part x (fun i=>decide (i∈its)) (unP x its))) (hi:JK (part x (fun i=>decide (i∈its)) (unP x its))=0) :
    Ec (M+70) (its.map (Gf x))=some (part x (fun i=>decide (i∈its)) (unP x its),0):=by
  have e: ∀ m,its.length<=m->its.take m=its:=fun m hm=>List.take_of_length_le hm
  have hL:(its.map (Gf x)).length=its.length:=List.length_map _
  have:=AgM (M+70) (its.map (Gf x)) (fun m=>part x (fun i=>decide (i∈its.take m)) (unP x (its.take m))) hN (by rw[hL];exact hlen) ?_ ?_ ?_ ?_
  ·rw[this,hL,e _ (Nat.le_refl _)]
  ·obtain⟨hb,ca,pl,us,pu,po,ma,re,im,ia,na,hc,pe,ex,sk,ak,pt,fr,un⟩:=x
   rfl
  ·intro i hi'
   rw[hL]at hi'
   have hk:its.getD i 0∈its:=getD_mem 0 hi'
   have h1:=Alo M hN h (its.take i) (hg _ hk) (fun j hj=>hg j (List.mem_of_mem_take hj)) (Tu hn hi' 0) (by rw[List.length_take];omega)
   have h2:its.take (i+1)=its.take i++[its.getD i 0]:=by
     rw[List.take_add_one,List.getElem?_eq_getElem hi',getD_lt its i 0 hi'];rfl
   rw[<- h2]at h1
   rw[UI (Gf x) its 0 ([],false,[]) hi',<- List.map_take]
   exact h1
  ·rw[hL,e _ (Nat.le_refl _)];exact hsm
  ·rw[hL,e _ (Nat.le_refl _)];exact hi
end
end Go.Proofs.YtadefjgbcapakaaGreatDoor.Pl
namespace Go.Proofs.YtadefjgbcapakaaGreatDoor.Pl
open IntKind (i64)
open Go Vm
theorem Amg: ∀ l:List (Bool×Bool×Ex),l.flatMap OW=((List.range l.length).filter (fun k=>(l.getD k noX).1)).map (fun k=>(l.getD k noX).2.2):=by
  intro l
  induction l with
  | nil=>rfl
  | cons r t ih =>
    rw[List.flatMap_cons,ih,List.length_cons,List.range_succ_eq_map,List.filter_cons,List.filter_map]
    have e1:(fun k=>((r::t).getD k noX).1)∘Nat.succ=fun k=>(t.getD k noX).1:=rfl
    have e2:(fun k=>((r::t).getD k noX).2.2)∘Nat.succ=fun k=>(t.getD k noX).2.2:=rfl
    rw[e1]
    show OW r++_=List.map _ (if r.1=true then _ else _)
    unfold OW
    cases r.1 with
    | true=>rw[if_pos rfl,List.map_cons,List.map_map,e2];rfl
    | false=>rw[if_neg (by decide),List.map_map,e2];rfl
theorem map_range {α :Type} (l:List α) (d: α):(List.range l.length).map (fun i=>l.getD i d)=l:=by
  refine List.ext_getElem (by simp) fun i h1 h2=> ?_
  rw[List.getElem_map,List.getElem_range,getD_lt l i d h2]
def Ir (x:Info):List Nat:=(List.range 13).filter (hasK x)++(List.range (GR x).length).map (13+ ·)
theorem Aks (x:Info):(Ir x).map (Gf x)=(Ez x).flatMap OW++GR x:=by
  unfold Ir
  rw[List.map_append,List.map_map,Amg,AbU]
  congr 1
  ·refine List.map_congr_left fun k hk=> ?_
   have:=List.mem_range.1 (List.mem_filter.1 hk).1
   unfold Gf
   rw[if_pos this];rfl
  ·refine(List.map_congr_left fun k hk=> ?_).trans (map_range (GR x) ([],false,[]))
   show Gf x (13+k)=_
   unfold Gf
   rw[if_neg (by omega),show 13+k - 13=k by omega]
theorem Aes (x:Info): ∀ k∈Ir x,wL x k:=by
  intro k hk
  unfold Ir at hk
  rcases List.mem_append.1 hk with hk | hk
  ·have:=List.mem_filter.1 hk
   exact Or.inl ⟨List.mem_range.1 this.1,this.2⟩
  ·obtain⟨i,hi,rfl⟩:=List.mem_map.1 hk
   exact Or.inr ⟨by omega,by rw[show 13+i - 13=i by omega];exact List.mem_range.1 hi⟩
theorem AgA (x:Info) {k:Nat} (hk:k<13):decide (k∈Ir x)=hasK x k:=by
  rw[Bool.eq_iff_iff,decide_eq_true_eq]
  unfold Ir
  rw[List.mem_append,List.mem_filter,List.mem_range]
  constructor
  ·rintro (h | h)
   ·exact h.2
   ·obtain⟨i,_,h⟩:=List.mem_map.1 h;omega
  ·exact fun h=>Or.inl ⟨hk,h⟩
theorem AbB (x:Info):(Ir x).Nodup:=by
  unfold Ir
  rw[List.nodup_append]
  refine⟨List.Pairwise.filter _ List.nodup_range,?_,?_⟩
  ·refine List.Pairwise.map (13+ ·) (fun a b (hab:a≠b)=> ?_) List.nodup_range
   show 13+a≠13+b;omega
  ·intro a ha b hb
   have:=List.mem_range.1 (List.mem_filter.1 ha).1
   obtain⟨i,_,rfl⟩:=List.mem_map.1 hb
   omega
theorem Akt (x:Info):unP x (Ir x)=GR x:=by
  unfold unP Ir
  rw[List.filter_append]
  have e1:List.filter (fun k=>decide (13<=k)) (List.filter (hasK x) (List.range 13))=[]:=by
    rw[List.filter_eq_nil_iff]
    intro a ha
    have:=List.mem_range.1 (List.mem_filter.1 ha).1
    simp;omega
  have e2:List.filter (fun k=>decide (13<=k)) ((List.range (GR x).length).map (13+ ·))=(List.range (GR x).length).map (13+ ·):=by
    rw[List.filter_eq_self]
    intro a ha
    obtain⟨i,_,rfl⟩:=List.mem_map.1 ha
    simp
  rw[e1,e2,List.nil_append,List.map_map]
  refine(List.map_congr_left fun k hk=> ?_).trans (map_range (GR x) ([],false,[]))
  show Gf x (13+k)=_
  unfold Gf
  rw[if_neg (by omega),show 13+k - 13=k by omega]
theorem Aoj (x:Info):unP x (Ir x).reverse=(GR x).reverse:=by
  rw[<- Akt x]
  unfold unP
  rw[List.filter_reverse,List.map_reverse]
theorem AaI {x:Info} (h:OkI x):(Ir x).length<=15:=by
  have:=Afm h
  unfold Ir
  rw[List.length_append,List.length_map,List.length_range]
  have:=List.length_filter_le (hasK x) (List.range 13)
  rw[List.length_range]at this
  omega
theorem sel {α :Type} (b:Bool) (v d: α) (h:b=false->v=d):(bif b then v else d)=v:=by
  cases b with
  | true=>rfl
  | false=>exact(h rfl).symm
theorem AaS {α β :Type} (f: α -> β) {l:List α} (h:decide (((l.length:Nat):Int)>0)=false):l.map f=[]:=by
  cases l with
  | nil=>rfl
  | cons a r=>rw[decide_eq_true (by rw[List.length_cons];omega)]at h;cases h
theorem AeG {x:Info} (h:OkI x) (u:List Ex):part x (hasK x) u=inK x u:=by
  obtain⟨hb,ca,pl,us,pu,po,ma,re,im,ia,na,hc,pe,ex,sk,ak,pt,fr,un⟩:=x
  have hb1:hb=false->ca=false/\pl= -1:=fun h0=>by
    rcases h.bas with ⟨h1,_⟩ | ⟨_,h1⟩
    ·rw[show hb=true from h1]at h0;cases h0
    ·exact h1
  have hc1:hc=false->pe=[]/\ex=[]:=fun h0=>by
    rcases h.con with ⟨_,h1⟩ | ⟨h1,_⟩
    ·exact h1
    ·rw[show hc=true from h1]at h0;cases h0
  show(bif hb then hb else false,bif hb then ca else false,bif hb then pl else -1,bif us != 0 then us else 0,bif decide (((pu.length:Nat):Int)>0)then pu else [],bif decide (((po.length:Nat):Int)>0)then po else [],bif decide (((ma.length:Nat):Int)>0)then ma else [],
    bif re != -1||im != -1 then re else -1,bif re != -1||im != -1 then im else -1,bif ia != -1 then ia else -1,bif decide (((na.length:Nat):Int)>0)then na.map gnK else [],bif hc then hc else false,bif hc then pe.map gnK else [],bif hc then ex.map gnK else [],
    bif !(sk==[])then sk else [],bif !(ak==[])then ak else [],bif decide (((pt.length:Nat):Int)>0)then pt.map ptK else [],bif decide (((fr.length:Nat):Int)>0)then fr.map ptK else [],u)=(hb,ca,pl,us,pu,po,ma,re,im,ia,na.map gnK,hc,pe.map gnK,ex.map gnK,sk,ak,pt.map ptK,fr.map ptK,u)
  rw[sel hb hb false id,sel hb ca false (fun h=>(hb1 h).1),sel hb pl (-1) (fun h=>(hb1 h).2),sel _ us 0 (fun h=>by simpa using h),sel _ pu [] (fun h=>by simpa using AaS id h),sel _ po [] (fun h=>by simpa using AaS id h),sel _ ma [] (fun h=>by simpa using AaS id h),
    sel _ re (-1) (fun h=>by simp at h;exact h.1),sel _ im (-1) (fun h=>by simp at h;exact h.2),sel _ ia (-1) (fun h=>by simpa using h),sel _ (na.map gnK) [] (AaS gnK),sel hc hc false id,sel hc (pe.map gnK) [] (fun h=>by rw[(hc1 h).1];rfl),sel hc (ex.map gnK) [] (fun h=>by rw[(hc1 h).2];rfl),
    sel _ sk [] (fun h=>by simpa using h),sel _ ak [] (fun h=>by simpa using h),sel _ (pt.map ptK) [] (AaS ptK),sel _ (fr.map ptK) [] (AaS ptK)]
theorem Afb {x:Info} (h:OkI x):KY x:=by
  obtain⟨hb,ca,pl,us,pu,po,ma,re,im,ia,na,hc,pe,ex,sk,ak,pt,fr,un⟩:=x
  have ho: ∀ s,s∈Ii++KJ->FV s:=fun s hs=>by have:=(Nq hs).sh;unfold FV;omega
  refine⟨⟨by have:=h.pu.len;omega,fun s hs=>ho s (List.mem_append_right _ (h.pu.all s hs))⟩,⟨by have:=h.po.len;omega,fun s hs=>ho s (List.mem_append_left _ (h.po.all s hs))⟩,fun m hm=>⟨ho _ (List.mem_append_left _ (h.ma.all m hm).1),ho _ (List.mem_append_left _ (h.ma.all m hm).2)⟩,
    fun g hg=>(EK (h.na.2 g hg)).s0,?_,?_,?_,?_,⟨by have:=(lJ (kH h.un).1).2.1;omega,(lJ (kH h.un).1).2.2⟩⟩
  ·rcases h.con with ⟨_,h1,_⟩ | ⟨_,h1⟩
   ·dsimp only at h1 ⊢;rw[h1];exact fun g hg=>by cases hg
   ·exact fun g hg=>(EK (h1.a0 g hg)).s0
  ·rcases h.con with ⟨_,_,h1⟩ | ⟨_,h1⟩
   ·dsimp only at h1 ⊢;rw[h1];exact fun g hg=>by cases hg
   ·exact fun g hg=>(EK (h1.a1 g hg)).s0
  ·rcases h.pt with h1 | h1
   ·dsimp only at h1 ⊢;rw[h1];exact fun p hp=>by cases hp
   ·exact fun p hp=>(MJ (h1.all p hp)).s0
  ·rcases h.fr with h1 | h1
   ·dsimp only at h1 ⊢;rw[h1];exact fun p hp=>by cases hp
   ·exact fun p hp=>(MJ (h1.all p hp)).s0
theorem AgK {x:Info} (h:OkI x) {u:List Ex} (hu:u∈unR):KY (inK x u):=by
  have h0:=Afb h
  obtain⟨hb,ca,pl,us,pu,po,ma,re,im,ia,na,hc,pe,ex,sk,ak,pt,fr,un⟩:=x
  refine⟨h0.pu,h0.po,h0.ma,?_,?_,?_,?_,?_,⟨by have:=(lJ hu).2.1;show u.length<=_;omega,(lJ hu).2.2⟩⟩
  ·intro q hq
   obtain⟨g,hg,rfl⟩:=List.mem_map.1 hq
   exact(EK (h.na.2 g hg)).s1
  ·intro q hq
   obtain⟨g,hg,rfl⟩:=List.mem_map.1 hq
   rcases h.con with ⟨_,h1,_⟩ | ⟨_,h1⟩
   ·dsimp only at h1;rw[h1]at hg;cases hg
   ·exact(EK (h1.a0 g hg)).s1
  ·intro q hq
   obtain⟨g,hg,rfl⟩:=List.mem_map.1 hq
   rcases h.con with ⟨_,_,h1⟩ | ⟨_,h1⟩
   ·dsimp only at h1;rw[h1]at hg;cases hg
   ·exact(EK (h1.a1 g hg)).s1
  ·intro q hq
   obtain⟨p,hp,rfl⟩:=List.mem_map.1 hq
   rcases h.pt with h1 | h1
   ·dsimp only at h1;rw[h1]at hp;cases hp
   ·exact(MJ (h1.all p hp)).s1
  ·intro q hq
   obtain⟨p,hp,rfl⟩:=List.mem_map.1 hq
   rcases h.fr with h1 | h1
   ·dsimp only at h1;rw[h1]at hp;cases hp
   ·exact(MJ (h1.all p hp)).s1
theorem Am0 {α β :Type} (f: α -> β) (l:List α):(((l.map f).length:Nat):Int)=((l.length:Nat):Int):=by rw[List.length_map]
theorem ApA {x:Info} (h:OkI x) (u:List Ex):Ez (inK x u)=Ez x/\(Ez x).any pG=false:=by
  obtain⟨hb,ca,pl,us,pu,po,ma,re,im,ia,na,hc,pe,ex,sk,ak,pt,fr,un⟩:=x
  have hs:PO (pe.map gnK,ex.map gnK)=PO (pe,ex)/\(hc&&(PO (pe,ex)).2 != 0)=false:=by
    rcases h.con with ⟨h0,h1,h2⟩ | ⟨_,h1⟩
    ·dsimp only at h0 h1 h2
     subst h0 h1 h2
     exact⟨rfl,rfl⟩
    ·have S:=yZ 2097152 (by decide) h1
     refine⟨S.w1.trans S.w0.symm,?_⟩
     rw[S.w0];exact Bool.and_false _
  have hp: ∀ l:List Pt,(l=[]\/UR l)->JP (l.map ptK)=JP l/\(decide (((l.length:Nat):Int)>0)&&(JP l).2 != 0)=false:=by
    rintro l (rfl | h1)
    ·exact⟨rfl,rfl⟩
    ·have P:=PD h1
     refine⟨P.w1.trans P.w0.symm,?_⟩
     rw[P.w0];exact Bool.and_false _
  obtain⟨p1,p2⟩:=hp pt h.pt
  obtain⟨f1,f2⟩:=hp fr h.fr
  have hl:=AgB (c:=false) (l:=na) h.na.2
  constructor
  ·unfold inK Ez
   dsimp only
   rw[hs.1,p1,f1,hl,Am0,Am0,Am0]
  ·unfold Ez pG
   simp only[List.any_cons,List.any_nil,Bool.and_false,Bool.false_or,Bool.or_false]
   rw[hs.2,p2,f2];rfl
theorem gU {x:Info} (h:OkI x):encI x=((Ir x).map (Gf x),0):=by
  unfold encI
  rw[Aoi h,(ApA h []).2,Aks];rfl
theorem Apd {N:Nat} (hN:1048578<N) {x:Info} (h:OkI x):Ec N (encI x).1=some (inK x (GR x),0):=by
  obtain⟨M,rfl⟩: ∃ M,N=M+70:=⟨N - 70,by omega⟩
  have hp:part x (fun i=>decide (i∈Ir x)) (unP x (Ir x))=inK x (GR x):=by
    rw[Akt,Tv (fun i hi=>AgA x hi)];exact AeG h _
  rw[gU h]
  rw[<- hp]
  exact gG M hN h (Ir x) (Aes x) (AbB x) (by have:=AaI h;omega) (by rw[hp];exact AgK h (kH h.un).1) (by rw[hp];exact Ael h (kH h.un).1)
theorem AnU {N:Nat} (hN:1048578<N) {x:Info} (h:OkI x):Ec N (encI x).1.reverse=some (inK x (GR x).reverse,0):=by
  obtain⟨M,rfl⟩: ∃ M,N=M+70:=⟨N - 70,by omega⟩
  have hp:part x (fun i=>decide (i∈(Ir x).reverse)) (unP x (Ir x).reverse)=inK x (GR x).reverse:=by
    rw[Aoj,Tv (T:=hasK x) (fun i hi=>by rw[<- AgA x hi];simp only[List.mem_reverse])];exact AeG h _
  rw[gU h]
  show Ec _ ((Ir x).map (Gf x)).reverse=_
  rw[<- hp,<- List.map_reverse]
  exact gG M hN h (Ir x).reverse (fun i hi=>Aes x i (List.mem_reverse.1 hi)) (List.pairwise_reverse.2 ((AbB x).imp Ne.symm)) (by have:=AaI h;rw[List.length_reverse];omega) (by rw[hp];exact AgK h (kH h.un).2) (by rw[hp];exact Ael h (kH h.un).2)
theorem Amj {α :Type} (p: α ->Bool): ∀(l:List α) (b:Bool),l.foldl (fun s x=>s||p x) b=(b||l.any p):=by
  intro l
  induction l with
  | nil=>intro b;simp
  | cons x r ih=>intro b;rw[List.foldl_cons,ih,List.any_cons,Bool.or_assoc]
theorem Afp (N:Nat) (n m:List (List Att)) (hN:1048578<N) (hl:m.length=n.length) (hn:n.length<=1048576) (h: ∀ i,i<n.length->Adw (n.getD i []) (m.getD i [])=true/\(n.getD i []).length<=1048576):Ei N n m=some true:=by
  unfold Ei
  try simp only[clR]
  rw[Nb (by rw[hl]),cond_false]
  refine Hy (fun i=>((i:Int),n,m)) n.length (some true) ?_ ?_ N (by omega)
  ·intro i hi k
   obtain⟨h1,h2⟩:=h i hi
   unfold Adw at h1
   rw[Bool.and_eq_true,beq_iff_eq,List.all_eq_true]at h1
   obtain⟨h3,h4⟩:=h1
   have him:i<m.length:=by omega
   dsimp only[U3]
   simp (disch:=first | assumption | omega) only[Aq,Nb (show(((n.getD i []).length:Nat):Int)=(((m.getD i []).length:Nat):Int) by rw[h3])]
   refine Hy (fun j=>((j:Int),n,m)) (n.getD i []).length (k (((i+1:Nat):Int),n,m)) ?_ ?_ N (by omega)
   ·intro j hj k2
    have ha:=h4 _ (getD_mem ([],0,[]) hj)
    simp (disch:=first | assumption | omega) only[Aq]
    generalize (n.getD i []).getD j ([],0,[])=a at *
    refine(Uz (S:=Bool) (fun q b=>(b,(q:Int),n,m,a.1,a.2.1,a.2.2)) (m.getD i []).length (fun q b=>b||(a.1==((m.getD i []).getD q ([],0,[])).1&&(a.2.1==((m.getD i []).getD q ([],0,[])).2.1&&(a.2.2==((m.getD i []).getD q ([],0,[])).2.2&&true)))) (fun b=>bif !b then some false else k2 (((j+1:Nat):Int),n,m)) ?_ ?_ N false (by omega)).trans ?_
    ·intro q b hq k3
     simp (disch:=first | assumption | omega) only[Aq]
     rfl
    ·intro b k3
     simp (disch:=first | assumption | omega) only[Aq]
     rfl
    ·rw[Amj,Bool.false_or]
     obtain⟨b,hb,hb2⟩:=List.any_eq_true.1 ha
     obtain⟨q,hq,rfl⟩:=List.mem_iff_getElem.1 hb
     rw[List.any_eq_true.2 ⟨q,List.mem_range.2 hq,by rw[getD_lt (m.getD i []) q _ hq];exact hb2⟩]
     rfl
   ·intro k2
    simp (disch:=first | assumption | omega) only[Aq]
    rfl
  ·intro k
   simp (disch:=first | assumption | omega) only[Aq]
theorem uO (N:Nat) {n:List (List Att)} (hN:1048578<N) (hn:okN n):Ei N n (nmC n)=some true:=by
  refine Afp N n (nmC n) hN (List.length_map _) (by have:=hn.1;omega) fun i hi=> ?_
  have hr:=Xl (hn.2 _ (getD_mem [] hi))
  have hm:(nmC n).getD i []=QA (n.getD i []):=UI QA n [] [] hi
  rw[hm]
  refine⟨hr.same,?_⟩
  have:(QN.all fun r=>decide (r.length<=2))=true:=by kernel_rfl
  have:=of_decide_eq_true (List.all_eq_true.1 this _ (hn.2 _ (getD_mem [] hi)))
  omega
theorem LP (N:Nat) {c:Bool} {l:List Gn} (hN:1048578<N) (hl:l.length<=1048576) (h: ∀ g∈l,okG c g):CG N l (l.map gnK)=some true:=by
  have hL:(l.map gnK).length=l.length:=List.length_map _
  unfold CG
  try simp only[clR]
  rw[Nb (by rw[hL]),cond_false]
  refine Hy (fun i=>(i:Int)) l.length (some true) ?_ ?_ N (by omega)
  ·intro i hi k
   have h1:=uO N hN (EK (h _ (getD_mem (0,[],[]) hi))).nm
   have hm:=UI gnK l (0,[],[]) (0,[],[]) hi
   have him:i<(l.map gnK).length:=by omega
   generalize l.map gnK=m at *
   simp (disch:=first | assumption | omega) only[Aq,hm]
   generalize l.getD i (0,[],[])=g at *
   unfold gnK
   simp only[h1,beq_self_eq_true,bne_self_eq_false,Option.isSome_some,Option.getD_some,Bool.true_or,Bool.or_true,A8,Bool.not_true,Bool.not_false,cond_false,cond_true,Bool.or_false]
   rfl
  ·intro k
   simp (disch:=first | assumption | omega) only[Aq]
theorem O7 (N:Nat) {l:List Pt} (hN:1048578<N) (hl:l.length<=1048576) (h: ∀ p∈l,okP p):Dp N l (l.map ptK)=some true:=by
  have hL:(l.map ptK).length=l.length:=List.length_map _
  unfold Dp
  try simp only[clR]
  rw[Nb (by rw[hL]),cond_false]
  refine Hy (fun i=>(i:Int)) l.length (some true) ?_ ?_ N (by omega)
  ·intro i hi k
   have hp:=h _ (getD_mem ([],0,false,[]) hi)
   have hm:=UI ptK l ([],0,false,[]) ([],0,false,[]) hi
   have him:i<(l.map ptK).length:=by omega
   generalize l.map ptK=m at *
   have h1:CG N (l.getD i ([],0,false,[])).1 ((l.getD i ([],0,false,[])).1.map gnK)=some true:=by
     obtain⟨g,hg,e⟩:=hp.nm
     rw[e]
     exact LP N (c:=false) (l:=[g]) hN (by show 1<=_;omega) fun x hx=>by rw[List.mem_singleton.1 hx];exact hg
   have h2:Ei N (l.getD i ([],0,false,[])).2.2.2 (nmC (l.getD i ([],0,false,[])).2.2.2)=some true:=by
     refine uO N hN ?_
     rcases hp.is with ⟨_,e⟩ | ⟨_,e,_⟩
     ·rw[e];exact⟨Nat.zero_le _,fun r hr=>by cases hr⟩
     ·exact e
   simp (disch:=first | assumption | omega) only[Aq,hm]
   generalize l.getD i ([],0,false,[])=p at *
   unfold ptK
   simp only[h1,h2,Ae,beq_self_eq_true,bne_self_eq_false,Option.isSome_some,Option.getD_some,Bool.true_or,Bool.or_true,A8,Bool.not_true,Bool.not_false,cond_false,cond_true,Bool.or_false,kW]
   rfl
  ·intro k
   simp (disch:=first | assumption | omega) only[Aq]
theorem TR (N:Nat) (l:List Bs) (hN:1048578<N) (hl:l.length<=1048576):Ew N l l=some true:=by
  unfold Ew
  try simp only[clR]
  rw[Nb rfl,cond_false]
  refine Hy (fun i=>(i:Int)) l.length (some true) ?_ ?_ N (by omega)
  ·intro i hi k
   simp (disch:=first | assumption | omega) only[Aq,BJ,beq_self_eq_true]
  ·intro k
   simp (disch:=first | assumption | omega) only[Aq]
theorem nM (N:Nat) (l:List (Bs×Bs)) (hN:1048578<N) (hl:l.length<=1048576):G7 N l l=some true:=by
  unfold G7
  try simp only[clR]
  rw[Nb rfl,cond_false]
  refine Hy (fun i=>(i:Int)) l.length (some true) ?_ ?_ N (by omega)
  ·intro i hi k
   simp (disch:=first | assumption | omega) only[Aq,BJ,beq_self_eq_true]
  ·intro k
   simp (disch:=first | assumption | omega) only[Aq]
theorem aU (N:Nat) (l:List Ex) (hN:1048578<N) (hl:l.length<=1048576):Ej N l l=some true:=by
  unfold Ej
  try simp only[clR]
  rw[Nb rfl,cond_false]
  refine Hy (fun i=>(i:Int)) l.length (some true) ?_ ?_ N (by omega)
  ·intro i hi k
   simp (disch:=first | assumption | omega) only[Aq,BJ,beq_self_eq_true]
  ·intro k
   simp (disch:=first | assumption | omega) only[Aq]
theorem AgQ (N:Nat) {x:Info} (hN:1048578<N) (h:OkI x):Em N x (inK x (GR x))=some true:=by
  have hun:=Afm h
  obtain⟨hb,ca,pl,us,pu,po,ma,re,im,ia,na,hc,pe,ex,sk,ak,pt,fr,un⟩:=x
  have hun:un.length<=2:=hun
  have s1:=TR N pu hN (by have:=h.pu.len;dsimp only at this;omega)
  have s2:=TR N po hN (by have:=h.po.len;dsimp only at this;omega)
  have s3:=nM N ma hN (by have:=h.ma.len;dsimp only at this;omega)
  have s4:=LP N (c:=false) (l:=na) hN (by have:=h.na.1;dsimp only at this;omega) h.na.2
  have s5:G6 N (pe,ex) (pe.map gnK,ex.map gnK)=some true:=by
    have hs:pe.length<=3/\ex.length<=3/\(∀ g∈pe,okG true g)/\ ∀ g∈ex,okG true g:=by
      rcases h.con with ⟨_,h1,h2⟩ | ⟨_,h1⟩
      ·dsimp only at h1 h2
       rw[h1,h2]
       exact⟨Nat.zero_le _,Nat.zero_le _,fun g hg=>(by cases hg),fun g hg=>(by cases hg)⟩
      ·exact⟨h1.l0,h1.l1,h1.a0,h1.a1⟩
    have a1:=LP N (c:=true) (l:=pe) hN (by omega) hs.2.2.1
    have a2:=LP N (c:=true) (l:=ex) hN (by omega) hs.2.2.2
    unfold G6
    simp only[a1,a2,Ae,Bool.true_or,A8,Option.isSome_some,Option.getD_some,cond_true]
  have s6: ∀ l,(l=[]\/UR l)->Dp N l (l.map ptK)=some true:=by
    rintro l (rfl | h1)
    ·exact O7 N (l:=[]) hN (Nat.zero_le _) fun p hp=>by cases hp
    ·exact O7 N hN (by have:=h1.len;omega) h1.all
  have s7:=s6 pt h.pt
  have s8:=s6 fr h.fr
  have s9:=aU N un hN (by omega)
  have s9':Ej N un (GR (hb,ca,pl,us,pu,po,ma,re,im,ia,na,hc,pe,ex,sk,ak,pt,fr,un))=some true:=s9
  unfold Em inK
  simp only[Aj,beq_self_eq_true,cond_true,A8,Bool.true_or,Option.isSome_some,Option.getD_some,s1,s2,s3,s4,s5,s7,s8,s9']
def Ends {α :Type} (Q: α ->Prop) (o:Option α):Prop:= ∃ v,o=some v/\Q v
theorem DC {α :Type} {Q: α ->Prop} {v: α} (h:Q v):Ends Q (some v):=⟨v,rfl,h⟩
theorem AQ {α ρ :Type} [Inhabited α] {P: α ->Prop} {Q: ρ ->Prop} {o:Option α} {k: α ->Option ρ} (h:Ends P o) (hk: ∀ v,P v->Ends Q (k v)):Ends Q (Ac o k):=by
  obtain⟨v,rfl,hv⟩:=h
  exact hk v hv
theorem AX {ρ :Type} {Q: ρ ->Prop} {c:Bool} {k:Option ρ} (h:c=true) (hk:Ends Q k):Ends Q (Vm.chk c k):=by rw[h];exact hk
theorem BA {ρ :Type} {Q: ρ ->Prop} {c:Bool} {x y:Option ρ} (h1:c=true->Ends Q x) (h2:c=false->Ends Q y):Ends Q (bif c then x else y):=by
  cases c with
  | true=>exact h1 rfl
  | false=>exact h2 rfl
theorem iL {α ρ :Type} {P: α ->Prop} {Q: ρ ->Prop} {A:(α ->Option ρ)->Option ρ} {f: α ->Option ρ} (hA: ∀ j: α ->Option ρ,(∀ x,P x->Ends Q (j x))->Ends Q (A j)) (hf: ∀ x,P x->Ends Q (f x)):Ends Q (Ho A f):=hA f hf
theorem Hw {X Y ρ :Type} {B:X->(X->Option ρ)->(Y->Option ρ)->Option ρ} {kx:Y->Option ρ} {Q: ρ ->Prop} (I:X->Prop) (μ :X->Nat)
    (h: ∀ x,I x-> ∀ k:X->Option ρ,(∀ x',I x'-> μ x'< μ x->Ends Q (k x'))->Ends Q (B x k kx)) (N:Nat) (x:X) (hI:I x) (hm: μ x<N):Ends Q (Am B N x kx):=AhS I μ (Ends Q) h N x hI hm
def BV (L:List Int) (d:List Int×Int):Prop:= ∃ k:Nat,d=(L,(k:Int))/\k<=L.length
theorem Ak9 (N:Nat) {L:List Int} (hL:L.length<=9223372036854775807) {d:List Int×Int} (hd:BV L d) (n:Nat) (hn:0<n) (hn':n<2147483648) :
    Ends (fun r=>0<=r.1/\r.1<(n:Int)/\BV L r.2) (Az N d (n:Int)):=by
  obtain⟨k,rfl,hk⟩:=hd
  unfold Az
  dsimp only
  by_cases h:k<L.length
  ·rw[X0,if_neg (by omega),w64 (x:=(k:Int)+1) (by omega) (by omega),w64 (x:=(k:Int)+1 - 1) (by omega) (by omega),fQ,if_pos (by omega),fQ,if_pos (by omega)]
   generalize L.getD _ _=x
   have hne:((n:Int) != 0)=true:=by simp;omega
   rw[hne,A8,A8]
   have h1:=Int.tmod_lt_of_pos x (show(0:Int)<(n:Int) by omega)
   have h2: -(n:Int)<x.tmod (n:Int):=Int.lt_tmod_of_pos x (by omega)
   rw[w64 (x:=x.tmod (n:Int)+(n:Int)) (by omega) (by omega)]
   have h3:0<=(x.tmod (n:Int)+(n:Int)).tmod (n:Int):=Int.tmod_nonneg _ (by omega)
   have h4:=Int.tmod_lt_of_pos (x.tmod (n:Int)+(n:Int)) (show(0:Int)<(n:Int) by omega)
   refine⟨_,rfl,h3,h4,k+1,by rw[show((k+1:Nat):Int)=(k:Int)+1 by omega],h⟩
  ·rw[X0,if_pos (by omega)]
   exact⟨_,rfl,Int.le_refl _,by show(0:Int)<n;omega,k,rfl,hk⟩
theorem GM {α :Type} {P: α ->Prop} {l:List α} {d: α} {i:Int} (h: ∀ x∈l,P x) (h0:0<=i) (hi:i<(l.length:Int)):P (l.getD i.toNat d):=h _ (getD_mem d (by omega))
section
variable (N:Nat) (hN:1048578<N) {L:List Int} (hL:L.length<=9223372036854775807)
include hL
theorem nx {d:List Int×Int} (hd:BV L d) (n:Int) (h0:0<n) (h1:n<2147483648):Ends (fun r=>0<=r.1/\r.1<n/\BV L r.2) (Az N d n):=by
  have:=Ak9 N hL hd n.toNat (by omega) (by omega)
  rw[show((n.toNat:Nat):Int)=n by omega]at this
  exact this
def AoV (a:Att):Prop:=a.1.length<=40/\a.2.2.length<=40
instance (a:Att):Decidable (AoV a):=by unfold AoV;infer_instance
include hN in
end
end Go.Proofs.YtadefjgbcapakaaGreatDoor.Pl
namespace Go.Proofs.YtadefjgbcapakaaGreatDoor.Pl
open IntKind (i64)
open Go Vm
theorem Aii {a:Att} (h:a∈QE): [a]∈QN:=List.mem_append_left _ (List.mem_append_left _ (List.mem_map.2 ⟨a,h,rfl⟩))
theorem Am9 {a b:Att} (h:a∈QE) (hb:b∈QE) (hn:b.1≠a.1): [a,b]∈QN :=
  List.mem_append_left _ (List.mem_append_right _ (List.mem_flatMap.2 ⟨a,h,List.mem_map.2 ⟨b,List.mem_filter.2 ⟨hb,by simpa using Ne.symm hn⟩,rfl⟩⟩))
theorem Q5 {α :Type} {P: α ->Prop} {l:List α} {x: α} (h: ∀ y∈l,P y) (hx:P x): ∀ y∈l++[x],P y:=by
  intro y hy
  rcases List.mem_append.1 hy with hy | hy
  ·exact h y hy
  ·rw[List.mem_singleton.1 hy];exact hx
section
variable (N:Nat) (hN:1048578<N) {L:List Int} (hL:L.length<=9223372036854775807)
include hL
theorem Ad5 {d:List Int×Int} (hd:BV L d):Ends (fun r=>r.1∈QE/\BV L r.2) (MH N d):=by
  unfold MH
  refine AQ (nx N hL hd 12 (by omega) (by omega)) ?_
  rintro ⟨r,d'⟩ ⟨h0,h1,h2⟩
  dsimp only at h0 h1 h2 ⊢
  refine AX (by simp;omega) (AX (by simp;omega) (AX (by simp;omega) (DC ⟨?_,h2⟩)))
  exact GM (P:=fun x=>x∈QE) (fun x hx=>hx) h0 h1
include hN in
theorem AgC {d:List Int×Int} (hd:BV L d):Ends (fun r=>okN r.1/\BV L r.2) (Ru N d):=by
  unfold Ru
  try simp only[clR]
  refine AQ (nx N hL hd 4 (by omega) (by omega)) ?_
  rintro ⟨r,d1,d2⟩ ⟨h0,h1,h2⟩
  dsimp only at h0 h1 h2 ⊢
  refine Hw (fun x=>0<=x.1/\x.1<4/\BV L (x.2.1,x.2.2.1)/\((x.2.2.2.length:Int)+x.1<=3)/\ ∀ r∈x.2.2.2,r∈QN) (fun x=>x.1.toNat) ?_ N _ ⟨h0,h1,h2,by simp;omega,fun r hr=>by cases hr⟩ (by dsimp only;omega)
  rintro ⟨t,a,b,acc⟩ ⟨g0,g1,g2,g3,g4⟩ k hk
  dsimp only[U4]at g0 g1 g2 g3 g4 ⊢
  refine BA (fun ht=> ?_) (fun _=> ?_)
  ·have ht:=of_decide_eq_true ht
   refine AQ (nx N hL g2 5 (by omega) (by omega)) ?_
   rintro ⟨r,e1,e2⟩ ⟨f0,f1,f2⟩
   dsimp only at f0 f1 f2 ⊢
   have hw:i64.wrap (1+i64.wrap (r.tdiv 4))<=2/\1<=i64.wrap (1+i64.wrap (r.tdiv 4)):=by
     have:r=0\/r=1\/r=2\/r=3\/r=4:=by omega
     rcases this with rfl | rfl | rfl | rfl | rfl<;>decide
   refine Hw (fun x=>0<=x.1/\x.1<=2/\BV L (x.2.1,x.2.2.1)/\((x.2.2.2.1.length:Int)+x.1<=2)/\((x.2.2.2.1=[]/\1<=x.1)\/(∃ y∈QE,x.2.2.2.1=[y])\/(x.2.2.2.1.length=2/\x.2.2.2.1∈QN))/\x.2.2.2.2=acc) (fun x=>x.1.toNat) ?_ N _ ⟨by dsimp only;omega,hw.1,f2,by simp;omega,Or.inl ⟨rfl,hw.2⟩,rfl⟩ (by dsimp only;omega)
   rintro ⟨t',a',b',acc',out⟩ ⟨p0,p1,p2,p3,p4,p5⟩ k' hk'
   dsimp only[U5]at p0 p1 p2 p3 p4 p5 ⊢
   subst p5
   refine BA (fun ht'=> ?_) (fun ht'=> ?_)
   ·have ht':=of_decide_eq_true ht'
    refine AQ (Ad5 N hL p2) ?_
    rintro ⟨r,q1,q2⟩ ⟨z0,z1⟩
    dsimp only at z0 z1 ⊢
    have taut:(decide ((0:Int)<(acc'.length:Int))||((acc'.length:Nat):Int)==0)=true:=by
      cases acc' with
      | nil=>rfl
      | cons x y=>rw[decide_eq_true (by rw[List.length_cons];omega)];rfl
    have Ady:(decide (0<acc'.length)||((acc'.length:Nat):Int)==0)=true:=by
      cases acc' with
      | nil=>rfl
      | cons x y=>rw[decide_eq_true (by rw[List.length_cons];omega)];rfl
    refine AX (by first | exact taut | exact Ady) (AX (by first | exact taut | exact Ady) (AX (by first | exact taut | exact Ady) ?_))
    have p4':acc'=[]\/ ∃ y∈QE,acc'=[y]:=by
      rcases p4 with ⟨h,_⟩ | h | ⟨h,_⟩
      ·exact Or.inl h
      ·exact Or.inr h
      ·rw[h]at p3;omega
    refine BA (fun hc=> ?_) (fun hc=> ?_)
    ·refine AX (decide_eq_true (by omega)) (hk' _ ⟨?_,?_,z1,?_,?_,rfl⟩ ?_)
     ·dsimp only;rw[w64 (by omega) (by omega)];omega
     ·dsimp only;rw[w64 (by omega) (by omega)];omega
     ·dsimp only;rw[w64 (by omega) (by omega),List.length_append];simp;omega
     ·dsimp only
      rcases p4' with rfl | ⟨y,hy,rfl⟩
      ·exact Or.inr (Or.inl ⟨r,z0,rfl⟩)
      ·refine Or.inr (Or.inr ⟨rfl,Am9 hy z0 fun e=> ?_⟩)
       rw[e]at hc
       simp at hc
     ·dsimp only;rw[w64 (by omega) (by omega)];omega
    ·refine hk' _ ⟨?_,?_,z1,?_,?_,rfl⟩ ?_
     ·dsimp only;rw[w64 (by omega) (by omega)];omega
     ·dsimp only;rw[w64 (by omega) (by omega)];omega
     ·dsimp only;rw[w64 (by omega) (by omega)];omega
     ·dsimp only
      rcases p4' with rfl | h
      ·simp at hc
      ·exact Or.inr (Or.inl h)
     ·dsimp only;rw[w64 (by omega) (by omega)];omega
   ·have ht':=of_decide_eq_false ht'
    dsimp only[U4]
    have hin:acc'∈QN:=by
      rcases p4 with ⟨_,h⟩ | ⟨y,hy,rfl⟩ | ⟨_,h⟩
      ·omega
      ·exact Aii hy
      ·exact h
    refine AX (decide_eq_true (by omega)) (hk _ ⟨?_,?_,p2,?_,Q5 g4 hin⟩ ?_)
    ·dsimp only;rw[w64 (by omega) (by omega)];omega
    ·dsimp only;rw[w64 (by omega) (by omega)];omega
    ·dsimp only;rw[w64 (by omega) (by omega),List.length_append];simp;omega
    ·dsimp only;rw[w64 (by omega) (by omega)];omega
  ·dsimp only[U3]
   exact DC ⟨⟨by dsimp only;omega,g4⟩,g2⟩
omit hL
def nmQ (o:Option (List (List Att))):Bool:=match o with
  | some n=>decide (n.length<=3)&& !n.isEmpty&&n.all fun r=>QN.contains r
  | none=>false
theorem Afw (M:Nat): ∀ k:Fin 16,nmQ (Jw (M+70) (k.val:Int))=true:=of_decide_eq_true (by kernel_rfl)
include hN in
theorem Ad7 {k:Int} (h0:0<=k) (h1:k<16):Ends (fun n=>okN n/\n≠ []) (Jw N k):=by
  obtain⟨M,rfl⟩: ∃ M,N=M+70:=⟨N - 70,by omega⟩
  have h:=Afw M ⟨k.toNat,by omega⟩
  rw[show(((⟨k.toNat,by omega⟩:Fin 16).val:Nat):Int)=k from Int.toNat_of_nonneg h0]at h
  cases ho:Jw (M+70) k with
  | none=>rw[ho]at h;cases h
  | some n =>
    rw[ho]at h
    simp only[nmQ,Bool.and_eq_true,decide_eq_true_eq,Bool.not_eq_true',List.all_eq_true,List.contains_iff_mem]at h
    exact⟨n,rfl,⟨h.1.1,h.2⟩,fun e=>by rw[e]at h;cases h.1.2⟩
include hN hL
theorem Zn {d:List Int×Int} (hd:BV L d):Ends (fun r=>okG false r.1/\BV L r.2) (Jy N d):=by
  have hT: ∀(l:List Bs) (k:Int),l.all (fun s=>Afi.contains (k,s,[]))=true-> ∀ s∈l,okG false (k,s,[]):=fun l k h s hs=>Or.inl (List.contains_iff_mem.1 (List.all_eq_true.1 h s hs))
  unfold Jy
  try simp only[clR]
  refine AQ (nx N hL hd 4 (by omega) (by omega)) ?_
  rintro ⟨r,d'⟩ ⟨h0,h1,h2⟩
  dsimp only at h0 h1 h2 ⊢
  refine BA (fun _=> ?_) (fun _=>BA (fun _=> ?_) (fun _=>BA (fun _=> ?_) (fun _=> ?_)))
  ·refine AQ (nx N hL h2 6 (by omega) (by omega)) ?_
   rintro ⟨r,d'⟩ ⟨h0,h1,h2⟩
   dsimp only at h0 h1 h2 ⊢
   refine AX (decide_eq_true (by omega)) (AX (decide_eq_true (by omega)) (AX (decide_eq_true (by omega)) (DC ⟨GM (P:=fun s=>okG false (1,s,[])) (hT _ 1 (by kernel_rfl)) h0 h1,h2⟩)))
  ·refine AQ (nx N hL h2 7 (by omega) (by omega)) ?_
   rintro ⟨r,d'⟩ ⟨h0,h1,h2⟩
   dsimp only at h0 h1 h2 ⊢
   refine AX (decide_eq_true (by omega)) (AX (decide_eq_true (by omega)) (AX (decide_eq_true (by omega)) (DC ⟨GM (P:=fun s=>okG false (2,s,[])) (hT _ 2 (by kernel_rfl)) h0 h1,h2⟩)))
  ·refine AQ (nx N hL h2 4 (by omega) (by omega)) ?_
   rintro ⟨r,d'⟩ ⟨h0,h1,h2⟩
   dsimp only at h0 h1 h2 ⊢
   refine AX (decide_eq_true (by omega)) (AX (decide_eq_true (by omega)) (AX (decide_eq_true (by omega)) (DC ⟨GM (P:=fun s=>okG false (7,s,[])) (hT _ 7 (by kernel_rfl)) h0 h1,h2⟩)))
  ·refine AQ (AgC N hN hL h2) ?_
   rintro ⟨n,d'⟩ ⟨g0,g1⟩
   exact DC ⟨Or.inr ⟨n,g0,rfl⟩,g1⟩
theorem Aac {d:List Int×Int} (hd:BV L d):Ends (fun r=>okG true r.1/\BV L r.2) (Ou N d):=by
  have hT: ∀(l:List Bs) (k:Int),l.all (fun s=>Ad9.contains (k,s,[]))=true-> ∀ s∈l,okG true (k,s,[]):=fun l k h s hs=>Or.inl (List.contains_iff_mem.1 (List.all_eq_true.1 h s hs))
  unfold Ou
  try simp only[clR]
  refine AQ (nx N hL hd 4 (by omega) (by omega)) ?_
  rintro ⟨r,d'⟩ ⟨h0,h1,h2⟩
  dsimp only at h0 h1 h2 ⊢
  refine BA (fun _=> ?_) (fun _=>BA (fun _=> ?_) (fun _=>BA (fun _=> ?_) (fun _=> ?_)))
  ·refine AQ (nx N hL h2 7 (by omega) (by omega)) ?_
   rintro ⟨r,d'⟩ ⟨h0,h1,h2⟩
   dsimp only at h0 h1 h2 ⊢
   refine AX (decide_eq_true (by omega)) (AX (decide_eq_true (by omega)) (AX (decide_eq_true (by omega)) (DC ⟨GM (P:=fun s=>okG true (1,s,[])) (hT _ 1 (by kernel_rfl)) h0 h1,h2⟩)))
  ·refine AQ (nx N hL h2 7 (by omega) (by omega)) ?_
   rintro ⟨r,d'⟩ ⟨h0,h1,h2⟩
   dsimp only at h0 h1 h2 ⊢
   refine AX (decide_eq_true (by omega)) (AX (decide_eq_true (by omega)) (AX (decide_eq_true (by omega)) (DC ⟨GM (P:=fun s=>okG true (2,s,[])) (hT _ 2 (by kernel_rfl)) h0 h1,h2⟩)))
  ·refine AQ (nx N hL h2 5 (by omega) (by omega)) ?_
   rintro ⟨r,d'⟩ ⟨h0,h1,h2⟩
   dsimp only at h0 h1 h2 ⊢
   refine AX (decide_eq_true (by omega)) (AX (decide_eq_true (by omega)) (AX (decide_eq_true (by omega)) (DC ⟨GM (P:=fun s=>okG true (7,s,[])) (hT _ 7 (by kernel_rfl)) h0 h1,h2⟩)))
  ·refine AQ (AgC N hN hL h2) ?_
   rintro ⟨n,d'⟩ ⟨g0,g1⟩
   exact DC ⟨Or.inr ⟨n,g0,rfl⟩,g1⟩
theorem Agd {d:List Int×Int} (hd:BV L d):Ends (fun r=>okS r.1/\BV L r.2) (NH N d):=by
  unfold NH
  try simp only[clR]
  refine AQ (nx N hL hd 4 (by omega) (by omega)) ?_
  rintro ⟨r,d1,d2⟩ ⟨h0,h1,h2⟩
  dsimp only at h0 h1 h2 ⊢
  refine Hw (fun x=>0<=x.1/\x.1<4/\BV L (x.2.1,x.2.2.1)/\((x.2.2.2.length:Int)+x.1<=3)/\ ∀ g∈x.2.2.2,okG true g) (fun x=>x.1.toNat) ?_ N _ ⟨h0,h1,h2,by simp;omega,(fun r hr=>by cases hr)⟩ (by dsimp only;omega)
  rintro ⟨t,a,b,acc⟩ ⟨g0,g1,g2,g3,g4⟩ k hk
  dsimp only[U4]at g0 g1 g2 g3 g4 ⊢
  refine BA (fun ht=> ?_) (fun _=> ?_)
  ·have ht:=of_decide_eq_true ht
   refine AQ (Aac N hN hL g2) ?_
   rintro ⟨g,e1,e2⟩ ⟨f0,f1⟩
   dsimp only at f0 f1 ⊢
   refine AX (decide_eq_true (by omega)) (hk _ ⟨?_,?_,f1,?_,Q5 g4 f0⟩ ?_)
   ·dsimp only;rw[w64 (by omega) (by omega)];omega
   ·dsimp only;rw[w64 (by omega) (by omega)];omega
   ·dsimp only;rw[w64 (by omega) (by omega),List.length_append];simp;omega
   ·dsimp only;rw[w64 (by omega) (by omega)];omega
  ·dsimp only[U3]
   refine AQ (nx N hL g2 3 (by omega) (by omega)) ?_
   rintro ⟨r,e1,e2⟩ ⟨f0,f1,f2⟩
   dsimp only at f0 f1 f2 ⊢
   refine Hw (fun x=>0<=x.1/\x.1<3/\BV L (x.2.1,x.2.2.1)/\x.2.2.2.1=acc/\((x.2.2.2.2.length:Int)+x.1<=2)/\ ∀ g∈x.2.2.2.2,okG true g) (fun x=>x.1.toNat) ?_ N _ ⟨f0,f1,f2,rfl,by simp;omega,(fun r hr=>by cases hr)⟩ (by dsimp only;omega)
   rintro ⟨t',a',b',acc',out⟩ ⟨p0,p1,p2,p3,p4,p5⟩ k' hk'
   dsimp only[U5]at p0 p1 p2 p3 p4 p5 ⊢
   subst p3
   refine BA (fun ht'=> ?_) (fun _=> ?_)
   ·have ht':=of_decide_eq_true ht'
    refine AQ (Aac N hN hL p2) ?_
    rintro ⟨g,q1,q2⟩ ⟨z0,z1⟩
    dsimp only at z0 z1 ⊢
    refine AX (decide_eq_true (by omega)) (hk' _ ⟨?_,?_,z1,rfl,?_,Q5 p5 z0⟩ ?_)
    ·dsimp only;rw[w64 (by omega) (by omega)];omega
    ·dsimp only;rw[w64 (by omega) (by omega)];omega
    ·dsimp only;rw[w64 (by omega) (by omega),List.length_append];simp;omega
    ·dsimp only;rw[w64 (by omega) (by omega)];omega
   ·dsimp only[U4]
    refine BA (fun _=> ?_) (fun hc=>DC ⟨⟨by dsimp only;omega,by dsimp only;omega,?_,g4,p5⟩,p2⟩)
    ·refine AQ (Aac N hN hL p2) ?_
     rintro ⟨g,q1,q2⟩ ⟨z0,z1⟩
     dsimp only at z0 z1 ⊢
     refine AX (decide_eq_true (by omega)) (DC ⟨⟨by dsimp only;omega,?_,Or.inr (by simp),g4,Q5 p5 z0⟩,z1⟩)
     dsimp only
     rw[List.length_append];simp;omega
    ·dsimp only
     by_cases e1:acc'=[]
     ·refine Or.inr fun e2=> ?_
      subst e1 e2
      cases hc
     ·exact Or.inl e1
theorem AbR {d:List Int×Int} (hd:BV L d):Ends (fun r=>UR r.1/\BV L r.2) (Np N d):=by
  unfold Np
  try simp only[clR]
  refine AQ (nx N hL hd 3 (by omega) (by omega)) ?_
  rintro ⟨r,d1,d2⟩ ⟨h0,h1,h2⟩
  dsimp only at h0 h1 h2 ⊢
  rw[w64 (by omega) (by omega)]
  refine Hw (fun x=>0<=x.1/\x.1<4/\BV L (x.2.1,x.2.2.1)/\((x.2.2.2.length:Int)+x.1<=3)/\(x.2.2.2=[]->1<=x.1)/\ ∀ p∈x.2.2.2,okP p) (fun x=>x.1.toNat) ?_ N _ ⟨by dsimp only;omega,by dsimp only;omega,h2,by simp;omega,(fun _=>by dsimp only;omega),(fun r hr=>by cases hr)⟩ (by dsimp only;omega)
  rintro ⟨t,a,b,acc⟩ ⟨g0,g1,g2,g3,g5,g4⟩ k hk
  dsimp only[U4]at g0 g1 g2 g3 g4 g5 ⊢
  refine BA (fun ht=> ?_) (fun ht=>by dsimp only[U3];exact DC ⟨⟨fun e=>by have:=g5 e;have:=of_decide_eq_false ht;omega,by dsimp only;omega,g4⟩,g2⟩)
  have ht:=of_decide_eq_true ht
  refine AQ (Zn N hN hL g2) ?_
  rintro ⟨g,e⟩ ⟨f0,f1⟩
  refine AQ (nx N hL f1 6 (by omega) (by omega)) ?_
  rintro ⟨r6,e1,e2⟩ ⟨c0,c1,c2⟩
  dsimp only at c0 c1 c2 f0 ⊢
  refine AX (decide_eq_true (by omega)) (AX (decide_eq_true (by omega)) (AX (decide_eq_true (by omega)) ?_))
  have hr: [(0:Int),0,510,2,64,384].getD r6.toNat 0=0\/ [(0:Int),0,510,2,64,384].getD r6.toNat 0∈([510,2,64,384]:List Int):=GM (P:=fun x:Int=>x=0\/x∈([510,2,64,384]:List Int)) (by decide) c0 c1
  refine iL (P:=fun x=>BV L (x.1,x.2.1)/\x.2.2.1=[(0:Int),0,510,2,64,384].getD r6.toNat 0/\((x.2.2.2.1=false/\x.2.2.2.2.1=[])\/(x.2.2.2.1=true/\okN x.2.2.2.2.1/\x.2.2.2.2.1≠ []))/\x.2.2.2.2.2.1=[g]/\x.2.2.2.2.2.2=acc) (fun j hj=> ?_) ?_
  ·refine AQ (nx N hL c2 3 (by omega) (by omega)) ?_
   rintro ⟨r3,q1,q2⟩ ⟨z0,z1,z2⟩
   dsimp only at z0 z1 z2 ⊢
   refine BA (fun _=> ?_) (fun _=>hj _ ⟨z2,rfl,Or.inl ⟨rfl,rfl⟩,rfl,rfl⟩)
   refine AQ (nx N hL z2 16 (by omega) (by omega)) ?_
   rintro ⟨r3,q1,q2⟩ ⟨z0,z1,z2⟩
   dsimp only at z0 z1 z2 ⊢
   refine AQ (Ad7 N hN z0 z1) ?_
   intro n hn
   exact hj _ ⟨z2,rfl,Or.inr ⟨rfl,hn.1,hn.2⟩,rfl,rfl⟩
  ·rintro ⟨q1,q2,x1,x2,x3,x4,x5⟩ ⟨y1,y2,y3,y4,y5⟩
   dsimp only[U7]at y1 y2 y3 y4 y5 ⊢
   subst y2 y4 y5
   refine AX (decide_eq_true (by omega)) (hk _ ⟨?_,?_,y1,?_,?_,Q5 g4 ⟨⟨g,f0,rfl⟩,hr,y3⟩⟩ ?_)
   ·dsimp only;rw[w64 (by omega) (by omega)];omega
   ·dsimp only;rw[w64 (by omega) (by omega)];omega
   ·dsimp only;rw[w64 (by omega) (by omega),List.length_append];simp;omega
   ·intro e;simp at e
   ·dsimp only;rw[w64 (by omega) (by omega)];omega
end
end Go.Proofs.YtadefjgbcapakaaGreatDoor.Pl
namespace Go.Proofs.YtadefjgbcapakaaGreatDoor.Pl
open IntKind (i64)
open Go Vm
section
variable (N:Nat) (hN:1048578<N) {L:List Int} (hL:L.length<=9223372036854775807)
theorem jJ {k:Int} (h0:0<=k) (h1:k<9):Ends (fun s=>s∈Ii) (KD N k):=by
  unfold KD
  have h:k.tmod 9=k:=by
    have:k=0\/k=1\/k=2\/k=3\/k=4\/k=5\/k=6\/k=7\/k=8:=by omega
    rcases this with rfl | rfl | rfl | rfl | rfl | rfl | rfl | rfl | rfl<;>rfl
  rw[h]
  exact AX (decide_eq_true (by omega)) (AX (decide_eq_true (by omega)) (AX (decide_eq_true (by omega)) (DC (GM (P:=fun s=>s∈Ii) (fun s hs=>hs) h0 h1))))
theorem take_any {α :Type} (p: α ->Bool) {l:List α} {i:Nat} (hi:i<l.length) (d: α):(l.take (i+1)).any p=((l.take i).any p||p (l.getD i d)):=by
  rw[List.take_add_one,List.getElem?_eq_getElem hi,getD_lt l i d hi,List.any_append];simp
theorem AbK {α :Type} {l:List α} {x: α} (h:l.Nodup) (hx:x∉l):(l++[x]).Nodup:=by
  rw[List.nodup_append]
  refine⟨h,List.nodup_cons.2 ⟨List.not_mem_nil,List.nodup_nil⟩,fun a ha b hb=> ?_⟩
  rw[List.mem_singleton.1 hb]
  exact fun e=>hx (e▸ha)
include hN hL in
theorem AgE {d:List Int×Int} (p:Bool) (hd:BV L d):Ends (fun r=>(l7 (bif p then KJ else Ii) r.1)/\BV L r.2) (Rx N d p):=by
  unfold Rx
  try simp only[clR]
  refine AQ (nx N hL hd 3 (by omega) (by omega)) ?_
  rintro ⟨r,d1,d2⟩ ⟨h0,h1,h2⟩
  dsimp only at h0 h1 h2 ⊢
  rw[w64 (by omega) (by omega)]
  refine Hw (fun x=>0<=x.1/\x.1<4/\BV L (x.2.1,x.2.2.1)/\((x.2.2.2.length:Int)+x.1<=3)/\(∀ s∈x.2.2.2,s∈(bif p then KJ else Ii))/\x.2.2.2.Nodup) (fun x=>x.1.toNat) ?_ N _ ⟨by dsimp only;omega,by dsimp only;omega,h2,by simp;omega,(fun r hr=>by cases hr),List.nodup_nil⟩ (by dsimp only;omega)
  rintro ⟨t,a,b,acc⟩ ⟨g0,g1,g2,g3,g4,g5⟩ k hk
  dsimp only[U4]at g0 g1 g2 g3 g4 g5 ⊢
  refine BA (fun ht=> ?_) (fun _=>by dsimp only[U3];exact DC ⟨⟨by dsimp only;omega,g4,g5⟩,g2⟩)
  have ht:=of_decide_eq_true ht
  refine AQ (nx N hL g2 9 (by omega) (by omega)) ?_
  rintro ⟨r9,e1,e2⟩ ⟨c0,c1,c2⟩
  dsimp only at c0 c1 c2 ⊢
  refine AQ (jJ N c0 c1) ?_
  intro s hs
  refine iL (P:=fun x=>x.1∈(bif p then KJ else Ii)/\BV L (x.2.1,x.2.2.1)/\x.2.2.2=acc) (fun j hj=> ?_) ?_
  ·cases p with
   | false=>exact hj _ ⟨hs,c2,rfl⟩
   | true =>
     simp only[cond_true]
     refine AQ (nx N hL c2 5 (by omega) (by omega)) ?_
     rintro ⟨r3,q1,q2⟩ ⟨z0,z1,z2⟩
     dsimp only at z0 z1 z2 ⊢
     exact AX (decide_eq_true (by omega)) (AX (decide_eq_true (by omega)) (AX (decide_eq_true (by omega)) (hj _ ⟨GM (P:=fun s=>s∈KJ) (fun s hs=>hs) z0 z1,z2,rfl⟩)))
  ·rintro ⟨s,q1,q2,x⟩ ⟨y1,y2,y3⟩
   dsimp only at y1 y2 y3
   subst y3
   dsimp only[U4]
   refine Hw (fun z=>0<=z.2.1/\z.2.1<=(x.length:Int)/\BV L (z.2.2.1,z.2.2.2.1)/\z.2.2.2.2=x/\z.1=(x.take z.2.1.toNat).any (fun y=>s==y)) (fun z=>x.length - z.2.1.toNat) ?_ N _ ⟨Int.le_refl _,by dsimp only;omega,y2,rfl,rfl⟩ (by dsimp only;omega)
   rintro ⟨w1,i,a',b',x'⟩ ⟨p0,p1,p2,p3,p4⟩ k' hk'
   dsimp only[U5]at p0 p1 p2 p3 p4 ⊢
   subst p3
   refine BA (fun hi=> ?_) (fun hi=> ?_)
   ·have hi:=of_decide_eq_true hi
    refine AX (decide_eq_true (by omega)) (AX (decide_eq_true (by omega)) (AX (decide_eq_true (by omega)) (hk' _ ⟨?_,?_,p2,rfl,?_⟩ ?_)))
    ·dsimp only;rw[w64 (by omega) (by omega)];omega
    ·dsimp only;rw[w64 (by omega) (by omega)];omega
    ·dsimp only
     rw[w64 (by omega) (by omega),show(i+1).toNat=i.toNat+1 by omega,take_any _ (by omega) [],p4]
    ·dsimp only;rw[w64 (by omega) (by omega)];omega
   ·have hi:=of_decide_eq_false hi
    rw[List.take_of_length_le (by omega)]at p4
    dsimp only[U4]
    refine BA (fun hc=> ?_) (fun _=> ?_)
    ·have hnot:s∉x':=fun hm=>by
       rw[p4,List.any_eq_true.2 ⟨s,hm,beq_self_eq_true s⟩]at hc;cases hc
     refine AX (decide_eq_true (by omega)) (hk _ ⟨?_,?_,p2,?_,Q5 g4 y1,AbK g5 hnot⟩ ?_)
     ·dsimp only;rw[w64 (by omega) (by omega)];omega
     ·dsimp only;rw[w64 (by omega) (by omega)];omega
     ·dsimp only;rw[w64 (by omega) (by omega),List.length_append];simp;omega
     ·dsimp only;rw[w64 (by omega) (by omega)];omega
    ·refine hk _ ⟨?_,?_,p2,?_,g4,g5⟩ ?_
     ·dsimp only;rw[w64 (by omega) (by omega)];omega
     ·dsimp only;rw[w64 (by omega) (by omega)];omega
     ·dsimp only;rw[w64 (by omega) (by omega)];omega
     ·dsimp only;rw[w64 (by omega) (by omega)];omega
include hN hL in
theorem AfN {d:List Int×Int} (hd:BV L d):Ends (fun r=>Adp r.1/\BV L r.2) (NI N d):=by
  unfold NI
  try simp only[clR]
  refine AQ (nx N hL hd 3 (by omega) (by omega)) ?_
  rintro ⟨r,d1,d2⟩ ⟨h0,h1,h2⟩
  dsimp only at h0 h1 h2 ⊢
  rw[w64 (by omega) (by omega)]
  refine Hw (fun x=>0<=x.1/\x.1<4/\BV L (x.2.1,x.2.2.1)/\((x.2.2.2.length:Int)+x.1<=3)/\(∀ m∈x.2.2.2,m.1∈Ii/\m.2∈Ii)/\x.2.2.2.Nodup) (fun x=>x.1.toNat) ?_ N _ ⟨by dsimp only;omega,by dsimp only;omega,h2,by simp;omega,(fun r hr=>by cases hr),List.nodup_nil⟩ (by dsimp only;omega)
  rintro ⟨t,a,b,acc⟩ ⟨g0,g1,g2,g3,g4,g5⟩ k hk
  dsimp only[U4]at g0 g1 g2 g3 g4 g5 ⊢
  refine BA (fun ht=> ?_) (fun _=>by dsimp only[U3];exact DC ⟨⟨by dsimp only;omega,g4,g5⟩,g2⟩)
  have ht:=of_decide_eq_true ht
  refine AQ (nx N hL g2 9 (by omega) (by omega)) ?_
  rintro ⟨r9,e1,e2⟩ ⟨c0,c1,c2⟩
  dsimp only at c0 c1 c2 ⊢
  refine AQ (jJ N c0 c1) ?_
  intro s hs
  refine AQ (nx N hL c2 9 (by omega) (by omega)) ?_
  rintro ⟨r9,e1,e2⟩ ⟨c0,c1,c2⟩
  dsimp only at c0 c1 c2 ⊢
  refine AQ (jJ N c0 c1) ?_
  intro s2 hs2
  refine Hw (fun z=>0<=z.2.1/\z.2.1<=(acc.length:Int)/\BV L (z.2.2.1,z.2.2.2.1)/\z.2.2.2.2.1=s/\z.2.2.2.2.2.1=s2/\z.2.2.2.2.2.2=acc/\z.1=(acc.take z.2.1.toNat).any (fun y=>s==y.1&&(s2==y.2&&true))) (fun z=>acc.length - z.2.1.toNat) ?_ N _ ⟨Int.le_refl _,by dsimp only;omega,c2,rfl,rfl,rfl,rfl⟩ (by dsimp only;omega)
  rintro ⟨w1,i,a',b',s',s2',x'⟩ ⟨p0,p1,p2,p3,p4,p5,p6⟩ k' hk'
  dsimp only[U7]at p0 p1 p2 p3 p4 p5 p6 ⊢
  subst p3 p4 p5
  refine BA (fun hi=> ?_) (fun hi=> ?_)
  ·have hi:=of_decide_eq_true hi
   refine AX (decide_eq_true (by omega)) (AX (decide_eq_true (by omega)) (AX (decide_eq_true (by omega)) (hk' _ ⟨?_,?_,p2,rfl,rfl,rfl,?_⟩ ?_)))
   ·dsimp only;rw[w64 (by omega) (by omega)];omega
   ·dsimp only;rw[w64 (by omega) (by omega)];omega
   ·dsimp only
    rw[w64 (by omega) (by omega),show(i+1).toNat=i.toNat+1 by omega,take_any _ (by omega) ([],[]),p6]
   ·dsimp only;rw[w64 (by omega) (by omega)];omega
  ·have hi:=of_decide_eq_false hi
   rw[List.take_of_length_le (by omega)]at p6
   dsimp only[U6]
   refine BA (fun hc=> ?_) (fun _=> ?_)
   ·have hnot:(s',s2')∉x':=fun hm=>by
      rw[p6,List.any_eq_true.2 ⟨(s',s2'),hm,by simp⟩]at hc;cases hc
    refine AX (decide_eq_true (by omega)) (hk _ ⟨?_,?_,p2,?_,Q5 g4 ⟨hs,hs2⟩,AbK g5 hnot⟩ ?_)
    ·dsimp only;rw[w64 (by omega) (by omega)];omega
    ·dsimp only;rw[w64 (by omega) (by omega)];omega
    ·dsimp only;rw[w64 (by omega) (by omega),List.length_append];simp;omega
    ·dsimp only;rw[w64 (by omega) (by omega)];omega
   ·refine hk _ ⟨?_,?_,p2,?_,g4,g5⟩ ?_
    ·dsimp only;rw[w64 (by omega) (by omega)];omega
    ·dsimp only;rw[w64 (by omega) (by omega)];omega
    ·dsimp only;rw[w64 (by omega) (by omega)];omega
    ·dsimp only;rw[w64 (by omega) (by omega)];omega
structure OkP (hb ca:Bool) (pl us re im ia:Int) (hc:Bool) (pe ex:List Gn) (sk ak:Bs) (fr:List Pt) (pu po:List Bs) (ma:List (Bs×Bs)) (na:List Gn) (pt:List Pt) (un:List Ex):Prop where
  bas:(hb=true/\(ca,pl)∈Aaa)\/(hb=false/\ca=false/\pl= -1)
  us:0<=us/\us<=511
  pu:l7 KJ pu
  po:l7 Ii po
  ma:Adp ma
  re:re∈rX
  im:im∈rX
  ia: -1<=ia/\ia<=64
  na:na.length<=2/\ ∀ g∈na,okG false g
  con:(hc=false/\pe=[]/\ex=[])\/(hc=true/\okS (pe,ex))
  sk:sk∈skL
  ak:ak∈akL
  pt:pt=[]\/UR pt
  fr:fr=[]\/UR fr
  un:un∈unL
theorem five {n:Int} (h0:0<=n) (h1:n<5):i64.wrap (n - 1)∈rX/\(true,i64.wrap (n - 1))∈Aaa:=by
  have:n=0\/n=1\/n=2\/n=3\/n=4:=by omega
  rcases this with rfl | rfl | rfl | rfl | rfl<;>exact⟨by decide,by decide⟩
theorem AnQ {α :Type} {l:List α} {a b:Nat} {x: α} (h:x∈AB l a b):x∈l:=List.mem_of_mem_take (List.mem_of_mem_drop h)
include hN hL in
theorem Aoh {d:List Int×Int} (hd:BV L d):Ends (fun r=>OkI r.1/\BV L r.2) (Rt N d):=by
  unfold Rt
  try simp only[clR]
  rw[show ZI N=some (false,false,-1,0,[],[],[],-1,-1,-1,[],false,[],[],[],[],[],[],[])from rfl,Ae]
  refine AQ (nx N hL hd 6 (by omega) (by omega)) ?_
  rintro ⟨r,d1,d2⟩ ⟨h0,h1,h2⟩
  dsimp only at h0 h1 h2 ⊢
  refine Hw (fun x=> ∃ t a b hb ca pl us re im ia hc pe ex sk ak fr pu po ma na pt un,x=(t,a,b,hb,ca,pl,us,re,im,ia,hc,pe,ex,sk,ak,fr,pu,po,ma,na,pt,un)/\0<=t/\t<6/\BV L (a,b)/\OkP hb ca pl us re im ia hc pe ex sk ak fr pu po ma na pt un) (fun x=>x.1.toNat) ?_ N _ ⟨r,d1,d2,false,false,-1,0,-1,-1,-1,false,[],[],[],[],[],[],[],[],[],[],[],rfl,h0,h1,h2,⟨Or.inr ⟨rfl,rfl,rfl⟩,by omega,⟨Nat.zero_le _,(fun s hs=>by cases hs),List.nodup_nil⟩,⟨Nat.zero_le _,(fun s hs=>by cases hs),List.nodup_nil⟩,⟨Nat.zero_le _,(fun s hs=>by cases hs),List.nodup_nil⟩,by decide,by decide,by omega,⟨Nat.zero_le _,fun s hs=>by cases hs⟩,Or.inl ⟨rfl,rfl,rfl⟩,by decide,by decide,Or.inl rfl,Or.inl rfl,by decide⟩⟩ (by dsimp only;omega)
  rintro _ ⟨t,a,b,hb,ca,pl,us,re,im,ia,hc,pe,ex,sk,ak,fr,pu,po,ma,na,pt,un,rfl,g0,g1,g2,P⟩ k hk
  dsimp only[U22]
  refine BA (fun ht=> ?_) (fun _=> ?_)
  ·have ht:=of_decide_eq_true ht
   have go: ∀(a':List Int) (b':Int) (hb' ca':Bool) (pl' us' re' im' ia':Int) (hc':Bool) (pe' ex':List Gn) (sk' ak':Bs) (fr':List Pt) (pu' po':List Bs) (ma':List (Bs×Bs)) (na':List Gn) (pt':List Pt) (un':List Ex),BV L (a',b')->OkP hb' ca' pl' us' re' im' ia' hc' pe' ex' sk' ak' fr' pu' po' ma' na' pt' un'->Ends (fun r=>OkI r.1/\BV L r.2) (k (i64.wrap (t - 1),a',b',hb',ca',pl',us',re',im',ia',hc',pe',ex',sk',ak',fr',pu',po',ma',na',pt',un')):=by
     intro a' b' hb' ca' pl' us' re' im' ia' hc' pe' ex' sk' ak' fr' pu' po' ma' na' pt' un' hda hP
     rw[w64 (by omega) (by omega)]
     exact hk _ ⟨t - 1,a',b',hb',ca',pl',us',re',im',ia',hc',pe',ex',sk',ak',fr',pu',po',ma',na',pt',un',rfl,by omega,by omega,hda,hP⟩ (by dsimp only;omega)
   refine AQ (nx N hL g2 14 (by omega) (by omega)) ?_
   rintro ⟨r,d1,d2⟩ ⟨h0,h1,h2⟩
   dsimp only at h0 h1 h2 ⊢
   refine iL (P:=fun x=> ∃ q,x=(q,d1,d2,hb,ca,pl,us,re,im,ia,hc,pe,ex,sk,ak,fr,un,pt,na,ma,po,pu)) (fun j hj=>BA (fun _=>hj _ ⟨_,rfl⟩) (fun _=>hj _ ⟨_,rfl⟩)) ?_
   rintro _ ⟨q,rfl⟩
   dsimp only[U22]
   refine BA (fun _=> ?_) (fun _=>BA (fun _=> ?_) (fun _=>BA (fun _=> ?_) (fun _=>BA (fun _=> ?_) (fun _=>BA (fun _=> ?_) (fun _=>BA (fun _=> ?_) (fun _=>BA (fun _=> ?_) (fun _=>BA (fun _=> ?_) (fun _=>BA (fun _=> ?_) (fun _=>BA (fun _=> ?_) (fun _=>BA (fun _=> ?_) (fun _=>BA (fun _=> ?_) (fun _=> ?_))))))))))))
   ·refine AQ (nx N hL h2 5 (by omega) (by omega)) ?_
    rintro ⟨r,e1,e2⟩ ⟨f0,f1,f2⟩
    dsimp only at f0 f1 f2 ⊢
    exact go _ _ _ _ _ _ _ _ _ _ _ _ _ _ _ _ _ _ _ _ _ f2 {P with bas:=Or.inl ⟨rfl,(five f0 f1).2⟩}
   ·exact go _ _ _ _ _ _ _ _ _ _ _ _ _ _ _ _ _ _ _ _ _ h2 {P with bas:=Or.inl ⟨rfl,by decide⟩}
   ·refine AQ (nx N hL h2 511 (by omega) (by omega)) ?_
    rintro ⟨r,e1,e2⟩ ⟨f0,f1,f2⟩
    dsimp only at f0 f1 f2 ⊢
    exact go _ _ _ _ _ _ _ _ _ _ _ _ _ _ _ _ _ _ _ _ _ f2 {P with us:=by rw[w64 (by omega) (by omega)];omega}
   ·refine AQ (AgE N hN hL true h2) ?_
    rintro ⟨r,e1,e2⟩ ⟨f0,f2⟩
    exact go _ _ _ _ _ _ _ _ _ _ _ _ _ _ _ _ _ _ _ _ _ f2 {P with pu:=f0}
   ·refine AQ (AgE N hN hL false h2) ?_
    rintro ⟨r,e1,e2⟩ ⟨f0,f2⟩
    exact go _ _ _ _ _ _ _ _ _ _ _ _ _ _ _ _ _ _ _ _ _ f2 {P with po:=f0}
   ·refine AQ (AfN N hN hL h2) ?_
    rintro ⟨r,e1,e2⟩ ⟨f0,f2⟩
    exact go _ _ _ _ _ _ _ _ _ _ _ _ _ _ _ _ _ _ _ _ _ f2 {P with ma:=f0}
   ·refine AQ (nx N hL h2 5 (by omega) (by omega)) ?_
    rintro ⟨r,e⟩ ⟨f0,f1,f2⟩
    refine AQ (nx N hL f2 5 (by omega) (by omega)) ?_
    rintro ⟨r2,e1,e2⟩ ⟨c0,c1,c2⟩
    dsimp only at f0 f1 c0 c1 c2 ⊢
    exact go _ _ _ _ _ _ _ _ _ _ _ _ _ _ _ _ _ _ _ _ _ c2 {P with re:=(five f0 f1).1,im:=(five c0 c1).1}
   ·refine AQ (nx N hL h2 65 (by omega) (by omega)) ?_
    rintro ⟨r,e1,e2⟩ ⟨f0,f1,f2⟩
    dsimp only at f0 f1 f2 ⊢
    exact go _ _ _ _ _ _ _ _ _ _ _ _ _ _ _ _ _ _ _ _ _ f2 {P with ia:=by omega}
   ·refine AQ (Zn N hN hL h2) ?_
    rintro ⟨x,e⟩ ⟨f0,f2⟩
    refine AQ (Zn N hN hL f2) ?_
    rintro ⟨y,e⟩ ⟨f1,f2⟩
    refine AQ (nx N hL f2 2 (by omega) (by omega)) ?_
    rintro ⟨r2,e1,e2⟩ ⟨c0,c1,c2⟩
    dsimp only at f0 f1 c0 c1 c2 ⊢
    rw[w64 (by omega) (by omega)]
    refine AX (decide_eq_true (by omega)) (AX (decide_eq_true (by omega)) ?_)
    refine go _ _ _ _ _ _ _ _ _ _ _ _ _ _ _ _ _ _ _ _ _ c2 {P with na:=⟨?_,fun g hg=> ?_⟩}
    ·unfold AB;rw[List.length_drop,List.length_take];simp;omega
    ·rcases List.mem_cons.1 (AnQ hg)with rfl | hg
     ·exact f0
     ·rw[List.mem_singleton.1 hg];exact f1
   ·refine AQ (Agd N hN hL h2) ?_
    rintro ⟨⟨x,y⟩,e1,e2⟩ ⟨f0,f2⟩
    exact go _ _ _ _ _ _ _ _ _ _ _ _ _ _ _ _ _ _ _ _ _ f2 {P with con:=Or.inr ⟨rfl,f0⟩}
   ·refine AQ (nx N hL h2 3 (by omega) (by omega)) ?_
    rintro ⟨r,e⟩ ⟨f0,f1,f2⟩
    dsimp only at f0 f1 f2 ⊢
    refine AX (decide_eq_true (by omega)) (AX (decide_eq_true (by omega)) (AX (decide_eq_true (by omega)) ?_))
    refine AQ (nx N hL f2 2 (by omega) (by omega)) ?_
    rintro ⟨r2,e1,e2⟩ ⟨c0,c1,c2⟩
    dsimp only at c0 c1 c2 ⊢
    refine AX (decide_eq_true (by omega)) (AX (decide_eq_true (by omega)) (AX (decide_eq_true (by omega)) ?_))
    exact go _ _ _ _ _ _ _ _ _ _ _ _ _ _ _ _ _ _ _ _ _ c2 {P with sk:=GM (P:=fun s=>s∈skL) (fun s hs=>hs) f0 f1,ak:=GM (P:=fun s=>s∈akL) (fun s hs=>hs) c0 c1}
   ·refine AQ (AbR N hN hL h2) ?_
    rintro ⟨r,e1,e2⟩ ⟨f0,f2⟩
    exact go _ _ _ _ _ _ _ _ _ _ _ _ _ _ _ _ _ _ _ _ _ f2 {P with pt:=Or.inr f0}
   ·refine AQ (AbR N hN hL h2) ?_
    rintro ⟨r,e⟩ ⟨f0,f2⟩
    refine AQ (nx N hL f2 2 (by omega) (by omega)) ?_
    rintro ⟨r2,e⟩ ⟨c0,c1,c2⟩
    refine AQ (nx N hL c2 3 (by omega) (by omega)) ?_
    rintro ⟨r3,e1,e2⟩ ⟨z0,z1,z2⟩
    dsimp only at f0 c0 c1 z0 z1 z2 ⊢
    refine AX (decide_eq_true (by omega)) (AX (decide_eq_true (by omega)) ?_)
    refine go _ _ _ _ _ _ _ _ _ _ _ _ _ _ _ _ _ _ _ _ _ z2 {P with fr:=Or.inr f0,un:= ?_}
    have hz:r3=0\/r3=1\/r3=2:=by omega
    rcases hz with rfl | rfl | rfl
    ·exact List.mem_cons_self
    ·cases r2==1<;>decide
    ·cases r2==1<;>decide
  ·dsimp only[U21]
   exact DC ⟨⟨P.bas,P.us,P.pu,P.po,P.ma,P.re,P.im,P.ia,P.na,P.con,P.sk,P.ak,P.pt,P.fr,P.un⟩,g2⟩
end
