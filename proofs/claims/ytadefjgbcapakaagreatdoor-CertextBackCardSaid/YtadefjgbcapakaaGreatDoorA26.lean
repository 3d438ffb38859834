import Derived.Test.YtadefjgbcapakaaGreatDoorA25
import Derived.ChangeArms
import Derived.SliceStrings
import Derived.Test.YtadefjgbcapakaaGreatDoorRows
import Derived.Test.YtadefjgbcapakaaGreatDoorChecked
import Derived.Lib.LaidU8
import Derived.Shelf.Vars
import Derived.HandedShaped
import Derived.LaidLaws
set_option linter.all false
namespace Go.Proofs.YtadefjgbcapakaaGreatDoor.Pl
open IntKind (i64)
open Go Vm
theorem AlB (M:Nat):Nl (M+400)=some true:=by kernel_rfl
theorem AnJ {N:Nat} (hN:1048578<N):Nl N=some true:=by
  obtain⟨M,rfl⟩: ∃ M,N=M+400:=⟨N - 400,by omega⟩
  exact AlB M
theorem Akj (N:Nat) (l:List Int) (hN:1048578<N) (hl:l.length<=9223372036854775807): ∃ x d,Rt N (l,0)=some (x,d)/\OkI x:=by
  obtain⟨⟨x,d⟩,h1,h2,_⟩:=Aoh N hN hl (d:=(l,0)) ⟨0,rfl,Nat.zero_le _⟩
  exact⟨x,d,h1,h2⟩
theorem Ao0 (l:List Ex) (m:Nat) (hm:m<l.length):l.getD ((l.length:Int) - 1 - (m:Int)).toNat ([],false,[])=l.reverse.getD m ([],false,[]):=by
  have e:((l.length:Int) - 1 - (m:Int)).toNat=l.length - 1 - m:=by omega
  rw[e,getD_lt l _ _ (by omega),getD_lt l.reverse m _ (by rw[List.length_reverse];exact hm),List.getElem_reverse]
theorem Ana (l:List Ex) (m:Nat) (hm:m<l.length):l.reverse.take m++[l.reverse.getD m ([],false,[])]=l.reverse.take (m+1):=by
  have h:m<l.reverse.length:=by rw[List.length_reverse];exact hm
  rw[List.take_add_one,List.getElem?_eq_getElem h,getD_lt l.reverse m _ h];rfl
theorem AiZ {un:List Ex} (h:un∈unL) (h0:un≠ []): ∃ e∈un,GV e.1=false:=by
  have:unL.all (fun u=>u.isEmpty||u.any fun e=> !GV e.1)=true:=by kernel_rfl
  have:=List.all_eq_true.1 this un h
  rw[Bool.or_eq_true,List.isEmpty_iff]at this
  obtain⟨e,he,h2⟩:=List.any_eq_true.1 (this.resolve_left h0)
  exact⟨e,he,by simpa using h2⟩
theorem Amy {x:Info} (h:OkI x) (hk:(List.range (encI x).1.reverse.length).all (fun i=>GV ((encI x).1.reverse.getD i ([],false,[])).1)=true):GR x=[]:=by
  refine Classical.byContradiction fun h0=> ?_
  obtain⟨e,he,h2⟩:=AiZ h.un h0
  have hm:e∈(encI x).1.reverse:=by
    rw[List.mem_reverse,gU h,Aks]
    exact List.mem_append_right _ he
  obtain⟨i,hi,rfl⟩:=List.mem_iff_getElem.1 hm
  have:=List.all_eq_true.1 hk i (List.mem_range.2 hi)
  rw[getD_lt _ i _ hi,h2]at this
  cases this
theorem AlC (N:Nat) (l:List Int) (hN:1048578<N) (hl:l.length<=9223372036854775807):GX N l=some true:=by
  obtain⟨x,d,h1,h⟩:=Akj N l hN hl
  have e1:=lL N x hN (Afb h)
  have e2:=Apd hN h
  have e3:=AnU hN h
  have hlen:(encI x).1.length<=15:=by
    have:=AaI h
    rw[gU h];show((Ir x).map (Gf x)).length<=_;rw[List.length_map];omega
  have e5:(encI x).2=0:=by rw[gU h]
  have e6:=AgQ N hN h
  have e7: ∀ b:Bool,(b=true->GR x=[])->b=true->Em N x (inK x (GR x).reverse)=some true:=fun b hb h0=>by
    rw[hb h0]at e6 ⊢;exact e6
  have hku:=Amy h
  have haw:=AnJ hN
  have hpt:=h.pt
  unfold GX
  rw[show sF N l=some (l,0)from rfl,Ae,h1,Ae]
  dsimp only
  rw[e1,Ae,e2,Ae]
  generalize (encI x).1=E at *
  simp only[e5,e6,show((0:Int) != 0)=false from rfl,Bool.not_false,Bool.not_true,Bool.true_or,Bool.or_true,Bool.or_false,Bool.or_self,cond_false,cond_true,A8,Option.isSome_some,Option.getD_some]
  have hE:(E.length:Int)<=15:=by omega
  rw[show i64.wrap ((E.length:Int) - 1)=(E.length:Int) - 1 - ((0:Nat):Int) by rw[w64 (by omega) (by omega)];omega]
  refine Hy (fun m=>((E.length:Int) - 1 - (m:Int),x.1,x.2.1,x.2.2.1,x.2.2.2.1,x.2.2.2.2.2.2.2.1,x.2.2.2.2.2.2.2.2.1,x.2.2.2.2.2.2.2.2.2.1,x.2.2.2.2.2.2.2.2.2.2.2.1,x.2.2.2.2.2.2.2.2.2.2.2.2.1,x.2.2.2.2.2.2.2.2.2.2.2.2.2.1,x.2.2.2.2.2.2.2.2.2.2.2.2.2.2.1,x.2.2.2.2.2.2.2.2.2.2.2.2.2.2.2.1,x.2.2.2.2.2.2.2.2.2.2.2.2.2.2.2.2.2.1,x.2.2.2.2.1,x.2.2.2.2.2.1,x.2.2.2.2.2.2.1,x.2.2.2.2.2.2.2.2.2.2.1,x.2.2.2.2.2.2.2.2.2.2.2.2.2.2.2.2.1,x.2.2.2.2.2.2.2.2.2.2.2.2.2.2.2.2.2.2,E.reverse.take m)) E.length (some true) ?_ ?_ N (by omega)
  ·intro m hm k
   dsimp only[U21]
   rw[An0 (by omega),cond_true,Adg (by omega),A8,A8,bw (by have:=List.length_take_le m E.reverse;have:=hm;omega),Ao0 E m hm,Ana E m hm,w64 (by omega) (by omega)]
   rw[show(E.length:Int) - 1 - (m:Int) - 1=(E.length:Int) - 1 - ((m+1:Nat):Int) by omega]
  ·intro k
   dsimp only[U21]
   rw[Anz (by omega),cond_false,List.take_of_length_le (by rw[List.length_reverse];exact Nat.le_refl _)]
   dsimp only[U20]
   have hRl:E.reverse.length=E.length:=List.length_reverse
   generalize E.reverse=R at *
   refine Hy (fun i=>((List.range i).all (fun j=>GV (R.getD j ([],false,[])).1),(i:Int),x.1,x.2.1,x.2.2.1,x.2.2.2.1,x.2.2.2.2.2.2.2.1,x.2.2.2.2.2.2.2.2.1,x.2.2.2.2.2.2.2.2.2.1,x.2.2.2.2.2.2.2.2.2.2.2.1,x.2.2.2.2.2.2.2.2.2.2.2.2.1,x.2.2.2.2.2.2.2.2.2.2.2.2.2.1,x.2.2.2.2.2.2.2.2.2.2.2.2.2.2.1,x.2.2.2.2.2.2.2.2.2.2.2.2.2.2.2.1,x.2.2.2.2.2.2.2.2.2.2.2.2.2.2.2.2.2.1,x.2.2.2.2.1,x.2.2.2.2.2.1,x.2.2.2.2.2.2.1,x.2.2.2.2.2.2.2.2.2.2.1,x.2.2.2.2.2.2.2.2.2.2.2.2.2.2.2.2.1,x.2.2.2.2.2.2.2.2.2.2.2.2.2.2.2.2.2.2,R)) R.length (some true) ?_ ?_ N (by omega)
   ·intro i hi k'
    have hs:(List.range (i+1)).all (fun j=>GV (R.getD j ([],false,[])).1)=((List.range i).all (fun j=>GV (R.getD j ([],false,[])).1)&&GV (R.getD i ([],false,[])).1):=by
      rw[List.range_succ,List.all_append];simp
    dsimp only[U22]
    rw[hs]
    generalize (List.range i).all (fun j=>GV (R.getD j ([],false,[])).1)=b
    simp (disch:=first | assumption | omega) only[Aq,Alz N _ hN,Option.isSome_some,Option.getD_some]
    cases b<;>rfl
   ·intro k'
    generalize (List.range R.length).all (fun j=>GV (R.getD j ([],false,[])).1)=b at *
    have hb:=e7 b hku
    dsimp only[U22]
    rw[kS (by omega),cond_false]
    dsimp only[U21]
    rw[e3,Ae]
    have hb:b=true->Em N (x.1,x.2.1,x.2.2.1,x.2.2.2.1,x.2.2.2.2.1,x.2.2.2.2.2.1,x.2.2.2.2.2.2.1,x.2.2.2.2.2.2.2.1,x.2.2.2.2.2.2.2.2.1,x.2.2.2.2.2.2.2.2.2.1,x.2.2.2.2.2.2.2.2.2.2.1,x.2.2.2.2.2.2.2.2.2.2.2.1,x.2.2.2.2.2.2.2.2.2.2.2.2.1,x.2.2.2.2.2.2.2.2.2.2.2.2.2.1,x.2.2.2.2.2.2.2.2.2.2.2.2.2.2.1,x.2.2.2.2.2.2.2.2.2.2.2.2.2.2.2.1,x.2.2.2.2.2.2.2.2.2.2.2.2.2.2.2.2.1,x.2.2.2.2.2.2.2.2.2.2.2.2.2.2.2.2.2.1,x.2.2.2.2.2.2.2.2.2.2.2.2.2.2.2.2.2.2) (inK x (GR x).reverse)=some true:=hb
    cases b with
    | true =>
      have hb:=hb rfl
      simp only[hb,show((0:Int) != 0)=false from rfl,Bool.not_false,Bool.not_true,Bool.true_or,Bool.or_true,Bool.or_false,Bool.or_self,Bool.and_true,Bool.true_and,Bool.and_false,cond_false,cond_true,A8,Bool.cond_self,Option.isSome_some,Option.getD_some]
      rcases hpt with h0 | h0
      ·simp only[h0,haw];rfl
      ·have P:=PD h0
       have f1:=FO N _ hN fun p hp=>(MJ (h0.all p hp)).s0
       have f2:=FN N (psB x.2.2.2.2.2.2.2.2.2.2.2.2.2.2.2.2.1) hN (by have:=P.len;omega)
       have f3:=O7 N hN (by have:=h0.len;omega) h0.all
       rw[P.w0]at f1
       rw[P.rd]at f2
       rw[len0,show(x.2.2.2.2.2.2.2.2.2.2.2.2.2.2.2.2.1).isEmpty=false by cases hz:x.2.2.2.2.2.2.2.2.2.2.2.2.2.2.2.2.1 with | nil=>exact absurd hz h0.ne | cons a r=>rfl,cond_false,f1,Ae]
       dsimp only
       rw[f2,Ae,haw,Ae]
       simp only[Aj,f3,beq_self_eq_true,cond_true,A8,Bool.true_or,Option.isSome_some,Option.getD_some]
    | false =>
      simp only[show((0:Int) != 0)=false from rfl,Bool.not_false,Bool.not_true,Bool.true_or,Bool.or_true,Bool.or_false,Bool.or_self,Bool.and_true,Bool.true_and,Bool.and_false,cond_false,cond_true,A8,Bool.cond_self]
      rcases hpt with h0 | h0
      ·simp only[h0,haw];rfl
      ·have P:=PD h0
       have f1:=FO N _ hN fun p hp=>(MJ (h0.all p hp)).s0
       have f2:=FN N (psB x.2.2.2.2.2.2.2.2.2.2.2.2.2.2.2.2.1) hN (by have:=P.len;omega)
       have f3:=O7 N hN (by have:=h0.len;omega) h0.all
       rw[P.w0]at f1
       rw[P.rd]at f2
       rw[len0,show(x.2.2.2.2.2.2.2.2.2.2.2.2.2.2.2.2.1).isEmpty=false by cases hz:x.2.2.2.2.2.2.2.2.2.2.2.2.2.2.2.2.1 with | nil=>exact absurd hz h0.ne | cons a r=>rfl,cond_false,f1,Ae]
       dsimp only
       rw[f2,Ae,haw,Ae]
       simp only[Aj,f3,beq_self_eq_true,cond_true,A8,Bool.true_or,Option.isSome_some,Option.getD_some]
end Go.Proofs.YtadefjgbcapakaaGreatDoor.Pl
namespace Go.Proofs.YtadefjgbcapakaaGreatDoor.Vm
open Go.RowKit
theorem Moves.below {T:Nat->Prop} {w w':World} (h:Moves (fun _ _=>none) T w w'):Below w.heap.size w w' :=
  ⟨h.os,h.tape,h.output,h.size,fun b hb=>by
    rcases h.blk b hb with e | ⟨c,c',e,fr,_,_,_,_,k,o,_,ho,_⟩ | ⟨_,_,_,_,o,_,_,ho,_⟩
    ·exact e
    ·cases ho
    ·cases ho⟩
theorem Sig.AqX {Af A7:List Sh} {f:ShT Af->Option (ShT (ES Af A7))} {xs:List A} {a:ShT Af} {o:ShT (ES Af A7)} (hd:Qv Af xs=some a) (hf:f a=some o):(Sig.of Af A7 f).F xs=some (encs (ES Af A7) o):=by
  unfold Sig.F Sig.of
  dsimp only
  rw[hd]
  dsimp only
  rw[hf]
  rfl
theorem Akw {P:Program} {f:FuncId} {sg:Sig} (h:Spec P f sg) {xs:List A} {vs:Array Value} {W:World} (hF:sg.F xs=some [.bool true]) (hress:sg.A7=[.cell false .bool]) (hv:vs.size=xs.length) (hl:xs.length=sg.Af.length) (h100:xs.length<=100)
    (hx: ∀ j,j<xs.length->IR (fun _ _=>none) W (256*j) (vs.getD j undef) (xs.getD j .undef)) (hI:Inv (fun _ _=>none) W):Calls P f vs W fun e w'=>e= .returned (.bool true)/\Below W.heap.size W w':=by
  refine(h.2 (fun _ _=>none) W vs xs _ hI hv hl h100 hx hF).mono fun e w' hq=> ?_
  obtain⟨v,O',he,hc⟩:=hq
  obtain⟨us,h1,h2,h3⟩:=hc.res
  rw[hress]at h1
  have h1':us.size=1:=h1
  have h4:Ai O' w' (us.getD 0 undef) (.bool true):=h3 0 (by omega)
  have h5:us.getD 0 undef= .bool true:=by
    generalize us.getD 0 undef=z at h4
    cases h4;rfl
  have h6:v= .bool true:=by
    rw[h2,dif_pos h1',<- h5]
    simp [Array.getD_eq_getD_getElem?,h1']
  exact⟨by rw[he,h6],hc.moves.below⟩
open Go.ChangeShapes Go.WideShapes
def nobody:Own:=fun _ _=>none
def AmF:A->Prop
  | .int k n=>k.min<=n/\n<=k.max
  | .str s=>s.length<=9223372036854775807
  | _=>True
def okN:Nat->A->Prop
  | 0,_=>False
  | n+1,.sl l=>l.xs.length<=9223372036854775807/\ ∀ c∈l.es,∀ a∈c,okN n a
  | _+1,a=>AmF a
structure Opened (n:Nat) (w:World) (ks:List CK) (cs:List Value) (aa:List A):Prop where
  lc:cs.length=ks.length
  la:aa.length=ks.length
  rel: ∀ j,j<ks.length->Ai nobody w (cs.getD j undef) (aa.getD j .undef)
  made:((tyl ks).mk aa).1=true
  ok: ∀ a∈aa,okN n a
theorem Apw: ∀(n:Nat) (a:A),okN n a->okN (n+1) a:=by
  intro n
  induction n with
  | zero=>intro a h;exact h.elim
  | succ n ih =>
    intro a h
    cases a<;>first | exact h | exact⟨h.1,fun c hc z hz=>ih z (h.2 c hc z hz)⟩
theorem Opened.up {n:Nat} {w:World} {ks:List CK} {cs:List Value} {aa:List A} (h:Opened n w ks cs aa):Opened (n+1) w ks cs aa:=⟨h.lc,h.la,h.rel,h.made,fun a ha=>Apw n a (h.ok a ha)⟩
theorem Ak8: ∀(a:List CK) {b:List CK} {x y:List A},((tyl a).mk x).1=true->((tyl b).mk y).1=true->((tyl (a++b)).mk (x++y)).1=true:=by
  intro a
  induction a with
  | nil =>
    intro b x y hx hy
    cases x with
    | nil=>exact hy
    | cons _ _=>cases hx
  | cons k a ih =>
    intro b x y hx hy
    cases k with
    | bool =>
      cases x with
      | nil=>cases hx
      | cons c x=>cases c<;>first | exact ih (x:=x) hx hy | cases hx
    | int k =>
      cases x with
      | nil=>cases hx
      | cons c x =>
        cases c<;>first
          | (simp only[tyl,Ty.mk,Bool.and_eq_true]at hx
             simp only[List.cons_append,tyl,Ty.mk,Bool.and_eq_true]
             exact⟨hx.1,ih hx.2 hy⟩)
          | cases hx
    | str =>
      cases x with
      | nil=>cases hx
      | cons c x=>cases c<;>first | exact ih (x:=x) hx hy | cases hx
    | sl e t =>
      cases x with
      | nil=>cases hx
      | cons c x =>
        cases c with
        | sl l =>
          simp only[tyl,Ty.mk]at hx
          simp only[List.cons_append,tyl,Ty.mk]
          cases hc:l.cast t with
          | none=>rw[hc]at hx;cases hx
          | some xs=>rw[hc]at hx;exact ih (x:=x) hx hy
        | _=>cases hx
    | sln e t =>
      cases x with
      | nil=>cases hx
      | cons c x =>
        cases c with
        | sl l =>
          simp only[tyl,Ty.mk]at hx
          simp only[List.cons_append,tyl,Ty.mk]
          cases hc:l.cast t with
          | none=>rw[hc]at hx;cases hx
          | some xs=>rw[hc]at hx;exact ih (x:=x) hx hy
        | _=>cases hx
    | ptr =>
      cases x with
      | nil=>cases hx
      | cons c x=>cases c<;>first | exact ih (x:=x) hx hy | cases hx
    | fn =>
      cases x with
      | nil=>cases hx
      | cons c x=>cases c<;>first | exact ih (x:=x) hx hy | cases hx
    | mp kt vt =>
      cases x with
      | nil=>cases hx
      | cons c x =>
        cases c with
        | ump l =>
          simp only[tyl,Ty.mk]at hx
          simp only[List.cons_append,tyl,Ty.mk]
          cases hc:l.cast kt vt with
          | none=>rw[hc]at hx;cases hx
          | some xs=>rw[hc]at hx;exact ih (x:=x) hx hy
        | _=>cases hx
    | oth =>
      cases x with
      | nil=>cases hx
      | cons c x=>cases c<;>first | exact ih (x:=x) hx hy | cases hx
theorem Opened.nil {n:Nat} {w:World}:Opened n w [] [] []:=⟨rfl,rfl,fun j hj=>absurd hj (Nat.not_lt_zero j),rfl,fun a ha=>(by cases ha)⟩
theorem Opened.append {n:Nat} {w:World} {a b:List CK} {x y:List Value} {p q:List A} (h1:Opened n w a x p) (h2:Opened n w b y q):Opened n w (a++b) (x++y) (p++q):=by
  refine⟨by simp [h1.lc,h2.lc],by simp [h1.la,h2.la],fun j hj=> ?_,Ak8 a h1.made h2.made,fun z hz=> ?_⟩
  ·rw[List.length_append]at hj
   by_cases h:j<a.length
   ·have:=h1.rel j h
    rw[List.getD_eq_getElem?_getD,List.getElem?_append_left (by rw[h1.lc];exact h),<- List.getD_eq_getElem?_getD,List.getD_eq_getElem?_getD (l:=p++q),List.getElem?_append_left (by rw[h1.la];exact h),<- List.getD_eq_getElem?_getD]
    exact this
   ·have:=h2.rel (j - a.length) (by omega)
    rw[List.getD_eq_getElem?_getD,List.getElem?_append_right (by rw[h1.lc];omega),<- List.getD_eq_getElem?_getD,List.getD_eq_getElem?_getD (l:=p++q),List.getElem?_append_right (by rw[h1.la];omega),<- List.getD_eq_getElem?_getD,h1.lc,h1.la]
    exact this
  ·rcases List.mem_append.1 hz with hz | hz
   ·exact h1.ok z hz
   ·exact h2.ok z hz
theorem Opened.one {n:Nat} {w:World} {k:CK} {v:Value} {a:A} (hr:Ai nobody w v a) (hm:((tyl [k]).mk [a]).1=true) (ho:okN n a):Opened n w [k] [v] [a] :=
  ⟨rfl,rfl,fun j hj=>by
    have:j=0:=by simp at hj;omega
    subst this;exact hr,hm,fun z hz=>by rw[List.mem_singleton.1 hz];exact ho⟩
def QF (P:Program) (n t:Nat):Nat:=match Ff P n t with | some cs=>cs.length | none=>0
def xX (P:Program) (n:Nat):List Field->Nat->Bool
  | [],_=>true
  | f::r,o=>Nat.beq f.offset o&&Nat.beq (P.cellsOf f.type) (QF P n f.type)&&xX P n r (o+QF P n f.type)
def Y0 (P:Program):Nat->Nat->Bool
  | 0,_=>false
  | n+1,t=>match P.underlying t with
    | some .bool=>true
    | some (.int _)=>true
    | some .string=>true
    | some (.slice e)=>Y0 P n e&&Nat.beq (P.cellsOf e) (QF P n e)&&Nat.blt 0 (QF P n e)&&(match Ff P n e with | some cs=>cs.all CK.plain | none=>false)
    | some (.struct fs)=>Nat.beq (P.cellsOf t) (QF P (n+1) t)&&xX P n fs.toList 0&&fs.toList.all (fun f=>Y0 P n f.type)
    | _=>false
section
variable {H:Type} {enc:TypeId×Value->H} {P:Program} {w:World} {base:Nat} {spare:Nat->Bool} {held:Bool}
theorem eF {a:Addr} {n:Nat} {cs:List Value} (h:w.cells? base a n=some cs):cs.length=n/\ ∀ j,j<n->w.cell? (a.add j)=some (cs.getD j undef):=by
  unfold World.cells? at h
  split at h
  ·have key: ∀(l:List Nat) (cs:List Value),l.mapM (fun i=>w.cell? (a.add i))=some cs->cs.length=l.length/\ ∀ j (hj:j<l.length),w.cell? (a.add l[j])=some (cs.getD j undef):=by
     intro l
     induction l with
     | nil =>
       intro cs h
       simp at h
       subst h
       exact⟨rfl,fun j hj=>by cases hj⟩
     | cons i l ih =>
       intro cs h
       rw[List.mapM_cons]at h
       cases h1:w.cell? (a.add i)with
       | none=>rw[h1]at h;cases h
       | some v =>
         rw[h1]at h
         cases h2:l.mapM (fun i=>w.cell? (a.add i))with
         | none=>rw[h2]at h;cases h
         | some r =>
           rw[h2]at h
           injection h with h
           subst h
           obtain⟨k1,k2⟩:=ih r h2
           refine⟨by simp [k1],fun j hj=> ?_⟩
           cases j with
           | zero=>exact h1
           | succ j=>exact k2 j (by simpa using hj)
   obtain⟨h1,h2⟩:=key _ _ h
   rw[List.length_range]at h1
   refine⟨h1,fun j hj=> ?_⟩
   have:=h2 j (by rw[List.length_range];exact hj)
   rw[List.getElem_range]at this
   exact this
  ·cases h
theorem AmZ {l:List Value} {o a b:Nat}:(l.drop o).take (a+b)=(l.drop o).take a++(l.drop (o+a)).take b:=by
  rw[List.take_add,List.drop_drop]
theorem ZP (e:Nat) (t:Ty) (xs:List t.Val):((tyl [.sl e t]).mk [.sl ⟨t,xs⟩]).1=true:=by
  simp only[tyl,Ty.mk]
  rw[Sl.VG]
  rfl
theorem Agl (hspare: ∀ b,spare b=true): ∀(n:Nat) (t:TypeId) (ks:List CK) (fuel:Nat) (cs:List Value) (x:DataW H×List MemPlace),Ff P n t=some ks->Y0 P n t=true->DataW.trod enc P w base spare held fuel t cs=some x ->
    ∃ aa,Opened n w ks cs aa:=by
  intro n
  induction n with
  | zero=>intro t ks fuel cs x h;cases h
  | succ n ih =>
    intro t ks fuel cs x hck hok h
    unfold Ff at hck
    unfold Y0 at hok
    cases hu:P.underlying t with
    | none=>rw[hu]at hck;cases hck
    | some d =>
      rw[hu]at hck hok
      cases d with
      | bool =>
        injection hck with hck
        subst hck
        obtain⟨b,rfl,_⟩:=DataW.trod_bool hu h
        exact⟨[.bool b],Opened.one (.bool b) rfl trivial⟩
      | int k =>
        injection hck with hck
        subst hck
        obtain⟨v,rfl,_,hw⟩:=DataW.trod_int hu h
        have hk:AmF (.int k v):=by
          unfold Lit.wf at hw
          rw[Bool.and_eq_true,decide_eq_true_eq,decide_eq_true_eq]at hw
          exact hw
        exact⟨[.int k v],Opened.one (.int k v) (by cases k<;>rfl) hk⟩
      | string =>
        injection hck with hck
        subst hck
        obtain⟨v,rfl,_,hw⟩:=DataW.trod_string hu h
        have hk:AmF (.str v.data.toList):=by
          show v.data.toList.length<=_
          have e:v.data.toList.length=v.size:=by rw[Array.length_toList];rfl
          have:maxLen=9223372036854775807:=rfl
          omega
        exact⟨[.str v.data.toList],Opened.one (.str v) rfl hk⟩
      | slice e =>
        dsimp only at hck hok
        simp only[Bool.and_eq_true]at hok
        obtain⟨⟨⟨hoe,hce⟩,hc0⟩,hpl⟩:=hok
        cases hke:Ff P n e with
        | none=>rw[hke]at hpl;cases hpl
        | some ke =>
          rw[hke]at hck hpl
          dsimp only at hck hpl
          rw[hpl]at hck
          injection hck with hck
          subst hck
          have hlen:P.cellsOf e=ke.length:=by
            have:=Nat.eq_of_beq_eq_true hce
            unfold QF at this
            rw[hke]at this;exact this
          rcases DataW.trod_slice hu h with ⟨rfl,_⟩ | ⟨a,len,cap,elems,rest,m,_,rfl,_,hb,hl,hm,hel,hels,hsp,_⟩
          ·exact⟨[.sl ⟨tyl ke,[]⟩],Opened.one (.nil _) (ZP _ _ _) ⟨Nat.zero_le _,fun c hc=>(by cases hc)⟩⟩
          ·by_cases hcap:cap=0
           ·have hlen0:len=0:=by omega
            subst hcap
            subst hlen0
            exact⟨[.sl ⟨tyl ke,[]⟩],Opened.one (.sl0 a _) (ZP _ _ _) ⟨Nat.zero_le _,fun c hc=>(by cases hc)⟩⟩
           have hk0:0<P.cellsOf e:=by
             have h2:=Nat.eq_of_beq_eq_true hce
             rw[h2]
             simpa using hc0
           have hread: ∃ u,w.cell? a=some u:=by
             by_cases h0:0<len
             ·have he:=hels 0 h0
              rw[List.getElem?_eq_getElem (by omega:0<elems.length),Option.bind_eq_some_iff]at he
              obtain⟨q,hq,_⟩:=he
              obtain⟨_,k2⟩:=eF hq
              have:=k2 0 hk0
              rw[Nat.zero_mul]at this
              exact⟨_,this⟩
             ·have hz:len=0:=by omega
              obtain⟨hr1,hr2⟩:=hsp (hspare _)
              have he:=hr2 0 (by omega)
              rw[List.getElem?_eq_getElem (by omega:0<rest.length),Option.bind_eq_some_iff]at he
              obtain⟨q,hq,_⟩:=he
              obtain⟨_,k2⟩:=eF hq
              have:=k2 0 hk0
              rw[hz,Nat.zero_mul]at this
              exact⟨_,this⟩
           have hspot:a.spot=none:=by
             obtain⟨u,hu⟩:=hread
             unfold World.cell? at hu
             split at hu
             ·cases hs:a.spot with
              | none=>rfl
              | some z=>rw[hs]at hu;cases hu
             ·cases hu
           have ha:a=at' a.block a.off:=by
             obtain⟨b,o,sp⟩:=a
             dsimp only at hspot
             rw[hspot]
           have each: ∀ i,∃(q:List Value) (aa:List A),i<len->(∀ j,j<ke.length->w.cell? (at' a.block (a.off+(i*ke.length+j)))=some (q.getD j undef))/\Opened n w ke q aa:=by
             intro i
             by_cases hi:i<len
             ·have he:=hels i hi
              have hei:elems[i]? =some (elems[i]'(by omega)):=List.getElem?_eq_getElem (by omega)
              rw[hei,Option.bind_eq_some_iff]at he
              obtain⟨q,hq,hq2⟩:=he
              obtain⟨k1,k2⟩:=eF hq
              rw[hlen]at k1 k2
              obtain⟨aa,h1⟩:=ih e ke m q _ hke hoe hq2
              refine⟨q,aa,fun _=>⟨fun j hj=> ?_,h1⟩⟩
              have:=k2 j hj
              rw[ha,JW,JW]at this
              rw[<- this];congr 2;omega
             ·exact⟨[],[],fun h=>absurd h hi⟩
           obtain⟨q,hq⟩:=Classical.axiomOfChoice each
           obtain⟨aa,haa⟩:=Classical.axiomOfChoice hq
           let l:Sl:=⟨tyl ke,(List.range len).map fun i=>((tyl ke).mk (aa i)).2⟩
           have hes:l.es=(List.range len).map aa:=by
             show((List.range len).map fun i=>((tyl ke).mk (aa i)).2).map (tyl ke).cells=_
             rw[List.map_map]
             refine List.map_congr_left fun i hi=> ?_
             exact Ty.Q7 _ _ (haa i (List.mem_range.1 hi)).2.made
           have hesl:l.es.length=len:=by rw[hes,List.length_map,List.length_range]
           have hsz:l.sz=ke.length:=MM ke
           have hget: ∀ i,i<len->l.es.getD i []=aa i:=fun i hi=>by
             rw[hes,List.getD_eq_getElem?_getD,List.getElem?_map,List.getElem?_range hi];rfl
           have hrel:Ai nobody w (.slice (some a) len cap) (.sl l):=by
             rw[ha,<- hesl]
             refine Ai.sl (fun i j=>(q i).getD j undef) (by rw[hesl];exact hl) (fun i j hi hj=> ?_) (fun i j hi hj=> ?_)
             ·rw[hsz]at hj ⊢
              exact⟨rfl,(haa i (by rw[<- hesl];exact hi)).1 j hj⟩
             ·rw[hsz]at hj
              have hi':i<len:=by rw[<- hesl];exact hi
              rw[hget i hi']
              exact(haa i hi').2.rel j hj
           refine⟨[.sl l],Opened.one hrel (ZP _ _ _) ⟨?_,fun c hc z hz=> ?_⟩⟩
           ·show((List.range len).map _).length<=_
            rw[List.length_map,List.length_range]
            have:maxLen=9223372036854775807:=rfl
            omega
           ·rw[hes]at hc
            obtain⟨i,hi,rfl⟩:=List.mem_map.1 hc
            exact(haa i (List.mem_range.1 hi)).2.ok z hz
      | struct fs =>
        dsimp only at hck hok
        simp only[Bool.and_eq_true]at hok
        obtain⟨⟨hcl,hoff⟩,hall⟩:=hok
        obtain⟨xs,m,_,_,hl,hxl,hxs⟩:=DataW.trod_struct hu h
        have fields: ∀(l:List Field) (o:Nat) (ks:List CK),l.foldr (fun f acc=>match Ff P n f.type,acc with | some a,some b=>some (a++b) | _,_=>none) (some [])=some ks->xX P n l o=true->(∀ f∈l,Y0 P n f.type=true) ->
            (∀ f∈l,∃ y,DataW.trod enc P w base spare held m f.type ((cs.drop f.offset).take (P.cellsOf f.type))=some y)-> ∃ aa,Opened n w ks ((cs.drop o).take ks.length) aa:=by
          intro l
          induction l with
          | nil =>
            intro o ks hk _ _ _
            injection hk with hk
            subst hk
            exact⟨[],Opened.nil⟩
          | cons f r ihr =>
            intro o ks hk ho hf hy
            rw[List.foldr_cons]at hk
            cases ha:Ff P n f.type with
            | none=>rw[ha]at hk;cases hk
            | some a =>
              rw[ha]at hk
              cases hb:r.foldr (fun f acc=>match Ff P n f.type,acc with | some a,some b=>some (a++b) | _,_=>none) (some [])with
              | none=>rw[hb]at hk;cases hk
              | some b =>
                rw[hb]at hk
                injection hk with hk
                subst hk
                have hal:QF P n f.type=a.length:=by unfold QF;rw[ha]
                unfold xX at ho
                simp only[Bool.and_eq_true]at ho
                obtain⟨⟨h1,h2⟩,h3⟩:=ho
                have h1:=Nat.eq_of_beq_eq_true h1
                have h2:=Nat.eq_of_beq_eq_true h2
                rw[hal]at h2 h3
                obtain⟨y,hy1⟩:=hy f List.mem_cons_self
                rw[h1,h2]at hy1
                obtain⟨pa,p1⟩:=ih f.type a m _ y ha (hf f List.mem_cons_self) hy1
                obtain⟨pb,q1⟩:=ihr (o+a.length) b hb h3 (fun g hg=>hf g (List.mem_cons_of_mem _ hg)) (fun g hg=>hy g (List.mem_cons_of_mem _ hg))
                refine⟨pa++pb,?_⟩
                rw[List.length_append,AmZ]
                exact p1.append q1
        obtain⟨aa,h1⟩:=fields fs.toList 0 ks hck hoff (fun f hf=>List.all_eq_true.1 hall f hf) (fun f hf=>by
          obtain⟨i,hi⟩:=List.getElem?_of_mem hf
          have hi':fs[i]? =some f:=by rw[<- Array.getElem?_toList];exact hi
          have:=hxs i f hi'
          have hlt:i<xs.length:=by
            rw[hxl]
            exact(Array.getElem?_eq_some_iff.1 hi').1
          rw[List.getElem?_eq_getElem hlt]at this
          exact⟨_,this⟩)
        have hcs:(cs.drop 0).take ks.length=cs:=by
          rw[List.drop_zero]
          refine List.take_of_length_le ?_
          have h3:=Nat.eq_of_beq_eq_true hcl
          have h4:QF P (n+1) t=ks.length:=by
            unfold QF Ff
            rw[hu]
            dsimp only
            rw[hck]
          omega
        rw[hcs]at h1
        exact⟨aa,h1.up⟩
      | _=>cases hok
theorem Ahl {r:Reach} {b0:Nat} {u:TypeId} {cs:Array Value} (h:Cell.okWide P w r b0 u (.agg cs)):False:=by
  have h':Cell.ok P w r b0 u (.agg cs):=by
    unfold Cell.okWide at h
    split at h<;>first | exact h | (rename_i hh;cases hh)
  unfold Cell.ok at h'
  split at h'<;>first | (rename_i hh;cases hh;done) | exact h'
def AoU (P:Program) (t:TypeId):Bool:=match P.underlying t with
  | some (.struct _)=>true
  | some (.array _ _)=>true
  | _=>false
theorem open_cell {r:Reach} {b0 n:Nat} {t:TypeId} {v:Value} {d:DataW H} {ps:List MemPlace} {k:CK} (hck:Ff P n t=some [k]) (hspare: ∀ b,spare b=true) (hok:Y0 P n t=true) (ha:AoU P t=false) (hval:Value.okWide P w r b0 t v) (hd:DataW.Trod enc P w base spare held t v d ps) :
    ∃ a,Ai nobody w v a/\((tyl [k]).mk [a]).1=true/\okN n a:=by
  have hc:Cell.okWide P w r b0 t v:=by
    unfold Value.okWide at hval
    unfold AoU at ha
    split at hval<;>first | exact hval | (rename_i hh;rw[hh]at ha;cases ha)
  have hcells:v.cells.toList=[v]:=by
    cases v with
    | agg cs=>exact(Ahl hc).elim
    | _=>rfl
  obtain⟨fuel,h⟩:=hd
  rw[hcells]at h
  obtain⟨aa,h1⟩:=Agl hspare n t [k] fuel [v] _ hck hok h
  obtain⟨a,rfl⟩: ∃ a,aa=[a]:=List.length_eq_one_iff.1 h1.la
  exact⟨a,h1.rel 0 (by show 0<1;omega),h1.made,h1.ok a List.mem_cons_self⟩
theorem Opened.ir {n:Nat} {ks:List CK} {cs:Array Value} {aa:List A} (h:Opened n w ks cs.toList aa) (id:Nat):IR nobody w id (.agg cs) (.agg aa):=by
  refine⟨cs,rfl,?_,fun j hj=>Ai.ic ?_⟩
  ·rw[<- Array.length_toList,h.lc,h.la]
  ·have:=h.rel j (by rw[<- h.la];exact hj)
   rw[List.getD_eq_getElem?_getD,Array.getElem?_toList,<- Array.getD_eq_getD_getElem?]at this
   exact this
theorem Ai.ir {id:Nat} {v:Value} {a:A} (h:Ai nobody w v a):IR nobody w id v a:=by
  have:=h.ic (id:=id)
  cases h<;>exact this
end
end Go.Proofs.YtadefjgbcapakaaGreatDoor.Vm
namespace Go.Proofs.YtadefjgbcapakaaGreatDoor.Vm
open Go Go.Lib
abbrev tabs:List (String×DataW Unit):=[("math/bits.deBruijn32tab",Rows.laid_math_bits_deBruijn32tab),("math/bits.deBruijn64tab",Rows.laid_math_bits_deBruijn64tab),("internal/strconv.uint64pow10",Rows.laid_internal_strconv_uint64pow10),("unicode/utf8.acceptRanges",Rows.laid_unicode_utf8_acceptRanges),("unicode/utf8.first",Rows.laid_unicode_utf8_first)]
def AqW:DataW Unit->Value
  | .lit (.int k n)=>.int k n
  | _=>undef
def J3:DataW Unit->List Value
  | .agg l=>l.map AqW
  | _=>[]
def MZ:DataW Unit->List Value
  | .agg l=>l.flatMap J3
  | _=>[]
noncomputable def laidWorld (os:Os):World :=
  let w0:=World.holding Tryz.prog os ⟨#[],#[],[]⟩
  {w0 with heap:=((((w0.heap.modify 1 fun
     | .cells _ t frozen=>.cells (J3 Rows.laid_internal_strconv_uint64pow10).toArray t frozen
     | o=>o).modify 2 fun
     | .cells _ t frozen=>.cells (J3 Rows.laid_unicode_utf8_first).toArray t frozen
     | o=>o).modify 3 fun
     | .cells _ t frozen=>.cells (MZ Rows.laid_unicode_utf8_acceptRanges).toArray t frozen
     | o=>o).modify 4 fun
     | .cells _ t frozen=>.cells (J3 Rows.laid_math_bits_deBruijn32tab).toArray t frozen
     | o=>o).modify 5 fun
     | .cells _ t frozen=>.cells (J3 Rows.laid_math_bits_deBruijn64tab).toArray t frozen
     | o=>o}
theorem laid_met (os:Os) (args:Array Value):laidMet Tryz.prog tabs ((laidWorld os).forCall (fun _ _=>0) ⟨#[],args,[]⟩).memory :=
  laidMet_of_run' 8 (by kernel_rfl) (by kernel_rfl)
set_option maxRecDepth 100000 in
theorem AmJ {W:World} (h:laidMet Tryz.prog tabs W) (j:Nat) (hj:j<20):W.cell? ⟨1,j,none⟩=some (.int .u64 ((10 ^ j:Nat):Int)):=by
  obtain⟨g,t,cs,fuel,p,hg,ht,hvar,hd⟩:=laidMet.reads h (n:= "internal/strconv.uint64pow10") (d:=Rows.laid_internal_strconv_uint64pow10) (List.mem_cons_of_mem _ (List.mem_cons_of_mem _ List.mem_cons_self))
  obtain rfl:=Option.some.inj ((show Tryz.prog.globalNamed "internal/strconv.uint64pow10" =some 1 by kernel_rfl).symm.trans hg)
  obtain rfl:=Option.some.inj ((show(Tryz.prog.globals[1]?).map (·.type)=some 293 by kernel_rfl).symm.trans ht)
  have hu:Tryz.prog.underlying 293=some (.array 20 208):=by kernel_rfl
  have hu2:Tryz.prog.underlying 208=some (.int .u64):=by kernel_rfl
  have hc:Tryz.prog.cellsOf 208=1:=by kernel_rfl
  have hds:(Rows.laid_internal_strconv_uint64pow10:DataW Unit)= .agg ((List.range 20).map fun j=>.lit (.int .u64 ((10 ^ j:Nat):Int))):=by kernel_rfl
  rw[hds]at hd
  obtain⟨fuel',d,q,h1,h2⟩:=array_elem hu hd j hj
  rw[List.getElem?_map,List.getElem?_range hj]at h1
  injection h1 with h1
  subst h1
  rw[hc,Nat.mul_one]at h2
  obtain⟨n,h3,h4,_⟩:=DataW.trod_int hu2 h2
  have hn:((10 ^ j:Nat):Int)=n:=by
    have:=congrArg Prod.fst h4
    injection this with this
    injection this with _ this
  rw[World.var?_cell hg hvar j]
  have h5:(cs.toList.drop j)[0]? =some (.int .u64 n):=by
    have:((cs.toList.drop j).take 1)[0]? =some (.int .u64 n):=by rw[h3];rfl
    rwa [List.getElem?_take_of_lt (by omega)]at this
  rw[List.getElem?_drop,Nat.add_zero,Array.getElem?_toList]at h5
  rw[h5,hn]
theorem inv_of {W:World} (hs:W.ShapedOpen Tryz.prog) (hl:laidMet Tryz.prog tabs W):Inv nobody W:=by
  refine⟨fun g j p h=> ?_,fun g n h=> ?_⟩
  ·unfold ApK at h
   split at h
   ·injection h with h
    subst h
    obtain⟨m,hm⟩:=cell_of_shapedOpen_int (P:=Tryz.prog) (g:=0) (t:=3) (zero:= #[.int .i64 0]) (k:=.i64) hs (of_decide_eq_true (by kernel_rfl)) (by kernel_rfl) rfl (by kernel_rfl) (by kernel_rfl) (by kernel_rfl)
    exact⟨rfl,_,hm,m,rfl⟩
   ·split at h
    ·rename_i hj
     injection h with h
     subst h
     exact⟨rfl,_,AmJ hl _ hj,rfl⟩
    ·cases h
   ·cases h
  ·unfold ApJ at h
   split at h
   ·injection h with h
    subst h
    obtain⟨cs,h1,h2,_⟩:=hs.1 1 (Array.replicate 20 (.int .u64 0)) 293 (of_decide_eq_true (by kernel_rfl)) (by kernel_rfl)
    exact⟨cs,_,_,h1,h2⟩
   ·cases h
section
variable {H:Type} {enc:TypeId×Value->H}
theorem AeW {a:Assume} {C:Checked} {os:Os} {f:FuncId} {fn:Func} {s:ChangeSpec} {conds:List PathCond} {apart fresh handsOn again:Bool} {X:World->Array Value->Prop}
    (hX: ∀(w w':World) (args:Array Value),w.heap=w'.heap->X w args->X w' args)
    (own:ownKnob C.prog.godebug=none) (started:os.Started) (noInit:C.prog.inits.idxOf? f=none) (hfn:C.prog.funcs[f]? =some fn)
    (witness: ∃(w:World) (tape:Tape) (i:Input),w.os=os/\(w.forCall tape i).Shaped C.prog/\i.vars=[]/\Input.okWide C.prog (w.forCall tape i) .any w.heap.size f i /\
      ((s.pre enc C.prog fn conds apart (w.forCall tape i).memory i.args/\X (w.forCall tape i).memory i.args)/\sizedMet enc C.prog fn (OpenSpec.ofChange s) apart (w.forCall tape i).memory i.args)/\a.holds C.prog (lone (Frame.enter C.prog f i.args .normal) [] (w.forCall tape i)))
    (contract: ∀(W:World) (base:Nat) (args:Array Value) (ds gs:List (DataW H)) (before:List MemPlace),
      (∀(j:Nat) t v,fn.params[j]? =some t->args[j]? =some v->Value.okWide C.prog W .any base t v) ->
      DataW.Whole enc C.prog fn.params.toList s.vars apart W args.toList ds gs before->W.ShapedOpen C.prog->X W args ->
      Calls C.prog f args W fun e W'=> ∃ v,e= .returned v/\s.post enc C.prog fn apart fresh handsOn again W args v W') :
    ReturnsInHanded a C os f .any (fun w args=>(s.pre enc C.prog fn conds apart w args/\X w args)/\sizedMet enc C.prog fn (OpenSpec.ofChange s) apart w args) (s.post enc C.prog fn apart fresh handsOn again):=by
  refine returnsInHanded_of_calls own started noInit witness ?_
  intro w tape i _ hsh _ hok hpre _
  obtain⟨_,_,_,fn',hfn',_,_,_,_,hval⟩:=hok
  obtain rfl:=Option.some.inj (hfn'.symm.trans hfn)
  obtain⟨⟨⟨ds,gs,before,hw,_⟩,hx⟩,_⟩:=hpre
  refine(contract (w.forCall tape i) w.heap.size i.args ds gs before hval (DataW.Whole.of_heap (w':=w.forCall tape i) (by rfl) hw) hsh (hX _ _ _ (by rfl) hx)).mono fun e W' ⟨v,he,hp⟩=> ?_
  subst he
  exact ChangeSpec.post_blind hp
end
