import Derived.Test.YtehkhflpjkokeaaGreatDoorA21
import Derived.ChangeArms
import Derived.SliceStrings
import Derived.Test.YtehkhflpjkokeaaGreatDoorRows
import Derived.Test.YtehkhflpjkokeaaGreatDoorChecked
import Derived.Lib.LaidU8
import Derived.Shelf.Vars
import Derived.HandedShaped
import Derived.LaidLaws
set_option linter.all false
namespace Go.Proofs.YtehkhflpjkokeaaGreatDoor.Vm
open Go.ChangeShapes Go.WideShapes
def nobody:Own:=fun _ _=>none
def Aud:A->Prop
 | .int k n=>k.min<=n/\n<=k.max
 | .str s=>s.length<=9223372036854775807
 | _=>True
def okN:Nat->A->Prop
 | 0,_=>False
 | n+1,.sl l=>l.xs.length<=9223372036854775807/\ ∀ c∈l.es,∀ a∈c,okN n a
 | _+1,a=>Aud a
structure Opened (n:Nat) (w:World) (ks:List CK) (cs:List Value) (aa:List A):Prop where
 lc:cs.length=ks.length
 la:aa.length=ks.length
 rel: ∀ j,j<ks.length->J3 nobody w (cs.getD j undef) (aa.getD j .undef)
 made:((tyl ks).mk aa).1=true
 ok: ∀ a∈aa,okN n a
def AwC: ∀(n:Nat) (a:A),okN n a->okN (n+1) a:=by
 intro n
 induction n with
 | zero=>intro a h;exact h.elim
 | succ n ih =>intro a h;cases a<;>first | exact h | exact⟨h.1,fun c hc z hz=>ih z (h.2 c hc z hz)⟩
def Opened.up {n:Nat} {w:World} {ks:List CK} {cs:List Value} {aa:List A} (h:Opened n w ks cs aa):Opened (n+1) w ks cs aa:=⟨h.lc,h.la,h.rel,h.made,fun a ha=>AwC n a (h.ok a ha)⟩
def ArQ: ∀(a:List CK) {b:List CK} {x y:List A},((tyl a).mk x).1=true->((tyl b).mk y).1=true->((tyl (a++b)).mk (x++y)).1=true:=by
 intro a
 induction a with
 | nil =>
  intro b x y hx hy;cases x with
  | nil=>exact hy
  | cons _ _=>cases hx
 | cons k a ih =>
  intro b x y hx hy;cases k with
  | bool =>
   cases x with
   | nil=>cases hx
   | cons c x=>cases c<;>first | exact ih (x:=x) hx hy | cases hx
  | int k =>
   cases x with
   | nil=>cases hx
   | cons c x =>
    cases c<;>first
     | (simp only[tyl,Ty.mk,Du]at hx
        simp only[List.cons_append,tyl,Ty.mk,Du];exact⟨hx.1,ih hx.2 hy⟩)
     | cases hx
  | str =>
   cases x with
   | nil=>cases hx
   | cons c x=>cases c<;>first | exact ih (x:=x) hx hy | cases hx
  | sl e t =>
   cases x with
   | nil=>cases hx
   | cons c x =>
    cases c with
    | sl l =>
     simp only[tyl,Ty.mk]at hx;simp only[List.cons_append,tyl,Ty.mk];cases hc:l.cast t with
     | none=>rw[hc]at hx;cases hx
     | some xs=>rw[hc]at hx;exact ih (x:=x) hx hy
    | _=>cases hx
  | sln e t =>
   cases x with
   | nil=>cases hx
   | cons c x =>
    cases c with
    | sl l =>
     simp only[tyl,Ty.mk]at hx;simp only[List.cons_append,tyl,Ty.mk];cases hc:l.cast t with
     | none=>rw[hc]at hx;cases hx
     | some xs=>rw[hc]at hx;exact ih (x:=x) hx hy
    | _=>cases hx
  | ptr =>
   cases x with
   | nil=>cases hx
   | cons c x=>cases c<;>first | exact ih (x:=x) hx hy | cases hx
  | fn =>
   cases x with
   | nil=>cases hx
   | cons c x=>cases c<;>first | exact ih (x:=x) hx hy | cases hx
  | mp kt vt =>
   cases x with
   | nil=>cases hx
   | cons c x =>
    cases c with
    | ump l =>
     simp only[tyl,Ty.mk]at hx;simp only[List.cons_append,tyl,Ty.mk];cases hc:l.cast kt vt with
     | none=>rw[hc]at hx;cases hx
     | some xs=>rw[hc]at hx;exact ih (x:=x) hx hy
    | _=>cases hx
  | bx t =>
   cases x with
   | nil=>cases hx
   | cons c x =>
    cases c with
    | sl l =>
     simp only[tyl,Ty.mk]at hx;simp only[List.cons_append,tyl,Ty.mk];cases hc:l.cast t with
     | none=>rw[hc]at hx;cases hx
     | some xs=>rw[hc]at hx;exact ih (x:=x) hx hy
    | _=>cases hx
  | oth =>
   cases x with
   | nil=>cases hx
   | cons c x=>cases c<;>first | exact ih (x:=x) hx hy | cases hx
theorem Opened.nil {n:Nat} {w:World}:Opened n w [] [] []:=⟨rfl,rfl,fun j hj=>absurd hj (Iy j),rfl,fun a ha=>(by cases ha)⟩
def Opened.append {n:Nat} {w:World} {a b:List CK} {x y:List Value} {p q:List A} (h1:Opened n w a x p) (h2:Opened n w b y q):Opened n w (a++b) (x++y) (p++q):=by
 refine⟨by simp [h1.lc,h2.lc],by simp [h1.la,h2.la],fun j hj=> ?_,ArQ a h1.made h2.made,fun z hz=> ?_⟩
 .rw[Dx]at hj;by_cases h:j<a.length
  .have:=h1.rel j h;rw[Dj,Eu (by rw[h1.lc];exact h),<- Dj,Dj (l:=p++q),Eu (by rw[h1.la];exact h),<- Dj];exact this
  .have:=h2.rel (j - a.length) (by omega);rw[Dj,EC (by rw[h1.lc];omega),<- Dj,Dj (l:=p++q),EC (by rw[h1.la];omega),<- Dj,h1.lc,h1.la];exact this
 .rcases DJ.1 hz with hz | hz
  .exact h1.ok z hz
  .exact h2.ok z hz
def Opened.one {n:Nat} {w:World} {k:CK} {v:Value} {a:A} (hr:J3 nobody w v a) (hm:((tyl [k]).mk [a]).1=true) (ho:okN n a):Opened n w [k] [v] [a] :=
 ⟨rfl,rfl,fun j hj=>by
   have:j=0:=by simp at hj;omega
   subst this;exact hr,hm,fun z hz=>by rw[DT.1 hz];exact ho⟩
def Y6 (P:Program) (n t:Nat):Nat:=match ND P n t with | some cs=>cs.length | none=>0
def AeK (P:Program) (n:Nat):List Field->Nat->Bool
 | [],_=>true
 | f::r,o=>Nat.beq f.offset o&&Nat.beq (P.cellsOf f.type) (Y6 P n f.type)&&AeK P n r (o+Y6 P n f.type)
def fK (P:Program):Nat->Nat->Bool
 | 0,_=>false
 | n+1,t=>match P.underlying t with
  | some .bool=>true
  | some (.int _)=>true
  | some .string=>true
  | some (.slice e)=>fK P n e&&Nat.beq (P.cellsOf e) (Y6 P n e)&&Nat.blt 0 (Y6 P n e)&&(match ND P n e with | some cs=>cs.all CK.plain | none=>false)
  | some (.struct fs)=>Nat.beq (P.cellsOf t) (Y6 P (n+1) t)&&AeK P n fs.toList 0&&fs.toList.all (fun f=>fK P n f.type)
  | _=>false
section
variable {H:Type} {enc:TypeId×Value->H} {P:Program} {w:World} {base:Nat} {spare:Nat->Bool} {held:Bool}
theorem wY {a:Addr} {n:Nat} {cs:List Value} (h:w.cells? base a n=some cs):cs.length=n/\ ∀ j,j<n->w.cell? (a.add j)=some (cs.getD j undef):=by
 unfold World.cells? at h;split at h
 .have key: ∀(l:List Nat) (cs:List Value),l.mapM (fun i=>w.cell? (a.add i))=some cs->cs.length=l.length/\ ∀ j (hj:j<l.length),w.cell? (a.add l[j])=some (cs.getD j undef):=by
   intro l
   induction l with
   | nil=>grind
   | cons i l ih =>
    intro cs h;rw[I5]at h;cases h1:w.cell? (a.add i)with
    | none=>rw[h1]at h;cases h
    | some v =>
     rw[h1]at h;cases h2:l.mapM (fun i=>w.cell? (a.add i))with
     | none=>rw[h2]at h;cases h
     | some r =>
      rw[h2]at h;injection h with h;subst h;obtain⟨k1,k2⟩:=ih r h2;refine⟨by simp [k1],fun j hj=> ?_⟩;cases j with
      | zero=>exact h1
      | succ j=>grind
  all_goals grind
 .cases h
theorem Au4 {l:List Value} {o a b:Nat}:(l.drop o).take (a+b)=(l.drop o).take a++(l.drop (o+a)).take b:=by rw[List.take_add,FN]
theorem sU (e:Nat) (t:Ty) (xs:List t.Val):((tyl [.sl e t]).mk [.sl ⟨t,xs⟩]).1=true:=by simp only[tyl,Ty.mk];rw[Sl.YZ];rfl
theorem Acm (hspare: ∀ b,spare b=true): ∀(n:Nat) (t:TypeId) (ks:List CK) (fuel:Nat) (cs:List Value) (x:DataW H×List MemPlace),ND P n t=some ks->fK P n t=true->DataW.trod enc P w base spare held fuel t cs=some x ->
 ∃ aa,Opened n w ks cs aa:=by
 intro n
 induction n with
 | zero=>intro t ks fuel cs x h;cases h
 | succ n ih =>
  intro t ks fuel cs x hck hok h;unfold ND at hck;unfold fK at hok;cases hu:P.underlying t with
  | none=>rw[hu]at hck;cases hck
  | some d =>
   rw[hu]at hck hok;cases d with
   | bool =>injection hck with hck;subst hck;obtain⟨b,rfl,_⟩:=DataW.trod_bool hu h;exact⟨[.bool b],Opened.one (.bool b) rfl trivial⟩
   | int k =>
    injection hck with hck;subst hck;obtain⟨v,rfl,_,hw⟩:=DataW.trod_int hu h;have hk:Aud (.int k v):=by unfold Lit.wf at hw;rw[Du,Dz,Dz]at hw;exact hw
    exact⟨[.int k v],Opened.one (.int k v) (by cases k<;>rfl) hk⟩
   | string =>
    injection hck with hck;subst hck;obtain⟨v,rfl,_,hw⟩:=DataW.trod_string hu h
    have hk:Aud (.str v.data.toList):=by
     show v.data.toList.length<=_;have e:v.data.toList.length=v.size:=by rw[Array.length_toList];rfl
     have:maxLen=9223372036854775807:=rfl;omega
    exact⟨[.str v.data.toList],Opened.one (.str v) rfl hk⟩
   | slice e =>
    dsimp only at hck hok;simp only[Du]at hok;obtain⟨⟨⟨hoe,hce⟩,hc0⟩,hpl⟩:=hok;cases hke:ND P n e with
    | none=>rw[hke]at hpl;cases hpl
    | some ke =>
     rw[hke]at hck hpl;dsimp only at hck hpl;rw[hpl]at hck;injection hck with hck;subst hck;have hlen:P.cellsOf e=ke.length:=by have:=Dy hce;unfold Y6 at this;rw[hke]at this;exact this
     rcases DataW.trod_slice hu h with ⟨rfl,_⟩ | ⟨a,len,cap,elems,rest,m,_,rfl,_,hb,hl,hm,hel,hels,hsp,_⟩
     .exact⟨[.sl ⟨tyl ke,[]⟩],Opened.one (.nil _) (sU _ _ _) ⟨EG _,fun c hc=>(by cases hc)⟩⟩
     .by_cases hcap:cap=0
      .have hlen0:len=0:=by omega
       subst hcap;subst hlen0;exact⟨[.sl ⟨tyl ke,[]⟩],Opened.one (.sl0 a _) (sU _ _ _) ⟨EG _,fun c hc=>(by cases hc)⟩⟩
      have hk0:0<P.cellsOf e:=by have h2:=Dy hce;rw[h2];simpa using hc0
      have hread: ∃ u,w.cell? a=some u:=by
       by_cases h0:0<len
       .have he:=hels 0 h0;rw[DC (by omega:0<elems.length),H5]at he;obtain⟨q,hq,_⟩:=he;obtain⟨_,k2⟩:=wY hq;have:=k2 0 hk0;rw[Iq]at this;exact⟨_,this⟩
       .have hz:len=0:=by omega
        obtain⟨hr1,hr2⟩:=hsp (hspare _);have he:=hr2 0 (by omega);rw[DC (by omega:0<rest.length),H5]at he;obtain⟨q,hq,_⟩:=he;obtain⟨_,k2⟩:=wY hq;have:=k2 0 hk0;rw[hz,Iq]at this;exact⟨_,this⟩
      have hspot:a.spot=none:=by
       obtain⟨u,hu⟩:=hread;unfold World.cell? at hu;split at hu
       .cases hs:a.spot with
        | none=>rfl
        | some z=>rw[hs]at hu;cases hu
       .cases hu
      have ha:a=at' a.block a.off:=by obtain⟨b,o,sp⟩:=a;dsimp only at hspot;rw[hspot]
      have each: ∀ i,∃(q:List Value) (aa:List A),i<len->(∀ j,j<ke.length->w.cell? (at' a.block (a.off+(i*ke.length+j)))=some (q.getD j undef))/\Opened n w ke q aa:=by
       intro i;by_cases hi:i<len
       .have he:=hels i hi;have hei:elems[i]? =some (elems[i]'(by omega)):=DC (by omega);rw[hei,H5]at he;obtain⟨q,hq,hq2⟩:=he;obtain⟨k1,k2⟩:=wY hq;rw[hlen]at k1 k2;obtain⟨aa,h1⟩:=ih e ke m q _ hke hoe hq2;refine⟨q,aa,fun _=>⟨fun j hj=> ?_,h1⟩⟩;have:=k2 j hj;rw[ha,QK,QK]at this;rw[<- this];congr 2;omega
       .exact⟨[],[],fun h=>absurd h hi⟩
      obtain⟨q,hq⟩:=Hu each;obtain⟨aa,haa⟩:=Hu hq;let l:Sl:=⟨tyl ke,(List.range len).map fun i=>((tyl ke).mk (aa i)).2⟩
      have hes:l.es=(List.range len).map aa:=by show((List.range len).map fun i=>((tyl ke).mk (aa i)).2).map (tyl ke).cells=_;rw[EW];refine ED fun i hi=> ?_;exact Ty.TA _ _ (haa i (GK.1 hi)).2.made
      have hesl:l.es.length=len:=by rw[hes,D5,DK]
      have hsz:l.sz=ke.length:=V9 ke;have hget: ∀ i,i<len->l.es.getD i []=aa i:=fun i hi=>by rw[hes,Dj,EF,IU hi];rfl
      have hrel:J3 nobody w (.slice (some a) len cap) (.sl l):=by
       rw[ha,<- hesl];refine J3.sl (fun i j=>(q i).getD j undef) (by rw[hesl];exact hl) (fun i j hi hj=> ?_) (fun i j hi hj=> ?_)
       .rw[hsz]at hj ⊢;exact⟨rfl,(haa i (by rw[<- hesl];exact hi)).1 j hj⟩
       .rw[hsz]at hj;have hi':i<len:=by rw[<- hesl];exact hi
        rw[hget i hi'];exact(haa i hi').2.rel j hj
      refine⟨[.sl l],Opened.one hrel (sU _ _ _) ⟨?_,fun c hc z hz=> ?_⟩⟩
      .show((List.range len).map _).length<=_;rw[D5,DK];have:maxLen=9223372036854775807:=rfl;omega
      .rw[hes]at hc;obtain⟨i,hi,rfl⟩:=DF.1 hc;exact(haa i (GK.1 hi)).2.ok z hz
   | struct fs =>
    dsimp only at hck hok;simp only[Du]at hok;obtain⟨⟨hcl,hoff⟩,hall⟩:=hok;obtain⟨xs,m,_,_,hl,hxl,hxs⟩:=DataW.trod_struct hu h
    have fields: ∀(l:List Field) (o:Nat) (ks:List CK),l.foldr (fun f acc=>match ND P n f.type,acc with | some a,some b=>some (a++b) | _,_=>none) (some [])=some ks->AeK P n l o=true->(∀ f∈l,fK P n f.type=true) ->
     (∀ f∈l,∃ y,DataW.trod enc P w base spare held m f.type ((cs.drop f.offset).take (P.cellsOf f.type))=some y)-> ∃ aa,Opened n w ks ((cs.drop o).take ks.length) aa:=by
     intro l
     induction l with
     | nil =>intro o ks hk _ _ _;injection hk with hk;subst hk;exact⟨[],Opened.nil⟩
     | cons f r ihr =>
      intro o ks hk ho hf hy;rw[List.foldr_cons]at hk;cases ha:ND P n f.type with
      | none=>rw[ha]at hk;cases hk
      | some a =>
       rw[ha]at hk;cases hb:r.foldr (fun f acc=>match ND P n f.type,acc with | some a,some b=>some (a++b) | _,_=>none) (some [])with
       | none=>rw[hb]at hk;cases hk
       | some b =>
        rw[hb]at hk;injection hk with hk;subst hk;have hal:Y6 P n f.type=a.length:=by unfold Y6;rw[ha]
        unfold AeK at ho;simp only[Du]at ho;obtain⟨⟨h1,h2⟩,h3⟩:=ho;have h1:=Dy h1;have h2:=Dy h2;rw[hal]at h2 h3;obtain⟨y,hy1⟩:=hy f Dv;rw[h1,h2]at hy1;obtain⟨pa,p1⟩:=ih f.type a m _ y ha (hf f Dv) hy1;obtain⟨pb,q1⟩:=ihr (o+a.length) b hb h3 (fun g hg=>hf g (Dw _ hg)) (fun g hg=>hy g (Dw _ hg));refine⟨pa++pb,?_⟩;rw[Dx,Au4];exact p1.append q1
    obtain⟨aa,h1⟩:=fields fs.toList 0 ks hck hoff (fun f hf=>DD.1 hall f hf) (fun f hf=>by
     obtain⟨i,hi⟩:=List.getElem?_of_mem hf;have hi':fs[i]? =some f:=by rw[<- Eg];exact hi
     have:=hxs i f hi';have hlt:i<xs.length:=by rw[hxl];exact(Ee.1 hi').1
     rw[DC hlt]at this;exact⟨_,this⟩)
    have hcs:(cs.drop 0).take ks.length=cs:=by
     rw[FP];refine Fb ?_;have h3:=Dy hcl;have h4:Y6 P (n+1) t=ks.length:=by unfold Y6 ND;rw[hu];dsimp only;rw[hck]
     omega
    rw[hcs]at h1;exact⟨aa,h1.up⟩
   | _=>cases hok
theorem AoA {r:Reach} {b0:Nat} {u:TypeId} {cs:Array Value} (h:Cell.okWide P w r b0 u (.agg cs)):False:=by
 have h':Cell.ok P w r b0 u (.agg cs):=by unfold Cell.okWide at h;all_goals grind
 unfold Cell.ok at h';all_goals grind
def Aot (P:Program) (t:TypeId):Bool:=match P.underlying t with
 | some (.struct _)=>true
 | some (.array _ _)=>true
 | _=>false
theorem open_cell {r:Reach} {b0 n:Nat} {t:TypeId} {v:Value} {d:DataW H} {ps:List MemPlace} {k:CK} (hck:ND P n t=some [k]) (hspare: ∀ b,spare b=true) (hok:fK P n t=true) (ha:Aot P t=false) (hval:Value.okWide P w r b0 t v) (hd:DataW.Trod enc P w base spare held t v d ps) :
 ∃ a,J3 nobody w v a/\((tyl [k]).mk [a]).1=true/\okN n a:=by
 have hc:Cell.okWide P w r b0 t v:=by unfold Value.okWide at hval;all_goals grind[Aot]
 have hcells:v.cells.toList=[v]:=by
  cases v with
  | agg cs=>exact(AoA hc).elim
  | _=>rfl
 obtain⟨fuel,h⟩:=hd;rw[hcells]at h;obtain⟨aa,h1⟩:=Acm hspare n t [k] fuel [v] _ hck hok h;obtain⟨a,rfl⟩: ∃ a,aa=[a]:=Fz.1 h1.la;exact⟨a,h1.rel 0 (by show 0<1;omega),h1.made,h1.ok a Dv⟩
theorem Aug {r:Reach} {b0 n:Nat} {t:TypeId} {v:Value} {d:DataW H} {ps:List MemPlace} {ks:List CK} (hck:ND P n t=some ks) (hspare: ∀ b,spare b=true) (hok:fK P n t=true) (ha:Aot P t=true) (hval:Value.okWide P w r b0 t v) (hd:DataW.Trod enc P w base spare held t v d ps) :
 ∃(cs:Array Value) (aa:List A),v= .agg cs/\Opened n w ks cs.toList aa:=by
 have hc: ∃ cs,v= .agg cs/\cs.size=P.cellsOf t/\Row.okWide P w r b0 t cs:=by unfold Value.okWide at hval;all_goals grind[Aot]
 obtain⟨cs,rfl,_,ts,_,_,hrow⟩:=hc;obtain⟨fuel,h⟩:=hd;obtain⟨aa,h1⟩:=Acm hspare n t ks fuel cs.toList _ hck hok h;exact⟨cs,aa,rfl,h1⟩
theorem Opened.ir {n:Nat} {ks:List CK} {cs:Array Value} {aa:List A} (h:Opened n w ks cs.toList aa) (id:Nat):IR nobody w id (.agg cs) (.agg aa):=by
 refine⟨cs,rfl,?_,fun j hj=>J3.ic ?_⟩
 .rw[<- Array.length_toList,h.lc,h.la]
 .have:=h.rel j (by rw[<- h.la];exact hj);all_goals simp_all[CK,IR,nobody]
theorem J3.ir {id:Nat} {v:Value} {a:A} (h:J3 nobody w v a):IR nobody w id v a:=by have:=h.ic (id:=id);cases h<;>exact this
end
open Go Go.Lib
abbrev tabs:List (String×DataW Unit):=[("math/bits.deBruijn32tab",Rows.laid_math_bits_deBruijn32tab),("math/bits.deBruijn64tab",Rows.laid_math_bits_deBruijn64tab),("internal/strconv.uint64pow10",Rows.laid_internal_strconv_uint64pow10),("unicode/utf8.acceptRanges",Rows.laid_unicode_utf8_acceptRanges),("certpath/date.lengths",Rows.laid_certpath_date_lengths),("unicode/utf8.first",Rows.laid_unicode_utf8_first)]
def AxE:DataW Unit->Value
 | .lit (.int k n)=>.int k n
 | _=>undef
def AgR:DataW Unit->List Value
 | .agg l=>l.map AxE
 | _=>[]
def AxH:DataW Unit->List Value
 | .agg l=>l.flatMap AgR
 | _=>[]
noncomputable def laidWorld (os:Os):World :=
 let w0:=World.holding Tryz.prog os ⟨#[],#[],[]⟩
 {w0 with heap:=(((((w0.heap.modify 2 fun
  | .cells _ t frozen=>.cells (AgR Rows.laid_internal_strconv_uint64pow10).toArray t frozen
  | o=>o).modify 3 fun
  | .cells _ t frozen=>.cells (AgR Rows.laid_unicode_utf8_first).toArray t frozen
  | o=>o).modify 4 fun
  | .cells _ t frozen=>.cells (AxH Rows.laid_unicode_utf8_acceptRanges).toArray t frozen
  | o=>o).modify 5 fun
  | .cells _ t frozen=>.cells (AgR Rows.laid_math_bits_deBruijn32tab).toArray t frozen
  | o=>o).modify 0 fun
  | .cells _ t frozen=>.cells (AgR Rows.laid_certpath_date_lengths).toArray t frozen
  | o=>o).modify 6 fun
  | .cells _ t frozen=>.cells (AgR Rows.laid_math_bits_deBruijn64tab).toArray t frozen
  | o=>o}
def laid_met (os:Os) (args:Array Value):laidMet Tryz.prog tabs ((laidWorld os).forCall (fun _ _=>0) ⟨#[],args,[]⟩).memory :=
 laidMet_of_run' 8 (by kernel_rfl) (by kernel_rfl)
set_option maxRecDepth 1000000 in
def AjK {W:World} (h:laidMet Tryz.prog tabs W) {nm:String} {D:DataW Unit} (hm:(nm,D)∈tabs) {g tA tE n:Nat} {k:IntKind} {f:Nat->Int} (hg0:Tryz.prog.globalNamed nm=some g) (ht0:(Tryz.prog.globals[g]?).map (·.type)=some tA) (hu:Tryz.prog.underlying tA=some (.array n tE)) (hu2:Tryz.prog.underlying tE=some (.int k)) (hc:Tryz.prog.cellsOf tE=1)
 (hds:D= .agg ((List.range n).map fun j=>.lit (.int k (f j)))) (j:Nat) (hj:j<n):W.cell? ⟨g,j,none⟩=some (.int k (f j)):=by
 obtain⟨g',t,cs,fuel,p,hg,ht,hvar,hd⟩:=laidMet.reads h (n:=nm) (d:=D) hm;obtain rfl:=GG (hg0.symm.trans hg);obtain rfl:=GG (ht0.symm.trans ht);rw[hds]at hd;obtain⟨fuel',d,q,h1,h2⟩:=array_elem hu hd j hj;rw[EF,IU hj]at h1;have h1:=GG h1;subst h1;rw[hc,Fh]at h2;obtain⟨m,h3,h4,_⟩:=DataW.trod_int hu2 h2;have hn:f j=m:=by have:=congrArg Prod.fst h4;injection this with this;injection this with _ this
 rw[World.var?_cell hg hvar j]
 have h5:(cs.toList.drop j)[0]? =some (.int k m):=by
  have:((cs.toList.drop j).take 1)[0]? =some (.int k m):=by rw[h3];rfl
  rwa [Hf (by omega)]at this
 rw[FO,Nat.add_zero,Eg]at h5;rw[h5,hn]
set_option maxRecDepth 1000000 in
def Aul {W:World} (h:laidMet Tryz.prog tabs W) (j:Nat) (hj:j<20):W.cell? ⟨2,j,none⟩=some (.int .u64 ((10 ^ j:Nat):Int)):=by
 have hds:(Rows.laid_internal_strconv_uint64pow10:DataW Unit)= .agg ((List.range 20).map fun j=>.lit (.int .u64 ((10 ^ j:Nat):Int))):=by kernel_rfl
 have hm:(("internal/strconv.uint64pow10",Rows.laid_internal_strconv_uint64pow10):String×DataW Unit)∈tabs:=Dw _ (Dw _ Dv);generalize (Rows.laid_internal_strconv_uint64pow10:DataW Unit)=D at hds hm;exact AjK h (nm:= "internal/strconv.uint64pow10") (D:=D) hm (g:=2) (tA:=338) (tE:=199) (n:=20) (k:=.u64) (f:=fun j=>((10 ^ j:Nat):Int)) (by kernel_rfl) (by kernel_rfl) (by kernel_rfl) (by kernel_rfl) (by kernel_rfl) hds j hj
set_option maxRecDepth 1000000 in
def AtO {W:World} (h:laidMet Tryz.prog tabs W) (j:Nat) (hj:j<12):W.cell? ⟨0,j,none⟩=some (.int .i64 (([31,28,31,30,31,30,31,31,30,31,30,31]:List Int).getD j 0)) :=
 AjK h (nm:= "certpath/date.lengths") (D:=Rows.laid_certpath_date_lengths) (Dw _ (Dw _ (Dw _ (Dw _ Dv)))) (g:=0) (tA:=241) (tE:=3) (n:=12) (k:=.i64) (f:=fun j=>([31,28,31,30,31,30,31,31,30,31,30,31]:List Int).getD j 0) (by kernel_rfl) (by kernel_rfl) (by kernel_rfl) (by kernel_rfl) (by kernel_rfl) (by kernel_rfl) j hj
def inv_of {W:World} (hs:W.ShapedOpen Tryz.prog) (hl:laidMet Tryz.prog tabs W):Inv nobody W:=by
 refine⟨fun g j p h=> ?_,fun g n h=> ?_⟩
 .unfold lG at h;split at h
  .injection h with h;subst h;obtain⟨m,hm⟩:=cell_of_shapedOpen_int (P:=Tryz.prog) (g:=1) (t:=3) (zero:= #[.int .i64 0]) (k:=.i64) hs (D9 (by kernel_rfl)) (by kernel_rfl) rfl (by kernel_rfl) (by kernel_rfl) (by kernel_rfl);exact⟨rfl,_,hm,m,rfl⟩
  .split at h
   .rename_i hj;injection h with h;subst h;exact⟨rfl,_,Aul hl _ hj,rfl⟩
   .cases h
  .unfold AaG at h;split at h
   .have h:(if j<12 then some (fun v=>v=Value.int .i64 (([31,28,31,30,31,30,31,31,30,31,30,31]:List Int).getD j 0))else none)=some p:=h;split at h
    .rename_i hj;injection h with h;subst h;exact⟨rfl,_,AtO hl _ hj,rfl⟩
    .cases h
   .cases h
 .unfold Au6 at h;split at h
  .injection h with h;subst h;obtain⟨cs,h1,h2,_⟩:=hs.1 2 (Array.replicate 20 (.int .u64 0)) 338 (D9 (by kernel_rfl)) (by kernel_rfl);exact⟨cs,_,_,h1,h2⟩
  .cases h
section
variable {H:Type} {enc:TypeId×Value->H}
def AlL {a:Assume} {C:Checked} {os:Os} {f:FuncId} {fn:Func} {s:ChangeSpec} {conds:List PathCond} {apart fresh handsOn again:Bool} {X:World->Array Value->Prop}
 (hX: ∀(w w':World) (args:Array Value),w.heap=w'.heap->X w args->X w' args)
 (own:ownKnob C.prog.godebug=none) (started:os.Started) (noInit:C.prog.inits.idxOf? f=none) (hfn:C.prog.funcs[f]? =some fn)
 (witness: ∃(w:World) (tape:Tape) (i:Input),w.os=os/\(w.forCall tape i).Shaped C.prog/\i.vars=[]/\Input.okWide C.prog (w.forCall tape i) .any w.heap.size f i /\
   ((s.pre enc C.prog fn conds apart (w.forCall tape i).memory i.args/\X (w.forCall tape i).memory i.args)/\sizedMet enc C.prog fn (OpenSpec.ofChange s) apart (w.forCall tape i).memory i.args)/\a.holds C.prog (lone (Frame.enter C.prog f i.args .normal) [] (w.forCall tape i)))
 (contract: ∀(W:World) (base:Nat) (args:Array Value) (ds gs:List (DataW H)) (before:List MemPlace),
   (∀(j:Nat) t v,fn.params[j]? =some t->args[j]? =some v->Value.okWide C.prog W .any base t v) ->
   DataW.Whole enc C.prog fn.params.toList s.vars apart W args.toList ds gs before->W.ShapedOpen C.prog->X W args ->
   Calls C.prog f args W fun e W'=> ∃ v,e= .returned v/\s.post enc C.prog fn apart fresh handsOn again W args v W') :
 ReturnsInHanded a C os f .any (fun w args=>(s.pre enc C.prog fn conds apart w args/\X w args)/\sizedMet enc C.prog fn (OpenSpec.ofChange s) apart w args) (s.post enc C.prog fn apart fresh handsOn again):=by
 refine returnsInHanded_of_calls own started noInit witness ?_;intro w tape i _ hsh _ hok hpre _;obtain⟨_,_,_,fn',hfn',_,_,_,_,hval⟩:=hok;obtain rfl:=GG (hfn'.symm.trans hfn);obtain⟨⟨⟨ds,gs,before,hw,_⟩,hx⟩,_⟩:=hpre;refine(contract (w.forCall tape i) w.heap.size i.args ds gs before hval (DataW.Whole.of_heap (w':=w.forCall tape i) (by rfl) hw) hsh (hX _ _ _ (by rfl) hx)).mono fun e W' ⟨v,he,hp⟩=> ?_;subst he;exact ChangeSpec.post_blind hp
end
end Go.Proofs.YtehkhflpjkokeaaGreatDoor.Vm
