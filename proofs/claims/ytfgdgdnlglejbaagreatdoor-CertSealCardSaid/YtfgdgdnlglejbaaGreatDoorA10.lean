import Derived.Test.YtfgdgdnlglejbaaGreatDoorA9
import Derived.Sort.OwnSorted
import Derived.ArgAppend
import Derived.Outline
import Derived.BigQuiet
import Derived.Deep.RegionWith
import Derived.Lib.Walk
import Derived.Laws.RangeString
import Derived.Laws.RangeAny
import Derived.LoopTactic
import Derived.BigGuardPart
set_option linter.all false
namespace Go.Proofs.YtfgdgdnlglejbaaGreatDoor
open Go.RowKit Go.Sort Vm
theorem Aif (l:List (List UInt8)):Lib.join l []=l.flatten:=by
 cases l with
 | nil=>rfl
 | cons a r =>rw[Lib.join_cons];unfold Lib.joinTail;simp
theorem AtT {w:World} {g cap n:Nat} {ts:List Bs} {cur:Array Value} {e:TypeId} (hn:ts.length=n) (hb:w.heap[g]? =some (.cells cur e (0,0))) (ht:cur.toList.take n=ts.map encStr) (hc:n<=cap) (h1:n<=140737488355328) (hl:ts.flatten.length<=140737488355328) :
 Calls Tryz.prog 209 #[.slice (some ⟨g,0,none⟩) n cap,.string ⟨#[]⟩] w fun e w'=>e= .returned (.string ⟨ts.flatten.toArray⟩)/\Below w.heap.size w w':=by
 have hm:(ts.map (fun s=>(⟨s.toArray⟩:ByteArray))).map (·.data.toList)=ts:=by
  rw[List.map_map]
  conv=>rhs;rw[<- List.map_id ts]
  refine List.map_congr_left fun s _=> ?_;simp
 have hj:=Tryz.strings_Join g 0 cap (ts.map (fun s=>(⟨s.toArray⟩:ByteArray))) ⟨#[]⟩ w (fun j x hx=>by
  have hx':(ts.map encStr)[j]? =some (.string x):=by
   rw[List.getElem?_map]at hx ⊢;cases hq:ts[j]? with
   | none=>rw[hq]at hx;cases hx
   | some y=>rw[hq]at hx;injection hx with hx;rw[<- hx];rfl
  rw[<- ht]at hx'
  have hjn:j<n:=by
   rcases Nat.lt_or_ge j n with h | h
   ·exact h
   ·rw[List.getElem?_take_eq_none h]at hx';cases hx'
  rw[List.getElem?_take_of_lt hjn,Array.getElem?_toList]at hx';simp only[World.cell?,hb,Nat.zero_add];exact hx') (Array.getElem?_eq_some_iff.1 hb).1 (by rw[List.length_map,hn];exact h1) (by rw[List.length_map,hn];exact hc) (by rw[hm];show(Lib.join ts []).length<=_;rw[Aif];exact hl)
 rw[List.length_map,hn,hm]at hj;refine hj.mono fun e w' hq=>⟨hq.1.trans ?_,hq.2⟩
 show Ending.returned (Value.string ⟨(Lib.join ts []).toArray⟩)=_;rw[Aif]
theorem Aky {a b:List Bs} (h:a.Perm b):a.flatten.length=b.flatten.length:=by rw[List.length_flatten,List.length_flatten];exact(h.map _).sum_nat
set_option maxHeartbeats 1000000 in
set_option maxRecDepth 1000000 in
theorem AoQ (w:World) (b o c:Nat) (ss:List Bs) (R:Bs) (hR:QU ss=R) (h0:0<ss.length) (hlen:ss.length<=1099511627776) (hflat:ss.flatten.length<=140737488355328)
 (hcells: ∀(j:Nat) (u:Value),(ss.map encStr)[j]? =some u->w.cell? ⟨b,o+j,none⟩=some u) :
 Calls Tryz.prog 125 #[.slice (some ⟨b,o,none⟩) ss.length c] w fun e w'=>e= .returned (.string ⟨R.toArray⟩)/\Below w.heap.size w w':=by
 have hi:Tryz.prog.info? 9=some _:=rfl
 go_enter Tryz.func125,Tryz.ntmps125
 go_wp2_with (at_builtin;go_loud (refine wpList_append_grows w rfl _ _ _ rfl 9 _ _ 1 16 rfl hi rfl rfl rfl rfl (by decide) none 0 0 [] rfl (fun _=>⟨rfl,rfl⟩) rfl (fun _ h=>by cases h) ⟨b,o,none⟩ ss.length c (ss.map encStr) rfl (by simp) (fun j u h=>by rw[Addr.add_lit];exact hcells j u h) (fun u hu=>by obtain⟨x,_,rfl⟩:=List.mem_map.1 hu;rfl) (by omega) (by show _<=maxLen;simp only[maxLen];omega) (by omega) ?_))
 intro v' w1 hown hgr;rcases hown.2 with ⟨_,h⟩ | ⟨g,cap,cur,rfl,hbase,hbk,h1,h2,h3,h4⟩
 ·exfalso;omega
 have h4':cur.toList.take ss.length=ss.map encStr:=by simpa using h4
 have hH:Holds encStr w1 g 0 ss.toArray:=holds_of_block hbk h4';have hB1:Below w.heap.size w w1:=Below.grown (Below.refl _ _) hgr (Nat.le_refl _) (fun k hk=>by cases hk);have hsort:=Tryz.sort_Strings g 0 cap ss w1 hH (Array.getElem?_eq_some_iff.1 hbk).1 (by omega);have hperm:(ss.mergeSort fun x y=>decide (x<=y)).Perm ss:=List.mergeSort_perm _ _;have hord:QU ss=(ss.mergeSort fun x y=>decide (x<=y)).flatten:=rfl;have hfl:=Aky hperm;have hts:=hperm.length_eq;generalize (ss.mergeSort fun x y=>decide (x<=y))=ts at hsort hord hfl hts;have hRt:ts.flatten=R:=hord.symm.trans hR;have hB2: ∀ n os,Below w.heap.size w (grow (putRow encStr (Sort.ahead w1 n) g 0 ts.toArray) os):=fun n os=>Below.grown hB1 (grownBy_sorted ts.toArray) hB1.size (fun k hk=>by injection hk with hk;omega);have hJ: ∀ n os,Calls Tryz.prog 209 #[.slice (some ⟨g,0,none⟩) ss.length cap,.string ⟨#[]⟩] (grow (putRow encStr (Sort.ahead w1 n) g 0 ts.toArray) os) fun e w'=>e= .returned (.string ⟨R.toArray⟩)/\Below w.heap.size w w':=fun n os=>by rw[<- hRt];refine(AtT (n:=ss.length) hts (heap_sorted ts.toArray hbk) (by rw[<- hts];exact take_putCells cur ts (by omega)) h1 (by omega) (by omega)).mono fun e w' hq=>⟨hq.1,(hB2 n os).trans (hq.2.mono (hB2 n os).size)⟩
 clear hown hgr hcells h4 h4' hH hB1 hB2 hord hfl hperm hR hRt
 go_wp2_with (first | (go_at_call 210;refine hsort.mono ?_;rintro e w2 ⟨rfl,n,os,rfl⟩;have hJ2:=hJ n os;generalize (grow (putRow encStr (Sort.ahead w1 n) g 0 ts.toArray) os)=w3 at hJ2 ⊢) | (go_at_call 209;refine hJ2.mono ?_;rintro e w4 ⟨rfl,hb4⟩))
 go_ret
 exact⟨rfl,hb4⟩
end Go.Proofs.YtfgdgdnlglejbaaGreatDoor
namespace Go.Proofs.YtfgdgdnlglejbaaGreatDoor.Vm
open Go.Proofs Go.RowKit
noncomputable def jQ (N:Nat):Sig:=.of [.cell false (.sl 9 (.str .nil))] [.cell false .str] (fun a=>Qb N a)
theorem Ajw {N:Nat} {O:Own} {w:World} {vs:Array Value} (l:List Bs) (out:Bs) (hv:vs.size=1) (hx0:D7 O w (vs.getD 0 undef) (.sl ⟨.str .nil,l⟩)) (h2':Qb N l=some out) :
 Calls Tryz.prog 125 vs w fun e' w'=> ∃ v O',e'= .returned v/\Came O w vs (jQ N) [.str out] v O' w':=by
 unfold Qb at h2'
 have hv1:vs= #[vs.getD 0 undef]:=by
  apply Array.ext
  ·exact hv
  ·intro i h1 h2;have:i=0:=by simp at h2;omega
   subst this;simp [Array.getD_eq_getD_getElem?,h1]
 cases hc:(decide (0<l.length)&&(decide (l.length<=1099511627776)&&decide (l.flatten.length<=140737488355328)))with
 | false=>rw[hc]at h2';cases h2'
 | true =>
  rw[hc]at h2';injection h2' with h2';simp only[Bool.and_eq_true,decide_eq_true_eq]at hc;obtain⟨c0,c1,c2⟩:=hc;rw[hv1];generalize vs.getD 0 undef=v0 at hx0;have hes0:(⟨.str .nil,l⟩:Sl).es=l.map (fun s:Bs=>[A.str s]):=rfl;have hsz:(⟨.str .nil,l⟩:Sl).sz=1:=rfl;generalize hL:(⟨.str .nil,l⟩:Sl)=L at hx0 hes0 hsz;have hlen:L.es.length=l.length:=by rw[hes0,List.length_map]
  cases hx0 with
  | nil t =>
   have:l=[]:=by injection hL with h1 h2;subst h1;exact eq_of_heq h2
   rw[this]at c0;exact absurd c0 (by decide)
  | sl0 ad t =>
   have:l=[]:=by injection hL with h1 h2;subst h1;exact eq_of_heq h2
   rw[this]at c0;exact absurd c0 (by decide)
  | @sl b off cap l' vs' hcap hm hr =>
   have hw:=AoQ w b off cap l out h2' c0 c1 c2 (fun j u hj=>by
    have hjl:j<l.length:=by
     rcases Nat.lt_or_ge j (l.length)with h | h
     ·exact h
     ·rw[List.getElem?_eq_none (by simpa using h)]at hj;cases hj
    have hm1:=(hm j 0 (by rw[hlen];exact hjl) (by rw[hsz];omega)).2;have hr1:=hr j 0 (by rw[hlen];exact hjl) (by rw[hsz];omega);have e1:off+(j*L.sz+0)=off+j:=by rw[hsz];omega
    rw[e1]at hm1;rw[List.getElem?_map,List.getElem?_eq_getElem hjl]at hj;injection hj with hj;have e2:(L.es.getD j []).getD 0 .undef= .str (l[j]):=by rw[hes0];simp [List.getD_eq_getElem?_getD,hjl]
    rw[e2]at hr1;rw[<- hj,hm1,MV hr1])
   rw[<- hlen]at hw;refine hw.mono fun e' w' hq=> ?_;refine⟨_,O,hq.1,?_⟩;refine⟨Below.moves hq.2,fun b k _ h=>h,fun b k _ h=>h,rfl,⟨#[.string ⟨List.toArray out⟩],rfl,rfl,fun k hk=> ?_⟩,fun j i hj=> ?_⟩
   ·have hk0:k=0:=by simp at hk;omega
    subst hk0;exact D7.str (O:=O) (w:=w') ⟨List.toArray out⟩
   ·exact absurd hj (by show(Fa [.cell false (.sl 9 (.str .nil))] 0)[j]? ≠some i;simp [Fa,E5])
theorem AhG (N:Nat):Spec Tryz.prog 125 (jQ N):=by refine⟨enters (fn:=Tryz.f125) (by kernel_rfl) (by kernel_rfl) (by decide),fun O w vs xs rs hI hv hl _ hx hrs=> ?_⟩;obtain⟨l,out,h1,h2,h3⟩:=Sig.mQ (Dx:=[.cell false (.sl 9 (.str .nil))]) (DL:=[.cell false .str]) (f:=fun a=>Qb N a) hrs;subst h1;have h3':rs=[.str out]:=h3;subst h3';exact Ajw l out hv (hx 0 (by show 0<1;omega)) h2
end Go.Proofs.YtfgdgdnlglejbaaGreatDoor.Vm
namespace Go.Proofs.YtfgdgdnlglejbaaGreatDoor.Vm
open Go.Proofs Go.RowKit
theorem As7 {O:Own} {w:World} {bs:List ByteArray} {t:TypeId} {l:List Bs} (hl:bs.map (·.data.toList)=l) :
 D7 (fun b k=>if b<w.heap.size then O b k else none) (w.alloc (.cells (bs.map Value.string).toArray t)) (.slice (some ⟨w.heap.size,0,none⟩) bs.length bs.length) (.sl ⟨.str .nil,l⟩):=by
 have hll:l.length=bs.length:=by rw[<- hl,List.length_map]
 have hget: ∀ i (h:i<bs.length),l.getD i []=bs[i].data.toList:=by intro i h;rw[<- hl];simp [List.getD_eq_getElem?_getD,h]
 have hes0:(⟨.str .nil,l⟩:Sl).es=l.map (fun s:Bs=>[A.str s]):=rfl;have hsz:(⟨.str .nil,l⟩:Sl).sz=1:=rfl;generalize (⟨.str .nil,l⟩:Sl)=L at *
 have hlen:L.es.length=bs.length:=by rw[hes0,List.length_map,hll]
 have hb:(w.alloc (.cells (bs.map Value.string).toArray t)).heap[w.heap.size]? =some (.cells (bs.map Value.string).toArray t (0,0)):=pX _ _;have hcell: ∀ i,(w.alloc (.cells (bs.map Value.string).toArray t)).cell? (at' w.heap.size i)=(bs.map Value.string).toArray[i]? :=by intro i;simp only[World.cell?,hb];rfl
 have h:=D7.sl (O:=fun b k=>if b<w.heap.size then O b k else none) (w:=w.alloc (.cells (bs.map Value.string).toArray t)) (b:=w.heap.size) (off:=0) (cap:=bs.length) (l:=L) (fun i _=>.string (bs.getD i ByteArray.empty)) (by rw[hlen];exact Nat.le_refl _)
  (fun i j hi hj=>by
    rw[hlen]at hi;rw[hsz]at hj;have hj0:j=0:=by omega
    subst hj0;refine⟨if_neg (Nat.lt_irrefl _),?_⟩;have e:0+(i*L.sz+0)=i:=by rw[hsz];omega
    rw[e,hcell];simp [List.getD_eq_getElem?_getD,hi])
  (fun i j hi hj=>by
    rw[hlen]at hi;rw[hsz]at hj;have hj0:j=0:=by omega
    subst hj0;have e1:(L.es.getD i []).getD 0 .undef= .str (l.getD i []):=by rw[hes0];simp [List.getD_eq_getElem?_getD,show i<l.length by omega]
    rw[e1,hget i hi];simp only[List.getD_eq_getElem?_getD,List.getElem?_eq_getElem hi,Option.getD_some];exact D7.str (bs[i]))
 rw[hlen]at h;exact h
theorem ApF {O:Own} {w:World} {vs:Array Value} {sg:Sig} {bs:List ByteArray} {t e:TypeId} {l:List Bs} (hp:sg.Dx.all Sh.flat=true) (hr:sg.DL=[.cell false (.sl e (.str .nil))]) (hl:bs.map (·.data.toList)=l) :
 Came O w vs sg [.sl ⟨.str .nil,l⟩] (.slice (some ⟨w.heap.size,0,none⟩) bs.length bs.length) (fun b k=>if b<w.heap.size then O b k else none) (w.alloc (.cells (bs.map Value.string).toArray t)):=by
 have hix:Fa sg.Dx 0=[]:=Aey _ _ hp;refine⟨Moves.push _,fun b k hb h=>by rwa [if_pos hb]at h,fun b k hb h=>by rwa [if_pos hb],by rw[hix,hr];rfl,⟨#[.slice (some ⟨w.heap.size,0,none⟩) bs.length bs.length],by rw[hr];rfl,rfl,fun k hk=> ?_⟩,fun j i hj=> ?_⟩
 ·have hk0:k=0:=by simp at hk;omega
  subst hk0;exact As7 hl
 ·rw[hix]at hj;cases hj
noncomputable def OU (N:Nat):Sig:=.of [.cell false .str,.cell false .str] [.cell false (.sl 9 (.str .nil))] (fun a=>strings_Split N a.1 a.2)
theorem Xk (N:Nat):Spec Tryz.prog 282 (OU N):=by
 refine⟨enters (fn:=Tryz.f282) (by kernel_rfl) (by kernel_rfl) (by decide),fun O w vs xs rs hI hv hl _ hx hrs=> ?_⟩;obtain⟨a,o,h1,h2,h3⟩:=Sig.mQ (Dx:=[.cell false .str,.cell false .str]) (DL:=[.cell false (.sl 9 (.str .nil))]) (f:=fun a=>strings_Split N a.1 a.2) hrs;subst h1;obtain⟨s,c⟩:=a;have hvs:=AhK (zJ [.cell false .str,.cell false .str] (s,c) rfl) hv hx;rw[hvs];have h2':(bif decide (List.length s<4294967281)&&decide (1<=List.length c)then some (Lib.split s c)else none)=some o:=h2;cases hc:(decide (List.length s<4294967281)&&decide (1<=List.length c))with
 | false=>rw[hc]at h2';cases h2'
 | true =>rw[hc]at h2';injection h2' with h2';subst h2';rw[Bool.and_eq_true,decide_eq_true_eq,decide_eq_true_eq]at hc;obtain⟨_,v,hm,m,rfl⟩:=hI.1 1 0 _ rfl;have hlen:=Lib.splitB_all ⟨List.toArray c⟩ hc.2 0 _ ⟨List.toArray s⟩ rfl;refine(Tryz.strings_Split ⟨List.toArray s⟩ ⟨List.toArray c⟩ m w hc.1 hm hc.2).mono fun e w' hq=> ?_;obtain⟨he,hw⟩:=hq;subst hw;rw[<- hlen]at he;refine⟨_,fun b k=>if b<w.heap.size then O b k else none,he,?_⟩;have h3':rs=[.sl ⟨.str .nil,Lib.split s c⟩]:=h3;rw[h3'];exact ApF (O:=O) (w:=w) (e:=9) (sg:=OU N) rfl rfl (by rw[Lib.splitB_data];rfl)
noncomputable def UQ (N:Nat):Sig:=.of [.cell false .str,.cell false .str] [.cell false .str] (fun a=>strings_TrimPrefix N a.1 a.2)
theorem dB (N:Nat):Spec Tryz.prog 407 (UQ N) :=
 P7 rfl rfl (enters (fn:=Tryz.f407) (by kernel_rfl) (by kernel_rfl) (by decide)) fun O w (a:Bs×Bs) (o:Bs) hI h=>by obtain⟨s,c⟩:=a;have h:some (Lib.trimPrefix s c)=some o:=h;injection h with h;subst h;refine(Tryz.strings_TrimPrefix ⟨List.toArray s⟩ ⟨List.toArray c⟩ w).mono fun e w' hq=> ?_;obtain⟨h1,h2⟩:=hq;subst h2;exact⟨h1,Below.refl _ _⟩
end Go.Proofs.YtfgdgdnlglejbaaGreatDoor.Vm
namespace Go.Proofs.YtfgdgdnlglejbaaGreatDoor
open Go.RowKit Vm
theorem Y1 (w:World) (s:ByteArray) (pos:Nat):Below w.heap.size w (w.iter s pos):=Below.alloc (Below.refl _ _) (Nat.le_refl _) _
theorem AnT (s:ByteArray) (i:Nat):1<=(Utf8.decode s i).2:=by
 unfold Utf8.decode;dsimp only;repeat' split
 all_goals (first | exact Nat.le_refl _ | (show 1<=_;omega))
theorem Auu (s:ByteArray) (b pos:Nat) (h: ¬ pos<s.size):TB s b pos=true:=by
 cases b with
 | zero=>rfl
 | succ b=>unfold TB;rw[if_neg h]
theorem AsH (s:ByteArray) (b pos:Nat) (h:pos<s.size):TB s (b+1) pos=if(Utf8.decode s pos).1<32\/(Utf8.decode s pos).1=127 then false else if(Utf8.decode s pos).1=65533/\Lib.hasPrefix (s.data.toList.drop pos) [239,191,189]=false then false else TB s b (pos+(Utf8.decode s pos).2):=by show(if pos<s.size then _ else _)=_;rw[if_pos h]
set_option maxHeartbeats 1000000 in
set_option maxRecDepth 1000000 in
theorem AsI (s:ByteArray) (w:World) (R:Bool) (hR:TB s s.size 0=R) (hs:s.size<4294967281) :
 Calls Tryz.prog 360 #[.string s] w fun e w'=>e= .returned (.bool R)/\Below w.heap.size w w':=by
 go_enter Tryz.func360,Tryz.ntmps360
 go_wp2
 go_loopw [] (fun w'=> ∃(pos b:Nat),w'=w.iter s pos/\TB s b pos=R/\s.size<=pos+b) (fun w'=>s.size - w'.iterPos w.heap.size)
 case atStart=>exact⟨0,s.size,rfl,hR,by omega⟩
 case round =>
  obtain⟨pos,b,rfl,hc,hb⟩:=hrel;by_cases hp:pos<s.size
  ·have hnx: ∀ ty,(Instr.next (.pointer (some ⟨w.heap.size,0,none⟩)) true ty).run Tryz.prog (w.iter s pos)=_:=fun ty=>run_next_any w s pos ty hp;have hwd:=AnT s pos;cases b with
   | zero=>omega
   | succ b =>
    rw[AsH s b pos hp]at hc;have hpx:=fun w=>Tryz.strings_HasPrefix (s.extract pos s.size) ⟨#[239,191,189]⟩ w;generalize h4:Lib.hasPrefix (s.extract pos s.size).data.toList ((⟨#[239,191,189]⟩:ByteArray)).data.toList=B at hpx;generalize Utf8.decode s pos=D at hnx hwd hc;obtain⟨c,k⟩:=D;dsimp only at hnx hwd hc;obtain⟨C,hC⟩: ∃ C:Int,(c:Int)=C:=⟨_,rfl⟩
    rw[hC]at hnx;by_cases h1:c<32
    ·have t1:C<32:=by omega
     rw[if_pos (Or.inl h1)]at hc;subst hc;clear h1 hC hR
     go_wp2
     go_ret
     exact⟨rfl,Y1 _ _ _⟩
    ·have t1:32<=C:=by omega
     by_cases h2:c=127
     ·have t2:(C==127)=true:=by simp;omega
      rw[if_pos (Or.inr h2)]at hc;subst hc;clear h1 h2 hC hR
      go_wp2
      all_goals try (exfalso;omega)
      go_ret
      exact⟨rfl,Y1 _ _ _⟩
     ·have t2:(C==127)=false:=by simp;omega
      rw[if_neg (by omega)]at hc;by_cases h3:c=65533
      ·have t3:(C==65533)=true:=by simp;omega
       cases B with
       | false =>
        rw[if_pos ⟨h3,by rw[<- Lib.extract_to_end];exact h4⟩]at hc;subst hc;clear h1 h2 h3 h4 hC hR
        go_wp2_with (go_at_call 404;refine(hpx _).mono ?_;rintro e w' ⟨rfl,rfl⟩)
        all_goals try (exfalso;omega)
        go_ret
        exact⟨rfl,Y1 _ _ _⟩
       | true =>
        rw[if_neg (fun h=>by have h5:=h.2;rw[<- Lib.extract_to_end]at h5;exact absurd (h4.symm.trans h5) (by decide))]at hc;clear h1 h2 h3 hC
        go_wp2_with (go_at_call 404;refine(hpx _).mono ?_;rintro e w' ⟨rfl,rfl⟩)
        all_goals try (exfalso;omega)
        go_roundw
        case rel=>exact⟨pos+k,b,rfl,hc,by omega⟩
        case measure =>simp;omega
      ·have t3:(C==65533)=false:=by simp;omega
       rw[if_neg (fun h=>h3 h.1)]at hc;clear h1 h2 h3 hC
       go_wp2
       all_goals try (exfalso;omega)
       go_roundw
       case rel=>exact⟨pos+k,b,rfl,hc,by omega⟩
       case measure =>simp;omega
  ·have hnx: ∀ ty,(Instr.next (.pointer (some ⟨w.heap.size,0,none⟩)) true ty).run Tryz.prog (w.iter s pos)=_:=fun ty=>run_next_end w s pos ty hp
   go_wp2
   go_ret
   rw[Auu s b pos hp]at hc;rw[<- hc];exact⟨rfl,Y1 _ _ _⟩
end Go.Proofs.YtfgdgdnlglejbaaGreatDoor
namespace Go.Proofs.YtfgdgdnlglejbaaGreatDoor.Vm
open Go.Proofs Go.RowKit
noncomputable def Agg (N:Nat):Sig:=.of [.cell false .str] [.cell false .bool] (fun a=>Al8 N a)
theorem Ajv (N:Nat):Spec Tryz.prog 360 (Agg N) :=
 P7 rfl rfl (enters (fn:=Tryz.f360) (by kernel_rfl) (by kernel_rfl) (by decide)) fun O w (a:Bs) (o:Bool) hI h=>by
  have h:(bif decide (List.length a<4294967281)then some (Av0 a)else none)=some o:=h;cases hc:decide (List.length a<4294967281)with
  | false=>rw[hc]at h;cases h
  | true =>
  rw[hc]at h;injection h with h;exact(AsI ⟨List.toArray a⟩ w o h (of_decide_eq_true hc)).mono fun e w' hq=>hq
end Go.Proofs.YtfgdgdnlglejbaaGreatDoor.Vm
