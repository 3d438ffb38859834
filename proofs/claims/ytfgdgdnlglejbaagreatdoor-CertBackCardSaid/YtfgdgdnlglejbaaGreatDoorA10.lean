import Derived.Test.YtfgdgdnlglejbaaGreatDoorA9
import Derived.Lib.Walk
import Derived.Laws.RangeString
import Derived.Laws.RangeAny
import Derived.LoopTactic
import Derived.BigGuardPart
set_option linter.all false
namespace Go.Proofs.YtfgdgdnlglejbaaGreatDoor.Vm
open Go.Proofs Go.RowKit
theorem AqU {O:Own} {w:World} {bs:List ByteArray} {t:TypeId} {l:List Bs} (hl:bs.map (·.data.toList)=l) :
 D6 (fun b k=>if b<w.heap.size then O b k else none) (w.alloc (.cells (bs.map Value.string).toArray t)) (.slice (some ⟨w.heap.size,0,none⟩) bs.length bs.length) (.sl ⟨.str .nil,l⟩):=by
 have hll:l.length=bs.length:=by rw[<- hl,List.length_map]
 have hget: ∀ i (h:i<bs.length),l.getD i []=bs[i].data.toList:=by intro i h;rw[<- hl];simp [List.getD_eq_getElem?_getD,h]
 have hes0:(⟨.str .nil,l⟩:Sl).es=l.map (fun s:Bs=>[A.str s]):=rfl;have hsz:(⟨.str .nil,l⟩:Sl).sz=1:=rfl;generalize (⟨.str .nil,l⟩:Sl)=L at *
 have hlen:L.es.length=bs.length:=by rw[hes0,List.length_map,hll]
 have hb:(w.alloc (.cells (bs.map Value.string).toArray t)).heap[w.heap.size]? =some (.cells (bs.map Value.string).toArray t (0,0)):=nG _ _;have hcell: ∀ i,(w.alloc (.cells (bs.map Value.string).toArray t)).cell? (at' w.heap.size i)=(bs.map Value.string).toArray[i]? :=by intro i;simp only[World.cell?,hb];rfl
 have h:=D6.sl (O:=fun b k=>if b<w.heap.size then O b k else none) (w:=w.alloc (.cells (bs.map Value.string).toArray t)) (b:=w.heap.size) (off:=0) (cap:=bs.length) (l:=L) (fun i _=>.string (bs.getD i ByteArray.empty)) (by rw[hlen];exact Nat.le_refl _)
  (fun i j hi hj=>by
    rw[hlen]at hi;rw[hsz]at hj;have hj0:j=0:=by omega
    subst hj0;refine⟨if_neg (Nat.lt_irrefl _),?_⟩;have e:0+(i*L.sz+0)=i:=by rw[hsz];omega
    rw[e,hcell];simp [List.getD_eq_getElem?_getD,hi])
  (fun i j hi hj=>by
    rw[hlen]at hi;rw[hsz]at hj;have hj0:j=0:=by omega
    subst hj0;have e1:(L.es.getD i []).getD 0 .undef= .str (l.getD i []):=by rw[hes0];simp [List.getD_eq_getElem?_getD,show i<l.length by omega]
    rw[e1,hget i hi];simp only[List.getD_eq_getElem?_getD,List.getElem?_eq_getElem hi,Option.getD_some];exact D6.str (bs[i]))
 rw[hlen]at h;exact h
theorem AnN {O:Own} {w:World} {vs:Array Value} {sg:Sig} {bs:List ByteArray} {t e:TypeId} {l:List Bs} (hp:sg.Du.all Sh.flat=true) (hr:sg.DK=[.cell false (.sl e (.str .nil))]) (hl:bs.map (·.data.toList)=l) :
 Came O w vs sg [.sl ⟨.str .nil,l⟩] (.slice (some ⟨w.heap.size,0,none⟩) bs.length bs.length) (fun b k=>if b<w.heap.size then O b k else none) (w.alloc (.cells (bs.map Value.string).toArray t)):=by
 have hix:EZ sg.Du 0=[]:=AcE _ _ hp;refine⟨Moves.push _,fun b k hb h=>by rwa [if_pos hb]at h,fun b k hb h=>by rwa [if_pos hb],by rw[hix,hr];rfl,⟨#[.slice (some ⟨w.heap.size,0,none⟩) bs.length bs.length],by rw[hr];rfl,rfl,fun k hk=> ?_⟩,fun j i hj=> ?_⟩
 ·have hk0:k=0:=by simp at hk;omega
  subst hk0;exact AqU hl
 ·rw[hix]at hj;cases hj
noncomputable def PG (N:Nat):Sig:=.of [.cell false .str,.cell false .str] [.cell false (.sl 9 (.str .nil))] (fun a=>strings_Split N a.1 a.2)
theorem WY (N:Nat):Spec Tryz.prog 282 (PG N):=by
 refine⟨enters (fn:=Tryz.f282) (by kernel_rfl) (by kernel_rfl) (by decide),fun O w vs xs rs hI hv hl _ hx hrs=> ?_⟩;obtain⟨a,o,h1,h2,h3⟩:=Sig.kG (Du:=[.cell false .str,.cell false .str]) (DK:=[.cell false (.sl 9 (.str .nil))]) (f:=fun a=>strings_Split N a.1 a.2) hrs;subst h1;obtain⟨s,c⟩:=a;have hvs:=AfR (vZ [.cell false .str,.cell false .str] (s,c) rfl) hv hx;rw[hvs];have h2':(bif decide (List.length s<4294967281)&&decide (1<=List.length c)then some (Lib.split s c)else none)=some o:=h2;cases hc:(decide (List.length s<4294967281)&&decide (1<=List.length c))with
 | false=>rw[hc]at h2';cases h2'
 | true =>rw[hc]at h2';injection h2' with h2';subst h2';rw[Bool.and_eq_true,decide_eq_true_eq,decide_eq_true_eq]at hc;obtain⟨_,v,hm,m,rfl⟩:=hI.1 1 0 _ rfl;have hlen:=Lib.splitB_all ⟨List.toArray c⟩ hc.2 0 _ ⟨List.toArray s⟩ rfl;refine(Tryz.strings_Split ⟨List.toArray s⟩ ⟨List.toArray c⟩ m w hc.1 hm hc.2).mono fun e w' hq=> ?_;obtain⟨he,hw⟩:=hq;subst hw;rw[<- hlen]at he;refine⟨_,fun b k=>if b<w.heap.size then O b k else none,he,?_⟩;have h3':rs=[.sl ⟨.str .nil,Lib.split s c⟩]:=h3;rw[h3'];exact AnN (O:=O) (w:=w) (e:=9) (sg:=PG N) rfl rfl (by rw[Lib.splitB_data];rfl)
noncomputable def UJ (N:Nat):Sig:=.of [.cell false .str,.cell false .str] [.cell false .str] (fun a=>strings_TrimPrefix N a.1 a.2)
theorem aG (N:Nat):Spec Tryz.prog 407 (UJ N) :=
 PY rfl rfl (enters (fn:=Tryz.f407) (by kernel_rfl) (by kernel_rfl) (by decide)) fun O w (a:Bs×Bs) (o:Bs) hI h=>by obtain⟨s,c⟩:=a;have h:some (Lib.trimPrefix s c)=some o:=h;injection h with h;subst h;refine(Tryz.strings_TrimPrefix ⟨List.toArray s⟩ ⟨List.toArray c⟩ w).mono fun e w' hq=> ?_;obtain⟨h1,h2⟩:=hq;subst h2;exact⟨h1,Below.refl _ _⟩
end Go.Proofs.YtfgdgdnlglejbaaGreatDoor.Vm
namespace Go.Proofs.YtfgdgdnlglejbaaGreatDoor
open Go.RowKit Vm
theorem XZ (w:World) (s:ByteArray) (pos:Nat):Below w.heap.size w (w.iter s pos):=Below.alloc (Below.refl _ _) (Nat.le_refl _) _
theorem AlQ (s:ByteArray) (i:Nat):1<=(Utf8.decode s i).2:=by
 unfold Utf8.decode;dsimp only;repeat' split
 all_goals (first | exact Nat.le_refl _ | (show 1<=_;omega))
theorem AsU (s:ByteArray) (b pos:Nat) (h: ¬ pos<s.size):TE s b pos=true:=by
 cases b with
 | zero=>rfl
 | succ b=>unfold TE;rw[if_neg h]
theorem Ari (s:ByteArray) (b pos:Nat) (h:pos<s.size):TE s (b+1) pos=if(Utf8.decode s pos).1<32\/(Utf8.decode s pos).1=127 then false else if(Utf8.decode s pos).1=65533/\Lib.hasPrefix (s.data.toList.drop pos) [239,191,189]=false then false else TE s b (pos+(Utf8.decode s pos).2):=by show(if pos<s.size then _ else _)=_;rw[if_pos h]
set_option maxHeartbeats 1000000 in
set_option maxRecDepth 1000000 in
theorem Arj (s:ByteArray) (w:World) (R:Bool) (hR:TE s s.size 0=R) (hs:s.size<4294967281) :
 Calls Tryz.prog 360 #[.string s] w fun e w'=>e= .returned (.bool R)/\Below w.heap.size w w':=by
 go_enter Tryz.func360,Tryz.ntmps360
 go_wp2
 go_loopw [] (fun w'=> ∃(pos b:Nat),w'=w.iter s pos/\TE s b pos=R/\s.size<=pos+b) (fun w'=>s.size - w'.iterPos w.heap.size)
 case atStart=>exact⟨0,s.size,rfl,hR,by omega⟩
 case round =>
  obtain⟨pos,b,rfl,hc,hb⟩:=hrel;by_cases hp:pos<s.size
  ·have hnx: ∀ ty,(Instr.next (.pointer (some ⟨w.heap.size,0,none⟩)) true ty).run Tryz.prog (w.iter s pos)=_:=fun ty=>run_next_any w s pos ty hp;have hwd:=AlQ s pos;cases b with
   | zero=>omega
   | succ b =>
    rw[Ari s b pos hp]at hc;have hpx:=fun w=>Tryz.strings_HasPrefix (s.extract pos s.size) ⟨#[239,191,189]⟩ w;generalize h4:Lib.hasPrefix (s.extract pos s.size).data.toList ((⟨#[239,191,189]⟩:ByteArray)).data.toList=B at hpx;generalize Utf8.decode s pos=D at hnx hwd hc;obtain⟨c,k⟩:=D;dsimp only at hnx hwd hc;obtain⟨C,hC⟩: ∃ C:Int,(c:Int)=C:=⟨_,rfl⟩
    rw[hC]at hnx;by_cases h1:c<32
    ·have t1:C<32:=by omega
     rw[if_pos (Or.inl h1)]at hc;subst hc;clear h1 hC hR
     go_wp2
     go_ret
     exact⟨rfl,XZ _ _ _⟩
    ·have t1:32<=C:=by omega
     by_cases h2:c=127
     ·have t2:(C==127)=true:=by simp;omega
      rw[if_pos (Or.inr h2)]at hc;subst hc;clear h1 h2 hC hR
      go_wp2
      all_goals try (exfalso;omega)
      go_ret
      exact⟨rfl,XZ _ _ _⟩
     ·have t2:(C==127)=false:=by simp;omega
      rw[if_neg (by omega)]at hc;by_cases h3:c=65533
      ·have t3:(C==65533)=true:=by simp;omega
       cases B with
       | false =>
        rw[if_pos ⟨h3,by rw[<- Lib.extract_to_end];exact h4⟩]at hc;subst hc;clear h1 h2 h3 h4 hC hR
        go_wp2_with (go_at_call 404;refine(hpx _).mono ?_;rintro e w' ⟨rfl,rfl⟩)
        all_goals try (exfalso;omega)
        go_ret
        exact⟨rfl,XZ _ _ _⟩
       | true =>
        rw[if_neg (fun h=>by have h5:=h.2;rw[<- Lib.extract_to_end]at h5;exact absurd (h4.symm.trans h5) (by decide))]at hc;clear h1 h2 h3 hC
        go_wp2_with (go_at_call 404;refine(hpx _).mono ?_;rintro e w' ⟨rfl,rfl⟩)
        all_goals try (exfalso;omega)
        go_roundw
        case rel=>exact⟨pos+k,b,rfl,hc,by omega⟩
        case measure =>simp;omega
      ·have t3:(C==65533)=false:=by simp;omega
       rw[if_neg (fun h=>h3 h.1)]at hc;clear h1 h2 h3 hC
       go_wp2
       all_goals try (exfalso;omega)
       go_roundw
       case rel=>exact⟨pos+k,b,rfl,hc,by omega⟩
       case measure =>simp;omega
  ·have hnx: ∀ ty,(Instr.next (.pointer (some ⟨w.heap.size,0,none⟩)) true ty).run Tryz.prog (w.iter s pos)=_:=fun ty=>run_next_end w s pos ty hp
   go_wp2
   go_ret
   rw[AsU s b pos hp]at hc;rw[<- hc];exact⟨rfl,XZ _ _ _⟩
end Go.Proofs.YtfgdgdnlglejbaaGreatDoor
namespace Go.Proofs.YtfgdgdnlglejbaaGreatDoor.Vm
open Go.Proofs Go.RowKit
noncomputable def Aes (N:Nat):Sig:=.of [.cell false .str] [.cell false .bool] (fun a=>Ajs N a)
theorem Ahn (N:Nat):Spec Tryz.prog 360 (Aes N) :=
 PY rfl rfl (enters (fn:=Tryz.f360) (by kernel_rfl) (by kernel_rfl) (by decide)) fun O w (a:Bs) (o:Bool) hI h=>by
  have h:(bif decide (List.length a<4294967281)then some (AuJ a)else none)=some o:=h;cases hc:decide (List.length a<4294967281)with
  | false=>rw[hc]at h;cases h
  | true =>
  rw[hc]at h;injection h with h;exact(Arj ⟨List.toArray a⟩ w o h (of_decide_eq_true hc)).mono fun e w' hq=>hq
end Go.Proofs.YtfgdgdnlglejbaaGreatDoor.Vm
