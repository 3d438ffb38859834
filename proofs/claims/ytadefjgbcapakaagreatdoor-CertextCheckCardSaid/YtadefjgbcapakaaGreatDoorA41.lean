/-
  CertextCheck: the law returns true whatever the input; machine, functions, plain law (part 41 of 47.)
-/
import Derived.Test.YtadefjgbcapakaaGreatDoorA40
set_option linter.unusedVariables false
set_option linter.unusedSimpArgs false
namespace Go.Proofs.YtadefjgbcapakaaGreatDoor.Pl
open IntKind (i64)
open Go Vm
def Ends {α :Type} (Q: α →Prop) (o:Option α):Prop:= ∃ v,o=some v∧Q v
theorem Bq {α :Type} {Q: α →Prop} {v: α} (h:Q v):Ends Q (some v):=⟨v,rfl,h⟩
theorem Ar {α ρ :Type} [Inhabited α] {P: α →Prop} {Q: ρ →Prop} {o:Option α} {k: α →Option ρ} (h:Ends P o) (hk: ∀ v,P v→Ends Q (k v)):Ends Q (Ad o k):=by
  obtain⟨v,rfl,hv⟩:=h
  exact hk v hv
theorem Az {ρ :Type} {Q: ρ →Prop} {c:Bool} {k:Option ρ} (h:c=true) (hk:Ends Q k):Ends Q (Vm.chk c k):=by rw[h];exact hk
theorem Ba {ρ :Type} {Q: ρ →Prop} {c:Bool} {x y:Option ρ} (h1:c=true→Ends Q x) (h2:c=false→Ends Q y):Ends Q (bif c then x else y):=by
  cases c with
  | true=>exact h1 rfl
  | false=>exact h2 rfl
theorem iL {α ρ :Type} {P: α →Prop} {Q: ρ →Prop} {A:(α →Option ρ)→Option ρ} {f: α →Option ρ} (hA: ∀ j: α →Option ρ,(∀ x,P x→Ends Q (j x))→Ends Q (A j)) (hf: ∀ x,P x→Ends Q (f x)):Ends Q (CS A f):=hA f hf
theorem EL {X Y ρ :Type} {B:X→(X→Option ρ)→(Y→Option ρ)→Option ρ} {kx:Y→Option ρ} {Q: ρ →Prop} (I:X→Prop) (μ :X→Nat)
    (h: ∀ x,I x→ ∀ k:X→Option ρ,(∀ x',I x'→ μ x'< μ x→Ends Q (k x'))→Ends Q (B x k kx)) (N:Nat) (x:X) (hI:I x) (hm: μ x<N):Ends Q (Ak B N x kx):=AiB I μ (Ends Q) h N x hI hm
def BG (L:List Int) (d:List Int×Int):Prop:= ∃ k:Nat,d=(L,(k:Int))∧k≤L.length
theorem Ak4 (N:Nat) {L:List Int} (hL:L.length≤9223372036854775807) {d:List Int×Int} (hd:BG L d) (n:Nat) (hn:0<n) (hn':n<2147483648) :
    Ends (fun r=>0≤r.1∧r.1<(n:Int)∧BG L r.2) (Ap N d (n:Int)):=by
  obtain⟨k,rfl,hk⟩:=hd
  unfold Ap
  dsimp only
  by_cases h:k<L.length
  ·rw[MW,if_neg (by omega),w64 (x:=(k:Int)+1) (by omega) (by omega),w64 (x:=(k:Int)+1 - 1) (by omega) (by omega),XB,if_pos (by omega),XB,if_pos (by omega)]
   generalize L.getD _ _=x
   have hne:((n:Int) != 0)=true:=by simp;omega
   rw[hne,Aj,Aj]
   have h1:=Int.tmod_lt_of_pos x (show(0:Int)<(n:Int) by omega)
   have h2: -(n:Int)<x.tmod (n:Int):=Int.lt_tmod_of_pos x (by omega)
   rw[w64 (x:=x.tmod (n:Int)+(n:Int)) (by omega) (by omega)]
   have h3:0≤(x.tmod (n:Int)+(n:Int)).tmod (n:Int):=Int.tmod_nonneg _ (by omega)
   have h4:=Int.tmod_lt_of_pos (x.tmod (n:Int)+(n:Int)) (show(0:Int)<(n:Int) by omega)
   refine⟨_,rfl,h3,h4,k+1,by rw[show((k+1:Nat):Int)=(k:Int)+1 by omega],h⟩
  ·rw[MW,if_pos (by omega)]
   exact⟨_,rfl,Int.le_refl _,by show(0:Int)<n;omega,k,rfl,hk⟩
theorem Gh {α :Type} {P: α →Prop} {l:List α} {d: α} {i:Int} (h: ∀ x∈l,P x) (h0:0≤i) (hi:i<(l.length:Int)):P (l.getD i.toNat d):=h _ (getD_mem d (by omega))
section
variable (N:Nat) (hN:1048578<N) {L:List Int} (hL:L.length≤9223372036854775807)
include hL
theorem nx {d:List Int×Int} (hd:BG L d) (n:Int) (h0:0<n) (h1:n<2147483648):Ends (fun r=>0≤r.1∧r.1<n∧BG L r.2) (Ap N d n):=by
  have:=Ak4 N hL hd n.toNat (by omega) (by omega)
  rw[show((n.toNat:Nat):Int)=n by omega]at this
  exact this
def Alo (a:Att):Prop:=a.1.length≤40∧a.2.2.length≤40
instance (a:Att):Decidable (Alo a):=by unfold Alo;infer_instance
theorem Aa2 {d:List Int×Int} (hd:BG L d):Ends (fun r=>Alo r.1∧BG L r.2) (LU N d):=by
  unfold LU
  refine Ar (nx N hL hd 12 (by omega) (by omega)) ?_
  rintro ⟨r,d'⟩ ⟨h0,h1,h2⟩
  dsimp only at h0 h1 h2 ⊢
  refine Az (by simp;omega) (Az (by simp;omega) (Az (by simp;omega) (Bq ⟨?_,h2⟩)))
  exact Gh (by decide) h0 h1
def nmS (n:List (List Att)):Prop:=n.length≤3∧EG n
include hN in
theorem Aco {d:List Int×Int} (hd:BG L d):Ends (fun r=>nmS r.1∧BG L r.2) (Rx N d):=by
  unfold Rx
  try simp only[clR]
  refine Ar (nx N hL hd 4 (by omega) (by omega)) ?_
  rintro ⟨r,d1,d2⟩ ⟨h0,h1,h2⟩
  dsimp only at h0 h1 h2 ⊢
  refine EL (fun x=>0≤x.1∧x.1<4∧BG L (x.2.1,x.2.2.1)∧((x.2.2.2.length:Int)+x.1≤3)∧EG x.2.2.2) (fun x=>x.1.toNat) ?_ N _ ⟨h0,h1,h2,by simp;omega,fun r hr=>by cases hr⟩ (by dsimp only;omega)
  rintro ⟨t,a,b,acc⟩ ⟨g0,g1,g2,g3,g4⟩ k hk
  dsimp only[U4]at g0 g1 g2 g3 g4 ⊢
  refine Ba (fun ht=> ?_) (fun _=> ?_)
  ·have ht:=of_decide_eq_true ht
   refine Ar (nx N hL g2 5 (by omega) (by omega)) ?_
   rintro ⟨r,e1,e2⟩ ⟨f0,f1,f2⟩
   dsimp only at f0 f1 f2 ⊢
   have hw:i64.wrap (1+i64.wrap (r.tdiv 4))≤2∧0≤i64.wrap (1+i64.wrap (r.tdiv 4)):=by
     have:r=0∨r=1∨r=2∨r=3∨r=4:=by omega
     rcases this with rfl | rfl | rfl | rfl | rfl<;>decide
   refine EL (fun x=>0≤x.1∧x.1≤2∧BG L (x.2.1,x.2.2.1)∧((x.2.2.2.1.length:Int)+x.1≤2)∧(∀ e∈x.2.2.2.1,RN e)∧x.2.2.2.2=acc) (fun x=>x.1.toNat) ?_ N _ ⟨hw.2,hw.1,f2,by simp;omega,(fun r hr=>by cases hr),rfl⟩ (by dsimp only;omega)
   rintro ⟨t',a',b',acc',out⟩ ⟨p0,p1,p2,p3,p4,p5⟩ k' hk'
   dsimp only[U5]at p0 p1 p2 p3 p4 p5 ⊢
   subst p5
   refine Ba (fun ht'=> ?_) (fun _=> ?_)
   ·have ht':=of_decide_eq_true ht'
    refine Ar (Aa2 N hL p2) ?_
    rintro ⟨r,q1,q2⟩ ⟨z0,z1⟩
    dsimp only at z0 z1 ⊢
    have taut:(decide ((0:Int)<(acc'.length:Int))||((acc'.length:Nat):Int)==0)=true:=by
      cases acc' with
      | nil=>rfl
      | cons x y=>rw[decide_eq_true (by rw[List.length_cons];omega)];rfl
    have Aen:(decide (0<acc'.length)||((acc'.length:Nat):Int)==0)=true:=by
      cases acc' with
      | nil=>rfl
      | cons x y=>rw[decide_eq_true (by rw[List.length_cons];omega)];rfl
    have hsm:RN r:=⟨by have:=z0.1;omega,by have:=z0.2;omega⟩
    refine Az (by first | exact taut | exact Aen) (Az (by first | exact taut | exact Aen) (Az (by first | exact taut | exact Aen) ?_))
    refine Ba (fun _=> ?_) (fun _=> ?_)
    ·refine Az (decide_eq_true (by omega)) (hk' _ ⟨?_,?_,z1,?_,?_,rfl⟩ ?_)
     ·dsimp only;rw[w64 (by omega) (by omega)];omega
     ·dsimp only;rw[w64 (by omega) (by omega)];omega
     ·dsimp only;rw[w64 (by omega) (by omega),List.length_append];simp;omega
     ·intro e he
      rcases List.mem_append.1 he with he | he
      ·exact p4 e he
      ·rw[List.mem_singleton.1 he];exact hsm
     ·dsimp only;rw[w64 (by omega) (by omega)];omega
    ·refine hk' _ ⟨?_,?_,z1,?_,p4,rfl⟩ ?_
     ·dsimp only;rw[w64 (by omega) (by omega)];omega
     ·dsimp only;rw[w64 (by omega) (by omega)];omega
     ·dsimp only;rw[w64 (by omega) (by omega)];omega
     ·dsimp only;rw[w64 (by omega) (by omega)];omega
   ·dsimp only[U4]
    refine Az (decide_eq_true (by omega)) (hk _ ⟨?_,?_,p2,?_,?_⟩ ?_)
    ·dsimp only;rw[w64 (by omega) (by omega)];omega
    ·dsimp only;rw[w64 (by omega) (by omega)];omega
    ·dsimp only;rw[w64 (by omega) (by omega),List.length_append];simp;omega
    ·intro e he
     rcases List.mem_append.1 he with he | he
     ·exact g4 e he
     ·rw[List.mem_singleton.1 he];exact p4
    ·dsimp only;rw[w64 (by omega) (by omega)];omega
  ·dsimp only[U3]
   exact Bq ⟨⟨by dsimp only;omega,g4⟩,g2⟩
end
end Go.Proofs.YtadefjgbcapakaaGreatDoor.Pl
namespace Go.Proofs.YtadefjgbcapakaaGreatDoor.Pl
open IntKind (i64)
open Go Vm
section
variable (N:Nat) (hN:1048578<N) {L:List Int} (hL:L.length≤9223372036854775807)
def nmC (n:List (List Att)):Bool:=decide (n.length≤3)&&n.all fun r=>r.all fun e=>decide (e.1.length≤40)&&decide (e.2.2.length≤40)
def nmO (o:Option (List (List Att))):Bool:=match o with
  | some n=>nmC n
  | none=>false
theorem AnL {n:List (List Att)} (h:nmC n=true):nmS n:=by
  unfold nmC at h
  rw[Bool.and_eq_true,decide_eq_true_eq]at h
  refine⟨h.1,fun r hr e he=> ?_⟩
  have:=List.all_eq_true.1 (List.all_eq_true.1 h.2 r hr) e he
  rw[Bool.and_eq_true,decide_eq_true_eq,decide_eq_true_eq]at this
  exact⟨by omega,by omega⟩
theorem AcE (M:Nat): ∀ k:Fin 16,nmO (IX (M+70) (k.val:Int))=true:=of_decide_eq_true (by kernel_rfl)
include hN in
theorem Aa3 {k:Int} (h0:0≤k) (h1:k<16):Ends nmS (IX N k):=by
  obtain⟨M,rfl⟩: ∃ M,N=M+70:=⟨N - 70,by omega⟩
  have h:=AcE M ⟨k.toNat,by omega⟩
  rw[show(((⟨k.toNat,by omega⟩:Fin 16).val:Nat):Int)=k from Int.toNat_of_nonneg h0]at h
  cases ho:IX (M+70) k with
  | none=>rw[ho]at h;cases h
  | some n=>rw[ho]at h;exact⟨n,rfl,AnL h⟩
def shortS (s:Bs):Prop:=s.length≤40
instance (s:Bs):Decidable (shortS s):=by unfold shortS;infer_instance
def gnS (g:Gn):Prop:=g.2.1.length≤40∧EG g.2.2∧g.2.2.length≤3
theorem Aed {g:Gn} (h:gnS g):Vb g:=⟨by have:=h.1;omega,h.2.1⟩
theorem Qz {k:Int} {s:Bs} (h:shortS s):gnS (k,s,[]):=⟨h,(fun r hr=>by cases hr),by simp⟩
include hN hL in
theorem OV {d:List Int×Int} (hd:BG L d):Ends (fun r=>gnS r.1∧BG L r.2) (GL N d):=by
  unfold GL
  try simp only[clR]
  refine Ar (nx N hL hd 4 (by omega) (by omega)) ?_
  rintro ⟨r,d'⟩ ⟨h0,h1,h2⟩
  dsimp only at h0 h1 h2 ⊢
  refine Ba (fun _=> ?_) (fun _=>Ba (fun _=> ?_) (fun _=>Ba (fun _=> ?_) (fun _=> ?_)))
  ·refine Ar (nx N hL h2 6 (by omega) (by omega)) ?_
   rintro ⟨r,d'⟩ ⟨h0,h1,h2⟩
   dsimp only at h0 h1 h2 ⊢
   refine Az (decide_eq_true (by omega)) (Az (decide_eq_true (by omega)) (Az (decide_eq_true (by omega)) (Bq ⟨Qz (Gh (P:=shortS) (by decide) h0 h1),h2⟩)))
  ·refine Ar (nx N hL h2 7 (by omega) (by omega)) ?_
   rintro ⟨r,d'⟩ ⟨h0,h1,h2⟩
   dsimp only at h0 h1 h2 ⊢
   refine Az (decide_eq_true (by omega)) (Az (decide_eq_true (by omega)) (Az (decide_eq_true (by omega)) (Bq ⟨Qz (Gh (P:=shortS) (by decide) h0 h1),h2⟩)))
  ·refine Ar (nx N hL h2 4 (by omega) (by omega)) ?_
   rintro ⟨r,d'⟩ ⟨h0,h1,h2⟩
   dsimp only at h0 h1 h2 ⊢
   refine Az (decide_eq_true (by omega)) (Az (decide_eq_true (by omega)) (Az (decide_eq_true (by omega)) (Bq ⟨Qz (Gh (P:=shortS) (by decide) h0 h1),h2⟩)))
  ·refine Ar (Aco N hN hL h2) ?_
   rintro ⟨n,d'⟩ ⟨g0,g1⟩
   exact Bq ⟨⟨by simp,g0.2,g0.1⟩,g1⟩
include hN hL in
theorem VA {d:List Int×Int} (hd:BG L d):Ends (fun r=>gnS r.1∧BG L r.2) (KX N d):=by
  unfold KX
  try simp only[clR]
  refine Ar (nx N hL hd 4 (by omega) (by omega)) ?_
  rintro ⟨r,d'⟩ ⟨h0,h1,h2⟩
  dsimp only at h0 h1 h2 ⊢
  refine Ba (fun _=> ?_) (fun _=>Ba (fun _=> ?_) (fun _=>Ba (fun _=> ?_) (fun _=> ?_)))
  ·refine Ar (nx N hL h2 7 (by omega) (by omega)) ?_
   rintro ⟨r,d'⟩ ⟨h0,h1,h2⟩
   dsimp only at h0 h1 h2 ⊢
   refine Az (decide_eq_true (by omega)) (Az (decide_eq_true (by omega)) (Az (decide_eq_true (by omega)) (Bq ⟨Qz (Gh (P:=shortS) (by decide) h0 h1),h2⟩)))
  ·refine Ar (nx N hL h2 7 (by omega) (by omega)) ?_
   rintro ⟨r,d'⟩ ⟨h0,h1,h2⟩
   dsimp only at h0 h1 h2 ⊢
   refine Az (decide_eq_true (by omega)) (Az (decide_eq_true (by omega)) (Az (decide_eq_true (by omega)) (Bq ⟨Qz (Gh (P:=shortS) (by decide) h0 h1),h2⟩)))
  ·refine Ar (nx N hL h2 5 (by omega) (by omega)) ?_
   rintro ⟨r,d'⟩ ⟨h0,h1,h2⟩
   dsimp only at h0 h1 h2 ⊢
   refine Az (decide_eq_true (by omega)) (Az (decide_eq_true (by omega)) (Az (decide_eq_true (by omega)) (Bq ⟨Qz (Gh (P:=shortS) (by decide) h0 h1),h2⟩)))
  ·refine Ar (Aco N hN hL h2) ?_
   rintro ⟨n,d'⟩ ⟨g0,g1⟩
   exact Bq ⟨⟨by simp,g0.2,g0.1⟩,g1⟩
def AaW (m:Nat) (l:List Gn):Prop:=l.length≤m∧ ∀ g∈l,gnS g
theorem AeT {m:Nat} {l:List Gn} (h:AaW m l):BO l:=fun g hg=>Aed (h.2 g hg)
theorem Fh {α :Type} {P: α →Prop} {l:List α} {x: α} (h: ∀ y∈l,P y) (hx:P x): ∀ y∈l++[x],P y:=by
  intro y hy
  rcases List.mem_append.1 hy with hy | hy
  ·exact h y hy
  ·rw[List.mem_singleton.1 hy];exact hx
include hN hL in
theorem AdJ {d:List Int×Int} (hd:BG L d):Ends (fun r=>(AaW 3 r.1.1∧AaW 3 r.1.2)∧BG L r.2) (NC N d):=by
  unfold NC
  try simp only[clR]
  refine Ar (nx N hL hd 4 (by omega) (by omega)) ?_
  rintro ⟨r,d1,d2⟩ ⟨h0,h1,h2⟩
  dsimp only at h0 h1 h2 ⊢
  refine EL (fun x=>0≤x.1∧x.1<4∧BG L (x.2.1,x.2.2.1)∧((x.2.2.2.length:Int)+x.1≤3)∧ ∀ g∈x.2.2.2,gnS g) (fun x=>x.1.toNat) ?_ N _ ⟨h0,h1,h2,by simp;omega,(fun r hr=>by cases hr)⟩ (by dsimp only;omega)
  rintro ⟨t,a,b,acc⟩ ⟨g0,g1,g2,g3,g4⟩ k hk
  dsimp only[U4]at g0 g1 g2 g3 g4 ⊢
  refine Ba (fun ht=> ?_) (fun _=> ?_)
  ·have ht:=of_decide_eq_true ht
   refine Ar (VA N hN hL g2) ?_
   rintro ⟨g,e1,e2⟩ ⟨f0,f1⟩
   dsimp only at f0 f1 ⊢
   refine Az (decide_eq_true (by omega)) (hk _ ⟨?_,?_,f1,?_,Fh g4 f0⟩ ?_)
   ·dsimp only;rw[w64 (by omega) (by omega)];omega
   ·dsimp only;rw[w64 (by omega) (by omega)];omega
   ·dsimp only;rw[w64 (by omega) (by omega),List.length_append];simp;omega
   ·dsimp only;rw[w64 (by omega) (by omega)];omega
  ·dsimp only[U3]
   refine Ar (nx N hL g2 3 (by omega) (by omega)) ?_
   rintro ⟨r,e1,e2⟩ ⟨f0,f1,f2⟩
   dsimp only at f0 f1 f2 ⊢
   refine EL (fun x=>0≤x.1∧x.1<3∧BG L (x.2.1,x.2.2.1)∧x.2.2.2.1=acc∧((x.2.2.2.2.length:Int)+x.1≤2)∧ ∀ g∈x.2.2.2.2,gnS g) (fun x=>x.1.toNat) ?_ N _ ⟨f0,f1,f2,rfl,by simp;omega,(fun r hr=>by cases hr)⟩ (by dsimp only;omega)
   rintro ⟨t',a',b',acc',out⟩ ⟨p0,p1,p2,p3,p4,p5⟩ k' hk'
   dsimp only[U5]at p0 p1 p2 p3 p4 p5 ⊢
   subst p3
   refine Ba (fun ht'=> ?_) (fun _=> ?_)
   ·have ht':=of_decide_eq_true ht'
    refine Ar (VA N hN hL p2) ?_
    rintro ⟨g,q1,q2⟩ ⟨z0,z1⟩
    dsimp only at z0 z1 ⊢
    refine Az (decide_eq_true (by omega)) (hk' _ ⟨?_,?_,z1,rfl,?_,Fh p5 z0⟩ ?_)
    ·dsimp only;rw[w64 (by omega) (by omega)];omega
    ·dsimp only;rw[w64 (by omega) (by omega)];omega
    ·dsimp only;rw[w64 (by omega) (by omega),List.length_append];simp;omega
    ·dsimp only;rw[w64 (by omega) (by omega)];omega
   ·dsimp only[U4]
    refine Ba (fun _=> ?_) (fun _=>Bq ⟨⟨⟨by dsimp only;omega,g4⟩,by dsimp only;omega,p5⟩,p2⟩)
    refine Ar (VA N hN hL p2) ?_
    rintro ⟨g,q1,q2⟩ ⟨z0,z1⟩
    dsimp only at z0 z1 ⊢
    refine Az (decide_eq_true (by omega)) (Bq ⟨⟨⟨by dsimp only;omega,g4⟩,?_,Fh p5 z0⟩,z1⟩)
    dsimp only
    rw[List.length_append];simp;omega
def Ajf (l:List Pt):Prop:=l.length≤3∧ ∀ p∈l,F5 p
include hN hL in
theorem qX {d:List Int×Int} (hd:BG L d):Ends (fun r=>Ajf r.1∧BG L r.2) (Nh N d):=by
  unfold Nh
  try simp only[clR]
  refine Ar (nx N hL hd 3 (by omega) (by omega)) ?_
  rintro ⟨r,d1,d2⟩ ⟨h0,h1,h2⟩
  dsimp only at h0 h1 h2 ⊢
  rw[w64 (by omega) (by omega)]
  refine EL (fun x=>0≤x.1∧x.1<4∧BG L (x.2.1,x.2.2.1)∧((x.2.2.2.length:Int)+x.1≤3)∧ ∀ p∈x.2.2.2,F5 p) (fun x=>x.1.toNat) ?_ N _ ⟨by dsimp only;omega,by dsimp only;omega,h2,by simp;omega,(fun r hr=>by cases hr)⟩ (by dsimp only;omega)
  rintro ⟨t,a,b,acc⟩ ⟨g0,g1,g2,g3,g4⟩ k hk
  dsimp only[U4]at g0 g1 g2 g3 g4 ⊢
  refine Ba (fun ht=> ?_) (fun _=>by dsimp only[U3];exact Bq ⟨⟨by dsimp only;omega,g4⟩,g2⟩)
  have ht:=of_decide_eq_true ht
  refine Ar (OV N hN hL g2) ?_
  rintro ⟨g,e⟩ ⟨f0,f1⟩
  refine Ar (nx N hL f1 6 (by omega) (by omega)) ?_
  rintro ⟨r6,e1,e2⟩ ⟨c0,c1,c2⟩
  dsimp only at c0 c1 c2 f0 ⊢
  refine Az (decide_eq_true (by omega)) (Az (decide_eq_true (by omega)) (Az (decide_eq_true (by omega)) ?_))
  have hr:0≤ [(0:Int),0,510,2,64,384].getD r6.toNat 0∧ [(0:Int),0,510,2,64,384].getD r6.toNat 0≤510:=Gh (P:=fun x:Int=>0≤x∧x≤510) (by decide) c0 c1
  have hg:BO [g]:=fun x hx=>by rw[List.mem_singleton.1 hx];exact Aed f0
  refine iL (P:=fun x=>BG L (x.1,x.2.1)∧x.2.2.1=[(0:Int),0,510,2,64,384].getD r6.toNat 0∧EG x.2.2.2.2.1∧x.2.2.2.2.2.1=[g]∧x.2.2.2.2.2.2=acc) (fun j hj=> ?_) ?_
  ·refine Ar (nx N hL c2 3 (by omega) (by omega)) ?_
   rintro ⟨r3,q1,q2⟩ ⟨z0,z1,z2⟩
   dsimp only at z0 z1 z2 ⊢
   refine Ba (fun _=> ?_) (fun _=>hj _ ⟨z2,rfl,(fun r hr=>by cases hr),rfl,rfl⟩)
   refine Ar (nx N hL z2 16 (by omega) (by omega)) ?_
   rintro ⟨r3,q1,q2⟩ ⟨z0,z1,z2⟩
   dsimp only at z0 z1 z2 ⊢
   refine Ar (Aa3 N hN z0 z1) ?_
   intro n hn
   exact hj _ ⟨z2,rfl,hn.2,rfl,rfl⟩
  ·rintro ⟨q1,q2,x1,x2,x3,x4,x5⟩ ⟨y1,y2,y3,y4,y5⟩
   dsimp only[U7]at y1 y2 y3 y4 y5 ⊢
   subst y2 y4 y5
   refine Az (decide_eq_true (by omega)) (hk _ ⟨?_,?_,y1,?_,Fh g4 ⟨hg,y3,by dsimp only;omega,by dsimp only;omega⟩⟩ ?_)
   ·dsimp only;rw[w64 (by omega) (by omega)];omega
   ·dsimp only;rw[w64 (by omega) (by omega)];omega
   ·dsimp only;rw[w64 (by omega) (by omega),List.length_append];simp;omega
   ·dsimp only;rw[w64 (by omega) (by omega)];omega
end
end Go.Proofs.YtadefjgbcapakaaGreatDoor.Pl
namespace Go.Proofs.YtadefjgbcapakaaGreatDoor.Pl
open IntKind (i64)
open Go Vm
section
variable (N:Nat) (hN:1048578<N) {L:List Int} (hL:L.length≤9223372036854775807)
theorem JY {k:Int} (h0:0≤k) (h1:k<9):Ends shortS (F7 N k):=by
  unfold F7
  have h:k.tmod 9=k:=by
    have:k=0∨k=1∨k=2∨k=3∨k=4∨k=5∨k=6∨k=7∨k=8:=by omega
    rcases this with rfl | rfl | rfl | rfl | rfl | rfl | rfl | rfl | rfl<;>rfl
  rw[h]
  exact Az (decide_eq_true (by omega)) (Az (decide_eq_true (by omega)) (Az (decide_eq_true (by omega)) (Bq (Gh (P:=shortS) (by decide) h0 h1))))
def Ai5 (m:Nat) (l:List Bs):Prop:=l.length≤m∧ ∀ s∈l,shortS s
include hN hL in
theorem Acu {d:List Int×Int} (p:Bool) (hd:BG L d):Ends (fun r=>Ai5 3 r.1∧BG L r.2) (Rz N d p):=by
  unfold Rz
  try simp only[clR]
  refine Ar (nx N hL hd 3 (by omega) (by omega)) ?_
  rintro ⟨r,d1,d2⟩ ⟨h0,h1,h2⟩
  dsimp only at h0 h1 h2 ⊢
  rw[w64 (by omega) (by omega)]
  refine EL (fun x=>0≤x.1∧x.1<4∧BG L (x.2.1,x.2.2.1)∧((x.2.2.2.length:Int)+x.1≤3)∧ ∀ s∈x.2.2.2,shortS s) (fun x=>x.1.toNat) ?_ N _ ⟨by dsimp only;omega,by dsimp only;omega,h2,by simp;omega,(fun r hr=>by cases hr)⟩ (by dsimp only;omega)
  rintro ⟨t,a,b,acc⟩ ⟨g0,g1,g2,g3,g4⟩ k hk
  dsimp only[U4]at g0 g1 g2 g3 g4 ⊢
  refine Ba (fun ht=> ?_) (fun _=>by dsimp only[U3];exact Bq ⟨⟨by dsimp only;omega,g4⟩,g2⟩)
  have ht:=of_decide_eq_true ht
  refine Ar (nx N hL g2 9 (by omega) (by omega)) ?_
  rintro ⟨r9,e1,e2⟩ ⟨c0,c1,c2⟩
  dsimp only at c0 c1 c2 ⊢
  refine Ar (JY N c0 c1) ?_
  intro s hs
  refine iL (P:=fun x=>shortS x.1∧BG L (x.2.1,x.2.2.1)∧x.2.2.2=acc) (fun j hj=> ?_) ?_
  ·refine Ba (fun _=> ?_) (fun _=>hj _ ⟨hs,c2,rfl⟩)
   refine Ar (nx N hL c2 5 (by omega) (by omega)) ?_
   rintro ⟨r3,q1,q2⟩ ⟨z0,z1,z2⟩
   dsimp only at z0 z1 z2 ⊢
   exact Az (decide_eq_true (by omega)) (Az (decide_eq_true (by omega)) (Az (decide_eq_true (by omega)) (hj _ ⟨Gh (P:=shortS) (by decide) z0 z1,z2,rfl⟩)))
  ·rintro ⟨s,q1,q2,x⟩ ⟨y1,y2,y3⟩
   dsimp only at y1 y2 y3
   subst y3
   dsimp only[U4]
   refine EL (fun z=>0≤z.2.1∧z.2.1≤(x.length:Int)∧BG L (z.2.2.1,z.2.2.2.1)∧z.2.2.2.2=x) (fun z=>x.length - z.2.1.toNat) ?_ N _ ⟨Int.le_refl _,by dsimp only;omega,y2,rfl⟩ (by dsimp only;omega)
   rintro ⟨w1,i,a',b',x'⟩ ⟨p0,p1,p2,p3⟩ k' hk'
   dsimp only[U5]at p0 p1 p2 p3 ⊢
   subst p3
   refine Ba (fun hi=> ?_) (fun _=> ?_)
   ·have hi:=of_decide_eq_true hi
    refine Az (decide_eq_true (by omega)) (Az (decide_eq_true (by omega)) (Az (decide_eq_true (by omega)) (hk' _ ⟨?_,?_,p2,rfl⟩ ?_)))
    ·dsimp only;rw[w64 (by omega) (by omega)];omega
    ·dsimp only;rw[w64 (by omega) (by omega)];omega
    ·dsimp only;rw[w64 (by omega) (by omega)];omega
   ·dsimp only[U4]
    refine Ba (fun _=> ?_) (fun _=> ?_)
    ·refine Az (decide_eq_true (by omega)) (hk _ ⟨?_,?_,p2,?_,Fh g4 y1⟩ ?_)
     ·dsimp only;rw[w64 (by omega) (by omega)];omega
     ·dsimp only;rw[w64 (by omega) (by omega)];omega
     ·dsimp only;rw[w64 (by omega) (by omega),List.length_append];simp;omega
     ·dsimp only;rw[w64 (by omega) (by omega)];omega
    ·refine hk _ ⟨?_,?_,p2,?_,g4⟩ ?_
     ·dsimp only;rw[w64 (by omega) (by omega)];omega
     ·dsimp only;rw[w64 (by omega) (by omega)];omega
     ·dsimp only;rw[w64 (by omega) (by omega)];omega
     ·dsimp only;rw[w64 (by omega) (by omega)];omega
def AnJ (m:Bs×Bs):Prop:=shortS m.1∧shortS m.2
def Am8 (m:Nat) (l:List (Bs×Bs)):Prop:=l.length≤m∧ ∀ s∈l,AnJ s
include hN hL in
theorem Adh {d:List Int×Int} (hd:BG L d):Ends (fun r=>Am8 3 r.1∧BG L r.2) (ND N d):=by
  unfold ND
  try simp only[clR]
  refine Ar (nx N hL hd 3 (by omega) (by omega)) ?_
  rintro ⟨r,d1,d2⟩ ⟨h0,h1,h2⟩
  dsimp only at h0 h1 h2 ⊢
  rw[w64 (by omega) (by omega)]
  refine EL (fun x=>0≤x.1∧x.1<4∧BG L (x.2.1,x.2.2.1)∧((x.2.2.2.length:Int)+x.1≤3)∧ ∀ s∈x.2.2.2,AnJ s) (fun x=>x.1.toNat) ?_ N _ ⟨by dsimp only;omega,by dsimp only;omega,h2,by simp;omega,(fun r hr=>by cases hr)⟩ (by dsimp only;omega)
  rintro ⟨t,a,b,acc⟩ ⟨g0,g1,g2,g3,g4⟩ k hk
  dsimp only[U4]at g0 g1 g2 g3 g4 ⊢
  refine Ba (fun ht=> ?_) (fun _=>by dsimp only[U3];exact Bq ⟨⟨by dsimp only;omega,g4⟩,g2⟩)
  have ht:=of_decide_eq_true ht
  refine Ar (nx N hL g2 9 (by omega) (by omega)) ?_
  rintro ⟨r9,e1,e2⟩ ⟨c0,c1,c2⟩
  dsimp only at c0 c1 c2 ⊢
  refine Ar (JY N c0 c1) ?_
  intro s hs
  refine Ar (nx N hL c2 9 (by omega) (by omega)) ?_
  rintro ⟨r9,e1,e2⟩ ⟨c0,c1,c2⟩
  dsimp only at c0 c1 c2 ⊢
  refine Ar (JY N c0 c1) ?_
  intro s2 hs2
  refine EL (fun z=>0≤z.2.1∧z.2.1≤(acc.length:Int)∧BG L (z.2.2.1,z.2.2.2.1)∧z.2.2.2.2.1=s∧z.2.2.2.2.2.1=s2∧z.2.2.2.2.2.2=acc) (fun z=>acc.length - z.2.1.toNat) ?_ N _ ⟨Int.le_refl _,by dsimp only;omega,c2,rfl,rfl,rfl⟩ (by dsimp only;omega)
  rintro ⟨w1,i,a',b',s',s2',x'⟩ ⟨p0,p1,p2,p3,p4,p5⟩ k' hk'
  dsimp only[U7]at p0 p1 p2 p3 p4 p5 ⊢
  subst p3 p4 p5
  refine Ba (fun hi=> ?_) (fun _=> ?_)
  ·have hi:=of_decide_eq_true hi
   refine Az (decide_eq_true (by omega)) (Az (decide_eq_true (by omega)) (Az (decide_eq_true (by omega)) (hk' _ ⟨?_,?_,p2,rfl,rfl,rfl⟩ ?_)))
   ·dsimp only;rw[w64 (by omega) (by omega)];omega
   ·dsimp only;rw[w64 (by omega) (by omega)];omega
   ·dsimp only;rw[w64 (by omega) (by omega)];omega
  ·dsimp only[U6]
   refine Ba (fun _=> ?_) (fun _=> ?_)
   ·refine Az (decide_eq_true (by omega)) (hk _ ⟨?_,?_,p2,?_,Fh g4 ⟨hs,hs2⟩⟩ ?_)
    ·dsimp only;rw[w64 (by omega) (by omega)];omega
    ·dsimp only;rw[w64 (by omega) (by omega)];omega
    ·dsimp only;rw[w64 (by omega) (by omega),List.length_append];simp;omega
    ·dsimp only;rw[w64 (by omega) (by omega)];omega
   ·refine hk _ ⟨?_,?_,p2,?_,g4⟩ ?_
    ·dsimp only;rw[w64 (by omega) (by omega)];omega
    ·dsimp only;rw[w64 (by omega) (by omega)];omega
    ·dsimp only;rw[w64 (by omega) (by omega)];omega
    ·dsimp only;rw[w64 (by omega) (by omega)];omega
def AnD (m:Nat) (l:List Ex):Prop:=l.length≤m∧ ∀ x∈l,shortS x.1∧shortS x.2.2
structure AhE (pl us re im ia:Int) (pe ex:List Gn) (sk ak:Bs) (fr:List Pt) (pu po:List Bs) (ma:List (Bs×Bs)) (na:List Gn) (pt:List Pt) (un:List Ex):Prop where
  pl: -1≤pl∧pl≤70
  us:0≤us∧us≤511
  re: -1≤re∧re≤70
  im: -1≤im∧im≤70
  ia: -1≤ia∧ia≤70
  pe:AaW 3 pe
  ex:AaW 3 ex
  sk:shortS sk
  ak:shortS ak
  fr:Ajf fr
  pu:Ai5 3 pu
  po:Ai5 3 po
  ma:Am8 3 ma
  na:AaW 2 na
  pt:Ajf pt
  un:AnD 2 un
theorem Ahp {α :Type} {l:List α} {a b:Nat} {x: α} (h:x∈AO l a b):x∈l:=List.mem_of_mem_take (List.mem_of_mem_drop h)
def An1:Info→Prop
  | (_,_,pl,us,pu,po,ma,re,im,ia,na,_,pe,ex,sk,ak,pt,fr,un)=>AhE pl us re im ia pe ex sk ak fr pu po ma na pt un
include hN hL in
theorem Akm {d:List Int×Int} (hd:BG L d):Ends (fun r=>An1 r.1∧BG L r.2) (VI N d):=by
  unfold VI
  try simp only[clR]
  rw[show ZF N=some (false,false,-1,0,[],[],[],-1,-1,-1,[],false,[],[],[],[],[],[],[])from rfl,Ae]
  refine Ar (nx N hL hd 6 (by omega) (by omega)) ?_
  rintro ⟨r,d1,d2⟩ ⟨h0,h1,h2⟩
  dsimp only at h0 h1 h2 ⊢
  refine EL (fun x=> ∃ t a b hb ca pl us re im ia hc pe ex sk ak fr pu po ma na pt un,x=(t,a,b,hb,ca,pl,us,re,im,ia,hc,pe,ex,sk,ak,fr,pu,po,ma,na,pt,un)∧0≤t∧t<6∧BG L (a,b)∧AhE pl us re im ia pe ex sk ak fr pu po ma na pt un) (fun x=>x.1.toNat) ?_ N _ ⟨r,d1,d2,false,false,-1,0,-1,-1,-1,false,[],[],[],[],[],[],[],[],[],[],[],rfl,h0,h1,h2,⟨by omega,by omega,by omega,by omega,by omega,⟨by simp,by simp⟩,⟨by simp,by simp⟩,by decide,by decide,⟨by simp,by simp⟩,⟨by simp,by simp⟩,⟨by simp,by simp⟩,⟨by simp,by simp⟩,⟨by simp,by simp⟩,⟨by simp,by simp⟩,⟨by simp,by simp⟩⟩⟩ (by dsimp only;omega)
  rintro _ ⟨t,a,b,hb,ca,pl,us,re,im,ia,hc,pe,ex,sk,ak,fr,pu,po,ma,na,pt,un,rfl,g0,g1,g2,P⟩ k hk
  dsimp only[U22]
  refine Ba (fun ht=> ?_) (fun _=> ?_)
  ·have ht:=of_decide_eq_true ht
   have go: ∀(a':List Int) (b':Int) (hb' ca':Bool) (pl' us' re' im' ia':Int) (hc':Bool) (pe' ex':List Gn) (sk' ak':Bs) (fr':List Pt) (pu' po':List Bs) (ma':List (Bs×Bs)) (na':List Gn) (pt':List Pt) (un':List Ex),BG L (a',b')→AhE pl' us' re' im' ia' pe' ex' sk' ak' fr' pu' po' ma' na' pt' un'→Ends (fun r=>An1 r.1∧BG L r.2) (k (i64.wrap (t - 1),a',b',hb',ca',pl',us',re',im',ia',hc',pe',ex',sk',ak',fr',pu',po',ma',na',pt',un')):=by
     intro a' b' hb' ca' pl' us' re' im' ia' hc' pe' ex' sk' ak' fr' pu' po' ma' na' pt' un' hda hP
     rw[w64 (by omega) (by omega)]
     exact hk _ ⟨t - 1,a',b',hb',ca',pl',us',re',im',ia',hc',pe',ex',sk',ak',fr',pu',po',ma',na',pt',un',rfl,by omega,by omega,hda,hP⟩ (by dsimp only;omega)
   refine Ar (nx N hL g2 14 (by omega) (by omega)) ?_
   rintro ⟨r,d1,d2⟩ ⟨h0,h1,h2⟩
   dsimp only at h0 h1 h2 ⊢
   refine iL (P:=fun x=> ∃ q,x=(q,d1,d2,hb,ca,pl,us,re,im,ia,hc,pe,ex,sk,ak,fr,un,pt,na,ma,po,pu)) (fun j hj=>Ba (fun _=>hj _ ⟨_,rfl⟩) (fun _=>hj _ ⟨_,rfl⟩)) ?_
   rintro _ ⟨q,rfl⟩
   dsimp only[U22]
   refine Ba (fun _=> ?_) (fun _=>Ba (fun _=> ?_) (fun _=>Ba (fun _=> ?_) (fun _=>Ba (fun _=> ?_) (fun _=>Ba (fun _=> ?_) (fun _=>Ba (fun _=> ?_) (fun _=>Ba (fun _=> ?_) (fun _=>Ba (fun _=> ?_) (fun _=>Ba (fun _=> ?_) (fun _=>Ba (fun _=> ?_) (fun _=>Ba (fun _=> ?_) (fun _=>Ba (fun _=> ?_) (fun _=> ?_))))))))))))
   ·refine Ar (nx N hL h2 5 (by omega) (by omega)) ?_
    rintro ⟨r,e1,e2⟩ ⟨f0,f1,f2⟩
    dsimp only at f0 f1 f2 ⊢
    exact go _ _ _ _ _ _ _ _ _ _ _ _ _ _ _ _ _ _ _ _ _ f2 {P with pl:=by rw[w64 (by omega) (by omega)];omega}
   ·exact go _ _ _ _ _ _ _ _ _ _ _ _ _ _ _ _ _ _ _ _ _ h2 {P with pl:=by omega}
   ·refine Ar (nx N hL h2 511 (by omega) (by omega)) ?_
    rintro ⟨r,e1,e2⟩ ⟨f0,f1,f2⟩
    dsimp only at f0 f1 f2 ⊢
    exact go _ _ _ _ _ _ _ _ _ _ _ _ _ _ _ _ _ _ _ _ _ f2 {P with us:=by rw[w64 (by omega) (by omega)];omega}
   ·refine Ar (Acu N hN hL true h2) ?_
    rintro ⟨r,e1,e2⟩ ⟨f0,f2⟩
    exact go _ _ _ _ _ _ _ _ _ _ _ _ _ _ _ _ _ _ _ _ _ f2 {P with pu:=f0}
   ·refine Ar (Acu N hN hL false h2) ?_
    rintro ⟨r,e1,e2⟩ ⟨f0,f2⟩
    exact go _ _ _ _ _ _ _ _ _ _ _ _ _ _ _ _ _ _ _ _ _ f2 {P with po:=f0}
   ·refine Ar (Adh N hN hL h2) ?_
    rintro ⟨r,e1,e2⟩ ⟨f0,f2⟩
    exact go _ _ _ _ _ _ _ _ _ _ _ _ _ _ _ _ _ _ _ _ _ f2 {P with ma:=f0}
   ·refine Ar (nx N hL h2 5 (by omega) (by omega)) ?_
    rintro ⟨r,e⟩ ⟨f0,f1,f2⟩
    refine Ar (nx N hL f2 5 (by omega) (by omega)) ?_
    rintro ⟨r2,e1,e2⟩ ⟨c0,c1,c2⟩
    dsimp only at f0 f1 c0 c1 c2 ⊢
    exact go _ _ _ _ _ _ _ _ _ _ _ _ _ _ _ _ _ _ _ _ _ c2 {P with re:=by rw[w64 (by omega) (by omega)];omega,im:=by rw[w64 (by omega) (by omega)];omega}
   ·refine Ar (nx N hL h2 65 (by omega) (by omega)) ?_
    rintro ⟨r,e1,e2⟩ ⟨f0,f1,f2⟩
    dsimp only at f0 f1 f2 ⊢
    exact go _ _ _ _ _ _ _ _ _ _ _ _ _ _ _ _ _ _ _ _ _ f2 {P with ia:=by omega}
   ·refine Ar (OV N hN hL h2) ?_
    rintro ⟨x,e⟩ ⟨f0,f2⟩
    refine Ar (OV N hN hL f2) ?_
    rintro ⟨y,e⟩ ⟨f1,f2⟩
    refine Ar (nx N hL f2 2 (by omega) (by omega)) ?_
    rintro ⟨r2,e1,e2⟩ ⟨c0,c1,c2⟩
    dsimp only at f0 f1 c0 c1 c2 ⊢
    rw[w64 (by omega) (by omega)]
    refine Az (decide_eq_true (by omega)) (Az (decide_eq_true (by omega)) ?_)
    refine go _ _ _ _ _ _ _ _ _ _ _ _ _ _ _ _ _ _ _ _ _ c2 {P with na:=⟨?_,fun g hg=> ?_⟩}
    ·unfold AO;rw[List.length_drop,List.length_take];simp;omega
    ·rcases List.mem_cons.1 (Ahp hg)with rfl | hg
     ·exact f0
     ·rw[List.mem_singleton.1 hg];exact f1
   ·refine Ar (AdJ N hN hL h2) ?_
    rintro ⟨⟨x,y⟩,e1,e2⟩ ⟨⟨f0,f1⟩,f2⟩
    exact go _ _ _ _ _ _ _ _ _ _ _ _ _ _ _ _ _ _ _ _ _ f2 {P with pe:=f0,ex:=f1}
   ·refine Ar (nx N hL h2 3 (by omega) (by omega)) ?_
    rintro ⟨r,e⟩ ⟨f0,f1,f2⟩
    dsimp only at f0 f1 f2 ⊢
    refine Az (decide_eq_true (by omega)) (Az (decide_eq_true (by omega)) (Az (decide_eq_true (by omega)) ?_))
    refine Ar (nx N hL f2 2 (by omega) (by omega)) ?_
    rintro ⟨r2,e1,e2⟩ ⟨c0,c1,c2⟩
    dsimp only at c0 c1 c2 ⊢
    refine Az (decide_eq_true (by omega)) (Az (decide_eq_true (by omega)) (Az (decide_eq_true (by omega)) ?_))
    exact go _ _ _ _ _ _ _ _ _ _ _ _ _ _ _ _ _ _ _ _ _ c2 {P with sk:=Gh (P:=shortS) (by decide) f0 f1,ak:=Gh (P:=shortS) (by decide) c0 c1}
   ·refine Ar (qX N hN hL h2) ?_
    rintro ⟨r,e1,e2⟩ ⟨f0,f2⟩
    exact go _ _ _ _ _ _ _ _ _ _ _ _ _ _ _ _ _ _ _ _ _ f2 {P with pt:=f0}
   ·refine Ar (qX N hN hL h2) ?_
    rintro ⟨r,e⟩ ⟨f0,f2⟩
    refine Ar (nx N hL f2 2 (by omega) (by omega)) ?_
    rintro ⟨r2,e⟩ ⟨c0,c1,c2⟩
    refine Ar (nx N hL c2 3 (by omega) (by omega)) ?_
    rintro ⟨r3,e1,e2⟩ ⟨z0,z1,z2⟩
    dsimp only at f0 c0 c1 z0 z1 z2 ⊢
    refine Az (decide_eq_true (by omega)) (Az (decide_eq_true (by omega)) ?_)
    refine go _ _ _ _ _ _ _ _ _ _ _ _ _ _ _ _ _ _ _ _ _ z2 {P with fr:=f0,un:=⟨?_,fun g hg=> ?_⟩}
    ·unfold AO;rw[List.length_drop,List.length_take];simp;omega
    ·rcases List.mem_cons.1 (Ahp hg)with rfl | hg
     ·exact⟨(by decide:shortS [49,46,50,46,51,46,52,46,53]),(by decide:shortS [5,0])⟩
     ·rw[List.mem_singleton.1 hg];exact⟨by decide,by decide⟩
  ·dsimp only[U21]
   exact Bq ⟨P,g2⟩
end
