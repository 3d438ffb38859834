import Derived.Test.YtbgjmioccbacdaaGreatDoorA22
import Derived.ChangeArms
import Derived.SliceStrings
import Derived.Test.YtbgjmioccbacdaaGreatDoorRows
import Derived.Test.YtbgjmioccbacdaaGreatDoorChecked
import Derived.Lib.LaidU8
import Derived.Shelf.Vars
import Derived.HandedShaped
import Derived.LaidLaws
set_option linter.all false
namespace Go.Proofs.YtbgjmioccbacdaaGreatDoor.Pl
open IntKind (i64 u8 u32 u64)
open Go Vm
def sgk (N:Nat) (sd:Bs):SgT:=(sd,1,0,[tr1 N sd])
def Aqp (N:Nat) (sd:Bs):SgT:=(sd,0,0,[SV N sd])
section
variable {N:Nat} (h:Big N) {sd:Bs} (hs:sd.length=32)
include h hs
theorem Auv:KG N (sg0 N sd)=some (pb1 N sd,sgk N sd):=by
 have e:=Ad1 h hs (tr0 N sd) (Ath h hs) rfl;unfold KG L8;try simp -zeta only[Aq]
 dsimp only[sg0,List.headD_cons];rw[ne_nil (by rw[hs];decide),F5,Jr];dsimp only;rw[cond_false,List.headD_cons,e,Jr];dsimp only[tr0,tr1];rw[DK,DK,LG,LG];rfl
theorem AsF:KG N (Aqo N sd)=some (UO N sd,Aqp N sd):=by
 have e:=Ag3 h hs (qH N sd) (Au1 h hs) rfl;unfold KG L8;try simp -zeta only[Aq]
 dsimp only[Aqo,List.headD_cons];rw[ne_nil (by rw[hs];decide),F5,Jr];dsimp only;rw[cond_false,List.headD_cons,e,Jr];dsimp only[qH,SV];rw[DK,DK,LG,LG];rfl
theorem AsG {m:Bs} (hm:m.length+64<N):Nu N (sgk N sd) m=some (si1 N sd m,0,sg1 N sd):=by
 have e1:=lW h hs (tr1 N sd).1 (idP N sd);have e2:=Am8 h hs hm (tr1 N sd).1 (An5 h hs);unfold Nu Sr L8;try simp -zeta only[Aq]
 unfold tr1 at e1 e2;dsimp only at e1 e2;dsimp only[sgk,tr1,Jr,List.headD_cons];rw[ne_nil (by rw[hs];decide),F5,cond_false,cond_false,e1,Jr];dsimp only;rw[show(i64.wrap (2 - 0))=2 from rfl,Jr];dsimp only;rw[show((2:Int)==0)=false from rfl,cond_false,List.headD_cons,e2,Jr];rfl
theorem Ark {m:Bs} (hm:m.length+64<N):Nu N (Aqp N sd) m=some (WB N sd m,0,Amk N sd):=by
 have e1:=sF h hs (SV N sd).1 (idP N sd);have e2:=AoP h hs hm (SV N sd).1 (AqN h hs);unfold Nu Sr L8;try simp -zeta only[Aq]
 unfold SV at e1 e2;dsimp only at e1 e2;dsimp only[Aqp,SV,Jr,List.headD_cons];rw[ne_nil (by rw[hs];decide),F5,cond_false,cond_false,e1,Jr];dsimp only;rw[show(i64.wrap (1 - 0))=1 from rfl,Jr];dsimp only;rw[show((1:Int)==0)=false from rfl,cond_false,List.headD_cons,e2,Jr];rfl
theorem At8:OkK 1 (idP N sd) (Yr N sd):=⟨by decide,(id_eq h hs).2,(AcV h hs).2⟩
theorem Asg:OkK 0 (idP N sd) (bH N sd):=⟨by decide,(id_eq h hs).2,Aej h hs⟩
theorem Aqq (m:Bs):(WB N sd m).length=564:=by unfold WB;rw[Dv,WC h (id_eq h hs).2 hs 0 (AaO N sd m)];rfl
end
def Ap.w (A:Ap) (k:Int×Bs×Bs):Ap:=⟨A.su,k.1,k.2.1,k.2.2,A.x⟩
def Ag4 {A:Ap} (h:ZU A) {k:Int×Bs×Bs} (K:OkK k.1 k.2.1 k.2.2):ZU (A.w k):=⟨h.su,K,h.x⟩
def Ag0 {N:Nat} (hN:1048578<N) {A:Ap} (h:ZU A) {k:Int×Bs×Bs} (K:OkK k.1 k.2.1 k.2.2) {sd sg:Bs} {hg:Int} {t0 t1 t2:TrT} (hs:sg.length<=600)
 (hk:KG N (sd,hg,0,[t0])=some (k,(sd,hg,0,[t1]))) (hi:Nu N (sd,hg,0,[t1]) (apB (A.w k))=some (sg,0,(sd,hg,1,[t2]))) (raw bd sig:Bs) :
 Q9 N (A.c raw bd sig) (sd,hg,0,[t0])=some (sgB (A.w k) sg,0,(sd,hg,1,[t2])):=by
 have hw:=Ag4 h K;unfold Q9;try simp -zeta only[Aq]
 dsimp only[List.headD_cons];rw[hk,Jr];dsimp only[List.headD_cons];refine(congrArg (fun o=>Jq o _) (Arq hN hw raw bd sig)).trans ?_;rw[Jr];dsimp only;rw[show((0:Int) != 0)=false from rfl,cond_false,hi,Jr];dsimp only[List.headD_cons];rw[show((0:Int) != 0)=false from rfl,cond_false,Ajr hN hw hs,Jr]
def Akj {N:Nat} (hN:1048578<N) {A:Ap} (h:ZU A) (raw bd sig:Bs):NL N (A.c raw bd sig) ()=some ([],18):=by
 unfold NL;try simp -zeta only[Aq]
 rw[show PV N ()=some (0,[],[])from rfl,Jr];dsimp only
 have e:Rk N (mkA raw bd A.su 0 [] [] A.x sig)=some ([],18):=by
  unfold Rk RF;try simp -zeta only[Aq]
  try dsimp only
  rw[QN hN h.su,Jr,show((0:Int) != 0)=false from rfl,cond_false,show LZ N ((0:Int),([]:Bs),([]:Bs))=some 18 from rfl,Jr];rfl
 refine(congrArg (fun o=>Jq o _) e).trans ?_;rw[Jr];rfl
def Aid (N:Nat) (hN:1048700<N) {L:List Int} (hL:L.length<=9223372036854775807): ∃ A d,ZU A/\MP N (L,0)=some (A.c [] [] [],d):=by
 have hd:KN L (L,0):=⟨0,rfl,EF _⟩
 have g:Ends (fun r=> ∃ A d,ZU A/\r=(A.c [] [] [],d)) (MP N (L,0)):=by
  unfold MP;try simp -zeta only[Aq]
  refine JA (Aeq N (by omega) hL hd) fun n hn=> ?_;refine JA (ApC N hN hL hn.2) fun k hk=> ?_;refine JA (ArM N (by omega) hL hk.2) fun x hx=> ?_;exact Kv ⟨⟨n.1,k.1.1,k.1.2.1,k.1.2.2,x.1⟩,x.2,⟨hn.1,⟨hk.1.1,hk.1.2.1,hk.1.2.2⟩,hx.1⟩,rfl⟩
 obtain⟨r,e,A,d,h,rfl⟩:=g;exact⟨A,d,h,e⟩
def AmF {N:Nat} {sd out:Bs} {t0 t1:TrT} {c dec:ApT} {d:List Int×Int} {k:Int×Bs×Bs} (h1:P6 N 1=some sd) (h2:QO N sd 0=some (.inl ((sd,0,0,[t0]),0))) (h3:MP N ([],0)=some (c,d))
 (h4:Q9 N c (sd,0,0,[t0])=some (out,0,(sd,0,1,[t1]))) (h5:Nz N out=some (dec,0)) (h6:KG N (sd,0,1,[t1])=some (k,(sd,0,1,[t1])))
 (k1:dec.2.2.2.1=k.1) (k2:dec.2.2.2.2.1=k.2.1) (k3:dec.2.2.2.2.2.1=k.2.2) (h7:JM N dec=some 0) (h8:JM N (([]:Bs),([]:Bs),([]:List RnT),0,([]:Bs),([]:Bs),false,false,0,0,([]:List Bs),([]:List Bs),([]:List (Bs×Bs)),0,0,0,([]:List GnT),false,([]:List GnT),([]:List GnT),([]:Bs),([]:Bs),([]:List PtT),([]:List PtT),([]:List (Bs×Bool×Bs)),([]:Bs))=some 22):SE N=some true:=by
 unfold SE;try simp -zeta only[Aq]
 rw[h1,Jr,h2,Nk];dsimp only;simp (decide:=true) only[cond_true,cond_false,LG,Eu,EG,Ff,EJ,Es];rw[show Yn N []=some ([],0)from rfl,Jr,h3,Jr];dsimp only[List.headD_cons];rw[h4,Jr];dsimp only;rw[h5,Jr];dsimp only;simp only[Ym,DK,cond_true,LG,EJ,Eu,FK];dsimp only[List.headD_cons];rw[h6,Jr];simp only[h7,h8,k1,k2,k3,Ym,DK,cond_true,LG,EJ,Eu,FK,Gh,Option.isSome_some,Option.getD_some]
def AoW {N:Nat} (hN:1048700<N) (hb:Big N):SE N=some true:=by
 obtain⟨A,d,h,e⟩:=Aid N hN (L:=[]) (by decide);have hM:1048578<N:=by omega
 obtain⟨sd,e2,hsd⟩: ∃ s,P6 N 1=some s/\s.length=32:=by have:=Abz (N - 300) 1;rwa [show N - 300+300=N by omega]at this
 have K:=Asg hb hsd;have hw:=Ag4 h (k:=UO N sd) K;have hB:=Ad6 hM hw;have hs:(WB N sd (apB (A.w (UO N sd)))).length<=600:=by rw[Aqq hb hsd];decide
 have e4:=Ag0 hM h (k:=UO N sd) K hs (AsF hb hsd) (Ark hb hsd (by omega)) [] [] []
 have e7:JM N ((A.w (UO N sd)).K.c (sgB (A.w (UO N sd)) (WB N sd (apB (A.w (UO N sd))))) (apB (A.w (UO N sd))) (WB N sd (apB (A.w (UO N sd)))))=some 0:=by
  unfold JM;try simp -zeta only[Aq]
  try dsimp only
  exact(congrArg (Jq · _) (Akn hb hsd (m:=apB (A.w (UO N sd))) (by omega))).trans rfl
 exact AmF e2 (AsA hb hsd) e e4 (qN hM hw hs) (Arj hb hsd) rfl rfl rfl e7 rfl
def As9 (N:Nat) (i q m:Bs) {s:Bs} (hl:s.length=580): ∃ e,P7 N (0,i,q) m s=some e/\(e != 0)=true:=by
 have h0:Ends (fun _=>True) (LZ N (0,i,q)):=by
  unfold LZ;try simp only[clR]
  repeat' first | exact Kv trivial | refine JH (fun _=> ?_) (fun _=> ?_)
 obtain⟨c,hc,_⟩:=h0;unfold P7;try simp -zeta only[Aq]
 rw[hc,Jr];cases h:c != 0 with
 | true=>exact⟨c,rfl,h⟩
 | false=>rw[cond_false,hl];exact⟨17,rfl,rfl⟩
def AsE (N:Nat) (i q m:Bs) {s:Bs} (hl:s.length=580): ∃ e,XA N (0,i,q) m s=some e/\(e != 0)=true:=by
 have h0:Ends (fun _=>True) (Vu N (0,i,q)):=by
  unfold Vu;try simp only[clR]
  repeat' first | exact Kv trivial | refine JH (fun _=> ?_) (fun _=> ?_)
 obtain⟨c,hc,_⟩:=h0
 obtain⟨l,hL⟩: ∃ l,ZF N s=some l:=by
  unfold ZF;try simp -zeta only[Aq]
  rw[hl];exact⟨_,rfl⟩
 unfold XA;try simp -zeta only[Aq]
 rw[hc,Jr];cases h:c != 0 with
 | true=>exact⟨c,rfl,h⟩
 | false =>rw[cond_false,hL,Jr,hl];exact⟨17,rfl,rfl⟩
def AmG {N:Nat} {k1 k2:Int} {L:List Int} {X Y:ApT} {d dd:List Int×Int} {sd out:Bs} {t0 t2:TrT} {key tk:Int×Bs×Bs} {tr:Bs×Bs×List (List Bs)}
 (h0:Yn N L=some d) (h1:MP N d=some (X,dd)) (h2:P6 N (i64.wrap k1)=some sd) (h3:QO N sd 1=some (.inl ((sd,1,0,[t0]),0)))
 (h4:Q9 N X (sd,1,0,[t0])=some (out,0,(sd,1,1,[t2]))) (h5:Nz N out=some (Y,0)) (h6:KG N (sd,1,1,[t2])=some (key,(sd,1,1,[t2])))
 (h7:WO N (i64.wrap k2) 0=some tr) (h8:VL N tr=some tk) (h9:NL N (X.1,X.2.1,X.2.2.1,key.1,key.2.1,key.2.2,X.2.2.2.2.2.2.1,X.2.2.2.2.2.2.2.1,X.2.2.2.2.2.2.2.2.1,X.2.2.2.2.2.2.2.2.2.1,X.2.2.2.2.2.2.2.2.2.2.1,X.2.2.2.2.2.2.2.2.2.2.2.1,X.2.2.2.2.2.2.2.2.2.2.2.2.1,X.2.2.2.2.2.2.2.2.2.2.2.2.2.1,X.2.2.2.2.2.2.2.2.2.2.2.2.2.2.1,X.2.2.2.2.2.2.2.2.2.2.2.2.2.2.2.1,X.2.2.2.2.2.2.2.2.2.2.2.2.2.2.2.2.1,X.2.2.2.2.2.2.2.2.2.2.2.2.2.2.2.2.2.1,X.2.2.2.2.2.2.2.2.2.2.2.2.2.2.2.2.2.2.1,X.2.2.2.2.2.2.2.2.2.2.2.2.2.2.2.2.2.2.2.1,X.2.2.2.2.2.2.2.2.2.2.2.2.2.2.2.2.2.2.2.2.1,X.2.2.2.2.2.2.2.2.2.2.2.2.2.2.2.2.2.2.2.2.2.1,X.2.2.2.2.2.2.2.2.2.2.2.2.2.2.2.2.2.2.2.2.2.2.1,X.2.2.2.2.2.2.2.2.2.2.2.2.2.2.2.2.2.2.2.2.2.2.2.1,X.2.2.2.2.2.2.2.2.2.2.2.2.2.2.2.2.2.2.2.2.2.2.2.2.1,X.2.2.2.2.2.2.2.2.2.2.2.2.2.2.2.2.2.2.2.2.2.2.2.2.2) ()=some ([],18)) (ha:SE N=some true)
 (s1:Le N Y.2.2.1 X.2.2.1=some true) (q1:(Y.2.2.2.1==key.1)=true) (q2:(Y.2.2.2.2.1==key.2.1)=true) (q3:(Y.2.2.2.2.2.1==key.2.2)=true) (s2:OB N (Y.2.2.2.2.2.2.1,Y.2.2.2.2.2.2.2.1,Y.2.2.2.2.2.2.2.2.1,Y.2.2.2.2.2.2.2.2.2.1,Y.2.2.2.2.2.2.2.2.2.2.1,Y.2.2.2.2.2.2.2.2.2.2.2.1,Y.2.2.2.2.2.2.2.2.2.2.2.2.1,Y.2.2.2.2.2.2.2.2.2.2.2.2.2.1,Y.2.2.2.2.2.2.2.2.2.2.2.2.2.2.1,Y.2.2.2.2.2.2.2.2.2.2.2.2.2.2.2.1,Y.2.2.2.2.2.2.2.2.2.2.2.2.2.2.2.2.1,Y.2.2.2.2.2.2.2.2.2.2.2.2.2.2.2.2.2.1,Y.2.2.2.2.2.2.2.2.2.2.2.2.2.2.2.2.2.2.1,Y.2.2.2.2.2.2.2.2.2.2.2.2.2.2.2.2.2.2.2.1,Y.2.2.2.2.2.2.2.2.2.2.2.2.2.2.2.2.2.2.2.2.1,Y.2.2.2.2.2.2.2.2.2.2.2.2.2.2.2.2.2.2.2.2.2.1,Y.2.2.2.2.2.2.2.2.2.2.2.2.2.2.2.2.2.2.2.2.2.2.1,Y.2.2.2.2.2.2.2.2.2.2.2.2.2.2.2.2.2.2.2.2.2.2.2.1,Y.2.2.2.2.2.2.2.2.2.2.2.2.2.2.2.2.2.2.2.2.2.2.2.2.1) (X.2.2.2.2.2.2.1,X.2.2.2.2.2.2.2.1,X.2.2.2.2.2.2.2.2.1,X.2.2.2.2.2.2.2.2.2.1,X.2.2.2.2.2.2.2.2.2.2.1,X.2.2.2.2.2.2.2.2.2.2.2.1,X.2.2.2.2.2.2.2.2.2.2.2.2.1,X.2.2.2.2.2.2.2.2.2.2.2.2.2.1,X.2.2.2.2.2.2.2.2.2.2.2.2.2.2.1,X.2.2.2.2.2.2.2.2.2.2.2.2.2.2.2.1,X.2.2.2.2.2.2.2.2.2.2.2.2.2.2.2.2.1,X.2.2.2.2.2.2.2.2.2.2.2.2.2.2.2.2.2.1,X.2.2.2.2.2.2.2.2.2.2.2.2.2.2.2.2.2.2.1,X.2.2.2.2.2.2.2.2.2.2.2.2.2.2.2.2.2.2.2.1,X.2.2.2.2.2.2.2.2.2.2.2.2.2.2.2.2.2.2.2.2.1,X.2.2.2.2.2.2.2.2.2.2.2.2.2.2.2.2.2.2.2.2.2.1,X.2.2.2.2.2.2.2.2.2.2.2.2.2.2.2.2.2.2.2.2.2.2.1,X.2.2.2.2.2.2.2.2.2.2.2.2.2.2.2.2.2.2.2.2.2.2.2.1,X.2.2.2.2.2.2.2.2.2.2.2.2.2.2.2.2.2.2.2.2.2.2.2.2.1)=some true) (hr:(Y.1==out)=true)
 (v0:JM N Y=some 0) (v1:JM N (Y.1,Y.2.1,Y.2.2.1,tk.1,tk.2.1,tk.2.2,Y.2.2.2.2.2.2.1,Y.2.2.2.2.2.2.2.1,Y.2.2.2.2.2.2.2.2.1,Y.2.2.2.2.2.2.2.2.2.1,Y.2.2.2.2.2.2.2.2.2.2.1,Y.2.2.2.2.2.2.2.2.2.2.2.1,Y.2.2.2.2.2.2.2.2.2.2.2.2.1,Y.2.2.2.2.2.2.2.2.2.2.2.2.2.1,Y.2.2.2.2.2.2.2.2.2.2.2.2.2.2.1,Y.2.2.2.2.2.2.2.2.2.2.2.2.2.2.2.1,Y.2.2.2.2.2.2.2.2.2.2.2.2.2.2.2.2.1,Y.2.2.2.2.2.2.2.2.2.2.2.2.2.2.2.2.2.1,Y.2.2.2.2.2.2.2.2.2.2.2.2.2.2.2.2.2.2.1,Y.2.2.2.2.2.2.2.2.2.2.2.2.2.2.2.2.2.2.2.1,Y.2.2.2.2.2.2.2.2.2.2.2.2.2.2.2.2.2.2.2.2.1,Y.2.2.2.2.2.2.2.2.2.2.2.2.2.2.2.2.2.2.2.2.2.1,Y.2.2.2.2.2.2.2.2.2.2.2.2.2.2.2.2.2.2.2.2.2.2.1,Y.2.2.2.2.2.2.2.2.2.2.2.2.2.2.2.2.2.2.2.2.2.2.2.1,Y.2.2.2.2.2.2.2.2.2.2.2.2.2.2.2.2.2.2.2.2.2.2.2.2.1,Y.2.2.2.2.2.2.2.2.2.2.2.2.2.2.2.2.2.2.2.2.2.2.2.2.2)=some 22) (v2:LQ N (Y.1,Y.2.1,Y.2.2.1,tk.1,tk.2.1,tk.2.2,Y.2.2.2.2.2.2.1,Y.2.2.2.2.2.2.2.1,Y.2.2.2.2.2.2.2.2.1,Y.2.2.2.2.2.2.2.2.2.1,Y.2.2.2.2.2.2.2.2.2.2.1,Y.2.2.2.2.2.2.2.2.2.2.2.1,Y.2.2.2.2.2.2.2.2.2.2.2.2.1,Y.2.2.2.2.2.2.2.2.2.2.2.2.2.1,Y.2.2.2.2.2.2.2.2.2.2.2.2.2.2.1,Y.2.2.2.2.2.2.2.2.2.2.2.2.2.2.2.1,Y.2.2.2.2.2.2.2.2.2.2.2.2.2.2.2.2.1,Y.2.2.2.2.2.2.2.2.2.2.2.2.2.2.2.2.2.1,Y.2.2.2.2.2.2.2.2.2.2.2.2.2.2.2.2.2.2.1,Y.2.2.2.2.2.2.2.2.2.2.2.2.2.2.2.2.2.2.2.1,Y.2.2.2.2.2.2.2.2.2.2.2.2.2.2.2.2.2.2.2.2.1,Y.2.2.2.2.2.2.2.2.2.2.2.2.2.2.2.2.2.2.2.2.2.1,Y.2.2.2.2.2.2.2.2.2.2.2.2.2.2.2.2.2.2.2.2.2.2.1,Y.2.2.2.2.2.2.2.2.2.2.2.2.2.2.2.2.2.2.2.2.2.2.2.1,Y.2.2.2.2.2.2.2.2.2.2.2.2.2.2.2.2.2.2.2.2.2.2.2.2.1,Y.2.2.2.2.2.2.2.2.2.2.2.2.2.2.2.2.2.2.2.2.2.2.2.2.2)=some 22):QM N k1 k2 L=some true:=by
 unfold QM;try simp -zeta only[Aq]
 rw[h0,Jr,h1,Jr,h2,Jr,h3,Nk];dsimp only[List.headD_cons];simp (decide:=true) only[cond_true,cond_false,LG,Eu,EG,Ff,EJ,Es];rw[h4,Jr];dsimp only[List.headD_cons];rw[h5,Jr];dsimp only;rw[h6,Jr];dsimp only;rw[h7,Jr,h8,Jr,h9,Jr,ha,Jr];simp only[Ym,DK,cond_true,LG,EJ,s1,s2,q1,q2,q3,hr,v0,v1,v2,Option.isSome_some,Option.getD_some,Gh]
def AoX {N:Nat} (hN:1048700<N) (hb:Big N) (k1 k2:Int) (L:List Int) (hL:L.length<=9223372036854775807):QM N k1 k2 L=some true:=by
 have hM:1048578<N:=by omega
 obtain⟨A,d,h,e⟩:=Aid N hN hL;have seed: ∀ k,∃ s,P6 N k=some s/\s.length=32:=fun k=>by have:=Abz (N - 300) k;rwa [show N - 300+300=N by omega]at this
 obtain⟨sd,e2,hsd⟩:=seed (i64.wrap k1);obtain⟨se,e3,hse⟩:=seed (i64.wrap k2);obtain⟨_,e4,i,q,rfl⟩:=AoQ hM hse;have ht:WO N (i64.wrap k2) 0=some (se,i,[[q]]):=by unfold WO;rw[e3,Jr,e4,Jr]
 have hk:VL N (se,i,[[q]])=some (0,i,q):=rfl;have K:=At8 hb hsd;have hw:=Ag4 h (k:=pb1 N sd) K;have hB:=Ad6 hM hw;have hl:=Akd hb hsd (apB (A.w (pb1 N sd)));have hs:(si1 N sd (apB (A.w (pb1 N sd)))).length<=600:=by omega
 have e5:=Ag0 hM h (k:=pb1 N sd) K hs (Auv hb hsd) (AsG hb hsd (by omega)) [] [] []
 have v0:JM N ((A.w (pb1 N sd)).K.c (sgB (A.w (pb1 N sd)) (si1 N sd (apB (A.w (pb1 N sd))))) (apB (A.w (pb1 N sd))) (si1 N sd (apB (A.w (pb1 N sd)))))=some 0:=by
  unfold JM;try simp -zeta only[Aq]
  try dsimp only
  exact(congrArg (Jq · _) (Aiz hb hsd (m:=apB (A.w (pb1 N sd))) (by omega))).trans rfl
 obtain⟨f1,g1,b1⟩:=As9 N i q (apB (A.w (pb1 N sd))) hl;obtain⟨f2,g2,b2⟩:=AsE N i q (apB (A.w (pb1 N sd))) hl;refine AmG (d:=(L,0)) rfl e e2 (Ari hb hsd) e5 (qN hM hw hs) (AoK hb hsd) ht hk (Akj hM hw [] [] []) (AoW hN hb) (lX hM h.su) (DK _) (DK _) (DK _) (Akp hM h.x) (DK _) v0 ?_ ?_
 .unfold JM;try simp -zeta only[Aq]
  try dsimp only
  refine(congrArg (Jq · _) g1).trans ?_;rw[Jr,b1];rfl
 .unfold LQ;try simp -zeta only[Aq]
  try dsimp only
  refine(congrArg (Jq · _) g2).trans ?_;rw[Jr,b2];rfl
def Akw (k1 k2:Int) (L:List Int) (hL:L.length<=9223372036854775807):QM 2097152 k1 k2 L=some true:=AoX (by decide) ⟨by decide,by decide⟩ k1 k2 L hL
end Go.Proofs.YtbgjmioccbacdaaGreatDoor.Pl
namespace Go.Proofs.YtbgjmioccbacdaaGreatDoor.Vm
open Go.RowKit
def Moves.below {T:Nat->Prop} {w w':World} (h:Moves (fun _ _=>none) T w w'):Below w.heap.size w w' :=
 ⟨h.os,h.tape,h.output,h.size,fun b hb=>by
   rcases h.blk b hb with e | ⟨c,c',e,fr,_,_,_,_,k,o,_,ho,_⟩ | ⟨_,_,_,_,o,_,_,ho,_⟩
   .exact e
   .cases ho
   .cases ho⟩
def Sig.AuZ {Js J7:List Sh} {f:ShT Js->Option (ShT (Lr Js J7))} {xs:List A} {a:ShT Js} {o:ShT (Lr Js J7)} (hd:Wn Js xs=some a) (hf:f a=some o):(Sig.of Js J7 f).F xs=some (encs (Lr Js J7) o):=by unfold Sig.F Sig.of;dsimp only;rw[hd];dsimp only;rw[hf];rfl
def AnK {P:Program} {f:FuncId} {sg:Sig} (h:Spec P f sg) {xs:List A} {vs:Array Value} {W:World} (hF:sg.F xs=some [.bool true]) (hress:sg.J7=[.cell false .bool]) (hv:vs.size=xs.length) (hl:xs.length=sg.Js.length) (h100:xs.length<=100)
 (hx: ∀ j,j<xs.length->IR (fun _ _=>none) W (256*j) (vs.getD j undef) (xs.getD j .undef)) (hI:Inv (fun _ _=>none) W):Calls P f vs W fun e w'=>e= .returned (.bool true)/\Below W.heap.size W w':=by
 refine(h.2 (fun _ _=>none) W vs xs _ hI hv hl h100 hx hF).mono fun e w' hq=> ?_;obtain⟨v,O',he,hc⟩:=hq;obtain⟨us,h1,h2,h3⟩:=hc.res;rw[hress]at h1;have h1':us.size=1:=h1;have h4:Jw O' w' (us.getD 0 undef) (.bool true):=h3 0 (by omega);have h5:us.getD 0 undef= .bool true:=by generalize us.getD 0 undef=z at h4;cases h4;rfl
 have h6:v= .bool true:=by rw[h2,GZ h1',<- h5];simp [Dn,h1']
 exact⟨by rw[he,h6],hc.moves.below⟩
open Go.ChangeShapes Go.WideShapes
def nobody:Own:=fun _ _=>none
def ApQ:A->Prop
 | .int k n=>k.min<=n/\n<=k.max
 | .str s=>s.length<=9223372036854775807
 | _=>True
def okN:Nat->A->Prop
 | 0,_=>False
 | n+1,.sl l=>l.xs.length<=9223372036854775807/\ ∀ c∈l.es,∀ a∈c,okN n a
 | _+1,a=>ApQ a
structure Opened (n:Nat) (w:World) (ks:List CK) (cs:List Value) (aa:List A):Prop where
 lc:cs.length=ks.length
 la:aa.length=ks.length
 rel: ∀ j,j<ks.length->Jw nobody w (cs.getD j undef) (aa.getD j .undef)
 made:((tyl ks).mk aa).1=true
 ok: ∀ a∈aa,okN n a
def At1: ∀(n:Nat) (a:A),okN n a->okN (n+1) a:=by
 intro n
 induction n with
 | zero=>intro a h;exact h.elim
 | succ n ih =>intro a h;cases a<;>first | exact h | exact⟨h.1,fun c hc z hz=>ih z (h.2 c hc z hz)⟩
def Opened.up {n:Nat} {w:World} {ks:List CK} {cs:List Value} {aa:List A} (h:Opened n w ks cs aa):Opened (n+1) w ks cs aa:=⟨h.lc,h.la,h.rel,h.made,fun a ha=>At1 n a (h.ok a ha)⟩
def AnS: ∀(a:List CK) {b:List CK} {x y:List A},((tyl a).mk x).1=true->((tyl b).mk y).1=true->((tyl (a++b)).mk (x++y)).1=true:=by
 intro a
 induction a with
 | nil =>
  intro b x y hx hy;cases x with
  | nil=>exact hy
  | cons _ _=>cases hx
 | cons k a ih =>
  intro b x y hx hy;cases k with
  | bool =>
   cases x with
   | nil=>cases hx
   | cons c x=>cases c<;>first | exact ih (x:=x) hx hy | cases hx
  | int k =>
   cases x with
   | nil=>cases hx
   | cons c x =>
    cases c<;>first
     | (simp only[tyl,Ty.mk,Dq]at hx
        simp only[List.cons_append,tyl,Ty.mk,Dq];exact⟨hx.1,ih hx.2 hy⟩)
     | cases hx
  | str =>
   cases x with
   | nil=>cases hx
   | cons c x=>cases c<;>first | exact ih (x:=x) hx hy | cases hx
  | sl e t =>
   cases x with
   | nil=>cases hx
   | cons c x =>
    cases c with
    | sl l =>
     simp only[tyl,Ty.mk]at hx;simp only[List.cons_append,tyl,Ty.mk];cases hc:l.cast t with
     | none=>rw[hc]at hx;cases hx
     | some xs=>rw[hc]at hx;exact ih (x:=x) hx hy
    | _=>cases hx
  | sln e t =>
   cases x with
   | nil=>cases hx
   | cons c x =>
    cases c with
    | sl l =>
     simp only[tyl,Ty.mk]at hx;simp only[List.cons_append,tyl,Ty.mk];cases hc:l.cast t with
     | none=>rw[hc]at hx;cases hx
     | some xs=>rw[hc]at hx;exact ih (x:=x) hx hy
    | _=>cases hx
  | ptr =>
   cases x with
   | nil=>cases hx
   | cons c x=>cases c<;>first | exact ih (x:=x) hx hy | cases hx
  | fn =>
   cases x with
   | nil=>cases hx
   | cons c x=>cases c<;>first | exact ih (x:=x) hx hy | cases hx
  | mp kt vt =>
   cases x with
   | nil=>cases hx
   | cons c x =>
    cases c with
    | ump l =>
     simp only[tyl,Ty.mk]at hx;simp only[List.cons_append,tyl,Ty.mk];cases hc:l.cast kt vt with
     | none=>rw[hc]at hx;cases hx
     | some xs=>rw[hc]at hx;exact ih (x:=x) hx hy
    | _=>cases hx
  | bx t =>
   cases x with
   | nil=>cases hx
   | cons c x =>
    cases c with
    | sl l =>
     simp only[tyl,Ty.mk]at hx;simp only[List.cons_append,tyl,Ty.mk];cases hc:l.cast t with
     | none=>rw[hc]at hx;cases hx
     | some xs=>rw[hc]at hx;exact ih (x:=x) hx hy
    | _=>cases hx
  | oth =>
   cases x with
   | nil=>cases hx
   | cons c x=>cases c<;>first | exact ih (x:=x) hx hy | cases hx
theorem Opened.nil {n:Nat} {w:World}:Opened n w [] [] []:=⟨rfl,rfl,fun j hj=>absurd hj (Hw j),rfl,fun a ha=>(by cases ha)⟩
def Opened.append {n:Nat} {w:World} {a b:List CK} {x y:List Value} {p q:List A} (h1:Opened n w a x p) (h2:Opened n w b y q):Opened n w (a++b) (x++y) (p++q):=by
 refine⟨by simp [h1.lc,h2.lc],by simp [h1.la,h2.la],fun j hj=> ?_,AnS a h1.made h2.made,fun z hz=> ?_⟩
 .rw[Dv]at hj;by_cases h:j<a.length
  .have:=h1.rel j h;rw[Dj,Em (by rw[h1.lc];exact h),<- Dj,Dj (l:=p++q),Em (by rw[h1.la];exact h),<- Dj];exact this
  .have:=h2.rel (j - a.length) (by omega);rw[Dj,E5 (by rw[h1.lc];omega),<- Dj,Dj (l:=p++q),E5 (by rw[h1.la];omega),<- Dj,h1.lc,h1.la];exact this
 .rcases DU.1 hz with hz | hz
  .exact h1.ok z hz
  .exact h2.ok z hz
def Opened.one {n:Nat} {w:World} {k:CK} {v:Value} {a:A} (hr:Jw nobody w v a) (hm:((tyl [k]).mk [a]).1=true) (ho:okN n a):Opened n w [k] [v] [a] :=
 ⟨rfl,rfl,fun j hj=>by
   have:j=0:=by simp at hj;omega
   subst this;exact hr,hm,fun z hz=>by rw[Eh.1 hz];exact ho⟩
def Y0 (P:Program) (n t:Nat):Nat:=match OH P n t with | some cs=>cs.length | none=>0
def AcO (P:Program) (n:Nat):List Field->Nat->Bool
 | [],_=>true
 | f::r,o=>Nat.beq f.offset o&&Nat.beq (P.cellsOf f.type) (Y0 P n f.type)&&AcO P n r (o+Y0 P n f.type)
def lC (P:Program):Nat->Nat->Bool
 | 0,_=>false
 | n+1,t=>match P.underlying t with
  | some .bool=>true
  | some (.int _)=>true
  | some .string=>true
  | some (.slice e)=>lC P n e&&Nat.beq (P.cellsOf e) (Y0 P n e)&&Nat.blt 0 (Y0 P n e)&&(match OH P n e with | some cs=>cs.all CK.plain | none=>false)
  | some (.struct fs)=>Nat.beq (P.cellsOf t) (Y0 P (n+1) t)&&AcO P n fs.toList 0&&fs.toList.all (fun f=>lC P n f.type)
  | _=>false
section
variable {H:Type} {enc:TypeId×Value->H} {P:Program} {w:World} {base:Nat} {spare:Nat->Bool} {held:Bool}
theorem tJ {a:Addr} {n:Nat} {cs:List Value} (h:w.cells? base a n=some cs):cs.length=n/\ ∀ j,j<n->w.cell? (a.add j)=some (cs.getD j undef):=by
 unfold World.cells? at h;split at h
 .have key: ∀(l:List Nat) (cs:List Value),l.mapM (fun i=>w.cell? (a.add i))=some cs->cs.length=l.length/\ ∀ j (hj:j<l.length),w.cell? (a.add l[j])=some (cs.getD j undef):=by
   intro l
   induction l with
   | nil=>grind
   | cons i l ih =>
    intro cs h;rw[H5]at h;cases h1:w.cell? (a.add i)with
    | none=>rw[h1]at h;cases h
    | some v =>
     rw[h1]at h;cases h2:l.mapM (fun i=>w.cell? (a.add i))with
     | none=>rw[h2]at h;cases h
     | some r =>
      rw[h2]at h;injection h with h;subst h;obtain⟨k1,k2⟩:=ih r h2;refine⟨by simp [k1],fun j hj=> ?_⟩;cases j with
      | zero=>exact h1
      | succ j=>grind
  all_goals grind
 .cases h
theorem Aqu {l:List Value} {o a b:Nat}:(l.drop o).take (a+b)=(l.drop o).take a++(l.drop (o+a)).take b:=by rw[List.take_add,Gx]
theorem pV (e:Nat) (t:Ty) (xs:List t.Val):((tyl [.sl e t]).mk [.sl ⟨t,xs⟩]).1=true:=by simp only[tyl,Ty.mk];rw[Sl.YD];rfl
theorem Aj5 (hspare: ∀ b,spare b=true): ∀(n:Nat) (t:TypeId) (ks:List CK) (fuel:Nat) (cs:List Value) (x:DataW H×List MemPlace),OH P n t=some ks->lC P n t=true->DataW.trod enc P w base spare held fuel t cs=some x ->
 ∃ aa,Opened n w ks cs aa:=by
 intro n
 induction n with
 | zero=>intro t ks fuel cs x h;cases h
 | succ n ih =>
  intro t ks fuel cs x hck hok h;unfold OH at hck;unfold lC at hok;cases hu:P.underlying t with
  | none=>rw[hu]at hck;cases hck
  | some d =>
   rw[hu]at hck hok;cases d with
   | bool =>injection hck with hck;subst hck;obtain⟨b,rfl,_⟩:=DataW.trod_bool hu h;exact⟨[.bool b],Opened.one (.bool b) rfl trivial⟩
   | int k =>
    injection hck with hck;subst hck;obtain⟨v,rfl,_,hw⟩:=DataW.trod_int hu h;have hk:ApQ (.int k v):=by unfold Lit.wf at hw;rw[Dq,DJ,DJ]at hw;exact hw
    exact⟨[.int k v],Opened.one (.int k v) (by cases k<;>rfl) hk⟩
   | string =>
    injection hck with hck;subst hck;obtain⟨v,rfl,_,hw⟩:=DataW.trod_string hu h
    have hk:ApQ (.str v.data.toList):=by
     show v.data.toList.length<=_;have e:v.data.toList.length=v.size:=by rw[Array.length_toList];rfl
     have:maxLen=9223372036854775807:=rfl;omega
    exact⟨[.str v.data.toList],Opened.one (.str v) rfl hk⟩
   | slice e =>
    dsimp only at hck hok;simp only[Dq]at hok;obtain⟨⟨⟨hoe,hce⟩,hc0⟩,hpl⟩:=hok;cases hke:OH P n e with
    | none=>rw[hke]at hpl;cases hpl
    | some ke =>
     rw[hke]at hck hpl;dsimp only at hck hpl;rw[hpl]at hck;injection hck with hck;subst hck;have hlen:P.cellsOf e=ke.length:=by have:=Dp hce;unfold Y0 at this;rw[hke]at this;exact this
     rcases DataW.trod_slice hu h with ⟨rfl,_⟩ | ⟨a,len,cap,elems,rest,m,_,rfl,_,hb,hl,hm,hel,hels,hsp,_⟩
     .exact⟨[.sl ⟨tyl ke,[]⟩],Opened.one (.nil _) (pV _ _ _) ⟨EF _,fun c hc=>(by cases hc)⟩⟩
     .by_cases hcap:cap=0
      .have hlen0:len=0:=by omega
       subst hcap;subst hlen0;exact⟨[.sl ⟨tyl ke,[]⟩],Opened.one (.sl0 a _) (pV _ _ _) ⟨EF _,fun c hc=>(by cases hc)⟩⟩
      have hk0:0<P.cellsOf e:=by have h2:=Dp hce;rw[h2];simpa using hc0
      have hread: ∃ u,w.cell? a=some u:=by
       by_cases h0:0<len
       .have he:=hels 0 h0;rw[D9 (by omega:0<elems.length),G6]at he;obtain⟨q,hq,_⟩:=he;obtain⟨_,k2⟩:=tJ hq;have:=k2 0 hk0;rw[Hg]at this;exact⟨_,this⟩
       .have hz:len=0:=by omega
        obtain⟨hr1,hr2⟩:=hsp (hspare _);have he:=hr2 0 (by omega);rw[D9 (by omega:0<rest.length),G6]at he;obtain⟨q,hq,_⟩:=he;obtain⟨_,k2⟩:=tJ hq;have:=k2 0 hk0;rw[hz,Hg]at this;exact⟨_,this⟩
      have hspot:a.spot=none:=by
       obtain⟨u,hu⟩:=hread;unfold World.cell? at hu;split at hu
       .cases hs:a.spot with
        | none=>rfl
        | some z=>rw[hs]at hu;cases hu
       .cases hu
      have ha:a=at' a.block a.off:=by obtain⟨b,o,sp⟩:=a;dsimp only at hspot;rw[hspot]
      have each: ∀ i,∃(q:List Value) (aa:List A),i<len->(∀ j,j<ke.length->w.cell? (at' a.block (a.off+(i*ke.length+j)))=some (q.getD j undef))/\Opened n w ke q aa:=by
       intro i;by_cases hi:i<len
       .have he:=hels i hi;have hei:elems[i]? =some (elems[i]'(by omega)):=D9 (by omega);rw[hei,G6]at he;obtain⟨q,hq,hq2⟩:=he;obtain⟨k1,k2⟩:=tJ hq;rw[hlen]at k1 k2;obtain⟨aa,h1⟩:=ih e ke m q _ hke hoe hq2;refine⟨q,aa,fun _=>⟨fun j hj=> ?_,h1⟩⟩;have:=k2 j hj;rw[ha,RP,RP]at this;rw[<- this];congr 2;omega
       .exact⟨[],[],fun h=>absurd h hi⟩
      obtain⟨q,hq⟩:=Gz each;obtain⟨aa,haa⟩:=Gz hq;let l:Sl:=⟨tyl ke,(List.range len).map fun i=>((tyl ke).mk (aa i)).2⟩
      have hes:l.es=(List.range len).map aa:=by show((List.range len).map fun i=>((tyl ke).mk (aa i)).2).map (tyl ke).cells=_;rw[EO];refine Ej fun i hi=> ?_;exact Ty.SG _ _ (haa i (ER.1 hi)).2.made
      have hesl:l.es.length=len:=by rw[hes,Dx,FH]
      have hsz:l.sz=ke.length:=V4 ke;have hget: ∀ i,i<len->l.es.getD i []=aa i:=fun i hi=>by rw[hes,Dj,Ed,Iw hi];rfl
      have hrel:Jw nobody w (.slice (some a) len cap) (.sl l):=by
       rw[ha,<- hesl];refine Jw.sl (fun i j=>(q i).getD j undef) (by rw[hesl];exact hl) (fun i j hi hj=> ?_) (fun i j hi hj=> ?_)
       .rw[hsz]at hj ⊢;exact⟨rfl,(haa i (by rw[<- hesl];exact hi)).1 j hj⟩
       .rw[hsz]at hj;have hi':i<len:=by rw[<- hesl];exact hi
        rw[hget i hi'];exact(haa i hi').2.rel j hj
      refine⟨[.sl l],Opened.one hrel (pV _ _ _) ⟨?_,fun c hc z hz=> ?_⟩⟩
      .show((List.range len).map _).length<=_;rw[Dx,FH];have:maxLen=9223372036854775807:=rfl;omega
      .rw[hes]at hc;obtain⟨i,hi,rfl⟩:=DF.1 hc;exact(haa i (ER.1 hi)).2.ok z hz
   | struct fs =>
    dsimp only at hck hok;simp only[Dq]at hok;obtain⟨⟨hcl,hoff⟩,hall⟩:=hok;obtain⟨xs,m,_,_,hl,hxl,hxs⟩:=DataW.trod_struct hu h
    have fields: ∀(l:List Field) (o:Nat) (ks:List CK),l.foldr (fun f acc=>match OH P n f.type,acc with | some a,some b=>some (a++b) | _,_=>none) (some [])=some ks->AcO P n l o=true->(∀ f∈l,lC P n f.type=true) ->
     (∀ f∈l,∃ y,DataW.trod enc P w base spare held m f.type ((cs.drop f.offset).take (P.cellsOf f.type))=some y)-> ∃ aa,Opened n w ks ((cs.drop o).take ks.length) aa:=by
     intro l
     induction l with
     | nil =>intro o ks hk _ _ _;injection hk with hk;subst hk;exact⟨[],Opened.nil⟩
     | cons f r ihr =>
      intro o ks hk ho hf hy;rw[List.foldr_cons]at hk;cases ha:OH P n f.type with
      | none=>rw[ha]at hk;cases hk
      | some a =>
       rw[ha]at hk;cases hb:r.foldr (fun f acc=>match OH P n f.type,acc with | some a,some b=>some (a++b) | _,_=>none) (some [])with
       | none=>rw[hb]at hk;cases hk
       | some b =>
        rw[hb]at hk;injection hk with hk;subst hk;have hal:Y0 P n f.type=a.length:=by unfold Y0;rw[ha]
        unfold AcO at ho;simp only[Dq]at ho;obtain⟨⟨h1,h2⟩,h3⟩:=ho;have h1:=Dp h1;have h2:=Dp h2;rw[hal]at h2 h3;obtain⟨y,hy1⟩:=hy f Du;rw[h1,h2]at hy1;obtain⟨pa,p1⟩:=ih f.type a m _ y ha (hf f Du) hy1;obtain⟨pb,q1⟩:=ihr (o+a.length) b hb h3 (fun g hg=>hf g (Dy _ hg)) (fun g hg=>hy g (Dy _ hg));refine⟨pa++pb,?_⟩;rw[Dv,Aqu];exact p1.append q1
    obtain⟨aa,h1⟩:=fields fs.toList 0 ks hck hoff (fun f hf=>D7.1 hall f hf) (fun f hf=>by
     obtain⟨i,hi⟩:=List.getElem?_of_mem hf;have hi':fs[i]? =some f:=by rw[<- DY];exact hi
     have:=hxs i f hi';have hlt:i<xs.length:=by rw[hxl];exact(DT.1 hi').1
     rw[D9 hlt]at this;exact⟨_,this⟩)
    have hcs:(cs.drop 0).take ks.length=cs:=by
     rw[F6];refine EL ?_;have h3:=Dp hcl;have h4:Y0 P (n+1) t=ks.length:=by unfold Y0 OH;rw[hu];dsimp only;rw[hck]
     omega
    rw[hcs]at h1;exact⟨aa,h1.up⟩
   | _=>cases hok
theorem Ak9 {r:Reach} {b0:Nat} {u:TypeId} {cs:Array Value} (h:Cell.okWide P w r b0 u (.agg cs)):False:=by
 have h':Cell.ok P w r b0 u (.agg cs):=by unfold Cell.okWide at h;all_goals grind
 unfold Cell.ok at h';all_goals grind
def AsM (P:Program) (t:TypeId):Bool:=match P.underlying t with
 | some (.struct _)=>true
 | some (.array _ _)=>true
 | _=>false
theorem open_cell {r:Reach} {b0 n:Nat} {t:TypeId} {v:Value} {d:DataW H} {ps:List MemPlace} {k:CK} (hck:OH P n t=some [k]) (hspare: ∀ b,spare b=true) (hok:lC P n t=true) (ha:AsM P t=false) (hval:Value.okWide P w r b0 t v) (hd:DataW.Trod enc P w base spare held t v d ps) :
 ∃ a,Jw nobody w v a/\((tyl [k]).mk [a]).1=true/\okN n a:=by
 have hc:Cell.okWide P w r b0 t v:=by unfold Value.okWide at hval;all_goals grind[AsM]
 have hcells:v.cells.toList=[v]:=by
  cases v with
  | agg cs=>exact(Ak9 hc).elim
  | _=>rfl
 obtain⟨fuel,h⟩:=hd;rw[hcells]at h;obtain⟨aa,h1⟩:=Aj5 hspare n t [k] fuel [v] _ hck hok h;obtain⟨a,rfl⟩: ∃ a,aa=[a]:=Fv.1 h1.la;exact⟨a,h1.rel 0 (by show 0<1;omega),h1.made,h1.ok a Du⟩
theorem Opened.ir {n:Nat} {ks:List CK} {cs:Array Value} {aa:List A} (h:Opened n w ks cs.toList aa) (id:Nat):IR nobody w id (.agg cs) (.agg aa):=by
 refine⟨cs,rfl,?_,fun j hj=>Jw.ic ?_⟩
 .rw[<- Array.length_toList,h.lc,h.la]
 .have:=h.rel j (by rw[<- h.la];exact hj);all_goals simp_all[CK,IR,nobody]
theorem Jw.ir {id:Nat} {v:Value} {a:A} (h:Jw nobody w v a):IR nobody w id v a:=by have:=h.ic (id:=id);cases h<;>exact this
end
open Go Go.Lib
abbrev tabs:List (String×DataW Unit):=[("math/bits.deBruijn32tab",Rows.laid_math_bits_deBruijn32tab),("math/bits.deBruijn64tab",Rows.laid_math_bits_deBruijn64tab),("internal/strconv.uint64pow10",Rows.laid_internal_strconv_uint64pow10),("unicode/utf8.acceptRanges",Rows.laid_unicode_utf8_acceptRanges),("unicode/utf8.first",Rows.laid_unicode_utf8_first)]
def AuY:DataW Unit->Value
 | .lit (.int k n)=>.int k n
 | _=>undef
def Aif:DataW Unit->List Value
 | .agg l=>l.map AuY
 | _=>[]
def Ava:DataW Unit->List Value
 | .agg l=>l.flatMap Aif
 | _=>[]
noncomputable def laidWorld (os:Os):World :=
 let w0:=World.holding Tryz.prog os ⟨#[],#[],[]⟩
 {w0 with heap:=((((w0.heap.modify 1 fun
  | .cells _ t frozen=>.cells (Aif Rows.laid_internal_strconv_uint64pow10).toArray t frozen
  | o=>o).modify 4 fun
  | .cells _ t frozen=>.cells (Aif Rows.laid_unicode_utf8_first).toArray t frozen
  | o=>o).modify 5 fun
  | .cells _ t frozen=>.cells (Ava Rows.laid_unicode_utf8_acceptRanges).toArray t frozen
  | o=>o).modify 2 fun
  | .cells _ t frozen=>.cells (Aif Rows.laid_math_bits_deBruijn32tab).toArray t frozen
  | o=>o).modify 3 fun
  | .cells _ t frozen=>.cells (Aif Rows.laid_math_bits_deBruijn64tab).toArray t frozen
  | o=>o}
def laid_met (os:Os) (args:Array Value):laidMet Tryz.prog tabs ((laidWorld os).forCall (fun _ _=>0) ⟨#[],args,[]⟩).memory :=
 laidMet_of_run' 8 (by kernel_rfl) (by kernel_rfl)
set_option maxRecDepth 100000 in
def ApY {W:World} (h:laidMet Tryz.prog tabs W) (j:Nat) (hj:j<20):W.cell? ⟨1,j,none⟩=some (.int .u64 ((10 ^ j:Nat):Int)):=by
 obtain⟨g,t,cs,fuel,p,hg,ht,hvar,hd⟩:=laidMet.reads h (n:= "internal/strconv.uint64pow10") (d:=Rows.laid_internal_strconv_uint64pow10) (Dy _ (Dy _ Du));obtain rfl:=Fp ((show Tryz.prog.globalNamed "internal/strconv.uint64pow10" =some 1 by kernel_rfl).symm.trans hg);obtain rfl:=Fp ((show(Tryz.prog.globals[1]?).map (·.type)=some 336 by kernel_rfl).symm.trans ht);have hu:Tryz.prog.underlying 336=some (.array 20 283):=by kernel_rfl
 have hu2:Tryz.prog.underlying 283=some (.int .u64):=by kernel_rfl
 have hc:Tryz.prog.cellsOf 283=1:=by kernel_rfl
 have hds:(Rows.laid_internal_strconv_uint64pow10:DataW Unit)= .agg ((List.range 20).map fun j=>.lit (.int .u64 ((10 ^ j:Nat):Int))):=by kernel_rfl
 rw[hds]at hd;obtain⟨fuel',d,q,h1,h2⟩:=array_elem hu hd j hj;rw[Ed,Iw hj]at h1;injection h1 with h1;subst h1;rw[hc,EU]at h2;obtain⟨n,h3,h4,_⟩:=DataW.trod_int hu2 h2;have hn:((10 ^ j:Nat):Int)=n:=by have:=congrArg Prod.fst h4;injection this with this;injection this with _ this
 rw[World.var?_cell hg hvar j]
 have h5:(cs.toList.drop j)[0]? =some (.int .u64 n):=by
  have:((cs.toList.drop j).take 1)[0]? =some (.int .u64 n):=by rw[h3];rfl
  rwa [Gv (by omega)]at this
 rw[Gi,Nat.add_zero,DY]at h5;rw[h5,hn]
def inv_of {W:World} (hs:W.ShapedOpen Tryz.prog) (hl:laidMet Tryz.prog tabs W):Inv nobody W:=by
 refine⟨fun g j p h=> ?_,fun g n h=> ?_⟩
 .unfold iU at h;split at h
  .injection h with h;subst h;obtain⟨m,hm⟩:=cell_of_shapedOpen_int (P:=Tryz.prog) (g:=0) (t:=3) (zero:= #[.int .i64 0]) (k:=.i64) hs (D5 (by kernel_rfl)) (by kernel_rfl) rfl (by kernel_rfl) (by kernel_rfl) (by kernel_rfl);exact⟨rfl,_,hm,m,rfl⟩
  .split at h
   .rename_i hj;injection h with h;subst h;exact⟨rfl,_,ApY hl _ hj,rfl⟩
   .cases h
  .cases h
 .unfold Aqw at h;split at h
  .injection h with h;subst h;obtain⟨cs,h1,h2,_⟩:=hs.1 1 (Array.replicate 20 (.int .u64 0)) 336 (D5 (by kernel_rfl)) (by kernel_rfl);exact⟨cs,_,_,h1,h2⟩
  .cases h
section
variable {H:Type} {enc:TypeId×Value->H}
theorem Aie {a:Assume} {C:Checked} {os:Os} {f:FuncId} {fn:Func} {s:ChangeSpec} {conds:List PathCond} {apart fresh handsOn again:Bool} {X:World->Array Value->Prop}
 (hX: ∀(w w':World) (args:Array Value),w.heap=w'.heap->X w args->X w' args)
 (own:ownKnob C.prog.godebug=none) (started:os.Started) (noInit:C.prog.inits.idxOf? f=none) (hfn:C.prog.funcs[f]? =some fn)
 (witness: ∃(w:World) (tape:Tape) (i:Input),w.os=os/\(w.forCall tape i).Shaped C.prog/\i.vars=[]/\Input.okWide C.prog (w.forCall tape i) .any w.heap.size f i /\
   ((s.pre enc C.prog fn conds apart (w.forCall tape i).memory i.args/\X (w.forCall tape i).memory i.args)/\sizedMet enc C.prog fn (OpenSpec.ofChange s) apart (w.forCall tape i).memory i.args)/\a.holds C.prog (lone (Frame.enter C.prog f i.args .normal) [] (w.forCall tape i)))
 (contract: ∀(W:World) (base:Nat) (args:Array Value) (ds gs:List (DataW H)) (before:List MemPlace),
   (∀(j:Nat) t v,fn.params[j]? =some t->args[j]? =some v->Value.okWide C.prog W .any base t v) ->
   DataW.Whole enc C.prog fn.params.toList s.vars apart W args.toList ds gs before->W.ShapedOpen C.prog->X W args ->
   Calls C.prog f args W fun e W'=> ∃ v,e= .returned v/\s.post enc C.prog fn apart fresh handsOn again W args v W') :
 ReturnsInHanded a C os f .any (fun w args=>(s.pre enc C.prog fn conds apart w args/\X w args)/\sizedMet enc C.prog fn (OpenSpec.ofChange s) apart w args) (s.post enc C.prog fn apart fresh handsOn again):=by
 refine returnsInHanded_of_calls own started noInit witness ?_;intro w tape i _ hsh _ hok hpre _;obtain⟨_,_,_,fn',hfn',_,_,_,_,hval⟩:=hok;obtain rfl:=Fp (hfn'.symm.trans hfn);obtain⟨⟨⟨ds,gs,before,hw,_⟩,hx⟩,_⟩:=hpre;refine(contract (w.forCall tape i) w.heap.size i.args ds gs before hval (DataW.Whole.of_heap (w':=w.forCall tape i) (by rfl) hw) hsh (hX _ _ _ (by rfl) hx)).mono fun e W' ⟨v,he,hp⟩=> ?_;subst he;exact ChangeSpec.post_blind hp
end
end Go.Proofs.YtbgjmioccbacdaaGreatDoor.Vm
