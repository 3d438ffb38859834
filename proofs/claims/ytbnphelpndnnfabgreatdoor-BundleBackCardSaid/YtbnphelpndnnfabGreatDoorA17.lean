import Derived.Test.YtbnphelpndnnfabGreatDoorA16
set_option linter.all false
namespace Go.Proofs.YtbnphelpndnnfabGreatDoor.Vm
noncomputable section
variable (N:Nat)
open Go.Proofs
def xA:Sig:=.of [Sq1] [Dw] (fun a=>L6 N a)
theorem Aed:Dn 29 (xA N):=Dt (Dq [(6,Ez N),(5,lJ N),(49,Abn N),(23,Wy N),(51,Abl N),(50,oV N)] []) ⟨[],[]⟩ Tryz.f29 N (Dk ⟨Ei N,oU N,AfQ N,lK N,AfO N,Acu N,trivial⟩)
def Ado:List (Nat×Nrm):=[(3,⟨[0,5],[],[],[],[]⟩),(18,⟨[0,5,15,16,17],[],[],[],[]⟩)]
def Afj:Lk:=⟨[],[(18,⟨[(0,.c AQ),(5,.c AV),(15,.i),(16,.i),(17,.c x64)],[(0,.box BN),(5,.arr 9 true Aq),(6,.arr 9 true Aq),(7,.arr 288 true (.str Aq)),(19,.arr 220 true Tq4),(34048,.box [xs,xb,xs])]⟩,[(0,⟨[(0,.c AQ),(5,.c AV)],[(0,.box BN),(5,.arr 9 true Aq),(6,.arr 9 true Aq),(7,.arr 288 true (.str Aq)),(19,.arr 220 true Tq4),(34048,.box [xs,xb,xs])]⟩)])]⟩
def eQ:Sig:=.of [O5,.cell false (.sl 220 Tq4),Sq9] [Dp] (fun a=>uN N a.1 a.2.1 a.2.2)
theorem Aau:Dn 171 (eQ N):=Dt (Dq [(235,Kv N),(236,TD N),(92,Pv N)] Ado [] [(66,AgB N)] [] [51,55,56,60,63,64]) Afj Tryz.f171 N (Dk ⟨Jr N,Wl N,Om N,trivial⟩ trivial ⟨Amh N,trivial⟩)
def Acd:List (Nat×Nrm):=[(117,⟨[0,5,9],[],[],[],[]⟩)]
def Ads:Lk:=⟨[(117,⟨[(0,.c AQ),(5,.c (.c (.ptr 36608 0))),(9,.c (.c (.ptr 35072 0)))],[(0,.box BA),(35072,.box [x64,xs,xs]),(36608,.box [Bl])]⟩)],[]⟩
def Zn:Sig:=.of [AoM,Dw] [Dp] (fun a=>oG N a.1 a.2)
theorem uV:Dn 65 (Zn N):=Dt (Dq [(112,XM N),(66,QO N),(60,Ey N),(113,NS N),(114,kH N),(57,Fb N),(115,Tf N),(116,OT N),(37,Eh N)] Acd [(56,Ih N)]) Ads Tryz.f65 N (Dk ⟨Zp N,UM N,Em N,OC N,oM N,EP N,aP N,Xc N,DZ N,trivial⟩ ⟨Jy N,trivial⟩)
def Ahw:List (Nat×Nrm):=[(3,⟨[0,2,3],[],[],[(33637,1004096),(1000000,1004096)],[]⟩),(11,⟨[0,2,3],[],[],[(33638,1012288),(1008192,1012288)],[]⟩),(14,⟨[0,2,3,4],[],[],[(33637,1000000),(37888,1000000)],[]⟩),(19,⟨[2,3],[],[],[(33639,1024576),(1016384,1024576)],[]⟩),(30,⟨[0,2,3,5],[],[],[(33638,1008192),(41216,1008192)],[]⟩),(46,⟨[0,2,3,6],[],[],[(33639,1016384),(47616,1016384)],[]⟩),(77,⟨[0,2,3,6,7],[],[],[(33639,1020480),(1016384,1020480)],[]⟩)]
def Ajp:Lk:=⟨[(77,⟨[(0,.c AQ),(2,.c AL),(3,.c AP),(6,.i),(7,.c Ba)],[(0,.box BF),(33280,.box BD),(33281,.D5 9 false Aq),(33282,.D5 9 false Aq),(33283,.D5 32 false (.str Aq)),(33536,.box [(xo 1004096),(xo 1012288),(xo 1020480)]),(34560,.box [xs,xs]),(1004096,.arr 9 false Aq),(1012288,.arr 9 false Aq),(1020480,.arr 32 false (.str Aq))]⟩)],[(14,⟨[(0,.c AQ),(2,.c AL),(3,.c AP),(4,.c x64)],[(0,.box BF),(33280,.box BD),(33281,.D5 9 false Aq),(33282,.D5 9 false Aq),(33283,.D5 32 false (.str Aq)),(33536,.box [(xo 1000000),(xo 33638),(xo 33639)]),(33638,.D5 9 false Aq),(33639,.D5 32 false (.str Aq)),(1000000,.arr 9 false Aq)]⟩,[(0,⟨[(0,.c AQ),(2,.c AL),(3,.c AP)],[(0,.box BF),(33280,.box BD),(33281,.D5 9 false Aq),(33282,.D5 9 false Aq),(33283,.D5 32 false (.str Aq)),(33536,.box [(xo 1004096),(xo 33638),(xo 33639)]),(33638,.D5 9 false Aq),(33639,.D5 32 false (.str Aq)),(1004096,.arr 9 false Aq)]⟩)]),(30,⟨[(0,.c AQ),(2,.c AL),(3,.c AP),(5,.c x64)],[(0,.box BF),(33280,.box BD),(33281,.D5 9 false Aq),(33282,.D5 9 false Aq),(33283,.D5 32 false (.str Aq)),(33536,.box [(xo 1004096),(xo 1008192),(xo 33639)]),(33639,.D5 32 false (.str Aq)),(1004096,.arr 9 false Aq),(1008192,.arr 9 false Aq)]⟩,[(2,⟨[(0,.c AQ),(2,.c AL),(3,.c AP)],[(0,.box BF),(33280,.box BD),(33281,.D5 9 false Aq),(33282,.D5 9 false Aq),(33283,.D5 32 false (.str Aq)),(33536,.box [(xo 1004096),(xo 1012288),(xo 33639)]),(33639,.D5 32 false (.str Aq)),(1004096,.arr 9 false Aq),(1012288,.arr 9 false Aq)]⟩)]),(46,⟨[(0,.c AQ),(2,.c AL),(3,.c AP),(6,.c x64)],[(0,.box BF),(33280,.box BD),(33281,.D5 9 false Aq),(33282,.D5 9 false Aq),(33283,.D5 32 false (.str Aq)),(33536,.box [(xo 1004096),(xo 1012288),(xo 1016384)]),(1004096,.arr 9 false Aq),(1012288,.arr 9 false Aq),(1016384,.arr 32 false (.str Aq))]⟩,[(4,⟨[(2,.c AL),(3,.c AP)],[(0,.box BF),(33280,.box BD),(33281,.D5 9 false Aq),(33282,.D5 9 false Aq),(33283,.D5 32 false (.str Aq)),(33536,.box [(xo 1004096),(xo 1012288),(xo 1024576)]),(1004096,.arr 9 false Aq),(1012288,.arr 9 false Aq),(1024576,.arr 32 false (.str Aq))]⟩)])]⟩
def xB:Sig:=.of [Sq1] [jI] (fun a=>Oa N a)
theorem Aee:Dn 12 (xB N):=Dt (Dq [(6,Ez N),(29,xA N)] Ahw) Ajp Tryz.f12 N (Dk ⟨Ei N,Aed N,trivial⟩)
def Aao:List (Nat×Nrm):=[(3,⟨[2,4],[],[],[(36101,1004144),(36102,1004128),(36103,1004112),(36115,1004096),(1000000,1004096),(1000016,1004112),(1000032,1004128),(1000048,1004144)],[]⟩),(22,⟨[0,2,4,14,15,16],[],[],[(33797,1000048),(33798,1000032),(33799,1000016),(33811,1000000),(36101,1000048),(36102,1000032),(36103,1000016),(36115,1000000)],[]⟩)]
def AbQ:Lk:=⟨[],[(22,⟨[(0,.i),(2,.c AL),(4,.c AU),(14,.i),(15,.i),(16,.c x64)],[(33280,.box BC),(33285,.D5 9 false Aq),(33286,.D5 9 false Aq),(33287,.D5 288 false (.str Aq)),(33291,.D5 170 false Tq1),(33293,.D5 170 false Tq1),(33294,.D5 170 false Tq1),(33297,.D5 230 false Tq2),(33298,.D5 230 false Tq2),(33299,.D5 220 false Tq4),(33792,.box BG),(1000000,.arr 220 true Tq4),(1000016,.arr 288 true (.str Aq)),(1000032,.arr 9 true Aq),(1000048,.arr 9 true Aq)]⟩,[(0,⟨[(2,.c AL),(4,.c AU)],[(33280,.box BC),(33285,.D5 9 false Aq),(33286,.D5 9 false Aq),(33287,.D5 288 false (.str Aq)),(33291,.D5 170 false Tq1),(33293,.D5 170 false Tq1),(33294,.D5 170 false Tq1),(33297,.D5 230 false Tq2),(33298,.D5 230 false Tq2),(33299,.D5 220 false Tq4),(33792,.box [xb,xb,x64,x64,(xo 1004144),(xo 1004128),(xo 1004112),x64,x64,x64,Bf,xb,Bf,Bf,xs,xs,Bg,Bg,(xo 1004096)]),(1004096,.arr 220 true Tq4),(1004112,.arr 288 true (.str Aq)),(1004128,.arr 9 true Aq),(1004144,.arr 9 true Aq)]⟩)])]⟩
def X5:Sig:=.of [.cell false (.sl 220 Tq4)] [Jd,Dp] (fun a=>dN N a)
theorem qL:Dn 105 (X5 N):=Dt (Dq [(103,TB N),(171,eQ N),(111,QG N)] Aao) AbQ Tryz.f105 N (Dk ⟨Wj N,Aau N,UG N,trivial⟩)
def uS:Sig:=.of [Dw] [Sq6,Dp] (fun a=>NQ N a)
theorem Adq:Dn 42 (uS N):=Dt (Dq [(60,Ey N),(65,Zn N),(66,QO N),(67,Zq N),(37,Eh N),(68,aO N),(69,Ag6 N)] [] [(34,Gy N)]) ⟨[],[]⟩ Tryz.f42 N (Dk ⟨Em N,uV N,UM N,vH N,DZ N,eX N,AiD N,trivial⟩ ⟨Gw N,trivial⟩)
def X3:Sig:=.of [ArX,Dw] [Dp] (fun a=>dK N a.1 a.2)
theorem qJ:Dn 61 (X3 N):=Dt (Dq [(98,Zj N),(99,o9 N),(62,PM N),(100,AaT N),(101,Zi N),(102,Adl N),(103,TB N),(57,Fb N),(104,QV N),(105,X5 N),(37,Eh N)] [] [(56,Ih N)]) ⟨[],[]⟩ Tryz.f61 N (Dk ⟨uF N,AbO N,SY N,Aff N,uD N,Ahh N,Wj N,EP N,QW N,qL N,DZ N,trivial⟩ ⟨Jy N,trivial⟩)
def Adg:List (Nat×Nrm):=[(3,⟨[3],[([3],74,Tq9,1004096)],[],[(1000000,1004096)],[]⟩),(18,⟨[3,4,11,12,13],[([3],74,Tq9,1000000)],[],[(40960,1000000)],[]⟩)]
def Afc:Lk:=⟨[],[(18,⟨[(3,.c (xo 1000000)),(4,.c (xo 35072)),(11,.i),(12,.i),(13,.c x64)],[(35072,.mp (.str Aq) A7),(1000000,.arr 74 false Tq9)]⟩,[(0,⟨[(3,.c (xo 1004096))],[(1004096,.arr 74 false Tq9)]⟩)])]⟩
def dH:Sig:=.of [jI] [.cell false (.sl 74 Tq9)] (fun a=>Ju N a)
theorem Aal:Dn 18 (dH N):=Dt (Dq [(42,uS N),(40,H9 N)] Adg [] [] [] [] [(7,3,24,[25,26,27])]) Afc Tryz.f18 N (Dk ⟨Adq N,Ir N,trivial⟩)
def o8:Sig:=.of [Dw] [AeV,Dp] (fun a=>Iu N a)
theorem AbN:Dn 41 (o8 N):=Dt (Dq [(60,Ey N),(61,X3 N),(62,PM N),(63,X4 N),(37,Eh N),(64,uA N)] [] [(34,Gy N)]) ⟨[],[]⟩ Tryz.f41 N (Dk ⟨Em N,qJ N,SY N,qK N,DZ N,Adk N,trivial⟩ ⟨Gw N,trivial⟩)
def ZW:List (Nat×Nrm):=[(3,⟨[3],[],[],[(36352,1004096),(1000000,1004096)],[]⟩),(11,⟨[6],[([6],69,Tq8,1012288)],[],[(1008192,1012288)],[]⟩),(14,⟨[3,16,17,18],[],[],[(36352,1000000),(39936,1000000)],[]⟩),(42,⟨[6,7,31,32,33],[([6],69,Tq8,1008192)],[],[(46080,1008192)],[]⟩)]
def dG:Lk:=⟨[],[(14,⟨[(3,.c (xo 1000000)),(16,.i),(17,.i),(18,.c x64)],[(1000000,.arr 9 false Aq)]⟩,[(0,⟨[(3,.c (xo 1004096))],[(1004096,.arr 9 false Aq)]⟩)]),(42,⟨[(6,.c (xo 1008192)),(7,.c (xo 40448)),(31,.c (xo 1004096)),(32,.i),(33,.c x64)],[(40448,.mp (.str Aq) A7),(1004096,.arr 9 false Aq),(1008192,.arr 69 false Tq8)]⟩,[(2,⟨[(6,.c (xo 1012288))],[(1012288,.arr 69 false Tq8)]⟩)])]⟩
def Qn:Sig:=.of [jI] [.cell false (.sl 69 Tq8)] (fun a=>FK N a)
theorem Xy:Dn 17 (Qn N):=Dt (Dq [(41,o8 N),(40,H9 N)] ZW [] [] [] [] [(13,3,44,[45,46,47])]) dG Tryz.f17 N (Dk ⟨AbN N,Ir N,trivial⟩)
def rO:List (Nat×Nrm):=[(3,⟨[12,13],[],[],[],[]⟩),(11,⟨[],[],[],[],[]⟩),(50,⟨[10,11,12,13,73,74],[],[],[],[]⟩),(74,⟨[12,13,90,91],[],[],[],[]⟩)]
def wY:Lk:=⟨[],[(50,⟨[(10,.i),(11,.i),(12,.i),(13,.i),(73,.i),(74,.c x64)],[]⟩,[(0,⟨[(12,.i),(13,.i)],[]⟩)]),(74,⟨[(12,.i),(13,.i),(90,.i),(91,.c x64)],[]⟩,[(2,⟨[],[]⟩)])]⟩
def wZ:Sig:=.of [Sq0] [DJ] (fun a=>G8 N a)
theorem gV:Dn 4 (wZ N):=Dt (Dq [(5,lJ N),(12,xB N),(13,QE N),(14,QD N),(15,Vg N),(16,dI N),(17,Qn N),(18,dH N),(19,oQ N)] rO) wY Tryz.f4 N (Dk ⟨oU N,Aee N,UC N,UB N,iV N,Aam N,Xy N,Aal N,Acp N,trivial⟩)
end
