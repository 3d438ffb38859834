import Derived.Test.YtadefjgbcapakaaGreatDoorA13
set_option linter.all false
namespace Go.Proofs.YtadefjgbcapakaaGreatDoor.Vm
open IntKind (i64)
open Go.Proofs
abbrev Yq0:Type:=List (Bs×Int×Bs)
abbrev Yq1:Type:=Int×Bs×List Yq0
abbrev Yq2:Type:=List Yq1×Int×Bool×List Yq0
abbrev Yq3:Type:=Bs×Int×Nat×Nat×Nat
abbrev Yq4:Type:=Bool×Bool×Int×Int×List Bs×List Bs×(List (Bs×Bs))×Int×Int×Int×List Yq1×Bool×List Yq1×List Yq1×Bs×Bs×List Yq2×List Yq2×List (Bs×Bool×Bs)
abbrev Yq5:Type:=List (Bs×Bool×Bs)
abbrev Yq6:Type:=List Yq1×List Yq1
abbrev Yq7:Type:=List (Int×Bs×Bs)
abbrev Yq8:Type:=(List (Int×Bs×Bs))×Int
abbrev Sr:Type:=Int
def Dx (N:Nat) (p0:List Yq2):Option Sr :=
 bif decide ((p0.length:Int)>(4:Int))then(some 2)
 else(Ar (X:=Unit) (Y:=Unit) (fun _ k1 x2 =>
 bif decide ((0:Int)<(p0.length:Int))then(chk (decide ((0:Int)<(p0.length:Int))) <|
 none)
 else(x2 ()))
 N () (fun _ =>
 some 0))
abbrev kK:Type:=List Yq3
def Fe (N:Nat):Option kK :=
 some ([(([50,46,53,46,50,57,46,49,57]:Bs),1,111,112,113),(([50,46,53,46,50,57,46,49,53]:Bs),1,114,115,116),(([50,46,53,46,50,57,46,51,55]:Bs),2,117,118,119),(([50,46,53,46,50,57,46,51,50]:Bs),2,120,121,122),(([50,46,53,46,50,57,46,51,51]:Bs),2,123,124,125),(([50,46,53,46,50,57,46,51,54]:Bs),1,126,127,128),(([50,46,53,46,50,57,46,53,52]:Bs),1,129,130,131),(([50,46,53,46,50,57,46,49,55]:Bs),2,132,133,134),(([50,46,53,46,50,57,46,51,48]:Bs),1,135,136,137),(([50,46,53,46,50,57,46,49,52]:Bs),0,138,139,140),(([50,46,53,46,50,57,46,51,53]:Bs),0,141,142,143),(([50,46,53,46,50,57,46,51,49]:Bs),0,144,145,146),(([50,46,53,46,50,57,46,52,54]:Bs),0,147,148,149)]:List Yq3)
abbrev kL:Type:=Bool
def D5 (N:Nat) (p0:Int):Option kL :=
 chk (((decide (p0>=((-1):Int)))||(!(decide (p0>=((-1):Int)))))) <|
 chk (bif decide (p0>=((-1):Int))then decide (p0>=((-1):Int))else true) <|
 chk (bif decide (p0>=((-1):Int))then true else true) <|
 let x8:Bool:=bif decide (p0>=((-1):Int))then decide (p0<=(64:Int))else false
 some x8
abbrev AdG:Type:=Int
def TA (N:Nat) (p0:Bs):Option AdG :=
 Am ((p0==([]:Bs))) fun b1 =>
 chk (((!b1)||(!(!b1)))) <|
 chk (((!b1)||(!(!b1)))) <|
 chk (bif b1 then true else !b1) <|
 chk (bif b1 then true else true) <|
 Am (bif b1 then true else decide ((p0.length:Int)>(10:Int))) fun b2 =>
 Am (b2) fun b3 =>
 chk (((!b3)||(!(!b3)))) <|
 chk (((decide ((0:Int)<(p0.length:Int)))||(!(!b3)))) <|
 chk (((!b3)||(!(!b3)))) <|
 chk (((!b3)||(!(!b3)))) <|
 Am ((((p0.getD 0 0).toNat:Int)==(48:Int))) fun b4 =>
 chk ((((!b3)&&b4)||(!((!b3)&&b4)))) <|
 chk ((((!b3)&&b4)||(!((!b3)&&b4)))) <|
 chk (((!b3)||(!(!b3)))) <|
 chk (((bif b4 then((!b3)&&b4)else true)||(!(!b3)))) <|
 chk (((bif b4 then true else true)||(!(!b3)))) <|
 Am (bif b4 then decide ((p0.length:Int)>(1:Int))else false) fun b5 =>
 chk (bif b3 then true else !b3) <|
 chk (bif b3 then true else true) <|
 Am (bif b3 then true else b5) fun b6 =>
 bif b6 then(some (-1))
 else(Ar (X:=Int×Int) (Y:=Int) (U2 fun t3a t4a k7 x8 =>
 bif decide (t4a<(p0.length:Int))then(chk (decide ((0:Int)<=t4a)) <|
 chk (decide (t4a<(p0.length:Int))) <|
 chk (((!(decide (((p0.getD t4a.toNat 0).toNat:Int)<(48:Int))))||(!(!(decide (((p0.getD t4a.toNat 0).toNat:Int)<(48:Int))))))) <|
 chk (((!(decide (((p0.getD t4a.toNat 0).toNat:Int)<(48:Int))))||(!(!(decide (((p0.getD t4a.toNat 0).toNat:Int)<(48:Int))))))) <|
 chk (((decide ((0:Int)<=t4a))||(!(!(decide (((p0.getD t4a.toNat 0).toNat:Int)<(48:Int))))))) <|
 chk (((decide (t4a<(p0.length:Int)))||(!(!(decide (((p0.getD t4a.toNat 0).toNat:Int)<(48:Int))))))) <|
 chk (((!(decide (((p0.getD t4a.toNat 0).toNat:Int)<(48:Int))))||(!(!(decide (((p0.getD t4a.toNat 0).toNat:Int)<(48:Int))))))) <|
 chk (bif decide (((p0.getD t4a.toNat 0).toNat:Int)<(48:Int))then true else !(decide (((p0.getD t4a.toNat 0).toNat:Int)<(48:Int)))) <|
 chk (bif decide (((p0.getD t4a.toNat 0).toNat:Int)<(48:Int))then true else true) <|
 let x37:Bool:=bif decide (((p0.getD t4a.toNat 0).toNat:Int)<(48:Int))then true else decide (((p0.getD t4a.toNat 0).toNat:Int)>(57:Int))
 bif x37 then(some (-1))
 else(chk (decide ((0:Int)<=t4a)) <|
 chk (decide (t4a<(p0.length:Int))) <|
 let x44:Int:=i64.wrap (IntKind.u8.wrap (((p0.getD t4a.toNat 0).toNat:Int) - (48:Int)))
 k7 (i64.wrap ((i64.wrap ((10:Int)*t3a))+x44),i64.wrap (t4a+(1:Int)))))
 else(x8 t3a))
 N (0,0) (fun t3b =>
 bif decide (t3b>(2147483647:Int))then(some (-1))
 else(some t3b)))
abbrev Ab9:Type:=Bool
def UL (N:Nat) (p0:Int) (p1:Int):Option Ab9 :=
 chk (((decide (p0<=(1:Int)))||(!(decide (p0<=(1:Int)))))) <|
 chk (bif decide (p0<=(1:Int))then decide (p0<=(1:Int))else true) <|
 chk (bif decide (p0<=(1:Int))then true else true) <|
 chk (((!(bif decide (p0<=(1:Int))then decide (p1<=(39:Int))else false))||(!(!(bif decide (p0<=(1:Int))then decide (p1<=(39:Int))else false))))) <|
 chk (bif bif decide (p0<=(1:Int))then decide (p1<=(39:Int))else false then true else !(bif decide (p0<=(1:Int))then decide (p1<=(39:Int))else false)) <|
 chk (bif bif decide (p0<=(1:Int))then decide (p1<=(39:Int))else false then true else true) <|
 let x14:Bool:=bif bif decide (p0<=(1:Int))then decide (p1<=(39:Int))else false then true else(p0==(2:Int))
 some x14
abbrev Ab8:Type:=List Int
def UK (N:Nat) (p0:Bs):Option Ab8 :=
 Ae (strings_Split N p0 ([46]:Bs)) fun r9 =>
 chk (((!(decide ((r9.length:Int)<(2:Int))))||(!(!(decide ((r9.length:Int)<(2:Int))))))) <|
 chk (((!(decide ((r9.length:Int)<(2:Int))))||(!(!(decide ((r9.length:Int)<(2:Int))))))) <|
 chk (bif decide ((r9.length:Int)<(2:Int))then true else !(decide ((r9.length:Int)<(2:Int)))) <|
 chk (bif decide ((r9.length:Int)<(2:Int))then true else true) <|
 let x17:Bool:=bif decide ((r9.length:Int)<(2:Int))then true else decide ((r9.length:Int)>(12:Int))
 bif x17 then(some ([]:List Int))
 else(Ar (X:=Int×List Int) (Y:=(List Int)) (U2 fun t20a l1000000a k1 x2 =>
 bif decide (t20a<(r9.length:Int))then(chk (decide ((0:Int)<=t20a)) <|
 chk (decide (t20a<(r9.length:Int))) <|
 Ae (TA N (r9.getD t20a.toNat ([]:Bs))) fun r25 =>
 bif decide (r25<(0:Int))then(some ([]:List Int))
 else(chk (decide ((l1000000a.length+1)*9<=140737488355328)) <|
 k1 (i64.wrap (t20a+(1:Int)),l1000000a++([r25]:List Int))))
 else(x2 l1000000a))
 N (0,([]:List Int)) (fun l1004096b =>
 chk (decide ((0:Int)<(l1004096b.length:Int))) <|
 chk (decide (0<l1004096b.length)) <|
 chk (decide ((1:Int)<(l1004096b.length:Int))) <|
 chk (decide (1<l1004096b.length)) <|
 Ae (UL N (l1004096b.getD 0 0) (l1004096b.getD 1 0)) fun r39 =>
 bif !r39 then(some ([]:List Int))
 else(chk (decide (0<l1004096b.length)) <|
 some l1004096b)))
abbrev yK:Type:=Bool
def ES (N:Nat) (p0:Bs):Option yK :=
 Ae (UK N p0) fun r4 =>
 some (!r4.isEmpty)
abbrev WS:Type:=Int
def Fa (N:Nat) (p0:List Bs) (p1:Int):Option WS :=
 bif decide ((p0.length:Int)>p1)then(some 2)
 else(Ar (X:=Int) (Y:=Unit) (fun t15a k1 x2 =>
 bif decide (t15a<(p0.length:Int))then(chk (decide ((0:Int)<=t15a)) <|
 chk (decide (t15a<(p0.length:Int))) <|
 Ae (ES N (p0.getD t15a.toNat ([]:Bs))) fun r21 =>
 bif !r21 then(some 11)
 else(chk (decide ((0:Int)<=t15a)) <|
 chk (decide (t15a<=(p0.length:Int))) <|
 Ar (X:=Int) (Y:=Unit) (fun t27b k3 x4 =>
 bif decide (t27b<((AV p0 0 t15a.toNat).length:Int))then(chk (decide ((0:Int)<=t27b)) <|
 chk (decide (t27b<((AV p0 0 t15a.toNat).length:Int))) <|
 let x33:Bool:=((p0.getD t15a.toNat ([]:Bs))==((AV p0 0 t15a.toNat).getD t27b.toNat ([]:Bs)))
 bif x33 then(some 10)
 else(k3 (i64.wrap (t27b+(1:Int)))))
 else(x4 ()))
 N 0 (fun _ =>
 k1 (i64.wrap (t15a+(1:Int))))))
 else(x2 ()))
 N 0 (fun _ =>
 some 0))
abbrev Qx:Type:=Int
def E5 (N:Nat) (p0:List (Bs×Bs)):Option Qx :=
 bif decide ((p0.length:Int)>(8:Int))then(some 2)
 else(Ar (X:=Int) (Y:=Unit) (fun t12a k1 x2 =>
 bif decide (t12a<(p0.length:Int))then(chk (decide ((0:Int)<=t12a)) <|
 chk (decide (t12a<(p0.length:Int))) <|
 Ae (ES N ((p0.getD t12a.toNat (([]:Bs),([]:Bs))).1)) fun r19 =>
 chk (((!(!r19))||(!(!(!r19))))) <|
 chk (((!(!r19))||(!(!(!r19))))) <|
 chk ((((ES N ((p0.getD t12a.toNat (([]:Bs),([]:Bs))).2)).isSome)||(!(!(!r19))))) <|
 let r24:=(ES N ((p0.getD t12a.toNat (([]:Bs),([]:Bs))).2)).getD default
 chk (((!(!r19))||(!(!(!r19))))) <|
 chk (bif !r19 then true else !(!r19)) <|
 chk (bif !r19 then true else true) <|
 bif bif !r19 then true else !r24 then(some 11)
 else(chk (decide ((0:Int)<=t12a)) <|
 chk (decide (t12a<=(p0.length:Int))) <|
 Ar (X:=Int×Bs×Bs) (Y:=Unit) (U3 fun t31b b33792_0b b33792_1b k3 x4 =>
 bif decide (t31b<((AV p0 0 t12a.toNat).length:Int))then(chk (decide ((0:Int)<=t31b)) <|
 chk (decide (t31b<((AV p0 0 t12a.toNat).length:Int))) <|
 let x37:Bool:=((b33792_0b==(((AV p0 0 t12a.toNat).getD t31b.toNat (([]:Bs),([]:Bs))).1))&&((b33792_1b==(((AV p0 0 t12a.toNat).getD t31b.toNat (([]:Bs),([]:Bs))).2))&&true))
 bif x37 then(some 10)
 else(k3 (i64.wrap (t31b+(1:Int)),b33792_0b,b33792_1b)))
 else(x4 ()))
 N (0,(p0.getD t12a.toNat (([]:Bs),([]:Bs))).1,(p0.getD t12a.toNat (([]:Bs),([]:Bs))).2) (fun _ =>
 k1 (i64.wrap (t12a+(1:Int))))))
 else(x2 ()))
 N 0 (fun _ =>
 some 0))
abbrev Ub:Type:=Int
def I5 (N:Nat) (p0:List Yq1):Option Ub :=
 Ar (X:=Unit) (Y:=Unit) (fun _ k1 x2 =>
 bif decide ((0:Int)<(p0.length:Int))then(chk (decide ((0:Int)<(p0.length:Int))) <|
 none)
 else(x2 ()))
 N () (fun _ =>
 some 0)
abbrev NP:Type:=Int
def DV (N:Nat) (p0:Yq4):Option NP :=
 bif p0.2.2.2.2.2.2.2.2.2.2.2.1 then(none)
 else(chk (((!(decide ((p0.2.2.2.2.2.2.2.2.2.2.2.2.1.length:Int)>(0:Int))))||(!(!(decide ((p0.2.2.2.2.2.2.2.2.2.2.2.2.1.length:Int)>(0:Int))))))) <|
 chk (((!(decide ((p0.2.2.2.2.2.2.2.2.2.2.2.2.1.length:Int)>(0:Int))))||(!(!(decide ((p0.2.2.2.2.2.2.2.2.2.2.2.2.1.length:Int)>(0:Int))))))) <|
 chk (((!(decide ((p0.2.2.2.2.2.2.2.2.2.2.2.2.1.length:Int)>(0:Int))))||(!(!(decide ((p0.2.2.2.2.2.2.2.2.2.2.2.2.1.length:Int)>(0:Int))))))) <|
 chk (((!(decide ((p0.2.2.2.2.2.2.2.2.2.2.2.2.1.length:Int)>(0:Int))))||(!(!(decide ((p0.2.2.2.2.2.2.2.2.2.2.2.2.1.length:Int)>(0:Int))))))) <|
 chk (bif decide ((p0.2.2.2.2.2.2.2.2.2.2.2.2.1.length:Int)>(0:Int))then true else !(decide ((p0.2.2.2.2.2.2.2.2.2.2.2.2.1.length:Int)>(0:Int)))) <|
 chk (bif decide ((p0.2.2.2.2.2.2.2.2.2.2.2.2.1.length:Int)>(0:Int))then true else true) <|
 let x19:Bool:=bif decide ((p0.2.2.2.2.2.2.2.2.2.2.2.2.1.length:Int)>(0:Int))then true else decide ((p0.2.2.2.2.2.2.2.2.2.2.2.2.2.1.length:Int)>(0:Int))
 bif x19 then(some 7)
 else(some 0))
abbrev kH:Type:=Yq3×Bool
def I7 (N:Nat) (p0:Bs):Option kH :=
 Ae (Fe N) fun r6 =>
 Ar (X:=Int) (Y:=Unit) (fun t8a k1 x2 =>
 bif decide (t8a<(r6.length:Int))then(chk (decide ((0:Int)<=t8a)) <|
 chk (decide (t8a<(r6.length:Int))) <|
 bif (((r6.getD t8a.toNat (([]:Bs),0,0,0,0)).1)==p0)then(some ((r6.getD t8a.toNat (([]:Bs),0,0,0,0)),true))
 else(k1 (i64.wrap (t8a+(1:Int)))))
 else(x2 ()))
 N 0 (fun _ =>
 some ((([]:Bs),0,0,0,0),false))
abbrev zM:Type:=Int
def Yt (N:Nat) (p0:Int):Option zM :=
 bif (p0==(1:Int))then(some 128)
 else(let x8:Int:=IntKind.u64.wrap ((8:Int)*(IntKind.u64.wrap (i64.wrap (p0 - (1:Int)))))
 chk (decide ((0:Int)<=x8)) <|
 some (i64.wrap ((1:Int)*(2 ^ (min x8.toNat 64)))))
abbrev Aci:Type:=(Int×Bs×Bs)×Bs×Int
def JH (N:Nat) (p0:Bs):Option Aci :=
 bif (p0==([]:Bs))then(some ((0,([]:Bs),([]:Bs)),([]:Bs),3))
 else(chk (decide ((0:Int)<(p0.length:Int))) <|
 let x20:Bool:=((Bg .and .i64 (i64.wrap ((p0.getD 0 0).toNat:Int)) 31)==(31:Int))
 bif x20 then(some ((0,([]:Bs),([]:Bs)),([]:Bs),5))
 else(bif decide ((p0.length:Int)<(2:Int))then(some ((0,([]:Bs),([]:Bs)),([]:Bs),3))
 else(chk (decide ((1:Int)<(p0.length:Int))) <|
 chk (((!((i64.wrap ((p0.getD 1 0).toNat:Int))==(128:Int)))||(!(!((i64.wrap ((p0.getD 1 0).toNat:Int))==(128:Int)))))) <|
 chk (bif ((i64.wrap ((p0.getD 1 0).toNat:Int))==(128:Int))then true else !((i64.wrap ((p0.getD 1 0).toNat:Int))==(128:Int))) <|
 chk (bif ((i64.wrap ((p0.getD 1 0).toNat:Int))==(128:Int))then true else true) <|
 let x34:Bool:=bif ((i64.wrap ((p0.getD 1 0).toNat:Int))==(128:Int))then true else decide ((i64.wrap ((p0.getD 1 0).toNat:Int))>(131:Int))
 bif x34 then(some ((0,([]:Bs),([]:Bs)),([]:Bs),6))
 else(KD (α :=Int×Int) (fun j1 =>
 bif decide ((i64.wrap ((p0.getD 1 0).toNat:Int))>(128:Int))then(let x39:Int:=i64.wrap ((i64.wrap ((p0.getD 1 0).toNat:Int)) - (128:Int))
 bif decide ((p0.length:Int)<(i64.wrap ((2:Int)+x39)))then(some ((0,([]:Bs),([]:Bs)),([]:Bs),3))
 else(chk (decide ((2:Int)<=i64.wrap ((2:Int)+x39))) <|
 chk (decide (i64.wrap ((2:Int)+x39)<=(p0.length:Int))) <|
 chk (decide ((AV p0 2 ((i64.wrap ((2:Int)+x39)).toNat)).length<=140737488355328)) <|
 let y45568:List Int:=List.map (fun(b:UInt8)=>((b.toNat:Int))) (AV p0 2 ((i64.wrap ((2:Int)+x39)).toNat))
 Ar (X:=Int×Int×List Int) (Y:=Int) (U3 fun t7b t52b l45568b k2 x3 =>
 bif decide (t52b<(y45568.length:Int))then(chk (decide ((0:Int)<=t52b)) <|
 chk (decide (t52b<(l45568b.length:Int))) <|
 chk (decide (t52b.toNat<l45568b.length)) <|
 let x60:Int:=Bg .or .i64 (i64.wrap (t7b*(256))) (i64.wrap (l45568b.getD t52b.toNat 0))
 k2 (x60,i64.wrap (t52b+(1:Int)),l45568b))
 else(x3 t7b))
 N (0,0,y45568) (fun t7c =>
 Ae (Yt N x39) fun r67 =>
 chk (((!(decide (t7c<r67)))||(!(!(decide (t7c<r67)))))) <|
 chk (bif decide (t7c<r67)then true else !(decide (t7c<r67))) <|
 chk (bif decide (t7c<r67)then true else true) <|
 bif bif decide (t7c<r67)then true else decide (t7c>(131072:Int))then(some ((0,([]:Bs),([]:Bs)),([]:Bs),6))
 else(j1 (t7c,i64.wrap ((2:Int)+x39))))))
 else(j1 (i64.wrap ((p0.getD 1 0).toNat:Int),2)))
 (U2 fun t7a t8a =>
 bif decide ((i64.wrap ((p0.length:Int) - t8a))<t7a)then(some ((0,([]:Bs),([]:Bs)),([]:Bs),3))
 else(chk (decide ((0:Int)<=t8a)) <|
 chk (decide (t8a<=i64.wrap (t8a+t7a))) <|
 chk (decide (i64.wrap (t8a+t7a)<=(p0.length:Int))) <|
 chk (decide ((0:Int)<=i64.wrap (t8a+t7a))) <|
 chk (decide (i64.wrap (t8a+t7a)<=(p0.length:Int))) <|
 chk (decide ((0:Int)<=i64.wrap (t8a+t7a))) <|
 chk (decide (i64.wrap (t8a+t7a)<=(p0.length:Int))) <|
 some ((i64.wrap ((p0.getD 0 0).toNat:Int),AV p0 t8a.toNat ((i64.wrap (t8a+t7a)).toNat),AV p0 0 ((i64.wrap (t8a+t7a)).toNat)),AV p0 ((i64.wrap (t8a+t7a)).toNat) p0.length,0)))))))
abbrev Aec:Type:=(Int×Bs×Bs)×Int
def TU (N:Nat) (p0:Bs):Option Aec :=
 Ae (JH N p0) fun r9 =>
 bif (r9.2.2 != (0:Int))then(some ((0,([]:Bs),([]:Bs)),r9.2.2))
 else(bif !(r9.2.1==([]:Bs))then(some ((0,([]:Bs),([]:Bs)),4))
 else(some (r9.1,0)))
abbrev Qu:Type:=Int
def FZ (N:Nat) (F:(Int×Bs×Bs)->Int->Option Qu) (p0:Int×Bs×Bs) (p1:Int):Option Qu :=
 bif ((Bg .and .i64 p0.1 32)==(0:Int))then(some 0)
 else(Ar (X:=Bs) (Y:=Unit) (fun t5a k1 x2 =>
 bif !(t5a==([]:Bs))then(Ae (JH N t5a) fun r20 =>
 bif (r20.2.2 != (0:Int))then(some r20.2.2)
 else(bif decide (p1>=(16:Int))then(some 8)
 else(Ae (F r20.1 (i64.wrap (p1+(1:Int)))) fun r32 =>
 bif (r32 != (0:Int))then(some r32)
 else(k1 r20.2.1))))
 else(x2 ()))
 N p0.2.1 (fun _ =>
 some 0))
def Hu (N:Nat):Nat->(Int×Bs×Bs)->Int->Option Qu
  | 0=>fun p0 p1=>none
  | n+1=>fun p0 p1=>FZ N (Hu N n) p0 p1
abbrev zI:Type:=Int
def NJ (N:Nat) (p0:Bs):Option zI :=
 Ae (TU N p0) fun r7 =>
 bif (r7.2 != (0:Int))then(some r7.2)
 else(Ae (Hu N N r7.1 1) fun r14 =>
 some r14)
abbrev Rn:Type:=Int
def DW (N:Nat) (p0:Yq5):Option Rn :=
 Ar (X:=Int) (Y:=Unit) (fun t12a k1 x2 =>
 bif decide (t12a<(p0.length:Int))then(chk (decide ((0:Int)<=t12a)) <|
 chk (decide (t12a<(p0.length:Int))) <|
 Ae (ES N ((p0.getD t12a.toNat (([]:Bs),false,([]:Bs))).1)) fun r19 =>
 bif !r19 then(some 11)
 else(Ae (I7 N ((p0.getD t12a.toNat (([]:Bs),false,([]:Bs))).1)) fun r24 =>
 bif r24.2 then(some 20)
 else(chk (decide ((0:Int)<=t12a)) <|
 chk (decide (t12a<=(p0.length:Int))) <|
 Ar (X:=Int×Bs×Bool×Bs) (Y:=(Bs×Bool×Bs)) (U4 fun t32b b33792_0b b33792_1b b33792_2b k3 x4 =>
 bif decide (t32b<((AV p0 0 t12a.toNat).length:Int))then(chk (decide ((0:Int)<=t32b)) <|
 chk (decide (t32b<((AV p0 0 t12a.toNat).length:Int))) <|
 let x37:Bs:=((AV p0 0 t12a.toNat).getD t32b.toNat (([]:Bs),false,([]:Bs))).1
 bif (x37==b33792_0b)then(some 10)
 else(k3 (i64.wrap (t32b+(1:Int)),b33792_0b,b33792_1b,b33792_2b)))
 else(x4 (b33792_0b,b33792_1b,b33792_2b)))
 N (0,(p0.getD t12a.toNat (([]:Bs),false,([]:Bs))).1,(p0.getD t12a.toNat (([]:Bs),false,([]:Bs))).2.1,(p0.getD t12a.toNat (([]:Bs),false,([]:Bs))).2.2) (U3 fun b33792_0c b33792_1c b33792_2c =>
 Ae (NJ N b33792_2c) fun r44 =>
 bif (r44 != (0:Int))then(some r44)
 else(k1 (i64.wrap (t12a+(1:Int))))))))
 else(x2 ()))
 N 0 (fun _ =>
 some 0)
abbrev ZV:Type:=Bool
def LQ (N:Nat) (p0:Yq4):Option ZV :=
 some p0.1
abbrev ZX:Type:=Bool
def LU (N:Nat) (p0:Yq4):Option ZX :=
 some (p0.2.2.2.1 != (0:Int))
abbrev ZZ:Type:=Bool
def LV (N:Nat) (p0:Yq4):Option ZZ :=
 some (decide ((p0.2.2.2.2.1.length:Int)>(0:Int)))
abbrev aB:Type:=Bool
def LW (N:Nat) (p0:Yq4):Option aB :=
 some (decide ((p0.2.2.2.2.2.1.length:Int)>(0:Int)))
abbrev aF:Type:=Bool
def LX (N:Nat) (p0:Yq4):Option aF :=
 some (decide ((p0.2.2.2.2.2.2.1.length:Int)>(0:Int)))
abbrev aH:Type:=Bool
def G7 (N:Nat) (p0:Yq4):Option aH :=
 chk (((!(p0.2.2.2.2.2.2.2.1 != ((-1):Int)))||(!(!(p0.2.2.2.2.2.2.2.1 != ((-1):Int)))))) <|
 chk (((!(p0.2.2.2.2.2.2.2.1 != ((-1):Int)))||(!(!(p0.2.2.2.2.2.2.2.1 != ((-1):Int)))))) <|
 chk (bif (p0.2.2.2.2.2.2.2.1 != ((-1):Int))then true else !(p0.2.2.2.2.2.2.2.1 != ((-1):Int))) <|
 chk (bif (p0.2.2.2.2.2.2.2.1 != ((-1):Int))then true else true) <|
 let x10:Bool:=bif (p0.2.2.2.2.2.2.2.1 != ((-1):Int))then true else(p0.2.2.2.2.2.2.2.2.1 != ((-1):Int))
 some x10
abbrev aJ:Type:=Bool
def LY (N:Nat) (p0:Yq4):Option aJ :=
 some (p0.2.2.2.2.2.2.2.2.2.1 != ((-1):Int))
abbrev aN:Type:=Bool
def LZ (N:Nat) (p0:Yq4):Option aN :=
 some (decide ((p0.2.2.2.2.2.2.2.2.2.2.1.length:Int)>(0:Int)))
abbrev aP:Type:=Bool
def Mc (N:Nat) (p0:Yq4):Option aP :=
 some p0.2.2.2.2.2.2.2.2.2.2.2.1
abbrev YC:Type:=Bool
def JZ (N:Nat) (p0:Yq4):Option YC :=
 some (!(p0.2.2.2.2.2.2.2.2.2.2.2.2.2.2.1==([]:Bs)))
abbrev YE:Type:=Bool
def Ko (N:Nat) (p0:Yq4):Option YE :=
 some (!(p0.2.2.2.2.2.2.2.2.2.2.2.2.2.2.2.1==([]:Bs)))
abbrev YG:Type:=Bool
def Kq (N:Nat) (p0:Yq4):Option YG :=
 let x6:Bool:=decide ((p0.2.2.2.2.2.2.2.2.2.2.2.2.2.2.2.2.1.length:Int)>(0:Int))
 some x6
abbrev YI:Type:=Bool
def Kr (N:Nat) (p0:Yq4):Option YI :=
 let x6:Bool:=decide ((p0.2.2.2.2.2.2.2.2.2.2.2.2.2.2.2.2.2.1.length:Int)>(0:Int))
 some x6
def Y0 (N n:Nat) (a:Yq4):Option (Bool) :=
  bif Nat.beq n 111 then LQ N a else
  bif Nat.beq n 114 then LU N a else
  bif Nat.beq n 117 then LV N a else
  bif Nat.beq n 120 then LW N a else
  bif Nat.beq n 123 then LX N a else
  bif Nat.beq n 126 then G7 N a else
  bif Nat.beq n 129 then LY N a else
  bif Nat.beq n 132 then LZ N a else
  bif Nat.beq n 135 then Mc N a else
  bif Nat.beq n 138 then JZ N a else
  bif Nat.beq n 141 then Ko N a else
  bif Nat.beq n 144 then Kq N a else
  bif Nat.beq n 147 then Kr N a else
  none
abbrev eF:Type:=Int
def FC (N:Nat) (p0:Yq4):Option eF :=
 Am (p0.2.1) fun b1 =>
 chk ((b1||(!b1))) <|
 chk ((b1||(!b1))) <|
 chk (bif b1 then b1 else true) <|
 chk (bif b1 then true else true) <|
 Am (bif b1 then !p0.1 else false) fun b2 =>
 Am (b2) fun b3 =>
 chk (((!b3)||(!(!b3)))) <|
 chk (((!b3)||(!(!b3)))) <|
 chk (((!b3)||(!(!b3)))) <|
 Am ((p0.2.2.1 != ((-1):Int))) fun b4 =>
 chk ((((!b3)&&b4)||(!((!b3)&&b4)))) <|
 chk ((((!b3)&&b4)||(!((!b3)&&b4)))) <|
 chk (((!b3)||(!(!b3)))) <|
 chk (((bif b4 then((!b3)&&b4)else true)||(!(!b3)))) <|
 chk (((bif b4 then true else true)||(!(!b3)))) <|
 Am (bif b4 then !p0.2.1 else false) fun b5 =>
 chk (bif b3 then true else !b3) <|
 chk (bif b3 then true else true) <|
 Am (bif b3 then true else b5) fun b6 =>
 bif b6 then(some 7)
 else(Ae (D5 N p0.2.2.1) fun r32 =>
 Am (!r32) fun b7 =>
 chk (((!b7)||(!(!b7)))) <|
 chk (((!b7)||(!(!b7)))) <|
 chk ((((D5 N p0.2.2.2.2.2.2.2.1).isSome)||(!(!b7)))) <|
 let r37:=(D5 N p0.2.2.2.2.2.2.2.1).getD default
 chk (((!b7)||(!(!b7)))) <|
 chk (bif b7 then true else !b7) <|
 chk (bif b7 then true else true) <|
 Am (bif b7 then true else !r37) fun b8 =>
 Am (b8) fun b9 =>
 chk (((!b9)||(!(!b9)))) <|
 chk (((!b9)||(!(!b9)))) <|
 chk ((((D5 N p0.2.2.2.2.2.2.2.2.1).isSome)||(!(!b9)))) <|
 let r43:=(D5 N p0.2.2.2.2.2.2.2.2.1).getD default
 chk (((!b9)||(!(!b9)))) <|
 chk (bif b9 then true else !b9) <|
 chk (bif b9 then true else true) <|
 Am (bif b9 then true else !r43) fun b10 =>
 Am (b10) fun b11 =>
 chk (((!b11)||(!(!b11)))) <|
 chk (((!b11)||(!(!b11)))) <|
 chk ((((D5 N p0.2.2.2.2.2.2.2.2.2.1).isSome)||(!(!b11)))) <|
 let r49:=(D5 N p0.2.2.2.2.2.2.2.2.2.1).getD default
 chk (((!b11)||(!(!b11)))) <|
 chk (bif b11 then true else !b11) <|
 chk (bif b11 then true else true) <|
 Am (bif b11 then true else !r49) fun b12 =>
 Am (b12) fun b13 =>
 chk (((!b13)||(!(!b13)))) <|
 chk (((!b13)||(!(!b13)))) <|
 chk (bif b13 then true else !b13) <|
 chk (bif b13 then true else true) <|
 Am (bif b13 then true else decide (p0.2.2.2.1<(0:Int))) fun b14 =>
 Am (b14) fun b15 =>
 chk (((!b15)||(!(!b15)))) <|
 chk (((!b15)||(!(!b15)))) <|
 chk (bif b15 then true else !b15) <|
 chk (bif b15 then true else true) <|
 Am (bif b15 then true else decide (p0.2.2.2.1>(511:Int))) fun b16 =>
 bif b16 then(some 1)
 else(Ae (Fa N p0.2.2.2.2.1 8) fun r64 =>
 bif (r64 != (0:Int))then(some r64)
 else(Ae (Fa N p0.2.2.2.2.2.1 8) fun r70 =>
 bif (r70 != (0:Int))then(some r70)
 else(Ae (E5 N p0.2.2.2.2.2.2.1) fun r76 =>
 bif (r76 != (0:Int))then(some r76)
 else(bif decide ((p0.2.2.2.2.2.2.2.2.2.2.1.length:Int)>(16:Int))then(some 2)
 else(Ae (I5 N p0.2.2.2.2.2.2.2.2.2.2.1) fun r86 =>
 bif (r86 != (0:Int))then(some r86)
 else(Ae (DV N p0) fun r91 =>
 bif (r91 != (0:Int))then(some r91)
 else(chk (((!(decide ((p0.2.2.2.2.2.2.2.2.2.2.2.2.2.2.1.length:Int)>(32:Int))))||(!(!(decide ((p0.2.2.2.2.2.2.2.2.2.2.2.2.2.2.1.length:Int)>(32:Int))))))) <|
 chk (((!(decide ((p0.2.2.2.2.2.2.2.2.2.2.2.2.2.2.1.length:Int)>(32:Int))))||(!(!(decide ((p0.2.2.2.2.2.2.2.2.2.2.2.2.2.2.1.length:Int)>(32:Int))))))) <|
 chk (((!(decide ((p0.2.2.2.2.2.2.2.2.2.2.2.2.2.2.1.length:Int)>(32:Int))))||(!(!(decide ((p0.2.2.2.2.2.2.2.2.2.2.2.2.2.2.1.length:Int)>(32:Int))))))) <|
 let x103:Bool:=decide ((p0.2.2.2.2.2.2.2.2.2.2.2.2.2.2.2.1.length:Int)>(32:Int))
 chk (bif decide ((p0.2.2.2.2.2.2.2.2.2.2.2.2.2.2.1.length:Int)>(32:Int))then true else !(decide ((p0.2.2.2.2.2.2.2.2.2.2.2.2.2.2.1.length:Int)>(32:Int)))) <|
 chk (bif decide ((p0.2.2.2.2.2.2.2.2.2.2.2.2.2.2.1.length:Int)>(32:Int))then true else true) <|
 let x104:Bool:=bif decide ((p0.2.2.2.2.2.2.2.2.2.2.2.2.2.2.1.length:Int)>(32:Int))then true else x103
 bif x104 then(some 2)
 else(Ae (Dx N p0.2.2.2.2.2.2.2.2.2.2.2.2.2.2.2.2.1) fun r107 =>
 bif (r107 != (0:Int))then(some r107)
 else(Ae (Dx N p0.2.2.2.2.2.2.2.2.2.2.2.2.2.2.2.2.2.1) fun r113 =>
 bif (r113 != (0:Int))then(some r113)
 else(Ae (Fe N) fun r120 =>
 Ar (X:=Int×Int×Bool×Bool×Int×Int×List Bs×List Bs×(List (Bs×Bs))×Int×Int×Int×List Yq1×Bool×List Yq1×List Yq1×Bs×Bs×List Yq2×List Yq2×List (Bs×Bool×Bs)) (Y:=(Int×Bool×Bool×Int×Int×List Bs×List Bs×(List (Bs×Bs))×Int×Int×Int×List Yq1×Bool×List Yq1×List Yq1×Bs×Bs×List Yq2×List Yq2×List (Bs×Bool×Bs))) (U21 fun t10a t122a b33024_0a b33024_1a b33024_2a b33024_3a b33024_4a b33024_5a b33024_6a b33024_7a b33024_8a b33024_9a b33024_10a b33024_11a b33024_12a b33024_13a b33024_14a b33024_15a b33024_16a b33024_17a b33024_18a k17 x18 =>
 bif decide (t122a<(r120.length:Int))then(chk (decide ((0:Int)<=t122a)) <|
 chk (decide (t122a<(r120.length:Int))) <|
 Ae (Y0 N ((r120.getD t122a.toNat (([]:Bs),0,0,0,0)).2.2.1) (b33024_0a,b33024_1a,b33024_2a,b33024_3a,b33024_4a,b33024_5a,b33024_6a,b33024_7a,b33024_8a,b33024_9a,b33024_10a,b33024_11a,b33024_12a,b33024_13a,b33024_14a,b33024_15a,b33024_16a,b33024_17a,b33024_18a)) fun r129 =>
 bif r129 then(k17 (i64.wrap (t10a+(1:Int)),i64.wrap (t122a+(1:Int)),b33024_0a,b33024_1a,b33024_2a,b33024_3a,b33024_4a,b33024_5a,b33024_6a,b33024_7a,b33024_8a,b33024_9a,b33024_10a,b33024_11a,b33024_12a,b33024_13a,b33024_14a,b33024_15a,b33024_16a,b33024_17a,b33024_18a))
 else(k17 (t10a,i64.wrap (t122a+(1:Int)),b33024_0a,b33024_1a,b33024_2a,b33024_3a,b33024_4a,b33024_5a,b33024_6a,b33024_7a,b33024_8a,b33024_9a,b33024_10a,b33024_11a,b33024_12a,b33024_13a,b33024_14a,b33024_15a,b33024_16a,b33024_17a,b33024_18a)))
 else(x18 (t10a,b33024_0a,b33024_1a,b33024_2a,b33024_3a,b33024_4a,b33024_5a,b33024_6a,b33024_7a,b33024_8a,b33024_9a,b33024_10a,b33024_11a,b33024_12a,b33024_13a,b33024_14a,b33024_15a,b33024_16a,b33024_17a,b33024_18a)))
 N ((p0.2.2.2.2.2.2.2.2.2.2.2.2.2.2.2.2.2.2.length:Int),0,p0.1,p0.2.1,p0.2.2.1,p0.2.2.2.1,p0.2.2.2.2.1,p0.2.2.2.2.2.1,p0.2.2.2.2.2.2.1,p0.2.2.2.2.2.2.2.1,p0.2.2.2.2.2.2.2.2.1,p0.2.2.2.2.2.2.2.2.2.1,p0.2.2.2.2.2.2.2.2.2.2.1,p0.2.2.2.2.2.2.2.2.2.2.2.1,p0.2.2.2.2.2.2.2.2.2.2.2.2.1,p0.2.2.2.2.2.2.2.2.2.2.2.2.2.1,p0.2.2.2.2.2.2.2.2.2.2.2.2.2.2.1,p0.2.2.2.2.2.2.2.2.2.2.2.2.2.2.2.1,p0.2.2.2.2.2.2.2.2.2.2.2.2.2.2.2.2.1,p0.2.2.2.2.2.2.2.2.2.2.2.2.2.2.2.2.2.1,p0.2.2.2.2.2.2.2.2.2.2.2.2.2.2.2.2.2.2) (U20 fun t10b b33024_0b b33024_1b b33024_2b b33024_3b b33024_4b b33024_5b b33024_6b b33024_7b b33024_8b b33024_9b b33024_10b b33024_11b b33024_12b b33024_13b b33024_14b b33024_15b b33024_16b b33024_17b b33024_18b =>
 bif decide (t10b>(24:Int))then(some 2)
 else(Ae (DW N b33024_18b) fun r137 =>
 some r137)))))))))))))
abbrev aW:Type:=Bool×Bool
def Tc (N:Nat) (p0:Bool):Option aW :=
 some (p0,p0)
abbrev YS:Type:=Bs×Bool
def QJ (N:Nat) (p0:Bool) (p1:Bs) (p2:Int):Option YS :=
 chk (((!p0)||(!(!p0)))) <|
 chk (bif p0 then true else !p0) <|
 chk (bif p0 then true else true) <|
 some (p1,bif p0 then true else(p2 != (0:Int)))
abbrev Ack:Type:=Bs×Int
def xM (N:Nat) (p0:Int) (p1:List Bs):Option Ack :=
 chk (((!(decide (p0<(0:Int))))||(!(!(decide (p0<(0:Int))))))) <|
 chk (bif decide (p0<(0:Int))then true else !(decide (p0<(0:Int)))) <|
 chk (bif decide (p0<(0:Int))then true else true) <|
 chk (((!(bif decide (p0<(0:Int))then true else decide (p0>(255:Int))))||(!(!(bif decide (p0<(0:Int))then true else decide (p0>(255:Int))))))) <|
 chk (((!(bif decide (p0<(0:Int))then true else decide (p0>(255:Int))))||(!(!(bif decide (p0<(0:Int))then true else decide (p0>(255:Int))))))) <|
 chk (bif bif decide (p0<(0:Int))then true else decide (p0>(255:Int))then true else !(bif decide (p0<(0:Int))then true else decide (p0>(255:Int)))) <|
 chk (bif bif decide (p0<(0:Int))then true else decide (p0>(255:Int))then true else true) <|
 let x20:Bool:=bif bif decide (p0<(0:Int))then true else decide (p0>(255:Int))then true else((Bg .and .i64 p0 31)==(31:Int))
 bif x20 then(some (([]:Bs),5))
 else(Ar (X:=Int×Int) (Y:=Int) (U2 fun t6a t23a k1 x2 =>
 bif decide (t23a<(p1.length:Int))then(chk (decide ((0:Int)<=t23a)) <|
 chk (decide (t23a<(p1.length:Int))) <|
 let x31:Bool:=decide (((p1.getD t23a.toNat ([]:Bs)).length:Int)>(i64.wrap ((131072:Int) - t6a)))
 bif x31 then(some (([]:Bs),6))
 else(k1 (i64.wrap (t6a+((p1.getD t23a.toNat ([]:Bs)).length:Int)),i64.wrap (t23a+(1:Int)))))
 else(x2 t6a))
 N (0,0) (fun t6b =>
 KD (α :=List Int) (fun j3 =>
 bif decide (t6b<(128:Int))then(j3 ([IntKind.u8.wrap p0,IntKind.u8.wrap t6b]:List Int))
 else(bif decide (t6b<(256:Int))then(j3 ([IntKind.u8.wrap p0,129,IntKind.u8.wrap t6b]:List Int))
 else(bif decide (t6b<(65536:Int))then(j3 ([IntKind.u8.wrap p0,130,IntKind.u8.wrap (t6b.fdiv (256)),IntKind.u8.wrap t6b]:List Int))
 else(j3 ([IntKind.u8.wrap p0,131,IntKind.u8.wrap (t6b.fdiv (65536)),IntKind.u8.wrap (t6b.fdiv (256)),IntKind.u8.wrap t6b]:List Int)))))
 (fun l1008192c =>
 chk (List.all l1008192c isByte) <|
 Ae (strings_Join N p1 ([]:Bs)) fun r81 =>
 chk (decide ((List.map byteOf l1008192c).length+r81.length<=140737488355328)) <|
 some ((List.map byteOf l1008192c)++r81,0))))
abbrev YU:Type:=Bs×Bool
def Io (N:Nat) (p0:Bool) (p1:Int) (p2:List Bs):Option YU :=
 Ae (xM N p1 p2) fun r10 =>
 Ae (QJ N p0 r10.1 r10.2) fun r13 =>
 some (r13.1,r13.2)
abbrev aY:Type:=Bs×Bool
def Tf (N:Nat) (p0:Bool) (p1:List Bs):Option aY :=
 Ae (Io N p0 48 p1) fun r7 =>
 some (r7.1,r7.2)
abbrev YZ:Type:=Bs
def QU (N:Nat) (p0:Int):Option YZ :=
 Ar (X:=Int×Int) (Y:=Int) (U2 fun t3a t4a k1 x2 =>
 chk (((!(decide (t4a<((-128):Int))))||(!(!(decide (t4a<((-128):Int))))))) <|
 chk (bif decide (t4a<((-128):Int))then true else !(decide (t4a<((-128):Int)))) <|
 chk (bif decide (t4a<((-128):Int))then true else true) <|
 let x13:Bool:=bif decide (t4a<((-128):Int))then true else decide (t4a>(127:Int))
 bif x13 then(k1 (i64.wrap (t3a+(1:Int)),t4a.fdiv (256)))
 else(x2 t3a))
 N (1,p0) (fun t3b =>
 Ar (X:=Int×List Int) (Y:=(List Int)) (U2 fun t19c l1008192c k3 x4 =>
 bif decide (t19c<t3b)then(let x28:Int:=IntKind.u64.wrap (i64.wrap ((i64.wrap (t3b - (1:Int))) - t19c))
 chk (decide ((0:Int)<=IntKind.u64.wrap ((8:Int)*x28))) <|
 let x31:Int:=IntKind.u8.wrap (p0.fdiv (2 ^ (min (IntKind.u64.wrap ((8:Int)*x28)).toNat 64)))
 chk (decide ((l1008192c.length+1)*2<=140737488355328)) <|
 k3 (i64.wrap (t19c+(1:Int)),l1008192c++([x31]:List Int)))
 else(x4 l1008192c))
 N (0,([]:List Int)) (fun l1012288d =>
 chk (List.all l1012288d isByte) <|
 some (List.map byteOf l1012288d)))
abbrev aX:Type:=Bs×Bool
def Td (N:Nat) (p0:Bool) (p1:Int):Option aX :=
 Ae (QU N p1) fun r7 =>
 Ae (Io N p0 2 ([r7]:List Bs)) fun r9 =>
 some (r9.1,r9.2)
abbrev YX:Type:=Bs
def QT (N:Nat) (p0:Bool):Option YX :=
 bif p0 then(some ([255]:Bs))
 else(some ([0]:Bs))
abbrev YR:Type:=Bs×Bool
def QI (N:Nat) (p0:Bool) (p1:Int) (p2:Bool):Option YR :=
 bif !p2 then(some (([]:Bs),p0))
 else(Ae (QT N true) fun r11 =>
 Ae (Io N p0 p1 ([r11]:List Bs)) fun r13 =>
 some (r13.1,r13.2))
abbrev Xc:Type:=Bs×Bool
def JB (N:Nat) (p0:Bool) (p1:Yq4):Option Xc :=
 KD (α :=Bs×Bool×Bool×Bool×Int×Int×List Bs×List Bs×(List (Bs×Bs))×Int×Int×Int×List Yq1×Bool×List Yq1×List Yq1×Bs×Bs×List Yq2×List Yq2×List (Bs×Bool×Bs)) (fun j1 =>
 bif (p1.2.2.1 != ((-1):Int))then(Ae (Td N p0 p1.2.2.1) fun r12 =>
 j1 (r12.1,r12.2,p1.1,p1.2.1,p1.2.2.1,p1.2.2.2.1,p1.2.2.2.2.1,p1.2.2.2.2.2.1,p1.2.2.2.2.2.2.1,p1.2.2.2.2.2.2.2.1,p1.2.2.2.2.2.2.2.2.1,p1.2.2.2.2.2.2.2.2.2.1,p1.2.2.2.2.2.2.2.2.2.2.1,p1.2.2.2.2.2.2.2.2.2.2.2.1,p1.2.2.2.2.2.2.2.2.2.2.2.2.1,p1.2.2.2.2.2.2.2.2.2.2.2.2.2.1,p1.2.2.2.2.2.2.2.2.2.2.2.2.2.2.1,p1.2.2.2.2.2.2.2.2.2.2.2.2.2.2.2.1,p1.2.2.2.2.2.2.2.2.2.2.2.2.2.2.2.2.1,p1.2.2.2.2.2.2.2.2.2.2.2.2.2.2.2.2.2.1,p1.2.2.2.2.2.2.2.2.2.2.2.2.2.2.2.2.2.2))
 else(j1 (([]:Bs),p0,p1.1,p1.2.1,p1.2.2.1,p1.2.2.2.1,p1.2.2.2.2.1,p1.2.2.2.2.2.1,p1.2.2.2.2.2.2.1,p1.2.2.2.2.2.2.2.1,p1.2.2.2.2.2.2.2.2.1,p1.2.2.2.2.2.2.2.2.2.1,p1.2.2.2.2.2.2.2.2.2.2.1,p1.2.2.2.2.2.2.2.2.2.2.2.1,p1.2.2.2.2.2.2.2.2.2.2.2.2.1,p1.2.2.2.2.2.2.2.2.2.2.2.2.2.1,p1.2.2.2.2.2.2.2.2.2.2.2.2.2.2.1,p1.2.2.2.2.2.2.2.2.2.2.2.2.2.2.2.1,p1.2.2.2.2.2.2.2.2.2.2.2.2.2.2.2.2.1,p1.2.2.2.2.2.2.2.2.2.2.2.2.2.2.2.2.2.1,p1.2.2.2.2.2.2.2.2.2.2.2.2.2.2.2.2.2.2)))
 (U21 fun t5a b0_0a b33536_0a b33536_1a b33536_2a b33536_3a b33536_4a b33536_5a b33536_6a b33536_7a b33536_8a b33536_9a b33536_10a b33536_11a b33536_12a b33536_13a b33536_14a b33536_15a b33536_16a b33536_17a b33536_18a =>
 Ae (QI N b0_0a 1 b33536_1a) fun r17 =>
 Ae (Tf N r17.2 ([r17.1,t5a]:List Bs)) fun r20 =>
 some (r20.1,r20.2))
def Aab (N n:Nat) (a:Bool×Yq4):Option (Bs×Bool) :=
  bif Nat.beq n 112 then JB N a.1 a.2 else
  none
abbrev ZR:Type:=Yq5×Int
def LK (N:Nat) (p0:Yq4):Option ZR :=
 Ae (FC N p0) fun r10 =>
 bif (r10 != (0:Int))then(some (([]:List (Bs×Bool×Bs)),r10))
 else(Ae (Fe N) fun r16 =>
 Ar (X:=Int×Bool×Bool×Int×Int×List Bs×List Bs×(List (Bs×Bs))×Int×Int×Int×List Yq1×Bool×List Yq1×List Yq1×Bs×Bs×List Yq2×List Yq2×(List (Bs×Bool×Bs))×Bool×List (Bs×Bool×Bs)) (Y:=(Bool×Bool×Int×Int×List Bs×List Bs×(List (Bs×Bs))×Int×Int×Int×List Yq1×Bool×List Yq1×List Yq1×Bs×Bs×List Yq2×List Yq2×(List (Bs×Bool×Bs))×Bool×List (Bs×Bool×Bs))) (U22 fun t18a b33024_0a b33024_1a b33024_2a b33024_3a b33024_4a b33024_5a b33024_6a b33024_7a b33024_8a b33024_9a b33024_10a b33024_11a b33024_12a b33024_13a b33024_14a b33024_15a b33024_16a b33024_17a b33024_18a b36608_0a l1000000a k1 x2 =>
 bif decide (t18a<(r16.length:Int))then(chk (decide ((0:Int)<=t18a)) <|
 chk (decide (t18a<(r16.length:Int))) <|
 Ae (Y0 N ((r16.getD t18a.toNat (([]:Bs),0,0,0,0)).2.2.1) (b33024_0a,b33024_1a,b33024_2a,b33024_3a,b33024_4a,b33024_5a,b33024_6a,b33024_7a,b33024_8a,b33024_9a,b33024_10a,b33024_11a,b33024_12a,b33024_13a,b33024_14a,b33024_15a,b33024_16a,b33024_17a,b33024_18a)) fun r25 =>
 bif r25 then(chk (((!(((r16.getD t18a.toNat (([]:Bs),0,0,0,0)).2.1)==(1:Int)))||(!(!(((r16.getD t18a.toNat (([]:Bs),0,0,0,0)).2.1)==(1:Int)))))) <|
 chk (((!(((r16.getD t18a.toNat (([]:Bs),0,0,0,0)).2.1)==(1:Int)))||(!(!(((r16.getD t18a.toNat (([]:Bs),0,0,0,0)).2.1)==(1:Int)))))) <|
 let x35:Bool:=(((r16.getD t18a.toNat (([]:Bs),0,0,0,0)).1)==([50,46,53,46,50,57,46,51,51]:Bs))
 chk (bif (((r16.getD t18a.toNat (([]:Bs),0,0,0,0)).2.1)==(1:Int))then true else !(((r16.getD t18a.toNat (([]:Bs),0,0,0,0)).2.1)==(1:Int))) <|
 chk (bif (((r16.getD t18a.toNat (([]:Bs),0,0,0,0)).2.1)==(1:Int))then true else true) <|
 let x36:Bool:=bif (((r16.getD t18a.toNat (([]:Bs),0,0,0,0)).2.1)==(1:Int))then true else x35
 Ae (Aab N ((r16.getD t18a.toNat (([]:Bs),0,0,0,0)).2.2.2.1) (b36608_0a,(b33024_0a,b33024_1a,b33024_2a,b33024_3a,b33024_4a,b33024_5a,b33024_6a,b33024_7a,b33024_8a,b33024_9a,b33024_10a,b33024_11a,b33024_12a,b33024_13a,b33024_14a,b33024_15a,b33024_16a,b33024_17a,b33024_18a))) fun r41 =>
 chk (decide ((l1000000a.length+1)*41<=140737488355328)) <|
 let y44032:List (Bs×Bool×Bs):=l1000000a++([((r16.getD t18a.toNat (([]:Bs),0,0,0,0)).1,x36,r41.1)]:List (Bs×Bool×Bs))
 k1 (i64.wrap (t18a+(1:Int)),b33024_0a,b33024_1a,b33024_2a,b33024_3a,b33024_4a,b33024_5a,b33024_6a,b33024_7a,b33024_8a,b33024_9a,b33024_10a,b33024_11a,b33024_12a,b33024_13a,b33024_14a,b33024_15a,b33024_16a,b33024_17a,b33024_18a,r41.2,y44032))
 else(k1 (i64.wrap (t18a+(1:Int)),b33024_0a,b33024_1a,b33024_2a,b33024_3a,b33024_4a,b33024_5a,b33024_6a,b33024_7a,b33024_8a,b33024_9a,b33024_10a,b33024_11a,b33024_12a,b33024_13a,b33024_14a,b33024_15a,b33024_16a,b33024_17a,b33024_18a,b36608_0a,l1000000a)))
 else(x2 (b33024_0a,b33024_1a,b33024_2a,b33024_3a,b33024_4a,b33024_5a,b33024_6a,b33024_7a,b33024_8a,b33024_9a,b33024_10a,b33024_11a,b33024_12a,b33024_13a,b33024_14a,b33024_15a,b33024_16a,b33024_17a,b33024_18a,b36608_0a,l1000000a)))
 N (0,p0.1,p0.2.1,p0.2.2.1,p0.2.2.2.1,p0.2.2.2.2.1,p0.2.2.2.2.2.1,p0.2.2.2.2.2.2.1,p0.2.2.2.2.2.2.2.1,p0.2.2.2.2.2.2.2.2.1,p0.2.2.2.2.2.2.2.2.2.1,p0.2.2.2.2.2.2.2.2.2.2.1,p0.2.2.2.2.2.2.2.2.2.2.2.1,p0.2.2.2.2.2.2.2.2.2.2.2.2.1,p0.2.2.2.2.2.2.2.2.2.2.2.2.2.1,p0.2.2.2.2.2.2.2.2.2.2.2.2.2.2.1,p0.2.2.2.2.2.2.2.2.2.2.2.2.2.2.2.1,p0.2.2.2.2.2.2.2.2.2.2.2.2.2.2.2.2.1,p0.2.2.2.2.2.2.2.2.2.2.2.2.2.2.2.2.2.1,p0.2.2.2.2.2.2.2.2.2.2.2.2.2.2.2.2.2.2,false,([]:List (Bs×Bool×Bs))) (U21 fun b33024_0b b33024_1b b33024_2b b33024_3b b33024_4b b33024_5b b33024_6b b33024_7b b33024_8b b33024_9b b33024_10b b33024_11b b33024_12b b33024_13b b33024_14b b33024_15b b33024_16b b33024_17b b33024_18b b36608_0b l1004096b =>
 Ae (Tc N b36608_0b) fun r47 =>
 bif r47.1 then(some (([]:List (Bs×Bool×Bs)),2))
 else(chk (decide ((l1004096b.length+b33024_18b.length)*41<=140737488355328)) <|
 some (l1004096b++b33024_18b,0))))
abbrev kF:Type:=Yq4
def I4 (N:Nat):Option kF :=
 some (false,false,(-1),0,([]:List Bs),([]:List Bs),([]:List (Bs×Bs)),(-1),(-1),(-1),([]:List Yq1),false,([]:List Yq1),([]:List Yq1),([]:Bs),([]:Bs),([]:List Yq2),([]:List Yq2),([]:List (Bs×Bool×Bs)))
abbrev oJ:Type:=Bool
def MS (N:Nat):Option oJ :=
 Ae (I4 N) fun r6 =>
 Ae (LK N (true,true,0,r6.2.2.2.1,r6.2.2.2.2.1,r6.2.2.2.2.2.1,r6.2.2.2.2.2.2.1,r6.2.2.2.2.2.2.2.1,r6.2.2.2.2.2.2.2.2.1,r6.2.2.2.2.2.2.2.2.2.1,r6.2.2.2.2.2.2.2.2.2.2.1,r6.2.2.2.2.2.2.2.2.2.2.2.1,r6.2.2.2.2.2.2.2.2.2.2.2.2.1,r6.2.2.2.2.2.2.2.2.2.2.2.2.2.1,r6.2.2.2.2.2.2.2.2.2.2.2.2.2.2.1,r6.2.2.2.2.2.2.2.2.2.2.2.2.2.2.2.1,r6.2.2.2.2.2.2.2.2.2.2.2.2.2.2.2.2.1,r6.2.2.2.2.2.2.2.2.2.2.2.2.2.2.2.2.2.1,r6.2.2.2.2.2.2.2.2.2.2.2.2.2.2.2.2.2.2)) fun r12 =>
 Ae (I4 N) fun r16 =>
 Ae (LK N r16) fun r17 =>
 Am ((r12.2==(0:Int))) fun b1 =>
 chk ((b1||(!b1))) <|
 chk ((b1||(!b1))) <|
 chk (bif b1 then b1 else true) <|
 chk (bif b1 then true else true) <|
 Am (bif b1 then((r12.1.length:Int)==(1:Int))else false) fun b2 =>
 Am (b2) fun b3 =>
 chk ((b3||(!b3))) <|
 chk (((decide ((0:Int)<(r12.1.length:Int)))||(!b3))) <|
 chk ((b3||(!b3))) <|
 chk ((b3||(!b3))) <|
 chk ((b3||(!b3))) <|
 let x32:Bool:=((((r12.1.getD 0 (([]:Bs),false,([]:Bs))).1)==([50,46,53,46,50,57,46,49,57]:Bs))&&((((r12.1.getD 0 (([]:Bs),false,([]:Bs))).2.1)==true)&&((((r12.1.getD 0 (([]:Bs),false,([]:Bs))).2.2)==([48,6,1,1,255,2,1,0]:Bs))&&true)))
 chk (bif b3 then b3 else true) <|
 chk (bif b3 then true else true) <|
 Am (bif b3 then x32 else false) fun b4 =>
 Am (b4) fun b5 =>
 chk ((b5||(!b5))) <|
 chk (bif b5 then b5 else true) <|
 chk (bif b5 then true else true) <|
 Am (bif b5 then(r17.2==(0:Int))else false) fun b6 =>
 Am (b6) fun b7 =>
 chk ((b7||(!b7))) <|
 chk ((b7||(!b7))) <|
 chk (bif b7 then b7 else true) <|
 chk (bif b7 then true else true) <|
 Am (bif b7 then((r17.1.length:Int)==(0:Int))else false) fun b8 =>
 some b8
abbrev dD:Type:=Bool
def GK (N:Nat) (p0:List Yq0) (p1:List Yq0):Option dD :=
 bif ((p0.length:Int) != (p1.length:Int))then(some false)
 else(Ar (X:=Int×List Yq0×List Yq0) (Y:=Unit) (U3 fun t21a b33280_0a b33536_0a k1 x2 =>
 bif decide (t21a<(p0.length:Int))then(chk (decide ((0:Int)<=t21a)) <|
 chk (decide (t21a<(b33280_0a.length:Int))) <|
 chk (decide ((0:Int)<=t21a)) <|
 chk (decide (t21a<(b33536_0a.length:Int))) <|
 let x36:Bool:=(((b33280_0a.getD t21a.toNat ([]:List (Bs×Int×Bs))).length:Int) != ((b33536_0a.getD t21a.toNat ([]:List (Bs×Int×Bs))).length:Int))
 bif x36 then(some false)
 else(chk (decide ((0:Int)<=t21a)) <|
 chk (decide (t21a<(b33280_0a.length:Int))) <|
 Ar (X:=Int×List Yq0×List Yq0) (Y:=(List Yq0×List Yq0)) (U3 fun t43b b33280_0b b33536_0b k3 x4 =>
 let x44:Bool:=decide (t43b<((b33280_0a.getD t21a.toNat ([]:List (Bs×Int×Bs))).length:Int))
 bif x44 then(chk (decide ((0:Int)<=t43b)) <|
 chk (decide (t43b<((b33280_0a.getD t21a.toNat ([]:List (Bs×Int×Bs))).length:Int))) <|
 chk (decide ((0:Int)<=t21a)) <|
 chk (decide (t21a<(b33536_0b.length:Int))) <|
 Ar (X:=Bool×Int×List Yq0×List Yq0×Bs×Int×Bs) (Y:=(Bool×List Yq0×List Yq0)) (U7 fun t8c t53c b33280_0c b33536_0c b34560_0c b34560_1c b34560_2c k5 x6 =>
 let x54:Bool:=decide (t53c<((b33536_0b.getD t21a.toNat ([]:List (Bs×Int×Bs))).length:Int))
 bif x54 then(chk (decide ((0:Int)<=t53c)) <|
 chk (decide (t53c<((b33536_0b.getD t21a.toNat ([]:List (Bs×Int×Bs))).length:Int))) <|
 chk (((!t8c)||(!(!t8c)))) <|
 chk (((!t8c)||(!(!t8c)))) <|
 let x61:Bool:=((b34560_0c==(((b33536_0b.getD t21a.toNat ([]:List (Bs×Int×Bs))).getD t53c.toNat (([]:Bs),0,([]:Bs))).1))&&((b34560_1c==(((b33536_0b.getD t21a.toNat ([]:List (Bs×Int×Bs))).getD t53c.toNat (([]:Bs),0,([]:Bs))).2.1))&&((b34560_2c==(((b33536_0b.getD t21a.toNat ([]:List (Bs×Int×Bs))).getD t53c.toNat (([]:Bs),0,([]:Bs))).2.2))&&true)))
 chk (bif t8c then true else !t8c) <|
 chk (bif t8c then true else true) <|
 k5 (bif t8c then true else x61,i64.wrap (t53c+(1:Int)),b33280_0c,b33536_0c,b34560_0c,b34560_1c,b34560_2c))
 else(x6 (t8c,b33280_0c,b33536_0c)))
 N (false,0,b33280_0b,b33536_0b,((b33280_0a.getD t21a.toNat ([]:List (Bs×Int×Bs))).getD t43b.toNat (([]:Bs),0,([]:Bs))).1,((b33280_0a.getD t21a.toNat ([]:List (Bs×Int×Bs))).getD t43b.toNat (([]:Bs),0,([]:Bs))).2.1,((b33280_0a.getD t21a.toNat ([]:List (Bs×Int×Bs))).getD t43b.toNat (([]:Bs),0,([]:Bs))).2.2) (U3 fun t8d b33280_0d b33536_0d =>
 bif !t8d then(some false)
 else(k3 (i64.wrap (t43b+(1:Int)),b33280_0d,b33536_0d))))
 else(x4 (b33280_0b,b33536_0b)))
 N (0,b33280_0a,b33536_0a) (U2 fun b33280_0e b33536_0e =>
 k1 (i64.wrap (t21a+(1:Int)),b33280_0e,b33536_0e))))
 else(x2 ()))
 N (0,p0,p1) (fun _ =>
 some true))
abbrev UU:Type:=Bool
def CG (N:Nat) (p0:List Yq1) (p1:List Yq1):Option UU :=
 bif ((p0.length:Int) != (p1.length:Int))then(some false)
 else(Ar (X:=Int) (Y:=Unit) (fun t13a k1 x2 =>
 bif decide (t13a<(p0.length:Int))then(chk (decide ((0:Int)<=t13a)) <|
 chk (decide (t13a<(p0.length:Int))) <|
 chk (decide ((0:Int)<=t13a)) <|
 chk (decide (t13a<(p1.length:Int))) <|
 let x26:Bool:=(((p0.getD t13a.toNat (0,([]:Bs),([]:List Yq0))).1) != ((p1.getD t13a.toNat (0,([]:Bs),([]:List Yq0))).1))
 chk (((!x26)||(!(!x26)))) <|
 chk (((!x26)||(!(!x26)))) <|
 chk (((decide ((0:Int)<=t13a))||(!(!x26)))) <|
 chk (((decide (t13a<(p0.length:Int)))||(!(!x26)))) <|
 chk (((!x26)||(!(!x26)))) <|
 chk (((!x26)||(!(!x26)))) <|
 chk (((!x26)||(!(!x26)))) <|
 chk (((!x26)||(!(!x26)))) <|
 chk (((decide ((0:Int)<=t13a))||(!(!x26)))) <|
 chk (((decide (t13a<(p1.length:Int)))||(!(!x26)))) <|
 chk (((!x26)||(!(!x26)))) <|
 chk (((!x26)||(!(!x26)))) <|
 chk (((!x26)||(!(!x26)))) <|
 chk (((!x26)||(!(!x26)))) <|
 let x38:Bool:= !(((p0.getD t13a.toNat (0,([]:Bs),([]:List Yq0))).2.1)==((p1.getD t13a.toNat (0,([]:Bs),([]:List Yq0))).2.1))
 chk (bif x26 then true else !x26) <|
 chk (bif x26 then true else true) <|
 chk (((!(bif x26 then true else x38))||(!(!(bif x26 then true else x38))))) <|
 chk (((!(bif x26 then true else x38))||(!(!(bif x26 then true else x38))))) <|
 chk (((decide ((0:Int)<=t13a))||(!(!(bif x26 then true else x38))))) <|
 chk (((decide (t13a<(p0.length:Int)))||(!(!(bif x26 then true else x38))))) <|
 chk (((!(bif x26 then true else x38))||(!(!(bif x26 then true else x38))))) <|
 chk (((!(bif x26 then true else x38))||(!(!(bif x26 then true else x38))))) <|
 chk (((!(bif x26 then true else x38))||(!(!(bif x26 then true else x38))))) <|
 chk (((!(bif x26 then true else x38))||(!(!(bif x26 then true else x38))))) <|
 chk (((decide ((0:Int)<=t13a))||(!(!(bif x26 then true else x38))))) <|
 chk (((decide (t13a<(p1.length:Int)))||(!(!(bif x26 then true else x38))))) <|
 chk (((!(bif x26 then true else x38))||(!(!(bif x26 then true else x38))))) <|
 chk (((!(bif x26 then true else x38))||(!(!(bif x26 then true else x38))))) <|
 chk (((!(bif x26 then true else x38))||(!(!(bif x26 then true else x38))))) <|
 chk (((!(bif x26 then true else x38))||(!(!(bif x26 then true else x38))))) <|
 chk ((((GK N ((p0.getD t13a.toNat (0,([]:Bs),([]:List Yq0))).2.2) ((p1.getD t13a.toNat (0,([]:Bs),([]:List Yq0))).2.2)).isSome)||(!(!(bif x26 then true else x38))))) <|
 let r51:=(GK N ((p0.getD t13a.toNat (0,([]:Bs),([]:List Yq0))).2.2) ((p1.getD t13a.toNat (0,([]:Bs),([]:List Yq0))).2.2)).getD default
 chk (((!(bif x26 then true else x38))||(!(!(bif x26 then true else x38))))) <|
 chk (bif bif x26 then true else x38 then true else !(bif x26 then true else x38)) <|
 chk (bif bif x26 then true else x38 then true else true) <|
 bif bif bif x26 then true else x38 then true else !r51 then(some false)
 else(k1 (i64.wrap (t13a+(1:Int)))))
 else(x2 ()))
 N 0 (fun _ =>
 some true))
abbrev XT:Type:=Bool
def DC (N:Nat) (p0:List Yq2) (p1:List Yq2):Option XT :=
 bif ((p0.length:Int) != (p1.length:Int))then(some false)
 else(Ar (X:=Int) (Y:=Unit) (fun t13a k1 x2 =>
 bif decide (t13a<(p0.length:Int))then(chk (decide ((0:Int)<=t13a)) <|
 chk (decide (t13a<(p0.length:Int))) <|
 chk (decide ((0:Int)<=t13a)) <|
 chk (decide (t13a<(p1.length:Int))) <|
 Ae (CG N ((p0.getD t13a.toNat (([]:List Yq1),0,false,([]:List Yq0))).1) ((p1.getD t13a.toNat (([]:List Yq1),0,false,([]:List Yq0))).1)) fun r26 =>
 Am (!r26) fun b3 =>
 chk (((!b3)||(!(!b3)))) <|
 chk (((!b3)||(!(!b3)))) <|
 chk (((decide ((0:Int)<=t13a))||(!(!b3)))) <|
 chk (((decide (t13a<(p0.length:Int)))||(!(!b3)))) <|
 chk (((!b3)||(!(!b3)))) <|
 chk (((!b3)||(!(!b3)))) <|
 chk (((!b3)||(!(!b3)))) <|
 chk (((!b3)||(!(!b3)))) <|
 chk (((decide ((0:Int)<=t13a))||(!(!b3)))) <|
 chk (((decide (t13a<(p1.length:Int)))||(!(!b3)))) <|
 chk (((!b3)||(!(!b3)))) <|
 chk (((!b3)||(!(!b3)))) <|
 chk (((!b3)||(!(!b3)))) <|
 chk (((!b3)||(!(!b3)))) <|
 let x39:Bool:=(((p0.getD t13a.toNat (([]:List Yq1),0,false,([]:List Yq0))).2.1) != ((p1.getD t13a.toNat (([]:List Yq1),0,false,([]:List Yq0))).2.1))
 chk (bif b3 then true else !b3) <|
 chk (bif b3 then true else true) <|
 Am (bif b3 then true else x39) fun b4 =>
 Am (b4) fun b5 =>
 chk (((!b5)||(!(!b5)))) <|
 chk (((!b5)||(!(!b5)))) <|
 chk (((decide ((0:Int)<=t13a))||(!(!b5)))) <|
 chk (((decide (t13a<(p0.length:Int)))||(!(!b5)))) <|
 chk (((!b5)||(!(!b5)))) <|
 chk (((!b5)||(!(!b5)))) <|
 let x46:Bool:=(p0.getD t13a.toNat (([]:List Yq1),0,false,([]:List Yq0))).2.2.1
 chk (((!b5)||(!(!b5)))) <|
 chk (((!b5)||(!(!b5)))) <|
 chk (((decide ((0:Int)<=t13a))||(!(!b5)))) <|
 chk (((decide (t13a<(p1.length:Int)))||(!(!b5)))) <|
 chk (((!b5)||(!(!b5)))) <|
 chk (((!b5)||(!(!b5)))) <|
 let x51:Bool:=(p1.getD t13a.toNat (([]:List Yq1),0,false,([]:List Yq0))).2.2.1
 chk (((!b5)||(!(!b5)))) <|
 chk (((!b5)||(!(!b5)))) <|
 chk (bif b5 then true else !b5) <|
 chk (bif b5 then true else true) <|
 Am (bif b5 then true else !(x46==x51)) fun b6 =>
 Am (b6) fun b7 =>
 chk (((!b7)||(!(!b7)))) <|
 chk (((!b7)||(!(!b7)))) <|
 chk (((decide ((0:Int)<=t13a))||(!(!b7)))) <|
 chk (((decide (t13a<(p0.length:Int)))||(!(!b7)))) <|
 chk (((!b7)||(!(!b7)))) <|
 chk (((!b7)||(!(!b7)))) <|
 chk (((!b7)||(!(!b7)))) <|
 chk (((!b7)||(!(!b7)))) <|
 chk (((decide ((0:Int)<=t13a))||(!(!b7)))) <|
 chk (((decide (t13a<(p1.length:Int)))||(!(!b7)))) <|
 chk (((!b7)||(!(!b7)))) <|
 chk (((!b7)||(!(!b7)))) <|
 chk (((!b7)||(!(!b7)))) <|
 chk (((!b7)||(!(!b7)))) <|
 chk ((((GK N ((p0.getD t13a.toNat (([]:List Yq1),0,false,([]:List Yq0))).2.2.2) ((p1.getD t13a.toNat (([]:List Yq1),0,false,([]:List Yq0))).2.2.2)).isSome)||(!(!b7)))) <|
 let r65:=(GK N ((p0.getD t13a.toNat (([]:List Yq1),0,false,([]:List Yq0))).2.2.2) ((p1.getD t13a.toNat (([]:List Yq1),0,false,([]:List Yq0))).2.2.2)).getD default
 chk (((!b7)||(!(!b7)))) <|
 chk (bif b7 then true else !b7) <|
 chk (bif b7 then true else true) <|
 Am (bif b7 then true else !r65) fun b8 =>
 bif b8 then(some false)
 else(k1 (i64.wrap (t13a+(1:Int)))))
 else(x2 ()))
 N 0 (fun _ =>
 some true))
abbrev Zd:Type:=Bool
def FQ (N:Nat) (p0:List Yq0) (p1:List Yq0):Option Zd :=
 bif ((p0.length:Int) != (p1.length:Int))then(some false)
 else(Ar (X:=Int×List Yq0×List Yq0) (Y:=Unit) (U3 fun t17a b33280_0a b33536_0a k1 x2 =>
 bif decide (t17a<(p0.length:Int))then(chk (decide ((0:Int)<=t17a)) <|
 chk (decide (t17a<(b33280_0a.length:Int))) <|
 chk (decide ((0:Int)<=t17a)) <|
 chk (decide (t17a<(b33536_0a.length:Int))) <|
 let x32:Bool:=(((b33280_0a.getD t17a.toNat ([]:List (Bs×Int×Bs))).length:Int) != ((b33536_0a.getD t17a.toNat ([]:List (Bs×Int×Bs))).length:Int))
 bif x32 then(some false)
 else(chk (decide ((0:Int)<=t17a)) <|
 chk (decide (t17a<(b33280_0a.length:Int))) <|
 Ar (X:=Int×List Yq0×List Yq0) (Y:=(List Yq0×List Yq0)) (U3 fun t39b b33280_0b b33536_0b k3 x4 =>
 let x40:Bool:=decide (t39b<((b33280_0a.getD t17a.toNat ([]:List (Bs×Int×Bs))).length:Int))
 bif x40 then(chk (decide ((0:Int)<=t17a)) <|
 chk (decide (t17a<(b33280_0b.length:Int))) <|
 chk (decide ((0:Int)<=t39b)) <|
 chk (decide (t39b<((b33280_0b.getD t17a.toNat ([]:List (Bs×Int×Bs))).length:Int))) <|
 chk (decide ((0:Int)<=t17a)) <|
 chk (decide (t17a<(b33536_0b.length:Int))) <|
 chk (decide ((0:Int)<=t39b)) <|
 chk (decide (t39b<((b33536_0b.getD t17a.toNat ([]:List (Bs×Int×Bs))).length:Int))) <|
 let x58:Bool:= !(((((b33280_0b.getD t17a.toNat ([]:List (Bs×Int×Bs))).getD t39b.toNat (([]:Bs),0,([]:Bs))).1)==(((b33536_0b.getD t17a.toNat ([]:List (Bs×Int×Bs))).getD t39b.toNat (([]:Bs),0,([]:Bs))).1))&&(((((b33280_0b.getD t17a.toNat ([]:List (Bs×Int×Bs))).getD t39b.toNat (([]:Bs),0,([]:Bs))).2.1)==(((b33536_0b.getD t17a.toNat ([]:List (Bs×Int×Bs))).getD t39b.toNat (([]:Bs),0,([]:Bs))).2.1))&&(((((b33280_0b.getD t17a.toNat ([]:List (Bs×Int×Bs))).getD t39b.toNat (([]:Bs),0,([]:Bs))).2.2)==(((b33536_0b.getD t17a.toNat ([]:List (Bs×Int×Bs))).getD t39b.toNat (([]:Bs),0,([]:Bs))).2.2))&&true)))
 bif x58 then(some false)
 else(k3 (i64.wrap (t39b+(1:Int)),b33280_0b,b33536_0b)))
 else(x4 (b33280_0b,b33536_0b)))
 N (0,b33280_0a,b33536_0a) (U2 fun b33280_0c b33536_0c =>
 k1 (i64.wrap (t17a+(1:Int)),b33280_0c,b33536_0c))))
 else(x2 ()))
 N (0,p0,p1) (fun _ =>
 some true))
abbrev TG:Type:=Bool
def BN (N:Nat) (p0:List Yq1) (p1:List Yq1):Option TG :=
 bif ((p0.length:Int) != (p1.length:Int))then(some false)
 else(Ar (X:=Int) (Y:=Unit) (fun t13a k1 x2 =>
 bif decide (t13a<(p0.length:Int))then(chk (decide ((0:Int)<=t13a)) <|
 chk (decide (t13a<(p0.length:Int))) <|
 chk (decide ((0:Int)<=t13a)) <|
 chk (decide (t13a<(p1.length:Int))) <|
 let x26:Bool:=(((p0.getD t13a.toNat (0,([]:Bs),([]:List Yq0))).1) != ((p1.getD t13a.toNat (0,([]:Bs),([]:List Yq0))).1))
 chk (((!x26)||(!(!x26)))) <|
 chk (((!x26)||(!(!x26)))) <|
 chk (((decide ((0:Int)<=t13a))||(!(!x26)))) <|
 chk (((decide (t13a<(p0.length:Int)))||(!(!x26)))) <|
 chk (((!x26)||(!(!x26)))) <|
 chk (((!x26)||(!(!x26)))) <|
 chk (((!x26)||(!(!x26)))) <|
 chk (((!x26)||(!(!x26)))) <|
 chk (((decide ((0:Int)<=t13a))||(!(!x26)))) <|
 chk (((decide (t13a<(p1.length:Int)))||(!(!x26)))) <|
 chk (((!x26)||(!(!x26)))) <|
 chk (((!x26)||(!(!x26)))) <|
 chk (((!x26)||(!(!x26)))) <|
 chk (((!x26)||(!(!x26)))) <|
 let x38:Bool:= !(((p0.getD t13a.toNat (0,([]:Bs),([]:List Yq0))).2.1)==((p1.getD t13a.toNat (0,([]:Bs),([]:List Yq0))).2.1))
 chk (bif x26 then true else !x26) <|
 chk (bif x26 then true else true) <|
 chk (((!(bif x26 then true else x38))||(!(!(bif x26 then true else x38))))) <|
 chk (((!(bif x26 then true else x38))||(!(!(bif x26 then true else x38))))) <|
 chk (((decide ((0:Int)<=t13a))||(!(!(bif x26 then true else x38))))) <|
 chk (((decide (t13a<(p0.length:Int)))||(!(!(bif x26 then true else x38))))) <|
 chk (((!(bif x26 then true else x38))||(!(!(bif x26 then true else x38))))) <|
 chk (((!(bif x26 then true else x38))||(!(!(bif x26 then true else x38))))) <|
 chk (((!(bif x26 then true else x38))||(!(!(bif x26 then true else x38))))) <|
 chk (((!(bif x26 then true else x38))||(!(!(bif x26 then true else x38))))) <|
 chk (((decide ((0:Int)<=t13a))||(!(!(bif x26 then true else x38))))) <|
 chk (((decide (t13a<(p1.length:Int)))||(!(!(bif x26 then true else x38))))) <|
 chk (((!(bif x26 then true else x38))||(!(!(bif x26 then true else x38))))) <|
 chk (((!(bif x26 then true else x38))||(!(!(bif x26 then true else x38))))) <|
 chk (((!(bif x26 then true else x38))||(!(!(bif x26 then true else x38))))) <|
 chk (((!(bif x26 then true else x38))||(!(!(bif x26 then true else x38))))) <|
 chk ((((FQ N ((p0.getD t13a.toNat (0,([]:Bs),([]:List Yq0))).2.2) ((p1.getD t13a.toNat (0,([]:Bs),([]:List Yq0))).2.2)).isSome)||(!(!(bif x26 then true else x38))))) <|
 let r51:=(FQ N ((p0.getD t13a.toNat (0,([]:Bs),([]:List Yq0))).2.2) ((p1.getD t13a.toNat (0,([]:Bs),([]:List Yq0))).2.2)).getD default
 chk (((!(bif x26 then true else x38))||(!(!(bif x26 then true else x38))))) <|
 chk (bif bif x26 then true else x38 then true else !(bif x26 then true else x38)) <|
 chk (bif bif x26 then true else x38 then true else true) <|
 bif bif bif x26 then true else x38 then true else !r51 then(some false)
 else(k1 (i64.wrap (t13a+(1:Int)))))
 else(x2 ()))
 N 0 (fun _ =>
 some true))
abbrev Wh:Type:=Bool
def EH (N:Nat) (p0:List Yq2) (p1:List Yq2):Option Wh :=
 Ae (DC N p0 p1) fun r8 =>
 bif !r8 then(some false)
 else(Ar (X:=Int) (Y:=Unit) (fun t12a k1 x2 =>
 bif decide (t12a<(p0.length:Int))then(chk (decide ((0:Int)<=t12a)) <|
 chk (decide (t12a<(p0.length:Int))) <|
 chk (decide ((0:Int)<=t12a)) <|
 chk (decide (t12a<(p1.length:Int))) <|
 Ae (BN N ((p0.getD t12a.toNat (([]:List Yq1),0,false,([]:List Yq0))).1) ((p1.getD t12a.toNat (([]:List Yq1),0,false,([]:List Yq0))).1)) fun r25 =>
 chk (((!(!r25))||(!(!(!r25))))) <|
 chk (((!(!r25))||(!(!(!r25))))) <|
 chk (((decide ((0:Int)<=t12a))||(!(!(!r25))))) <|
 chk (((decide (t12a<(p0.length:Int)))||(!(!(!r25))))) <|
 chk (((!(!r25))||(!(!(!r25))))) <|
 chk (((!(!r25))||(!(!(!r25))))) <|
 chk (((!(!r25))||(!(!(!r25))))) <|
 chk (((!(!r25))||(!(!(!r25))))) <|
 chk (((decide ((0:Int)<=t12a))||(!(!(!r25))))) <|
 chk (((decide (t12a<(p1.length:Int)))||(!(!(!r25))))) <|
 chk (((!(!r25))||(!(!(!r25))))) <|
 chk (((!(!r25))||(!(!(!r25))))) <|
 chk (((!(!r25))||(!(!(!r25))))) <|
 chk (((!(!r25))||(!(!(!r25))))) <|
 chk ((((FQ N ((p0.getD t12a.toNat (([]:List Yq1),0,false,([]:List Yq0))).2.2.2) ((p1.getD t12a.toNat (([]:List Yq1),0,false,([]:List Yq0))).2.2.2)).isSome)||(!(!(!r25))))) <|
 let r38:=(FQ N ((p0.getD t12a.toNat (([]:List Yq1),0,false,([]:List Yq0))).2.2.2) ((p1.getD t12a.toNat (([]:List Yq1),0,false,([]:List Yq0))).2.2.2)).getD default
 chk (((!(!r25))||(!(!(!r25))))) <|
 chk (bif !r25 then true else !(!r25)) <|
 chk (bif !r25 then true else true) <|
 bif bif !r25 then true else !r38 then(some false)
 else(k1 (i64.wrap (t12a+(1:Int)))))
 else(x2 ()))
 N 0 (fun _ =>
 some true))
abbrev RP:Type:=Bool
def EP (N:Nat) (p0:Yq5) (p1:Yq5):Option RP :=
 bif ((p0.length:Int) != (p1.length:Int))then(some false)
 else(Ar (X:=Int) (Y:=Unit) (fun t13a k1 x2 =>
 bif decide (t13a<(p0.length:Int))then(chk (decide ((0:Int)<=t13a)) <|
 chk (decide (t13a<(p0.length:Int))) <|
 chk (decide ((0:Int)<=t13a)) <|
 chk (decide (t13a<(p1.length:Int))) <|
 let x24:Bool:= !((((p0.getD t13a.toNat (([]:Bs),false,([]:Bs))).1)==((p1.getD t13a.toNat (([]:Bs),false,([]:Bs))).1))&&((((p0.getD t13a.toNat (([]:Bs),false,([]:Bs))).2.1)==((p1.getD t13a.toNat (([]:Bs),false,([]:Bs))).2.1))&&((((p0.getD t13a.toNat (([]:Bs),false,([]:Bs))).2.2)==((p1.getD t13a.toNat (([]:Bs),false,([]:Bs))).2.2))&&true)))
 bif x24 then(some false)
 else(k1 (i64.wrap (t13a+(1:Int)))))
 else(x2 ()))
 N 0 (fun _ =>
 some true))
abbrev Wu:Type:=Bool
def Dq (N:Nat) (p0:List Bs) (p1:List Bs):Option Wu :=
 bif ((p0.length:Int) != (p1.length:Int))then(some false)
 else(Ar (X:=Int) (Y:=Unit) (fun t13a k1 x2 =>
 bif decide (t13a<(p0.length:Int))then(chk (decide ((0:Int)<=t13a)) <|
 chk (decide (t13a<(p0.length:Int))) <|
 chk (decide ((0:Int)<=t13a)) <|
 chk (decide (t13a<(p1.length:Int))) <|
 bif !((p0.getD t13a.toNat ([]:Bs))==(p1.getD t13a.toNat ([]:Bs)))then(some false)
 else(k1 (i64.wrap (t13a+(1:Int)))))
 else(x2 ()))
 N 0 (fun _ =>
 some true))
abbrev Vh:Type:=Bool
def Ez (N:Nat) (p0:List (Bs×Bs)) (p1:List (Bs×Bs)):Option Vh :=
 bif ((p0.length:Int) != (p1.length:Int))then(some false)
 else(Ar (X:=Int) (Y:=Unit) (fun t13a k1 x2 =>
 bif decide (t13a<(p0.length:Int))then(chk (decide ((0:Int)<=t13a)) <|
 chk (decide (t13a<(p0.length:Int))) <|
 chk (decide ((0:Int)<=t13a)) <|
 chk (decide (t13a<(p1.length:Int))) <|
 let x24:Bool:= !((((p0.getD t13a.toNat (([]:Bs),([]:Bs))).1)==((p1.getD t13a.toNat (([]:Bs),([]:Bs))).1))&&((((p0.getD t13a.toNat (([]:Bs),([]:Bs))).2)==((p1.getD t13a.toNat (([]:Bs),([]:Bs))).2))&&true))
 bif x24 then(some false)
 else(k1 (i64.wrap (t13a+(1:Int)))))
 else(x2 ()))
 N 0 (fun _ =>
 some true))
abbrev UZ:Type:=Bool
def FV (N:Nat) (p0:Yq6) (p1:Yq6):Option UZ :=
 Ae (CG N p0.1 p1.1) fun r9 =>
 chk ((r9||(!r9))) <|
 chk ((r9||(!r9))) <|
 chk ((r9||(!r9))) <|
 chk ((r9||(!r9))) <|
 chk ((((CG N p0.2 p1.2).isSome)||(!r9))) <|
 let r15:=(CG N p0.2 p1.2).getD default
 chk (bif r9 then r9 else true) <|
 chk (bif r9 then true else true) <|
 some (bif r9 then r15 else false)
abbrev dG:Type:=Bool
def Jh (N:Nat) (p0:Yq4) (p1:Yq4):Option dG :=
 Am ((p0.1==p1.1)) fun b1 =>
 chk ((b1||(!b1))) <|
 chk ((b1||(!b1))) <|
 chk ((b1||(!b1))) <|
 chk ((b1||(!b1))) <|
 chk (bif b1 then b1 else true) <|
 chk (bif b1 then true else true) <|
 Am (bif b1 then(p0.2.1==p1.2.1)else false) fun b2 =>
 Am (b2) fun b3 =>
 chk ((b3||(!b3))) <|
 chk ((b3||(!b3))) <|
 chk ((b3||(!b3))) <|
 chk ((b3||(!b3))) <|
 chk (bif b3 then b3 else true) <|
 chk (bif b3 then true else true) <|
 Am (bif b3 then(p0.2.2.1==p1.2.2.1)else false) fun b4 =>
 Am (b4) fun b5 =>
 chk ((b5||(!b5))) <|
 chk ((b5||(!b5))) <|
 chk ((b5||(!b5))) <|
 chk ((b5||(!b5))) <|
 chk (bif b5 then b5 else true) <|
 chk (bif b5 then true else true) <|
 Am (bif b5 then(p0.2.2.2.1==p1.2.2.2.1)else false) fun b6 =>
 Am (b6) fun b7 =>
 chk ((b7||(!b7))) <|
 chk ((b7||(!b7))) <|
 chk ((b7||(!b7))) <|
 chk ((b7||(!b7))) <|
 chk ((((Dq N p0.2.2.2.2.1 p1.2.2.2.2.1).isSome)||(!b7))) <|
 let r36:=(Dq N p0.2.2.2.2.1 p1.2.2.2.2.1).getD default
 chk (bif b7 then b7 else true) <|
 chk (bif b7 then true else true) <|
 Am (bif b7 then r36 else false) fun b8 =>
 Am (b8) fun b9 =>
 chk ((b9||(!b9))) <|
 chk ((b9||(!b9))) <|
 chk ((b9||(!b9))) <|
 chk ((b9||(!b9))) <|
 chk ((((Dq N p0.2.2.2.2.2.1 p1.2.2.2.2.2.1).isSome)||(!b9))) <|
 let r43:=(Dq N p0.2.2.2.2.2.1 p1.2.2.2.2.2.1).getD default
 chk (bif b9 then b9 else true) <|
 chk (bif b9 then true else true) <|
 Am (bif b9 then r43 else false) fun b10 =>
 Am (b10) fun b11 =>
 chk ((b11||(!b11))) <|
 chk ((b11||(!b11))) <|
 chk ((b11||(!b11))) <|
 chk ((b11||(!b11))) <|
 chk ((((Ez N p0.2.2.2.2.2.2.1 p1.2.2.2.2.2.2.1).isSome)||(!b11))) <|
 let r50:=(Ez N p0.2.2.2.2.2.2.1 p1.2.2.2.2.2.2.1).getD default
 chk (bif b11 then b11 else true) <|
 chk (bif b11 then true else true) <|
 Am (bif b11 then r50 else false) fun b12 =>
 Am (b12) fun b13 =>
 chk ((b13||(!b13))) <|
 chk ((b13||(!b13))) <|
 chk ((b13||(!b13))) <|
 chk ((b13||(!b13))) <|
 chk (bif b13 then b13 else true) <|
 chk (bif b13 then true else true) <|
 Am (bif b13 then(p0.2.2.2.2.2.2.2.1==p1.2.2.2.2.2.2.2.1)else false) fun b14 =>
 Am (b14) fun b15 =>
 chk ((b15||(!b15))) <|
 chk ((b15||(!b15))) <|
 chk ((b15||(!b15))) <|
 chk ((b15||(!b15))) <|
 chk (bif b15 then b15 else true) <|
 chk (bif b15 then true else true) <|
 Am (bif b15 then(p0.2.2.2.2.2.2.2.2.1==p1.2.2.2.2.2.2.2.2.1)else false) fun b16 =>
 Am (b16) fun b17 =>
 chk ((b17||(!b17))) <|
 chk ((b17||(!b17))) <|
 chk ((b17||(!b17))) <|
 chk ((b17||(!b17))) <|
 chk (bif b17 then b17 else true) <|
 chk (bif b17 then true else true) <|
 Am (bif b17 then(p0.2.2.2.2.2.2.2.2.2.1==p1.2.2.2.2.2.2.2.2.2.1)else false) fun b18 =>
 Am (b18) fun b19 =>
 chk ((b19||(!b19))) <|
 chk ((b19||(!b19))) <|
 chk ((b19||(!b19))) <|
 chk ((b19||(!b19))) <|
 chk ((((CG N p0.2.2.2.2.2.2.2.2.2.2.1 p1.2.2.2.2.2.2.2.2.2.2.1).isSome)||(!b19))) <|
 let r78:=(CG N p0.2.2.2.2.2.2.2.2.2.2.1 p1.2.2.2.2.2.2.2.2.2.2.1).getD default
 chk (bif b19 then b19 else true) <|
 chk (bif b19 then true else true) <|
 Am (bif b19 then r78 else false) fun b20 =>
 Am (b20) fun b21 =>
 chk ((b21||(!b21))) <|
 chk ((b21||(!b21))) <|
 chk ((b21||(!b21))) <|
 chk ((b21||(!b21))) <|
 chk (bif b21 then b21 else true) <|
 chk (bif b21 then true else true) <|
 Am (bif b21 then(p0.2.2.2.2.2.2.2.2.2.2.2.1==p1.2.2.2.2.2.2.2.2.2.2.2.1)else false) fun b22 =>
 Am (b22) fun b23 =>
 chk ((b23||(!b23))) <|
 chk ((b23||(!b23))) <|
 chk ((b23||(!b23))) <|
 chk ((b23||(!b23))) <|
 chk ((((FV N (p0.2.2.2.2.2.2.2.2.2.2.2.2.1,p0.2.2.2.2.2.2.2.2.2.2.2.2.2.1) (p1.2.2.2.2.2.2.2.2.2.2.2.2.1,p1.2.2.2.2.2.2.2.2.2.2.2.2.2.1)).isSome)||(!b23))) <|
 let r92:=(FV N (p0.2.2.2.2.2.2.2.2.2.2.2.2.1,p0.2.2.2.2.2.2.2.2.2.2.2.2.2.1) (p1.2.2.2.2.2.2.2.2.2.2.2.2.1,p1.2.2.2.2.2.2.2.2.2.2.2.2.2.1)).getD default
 chk (bif b23 then b23 else true) <|
 chk (bif b23 then true else true) <|
 Am (bif b23 then r92 else false) fun b24 =>
 Am (b24) fun b25 =>
 chk ((b25||(!b25))) <|
 chk ((b25||(!b25))) <|
 chk ((b25||(!b25))) <|
 chk ((b25||(!b25))) <|
 chk (bif b25 then b25 else true) <|
 chk (bif b25 then true else true) <|
 Am (bif b25 then(p0.2.2.2.2.2.2.2.2.2.2.2.2.2.2.1==p1.2.2.2.2.2.2.2.2.2.2.2.2.2.2.1)else false) fun b26 =>
 Am (b26) fun b27 =>
 chk ((b27||(!b27))) <|
 chk ((b27||(!b27))) <|
 chk ((b27||(!b27))) <|
 chk ((b27||(!b27))) <|
 let x106:Bool:=(p0.2.2.2.2.2.2.2.2.2.2.2.2.2.2.2.1==p1.2.2.2.2.2.2.2.2.2.2.2.2.2.2.2.1)
 chk (bif b27 then b27 else true) <|
 chk (bif b27 then true else true) <|
 Am (bif b27 then x106 else false) fun b28 =>
 Am (b28) fun b29 =>
 chk ((b29||(!b29))) <|
 chk ((b29||(!b29))) <|
 chk ((b29||(!b29))) <|
 chk ((b29||(!b29))) <|
 chk ((((DC N p0.2.2.2.2.2.2.2.2.2.2.2.2.2.2.2.2.1 p1.2.2.2.2.2.2.2.2.2.2.2.2.2.2.2.2.1).isSome)||(!b29))) <|
 let r113:=(DC N p0.2.2.2.2.2.2.2.2.2.2.2.2.2.2.2.2.1 p1.2.2.2.2.2.2.2.2.2.2.2.2.2.2.2.2.1).getD default
 chk (bif b29 then b29 else true) <|
 chk (bif b29 then true else true) <|
 Am (bif b29 then r113 else false) fun b30 =>
 Am (b30) fun b31 =>
 chk ((b31||(!b31))) <|
 chk ((b31||(!b31))) <|
 chk ((b31||(!b31))) <|
 chk ((b31||(!b31))) <|
 chk ((((DC N p0.2.2.2.2.2.2.2.2.2.2.2.2.2.2.2.2.2.1 p1.2.2.2.2.2.2.2.2.2.2.2.2.2.2.2.2.2.1).isSome)||(!b31))) <|
 let r120:=(DC N p0.2.2.2.2.2.2.2.2.2.2.2.2.2.2.2.2.2.1 p1.2.2.2.2.2.2.2.2.2.2.2.2.2.2.2.2.2.1).getD default
 chk (bif b31 then b31 else true) <|
 chk (bif b31 then true else true) <|
 Am (bif b31 then r120 else false) fun b32 =>
 Am (b32) fun b33 =>
 chk ((b33||(!b33))) <|
 chk ((b33||(!b33))) <|
 chk ((b33||(!b33))) <|
 chk ((b33||(!b33))) <|
 chk ((((EP N p0.2.2.2.2.2.2.2.2.2.2.2.2.2.2.2.2.2.2 p1.2.2.2.2.2.2.2.2.2.2.2.2.2.2.2.2.2.2).isSome)||(!b33))) <|
 let r127:=(EP N p0.2.2.2.2.2.2.2.2.2.2.2.2.2.2.2.2.2.2 p1.2.2.2.2.2.2.2.2.2.2.2.2.2.2.2.2.2.2).getD default
 chk (bif b33 then b33 else true) <|
 chk (bif b33 then true else true) <|
 Am (bif b33 then r127 else false) fun b34 =>
 some b34
abbrev oK:Type:=Bool
def Js (N:Nat) (p0:Yq4) (p1:Yq4):Option oK :=
 Ae (Jh N p0 p1) fun r7 =>
 Am (!r7) fun b1 =>
 chk (((!b1)||(!(!b1)))) <|
 chk (((!b1)||(!(!b1)))) <|
 chk (((!b1)||(!(!b1)))) <|
 chk (((!b1)||(!(!b1)))) <|
 chk ((((BN N p0.2.2.2.2.2.2.2.2.2.2.1 p1.2.2.2.2.2.2.2.2.2.2.1).isSome)||(!(!b1)))) <|
 let r14:=(BN N p0.2.2.2.2.2.2.2.2.2.2.1 p1.2.2.2.2.2.2.2.2.2.2.1).getD default
 chk (((!b1)||(!(!b1)))) <|
 chk (bif b1 then true else !b1) <|
 chk (bif b1 then true else true) <|
 Am (bif b1 then true else !r14) fun b2 =>
 Am (b2) fun b3 =>
 chk (((!b3)||(!(!b3)))) <|
 chk (((!b3)||(!(!b3)))) <|
 chk (((!b3)||(!(!b3)))) <|
 chk (((!b3)||(!(!b3)))) <|
 chk (((!b3)||(!(!b3)))) <|
 chk (((!b3)||(!(!b3)))) <|
 chk ((((BN N p0.2.2.2.2.2.2.2.2.2.2.2.2.1 p1.2.2.2.2.2.2.2.2.2.2.2.2.1).isSome)||(!(!b3)))) <|
 let r24:=(BN N p0.2.2.2.2.2.2.2.2.2.2.2.2.1 p1.2.2.2.2.2.2.2.2.2.2.2.2.1).getD default
 chk (((!b3)||(!(!b3)))) <|
 chk (bif b3 then true else !b3) <|
 chk (bif b3 then true else true) <|
 Am (bif b3 then true else !r24) fun b4 =>
 Am (b4) fun b5 =>
 chk (((!b5)||(!(!b5)))) <|
 chk (((!b5)||(!(!b5)))) <|
 chk (((!b5)||(!(!b5)))) <|
 chk (((!b5)||(!(!b5)))) <|
 chk (((!b5)||(!(!b5)))) <|
 chk (((!b5)||(!(!b5)))) <|
 chk ((((BN N p0.2.2.2.2.2.2.2.2.2.2.2.2.2.1 p1.2.2.2.2.2.2.2.2.2.2.2.2.2.1).isSome)||(!(!b5)))) <|
 let r34:=(BN N p0.2.2.2.2.2.2.2.2.2.2.2.2.2.1 p1.2.2.2.2.2.2.2.2.2.2.2.2.2.1).getD default
 chk (((!b5)||(!(!b5)))) <|
 chk (bif b5 then true else !b5) <|
 chk (bif b5 then true else true) <|
 Am (bif b5 then true else !r34) fun b6 =>
 bif b6 then(some false)
 else(Ae (EH N p0.2.2.2.2.2.2.2.2.2.2.2.2.2.2.2.2.1 p1.2.2.2.2.2.2.2.2.2.2.2.2.2.2.2.2.1) fun r41 =>
 chk ((r41||(!r41))) <|
 chk ((r41||(!r41))) <|
 chk ((r41||(!r41))) <|
 chk ((r41||(!r41))) <|
 chk ((((EH N p0.2.2.2.2.2.2.2.2.2.2.2.2.2.2.2.2.2.1 p1.2.2.2.2.2.2.2.2.2.2.2.2.2.2.2.2.2.1).isSome)||(!r41))) <|
 let r47:=(EH N p0.2.2.2.2.2.2.2.2.2.2.2.2.2.2.2.2.2.1 p1.2.2.2.2.2.2.2.2.2.2.2.2.2.2.2.2.2.1).getD default
 chk (bif r41 then r41 else true) <|
 chk (bif r41 then true else true) <|
 some (bif r41 then r47 else false))
abbrev AcL:Type:=(Int×Bs×Bs)×Int
def MC (N:Nat) (p0:Bs) (p1:Int):Option AcL :=
 Ae (TU N p0) fun r10 =>
 bif (r10.2 != (0:Int))then(some ((0,([]:Bs),([]:Bs)),r10.2))
 else(bif (r10.1.1 != p1)then(some ((0,([]:Bs),([]:Bs)),5))
 else(some (r10.1,0)))
abbrev Acg:Type:=Yq7×Int
def Vt (N:Nat) (p0:Bs):Option Acg :=
 Ar (X:=Bs×List (Int×Bs×Bs)) (Y:=(List (Int×Bs×Bs))) (U2 fun t0a l1000000a k1 x2 =>
 bif !(t0a==([]:Bs))then(Ae (JH N t0a) fun r12 =>
 bif (r12.2.2 != (0:Int))then(some (([]:List (Int×Bs×Bs)),r12.2.2))
 else(chk (decide ((l1000000a.length+1)*41<=140737488355328)) <|
 k1 (r12.2.1,l1000000a++([r12.1]:List (Int×Bs×Bs)))))
 else(x2 l1000000a))
 N (p0,([]:List (Int×Bs×Bs))) (fun l1004096b =>
 some (l1004096b,0))
abbrev kS:Type:=(Yq7×Int) ⊕ (Unit×Int)
def IB (N:Nat) (p0:Bs):Option kS :=
 Ae (Vt N p0) fun r8 =>
 bif (r8.2 != (0:Int))then(some (.inr ((),r8.2)))
 else(some (.inl (r8.1,0)))
abbrev AaE:Type:=(Yq7×Int) ⊕ (Unit×Int)
def MF (N:Nat) (p0:Bs) (p1:Int):Option AaE :=
 Ae (MC N p0 p1) fun r11 =>
 bif (r11.2 != (0:Int))then(some (.inr ((),r11.2)))
 else(Gp (IB N r11.1.2.1) (fun r19 =>
 some (.inl (r19.1,r19.2)))
 (fun r19 =>
 some (.inr ((),r19.2))))
abbrev aV:Type:=(Int×Bs×Bs)×Bool×Yq7
def DK (N:Nat) (p0:Yq7) (p1:Int):Option aV :=
 chk (((!((p0.length:Int)==(0:Int)))||(!(!((p0.length:Int)==(0:Int)))))) <|
 chk (((!((p0.length:Int)==(0:Int)))||(!(!((p0.length:Int)==(0:Int)))))) <|
 chk (((!((p0.length:Int)==(0:Int)))||(!(!((p0.length:Int)==(0:Int)))))) <|
 chk (((!((p0.length:Int)==(0:Int)))||(!(!((p0.length:Int)==(0:Int)))))) <|
 chk (((decide ((0:Int)<(p0.length:Int)))||(!(!((p0.length:Int)==(0:Int)))))) <|
 chk (((!((p0.length:Int)==(0:Int)))||(!(!((p0.length:Int)==(0:Int)))))) <|
 chk (((!((p0.length:Int)==(0:Int)))||(!(!((p0.length:Int)==(0:Int)))))) <|
 chk (((!((p0.length:Int)==(0:Int)))||(!(!((p0.length:Int)==(0:Int)))))) <|
 chk (((!((p0.length:Int)==(0:Int)))||(!(!((p0.length:Int)==(0:Int)))))) <|
 chk (bif ((p0.length:Int)==(0:Int))then true else !((p0.length:Int)==(0:Int))) <|
 chk (bif ((p0.length:Int)==(0:Int))then true else true) <|
 let x23:Bool:=bif ((p0.length:Int)==(0:Int))then true else(((p0.getD 0 (0,([]:Bs),([]:Bs))).1) != p1)
 bif x23 then(some ((0,([]:Bs),([]:Bs)),false,p0))
 else(chk (decide ((0:Int)<(p0.length:Int))) <|
 chk (decide ((1:Int)<=(p0.length:Int))) <|
 some ((p0.getD 0 (0,([]:Bs),([]:Bs))),true,AV p0 1 p0.length))
abbrev YM:Type:=Int×Yq7
def BF (N:Nat) (p0:Yq7):Option YM :=
 bif decide ((p0.length:Int)>(0:Int))then(some (4,p0))
 else(some (0,p0))
abbrev lQ:Type:=Bool×Int
def KO (N:Nat) (p0:Bs):Option lQ :=
 bif (p0==([0]:Bs))then(some (false,0))
 else(bif (p0==([255]:Bs))then(some (true,0))
 else(some (false,7)))
abbrev YO:Type:=Bool×Int×Yq7
def Il (N:Nat) (p0:Yq7) (p1:Int):Option YO :=
 Ae (DK N p0 p1) fun r13 =>
 bif !r13.2.1 then(some (false,0,r13.2.2))
 else(Ae (KO N r13.1.2.1) fun r21 =>
 KD (α :=Int×List (Int×Bs×Bs)) (fun j1 =>
 chk (((r21.2==(0:Int))||(!(r21.2==(0:Int))))) <|
 chk (bif (r21.2==(0:Int))then(r21.2==(0:Int))else true) <|
 chk (bif (r21.2==(0:Int))then true else true) <|
 bif bif (r21.2==(0:Int))then !r21.1 else false then(j1 (7,r13.2.2))
 else(j1 (r21.2,r13.2.2)))
 (U2 fun t9a b0_0a =>
 some (r21.1,t9a,b0_0a)))
abbrev lT:Type:=Int×Int
def II (N:Nat) (p0:Bs):Option lT :=
 Am ((p0==([]:Bs))) fun b1 =>
 chk (((!b1)||(!(!b1)))) <|
 chk (((!b1)||(!(!b1)))) <|
 chk (((!b1)||(!(!b1)))) <|
 Am (decide ((p0.length:Int)>(1:Int))) fun b2 =>
 chk ((((!b1)&&b2)||(!((!b1)&&b2)))) <|
 chk (((decide ((0:Int)<(p0.length:Int)))||(!((!b1)&&b2)))) <|
 chk ((((!b1)&&b2)||(!((!b1)&&b2)))) <|
 chk ((((!b1)&&b2)||(!((!b1)&&b2)))) <|
 Am ((((p0.getD 0 0).toNat:Int)==(0:Int))) fun b3 =>
 chk (((((!b1)&&b2)&&b3)||(!(((!b1)&&b2)&&b3)))) <|
 chk (((decide ((1:Int)<(p0.length:Int)))||(!(((!b1)&&b2)&&b3)))) <|
 chk (((((!b1)&&b2)&&b3)||(!(((!b1)&&b2)&&b3)))) <|
 chk ((((!b1)&&b2)||(!((!b1)&&b2)))) <|
 chk (((bif b3 then(((!b1)&&b2)&&b3)else true)||(!((!b1)&&b2)))) <|
 chk (((bif b3 then true else true)||(!((!b1)&&b2)))) <|
 Am (bif b3 then decide (((p0.getD 1 0).toNat:Int)<(128:Int))else false) fun b4 =>
 chk ((((!b1)&&b2)||(!((!b1)&&b2)))) <|
 Am (b4) fun b5 =>
 chk (((((!b1)&&b2)&&(!b5))||(!(((!b1)&&b2)&&(!b5))))) <|
 chk (((decide ((0:Int)<(p0.length:Int)))||(!(((!b1)&&b2)&&(!b5))))) <|
 chk (((((!b1)&&b2)&&(!b5))||(!(((!b1)&&b2)&&(!b5))))) <|
 chk (((((!b1)&&b2)&&(!b5))||(!(((!b1)&&b2)&&(!b5))))) <|
 Am ((((p0.getD 0 0).toNat:Int)==(255:Int))) fun b6 =>
 chk ((((((!b1)&&b2)&&(!b5))&&b6)||(!((((!b1)&&b2)&&(!b5))&&b6)))) <|
 chk (((decide ((1:Int)<(p0.length:Int)))||(!((((!b1)&&b2)&&(!b5))&&b6)))) <|
 chk ((((((!b1)&&b2)&&(!b5))&&b6)||(!((((!b1)&&b2)&&(!b5))&&b6)))) <|
 chk (((((!b1)&&b2)&&(!b5))||(!(((!b1)&&b2)&&(!b5))))) <|
 chk (((bif b6 then((((!b1)&&b2)&&(!b5))&&b6)else true)||(!(((!b1)&&b2)&&(!b5))))) <|
 chk (((bif b6 then true else true)||(!(((!b1)&&b2)&&(!b5))))) <|
 Am (bif b6 then decide (((p0.getD 1 0).toNat:Int)>=(128:Int))else false) fun b7 =>
 chk ((((!b1)&&b2)||(!((!b1)&&b2)))) <|
 chk (((bif b5 then true else(((!b1)&&b2)&&(!b5)))||(!((!b1)&&b2)))) <|
 chk (((bif b5 then true else true)||(!((!b1)&&b2)))) <|
 Am (bif b5 then true else b7) fun b8 =>
 chk (((!b1)||(!(!b1)))) <|
 chk (((bif b2 then((!b1)&&b2)else true)||(!(!b1)))) <|
 chk (((bif b2 then true else true)||(!(!b1)))) <|
 Am (bif b2 then b8 else false) fun b9 =>
 chk (bif b1 then true else !b1) <|
 chk (bif b1 then true else true) <|
 Am (bif b1 then true else b9) fun b10 =>
 bif b10 then(some (0,7))
 else(bif decide ((p0.length:Int)>(8:Int))then(some (0,1))
 else(chk (decide ((0:Int)<(p0.length:Int))) <|
 Ar (X:=Int×Int) (Y:=Int) (U2 fun t4a t43a k11 x12 =>
 bif decide (t43a<(i64.wrap ((p0.length:Int) - (1:Int))))then(chk (decide ((0:Int)<=i64.wrap (t43a+(1:Int)))) <|
 chk (decide (i64.wrap (t43a+(1:Int))<(p0.length:Int))) <|
 let x51:Int:=((p0.getD ((i64.wrap (t43a+(1:Int))).toNat) 0).toNat:Int)
 k11 (Bg .or .i64 (i64.wrap (t4a*(256))) (i64.wrap x51),i64.wrap (t43a+(1:Int))))
 else(x12 t4a))
 N (i64.wrap (IntKind.i8.wrap ((p0.getD 0 0).toNat:Int)),0) (fun t4b =>
 some (t4b,0))))
abbrev ZU:Type:=Int×Int
def DJ (N:Nat) (p0:Bs):Option ZU :=
 Ae (II N p0) fun r8 =>
 bif (r8.2 != (0:Int))then(some (0,r8.2))
 else(chk (((!(decide (r8.1<(0:Int))))||(!(!(decide (r8.1<(0:Int))))))) <|
 chk (bif decide (r8.1<(0:Int))then true else !(decide (r8.1<(0:Int)))) <|
 chk (bif decide (r8.1<(0:Int))then true else true) <|
 let x19:Bool:=bif decide (r8.1<(0:Int))then true else decide (r8.1>(64:Int))
 bif x19 then(some (0,1))
 else(some (r8.1,0)))
abbrev WT:Type:=Int×Yq4
def En (N:Nat) (p0:Bs) (p1:Yq4):Option WT :=
 Gp (MF N p0 48) (fun r11 =>
 bif (r11.2 != (0:Int))then(some (r11.2,p1))
 else(Ae (Il N r11.1 1) fun r23 =>
 bif (r23.2.1 != (0:Int))then(some (r23.2.1,(true,r23.1,p1.2.2.1,p1.2.2.2.1,p1.2.2.2.2.1,p1.2.2.2.2.2.1,p1.2.2.2.2.2.2.1,p1.2.2.2.2.2.2.2.1,p1.2.2.2.2.2.2.2.2.1,p1.2.2.2.2.2.2.2.2.2.1,p1.2.2.2.2.2.2.2.2.2.2.1,p1.2.2.2.2.2.2.2.2.2.2.2.1,p1.2.2.2.2.2.2.2.2.2.2.2.2.1,p1.2.2.2.2.2.2.2.2.2.2.2.2.2.1,p1.2.2.2.2.2.2.2.2.2.2.2.2.2.2.1,p1.2.2.2.2.2.2.2.2.2.2.2.2.2.2.2.1,p1.2.2.2.2.2.2.2.2.2.2.2.2.2.2.2.2.1,p1.2.2.2.2.2.2.2.2.2.2.2.2.2.2.2.2.2.1,p1.2.2.2.2.2.2.2.2.2.2.2.2.2.2.2.2.2.2)))
 else(Ae (DK N r23.2.2 2) fun r33 =>
 bif r33.2.1 then(Ae (DJ N r33.1.2.1) fun r41 =>
 bif (r41.2 != (0:Int))then(some (r41.2,(true,r23.1,r41.1,p1.2.2.2.1,p1.2.2.2.2.1,p1.2.2.2.2.2.1,p1.2.2.2.2.2.2.1,p1.2.2.2.2.2.2.2.1,p1.2.2.2.2.2.2.2.2.1,p1.2.2.2.2.2.2.2.2.2.1,p1.2.2.2.2.2.2.2.2.2.2.1,p1.2.2.2.2.2.2.2.2.2.2.2.1,p1.2.2.2.2.2.2.2.2.2.2.2.2.1,p1.2.2.2.2.2.2.2.2.2.2.2.2.2.1,p1.2.2.2.2.2.2.2.2.2.2.2.2.2.2.1,p1.2.2.2.2.2.2.2.2.2.2.2.2.2.2.2.1,p1.2.2.2.2.2.2.2.2.2.2.2.2.2.2.2.2.1,p1.2.2.2.2.2.2.2.2.2.2.2.2.2.2.2.2.2.1,p1.2.2.2.2.2.2.2.2.2.2.2.2.2.2.2.2.2.2)))
 else(Ae (BF N r33.2.2) fun r50 =>
 some (r50.1,(true,r23.1,r41.1,p1.2.2.2.1,p1.2.2.2.2.1,p1.2.2.2.2.2.1,p1.2.2.2.2.2.2.1,p1.2.2.2.2.2.2.2.1,p1.2.2.2.2.2.2.2.2.1,p1.2.2.2.2.2.2.2.2.2.1,p1.2.2.2.2.2.2.2.2.2.2.1,p1.2.2.2.2.2.2.2.2.2.2.2.1,p1.2.2.2.2.2.2.2.2.2.2.2.2.1,p1.2.2.2.2.2.2.2.2.2.2.2.2.2.1,p1.2.2.2.2.2.2.2.2.2.2.2.2.2.2.1,p1.2.2.2.2.2.2.2.2.2.2.2.2.2.2.2.1,p1.2.2.2.2.2.2.2.2.2.2.2.2.2.2.2.2.1,p1.2.2.2.2.2.2.2.2.2.2.2.2.2.2.2.2.2.1,p1.2.2.2.2.2.2.2.2.2.2.2.2.2.2.2.2.2.2))))
 else(Ae (BF N r33.2.2) fun r50 =>
 some (r50.1,(true,r23.1,p1.2.2.1,p1.2.2.2.1,p1.2.2.2.2.1,p1.2.2.2.2.2.1,p1.2.2.2.2.2.2.1,p1.2.2.2.2.2.2.2.1,p1.2.2.2.2.2.2.2.2.1,p1.2.2.2.2.2.2.2.2.2.1,p1.2.2.2.2.2.2.2.2.2.2.1,p1.2.2.2.2.2.2.2.2.2.2.2.1,p1.2.2.2.2.2.2.2.2.2.2.2.2.1,p1.2.2.2.2.2.2.2.2.2.2.2.2.2.1,p1.2.2.2.2.2.2.2.2.2.2.2.2.2.2.1,p1.2.2.2.2.2.2.2.2.2.2.2.2.2.2.2.1,p1.2.2.2.2.2.2.2.2.2.2.2.2.2.2.2.2.1,p1.2.2.2.2.2.2.2.2.2.2.2.2.2.2.2.2.2.1,p1.2.2.2.2.2.2.2.2.2.2.2.2.2.2.2.2.2.2))))))
 (fun r11 =>
 bif (r11.2 != (0:Int))then(some (r11.2,p1))
 else(none))
abbrev vX:Type:=Bool
def KP (N:Nat) (p0:Bs) (p1:Int):Option vX :=
 bif (p1==(0:Int))then(some true)
 else(chk (((!(p0==([]:Bs)))||(!(!(p0==([]:Bs)))))) <|
 chk (((!(p0==([]:Bs)))||(!(!(p0==([]:Bs)))))) <|
 chk (((!(p0==([]:Bs)))||(!(!(p0==([]:Bs)))))) <|
 chk (((!(p0==([]:Bs)))||(!(!(p0==([]:Bs)))))) <|
 chk (((decide ((0:Int)<=i64.wrap ((p0.length:Int) - (1:Int))))||(!(!(p0==([]:Bs)))))) <|
 chk (((decide (i64.wrap ((p0.length:Int) - (1:Int))<(p0.length:Int)))||(!(!(p0==([]:Bs)))))) <|
 let x14:Int:=((p0.getD ((i64.wrap ((p0.length:Int) - (1:Int))).toNat) 0).toNat:Int)
 chk (((!(p0==([]:Bs)))||(!(!(p0==([]:Bs)))))) <|
 chk (((!(p0==([]:Bs)))||(!(!(p0==([]:Bs)))))) <|
 chk (((decide ((0:Int)<=IntKind.u64.wrap p1))||(!(!(p0==([]:Bs)))))) <|
 let x17:Int:=IntKind.u8.wrap ((1:Int)*(2 ^ (min (IntKind.u64.wrap p1).toNat 8)))
 chk (((!(p0==([]:Bs)))||(!(!(p0==([]:Bs)))))) <|
 chk (((!(p0==([]:Bs)))||(!(!(p0==([]:Bs)))))) <|
 chk (((!(p0==([]:Bs)))||(!(!(p0==([]:Bs)))))) <|
 chk (((!(p0==([]:Bs)))||(!(!(p0==([]:Bs)))))) <|
 let x20:Bool:=((Bg .and .u8 x14 (IntKind.u8.wrap (x17 - (1:Int))))==(0:Int))
 chk (bif !(p0==([]:Bs))then !(p0==([]:Bs))else true) <|
 chk (bif !(p0==([]:Bs))then true else true) <|
 some (bif !(p0==([]:Bs))then x20 else false))
abbrev yP:Type:=Bs×Int×Int
def QS (N:Nat) (p0:Bs):Option yP :=
 chk (((!(p0==([]:Bs)))||(!(!(p0==([]:Bs)))))) <|
 chk (((decide ((0:Int)<(p0.length:Int)))||(!(!(p0==([]:Bs)))))) <|
 chk (((!(p0==([]:Bs)))||(!(!(p0==([]:Bs)))))) <|
 chk (bif (p0==([]:Bs))then true else !(p0==([]:Bs))) <|
 chk (bif (p0==([]:Bs))then true else true) <|
 let x11:Bool:=bif (p0==([]:Bs))then true else decide (((p0.getD 0 0).toNat:Int)>(7:Int))
 chk (((!x11)||(!(!x11)))) <|
 chk (((decide ((1:Int)<=(p0.length:Int)))||(!(!x11)))) <|
 chk (((!x11)||(!(!x11)))) <|
 chk (((decide ((0:Int)<(p0.length:Int)))||(!(!x11)))) <|
 chk (((!x11)||(!(!x11)))) <|
 chk (((!x11)||(!(!x11)))) <|
 chk (((!x11)||(!(!x11)))) <|
 chk ((((KP N (AV p0 1 p0.length) (i64.wrap ((p0.getD 0 0).toNat:Int))).isSome)||(!(!x11)))) <|
 let r18:=(KP N (AV p0 1 p0.length) (i64.wrap ((p0.getD 0 0).toNat:Int))).getD default
 chk (((!x11)||(!(!x11)))) <|
 chk (bif x11 then true else !x11) <|
 chk (bif x11 then true else true) <|
 bif bif x11 then true else !r18 then(some (([]:Bs),0,7))
 else(chk (decide ((1:Int)<=(p0.length:Int))) <|
 chk (decide ((0:Int)<(p0.length:Int))) <|
 some (AV p0 1 p0.length,i64.wrap ((p0.getD 0 0).toNat:Int),0))
abbrev AbE:Type:=Bool
def MK (N:Nat) (p0:Bs) (p1:Int):Option AbE :=
 chk (decide ((0:Int)<=i64.wrap (p1.tdiv 8))) <|
 chk (decide (i64.wrap (p1.tdiv 8)<(p0.length:Int))) <|
 chk (decide ((0:Int)<=IntKind.u64.wrap ((7:Int) - (IntKind.u64.wrap (p1.tmod 8))))) <|
 let x13:Int:=((p0.getD ((i64.wrap (p1.tdiv 8)).toNat) 0).toNat:Int).fdiv (2 ^ (min (IntKind.u64.wrap ((7:Int) - (IntKind.u64.wrap (p1.tmod 8)))).toNat 8))
 some ((Bg .and .u8 x13 1)==(1:Int))
abbrev vW:Type:=Int×Int
def OT (N:Nat) (p0:Bs):Option vW :=
 Ae (QS N p0) fun r12 =>
 bif (r12.2.2 != (0:Int))then(some (0,r12.2.2))
 else(let x23:Int:=i64.wrap ((i64.wrap ((8:Int)*(r12.1.length:Int))) - r12.2.1)
 chk (((decide (x23>(0:Int)))||(!(decide (x23>(0:Int)))))) <|
 chk (((decide (x23>(0:Int)))||(!(decide (x23>(0:Int)))))) <|
 chk (((decide (x23>(0:Int)))||(!(decide (x23>(0:Int)))))) <|
 chk ((((MK N r12.1 (i64.wrap (x23 - (1:Int)))).isSome)||(!(decide (x23>(0:Int)))))) <|
 let r30:=(MK N r12.1 (i64.wrap (x23 - (1:Int)))).getD default
 chk (((decide (x23>(0:Int)))||(!(decide (x23>(0:Int)))))) <|
 chk (bif decide (x23>(0:Int))then decide (x23>(0:Int))else true) <|
 chk (bif decide (x23>(0:Int))then true else true) <|
 bif bif decide (x23>(0:Int))then !r30 else false then(some (0,7))
 else(bif decide (x23>(16:Int))then(some (0,1))
 else(Ar (X:=Int×Int) (Y:=Int) (U2 fun t8a t36a k1 x2 =>
 bif decide (t36a<x23)then(Ae (MK N r12.1 t36a) fun r41 =>
 bif r41 then(chk (decide ((0:Int)<=IntKind.u64.wrap t36a)) <|
 let x45:Int:=i64.wrap ((1:Int)*(2 ^ (min (IntKind.u64.wrap t36a).toNat 64)))
 k1 (Bg .or .i64 t8a x45,i64.wrap (t36a+(1:Int))))
 else(k1 (t8a,i64.wrap (t36a+(1:Int)))))
 else(x2 t8a))
 N (0,0) (fun t8b =>
 some (t8b,0)))))
abbrev WV:Type:=Int×Yq4
def Eo (N:Nat) (p0:Bs) (p1:Yq4):Option WV :=
 Ae (MC N p0 3) fun r9 =>
 bif (r9.2 != (0:Int))then(some (r9.2,p1))
 else(Ae (OT N r9.1.2.1) fun r19 =>
 bif (r19.2 != (0:Int))then(some (r19.2,(p1.1,p1.2.1,p1.2.2.1,r19.1,p1.2.2.2.2.1,p1.2.2.2.2.2.1,p1.2.2.2.2.2.2.1,p1.2.2.2.2.2.2.2.1,p1.2.2.2.2.2.2.2.2.1,p1.2.2.2.2.2.2.2.2.2.1,p1.2.2.2.2.2.2.2.2.2.2.1,p1.2.2.2.2.2.2.2.2.2.2.2.1,p1.2.2.2.2.2.2.2.2.2.2.2.2.1,p1.2.2.2.2.2.2.2.2.2.2.2.2.2.1,p1.2.2.2.2.2.2.2.2.2.2.2.2.2.2.1,p1.2.2.2.2.2.2.2.2.2.2.2.2.2.2.2.1,p1.2.2.2.2.2.2.2.2.2.2.2.2.2.2.2.2.1,p1.2.2.2.2.2.2.2.2.2.2.2.2.2.2.2.2.2.1,p1.2.2.2.2.2.2.2.2.2.2.2.2.2.2.2.2.2.2)))
 else(bif (r19.1==(0:Int))then(some (7,(p1.1,p1.2.1,p1.2.2.1,r19.1,p1.2.2.2.2.1,p1.2.2.2.2.2.1,p1.2.2.2.2.2.2.1,p1.2.2.2.2.2.2.2.1,p1.2.2.2.2.2.2.2.2.1,p1.2.2.2.2.2.2.2.2.2.1,p1.2.2.2.2.2.2.2.2.2.2.1,p1.2.2.2.2.2.2.2.2.2.2.2.1,p1.2.2.2.2.2.2.2.2.2.2.2.2.1,p1.2.2.2.2.2.2.2.2.2.2.2.2.2.1,p1.2.2.2.2.2.2.2.2.2.2.2.2.2.2.1,p1.2.2.2.2.2.2.2.2.2.2.2.2.2.2.2.1,p1.2.2.2.2.2.2.2.2.2.2.2.2.2.2.2.2.1,p1.2.2.2.2.2.2.2.2.2.2.2.2.2.2.2.2.2.1,p1.2.2.2.2.2.2.2.2.2.2.2.2.2.2.2.2.2.2)))
 else(some (0,(p1.1,p1.2.1,p1.2.2.1,r19.1,p1.2.2.2.2.1,p1.2.2.2.2.2.1,p1.2.2.2.2.2.2.1,p1.2.2.2.2.2.2.2.1,p1.2.2.2.2.2.2.2.2.1,p1.2.2.2.2.2.2.2.2.2.1,p1.2.2.2.2.2.2.2.2.2.2.1,p1.2.2.2.2.2.2.2.2.2.2.2.1,p1.2.2.2.2.2.2.2.2.2.2.2.2.1,p1.2.2.2.2.2.2.2.2.2.2.2.2.2.1,p1.2.2.2.2.2.2.2.2.2.2.2.2.2.2.1,p1.2.2.2.2.2.2.2.2.2.2.2.2.2.2.2.1,p1.2.2.2.2.2.2.2.2.2.2.2.2.2.2.2.2.1,p1.2.2.2.2.2.2.2.2.2.2.2.2.2.2.2.2.2.1,p1.2.2.2.2.2.2.2.2.2.2.2.2.2.2.2.2.2.2)))))
abbrev YP:Type:=Int×Yq7
def Du (N:Nat) (p0:Yq7):Option YP :=
 some ((p0.length:Int),p0)
abbrev kJ:Type:=(Yq7×Int) ⊕ (Unit×Int)
def Fb (N:Nat) (p0:Bs):Option kJ :=
 Gp (MF N p0 48) (fun r8 =>
 bif (r8.2 != (0:Int))then(some (.inr ((),r8.2)))
 else(Ae (Du N r8.1) fun r15 =>
 bif (r15.1==(0:Int))then(some (.inr ((),7)))
 else(some (.inl (r15.2,0)))))
 (fun r8 =>
 bif (r8.2 != (0:Int))then(some (.inr ((),r8.2)))
 else(none))
abbrev aU:Type:=(Int×Bs×Bs)×Int×Yq7
def MG (N:Nat) (p0:Yq7):Option aU :=
 bif ((p0.length:Int)==(0:Int))then(some ((0,([]:Bs),([]:Bs)),3,p0))
 else(chk (decide ((0:Int)<(p0.length:Int))) <|
 chk (decide ((1:Int)<=(p0.length:Int))) <|
 some ((p0.getD 0 (0,([]:Bs),([]:Bs))),0,AV p0 1 p0.length))
abbrev YQ:Type:=(Int×Bs×Bs)×Int×Yq7
def E8 (N:Nat) (p0:Yq7) (p1:Int):Option YQ :=
 chk (((decide ((p0.length:Int)>(0:Int)))||(!(decide ((p0.length:Int)>(0:Int)))))) <|
 chk (((decide ((p0.length:Int)>(0:Int)))||(!(decide ((p0.length:Int)>(0:Int)))))) <|
 chk (((decide ((p0.length:Int)>(0:Int)))||(!(decide ((p0.length:Int)>(0:Int)))))) <|
 chk (((decide ((p0.length:Int)>(0:Int)))||(!(decide ((p0.length:Int)>(0:Int)))))) <|
 chk (((decide ((0:Int)<(p0.length:Int)))||(!(decide ((p0.length:Int)>(0:Int)))))) <|
 chk (((decide ((p0.length:Int)>(0:Int)))||(!(decide ((p0.length:Int)>(0:Int)))))) <|
 chk (((decide ((p0.length:Int)>(0:Int)))||(!(decide ((p0.length:Int)>(0:Int)))))) <|
 chk (((decide ((p0.length:Int)>(0:Int)))||(!(decide ((p0.length:Int)>(0:Int)))))) <|
 chk (((decide ((p0.length:Int)>(0:Int)))||(!(decide ((p0.length:Int)>(0:Int)))))) <|
 chk (bif decide ((p0.length:Int)>(0:Int))then decide ((p0.length:Int)>(0:Int))else true) <|
 chk (bif decide ((p0.length:Int)>(0:Int))then true else true) <|
 let x22:Bool:=bif decide ((p0.length:Int)>(0:Int))then(((p0.getD 0 (0,([]:Bs),([]:Bs))).1) != p1)else false
 bif x22 then(some ((0,([]:Bs),([]:Bs)),5,p0))
 else(Ae (MG N p0) fun r25 =>
 some (r25.1,r25.2.1,r25.2.2))
abbrev oQ:Type:=List Int
def MW (N:Nat) (p0:Bs):Option oQ :=
 Ar (X:=Int×List Int) (Y:=(List Int)) (U2 fun t4a l1000000a k1 x2 =>
 bif decide (t4a<(p0.length:Int))then(chk (decide ((0:Int)<=t4a)) <|
 chk (decide (t4a<(p0.length:Int))) <|
 bif (((p0.getD t4a.toNat 0).toNat:Int)==(128:Int))then(some ([]:List Int))
 else(Ar (X:=Int×Int×List Int) (Y:=(Int×List Int) ⊕ Unit) (U3 fun t4b t5b l1004096b k3 x4 =>
 bif decide (t4b<(p0.length:Int))then(chk (decide ((0:Int)<=t4b)) <|
 chk (decide (t4b<(p0.length:Int))) <|
 let x28:Int:=Bg .and .i64 (i64.wrap ((p0.getD t4b.toNat 0).toNat:Int)) 127
 let x31:Bool:=decide ((Bg .or .i64 (i64.wrap (t5b*(128))) x28)>(4294967294:Int))
 bif x31 then(some ([]:List Int))
 else(let x33:Bool:=decide ((i64.wrap ((p0.getD t4b.toNat 0).toNat:Int))<(128:Int))
 bif x33 then(chk (decide ((l1004096b.length+1)*9<=140737488355328)) <|
 let y42240:List Int:=l1004096b++([Bg .or .i64 (i64.wrap (t5b*(128))) x28]:List Int)
 x4 (.inl (i64.wrap (t4b+(1:Int)),y42240)))
 else(k3 (i64.wrap (t4b+(1:Int)),Bg .or .i64 (i64.wrap (t5b*(128))) x28,l1004096b))))
 else(x4 (.inr ())))
 N (t4a,0,l1000000a) (Sum.elim (U2 fun t4c l42240c =>
 k1 (t4c,l42240c))
 (fun _ =>
 some ([]:List Int)))))
 else(x2 l1000000a))
 N (0,([]:List Int)) (fun l1016384e =>
 some l1016384e)
abbrev vO:Type:=Bs×Int
def OQ (N:Nat) (p0:Bs):Option vO :=
 Ae (MW N p0) fun r11 =>
 chk (((!((r11.length:Int)==(0:Int)))||(!(!((r11.length:Int)==(0:Int)))))) <|
 chk (((!((r11.length:Int)==(0:Int)))||(!(!((r11.length:Int)==(0:Int)))))) <|
 chk (bif ((r11.length:Int)==(0:Int))then true else !((r11.length:Int)==(0:Int))) <|
 chk (bif ((r11.length:Int)==(0:Int))then true else true) <|
 let x19:Bool:=bif ((r11.length:Int)==(0:Int))then true else decide ((r11.length:Int)>(11:Int))
 bif x19 then(some (([]:Bs),11))
 else(chk (decide ((0:Int)<(r11.length:Int))) <|
 let x24:Int:=(bif decide ((2:Int)<i64.wrap ((r11.getD 0 0).tdiv 40))then(2:Int)else i64.wrap ((r11.getD 0 0).tdiv 40))
 chk (decide ((0:Int)<(r11.length:Int))) <|
 let x31:Int:=i64.wrap ((r11.getD 0 0) - (i64.wrap ((40:Int)*x24)))
 chk (decide ((1:Int)<=(r11.length:Int))) <|
 chk (decide ((2+(AV r11 1 r11.length).length)*9<=140737488355328)) <|
 Ar (X:=Int×List Int×List Bs) (Y:=(List Bs)) (U3 fun t38a l41728a l1000000a k1 x2 =>
 let x39:Bool:=decide (t38a<((([x24,x31]:List Int)++(AV r11 1 r11.length)).length:Int))
 bif x39 then(chk (decide ((0:Int)<=t38a)) <|
 chk (decide (t38a<(l41728a.length:Int))) <|
 chk (decide (t38a.toNat<l41728a.length)) <|
 bif decide ((l41728a.getD t38a.toNat 0)>(2147483647:Int))then(some (([]:Bs),11))
 else(Ae (strconv_Itoa N (l41728a.getD t38a.toNat 0)) fun r46 =>
 chk (decide ((l1000000a.length+1)*17<=140737488355328)) <|
 k1 (i64.wrap (t38a+(1:Int)),l41728a,l1000000a++([r46]:List Bs))))
 else(x2 l1000000a))
 N (0,([x24,x31]:List Int)++(AV r11 1 r11.length),([]:List Bs)) (fun l1004096b =>
 Ae (strings_Join N l1004096b ([46]:Bs)) fun r51 =>
 some (r51,0)))
abbrev eH:Type:=Bs×Int×Yq7
def FD (N:Nat) (p0:Yq7):Option eH :=
 Ae (E8 N p0 6) fun r8 =>
 bif (r8.2.1 != (0:Int))then(some (([]:Bs),r8.2.1,r8.2.2))
 else(Ae (OQ N r8.1.2.1) fun r16 =>
 some (r16.1,r16.2,r8.2.2))
abbrev SH:Type:=Int×Yq4
def CU (N:Nat) (p0:Bs) (p1:Yq4):Option SH :=
 Gp (Fb N p0) (fun r10 =>
 Ar (X:=Int×Bool×Bool×Int×Int×Int×Int×Int×List Yq1×Bool×List Yq1×List Yq1×Bs×Bs×List Yq2×List Yq2×List Bs×(List (Bs×Bs))×(List (Bs×Bool×Bs))×(List (Int×Bs×Bs))×List Bs) (Y:=(Int×Bool×Bool×Int×Int×Int×Int×Int×List Yq1×Bool×List Yq1×List Yq1×Bs×Bs×List Yq2×List Yq2×List Bs×(List (Bs×Bs))×(List (Bs×Bool×Bs))×List Bs)) (U21 fun t6a b256_0a b256_1a b256_2a b256_3a b256_7a b256_8a b256_9a b256_10a b256_11a b256_12a b256_13a b256_14a b256_15a b256_16a b256_17a l262a l263a l275a b35328_0a l1000000a k1 x2 =>
 chk (((t6a==(0:Int))||(!(t6a==(0:Int))))) <|
 chk ((((Du N b35328_0a).isSome)||(!(t6a==(0:Int))))) <|
 let r17:=(Du N b35328_0a).getD default
 chk (((t6a==(0:Int))||(!(t6a==(0:Int))))) <|
 chk (bif (t6a==(0:Int))then(t6a==(0:Int))else true) <|
 chk (bif (t6a==(0:Int))then true else true) <|
 bif bif (t6a==(0:Int))then decide (r17.1>(0:Int))else false then(Ae (FD N (bif (t6a==(0:Int))then r17.2 else b35328_0a)) fun r22 =>
 chk (decide ((l1000000a.length+1)*17<=140737488355328)) <|
 k1 (r22.2.1,b256_0a,b256_1a,b256_2a,b256_3a,b256_7a,b256_8a,b256_9a,b256_10a,b256_11a,b256_12a,b256_13a,b256_14a,b256_15a,b256_16a,b256_17a,l262a,l263a,l275a,r22.2.2,l1000000a++([r22.1]:List Bs)))
 else(x2 (t6a,b256_0a,b256_1a,b256_2a,b256_3a,b256_7a,b256_8a,b256_9a,b256_10a,b256_11a,b256_12a,b256_13a,b256_14a,b256_15a,b256_16a,b256_17a,l262a,l263a,l275a,l1000000a)))
 (N+1) (r10.2,p1.1,p1.2.1,p1.2.2.1,p1.2.2.2.1,p1.2.2.2.2.2.2.2.1,p1.2.2.2.2.2.2.2.2.1,p1.2.2.2.2.2.2.2.2.2.1,p1.2.2.2.2.2.2.2.2.2.2.1,p1.2.2.2.2.2.2.2.2.2.2.2.1,p1.2.2.2.2.2.2.2.2.2.2.2.2.1,p1.2.2.2.2.2.2.2.2.2.2.2.2.2.1,p1.2.2.2.2.2.2.2.2.2.2.2.2.2.2.1,p1.2.2.2.2.2.2.2.2.2.2.2.2.2.2.2.1,p1.2.2.2.2.2.2.2.2.2.2.2.2.2.2.2.2.1,p1.2.2.2.2.2.2.2.2.2.2.2.2.2.2.2.2.2.1,p1.2.2.2.2.2.1,p1.2.2.2.2.2.2.1,p1.2.2.2.2.2.2.2.2.2.2.2.2.2.2.2.2.2.2,r10.1,p1.2.2.2.2.1) (U20 fun t6b b256_0b b256_1b b256_2b b256_3b b256_7b b256_8b b256_9b b256_10b b256_11b b256_12b b256_13b b256_14b b256_15b b256_16b b256_17b l262b l263b l275b l1004096b =>
 some (t6b,(b256_0b,b256_1b,b256_2b,b256_3b,l1004096b,l262b,l263b,b256_7b,b256_8b,b256_9b,b256_10b,b256_11b,b256_12b,b256_13b,b256_14b,b256_15b,b256_16b,b256_17b,l275b))))
 (fun r10 =>
 chk (((r10.2==(0:Int))||(!(r10.2==(0:Int))))) <|
 chk (!(r10.2==(0:Int))) <|
 chk (!(r10.2==(0:Int))) <|
 chk (!(r10.2==(0:Int))) <|
 chk (!(r10.2==(0:Int))) <|
 chk (!(r10.2==(0:Int))) <|
 chk (((r10.2==(0:Int))||(!(r10.2==(0:Int))))) <|
 chk (!(r10.2==(0:Int))) <|
 chk (!(r10.2==(0:Int))) <|
 chk (bif (r10.2==(0:Int))then(r10.2==(0:Int))else true) <|
 chk (bif (r10.2==(0:Int))then false else true) <|
 bif bif (r10.2==(0:Int))then false else false then(none)
 else(some (r10.2,p1)))
abbrev Q7:Type:=Yq4
def G6 (N:Nat) (p0:List Bs) (p1:Yq4):Option Q7 :=
 chk (decide ((0:Int)<(p0.length:Int))) <|
 chk (decide ((p1.2.2.2.2.2.1.length+1)*17<=140737488355328)) <|
 some (p1.1,p1.2.1,p1.2.2.1,p1.2.2.2.1,p1.2.2.2.2.1,p1.2.2.2.2.2.1++([(p0.getD 0 ([]:Bs))]:List Bs),p1.2.2.2.2.2.2.1,p1.2.2.2.2.2.2.2.1,p1.2.2.2.2.2.2.2.2.1,p1.2.2.2.2.2.2.2.2.2.1,p1.2.2.2.2.2.2.2.2.2.2.1,p1.2.2.2.2.2.2.2.2.2.2.2.1,p1.2.2.2.2.2.2.2.2.2.2.2.2.1,p1.2.2.2.2.2.2.2.2.2.2.2.2.2.1,p1.2.2.2.2.2.2.2.2.2.2.2.2.2.2.1,p1.2.2.2.2.2.2.2.2.2.2.2.2.2.2.2.1,p1.2.2.2.2.2.2.2.2.2.2.2.2.2.2.2.2.1,p1.2.2.2.2.2.2.2.2.2.2.2.2.2.2.2.2.2.1,p1.2.2.2.2.2.2.2.2.2.2.2.2.2.2.2.2.2.2)
abbrev VW:Type:=(Yq7×Int×Yq7) ⊕ (Unit×Int×Yq7)
def EF (N:Nat) (p0:Yq7):Option VW :=
 Ae (E8 N p0 48) fun r8 =>
 bif (r8.2.1 != (0:Int))then(some (.inr ((),r8.2.1,r8.2.2)))
 else(Gp (IB N r8.1.2.1) (fun r16 =>
 some (.inl (r16.1,r16.2,r8.2.2)))
 (fun r16 =>
 some (.inr ((),r16.2,r8.2.2))))
def AcC (N n:Nat) (a:List Bs×Yq4):Option (Yq4) :=
  bif Nat.beq n 198 then G6 N a.1 a.2 else
  none
abbrev WY:Type:=Int×Yq4
def GX (N:Nat) (p0:Bs) (p1:Int) (p2:Yq4):Option WY :=
 Gp (Fb N p0) (fun r17 =>
 bif (r17.2 != (0:Int))then(some (r17.2,p2))
 else(Ar (X:=Bool×Bool×Int×Int×Int×Int×Int×List Yq1×Bool×List Yq1×List Yq1×Bs×Bs×List Yq2×List Yq2×(List (Int×Bs×Bs))×(List (Bs×Bool×Bs))×(List (Bs×Bs))×List Bs×List Bs) (Y:=(Bool×Bool×Int×Int×Int×Int×Int×List Yq1×Bool×List Yq1×List Yq1×Bs×Bs×List Yq2×List Yq2×(List (Bs×Bool×Bs))×(List (Bs×Bs))×List Bs×List Bs)) (U20 fun b512_0a b512_1a b512_2a b512_3a b512_7a b512_8a b512_9a b512_10a b512_11a b512_12a b512_13a b512_14a b512_15a b512_16a b512_17a b37120_0a l1000000a l1000016a l1000032a l1000048a k1 x2 =>
 Ae (Du N b37120_0a) fun r24 =>
 bif decide (r24.1>(0:Int))then(Gp (EF N r24.2) (fun r28 =>
 bif (r28.2.1 != (0:Int))then(some (r28.2.1,(b512_0a,b512_1a,b512_2a,b512_3a,l1000048a,l1000032a,l1000016a,b512_7a,b512_8a,b512_9a,b512_10a,b512_11a,b512_12a,b512_13a,b512_14a,b512_15a,b512_16a,b512_17a,l1000000a)))
 else(Ar (X:=Bool×Bool×Int×Int×Int×Int×Int×List Yq1×Bool×List Yq1×List Yq1×Bs×Bs×List Yq2×List Yq2×(List (Int×Bs×Bs))×(List (Int×Bs×Bs))×List Bs×(List (Bs×Bool×Bs))×(List (Bs×Bs))×List Bs×List Bs) (Y:=(Bool×Bool×Int×Int×Int×Int×Int×List Yq1×Bool×List Yq1×List Yq1×Bs×Bs×List Yq2×List Yq2×(List (Int×Bs×Bs))×(List (Int×Bs×Bs))×List Bs×(List (Bs×Bool×Bs))×(List (Bs×Bs))×List Bs×List Bs)) (U22 fun b512_0b b512_1b b512_2b b512_3b b512_7b b512_8b b512_9b b512_10b b512_11b b512_12b b512_13b b512_14b b512_15b b512_16b b512_17b b37120_0b b39936_0b l1004096b l1004112b l1004128b l1004144b l1004160b k3 x4 =>
 bif decide ((l1004096b.length:Int)<p1)then(Ae (FD N b39936_0b) fun r40 =>
 bif (r40.2.1 != (0:Int))then(some (r40.2.1,(b512_0b,b512_1b,b512_2b,b512_3b,l1004160b,l1004144b,l1004128b,b512_7b,b512_8b,b512_9b,b512_10b,b512_11b,b512_12b,b512_13b,b512_14b,b512_15b,b512_16b,b512_17b,l1004112b)))
 else(chk (decide ((l1004096b.length+1)*17<=140737488355328)) <|
 k3 (b512_0b,b512_1b,b512_2b,b512_3b,b512_7b,b512_8b,b512_9b,b512_10b,b512_11b,b512_12b,b512_13b,b512_14b,b512_15b,b512_16b,b512_17b,b37120_0b,r40.2.2,l1004096b++([r40.1]:List Bs),l1004112b,l1004128b,l1004144b,l1004160b)))
 else(x4 (b512_0b,b512_1b,b512_2b,b512_3b,b512_7b,b512_8b,b512_9b,b512_10b,b512_11b,b512_12b,b512_13b,b512_14b,b512_15b,b512_16b,b512_17b,b37120_0b,b39936_0b,l1004096b,l1004112b,l1004128b,l1004144b,l1004160b)))
 (N+1) (b512_0a,b512_1a,b512_2a,b512_3a,b512_7a,b512_8a,b512_9a,b512_10a,b512_11a,b512_12a,b512_13a,b512_14a,b512_15a,b512_16a,b512_17a,r28.2.2,r28.1,([]:List Bs),l1000000a,l1000016a,l1000032a,l1000048a) (U22 fun b512_0c b512_1c b512_2c b512_3c b512_7c b512_8c b512_9c b512_10c b512_11c b512_12c b512_13c b512_14c b512_15c b512_16c b512_17c b37120_0c b39936_0c l1008192c l1008208c l1008224c l1008240c l1008256c =>
 Ae (BF N b39936_0c) fun r51 =>
 bif (r51.1 != (0:Int))then(some (r51.1,(b512_0c,b512_1c,b512_2c,b512_3c,l1008256c,l1008240c,l1008224c,b512_7c,b512_8c,b512_9c,b512_10c,b512_11c,b512_12c,b512_13c,b512_14c,b512_15c,b512_16c,b512_17c,l1008208c)))
 else(Ae (AcC N 198 (l1008192c,(b512_0c,b512_1c,b512_2c,b512_3c,l1008256c,l1008240c,l1008224c,b512_7c,b512_8c,b512_9c,b512_10c,b512_11c,b512_12c,b512_13c,b512_14c,b512_15c,b512_16c,b512_17c,l1008208c))) fun r57 =>
 k1 (r57.1,r57.2.1,r57.2.2.1,r57.2.2.2.1,r57.2.2.2.2.2.2.2.1,r57.2.2.2.2.2.2.2.2.1,r57.2.2.2.2.2.2.2.2.2.1,r57.2.2.2.2.2.2.2.2.2.2.1,r57.2.2.2.2.2.2.2.2.2.2.2.1,r57.2.2.2.2.2.2.2.2.2.2.2.2.1,r57.2.2.2.2.2.2.2.2.2.2.2.2.2.1,r57.2.2.2.2.2.2.2.2.2.2.2.2.2.2.1,r57.2.2.2.2.2.2.2.2.2.2.2.2.2.2.2.1,r57.2.2.2.2.2.2.2.2.2.2.2.2.2.2.2.2.1,r57.2.2.2.2.2.2.2.2.2.2.2.2.2.2.2.2.2.1,b37120_0c,r57.2.2.2.2.2.2.2.2.2.2.2.2.2.2.2.2.2.2,r57.2.2.2.2.2.2.1,r57.2.2.2.2.2.1,r57.2.2.2.2.1)))))
 (fun r28 =>
 bif (r28.2.1 != (0:Int))then(some (r28.2.1,(b512_0a,b512_1a,b512_2a,b512_3a,l1000048a,l1000032a,l1000016a,b512_7a,b512_8a,b512_9a,b512_10a,b512_11a,b512_12a,b512_13a,b512_14a,b512_15a,b512_16a,b512_17a,l1000000a)))
 else(bif decide ((0:Int)<p1)then(none)
 else(none))))
 else(x2 (b512_0a,b512_1a,b512_2a,b512_3a,b512_7a,b512_8a,b512_9a,b512_10a,b512_11a,b512_12a,b512_13a,b512_14a,b512_15a,b512_16a,b512_17a,l1000000a,l1000016a,l1000032a,l1000048a)))
 (N+1) (p2.1,p2.2.1,p2.2.2.1,p2.2.2.2.1,p2.2.2.2.2.2.2.2.1,p2.2.2.2.2.2.2.2.2.1,p2.2.2.2.2.2.2.2.2.2.1,p2.2.2.2.2.2.2.2.2.2.2.1,p2.2.2.2.2.2.2.2.2.2.2.2.1,p2.2.2.2.2.2.2.2.2.2.2.2.2.1,p2.2.2.2.2.2.2.2.2.2.2.2.2.2.1,p2.2.2.2.2.2.2.2.2.2.2.2.2.2.2.1,p2.2.2.2.2.2.2.2.2.2.2.2.2.2.2.2.1,p2.2.2.2.2.2.2.2.2.2.2.2.2.2.2.2.2.1,p2.2.2.2.2.2.2.2.2.2.2.2.2.2.2.2.2.2.1,r17.1,p2.2.2.2.2.2.2.2.2.2.2.2.2.2.2.2.2.2.2,p2.2.2.2.2.2.2.1,p2.2.2.2.2.2.1,p2.2.2.2.2.1) (U19 fun b512_0d b512_1d b512_2d b512_3d b512_7d b512_8d b512_9d b512_10d b512_11d b512_12d b512_13d b512_14d b512_15d b512_16d b512_17d l1012288d l1012304d l1012320d l1012336d =>
 some (0,(b512_0d,b512_1d,b512_2d,b512_3d,l1012336d,l1012320d,l1012304d,b512_7d,b512_8d,b512_9d,b512_10d,b512_11d,b512_12d,b512_13d,b512_14d,b512_15d,b512_16d,b512_17d,l1012288d)))))
 (fun r17 =>
 bif (r17.2 != (0:Int))then(some (r17.2,p2))
 else(none))
abbrev SC:Type:=Int×Yq4
def CS (N:Nat) (p0:Bs) (p1:Yq4):Option SC :=
 Ae (GX N p0 1 p1) fun r7 =>
 some (r7.1,r7.2)
abbrev Q4:Type:=Yq4
def G5 (N:Nat) (p0:List Bs) (p1:Yq4):Option Q4 :=
 chk (decide ((0:Int)<(p0.length:Int))) <|
 chk (decide ((1:Int)<(p0.length:Int))) <|
 chk (decide ((p1.2.2.2.2.2.2.1.length+1)*33<=140737488355328)) <|
 let y36864:List (Bs×Bs):=p1.2.2.2.2.2.2.1++([((p0.getD 0 ([]:Bs)),(p0.getD 1 ([]:Bs)))]:List (Bs×Bs))
 some (p1.1,p1.2.1,p1.2.2.1,p1.2.2.2.1,p1.2.2.2.2.1,p1.2.2.2.2.2.1,y36864,p1.2.2.2.2.2.2.2.1,p1.2.2.2.2.2.2.2.2.1,p1.2.2.2.2.2.2.2.2.2.1,p1.2.2.2.2.2.2.2.2.2.2.1,p1.2.2.2.2.2.2.2.2.2.2.2.1,p1.2.2.2.2.2.2.2.2.2.2.2.2.1,p1.2.2.2.2.2.2.2.2.2.2.2.2.2.1,p1.2.2.2.2.2.2.2.2.2.2.2.2.2.2.1,p1.2.2.2.2.2.2.2.2.2.2.2.2.2.2.2.1,p1.2.2.2.2.2.2.2.2.2.2.2.2.2.2.2.2.1,p1.2.2.2.2.2.2.2.2.2.2.2.2.2.2.2.2.2.1,p1.2.2.2.2.2.2.2.2.2.2.2.2.2.2.2.2.2.2)
def AcE (N n:Nat) (a:List Bs×Yq4):Option (Yq4) :=
  bif Nat.beq n 199 then G5 N a.1 a.2 else
  none
abbrev Xa:Type:=Int×Yq4
def GY (N:Nat) (p0:Bs) (p1:Int) (p2:Yq4):Option Xa :=
 Gp (Fb N p0) (fun r17 =>
 bif (r17.2 != (0:Int))then(some (r17.2,p2))
 else(Ar (X:=Bool×Bool×Int×Int×Int×Int×Int×List Yq1×Bool×List Yq1×List Yq1×Bs×Bs×List Yq2×List Yq2×(List (Int×Bs×Bs))×(List (Bs×Bool×Bs))×(List (Bs×Bs))×List Bs×List Bs) (Y:=(Bool×Bool×Int×Int×Int×Int×Int×List Yq1×Bool×List Yq1×List Yq1×Bs×Bs×List Yq2×List Yq2×(List (Bs×Bool×Bs))×(List (Bs×Bs))×List Bs×List Bs)) (U20 fun b512_0a b512_1a b512_2a b512_3a b512_7a b512_8a b512_9a b512_10a b512_11a b512_12a b512_13a b512_14a b512_15a b512_16a b512_17a b37120_0a l1000000a l1000016a l1000032a l1000048a k1 x2 =>
 Ae (Du N b37120_0a) fun r24 =>
 bif decide (r24.1>(0:Int))then(Gp (EF N r24.2) (fun r28 =>
 bif (r28.2.1 != (0:Int))then(some (r28.2.1,(b512_0a,b512_1a,b512_2a,b512_3a,l1000048a,l1000032a,l1000016a,b512_7a,b512_8a,b512_9a,b512_10a,b512_11a,b512_12a,b512_13a,b512_14a,b512_15a,b512_16a,b512_17a,l1000000a)))
 else(Ar (X:=Bool×Bool×Int×Int×Int×Int×Int×List Yq1×Bool×List Yq1×List Yq1×Bs×Bs×List Yq2×List Yq2×(List (Int×Bs×Bs))×(List (Int×Bs×Bs))×List Bs×(List (Bs×Bool×Bs))×(List (Bs×Bs))×List Bs×List Bs) (Y:=(Bool×Bool×Int×Int×Int×Int×Int×List Yq1×Bool×List Yq1×List Yq1×Bs×Bs×List Yq2×List Yq2×(List (Int×Bs×Bs))×(List (Int×Bs×Bs))×List Bs×(List (Bs×Bool×Bs))×(List (Bs×Bs))×List Bs×List Bs)) (U22 fun b512_0b b512_1b b512_2b b512_3b b512_7b b512_8b b512_9b b512_10b b512_11b b512_12b b512_13b b512_14b b512_15b b512_16b b512_17b b37120_0b b39936_0b l1004096b l1004112b l1004128b l1004144b l1004160b k3 x4 =>
 bif decide ((l1004096b.length:Int)<p1)then(Ae (FD N b39936_0b) fun r40 =>
 bif (r40.2.1 != (0:Int))then(some (r40.2.1,(b512_0b,b512_1b,b512_2b,b512_3b,l1004160b,l1004144b,l1004128b,b512_7b,b512_8b,b512_9b,b512_10b,b512_11b,b512_12b,b512_13b,b512_14b,b512_15b,b512_16b,b512_17b,l1004112b)))
 else(chk (decide ((l1004096b.length+1)*17<=140737488355328)) <|
 k3 (b512_0b,b512_1b,b512_2b,b512_3b,b512_7b,b512_8b,b512_9b,b512_10b,b512_11b,b512_12b,b512_13b,b512_14b,b512_15b,b512_16b,b512_17b,b37120_0b,r40.2.2,l1004096b++([r40.1]:List Bs),l1004112b,l1004128b,l1004144b,l1004160b)))
 else(x4 (b512_0b,b512_1b,b512_2b,b512_3b,b512_7b,b512_8b,b512_9b,b512_10b,b512_11b,b512_12b,b512_13b,b512_14b,b512_15b,b512_16b,b512_17b,b37120_0b,b39936_0b,l1004096b,l1004112b,l1004128b,l1004144b,l1004160b)))
 (N+1) (b512_0a,b512_1a,b512_2a,b512_3a,b512_7a,b512_8a,b512_9a,b512_10a,b512_11a,b512_12a,b512_13a,b512_14a,b512_15a,b512_16a,b512_17a,r28.2.2,r28.1,([]:List Bs),l1000000a,l1000016a,l1000032a,l1000048a) (U22 fun b512_0c b512_1c b512_2c b512_3c b512_7c b512_8c b512_9c b512_10c b512_11c b512_12c b512_13c b512_14c b512_15c b512_16c b512_17c b37120_0c b39936_0c l1008192c l1008208c l1008224c l1008240c l1008256c =>
 Ae (BF N b39936_0c) fun r51 =>
 bif (r51.1 != (0:Int))then(some (r51.1,(b512_0c,b512_1c,b512_2c,b512_3c,l1008256c,l1008240c,l1008224c,b512_7c,b512_8c,b512_9c,b512_10c,b512_11c,b512_12c,b512_13c,b512_14c,b512_15c,b512_16c,b512_17c,l1008208c)))
 else(Ae (AcE N 199 (l1008192c,(b512_0c,b512_1c,b512_2c,b512_3c,l1008256c,l1008240c,l1008224c,b512_7c,b512_8c,b512_9c,b512_10c,b512_11c,b512_12c,b512_13c,b512_14c,b512_15c,b512_16c,b512_17c,l1008208c))) fun r57 =>
 k1 (r57.1,r57.2.1,r57.2.2.1,r57.2.2.2.1,r57.2.2.2.2.2.2.2.1,r57.2.2.2.2.2.2.2.2.1,r57.2.2.2.2.2.2.2.2.2.1,r57.2.2.2.2.2.2.2.2.2.2.1,r57.2.2.2.2.2.2.2.2.2.2.2.1,r57.2.2.2.2.2.2.2.2.2.2.2.2.1,r57.2.2.2.2.2.2.2.2.2.2.2.2.2.1,r57.2.2.2.2.2.2.2.2.2.2.2.2.2.2.1,r57.2.2.2.2.2.2.2.2.2.2.2.2.2.2.2.1,r57.2.2.2.2.2.2.2.2.2.2.2.2.2.2.2.2.1,r57.2.2.2.2.2.2.2.2.2.2.2.2.2.2.2.2.2.1,b37120_0c,r57.2.2.2.2.2.2.2.2.2.2.2.2.2.2.2.2.2.2,r57.2.2.2.2.2.2.1,r57.2.2.2.2.2.1,r57.2.2.2.2.1)))))
 (fun r28 =>
 bif (r28.2.1 != (0:Int))then(some (r28.2.1,(b512_0a,b512_1a,b512_2a,b512_3a,l1000048a,l1000032a,l1000016a,b512_7a,b512_8a,b512_9a,b512_10a,b512_11a,b512_12a,b512_13a,b512_14a,b512_15a,b512_16a,b512_17a,l1000000a)))
 else(bif decide ((0:Int)<p1)then(none)
 else(none))))
 else(x2 (b512_0a,b512_1a,b512_2a,b512_3a,b512_7a,b512_8a,b512_9a,b512_10a,b512_11a,b512_12a,b512_13a,b512_14a,b512_15a,b512_16a,b512_17a,l1000000a,l1000016a,l1000032a,l1000048a)))
 (N+1) (p2.1,p2.2.1,p2.2.2.1,p2.2.2.2.1,p2.2.2.2.2.2.2.2.1,p2.2.2.2.2.2.2.2.2.1,p2.2.2.2.2.2.2.2.2.2.1,p2.2.2.2.2.2.2.2.2.2.2.1,p2.2.2.2.2.2.2.2.2.2.2.2.1,p2.2.2.2.2.2.2.2.2.2.2.2.2.1,p2.2.2.2.2.2.2.2.2.2.2.2.2.2.1,p2.2.2.2.2.2.2.2.2.2.2.2.2.2.2.1,p2.2.2.2.2.2.2.2.2.2.2.2.2.2.2.2.1,p2.2.2.2.2.2.2.2.2.2.2.2.2.2.2.2.2.1,p2.2.2.2.2.2.2.2.2.2.2.2.2.2.2.2.2.2.1,r17.1,p2.2.2.2.2.2.2.2.2.2.2.2.2.2.2.2.2.2.2,p2.2.2.2.2.2.2.1,p2.2.2.2.2.2.1,p2.2.2.2.2.1) (U19 fun b512_0d b512_1d b512_2d b512_3d b512_7d b512_8d b512_9d b512_10d b512_11d b512_12d b512_13d b512_14d b512_15d b512_16d b512_17d l1012288d l1012304d l1012320d l1012336d =>
 some (0,(b512_0d,b512_1d,b512_2d,b512_3d,l1012336d,l1012320d,l1012304d,b512_7d,b512_8d,b512_9d,b512_10d,b512_11d,b512_12d,b512_13d,b512_14d,b512_15d,b512_16d,b512_17d,l1012288d)))))
 (fun r17 =>
 bif (r17.2 != (0:Int))then(some (r17.2,p2))
 else(none))
abbrev SA:Type:=Int×Yq4
def CQ (N:Nat) (p0:Bs) (p1:Yq4):Option SA :=
 Ae (GY N p0 2 p1) fun r7 =>
 some (r7.1,r7.2)
abbrev VG:Type:=Int×Yq4
def Ec (N:Nat) (p0:Bs) (p1:Yq4):Option VG :=
 Gp (Fb N p0) (fun r13 =>
 bif (r13.2 != (0:Int))then(some (r13.2,p1))
 else(Ae (DK N r13.1 128) fun r36a =>
 bif r36a.2.1 then(Ae (DJ N r36a.1.2.1) fun r44a =>
 bif (r44a.2 != (0:Int))then(some (r44a.2,(p1.1,p1.2.1,p1.2.2.1,p1.2.2.2.1,p1.2.2.2.2.1,p1.2.2.2.2.2.1,p1.2.2.2.2.2.2.1,r44a.1,p1.2.2.2.2.2.2.2.2.1,p1.2.2.2.2.2.2.2.2.2.1,p1.2.2.2.2.2.2.2.2.2.2.1,p1.2.2.2.2.2.2.2.2.2.2.2.1,p1.2.2.2.2.2.2.2.2.2.2.2.2.1,p1.2.2.2.2.2.2.2.2.2.2.2.2.2.1,p1.2.2.2.2.2.2.2.2.2.2.2.2.2.2.1,p1.2.2.2.2.2.2.2.2.2.2.2.2.2.2.2.1,p1.2.2.2.2.2.2.2.2.2.2.2.2.2.2.2.2.1,p1.2.2.2.2.2.2.2.2.2.2.2.2.2.2.2.2.2.1,p1.2.2.2.2.2.2.2.2.2.2.2.2.2.2.2.2.2.2)))
 else(Ae (DK N r36a.2.2 129) fun r36b =>
 bif r36b.2.1 then(Ae (DJ N r36b.1.2.1) fun r44b =>
 bif (r44b.2 != (0:Int))then(some (r44b.2,(p1.1,p1.2.1,p1.2.2.1,p1.2.2.2.1,p1.2.2.2.2.1,p1.2.2.2.2.2.1,p1.2.2.2.2.2.2.1,r44a.1,r44b.1,p1.2.2.2.2.2.2.2.2.2.1,p1.2.2.2.2.2.2.2.2.2.2.1,p1.2.2.2.2.2.2.2.2.2.2.2.1,p1.2.2.2.2.2.2.2.2.2.2.2.2.1,p1.2.2.2.2.2.2.2.2.2.2.2.2.2.1,p1.2.2.2.2.2.2.2.2.2.2.2.2.2.2.1,p1.2.2.2.2.2.2.2.2.2.2.2.2.2.2.2.1,p1.2.2.2.2.2.2.2.2.2.2.2.2.2.2.2.2.1,p1.2.2.2.2.2.2.2.2.2.2.2.2.2.2.2.2.2.1,p1.2.2.2.2.2.2.2.2.2.2.2.2.2.2.2.2.2.2)))
 else(Ae (BF N r36b.2.2) fun r53 =>
 some (r53.1,(p1.1,p1.2.1,p1.2.2.1,p1.2.2.2.1,p1.2.2.2.2.1,p1.2.2.2.2.2.1,p1.2.2.2.2.2.2.1,r44a.1,r44b.1,p1.2.2.2.2.2.2.2.2.2.1,p1.2.2.2.2.2.2.2.2.2.2.1,p1.2.2.2.2.2.2.2.2.2.2.2.1,p1.2.2.2.2.2.2.2.2.2.2.2.2.1,p1.2.2.2.2.2.2.2.2.2.2.2.2.2.1,p1.2.2.2.2.2.2.2.2.2.2.2.2.2.2.1,p1.2.2.2.2.2.2.2.2.2.2.2.2.2.2.2.1,p1.2.2.2.2.2.2.2.2.2.2.2.2.2.2.2.2.1,p1.2.2.2.2.2.2.2.2.2.2.2.2.2.2.2.2.2.1,p1.2.2.2.2.2.2.2.2.2.2.2.2.2.2.2.2.2.2))))
 else(Ae (BF N r36b.2.2) fun r53 =>
 some (r53.1,(p1.1,p1.2.1,p1.2.2.1,p1.2.2.2.1,p1.2.2.2.2.1,p1.2.2.2.2.2.1,p1.2.2.2.2.2.2.1,r44a.1,p1.2.2.2.2.2.2.2.2.1,p1.2.2.2.2.2.2.2.2.2.1,p1.2.2.2.2.2.2.2.2.2.2.1,p1.2.2.2.2.2.2.2.2.2.2.2.1,p1.2.2.2.2.2.2.2.2.2.2.2.2.1,p1.2.2.2.2.2.2.2.2.2.2.2.2.2.1,p1.2.2.2.2.2.2.2.2.2.2.2.2.2.2.1,p1.2.2.2.2.2.2.2.2.2.2.2.2.2.2.2.1,p1.2.2.2.2.2.2.2.2.2.2.2.2.2.2.2.2.1,p1.2.2.2.2.2.2.2.2.2.2.2.2.2.2.2.2.2.1,p1.2.2.2.2.2.2.2.2.2.2.2.2.2.2.2.2.2.2)))))
 else(Ae (DK N r36a.2.2 129) fun r36b =>
 bif r36b.2.1 then(Ae (DJ N r36b.1.2.1) fun r44b =>
 bif (r44b.2 != (0:Int))then(some (r44b.2,(p1.1,p1.2.1,p1.2.2.1,p1.2.2.2.1,p1.2.2.2.2.1,p1.2.2.2.2.2.1,p1.2.2.2.2.2.2.1,p1.2.2.2.2.2.2.2.1,r44b.1,p1.2.2.2.2.2.2.2.2.2.1,p1.2.2.2.2.2.2.2.2.2.2.1,p1.2.2.2.2.2.2.2.2.2.2.2.1,p1.2.2.2.2.2.2.2.2.2.2.2.2.1,p1.2.2.2.2.2.2.2.2.2.2.2.2.2.1,p1.2.2.2.2.2.2.2.2.2.2.2.2.2.2.1,p1.2.2.2.2.2.2.2.2.2.2.2.2.2.2.2.1,p1.2.2.2.2.2.2.2.2.2.2.2.2.2.2.2.2.1,p1.2.2.2.2.2.2.2.2.2.2.2.2.2.2.2.2.2.1,p1.2.2.2.2.2.2.2.2.2.2.2.2.2.2.2.2.2.2)))
 else(Ae (BF N r36b.2.2) fun r53 =>
 some (r53.1,(p1.1,p1.2.1,p1.2.2.1,p1.2.2.2.1,p1.2.2.2.2.1,p1.2.2.2.2.2.1,p1.2.2.2.2.2.2.1,p1.2.2.2.2.2.2.2.1,r44b.1,p1.2.2.2.2.2.2.2.2.2.1,p1.2.2.2.2.2.2.2.2.2.2.1,p1.2.2.2.2.2.2.2.2.2.2.2.1,p1.2.2.2.2.2.2.2.2.2.2.2.2.1,p1.2.2.2.2.2.2.2.2.2.2.2.2.2.1,p1.2.2.2.2.2.2.2.2.2.2.2.2.2.2.1,p1.2.2.2.2.2.2.2.2.2.2.2.2.2.2.2.1,p1.2.2.2.2.2.2.2.2.2.2.2.2.2.2.2.2.1,p1.2.2.2.2.2.2.2.2.2.2.2.2.2.2.2.2.2.1,p1.2.2.2.2.2.2.2.2.2.2.2.2.2.2.2.2.2.2))))
 else(Ae (BF N r36b.2.2) fun r53 =>
 some (r53.1,p1)))))
 (fun r13 =>
 bif (r13.2 != (0:Int))then(some (r13.2,p1))
 else(none))
abbrev Uc:Type:=Int×Yq4
def DF (N:Nat) (p0:Bs) (p1:Yq4):Option Uc :=
 Ae (MC N p0 2) fun r9 =>
 bif (r9.2 != (0:Int))then(some (r9.2,p1))
 else(Ae (DJ N r9.1.2.1) fun r19 =>
 some (r19.2,(p1.1,p1.2.1,p1.2.2.1,p1.2.2.2.1,p1.2.2.2.2.1,p1.2.2.2.2.2.1,p1.2.2.2.2.2.2.1,p1.2.2.2.2.2.2.2.1,p1.2.2.2.2.2.2.2.2.1,r19.1,p1.2.2.2.2.2.2.2.2.2.2.1,p1.2.2.2.2.2.2.2.2.2.2.2.1,p1.2.2.2.2.2.2.2.2.2.2.2.2.1,p1.2.2.2.2.2.2.2.2.2.2.2.2.2.1,p1.2.2.2.2.2.2.2.2.2.2.2.2.2.2.1,p1.2.2.2.2.2.2.2.2.2.2.2.2.2.2.2.1,p1.2.2.2.2.2.2.2.2.2.2.2.2.2.2.2.2.1,p1.2.2.2.2.2.2.2.2.2.2.2.2.2.2.2.2.2.1,p1.2.2.2.2.2.2.2.2.2.2.2.2.2.2.2.2.2.2)))
abbrev ZT:Type:=Int
def Gz (N:Nat) (p0:Bs):Option ZT :=
 bif (p0==([]:Bs))then(some 7)
 else(some 0)
abbrev Uf:Type:=Int×Yq4
def DI (N:Nat) (p0:Bs) (p1:Yq4):Option Uf :=
 Ae (MC N p0 4) fun r9 =>
 bif (r9.2 != (0:Int))then(some (r9.2,p1))
 else(Ae (Gz N r9.1.2.1) fun r24 =>
 some (r24,(p1.1,p1.2.1,p1.2.2.1,p1.2.2.2.1,p1.2.2.2.2.1,p1.2.2.2.2.2.1,p1.2.2.2.2.2.2.1,p1.2.2.2.2.2.2.2.1,p1.2.2.2.2.2.2.2.2.1,p1.2.2.2.2.2.2.2.2.2.1,p1.2.2.2.2.2.2.2.2.2.2.1,p1.2.2.2.2.2.2.2.2.2.2.2.1,p1.2.2.2.2.2.2.2.2.2.2.2.2.1,p1.2.2.2.2.2.2.2.2.2.2.2.2.2.1,r9.1.2.1,p1.2.2.2.2.2.2.2.2.2.2.2.2.2.2.2.1,p1.2.2.2.2.2.2.2.2.2.2.2.2.2.2.2.2.1,p1.2.2.2.2.2.2.2.2.2.2.2.2.2.2.2.2.2.1,p1.2.2.2.2.2.2.2.2.2.2.2.2.2.2.2.2.2.2)))
abbrev Ro:Type:=Int×Yq4
def Dk (N:Nat) (p0:Bs) (p1:Yq4):Option Ro :=
 Gp (MF N p0 48) (fun r11 =>
 bif (r11.2 != (0:Int))then(some (r11.2,p1))
 else(Ae (E8 N r11.1 128) fun r19 =>
 bif (r19.2.1 != (0:Int))then(some (r19.2.1,p1))
 else(Ae (Gz N r19.1.2.1) fun r34 =>
 bif (r34 != (0:Int))then(some (r34,(p1.1,p1.2.1,p1.2.2.1,p1.2.2.2.1,p1.2.2.2.2.1,p1.2.2.2.2.2.1,p1.2.2.2.2.2.2.1,p1.2.2.2.2.2.2.2.1,p1.2.2.2.2.2.2.2.2.1,p1.2.2.2.2.2.2.2.2.2.1,p1.2.2.2.2.2.2.2.2.2.2.1,p1.2.2.2.2.2.2.2.2.2.2.2.1,p1.2.2.2.2.2.2.2.2.2.2.2.2.1,p1.2.2.2.2.2.2.2.2.2.2.2.2.2.1,p1.2.2.2.2.2.2.2.2.2.2.2.2.2.2.1,r19.1.2.1,p1.2.2.2.2.2.2.2.2.2.2.2.2.2.2.2.2.1,p1.2.2.2.2.2.2.2.2.2.2.2.2.2.2.2.2.2.1,p1.2.2.2.2.2.2.2.2.2.2.2.2.2.2.2.2.2.2)))
 else(Ae (BF N r19.2.2) fun r39 =>
 some (r39.1,(p1.1,p1.2.1,p1.2.2.1,p1.2.2.2.1,p1.2.2.2.2.1,p1.2.2.2.2.2.1,p1.2.2.2.2.2.2.1,p1.2.2.2.2.2.2.2.1,p1.2.2.2.2.2.2.2.2.1,p1.2.2.2.2.2.2.2.2.2.1,p1.2.2.2.2.2.2.2.2.2.2.1,p1.2.2.2.2.2.2.2.2.2.2.2.1,p1.2.2.2.2.2.2.2.2.2.2.2.2.1,p1.2.2.2.2.2.2.2.2.2.2.2.2.2.1,p1.2.2.2.2.2.2.2.2.2.2.2.2.2.2.1,r19.1.2.1,p1.2.2.2.2.2.2.2.2.2.2.2.2.2.2.2.2.1,p1.2.2.2.2.2.2.2.2.2.2.2.2.2.2.2.2.2.1,p1.2.2.2.2.2.2.2.2.2.2.2.2.2.2.2.2.2.2))))))
 (fun r11 =>
 bif (r11.2 != (0:Int))then(some (r11.2,p1))
 else(none))
def Aac (N n:Nat) (a:Bs×Yq4):Option (Int×Yq4) :=
  bif Nat.beq n 113 then En N a.1 a.2 else
  bif Nat.beq n 116 then Eo N a.1 a.2 else
  bif Nat.beq n 119 then CU N a.1 a.2 else
  bif Nat.beq n 122 then CS N a.1 a.2 else
  bif Nat.beq n 125 then CQ N a.1 a.2 else
  bif Nat.beq n 128 then Ec N a.1 a.2 else
  bif Nat.beq n 131 then DF N a.1 a.2 else
  bif Nat.beq n 140 then DI N a.1 a.2 else
  bif Nat.beq n 143 then Dk N a.1 a.2 else
  none
abbrev kN:Type:=Int×Yq4
def Bc (N:Nat) (p0:Yq4) (p1:Yq5) (p2:Bs×Bool×Bs):Option kN :=
 Ae (ES N p2.1) fun r13 =>
 bif !r13 then(some (11,p0))
 else(Ar (X:=Int×Bool×Bool×Int×Int×Int×Int×Int×List Yq1×Bool×List Yq1×List Yq1×Bs×Bs×List Yq2×List Yq2×List Bs×List Bs×(List (Bs×Bs))×(List (Bs×Bool×Bs))×Bs×Bool×Bs) (Y:=(Bool×Bool×Int×Int×Int×Int×Int×List Yq1×Bool×List Yq1×List Yq1×Bs×Bs×List Yq2×List Yq2×List Bs×List Bs×(List (Bs×Bs))×(List (Bs×Bool×Bs))×Bs×Bool×Bs)) (U23 fun t17a b0_0a b0_1a b0_2a b0_3a b0_7a b0_8a b0_9a b0_10a b0_11a b0_12a b0_13a b0_14a b0_15a b0_16a b0_17a l5a l6a l7a l19a b34048_0a b34048_1a b34048_2a k1 x2 =>
 bif decide (t17a<(p1.length:Int))then(chk (decide ((0:Int)<=t17a)) <|
 chk (decide (t17a<(p1.length:Int))) <|
 bif (((p1.getD t17a.toNat (([]:Bs),false,([]:Bs))).1)==b34048_0a)then(some (10,(b0_0a,b0_1a,b0_2a,b0_3a,l5a,l6a,l7a,b0_7a,b0_8a,b0_9a,b0_10a,b0_11a,b0_12a,b0_13a,b0_14a,b0_15a,b0_16a,b0_17a,l19a)))
 else(k1 (i64.wrap (t17a+(1:Int)),b0_0a,b0_1a,b0_2a,b0_3a,b0_7a,b0_8a,b0_9a,b0_10a,b0_11a,b0_12a,b0_13a,b0_14a,b0_15a,b0_16a,b0_17a,l5a,l6a,l7a,l19a,b34048_0a,b34048_1a,b34048_2a)))
 else(x2 (b0_0a,b0_1a,b0_2a,b0_3a,b0_7a,b0_8a,b0_9a,b0_10a,b0_11a,b0_12a,b0_13a,b0_14a,b0_15a,b0_16a,b0_17a,l5a,l6a,l7a,l19a,b34048_0a,b34048_1a,b34048_2a)))
 N (0,p0.1,p0.2.1,p0.2.2.1,p0.2.2.2.1,p0.2.2.2.2.2.2.2.1,p0.2.2.2.2.2.2.2.2.1,p0.2.2.2.2.2.2.2.2.2.1,p0.2.2.2.2.2.2.2.2.2.2.1,p0.2.2.2.2.2.2.2.2.2.2.2.1,p0.2.2.2.2.2.2.2.2.2.2.2.2.1,p0.2.2.2.2.2.2.2.2.2.2.2.2.2.1,p0.2.2.2.2.2.2.2.2.2.2.2.2.2.2.1,p0.2.2.2.2.2.2.2.2.2.2.2.2.2.2.2.1,p0.2.2.2.2.2.2.2.2.2.2.2.2.2.2.2.2.1,p0.2.2.2.2.2.2.2.2.2.2.2.2.2.2.2.2.2.1,p0.2.2.2.2.1,p0.2.2.2.2.2.1,p0.2.2.2.2.2.2.1,p0.2.2.2.2.2.2.2.2.2.2.2.2.2.2.2.2.2.2,p2.1,p2.2.1,p2.2.2) (U22 fun b0_0b b0_1b b0_2b b0_3b b0_7b b0_8b b0_9b b0_10b b0_11b b0_12b b0_13b b0_14b b0_15b b0_16b b0_17b l5b l6b l7b l19b b34048_0b b34048_1b b34048_2b =>
 Ae (I7 N b34048_0b) fun r30 =>
 bif !r30.2 then(chk (decide ((l19b.length+1)*41<=140737488355328)) <|
 Ae (NJ N b34048_2b) fun r47 =>
 some (r47,(b0_0b,b0_1b,b0_2b,b0_3b,l5b,l6b,l7b,b0_7b,b0_8b,b0_9b,b0_10b,b0_11b,b0_12b,b0_13b,b0_14b,b0_15b,b0_16b,b0_17b,l19b++([(b34048_0b,b34048_1b,b34048_2b)]:List (Bs×Bool×Bs)))))
 else(Am ((r30.1.2.1==(1:Int))) fun b3 =>
 chk ((b3||(!b3))) <|
 chk ((b3||(!b3))) <|
 chk (bif b3 then b3 else true) <|
 chk (bif b3 then true else true) <|
 Am (bif b3 then !b34048_1b else false) fun b4 =>
 Am (b4) fun b5 =>
 chk (((!b5)||(!(!b5)))) <|
 chk (((!b5)||(!(!b5)))) <|
 chk (((!b5)||(!(!b5)))) <|
 Am ((r30.1.2.1==(0:Int))) fun b6 =>
 chk ((((!b5)&&b6)||(!((!b5)&&b6)))) <|
 chk (((!b5)||(!(!b5)))) <|
 chk (((bif b6 then((!b5)&&b6)else true)||(!(!b5)))) <|
 chk (((bif b6 then true else true)||(!(!b5)))) <|
 Am (bif b6 then b34048_1b else false) fun b7 =>
 chk (bif b5 then true else !b5) <|
 chk (bif b5 then true else true) <|
 Am (bif b5 then true else b7) fun b8 =>
 bif b8 then(some (20,(b0_0b,b0_1b,b0_2b,b0_3b,l5b,l6b,l7b,b0_7b,b0_8b,b0_9b,b0_10b,b0_11b,b0_12b,b0_13b,b0_14b,b0_15b,b0_16b,b0_17b,l19b)))
 else(Ae (Aac N r30.1.2.2.2.2 (b34048_2b,(b0_0b,b0_1b,b0_2b,b0_3b,l5b,l6b,l7b,b0_7b,b0_8b,b0_9b,b0_10b,b0_11b,b0_12b,b0_13b,b0_14b,b0_15b,b0_16b,b0_17b,l19b))) fun r70 =>
 some (r70.1,r70.2)))))
abbrev ZP:Type:=Yq4×Int
def EX (N:Nat) (p0:Yq5):Option ZP :=
 bif decide ((p0.length:Int)>(24:Int))then(some ((false,false,0,0,([]:List Bs),([]:List Bs),([]:List (Bs×Bs)),0,0,0,([]:List Yq1),false,([]:List Yq1),([]:List Yq1),([]:Bs),([]:Bs),([]:List Yq2),([]:List Yq2),([]:List (Bs×Bool×Bs))),2))
 else(Ae (I4 N) fun r13 =>
 Ar (X:=Int×Bool×Bool×Int×Int×Int×Int×Int×List Yq1×Bool×List Yq1×List Yq1×Bs×Bs×List Yq2×List Yq2×(List (Bs×Bool×Bs))×(List (Bs×Bs))×List Bs×List Bs) (Y:=(Bool×Bool×Int×Int×Int×Int×Int×List Yq1×Bool×List Yq1×List Yq1×Bs×Bs×List Yq2×List Yq2×(List (Bs×Bool×Bs))×(List (Bs×Bs))×List Bs×List Bs)) (U20 fun t16a b33792_0a b33792_1a b33792_2a b33792_3a b33792_7a b33792_8a b33792_9a b33792_10a b33792_11a b33792_12a b33792_13a b33792_14a b33792_15a b33792_16a b33792_17a l1000000a l1000016a l1000032a l1000048a k1 x2 =>
 bif decide (t16a<(p0.length:Int))then(chk (decide ((0:Int)<=t16a)) <|
 chk (decide (t16a<(p0.length:Int))) <|
 chk (decide ((0:Int)<=t16a)) <|
 chk (decide (t16a<=(p0.length:Int))) <|
 Ae (Bc N (b33792_0a,b33792_1a,b33792_2a,b33792_3a,l1000048a,l1000032a,l1000016a,b33792_7a,b33792_8a,b33792_9a,b33792_10a,b33792_11a,b33792_12a,b33792_13a,b33792_14a,b33792_15a,b33792_16a,b33792_17a,l1000000a) (AV p0 0 t16a.toNat) (p0.getD t16a.toNat (([]:Bs),false,([]:Bs)))) fun r25 =>
 bif (r25.1 != (0:Int))then(some ((false,false,0,0,([]:List Bs),([]:List Bs),([]:List (Bs×Bs)),0,0,0,([]:List Yq1),false,([]:List Yq1),([]:List Yq1),([]:Bs),([]:Bs),([]:List Yq2),([]:List Yq2),([]:List (Bs×Bool×Bs))),r25.1))
 else(k1 (i64.wrap (t16a+(1:Int)),r25.2.1,r25.2.2.1,r25.2.2.2.1,r25.2.2.2.2.1,r25.2.2.2.2.2.2.2.2.1,r25.2.2.2.2.2.2.2.2.2.1,r25.2.2.2.2.2.2.2.2.2.2.1,r25.2.2.2.2.2.2.2.2.2.2.2.1,r25.2.2.2.2.2.2.2.2.2.2.2.2.1,r25.2.2.2.2.2.2.2.2.2.2.2.2.2.1,r25.2.2.2.2.2.2.2.2.2.2.2.2.2.2.1,r25.2.2.2.2.2.2.2.2.2.2.2.2.2.2.2.1,r25.2.2.2.2.2.2.2.2.2.2.2.2.2.2.2.2.1,r25.2.2.2.2.2.2.2.2.2.2.2.2.2.2.2.2.2.1,r25.2.2.2.2.2.2.2.2.2.2.2.2.2.2.2.2.2.2.1,r25.2.2.2.2.2.2.2.2.2.2.2.2.2.2.2.2.2.2.2,r25.2.2.2.2.2.2.2.1,r25.2.2.2.2.2.2.1,r25.2.2.2.2.2.1)))
 else(x2 (b33792_0a,b33792_1a,b33792_2a,b33792_3a,b33792_7a,b33792_8a,b33792_9a,b33792_10a,b33792_11a,b33792_12a,b33792_13a,b33792_14a,b33792_15a,b33792_16a,b33792_17a,l1000000a,l1000016a,l1000032a,l1000048a)))
 N (0,r13.1,r13.2.1,r13.2.2.1,r13.2.2.2.1,r13.2.2.2.2.2.2.2.1,r13.2.2.2.2.2.2.2.2.1,r13.2.2.2.2.2.2.2.2.2.1,r13.2.2.2.2.2.2.2.2.2.2.1,r13.2.2.2.2.2.2.2.2.2.2.2.1,r13.2.2.2.2.2.2.2.2.2.2.2.2.1,r13.2.2.2.2.2.2.2.2.2.2.2.2.2.1,r13.2.2.2.2.2.2.2.2.2.2.2.2.2.2.1,r13.2.2.2.2.2.2.2.2.2.2.2.2.2.2.2.1,r13.2.2.2.2.2.2.2.2.2.2.2.2.2.2.2.2.1,r13.2.2.2.2.2.2.2.2.2.2.2.2.2.2.2.2.2.1,r13.2.2.2.2.2.2.2.2.2.2.2.2.2.2.2.2.2.2,r13.2.2.2.2.2.2.1,r13.2.2.2.2.2.1,r13.2.2.2.2.1) (U19 fun b33792_0b b33792_1b b33792_2b b33792_3b b33792_7b b33792_8b b33792_9b b33792_10b b33792_11b b33792_12b b33792_13b b33792_14b b33792_15b b33792_16b b33792_17b l1004096b l1004112b l1004128b l1004144b =>
 Ae (FC N (b33792_0b,b33792_1b,b33792_2b,b33792_3b,l1004144b,l1004128b,l1004112b,b33792_7b,b33792_8b,b33792_9b,b33792_10b,b33792_11b,b33792_12b,b33792_13b,b33792_14b,b33792_15b,b33792_16b,b33792_17b,l1004096b)) fun r32 =>
 bif (r32 != (0:Int))then(some ((false,false,0,0,([]:List Bs),([]:List Bs),([]:List (Bs×Bs)),0,0,0,([]:List Yq1),false,([]:List Yq1),([]:List Yq1),([]:Bs),([]:Bs),([]:List Yq2),([]:List Yq2),([]:List (Bs×Bool×Bs))),r32))
 else(some ((b33792_0b,b33792_1b,b33792_2b,b33792_3b,l1004144b,l1004128b,l1004112b,b33792_7b,b33792_8b,b33792_9b,b33792_10b,b33792_11b,b33792_12b,b33792_13b,b33792_14b,b33792_15b,b33792_16b,b33792_17b,l1004096b),0))))
abbrev XV:Type:=Int
def Hr (N:Nat) (p0:List Yq1):Option XV :=
 bif decide ((p0.length:Int)>(16:Int))then(some 2)
 else(Ar (X:=Unit) (Y:=Unit) (fun _ k1 x2 =>
 bif decide ((0:Int)<(p0.length:Int))then(chk (decide ((0:Int)<(p0.length:Int))) <|
 none)
 else(x2 ()))
 N () (fun _ =>
 some 0))
abbrev Wl:Type:=Int
def Ef (N:Nat) (p0:List Yq2):Option Wl :=
 bif decide ((p0.length:Int)>(4:Int))then(some 2)
 else(Ar (X:=Int) (Y:=Unit) (fun t12a k1 x2 =>
 bif decide (t12a<(p0.length:Int))then(chk (decide ((0:Int)<=t12a)) <|
 chk (decide (t12a<(p0.length:Int))) <|
 let x18:Int:=(((p0.getD t12a.toNat (([]:List Yq1),0,false,([]:List Yq0))).1).length:Int)
 Am ((x18==(0:Int))) fun b3 =>
 chk ((b3||(!b3))) <|
 let x22:Bool:=(p0.getD t12a.toNat (([]:List Yq1),0,false,([]:List Yq0))).2.2.1
 chk ((b3||(!b3))) <|
 chk (bif b3 then b3 else true) <|
 chk (bif b3 then true else true) <|
 Am (bif b3 then !x22 else false) fun b4 =>
 Am (b4) fun b5 =>
 chk (((!b5)||(!(!b5)))) <|
 let x27:Bool:=(p0.getD t12a.toNat (([]:List Yq1),0,false,([]:List Yq0))).2.2.1
 chk (((!b5)||(!(!b5)))) <|
 chk (((!b5)||(!(!b5)))) <|
 Am (!x27) fun b6 =>
 chk ((((!b5)&&b6)||(!((!b5)&&b6)))) <|
 chk ((((!b5)&&b6)||(!((!b5)&&b6)))) <|
 chk ((((!b5)&&b6)||(!((!b5)&&b6)))) <|
 let x33:Int:=(((p0.getD t12a.toNat (([]:List Yq1),0,false,([]:List Yq0))).2.2.2).length:Int)
 chk ((((!b5)&&b6)||(!((!b5)&&b6)))) <|
 chk (((!b5)||(!(!b5)))) <|
 chk (((bif b6 then((!b5)&&b6)else true)||(!(!b5)))) <|
 chk (((bif b6 then true else true)||(!(!b5)))) <|
 Am (bif b6 then decide (x33>(0:Int))else false) fun b7 =>
 chk (bif b5 then true else !b5) <|
 chk (bif b5 then true else true) <|
 Am (bif b5 then true else b7) fun b8 =>
 bif b8 then(some 7)
 else(let x39:Int:=Bg .andNot .i64 ((p0.getD t12a.toNat (([]:List Yq1),0,false,([]:List Yq0))).2.1) 510
 bif (x39 != (0:Int))then(some 1)
 else(Ae (Hr N ((p0.getD t12a.toNat (([]:List Yq1),0,false,([]:List Yq0))).1)) fun r43 =>
 bif (r43 != (0:Int))then(some r43)
 else(let x48:Bool:=(p0.getD t12a.toNat (([]:List Yq1),0,false,([]:List Yq0))).2.2.1
 bif x48 then(let x52:Int:=(((p0.getD t12a.toNat (([]:List Yq1),0,false,([]:List Yq0))).2.2.2).length:Int)
 bif (x52==(0:Int))then(some 14)
 else(none))
 else(k1 (i64.wrap (t12a+(1:Int))))))))
 else(x2 ()))
 N 0 (fun _ =>
 some 0))
abbrev qE:Type:=List Bs
def Nb (N:Nat):Option qE :=
 some ([([50,46,53,46,50,57,46,49,57]:Bs),([50,46,53,46,50,57,46,49,53]:Bs),([50,46,53,46,50,57,46,51,55]:Bs),([50,46,53,46,50,57,46,51,50]:Bs),([50,46,53,46,50,57,46,51,51]:Bs),([50,46,53,46,50,57,46,51,54]:Bs),([50,46,53,46,50,57,46,53,52]:Bs),([50,46,53,46,50,57,46,49,55]:Bs),([50,46,53,46,50,57,46,51,48]:Bs),([50,46,53,46,50,57,46,49,52]:Bs),([50,46,53,46,50,57,46,51,53]:Bs),([50,46,53,46,50,57,46,51,49]:Bs),([50,46,53,46,50,57,46,52,54]:Bs)]:List Bs)
abbrev qC:Type:=Bool
def Na (N:Nat) (p0:Bs):Option qC :=
 Ae (Nb N) fun r5 =>
 Ar (X:=Int) (Y:=Unit) (fun t7a k1 x2 =>
 bif decide (t7a<(r5.length:Int))then(chk (decide ((0:Int)<=t7a)) <|
 chk (decide (t7a<(r5.length:Int))) <|
 bif ((r5.getD t7a.toNat ([]:Bs))==p0)then(some true)
 else(k1 (i64.wrap (t7a+(1:Int)))))
 else(x2 ()))
 N 0 (fun _ =>
 some false)
abbrev wY:Type:=Bool
def Eu (N:Nat) (p0:Int):Option wY :=
 chk (((decide (p0>=((-1):Int)))||(!(decide (p0>=((-1):Int)))))) <|
 chk (bif decide (p0>=((-1):Int))then decide (p0>=((-1):Int))else true) <|
 chk (bif decide (p0>=((-1):Int))then true else true) <|
 let x8:Bool:=bif decide (p0>=((-1):Int))then decide (p0<=(64:Int))else false
 some x8
abbrev wM:Type:=List Int×Bool
def KW (N:Nat) (p0:Bs):Option wM :=
 Ar (X:=Int×Int×List Int) (Y:=(List Int)) (U3 fun t5a t6a l1000000a k1 x2 =>
 bif decide (t6a<=(p0.length:Int))then(chk (((decide (t6a<(p0.length:Int)))||(!(decide (t6a<(p0.length:Int)))))) <|
 chk (((decide (t6a<(p0.length:Int)))||(!(decide (t6a<(p0.length:Int)))))) <|
 chk (((decide ((0:Int)<=t6a))||(!(decide (t6a<(p0.length:Int)))))) <|
 chk (((decide (t6a<(p0.length:Int)))||(!(decide (t6a<(p0.length:Int)))))) <|
 chk (((decide (t6a<(p0.length:Int)))||(!(decide (t6a<(p0.length:Int)))))) <|
 chk (bif decide (t6a<(p0.length:Int))then decide (t6a<(p0.length:Int))else true) <|
 chk (bif decide (t6a<(p0.length:Int))then true else true) <|
 let x25:Bool:=bif decide (t6a<(p0.length:Int))then(((p0.getD t6a.toNat 0).toNat:Int) != (46:Int))else false
 bif x25 then(chk (decide ((0:Int)<=t6a)) <|
 chk (decide (t6a<(p0.length:Int))) <|
 chk (((!(decide (((p0.getD t6a.toNat 0).toNat:Int)<(48:Int))))||(!(!(decide (((p0.getD t6a.toNat 0).toNat:Int)<(48:Int))))))) <|
 chk (((!(decide (((p0.getD t6a.toNat 0).toNat:Int)<(48:Int))))||(!(!(decide (((p0.getD t6a.toNat 0).toNat:Int)<(48:Int))))))) <|
 chk (((decide ((0:Int)<=t6a))||(!(!(decide (((p0.getD t6a.toNat 0).toNat:Int)<(48:Int))))))) <|
 chk (((decide (t6a<(p0.length:Int)))||(!(!(decide (((p0.getD t6a.toNat 0).toNat:Int)<(48:Int))))))) <|
 chk (((!(decide (((p0.getD t6a.toNat 0).toNat:Int)<(48:Int))))||(!(!(decide (((p0.getD t6a.toNat 0).toNat:Int)<(48:Int))))))) <|
 chk (bif decide (((p0.getD t6a.toNat 0).toNat:Int)<(48:Int))then true else !(decide (((p0.getD t6a.toNat 0).toNat:Int)<(48:Int)))) <|
 chk (bif decide (((p0.getD t6a.toNat 0).toNat:Int)<(48:Int))then true else true) <|
 let x35:Bool:=bif decide (((p0.getD t6a.toNat 0).toNat:Int)<(48:Int))then true else decide (((p0.getD t6a.toNat 0).toNat:Int)>(57:Int))
 bif x35 then(some (([]:List Int),false))
 else(k1 (t5a,i64.wrap (t6a+(1:Int)),l1000000a)))
 else(chk (decide ((0:Int)<=t5a)) <|
 chk (decide (t5a<=t6a)) <|
 chk (decide (t6a<=(p0.length:Int))) <|
 Am ((((AV p0 t5a.toNat t6a.toNat).length:Int)==(0:Int))) fun b3 =>
 chk (((!b3)||(!(!b3)))) <|
 chk (((!b3)||(!(!b3)))) <|
 chk (bif b3 then true else !b3) <|
 chk (bif b3 then true else true) <|
 Am (bif b3 then true else decide (((AV p0 t5a.toNat t6a.toNat).length:Int)>(10:Int))) fun b4 =>
 Am (b4) fun b5 =>
 chk (((!b5)||(!(!b5)))) <|
 chk (((!b5)||(!(!b5)))) <|
 chk (((!b5)||(!(!b5)))) <|
 Am (decide (((AV p0 t5a.toNat t6a.toNat).length:Int)>(1:Int))) fun b6 =>
 chk ((((!b5)&&b6)||(!((!b5)&&b6)))) <|
 chk (((decide ((0:Int)<((AV p0 t5a.toNat t6a.toNat).length:Int)))||(!((!b5)&&b6)))) <|
 chk ((((!b5)&&b6)||(!((!b5)&&b6)))) <|
 chk (((!b5)||(!(!b5)))) <|
 chk (((bif b6 then((!b5)&&b6)else true)||(!(!b5)))) <|
 chk (((bif b6 then true else true)||(!(!b5)))) <|
 Am (bif b6 then((((AV p0 t5a.toNat t6a.toNat).getD 0 0).toNat:Int)==(48:Int))else false) fun b7 =>
 chk (bif b5 then true else !b5) <|
 chk (bif b5 then true else true) <|
 Am (bif b5 then true else b7) fun b8 =>
 Am (b8) fun b9 =>
 chk (((!b9)||(!(!b9)))) <|
 chk (((!b9)||(!(!b9)))) <|
 chk (bif b9 then true else !b9) <|
 chk (bif b9 then true else true) <|
 Am (bif b9 then true else((l1000000a.length:Int)==(12:Int))) fun b10 =>
 bif b10 then(some (([]:List Int),false))
 else(Ar (X:=Int×Int×List Int) (Y:=(Int×List Int)) (U3 fun t8b t9b l1004096b k11 x12 =>
 bif decide (t9b<((AV p0 t5a.toNat t6a.toNat).length:Int))then(chk (decide ((0:Int)<=t9b)) <|
 chk (decide (t9b<((AV p0 t5a.toNat t6a.toNat).length:Int))) <|
 let x74:Int:=IntKind.u8.wrap ((((AV p0 t5a.toNat t6a.toNat).getD t9b.toNat 0).toNat:Int) - (48:Int))
 let x76:Int:=i64.wrap ((i64.wrap ((10:Int)*t8b))+(i64.wrap x74))
 k11 (x76,i64.wrap (t9b+(1:Int)),l1004096b))
 else(x12 (t8b,l1004096b)))
 N (0,0,l1000000a) (U2 fun t8c l1008192c =>
 bif decide (t8c>(2147483647:Int))then(some (([]:List Int),false))
 else(chk (decide ((l1008192c.length+1)*9<=140737488355328)) <|
 k1 (i64.wrap (t6a+(1:Int)),i64.wrap (t6a+(1:Int)),l1008192c++([t8c]:List Int)))))))
 else(x2 l1000000a))
 N (0,0,([]:List Int)) (fun l1012288d =>
 Am (decide ((l1012288d.length:Int)<(2:Int))) fun b13 =>
 chk (((!b13)||(!(!b13)))) <|
 chk (((decide ((0:Int)<(l1012288d.length:Int)))||(!(!b13)))) <|
 chk (((!b13)||(!(!b13)))) <|
 chk (((decide (0<l1012288d.length))||(!(!b13)))) <|
 chk (((!b13)||(!(!b13)))) <|
 chk (bif b13 then true else !b13) <|
 chk (bif b13 then true else true) <|
 Am (bif b13 then true else decide ((l1012288d.getD 0 0)>(2:Int))) fun b14 =>
 Am (b14) fun b15 =>
 chk (((!b15)||(!(!b15)))) <|
 chk (((decide ((0:Int)<(l1012288d.length:Int)))||(!(!b15)))) <|
 chk (((!b15)||(!(!b15)))) <|
 chk (((decide (0<l1012288d.length))||(!(!b15)))) <|
 chk (((!b15)||(!(!b15)))) <|
 chk (((!b15)||(!(!b15)))) <|
 Am (decide ((l1012288d.getD 0 0)<(2:Int))) fun b16 =>
 chk ((((!b15)&&b16)||(!((!b15)&&b16)))) <|
 chk (((decide ((1:Int)<(l1012288d.length:Int)))||(!((!b15)&&b16)))) <|
 chk ((((!b15)&&b16)||(!((!b15)&&b16)))) <|
 chk (((decide (1<l1012288d.length))||(!((!b15)&&b16)))) <|
 chk ((((!b15)&&b16)||(!((!b15)&&b16)))) <|
 chk (((!b15)||(!(!b15)))) <|
 chk (((bif b16 then((!b15)&&b16)else true)||(!(!b15)))) <|
 chk (((bif b16 then true else true)||(!(!b15)))) <|
 Am (bif b16 then decide ((l1012288d.getD 1 0)>(39:Int))else false) fun b17 =>
 chk (bif b15 then true else !b15) <|
 chk (bif b15 then true else true) <|
 Am (bif b15 then true else b17) fun b18 =>
 bif b18 then(some (([]:List Int),false))
 else(some (l1012288d,true)))
abbrev dA:Type:=Bool
def A7 (N:Nat) (p0:Bs):Option dA :=
 Ae (KW N p0) fun r7 =>
 some r7.2
abbrev Zi:Type:=Int
def FW (N:Nat) (p0:List Bs) (p1:Int):Option Zi :=
 bif decide ((p0.length:Int)>p1)then(some 2)
 else(Ar (X:=Int) (Y:=Unit) (fun t14a k1 x2 =>
 bif decide (t14a<(p0.length:Int))then(chk (decide ((0:Int)<=t14a)) <|
 chk (decide (t14a<(p0.length:Int))) <|
 Ae (A7 N (p0.getD t14a.toNat ([]:Bs))) fun r20 =>
 bif !r20 then(some 11)
 else(Ar (X:=Int) (Y:=Unit) (fun t7b k3 x4 =>
 bif decide (t7b<t14a)then(chk (decide ((0:Int)<=t7b)) <|
 chk (decide (t7b<(p0.length:Int))) <|
 bif ((p0.getD t7b.toNat ([]:Bs))==(p0.getD t14a.toNat ([]:Bs)))then(some 10)
 else(k3 (i64.wrap (t7b+(1:Int)))))
 else(x4 ()))
 N 0 (fun _ =>
 k1 (i64.wrap (t14a+(1:Int))))))
 else(x2 ()))
 N 0 (fun _ =>
 some 0))
abbrev TM:Type:=Int
def Fv (N:Nat) (p0:List (Bs×Bs)):Option TM :=
 bif decide ((p0.length:Int)>(8:Int))then(some 2)
 else(Ar (X:=Int) (Y:=Unit) (fun t11a k1 x2 =>
 bif decide (t11a<(p0.length:Int))then(chk (decide ((0:Int)<=t11a)) <|
 chk (decide (t11a<(p0.length:Int))) <|
 Ae (A7 N ((p0.getD t11a.toNat (([]:Bs),([]:Bs))).1)) fun r18 =>
 chk (((!(!r18))||(!(!(!r18))))) <|
 chk (((!(!r18))||(!(!(!r18))))) <|
 chk ((((A7 N ((p0.getD t11a.toNat (([]:Bs),([]:Bs))).2)).isSome)||(!(!(!r18))))) <|
 let r23:=(A7 N ((p0.getD t11a.toNat (([]:Bs),([]:Bs))).2)).getD default
 chk (((!(!r18))||(!(!(!r18))))) <|
 chk (bif !r18 then true else !(!r18)) <|
 chk (bif !r18 then true else true) <|
 bif bif !r18 then true else !r23 then(some 11)
 else(Ar (X:=Int×Bs×Bs) (Y:=Unit) (U3 fun t5b b33792_0b b33792_1b k3 x4 =>
 bif decide (t5b<t11a)then(chk (decide ((0:Int)<=t5b)) <|
 chk (decide (t5b<(p0.length:Int))) <|
 let x36:Bool:=((((p0.getD t5b.toNat (([]:Bs),([]:Bs))).1)==b33792_0b)&&((((p0.getD t5b.toNat (([]:Bs),([]:Bs))).2)==b33792_1b)&&true))
 bif x36 then(some 10)
 else(k3 (i64.wrap (t5b+(1:Int)),b33792_0b,b33792_1b)))
 else(x4 ()))
 N (0,(p0.getD t11a.toNat (([]:Bs),([]:Bs))).1,(p0.getD t11a.toNat (([]:Bs),([]:Bs))).2) (fun _ =>
 k1 (i64.wrap (t11a+(1:Int))))))
 else(x2 ()))
 N 0 (fun _ =>
 some 0))
abbrev pY:Type:=Int
def Jw (N:Nat) (p0:Yq4):Option pY :=
 chk (((!(decide (p0.2.2.2.2.2.2.2.1>=(0:Int))))||(!(!(decide (p0.2.2.2.2.2.2.2.1>=(0:Int))))))) <|
 chk (((!(decide (p0.2.2.2.2.2.2.2.1>=(0:Int))))||(!(!(decide (p0.2.2.2.2.2.2.2.1>=(0:Int))))))) <|
 chk (bif decide (p0.2.2.2.2.2.2.2.1>=(0:Int))then true else !(decide (p0.2.2.2.2.2.2.2.1>=(0:Int)))) <|
 chk (bif decide (p0.2.2.2.2.2.2.2.1>=(0:Int))then true else true) <|
 let x33:Bool:=bif decide (p0.2.2.2.2.2.2.2.1>=(0:Int))then true else decide (p0.2.2.2.2.2.2.2.2.1>=(0:Int))
 let x52:Bool:=decide ((p0.2.2.2.2.2.2.2.2.2.2.2.2.2.2.2.2.1.length:Int)>(0:Int))
 let x56:Bool:=decide ((p0.2.2.2.2.2.2.2.2.2.2.2.2.2.2.2.2.2.1.length:Int)>(0:Int))
 Ar (X:=Int×Int×List Bool) (Y:=Int) (U3 fun t3a t59a l47360a k1 x2 =>
 bif decide (t59a<(13:Int))then(chk (decide ((0:Int)<=t59a)) <|
 chk (decide (t59a<(l47360a.length:Int))) <|
 chk (decide (t59a.toNat<l47360a.length)) <|
 bif (l47360a.getD t59a.toNat false)then(k1 (i64.wrap (t3a+(1:Int)),i64.wrap (t59a+(1:Int)),l47360a))
 else(k1 (t3a,i64.wrap (t59a+(1:Int)),l47360a)))
 else(x2 t3a))
 N ((p0.2.2.2.2.2.2.2.2.2.2.2.2.2.2.2.2.2.2.length:Int),0,([p0.1,(p0.2.2.2.1 != (0:Int)),decide ((p0.2.2.2.2.1.length:Int)>(0:Int)),decide ((p0.2.2.2.2.2.1.length:Int)>(0:Int)),decide ((p0.2.2.2.2.2.2.1.length:Int)>(0:Int)),x33,decide (p0.2.2.2.2.2.2.2.2.2.1>=(0:Int)),decide ((p0.2.2.2.2.2.2.2.2.2.2.1.length:Int)>(0:Int)),p0.2.2.2.2.2.2.2.2.2.2.2.1,!(p0.2.2.2.2.2.2.2.2.2.2.2.2.2.2.1==([]:Bs)),!(p0.2.2.2.2.2.2.2.2.2.2.2.2.2.2.2.1==([]:Bs)),x52,x56]:List Bool)) (fun t3b =>
 some t3b)
abbrev wQ:Type:=(Bs×Bool×Bs)×Bool
def EO (N:Nat) (p0:Yq5) (p1:Bs):Option wQ :=
 Ar (X:=Int) (Y:=Unit) (fun t10a k1 x2 =>
 bif decide (t10a<(p0.length:Int))then(chk (decide ((0:Int)<=t10a)) <|
 chk (decide (t10a<(p0.length:Int))) <|
 bif (((p0.getD t10a.toNat (([]:Bs),false,([]:Bs))).1)==p1)then(some ((p0.getD t10a.toNat (([]:Bs),false,([]:Bs))),true))
 else(k1 (i64.wrap (t10a+(1:Int)))))
 else(x2 ()))
 N 0 (fun _ =>
 some ((([]:Bs),false,([]:Bs)),false))
abbrev wK:Type:=(Int×Bs×Bs)×Bs×Int
def Hq (N:Nat) (p0:Bs):Option wK :=
 bif ((p0.length:Int)==(0:Int))then(some ((0,([]:Bs),([]:Bs)),([]:Bs),3))
 else(chk (decide ((0:Int)<(p0.length:Int))) <|
 bif ((((p0.getD 0 0).toNat:Int).tmod 32)==(31:Int))then(some ((0,([]:Bs),([]:Bs)),([]:Bs),5))
 else(bif ((p0.length:Int)==(1:Int))then(some ((0,([]:Bs),([]:Bs)),([]:Bs),3))
 else(chk (decide ((1:Int)<(p0.length:Int))) <|
 chk (((!((i64.wrap ((p0.getD 1 0).toNat:Int))==(128:Int)))||(!(!((i64.wrap ((p0.getD 1 0).toNat:Int))==(128:Int)))))) <|
 chk (bif ((i64.wrap ((p0.getD 1 0).toNat:Int))==(128:Int))then true else !((i64.wrap ((p0.getD 1 0).toNat:Int))==(128:Int))) <|
 chk (bif ((i64.wrap ((p0.getD 1 0).toNat:Int))==(128:Int))then true else true) <|
 let x33:Bool:=bif ((i64.wrap ((p0.getD 1 0).toNat:Int))==(128:Int))then true else decide ((i64.wrap ((p0.getD 1 0).toNat:Int))>(131:Int))
 bif x33 then(some ((0,([]:Bs),([]:Bs)),([]:Bs),6))
 else(KD (α :=Int×Int) (fun j1 =>
 bif decide ((i64.wrap ((p0.getD 1 0).toNat:Int))>(128:Int))then(let x38:Int:=i64.wrap ((i64.wrap ((p0.getD 1 0).toNat:Int)) - (128:Int))
 bif decide ((p0.length:Int)<(i64.wrap ((2:Int)+x38)))then(some ((0,([]:Bs),([]:Bs)),([]:Bs),3))
 else(Ar (X:=Int×Int) (Y:=Int) (U2 fun t6b t9b k2 x3 =>
 bif decide (t9b<x38)then(chk (decide ((0:Int)<=i64.wrap ((2:Int)+t9b))) <|
 chk (decide (i64.wrap ((2:Int)+t9b)<(p0.length:Int))) <|
 let x56:Int:=i64.wrap ((p0.getD ((i64.wrap ((2:Int)+t9b)).toNat) 0).toNat:Int)
 k2 (i64.wrap ((i64.wrap ((256:Int)*t6b))+x56),i64.wrap (t9b+(1:Int))))
 else(x3 t6b))
 N (0,0) (fun t6c =>
 chk (decide ((0:Int)<=x38)) <|
 chk (decide (x38<(4:Int))) <|
 chk (decide (x38.toNat<4)) <|
 chk (((!(decide (t6c<(([0,128,256,65536]:List Int).getD x38.toNat 0))))||(!(!(decide (t6c<(([0,128,256,65536]:List Int).getD x38.toNat 0))))))) <|
 chk (bif decide (t6c<(([0,128,256,65536]:List Int).getD x38.toNat 0))then true else !(decide (t6c<(([0,128,256,65536]:List Int).getD x38.toNat 0)))) <|
 chk (bif decide (t6c<(([0,128,256,65536]:List Int).getD x38.toNat 0))then true else true) <|
 let x70:Bool:=bif decide (t6c<(([0,128,256,65536]:List Int).getD x38.toNat 0))then true else decide (t6c>(131072:Int))
 bif x70 then(some ((0,([]:Bs),([]:Bs)),([]:Bs),6))
 else(j1 (t6c,i64.wrap ((2:Int)+x38))))))
 else(j1 (i64.wrap ((p0.getD 1 0).toNat:Int),2)))
 (U2 fun t6a t7a =>
 bif decide ((i64.wrap ((p0.length:Int) - t7a))<t6a)then(some ((0,([]:Bs),([]:Bs)),([]:Bs),3))
 else(chk (decide ((0:Int)<(p0.length:Int))) <|
 chk (decide ((0:Int)<=t7a)) <|
 chk (decide (t7a<=i64.wrap (t7a+t6a))) <|
 chk (decide (i64.wrap (t7a+t6a)<=(p0.length:Int))) <|
 chk (decide ((0:Int)<=i64.wrap (t7a+t6a))) <|
 chk (decide (i64.wrap (t7a+t6a)<=(p0.length:Int))) <|
 chk (decide ((0:Int)<=i64.wrap (t7a+t6a))) <|
 chk (decide (i64.wrap (t7a+t6a)<=(p0.length:Int))) <|
 some ((i64.wrap ((p0.getD 0 0).toNat:Int),AV p0 t7a.toNat ((i64.wrap (t7a+t6a)).toNat),AV p0 0 ((i64.wrap (t7a+t6a)).toNat)),AV p0 ((i64.wrap (t7a+t6a)).toNat) p0.length,0)))))))
abbrev yQ:Type:=(Int×Bs×Bs)×Int
def NG (N:Nat) (p0:Bs):Option yQ :=
 Ae (Hq N p0) fun r9 =>
 bif (r9.2.2 != (0:Int))then(some ((0,([]:Bs),([]:Bs)),r9.2.2))
 else(bif decide ((r9.2.1.length:Int)>(0:Int))then(some ((0,([]:Bs),([]:Bs)),4))
 else(some (r9.1,0)))
abbrev Ob:Type:=Int
def Fh (N:Nat) (F:(Int×Bs×Bs)->Int->Option Ob) (p0:Int×Bs×Bs) (p1:Int):Option Ob :=
 bif (((i64.wrap (p0.1.tdiv 32)).tmod 2)==(0:Int))then(some 0)
 else(Ar (X:=Bs) (Y:=Unit) (fun t5a k1 x2 =>
 bif decide ((t5a.length:Int)>(0:Int))then(Ae (Hq N t5a) fun r22 =>
 bif (r22.2.2 != (0:Int))then(some r22.2.2)
 else(bif decide ((i64.wrap (p1+(1:Int)))>=(16:Int))then(some 8)
 else(Ae (F r22.1 (i64.wrap (p1+(1:Int)))) fun r35 =>
 bif (r35 != (0:Int))then(some r35)
 else(k1 r22.2.1))))
 else(x2 ()))
 N p0.2.1 (fun _ =>
 some 0))
def Gj (N:Nat):Nat->(Int×Bs×Bs)->Int->Option Ob
  | 0=>fun p0 p1=>none
  | n+1=>fun p0 p1=>Fh N (Gj N n) p0 p1
abbrev pJ:Type:=Int
def Ju (N:Nat) (p0:Bs):Option pJ :=
 Ae (NG N p0) fun r7 =>
 bif (r7.2 != (0:Int))then(some r7.2)
 else(Ae (Gj N N r7.1 0) fun r14 =>
 some r14)
abbrev Zg:Type:=Int
def FU (N:Nat) (p0:Yq4):Option Zg :=
 Am (p0.2.1) fun b1 =>
 chk ((b1||(!b1))) <|
 chk ((b1||(!b1))) <|
 chk (bif b1 then b1 else true) <|
 chk (bif b1 then true else true) <|
 Am (bif b1 then !p0.1 else false) fun b2 =>
 Am (b2) fun b3 =>
 chk (((!b3)||(!(!b3)))) <|
 chk (((!b3)||(!(!b3)))) <|
 chk (((!b3)||(!(!b3)))) <|
 Am ((p0.2.2.1 != ((-1):Int))) fun b4 =>
 chk ((((!b3)&&b4)||(!((!b3)&&b4)))) <|
 chk ((((!b3)&&b4)||(!((!b3)&&b4)))) <|
 chk (((!b3)||(!(!b3)))) <|
 chk (((bif b4 then((!b3)&&b4)else true)||(!(!b3)))) <|
 chk (((bif b4 then true else true)||(!(!b3)))) <|
 Am (bif b4 then !p0.2.1 else false) fun b5 =>
 chk (bif b3 then true else !b3) <|
 chk (bif b3 then true else true) <|
 Am (bif b3 then true else b5) fun b6 =>
 bif b6 then(some 7)
 else(Ae (Eu N p0.2.2.1) fun r34 =>
 Am (!r34) fun b7 =>
 chk (((!b7)||(!(!b7)))) <|
 chk (((!b7)||(!(!b7)))) <|
 chk ((((Eu N p0.2.2.2.2.2.2.2.1).isSome)||(!(!b7)))) <|
 let r39:=(Eu N p0.2.2.2.2.2.2.2.1).getD default
 chk (((!b7)||(!(!b7)))) <|
 chk (bif b7 then true else !b7) <|
 chk (bif b7 then true else true) <|
 Am (bif b7 then true else !r39) fun b8 =>
 Am (b8) fun b9 =>
 chk (((!b9)||(!(!b9)))) <|
 chk (((!b9)||(!(!b9)))) <|
 chk ((((Eu N p0.2.2.2.2.2.2.2.2.1).isSome)||(!(!b9)))) <|
 let r45:=(Eu N p0.2.2.2.2.2.2.2.2.1).getD default
 chk (((!b9)||(!(!b9)))) <|
 chk (bif b9 then true else !b9) <|
 chk (bif b9 then true else true) <|
 Am (bif b9 then true else !r45) fun b10 =>
 Am (b10) fun b11 =>
 chk (((!b11)||(!(!b11)))) <|
 chk (((!b11)||(!(!b11)))) <|
 chk ((((Eu N p0.2.2.2.2.2.2.2.2.2.1).isSome)||(!(!b11)))) <|
 let r51:=(Eu N p0.2.2.2.2.2.2.2.2.2.1).getD default
 chk (((!b11)||(!(!b11)))) <|
 chk (bif b11 then true else !b11) <|
 chk (bif b11 then true else true) <|
 Am (bif b11 then true else !r51) fun b12 =>
 Am (b12) fun b13 =>
 chk (((!b13)||(!(!b13)))) <|
 chk (((!b13)||(!(!b13)))) <|
 chk (bif b13 then true else !b13) <|
 chk (bif b13 then true else true) <|
 Am (bif b13 then true else decide (p0.2.2.2.1<(0:Int))) fun b14 =>
 Am (b14) fun b15 =>
 chk (((!b15)||(!(!b15)))) <|
 chk (((!b15)||(!(!b15)))) <|
 chk (bif b15 then true else !b15) <|
 chk (bif b15 then true else true) <|
 Am (bif b15 then true else decide (p0.2.2.2.1>(511:Int))) fun b16 =>
 bif b16 then(some 1)
 else(Ae (FW N p0.2.2.2.2.1 8) fun r66 =>
 bif (r66 != (0:Int))then(some r66)
 else(Ae (FW N p0.2.2.2.2.2.1 8) fun r72 =>
 bif (r72 != (0:Int))then(some r72)
 else(Ae (Fv N p0.2.2.2.2.2.2.1) fun r78 =>
 bif (r78 != (0:Int))then(some r78)
 else(Ae (Hr N p0.2.2.2.2.2.2.2.2.2.2.1) fun r84 =>
 bif (r84 != (0:Int))then(some r84)
 else(KD (α :=Bool×Bool×Int×Int×List Bs×List Bs×(List (Bs×Bs))×Int×Int×Int×List Yq1×Bool×List Yq1×List Yq1×Bs×Bs×List Yq2×List Yq2×List (Bs×Bool×Bs)) (fun j17 =>
 bif p0.2.2.2.2.2.2.2.2.2.2.2.1 then(none)
 else(chk (((!(decide ((p0.2.2.2.2.2.2.2.2.2.2.2.2.1.length:Int)>(0:Int))))||(!(!(decide ((p0.2.2.2.2.2.2.2.2.2.2.2.2.1.length:Int)>(0:Int))))))) <|
 chk (((!(decide ((p0.2.2.2.2.2.2.2.2.2.2.2.2.1.length:Int)>(0:Int))))||(!(!(decide ((p0.2.2.2.2.2.2.2.2.2.2.2.2.1.length:Int)>(0:Int))))))) <|
 chk (((!(decide ((p0.2.2.2.2.2.2.2.2.2.2.2.2.1.length:Int)>(0:Int))))||(!(!(decide ((p0.2.2.2.2.2.2.2.2.2.2.2.2.1.length:Int)>(0:Int))))))) <|
 chk (((!(decide ((p0.2.2.2.2.2.2.2.2.2.2.2.2.1.length:Int)>(0:Int))))||(!(!(decide ((p0.2.2.2.2.2.2.2.2.2.2.2.2.1.length:Int)>(0:Int))))))) <|
 chk (bif decide ((p0.2.2.2.2.2.2.2.2.2.2.2.2.1.length:Int)>(0:Int))then true else !(decide ((p0.2.2.2.2.2.2.2.2.2.2.2.2.1.length:Int)>(0:Int)))) <|
 chk (bif decide ((p0.2.2.2.2.2.2.2.2.2.2.2.2.1.length:Int)>(0:Int))then true else true) <|
 let x107:Bool:=bif decide ((p0.2.2.2.2.2.2.2.2.2.2.2.2.1.length:Int)>(0:Int))then true else decide ((p0.2.2.2.2.2.2.2.2.2.2.2.2.2.1.length:Int)>(0:Int))
 bif x107 then(some 7)
 else(j17 (p0.1,p0.2.1,p0.2.2.1,p0.2.2.2.1,p0.2.2.2.2.1,p0.2.2.2.2.2.1,p0.2.2.2.2.2.2.1,p0.2.2.2.2.2.2.2.1,p0.2.2.2.2.2.2.2.2.1,p0.2.2.2.2.2.2.2.2.2.1,p0.2.2.2.2.2.2.2.2.2.2.1,p0.2.2.2.2.2.2.2.2.2.2.2.1,p0.2.2.2.2.2.2.2.2.2.2.2.2.1,p0.2.2.2.2.2.2.2.2.2.2.2.2.2.1,p0.2.2.2.2.2.2.2.2.2.2.2.2.2.2.1,p0.2.2.2.2.2.2.2.2.2.2.2.2.2.2.2.1,p0.2.2.2.2.2.2.2.2.2.2.2.2.2.2.2.2.1,p0.2.2.2.2.2.2.2.2.2.2.2.2.2.2.2.2.2.1,p0.2.2.2.2.2.2.2.2.2.2.2.2.2.2.2.2.2.2))))
 (U19 fun b33024_0a b33024_1a b33024_2a b33024_3a b33024_4a b33024_5a b33024_6a b33024_7a b33024_8a b33024_9a b33024_10a b33024_11a b33024_12a b33024_13a b33024_14a b33024_15a b33024_16a b33024_17a b33024_18a =>
 chk (((!(decide ((b33024_14a.length:Int)>(32:Int))))||(!(!(decide ((b33024_14a.length:Int)>(32:Int))))))) <|
 chk (((!(decide ((b33024_14a.length:Int)>(32:Int))))||(!(!(decide ((b33024_14a.length:Int)>(32:Int))))))) <|
 chk (((!(decide ((b33024_14a.length:Int)>(32:Int))))||(!(!(decide ((b33024_14a.length:Int)>(32:Int))))))) <|
 chk (bif decide ((b33024_14a.length:Int)>(32:Int))then true else !(decide ((b33024_14a.length:Int)>(32:Int)))) <|
 chk (bif decide ((b33024_14a.length:Int)>(32:Int))then true else true) <|
 let x117:Bool:=bif decide ((b33024_14a.length:Int)>(32:Int))then true else decide ((b33024_15a.length:Int)>(32:Int))
 bif x117 then(some 2)
 else(Ae (Ef N b33024_16a) fun r120 =>
 bif (r120 != (0:Int))then(some r120)
 else(Ae (Ef N b33024_17a) fun r126 =>
 bif (r126 != (0:Int))then(some r126)
 else(Ae (Jw N (b33024_0a,b33024_1a,b33024_2a,b33024_3a,b33024_4a,b33024_5a,b33024_6a,b33024_7a,b33024_8a,b33024_9a,b33024_10a,b33024_11a,b33024_12a,b33024_13a,b33024_14a,b33024_15a,b33024_16a,b33024_17a,b33024_18a)) fun r131 =>
 bif decide (r131>(24:Int))then(some 2)
 else(Ar (X:=Int×Bool×Bool×Int×Int×List Bs×List Bs×(List (Bs×Bs))×Int×Int×Int×List Yq1×Bool×List Yq1×List Yq1×Bs×Bs×List Yq2×List Yq2×List (Bs×Bool×Bs)) (Y:=Unit) (U20 fun t136b b33024_0b b33024_1b b33024_2b b33024_3b b33024_4b b33024_5b b33024_6b b33024_7b b33024_8b b33024_9b b33024_10b b33024_11b b33024_12b b33024_13b b33024_14b b33024_15b b33024_16b b33024_17b b33024_18b k18 x19 =>
 bif decide (t136b<(b33024_18a.length:Int))then(chk (decide ((0:Int)<=t136b)) <|
 chk (decide (t136b<(b33024_18a.length:Int))) <|
 Ae (A7 N ((b33024_18a.getD t136b.toNat (([]:Bs),false,([]:Bs))).1)) fun r143 =>
 bif !r143 then(some 11)
 else(Ae (Na N ((b33024_18a.getD t136b.toNat (([]:Bs),false,([]:Bs))).1)) fun r147 =>
 bif r147 then(some 20)
 else(chk (decide ((0:Int)<=t136b)) <|
 chk (decide (t136b<=(b33024_18b.length:Int))) <|
 Ae (EO N (AV b33024_18b 0 t136b.toNat) ((b33024_18a.getD t136b.toNat (([]:Bs),false,([]:Bs))).1)) fun r155 =>
 bif r155.2 then(some 10)
 else(Ae (Ju N ((b33024_18a.getD t136b.toNat (([]:Bs),false,([]:Bs))).2.2)) fun r161 =>
 bif (r161 != (0:Int))then(some r161)
 else(k18 (i64.wrap (t136b+(1:Int)),b33024_0b,b33024_1b,b33024_2b,b33024_3b,b33024_4b,b33024_5b,b33024_6b,b33024_7b,b33024_8b,b33024_9b,b33024_10b,b33024_11b,b33024_12b,b33024_13b,b33024_14b,b33024_15b,b33024_16b,b33024_17b,b33024_18b))))))
 else(x19 ()))
 N (0,b33024_0a,b33024_1a,b33024_2a,b33024_3a,b33024_4a,b33024_5a,b33024_6a,b33024_7a,b33024_8a,b33024_9a,b33024_10a,b33024_11a,b33024_12a,b33024_13a,b33024_14a,b33024_15a,b33024_16a,b33024_17a,b33024_18a) (fun _ =>
 some 0))))))))))))
abbrev wR:Type:=Yq4
def OW (N:Nat):Option wR :=
 some (false,false,(-1),0,([]:List Bs),([]:List Bs),([]:List (Bs×Bs)),(-1),(-1),(-1),([]:List Yq1),false,([]:List Yq1),([]:List Yq1),([]:Bs),([]:Bs),([]:List Yq2),([]:List Yq2),([]:List (Bs×Bool×Bs)))
abbrev Zk:Type:=Bool
def AB (N:Nat) (p0:Bs×Bool×Bs):Option Zk :=
 KD (α :=Bool×Bs×Bool×Bs) (fun j1 =>
 bif (p0.1==([50,46,53,46,50,57,46,49,57]:Bs))then(j1 ((p0.1==([50,46,53,46,50,57,46,49,57]:Bs)),p0.1,p0.2.1,p0.2.2))
 else(bif (p0.1==([50,46,53,46,50,57,46,49,53]:Bs))then(j1 ((p0.1==([50,46,53,46,50,57,46,49,53]:Bs)),p0.1,p0.2.1,p0.2.2))
 else(bif (p0.1==([50,46,53,46,50,57,46,51,54]:Bs))then(j1 ((p0.1==([50,46,53,46,50,57,46,51,54]:Bs)),p0.1,p0.2.1,p0.2.2))
 else(bif (p0.1==([50,46,53,46,50,57,46,53,52]:Bs))then(j1 ((p0.1==([50,46,53,46,50,57,46,53,52]:Bs)),p0.1,p0.2.1,p0.2.2))
 else(j1 ((p0.1==([50,46,53,46,50,57,46,51,48]:Bs)),p0.1,p0.2.1,p0.2.2))))))
 (U4 fun t5a b33024_0a b33024_1a b33024_2a =>
 bif t5a then(some (!b33024_1a))
 else(bif (p0.1==([50,46,53,46,50,57,46,49,52]:Bs))then(bif (p0.1==([50,46,53,46,50,57,46,49,52]:Bs))then(some b33024_1a)
 else(some false))
 else(bif (p0.1==([50,46,53,46,50,57,46,51,53]:Bs))then(bif (p0.1==([50,46,53,46,50,57,46,51,53]:Bs))then(some b33024_1a)
 else(some false))
 else(bif (p0.1==([50,46,53,46,50,57,46,51,49]:Bs))then(bif (p0.1==([50,46,53,46,50,57,46,51,49]:Bs))then(some b33024_1a)
 else(some false))
 else(bif (p0.1==([50,46,53,46,50,57,46,52,54]:Bs))then(some b33024_1a)
 else(some false))))))
abbrev wI:Type:=Yq7×Int
def OV (N:Nat) (p0:Bs):Option wI :=
 Ar (X:=Bs×List (Int×Bs×Bs)) (Y:=(List (Int×Bs×Bs))) (U2 fun t0a l1000000a k1 x2 =>
 bif decide ((t0a.length:Int)>(0:Int))then(Ae (Hq N t0a) fun r13 =>
 bif (r13.2.2 != (0:Int))then(some (([]:List (Int×Bs×Bs)),r13.2.2))
 else(chk (decide ((l1000000a.length+1)*41<=140737488355328)) <|
 k1 (r13.2.1,l1000000a++([r13.1]:List (Int×Bs×Bs)))))
 else(x2 l1000000a))
 N (p0,([]:List (Int×Bs×Bs))) (fun l1004096b =>
 some (l1004096b,0))
abbrev wO:Type:=Yq8×Int
def Jg (N:Nat) (p0:Int×Bs×Bs) (p1:Int):Option wO :=
 bif (p0.1 != p1)then(some ((([]:List (Int×Bs×Bs)),0),5))
 else(Ae (OV N p0.2.1) fun r16 =>
 some ((r16.1,0),r16.2))
abbrev qK:Type:=(Int×Bs×Bs)×Int
def ET (N:Nat) (p0:Bs) (p1:Int):Option qK :=
 Ae (NG N p0) fun r10 =>
 bif (r10.2 != (0:Int))then(some ((0,([]:Bs),([]:Bs)),r10.2))
 else(bif (r10.1.1 != p1)then(some ((0,([]:Bs),([]:Bs)),5))
 else(some (r10.1,0)))
abbrev wV:Type:=Yq8×Int
def FX (N:Nat) (p0:Bs):Option wV :=
 Ae (ET N p0 48) fun r8 =>
 bif (r8.2 != (0:Int))then(some ((([]:List (Int×Bs×Bs)),0),r8.2))
 else(Ae (Jg N r8.1 48) fun r16 =>
 some (r16.1,r16.2))
abbrev XL:Type:=Int×Yq8
def Dh (N:Nat) (p0:Yq8):Option XL :=
 bif decide (p0.2<(p0.1.length:Int))then(some (4,p0))
 else(some (0,p0))
abbrev wG:Type:=Bs×Int×Int
def OU (N:Nat) (p0:Bs):Option wG :=
 Am (((p0.length:Int)==(0:Int))) fun b1 =>
 chk (((!b1)||(!(!b1)))) <|
 chk (((decide ((0:Int)<(p0.length:Int)))||(!(!b1)))) <|
 chk (((!b1)||(!(!b1)))) <|
 chk (bif b1 then true else !b1) <|
 chk (bif b1 then true else true) <|
 Am (bif b1 then true else decide (((p0.getD 0 0).toNat:Int)>(7:Int))) fun b2 =>
 Am (b2) fun b3 =>
 chk (((!b3)||(!(!b3)))) <|
 chk (((decide ((0:Int)<(p0.length:Int)))||(!(!b3)))) <|
 chk (((!b3)||(!(!b3)))) <|
 chk (((!b3)||(!(!b3)))) <|
 Am (decide (((p0.getD 0 0).toNat:Int)>(0:Int))) fun b4 =>
 chk ((((!b3)&&b4)||(!((!b3)&&b4)))) <|
 chk ((((!b3)&&b4)||(!((!b3)&&b4)))) <|
 chk ((((!b3)&&b4)||(!((!b3)&&b4)))) <|
 Am (((p0.length:Int)==(1:Int))) fun b5 =>
 chk (((((!b3)&&b4)&&(!b5))||(!(((!b3)&&b4)&&(!b5))))) <|
 chk (((((!b3)&&b4)&&(!b5))||(!(((!b3)&&b4)&&(!b5))))) <|
 chk (((((!b3)&&b4)&&(!b5))||(!(((!b3)&&b4)&&(!b5))))) <|
 chk (((((!b3)&&b4)&&(!b5))||(!(((!b3)&&b4)&&(!b5))))) <|
 chk (((decide ((0:Int)<=i64.wrap ((p0.length:Int) - (1:Int))))||(!(((!b3)&&b4)&&(!b5))))) <|
 chk (((decide (i64.wrap ((p0.length:Int) - (1:Int))<(p0.length:Int)))||(!(((!b3)&&b4)&&(!b5))))) <|
 let x26:Int:=((p0.getD ((i64.wrap ((p0.length:Int) - (1:Int))).toNat) 0).toNat:Int)
 chk (((((!b3)&&b4)&&(!b5))||(!(((!b3)&&b4)&&(!b5))))) <|
 chk (((((!b3)&&b4)&&(!b5))||(!(((!b3)&&b4)&&(!b5))))) <|
 chk (((decide ((0:Int)<(p0.length:Int)))||(!(((!b3)&&b4)&&(!b5))))) <|
 chk (((((!b3)&&b4)&&(!b5))||(!(((!b3)&&b4)&&(!b5))))) <|
 chk (((decide ((0:Int)<=((p0.getD 0 0).toNat:Int)))||(!(((!b3)&&b4)&&(!b5))))) <|
 let x30:Int:=i64.wrap ((1:Int)*(2 ^ (min ((p0.getD 0 0).toNat:Int).toNat 64)))
 chk (((((!b3)&&b4)&&(!b5))||(!(((!b3)&&b4)&&(!b5))))) <|
 chk (((((!b3)&&b4)&&(!b5))||(!(((!b3)&&b4)&&(!b5))))) <|
 chk (((x30 != 0)||(!(((!b3)&&b4)&&(!b5))))) <|
 chk (((((!b3)&&b4)&&(!b5))||(!(((!b3)&&b4)&&(!b5))))) <|
 chk ((((!b3)&&b4)||(!((!b3)&&b4)))) <|
 chk (((bif b5 then true else(((!b3)&&b4)&&(!b5)))||(!((!b3)&&b4)))) <|
 chk (((bif b5 then true else true)||(!((!b3)&&b4)))) <|
 Am (bif b5 then true else(((i64.wrap x26).tmod x30) != (0:Int))) fun b6 =>
 chk (((!b3)||(!(!b3)))) <|
 chk (((bif b4 then((!b3)&&b4)else true)||(!(!b3)))) <|
 chk (((bif b4 then true else true)||(!(!b3)))) <|
 Am (bif b4 then b6 else false) fun b7 =>
 chk (bif b3 then true else !b3) <|
 chk (bif b3 then true else true) <|
 Am (bif b3 then true else b7) fun b8 =>
 bif b8 then(some (([]:Bs),0,7))
 else(chk (decide ((1:Int)<=(p0.length:Int))) <|
 chk (decide ((0:Int)<(p0.length:Int))) <|
 some (AV p0 1 p0.length,i64.wrap ((p0.getD 0 0).toNat:Int),0))
abbrev pM:Type:=Int×Int
def MZ (N:Nat) (p0:Bs):Option pM :=
 Ae (OU N p0) fun r12 =>
 bif (r12.2.2 != (0:Int))then(some (0,r12.2.2))
 else(let x23:Int:=i64.wrap ((i64.wrap ((8:Int)*(r12.1.length:Int))) - r12.2.1)
 chk (((decide (x23>(0:Int)))||(!(decide (x23>(0:Int)))))) <|
 chk (((decide (x23>(0:Int)))||(!(decide (x23>(0:Int)))))) <|
 chk (((decide (x23>(0:Int)))||(!(decide (x23>(0:Int)))))) <|
 chk (((decide (x23>(0:Int)))||(!(decide (x23>(0:Int)))))) <|
 chk (((decide ((0:Int)<=i64.wrap ((r12.1.length:Int) - (1:Int))))||(!(decide (x23>(0:Int)))))) <|
 chk (((decide (i64.wrap ((r12.1.length:Int) - (1:Int))<(r12.1.length:Int)))||(!(decide (x23>(0:Int)))))) <|
 let x31:Int:=((r12.1.getD ((i64.wrap ((r12.1.length:Int) - (1:Int))).toNat) 0).toNat:Int)
 chk (((decide (x23>(0:Int)))||(!(decide (x23>(0:Int)))))) <|
 chk (((decide (x23>(0:Int)))||(!(decide (x23>(0:Int)))))) <|
 chk (((decide ((0:Int)<=r12.2.1))||(!(decide (x23>(0:Int)))))) <|
 chk (((decide (x23>(0:Int)))||(!(decide (x23>(0:Int)))))) <|
 chk (((decide (x23>(0:Int)))||(!(decide (x23>(0:Int)))))) <|
 chk (bif decide (x23>(0:Int))then decide (x23>(0:Int))else true) <|
 chk (bif decide (x23>(0:Int))then true else true) <|
 let x36:Bool:=bif decide (x23>(0:Int))then(((x31.fdiv (2 ^ (min r12.2.1.toNat 8))).tmod 2)==(0:Int))else false
 bif x36 then(some (0,7))
 else(bif decide (x23>(16:Int))then(some (0,1))
 else(Ar (X:=Int×Int) (Y:=Int) (U2 fun t8a t9a k1 x2 =>
 bif decide (t9a<x23)then(chk (decide ((0:Int)<=i64.wrap (t9a.tdiv 8))) <|
 chk (decide (i64.wrap (t9a.tdiv 8)<(r12.1.length:Int))) <|
 chk (decide ((0:Int)<=i64.wrap ((7:Int) - (t9a.tmod 8)))) <|
 let x51:Int:=((r12.1.getD ((i64.wrap (t9a.tdiv 8)).toNat) 0).toNat:Int).fdiv (2 ^ (min (i64.wrap ((7:Int) - (t9a.tmod 8))).toNat 8))
 bif ((x51.tmod 2)==(1:Int))then(chk (decide ((0:Int)<=t9a)) <|
 let x57:Int:=Bg .or .i64 t8a (i64.wrap ((1:Int)*(2 ^ (min t9a.toNat 64))))
 k1 (x57,i64.wrap (t9a+(1:Int))))
 else(k1 (t8a,i64.wrap (t9a+(1:Int)))))
 else(x2 t8a))
 N (0,0) (fun t8b =>
 some (t8b,0)))))
abbrev wU:Type:=Int×Int
def Ve (N:Nat) (p0:Bs):Option wU :=
 Ae (MZ N p0) fun r8 =>
 bif (r8.2 != (0:Int))then(some (0,r8.2))
 else(bif (r8.1==(0:Int))then(some (0,7))
 else(some (r8.1,0)))
abbrev XM:Type:=(Int×Bs×Bs)×Bool×Yq8
def Fj (N:Nat) (p0:Yq8) (p1:Int):Option XM :=
 chk (((!(decide (p0.2>=(p0.1.length:Int))))||(!(!(decide (p0.2>=(p0.1.length:Int))))))) <|
 chk (((!(decide (p0.2>=(p0.1.length:Int))))||(!(!(decide (p0.2>=(p0.1.length:Int))))))) <|
 chk (((!(decide (p0.2>=(p0.1.length:Int))))||(!(!(decide (p0.2>=(p0.1.length:Int))))))) <|
 chk (((!(decide (p0.2>=(p0.1.length:Int))))||(!(!(decide (p0.2>=(p0.1.length:Int))))))) <|
 chk (((!(decide (p0.2>=(p0.1.length:Int))))||(!(!(decide (p0.2>=(p0.1.length:Int))))))) <|
 chk (((!(decide (p0.2>=(p0.1.length:Int))))||(!(!(decide (p0.2>=(p0.1.length:Int))))))) <|
 chk (((!(decide (p0.2>=(p0.1.length:Int))))||(!(!(decide (p0.2>=(p0.1.length:Int))))))) <|
 chk (((!(decide (p0.2>=(p0.1.length:Int))))||(!(!(decide (p0.2>=(p0.1.length:Int))))))) <|
 chk (((decide ((0:Int)<=p0.2))||(!(!(decide (p0.2>=(p0.1.length:Int))))))) <|
 chk (((decide (p0.2<(p0.1.length:Int)))||(!(!(decide (p0.2>=(p0.1.length:Int))))))) <|
 chk (((!(decide (p0.2>=(p0.1.length:Int))))||(!(!(decide (p0.2>=(p0.1.length:Int))))))) <|
 chk (((!(decide (p0.2>=(p0.1.length:Int))))||(!(!(decide (p0.2>=(p0.1.length:Int))))))) <|
 chk (((!(decide (p0.2>=(p0.1.length:Int))))||(!(!(decide (p0.2>=(p0.1.length:Int))))))) <|
 chk (((!(decide (p0.2>=(p0.1.length:Int))))||(!(!(decide (p0.2>=(p0.1.length:Int))))))) <|
 chk (bif decide (p0.2>=(p0.1.length:Int))then true else !(decide (p0.2>=(p0.1.length:Int)))) <|
 chk (bif decide (p0.2>=(p0.1.length:Int))then true else true) <|
 let x30:Bool:=bif decide (p0.2>=(p0.1.length:Int))then true else(((p0.1.getD p0.2.toNat (0,([]:Bs),([]:Bs))).1) != p1)
 bif x30 then(some ((0,([]:Bs),([]:Bs)),false,p0))
 else(chk (decide ((0:Int)<=i64.wrap ((i64.wrap (p0.2+(1:Int))) - (1:Int)))) <|
 chk (decide (i64.wrap ((i64.wrap (p0.2+(1:Int))) - (1:Int))<(p0.1.length:Int))) <|
 some ((p0.1.getD ((i64.wrap ((i64.wrap (p0.2+(1:Int))) - (1:Int))).toNat) (0,([]:Bs),([]:Bs))),true,(p0.1,i64.wrap (p0.2+(1:Int)))))
abbrev iU:Type:=Bool×Int
def J6 (N:Nat) (p0:Bs):Option iU :=
 chk (((!(p0==([0]:Bs)))||(!(!(p0==([0]:Bs)))))) <|
 chk (bif !(p0==([0]:Bs))then !(p0==([0]:Bs))else true) <|
 chk (bif !(p0==([0]:Bs))then true else true) <|
 bif bif !(p0==([0]:Bs))then !(p0==([255]:Bs))else false then(some (false,7))
 else(some ((p0==([255]:Bs)),0))
abbrev wS:Type:=Bool×Int×Yq8
def OY (N:Nat) (p0:Yq8) (p1:Int):Option wS :=
 Ae (Fj N p0 p1) fun r13 =>
 bif !r13.2.1 then(some (false,0,r13.2.2))
 else(Ae (J6 N r13.1.2.1) fun r21 =>
 bif (r21.2 != (0:Int))then(some (false,r21.2,r13.2.2))
 else(bif !r21.1 then(some (false,7,r13.2.2))
 else(some (true,0,r13.2.2))))
abbrev iW:Type:=Int×Int
def H8 (N:Nat) (p0:Bs):Option iW :=
 Am (((p0.length:Int)==(0:Int))) fun b1 =>
 chk (((!b1)||(!(!b1)))) <|
 chk (((!b1)||(!(!b1)))) <|
 chk (((!b1)||(!(!b1)))) <|
 Am (decide ((p0.length:Int)>(1:Int))) fun b2 =>
 chk ((((!b1)&&b2)||(!((!b1)&&b2)))) <|
 chk (((decide ((0:Int)<(p0.length:Int)))||(!((!b1)&&b2)))) <|
 chk ((((!b1)&&b2)||(!((!b1)&&b2)))) <|
 chk ((((!b1)&&b2)||(!((!b1)&&b2)))) <|
 Am ((((p0.getD 0 0).toNat:Int)==(0:Int))) fun b3 =>
 chk (((((!b1)&&b2)&&b3)||(!(((!b1)&&b2)&&b3)))) <|
 chk (((decide ((1:Int)<(p0.length:Int)))||(!(((!b1)&&b2)&&b3)))) <|
 chk (((((!b1)&&b2)&&b3)||(!(((!b1)&&b2)&&b3)))) <|
 chk ((((!b1)&&b2)||(!((!b1)&&b2)))) <|
 chk (((bif b3 then(((!b1)&&b2)&&b3)else true)||(!((!b1)&&b2)))) <|
 chk (((bif b3 then true else true)||(!((!b1)&&b2)))) <|
 Am (bif b3 then decide (((p0.getD 1 0).toNat:Int)<(128:Int))else false) fun b4 =>
 chk ((((!b1)&&b2)||(!((!b1)&&b2)))) <|
 Am (b4) fun b5 =>
 chk (((((!b1)&&b2)&&(!b5))||(!(((!b1)&&b2)&&(!b5))))) <|
 chk (((decide ((0:Int)<(p0.length:Int)))||(!(((!b1)&&b2)&&(!b5))))) <|
 chk (((((!b1)&&b2)&&(!b5))||(!(((!b1)&&b2)&&(!b5))))) <|
 chk (((((!b1)&&b2)&&(!b5))||(!(((!b1)&&b2)&&(!b5))))) <|
 Am ((((p0.getD 0 0).toNat:Int)==(255:Int))) fun b6 =>
 chk ((((((!b1)&&b2)&&(!b5))&&b6)||(!((((!b1)&&b2)&&(!b5))&&b6)))) <|
 chk (((decide ((1:Int)<(p0.length:Int)))||(!((((!b1)&&b2)&&(!b5))&&b6)))) <|
 chk ((((((!b1)&&b2)&&(!b5))&&b6)||(!((((!b1)&&b2)&&(!b5))&&b6)))) <|
 chk (((((!b1)&&b2)&&(!b5))||(!(((!b1)&&b2)&&(!b5))))) <|
 chk (((bif b6 then((((!b1)&&b2)&&(!b5))&&b6)else true)||(!(((!b1)&&b2)&&(!b5))))) <|
 chk (((bif b6 then true else true)||(!(((!b1)&&b2)&&(!b5))))) <|
 Am (bif b6 then decide (((p0.getD 1 0).toNat:Int)>=(128:Int))else false) fun b7 =>
 chk ((((!b1)&&b2)||(!((!b1)&&b2)))) <|
 chk (((bif b5 then true else(((!b1)&&b2)&&(!b5)))||(!((!b1)&&b2)))) <|
 chk (((bif b5 then true else true)||(!((!b1)&&b2)))) <|
 Am (bif b5 then true else b7) fun b8 =>
 chk (((!b1)||(!(!b1)))) <|
 chk (((bif b2 then((!b1)&&b2)else true)||(!(!b1)))) <|
 chk (((bif b2 then true else true)||(!(!b1)))) <|
 Am (bif b2 then b8 else false) fun b9 =>
 chk (bif b1 then true else !b1) <|
 chk (bif b1 then true else true) <|
 Am (bif b1 then true else b9) fun b10 =>
 bif b10 then(some (0,7))
 else(bif decide ((p0.length:Int)>(8:Int))then(some (0,1))
 else(KD (α :=Int) (fun j11 =>
 chk (decide ((0:Int)<(p0.length:Int))) <|
 bif decide (((p0.getD 0 0).toNat:Int)>=(128:Int))then(j11 18446744073709551615)
 else(j11 0))
 (fun t4a =>
 Ar (X:=Int×Int) (Y:=Int) (U2 fun t4b t5b k12 x13 =>
 bif decide (t5b<(p0.length:Int))then(chk (decide ((0:Int)<=t5b)) <|
 chk (decide (t5b<(p0.length:Int))) <|
 let x52:Int:=Bg .or .u64 (IntKind.u64.wrap (t4b*(256))) (IntKind.u64.wrap ((p0.getD t5b.toNat 0).toNat:Int))
 k12 (x52,i64.wrap (t5b+(1:Int))))
 else(x13 t4b))
 N (t4a,0) (fun t4c =>
 some (i64.wrap t4c,0)))))
abbrev qH:Type:=Int×Int
def Jz (N:Nat) (p0:Bs):Option qH :=
 Ae (H8 N p0) fun r8 =>
 bif (r8.2 != (0:Int))then(some (0,r8.2))
 else(chk (((!(decide (r8.1<(0:Int))))||(!(!(decide (r8.1<(0:Int))))))) <|
 chk (bif decide (r8.1<(0:Int))then true else !(decide (r8.1<(0:Int)))) <|
 chk (bif decide (r8.1<(0:Int))then true else true) <|
 let x19:Bool:=bif decide (r8.1<(0:Int))then true else decide (r8.1>(64:Int))
 bif x19 then(some (0,1))
 else(some (r8.1,0)))
abbrev qF:Type:=Int×Int×Yq8
def Ia (N:Nat) (p0:Yq8) (p1:Int):Option qF :=
 Ae (Fj N p0 p1) fun r11 =>
 bif !r11.2.1 then(some ((-1),0,r11.2.2))
 else(Ae (Jz N r11.1.2.1) fun r18 =>
 some (r18.1,r18.2,r11.2.2))
abbrev RG:Type:=Bs
def GG (N:Nat) (F:Int->Option RG) (p0:Int):Option RG :=
 bif decide (p0<(10:Int))then(chk (List.all ([IntKind.u8.wrap (i64.wrap ((48:Int)+p0))]:List Int) isByte) <|
 let x9:Bs:=List.map byteOf ([IntKind.u8.wrap (i64.wrap ((48:Int)+p0))]:List Int)
 some x9)
 else(Ae (F (i64.wrap (p0.tdiv 10))) fun r12 =>
 chk (List.all ([IntKind.u8.wrap (i64.wrap ((48:Int)+(p0.tmod 10)))]:List Int) isByte) <|
 let x18:Bs:=List.map byteOf ([IntKind.u8.wrap (i64.wrap ((48:Int)+(p0.tmod 10)))]:List Int)
 chk (decide (r12.length+x18.length<=140737488355328)) <|
 some (r12++x18))
def GU (N:Nat):Nat->Int->Option RG
  | 0=>fun p0=>none
  | n+1=>fun p0=>GG N (GU N n) p0
abbrev Zb:Type:=Bs×Int
def EC (N:Nat) (p0:Bs):Option Zb :=
 Ar (X:=Bs×Int×Bool×Int×Int) (Y:=(Bs×Bool)) (U5 fun t4a t5a t6a t7a t8a k1 x2 =>
 bif decide (t8a<(p0.length:Int))then(chk (((!t6a)||(!(!t6a)))) <|
 chk (((!t6a)||(!(!t6a)))) <|
 chk (((decide ((0:Int)<=t8a))||(!(!t6a)))) <|
 chk (((decide (t8a<(p0.length:Int)))||(!(!t6a)))) <|
 chk (((!t6a)||(!(!t6a)))) <|
 chk (bif !t6a then !t6a else true) <|
 chk (bif !t6a then true else true) <|
 let x23:Bool:=bif !t6a then(((p0.getD t8a.toNat 0).toNat:Int)==(128:Int))else false
 bif x23 then(some (([]:Bs),11))
 else(chk (decide ((0:Int)<=t8a)) <|
 chk (decide (t8a<(p0.length:Int))) <|
 let x31:Int:=i64.wrap ((i64.wrap ((128:Int)*t5a))+(i64.wrap (((p0.getD t8a.toNat 0).toNat:Int).tmod 128)))
 bif decide (x31>(2147483727:Int))then(some (([]:Bs),11))
 else(chk (decide ((0:Int)<=t8a)) <|
 chk (decide (t8a<(p0.length:Int))) <|
 bif decide (((p0.getD t8a.toNat 0).toNat:Int)>=(128:Int))then(k1 (t4a,x31,decide (((p0.getD t8a.toNat 0).toNat:Int)>=(128:Int)),t7a,i64.wrap (t8a+(1:Int))))
 else(KD (α :=Bs×Int) (fun j3 =>
 bif (t7a==(0:Int))then(let x43:Int:=(bif decide ((2:Int)<i64.wrap (x31.tdiv 40))then(2:Int)else i64.wrap (x31.tdiv 40))
 Ae (GU N N x43) fun r45 =>
 chk (decide (r45.length+1<=140737488355328)) <|
 Ae (GU N N (i64.wrap (x31 - (i64.wrap ((40:Int)*x43))))) fun r51 =>
 chk (decide ((r45++([46]:Bs)).length+r51.length<=140737488355328)) <|
 j3 ((r45++([46]:Bs))++r51,1))
 else(Ae (GU N N x31) fun r55 =>
 chk (decide (1+r55.length<=140737488355328)) <|
 chk (decide (t4a.length+(([46]:Bs)++r55).length<=140737488355328)) <|
 j3 (t4a++(([46]:Bs)++r55),t7a)))
 (U2 fun t4b t7b =>
 bif decide ((i64.wrap (t7b+(1:Int)))>(12:Int))then(some (([]:Bs),11))
 else(k1 (t4b,0,decide (((p0.getD t8a.toNat 0).toNat:Int)>=(128:Int)),i64.wrap (t7b+(1:Int)),i64.wrap (t8a+(1:Int)))))))))
 else(x2 (t4a,t6a)))
 N (([]:Bs),0,false,0,0) (U2 fun t4c t6c =>
 chk (bif ((p0.length:Int)==(0:Int))then true else !((p0.length:Int)==(0:Int))) <|
 chk (bif ((p0.length:Int)==(0:Int))then true else true) <|
 chk (((!(bif ((p0.length:Int)==(0:Int))then true else t6c))||(!(!(bif ((p0.length:Int)==(0:Int))then true else t6c))))) <|
 chk ((((A7 N t4c).isSome)||(!(!(bif ((p0.length:Int)==(0:Int))then true else t6c))))) <|
 let r70:=(A7 N t4c).getD default
 chk (((!(bif ((p0.length:Int)==(0:Int))then true else t6c))||(!(!(bif ((p0.length:Int)==(0:Int))then true else t6c))))) <|
 chk (bif bif ((p0.length:Int)==(0:Int))then true else t6c then true else !(bif ((p0.length:Int)==(0:Int))then true else t6c)) <|
 chk (bif bif ((p0.length:Int)==(0:Int))then true else t6c then true else true) <|
 let x72:Bool:=bif bif ((p0.length:Int)==(0:Int))then true else t6c then true else !r70
 bif x72 then(some (([]:Bs),11))
 else(some (t4c,0)))
abbrev W9:Type:=List Bs×Int
def Gv (N:Nat) (p0:Yq7):Option W9 :=
 Ar (X:=Int×List Bs) (Y:=(List Bs)) (U2 fun t11a l1000000a k1 x2 =>
 bif decide (t11a<(p0.length:Int))then(chk (decide ((0:Int)<=t11a)) <|
 chk (decide (t11a<(p0.length:Int))) <|
 bif (((p0.getD t11a.toNat (0,([]:Bs),([]:Bs))).1) != (6:Int))then(some (([]:List Bs),5))
 else(Ae (EC N ((p0.getD t11a.toNat (0,([]:Bs),([]:Bs))).2.1)) fun r21 =>
 bif (r21.2 != (0:Int))then(some (([]:List Bs),r21.2))
 else(chk (decide ((l1000000a.length+1)*17<=140737488355328)) <|
 k1 (i64.wrap (t11a+(1:Int)),l1000000a++([r21.1]:List Bs)))))
 else(x2 l1000000a))
 N (0,([]:List Bs)) (fun l1004096b =>
 some (l1004096b,0))
abbrev Wi:Type:=(Int×Bs×Bs)×Int×Yq8
def Ee (N:Nat) (p0:Yq8) (p1:Int):Option Wi :=
 bif decide (p0.2>=(p0.1.length:Int))then(some ((0,([]:Bs),([]:Bs)),3,p0))
 else(chk (decide ((0:Int)<=p0.2)) <|
 chk (decide (p0.2<(p0.1.length:Int))) <|
 chk (((decide (p1>=(0:Int)))||(!(decide (p1>=(0:Int)))))) <|
 chk (((decide (p1>=(0:Int)))||(!(decide (p1>=(0:Int)))))) <|
 chk (((decide (p1>=(0:Int)))||(!(decide (p1>=(0:Int)))))) <|
 chk (bif decide (p1>=(0:Int))then decide (p1>=(0:Int))else true) <|
 chk (bif decide (p1>=(0:Int))then true else true) <|
 let x35:Bool:=bif decide (p1>=(0:Int))then(((p0.1.getD p0.2.toNat (0,([]:Bs),([]:Bs))).1) != p1)else false
 bif x35 then(some ((0,([]:Bs),([]:Bs)),5,p0))
 else(some ((p0.1.getD p0.2.toNat (0,([]:Bs),([]:Bs))),0,(p0.1,i64.wrap (p0.2+(1:Int))))))
abbrev wX:Type:=List (List Bs)×Int
def Ht (N:Nat) (p0:Bs) (p1:Int):Option wX :=
 Ae (FX N p0) fun r21 =>
 bif (r21.2 != (0:Int))then(some (([]:List (List Bs)),r21.2))
 else(bif ((r21.1.1.length:Int)==(0:Int))then(some (([]:List (List Bs)),7))
 else(Ar (X:=Int×List (List Bs)) (Y:=(List (List Bs))) (U2 fun t34a l1000000a k1 x2 =>
 bif decide (t34a<(r21.1.1.length:Int))then(chk (decide ((0:Int)<=t34a)) <|
 chk (decide (t34a<(r21.1.1.length:Int))) <|
 Ae (Jg N (r21.1.1.getD t34a.toNat (0,([]:Bs),([]:Bs))) 48) fun r40 =>
 bif (r40.2 != (0:Int))then(some (([]:List (List Bs)),r40.2))
 else(Ar (X:=Int×(List (Int×Bs×Bs))×Int×List Bs×List (List Bs)) (Y:=((List (Int×Bs×Bs))×Int×List Bs×List (List Bs))) (U5 fun t14b b35584_0b b35584_1b l1004096b l1004112b k3 x4 =>
 bif decide (t14b<p1)then(Ae (Ee N (b35584_0b,b35584_1b) 6) fun r52 =>
 bif (r52.2.1 != (0:Int))then(some (([]:List (List Bs)),r52.2.1))
 else(Ae (EC N r52.1.2.1) fun r61 =>
 bif (r61.2 != (0:Int))then(some (([]:List (List Bs)),r61.2))
 else(chk (decide ((l1004096b.length+1)*17<=140737488355328)) <|
 k3 (i64.wrap (t14b+(1:Int)),r52.2.2.1,r52.2.2.2,l1004096b++([r61.1]:List Bs),l1004112b))))
 else(x4 (b35584_0b,b35584_1b,l1004096b,l1004112b)))
 N (0,r40.1.1,r40.1.2,([]:List Bs),l1000000a) (U4 fun b35584_0c b35584_1c l1008192c l1008208c =>
 Ae (Dh N (b35584_0c,b35584_1c)) fun r71 =>
 bif (r71.1 != (0:Int))then(some (([]:List (List Bs)),r71.1))
 else(chk (decide ((l1008208c.length+1)*25<=140737488355328)) <|
 k1 (i64.wrap (t34a+(1:Int)),l1008208c++([l1008192c]:List (List Bs)))))))
 else(x2 l1000000a))
 N (0,([]:List (List Bs))) (fun l1012288d =>
 some (l1012288d,0))))
abbrev Va:Type:=Bs×Int
def IM (N:Nat) (p0:Bs):Option Va :=
 Ae (FX N p0) fun r9 =>
 bif (r9.2 != (0:Int))then(some (([]:Bs),r9.2))
 else(Ae (Ee N r9.1 128) fun r16 =>
 bif (r16.2.1 != (0:Int))then(some (([]:Bs),r16.2.1))
 else(bif (r16.1.2.1==([]:Bs))then(some (([]:Bs),7))
 else(Ae (Dh N r16.2.2) fun r27 =>
 some (r16.1.2.1,r27.1))))
abbrev qJ:Type:=Int×Yq4
def Bh (N:Nat) (p0:Yq4) (p1:Bs×Bool×Bs):Option qJ :=
 bif (p1.1==([50,46,53,46,50,57,46,49,57]:Bs))then(Ae (FX N p1.2.2) fun r42 =>
 bif (r42.2 != (0:Int))then(some (r42.2,p0))
 else(Ae (OY N r42.1 1) fun r53 =>
 bif (r53.2.1 != (0:Int))then(some (r53.2.1,(true,r53.1,p0.2.2.1,p0.2.2.2.1,p0.2.2.2.2.1,p0.2.2.2.2.2.1,p0.2.2.2.2.2.2.1,p0.2.2.2.2.2.2.2.1,p0.2.2.2.2.2.2.2.2.1,p0.2.2.2.2.2.2.2.2.2.1,p0.2.2.2.2.2.2.2.2.2.2.1,p0.2.2.2.2.2.2.2.2.2.2.2.1,p0.2.2.2.2.2.2.2.2.2.2.2.2.1,p0.2.2.2.2.2.2.2.2.2.2.2.2.2.1,p0.2.2.2.2.2.2.2.2.2.2.2.2.2.2.1,p0.2.2.2.2.2.2.2.2.2.2.2.2.2.2.2.1,p0.2.2.2.2.2.2.2.2.2.2.2.2.2.2.2.2.1,p0.2.2.2.2.2.2.2.2.2.2.2.2.2.2.2.2.2.1,p0.2.2.2.2.2.2.2.2.2.2.2.2.2.2.2.2.2.2)))
 else(Ae (Ia N r53.2.2 2) fun r63 =>
 bif (r63.2.1 != (0:Int))then(some (r63.2.1,(true,r53.1,r63.1,p0.2.2.2.1,p0.2.2.2.2.1,p0.2.2.2.2.2.1,p0.2.2.2.2.2.2.1,p0.2.2.2.2.2.2.2.1,p0.2.2.2.2.2.2.2.2.1,p0.2.2.2.2.2.2.2.2.2.1,p0.2.2.2.2.2.2.2.2.2.2.1,p0.2.2.2.2.2.2.2.2.2.2.2.1,p0.2.2.2.2.2.2.2.2.2.2.2.2.1,p0.2.2.2.2.2.2.2.2.2.2.2.2.2.1,p0.2.2.2.2.2.2.2.2.2.2.2.2.2.2.1,p0.2.2.2.2.2.2.2.2.2.2.2.2.2.2.2.1,p0.2.2.2.2.2.2.2.2.2.2.2.2.2.2.2.2.1,p0.2.2.2.2.2.2.2.2.2.2.2.2.2.2.2.2.2.1,p0.2.2.2.2.2.2.2.2.2.2.2.2.2.2.2.2.2.2)))
 else(Ae (Dh N r63.2.2) fun r71 =>
 some (r71.1,(true,r53.1,r63.1,p0.2.2.2.1,p0.2.2.2.2.1,p0.2.2.2.2.2.1,p0.2.2.2.2.2.2.1,p0.2.2.2.2.2.2.2.1,p0.2.2.2.2.2.2.2.2.1,p0.2.2.2.2.2.2.2.2.2.1,p0.2.2.2.2.2.2.2.2.2.2.1,p0.2.2.2.2.2.2.2.2.2.2.2.1,p0.2.2.2.2.2.2.2.2.2.2.2.2.1,p0.2.2.2.2.2.2.2.2.2.2.2.2.2.1,p0.2.2.2.2.2.2.2.2.2.2.2.2.2.2.1,p0.2.2.2.2.2.2.2.2.2.2.2.2.2.2.2.1,p0.2.2.2.2.2.2.2.2.2.2.2.2.2.2.2.2.1,p0.2.2.2.2.2.2.2.2.2.2.2.2.2.2.2.2.2.1,p0.2.2.2.2.2.2.2.2.2.2.2.2.2.2.2.2.2.2))))))
 else(bif (p1.1==([50,46,53,46,50,57,46,49,53]:Bs))then(Ae (ET N p1.2.2 3) fun r77 =>
 bif (r77.2 != (0:Int))then(some (r77.2,p0))
 else(Ae (Ve N r77.1.2.1) fun r87 =>
 some (r87.2,(p0.1,p0.2.1,p0.2.2.1,r87.1,p0.2.2.2.2.1,p0.2.2.2.2.2.1,p0.2.2.2.2.2.2.1,p0.2.2.2.2.2.2.2.1,p0.2.2.2.2.2.2.2.2.1,p0.2.2.2.2.2.2.2.2.2.1,p0.2.2.2.2.2.2.2.2.2.2.1,p0.2.2.2.2.2.2.2.2.2.2.2.1,p0.2.2.2.2.2.2.2.2.2.2.2.2.1,p0.2.2.2.2.2.2.2.2.2.2.2.2.2.1,p0.2.2.2.2.2.2.2.2.2.2.2.2.2.2.1,p0.2.2.2.2.2.2.2.2.2.2.2.2.2.2.2.1,p0.2.2.2.2.2.2.2.2.2.2.2.2.2.2.2.2.1,p0.2.2.2.2.2.2.2.2.2.2.2.2.2.2.2.2.2.1,p0.2.2.2.2.2.2.2.2.2.2.2.2.2.2.2.2.2.2))))
 else(bif (p1.1==([50,46,53,46,50,57,46,51,55]:Bs))then(Ae (FX N p1.2.2) fun r98 =>
 bif (r98.2 != (0:Int))then(some (r98.2,p0))
 else(bif ((r98.1.1.length:Int)==(0:Int))then(some (7,p0))
 else(Ae (Gv N r98.1.1) fun r112 =>
 some (r112.2,(p0.1,p0.2.1,p0.2.2.1,p0.2.2.2.1,r112.1,p0.2.2.2.2.2.1,p0.2.2.2.2.2.2.1,p0.2.2.2.2.2.2.2.1,p0.2.2.2.2.2.2.2.2.1,p0.2.2.2.2.2.2.2.2.2.1,p0.2.2.2.2.2.2.2.2.2.2.1,p0.2.2.2.2.2.2.2.2.2.2.2.1,p0.2.2.2.2.2.2.2.2.2.2.2.2.1,p0.2.2.2.2.2.2.2.2.2.2.2.2.2.1,p0.2.2.2.2.2.2.2.2.2.2.2.2.2.2.1,p0.2.2.2.2.2.2.2.2.2.2.2.2.2.2.2.1,p0.2.2.2.2.2.2.2.2.2.2.2.2.2.2.2.2.1,p0.2.2.2.2.2.2.2.2.2.2.2.2.2.2.2.2.2.1,p0.2.2.2.2.2.2.2.2.2.2.2.2.2.2.2.2.2.2)))))
 else(bif (p1.1==([50,46,53,46,50,57,46,51,50]:Bs))then(Ae (Ht N p1.2.2 1) fun r123 =>
 Ar (X:=Int×Bool×Bool×Int×Int×List Bs×Int×Int×Int×List Yq1×Bool×List Yq1×List Yq1×Bs×Bs×List Yq2×List Yq2×(List (Bs×Bs))×(List (Bs×Bool×Bs))×List Bs) (Y:=(Bool×Bool×Int×Int×List Bs×Int×Int×Int×List Yq1×Bool×List Yq1×List Yq1×Bs×Bs×List Yq2×List Yq2×(List (Bs×Bs))×(List (Bs×Bool×Bs))×List Bs)) (U20 fun t128a b0_0a b0_1a b0_2a b0_3a b0_4a b0_7a b0_8a b0_9a b0_10a b0_11a b0_12a b0_13a b0_14a b0_15a b0_16a b0_17a l7a l19a l1000000a k1 x2 =>
 bif decide (t128a<(r123.1.length:Int))then(chk (decide ((0:Int)<=t128a)) <|
 chk (decide (t128a<(r123.1.length:Int))) <|
 chk (decide ((0:Int)<((r123.1.getD t128a.toNat ([]:List Bs)).length:Int))) <|
 chk (decide ((l1000000a.length+1)*17<=140737488355328)) <|
 let y68864:List Bs:=l1000000a++([((r123.1.getD t128a.toNat ([]:List Bs)).getD 0 ([]:Bs))]:List Bs)
 k1 (i64.wrap (t128a+(1:Int)),b0_0a,b0_1a,b0_2a,b0_3a,b0_4a,b0_7a,b0_8a,b0_9a,b0_10a,b0_11a,b0_12a,b0_13a,b0_14a,b0_15a,b0_16a,b0_17a,l7a,l19a,y68864))
 else(x2 (b0_0a,b0_1a,b0_2a,b0_3a,b0_4a,b0_7a,b0_8a,b0_9a,b0_10a,b0_11a,b0_12a,b0_13a,b0_14a,b0_15a,b0_16a,b0_17a,l7a,l19a,l1000000a)))
 N (0,p0.1,p0.2.1,p0.2.2.1,p0.2.2.2.1,p0.2.2.2.2.1,p0.2.2.2.2.2.2.2.1,p0.2.2.2.2.2.2.2.2.1,p0.2.2.2.2.2.2.2.2.2.1,p0.2.2.2.2.2.2.2.2.2.2.1,p0.2.2.2.2.2.2.2.2.2.2.2.1,p0.2.2.2.2.2.2.2.2.2.2.2.2.1,p0.2.2.2.2.2.2.2.2.2.2.2.2.2.1,p0.2.2.2.2.2.2.2.2.2.2.2.2.2.2.1,p0.2.2.2.2.2.2.2.2.2.2.2.2.2.2.2.1,p0.2.2.2.2.2.2.2.2.2.2.2.2.2.2.2.2.1,p0.2.2.2.2.2.2.2.2.2.2.2.2.2.2.2.2.2.1,p0.2.2.2.2.2.2.1,p0.2.2.2.2.2.2.2.2.2.2.2.2.2.2.2.2.2.2,p0.2.2.2.2.2.1) (U19 fun b0_0b b0_1b b0_2b b0_3b b0_4b b0_7b b0_8b b0_9b b0_10b b0_11b b0_12b b0_13b b0_14b b0_15b b0_16b b0_17b l7b l19b l1004096b =>
 some (r123.2,(b0_0b,b0_1b,b0_2b,b0_3b,b0_4b,l1004096b,l7b,b0_7b,b0_8b,b0_9b,b0_10b,b0_11b,b0_12b,b0_13b,b0_14b,b0_15b,b0_16b,b0_17b,l19b))))
 else(bif (p1.1==([50,46,53,46,50,57,46,51,51]:Bs))then(Ae (Ht N p1.2.2 2) fun r151 =>
 Ar (X:=Int×Bool×Bool×Int×Int×List Bs×Int×Int×Int×List Yq1×Bool×List Yq1×List Yq1×Bs×Bs×List Yq2×List Yq2×List Bs×(List (Bs×Bool×Bs))×List (Bs×Bs)) (Y:=(Bool×Bool×Int×Int×List Bs×Int×Int×Int×List Yq1×Bool×List Yq1×List Yq1×Bs×Bs×List Yq2×List Yq2×List Bs×(List (Bs×Bool×Bs))×List (Bs×Bs))) (U20 fun t156c b0_0c b0_1c b0_2c b0_3c b0_4c b0_7c b0_8c b0_9c b0_10c b0_11c b0_12c b0_13c b0_14c b0_15c b0_16c b0_17c l6c l19c l1008192c k3 x4 =>
 bif decide (t156c<(r151.1.length:Int))then(chk (decide ((0:Int)<=t156c)) <|
 chk (decide (t156c<(r151.1.length:Int))) <|
 chk (decide ((0:Int)<((r151.1.getD t156c.toNat ([]:List Bs)).length:Int))) <|
 chk (decide ((1:Int)<((r151.1.getD t156c.toNat ([]:List Bs)).length:Int))) <|
 chk (decide ((l1008192c.length+1)*33<=140737488355328)) <|
 let y77056:List (Bs×Bs):=l1008192c++([(((r151.1.getD t156c.toNat ([]:List Bs)).getD 0 ([]:Bs)),((r151.1.getD t156c.toNat ([]:List Bs)).getD 1 ([]:Bs)))]:List (Bs×Bs))
 k3 (i64.wrap (t156c+(1:Int)),b0_0c,b0_1c,b0_2c,b0_3c,b0_4c,b0_7c,b0_8c,b0_9c,b0_10c,b0_11c,b0_12c,b0_13c,b0_14c,b0_15c,b0_16c,b0_17c,l6c,l19c,y77056))
 else(x4 (b0_0c,b0_1c,b0_2c,b0_3c,b0_4c,b0_7c,b0_8c,b0_9c,b0_10c,b0_11c,b0_12c,b0_13c,b0_14c,b0_15c,b0_16c,b0_17c,l6c,l19c,l1008192c)))
 N (0,p0.1,p0.2.1,p0.2.2.1,p0.2.2.2.1,p0.2.2.2.2.1,p0.2.2.2.2.2.2.2.1,p0.2.2.2.2.2.2.2.2.1,p0.2.2.2.2.2.2.2.2.2.1,p0.2.2.2.2.2.2.2.2.2.2.1,p0.2.2.2.2.2.2.2.2.2.2.2.1,p0.2.2.2.2.2.2.2.2.2.2.2.2.1,p0.2.2.2.2.2.2.2.2.2.2.2.2.2.1,p0.2.2.2.2.2.2.2.2.2.2.2.2.2.2.1,p0.2.2.2.2.2.2.2.2.2.2.2.2.2.2.2.1,p0.2.2.2.2.2.2.2.2.2.2.2.2.2.2.2.2.1,p0.2.2.2.2.2.2.2.2.2.2.2.2.2.2.2.2.2.1,p0.2.2.2.2.2.1,p0.2.2.2.2.2.2.2.2.2.2.2.2.2.2.2.2.2.2,p0.2.2.2.2.2.2.1) (U19 fun b0_0d b0_1d b0_2d b0_3d b0_4d b0_7d b0_8d b0_9d b0_10d b0_11d b0_12d b0_13d b0_14d b0_15d b0_16d b0_17d l6d l19d l1012288d =>
 some (r151.2,(b0_0d,b0_1d,b0_2d,b0_3d,b0_4d,l6d,l1012288d,b0_7d,b0_8d,b0_9d,b0_10d,b0_11d,b0_12d,b0_13d,b0_14d,b0_15d,b0_16d,b0_17d,l19d))))
 else(bif (p1.1==([50,46,53,46,50,57,46,51,54]:Bs))then(Ae (FX N p1.2.2) fun r183 =>
 bif (r183.2 != (0:Int))then(some (r183.2,p0))
 else(bif ((r183.1.1.length:Int)==(0:Int))then(some (7,p0))
 else(Ae (Ia N r183.1 128) fun r195 =>
 bif (r195.2.1 != (0:Int))then(some (r195.2.1,(p0.1,p0.2.1,p0.2.2.1,p0.2.2.2.1,p0.2.2.2.2.1,p0.2.2.2.2.2.1,p0.2.2.2.2.2.2.1,r195.1,p0.2.2.2.2.2.2.2.2.1,p0.2.2.2.2.2.2.2.2.2.1,p0.2.2.2.2.2.2.2.2.2.2.1,p0.2.2.2.2.2.2.2.2.2.2.2.1,p0.2.2.2.2.2.2.2.2.2.2.2.2.1,p0.2.2.2.2.2.2.2.2.2.2.2.2.2.1,p0.2.2.2.2.2.2.2.2.2.2.2.2.2.2.1,p0.2.2.2.2.2.2.2.2.2.2.2.2.2.2.2.1,p0.2.2.2.2.2.2.2.2.2.2.2.2.2.2.2.2.1,p0.2.2.2.2.2.2.2.2.2.2.2.2.2.2.2.2.2.1,p0.2.2.2.2.2.2.2.2.2.2.2.2.2.2.2.2.2.2)))
 else(Ae (Ia N r195.2.2 129) fun r205 =>
 bif (r205.2.1 != (0:Int))then(some (r205.2.1,(p0.1,p0.2.1,p0.2.2.1,p0.2.2.2.1,p0.2.2.2.2.1,p0.2.2.2.2.2.1,p0.2.2.2.2.2.2.1,r195.1,r205.1,p0.2.2.2.2.2.2.2.2.2.1,p0.2.2.2.2.2.2.2.2.2.2.1,p0.2.2.2.2.2.2.2.2.2.2.2.1,p0.2.2.2.2.2.2.2.2.2.2.2.2.1,p0.2.2.2.2.2.2.2.2.2.2.2.2.2.1,p0.2.2.2.2.2.2.2.2.2.2.2.2.2.2.1,p0.2.2.2.2.2.2.2.2.2.2.2.2.2.2.2.1,p0.2.2.2.2.2.2.2.2.2.2.2.2.2.2.2.2.1,p0.2.2.2.2.2.2.2.2.2.2.2.2.2.2.2.2.2.1,p0.2.2.2.2.2.2.2.2.2.2.2.2.2.2.2.2.2.2)))
 else(Ae (Dh N r205.2.2) fun r213 =>
 some (r213.1,(p0.1,p0.2.1,p0.2.2.1,p0.2.2.2.1,p0.2.2.2.2.1,p0.2.2.2.2.2.1,p0.2.2.2.2.2.2.1,r195.1,r205.1,p0.2.2.2.2.2.2.2.2.2.1,p0.2.2.2.2.2.2.2.2.2.2.1,p0.2.2.2.2.2.2.2.2.2.2.2.1,p0.2.2.2.2.2.2.2.2.2.2.2.2.1,p0.2.2.2.2.2.2.2.2.2.2.2.2.2.1,p0.2.2.2.2.2.2.2.2.2.2.2.2.2.2.1,p0.2.2.2.2.2.2.2.2.2.2.2.2.2.2.2.1,p0.2.2.2.2.2.2.2.2.2.2.2.2.2.2.2.2.1,p0.2.2.2.2.2.2.2.2.2.2.2.2.2.2.2.2.2.1,p0.2.2.2.2.2.2.2.2.2.2.2.2.2.2.2.2.2.2)))))))
 else(bif (p1.1==([50,46,53,46,50,57,46,53,52]:Bs))then(Ae (ET N p1.2.2 2) fun r219 =>
 bif (r219.2 != (0:Int))then(some (r219.2,p0))
 else(Ae (Jz N r219.1.2.1) fun r229 =>
 some (r229.2,(p0.1,p0.2.1,p0.2.2.1,p0.2.2.2.1,p0.2.2.2.2.1,p0.2.2.2.2.2.1,p0.2.2.2.2.2.2.1,p0.2.2.2.2.2.2.2.1,p0.2.2.2.2.2.2.2.2.1,r229.1,p0.2.2.2.2.2.2.2.2.2.2.1,p0.2.2.2.2.2.2.2.2.2.2.2.1,p0.2.2.2.2.2.2.2.2.2.2.2.2.1,p0.2.2.2.2.2.2.2.2.2.2.2.2.2.1,p0.2.2.2.2.2.2.2.2.2.2.2.2.2.2.1,p0.2.2.2.2.2.2.2.2.2.2.2.2.2.2.2.1,p0.2.2.2.2.2.2.2.2.2.2.2.2.2.2.2.2.1,p0.2.2.2.2.2.2.2.2.2.2.2.2.2.2.2.2.2.1,p0.2.2.2.2.2.2.2.2.2.2.2.2.2.2.2.2.2.2))))
 else(bif (p1.1==([50,46,53,46,50,57,46,49,55]:Bs))then(Ae (ET N p1.2.2 48) fun r240 =>
 bif (r240.2 != (0:Int))then(some (r240.2,p0))
 else(none))
 else(bif (p1.1==([50,46,53,46,50,57,46,51,48]:Bs))then(none)
 else(bif (p1.1==([50,46,53,46,50,57,46,49,52]:Bs))then(Ae (ET N p1.2.2 4) fun r277 =>
 bif (r277.2 != (0:Int))then(some (r277.2,p0))
 else(bif (r277.1.2.1==([]:Bs))then(some (7,p0))
 else(some (0,(p0.1,p0.2.1,p0.2.2.1,p0.2.2.2.1,p0.2.2.2.2.1,p0.2.2.2.2.2.1,p0.2.2.2.2.2.2.1,p0.2.2.2.2.2.2.2.1,p0.2.2.2.2.2.2.2.2.1,p0.2.2.2.2.2.2.2.2.2.1,p0.2.2.2.2.2.2.2.2.2.2.1,p0.2.2.2.2.2.2.2.2.2.2.2.1,p0.2.2.2.2.2.2.2.2.2.2.2.2.1,p0.2.2.2.2.2.2.2.2.2.2.2.2.2.1,r277.1.2.1,p0.2.2.2.2.2.2.2.2.2.2.2.2.2.2.2.1,p0.2.2.2.2.2.2.2.2.2.2.2.2.2.2.2.2.1,p0.2.2.2.2.2.2.2.2.2.2.2.2.2.2.2.2.2.1,p0.2.2.2.2.2.2.2.2.2.2.2.2.2.2.2.2.2.2)))))
 else(bif (p1.1==([50,46,53,46,50,57,46,51,53]:Bs))then(Ae (IM N p1.2.2) fun r296 =>
 some (r296.2,(p0.1,p0.2.1,p0.2.2.1,p0.2.2.2.1,p0.2.2.2.2.1,p0.2.2.2.2.2.1,p0.2.2.2.2.2.2.1,p0.2.2.2.2.2.2.2.1,p0.2.2.2.2.2.2.2.2.1,p0.2.2.2.2.2.2.2.2.2.1,p0.2.2.2.2.2.2.2.2.2.2.1,p0.2.2.2.2.2.2.2.2.2.2.2.1,p0.2.2.2.2.2.2.2.2.2.2.2.2.1,p0.2.2.2.2.2.2.2.2.2.2.2.2.2.1,p0.2.2.2.2.2.2.2.2.2.2.2.2.2.2.1,r296.1,p0.2.2.2.2.2.2.2.2.2.2.2.2.2.2.2.2.1,p0.2.2.2.2.2.2.2.2.2.2.2.2.2.2.2.2.2.1,p0.2.2.2.2.2.2.2.2.2.2.2.2.2.2.2.2.2.2)))
 else(bif (p1.1==([50,46,53,46,50,57,46,51,49]:Bs))then(none)
 else(bif (p1.1==([50,46,53,46,50,57,46,52,54]:Bs))then(none)
 else(chk (decide ((p0.2.2.2.2.2.2.2.2.2.2.2.2.2.2.2.2.2.2.length+1)*41<=140737488355328)) <|
 let y119040:List (Bs×Bool×Bs):=p0.2.2.2.2.2.2.2.2.2.2.2.2.2.2.2.2.2.2++([p1]:List (Bs×Bool×Bs))
 Ae (Ju N p1.2.2) fun r342 =>
 some (r342,(p0.1,p0.2.1,p0.2.2.1,p0.2.2.2.1,p0.2.2.2.2.1,p0.2.2.2.2.2.1,p0.2.2.2.2.2.2.1,p0.2.2.2.2.2.2.2.1,p0.2.2.2.2.2.2.2.2.1,p0.2.2.2.2.2.2.2.2.2.1,p0.2.2.2.2.2.2.2.2.2.2.1,p0.2.2.2.2.2.2.2.2.2.2.2.1,p0.2.2.2.2.2.2.2.2.2.2.2.2.1,p0.2.2.2.2.2.2.2.2.2.2.2.2.2.1,p0.2.2.2.2.2.2.2.2.2.2.2.2.2.2.1,p0.2.2.2.2.2.2.2.2.2.2.2.2.2.2.2.1,p0.2.2.2.2.2.2.2.2.2.2.2.2.2.2.2.2.1,p0.2.2.2.2.2.2.2.2.2.2.2.2.2.2.2.2.2.1,y119040)))))))))))))))
abbrev XP:Type:=Yq4×Int
def Di (N:Nat) (p0:Yq5):Option XP :=
 bif decide ((p0.length:Int)>(24:Int))then(some ((false,false,0,0,([]:List Bs),([]:List Bs),([]:List (Bs×Bs)),0,0,0,([]:List Yq1),false,([]:List Yq1),([]:List Yq1),([]:Bs),([]:Bs),([]:List Yq2),([]:List Yq2),([]:List (Bs×Bool×Bs))),2))
 else(Ae (OW N) fun r15 =>
 Ar (X:=Int×Bool×Bool×Int×Int×List Bs×Int×Int×Int×List Yq1×Bool×List Yq1×List Yq1×Bs×Bs×List Yq2×List Yq2×(List (Bs×Bool×Bs))×(List (Bs×Bs))×List Bs) (Y:=(Bool×Bool×Int×Int×List Bs×Int×Int×Int×List Yq1×Bool×List Yq1×List Yq1×Bs×Bs×List Yq2×List Yq2×(List (Bs×Bool×Bs))×(List (Bs×Bs))×List Bs)) (U20 fun t18a b33792_0a b33792_1a b33792_2a b33792_3a b33792_4a b33792_7a b33792_8a b33792_9a b33792_10a b33792_11a b33792_12a b33792_13a b33792_14a b33792_15a b33792_16a b33792_17a l1000000a l1000016a l1000032a k1 x2 =>
 bif decide (t18a<(p0.length:Int))then(chk (decide ((0:Int)<=t18a)) <|
 chk (decide (t18a<(p0.length:Int))) <|
 Ae (A7 N ((p0.getD t18a.toNat (([]:Bs),false,([]:Bs))).1)) fun r25 =>
 bif !r25 then(some ((false,false,0,0,([]:List Bs),([]:List Bs),([]:List (Bs×Bs)),0,0,0,([]:List Yq1),false,([]:List Yq1),([]:List Yq1),([]:Bs),([]:Bs),([]:List Yq2),([]:List Yq2),([]:List (Bs×Bool×Bs))),11))
 else(chk (decide ((0:Int)<=t18a)) <|
 chk (decide (t18a<=(p0.length:Int))) <|
 Ae (EO N (AV p0 0 t18a.toNat) ((p0.getD t18a.toNat (([]:Bs),false,([]:Bs))).1)) fun r34 =>
 bif r34.2 then(some ((false,false,0,0,([]:List Bs),([]:List Bs),([]:List (Bs×Bs)),0,0,0,([]:List Yq1),false,([]:List Yq1),([]:List Yq1),([]:Bs),([]:Bs),([]:List Yq2),([]:List Yq2),([]:List (Bs×Bool×Bs))),10))
 else(Ae (AB N (p0.getD t18a.toNat (([]:Bs),false,([]:Bs)))) fun r40 =>
 bif r40 then(some ((false,false,0,0,([]:List Bs),([]:List Bs),([]:List (Bs×Bs)),0,0,0,([]:List Yq1),false,([]:List Yq1),([]:List Yq1),([]:Bs),([]:Bs),([]:List Yq2),([]:List Yq2),([]:List (Bs×Bool×Bs))),20))
 else(Ae (Bh N (b33792_0a,b33792_1a,b33792_2a,b33792_3a,b33792_4a,l1000032a,l1000016a,b33792_7a,b33792_8a,b33792_9a,b33792_10a,b33792_11a,b33792_12a,b33792_13a,b33792_14a,b33792_15a,b33792_16a,b33792_17a,l1000000a) (p0.getD t18a.toNat (([]:Bs),false,([]:Bs)))) fun r43 =>
 bif (r43.1 != (0:Int))then(some ((false,false,0,0,([]:List Bs),([]:List Bs),([]:List (Bs×Bs)),0,0,0,([]:List Yq1),false,([]:List Yq1),([]:List Yq1),([]:Bs),([]:Bs),([]:List Yq2),([]:List Yq2),([]:List (Bs×Bool×Bs))),r43.1))
 else(k1 (i64.wrap (t18a+(1:Int)),r43.2.1,r43.2.2.1,r43.2.2.2.1,r43.2.2.2.2.1,r43.2.2.2.2.2.1,r43.2.2.2.2.2.2.2.2.1,r43.2.2.2.2.2.2.2.2.2.1,r43.2.2.2.2.2.2.2.2.2.2.1,r43.2.2.2.2.2.2.2.2.2.2.2.1,r43.2.2.2.2.2.2.2.2.2.2.2.2.1,r43.2.2.2.2.2.2.2.2.2.2.2.2.2.1,r43.2.2.2.2.2.2.2.2.2.2.2.2.2.2.1,r43.2.2.2.2.2.2.2.2.2.2.2.2.2.2.2.1,r43.2.2.2.2.2.2.2.2.2.2.2.2.2.2.2.2.1,r43.2.2.2.2.2.2.2.2.2.2.2.2.2.2.2.2.2.1,r43.2.2.2.2.2.2.2.2.2.2.2.2.2.2.2.2.2.2.1,r43.2.2.2.2.2.2.2.2.2.2.2.2.2.2.2.2.2.2.2,r43.2.2.2.2.2.2.2.1,r43.2.2.2.2.2.2.1))))))
 else(x2 (b33792_0a,b33792_1a,b33792_2a,b33792_3a,b33792_4a,b33792_7a,b33792_8a,b33792_9a,b33792_10a,b33792_11a,b33792_12a,b33792_13a,b33792_14a,b33792_15a,b33792_16a,b33792_17a,l1000000a,l1000016a,l1000032a)))
 N (0,r15.1,r15.2.1,r15.2.2.1,r15.2.2.2.1,r15.2.2.2.2.1,r15.2.2.2.2.2.2.2.1,r15.2.2.2.2.2.2.2.2.1,r15.2.2.2.2.2.2.2.2.2.1,r15.2.2.2.2.2.2.2.2.2.2.1,r15.2.2.2.2.2.2.2.2.2.2.2.1,r15.2.2.2.2.2.2.2.2.2.2.2.2.1,r15.2.2.2.2.2.2.2.2.2.2.2.2.2.1,r15.2.2.2.2.2.2.2.2.2.2.2.2.2.2.1,r15.2.2.2.2.2.2.2.2.2.2.2.2.2.2.2.1,r15.2.2.2.2.2.2.2.2.2.2.2.2.2.2.2.2.1,r15.2.2.2.2.2.2.2.2.2.2.2.2.2.2.2.2.2.1,r15.2.2.2.2.2.2.2.2.2.2.2.2.2.2.2.2.2.2,r15.2.2.2.2.2.2.1,r15.2.2.2.2.2.1) (U19 fun b33792_0b b33792_1b b33792_2b b33792_3b b33792_4b b33792_7b b33792_8b b33792_9b b33792_10b b33792_11b b33792_12b b33792_13b b33792_14b b33792_15b b33792_16b b33792_17b l1004096b l1004112b l1004128b =>
 Ae (FU N (b33792_0b,b33792_1b,b33792_2b,b33792_3b,b33792_4b,l1004128b,l1004112b,b33792_7b,b33792_8b,b33792_9b,b33792_10b,b33792_11b,b33792_12b,b33792_13b,b33792_14b,b33792_15b,b33792_16b,b33792_17b,l1004096b)) fun r50 =>
 bif (r50 != (0:Int))then(some ((false,false,0,0,([]:List Bs),([]:List Bs),([]:List (Bs×Bs)),0,0,0,([]:List Yq1),false,([]:List Yq1),([]:List Yq1),([]:Bs),([]:Bs),([]:List Yq2),([]:List Yq2),([]:List (Bs×Bool×Bs))),r50))
 else(some ((b33792_0b,b33792_1b,b33792_2b,b33792_3b,b33792_4b,l1004128b,l1004112b,b33792_7b,b33792_8b,b33792_9b,b33792_10b,b33792_11b,b33792_12b,b33792_13b,b33792_14b,b33792_15b,b33792_16b,b33792_17b,l1004096b),0))))
abbrev Tt:Type:=Bool
def Ej (N:Nat) (p0:Int) (p1:Int) (p2:Int) (p3:List Int) (p4:Bool):Option Tt :=
 Ar (X:=Bs×Int×List Bs) (Y:=(Bs×List Bs)) (U3 fun t12a t13a l37888a k1 x2 =>
 chk (((decide (t13a<(p3.length:Int)))||(!(decide (t13a<(p3.length:Int)))))) <|
 chk (bif decide (t13a<(p3.length:Int))then decide (t13a<(p3.length:Int))else true) <|
 chk (bif decide (t13a<(p3.length:Int))then true else true) <|
 let x28:Bool:=bif decide (t13a<(p3.length:Int))then decide (t13a<(5:Int))else false
 bif x28 then(chk (decide ((0:Int)<=t13a)) <|
 chk (decide (t13a<(p3.length:Int))) <|
 chk (decide ((0:Int)<=(p3.getD t13a.toNat 0).tmod 12)) <|
 chk (decide ((p3.getD t13a.toNat 0).tmod 12<(12:Int))) <|
 chk (decide (((p3.getD t13a.toNat 0).tmod 12).toNat<12)) <|
 let x39:Bs:=(([([1,1,255]:Bs),([1,1,0]:Bs),([2,1,5]:Bs),([2,1,65]:Bs),([2,1,255]:Bs),([128,1,3]:Bs),([129,1,0]:Bs),([6,3,85,29,19]:Bs),([48,4,6,2,42,3]:Bs),([48,8,6,2,42,3,6,2,42,4]:Bs),([128,0]:Bs),([4,1,120]:Bs)]:List Bs).getD (((p3.getD t13a.toNat 0).tmod 12).toNat) ([]:Bs))
 chk (decide (t12a.length+x39.length<=140737488355328)) <|
 k1 (t12a++x39,i64.wrap (t13a+(1:Int)),l37888a))
 else(x2 (t12a,l37888a)))
 N (([]:Bs),0,([([50,46,53,46,50,57,46,49,57]:Bs),([50,46,53,46,50,57,46,49,53]:Bs),([50,46,53,46,50,57,46,51,55]:Bs),([50,46,53,46,50,57,46,51,50]:Bs),([50,46,53,46,50,57,46,51,51]:Bs),([50,46,53,46,50,57,46,51,54]:Bs),([50,46,53,46,50,57,46,53,52]:Bs),([50,46,53,46,50,57,46,49,52]:Bs),([50,46,53,46,50,57,46,51,53]:Bs)]:List Bs)) (U2 fun t12b l37888b =>
 chk (List.all ([48,IntKind.u8.wrap (t12b.length:Int)]:List Int) isByte) <|
 chk (decide ((List.map byteOf ([48,IntKind.u8.wrap (t12b.length:Int)]:List Int)).length+t12b.length<=140737488355328)) <|
 let x47:Bs:=(List.map byteOf ([48,IntKind.u8.wrap (t12b.length:Int)]:List Int))++t12b
 KD (α :=Bs×List Bs) (fun j3 =>
 bif ((p1.tmod 5)==(1:Int))then(chk (List.all ([IntKind.u8.wrap (p2.fdiv (256)),IntKind.u8.wrap p2]:List Int) isByte) <|
 let x58:Bs:=List.map byteOf ([IntKind.u8.wrap (p2.fdiv (256)),IntKind.u8.wrap p2]:List Int)
 chk (decide (2+x58.length<=140737488355328)) <|
 j3 (([2,2]:Bs)++x58,l37888b))
 else(bif ((p1.tmod 5)==(2:Int))then(chk (List.all ([(IntKind.u8.wrap (p2.fdiv (256))).tmod 9,IntKind.u8.wrap p2]:List Int) isByte) <|
 let x69:Bs:=List.map byteOf ([(IntKind.u8.wrap (p2.fdiv (256))).tmod 9,IntKind.u8.wrap p2]:List Int)
 chk (decide (2+x69.length<=140737488355328)) <|
 j3 (([3,2]:Bs)++x69,l37888b))
 else(bif ((p1.tmod 5)==(3:Int))then(j3 (t12b,l37888b))
 else(j3 (x47,l37888b)))))
 (U2 fun t14c l37888c =>
 chk (decide ((0:Int)<=p0.tmod 9)) <|
 chk (decide (p0.tmod 9<(l37888c.length:Int))) <|
 chk (decide ((p0.tmod 9).toNat<l37888c.length)) <|
 Ae (EX N ([((l37888c.getD ((p0.tmod 9).toNat) ([]:Bs)),p4,t14c)]:List (Bs×Bool×Bs))) fun r85 =>
 Ae (Di N ([((l37888c.getD ((p0.tmod 9).toNat) ([]:Bs)),p4,t14c)]:List (Bs×Bool×Bs))) fun r90 =>
 Ae (MS N) fun r93 =>
 chk ((r93||(!r93))) <|
 chk ((r93||(!r93))) <|
 chk (bif r93 then r93 else true) <|
 chk (bif r93 then true else true) <|
 chk (((bif r93 then(r85.2==r90.2)else false)||(!(bif r93 then(r85.2==r90.2)else false)))) <|
 chk (((bif r93 then(r85.2==r90.2)else false)||(!(bif r93 then(r85.2==r90.2)else false)))) <|
 chk ((((Js N r85.1 r90.1).isSome)||(!(bif r93 then(r85.2==r90.2)else false)))) <|
 let r102:=(Js N r85.1 r90.1).getD default
 chk (bif bif r93 then(r85.2==r90.2)else false then bif r93 then(r85.2==r90.2)else false else true) <|
 chk (bif bif r93 then(r85.2==r90.2)else false then true else true) <|
 some (bif bif r93 then(r85.2==r90.2)else false then r102 else false)))
